/- A part of the proof of ShareEscrow. -/
import Derived.Test.YtbiobpmabomjfaaDoorShareEscrowC6
import Derived.Test.YtbiobpmabomjfaaDoorRows
import Derived.Test.YtbiobpmabomjfaaDoorCards
import Derived.Test.YtbiobpmabomjfaaDoorTie
import Derived.SevenTiedAt
set_option linter.unusedVariables false
set_option linter.unusedSimpArgs false
set_option maxRecDepth 100000
namespace Go.CL
open Go
theorem Z35 {α:Type} {l:List α} {i k:Nat} (hi:i ≤ l.length) (hk:k < l.length):(l.drop i ++ l.take i)[k]?=l[(i + k) % l.length]?:=by
 by_cases h:i + k < l.length
 ·rw [List.getElem?_append_left (by simp;omega),List.getElem?_drop,Nat.mod_eq_of_lt h]
 ·rw [List.getElem?_append_right (by simp;omega),List.getElem?_take]
  have:(i + k) % l.length=i + k - l.length:=by rw [Nat.mod_eq_sub_mod (by omega),Nat.mod_eq_of_lt (by omega)]
  rw [this,List.length_drop,if_pos (by omega)]
  congr 1
  omega
abbrev Zdz (l:List Zu):List Zi:=l.map fun d=>d.Act
theorem Zsk {l:List Zu} (hl:l.length ≤ 1000) {i:Nat} (hi:i ≤ l.length):∀ (n k:Nat) {x:Za},k + n=l.length → RecW x → Zbx x → (∀ d ∈ l,ActD x.Kind d.Act) → Room x (Zdz ((l.drop i ++ l.take i).drop k)) →
  Zdo l (i:Int) (n + 1) x default (k:Int)=some (.inr (effs x (Zdz ((l.drop i ++ l.take i).drop k)),default))
 | 0,k,x,h,_,_,_,_=>by
  rw [Zdo,if_neg (by simp;omega),List.drop_of_length_le (by simp;omega)]
  rfl
 | n + 1,k,x,h,hw,hg,hd,hr=>by
  have h1:k < l.length:=by omega
  have hrl:k < (l.drop i ++ l.take i).length:=by simp;omega
  have hm:(i + k) % l.length < l.length:=Nat.mod_lt _ (by omega)
  have hg1:=Z35 hi h1
  rw [List.getElem?_eq_getElem hrl,List.getElem?_eq_getElem hm] at hg1
  have hg1:=Option.some.inj hg1
  have hix:idx l (Int.tmod (IntKind.i64.wrap ((i:Int) + (k:Int))) (l.length:Int))=some (l.drop i ++ l.take i)[k]:=by
   rw [wr (by omega) (by omega),show ((i:Int) + (k:Int))=((i + k:Nat):Int) by omega,show Int.tmod ((i + k:Nat):Int) (l.length:Int)=(((i + k) % l.length:Nat):Int) from rfl,Zdj hm,← hg1]
  have hmem:(l.drop i ++ l.take i)[k] ∈ l:=by rw [hg1];exact List.getElem_mem hm
  rw [List.drop_eq_getElem_cons hrl] at hr ⊢
  obtain ⟨s1,s2,s3,_,s4,s5⟩:=Zpc hw hg (hd _ hmem) (fun b hb=>by
   obtain ⟨d,hd2,rfl⟩:=List.mem_map.1 hb
   have:d ∈ l.drop i ++ l.take i:=List.mem_of_mem_drop hd2
   rcases List.mem_append.1 this with h | h
   ·exact hd d (List.mem_of_mem_drop h)
   ·exact hd d (List.mem_of_mem_take h)) hr
  rw [Zdo,if_pos (by simp;omega),if_pos (by omega),hix]
  simp only [Option.bind_some]
  rw [s4]
  simp only [Option.bind_some,Bool.not_true,bne_self_eq_false,Bool.or_self,Bool.false_eq_true,if_false]
  rw [wr1 (by omega),Zsk hl hi n (k + 1) (by omega) s2 s3 (fun d h=>by rw [s5];exact hd d h) s1]
  rfl
theorem Zrd {r:Za} {l:List Zu} (hl:l.length ≤ 1000) {i:Nat} (hi:i ≤ l.length) (hw:RecW r) (hg:Zbx r) (hd:∀ d ∈ l,ActD r.Kind d.Act) (hr:Room r (Zdz l)):Zey r l (i:Int)=some (effs r (Zdz l),true):=by
 have hsp:Zdz l=Zdz (l.take i) ++ Zdz (l.drop i):=by
  show List.map _ _=List.map _ _ ++ List.map _ _
  rw [← List.map_append,List.take_append_drop]
 have hm:∀ b ∈ Zdz (l.take i),ActD r.Kind b:=fun b hb=>by
  obtain ⟨d,h,rfl⟩:=List.mem_map.1 hb
  exact hd d (List.mem_of_mem_take h)
 have hm2:∀ b ∈ Zdz (l.drop i),ActD r.Kind b:=fun b hb=>by
  obtain ⟨d,h,rfl⟩:=List.mem_map.1 hb
  exact hd d (List.mem_of_mem_drop h)
 have hrr:Room r (Zdz (l.drop i ++ l.take i)):=by
  rw [hsp] at hr
  have:=Z0r hr
  show Room r (List.map _ _)
  rw [List.map_append];exact this
 have:=Zsk hl hi l.length 0 (by omega) hw hg hd (by rw [List.drop_zero];exact hrr)
 rw [show ((0:Nat):Int)=0 from rfl,List.drop_zero] at this
 unfold Zey
 rw [show (Int.toNat ((l.length:Int) - (0:Int)) + 1)=l.length + 1 by omega,this]
 simp only [Option.bind_some]
 rw [hsp,Zte _ _ r hm hm2]
 show some (effs r (List.map _ (_ ++ _)),true)=_
 rw [List.map_append]
theorem Z5p {r:Za} (hw:RecW r) (hg:Zbx r):∃ b,Zk0 r=some (⟨upR r,dnR r⟩,b) ∧ 0 ≤ upR r ∧ upR r < 18446744073709551616 ∧ 0 ≤ dnR r ∧ dnR r < 18446744073709551616:=by
 have hn:=hw.num
 unfold I64 at hn
 unfold Zk0 upR dnR
 by_cases h3:r.Kind=3
 ·rw [if_pos (by simp [h3]),if_pos h3,if_pos h3]
  refine ⟨true,?_,by omega,by omega,by omega,by omega⟩
  simp only [Zp6]
  congr 3 <;> omega
 ·rw [if_neg (by simpa using h3),if_neg h3,if_neg h3]
  by_cases h4:r.Kind=4
  ·obtain ⟨p1,p2,p3,p4⟩:=Zm0 hg h4
   rw [if_pos (by simp [h4]),if_pos h4,if_pos h4]
   refine ⟨true,?_,by omega,by omega,by omega,by omega⟩
   rw [wr (by omega) (by omega),wr (by omega) (by omega),wru (by omega) (by omega),wru (by omega) (by omega)]
  ·rw [if_neg (by simpa using h4),if_neg h4,if_neg h4]
   by_cases h8:r.Kind=8
   ·obtain ⟨c1,c2,c3⟩:=Zko hg (by omega)
    rw [if_pos (by simp [h8]),if_pos h8]
    refine ⟨true,?_,by omega,by omega,by omega,by omega⟩
    rw [wr (by omega) (by omega),wru (by omega) (by omega)]
   ·rw [if_neg (by simpa using h8),if_neg h8]
    exact ⟨false,rfl,by omega,by omega,by omega,by omega⟩
def tu:List Zw → Int
 | []=>0
 | x :: l=>x.up + tu l
def td:List Zw → Int
 | []=>0
 | x :: l=>x.down + td l
theorem Zzp:∀ A B,tu (A ++ B)=tu A + tu B
 | [],B=>by simp [tu]
 | a :: A,B=>by simp only [List.cons_append,tu,Zzp A B];omega
theorem Z0a:∀ A B,td (A ++ B)=td A + td B
 | [],B=>by simp [td]
 | a :: A,B=>by simp only [List.cons_append,td,Z0a A B];omega
theorem Zz9 {v:Zw}:∀ {l:List Zw} {m:Nat} (h:m < l.length),tu (l.set m v)=tu l - l[m].up + v.up
 | x :: l,0,_=>by simp only [List.set_cons_zero,tu,List.getElem_cons_zero];omega
 | x :: l,m + 1,h=>by
  have:=Zz9 (v:=v) (l:=l) (m:=m) (by simpa using h)
  simp only [List.set_cons_succ,tu,List.getElem_cons_succ,this];omega
theorem Zzz {v:Zw}:∀ {l:List Zw} {m:Nat} (h:m < l.length),td (l.set m v)=td l - l[m].down + v.down
 | x :: l,0,_=>by simp only [List.set_cons_zero,td,List.getElem_cons_zero];omega
 | x :: l,m + 1,h=>by
  have:=Zzz (v:=v) (l:=l) (m:=m) (by simpa using h)
  simp only [List.set_cons_succ,td,List.getElem_cons_succ,this];omega
theorem Z2u {u n:Int} {k:Nat} (hn:1 ≤ n ∧ n ≤ 8) (hu:0 ≤ u ∧ u < 18446744073709551616) (hk:(k:Int) < n):pv u n k=u / n + (if (k:Int) < u % n then 1 else 0):=by
 have hd:0 ≤ u / n:=Int.ediv_nonneg hu.1 (by omega)
 have hd2:u / n ≤ u:=Int.ediv_le_self n hu.1
 have hm:u % n < n:=Int.emod_lt_of_pos _ (by omega)
 have hm0:0 ≤ u % n:=Int.emod_nonneg _ (by omega)
 have hmul:=Int.mul_ediv_add_emod u n
 unfold pv
 rw [wru (x:=n) (by omega) (by omega),wru (x:=(k:Int)) (by omega) (by omega),Int.tmod_eq_emod_of_nonneg hu.1,Int.tdiv_eq_ediv_of_nonneg hu.1]
 by_cases h:(k:Int) < u % n
 ·rw [if_pos (by simpa using h),if_pos h,wru (x:=u / n) hd (by omega)]
  have hlt:u / n < 18446744073709551615:=by
   refine Classical.byContradiction fun hge=>?_
   have:u / n=18446744073709551615:=by omega
   have h1:u=18446744073709551615:=by omega
   rw [this,h1] at hmul
   rw [h1] at h hm0
   have:n * 18446744073709551615 + 18446744073709551615 % n=18446744073709551615:=hmul
   have hn1:n=1:=by omega
   subst hn1
   omega
  rw [wru (by omega) (by omega)]
 ·rw [if_neg (by simpa using h),if_neg h,wru hd (by omega),Int.add_zero]
theorem Z2x {u d n:Int} (hn:1 ≤ n ∧ n ≤ 8) (hu:0 ≤ u ∧ u < 18446744073709551616) (hd:0 ≤ d ∧ d < 18446744073709551616):∀ (j:Nat),(j:Int) ≤ n →
  tu ((List.range j).map fun k:Nat=>(⟨pv u n k,pv d n k⟩:Zw))=(j:Int) * (u / n) + min (j:Int) (u % n) ∧ td ((List.range j).map fun k:Nat=>(⟨pv u n k,pv d n k⟩:Zw))=(j:Int) * (d / n) + min (j:Int) (d % n)
 | 0,_=>by
  have h1:0 ≤ u % n:=Int.emod_nonneg _ (by omega)
  have h2:0 ≤ d % n:=Int.emod_nonneg _ (by omega)
  constructor
  ·show (0:Int)=_
   rw [show (((0:Nat):Int))=0 from rfl,Int.zero_mul];omega
  ·show (0:Int)=_
   rw [show (((0:Nat):Int))=0 from rfl,Int.zero_mul];omega
 | j + 1,hj=>by
  obtain ⟨i1,i2⟩:=Z2x hn hu hd j (by omega)
  rw [List.range_succ,List.map_append,Zzp,Z0a,i1,i2]
  simp only [List.map_cons,List.map_nil,tu,td]
  rw [Z2u hn hu (by omega),Z2u hn hd (by omega),show ((j + 1:Nat):Int)=(j:Int) + 1 by omega,Int.add_mul,Int.add_mul,Int.one_mul,Int.one_mul]
  constructor
  ·split <;> omega
  ·split <;> omega
def Zzs (l:List Zw):Prop:=∀ x ∈ l,0 ≤ x.up ∧ x.up < 18446744073709551616 ∧ 0 ≤ x.down ∧ x.down < 18446744073709551616
structure Zm6 (e:Zx) (r:Za) (n:Int) (B:List Zi):Prop where
 hr:e.r=r
 len:(e.by_.length:Int)=n
 ok:Zzs e.by_
 up:tu e.by_ + su r.List B=upR r
 down:td e.by_ + sd B=dnR r
theorem Z3b {u n:Int} {k:Nat} (hn:1 ≤ n ∧ n ≤ 8) (hu:0 ≤ u ∧ u < 18446744073709551616) (hk:(k:Int) < n):0 ≤ pv u n k ∧ pv u n k < 18446744073709551616:=by
 unfold pv
 split <;> rw [Zp6] <;> omega
theorem Z5v {r:Za} {n:Int} (hw:RecW r) (hg:Zbx r):(∃ c,c ≠ 0 ∧ Zju r n=some (none,c) ∧ (n < 1 ∨ 8 < n ∨ r.Kind=1 ∨ r.Kind=7)) ∨ (∃ e,Zju r n=some (some e,0) ∧ Zm6 e r n [] ∧ 1 ≤ n ∧ n ≤ 8 ∧ r.Kind ≠ 1 ∧ r.Kind ≠ 7):=by
 unfold Zju
 by_cases hn:n < 1 ∨ 8 < n
 ·rw [if_pos (by simpa using hn)]
  exact .inl ⟨1,by decide,rfl,by omega⟩
 ·rw [if_neg (by simpa using hn),(Zgb hw.ok).2 hg]
  have hn:1 ≤ n ∧ n ≤ 8:=by omega
  simp only [Option.bind_some,bne_self_eq_false,Bool.false_eq_true,if_false]
  have hk:r.Kind=1 ∨ r.Kind=2 ∨ r.Kind=3 ∨ r.Kind=4 ∨ r.Kind=5 ∨ r.Kind=6 ∨ r.Kind=7 ∨ r.Kind=8 ∨ r.Kind=9:=by have:=hg.1;have:=hg.2.1;omega
  have hs:∃ s ok,Zfa r=some (s,ok) ∧ (ok=false → r.Kind=1 ∨ r.Kind=7) ∧ (ok=true → r.Kind ≠ 1 ∧ r.Kind ≠ 7):=by
   obtain ⟨nb,n1,_,_⟩:=Z6k
   unfold Zfa Zf7
   rw [(Zgb hw.ok).2 hg]
   rcases hk with h | h | h | h | h | h | h | h | h
   ·rw [h];exact ⟨_,false,rfl,fun _=>.inl rfl,fun h=>by cases h⟩
   ·rw [h];exact ⟨_,true,rfl,fun h=>(by cases h),fun _=>⟨by decide,by decide⟩⟩
   ·rw [h];exact ⟨_,true,rfl,fun h=>(by cases h),fun _=>⟨by decide,by decide⟩⟩
   ·rw [h];exact ⟨_,true,rfl,fun h=>(by cases h),fun _=>⟨by decide,by decide⟩⟩
   ·rw [h,Zzk];exact ⟨_,true,rfl,fun h=>(by cases h),fun _=>⟨by decide,by decide⟩⟩
   ·rw [h,n1];exact ⟨_,true,rfl,fun h=>(by cases h),fun _=>⟨by decide,by decide⟩⟩
   ·rw [h];exact ⟨_,false,rfl,fun _=>.inr rfl,fun h=>by cases h⟩
   ·rw [h];exact ⟨_,true,rfl,fun h=>(by cases h),fun _=>⟨by decide,by decide⟩⟩
   ·rw [h];exact ⟨_,true,rfl,fun h=>(by cases h),fun _=>⟨by decide,by decide⟩⟩
  obtain ⟨s,ok,e1,e2,e3⟩:=hs
  rw [e1]
  simp only [Option.bind_some]
  cases ok with
  | false=>exact .inl ⟨5,by decide,rfl,by have:=e2 rfl;omega⟩
  | true =>
   obtain ⟨b,q1,q2,q3,q4,q5⟩:=Z5p hw hg
   rw [Zgk hw.len,q1]
   simp only [Option.bind_some,Bool.not_true,Bool.false_eq_true,if_false]
   have:=Ztc (r:=r) (q:=(⟨upR r,dnR r⟩,b)) hn n.toNat 0 [] (by omega) rfl
   rw [show ((0:Nat):Int)=0 from rfl] at this
   rw [show Int.toNat (n - (0:Int))=n.toNat by omega,this]
   obtain ⟨t1,t2⟩:=Z2x hn ⟨q2,q3⟩ ⟨q4,q5⟩ n.toNat (by omega)
   refine .inr ⟨_,rfl,⟨rfl,by simp;omega,fun x hx=>?_,?_,?_⟩,hn.1,hn.2,(e3 rfl).1,(e3 rfl).2⟩
   ·obtain ⟨k,hk,rfl⟩:=List.mem_map.1 hx
    have hk:=List.mem_range.1 hk
    obtain ⟨p1,p2⟩:=Z3b (k:=k) hn ⟨q2,q3⟩ (by omega)
    obtain ⟨p3,p4⟩:=Z3b (k:=k) hn ⟨q4,q5⟩ (by omega)
    exact ⟨p1,p2,p3,p4⟩
   ·show tu _ + 0=_
    rw [t1,Int.add_zero,show ((n.toNat:Nat):Int)=n by omega]
    have h1:=Int.mul_ediv_add_emod (upR r) n
    have h2:upR r % n < n:=Int.emod_lt_of_pos _ (by omega)
    omega
   ·show td _ + 0=_
    rw [t2,Int.add_zero,show ((n.toNat:Nat):Int)=n by omega]
    have h1:=Int.mul_ediv_add_emod (dnR r) n
    have h2:dnR r % n < n:=Int.emod_lt_of_pos _ (by omega)
    omega
theorem Z17 {k:Int} {a:Zi} (h:Ze6 k a.Kind=some true):(a.Kind=7 ∨ a.Kind=8 ∨ a.Kind=10 ∨ a.Kind=11 ∨ a.Kind=13 ∨ a.Kind=14 ∨ a.Kind=18 ∨ a.Kind=21) ∧ Zek a.Kind=some k:=by
 by_cases hk:a.Kind=7 ∨ a.Kind=8 ∨ a.Kind=10 ∨ a.Kind=11 ∨ a.Kind=13 ∨ a.Kind=14 ∨ a.Kind=18 ∨ a.Kind=21
 ·refine ⟨hk,?_⟩
  obtain ⟨on,o1,_⟩:=Zlb (k:=a.Kind) (by omega) (by omega)
  unfold Ze6 Zcu at h
  rw [o1] at h ⊢
  have:some (on == k)=some true:=by
   revert h
   rcases hk with e | e | e | e | e | e | e | e <;> rw [e] <;> exact fun h=>h
  have:=Option.some.inj this
  rw [beq_iff_eq] at this
  rw [this]
 ·exfalso
  simp only [not_or] at hk
  obtain ⟨h1,h2,h3,h4,h5,h6,h7,h8⟩:=hk
  unfold Ze6 Zcu at h
  simp [h1,h2,h3,h4,h5,h6,h7,h8] at h
theorem Z0n {e:Zx} {a:Zi} (hl:e.r.List.length ≤ 1000) (x:Zw):∀ (n i:Nat),i + n=e.r.List.length → (Zc6 e a (n + 1) x (i:Int)=some (.inl ⟨0,0⟩) ∧ hasN (e.r.List.drop i) a.S=true) ∨ (Zc6 e a (n + 1) x (i:Int)=some (.inr x) ∧ hasN (e.r.List.drop i) a.S=false)
 | 0,i,h=>by
  right
  rw [Zc6,if_neg (by simp;omega),List.drop_of_length_le (by omega)]
  exact ⟨rfl,rfl⟩
 | n + 1,i,h=>by
  have h1:i < e.r.List.length:=by omega
  rw [Zc6,if_pos (by simp;omega),Zdj h1,wr1 (by omega),List.drop_eq_getElem_cons h1]
  simp only [Option.bind_some,hasN,List.any_cons]
  by_cases hq:sEq (e.r.List[i]).Name a.S=true
  ·rw [if_pos hq,hq];exact .inl ⟨rfl,rfl⟩
  ·rw [if_neg hq,Bool.eq_false_iff.2 hq,Bool.false_or]
   exact Z0n hl x n (i + 1) (by omega)
theorem Z6n {e:Zx} {a:Zi} (hl:e.r.List.length ≤ 1000) (ha:ActD e.r.Kind a):Zfs e a=some ⟨uC e.r.List a,dC a⟩ ∧ uC e.r.List a < 18446744073709551616 ∧ dC a < 18446744073709551616:=by
 have haw:=ha.w
 have hn:=haw.n
 unfold I64 at hn
 unfold Zfs uC dC
 rcases ha.kind with h | h | h | h | h | h | h | h
 ·rw [h];exact ⟨rfl,by show (0:Int) < _;decide,by show (0:Int) < _;decide⟩
 ·rw [h]
  simp only [beq_self_eq_true,if_true,true_or]
  refine ⟨?_,by omega,by omega⟩
  by_cases h0:a.N < 0
  ·rw [if_pos (by simpa using h0)]
   simp only [Zp6]
   congr 2 <;> omega
  ·rw [if_neg (by simpa using h0)]
   simp only [Zp6]
   congr 2 <;> omega
 ·have hi:=haw.inout (.inl h)
  rw [h]
  refine ⟨?_,?_,?_⟩
  ·show some (⟨IntKind.u64.wrap a.N,0⟩:Zw)=some ⟨max a.N 0,0⟩
   rw [wru (by omega) (by omega)]
   congr 2
   omega
  ·show max a.N 0 < _
   omega
  ·show (0:Int) < _
   decide
 ·have hi:=haw.inout (.inr h)
  rw [h]
  refine ⟨?_,?_,?_⟩
  ·show some (⟨0,IntKind.u64.wrap a.N⟩:Zw)=some ⟨0,max a.N 0⟩
   rw [wru (by omega) (by omega)]
   congr 2
   omega
  ·show (0:Int) < _
   decide
  ·show max a.N 0 < _
   omega
 ·rw [h];exact ⟨rfl,by show (0:Int) < _;decide,by show (0:Int) < _;decide⟩
 ·rw [h];exact ⟨rfl,by show (0:Int) < _;decide,by show (0:Int) < _;decide⟩
 ·have:=Z0n (e:=e) (a:=a) hl default e.r.List.length 0 (by omega)
  rw [show ((0:Nat):Int)=0 from rfl,List.drop_zero] at this
  rw [h,show (Int.toNat ((e.r.List.length:Int) - (0:Int)) + 1)=e.r.List.length + 1 by omega]
  rcases this with ⟨g1,g2⟩ | ⟨g1,g2⟩
  ·rw [g1]
   refine ⟨?_,?_,by show (0:Int) < _;decide⟩
   ·show some (⟨0,0⟩:Zw)=some ⟨if hasN e.r.List a.S=true then 0 else 1,0⟩
    rw [if_pos g2]
   ·show (if hasN e.r.List a.S=true then (0:Int) else 1) < _
    rw [if_pos g2];decide
  ·rw [g1]
   refine ⟨?_,?_,by show (0:Int) < _;decide⟩
   ·show some (⟨1,0⟩:Zw)=some ⟨if hasN e.r.List a.S=true then 0 else 1,0⟩
    rw [if_neg (by rw [g2];simp)]
   ·show (if hasN e.r.List a.S=true then (0:Int) else 1) < _
    rw [if_neg (by rw [g2];simp)];decide
 ·rw [h];exact ⟨rfl,by show (0:Int) < _;decide,by show (0:Int) < _;decide⟩
theorem Z2c {e:Zx} {r:Za} {n:Int} {B:List Zi} (he:Zm6 e r n B) (hw:RecW r) (hn:n ≤ 8) {a:Zi} (ha:ActIn a) (w:Int) :
  ∃ e' c,Zfr e w [a]=some (e',c) ∧ (c ≠ 0 → Zm6 e' r n B) ∧ (c=0 → Zm6 e' r n (B ++ [a]) ∧ ActD r.Kind a ∧ 0 ≤ w ∧ w < n):=by
 have hlen:=he.len
 have her:=he.hr
 unfold Zfr Zhk
 by_cases hk:w < 0 ∨ (e.by_.length:Int) ≤ w
 ·rw [if_pos (by simpa using hk)]
  exact ⟨e,1,rfl,fun _=>he,fun h=>by cases h⟩
 ·rw [if_neg (by simpa using hk)]
  obtain ⟨m,rfl⟩:=Int.eq_ofNat_of_zero_le (show 0 ≤ w by omega)
  have hm:m < e.by_.length:=by omega
  obtain ⟨o1,o2,o3,o4⟩:=he.ok _ (List.getElem_mem hm)
  rw [Zdj hm]
  simp only [Option.bind_some]
  have i0:idx [a] (0:Int)=some a:=rfl
  show ∃ e' c,Option.bind (Option.bind (Zdk [a] 2 e e.by_[m] (0:Int)) _) _=some (e',c) ∧ _
  rw [Zdk,if_pos (show decide (((0:Int)) < (([a]:List Zi).length:Int))=true from rfl),i0]
  simp only [Option.bind_some]
  obtain ⟨c,e1,_,_⟩:=Zmv ha.ok
  rw [e1]
  simp only [Option.bind_some]
  by_cases hc:(c != (0:Int))=true
  ·rw [if_pos hc]
   exact ⟨e,c,rfl,fun _=>he,fun h=>absurd h (by simpa using hc)⟩
  ·rw [if_neg hc]
   obtain ⟨b,s1,_⟩:=Zwu e.r.Kind a.Kind
   rw [s1]
   simp only [Option.bind_some]
   cases b with
   | false=>exact ⟨e,5,rfl,fun _=>he,fun h=>by cases h⟩
   | true =>
    obtain ⟨p1,p2⟩:=Z17 s1
    have hc0:c=0:=by simpa using hc
    subst hc0
    have hd:ActD e.r.Kind a:=⟨ha,e1,p1,p2⟩
    obtain ⟨q1,q2,q3⟩:=Z6n (by rw [her];exact hw.len) hd
    have n1:=Zp7 e.r.List a
    have n2:=Zou a
    rw [q1]
    simp only [Option.bind_some,Bool.not_true,Bool.false_eq_true,if_false]
    by_cases hu:(e.by_[m]).up < uC e.r.List a
    ·rw [decide_eq_true hu]
     simp only [Bool.true_and,if_true]
     by_cases h18:(a.Kind == (18:Int))=true
     ·rw [if_pos h18];exact ⟨e,8,rfl,fun _=>he,fun h=>by cases h⟩
     ·rw [if_neg h18];exact ⟨e,9,rfl,fun _=>he,fun h=>by cases h⟩
    ·rw [decide_eq_false hu]
     simp only [Bool.false_and,Bool.false_eq_true,if_false]
     by_cases hdn:(e.by_[m]).down < dC a
     ·rw [decide_eq_true hdn]
      exact ⟨e,10,rfl,fun _=>he,fun h=>by cases h⟩
     ·rw [decide_eq_false hdn]
      simp only [Bool.false_eq_true,if_false]
      have w1:IntKind.i64.wrap ((0:Int) + 1)=1:=by decide
      rw [w1,Zdk,if_neg (by simp)]
      simp only [Option.bind_some]
      rw [Zdj hm]
      simp only [Option.bind_some,Int.toNat_natCast]
      rw [wru (by omega) (by omega),wru (by omega) (by omega)]
      refine ⟨_,0,rfl,fun h=>absurd rfl h,fun _=>⟨⟨her,by simp [hlen],fun x hx=>?_,?_,?_⟩,by rw [← her];exact hd,by omega,by omega⟩⟩
      ·rcases List.mem_or_eq_of_mem_set hx with hx | rfl
       ·exact he.ok x hx
       ·exact ⟨by show 0 ≤ _ - _;omega,by show _ - _ < _;omega,by show 0 ≤ _ - _;omega,by show _ - _ < _;omega⟩
      ·have:=he.up
       rw [Zz9 hm,Zi4,← this,← her]
       simp only [su]
       omega
      ·have:=he.down
       rw [Zzz hm,Zsj,← this]
       simp only [sd]
       omega
theorem Zoc {r:Za} {n:Int} (hw:RecW r) (hn:n ≤ 8) {l:List Zu} (hl:l.length ≤ 1000) (ha:∀ d ∈ l,ActIn d.Act):∀ (m i:Nat) {e:Zx} {X:List Zu},i + m=l.length → Zm6 e r n (Zdz X) → X.length ≤ i → (∀ d ∈ X,ActD r.Kind d.Act ∧ 0 ≤ d.Worker ∧ d.Worker < n) →
  ∃ Y,Zcw l (m + 1) (some e) X (i:Int)=some Y ∧ Y.length ≤ l.length ∧ (∀ d ∈ Y,ActD r.Kind d.Act ∧ 0 ≤ d.Worker ∧ d.Worker < n) ∧ ∃ e',Zm6 e' r n (Zdz Y)
 | 0,i,e,X,h,he,hX,hd=>by
  rw [Zcw,if_neg (by simp;omega)]
  exact ⟨X,rfl,by omega,hd,e,he⟩
 | m + 1,i,e,X,h,he,hX,hd=>by
  have h1:i < l.length:=by omega
  obtain ⟨e',c,e1,e2,e3⟩:=Z2c he hw hn (ha _ (List.getElem_mem h1)) (l[i]).Worker
  rw [Zcw,if_pos (by simp;omega),Zdj h1]
  simp only [Option.bind_some]
  rw [e1]
  simp only [Option.bind_some,Zfj,wr1 (show i < 9223372036854775807 by omega)]
  by_cases hc:(c == (0:Int))=true
  ·rw [if_pos hc,if_pos (by simp;omega)]
   obtain ⟨g1,g2,g3,g4⟩:=e3 (by simpa using hc)
   refine Zoc hw hn hl ha m (i + 1) (by omega) ?_ (by simp;omega) fun d hd2=>?_
   ·show Zm6 e' r n (List.map _ _)
    rw [List.map_append];exact g1
   ·rcases List.mem_append.1 hd2 with h | h
    ·exact hd d h
    ·rw [List.mem_singleton.1 h];exact ⟨g2,g3,g4⟩
  ·rw [if_neg hc]
   exact Zoc hw hn hl ha m (i + 1) (by omega) (e2 (by simpa using hc)) (by omega) hd
theorem Z1o {e:Zx} {r:Za} {n:Int} {B:List Zi} (he:Zm6 e r n B):Room r B:=by
 have h1:∀ l:List Zw,Zzs l → 0 ≤ tu l ∧ 0 ≤ td l:=fun l=>by
  induction l with
  | nil=>intro _;exact ⟨Int.le_refl _,Int.le_refl _⟩
  | cons x l ih =>
   intro h
   obtain ⟨i1,i2⟩:=ih fun y hy=>h y (List.mem_cons_of_mem _ hy)
   obtain ⟨a1,_,a3,_⟩:=h x (List.mem_cons_self ..)
   simp only [tu,td]
   omega
 obtain ⟨t1,t2⟩:=h1 _ he.ok
 have:=he.up
 have:=he.down
 unfold Room
 omega
theorem Z2j {r:Za} {n:Int} (hw:RecW r) (hg:Zbx r) {l:List Zu} (hl:l.length ≤ 1000) (ha:∀ d ∈ l,ActIn d.Act):(Zfp r n l=some ([],false) ∧ (n < 1 ∨ 8 < n ∨ r.Kind=1 ∨ r.Kind=7)) ∨ (∃ Y,Zfp r n l=some (Y,true) ∧ 1 ≤ n ∧ n ≤ 8 ∧ r.Kind ≠ 1 ∧ r.Kind ≠ 7 ∧ Y.length ≤ l.length ∧ (∀ d ∈ Y,ActD r.Kind d.Act ∧ 0 ≤ d.Worker ∧ d.Worker < n) ∧ Room r (Zdz Y)):=by
 unfold Zfp
 rcases Z5v (n:=n) hw hg with ⟨c,hc,e,h⟩ | ⟨e,e1,e2,h1,h2,h3,h4⟩
 ·rw [e]
  simp only [Option.bind_some]
  rw [if_pos (by simp)]
  exact .inl ⟨rfl,h⟩
 ·rw [e1]
  simp only [Option.bind_some]
  rw [if_neg (by simp),show (Int.toNat ((l.length:Int) - (0:Int)) + 1)=l.length + 1 by omega]
  obtain ⟨Y,g1,g2,g3,e',g4⟩:=Zoc hw h2 hl ha l.length 0 (X:=[]) (by omega) e2 (by simp) (fun d hd=>by cases hd)
  rw [show ((0:Nat):Int)=0 from rfl] at g1
  rw [g1]
  exact .inr ⟨Y,rfl,h1,h2,h3,h4,g2,g3,Z1o g4⟩
section
variable {lt same:Zd → Zd → Bool}
theorem Zr4 (h:Ord lt same) (x:Zd):lt x x=false:=by
 cases hq:lt x x
 ·rfl
 ·have:=h.asym hq;rw [hq] at this;cases this
theorem Zty (h:Ord lt same) (x:Zd):same x x=true:=h.tri (Zr4 h x) (Zr4 h x)
theorem Zrk (h:Ord lt same) (x:Zd):∀ l:Zbj,ins lt same x (ins lt same x l)=ins lt same x l
 | []=>by simp [ins,Zr4 h,Zty h]
 | e :: r=>by
  simp only [ins]
  by_cases h1:lt e x=true
  ·rw [if_pos h1]
   simp only [ins]
   rw [if_pos h1,Zrk h x r]
  ·rw [if_neg h1]
   by_cases h2:same e x=true
   ·rw [if_pos h2]
    simp only [ins]
    rw [if_neg h1,if_pos h2]
   ·rw [if_neg h2]
    simp only [ins]
    rw [if_neg (by rw [Zr4 h];simp),if_pos (Zty h x)]
theorem Zu3 {x y:Zd}:∀ {l:Zbj},y ∈ ins lt same x l → y=x ∨ y ∈ l
 | [],h=>.inl (List.mem_singleton.1 h)
 | e :: r,h=>by
  simp only [ins] at h
  split at h
  ·rcases List.mem_cons.1 h with h | h
   ·exact .inr (by rw [h];exact List.mem_cons_self ..)
   ·rcases Zu3 h with h | h
    ·exact .inl h
    ·exact .inr (List.mem_cons_of_mem _ h)
  ·split at h
   ·exact .inr h
   ·rcases List.mem_cons.1 h with h | h
    ·exact .inl h
    ·exact .inr h
theorem Zso (h:Ord lt same) {x:Zd}:∀ {l:Zbj},l.Pairwise (fun a b=>lt a b=true) → (ins lt same x l).Pairwise fun a b=>lt a b=true
 | [],_=>List.pairwise_singleton ..
 | e :: r,hp=>by
  obtain ⟨h1,h2⟩:=List.pairwise_cons.1 hp
  simp only [ins]
  by_cases c1:lt e x=true
  ·rw [if_pos c1]
   refine List.pairwise_cons.2 ⟨fun y hy=>?_,Zso h h2⟩
   rcases Zu3 hy with rfl | hy
   ·exact c1
   ·exact h1 y hy
  ·rw [if_neg c1]
   by_cases c2:same e x=true
   ·rw [if_pos c2];exact hp
   ·rw [if_neg c2]
    have hxe:lt x e=true:=by
     cases hq:lt x e
     ·exact absurd (h.tri (by simpa using c1) hq) c2
     ·rfl
    refine List.pairwise_cons.2 ⟨fun y hy=>?_,hp⟩
    rcases List.mem_cons.1 hy with rfl | hy
    ·exact hxe
    ·exact h.trans hxe (h1 y hy)
theorem Zxn:∀ (x:Zd) (l:Zbj),(ins lt same x l).length ≤ l.length + 1 ∧ l.length ≤ (ins lt same x l).length
 | x,[]=>by simp [ins]
 | x,e :: r=>by
  have:=Zxn x r
  simp only [ins]
  split
  ·simp;omega
  ·split <;> simp
theorem Ztm (h:Ord lt same) {q z:Zd} (hqz:lt q z=true):∀ (k:Nat) (W:Zbj),k ≤ W.length → (∀ e ∈ W.take k,lt e q=true) → k + 1 ≤ (ins lt same q W).length ∧ ∀ e ∈ (ins lt same q W).take (k + 1),lt e z=true
 | 0,[],_,_=>by simp [ins,hqz]
 | 0,e :: r,_,_=>by
  simp only [ins]
  by_cases c1:lt e q=true
  ·rw [if_pos c1];simp [h.trans c1 hqz]
  ·rw [if_neg c1]
   by_cases c2:same e q=true
   ·rw [if_pos c2];simp [h.cong c2 hqz]
   ·rw [if_neg c2];simp [hqz]
 | k + 1,[],hl,_=>by simp at hl
 | k + 1,e :: r,hl,ha=>by
  have c1:lt e q=true:=ha e (by simp)
  obtain ⟨i1,i2⟩:=Ztm h hqz k r (by simpa using hl) (fun y hy=>ha y (by rw [List.take_succ_cons];exact List.mem_cons_of_mem _ hy))
  simp only [ins,c1,if_true,List.length_cons,List.take_succ_cons]
  refine ⟨by omega,fun y hy=>?_⟩
  rcases List.mem_cons.1 hy with rfl | hy
  ·exact h.trans c1 hqz
  ·exact i2 y hy
theorem Zrq {z:Zd}:∀ (n:Nat) (W:Zbj),n ≤ W.length → (∀ e ∈ W.take n,lt e z=true) → (ins lt same z W).take n=W.take n
 | 0,W,_,_=>by simp
 | n + 1,[],hl,_=>by simp at hl
 | n + 1,e :: r,hl,ha=>by
  have c1:lt e z=true:=ha e (by simp)
  simp only [ins,c1,if_true,List.take_succ_cons]
  rw [Zrq n r (by simpa using hl) (fun y hy=>ha y (by rw [List.take_succ_cons];exact List.mem_cons_of_mem _ hy))]
def insN (lt same:Zd → Zd → Bool) (n:Nat) (X:Zbj) (L:Zbj):Zbj:=L.foldl (fun X e=>(ins lt same e X).take n) X
theorem Z2a (n:Nat) (X A B:Zbj):insN lt same n X (A ++ B)=insN lt same n (insN lt same n X A) B:=List.foldl_append
theorem Zr8 (h:Ord lt same) {n:Nat} {z:Zd}:∀ (Q:Zbj) (k:Nat) (W:Zbj),k + Q.length ≤ n → Q.Pairwise (fun a b=>lt a b=true) → (∀ q ∈ Q,lt q z=true) → k ≤ W.length → (∀ q ∈ Q,∀ e ∈ W.take k,lt e q=true) → (∀ e ∈ W.take k,lt e z=true) → k + Q.length ≤ (insN lt same n W Q).length ∧ ∀ e ∈ (insN lt same n W Q).take (k + Q.length),lt e z=true
 | [],k,W,_,_,_,h1,_,h3=>⟨h1,h3⟩
 | q :: Q,k,W,hn,hp,hz,h1,h2,h3=>by
  obtain ⟨p1,p2⟩:=List.pairwise_cons.1 hp
  have hn:k + (Q.length + 1) ≤ n:=hn
  have htk:∀ {y:Zd},lt q y=true → k + 1 ≤ ((ins lt same q W).take n).length ∧ ∀ e ∈ ((ins lt same q W).take n).take (k + 1),lt e y=true:=fun {y} hy=>by
   obtain ⟨i1,i2⟩:=Ztm h hy k W h1 (h2 q (List.mem_cons_self ..))
   refine ⟨by rw [List.length_take];omega,fun e he=>i2 e ?_⟩
   rw [List.take_take,Nat.min_eq_left (by omega)] at he
   exact he
  obtain ⟨i1,i2⟩:=htk (hz q (List.mem_cons_self ..))
  have:=Zr8 h (n:=n) (z:=z) Q (k + 1) ((ins lt same q W).take n) (by omega) p2 (fun y hy=>hz y (List.mem_cons_of_mem _ hy)) i1 (fun y hy=>(htk (p1 y hy)).2) i2
  rw [show k + 1 + Q.length=k + (q :: Q).length by simp;omega] at this
  exact this
theorem Zx3 {n:Nat}:∀ (Q W:Zbj),Q ≠ [] → (insN lt same n W Q).length ≤ n
 | [],W,h=>absurd rfl h
 | [q],W,_=>by show ((ins lt same q W).take n).length ≤ n;rw [List.length_take];omega
 | q :: q2 :: Q,W,_=>Zx3 (q2 :: Q) _ (by simp)
theorem Zzh (h:Ord lt same) {n:Nat} (X:Zbj) {Q:Zbj} {z:Zd} (hq:Q.length=n) (hn:0 < n) (hp:(Q ++ [z]).Pairwise fun a b=>lt a b=true):insN lt same n X (Q ++ [z])=insN lt same n X Q:=by
 obtain ⟨p1,_,p2⟩:=List.pairwise_append.1 hp
 obtain ⟨i1,i2⟩:=Zr8 h (n:=n) (z:=z) Q 0 X (by omega) p1 (fun q hq=>p2 q hq z (by simp)) (by simp) (fun _ _ e he=>by simp at he) (fun e he=>by simp at he)
 rw [Nat.zero_add,hq] at i1 i2
 have hle:=Zx3 (lt:=lt) (same:=same) (n:=n) Q X (fun he=>by rw [he] at hq;simp at hq;omega)
 rw [Z2a]
 show (ins lt same z (insN lt same n X Q)).take n=_
 rw [Zrq n _ i1 i2,List.take_of_length_le hle]
theorem Zpg {n:Nat} {y:Zd}:∀ (L X:Zbj),(∀ e ∈ L,∀ X,(ins lt same y ((ins lt same e X).take n)).take n=(ins lt same e ((ins lt same y X).take n)).take n) → insN lt same n ((ins lt same y X).take n) L=(ins lt same y (insN lt same n X L)).take n
 | [],X,_=>rfl
 | e :: L,X,he=>by
  show insN lt same n ((ins lt same e ((ins lt same y X).take n)).take n) L=_
  rw [← he e (List.mem_cons_self ..)]
  exact Zpg L _ (fun e h=>he e (List.mem_cons_of_mem _ h))
theorem Zv3 (h:Ord lt same) {n:Nat} {y:Zd}:∀ (L X:Zbj),(∀ e ∈ L,∀ X,(ins lt same y ((ins lt same e X).take n)).take n=(ins lt same e ((ins lt same y X).take n)).take n) → (∀ e ∈ L,same e y=true → ∀ X,ins lt same e X=ins lt same y X) → insN lt same n X (ins lt same y L)=(ins lt same y (insN lt same n X L)).take n
 | [],X,_,_=>rfl
 | e :: r,X,he,hs=>by
  have he':=fun e h=>he e (List.mem_cons_of_mem _ h)
  simp only [ins]
  by_cases c1:lt e y=true
  ·rw [if_pos c1]
   exact Zv3 h r _ he' (fun e h=>hs e (List.mem_cons_of_mem _ h))
  ·rw [if_neg c1]
   by_cases c2:same e y=true
   ·rw [if_pos c2]
    have e1:insN lt same n X (e :: r)=insN lt same n ((ins lt same y X).take n) r:=by
     show insN lt same n ((ins lt same e X).take n) r=_
     rw [hs e (List.mem_cons_self ..) c2]
    rw [e1,← Zpg r _ he',Zoo,Zrk h]
   ·rw [if_neg c2]
    exact Zpg (e :: r) X he
end
theorem Zxz:∀ {A B:Zbj},NS A → (∀ e ∈ A,hasN B e.Name=true) → A.length ≤ B.length
 | [],B,_,_=>Nat.zero_le _
 | a :: A,B,hA,h=>by
  obtain ⟨a1,a2⟩:=List.pairwise_cons.1 hA
  have hB:=h a (List.mem_cons_self ..)
  have key:∀ (B:Zbj),hasN B a.Name=true → (B.filter fun e=>!sEq e.Name a.Name).length + 1 ≤ B.length:=fun B=>by
   induction B with
   | nil=>intro h;cases h
   | cons b B ih =>
    intro h
    unfold hasN at h
    rw [List.any_cons] at h
    by_cases hb:sEq b.Name a.Name=true
    ·rw [List.filter_cons_of_neg (by rw [hb];simp)]
     have:=List.length_filter_le (fun e:Zd=>!sEq e.Name a.Name) B
     simp;omega
    ·rw [List.filter_cons_of_pos (by simpa using hb)]
     rw [Bool.eq_false_iff.2 hb,Bool.false_or] at h
     have:=ih h
     simp;omega
  have:=Zxz (A:=A) (B:=B.filter fun e=>!sEq e.Name a.Name) a2 fun e he=>by
   have h1:=h e (List.mem_cons_of_mem _ he)
   have h2:=a1 e he
   unfold hasN at h1 ⊢
   obtain ⟨b,hb,hb2⟩:=List.any_eq_true.1 h1
   refine List.any_eq_true.2 ⟨b,List.mem_filter.2 ⟨hb,?_⟩,hb2⟩
   rw [Zhn.1 hb2,Zka.2 (fun e=>Zpb h2 e.symm)]
   rfl
  have:=key B hB
  simp only [List.length_cons]
  omega
def jA (e:Zd):Zi:={ Kind:=(18:Int),Key:=(⟨#[107]⟩:ByteArray),N:=(0:Int),X:=(0:Nat),S:=e.Name,Make:=(default:Za),Must:=false }
def oA (e:Zd):Zi:={ Kind:=(21:Int),Key:=(⟨#[107]⟩:ByteArray),N:=(0:Int),X:=e.Score,S:=e.Name,Make:=(default:Za),Must:=false }
def mA (k:Int) (e:Zd):Zi:=if k=9 then oA e else jA e
theorem k107:(sEq (⟨#[107]⟩:ByteArray) ⟨#[]⟩ || decide ((24:Int) < ((⟨#[107]⟩:ByteArray).size:Int)))=false:=by kernel_rfl
theorem jA_d {e:Zd} (h:e.Name.size ≤ 16):ActD 8 (jA e):=by
 refine ⟨Zxt e,?_,by simp [jA],on18⟩
 have hs:=Zjj (a:=jA e) (Zxt e).ok (w:=⟨#[106,111,105,110]⟩) (on:=8) (has:=⟨#[115]⟩) (c:=5) (n:=false) (x:=false) (s:=true) (m:=false) (by kernel_rfl) (by kernel_rfl) (by kernel_rfl) (by kernel_rfl) (by kernel_rfl) (by kernel_rfl) (by kernel_rfl)
 rw [hs]
 have h1:decide ((if ((8:Int) == 1)=true then (64:Int) else 16) < ((jA e).S.size:Int))=false:=by
  have:((8:Int) == 1)=false:=rfl
  rw [this]
  simp only [Bool.false_eq_true,if_false]
  show decide ((16:Int) < (e.Name.size:Int))=false
  simp;omega
 unfold actD
 rw [h1]
 have h2:(sEq (jA e).Key ⟨#[]⟩ || decide ((24:Int) < ((jA e).Key.size:Int)))=false:=k107
 have h3:Zjz (jA e).Make zrc=true:=by kernel_rfl
 have h4:decide ((jA e).X=Zbn (jA e).X)=true:=by kernel_rfl
 rw [h2,h3,h4]
 have h5:decide (keyf (jA e).X=keyf 0)=true:=by kernel_rfl
 rw [h5]
 rfl
theorem oA_d {e:Zd} (h:e.Name.size ≤ 16) (hw:e.Score < W64) (hc:e.Score=Zbn e.Score):ActD 9 (oA e):=by
 refine ⟨Zxp hw,?_,by simp [oA],on21⟩
 have hs:=Zjj (a:=oA e) (Zxp hw).ok (w:=⟨#[111,102,102,101,114]⟩) (on:=9) (has:=⟨#[120,115]⟩) (c:=5) (n:=false) (x:=true) (s:=true) (m:=false) (by kernel_rfl) (by kernel_rfl) (by kernel_rfl) (by kernel_rfl) (by kernel_rfl) (by kernel_rfl) (by kernel_rfl)
 rw [hs]
 have h1:decide ((if ((9:Int) == 1)=true then (64:Int) else 16) < ((oA e).S.size:Int))=false:=by
  have:((9:Int) == 1)=false:=rfl
  rw [this]
  simp only [Bool.false_eq_true,if_false]
  show decide ((16:Int) < (e.Name.size:Int))=false
  simp;omega
 unfold actD
 rw [h1]
 have h2:(sEq (oA e).Key ⟨#[]⟩ || decide ((24:Int) < ((oA e).Key.size:Int)))=false:=k107
 have h3:Zjz (oA e).Make zrc=true:=by kernel_rfl
 have h4:decide ((oA e).X=Zbn (oA e).X)=true:=decide_eq_true hc
 rw [h2,h3,h4]
 rfl
theorem mA_d {k:Int} {e:Zd} (hk:k=8 ∨ k=9) (h:Zml k e) (hw:e.Score < W64):ActD k (mA k e):=by
 rcases hk with rfl | rfl
 ·exact jA_d h.1
 ·exact oA_d h.1 hw h.2.2
def sk (k:Int):Int:=if k=3 ∨ k=4 then 2 else k
def sa (a:Zi):Zi:=if a.Kind=8 ∨ a.Kind=10 then { a with Kind:=7 } else if a.Kind=11 then { a with Kind:=7,N:=IntKind.i64.wrap (0 - a.N) } else a
theorem Zs3 {a:Zi} (ha:ActIn a) (hc:Ze1 a=some 0) (hk:a.Kind=8 ∨ a.Kind=10 ∨ a.Kind=11) {m:Int} (hm:I64 m):Ze1 { a with Kind:=7,N:=m }=some 0:=by
 obtain ⟨c,c1,_⟩:=Zkt ha.ok.1
 have hb:Zqf { a with Kind:=7,N:=m }:=⟨ha.ok.1,ha.ok.2⟩
 rw [Zjj (a:={ a with Kind:=7,N:=m }) hb (w:=⟨#[97,100,100]⟩) (on:=2) (has:=⟨#[110]⟩) (c:=c) (n:=true) (x:=false) (s:=false) (m:=false) c1 (by kernel_rfl) (by kernel_rfl) (by kernel_rfl) (by kernel_rfl) (by kernel_rfl) (by kernel_rfl)]
 have key:∃ k2,actD true false false false false false k2 c a=0:=by
  rcases hk with h | h | h
  ·rw [Zjj (a:=a) ha.ok (w:=⟨#[112,108,117,115]⟩) (on:=3) (has:=⟨#[110]⟩) (c:=c) (n:=true) (x:=false) (s:=false) (m:=false) c1 (by rw [h];kernel_rfl) (by kernel_rfl) (by kernel_rfl) (by kernel_rfl) (by kernel_rfl) (by kernel_rfl),h] at hc
   exact ⟨_,Option.some.inj hc⟩
  ·rw [Zjj (a:=a) ha.ok (w:=⟨#[105,110]⟩) (on:=4) (has:=⟨#[110]⟩) (c:=c) (n:=true) (x:=false) (s:=false) (m:=false) c1 (by rw [h];kernel_rfl) (by kernel_rfl) (by kernel_rfl) (by kernel_rfl) (by kernel_rfl) (by kernel_rfl),h] at hc
   exact ⟨_,Option.some.inj hc⟩
  ·rw [Zjj (a:=a) ha.ok (w:=⟨#[111,117,116]⟩) (on:=4) (has:=⟨#[110]⟩) (c:=c) (n:=true) (x:=false) (s:=false) (m:=false) c1 (by rw [h];kernel_rfl) (by kernel_rfl) (by kernel_rfl) (by kernel_rfl) (by kernel_rfl) (by kernel_rfl),h] at hc
   exact ⟨_,Option.some.inj hc⟩
 obtain ⟨k2,h⟩:=key
 show some (actD true false false false false false false c { a with Kind:=7,N:=m })=some 0
 congr 1
 unfold actD at h ⊢
 simp only [Bool.true_or,Bool.true_and,Bool.false_or,Bool.false_and,Bool.false_eq_true,if_false] at h ⊢
 revert h
 generalize (sEq a.Key ⟨#[]⟩ || decide ((24:Int) < a.Key.size))=b1
 generalize decide (keyf a.X=keyf 0)=b2
 generalize sEq a.S ⟨#[]⟩=b3
 generalize Zjz a.Make zrc=b4
 generalize decide ((16:Int) < (a.S.size:Int))=b5
 generalize (k2 && (decide (a.N < 0) || decide (2305843009213693952 < a.N)))=b6
 generalize decide (a.X=Zbn a.X)=b7
 cases b1 <;> cases b2 <;> cases b3 <;> cases b4 <;> cases b5 <;> cases b6 <;> cases b7 <;> simp
theorem sa_d {k:Int} {a:Zi} (h:ActD k a):ActD (sk k) (sa a):=by
 have hn:=h.in_.n
 rcases h.cases with ⟨rfl,e⟩ | ⟨rfl,e⟩ | ⟨rfl,e⟩ | ⟨rfl,e⟩ | ⟨rfl,e⟩ | ⟨rfl,e⟩ | ⟨rfl,e⟩
 ·have:sa a=a:=by unfold sa;rw [e];rfl
  rw [this];exact h
 ·have:sa a={ a with Kind:=7,N:=a.N }:=by unfold sa;rw [if_pos (.inl e)]
  rw [this]
  exact ⟨⟨⟨h.in_.ok.1,h.in_.ok.2⟩,hn,h.in_.mkr⟩,Zs3 h.in_ h.chk (.inl e) hn,.inl rfl,on7⟩
 ·rcases e with e | e
  ·have:sa a={ a with Kind:=7,N:=a.N }:=by unfold sa;rw [if_pos (.inr e)]
   rw [this]
   exact ⟨⟨⟨h.in_.ok.1,h.in_.ok.2⟩,hn,h.in_.mkr⟩,Zs3 h.in_ h.chk (.inr (.inl e)) hn,.inl rfl,on7⟩
  ·have:sa a={ a with Kind:=7,N:=IntKind.i64.wrap (0 - a.N) }:=by unfold sa;rw [if_neg (by omega),if_pos e]
   rw [this]
   exact ⟨⟨⟨h.in_.ok.1,h.in_.ok.2⟩,Zk8 _,h.in_.mkr⟩,Zs3 h.in_ h.chk (.inr (.inr e)) (Zk8 _),.inl rfl,on7⟩
 ·have:sa a=a:=by unfold sa;rw [e];rfl
  rw [this];exact h
 ·have:sa a=a:=by unfold sa;rw [e];rfl
  rw [this];exact h
 ·have:sa a=a:=by unfold sa;rw [e];rfl
  rw [this];exact h
 ·have:sa a=a:=by unfold sa;rw [e];rfl
  rw [this];exact h
structure Sl (r s:Za):Prop where
 w:RecW s
 g:Zbx s
 kind:s.Kind=sk r.Kind
 cap8:r.Kind=8 → s.Cap=32
 cap9:r.Kind=9 → s.Cap=r.Cap
def mrg (x s:Za):Za :=
 if x.Kind=2 ∨ x.Kind=3 ∨ x.Kind=4 then { x with Num:=IntKind.i64.wrap (x.Num + s.Num) }
 else if x.Kind=5 then { x with Real:=fmx x.Real s.Real }
 else if x.Kind=6 then { x with Real:=fmn x.Real s.Real }
 else effs x (s.List.map (mA x.Kind))
theorem Ztg:∀ (B:List Zi) (x:Za),(effs x B).Kind=x.Kind ∧ (effs x B).Cap=x.Cap
 | [],x=>⟨rfl,rfl⟩
 | a :: B,x=>by
  obtain ⟨h1,h2⟩:=Ztg B (eff x a)
  obtain ⟨k1,k2,_⟩:=Zk7 x a
  exact ⟨h1.trans k1,h2.trans k2⟩
theorem Zov (x s:Za):(mrg x s).Kind=x.Kind ∧ (mrg x s).Cap=x.Cap:=by
 unfold mrg
 split
 ·exact ⟨rfl,rfl⟩
 ·split
  ·exact ⟨rfl,rfl⟩
  ·split
   ·exact ⟨rfl,rfl⟩
   ·exact Ztg _ _
theorem Zhd {x s:Za} (h:x.Kind=8 ∨ x.Kind=9):mrg x s=effs x (s.List.map (mA x.Kind)):=by
 unfold mrg
 rw [if_neg (by omega),if_neg (by omega),if_neg (by omega)]
theorem Zjb {x s:Za} (h:x.Kind=2 ∨ x.Kind=3 ∨ x.Kind=4):mrg x s={ x with Num:=IntKind.i64.wrap (x.Num + s.Num) }:=if_pos h
theorem Zof {x s:Za} (h:x.Kind=5):mrg x s={ x with Real:=fmx x.Real s.Real }:=by
 unfold mrg
 rw [if_neg (by omega),if_pos h]
theorem Zor {x s:Za} (h:x.Kind=6):mrg x s={ x with Real:=fmn x.Real s.Real }:=by
 unfold mrg
 rw [if_neg (by omega),if_neg (by omega),if_pos h]
theorem Zuk {x:Za} {a:Zi} (h:a.Kind=13):eff x a={ x with Real:=fmx x.Real a.X }:=Znm h
theorem Zus {x:Za} {a:Zi} (h:a.Kind=14):eff x a={ x with Real:=fmn x.Real a.X }:=Znv h
theorem Zn1 {r s:Za} (h:Sl r s) (hk:r.Kind=8 ∨ r.Kind=9):(∀ e ∈ s.List,Zml r.Kind e ∧ e.Score < W64) ∧ (r.Kind=8 → NS s.List) ∧ (r.Kind=9 → BS s.List) ∧ (s.List.length:Int) ≤ s.Cap:=by
 have hsk:s.Kind=r.Kind:=by rw [h.kind];unfold sk;rw [if_neg (by omega)]
 obtain ⟨c1,c2,c3,c4⟩:=h.g.2.2.2.2.2.2 (by omega)
 obtain ⟨i1,i2,i3⟩:=Zpr.1 c4
 rw [hsk] at i1 i2 i3
 exact ⟨fun e he=>⟨i1 e he,h.w.ok.sc e he⟩,i2,i3,c3⟩
theorem Zqj {r s:Za} (h:Sl r s) (hk:r.Kind=8 ∨ r.Kind=9):∀ b ∈ s.List.map (mA r.Kind),ActD r.Kind b:=fun b hb=>by
 obtain ⟨e,he,rfl⟩:=List.mem_map.1 hb
 obtain ⟨i1,i2⟩:=(Zn1 h hk).1 e he
 exact mA_d hk i1 i2
theorem Zh2 {s:Za} (hg:Zbx s):s.Real=Zbn s.Real:=hg.2.2.2.2.2.1
theorem Zl7 {k:Int} {a:Zi} (ha:ActD k a) (hk:k=2 ∨ k=3 ∨ k=4):∃ m:Int,(∀ r:Za,eff r a={ r with Num:=IntKind.i64.wrap (r.Num + m) }) ∧ ∀ s:Za,eff s (sa a)={ s with Num:=IntKind.i64.wrap (s.Num + m) }:=by
 by_cases h11:a.Kind=11
 ·refine ⟨-a.N,fun r=>by rw [Zsr h11,Int.sub_eq_add_neg],fun s=>?_⟩
  have:sa a={ a with Kind:=7,N:=IntKind.i64.wrap (0 - a.N) }:=by unfold sa;rw [if_neg (by omega),if_pos h11]
  rw [this,Zin (.inl rfl)]
  have:IntKind.i64.wrap (s.Num + IntKind.i64.wrap (0 - a.N))=IntKind.i64.wrap (s.Num + -a.N):=by
   simp only [IntKind.wrap_i64];omega
  show ({ s with Num:=IntKind.i64.wrap (s.Num + IntKind.i64.wrap (0 - a.N)) }:Za)=_
  rw [this]
 ·have hk3:a.Kind=7 ∨ a.Kind=8 ∨ a.Kind=10:=by rcases ha.cases with c | c | c | c | c | c | c <;> omega
  refine ⟨a.N,fun r=>Zin hk3,fun s=>?_⟩
  unfold sa
  by_cases h7:a.Kind=8 ∨ a.Kind=10
  ·rw [if_pos h7,Zin (.inl rfl)]
  ·rw [if_neg h7,if_neg h11,Zin hk3]
theorem Zyj (x y z:Int):IntKind.i64.wrap (IntKind.i64.wrap (x + y) + z)=IntKind.i64.wrap (IntKind.i64.wrap (x + z) + y):=by simp only [IntKind.wrap_i64];omega
theorem Zyw (x y z:Int):IntKind.i64.wrap (x + IntKind.i64.wrap (y + z))=IntKind.i64.wrap (IntKind.i64.wrap (x + y) + z):=by simp only [IntKind.wrap_i64];omega
theorem Z0e (x y z:Nat):fmx x (fmx y z)=fmx (fmx x y) z:=by
 unfold fmx
 by_cases c1:keyf y < keyf z <;> by_cases c2:keyf x < keyf y <;> simp only [c1,c2,if_true,if_false]
 ·rw [if_pos (by omega)]
 ·rw [if_neg (by omega)]
theorem Z00 (x y z:Nat):fmn x (fmn y z)=fmn (fmn x y) z:=by
 unfold fmn
 by_cases c1:keyf z < keyf y <;> by_cases c2:keyf y < keyf x <;> simp only [c1,c2,if_true,if_false]
 ·rw [if_pos (by omega)]
 ·rw [if_neg (by omega)]
theorem Z34 {x s:Za} {a:Zi} (ha:ActD x.Kind a) (hs:Sl x s):mrg (eff x a) s=eff (mrg x s) a:=by
 have haw:=ha.w
 rcases ha.cases with ⟨k,e⟩ | ⟨k,e⟩ | ⟨k,e⟩ | ⟨k,e⟩ | ⟨k,e⟩ | ⟨k,e⟩ | ⟨k,e⟩
 ·obtain ⟨m,h1,_⟩:=Zl7 ha (.inl k)
  rw [h1 x,Zjb (.inl k),h1,Zjb (x:={ x with Num:=IntKind.i64.wrap (x.Num + m) }) (.inl k)]
  show ({ x with Num:=IntKind.i64.wrap (IntKind.i64.wrap (x.Num + m) + s.Num) }:Za)={ x with Num:=IntKind.i64.wrap (IntKind.i64.wrap (x.Num + s.Num) + m) }
  rw [Zyj]
 ·obtain ⟨m,h1,_⟩:=Zl7 ha (.inr (.inl k))
  rw [h1 x,Zjb (.inr (.inl k)),h1,Zjb (x:={ x with Num:=IntKind.i64.wrap (x.Num + m) }) (.inr (.inl k))]
  show ({ x with Num:=IntKind.i64.wrap (IntKind.i64.wrap (x.Num + m) + s.Num) }:Za)={ x with Num:=IntKind.i64.wrap (IntKind.i64.wrap (x.Num + s.Num) + m) }
  rw [Zyj]
 ·obtain ⟨m,h1,_⟩:=Zl7 ha (.inr (.inr k))
  rw [h1 x,Zjb (.inr (.inr k)),h1,Zjb (x:={ x with Num:=IntKind.i64.wrap (x.Num + m) }) (.inr (.inr k))]
  show ({ x with Num:=IntKind.i64.wrap (IntKind.i64.wrap (x.Num + m) + s.Num) }:Za)={ x with Num:=IntKind.i64.wrap (IntKind.i64.wrap (x.Num + s.Num) + m) }
  rw [Zyj]
 ·rw [Zuk e,Zof k,Zuk e,Zof (x:={ x with Real:=fmx x.Real a.X }) k]
  exact congrArg (fun z=>({ x with Real:=z }:Za)) (Zwi haw.ok.2 hs.w.ok.real haw.xc (Zh2 hs.g) x.Real)
 ·rw [Zus e,Zor k,Zus e,Zor (x:={ x with Real:=fmn x.Real a.X }) k]
  exact congrArg (fun z=>({ x with Real:=z }:Za)) (Zv0 haw.ok.2 hs.w.ok.real haw.xc (Zh2 hs.g) x.Real)
 ·have hk:=(Zk7 x a).1
  rw [Zhd (.inl k),Zhd (by rw [hk];exact .inl k),hk]
  exact Zot ha _ x (Zqj hs (.inl k))
 ·have hk:=(Zk7 x a).1
  rw [Zhd (.inr k),Zhd (by rw [hk];exact .inr k),hk]
  exact Zot ha _ x (Zqj hs (.inr k))
def zn (e:Zd):Zd:={ Score:=0,Name:=e.Name }
abbrev nlt:Zd → Zd → Bool:=fun e x=>Zck x true e
abbrev nsm:Zd → Zd → Bool:=fun e x=>Ze3 x true e
abbrev blt:Zd → Zd → Bool:=fun e x=>Zck x false e
abbrev bsm:Zd → Zd → Bool:=fun e x=>Ze3 x false e
def insF (X L:Zbj):Zbj:=L.foldl (fun X e=>ins nlt nsm e X) X
theorem Zpa:∀ (L:Zbj) (x:Za),effs x (L.map jA)={ x with List:=insF x.List (L.map zn) }
 | [],x=>rfl
 | e :: L,x=>by
  have h1:effs x ((e :: L).map jA)=effs (eff x (jA e)) (L.map jA):=rfl
  have h2:eff x (jA e)={ x with List:=ins nlt nsm (zn e) x.List }:=by
   rw [Zh7 (a:=jA e) rfl]
   show ({ x with List:=layL (zn e) true x.List }:Za)=_
   rw [Zeh]
  have h3:insF x.List ((e :: L).map zn)=insF (ins nlt nsm (zn e) x.List) (L.map zn):=rfl
  rw [h1,Zpa L,h2,h3]
theorem Z5x (e:Zd):({ Score:=(oA e).X,Name:=(oA e).S }:Zd)=e:=by cases e;rfl
theorem Zos:∀ (L:Zbj) (x:Za),effs x (L.map oA)={ x with List:=insN blt bsm x.Cap.toNat x.List L }
 | [],x=>rfl
 | e :: L,x=>by
  have h1:effs x ((e :: L).map oA)=effs (eff x (oA e)) (L.map oA):=rfl
  have h2:eff x (oA e)={ x with List:=(ins blt bsm e x.List).take x.Cap.toNat }:=by
   rw [Zjo (a:=oA e) rfl,Z5x,Zeh]
  have h3:insN blt bsm x.Cap.toNat x.List (e :: L)=insN blt bsm x.Cap.toNat ((ins blt bsm e x.List).take x.Cap.toNat) L:=rfl
  rw [h1,Zos L,h2,h3]
theorem Zqi {e y:Zd}:nlt e y=sLt e.Name y.Name:=by
 show Zck y true e=_
 unfold Zck
 rw [if_pos rfl]
theorem Zxs {e y:Zd}:nsm e y=sEq e.Name y.Name:=by
 show (sEq e.Name y.Name && (true || decide (keyf e.Score=keyf y.Score)))=_
 rw [Bool.true_or,Bool.and_true]
theorem Z01 (y:Zd):∀ L:Zbj,(ins nlt nsm y L).map zn=ins nlt nsm (zn y) (L.map zn)
 | []=>rfl
 | e :: r=>by
  have ih:=Z01 y r
  have h1:nlt (zn e) (zn y)=nlt e y:=by rw [Zqi,Zqi];rfl
  have h2:nsm (zn e) (zn y)=nsm e y:=by rw [Zxs,Zxs];rfl
  rw [List.map_cons]
  unfold ins
  rw [h1,h2]
  by_cases c1:nlt e y=true
  ·rw [if_pos c1,if_pos c1,List.map_cons,ih]
  ·rw [if_neg c1,if_neg c1]
   by_cases c2:nsm e y=true
   ·rw [if_pos c2,if_pos c2,List.map_cons]
   ·rw [if_neg c2,if_neg c2,List.map_cons,List.map_cons]
theorem Zxw {e y:Zd} (h:nsm (zn e) (zn y)=true):zn e=zn y:=by
 have h:(sEq e.Name y.Name && (true || decide (keyf (0:Nat)=keyf 0)))=true:=h
 have h:sEq e.Name y.Name=true:=by simpa using h
 unfold zn
 rw [Zhn.1 h]
theorem Z37 (e y:Zd) (X:Zbj):ins nlt nsm (zn y) (ins nlt nsm (zn e) X)=ins nlt nsm (zn e) (ins nlt nsm (zn y) X):=Zrj Zmx (fun h=>Zxw h) X
theorem Zp4 (y:Zd):∀ (L X:Zbj),insF (ins nlt nsm (zn y) X) (L.map zn)=ins nlt nsm (zn y) (insF X (L.map zn))
 | [],X=>rfl
 | e :: L,X=>by
  show insF (ins nlt nsm (zn e) (ins nlt nsm (zn y) X)) (L.map zn)=_
  rw [← Z37]
  exact Zp4 y L _
theorem Zvf (y:Zd):∀ (L X:Zbj),insF X (ins nlt nsm (zn y) (L.map zn))=ins nlt nsm (zn y) (insF X (L.map zn))
 | [],X=>rfl
 | e :: r,X=>by
  simp only [ins,List.map_cons]
  by_cases c1:nlt (zn e) (zn y)=true
  ·rw [if_pos c1]
   exact Zvf y r _
  ·rw [if_neg c1]
   by_cases c2:nsm (zn e) (zn y)=true
   ·rw [if_pos c2]
    have e1:insF X (zn e :: r.map zn)=insF (ins nlt nsm (zn y) X) (r.map zn):=by
     show insF (ins nlt nsm (zn e) X) (r.map zn)=_
     rw [Zxw c2]
    rw [e1,Zp4,Zrk Zmx]
   ·rw [if_neg c2]
    exact Zp4 y (e :: r) X
theorem Z6z {x s:Za} {a:Zi} (ha:ActD x.Kind a) (hs:Sl x s):mrg x (eff s (sa a))=eff (mrg x s) a:=by
 have haw:=ha.w
 rcases ha.cases with ⟨k,e⟩ | ⟨k,e⟩ | ⟨k,e⟩ | ⟨k,e⟩ | ⟨k,e⟩ | ⟨k,e⟩ | ⟨k,e⟩
 ·obtain ⟨m,h1,h2⟩:=Zl7 ha (.inl k)
  rw [h2,Zjb (.inl k),Zjb (.inl k),h1]
  show ({ x with Num:=IntKind.i64.wrap (x.Num + IntKind.i64.wrap (s.Num + m)) }:Za)={ x with Num:=IntKind.i64.wrap (IntKind.i64.wrap (x.Num + s.Num) + m) }
  rw [Zyw]
 ·obtain ⟨m,h1,h2⟩:=Zl7 ha (.inr (.inl k))
  rw [h2,Zjb (.inr (.inl k)),Zjb (.inr (.inl k)),h1]
  show ({ x with Num:=IntKind.i64.wrap (x.Num + IntKind.i64.wrap (s.Num + m)) }:Za)={ x with Num:=IntKind.i64.wrap (IntKind.i64.wrap (x.Num + s.Num) + m) }
  rw [Zyw]
 ·obtain ⟨m,h1,h2⟩:=Zl7 ha (.inr (.inr k))
  rw [h2,Zjb (.inr (.inr k)),Zjb (.inr (.inr k)),h1]
  show ({ x with Num:=IntKind.i64.wrap (x.Num + IntKind.i64.wrap (s.Num + m)) }:Za)={ x with Num:=IntKind.i64.wrap (IntKind.i64.wrap (x.Num + s.Num) + m) }
  rw [Zyw]
 ·have hsa:sa a=a:=by unfold sa;rw [e];rfl
  rw [hsa,Zuk e,Zof k,Zof k,Zuk e]
  exact congrArg (fun z=>({ x with Real:=z }:Za)) (Z0e x.Real s.Real a.X)
 ·have hsa:sa a=a:=by unfold sa;rw [e];rfl
  rw [hsa,Zus e,Zor k,Zor k,Zus e]
  exact congrArg (fun z=>({ x with Real:=z }:Za)) (Z00 x.Real s.Real a.X)
 ·have hsa:sa a=a:=by unfold sa;rw [e];rfl
  rw [hsa,Zhd (.inl k),Zhd (.inl k),k]
  have hm:mA 8=jA:=by funext e;rfl
  rw [hm,Zpa,Zpa,Zh7 e,Zh7 e]
  show ({ x with List:=insF x.List ((layL { Score:=0,Name:=a.S } true s.List).map zn) }:Za)={ x with List:=layL { Score:=0,Name:=a.S } true (insF x.List (s.List.map zn)) }
  rw [Zeh,Zeh]
  have:=Z01 { Score:=0,Name:=a.S } s.List
  rw [show (ins (fun e x=>Zck x true e) (fun e x=>Ze3 x true e) { Score:=0,Name:=a.S } s.List).map zn=ins nlt nsm (zn { Score:=0,Name:=a.S }) (s.List.map zn) from this,Zvf]
  rfl
 ·have hsa:sa a=a:=by unfold sa;rw [e];rfl
  obtain ⟨i1,_,i3,i4⟩:=Zn1 hs (.inr k)
  have hcap:=hs.cap9 k
  obtain ⟨g1,g2,g3,g4⟩:=hs.g.2.2.2.2.2.2 (by rw [hs.kind,k];decide)
  rw [hsa,Zhd (.inr k),Zhd (.inr k),k]
  have hm:mA 9=oA:=by funext e;rfl
  rw [hm,Zos,Zos,Zjo e,Zjo e]
  show ({ x with List:=insN blt bsm x.Cap.toNat x.List ((layL { Score:=a.X,Name:=a.S } false s.List).take s.Cap.toNat) }:Za)={ x with List:=(layL { Score:=a.X,Name:=a.S } false (insN blt bsm x.Cap.toNat x.List s.List)).take x.Cap.toNat }
  rw [hcap,Zeh,Zeh]
  have hc:∀ e ∈ s.List,∀ X,(ins blt bsm { Score:=a.X,Name:=a.S } ((ins blt bsm e X).take x.Cap.toNat)).take x.Cap.toNat=(ins blt bsm e ((ins blt bsm { Score:=a.X,Name:=a.S } X).take x.Cap.toNat)).take x.Cap.toNat:=fun e he X=>by
   obtain ⟨⟨_,_,c1⟩,c2⟩:=i1 e he
   have:=Zoy (x:={ Score:=a.X,Name:=a.S }) (y:=e) haw.ok.2 c2 haw.xc c1 x.Cap.toNat X
   rw [Zeh,Zeh,Zeh,Zeh] at this
   exact this
  have hsm:∀ e ∈ s.List,bsm e { Score:=a.X,Name:=a.S }=true → ∀ X,ins blt bsm e X=ins blt bsm { Score:=a.X,Name:=a.S } X:=fun e he h X=>by
   obtain ⟨⟨_,_,c1⟩,c2⟩:=i1 e he
   obtain ⟨h1,h2⟩:=Zmr.1 h
   have h3:=Zop c2 haw.ok.2 c1 haw.xc h2
   obtain ⟨e1,e2⟩:=e
   have h1:e2=a.S:=h1
   have h3:e1=a.X:=h3
   rw [h1,h3]
  have hall:=Zv3 Zn4 (n:=x.Cap.toNat) (y:={ Score:=a.X,Name:=a.S }) s.List x.List hc hsm
  refine congrArg (fun z=>({ x with List:=z }:Za)) ?_
  rw [← hall]
  by_cases hlen:(ins blt bsm { Score:=a.X,Name:=a.S } s.List).length ≤ x.Cap.toNat
  ·rw [List.take_of_length_le hlen]
  ·have hil:=Zxn (lt:=blt) (same:=bsm) { Score:=a.X,Name:=a.S } s.List
   have hsorted:=Zso Zn4 (x:={ Score:=a.X,Name:=a.S }) (i3 k)
   generalize hZ:ins blt bsm { Score:=a.X,Name:=a.S } s.List=Z at *
   have hzl:Z.length=x.Cap.toNat + 1:=by omega
   have hzz:Z=Z.take x.Cap.toNat ++ [Z[x.Cap.toNat]]:=by
    have:=List.take_append_drop x.Cap.toNat Z
    rw [List.drop_eq_getElem_cons (by omega),List.drop_of_length_le (by omega)] at this
    exact this.symm
   have:=Zzh Zn4 (n:=x.Cap.toNat) x.List (Q:=Z.take x.Cap.toNat) (z:=Z[x.Cap.toNat]) (by rw [List.length_take];omega) (by omega) (by rw [← hzz];exact hsorted)
   rw [← hzz] at this
   exact this.symm
theorem Z5t {l:Zbj} (hs:NS l) (s:ByteArray):NS (layL { Score:=0,Name:=s } true l):=by
 rw [Zeh]
 have h0:l.Pairwise fun a b=>nlt a b=true:=hs.imp fun {a b} h=>by rw [Zqi];exact h
 exact (Zso Zmx (x:={ Score:=0,Name:=s }) h0).imp fun {a b} h=>by
  have h:nlt a b=true:=h
  rw [Zqi] at h;exact h
theorem Z71 {r s:Za} {a:Zi} (hs:Sl r s) (ha:ActD r.Kind a) (h8:r.Kind=8 → (layL { Score:=0,Name:=a.S } true s.List).length ≤ 32):Zjm s a=some (eff s (sa a)) ∧ Sl r (eff s (sa a)):=by
 have hd:ActD s.Kind (sa a):=by rw [hs.kind];exact sa_d ha
 have hsk:=hs.kind
 have hroom:Room s [sa a]:=by
  by_cases hk:r.Kind=8
  ·have hk8:s.Kind=8:=by rw [hsk,hk];rfl
   have ha18:a.Kind=18:=by rcases ha.cases with c | c | c | c | c | c | c <;> omega
   have hsa:sa a=a:=by unfold sa;rw [ha18];rfl
   have h32:=h8 hk
   have hcap:=hs.cap8 hk
   have hns:=(Zn1 hs (.inl hk)).2.1 hk
   have hu:upR s=32 - (s.List.length:Int):=by simp [upR,hk8,hcap]
   have hdn:dnR s=0:=by simp [dnR,hk8]
   have hda:dC a=0:=by simp [dC,ha18]
   have hua:uC s.List a=if hasN s.List a.S=true then 0 else 1:=by simp [uC,ha18]
   unfold Room
   rw [hsa,hu,hdn]
   simp only [su,sd,hda,hua]
   refine ⟨?_,by omega⟩
   by_cases hi:hasN s.List a.S=true
   ·rw [if_pos hi]
    rw [Zu1 hns hi] at h32
    omega
   ·rw [if_neg hi]
    have:isAt a.S s.List=false:=by rw [← Zki hns];exact Bool.eq_false_iff.2 hi
    rw [Zkn,if_neg (by rw [this];simp)] at h32
    have hpl:=Zll (fun e=>sLt e.Name a.S) s.List
    simp at h32
    omega
  ·have hz:upR s=0 ∧ dnR s=0:=by
    have:s.Kind ≠ 3 ∧ s.Kind ≠ 4 ∧ s.Kind ≠ 8:=by
     rw [hsk];unfold sk
     split
     ·decide
     ·rename_i h;exact ⟨fun e=>h (.inl e),fun e=>h (.inr e),hk⟩
    unfold upR dnR
    rw [if_neg this.1,if_neg this.2.1,if_neg this.2.2,if_neg this.1,if_neg this.2.1]
    exact ⟨rfl,rfl⟩
   have hz2:uC s.List (sa a)=0 ∧ dC (sa a)=0:=by
    have hc:=hd.cases
    have:(sa a).Kind ≠ 8 ∧ (sa a).Kind ≠ 10 ∧ (sa a).Kind ≠ 11 ∧ (sa a).Kind ≠ 18:=by
     have:s.Kind ≠ 3 ∧ s.Kind ≠ 4 ∧ s.Kind ≠ 8:=by
      rw [hsk];unfold sk
      split
      ·decide
      ·rename_i h;exact ⟨fun e=>h (.inl e),fun e=>h (.inr e),hk⟩
     rcases hc with c | c | c | c | c | c | c <;> omega
    unfold uC dC
    rw [if_neg (by omega),if_neg (by omega),if_neg (by omega),if_neg (by omega)]
    exact ⟨rfl,rfl⟩
   unfold Room
   simp only [su,sd,hz.1,hz.2,hz2.1,hz2.2]
   omega
 obtain ⟨_,w2,w3,w4,_,w6⟩:=Zpc (B:=[]) hs.w hs.g hd (fun b hb=>by cases hb) hroom
 have he:=Zk7 s (sa a)
 refine ⟨?_,w2,w3,w6.trans hs.kind,fun hk=>he.2.1.trans (hs.cap8 hk),fun hk=>he.2.1.trans (hs.cap9 hk)⟩
 have hdo:Zjm s a=Zh3 s (sa a):=by
  unfold Zjm Zj7 sa
  by_cases k8:a.Kind=8
  ·rw [if_pos (by simp [k8]),if_pos (by simp [k8]),if_pos (.inl k8)]
  ·rw [if_neg (by simpa using k8)]
   by_cases k10:a.Kind=10
   ·rw [if_pos (by simp [k10]),if_pos (.inr k10)]
   ·rw [if_neg (by simpa using k10),if_neg (show ¬ (a.Kind=8 ∨ a.Kind=10) by omega)]
    by_cases k11:a.Kind=11
    ·rw [if_pos (by simp [k11]),if_pos k11]
    ·rw [if_neg (by simpa using k11),if_neg k11]
 rw [hdo]
 unfold Zh3
 rw [w4]
 rfl
theorem Zti:∀ {A T:List Zi} {x:Za},RecW x → Zbx x → (∀ b ∈ A,ActD x.Kind b) → (∀ b ∈ T,ActD x.Kind b) → Room x (A ++ T) → Room (effs x A) T ∧ RecW (effs x A) ∧ Zbx (effs x A) ∧ (effs x A).Kind=x.Kind
 | [],T,x,hw,hg,_,_,h=>⟨h,hw,hg,rfl⟩
 | a :: A,T,x,hw,hg,hA,hT,h=>by
  obtain ⟨h1,h2,h3,_,_,h4⟩:=Zpc hw hg (hA a (List.mem_cons_self ..)) (fun b hb=>by
   rcases List.mem_append.1 hb with hb | hb
   ·exact hA b (List.mem_cons_of_mem _ hb)
   ·exact hT b hb) h
  obtain ⟨k1,k2,k3,k4⟩:=Zti (A:=A) (T:=T) h2 h3 (fun b hb=>by rw [h4];exact hA b (List.mem_cons_of_mem _ hb)) (fun b hb=>by rw [h4];exact hT b hb) h1
  exact ⟨k1,k2,k3,k4.trans h4⟩
theorem Zq4 {e:Za} (hl:e.List.length ≤ 1000):∀ (n i:Nat) {x:Za},i + n=e.List.length → RecW x → Zbx x → (x.Kind=8 ∨ x.Kind=9) → (∀ b ∈ e.List.map (mA x.Kind),ActD x.Kind b) → Room x ((e.List.drop i).map (mA x.Kind)) → Zeb e (n + 1) x (i:Int)=some (effs x ((e.List.drop i).map (mA x.Kind)))
 | 0,i,x,h,_,_,_,_,_=>by
  rw [Zeb,if_neg (by simp;omega),List.drop_of_length_le (by omega)]
  rfl
 | n + 1,i,x,h,hw,hg,hk,hA,hr=>by
  have hi:i < e.List.length:=by omega
  rw [List.drop_eq_getElem_cons hi,List.map_cons] at hr ⊢
  have hA':∀ b ∈ (e.List.drop (i + 1)).map (mA x.Kind),ActD x.Kind b:=fun b hb=>by
   obtain ⟨y,hy,rfl⟩:=List.mem_map.1 hb
   exact hA _ (List.mem_map.2 ⟨y,List.mem_of_mem_drop hy,rfl⟩)
  obtain ⟨s1,s2,s3,s4,_,s6⟩:=Zpc hw hg (hA _ (List.mem_map.2 ⟨_,List.getElem_mem hi,rfl⟩)) hA' hr
  have ih:=Zq4 hl n (i + 1) (x:=eff x (mA x.Kind e.List[i])) (by omega) s2 s3 (by rw [s6];exact hk) (fun b hb=>by rw [s6] at hb ⊢;exact hA b hb) (by rw [s6];exact s1)
  rw [s6] at ih
  rw [Zeb,Z3x hi,if_pos rfl,Zdj hi]
  simp only [Option.bind_some]
  unfold Zih
  rcases hk with k | k
  ·rw [if_neg (by simp [k])]
   have hm:mA x.Kind e.List[i]=jA e.List[i]:=by rw [k];rfl
   rw [hm] at s4 ih ⊢
   have s4:Zdc x true ({ Kind:=(18:Int),Key:=(⟨#[107]⟩:ByteArray),N:=(0:Int),X:=(0:Nat),S:=(e.List[i]).Name,Make:=(default:Za),Must:=false }:Zi)=some (eff x (jA e.List[i]),true,ans 0):=s4
   rw [s4]
   simp only [Option.bind_some]
   rw [wr1 (by omega),ih]
   rfl
  ·rw [if_pos (by simp [k])]
   have hm:mA x.Kind e.List[i]=oA e.List[i]:=by rw [k];rfl
   rw [hm] at s4 ih ⊢
   have s4:Zdc x true ({ Kind:=(21:Int),Key:=(⟨#[107]⟩:ByteArray),N:=(0:Int),X:=(e.List[i]).Score,S:=(e.List[i]).Name,Make:=(default:Za),Must:=false }:Zi)=some (eff x (oA e.List[i]),true,ans 0):=s4
   rw [s4]
   simp only [Option.bind_some]
   rw [wr1 (by omega),ih]
   rfl
def mJ (k:Int):List Za → List Zi
 | []=>[]
 | s :: ss=>s.List.map (mA k) ++ mJ k ss
theorem Zu6 (k:Int):∀ A B,mJ k (A ++ B)=mJ k A ++ mJ k B
 | [],B=>rfl
 | s :: A,B=>by simp only [List.cons_append,mJ,Zu6 k A B,List.append_assoc]
theorem Zxr {a b:Nat} (ha:a < W64) (hb:b < W64) (ca:a=Zbn a) (cb:b=Zbn b):Zgy a b=some (fmx a b):=by
 unfold Zgy fmx
 rw [Zk4 ha hb,Zex ha,Zex hb,← ca,← cb]
 simp only [Option.bind_some]
 by_cases h:keyf a < keyf b
 ·rw [if_pos (by simpa using h),if_pos h]
 ·rw [if_neg (by simpa using h),if_neg h]
theorem Zxy {a b:Nat} (ha:a < W64) (hb:b < W64) (ca:a=Zbn a) (cb:b=Zbn b):Zgm a b=some (fmn a b):=by
 unfold Zgm fmn
 rw [Zk4 hb ha,Zex ha,Zex hb,← ca,← cb]
 simp only [Option.bind_some]
 by_cases h:keyf b < keyf a
 ·rw [if_pos (by simpa using h),if_pos h]
 ·rw [if_neg (by simpa using h),if_neg h]
def MOk (x:Za) (T:List Zi):Prop:=(x.Kind=2 ∨ x.Kind=3 ∨ x.Kind=4) ∨ ((x.Kind=5 ∨ x.Kind=6) ∧ x.Real < W64 ∧ x.Real=Zbn x.Real) ∨ ((x.Kind=8 ∨ x.Kind=9) ∧ RecW x ∧ Zbx x ∧ Room x T)
theorem Zzd {r x s:Za} (h:Sl r s) (k:x.Kind=r.Kind) (c:x.Cap=r.Cap):Sl x s:=⟨h.w,h.g,by rw [k];exact h.kind,fun hk=>h.cap8 (k ▸ hk),fun hk=>by rw [c];exact h.cap9 (k ▸ hk)⟩
theorem Zox {ss:List Za} (hl:ss.length ≤ 1000):∀ (n i:Nat) {x:Za},i + n=ss.length → (∀ s ∈ ss,Sl x s) → MOk x (mJ x.Kind (ss.drop i)) → Zc7 ss (n + 1) x (i:Int)=some ((ss.drop i).foldl mrg x)
 | 0,i,x,h,_,_=>by
  rw [Zc7,if_neg (by simp;omega),List.drop_of_length_le (by omega)]
  rfl
 | n + 1,i,x,h,hs,hm=>by
  have hi:i < ss.length:=by omega
  have hsi:=hs _ (List.getElem_mem hi)
  obtain ⟨mk,mc⟩:=Zov x ss[i]
  have hs':∀ s ∈ ss,Sl (mrg x ss[i]) s:=fun s h=>Zzd (hs s h) mk mc
  have hacts:∀ s ∈ ss,(x.Kind=8 ∨ x.Kind=9) → ∀ b ∈ s.List.map (mA x.Kind),ActD x.Kind b:=fun s h hk=>Zqj (hs s h) hk
  have hT:(x.Kind=8 ∨ x.Kind=9) → ∀ b ∈ mJ x.Kind (ss.drop (i + 1)),ActD x.Kind b:=fun hk=>by
   have:∀ (l:List Za),(∀ s ∈ l,s ∈ ss) → ∀ b ∈ mJ x.Kind l,ActD x.Kind b:=fun l=>by
    induction l with
    | nil=>intro _ b hb;cases hb
    | cons s l ih =>
     intro h b hb
     rcases List.mem_append.1 hb with hb | hb
     ·exact hacts s (h s (List.mem_cons_self ..)) hk b hb
     ·exact ih (fun s hs=>h s (List.mem_cons_of_mem _ hs)) b hb
   exact this _ fun s hs=>List.mem_of_mem_drop hs
  rw [List.drop_eq_getElem_cons hi,List.foldl_cons]
  rw [List.drop_eq_getElem_cons hi] at hm
  have next:MOk (mrg x ss[i]) (mJ (mrg x ss[i]).Kind (ss.drop (i + 1))):=by
   rcases hm with hk | ⟨hk,h1,h2⟩ | ⟨hk,h1,h2,h3⟩
   ·exact .inl (by rw [mk];exact hk)
   ·refine .inr (.inl ⟨by rw [mk];exact hk,?_⟩)
    rcases hk with k | k
    ·rw [Zof k]
     show fmx x.Real (ss[i]).Real < W64 ∧ fmx x.Real (ss[i]).Real=Zbn (fmx x.Real (ss[i]).Real)
     unfold fmx
     split
     ·exact ⟨hsi.w.ok.real,Zh2 hsi.g⟩
     ·exact ⟨h1,h2⟩
    ·rw [Zor k]
     show fmn x.Real (ss[i]).Real < W64 ∧ fmn x.Real (ss[i]).Real=Zbn (fmn x.Real (ss[i]).Real)
     unfold fmn
     split
     ·exact ⟨hsi.w.ok.real,Zh2 hsi.g⟩
     ·exact ⟨h1,h2⟩
   ·obtain ⟨k1,k2,k3,k4⟩:=Zti h1 h2 (hacts _ (List.getElem_mem hi) hk) (hT hk) h3
    rw [mk,Zhd hk]
    exact .inr (.inr ⟨by rw [k4];exact hk,k2,k3,k1⟩)
  have ih:=Zox hl n (i + 1) (by omega) hs' next
  rw [Zc7,Z3x hi,if_pos rfl,Zdj hi]
  simp only [Option.bind_some]
  unfold Zhb
  rcases hm with hk | ⟨hk,h1,h2⟩ | ⟨hk,h1,h2,h3⟩
  ·rw [Zjb hk] at ih ⊢
   unfold Zd9
   rw [wr1 (by omega)]
   rcases hk with k | k | k
   ·have b2:(x.Kind == (2:Int))=true:=by simp [k]
    simp only [b2,if_true];exact ih
   ·have b2:(x.Kind == (2:Int))=false:=by simp [k]
    have b3:(x.Kind == (3:Int))=true:=by simp [k]
    simp only [b2,b3,if_true,Bool.false_eq_true,if_false];exact ih
   ·have b2:(x.Kind == (2:Int))=false:=by simp [k]
    have b3:(x.Kind == (3:Int))=false:=by simp [k]
    have b4:(x.Kind == (4:Int))=true:=by simp [k]
    simp only [b2,b3,b4,if_true,Bool.false_eq_true,if_false];exact ih
  ·have b2:(x.Kind == (2:Int))=false:=by simp;omega
   have b3:(x.Kind == (3:Int))=false:=by simp;omega
   have b4:(x.Kind == (4:Int))=false:=by simp;omega
   simp only [b2,b3,b4,Bool.false_eq_true,if_false]
   unfold Zd9
   rcases hk with k | k
   ·have b5:(x.Kind == (5:Int))=true:=by simp [k]
    rw [Zof k] at ih ⊢
    simp only [b5,if_true]
    rw [Zxr h1 hsi.w.ok.real h2 (Zh2 hsi.g)]
    simp only [Option.bind_some]
    rw [wr1 (by omega)];exact ih
   ·have b5:(x.Kind == (5:Int))=false:=by simp [k]
    have b6:(x.Kind == (6:Int))=true:=by simp [k]
    rw [Zor k] at ih ⊢
    simp only [b5,b6,Bool.false_eq_true,if_false,if_true]
    rw [Zxy h1 hsi.w.ok.real h2 (Zh2 hsi.g)]
    simp only [Option.bind_some]
    rw [wr1 (by omega)];exact ih
  ·have b2:(x.Kind == (2:Int))=false:=by simp;omega
   have b3:(x.Kind == (3:Int))=false:=by simp;omega
   have b4:(x.Kind == (4:Int))=false:=by simp;omega
   have b5:(x.Kind == (5:Int))=false:=by simp;omega
   have b6:(x.Kind == (6:Int))=false:=by simp;omega
   simp only [b2,b3,b4,b5,b6,Bool.false_eq_true,if_false]
   have hll:(ss[i]).List.length ≤ 1000:=hsi.w.len
   have hl2:=Zq4 (e:=ss[i]) hll (ss[i]).List.length 0 (by omega) h1 h2 hk (hacts _ (List.getElem_mem hi) hk) (by rw [List.drop_zero];exact Zto h3)
   rw [show ((0:Nat):Int)=0 from rfl,List.drop_zero] at hl2
   rw [Zhd hk] at ih ⊢
   unfold Zio Zd9
   rw [show (Int.toNat (((ss[i]).List.length:Int) - (0:Int)) + 1)=(ss[i]).List.length + 1 by omega,hl2]
   simp only [Option.bind_some]
   rw [wr1 (by omega)]
   rcases hk with k | k
   ·have b8:(x.Kind == (8:Int))=true:=by simp [k]
    simp only [b8,if_true];exact ih
   ·have b8:(x.Kind == (8:Int))=false:=by simp [k]
    have b9:(x.Kind == (9:Int))=true:=by simp [k]
    simp only [b8,b9,if_true,Bool.false_eq_true,if_false];exact ih
theorem Z2g {r:Za} {ss:List Za} (hw:RecW r) (hg:Zbx r) (hk:r.Kind ≠ 1 ∧ r.Kind ≠ 7) (hl:ss.length ≤ 1000) (hs:∀ s ∈ ss,Sl r s) (hR:(r.Kind=8 ∨ r.Kind=9) → Room r (mJ r.Kind ss)):Zh8 r ss=some (ss.foldl mrg r):=by
 have h1:=hg.1
 have h2:=hg.2.1
 unfold Zh8
 rw [Zgk hw.len]
 simp only [Option.bind_some]
 have:=Zox hl ss.length 0 (x:=r) (by omega) hs (by
  rw [List.drop_zero]
  by_cases k1:r.Kind=2 ∨ r.Kind=3 ∨ r.Kind=4
  ·exact .inl k1
  ·by_cases k2:r.Kind=5 ∨ r.Kind=6
   ·exact .inr (.inl ⟨k2,hw.ok.real,Zh2 hg⟩)
   ·exact .inr (.inr ⟨by omega,hw,hg,hR (by omega)⟩))
 rw [show ((0:Nat):Int)=0 from rfl,List.drop_zero] at this
 rw [show (Int.toNat ((ss.length:Int) - (0:Int)) + 1)=ss.length + 1 by omega,this]
 rfl
theorem uC_j (l:Zbj) (k:Int) (e:Zd):uC l (mA 8 e)=if hasN l e.Name=true then 0 else 1:=rfl
theorem Z2d {R:Zbj}:∀ {L:Zbj},NS L → (L.length:Int) ≤ (R.length:Int) + su R (L.map (mA 8)):=fun {L} hs=>by
 have h1:∀ L:Zbj,(L.length:Int)=((L.filter fun e=>hasN R e.Name).length:Int) + su R (L.map (mA 8)):=fun L=>by
  induction L with
  | nil=>rfl
  | cons e L ih =>
   rw [List.map_cons]
   simp only [su,List.length_cons]
   rw [uC_j R 8 e]
   by_cases h:hasN R e.Name=true
   ·rw [List.filter_cons_of_pos (p:=fun e:Zd=>hasN R e.Name) h,if_pos h,List.length_cons];omega
   ·rw [List.filter_cons_of_neg (p:=fun e:Zd=>hasN R e.Name) h,if_neg h];omega
 have h2:=Zxz (A:=L.filter fun e=>hasN R e.Name) (B:=R) (List.Pairwise.sublist List.filter_sublist hs) (fun e he=>(List.mem_filter.1 he).2)
 have:=h1 L
 omega
theorem Z6m {R:Zbj} {L:Zbj} (hs:NS L) (s:ByteArray):su R ((layL { Score:=0,Name:=s } true L).map (mA 8)) ≤ su R (L.map (mA 8)) + (if hasN R s=true then 0 else 1):=by
 rw [Zkn]
 split
 ·split <;> omega
 ·have h:su R (L.map (mA 8))=su R ((L.take (pre (fun e=>sLt e.Name s) L)).map (mA 8)) + su R ((L.drop (pre (fun e=>sLt e.Name s) L)).map (mA 8)):=by
   rw [← Zi4,← List.map_append,List.take_append_drop]
  rw [List.map_append,List.map_append,Zi4,Zi4,h,List.map_cons,List.map_nil]
  simp only [su]
  rw [uC_j R 8]
  show _ + ((if hasN R s=true then 0 else 1) + 0) + _ ≤ _
  omega
structure EInv (r:Za) (n:Nat) (ss:List Za) (B:List Zi):Prop where
 len:ss.length=n
 sl:∀ s ∈ ss,Sl r s
 mg:ss.foldl mrg r=effs r B
 su:r.Kind=8 → su r.List (mJ 8 ss) ≤ su r.List B
theorem Ztf:∀ (l:List Za) (x:Za),(l.foldl mrg x).Kind=x.Kind ∧ (l.foldl mrg x).Cap=x.Cap
 | [],x=>⟨rfl,rfl⟩
 | s :: l,x=>by
  obtain ⟨h1,h2⟩:=Ztf l (mrg x s)
  obtain ⟨k1,k2⟩:=Zov x s
  exact ⟨h1.trans k1,h2.trans k2⟩
theorem Zve {r:Za} {a:Zi} (ha:ActD r.Kind a):∀ (l:List Za) {x:Za},x.Kind=r.Kind → x.Cap=r.Cap → (∀ s ∈ l,Sl r s) → l.foldl mrg (eff x a)=eff (l.foldl mrg x) a
 | [],x,_,_,_=>rfl
 | s :: l,x,hk,hc,hs=>by
  obtain ⟨k1,k2⟩:=Zov x s
  rw [List.foldl_cons,List.foldl_cons,Z34 (by rw [hk];exact ha) (Zzd (hs s (List.mem_cons_self ..)) hk hc)]
  exact Zve ha l (k1.trans hk) (k2.trans hc) (fun s h=>hs s (List.mem_cons_of_mem _ h))
theorem Z03 {r:Za} {n:Nat} {ss:List Za} {B:List Zi} (hw:RecW r) (hg:Zbx r) (hI:EInv r n ss B) {a:Zi} (ha:ActD r.Kind a) (hroom:Room r (B ++ [a])) {w:Nat} (h:w < ss.length) :
  Zjm ss[w] a=some (eff ss[w] (sa a)) ∧ EInv r n (ss.set w (eff ss[w] (sa a))) (B ++ [a]):=by
 have hsw:=hI.sl _ (List.getElem_mem h)
 have hsp:ss=ss.take w ++ ss[w] :: ss.drop (w + 1):=by
  rw [← List.drop_eq_getElem_cons h,List.take_append_drop]
 have hset:∀ v,ss.set w v=ss.take w ++ v :: ss.drop (w + 1):=fun v=>by
  rw [List.set_eq_take_append_cons_drop,if_pos h]
 have hmj:∀ v,su r.List (mJ 8 (ss.set w v))=su r.List (mJ 8 (ss.take w)) + su r.List (v.List.map (mA 8)) + su r.List (mJ 8 (ss.drop (w + 1))):=fun v=>by
  rw [hset,Zu6,Zi4,mJ,Zi4];omega
 have hmj0:su r.List (mJ 8 ss)=su r.List (mJ 8 (ss.take w)) + su r.List ((ss[w]).List.map (mA 8)) + su r.List (mJ 8 (ss.drop (w + 1))):=by
  conv=>lhs;rw [hsp]
  rw [Zu6,Zi4,mJ,Zi4];omega
 have hB:su r.List (B ++ [a])=su r.List B + uC r.List a:=by rw [Zi4];simp [su]
 have h8:r.Kind=8 → su r.List ((layL { Score:=0,Name:=a.S } true (ss[w]).List).map (mA 8)) ≤ su r.List ((ss[w]).List.map (mA 8)) + uC r.List a ∧ NS (ss[w]).List:=fun hk=>by
  have hns:=(Zn1 hsw (.inl hk)).2.1 hk
  have ha18:a.Kind=18:=by rcases ha.cases with c | c | c | c | c | c | c <;> omega
  have hua:uC r.List a=if hasN r.List a.S=true then 0 else 1:=by simp [uC,ha18]
  rw [hua]
  exact ⟨Z6m hns a.S,hns⟩
 have hlen:r.Kind=8 → (layL { Score:=0,Name:=a.S } true (ss[w]).List).length ≤ 32:=fun hk=>by
  obtain ⟨q1,q2⟩:=h8 hk
  have q3:=hI.su hk
  have q4:=hroom.1
  have q5:=Z2d (R:=r.List) (Z5t q2 a.S)
  have n1:=Zr7 r.List (mJ 8 (ss.take w))
  have n2:=Zr7 r.List (mJ 8 (ss.drop (w + 1)))
  obtain ⟨c1,c2,c3⟩:=Zko hg (by omega)
  have hu:upR r=r.Cap - (r.List.length:Int):=by simp [upR,hk]
  rw [hu] at q4
  omega
 obtain ⟨d1,d2⟩:=Z71 hsw ha hlen
 refine ⟨d1,by rw [List.length_set];exact hI.len,fun s hs=>?_,?_,fun hk=>?_⟩
 ·rcases List.mem_or_eq_of_mem_set hs with hs | rfl
  ·exact hI.sl s hs
  ·exact d2
 ·obtain ⟨k1,k2⟩:=Ztf (ss.take w) r
  have hm:=hI.mg
  rw [hsp,List.foldl_append,List.foldl_cons] at hm
  rw [hset,List.foldl_append,List.foldl_cons,Z6z (by rw [k1];exact ha) (Zzd hsw k1 k2)]
  obtain ⟨m1,m2⟩:=Zov ((ss.take w).foldl mrg r) ss[w]
  rw [Zve ha _ (m1.trans k1) (m2.trans k2) (fun s h=>hI.sl s (List.mem_of_mem_drop h)),hm,Zrc]
  rfl
 ·have ha18:a.Kind=18:=by rcases ha.cases with c | c | c | c | c | c | c <;> omega
  have hsa:sa a=a:=by unfold sa;rw [ha18];rfl
  obtain ⟨q1,_⟩:=h8 hk
  have q3:=hI.su hk
  rw [hmj,hsa,Zh7 ha18,hB]
  show _ + su r.List ((layL { Score:=0,Name:=a.S } true (ss[w]).List).map (mA 8)) + _ ≤ _
  omega
theorem Zvl {k:Int} {l:Zbj}:∀ {B:List Zi},(∀ b ∈ B,ActD k b) → k ≠ 3 → k ≠ 4 → k ≠ 8 → su l B=0
 | [],_,_,_,_=>rfl
 | b :: B,h,h3,h4,h8=>by
  have:=Zvl (l:=l) (fun x hx=>h x (List.mem_cons_of_mem _ hx)) h3 h4 h8
  have hc:=(h b (List.mem_cons_self ..)).cases
  simp only [su,this]
  unfold uC
  rw [if_neg (by omega),if_neg (by omega)]
  rfl
theorem Zvd {k:Int}:∀ {B:List Zi},(∀ b ∈ B,ActD k b) → k ≠ 3 → k ≠ 4 → sd B=0
 | [],_,_,_=>rfl
 | b :: B,h,h3,h4=>by
  have:=Zvd (fun x hx=>h x (List.mem_cons_of_mem _ hx)) h3 h4
  have hc:=(h b (List.mem_cons_self ..)).cases
  simp only [sd,this]
  unfold dC
  rw [if_neg (by omega),if_neg (by omega)]
  rfl
theorem Zw8 {r:Za} (hk:r.Kind=8 ∨ r.Kind=9):∀ {l:List Za},(∀ s ∈ l,Sl r s) → ∀ b ∈ mJ r.Kind l,ActD r.Kind b
 | [],_,b,hb=>by cases hb
 | s :: l,h,b,hb=>by
  rcases List.mem_append.1 hb with hb | hb
  ·exact Zqj (h s (List.mem_cons_self ..)) hk b hb
  ·exact Zw8 hk (fun s hs=>h s (List.mem_cons_of_mem _ hs)) b hb
theorem Z5b {r:Za} {ss:List Za} {B:List Zi} (hs:∀ s ∈ ss,Sl r s) (hsu:r.Kind=8 → su r.List (mJ 8 ss) ≤ su r.List B) (hroom:Room r B) (hk:r.Kind=8 ∨ r.Kind=9):Room r (mJ r.Kind ss):=by
 have ha:=Zw8 hk hs
 have hsd:=Zvd ha (by omega) (by omega)
 have hdn:dnR r=0:=by unfold dnR;rw [if_neg (by omega),if_neg (by omega)]
 unfold Room
 rw [hsd,hdn]
 refine ⟨?_,Int.le_refl _⟩
 rcases hk with k | k
 ·have:=hsu k
  have:=hroom.1
  rw [k];omega
 ·have:upR r=0:=by unfold upR;rw [if_neg (by omega),if_neg (by omega),if_neg (by omega)]
  rw [Zvl ha (by omega) (by omega) (by omega),this]
  exact Int.le_refl _
theorem Zy9 {r:Za} {n:Nat} {ss:List Za} {B:List Zi} (hw:RecW r) (hg:Zbx r) (hk:r.Kind ≠ 1 ∧ r.Kind ≠ 7) (hn:n ≤ 1000) (hI:EInv r n ss B) (hroom:Room r B):Zh8 r ss=some (effs r B):=by
 rw [Z2g hw hg hk (by rw [hI.len];exact hn) hI.sl (Z5b hI.sl hI.su hroom),hI.mg]
theorem Z4q {r:Za} (hw:RecW r) (hg:Zbx r) (hk:r.Kind ≠ 1 ∧ r.Kind ≠ 7):∃ s0,Zfa r=some (s0,true) ∧ Sl r s0 ∧ s0.List=[] ∧ mrg r s0=r:=by
 have hk':r.Kind=2 ∨ r.Kind=3 ∨ r.Kind=4 ∨ r.Kind=5 ∨ r.Kind=6 ∨ r.Kind=8 ∨ r.Kind=9:=by have:=hg.1;have:=hg.2.1;omega
 have hnum:=hw.num
 unfold I64 at hnum
 have hcr:=Zh2 hg
 unfold Zfa Zf7
 rw [(Zgb hw.ok).2 hg]
 simp only [Option.bind_some,bne_self_eq_false,Bool.false_eq_true,if_false]
 have num:∀ s0:Za,s0.Num=0 → (r.Kind=2 ∨ r.Kind=3 ∨ r.Kind=4) → mrg r s0=r:=fun s0 h0 h=>by
  rw [Zjb h,h0,Int.add_zero,wr hnum.1 hnum.2]
 have lst:∀ s0:Za,s0.List=[] → (r.Kind=8 ∨ r.Kind=9) → mrg r s0=r:=fun s0 h0 h=>by
  rw [Zhd h,h0];rfl
 have w2:RecW ({ Kind:=(2:Int),Num:=(0:Int),Low:=(0:Int),High:=(0:Int),Real:=(0:Nat),Cap:=(0:Int),Text:=ByteArray.empty,List:=([]:List Zd) }:Za):=Znf ⟨by decide,by decide⟩ (by decide)
 have g2:Zbx ({ Kind:=(2:Int),Num:=(0:Int),Low:=(0:Int),High:=(0:Int),Real:=(0:Nat),Cap:=(0:Int),Text:=ByteArray.empty,List:=([]:List Zd) }:Za):=(Zgb w2.ok).1 (by kernel_rfl)
 rcases hk' with h | h | h | h | h | h | h
 ·rw [h];exact ⟨_,rfl,⟨w2,g2,by rw [h];rfl,fun h8=>by omega,fun h9=>by omega⟩,rfl,num _ rfl (by omega)⟩
 ·rw [h];exact ⟨_,rfl,⟨w2,g2,by rw [h];rfl,fun h8=>by omega,fun h9=>by omega⟩,rfl,num _ rfl (by omega)⟩
 ·rw [h];exact ⟨_,rfl,⟨w2,g2,by rw [h];rfl,fun h8=>by omega,fun h9=>by omega⟩,rfl,num _ rfl (by omega)⟩
 ·rw [h,Zzk]
  have w5:RecW ({ Kind:=(5:Int),Num:=(0:Int),Low:=(0:Int),High:=(0:Int),Real:=INFN,Cap:=(0:Int),Text:=ByteArray.empty,List:=([]:List Zd) }:Za):=Znf ⟨by decide,by decide⟩ (by decide)
  have g5:Zbx ({ Kind:=(5:Int),Num:=(0:Int),Low:=(0:Int),High:=(0:Int),Real:=INFN,Cap:=(0:Int),Text:=ByteArray.empty,List:=([]:List Zd) }:Za):=(Zgb w5.ok).1 (by kernel_rfl)
  refine ⟨_,rfl,⟨w5,g5,by rw [h];rfl,fun h8=>by omega,fun h9=>by omega⟩,rfl,?_⟩
  have e1:=Z46 hw.ok.real hcr
  rw [Zxr hw.ok.real (by decide) hcr (Zh2 g5)] at e1
  rw [Zof h]
  show ({ r with Real:=fmx r.Real INFN }:Za)=r
  rw [Option.some.inj e1]
 ·have n1:Zke=some NANB:=by kernel_rfl
  have n2:isn NANB:=by unfold isn rg INF NANB TOP;decide
  rw [h,n1]
  have w6:RecW ({ Kind:=(6:Int),Num:=(0:Int),Low:=(0:Int),High:=(0:Int),Real:=NANB,Cap:=(0:Int),Text:=ByteArray.empty,List:=([]:List Zd) }:Za):=Znf ⟨by decide,by decide⟩ (by decide)
  have g6:Zbx ({ Kind:=(6:Int),Num:=(0:Int),Low:=(0:Int),High:=(0:Int),Real:=NANB,Cap:=(0:Int),Text:=ByteArray.empty,List:=([]:List Zd) }:Za):=(Zgb w6.ok).1 (by kernel_rfl)
  refine ⟨_,rfl,⟨w6,g6,by rw [h];rfl,fun h8=>by omega,fun h9=>by omega⟩,rfl,?_⟩
  have e1:=Z38 hw.ok.real (show NANB < W64 by decide) hcr n2
  rw [Zxy hw.ok.real (by decide) hcr (Zh2 g6)] at e1
  rw [Zor h]
  show ({ r with Real:=fmn r.Real NANB }:Za)=r
  rw [Option.some.inj e1]
 ·rw [h]
  have w8:RecW ({ Kind:=(8:Int),Num:=(0:Int),Low:=(0:Int),High:=(0:Int),Real:=(0:Nat),Cap:=(32:Int),Text:=ByteArray.empty,List:=([]:List Zd) }:Za):=Znf ⟨by decide,by decide⟩ (by decide)
  have g8:Zbx ({ Kind:=(8:Int),Num:=(0:Int),Low:=(0:Int),High:=(0:Int),Real:=(0:Nat),Cap:=(32:Int),Text:=ByteArray.empty,List:=([]:List Zd) }:Za):=(Zgb w8.ok).1 (by kernel_rfl)
  exact ⟨_,rfl,⟨w8,g8,by rw [h];rfl,fun _=>rfl,fun h9=>by omega⟩,rfl,lst _ rfl (by omega)⟩
 ·rw [h]
  obtain ⟨c1,c2,c3⟩:=Zko hg (by omega)
  have w9:RecW ({ Kind:=(9:Int),Num:=(0:Int),Low:=(0:Int),High:=(0:Int),Real:=(0:Nat),Cap:=r.Cap,Text:=ByteArray.empty,List:=([]:List Zd) }:Za):=Znf ⟨by decide,by decide⟩ (by decide)
  have g9:Zbx ({ Kind:=(9:Int),Num:=(0:Int),Low:=(0:Int),High:=(0:Int),Real:=(0:Nat),Cap:=r.Cap,Text:=ByteArray.empty,List:=([]:List Zd) }:Za) :=
   ⟨by show (1:Int) ≤ 9;decide,by show (9:Int) ≤ 9;decide,by kernel_rfl,by show (0:Nat) ≤ 64;decide,fun h=>(by cases h),by kernel_rfl,fun _=>⟨c1,c2,by show ((0:Nat):Int) ≤ r.Cap;omega,fun i hi=>by cases hi⟩⟩
  exact ⟨_,rfl,⟨w9,g9,by rw [h];rfl,fun h8=>by omega,fun _=>rfl⟩,rfl,lst _ rfl (by omega)⟩
theorem Zzo {r s0:Za} (hs:Sl r s0) (h0:s0.List=[]) (hm:mrg r s0=r) (n:Nat):EInv r n (List.replicate n s0) []:=by
 refine ⟨List.length_replicate,fun s h=>by rw [List.eq_of_mem_replicate h];exact hs,?_,fun _=>?_⟩
 ·induction n with
  | zero=>rfl
  | succ n ih=>rw [List.replicate_succ,List.foldl_cons,hm,ih]
 ·have:mJ 8 (List.replicate n s0)=[]:=by
   induction n with
   | zero=>rfl
   | succ n ih=>rw [List.replicate_succ,mJ,h0,ih];rfl
  rw [this]
  exact Int.le_refl _
theorem Zrt {r s0:Za} {ok:Bool} (hs:Zfa r=some (s0,ok)) {n:Int} {F:Nat → List Za → Int → Option (List Za)}
  (hF:∀ k x (i:Int),F (k + 1) x i=(if (decide (i < ((List.replicate (Int.toNat n) (default:Za)).length:Int))) then ((Zfa r).bind fun r16=>((idx x i).bind fun e18=>((F k) (x.set (Int.toNat i) r16.1) (IntKind.i64.wrap (i + (1:Int)))))) else (some x))) (hn:n ≤ 1000):∀ (m i:Nat),i + m=n.toNat → F (m + 1) (List.replicate i s0 ++ List.replicate m default) (i:Int)=some (List.replicate n.toNat s0)
 | 0,i,h=>by
  rw [hF,if_neg (by rw [List.length_replicate,decide_eq_true_eq];omega),List.replicate_zero,List.append_nil,show i=n.toNat by omega]
 | m + 1,i,h=>by
  rw [hF,if_pos (by rw [List.length_replicate,decide_eq_true_eq];omega),hs]
  simp only [Option.bind_some]
  have hlt:i < (List.replicate i s0 ++ List.replicate (m + 1) (default:Za)).length:=by simp
  rw [Zdj hlt]
  simp only [Option.bind_some,Int.toNat_natCast]
  have hset:(List.replicate i s0 ++ List.replicate (m + 1) (default:Za)).set i s0=List.replicate (i + 1) s0 ++ List.replicate m default:=by
   rw [List.set_append_right _ _ (by simp),List.length_replicate,Nat.sub_self,List.replicate_succ,List.set_cons_zero,List.replicate_succ',List.append_assoc]
   try rfl
  rw [hset,wr1 (by omega)]
  exact Zrt hs hF hn m (i + 1) (by omega)
theorem Zr9 {x:Za} (h:RecW x):Zej x x=some true:=by rw [Zt1 h.ok h.ok,Z69]
theorem Z0v {r:Za} {l:List Zu} (h:Room r (Zdz l)) (i:Nat):Room r (Zdz (l.take i)):=by
 have hsp:Zdz l=Zdz (l.take i) ++ Zdz (l.drop i):=by
  show List.map _ _=List.map _ _ ++ List.map _ _
  rw [← List.map_append,List.take_append_drop]
 rw [hsp] at h
 exact Zto h
theorem Z0m {r:Za} (hw:RecW r) (hg:Zbx r) (hk:r.Kind ≠ 1 ∧ r.Kind ≠ 7) {n:Int} (hn:1 ≤ n ∧ n ≤ 8) {l:List Zu} {b:Bool} (hl:l.length ≤ 1000) (hd:∀ d ∈ l,ActD r.Kind d.Act ∧ 0 ≤ d.Worker ∧ d.Worker < n) (hroom:Room r (Zdz l)):∀ (m i:Nat) {ss:List Za},i + m=l.length → EInv r n.toNat ss (Zdz (l.take i)) → Zcn r n (l,b) (m + 1) ss (i:Int)=some (.inr ())
 | 0,i,ss,h,hI=>by rw [Zcn,if_neg (by simp;omega)]
 | m + 1,i,ss,h,hI=>by
  have hi:i < l.length:=by omega
  obtain ⟨d1,d2,d3⟩:=hd _ (List.getElem_mem hi)
  obtain ⟨w,hwk⟩:=Int.eq_ofNat_of_zero_le d2
  have hwl:w < ss.length:=by rw [hI.len];omega
  have htake:Zdz (l.take (i + 1))=Zdz (l.take i) ++ [(l[i]).Act]:=by
   show List.map _ _=List.map _ _ ++ _
   rw [List.take_succ_eq_append_getElem hi,List.map_append]
   rfl
  have hr1:=Z0v hroom (i + 1)
  obtain ⟨s1,s2⟩:=Z03 hw hg hI d1 (by rw [← htake];exact hr1) hwl
  rw [← htake] at s2
  rw [Zcn,if_pos (by simp;omega),Zdj hi]
  simp only [Option.bind_some]
  rw [if_neg (by simp;omega),hwk]
  rw [Zdj hwl]
  simp only [Option.bind_some]
  rw [s1]
  simp only [Option.bind_some,Int.toNat_natCast]
  rw [wr1 (by omega)]
  have hcut:cut l (0:Int) ((i + 1:Nat):Int)=some (l.take (i + 1)):=by
   unfold cut
   rw [if_pos (by omega)]
   simp
  rw [hcut]
  simp only [Option.bind_some]
  have haf:=Zrd (l:=l.take (i + 1)) (i:=0) (by rw [List.length_take];omega) (Nat.zero_le _) hw hg (fun d h=>(hd d (List.mem_of_mem_take h)).1) hr1
  rw [show ((0:Nat):Int)=0 from rfl] at haf
  rw [haf]
  have hef:=Zvw hw hg (B:=Zdz (l.take (i + 1))) (fun b hb=>by
   obtain ⟨d,h,rfl⟩:=List.mem_map.1 hb
   exact (hd d (List.mem_of_mem_take h)).1) hr1
  simp only [Option.bind_some,Bool.not_true,Bool.not_false,gd_t]
  rw [Zy9 hw hg hk (by omega) s2 hr1]
  simp only [Option.bind_some]
  rw [Zr9 hef.1]
  simp only [Option.bind_some,Bool.not_true,Bool.or_self,Bool.false_eq_true,if_false]
  exact Z0m hw hg hk hn hl hd hroom m (i + 1) (by omega) s2
theorem Zz0 {r:Za} (hw:RecW r) (hg:Zbx r) {l:List Zu} {b:Bool} (hl:l.length ≤ 1000) (hd:∀ d ∈ l,ActD r.Kind d.Act) (hroom:Room r (Zdz l)):∀ (m i:Nat),i + m=l.length → Zcp r (l,b) (effs r (Zdz l),true) (m + 1) (i:Int)=some (.inr ())
 | 0,i,h=>by rw [Zcp,if_neg (by simp;omega)]
 | m + 1,i,h=>by
  have hef:=Zvw hw hg (B:=Zdz l) (fun b hb=>by
   obtain ⟨d,h,rfl⟩:=List.mem_map.1 hb
   exact hd d h) hroom
  rw [Zcp,if_pos (by simp;omega),Zrd hl (by omega) hw hg hd hroom]
  simp only [Option.bind_some,Bool.not_true,Bool.not_false,gd_t]
  rw [Zr9 hef.1]
  simp only [Option.bind_some,Bool.not_true,Bool.or_self,Bool.false_eq_true,if_false]
  rw [wr1 (by omega)]
  exact Zz0 hw hg hl hd hroom m (i + 1) (by omega)
theorem ShareEscrow_true (a0:Za) (a1:Int) (a2:List Zu) (w0:Zho a0) (w1:(IntKind.i64).min ≤ a1 ∧ a1 ≤ (IntKind.i64).max) (w2:a2.length ≤ maxLen ∧ ∀ e0 ∈ a2,Zfz e0):Zfw a0 a1 a2=some true:=by
 unfold Zfw
 rw [Z4h]
 simp only [Option.bind_some,Bool.not_true,Bool.false_eq_true,if_false]
 rcases big7 w0 w2.2 with h | ⟨h,hw,hl,ha⟩
 ·rw [h];rfl
 ·rw [h]
  obtain ⟨c,c1,c2⟩:=Zkt hw.ok
  simp only [Option.bind_some,Bool.not_false,gd_t]
  rw [c2]
  simp only [Option.bind_some,Bool.false_or]
  by_cases h0:c=0
  ·subst h0
   have hg:=(Zgb hw.ok).1 c1
   rw [if_neg (by simp)]
   rcases Z2j (n:=a1) hw hg (by omega) ha with ⟨e,hk⟩ | ⟨Y,e,h1,h2,h3,h4,h5,h6,h7⟩
   ·rw [e]
    simp only [Option.bind_some,Bool.not_false,if_true]
    have:((((decide (a1 < (1:Int))) || (decide ((8:Int) < a1))) || (a0.Kind == (1:Int))) || (a0.Kind == (7:Int)))=true:=by
     simp only [Bool.or_eq_true,decide_eq_true_eq,beq_iff_eq]
     omega
    rw [this]
   ·rw [e]
    simp only [Option.bind_some,Bool.not_true,Bool.false_eq_true,if_false]
    rw [if_pos (by omega)]
    obtain ⟨s0,q1,q2,q3,q4⟩:=Z4q hw hg ⟨h3,h4⟩
    have st:=Zrt q1 (n:=a1) (F:=Zc3 a0 a1) (fun k x i=>by rw [Zc3]) (by omega) a1.toNat 0 (by omega)
    rw [show ((0:Nat):Int)=0 from rfl,List.replicate_zero,List.nil_append] at st
    rw [List.length_replicate,show (Int.toNat ((a1.toNat:Int) - (0:Int)) + 1)=a1.toNat + 1 by omega,st]
    simp only [Option.bind_some]
    have l2:=Z0m hw hg ⟨h3,h4⟩ ⟨h1,h2⟩ (b:=true) (by omega) h6 h7 Y.length 0 (by omega) (Zzo q2 q3 q4 a1.toNat)
    rw [show ((0:Nat):Int)=0 from rfl] at l2
    rw [show (Int.toNat ((Y.length:Int) - (0:Int)) + 1)=Y.length + 1 by omega,l2]
    simp only [Option.bind_some]
    have hd:∀ d ∈ Y,ActD a0.Kind d.Act:=fun d h=>(h6 d h).1
    have haf:=Zrd (l:=Y) (i:=0) (by omega) (Nat.zero_le _) hw hg hd h7
    rw [show ((0:Nat):Int)=0 from rfl] at haf
    rw [haf]
    simp only [Option.bind_some]
    have l3:=Zz0 hw hg (b:=true) (by omega) hd h7 Y.length 0 (by omega)
    rw [show ((0:Nat):Int)=0 from rfl] at l3
    rw [l3]
    rfl
  ·rw [if_pos (by simpa using h0)]
end Go.CL
namespace Go.CL
open Go Go.RowKit Go.Proofs Go.ChangeShapes Go.WideShapes Go.ChangeAt
theorem Z2n:ownKnob Tryd.prog.godebug=none:=by kernel_rfl
theorem Zp3:laidOutB Tryd.prog=true:=by kernel_rfl
theorem op_3:Opn Tryd.prog 3 (Kd.int .i64) (fun x=>((IntKind.i64).min ≤ x ∧ x ≤ (IntKind.i64).max)):=Zw7 Tryd.underlying3 (by kernel_rfl)
theorem op_2:Opn Tryd.prog 2 (Kd.int .i64) (fun x=>((IntKind.i64).min ≤ x ∧ x ≤ (IntKind.i64).max)):=Zw7 Tryd.underlying2 (by kernel_rfl)
theorem Zya:Opn Tryd.prog 22 Kd.flt (fun x=>(x < 2 ^ 64)):=Z5g Tryd.underlying22 (by kernel_rfl)
theorem op_9:Opn Tryd.prog 9 Kd.str (fun x=>(x.size ≤ maxLen)):=Z4z Tryd.underlying9 (by kernel_rfl)
theorem Z8i:Opn Tryd.prog 75 Zp Znb:=⟨by kernel_rfl,fun hg h=>by
 obtain ⟨hl,n,hf⟩:=Zl3 Tryd.underlying75 h
 obtain ⟨y0,h0⟩:=hf 0 _ rfl
 obtain ⟨v0,k0,w0⟩:=Zya.op hg h0
 obtain ⟨y1,h1⟩:=hf 1 _ rfl
 obtain ⟨v1,k1,w1⟩:=op_9.op hg h1
 refine ⟨⟨v0,v1⟩,⟨hl.trans (by kernel_rfl),(Qc.2 ⟨k0,(Qc.2 ⟨k1,(fun _ h=>by cases h)⟩)⟩)⟩,w0,w1⟩,fun h=>Zm5 Tryd.underlying75 h⟩
theorem Z8q:Opn Tryd.prog 23 Zp.sl (fun x=>(x.length ≤ maxLen ∧ ∀ e0 ∈ x,(Znb e0))):=Z0x Tryd.underlying23 (by kernel_rfl) Z8i (by decide)
theorem Z3s:Opn Tryd.prog 25 Zc Zho:=⟨by kernel_rfl,fun hg h=>by
 obtain ⟨hl,n,hf⟩:=Zl3 Tryd.underlying25 h
 obtain ⟨y0,h0⟩:=hf 0 _ rfl
 obtain ⟨v0,k0,w0⟩:=op_3.op hg h0
 obtain ⟨y1,h1⟩:=hf 1 _ rfl
 obtain ⟨v1,k1,w1⟩:=op_2.op hg h1
 obtain ⟨y2,h2⟩:=hf 2 _ rfl
 obtain ⟨v2,k2,w2⟩:=op_2.op hg h2
 obtain ⟨y3,h3⟩:=hf 3 _ rfl
 obtain ⟨v3,k3,w3⟩:=op_2.op hg h3
 obtain ⟨y4,h4⟩:=hf 4 _ rfl
 obtain ⟨v4,k4,w4⟩:=Zya.op hg h4
 obtain ⟨y5,h5⟩:=hf 5 _ rfl
 obtain ⟨v5,k5,w5⟩:=op_3.op hg h5
 obtain ⟨y6,h6⟩:=hf 6 _ rfl
 obtain ⟨v6,k6,w6⟩:=op_9.op hg h6
 obtain ⟨y7,h7⟩:=hf 7 _ rfl
 obtain ⟨v7,k7,w7⟩:=Z8q.op hg h7
 refine ⟨⟨v0,v1,v2,v3,v4,v5,v6,v7⟩,⟨hl.trans (by kernel_rfl),(Qc.2 ⟨k0,(Qc.2 ⟨k1,(Qc.2 ⟨k2,(Qc.2 ⟨k3,(Qc.2 ⟨k4,(Qc.2 ⟨k5,(Qc.2 ⟨k6,(Qc.2 ⟨k7,(fun _ h=>by cases h)⟩)⟩)⟩)⟩)⟩)⟩)⟩)⟩)⟩,w0,w1,w2,w3,w4,w5,w6,w7⟩,fun h=>Zm5 Tryd.underlying25 h⟩
theorem op_4:Opn Tryd.prog 4 Kd.bool (fun x=>True):=Z1t Tryd.underlying4 (by kernel_rfl)
theorem Z8c:Opn Tryd.prog 37 Z1 Zl4:=⟨by kernel_rfl,fun hg h=>by
 obtain ⟨hl,n,hf⟩:=Zl3 Tryd.underlying37 h
 obtain ⟨y0,h0⟩:=hf 0 _ rfl
 obtain ⟨v0,k0,w0⟩:=op_3.op hg h0
 obtain ⟨y1,h1⟩:=hf 1 _ rfl
 obtain ⟨v1,k1,w1⟩:=op_9.op hg h1
 obtain ⟨y2,h2⟩:=hf 2 _ rfl
 obtain ⟨v2,k2,w2⟩:=op_2.op hg h2
 obtain ⟨y3,h3⟩:=hf 3 _ rfl
 obtain ⟨v3,k3,w3⟩:=Zya.op hg h3
 obtain ⟨y4,h4⟩:=hf 4 _ rfl
 obtain ⟨v4,k4,w4⟩:=op_9.op hg h4
 obtain ⟨y5,h5⟩:=hf 5 _ rfl
 obtain ⟨v5,k5,w5⟩:=Z3s.op hg h5
 obtain ⟨y6,h6⟩:=hf 6 _ rfl
 obtain ⟨v6,k6,w6⟩:=op_4.op hg h6
 refine ⟨⟨v0,v1,v2,v3,v4,v5,v6⟩,⟨hl.trans (by kernel_rfl),(Qc.2 ⟨k0,(Qc.2 ⟨k1,(Qc.2 ⟨k2,(Qc.2 ⟨k3,(Qc.2 ⟨k4,(Qc.2 ⟨k5,(Qc.2 ⟨k6,(fun _ h=>by cases h)⟩)⟩)⟩)⟩)⟩)⟩)⟩)⟩,w0,w1,w2,w3,w4,w5,w6⟩,fun h=>Zm5 Tryd.underlying37 h⟩
theorem Z8k:Opn Tryd.prog 39 Z9 Zfz:=⟨by kernel_rfl,fun hg h=>by
 obtain ⟨hl,n,hf⟩:=Zl3 Tryd.underlying39 h
 obtain ⟨y0,h0⟩:=hf 0 _ rfl
 obtain ⟨v0,k0,w0⟩:=op_3.op hg h0
 obtain ⟨y1,h1⟩:=hf 1 _ rfl
 obtain ⟨v1,k1,w1⟩:=Z8c.op hg h1
 refine ⟨⟨v0,v1⟩,⟨hl.trans (by kernel_rfl),(Qc.2 ⟨k0,(Qc.2 ⟨k1,(fun _ h=>by cases h)⟩)⟩)⟩,w0,w1⟩,fun h=>Zm5 Tryd.underlying39 h⟩
theorem Z8f:Opn Tryd.prog 40 Z9.sl (fun x=>(x.length ≤ maxLen ∧ ∀ e0 ∈ x,(Zfz e0))):=Z0x Tryd.underlying40 (by kernel_rfl) Z8k (by decide)
theorem Z3u:Det Tryd.prog 9:=Z39 Tryd.underlying9
theorem Z77:Det Tryd.prog 3:=Z4b Tryd.underlying3
theorem Z4x:Det Tryd.prog 108:=Zyl Tryd.underlying108 (fun i f h=>match i,f,h with
 | 0,_,h=>by obtain rfl:=Option.some.inj h;exact Z3u
 | 1,_,h=>by obtain rfl:=Option.some.inj h;exact Z77
 | 2,_,h=>by obtain rfl:=Option.some.inj h;exact Z3u
 | _ + 3,_,h=>by cases h) (by kernel_rfl)
theorem Z47:Det Tryd.prog 127:=Z5i Tryd.underlying127 Z4x (by kernel_rfl)
theorem ShareEscrow_met (os : Os) (args : Array Value) : laidMetH Tryd.prog [("moiety/act.kinds", Go.Proofs.YtbiobpmabomjfaaDoor.Rows.laid_moiety_act_kinds)] ((World.doorLaid Tryd.prog 400 os).forCall (fun _ _ => 0) ⟨#[], args, []⟩).memory :=
 laidMetH_of_parts3 (fuel:=8) (laidMet_of_run' 8 (by kernel_rfl) (by kernel_rfl)) (by kernel_rfl) (by kernel_rfl)
theorem ShareEscrow_gl {W : World} (h : laidMetH Tryd.prog [("moiety/act.kinds", Go.Proofs.YtbiobpmabomjfaaDoor.Rows.laid_moiety_act_kinds)] W) : GLok W (fun b _ => b < W.heap.size) := by
 have g0 := Z13 (P := Tryd.prog) (nm := "moiety/act.kinds") (d := Go.Proofs.YtbiobpmabomjfaaDoor.Rows.laid_moiety_act_kinds) (g := 1) (t := 127) (W := W) (w0 := W) (cells := [.string ⟨#[]⟩, .int .i64 (0), .string ⟨#[]⟩, .string ⟨#[110, 101, 119]⟩, .int .i64 (0), .string ⟨#[109]⟩, .string ⟨#[100, 114, 111, 112]⟩, .int .i64 (0), .string ⟨#[]⟩, .string ⟨#[105, 115]⟩, .int .i64 (0), .string ⟨#[]⟩, .string ⟨#[108, 111, 111, 107]⟩, .int .i64 (0), .string ⟨#[]⟩, .string ⟨#[112, 117, 116]⟩, .int .i64 (1), .string ⟨#[115]⟩, .string ⟨#[115, 119, 97, 112]⟩, .int .i64 (1), .string ⟨#[115]⟩, .string ⟨#[97, 100, 100]⟩, .int .i64 (2), .string ⟨#[110]⟩, .string ⟨#[112, 108, 117, 115]⟩, .int .i64 (3), .string ⟨#[110]⟩, .string ⟨#[114, 101, 97, 99, 104]⟩, .int .i64 (3), .string ⟨#[110]⟩, .string ⟨#[105, 110]⟩, .int .i64 (4), .string ⟨#[110]⟩, .string ⟨#[111, 117, 116]⟩, .int .i64 (4), .string ⟨#[110]⟩, .string ⟨#[101, 110, 111, 117, 103, 104]⟩, .int .i64 (4), .string ⟨#[110]⟩, .string ⟨#[114, 97, 105, 115, 101]⟩, .int .i64 (5), .string ⟨#[120]⟩, .string ⟨#[108, 111, 119, 101, 114]⟩, .int .i64 (6), .string ⟨#[120]⟩, .string ⟨#[115, 104, 105, 102, 116]⟩, .int .i64 (7), .string ⟨#[120]⟩, .string ⟨#[115, 99, 97, 108, 101]⟩, .int .i64 (7), .string ⟨#[120]⟩, .string ⟨#[102, 105, 120]⟩, .int .i64 (7), .string ⟨#[120]⟩, .string ⟨#[106, 111, 105, 110]⟩, .int .i64 (8), .string ⟨#[115]⟩, .string ⟨#[108, 101, 97, 118, 101]⟩, .int .i64 (8), .string ⟨#[115]⟩, .string ⟨#[104, 97, 115]⟩, .int .i64 (8), .string ⟨#[115]⟩, .string ⟨#[111, 102, 102, 101, 114]⟩, .int .i64 (9), .string ⟨#[120, 115]⟩]) (fu := 8) (by kernel_rfl) (by kernel_rfl) Z47 (by kernel_rfl) (by kernel_rfl) h
 intro e he i v hv
 rcases List.mem_cons.1 he with rfl | he
 ·exact ⟨(Zpw (g0 i v hv)).2,g0 i v hv⟩
 cases he
theorem ShareEscrow_ret (os:Os) (started:os.Started) (H:Type) (enc:TypeId × Value → H) :
  ReturnsInHanded {} Tryd.checked os 5 .any (fun w args => (Go.Proofs.YtbiobpmabomjfaaDoor.Rows.shareEscrowSpec.pre enc Tryd.prog Tryd.f5 [] false w args ∧ laidMetH Tryd.prog [("moiety/act.kinds", Go.Proofs.YtbiobpmabomjfaaDoor.Rows.laid_moiety_act_kinds)] w) ∧ sizedMet enc Tryd.prog Tryd.f5 (OpenSpec.ofChange Go.Proofs.YtbiobpmabomjfaaDoor.Rows.shareEscrowSpec) false w args) (Go.Proofs.YtbiobpmabomjfaaDoor.Rows.shareEscrowSpec.post enc Tryd.prog Tryd.f5 false true false false) := by
 refine returnsInHanded_of_change_and (C := Tryd.checked) (X := fun w _ => laidMetH Tryd.prog [("moiety/act.kinds", Go.Proofs.YtbiobpmabomjfaaDoor.Rows.laid_moiety_act_kinds)] w) (fun _ _ _ hh h => h.of_heap hh) Z2n started (by kernel_rfl) Tryd.func5
  (ChangeSpec.witness_shaped (enc := enc) (C := Tryd.checked) (os := os) (X := fun w _ => laidMetH Tryd.prog [("moiety/act.kinds", Go.Proofs.YtbiobpmabomjfaaDoor.Rows.laid_moiety_act_kinds)] w) false (World.doorLaid Tryd.prog 400 os) #[.agg #[.int .i64 0, .int .i64 0, .int .i64 0, .int .i64 0, .float .f64 0, .int .i64 0, .string ByteArray.empty, .slice none 0 0], .int .i64 0, .slice none 0 0] 8 rfl (World.shaped_of_RefB (by kernel_rfl) (by kernel_rfl)) (by kernel_rfl) (by kernel_rfl) (by kernel_rfl) (ShareEscrow_met os _)) ?_
 intro W base args ds gs before hval0 hW hcnd _ hL _
 have hval:∀ (j:Nat) t v,Tryd.f5.params[j]?=some t → args[j]?=some v → Value.okWide Tryd.prog W .any base t v:=hval0
 have hW':=hW
 obtain ⟨p,q,hA0,hV,rfl,hfz,hnd⟩:=hW
 have hA:DataW.TrodAll enc Tryd.prog W 0 (fun _=>true) true Tryd.f5.params.toList args.toList ds p:=hA0
 rw [Tryd.params5] at hA hval
 obtain ⟨v0,v1,v2,d0,d1,d2,p0,p1,p2,rfl,rfl,rfl,h0,h1,h2⟩:=trodAll_three hA
 obtain ⟨rfl,rfl⟩:=trodVars_none hV
 simp only [List.append_nil] at hW'
 have hg:GLok W (fun b _=>b < W.heap.size):=(ShareEscrow_gl hL)
 have hk0:=h0
 obtain ⟨a0,q0,w0⟩:=Zva Z3s hg h0 (hval 0 25 v0 rfl rfl)
 have hk1:=h1
 obtain ⟨a1,q1,w1⟩:=Zva op_3 hg h1 (hval 1 3 v1 rfl rfl)
 have hk2:=h2
 obtain ⟨a2,q2,w2⟩:=Zva Z8f hg h2 (hval 2 40 v2 rfl rfl)
 refine (Zlz a0 a1 a2 (ShareEscrow_true a0 a1 a2 w0 w1 w2) (GW W hg) [v0,v1,v2] (Zga q0 (Zga q1 (Zga q2 Zc5)))).mono fun e W' ⟨g',v,he,hw,hs,hq⟩=>?_
 subst he;subst hw
 rw [Zhr.1 hq]
 have hbel:=Z2b hs
 have hlt:∀ x ∈ (p0 ++ p1 ++ p2),x.block < W.heap.size:=fun x hx=>by simpa using hW'.lt x hx
 exact ⟨_,rfl,Zt8 (pv:=[]) hW' hbel (trodAll_mk1 (shut_bool Tryd.underlying4 true)) (trodAll_mk3 (Below.trod Zp3 (by kernel_rfl) (of_decide_eq_true (by kernel_rfl)) hk0 hbel (fun x hx=>hlt x (by simp [hx]))) (Below.trod Zp3 (by kernel_rfl) (of_decide_eq_true (by kernel_rfl)) hk1 hbel (fun x hx=>hlt x (by simp [hx]))) (Below.trod Zp3 (by kernel_rfl) (of_decide_eq_true (by kernel_rfl)) hk2 hbel (fun x hx=>hlt x (by simp [hx])))) rfl⟩
theorem ShareEscrow_holds:Go.Proofs.YtbiobpmabomjfaaDoor.Rows.ShareEscrowSaid :=
 OpenClaim.holds_of_wide 5 Tryd.f5 rfl rfl rfl rfl rfl rfl rfl ⟨rfl,rfl,rfl,rfl,rfl⟩ rfl rfl rfl rfl rfl (by kernel_rfl) Tryd.func5 (by kernel_rfl)
  (of_decide_eq_true (by kernel_rfl)) (by unfold Func.isWrapper;first | (rw [if_pos (by decide +kernel)];kernel_rfl) | (rw [if_neg (by decide +kernel)];exact ⟨rfl,rfl⟩))
  (fun os started H enc _=>ShareEscrow_ret os started H enc)
theorem ShareEscrow_card:Go.Proofs.YtbiobpmabomjfaaDoor.Rows.ShareEscrowCardSaid :=
 Claim7.holds_tied_plain_at .later [] [.data] true (true, "3aa006449d8ddc9dc8d5c5e333f2b4dcad9319e64e39586c0df1deb5178ade36") false
  ShareEscrow_holds (fun _ h=>by cases h) (by kernel_rfl) (fun _ h=>by cases h) Go.Proofs.YtbiobpmabomjfaaDoor.shareEscrow_row_tie rfl ⟨rfl,rfl⟩ (by kernel_rfl) rfl
  (fun f fn hf hfn=>by
   obtain rfl : f = 5 := Option.some.inj ((show Tryd.prog.funcNamed "moiety/moietylaw07.ShareEscrow" = some 5 by kernel_rfl).symm.trans hf) |>.symm
   obtain rfl:fn=Tryd.f5:=(Option.some.inj (Tryd.func5.symm.trans hfn)).symm
   exact ⟨by kernel_rfl,fun j t ht=>by
    rw [Tryd.params5] at ht
    have hm:t ∈ [25,3,40]:=by simpa using Array.mem_of_getElem? ht
    have hall:(([25,3,40]:List TypeId).all fun u=>!Tryd.prog.wantsStandIn u)=true:=by kernel_rfl
    exact (show Tryd.prog.wantsStandIn t=false by simpa using List.all_eq_true.1 hall t hm)⟩)
  (by kernel_rfl)
end Go.CL
