/- A part of the proof of HandSplit. -/
import Derived.Test.YtlanlccmokaajaaGreatDoorHandSplitC7
import Derived.Test.YtlanlccmokaajaaGreatDoorRows
import Derived.Test.YtlanlccmokaajaaGreatDoorCards
import Derived.Test.YtlanlccmokaajaaGreatDoorTie
import Derived.SevenTiedAt
set_option linter.unusedVariables false
set_option linter.unusedSimpArgs false
set_option maxRecDepth 100000
namespace Go.CL
open Go
def kv (p:Zbe):KV:=(p.Key,p.Rec)
def pl (t:Zf):List KV:=t.L.map kv
theorem Zpy (t:Zf) (i:Nat):(pl t)[i]?=(t.L[i]?).map kv:=by simp [pl]
theorem Zew (t:Zf):(pl t).length=t.L.length:=by simp [pl]
theorem Zyc {t:Zf} {k:ByteArray} (hb:t.L.length < 1099511627776):∀ (n i:Nat),i + n=t.L.length →
  Zdj t k (n + 1) (i:Int)=some ((i + rk k ((pl t).drop i):Nat):Int)
 | 0,i,h=>by
  have hd:decide ((i:Int) < (t.L.length:Int))=false:=by simp;omega
  rw [Zdj,hd,List.drop_of_length_le (by rw [Zew];omega)]
  simp [gd,rk]
 | n + 1,i,h=>by
  have hd:decide ((i:Int) < (t.L.length:Int))=true:=by simp;omega
  have hi:i < t.L.length:=by omega
  have hi':i < (pl t).length:=by rw [Zew];exact hi
  rw [Zdj,hd,Zcs hi,List.drop_eq_getElem_cons hi',wr1 (by omega)]
  have hg:(pl t)[i]=kv t.L[i]:=by simp [pl]
  rw [hg]
  simp only [gd_t,Option.bind_some,Bool.true_and,rk]
  by_cases hk:sLt t.L[i].Key k=true
  ·have hk':sLt (kv t.L[i]).1 k=true:=hk
   rw [if_pos hk,if_pos hk',Zyc hb n (i + 1) (by omega)]
   congr 2;omega
  ·have hk':¬ sLt (kv t.L[i]).1 k=true:=hk
   rw [if_neg hk,if_neg hk'];rfl
theorem Zvm {t:Zf} {k:ByteArray} (hb:t.L.length < 1099511627776):Zes t k=some (rk k (pl t):Int):=by
 unfold Zes
 have:=Zyc (k:=k) hb t.L.length 0 (by omega)
 rw [show ((0:Nat):Int)=0 from rfl] at this
 rw [show (Int.toNat ((t.L.length:Int) - (0:Int)) + 1)=t.L.length + 1 by omega,this]
 simp
structure Rel (s:Zk) (t:Zf) (n:Nat):Prop where
 top:toL s.top=pl t
 sz:Szd s.top
 srt:Srt (pl t)
 len:t.L.length ≤ n
 room:s.room=t.Room
 ok:∀ q ∈ pl t,Zie q.2 ∧ q.2.List.length ≤ 100
theorem Rel.cl {s:Zk} {t:Zf} {n:Nat} (h:Rel s t n):∀ q ∈ toL s.top,Cl q.2:=fun q hq=>by
 rw [h.top] at hq
 have:=(h.ok q hq).2
 unfold Cl;omega
theorem Rel.mono {s:Zk} {t:Zf} {n m:Nat} (h:Rel s t n) (hm:n ≤ m):Rel s t m:=⟨h.top,h.sz,h.srt,Nat.le_trans h.len hm,h.room,h.ok⟩
theorem Rel.tl {s:Zk} {t:Zf} {n:Nat} (h:Rel s t n):(toL s.top).length=t.L.length:=by rw [h.top,Zew]
theorem Z9n (r:Int):Rel { top:=.nil,room:=r } { L:=[],Room:=r } 0:=⟨rfl,trivial,List.Pairwise.nil,Nat.le_refl _,rfl,fun q h=>by simp [pl] at h⟩
theorem Z96 {s:Zk} {t:Zf} {n:Nat} (h:Rel s t n) (hn:n < 1000000) (k:ByteArray):Zg1 t k=some (getR (lk k (pl t))):=by
 have hb:=h.len
 unfold Zg1
 rw [Zvm (by omega)]
 simp only [Option.bind_some]
 have hle:=Zts k (pl t)
 rw [Zew] at hle
 by_cases hi:rk k (pl t) < t.L.length
 ·have hd:decide (((rk k (pl t):Nat):Int) < (t.L.length:Int))=true:=by simp;omega
  rw [hd,Zcs hi]
  simp only [gd_t,Option.bind_some,Bool.true_and]
  have hg:(pl t)[rk k (pl t)]?=some (kv t.L[rk k (pl t)]):=by rw [Zpy,List.getElem?_eq_getElem hi];rfl
  rcases Zld default h.srt with ⟨p,a1,a2,a3,_,_⟩ | ⟨a1,a2,_,_⟩
  ·rw [hg] at a1
   obtain rfl:=Option.some.inj a1
   have:sEq (t.L[rk k (pl t)]).Key k=true:=Zdn.2 a2
   rw [if_pos this,a3];rfl
  ·have:sEq (t.L[rk k (pl t)]).Key k=false:=Ze9.2 (a1 _ hg)
   rw [if_neg (by simp [this]),a2];rfl
 ·have hd:decide (((rk k (pl t):Nat):Int) < (t.L.length:Int))=false:=by simp;omega
  rw [hd]
  simp only [gd_f,Option.bind_some,Bool.false_and,Bool.false_eq_true,if_false]
  rcases Zld (k:=k) default h.srt with ⟨p,a1,_⟩ | ⟨_,a2,_,_⟩
  ·have:=(List.getElem?_eq_some_iff.1 a1).1
   rw [Zew] at this;omega
  ·rw [a2];rfl
theorem Znc {s:Zk} {t:Zf} {n:Nat} (h:Rel s t n) (k:ByteArray):Zei s k=some (getR (lk k (pl t))):=by
 rw [Zbax (by rw [h.top];exact h.srt) h.cl,h.top]
theorem Zxr {s:Zk} {t:Zf} {n:Nat} (h:Rel s t n):Zff s=some (t.L.length:Int):=by
 unfold Zff
 rw [Ziw h.sz,h.tl];rfl
theorem Zvt (t:Zf) (i:Nat):(t.L.take i).map kv=(pl t).take i:=by simp [pl]
theorem Zvb (t:Zf) (i:Nat):(t.L.drop i).map kv=(pl t).drop i:=by simp [pl]
theorem Zr6 {s:Zk} {t:Zf} {n:Nat} (h:Rel s t n) (hn:n < 1000000) (k:ByteArray):∃ s' t' b,Zeh s k=some (s',b) ∧ Zg0 t k=some (t',b) ∧ Rel s' t' n ∧ (pl t'=pl t ∨ pl t'=delL k (pl t)):=by
 have hb:=h.len
 have hle:=Zts k (pl t)
 rw [Zew] at hle
 unfold Zeh Zg0
 rw [Znc h,Zvm (by omega)]
 simp only [Option.bind_some]
 rcases Zld default h.srt with ⟨p,a1,a2,a3,_,a5⟩ | ⟨a1,a2,_,a4⟩
 ·have hi:rk k (pl t) < t.L.length:=by
   have:=(List.getElem?_eq_some_iff.1 a1).1
   rwa [Zew] at this
  rw [a3]
  have hd:decide ((t.L.length:Int) ≤ ((rk k (pl t):Nat):Int))=false:=by simp;omega
  have hg:(pl t)[rk k (pl t)]?=some (kv t.L[rk k (pl t)]):=by rw [Zpy,List.getElem?_eq_getElem hi];rfl
  rw [hg] at a1
  obtain rfl:=Option.some.inj a1
  have he:sEq (t.L[rk k (pl t)]).Key k=true:=Zdn.2 a2
  rw [hd,Zcs hi]
  obtain ⟨t1,c1,z1,l1⟩:=Z27 (k:=k) h.sz (by rw [h.top];exact h.srt) (by rw [h.tl];omega)
  rw [c1]
  simp only [getR,Bool.not_true,Bool.false_eq_true,if_false,Option.bind_some,Bool.not_false,gd_t,he,Bool.or_false,Bool.or_self]
  rw [show (0:Int)=((0:Nat):Int) from rfl,Zoh (by omega) (by omega),wr1 (by omega),Zoh (by omega) (by omega)]
  simp only [Option.bind_some,List.nil_append,List.drop_zero,Nat.sub_zero,List.length_nil,Nat.zero_add]
  have ht:(List.take (t.L.length - (rk k (pl t) + 1)) (List.drop (rk k (pl t) + 1) t.L))=List.drop (rk k (pl t) + 1) t.L:=List.take_of_length_le (by simp)
  rw [ht,if_pos (by simp;omega),if_pos (by simp;omega)]
  have hpl:pl { L:=List.take (rk k (pl t)) t.L ++ List.drop (rk k (pl t) + 1) t.L,Room:=t.Room }=delL k (pl t):=by
   rw [a5,← Zvt,← Zvb,← List.map_append];rfl
  refine ⟨_,_,true,rfl,rfl,⟨?_,z1,?_,?_,h.room,?_⟩,.inr hpl⟩
  ·rw [hpl,l1,h.top]
  ·rw [hpl];exact Ztw h.srt
  ·simp;omega
  ·intro q hq
   rw [hpl] at hq
   exact h.ok q (Zn8 hq)
 ·rw [a2]
  simp only [getR,Bool.not_false,if_true]
  by_cases hi:rk k (pl t) < t.L.length
  ·have hd:decide ((t.L.length:Int) ≤ ((rk k (pl t):Nat):Int))=false:=by simp;omega
   have hg:(pl t)[rk k (pl t)]?=some (kv t.L[rk k (pl t)]):=by rw [Zpy,List.getElem?_eq_getElem hi];rfl
   have he:sEq (t.L[rk k (pl t)]).Key k=false:=Ze9.2 (a1 _ hg)
   rw [hd,Zcs hi]
   simp only [Bool.not_false,gd_t,Option.bind_some,he,Bool.false_or,if_true]
   exact ⟨s,t,false,rfl,rfl,h,.inl rfl⟩
  ·have hd:decide ((t.L.length:Int) ≤ ((rk k (pl t):Nat):Int))=true:=by simp;omega
   rw [hd]
   simp only [Bool.not_true,gd_f,Option.bind_some,Bool.true_or,if_true]
   exact ⟨s,t,false,rfl,rfl,h,.inl rfl⟩
theorem Zyi (k:ByteArray):sEq k (⟨#[]⟩:ByteArray)=decide ((k.size:Int) < 1):=by
 by_cases h:k=⟨#[]⟩
 ·subst h;rw [Zc6];decide
 ·rw [Ze9.2 h]
  have:k.size ≠ 0:=fun e=>h (by
   apply ByteArray.ext
   exact Array.size_eq_zero_iff.1 e)
  simp;omega
theorem Zof {s:Zk} {t:Zf} {n:Nat} (h:Rel s t n) (hn:n < 1000000) (k:ByteArray) {x:Zb} (hx:Zie x) (hx2:x.List.length ≤ 100) :
  ∃ s' t' c,Zc9 s k x=some (s',c) ∧ Zfc t k x=some (t',c) ∧ Rel s' t' (n + 1) ∧ (pl t'=pl t ∨ (pl t'=insL k x (pl t) ∧ Zex x=some 0 ∧ ¬ (k.size:Int) < 1 ∧ ¬ (24:Int) < (k.size:Int))):=by
 have hb:=h.len
 have hle:=Zts k (pl t)
 rw [Zew] at hle
 obtain ⟨c,hc1,hc2⟩:=Znn hx
 unfold Zc9 Zfc
 rw [hc1,hc2,Znc h,Zvm (by omega),Zxr h,Zrq (by unfold Cl;omega),Zyi,h.room]
 by_cases h1:(decide ((k.size:Int) < 1) || decide ((24:Int) < (k.size:Int)))=true
 ·rw [if_pos h1,if_pos h1]
  exact ⟨s,t,1,rfl,rfl,h.mono (by omega),.inl rfl⟩
 ·rw [if_neg h1,if_neg h1]
  simp only [Option.bind_some]
  by_cases h2:(c != 0)=true
  ·rw [if_pos h2,if_pos h2]
   exact ⟨s,t,c,rfl,rfl,h.mono (by omega),.inl rfl⟩
  ·rw [if_neg h2,if_neg h2]
   obtain ⟨t1,e1,z1,l1⟩:=Z3m (k:=k) (x:=x) h.sz (by rw [h.top];exact h.srt) (by rw [h.tl];omega)
   rw [e1]
   have h20:c=0:=by simpa using h2
   have h11:¬ (k.size:Int) < 1:=fun h'=>h1 (by simp [h'])
   have h12:¬ (24:Int) < (k.size:Int):=fun h'=>h1 (by simp [h'])
   have hmk:∀ L':List Zbe,L'.map kv=insL k x (pl t) → Rel { top:=t1,room:=t.Room } { L:=L',Room:=t.Room } (n + 1) ∧ (pl { L:=L',Room:=t.Room }=pl t ∨ (pl { L:=L',Room:=t.Room }=insL k x (pl t) ∧ some c=some (0:Int) ∧ ¬ (k.size:Int) < 1 ∧ ¬ (24:Int) < (k.size:Int))):=fun L' hL=>by
    have hpl:pl { L:=L',Room:=t.Room }=insL k x (pl t):=hL
    refine ⟨⟨by rw [hpl,l1,h.top],z1,by rw [hpl];exact Zt9 h.srt,?_,rfl,?_⟩,.inr ⟨hpl,by rw [h20],h11,h12⟩⟩
    ·have:=Zp5 k x (pl t)
     rw [← hL,Zew] at this
     simp at this
     show L'.length ≤ n + 1
     omega
    ·intro q hq
     rw [hpl] at hq
     rcases Zqx hq with rfl | hq
     ·exact ⟨hx,hx2⟩
     ·exact h.ok q hq
   rcases Zld x h.srt with ⟨p,a1,a2,a3,a4,_⟩ | ⟨a1,a2,a3,_⟩
   ·have hi:rk k (pl t) < t.L.length:=by
     have:=(List.getElem?_eq_some_iff.1 a1).1
     rwa [Zew] at this
    have hd:decide (((rk k (pl t):Nat):Int) < (t.L.length:Int))=true:=by simp;omega
    have hg:(pl t)[rk k (pl t)]?=some (kv t.L[rk k (pl t)]):=by rw [Zpy,List.getElem?_eq_getElem hi];rfl
    rw [hg] at a1
    obtain rfl:=Option.some.inj a1
    have he:sEq (t.L[rk k (pl t)]).Key k=true:=Zdn.2 a2
    rw [a3,hd,Zcs hi]
    simp only [getR,Bool.not_true,Bool.false_and,Bool.false_eq_true,if_false,gd_f,gd_t,Option.bind_some,he,Bool.and_self,Bool.true_and,if_true]
    rw [show (0:Int)=((0:Nat):Int) from rfl,Zoh (by omega) (by omega),wr1 (by omega)]
    simp only [Option.bind_some,List.nil_append,List.drop_zero,Nat.sub_zero,List.length_nil,Nat.zero_add,Zfd]
    rw [if_pos (by simp;omega),if_pos (by simp;omega),Zoh (by omega) (by omega)]
    have ht:(List.take (t.L.length - (rk k (pl t) + 1)) (List.drop (rk k (pl t) + 1) t.L))=List.drop (rk k (pl t) + 1) t.L:=List.take_of_length_le (by simp)
    simp only [Option.bind_some,ht,List.nil_append]
    rw [if_pos (by simp;omega)]
    refine ⟨_,_,0,rfl,rfl,hmk _ ?_⟩
    rw [a4];simp [Zvt,Zvb,kv,pl]
   ·rw [a2]
    simp only [getR,Bool.not_false,gd_t,Option.bind_some,Bool.true_and]
    have hne:(decide (((rk k (pl t):Nat):Int) < (t.L.length:Int)) && sEq (((gd (decide (((rk k (pl t):Nat):Int) < (t.L.length:Int))) (idx t.L ((rk k (pl t):Nat):Int))).getD default).Key) k)=false:=by
     by_cases hi:rk k (pl t) < t.L.length
     ·have hg:(pl t)[rk k (pl t)]?=some (kv t.L[rk k (pl t)]):=by rw [Zpy,List.getElem?_eq_getElem hi];rfl
      have he:sEq (t.L[rk k (pl t)]).Key k=false:=Ze9.2 (a1 _ hg)
      have hd:decide (((rk k (pl t):Nat):Int) < (t.L.length:Int))=true:=by simp;omega
      rw [hd,Zcs hi]
      simp [gd,he]
     ·have hd:decide (((rk k (pl t):Nat):Int) < (t.L.length:Int))=false:=by simp;omega
      rw [hd];rfl
    have hex:∃ e,gd (decide (((rk k (pl t):Nat):Int) < (t.L.length:Int))) (idx t.L ((rk k (pl t):Nat):Int))=some e:=by
     by_cases hi:rk k (pl t) < t.L.length
     ·rw [Zcs hi]
      cases decide (((rk k (pl t):Nat):Int) < (t.L.length:Int)) <;> exact ⟨_,rfl⟩
     ·have hd:decide (((rk k (pl t):Nat):Int) < (t.L.length:Int))=false:=by simp;omega
      rw [hd];exact ⟨_,rfl⟩
    obtain ⟨e,hee⟩:=hex
    rw [hee] at hne ⊢
    simp only [Option.getD_some] at hne
    simp only [Option.bind_some,hne,Bool.not_false,Bool.true_and]
    by_cases h5:decide (t.Room ≤ (t.L.length:Int))=true
    ·rw [if_pos h5,if_pos h5]
     exact ⟨s,t,8,rfl,rfl,h.mono (by omega),.inl rfl⟩
    ·rw [if_neg h5,if_neg h5]
     rw [show (0:Int)=((0:Nat):Int) from rfl,Zoh (by omega) (by omega)]
     simp only [Option.bind_some,List.nil_append,List.drop_zero,Nat.sub_zero,List.length_nil,Nat.zero_add,Zfd,Bool.false_eq_true,if_false]
     rw [if_pos (by simp;omega),if_pos (by simp;omega),Zoh (by omega) (by omega)]
     have ht:(List.take (t.L.length - rk k (pl t)) (List.drop (rk k (pl t)) t.L))=List.drop (rk k (pl t)) t.L:=List.take_of_length_le (by simp)
     simp only [Option.bind_some,ht,List.nil_append]
     rw [if_pos (by simp;omega)]
     refine ⟨_,_,0,rfl,rfl,hmk _ ?_⟩
     rw [a3];simp [Zvt,Zvb,kv,pl]
theorem Z03:∀ l:List Zi,eqL l l=true
 | []=>rfl
 | x :: l=>by simp [eqL,eqI,Zc6,Z03 l]
theorem Zwq (a:Zb):Zk3 a a=true:=by simp [Zk3,Zc6,Z03]
theorem Z2o {s:Zk} {t:Zf} {m:Nat} (h:Rel s t m) (hm:m < 1000000):∀ (n i:Nat),i + n=t.L.length → Zfx s t (n + 1) (i:Int)=some (.inr ())
 | 0,i,hi=>by
  rw [Zfx,if_neg (by simp;omega)]
 | n + 1,i,hi=>by
  have hb:=h.len
  have h1:i < t.L.length:=by omega
  rw [Zfx,if_pos (by simp;omega),Zcs h1,Z4g h.sz (by rw [h.tl];omega) (by omega) (by omega) h.cl,wr1 (by omega),h.top,idxn,Zpy,List.getElem?_eq_getElem h1]
  have hq:kv t.L[i] ∈ pl t:=by
   have:(pl t)[i]?=some (kv t.L[i]):=by rw [Zpy,List.getElem?_eq_getElem h1];rfl
   exact List.mem_of_getElem? this
  have hr:Zie (t.L[i]).Rec:=(h.ok _ hq).1
  simp only [Option.map_some,atR,kv,Option.bind_some,Bool.not_true,Zc6,Bool.or_self,Bool.not_false,gd_t]
  rw [Zqd hr hr,Zwq]
  simp only [Option.bind_some,Bool.not_true,Bool.false_or,Bool.false_eq_true,if_false]
  exact Z2o h hm n (i + 1) (by omega)
theorem Zbdt {s:Zk} {t:Zf} {m:Nat} (h:Rel s t m) (hm:m < 1000000):Zjg s t=some 1:=by
 unfold Zjg
 rw [Zxr h]
 simp only [Option.bind_some,bne_self_eq_false,Bool.not_false,gd_t,Zk4,h.room,Bool.or_self,Bool.false_eq_true,if_false]
 have:=Z2o h hm t.L.length 0 (by omega)
 rw [show ((0:Nat):Int)=0 from rfl] at this
 rw [show (Int.toNat ((t.L.length:Int) - (0:Int)) + 1)=t.L.length + 1 by omega,this]
 rfl
theorem Zth {k:ByteArray} {r:Zb} {l:List KV} (hs:Srt l) (h:lk k l=some r):insL k r l=l:=by
 rcases Zld r hs with ⟨p,a1,a2,a3,a4,_⟩ | ⟨_,a2,_⟩
 ·rw [a4]
  rw [h] at a3
  obtain rfl:=Option.some.inj a3
  have e:(k,p.2)=p:=by rw [← a2]
  rw [e]
  obtain ⟨hlt,hp⟩:=List.getElem?_eq_some_iff.1 a1
  have:=List.take_append_drop (rk k l) l
  rw [List.drop_eq_getElem_cons hlt,hp] at this
  exact this
 ·rw [h] at a2;cases a2
theorem Zs6 {k:ByteArray} {r:Zb}:∀ {l:List KV},lk k l=some r → (k,r) ∈ l
 | [],h=>by cases h
 | p :: l,h=>by
  simp only [lk] at h
  split at h
  ·rename_i he
   obtain rfl:=Option.some.inj h
   have:=Zdn.1 he
   subst this
   exact List.mem_cons_self ..
  ·exact List.mem_cons_of_mem _ (Zs6 h)
theorem Zmm {r:Zb} (h:Zcy r):r.List.length ≤ 32:=by
 by_cases hk:8 ≤ r.Kind
 ·have:=h.2.2.2.2.2.2 hk
  omega
 ·have h1:=h.2.2.1
  have h8:decide (8 ≤ r.Kind)=false:=by simpa using hk
  rw [h8] at h1
  simp only [Zig,Bool.false_or,Bool.and_eq_true,beq_iff_eq] at h1
  have:=h1.2.2
  omega
theorem Zhs {s s':Zk} {k:ByteArray} {x:Zb} {c:Int} (h:Zc9 s k x=some (s',c)):s'.room=s.room:=by
 unfold Zc9 at h
 split at h
 ·cases h;rfl
 ·obtain ⟨_,_,h⟩:=Option.bind_eq_some_iff.1 h
  split at h
  ·cases h;rfl
  ·obtain ⟨_,_,h⟩:=Option.bind_eq_some_iff.1 h
   obtain ⟨_,_,h⟩:=Option.bind_eq_some_iff.1 h
   split at h
   ·cases h;rfl
   ·obtain ⟨_,_,h⟩:=Option.bind_eq_some_iff.1 h
    obtain ⟨_,_,h⟩:=Option.bind_eq_some_iff.1 h
    cases h;rfl
theorem Zo4 {s s':Zk} {k:ByteArray} {b:Bool} (h:Zeh s k=some (s',b)):s'.room=s.room:=by
 unfold Zeh at h
 obtain ⟨_,_,h⟩:=Option.bind_eq_some_iff.1 h
 split at h
 ·cases h;rfl
 ·obtain ⟨_,_,h⟩:=Option.bind_eq_some_iff.1 h
  cases h;rfl
theorem Zn7 {s s':Zk} {t:Zf} {n:Nat} (h:Rel s t n) (hn:n < 1000000) {k:ByteArray} {x:Zb} {c:Int} (e:Zc9 s k x=some (s',c)) (hc:Zex x=some 0) (hx:x.List.length ≤ 100) (hk:sEq k ⟨#[]⟩=false) (hk2:k.size ≤ 24) :
  (((lk k (pl t)).isSome=true ∨ (t.L.length:Int) < t.Room) → c=0 ∧ toL s'.top=insL k x (pl t)) ∧ ((lk k (pl t)).isNone=true → t.Room ≤ (t.L.length:Int) → c=8 ∧ s'=s):=by
 have hb:=h.len
 obtain ⟨t1,q1,_,q3⟩:=Z3m (k:=k) (x:=x) h.sz (by rw [h.top];exact h.srt) (by rw [h.tl];omega)
 unfold Zc9 at e
 rw [hk,hc,Znc h,Zxr h,Zrq (by unfold Cl;omega)] at e
 have hd:decide ((24:Int) < (k.size:Int))=false:=by simp;omega
 rw [hd] at e
 simp only [Bool.or_self,Bool.false_eq_true,if_false,Option.bind_some,bne_self_eq_false] at e
 cases hl:lk k (pl t) with
 | none =>
  rw [hl] at e
  simp only [getR,Bool.not_false,gd_t,Option.bind_some,Bool.true_and,h.room] at e
  by_cases hr:t.Room ≤ (t.L.length:Int)
  ·rw [if_pos (by simpa using hr)] at e
   cases e
   refine ⟨fun h=>?_,fun _ _=>⟨rfl,rfl⟩⟩
   rcases h with h | h
   ·cases h
   ·omega
  ·rw [if_neg (by simpa using hr),q1] at e
   cases e
   exact ⟨fun _=>⟨rfl,by rw [← h.top];exact q3⟩,fun _ h=>absurd h hr⟩
 | some r =>
  rw [hl] at e
  simp only [getR,Bool.not_true,gd_f,Option.bind_some,Bool.false_and,Bool.false_eq_true,if_false] at e
  rw [q1] at e
  cases e
  exact ⟨fun _=>⟨rfl,by rw [← h.top];exact q3⟩,fun h=>by cases h⟩
structure FR (s:Zk) (t:Zf) (n:Nat):Prop where
 rel:Rel s t n
 good:∀ q ∈ pl t,RecW q.2 ∧ Zcy q.2
 fit:(t.L.length:Int) ≤ t.Room
theorem Z7f {k:ByteArray} {x r:Zb} {l:List KV} (hs:Srt l) (h:lk k l=some r):(insL k x l).length=l.length:=by
 rcases Zld x hs with ⟨p,a1,a2,a3,a4,_⟩ | ⟨_,a2,_⟩
 ·rw [a4]
  have:=(List.getElem?_eq_some_iff.1 a1).1
  simp;omega
 ·rw [h] at a2;cases a2
theorem FR.mono {s:Zk} {t:Zf} {n m:Nat} (h:FR s t n) (hm:n ≤ m):FR s t m:=⟨h.rel.mono hm,h.good,h.fit⟩
theorem Z5g {s:Zk} {t t':Zf} {n:Nat} (h:Rel s t n) (hp:pl t'=pl t) (hr:t'.Room=t.Room):Rel s t' n :=
 ⟨h.top.trans hp.symm,h.sz,by rw [hp];exact h.srt,by rw [← Zew,hp,Zew];exact h.len,h.room.trans hr.symm,by rw [hp];exact h.ok⟩
theorem Zre {s:Zk} {t t':Zf} {n:Nat} (h:FR s t n) (hp:pl t'=pl t) (hr:t'.Room=t.Room):FR s t' n :=
 ⟨Z5g h.rel hp hr,by rw [hp];exact h.good,by rw [hr,← Zew,hp,Zew];exact h.fit⟩
theorem Zv1 {s s':Zk} {t t':Zf} {n m:Nat} {k:ByteArray} {x:Zb} (h:FR s t n) (hr:Rel s' t' m) (hw:RecW x) (hg:Zcy x) (ho:(lk k (pl t)).isSome=true ∨ (t.L.length:Int) < t.Room) (hp:pl t'=insL k x (pl t)) (hro:t'.Room=t.Room):FR s' t' m:=⟨hr,fun q hq=>by
 rw [hp] at hq
 rcases Zqx hq with rfl | hq
 ·exact ⟨hw,hg⟩
 ·exact h.good q hq,by
 have hf:=h.fit
 rw [hro,← Zew,hp]
 have hl:=Zp5 k x (pl t)
 rw [Zew] at hl
 rcases ho with ho | ho
 ·obtain ⟨r,hr⟩:=Option.isSome_iff_exists.1 ho
  rw [Z7f h.rel.srt hr,Zew];exact hf
 ·omega⟩
theorem Z0e {a:Zm} (ha:ActIn a) (h:Zf7 a=some 0):sEq a.Key ⟨#[]⟩=false ∧ a.Key.size ≤ 24:=by
 obtain ⟨c,h1,_,h3⟩:=Zna ha.ok
 rw [h] at h1
 obtain rfl:=Option.some.inj h1
 exact ⟨(h3 rfl).2.2.2.2.2.2.2.1,(h3 rfl).2.2.2.2.2.2.2.2⟩
theorem Zvy (k k':ByteArray) (x:Zb):∀ l:List KV,lk k (insL k' x l)=if sEq k k'=true then some x else lk k l
 | []=>rfl
 | p :: l=>by
  simp only [insL]
  by_cases h1:sLt k' p.1=true
  ·rw [if_pos h1];simp only [lk]
  ·rw [if_neg h1]
   by_cases h2:sEq k' p.1=true
   ·rw [if_pos h2]
    have e:=Zdn.1 h2
    simp only [lk,← e]
    by_cases h3:sEq k k'=true
    ·rw [if_pos h3,if_pos h3]
    ·rw [if_neg h3,if_neg h3,if_neg h3]
   ·rw [if_neg h2]
    simp only [lk,Zvy k k' x l]
    by_cases h3:sEq k p.1=true
    ·have h4:¬ sEq k k'=true:=fun h=>h2 (by rw [← Zdn.1 h];exact h3)
     rw [if_pos h3,if_neg h4,if_pos h3]
    ·rw [if_neg h3,if_neg h3]
theorem Ztj (k k':ByteArray):∀ {l:List KV},Srt l → lk k (delL k' l)=if sEq k k'=true then none else lk k l
 | [],_=>by simp [delL,lk]
 | p :: l,hs=>by
  obtain ⟨h1,h2⟩:=List.pairwise_cons.1 hs
  simp only [delL]
  by_cases h:sEq k' p.1=true
  ·rw [if_pos h]
   have e:=Zdn.1 h
   by_cases h3:sEq k k'=true
   ·rw [if_pos h3]
    refine Zl6 fun q hq e2=>?_
    have:=h1 q hq
    rw [e2,Zdn.1 h3,e,Zir] at this;cases this
   ·rw [if_neg h3]
    simp only [lk,← e]
    rw [if_neg h3]
  ·rw [if_neg h]
   simp only [lk,Ztj k k' h2]
   by_cases h3:sEq k p.1=true
   ·have h4:¬ sEq k k'=true:=fun h5=>h (by rw [← Zdn.1 h5];exact h3)
    rw [if_pos h3,if_neg h4,if_pos h3]
   ·rw [if_neg h3,if_neg h3]
theorem Zw4:∀ {A B:List KV},Srt A → Srt B → (∀ k,lk k A=lk k B) → A=B
 | [],[],_,_,_=>rfl
 | [],q :: B,_,_,h=>by have:=h q.1;simp [lk,Zc6] at this
 | p :: A,[],_,_,h=>by have:=h p.1;simp [lk,Zc6] at this
 | p :: A,q :: B,hA,hB,h=>by
  obtain ⟨a1,a2⟩:=List.pairwise_cons.1 hA
  obtain ⟨b1,b2⟩:=List.pairwise_cons.1 hB
  have far:∀ {k:ByteArray} {z:KV} {Z:List KV},(∀ q ∈ Z,sLt z.1 q.1=true) → sLt k z.1=true → lk k (z :: Z)=none:=fun {k z Z} hz hk=>by
   refine Zl6 fun q hq e=>?_
   rcases List.mem_cons.1 hq with rfl | hq
   ·rw [e,Zir] at hk;cases hk
   ·have:=Zgp hk (hz q hq)
    rw [e,Zir] at this;cases this
  have hp:=h p.1
  have hq:=h q.1
  have e:p.1=q.1:=Classical.byContradiction fun hn=>by
   cases hlt:sLt p.1 q.1
   ·have:=far a1 (Zm9 hlt hn)
    rw [this] at hq
    simp [lk,Zc6] at hq
   ·have:=far b1 hlt
    rw [this] at hp
    simp [lk,Zc6] at hp
  have e2:p.2=q.2:=by
   simp only [lk,e,Zc6,if_true] at hp
   exact Option.some.inj hp
  have e3:A=B:=Zw4 a2 b2 fun k=>by
   by_cases hk:sEq k p.1=true
   ·have ek:=Zdn.1 hk
    have n1:lk k A=none:=Zl6 fun z hz e4=>by
     have:=a1 z hz
     rw [e4,ek,Zir] at this;cases this
    have n2:lk k B=none:=Zl6 fun z hz e4=>by
     have:=b1 z hz
     rw [e4,ek,e,Zir] at this;cases this
    rw [n1,n2]
   ·have:=h k
    simp only [lk] at this
    rw [if_neg hk,if_neg (by rw [← e];exact hk)] at this
    exact this
  obtain ⟨p1,p2⟩:=p
  obtain ⟨q1,q2⟩:=q
  have e:p1=q1:=e
  have e2:p2=q2:=e2
  rw [e,e2,e3]
def upd (k:ByteArray) (o:Option Zb) (l:List KV):List KV:=match o with
 | some x=>insL k x l
 | none=>delL k l
theorem Z24 {k:ByteArray} {o:Option Zb} {l:List KV} (h:Srt l):Srt (upd k o l):=by
 cases o with
 | none=>exact Ztw h
 | some x=>exact Zt9 h
theorem Z6p {k k':ByteArray} {o:Option Zb} {l:List KV} (h:Srt l):lk k (upd k' o l)=if sEq k k'=true then o else lk k l:=by
 cases o with
 | none=>exact Ztj k k' h
 | some x=>exact Zvy k k' x l
theorem Z72 {k:ByteArray} {l:List KV} (h:Srt l):upd k (lk k l) l=l:=Zw4 (Z24 h) h fun z=>by
 rw [Z6p h]
 split
 ·rename_i he;rw [Zdn.1 he]
 ·rfl
theorem Z9d {k:ByteArray} {o:Option Zb} {l:List KV} {q:KV} (h:q ∈ upd k o l):q ∈ l ∨ ∃ x,o=some x ∧ q=(k,x):=by
 cases o with
 | none=>exact .inl (Zn8 h)
 | some x =>
  rcases Zqx h with rfl | h
  ·exact .inr ⟨x,rfl,rfl⟩
  ·exact .inl h
def ap (o:Option Zb) (a:Zm):Option (Option Zb × Zc):=(Zih (getR o).1 (getR o).2 a).bind fun z=>some (if z.2.2.Code=0 then (if z.2.1=true then some z.1 else none) else o,z.2.2)
def OkO (o:Option Zb):Prop:=∀ r,o=some r → RecW r ∧ Zcy r
theorem Z9p {a:Zm} (ha:ActIn a) (hk:a.Kind ≠ 1):∃ x,ap none a=some (none,x) ∧ RecW x.Rec:=by
 obtain ⟨z,e,hs⟩:=Zln (there:=false) Zcm ha
 have e:Zih zrec false a=some z:=e
 simp only [ap,getR,e,Option.bind_some]
 rcases hs with ⟨c,hc,rfl⟩ | ⟨h1,h2,h3,⟨k,k2,k3,rfl⟩ | ⟨k,k2,rfl⟩ | ⟨k,rfl⟩ | ⟨k,k2,rfl⟩ | ⟨k,k2,k3,k4,r',o,q1,q2,q3,q4,q5,rfl⟩⟩
 ·exact ⟨ans c,by simp [hc],Zcm⟩
 ·exact absurd k hk
 ·cases k2
 ·exact ⟨_,rfl,Zcm⟩
 ·cases k2
 ·cases k3
theorem Zqs {d:Zbk} (hd:∀ a ∈ d.Acts,ActIn a) (hl:d.Acts.length ≤ 12):∀ (n i:Nat),i + n=d.Acts.length →
  ∃ z,Zef d (n + 1) (i:Int)=some z ∧ Zc1 d (n + 1) (i:Int)=some z ∧ (z=.inr () ∨ ∃ c at_,z=.inl (c,at_) ∧ c ≠ 0)
 | 0,i,h=>by
  rw [Zef,Zc1,if_neg (by simp;omega),if_neg (by simp;omega)]
  exact ⟨_,rfl,rfl,.inl rfl⟩
 | n + 1,i,h=>by
  have h1:i < d.Acts.length:=by omega
  obtain ⟨c,e1,e2,_⟩:=Zna (hd _ (List.getElem_mem h1)).ok
  rw [Zef,Zc1,if_pos (by simp;omega),if_pos (by simp;omega),Zcs h1,wr1 (by omega)]
  simp only [Option.bind_some]
  rw [e1,e2]
  simp only [Option.bind_some]
  by_cases hc:(c != 0)=true
  ·rw [if_pos hc,if_pos hc]
   exact ⟨_,rfl,rfl,.inr ⟨_,_,rfl,by simpa using hc⟩⟩
  ·rw [if_neg hc,if_neg hc]
   exact Zqs hd hl n (i + 1) (by omega)
theorem Zoo {d:Zbk} (hd:∀ a ∈ d.Acts,ActIn a):∃ c at_,Ze3 d=some (c,at_) ∧ Zfu d=some (c,at_) ∧ (c=0 → 1 ≤ d.Acts.length ∧ d.Acts.length ≤ 12):=by
 unfold Ze3 Zfu
 by_cases h:d.Acts.length < 1 ∨ 12 < d.Acts.length
 ·rw [if_pos (by rw [Bool.or_eq_true,beq_iff_eq,decide_eq_true_eq];omega),if_pos (by rw [Bool.or_eq_true,decide_eq_true_eq,decide_eq_true_eq];omega)]
  exact ⟨_,_,rfl,rfl,fun h=>by cases h⟩
 ·rw [if_neg (by rw [Bool.or_eq_true,beq_iff_eq,decide_eq_true_eq];omega),if_neg (by rw [Bool.or_eq_true,decide_eq_true_eq,decide_eq_true_eq];omega)]
  obtain ⟨z,e1,e2,hz⟩:=Zqs hd (by omega) d.Acts.length 0 (by omega)
  rw [show ((0:Nat):Int)=0 from rfl] at e1 e2
  rw [show (Int.toNat ((d.Acts.length:Int) - (0:Int)) + 1)=d.Acts.length + 1 by omega,e1,e2]
  rcases hz with rfl | ⟨c,at_,rfl,hc⟩
  ·exact ⟨_,_,rfl,rfl,fun _=>by omega⟩
  ·exact ⟨_,_,rfl,rfl,fun h=>absurd h hc⟩
def Zoj (L:List Zc):Prop:=∀ a ∈ L,RecW a.Rec
theorem Zv7 {L:List Zc} {a:Zc} (h:Zoj L) (ha:RecW a.Rec):Zoj (L ++ [a]):=fun b hb=>by
 rcases List.mem_append.1 hb with hb | hb
 ·exact h b hb
 ·rw [List.mem_singleton.1 hb];exact ha
def Zsn (R:Zw):Prop:=R.Answers.length ≤ 12 ∧ Zoj R.Answers
theorem Zwz {l:List Zbe} (hl:l.length ≤ 60) (hw:∀ p ∈ l,Zhw p) {z:Zk} {r:Int}:∀ (n i:Nat) {s:Zk} {t:Zf},i + n=l.length → FR s t i → t.Room=r →
  (∃ s',Zd3 l (n + 1) z s t (i:Int)=some (.inl (s',none))) ∨ (∃ s' t',Zd3 l (n + 1) z s t (i:Int)=some (.inr (z,s',t')) ∧ FR s' t' 60 ∧ t'.Room=r)
 | 0,i,s,t,h,hf,hr=>by
  right
  rw [Zd3,if_neg (by simp;omega)]
  exact ⟨s,t,rfl,hf.mono (by omega),hr⟩
 | n + 1,i,s,t,h,hf,hr=>by
  have h1:i < l.length:=by omega
  have hm:=hw _ (List.getElem_mem h1)
  obtain ⟨c,e1,e2,e3⟩:=Zbd3 (Zbap hm.2)
  rw [Zd3,if_pos (by simp;omega),Zcs h1,wr1 (by omega)]
  simp only [Option.bind_some]
  rw [e1]
  by_cases hk:decide ((100:Int) < ((l[i]).Key.size:Int))=true
  ·rw [hk];left;exact ⟨s,rfl⟩
  ·rw [Bool.eq_false_iff.2 hk]
   simp only [Bool.not_false,gd_t,Option.bind_some,Bool.false_or]
   rcases e2 with rfl | rfl
   ·simp only [Int.lt_irrefl,decide_false,Bool.false_eq_true,if_false]
    have hx:RecW (l[i]).Rec:=Zxg hm.2 (e3 rfl)
    obtain ⟨s',t',c,f1,f2,f3,f4⟩:=Zof hf.rel (by omega) (l[i]).Key hx.ok (e3 rfl)
    rw [f1,f2]
    simp only [Option.bind_some]
    have hro:t'.Room=t.Room:=by rw [← f3.room,Zhs f1,hf.rel.room]
    refine Zwz hl hw n (i + 1) (by omega) ?_ (by rw [hro,hr])
    rcases f4 with f4 | ⟨f4,f5,f6,f7⟩
    ·have:=Zre hf f4 hro
     exact ⟨f3,this.good,this.fit⟩
    ·refine Zv1 hf f3 hx ((Zid hx.ok).1 f5) ?_ f4 hro
     refine Classical.byContradiction fun hno=>?_
     have h1:(lk (l[i]).Key (pl t)).isNone=true:=by
      cases hz:lk (l[i]).Key (pl t) with
      | none=>rfl
      | some r=>exact absurd (.inl (by rw [hz];rfl)) hno
     have h2:t.Room ≤ (t.L.length:Int):=Int.not_lt.1 fun h=>hno (.inr h)
     have hk1:sEq (l[i]).Key ⟨#[]⟩=false:=by
      rw [Zyi];simpa using f6
     obtain ⟨_,hs⟩:=(Zn7 hf.rel (by omega) f1 f5 (e3 rfl) hk1 (by omega)).2 h1 h2
     subst hs
     have ht:=f3.top
     rw [hf.rel.top,f4] at ht
     rcases Zld (k:=(l[i]).Key) (l[i]).Rec hf.rel.srt with ⟨p,_,_,a3,_⟩ | ⟨_,_,a3,_⟩
     ·rw [a3] at h1;cases h1
     ·have hle:=congrArg List.length ht
      rw [a3] at hle
      have hrk:=Zts (l[i]).Key (pl t)
      simp at hle
      omega
   ·left;exact ⟨s,rfl⟩
theorem Z70 {r:Int} {l:List Zbe} (hw:∀ p ∈ l,Zhw p):(∃ s,Zhl r l=some (s,none)) ∨ (∃ s t,Zhl r l=some (s,some t) ∧ FR s t 60 ∧ t.Room=r ∧ 1 ≤ r ∧ r ≤ 4096):=by
 unfold Zhl Zo2
 by_cases hr:r < 1 ∨ 4096 < r
 ·rw [if_pos (by simpa using hr)]
  left;exact ⟨_,rfl⟩
 ·rw [if_neg (by simpa using hr)]
  simp only [Option.bind_some,bne_self_eq_false,Bool.false_or]
  by_cases hl:60 < l.length
  ·rw [if_pos (by simp;omega)];left;exact ⟨_,rfl⟩
  ·rw [if_neg (by simp;omega),show (Int.toNat ((l.length:Int) - (0:Int)) + 1)=l.length + 1 by omega]
   have:=Zwz (l:=l) (by omega) hw (z:=default) (r:=r) l.length 0 (by omega) ⟨Z9n r,fun q hq=>by simp [pl] at hq,by simp;omega⟩ rfl
   rw [show ((0:Nat):Int)=0 from rfl] at this
   rcases this with ⟨s',e⟩ | ⟨s',t',e,e2,e3⟩
   ·rw [e];left;exact ⟨_,rfl⟩
   ·rw [e];right;exact ⟨s',t',rfl,e2,e3,by omega,by omega⟩
def Zlq (R:Int) (L:List KV) (a:Zm):Option (List KV × Zc):=(ap (lk a.Key L) a).bind fun z=>if (lk a.Key L).isNone=true ∧ z.1.isSome=true ∧ R ≤ (L.length:Int) then some (L,ans 8) else some (upd a.Key z.1 L,z.2)
structure InvK (L:List KV):Prop where
 srt:Srt L
 ok:∀ q ∈ L,RecW q.2 ∧ Zcy q.2
theorem InvK.at_ {L:List KV} (h:InvK L) (k:ByteArray):OkO (lk k L):=fun r hr=>h.ok _ (Zs6 hr)
theorem Z6c {o:Option Zb} {a:Zm} (ho:OkO o) (ha:ActIn a):∃ o1 x,ap o a=some (o1,x) ∧ OkO o1 ∧ RecW x.Rec ∧ (a.Kind ≠ 1 → a.Kind ≠ 2 → o1.isSome=o.isSome):=by
 cases o with
 | none =>
  obtain ⟨z,e,hs⟩:=Zln (there:=false) Zcm ha
  have e:Zih zrec false a=some z:=e
  simp only [ap,getR,e,Option.bind_some]
  rcases hs with ⟨c,hc,rfl⟩ | ⟨h1,h2,h3,⟨k,k2,k3,rfl⟩ | ⟨k,k2,rfl⟩ | ⟨k,rfl⟩ | ⟨k,k2,rfl⟩ | ⟨k,k2,k3,k4,r',o,q1,q2,q3,q4,q5,rfl⟩⟩
  ·exact ⟨none,ans c,by simp [hc],fun r h=>(by cases h),Zcm,fun _ _=>rfl⟩
  ·exact ⟨some a.Make,ans 0,rfl,fun r h=>(by obtain rfl:=Option.some.inj h;exact ⟨ha.mkr,k3⟩),Zcm,fun h=>absurd k h⟩
  ·cases k2
  ·exact ⟨none,_,rfl,fun r h=>(by cases h),Zcm,fun _ _=>rfl⟩
  ·cases k2
  ·cases k3
 | some r =>
  obtain ⟨hr,hg⟩:=ho r rfl
  obtain ⟨z,e,hs⟩:=Zln (there:=true) hr ha
  rw [if_pos rfl] at hs
  simp only [ap,getR,e,Option.bind_some]
  have self:OkO (some r):=ho
  rcases hs with ⟨c,hc,rfl⟩ | ⟨h1,h2,h3,⟨k,k2,k3,rfl⟩ | ⟨k,k2,rfl⟩ | ⟨k,rfl⟩ | ⟨k,k2,rfl⟩ | ⟨k,k2,k3,k4,r',o,q1,q2,q3,q4,q5,rfl⟩⟩
  ·exact ⟨some r,ans c,by simp [hc],self,Zcm,fun _ _=>rfl⟩
  ·cases k2
  ·exact ⟨none,ans 0,rfl,fun r h=>(by cases h),Zcm,fun _ h=>absurd k h⟩
  ·exact ⟨some r,_,rfl,self,Zcm,fun _ _=>rfl⟩
  ·exact ⟨some r,_,rfl,self,hr,fun _ _=>rfl⟩
  ·exact ⟨some r',o,by simp [q2],fun x h=>(by obtain rfl:=Option.some.inj h;exact ⟨q4,Zvj k k2 k4 hr hg h2 q1⟩),q5,fun _ _=>rfl⟩
theorem Z6q {R:Int} {L:List KV} {a:Zm} {o1:Option Zb} {x:Zc} (e:ap (lk a.Key L) a=some (o1,x)) (hs:o1.isSome=(lk a.Key L).isSome):Zlq R L a=some (upd a.Key o1 L,x):=by
 unfold Zlq
 rw [e]
 simp only [Option.bind_some]
 rw [if_neg]
 rintro ⟨h1,h2,_⟩
 rw [hs] at h2
 cases hq:lk a.Key L <;> simp [hq] at h1 h2
theorem Zxy {R:Int} {L:List KV} {a:Zm} {x:Zc} (hs:Srt L) (e:ap (lk a.Key L) a=some (lk a.Key L,x)):Zlq R L a=some (L,x):=by
 rw [Z6q e rfl,Z72 hs]
theorem Z1g {R:Int} {L:List KV} {a:Zm} (h:InvK L) (ha:ActIn a):∃ L' x,Zlq R L a=some (L',x) ∧ InvK L' ∧ RecW x.Rec:=by
 obtain ⟨o1,x,e,h1,h2,_⟩:=Z6c (h.at_ a.Key) ha
 unfold Zlq
 rw [e]
 simp only [Option.bind_some]
 split
 ·exact ⟨L,ans 8,rfl,h,Zcm⟩
 ·refine ⟨_,_,rfl,⟨Z24 h.srt,fun q hq=>?_⟩,h2⟩
  rcases Z9d hq with hq | ⟨x,hx,rfl⟩
  ·exact h.ok q hq
  ·exact h1 x hx
def runK (R:Int):List Zm → List KV → Option (List KV × List Zc × Int)
 | [],L=>some (L,[],0)
 | a :: r,L=>(Zlq R L a).bind fun z=>if (a.Must && (z.2.Code != 0))=true then some (z.1,[],z.2.Code) else (runK R r z.1).bind fun w=>some (w.1,z.2 :: w.2.1,w.2.2)
def oneK (R:Int) (L:List KV) (d:Zbk):Option (List KV × Zw):=(Ze3 d).bind fun z=>if (z.1 != 0)=true then some (L,{ Code:=z.1,At:=z.2,Answers:=[] }) else (runK R d.Acts L).bind fun w=>if w.2.2=0 then some (w.1,{ Code:=0,At:=0,Answers:=w.2.1 }) else some (L,{ Code:=w.2.2,At:=((w.2.1.length + 1:Nat):Int),Answers:=[] })
theorem Z2z {s s':Zk} {t:Zf} {n:Nat} (h:Rel s t n) (hn:n < 1000000) {k:ByteArray} {b:Bool} (e:Zeh s k=some (s',b)):toL s'.top=delL k (pl t):=by
 have hb:=h.len
 unfold Zeh at e
 rw [Znc h] at e
 simp only [Option.bind_some] at e
 rcases Zld default h.srt with ⟨p,a1,a2,a3,_,a5⟩ | ⟨a1,a2,_,a4⟩
 ·rw [a3] at e
  obtain ⟨t1,c1,z1,l1⟩:=Z27 (k:=k) h.sz (by rw [h.top];exact h.srt) (by rw [h.tl];omega)
  rw [c1] at e
  simp only [getR,Bool.not_true,Bool.false_eq_true,if_false,Option.bind_some,Option.some.injEq,Prod.mk.injEq] at e
  rw [← e.1,← h.top]
  exact l1
 ·rw [a2] at e
  simp only [getR,Bool.not_false,if_true,Option.some.injEq,Prod.mk.injEq] at e
  rw [← e.1,a4]
  exact h.top
theorem FR.inv {s:Zk} {t:Zf} {n:Nat} (h:FR s t n):InvK (pl t):=⟨h.rel.srt,h.good⟩
theorem Zyr {s:Zk} {t:Zf} {n:Nat} (h:FR s t n) (hn:n < 1000000) {a:Zm} (ha:ActIn a) :
  ∃ s' t' out,Zm3 s a=some (s',out) ∧ FR s' t' (n + 1) ∧ t'.Room=t.Room ∧ RecW out.Rec ∧ Zlq t.Room (pl t) a=some (pl t',out):=by
 obtain ⟨r,there,hg,hi,hl1,hl2⟩:∃ r there,getR (lk a.Key (pl t))=(r,there) ∧ Z3b there r ∧ (there=true → lk a.Key (pl t)=some r) ∧ (there=false → lk a.Key (pl t)=none):=by
  cases hl:lk a.Key (pl t) with
  | none=>exact ⟨_,_,rfl,⟨Zcm,fun h=>(by cases h),fun _=>rfl⟩,fun h=>(by cases h),fun _=>rfl⟩
  | some r =>
   obtain ⟨g1,g2⟩:=h.good _ (Zs6 hl)
   exact ⟨_,_,rfl,⟨g1,fun _=>g2,fun h=>(by cases h)⟩,fun _=>rfl,fun h=>(by cases h)⟩
 obtain ⟨z,e3,hs⟩:=Zln (there:=there) hi.w ha
 have hr0:(if there=true then r else zrc)=r:=by
  cases there
  ·exact (hi.zero rfl).symm
  ·rfl
 rw [hr0] at hs
 have hap:ap (lk a.Key (pl t)) a=some (if z.2.2.Code=0 then (if z.2.1=true then some z.1 else none) else lk a.Key (pl t),z.2.2):=by
  unfold ap
  rw [hg,e3]
  rfl
 have hlk:lk a.Key (pl t)=if there=true then some r else none:=by
  cases there
  ·exact hl2 rfl
  ·exact hl1 rfl
 unfold Zm3
 rw [Znc h.rel,hg]
 simp only [Option.bind_some]
 rw [e3]
 simp only [Option.bind_some,Zlx]
 have same:∀ x,z.2.2=x → (x.Code ≠ 0 ∨ z.2.1=there ∧ z.1=r) → Zlq t.Room (pl t) a=some (pl t,x):=fun x hx hc=>by
  refine Zxy h.rel.srt ?_
  rw [hap,hx]
  by_cases h0:x.Code=0
  ·rw [if_pos h0]
   obtain ⟨h1,h2⟩:=hc.resolve_left (fun h=>h h0)
   rw [h1,h2,hlk]
  ·rw [if_neg h0]
 rcases hs with ⟨c,hc,rfl⟩ | ⟨h1,h2,h3,hs⟩
 ·have hc':(c != 0)=true:=by simpa using hc
  simp only [hc',Bool.not_true,gd_f,Option.bind_some,Bool.true_or,if_true]
  exact ⟨s,t,ans c,rfl,h.mono (by omega),rfl,Zcm,same _ rfl (.inl hc)⟩
 obtain ⟨k1,k2⟩:=Z0e ha h1
 have hset:∀ {y:Zb},RecW y → Zcy y → ((lk a.Key (pl t)).isSome=true ∨ (t.L.length:Int) < t.Room) → ∃ s' t',Zc9 s a.Key y=some (s',0) ∧ FR s' t' (n + 1) ∧ pl t'=insL a.Key y (pl t) ∧ t'.Room=t.Room:=fun {y} hw hgy ho=>by
  have hsh:=Zmm hgy
  obtain ⟨s',t',c,f1,f2,f3,_⟩:=Zof h.rel hn a.Key hw.ok (by omega)
  obtain ⟨rfl,hp⟩:=(Zn7 h.rel hn f1 ((Zid hw.ok).2 hgy) (by omega) k1 k2).1 ho
  rw [f3.top] at hp
  have hro:t'.Room=t.Room:=by rw [← f3.room,Zhs f1,h.rel.room]
  exact ⟨s',t',f1,Zv1 h f3 hw hgy ho hp hro,hp,hro⟩
 rcases hs with ⟨hk,rfl,hmk,rfl⟩ | ⟨hk,rfl,rfl⟩ | ⟨hk,rfl⟩ | ⟨hk,rfl,rfl⟩ | ⟨k5,k21,rfl,kon,r',o,q1,q2,q3,q4,q5,rfl⟩
 ·
  have hl:=hl2 rfl
  rw [hk]
  simp only [bne_self_eq_false,Bool.not_false,gd_t,Option.bind_some,show ((((((1:Int) == 3) || ((1:Int) == 4)) || ((1:Int) == 9)) || ((1:Int) == 12)) || ((1:Int) == 20))=false from rfl,Bool.or_self,Bool.false_eq_true,if_false,Bool.not_true]
  have hap:ap (lk a.Key (pl t)) a=some (some a.Make,ans 0):=hap
  by_cases hr:t.Room ≤ (t.L.length:Int)
  ·have hsh:=Zmm hmk
   obtain ⟨s',t',c,f1,f2,f3,_⟩:=Zof h.rel hn a.Key ha.mkr.ok (by omega)
   obtain ⟨rfl,rfl⟩:=(Zn7 h.rel hn f1 ((Zid ha.mkr.ok).2 hmk) (by omega) k1 k2).2 (by rw [hl];rfl) hr
   rw [f1]
   refine ⟨s',t,ans 8,rfl,h.mono (by omega),rfl,Zcm,?_⟩
   unfold Zlq
   rw [hap]
   simp only [Option.bind_some]
   rw [if_pos ⟨by rw [hl];rfl,rfl,by rw [Zew];exact hr⟩]
  ·obtain ⟨s',t',f1,f3,f4,f5⟩:=hset ha.mkr hmk (.inr (by omega))
   rw [f1]
   refine ⟨s',t',ans 0,rfl,f3,f5,Zcm,?_⟩
   unfold Zlq
   rw [hap]
   simp only [Option.bind_some]
   rw [if_neg (by rw [Zew];omega),f4]
   rfl
 ·
  rw [hk]
  obtain ⟨s',t',b,f1,f2,f3,f4⟩:=Zr6 h.rel hn a.Key
  have hd:=Z2z h.rel hn f1
  rw [f3.top] at hd
  rw [f1]
  have hro:t'.Room=t.Room:=by rw [← f3.room,Zo4 f1,h.rel.room]
  have hf:=h.fit
  refine ⟨s',t',ans 0,rfl,⟨f3.mono (by omega),fun q hq=>?_,?_⟩,hro,Zcm,?_⟩
  ·rw [hd] at hq;exact h.good q (Zn8 hq)
  ·have:=Zod a.Key (pl t)
   rw [Zew] at this
   rw [hro,← Zew,hd];omega
  ·unfold Zlq
   have hap:ap (lk a.Key (pl t)) a=some (none,ans 0):=hap
   rw [hap,hl1 rfl,hd]
   rfl
 ·
  rw [hk]
  exact ⟨s,t,_,rfl,h.mono (by omega),rfl,Zcm,same _ rfl (.inr ⟨rfl,rfl⟩)⟩
 ·
  rw [hk]
  exact ⟨s,t,_,rfl,h.mono (by omega),rfl,hi.w,same _ rfl (.inr ⟨rfl,rfl⟩)⟩
 ·
  have hl:=hl1 rfl
  have hgx:Zcy r':=Zvj k5 k21 kon hi.w (hi.good rfl) h2 q1
  rw [q2]
  simp only [bne_self_eq_false,Bool.not_false,gd_t,Option.bind_some,Bool.false_or,Bool.false_eq_true,if_false,Bool.not_true,Bool.false_and]
  by_cases hrd:(((((a.Kind == (3:Int)) || (a.Kind == (4:Int))) || (a.Kind == (9:Int))) || (a.Kind == (12:Int))) || (a.Kind == (20:Int)))=true
  ·rw [if_pos hrd]
   have hx:r'=r:=by
    refine Zr3 ?_ hi.w (hi.good rfl) kon q1
    simp only [Bool.or_eq_true,beq_iff_eq] at hrd
    omega
   subst hx
   exact ⟨s,t,o,rfl,h.mono (by omega),rfl,q5,same _ rfl (.inr ⟨rfl,rfl⟩)⟩
  ·rw [if_neg hrd]
   obtain ⟨s',t',f1,f3,f4,f5⟩:=hset q4 hgx (.inl (by rw [hl];rfl))
   rw [f1]
   have hap:ap (lk a.Key (pl t)) a=some (some r',o):=by rw [hap];simp [q2]
   refine ⟨s',t',o,rfl,f3,f5,q5,?_⟩
   rw [Z6q hap (by rw [hl];rfl),f4]
   rfl
def hasB (sp:List ByteArray) (k:ByteArray):Bool:=sp.any fun x=>sEq k x
theorem Z69 (a b:ByteArray):sEq a b=sEq b a:=by
 cases h:sEq b a
 ·cases h2:sEq a b
  ·rfl
  ·rw [Zdn.1 h2,Zc6] at h;cases h
 ·rw [Zdn.1 h,Zc6]
theorem Zv0 {sp:List ByteArray} {k:ByteArray} (hl:sp.length ≤ 1000):∀ (n i:Nat),i + n=sp.length →
  (Zcp sp k (n + 1) (i:Int)=some (.inr ()) ∧ hasB (sp.drop i) k=false) ∨ (∃ j:Nat,Zcp sp k (n + 1) (i:Int)=some (.inl (j:Int)) ∧ hasB (sp.drop i) k=true)
 | 0,i,h=>by
  rw [Zcp,if_neg (by simp;omega),List.drop_of_length_le (by omega)]
  exact .inl ⟨rfl,rfl⟩
 | n + 1,i,h=>by
  have h1:i < sp.length:=by omega
  rw [Zcp,if_pos (by simp;omega),Zcs h1,wr1 (by omega),List.drop_eq_getElem_cons h1]
  simp only [Option.bind_some,hasB,List.any_cons]
  by_cases hq:sEq k sp[i]=true
  ·rw [if_pos hq,hq];exact .inr ⟨i,rfl,rfl⟩
  ·rw [if_neg hq,Bool.eq_false_iff.2 hq,Bool.false_or]
   exact Zv0 hl n (i + 1) (by omega)
theorem Zus {sp:List ByteArray} (k:ByteArray) (hl:sp.length ≤ 1000):Zd2 sp k=some (hasB sp k):=by
 unfold Zd2 Zgy
 rw [show (Int.toNat ((sp.length:Int) - (0:Int)) + 1)=sp.length + 1 by omega]
 have:=Zv0 (k:=k) hl sp.length 0 (by omega)
 rw [show ((0:Nat):Int)=0 from rfl,List.drop_zero] at this
 rcases this with ⟨e1,e2⟩ | ⟨j,e1,e2⟩
 ·rw [e1,e2];rfl
 ·rw [e1,e2];simp
theorem Zyg {sp:List ByteArray} {k:ByteArray} (hl:sp.length ≤ 1000):∀ (n i:Nat),i + n=sp.length →
  (Zel sp k (n + 1) (i:Int)=some (.inr ()) ∧ hasB (sp.drop i) k=false) ∨ (Zel sp k (n + 1) (i:Int)=some (.inl true) ∧ hasB (sp.drop i) k=true)
 | 0,i,h=>by
  rw [Zel,if_neg (by simp;omega),List.drop_of_length_le (by omega)]
  exact .inl ⟨rfl,rfl⟩
 | n + 1,i,h=>by
  have h1:i < sp.length:=by omega
  rw [Zel,if_pos (by simp;omega),Zcs h1,wr1 (by omega),List.drop_eq_getElem_cons h1]
  simp only [Option.bind_some,hasB,List.any_cons]
  rw [Z69 sp[i] k]
  by_cases hq:sEq k sp[i]=true
  ·rw [if_pos hq,hq];exact .inr ⟨rfl,rfl⟩
  ·rw [if_neg hq,Bool.eq_false_iff.2 hq,Bool.false_or]
   exact Zyg hl n (i + 1) (by omega)
theorem Z9s {sp:List ByteArray} (k:ByteArray) (hl:sp.length ≤ 1000):Zkb sp k=some (hasB sp k):=by
 unfold Zkb
 rw [show (Int.toNat ((sp.length:Int) - (0:Int)) + 1)=sp.length + 1 by omega]
 have:=Zyg (k:=k) hl sp.length 0 (by omega)
 rw [show ((0:Nat):Int)=0 from rfl,List.drop_zero] at this
 rcases this with ⟨e1,e2⟩ | ⟨e1,e2⟩
 ·rw [e1,e2];rfl
 ·rw [e1,e2];rfl
def Znu (R:Int) (sp:List ByteArray) (L:List KV) (a:Zm):Option (List KV × Zc):=if hasB sp a.Key=true then some (L,default) else Zlq R L a
def runS (R:Int) (sp:List ByteArray):List Zm → List KV → Option (List KV × List Zc × Int)
 | [],L=>some (L,[],0)
 | a :: r,L=>(Znu R sp L a).bind fun z=>if (a.Must && (z.2.Code != 0))=true then some (z.1,[],z.2.Code) else (runS R sp r z.1).bind fun w=>some (w.1,z.2 :: w.2.1,w.2.2)
def oneS (R:Int) (sp:List ByteArray) (L:List KV) (d:Zbk):Option (List KV × Zw):=(Ze3 d).bind fun z=>if (z.1 != 0)=true then some (L,{ Code:=z.1,At:=z.2,Answers:=[] }) else (runS R sp d.Acts L).bind fun w=>if w.2.2=0 then some (w.1,{ Code:=0,At:=0,Answers:=w.2.1 }) else some (L,{ Code:=w.2.2,At:=((w.2.1.length + 1:Nat):Int),Answers:=[] })
theorem Zx1 {R:Int} {sp:List ByteArray} {L:List KV} {a:Zm} (h:InvK L) (ha:ActIn a):∃ L' x,Znu R sp L a=some (L',x) ∧ InvK L' ∧ RecW x.Rec:=by
 unfold Znu
 split
 ·exact ⟨L,_,rfl,h,Zcm⟩
 ·exact Z1g h ha
theorem Zvl {R:Int} {sp:List ByteArray}:∀ {A:List Zm} {L:List KV},InvK L → (∀ a ∈ A,ActIn a) → ∃ L' xs c,runS R sp A L=some (L',xs,c) ∧ InvK L' ∧ Zoj xs ∧ (c=0 → xs.length=A.length) ∧ (c ≠ 0 → xs.length < A.length)
 | [],L,h,_=>⟨L,[],0,rfl,h,fun a ha=>(by cases ha),fun _=>rfl,fun h=>absurd rfl h⟩
 | a :: A,L,h,hA=>by
  obtain ⟨La,xa,s1,i1,i2⟩:=Zx1 (R:=R) (sp:=sp) h (hA a (List.mem_cons_self ..))
  rw [runS,s1]
  simp only [Option.bind_some]
  split
  ·rename_i hc
   have hne:xa.Code ≠ 0:=by
    have:=(Bool.and_eq_true _ _ ▸ hc:_ ∧ _).2
    simpa using this
   exact ⟨_,_,_,rfl,i1,fun a ha=>(by cases ha),fun h=>absurd h hne,fun _=>by simp⟩
  ·obtain ⟨L',xs,c,e,j1,j2,j3,j4⟩:=Zvl i1 (fun a ha=>hA a (List.mem_cons_of_mem _ ha))
   rw [e]
   refine ⟨_,_,_,rfl,j1,fun y hy=>?_,fun h=>by simp [j3 h],fun h=>by have:=j4 h;simp;omega⟩
   rcases List.mem_cons.1 hy with rfl | hy
   ·exact i2
   ·exact j2 y hy
structure HandGo (h:Z0) (d:Zbk) (sp:List ByteArray) (R:Int) (Lf:List KV) (Q:Zw) (n m:Nat):Prop where
 hd:h.d=d
 hsp:h.split=sp
 st:(∃ t xs ys L1 c,FR h.now t n ∧ t.Room=R ∧ h.out={ Code:=0,At:=0,Answers:=xs } ∧ h.over=decide (xs.length=d.Acts.length) ∧ xs.length ≤ d.Acts.length ∧ runS R sp (d.Acts.drop xs.length) (pl t)=some (L1,ys,c) ∧ (c=0 → Q={ Code:=0,At:=0,Answers:=xs ++ ys } ∧ Lf=L1) ∧ (c ≠ 0 → Q={ Code:=c,At:=(((xs ++ ys).length + 1:Nat):Int),Answers:=[] }) ∧ Zoj xs ∧ m=ys.length + (if c=0 then 0 else 1)) ∨
  (Q.Code ≠ 0 ∧ h.over=true ∧ h.out=Q ∧ Q.Answers=[] ∧ m=0)
theorem Zx8 {h:Z0} {d:Zbk} {sp:List ByteArray} {R:Int} {Lf:List KV} {Q:Zw} {n m:Nat} (hd:∀ a ∈ d.Acts,ActIn a) (hl:d.Acts.length ≤ 1000) (hs:sp.length ≤ 1000) (H:HandGo h d sp R Lf Q n m) (hn:n < 1000000) :
  (m=0 ∧ h.over=true ∧ Zg4 h=some (h,false)) ∨ (∃ h' m',m=m' + 1 ∧ h.over=false ∧ Zg4 h=some (h',true) ∧ HandGo h' d sp R Lf Q (n + 1) m'):=by
 obtain ⟨e1,e2,H⟩:=H
 obtain ⟨hd',hsp',now,out,over⟩:=h
 simp only at e1 e2 H
 subst e1 e2
 rcases H with ⟨t,xs,ys,L1,c,hf,hr,rfl,hov,hx,hrun,q1,q2,hA,rfl⟩ | ⟨q1,rfl,rfl,q2,rfl⟩
 ·by_cases hxl:xs.length=hd'.Acts.length
  ·rw [decide_eq_true hxl] at hov
   subst hov
   rw [List.drop_of_length_le (by omega)] at hrun
   cases hrun
   exact .inl ⟨rfl,rfl,rfl⟩
  ·rw [decide_eq_false hxl] at hov
   subst hov
   right
   have h1:xs.length < hd'.Acts.length:=by omega
   have ha:=hd _ (List.getElem_mem h1)
   rw [List.drop_eq_getElem_cons h1,runS] at hrun
   obtain ⟨s',t',x,f1,f2,f3,f4,f5⟩:∃ s' t' x,Zji { d:=hd',split:=hsp',now:=now,out:={ Code:=0,At:=0,Answers:=xs },over:=false }=Zhm { d:=hd',split:=hsp',now:=now,out:={ Code:=0,At:=0,Answers:=xs },over:=false } hd'.Acts[xs.length] x { d:=hd',split:=hsp',now:=s',out:={ Code:=0,At:=0,Answers:=xs },over:=false } ∧ FR s' t' (n + 1) ∧ t'.Room=R ∧ RecW x.Rec ∧ Znu R hsp' (pl t) hd'.Acts[xs.length]=some (pl t',x):=by
    unfold Zji
    simp only [Bool.false_eq_true,if_false]
    rw [Zcs h1]
    simp only [Option.bind_some]
    rw [Zus _ hs]
    simp only [Option.bind_some]
    unfold Znu
    by_cases hb:hasB hsp' (hd'.Acts[xs.length]).Key=true
    ·rw [hb]
     exact ⟨now,t,default,rfl,hf.mono (by omega),hr,Zcm,rfl⟩
    ·rw [if_neg hb,Bool.eq_false_iff.2 hb]
     obtain ⟨s',t',x,g1,g2,g3,g4,g5⟩:=Zyr hf hn ha
     rw [hr] at g5
     refine ⟨s',t',x,?_,g2,g3.trans hr,g4,g5⟩
     simp only [Bool.not_false,if_true]
     rw [g1]
     rfl
   rw [f5] at hrun
   simp only [Option.bind_some] at hrun
   unfold Zg4
   rw [f1]
   unfold Zhm
   by_cases hm:((hd'.Acts[xs.length]).Must && (x.Code != 0))=true
   ·rw [if_pos hm] at hrun ⊢
    simp only [Option.some.injEq,Prod.mk.injEq] at hrun
    obtain ⟨rfl,rfl,rfl⟩:=hrun
    have hne:x.Code ≠ 0:=by
     have:=(Bool.and_eq_true _ _ ▸ hm:_ ∧ _).2
     simpa using this
    have hq:=q2 hne
    refine ⟨_,0,by simp [hne],rfl,rfl,rfl,rfl,.inr ⟨by rw [hq];exact hne,rfl,?_,by rw [hq],rfl⟩⟩
    rw [hq]
    simp only [List.append_nil]
    rw [wr1 (by omega)]
   ·rw [if_neg hm] at hrun ⊢
    obtain ⟨⟨w1,w2,w3⟩,r1,hrun⟩:=Option.bind_eq_some_iff.1 hrun
    simp only [Option.some.injEq,Prod.mk.injEq] at hrun
    obtain ⟨rfl,rfl,rfl⟩:=hrun
    have hlen:(xs.length + [x].length) * 104 ≤ 140737488355328:=by simp;omega
    simp only
    rw [if_pos hlen]
    refine ⟨_,w2.length + (if w3=0 then 0 else 1),by simp;omega,trivial,rfl,rfl,rfl,.inl ⟨t',xs ++ [x],w2,w1,w3,f2,f3,rfl,?_,by simp;omega,?_,?_,?_,Zv7 hA f4,rfl⟩⟩
    ·show ((IntKind.i64.wrap ((xs.length:Int) + 1)) == ((hd'.Acts.length:Int)))=_
     rw [wr1 (by omega)]
     by_cases h2:xs.length + 1=hd'.Acts.length
     ·rw [decide_eq_true (by simp;omega)]
      rw [beq_iff_eq];omega
     ·rw [decide_eq_false (by simp;omega)]
      rw [beq_eq_false_iff_ne];omega
    ·rw [show (xs ++ [x]).length=xs.length + 1 by simp]
     exact r1
    ·intro hc
     obtain ⟨g1,g2⟩:=q1 hc
     exact ⟨by rw [g1];simp,g2⟩
    ·intro hc
     rw [q2 hc];simp
 ·exact .inl ⟨rfl,rfl,rfl⟩
theorem HandGo.mono {h:Z0} {d:Zbk} {sp:List ByteArray} {R:Int} {Lf:List KV} {Q:Zw} {n n' m:Nat} (H:HandGo h d sp R Lf Q n m) (hn:n ≤ n'):HandGo h d sp R Lf Q n' m:=by
 obtain ⟨e1,e2,H⟩:=H
 refine ⟨e1,e2,?_⟩
 rcases H with ⟨t,xs,ys,L1,c,hf,H⟩ | H
 ·exact .inl ⟨t,xs,ys,L1,c,hf.mono hn,H⟩
 ·exact .inr H
theorem Z1p {d:Zbk} {sp:List ByteArray} {R:Int} {Lf:List KV} {Q:Zw} (hd:∀ a ∈ d.Acts,ActIn a) (hl:d.Acts.length ≤ 1000) (hs:sp.length ≤ 1000):∀ (m f i:Nat) {h:Z0} {n:Nat},HandGo h d sp R Lf Q n m → m ≤ f → i + m ≤ 12 → n + m < 1000000 → ∃ h',Zfl (f + 1) h (i:Int)=some (h',((i + m:Nat):Int)) ∧ HandGo h' d sp R Lf Q (n + m) 0
 | 0,f,i,h,n,H,_,hi,hn=>by
  rcases Zx8 hd hl hs H (by omega) with ⟨_,_,e⟩ | ⟨_,_,e,_⟩
  ·have hd:decide ((i:Int) < 20)=true:=by simp;omega
   refine ⟨h,?_,H⟩
   rw [Zfl,hd,gd_t,e]
   rfl
  ·omega
 | m + 1,f + 1,i,h,n,H,hf,hi,hn=>by
  rcases Zx8 hd hl hs H (by omega) with ⟨e,_⟩ | ⟨h',m',e,_,e2,H'⟩
  ·omega
  ·obtain rfl:m'=m:=by omega
   obtain ⟨h2,g1,g2⟩:=Z1p hd hl hs m' f (i + 1) H' (by omega) (by omega) (by omega)
   have hd:decide ((i:Int) < 20)=true:=by simp;omega
   refine ⟨h2,?_,g2.mono (by omega)⟩
   rw [Zfl,hd,gd_t,e2]
   simp only [Option.bind_some,Bool.and_self,if_true]
   rw [wr1 (by omega),g1]
   congr 3
   omega
theorem Z7r {h:Z0} {d:Zbk} {sp:List ByteArray} {R:Int} {Lf:List KV} {Q:Zw} {n m:Nat} (hd:∀ a ∈ d.Acts,ActIn a) (hl:d.Acts.length ≤ 1000) (hs:sp.length ≤ 1000) (H:HandGo h d sp R Lf Q n m) (hm:m ≤ 12) (hn:n < 900000):∃ h',Zlp h=some (h',(m:Int)) ∧ HandGo h' d sp R Lf Q (n + 12) 0:=by
 obtain ⟨h',e1,e2⟩:=Z1p hd hl hs m 20 0 H (by omega) (by omega) (by omega)
 refine ⟨h',?_,e2.mono (by omega)⟩
 unfold Zlp Zkl
 rw [show (Int.toNat ((20:Int) - (0:Int)) + 1)=20 + 1 by rfl]
 rw [show ((0:Nat):Int)=0 from rfl] at e1
 rw [e1]
 simp
theorem HandGo.done {h:Z0} {d:Zbk} {sp:List ByteArray} {R:Int} {Lf:List KV} {Q:Zw} {n:Nat} (hd:∀ a ∈ d.Acts,ActIn a) (H:HandGo h d sp R Lf Q n 0) :
  h.over=true ∧ h.out=Q ∧ Zoj Q.Answers ∧ (Q.Answers ≠ [] → Q.Answers.length=d.Acts.length) ∧ (Q.Code=0 → Q.At=0 ∧ Q.Answers.length=d.Acts.length ∧ ∃ t,FR h.now t n ∧ t.Room=R ∧ pl t=Lf):=by
 obtain ⟨e1,e2,H⟩:=H
 rcases H with ⟨t,xs,ys,L1,c,hf,hr,ho,hov,hx,hrun,q1,q2,hA,hm⟩ | ⟨q1,q2,q3,q4,_⟩
 ·have hc:c=0:=Classical.byContradiction fun h=>by rw [if_neg h] at hm;omega
  subst hc
  have hy:ys=[]:=List.length_eq_zero_iff.1 (by simpa using hm.symm)
  subst hy
  obtain ⟨rfl,rfl⟩:=q1 rfl
  obtain ⟨L',zs,c,r1,_,_,r2,_⟩:=Zvl (R:=R) (sp:=sp) (A:=d.Acts.drop xs.length) hf.inv (fun a ha=>hd a (List.mem_of_mem_drop ha))
  rw [hrun] at r1
  simp only [Option.some.injEq,Prod.mk.injEq] at r1
  obtain ⟨rfl,rfl,rfl⟩:=r1
  have hlen:=r2 rfl
  simp at hlen
  have hxl:xs.length=d.Acts.length:=by omega
  rw [decide_eq_true hxl] at hov
  rw [List.drop_of_length_le (by omega)] at hrun
  cases hrun
  simp only [List.append_nil]
  exact ⟨hov,ho,hA,fun _=>hxl,fun _=>⟨trivial,hxl,t,hf,hr,rfl⟩⟩
 ·rw [q4]
  exact ⟨q2,q3,fun a ha=>(by cases ha),fun h=>absurd rfl h,fun h=>absurd h q1⟩
theorem Zbag {Q:Zw} (hl:Q.Answers.length ≤ 1000) (hA:Zoj Q.Answers):Zot Q=some Q:=by
 unfold Zot
 rw [if_pos ⟨by omega,List.all_eq_true.2 fun a ha=>by have:=(hA a ha).len;simp;omega⟩]
theorem Z19 {h:Z0} {d:Zbk} {sp:List ByteArray} {R:Int} {Lf:List KV} {Q:Zw} {n:Nat} (hd:∀ a ∈ d.Acts,ActIn a) (hl:d.Acts.length ≤ 1000) (H:HandGo h d sp R Lf Q n 0):Zh4 h=some (Q,true) ∧ Zsn Q=(Q.Answers.length ≤ 12 ∧ Zoj Q.Answers) ∧ Zjf h=some true:=by
 obtain ⟨e1,e2,e3,e4,_⟩:=H.done hd
 refine ⟨?_,rfl,by unfold Zjf;rw [e1]⟩
 unfold Zh4
 rw [e1,e2,Zbag _ e3]
 ·rfl
 ·by_cases hq:Q.Answers=[]
  ·rw [hq];simp
  ·rw [e4 hq];exact hl
theorem Zyw {d:Zbk} (hd:∀ a ∈ d.Acts,ActIn a) (hl:d.Acts.length ≤ 1000):Zmi d=some d:=by
 unfold Zmi
 rw [if_pos ⟨by omega,List.all_eq_true.2 fun a ha=>by have:=(hd a ha).mkr.len;simp;omega⟩]
theorem Z6z {d:Zbk} {s:Zk} {sp:List ByteArray} {t:Zf} {n:Nat} (hf:FR s t n) (hd:∀ a ∈ d.Acts,ActIn a) (hl:d.Acts.length ≤ 1000) (hs:sp.length ≤ 1000) :
  ∃ h Lf Q m,Zm0 d s sp=some h ∧ oneS t.Room sp (pl t) d=some (Lf,Q) ∧ HandGo h d sp t.Room Lf Q n m ∧ m ≤ 12 ∧ (Q.Code=0 → ∃ at_,Ze3 d=some (0,at_)) ∧ (∀ at_,Ze3 d=some (0,at_) → (Q.Code=0 → m=d.Acts.length) ∧ (Q.Code ≠ 0 → Q.At=(m:Int))):=by
 obtain ⟨c,at_,e1,_,hc⟩:=Zoo hd
 unfold Zm0 oneS
 rw [Zyw hd hl,e1]
 unfold Zgw
 rw [if_pos (by omega)]
 simp only [Option.bind_some]
 by_cases h0:(c != 0)=true
 ·rw [if_pos h0,if_pos h0]
  have hne:c ≠ 0:=by simpa using h0
  exact ⟨_,_,_,0,rfl,rfl,⟨rfl,rfl,.inr ⟨hne,rfl,rfl,rfl,rfl⟩⟩,by omega,fun h=>absurd h hne,fun a h=>by
   simp only [Option.some.injEq,Prod.mk.injEq] at h
   exact absurd h.1 hne⟩
 ·rw [if_neg h0,if_neg h0]
  obtain rfl:c=0:=by simpa using h0
  have hl2:=hc rfl
  obtain ⟨L',ys,k,r1,_,_,r3,r4⟩:=Zvl (R:=t.Room) (sp:=sp) (A:=d.Acts) hf.inv hd
  rw [r1]
  simp only [Option.bind_some]
  by_cases hk:k=0
  ·rw [if_pos hk]
   subst hk
   have:=r3 rfl
   refine ⟨_,_,_,ys.length,rfl,rfl,⟨rfl,rfl,.inl ⟨t,[],ys,L',0,hf,rfl,rfl,?_,Nat.zero_le _,r1,fun _=>⟨rfl,rfl⟩,fun h=>absurd rfl h,fun a ha=>(by cases ha),rfl⟩⟩,by omega,fun _=>⟨_,rfl⟩,fun _ _=>⟨fun _=>this,fun h=>absurd rfl h⟩⟩
   exact (decide_eq_false (by simp;omega)).symm
  ·rw [if_neg hk]
   have:=r4 hk
   refine ⟨_,_,_,ys.length + 1,rfl,rfl,⟨rfl,rfl,.inl ⟨t,[],ys,L',k,hf,rfl,rfl,?_,Nat.zero_le _,r1,fun h=>absurd h hk,fun _=>rfl,fun a ha=>(by cases ha),by rw [if_neg hk]⟩⟩,by omega,fun h=>absurd h hk,fun _ _=>⟨fun h=>absurd h hk,fun _=>rfl⟩⟩
   exact (decide_eq_false (by simp;omega)).symm
theorem Z6w {o:Option Zb} {a:Zm} (ho:OkO o) (ha:ActIn a) (hk:Zl1 a.Kind=true):∃ x,ap o a=some (o,x):=by
 have hk:a.Kind=3 ∨ a.Kind=4 ∨ a.Kind=9 ∨ a.Kind=12 ∨ a.Kind=20:=by
  unfold Zl1 at hk
  simp only [Bool.or_eq_true,beq_iff_eq] at hk
  omega
 cases o with
 | none =>
  obtain ⟨x,e,_⟩:=Z9p ha (by omega)
  exact ⟨x,e⟩
 | some r =>
  obtain ⟨hr,hg⟩:=ho r rfl
  obtain ⟨z,e,hs⟩:=Zln (there:=true) hr ha
  rw [if_pos rfl] at hs
  simp only [ap,getR,e,Option.bind_some]
  rcases hs with ⟨c,hc,rfl⟩ | ⟨h1,h2,h3,⟨k,k2,k3,rfl⟩ | ⟨k,k2,rfl⟩ | ⟨k,rfl⟩ | ⟨k,k2,rfl⟩ | ⟨k,k2,k3,k4,r',o,q1,q2,q3,q4,q5,rfl⟩⟩
  ·exact ⟨ans c,by simp [hc]⟩
  ·cases k2
  ·omega
  ·exact ⟨_,rfl⟩
  ·exact ⟨_,rfl⟩
  ·have:r'=r:=Zr3 (by omega) hr hg k4 q1
   subst this
   exact ⟨o,by simp [q2]⟩
theorem Z7j {R:Int} {sp:List ByteArray} {L L':List KV} {a:Zm} {x:Zc} (h:InvK L) (ha:ActIn a) (e:Znu R sp L a=some (L',x)) {z:ByteArray} (hz:z=a.Key → (hasB sp a.Key || Zl1 a.Kind)=true):lk z L'=lk z L:=by
 unfold Znu at e
 by_cases hb:hasB sp a.Key=true
 ·rw [if_pos hb] at e
  cases e
  rfl
 ·rw [if_neg hb] at e
  by_cases hrd:Zl1 a.Kind=true
  ·obtain ⟨y,e1⟩:=Z6w (h.at_ a.Key) ha hrd
   rw [Zxy h.srt e1] at e
   cases e
   rfl
  ·have hz:z ≠ a.Key:=fun he=>by
    have:=hz he
    rw [Bool.eq_false_iff.2 hb,Bool.eq_false_iff.2 hrd] at this
    cases this
   obtain ⟨o1,y,e1,_⟩:=Z6c (h.at_ a.Key) ha
   unfold Zlq at e
   rw [e1] at e
   simp only [Option.bind_some] at e
   split at e
   ·cases e;rfl
   ·cases e
    rw [Z6p h.srt,if_neg (fun he=>hz (Zdn.1 he))]
def Zgo (sp:List ByteArray) (A:List Zm):List ByteArray:=(A.filter fun a=>!(hasB sp a.Key || Zl1 a.Kind)).map (·.Key)
def Zgk (sp:List ByteArray) (A:List Zm):List Zm:=A.filter fun a=>hasB sp a.Key
theorem Z54 {sp:List ByteArray} {a:Zm} {A:List Zm} (h:hasB sp a.Key=true):Zgk sp (a :: A)=a :: Zgk sp A:=by simp [Zgk,h]
theorem Z1r {sp:List ByteArray} {a:Zm} {A:List Zm} (h:hasB sp a.Key=false):Zgk sp (a :: A)=Zgk sp A:=by simp [Zgk,h]
theorem Z8c {sp:List ByteArray} {a:Zm} {A:List Zm} (h:(hasB sp a.Key || Zl1 a.Kind)=true):Zgo sp (a :: A)=Zgo sp A:=by
 unfold Zgo
 rw [List.filter_cons_of_neg (by rw [h];simp)]
theorem Zbb9 {sp:List ByteArray} {a:Zm} {A:List Zm} (h:(hasB sp a.Key || Zl1 a.Kind)=false):Zgo sp (a :: A)=a.Key :: Zgo sp A:=by
 unfold Zgo
 rw [List.filter_cons_of_pos (by rw [h];rfl),List.map_cons]
theorem Z3l {R:Int} {sp:List ByteArray}:∀ {A:List Zm} {L L':List KV} {xs:List Zc} {c:Int},InvK L → (∀ a ∈ A,ActIn a) → runS R sp A L=some (L',xs,c) → ∀ z,z ∉ Zgo sp A → lk z L'=lk z L
 | [],L,L',xs,c,h,_,e,z,_=>by cases e;rfl
 | a :: A,L,L',xs,c,h,hA,e,z,hz=>by
  have ha:=hA a (List.mem_cons_self ..)
  obtain ⟨La,xa,s1,i1,i2⟩:=Zx1 (R:=R) (sp:=sp) h ha
  rw [runS,s1] at e
  simp only [Option.bind_some] at e
  have h1:lk z La=lk z L:=Z7j h ha s1 fun he=>by
   cases hq:(hasB sp a.Key || Zl1 a.Kind) with
   | true=>rfl
   | false =>
    refine absurd ?_ hz
    unfold Zgo
    rw [List.filter_cons_of_pos (by rw [hq];rfl),List.map_cons,he]
    exact List.mem_cons_self ..
  have hz2:z ∉ Zgo sp A:=fun hm=>hz (by
   unfold Zgo at hm ⊢
   obtain ⟨b,hb,rfl⟩:=List.mem_map.1 hm
   exact List.mem_map.2 ⟨b,by
    obtain ⟨b1,b2⟩:=List.mem_filter.1 hb
    exact List.mem_filter.2 ⟨List.mem_cons_of_mem _ b1,b2⟩,rfl⟩)
  split at e
  ·cases e;exact h1
  ·obtain ⟨⟨w1,w2,w3⟩,r1,e⟩:=Option.bind_eq_some_iff.1 e
   simp only [Option.some.injEq,Prod.mk.injEq] at e
   obtain ⟨rfl,_,_⟩:=e
   rw [Z3l i1 (fun a ha=>hA a (List.mem_cons_of_mem _ ha)) r1 z hz2,h1]
theorem Z88 {k:ByteArray} {l:List KV} (hs:Srt l) (h:(lk k l).isSome=true):(delL k l).length + 1=l.length:=by
 rcases Zld zrc hs with ⟨p,a1,_,_,_,a5⟩ | ⟨_,a2,_⟩
 ·have:=(List.getElem?_eq_some_iff.1 a1).1
  rw [a5]
  simp
  omega
 ·rw [a2] at h;cases h
theorem Z2r:∀ {A B:List KV},Srt A → Srt B → (∀ k,(lk k A).isSome=true → (lk k B).isSome=true) → A.length ≤ B.length
 | [],B,_,_,_=>Nat.zero_le _
 | p :: A,B,hA,hB,h=>by
  obtain ⟨a1,a2⟩:=List.pairwise_cons.1 hA
  have h1:=Z88 hB (h p.1 (by simp [lk,Zc6]))
  have:=Z2r a2 (Ztw (k:=p.1) hB) fun k hk=>by
   rw [Ztj k p.1 hB]
   by_cases he:sEq k p.1=true
   ·rw [Zl6 fun q hq e=>?_] at hk
    ·cases hk
    ·have:=a1 q hq
     rw [e,Zdn.1 he,Zir] at this;cases this
   ·rw [if_neg he]
    refine h k ?_
    simp only [lk]
    rw [if_neg he]
    exact hk
  simp only [List.length_cons]
  omega
theorem Z7z {A B:List KV} {k:ByteArray} (hA:Srt A) (hB:Srt B) (h:∀ k,(lk k A).isSome=true → (lk k B).isSome=true) (h1:lk k A=none) (h2:(lk k B).isSome=true):A.length < B.length:=by
 have:=Z2r (Zt9 (k:=k) (x:=zrc) hA) hB fun z hz=>by
  rw [Zvy] at hz
  by_cases he:sEq z k=true
  ·rw [Zdn.1 he];exact h2
  ·rw [if_neg he] at hz
   exact h z hz
 rcases Zld zrc hA with ⟨p,_,_,a3,_⟩ | ⟨_,_,a3,_⟩
 ·rw [h1] at a3;cases a3
 ·rw [a3] at this
  have hr:=Zts k A
  simp at this
  omega
theorem Z9z {s:Zk} {t:Zf} {n:Nat} (h:FR s t n) (hn:n < 1000000) (k:ByteArray):∃ s' t' b,Zeh s k=some (s',b) ∧ FR s' t' n ∧ pl t'=delL k (pl t) ∧ t'.Room=t.Room:=by
 obtain ⟨s',t',b,f1,f2,f3,f4⟩:=Zr6 h.rel hn k
 have hd:=Z2z h.rel hn f1
 rw [f3.top] at hd
 have hro:t'.Room=t.Room:=by rw [← f3.room,Zo4 f1,h.rel.room]
 have hf:=h.fit
 refine ⟨s',t',b,f1,⟨f3,fun q hq=>?_,?_⟩,hd,hro⟩
 ·rw [hd] at hq;exact h.good q (Zn8 hq)
 ·have:=Zod k (pl t)
  rw [Zew] at this
  rw [hro,← Zew,hd];omega
theorem Z9h {s:Zk} {t:Zf} {n:Nat} (h:FR s t n) (hn:n < 1000000) {k:ByteArray} {y:Zb} (hw:RecW y) (hg:Zcy y) (k1:sEq k ⟨#[]⟩=false) (k2:k.size ≤ 24) (ho:(lk k (pl t)).isSome=true ∨ (t.L.length:Int) < t.Room) :
  ∃ s' t',Zc9 s k y=some (s',0) ∧ FR s' t' (n + 1) ∧ pl t'=insL k y (pl t) ∧ t'.Room=t.Room:=by
 have hsh:=Zmm hg
 obtain ⟨s',t',c,f1,f2,f3,_⟩:=Zof h.rel hn k hw.ok (by omega)
 obtain ⟨rfl,hp⟩:=(Zn7 h.rel hn f1 ((Zid hw.ok).2 hg) (by omega) k1 k2).1 ho
 rw [f3.top] at hp
 have hro:t'.Room=t.Room:=by rw [← f3.room,Zhs f1,h.rel.room]
 exact ⟨s',t',f1,Zv1 h f3 hw hg ho hp hro,hp,hro⟩
theorem Zpt {d:Zbk} (hl:d.Acts.length ≤ 12):∀ (n i:Nat),i + n=d.Acts.length → Zef d (n + 1) (i:Int)=some (.inr ()) → ∀ a ∈ d.Acts.drop i,Zf7 a=some 0
 | 0,i,h,_,a,ha=>by
  rw [List.drop_of_length_le (by omega)] at ha;cases ha
 | n + 1,i,h,e,a,ha=>by
  have h1:i < d.Acts.length:=by omega
  rw [Zef,if_pos (by simp;omega),Zcs h1,wr1 (by omega)] at e
  simp only [Option.bind_some] at e
  obtain ⟨c,e1,e⟩:=Option.bind_eq_some_iff.1 e
  by_cases hc:(c != 0)=true
  ·rw [if_pos hc] at e;cases e
  ·rw [if_neg hc] at e
   rw [List.drop_eq_getElem_cons h1] at ha
   rcases List.mem_cons.1 ha with rfl | ha
   ·rw [e1]
    have:c=0:=by simpa using hc
    rw [this]
   ·exact Zpt hl n (i + 1) (by omega) e a ha
theorem Zuu {d:Zbk} {at_:Int} (hd:∀ a ∈ d.Acts,ActIn a) (e:Ze3 d=some (0,at_)):d.Acts.length ≤ 12 ∧ ∀ a ∈ d.Acts,Zf7 a=some 0:=by
 obtain ⟨c,at2,e1,_,hc⟩:=Zoo hd
 rw [e] at e1
 simp only [Option.some.injEq,Prod.mk.injEq] at e1
 have hl:=hc e1.1.symm
 refine ⟨hl.2,?_⟩
 unfold Ze3 at e
 rw [if_neg (by rw [Bool.or_eq_true,beq_iff_eq,decide_eq_true_eq];omega),show (Int.toNat ((d.Acts.length:Int) - (0:Int)) + 1)=d.Acts.length + 1 by omega] at e
 obtain ⟨z,ez,e⟩:=Option.bind_eq_some_iff.1 e
 have hz:z=.inr ():=by
  rcases z with ⟨c,b⟩ | u
  ·simp only [Option.some.injEq,Prod.mk.injEq] at e
   obtain ⟨z2,f1,_,f3⟩:=Zqs hd hl.2 d.Acts.length 0 (by omega)
   rw [show ((0:Nat):Int)=0 from rfl,ez] at f1
   simp only [Option.some.injEq] at f1
   subst f1
   rcases f3 with f3 | ⟨c2,a2,f3,f4⟩
   ·cases f3
   ·simp only [Sum.inl.injEq,Prod.mk.injEq] at f3
    exact absurd (f3.1.symm.trans e.1) f4
  ·rfl
 subst hz
 exact Zpt hl.2 d.Acts.length 0 (by omega) ez
theorem Zty {h:Z0} (hl:h.d.Acts.length ≤ 1000) (hs:h.split.length ≤ 1000):∀ (n i:Nat) (xs:List Zm) (ks:List ByteArray),i + n=h.d.Acts.length → xs.length ≤ i → ks.length ≤ i → Zdi h (n + 1) xs ks (i:Int)=some (xs ++ Zgk h.split (h.d.Acts.drop i),ks ++ Zgo h.split (h.d.Acts.drop i))
 | 0,i,xs,ks,hi,_,_=>by
  rw [Zdi,if_neg (by simp;omega),List.drop_of_length_le (by omega)]
  simp [Zgk,Zgo]
 | n + 1,i,xs,ks,hi,h2,h3=>by
  have h1:i < h.d.Acts.length:=by omega
  rw [Zdi,if_pos (by simp;omega),Zcs h1,List.drop_eq_getElem_cons h1]
  simp only [Option.bind_some]
  rw [Zus _ hs]
  simp only [Option.bind_some,Zgr,wr1 (show i < 9223372036854775807 by omega)]
  by_cases hb:hasB h.split (h.d.Acts[i]).Key=true
  ·rw [if_pos hb,if_pos (by simp;omega),Zty hl hs n (i + 1) _ _ (by omega) (by simp;omega) (by omega)]
   rw [Z54 hb,Z8c (by rw [hb];rfl),List.append_assoc]
   rfl
  ·rw [if_neg hb]
   have hb':=Bool.eq_false_iff.2 hb
   simp only [Zlx,Option.bind_some]
   by_cases hrd:Zl1 (h.d.Acts[i]).Kind=true
   ·have hrd':=hrd
    unfold Zl1 at hrd'
    rw [hrd']
    simp only [Bool.not_true,Bool.false_eq_true,if_false]
    rw [Zty hl hs n (i + 1) _ _ (by omega) (by omega) (by omega)]
    rw [Z1r hb',Z8c (by rw [hrd,hb'];rfl)]
   ·have hrd1:=Bool.eq_false_iff.2 hrd
    have hrd':=hrd1
    unfold Zl1 at hrd'
    rw [hrd']
    simp only [Bool.not_false,if_true]
    rw [if_pos (by simp;omega),Zty hl hs n (i + 1) _ _ (by omega) (by omega) (by simp;omega)]
    rw [Z1r hb',Zbb9 (by rw [hrd1,hb'];rfl),List.append_assoc]
    rfl
theorem Zxt {h:Z0} {tn:Zf} {nn:Nat} (hnow:FR h.now tn nn) {K:List ByteArray} (hl:K.length ≤ 1000):∀ (n i:Nat) {s:Zk} {t:Zf} {m:Nat},i + n=K.length → FR s t m → m < 1000000 →
  ∃ s' t',Zdw h K (n + 1) s (i:Int)=some s' ∧ FR s' t' m ∧ t'.Room=t.Room ∧ (∀ z,z ∈ K.drop i → lk z (pl tn)=none → lk z (pl t')=none) ∧ (∀ z,¬ (z ∈ K.drop i ∧ lk z (pl tn)=none) → lk z (pl t')=lk z (pl t))
 | 0,i,s,t,m,hi,hf,hm=>by
  rw [Zdw,if_neg (by simp;omega),List.drop_of_length_le (by omega)]
  exact ⟨s,t,rfl,hf,rfl,fun z hz=>(by cases hz),fun z _=>rfl⟩
 | n + 1,i,s,t,m,hi,hf,hm=>by
  have h1:i < K.length:=by omega
  rw [Zdw,if_pos (by simp;omega),Zcs h1,List.drop_eq_getElem_cons h1]
  simp only [Option.bind_some]
  rw [Znc hnow.rel]
  simp only [Option.bind_some,Zhz,wr1 (show i < 9223372036854775807 by omega)]
  cases hk:lk K[i] (pl tn) with
  | none =>
   simp only [getR,Bool.not_false,if_true]
   obtain ⟨s1,t1,b,f1,f2,f3,f4⟩:=Z9z hf hm K[i]
   rw [f1]
   simp only [Option.bind_some]
   obtain ⟨s',t',g1,g2,g3,g4,g5⟩:=Zxt hnow hl n (i + 1) (by omega) f2 hm
   refine ⟨s',t',g1,g2,g3.trans f4,fun z hz hn=>?_,fun z hz=>?_⟩
   ·by_cases hr:z ∈ K.drop (i + 1)
    ·exact g4 z hr hn
    ·rw [g5 z (fun h=>hr h.1),f3,Ztj z _ hf.rel.srt]
     rcases List.mem_cons.1 hz with rfl | hz
     ·rw [Zc6];rfl
     ·exact absurd hz hr
   ·rw [g5 z (fun h=>hz ⟨List.mem_cons_of_mem _ h.1,h.2⟩),f3,Ztj z _ hf.rel.srt,if_neg]
    intro he
    exact hz ⟨by rw [Zdn.1 he];exact List.mem_cons_self ..,by rw [Zdn.1 he];exact hk⟩
  | some r =>
   simp only [getR,Bool.not_true,Bool.false_eq_true,if_false]
   obtain ⟨s',t',g1,g2,g3,g4,g5⟩:=Zxt hnow hl n (i + 1) (by omega) hf hm
   refine ⟨s',t',g1,g2,g3,fun z hz hn=>?_,fun z hz=>?_⟩
   ·rcases List.mem_cons.1 hz with rfl | hz
    ·rw [hk] at hn;cases hn
    ·exact g4 z hz hn
   ·exact g5 z (fun h=>hz ⟨List.mem_cons_of_mem _ h.1,h.2⟩)
theorem Zxn {h:Z0} {tn:Zf} {nn:Nat} (hnow:FR h.now tn nn) {K:List ByteArray} (hl:K.length ≤ 1000) {T:List KV} {R:Int} (hT:Srt T) (hTR:(T.length:Int) ≤ R) (hTK:∀ z ∈ K,lk z T=lk z (pl tn)) (hok:∀ k ∈ K,sEq k ⟨#[]⟩=false ∧ k.size ≤ 24):∀ (n i:Nat) {s:Zk} {t:Zf} {m:Nat},i + n=K.length → FR s t m → m + n < 1000000 → t.Room=R → (∀ z,(lk z (pl t)).isSome=true → (lk z T).isSome=true) →
  ∃ s' t',Zdx h K (n + 1) s (i:Int)=some s' ∧ FR s' t' (m + n) ∧ t'.Room=R ∧ (∀ z,z ∈ K.drop i → (lk z (pl tn)).isSome=true → lk z (pl t')=lk z (pl tn)) ∧ (∀ z,¬ (z ∈ K.drop i ∧ (lk z (pl tn)).isSome=true) → lk z (pl t')=lk z (pl t))
 | 0,i,s,t,m,hi,hf,hm,hr,_=>by
  rw [Zdx,if_neg (by simp;omega),List.drop_of_length_le (by omega)]
  exact ⟨s,t,rfl,hf,hr,fun z hz=>(by cases hz),fun z _=>rfl⟩
 | n + 1,i,s,t,m,hi,hf,hm,hr,hsub=>by
  have h1:i < K.length:=by omega
  have hKi:=List.getElem_mem h1
  rw [Zdx,if_pos (by simp;omega),Zcs h1,List.drop_eq_getElem_cons h1]
  simp only [Option.bind_some]
  rw [Znc hnow.rel]
  simp only [Option.bind_some,Zhx,wr1 (show i < 9223372036854775807 by omega)]
  cases hk:lk K[i] (pl tn) with
  | none =>
   simp only [getR,Bool.false_eq_true,if_false]
   obtain ⟨s',t',g1,g2,g3,g4,g5⟩:=Zxn hnow hl hT hTR hTK hok n (i + 1) (by omega) hf (by omega) hr hsub
   refine ⟨s',t',g1,g2.mono (by omega),g3,fun z hz hn=>?_,fun z hz=>?_⟩
   ·rcases List.mem_cons.1 hz with rfl | hz
    ·rw [hk] at hn;cases hn
    ·exact g4 z hz hn
   ·exact g5 z (fun h=>hz ⟨List.mem_cons_of_mem _ h.1,h.2⟩)
  | some r =>
   simp only [getR,if_true]
   obtain ⟨hw,hg⟩:=hnow.good _ (Zs6 hk)
   have hTk:lk K[i] T=some r:=by rw [hTK _ hKi,hk]
   obtain ⟨s1,t1,f1,f2,f3,f4⟩:=Z9h hf (by omega) hw hg (hok _ hKi).1 (hok _ hKi).2 (by
    cases hc:lk K[i] (pl t) with
    | some _=>exact .inl rfl
    | none =>
     right
     have:=Z7z hf.rel.srt hT hsub hc (by rw [hTk];rfl)
     rw [Zew] at this
     omega)
   rw [f1]
   simp only [Option.bind_some]
   have hl1:∀ z,lk z (pl t1)=if sEq z K[i]=true then some r else lk z (pl t):=fun z=>by rw [f3,Zvy]
   obtain ⟨s',t',g1,g2,g3,g4,g5⟩:=Zxn hnow hl hT hTR hTK hok n (i + 1) (by omega) f2 (by omega) (f4.trans hr) (fun z hz=>by
    rw [hl1] at hz
    by_cases he:sEq z K[i]=true
    ·rw [Zdn.1 he,hTk];rfl
    ·rw [if_neg he] at hz
     exact hsub z hz)
   refine ⟨s',t',g1,g2.mono (by omega),g3,fun z hz hn=>?_,fun z hz=>?_⟩
   ·by_cases hr2:z ∈ K.drop (i + 1)
    ·exact g4 z hr2 hn
    ·rcases List.mem_cons.1 hz with rfl | hz
     ·rw [g5 _ (fun h=>hr2 h.1),hl1,Zc6,hk];rfl
     ·exact absurd hz hr2
   ·rw [g5 z (fun h=>hz ⟨List.mem_cons_of_mem _ h.1,h.2⟩),hl1,if_neg]
    intro he
    exact hz ⟨by rw [Zdn.1 he];exact List.mem_cons_self ..,by rw [Zdn.1 he,hk];rfl⟩
theorem Z56 {h:Z0} {s:Zk} (hc:h.over=false ∨ h.out.Code ≠ 0):Zeu h s=some (s,[]):=by
 unfold Zeu
 rw [if_pos]
 rcases hc with hc | hc
 ·rw [hc];rfl
 ·simp [hc]
theorem Z15 {h:Z0} {d:Zbk} {sp:List ByteArray} {R:Int} {Lf:List KV} {Q:Zw} {n:Nat} (hd:∀ a ∈ d.Acts,ActIn a) (hs:sp.length ≤ 1000) (H:HandGo h d sp R Lf Q n 0) (hq:Q.Code=0) {at_:Int} (hc:Ze3 d=some (0,at_)) {s:Zk} {t:Zf} {m:Nat} (hf:FR s t m) (hm:m < 900000) (hr:t.Room=R)
  {T:List KV} (hT:Srt T) (hTR:(T.length:Int) ≤ R) (h1:∀ z ∈ Zgo sp d.Acts,lk z T=lk z Lf) (h2:∀ z,z ∉ Zgo sp d.Acts → lk z T=lk z (pl t)) :
  ∃ s' t',Zeu h s=some (s',Zgk sp d.Acts) ∧ FR s' t' (m + 12) ∧ pl t'=T ∧ t'.Room=R:=by
 obtain ⟨hl,hca⟩:=Zuu hd hc
 obtain ⟨e1,e2,_,_,e3⟩:=H.done hd
 obtain ⟨_,_,tn,f1,f2,f3⟩:=e3 hq
 have hhd:=H.hd
 have hhs:=H.hsp
 have hKl:(Zgo sp d.Acts).length ≤ 12:=by
  unfold Zgo
  rw [List.length_map]
  exact Nat.le_trans (List.length_filter_le ..) hl
 have hok:∀ k ∈ Zgo sp d.Acts,sEq k ⟨#[]⟩=false ∧ k.size ≤ 24:=fun k hk=>by
  obtain ⟨a,ha,rfl⟩:=List.mem_map.1 hk
  have ha:=(List.mem_filter.1 ha).1
  exact Z0e (hd a ha) (hca a ha)
 subst f3
 unfold Zeu
 rw [e1,e2,hq]
 simp only [Bool.not_true,bne_self_eq_false,Bool.or_self,Bool.false_eq_true,if_false]
 have c1:=Zty (h:=h) (by rw [hhd];omega) (by rw [hhs];exact hs) d.Acts.length 0 [] [] (by rw [hhd];omega) (by simp) (by simp)
 rw [hhd,hhs,List.drop_zero,List.nil_append,List.nil_append,show ((0:Nat):Int)=0 from rfl] at c1
 rw [hhd,show (Int.toNat ((d.Acts.length:Int) - (0:Int)) + 1)=d.Acts.length + 1 by omega,c1]
 simp only [Option.bind_some]
 obtain ⟨s1,t1,g1,g2,g3,g4,g5⟩:=Zxt f1 (K:=Zgo sp d.Acts) (by omega) (Zgo sp d.Acts).length 0 (by omega) hf (by omega)
 rw [show ((0:Nat):Int)=0 from rfl] at g1
 rw [show (Int.toNat (((Zgo sp d.Acts).length:Int) - (0:Int)) + 1)=(Zgo sp d.Acts).length + 1 by omega,g1]
 simp only [Option.bind_some]
 rw [List.drop_zero] at g4 g5
 obtain ⟨s2,t2,k1,k2,k3,k4,k5⟩:=Zxn f1 (K:=Zgo sp d.Acts) (by omega) hT hTR h1 hok (Zgo sp d.Acts).length 0 (by omega) g2 (by omega) (g3.trans hr) (fun z hz=>by
  by_cases hk:z ∈ Zgo sp d.Acts
  ·rw [h1 z hk]
   cases hn:lk z (pl tn) with
   | some _=>rfl
   | none=>rw [g4 z hk hn] at hz;cases hz
  ·rw [h2 z hk,← g5 z (fun h=>hk h.1)];exact hz)
 rw [show ((0:Nat):Int)=0 from rfl] at k1
 rw [k1]
 simp only [Option.bind_some]
 rw [List.drop_zero] at k4 k5
 have hsa:∀ a ∈ Zgk sp d.Acts,ActIn a:=fun a ha=>hd a (List.mem_filter.1 ha).1
 rw [Zyw (d:={ Acts:=Zgk sp d.Acts }) hsa (Nat.le_trans (List.length_filter_le ..) (by omega))]
 refine ⟨s2,t2,rfl,k2.mono (by omega),Zw4 k2.rel.srt hT fun z=>?_,k3⟩
 by_cases hk:z ∈ Zgo sp d.Acts
 ·cases hn:lk z (pl tn) with
  | some r=>rw [k4 z hk (by rw [hn];rfl),h1 z hk]
  | none=>rw [k5 z (fun h=>by rw [hn] at h;cases h.2),g4 z hk hn,h1 z hk,hn]
 ·rw [k5 z (fun h=>hk h.1),g5 z (fun h=>hk h.1),h2 z hk]
def eqS:List KV → List KV → Bool
 | [],[]=>true
 | p :: l,q :: m=>sEq p.1 q.1 && Zk3 p.2 q.2 && eqS l m
 | _,_=>false
theorem Z3a:∀ {a b:List KV},eqS a b=true → a.length=b.length
 | [],[],_=>rfl
 | x :: xs,y :: ys,h=>by
  simp only [eqS,Bool.and_eq_true] at h
  simp [Z3a h.2]
 | [],_ :: _,h=>by simp [eqS] at h
 | _ :: _,[],h=>by simp [eqS] at h
theorem Z0p:∀ l:List KV,eqS l l=true
 | []=>rfl
 | p :: l=>by simp [eqS,Zc6,Zwq,Z0p l]
structure SOk (s:Zk):Prop where
 sz:Szd s.top
 srt:Srt (toL s.top)
 len:(toL s.top).length < 1000000
 ok:∀ q ∈ toL s.top,Zie q.2 ∧ q.2.List.length ≤ 100
theorem SOk.cl {s:Zk} (h:SOk s):∀ q ∈ toL s.top,Cl q.2:=fun q hq=>by
 have:=(h.ok q hq).2
 unfold Cl;omega
theorem Rel.sok {s:Zk} {t:Zf} {n:Nat} (h:Rel s t n) (hn:n < 1000000):SOk s :=
 ⟨h.sz,by rw [h.top];exact h.srt,by rw [h.tl];have:=h.len;omega,by rw [h.top];exact h.ok⟩
theorem Zya {a b:Zk} (ha:SOk a) (hb:SOk b) (he:(toL a.top).length=(toL b.top).length):∀ (n i:Nat),i + n=(toL a.top).length →
  Zhq a b ((toL a.top).length:Int) (n + 1) (i:Int)=some (endB (eqS ((toL a.top).drop i) ((toL b.top).drop i)))
 | 0,i,h=>by
  rw [Zhq,if_neg (by simp;omega),List.drop_of_length_le (by omega),List.drop_of_length_le (by omega)]
  rfl
 | n + 1,i,h=>by
  have la:=ha.len
  have h1:i < (toL a.top).length:=by omega
  have h2:i < (toL b.top).length:=by omega
  rw [Zhq,if_pos (by simp;omega),Z4g ha.sz (by omega) (by omega) (by omega) ha.cl,Z4g hb.sz (by omega) (by omega) (by omega) hb.cl,idxn,idxn,List.getElem?_eq_getElem h1,List.getElem?_eq_getElem h2,wr1 (by omega),List.drop_eq_getElem_cons h1,List.drop_eq_getElem_cons h2]
  have r1:=(ha.ok _ (List.getElem_mem h1)).1
  have r2:=(hb.ok _ (List.getElem_mem h2)).1
  simp only [atR,Option.bind_some,eqS]
  cases hk:sEq (toL a.top)[i].1 (toL b.top)[i].1
  ·simp [gd,endB]
  ·simp only [Bool.not_true,Bool.not_false,gd_t]
   rw [Zz4 r1 r2]
   simp only [Option.bind_some,Bool.false_or,Bool.true_and]
   cases hs:Zk3 (toL a.top)[i].2 (toL b.top)[i].2
   ·simp [endB]
   ·simp only [Bool.not_true,Bool.false_eq_true,if_false,Bool.true_and]
    exact Zya ha hb he n (i + 1) (by omega)
theorem Z7u {a b:Zk} (ha:SOk a) (hb:SOk b):Zk6 a b=some (eqS (toL a.top) (toL b.top)):=by
 have la:=ha.len
 have lb:=hb.len
 unfold Zk6 Zff
 rw [Ziw ha.sz,Ziw hb.sz]
 simp only [Option.bind_some]
 by_cases he:(toL a.top).length=(toL b.top).length
 ·rw [if_neg (by simp;omega)]
  have:=Zya ha hb he (toL a.top).length 0 (by omega)
  rw [show ((0:Nat):Int)=0 from rfl] at this
  rw [show (Int.toNat (((toL a.top).length:Int) - (0:Int)) + 1)=(toL a.top).length + 1 by omega,this]
  simp only [List.drop_zero]
  cases eqS (toL a.top) (toL b.top) <;> rfl
 ·rw [if_pos (by simp;omega)]
  cases h:eqS (toL a.top) (toL b.top)
  ·rfl
  ·exact absurd (Z3a h) he
theorem Zxx {R:Int} {sp:List ByteArray} {L Lf:List KV} {d:Zbk} {Q:Zw} (e:oneS R sp L d=some (Lf,Q)) (hq:Q.Code=0):(∃ at_,Ze3 d=some (0,at_)) ∧ runS R sp d.Acts L=some (Lf,Q.Answers,0) ∧ Q={ Code:=0,At:=0,Answers:=Q.Answers }:=by
 unfold oneS at e
 obtain ⟨⟨c,at_⟩,e1,e⟩:=Option.bind_eq_some_iff.1 e
 by_cases h0:(c != 0)=true
 ·rw [if_pos h0] at e
  cases e
  exact absurd hq (by simpa using h0)
 ·rw [if_neg h0] at e
  obtain rfl:c=0:=by simpa using h0
  obtain ⟨⟨w1,w2,w3⟩,r1,e⟩:=Option.bind_eq_some_iff.1 e
  by_cases hw:w3=0
  ·rw [if_pos hw] at e
   simp only [Option.some.injEq,Prod.mk.injEq] at e
   obtain ⟨rfl,rfl⟩:=e
   subst hw
   exact ⟨⟨_,e1⟩,r1,rfl⟩
  ·rw [if_neg hw] at e
   simp only [Option.some.injEq,Prod.mk.injEq] at e
   obtain ⟨rfl,rfl⟩:=e
   exact absurd hq hw
theorem Z0x {R:Int} {sp:List ByteArray} {L Lf:List KV} {d:Zbk} {Q:Zw} (e:oneS R sp L d=some (Lf,Q)) (hq:Q.Code ≠ 0):Lf=L ∧ Q.Answers=[]:=by
 unfold oneS at e
 obtain ⟨⟨c,at_⟩,e1,e⟩:=Option.bind_eq_some_iff.1 e
 by_cases h0:(c != 0)=true
 ·rw [if_pos h0] at e
  cases e
  exact ⟨rfl,rfl⟩
 ·rw [if_neg h0] at e
  obtain ⟨⟨w1,w2,w3⟩,r1,e⟩:=Option.bind_eq_some_iff.1 e
  by_cases hw:w3=0
  ·rw [if_pos hw] at e
   cases e
   exact absurd rfl hq
  ·rw [if_neg hw] at e
   cases e
   exact ⟨rfl,rfl⟩
theorem Z91 {R:Int} {sp:List ByteArray} {L Lf:List KV} {d:Zbk} {Q:Zw} (h:InvK L) (hd:∀ a ∈ d.Acts,ActIn a) (e:oneS R sp L d=some (Lf,Q)):∀ z,z ∉ Zgo sp d.Acts → lk z Lf=lk z L:=fun z hz=>by
 by_cases hq:Q.Code=0
 ·exact Z3l h hd (Zxx e hq).2.1 z hz
 ·rw [(Z0x e hq).1]
theorem Z71 {h:Z0} {d:Zbk} {sp:List ByteArray} {R:Int} {Lf:List KV} {Q:Zw} {n:Nat} (hd:∀ a ∈ d.Acts,ActIn a) (hs:sp.length ≤ 1000) (H:HandGo h d sp R Lf Q n 0) {s:Zk} {t:Zf} {m:Nat} (hf:FR s t m) (hm:m < 900000) (hr:t.Room=R) (e:oneS R sp (pl t) d=some (Lf,Q)) :
  ∃ s' t',Zeu h s=some (s',if Q.Code=0 then Zgk sp d.Acts else []) ∧ FR s' t' (m + 12) ∧ pl t'=Lf ∧ t'.Room=R:=by
 by_cases hq:Q.Code=0
 ·obtain ⟨_,_,_,_,e3⟩:=H.done hd
  obtain ⟨_,_,tn,f1,f2,f3⟩:=e3 hq
  obtain ⟨⟨at_,hc⟩,_⟩:=Zxx e hq
  have hfit:=f1.fit
  have hsrt:=f1.rel.srt
  rw [f3] at hsrt
  rw [← Zew,f3,f2] at hfit
  rw [if_pos hq]
  exact Z15 hd hs H hq hc hf hm hr hsrt hfit (fun _ _=>rfl) (Z91 hf.inv hd e)
 ·obtain ⟨_,e2,_⟩:=H.done hd
  rw [if_neg hq,Z56 (.inr (by rw [e2];exact hq))]
  exact ⟨s,t,rfl,hf.mono (by omega),(Z0x e hq).1.symm,hr⟩
theorem Z9i {s s':Zk} {t t':Zf} {n m:Nat} (h:FR s t n) (h':FR s' t' m) (hn:n < 1000000) (hm:m < 1000000) (e:pl t=pl t'):Zk6 s s'=some true:=by
 rw [Z7u (h.rel.sok hn) (h'.rel.sok hm),h.rel.top,h'.rel.top,e,Z0p]
theorem Zbcn {s:Zk} {t t':Zf} {m:Nat} (h:FR s t m) (hm:m < 1000000) (e:pl t'=pl t) (hr:t'.Room=t.Room):Zjg s t'=some 1:=Zbdt (Z5g h.rel e hr) hm
theorem Z64:Zka=some true:=by kernel_rfl
theorem Z2j {x:Zb} (h:100 < x.List.length):Zc4 { x with List:=x.List.take 101 }=Zc4 x:=by
 have e1:((x.List.length:Int) == (0:Int))=false:=by rw [beq_eq_false_iff_ne];omega
 have e2:(((x.List.take 101).length:Int) == (0:Int))=false:=by rw [beq_eq_false_iff_ne,List.length_take];omega
 have ho:∀ f,Zf3 { x with List:=x.List.take 101 } f=Zf3 x f:=fun f=>by
  unfold Zf3
  simp only [e1,e2]
 unfold Zc4
 simp only [ho]
 by_cases hcap:(decide (x.Cap < (1:Int)) || decide ((32:Int) < x.Cap))=true
 ·simp only [hcap,if_true]
 ·have hc:¬ (x.Cap < 1 ∨ 32 < x.Cap):=by simpa using hcap
  have c1:decide (x.Cap < (x.List.length:Int))=true:=decide_eq_true (by omega)
  have c2:decide (x.Cap < ((x.List.take 101).length:Int))=true:=decide_eq_true (by rw [List.length_take];omega)
  simp only [c1,c2,if_true]
theorem Zyv {x:Zb} (hx:x.Real < W64) (h:100 < x.List.length):Zdd x zrc=some false:=by
 unfold Zdd
 split
 ·rfl
 ·rw [Zlw hx (by decide)]
  simp only [Option.bind_some]
  have e1:((x.List.length:Int) != ((zrc.List).length:Int))=true:=by
   rw [bne_iff_ne]
   show (x.List.length:Int) ≠ 0
   omega
  rw [e1,Bool.or_true,if_pos rfl]
theorem Z3p {a:Zm} (hw:Zmf a) (h:100 < a.Make.List.length):∃ c,Zc3 a=some c ∧ c ≠ 0:=by
 obtain ⟨_,_,_,hX,_,hm,_⟩:=hw
 obtain ⟨m1,m2,m3,m4,m5,m6,m7,m8,m9⟩:=hm
 have hlt:100 < (a.Make.List.take 101).length:=by rw [List.length_take];omega
 have hle:(a.Make.List.take 101).length ≤ 101:=by rw [List.length_take];omega
 have hok:Zie { a.Make with List:=a.Make.List.take 101 }:=⟨m5,by show (a.Make.List.take 101).length < _;omega,fun e he=>(m9 e (List.mem_of_mem_take he)).1⟩
 have s1:Zdd a.Make zrc=some false:=Zyv m5 h
 have s2:Zdd { a.Make with List:=a.Make.List.take 101 } zrc=some false:=Zyv (x:={ a.Make with List:=a.Make.List.take 101 }) m5 hlt
 have hz:∀ r:Zb,Zdd r ({ Kind:=(0:Int),Num:=(0:Int),Low:=(0:Int),High:=(0:Int),Real:=(0:Nat),Cap:=(0:Int),Text:=ByteArray.empty,List:=([]:List Zi) }:Zb)=Zdd r zrc:=fun _=>rfl
 have he:Zc3 { a with Make:={ a.Make with List:=a.Make.List.take 101 } }=Zc3 a:=by
  unfold Zc3
  simp only [hz,s1,s2,Z2j h]
 obtain ⟨c,e1,e2,e3⟩:=Zna (a:={ a with Make:={ a.Make with List:=a.Make.List.take 101 } }) ⟨hok,hX⟩
 rw [he] at e2
 refine ⟨c,e2,fun hc=>?_⟩
 subst hc
 by_cases hk:a.Kind=1
 ·have:=Zmm ((Zid hok).1 ((e3 rfl).2.2.2.2.2.1 hk))
  have:(a.Make.List.take 101).length ≤ 32:=this
  omega
 ·have hk:(a.Kind != (1:Int))=true:=by rw [bne_iff_ne];exact hk
  unfold Zc3 at e2
  split at e2
  ·cases e2
  ·split at e2
   ·cases e2
   ·obtain ⟨_,_,e2⟩:=Option.bind_eq_some_iff.1 e2
    obtain ⟨_,_,e2⟩:=Option.bind_eq_some_iff.1 e2
    obtain ⟨_,_,e2⟩:=Option.bind_eq_some_iff.1 e2
    obtain ⟨_,_,e2⟩:=Option.bind_eq_some_iff.1 e2
    split at e2
    ·cases e2
    ·rw [hz,s1,hk] at e2
     cases e2
theorem Zsy {d:Zbk} (hw:∀ a ∈ d.Acts,Zmf a) (hl:d.Acts.length ≤ 12):∀ (n i:Nat),i + n=d.Acts.length →
  (∃ c at_,Zc1 d (n + 1) (i:Int)=some (.inl (c,at_)) ∧ c ≠ 0) ∨ (Zc1 d (n + 1) (i:Int)=some (.inr ()) ∧ ∀ a ∈ d.Acts.drop i,ActIn a)
 | 0,i,h=>by
  rw [Zc1,if_neg (by simp;omega),List.drop_of_length_le (by omega)]
  exact .inr ⟨rfl,fun a ha=>by cases ha⟩
 | n + 1,i,h=>by
  have h1:i < d.Acts.length:=by omega
  have hwi:=hw _ (List.getElem_mem h1)
  rw [Zc1,if_pos (by simp;omega),Zcs h1,wr1 (by omega)]
  simp only [Option.bind_some]
  by_cases hb:100 < (d.Acts[i]).Make.List.length
  ·obtain ⟨c,e1,e2⟩:=Z3p hwi hb
   rw [e1]
   simp only [Option.bind_some]
   rw [if_pos (by simpa using e2)]
   exact .inl ⟨_,_,rfl,e2⟩
  ·have ha:ActIn d.Acts[i]:=Z6x hwi (by omega)
   obtain ⟨c,_,e1,_⟩:=Zna ha.ok
   rw [e1]
   simp only [Option.bind_some]
   by_cases hc:(c != 0)=true
   ·rw [if_pos hc]
    exact .inl ⟨_,_,rfl,by simpa using hc⟩
   ·rw [if_neg hc]
    rcases Zsy hw hl n (i + 1) (by omega) with h2 | ⟨h2,h3⟩
    ·exact .inl h2
    ·refine .inr ⟨h2,fun b hb=>?_⟩
     rw [List.drop_eq_getElem_cons h1] at hb
     rcases List.mem_cons.1 hb with rfl | hb
     ·exact ha
     ·exact h3 b hb
theorem Z86 {d:Zbk} (hw:Zqt d):∃ c at_,Zfu d=some (c,at_) ∧ (c=0 → d.Acts.length ≤ 12 ∧ ∀ a ∈ d.Acts,ActIn a):=by
 unfold Zfu
 by_cases h:d.Acts.length < 1 ∨ 12 < d.Acts.length
 ·rw [if_pos (by rw [Bool.or_eq_true,decide_eq_true_eq,decide_eq_true_eq];omega)]
  exact ⟨1,0,rfl,fun h=>by cases h⟩
 ·rw [if_neg (by rw [Bool.or_eq_true,decide_eq_true_eq,decide_eq_true_eq];omega),show (Int.toNat ((d.Acts.length:Int) - (0:Int)) + 1)=d.Acts.length + 1 by omega]
  have:=Zsy hw.2 (by omega) d.Acts.length 0 (by omega)
  rw [show ((0:Nat):Int)=0 from rfl] at this
  rcases this with ⟨c,at_,e1,e2⟩ | ⟨e1,e2⟩
  ·rw [e1];exact ⟨c,at_,rfl,fun h=>absurd h e2⟩
  ·rw [e1];exact ⟨0,0,rfl,fun _=>⟨by omega,e2⟩⟩
theorem Zp7 {d:Zbk} (hl:d.Acts.length ≤ 12) (hc:∀ a ∈ d.Acts,Zf7 a=some 0):∀ (n i:Nat),i + n=d.Acts.length → Zef d (n + 1) (i:Int)=some (.inr ())
 | 0,i,h=>by rw [Zef,if_neg (by simp;omega)]
 | n + 1,i,h=>by
  have h1:i < d.Acts.length:=by omega
  rw [Zef,if_pos (by simp;omega),Zcs h1,wr1 (by omega)]
  simp only [Option.bind_some]
  rw [hc _ (List.getElem_mem h1)]
  exact Zp7 hl hc n (i + 1) (by omega)
theorem Z1x {d:Zbk} (h1:1 ≤ d.Acts.length) (hl:d.Acts.length ≤ 12) (hc:∀ a ∈ d.Acts,Zf7 a=some 0):Ze3 d=some (0,0):=by
 unfold Ze3
 rw [if_neg (by rw [Bool.or_eq_true,beq_iff_eq,decide_eq_true_eq];omega)]
 have:=Zp7 hl hc d.Acts.length 0 (by omega)
 rw [show ((0:Nat):Int)=0 from rfl] at this
 rw [show (Int.toNat ((d.Acts.length:Int) - (0:Int)) + 1)=d.Acts.length + 1 by omega,this]
 rfl
theorem Z4l {a:Zm} (ha:ActIn a):Zjj a a=some true:=by
 unfold Zjj
 rw [if_neg (by simp [Zc6]),Zlw ha.ok.2 ha.ok.2]
 simp only [Option.bind_some,decide_true,gd_t]
 rw [Zqd ha.ok.1 ha.ok.1,Z58]
 rfl
theorem Z5e {s:Zk} {t:Zf} {n:Nat} (h:FR s t n) (hn:n < 1000000) {a:Zm} (ha:ActIn a) :
  ∃ s' t' out,Zm3 s a=some (s',out) ∧ Ziq t a=some (t',out) ∧ FR s' t' (n + 1) ∧ RecW out.Rec ∧ t'.Room=t.Room:=by
 obtain ⟨r,there,hg,hi,hl1,hl2⟩:∃ r there,getR (lk a.Key (pl t))=(r,there) ∧ Z3b there r ∧ (there=true → lk a.Key (pl t)=some r) ∧ (there=false → lk a.Key (pl t)=none):=by
  cases hl:lk a.Key (pl t) with
  | none=>exact ⟨_,_,rfl,⟨Zcm,fun h=>(by cases h),fun _=>rfl⟩,fun h=>(by cases h),fun _=>rfl⟩
  | some r =>
   obtain ⟨g1,g2⟩:=h.good _ (Zs6 hl)
   exact ⟨_,_,rfl,⟨g1,fun _=>g2,fun h=>(by cases h)⟩,fun _=>rfl,fun h=>(by cases h)⟩
 obtain ⟨x,is,out,e1,e2,w1,w2⟩:=Z3q (there:=there) hi.w ha
 obtain ⟨z,e3,hs⟩:=Zln (there:=there) hi.w ha
 have hr0:(if there=true then r else zrc)=r:=by
  cases there
  ·exact (hi.zero rfl).symm
  ·rfl
 rw [hr0] at hs
 rw [e1] at e3
 obtain rfl:=Option.some.inj e3
 unfold Zm3 Ziq
 rw [Znc h.rel,Z96 h.rel hn,hg]
 simp only [Option.bind_some]
 rw [e1,e2]
 simp only [Option.bind_some,Zlx]
 rcases hs with ⟨c,hc,hz⟩ | ⟨h1,h2,h3,hs⟩
 ·obtain ⟨rfl,rfl,rfl⟩:x=r ∧ is=there ∧ out=ans c:=by simpa using hz
  have hc':(c != 0)=true:=by simpa using hc
  simp only [hc',Bool.not_true,gd_f,Option.bind_some,Bool.true_or,if_true]
  exact ⟨s,t,_,rfl,rfl,h.mono (by omega),w2,rfl⟩
 obtain ⟨k1,k2⟩:=Z0e ha h1
 have hset:∀ {y:Zb},RecW y → Zcy y → ((lk a.Key (pl t)).isSome=true ∨ (t.L.length:Int) < t.Room) → ∃ s' t',Zc9 s a.Key y=some (s',0) ∧ Zfc t a.Key y=some (t',0) ∧ FR s' t' (n + 1) ∧ pl t'=insL a.Key y (pl t):=fun {y} hw hgy ho=>by
  have hsh:=Zmm hgy
  obtain ⟨s',t',c,f1,f2,f3,_⟩:=Zof h.rel hn a.Key hw.ok (by omega)
  obtain ⟨rfl,hp⟩:=(Zn7 h.rel hn f1 ((Zid hw.ok).2 hgy) (by omega) k1 k2).1 ho
  rw [f3.top] at hp
  exact ⟨s',t',f1,f2,Zv1 h f3 hw hgy ho hp (by rw [← f3.room,Zhs f1,h.rel.room]),hp⟩
 rcases hs with ⟨hk,rfl,hmk,hz⟩ | ⟨hk,rfl,hz⟩ | ⟨hk,hz⟩ | ⟨hk,rfl,hz⟩ | ⟨k5,k21,rfl,kon,r',o,q1,q2,q3,q4,q5,hz⟩
 ·
  obtain ⟨rfl,rfl,rfl⟩:x=a.Make ∧ is=true ∧ out=ans 0:=by simpa using hz
  have hl:=hl2 rfl
  rw [hk]
  simp only [bne_self_eq_false,Bool.not_false,gd_t,Option.bind_some,show ((((((1:Int) == 3) || ((1:Int) == 4)) || ((1:Int) == 9)) || ((1:Int) == 12)) || ((1:Int) == 20))=false from rfl,Bool.or_self,Bool.false_eq_true,if_false,Bool.not_true,beq_self_eq_true,Bool.true_and]
  by_cases hr:t.Room ≤ (t.L.length:Int)
  ·rw [if_pos (by simpa using hr)]
   have hsh:=Zmm hmk
   obtain ⟨s',t',c,f1,f2,f3,_⟩:=Zof h.rel hn a.Key ha.mkr.ok (by omega)
   obtain ⟨rfl,rfl⟩:=(Zn7 h.rel hn f1 ((Zid ha.mkr.ok).2 hmk) (by omega) k1 k2).2 (by rw [hl];rfl) hr
   rw [f1]
   exact ⟨s',t,_,rfl,rfl,h.mono (by omega),Zcm,rfl⟩
  ·rw [if_neg (by simpa using hr)]
   obtain ⟨s',t',f1,f2,f3,_⟩:=hset ha.mkr hmk (.inr (by omega))
   rw [f1,f2]
   exact ⟨s',t',_,rfl,rfl,f3,Zcm,by rw [← f3.rel.room,Zhs f1,h.rel.room]⟩
 ·
  obtain ⟨rfl,rfl,rfl⟩:x=zrc ∧ is=false ∧ out=ans 0:=by simpa using hz
  rw [hk]
  obtain ⟨s',t',b,f1,f2,f3,f4⟩:=Zr6 h.rel hn a.Key
  rw [f1,f2]
  have hro:t'.Room=t.Room:=by rw [← f3.room,Zo4 f1,h.rel.room]
  have hf:=h.fit
  refine ⟨s',t',ans 0,rfl,rfl,⟨f3.mono (by omega),fun q hq=>?_,?_⟩,Zcm,hro⟩
  ·rcases f4 with f4 | f4
   ·rw [f4] at hq;exact h.good q hq
   ·rw [f4] at hq;exact h.good q (Zn8 hq)
  ·rw [hro,← Zew]
   rcases f4 with f4 | f4
   ·rw [f4,Zew];exact hf
   ·have:=Zod a.Key (pl t)
    rw [Zew] at this
    rw [f4];omega
 ·
  obtain ⟨rfl,rfl,rfl⟩:x=r ∧ is=there ∧ out={ ans 0 with Num:=r.Kind }:=by simpa using hz
  rw [hk]
  cases is with
  | true =>
   have hl:=hl1 rfl
   obtain ⟨s',t',f1,f2,f3,f4⟩:=hset hi.w (hi.good rfl) (.inl (by rw [hl];rfl))
   rw [f2]
   rw [Zth h.rel.srt hl] at f4
   exact ⟨s,t',_,rfl,rfl,(Zre h f4 (by rw [← f3.rel.room,Zhs f1,h.rel.room])).mono (by omega),Zcm,by rw [← f3.rel.room,Zhs f1,h.rel.room]⟩
  | false =>
   have hl:=hl2 rfl
   obtain ⟨s',t',b,f1,f2,f3,f4⟩:=Zr6 h.rel hn a.Key
   rw [f2]
   have hp:pl t'=pl t:=by
    rcases f4 with f4 | f4
    ·exact f4
    ·rcases Zld x h.rel.srt with ⟨_,_,_,a3,_⟩ | ⟨_,_,_,a4⟩
     ·rw [hl] at a3;cases a3
     ·rw [f4,a4]
   exact ⟨s,t',_,rfl,rfl,(Zre h hp (by rw [← f3.room,Zo4 f1,h.rel.room])).mono (by omega),Zcm,by rw [← f3.room,Zo4 f1,h.rel.room]⟩
 ·
  obtain ⟨rfl,rfl,rfl⟩:x=r ∧ is=true ∧ out={ ans 0 with Rec:=r }:=by simpa using hz
  rw [hk]
  have hl:=hl1 rfl
  obtain ⟨s',t',f1,f2,f3,f4⟩:=hset hi.w (hi.good rfl) (.inl (by rw [hl];rfl))
  rw [f2]
  rw [Zth h.rel.srt hl] at f4
  exact ⟨s,t',_,rfl,rfl,(Zre h f4 (by rw [← f3.rel.room,Zhs f1,h.rel.room])).mono (by omega),hi.w,by rw [← f3.rel.room,Zhs f1,h.rel.room]⟩
 ·
  obtain ⟨rfl,rfl,rfl⟩:x=r' ∧ is=true ∧ out=o:=by simpa using hz
  have hl:=hl1 rfl
  have hgx:Zcy x:=Zvj k5 k21 kon hi.w (hi.good rfl) h2 q1
  obtain ⟨s',t',f1,f2,f3,f4⟩:=hset q4 hgx (.inl (by rw [hl];rfl))
  have hk1:(a.Kind == 1)=false:=by simp;omega
  rw [q2,hk1]
  simp only [bne_self_eq_false,Bool.not_false,gd_t,Option.bind_some,Bool.false_or,Bool.false_eq_true,if_false,Bool.not_true,Bool.false_and]
  rw [f1,f2]
  by_cases hrd:(((((a.Kind == (3:Int)) || (a.Kind == (4:Int))) || (a.Kind == (9:Int))) || (a.Kind == (12:Int))) || (a.Kind == (20:Int)))=true
  ·rw [if_pos hrd]
   have hx:x=r:=by
    refine Zr3 ?_ hi.w (hi.good rfl) kon q1
    simp only [Bool.or_eq_true,beq_iff_eq] at hrd
    omega
   subst hx
   rw [Zth h.rel.srt hl] at f4
   exact ⟨s,t',_,rfl,rfl,(Zre h f4 (by rw [← f3.rel.room,Zhs f1,h.rel.room])).mono (by omega),q5,by rw [← f3.rel.room,Zhs f1,h.rel.room]⟩
  ·rw [if_neg hrd]
   exact ⟨s',t',_,rfl,rfl,f3,q5,by rw [← f3.rel.room,Zhs f1,h.rel.room]⟩
theorem Z6r {s:Zk} {t:Zf} {n:Nat} (h:FR s t n) (hn:n < 1000000) {a:Zm} (ha:ActIn a):∃ s' t' out,Ziq t a=some (t',out) ∧ FR s' t' (n + 1) ∧ t'.Room=t.Room ∧ RecW out.Rec ∧ Zlq t.Room (pl t) a=some (pl t',out):=by
 obtain ⟨s1,t1,o1,e1,e2,e3,e4,e5⟩:=Z5e h hn ha
 obtain ⟨s2,t2,o2,g1,g2,g3,g4,g5⟩:=Zyr h hn ha
 rw [e1] at g1
 simp only [Option.some.injEq,Prod.mk.injEq] at g1
 obtain ⟨rfl,rfl⟩:=g1
 have:pl t2=pl t1:=g2.rel.top.symm.trans e3.rel.top
 rw [this] at g5
 exact ⟨s1,t1,o1,e2,e3,e5,e4,g5⟩
theorem Zyq {d:Zbk} (hd:∀ a ∈ d.Acts,ActIn a) (hl:d.Acts.length ≤ 12) {t0:Zf}:∀ (n i:Nat) {s:Zk} {t:Zf} {m:Nat} {L:List Zc},i + n=d.Acts.length → FR s t m → m + n < 1000000 → L.length=i → Zoj L →
  ∃ L' xs c,runK t.Room (d.Acts.drop i) (pl t)=some (L',xs,c) ∧
   ((c ≠ 0 ∧ Zeg t0 d (n + 1) default default t L (i:Int)=some (.inl (t0,{ Code:=c,At:=((L.length + xs.length + 1:Nat):Int),Answers:=[] }))) ∨
    (c=0 ∧ ∃ s' t',Zeg t0 d (n + 1) default default t L (i:Int)=some (.inr (default,default,t',L ++ xs)) ∧ FR s' t' (m + n) ∧ t'.Room=t.Room ∧ pl t'=L' ∧ Zoj (L ++ xs) ∧ (L ++ xs).length=d.Acts.length))
 | 0,i,s,t,m,L,h,hf,hm,hL,hA=>by
  rw [Zeg,if_neg (by simp;omega),List.drop_of_length_le (by omega)]
  exact ⟨pl t,[],0,rfl,.inr ⟨rfl,s,t,by rw [List.append_nil],hf,rfl,rfl,by rw [List.append_nil];exact hA,by rw [List.append_nil];omega⟩⟩
 | n + 1,i,s,t,m,L,h,hf,hm,hL,hA=>by
  have h1:i < d.Acts.length:=by omega
  obtain ⟨s',t',out,e1,hf',hro,hw,e2⟩:=Z6r hf (by omega) (hd _ (List.getElem_mem h1))
  rw [Zeg,if_pos (by simp;omega),Zcs h1,wr1 (by omega),List.drop_eq_getElem_cons h1,runK,e2]
  simp only [Option.bind_some]
  rw [e1]
  simp only [Option.bind_some]
  have hg:(gd (out.Code != 0) (some d.Acts[i]))=some (if (out.Code != 0)=true then d.Acts[i] else default):=Zq2 _ _
  rw [hg]
  simp only [Option.bind_some]
  have hb:((out.Code != 0) && (if (out.Code != 0)=true then d.Acts[i] else default).Must)=((d.Acts[i]).Must && (out.Code != 0)):=by
   cases hz:(out.Code != 0)
   ·simp
   ·simp
  rw [hb]
  by_cases hc:((d.Acts[i]).Must && (out.Code != 0))=true
  ·rw [if_pos hc,if_pos hc]
   have hne:out.Code ≠ 0:=by
    have:=(Bool.and_eq_true _ _ ▸ hc:_ ∧ _).2
    simpa using this
   subst hL
   exact ⟨_,_,_,rfl,.inl ⟨hne,rfl⟩⟩
  ·rw [if_neg hc,if_neg hc]
   have hlen:(L.length + [out].length) * 104 ≤ 140737488355328:=by simp;omega
   rw [if_pos hlen]
   obtain ⟨L',xs,c,r1,r2⟩:=Zyq hd hl (t0:=t0) n (i + 1) (L:=L ++ [out]) (by omega) hf' (by omega) (by simp;omega) (Zv7 hA hw)
   rw [hro] at r1
   rw [r1]
   refine ⟨L',out :: xs,c,rfl,?_⟩
   rcases r2 with ⟨hc0,r2⟩ | ⟨hc0,s2,t2,r2,r3,r4,r5,r6,r7⟩
   ·refine .inl ⟨hc0,?_⟩
    rw [r2]
    have:(L ++ [out]).length + xs.length + 1=L.length + (out :: xs).length + 1:=by simp;omega
    rw [this]
   ·have ha:L ++ [out] ++ xs=L ++ out :: xs:=by simp
    rw [ha] at r2 r6 r7
    exact .inr ⟨hc0,s2,t2,r2,r3.mono (by omega),r4.trans hro,r5,r6,r7⟩
theorem rone {s:Zk} {t:Zf} {n:Nat} (h:FR s t n) (hn:n + 12 < 1000000) {d:Zbk} (hd:∀ a ∈ d.Acts,ActIn a) :
  ∃ s' t' R,Zj7 t d=some (t',R) ∧ FR s' t' (n + 12) ∧ t'.Room=t.Room ∧ Zsn R ∧ oneK t.Room (pl t) d=some (pl t',R):=by
 obtain ⟨c,at_,e1,e2,hc⟩:=Zoo hd
 unfold Zj7 oneK
 rw [e1,e2]
 simp only [Option.bind_some]
 by_cases h0:(c != 0)=true
 ·rw [if_pos h0,if_pos h0]
  exact ⟨s,t,_,rfl,h.mono (by omega),rfl,⟨by simp,fun a ha=>by cases ha⟩,rfl⟩
 ·rw [if_neg h0,if_neg h0]
  have hl:=hc (by simpa using h0)
  obtain ⟨L',xs,k,r1,r2⟩:=Zyq hd hl.2 (t0:=t) d.Acts.length 0 (L:=[]) (by omega) h (by omega) rfl (fun a ha=>by cases ha)
  rw [show ((0:Nat):Int)=0 from rfl] at r2
  rw [List.drop_zero] at r1
  rw [show (Int.toNat ((d.Acts.length:Int) - (0:Int)) + 1)=d.Acts.length + 1 by omega,r1]
  simp only [Option.bind_some]
  rcases r2 with ⟨hk,r2⟩ | ⟨hk,s2,t2,r2,r3,r4,r5,r6,r7⟩
  ·rw [r2,if_neg hk]
   exact ⟨s,t,_,rfl,h.mono (by omega),rfl,⟨by simp,fun a ha=>by cases ha⟩,by simp⟩
  ·rw [r2,if_pos hk]
   exact ⟨s2,t2,_,rfl,r3.mono (by omega),r4,⟨by rw [r7];exact hl.2,r6⟩,by rw [r5];rfl⟩
theorem Zu3 {R:Zw} (hR:Zsn R):∀ (n i:Nat),i + n=R.Answers.length → Zeo R R (n + 1) (i:Int)=some (.inr ())
 | 0,i,h=>by rw [Zeo,if_neg (by simp;omega)]
 | n + 1,i,h=>by
  have hl:=hR.1
  have h1:i < R.Answers.length:=by omega
  have hw:=hR.2 _ (List.getElem_mem h1)
  rw [Zeo,if_pos (by simp;omega),Zcs h1,wr1 (by omega)]
  simp only [Option.bind_some]
  rw [Zbcl hw hw]
  simp only [beq_self_eq_true,Z58,Bool.and_self,Option.bind_some,Bool.not_true,Bool.false_eq_true,if_false]
  exact Zu3 hR n (i + 1) (by omega)
theorem Z6t {R:Zw} (hR:Zsn R):Zhn R R=some true:=by
 unfold Zhn
 simp only [bne_self_eq_false,Bool.or_self,Bool.false_eq_true,if_false]
 have:=Zu3 hR R.Answers.length 0 (by omega)
 rw [show ((0:Nat):Int)=0 from rfl] at this
 rw [show (Int.toNat ((R.Answers.length:Int) - (0:Int)) + 1)=R.Answers.length + 1 by omega,this]
 rfl
def rest (sp:List ByteArray) (A:List Zm):List Zm:=A.filter fun a=>!hasB sp a.Key
def idxs (sp:List ByteArray):List Zm → Nat → List Nat
 | [],_=>[]
 | a :: A,i=>if hasB sp a.Key=true then idxs sp A (i + 1) else i :: idxs sp A (i + 1)
def Zk7 (sp:List ByteArray):List Zm → List Zc → List Zc
 | [],_=>[]
 | a :: A,ys=>if hasB sp a.Key=true then default :: Zk7 sp A ys else match ys with
  | []=>default :: Zk7 sp A []
  | y :: ys=>y :: Zk7 sp A ys
theorem Zz0 {sp:List ByteArray} {a:Zm} {A:List Zm} {y:Zc} {ys:List Zc} (h:hasB sp a.Key=false):Zk7 sp (a :: A) (y :: ys)=y :: Zk7 sp A ys:=by
 conv=>lhs;unfold Zk7
 rw [if_neg (by rw [h];simp)]
theorem Zyj {sp:List ByteArray} {a:Zm} {A:List Zm} {ys:List Zc} (h:hasB sp a.Key=true):Zk7 sp (a :: A) ys=default :: Zk7 sp A ys:=by
 conv=>lhs;unfold Zk7
 rw [if_pos h]
theorem Zpp {sp:List ByteArray} {a:Zm} {A:List Zm} (h:hasB sp a.Key=true):rest sp (a :: A)=rest sp A:=by simp [rest,h]
theorem Zt2 {sp:List ByteArray} {a:Zm} {A:List Zm} (h:hasB sp a.Key=false):rest sp (a :: A)=a :: rest sp A:=by simp [rest,h]
theorem Z1h {sp:List ByteArray}:∀ (A:List Zm) (i:Nat),(idxs sp A i).length=(rest sp A).length ∧ ∀ j ∈ idxs sp A i,j < i + A.length
 | [],i=>⟨rfl,fun j hj=>by cases hj⟩
 | a :: A,i=>by
  obtain ⟨h1,h2⟩:=Z1h (sp:=sp) A (i + 1)
  by_cases hb:hasB sp a.Key=true
  ·rw [idxs,if_pos hb,Zpp hb]
   exact ⟨h1,fun j hj=>by have:=h2 j hj;simp;omega⟩
  ·rw [idxs,if_neg hb,Zt2 (Bool.eq_false_iff.2 hb)]
   refine ⟨by simp [h1],fun j hj=>?_⟩
   rcases List.mem_cons.1 hj with rfl | hj
   ·simp
   ·have:=h2 j hj;simp;omega
theorem Zsu {R:Int} {sp:List ByteArray}:∀ {A:List Zm} {L:List KV} (i:Nat),InvK L → (∀ a ∈ A,ActIn a) → ∃ L' ys c,runK R (rest sp A) L=some (L',ys,c) ∧ (c=0 → runS R sp A L=some (L',Zk7 sp A ys,0) ∧ ys.length=(rest sp A).length) ∧ (c ≠ 0 → ∃ xs,runS R sp A L=some (L',xs,c) ∧ (idxs sp A i)[ys.length]?=some (i + xs.length))
 | [],L,i,h,_=>⟨L,[],0,rfl,fun _=>⟨rfl,rfl⟩,fun h=>absurd rfl h⟩
 | a :: A,L,i,h,hA=>by
  have ha:=hA a (List.mem_cons_self ..)
  by_cases hb:hasB sp a.Key=true
  ·obtain ⟨L',ys,c,e,e1,e2⟩:=Zsu (R:=R) (sp:=sp) (A:=A) (i + 1) h (fun a ha=>hA a (List.mem_cons_of_mem _ ha))
   have hs:Znu R sp L a=some (L,default):=by unfold Znu;rw [if_pos hb]
   have hm:(a.Must && ((default:Zc).Code != 0))=false:=by
    have:((default:Zc).Code != 0)=false:=rfl
    rw [this,Bool.and_false]
   have hr:runS R sp (a :: A) L=(runS R sp A L).bind fun w=>some (w.1,default :: w.2.1,w.2.2):=by
    rw [runS,hs]
    simp only [Option.bind_some]
    rw [if_neg (by rw [hm];simp)]
   refine ⟨L',ys,c,by rw [Zpp hb];exact e,fun hc=>?_,fun hc=>?_⟩
   ·obtain ⟨f1,f2⟩:=e1 hc
    rw [hr,f1,Zpp hb]
    exact ⟨by rw [Zyj hb];rfl,f2⟩
   ·obtain ⟨xs,f1,f2⟩:=e2 hc
    refine ⟨default :: xs,by rw [hr,f1];rfl,?_⟩
    rw [idxs,if_pos hb,f2]
    simp
    omega
  ·have hb':=Bool.eq_false_iff.2 hb
   obtain ⟨La,xa,s1,i1,_⟩:=Z1g (R:=R) h ha
   have hs:Znu R sp L a=some (La,xa):=by unfold Znu;rw [if_neg hb];exact s1
   rw [Zt2 hb',runK,runS,s1,hs]
   simp only [Option.bind_some]
   by_cases hm:(a.Must && (xa.Code != 0))=true
   ·rw [if_pos hm,if_pos hm]
    have hne:xa.Code ≠ 0:=by
     have:=(Bool.and_eq_true _ _ ▸ hm:_ ∧ _).2
     simpa using this
    exact ⟨La,[],xa.Code,rfl,fun h=>absurd h hne,fun _=>⟨[],rfl,by rw [idxs,if_neg hb];simp⟩⟩
   ·rw [if_neg hm,if_neg hm]
    obtain ⟨L',ys,c,e,e1,e2⟩:=Zsu (R:=R) (sp:=sp) (A:=A) (i + 1) i1 (fun a ha=>hA a (List.mem_cons_of_mem _ ha))
    rw [e]
    refine ⟨L',xa :: ys,c,rfl,fun hc=>?_,fun hc=>?_⟩
    ·obtain ⟨f1,f2⟩:=e1 hc
     rw [f1]
     exact ⟨by rw [Zz0 hb'];rfl,by simp [f2]⟩
    ·obtain ⟨xs,f1,f2⟩:=e2 hc
     refine ⟨xa :: xs,by rw [f1];rfl,?_⟩
     rw [idxs,if_neg hb]
     simp only [List.length_cons,List.getElem?_cons_succ]
     rw [f2]
     congr 1
     omega
theorem Zri {d:Zbk} {sp:List ByteArray} (hl:d.Acts.length ≤ 1000) (hs:sp.length ≤ 1000):∀ (n i:Nat) (X Y:List Zm) (I:List Int),i + n=d.Acts.length → X.length ≤ i → Y.length ≤ i → I.length ≤ i →
  Zcx d sp (n + 1) X Y I (i:Int)=some (X ++ Zgk sp (d.Acts.drop i),Y ++ rest sp (d.Acts.drop i),I ++ (idxs sp (d.Acts.drop i) i).map fun k:Nat=>(k:Int))
 | 0,i,X,Y,I,h,_,_,_=>by
  rw [Zcx,if_neg (by simp;omega),List.drop_of_length_le (by omega)]
  simp [Zgk,rest,idxs]
 | n + 1,i,X,Y,I,h,hX,hY,hI=>by
  have h1:i < d.Acts.length:=by omega
  rw [Zcx,if_pos (by simp;omega),Zcs h1,List.drop_eq_getElem_cons h1]
  simp only [Option.bind_some]
  rw [Z9s _ hs]
  simp only [Option.bind_some,Zf9,wr1 (show i < 9223372036854775807 by omega)]
  by_cases hb:hasB sp (d.Acts[i]).Key=true
  ·rw [if_pos hb,if_pos (by simp;omega),Zri hl hs n (i + 1) _ _ _ (by omega) (by simp;omega) (by omega) (by omega),Z54 hb,Zpp hb,idxs,if_pos hb,List.append_assoc]
   rfl
  ·rw [if_neg hb,if_pos (by simp;omega),if_pos (by simp;omega),Zri hl hs n (i + 1) _ _ _ (by omega) (by omega) (by simp;omega) (by simp;omega),Z1r (Bool.eq_false_iff.2 hb),Zt2 (Bool.eq_false_iff.2 hb),idxs,if_neg hb,List.append_assoc,List.append_assoc]
   rfl
theorem Zyf {L:List Zm} {s:Zk} (hl:L.length ≤ 1000) (hA:∀ a ∈ L,ActIn a):∀ (n i:Nat),i + n=L.length → Zdq L (s,L) (n + 1) (i:Int)=some (.inr ())
 | 0,i,h=>by rw [Zdq,if_neg (by simp;omega)]
 | n + 1,i,h=>by
  have h1:i < L.length:=by omega
  rw [Zdq,if_pos (by simp;omega),Zcs h1,wr1 (by omega)]
  simp only [Option.bind_some]
  rw [Z4l (hA _ (List.getElem_mem h1))]
  simp only [Option.bind_some,Bool.not_true,Bool.false_eq_true,if_false]
  exact Zyf hl hA n (i + 1) (by omega)
def Zqj:List Nat → List Zc → List Zc → List Zc
 | [],_,Z=>Z
 | _ :: _,[],Z=>Z
 | i :: is,y :: ys,Z=>Zqj is ys (Z.set i y)
theorem Zpb {sp:List ByteArray}:∀ (A:List Zm) (ys P:List Zc),ys.length=(rest sp A).length → Zqj (idxs sp A P.length) ys (P ++ List.replicate A.length default)=P ++ Zk7 sp A ys
 | [],ys,P,h=>by simp [idxs,Zqj,Zk7]
 | a :: A,ys,P,h=>by
  rw [List.length_cons,List.replicate_succ]
  by_cases hb:hasB sp a.Key=true
  ·rw [Zpp hb] at h
   rw [idxs,if_pos hb,Zyj hb]
   have:=Zpb A ys (P ++ [default]) h
   rw [List.length_append,List.length_singleton,List.append_assoc,List.append_assoc] at this
   exact this
  ·rw [Zt2 (Bool.eq_false_iff.2 hb)] at h
   cases ys with
   | nil=>cases h
   | cons y ys =>
    rw [idxs,if_neg hb,Zz0 (Bool.eq_false_iff.2 hb),Zqj,List.set_append_right _ _ (Nat.le_refl _),Nat.sub_self,List.set_cons_zero]
    have:=Zpb A ys (P ++ [y]) (by simpa using h)
    rw [List.length_append,List.length_singleton,List.append_assoc,List.append_assoc] at this
    exact this
theorem Zxz {is:List Nat} {J:Zw} (hl:is.length ≤ 1000) (hy:J.Answers.length=is.length):∀ (n i:Nat) (Z:List Zc),i + n=is.length → (∀ j ∈ is,j < Z.length) →
  Zdr (is.map fun k:Nat=>(k:Int)) J (n + 1) Z (i:Int)=some (Zqj (is.drop i) (J.Answers.drop i) Z)
 | 0,i,Z,h,_=>by
  rw [Zdr,if_neg (by simp;omega),List.drop_of_length_le (by omega)]
  rfl
 | n + 1,i,Z,h,hz=>by
  have h1:i < is.length:=by omega
  have h2:i < (is.map fun k:Nat=>(k:Int)).length:=by rw [List.length_map];exact h1
  have h3:i < J.Answers.length:=by omega
  have h4:=hz _ (List.getElem_mem h1)
  rw [Zdr,if_pos (by simp;omega),Zcs h2,Zcs h3,wr1 (by omega)]
  simp only [Option.bind_some,List.getElem_map]
  rw [Zcs h4]
  simp only [Option.bind_some,Int.toNat_natCast]
  rw [Zxz hl hy n (i + 1) _ (by omega) (fun j hj=>by rw [List.length_set];exact hz j hj),List.drop_eq_getElem_cons h1,List.drop_eq_getElem_cons h3,Zqj]
theorem Zu8 {d:Zbk} {sp:List ByteArray} (hd:∀ a ∈ d.Acts,ActIn a) (hl:d.Acts.length ≤ 12) (hs:sp.length ≤ 1000) {s:Zk} {t:Zf} {o:Option Zf} (hf:FR s t 60) {h':Z0} {Lf:List KV} {Q:Zw} {n m:Nat} (H:HandGo h' d sp t.Room Lf Q n 0) (hn:n < 900000) (g:oneS t.Room sp (pl t) d=some (Lf,Q)) {at_:Int} (hck:Ze3 d=some (0,at_))
  (hm1:Q.Code=0 → m=d.Acts.length) (hm2:Q.Code ≠ 0 → Q.At=(m:Int)) {L':List KV} {ys:List Zc} {c:Int} (e1:c=0 → runS t.Room sp d.Acts (pl t)=some (L',Zk7 sp d.Acts ys,0) ∧ ys.length=(rest sp d.Acts).length) (e2:c ≠ 0 → ∃ xs,runS t.Room sp d.Acts (pl t)=some (L',xs,c) ∧ (idxs sp d.Acts 0)[ys.length]?=some (0 + xs.length))
  {tr:Zf} {Rr:Zw} (hR:Rr=if c=0 then { Code:=0,At:=0,Answers:=ys } else { Code:=c,At:=((ys.length + 1:Nat):Int),Answers:=[] }) (htr:c=0 → pl tr=L') (hro:tr.Room=t.Room) :
  Ze8 d (s,o) (h',(m:Int)) (Zgk sp d.Acts) ((idxs sp d.Acts 0).map fun k:Nat=>(k:Int)) tr Rr=some true:=by
 obtain ⟨q1,_,q2⟩:=Z19 hd (by omega) H
 obtain ⟨s',t',l1,l2,l3,l4⟩:=Z71 hd hs H hf (by omega) rfl g
 obtain ⟨_,_,hA,hA2,_⟩:=H.done hd
 have hrok:Zsn Q:=⟨by
  by_cases hq:Q.Answers=[]
  ·rw [hq];simp
  ·rw [hA2 hq];exact hl,hA⟩
 have hspl:(Zgk sp d.Acts).length ≤ 12:=Nat.le_trans (List.length_filter_le ..) hl
 obtain ⟨hil,him⟩:=Z1h (sp:=sp) d.Acts 0
 have hrl:(rest sp d.Acts).length ≤ 12:=Nat.le_trans (List.length_filter_le ..) hl
 unfold Ze8
 rw [q1]
 simp only [Option.bind_some]
 rw [l1]
 simp only [Option.bind_some]
 unfold oneS at g
 rw [hck] at g
 simp only [Option.bind_some,bne_self_eq_false,Bool.false_eq_true,if_false] at g
 by_cases hc:c=0
 ·obtain ⟨f1,f2⟩:=e1 hc
  rw [f1] at g
  simp only [Option.bind_some,if_true,Option.some.injEq,Prod.mk.injEq] at g
  obtain ⟨rfl,rfl⟩:=g
  rw [if_pos hc] at hR
  subst hR
  have hm1:=hm1 rfl
  have htr:=htr hc
  simp only [bne_self_eq_false,Bool.false_eq_true,if_false,if_true]
  have hwl:(Zk7 sp d.Acts ys).length=d.Acts.length:=by
   have:=Zpb (sp:=sp) d.Acts ys [] f2
   rw [List.length_nil,List.nil_append,List.nil_append] at this
   have h2:∀ (is:List Nat) (ys Z:List Zc),(Zqj is ys Z).length=Z.length:=fun is=>by
    induction is with
    | nil=>intro ys Z;rfl
    | cons i is ih =>
     intro ys Z
     cases ys with
     | nil=>rfl
     | cons y ys=>rw [Zqj,ih,List.length_set]
   rw [← this,h2,List.length_replicate]
  have k1:((m:Int) != (d.Acts.length:Int))=false:=by rw [hm1];simp
  have k2:(((Zk7 sp d.Acts ys).length:Int) != (m:Int))=false:=by rw [hwl,hm1];simp
  have k3:(((Zgk sp d.Acts).length:Int) != ((Zgk sp d.Acts).length:Int))=false:=by simp
  simp only [k1,k2,k3,Bool.not_true,Bool.or_self,Bool.not_false,gd_t]
  rw [Zbcn l2 (by omega) (by rw [htr,l3]) (by rw [hro,l4])]
  simp only [Option.bind_some,bne_self_eq_false,Bool.or_self,Bool.false_eq_true,if_false]
  have al:=Zyf (L:=Zgk sp d.Acts) (s:=s') (by omega) (fun a ha=>hd a (List.mem_filter.1 ha).1) (Zgk sp d.Acts).length 0 (by omega)
  rw [show ((0:Nat):Int)=0 from rfl] at al
  rw [show (Int.toNat (((Zgk sp d.Acts).length:Int) - (0:Int)) + 1)=(Zgk sp d.Acts).length + 1 by omega,al]
  simp only [Option.bind_some]
  rw [if_pos (by omega),Int.toNat_natCast]
  have fl:=Zxz (is:=idxs sp d.Acts 0) (J:={ Code:=0,At:=0,Answers:=ys }) (by omega) (by show ys.length=_;omega) (idxs sp d.Acts 0).length 0 (List.replicate m default) (by omega) (fun j hj=>by rw [List.length_replicate];have:=him j hj;omega)
  rw [show ((0:Nat):Int)=0 from rfl,List.drop_zero,List.drop_zero] at fl
  rw [List.length_map,show (Int.toNat (((idxs sp d.Acts 0).length:Int) - (0:Int)) + 1)=(idxs sp d.Acts 0).length + 1 by omega,fl]
  simp only [Option.bind_some]
  have fw:=Zpb (sp:=sp) d.Acts ys [] f2
  rw [List.length_nil,List.nil_append,List.nil_append,← hm1] at fw
  rw [fw,Z6t hrok]
  rfl
 ·obtain ⟨xs,f1,f2⟩:=e2 hc
  rw [f1] at g
  simp only [Option.bind_some] at g
  rw [if_neg hc] at g
  simp only [Option.some.injEq,Prod.mk.injEq] at g
  obtain ⟨rfl,rfl⟩:=g
  rw [if_neg hc] at hR
  subst hR
  have hm2:(((xs.length + 1:Nat):Int))=(m:Int):=hm2 hc
  have hcb:(c != (0:Int))=true:=by rw [bne_iff_ne];exact hc
  rw [Nat.zero_add] at f2
  obtain ⟨b1,b2⟩:=List.getElem?_eq_some_iff.1 f2
  have hw:IntKind.i64.wrap (((ys.length + 1:Nat):Int) - 1)=(ys.length:Int):=by
   rw [show ((ys.length + 1:Nat):Int) - 1=(ys.length:Int) by omega]
   exact Zt3 (by omega) (by omega)
  simp only [hcb,if_true]
  rw [hw,Zcs (by rw [List.length_map];exact b1)]
  simp only [Option.bind_some,List.getElem_map,b2]
  have hxm:=him xs.length (by rw [← b2];exact List.getElem_mem b1)
  rw [wr1 (by omega),hm2]
  simp only [beq_self_eq_true,Bool.and_self,gd_t]
  rw [← hm2,Z6t hrok]
  simp only [Option.bind_some,Bool.and_self,gd_t,if_neg hc]
  rw [Z9i l2 hf (by omega) (by omega) l3]
  rfl
theorem HandSplit_true (a0:List Zbe) (a1:Zbk) (a2:List ByteArray) (w0:a0.length ≤ maxLen ∧ ∀ e0 ∈ a0,Zhw e0) (w1:Zqt a1) (w2:a2.length ≤ maxLen ∧ ∀ e0 ∈ a2,e0.size ≤ maxLen):Ziv a0 a1 a2=some true:=by
 unfold Ziv
 rw [Z64]
 simp only [Option.bind_some,Bool.not_true,Bool.false_eq_true,if_false]
 obtain ⟨c,at1,e1,e2⟩:=Z86 w1
 rcases Z70 (r:=50) w0.2 with ⟨s,e⟩ | ⟨s,t,e,hf,hr,_⟩
 ·rw [e,e1];rfl
 ·rw [e,e1]
  simp only [Option.bind_some,Option.isNone_some,Bool.false_or]
  by_cases hg:(decide ((20:Int) < (a2.length:Int)) || (c != (0:Int)))=true
  ·rw [if_pos hg]
  ·rw [if_neg hg]
   have hg:¬ (20 < a2.length ∨ c ≠ 0):=by
    rw [Bool.or_eq_true,decide_eq_true_eq,bne_iff_ne] at hg
    omega
   have hsp:a2.length ≤ 20:=by omega
   obtain rfl:c=0:=Classical.byContradiction fun h=>hg (.inr h)
   obtain ⟨hl,hd⟩:=e2 rfl
   obtain ⟨c2,at_,d1,d2,_⟩:=Zoo hd
   rw [e1] at d2
   simp only [Option.some.injEq,Prod.mk.injEq] at d2
   obtain ⟨rfl,rfl⟩:=d2
   obtain ⟨_,hca⟩:=Zuu hd d1
   obtain ⟨h,Lf,Q,m,g1,g2,g3,g4,_,g5⟩:=Z6z (sp:=a2) hf hd (by omega) (by omega)
   obtain ⟨g5,g6⟩:=g5 _ d1
   obtain ⟨h',k1,k2⟩:=Z7r hd (by omega) (by omega) g3 g4 (by omega)
   have sl:=Zri (d:=a1) (sp:=a2) (by omega) (by omega) a1.Acts.length 0 [] [] [] (by omega) (by simp) (by simp) (by simp)
   rw [show ((0:Nat):Int)=0 from rfl,List.drop_zero,List.nil_append,List.nil_append,List.nil_append] at sl
   rw [g1]
   simp only [Option.bind_some]
   rw [k1]
   simp only [Option.bind_some]
   rw [show (Int.toNat ((a1.Acts.length:Int) - (0:Int)) + 1)=a1.Acts.length + 1 by omega,sl]
   simp only [Option.bind_some]
   obtain ⟨L',ys,c,r1,r2,r3⟩:=Zsu (R:=t.Room) (sp:=a2) (A:=a1.Acts) (L:=pl t) 0 hf.inv hd
   by_cases h0:(rest a2 a1.Acts).length=0
   ·rw [if_neg (by rw [decide_eq_true_eq];omega)]
    have hre:rest a2 a1.Acts=[]:=List.length_eq_zero_iff.1 h0
    rw [hre] at r1
    cases r1
    exact Zu8 hd hl (by omega) hf k2 (by omega) g2 d1 g5 g6 (c:=0) r2 r3 rfl (fun _=>rfl) rfl
   ·rw [if_pos (decide_eq_true (by omega))]
    have hrd:∀ a ∈ rest a2 a1.Acts,ActIn a:=fun a ha=>hd a (List.mem_filter.1 ha).1
    have hrl:(rest a2 a1.Acts).length ≤ 12:=Nat.le_trans (List.length_filter_le ..) hl
    obtain ⟨sr,tr,Rr,f1,f2,f3,f4,f5⟩:=rone hf (by omega) (d:={ Acts:=rest a2 a1.Acts }) hrd
    have hcz:=Z1x (d:={ Acts:=rest a2 a1.Acts }) (by show 1 ≤ (rest a2 a1.Acts).length;omega) hrl (fun a ha=>hca a (List.mem_filter.1 ha).1)
    unfold oneK at f5
    rw [hcz] at f5
    simp only [Option.bind_some,bne_self_eq_false,Bool.false_eq_true,if_false] at f5
    rw [r1] at f5
    simp only [Option.bind_some] at f5
    rw [f1]
    simp only [Option.bind_some]
    by_cases hc:c=0
    ·rw [if_pos hc] at f5
     simp only [Option.some.injEq,Prod.mk.injEq] at f5
     exact Zu8 hd hl (by omega) hf k2 (by omega) g2 d1 g5 g6 r2 r3 (by rw [if_pos hc];exact f5.2.symm) (fun _=>f5.1.symm) f3
    ·rw [if_neg hc] at f5
     simp only [Option.some.injEq,Prod.mk.injEq] at f5
     exact Zu8 hd hl (by omega) hf k2 (by omega) g2 d1 g5 g6 r2 r3 (by rw [if_neg hc];exact f5.2.symm) (fun h=>absurd h hc) f3
end Go.CL
namespace Go.CL
open Go Go.RowKit Go.Proofs Go.ChangeShapes Go.WideShapes Go.ChangeAt
theorem Z7s:ownKnob Tryz.prog.godebug=none:=by kernel_rfl
theorem Zta:laidOutB Tryz.prog=true:=by kernel_rfl
theorem op_9:Opn Tryz.prog 9 Kd.str (fun x=>(x.size ≤ maxLen)):=Z9b Tryz.underlying9 (by kernel_rfl)
theorem op_3:Opn Tryz.prog 3 (Kd.int .i64) (fun x=>((IntKind.i64).min ≤ x ∧ x ≤ (IntKind.i64).max)):=Z3f Tryz.underlying3 (by kernel_rfl)
theorem op_2:Opn Tryz.prog 2 (Kd.int .i64) (fun x=>((IntKind.i64).min ≤ x ∧ x ≤ (IntKind.i64).max)):=Z3f Tryz.underlying2 (by kernel_rfl)
theorem Z4k:Opn Tryz.prog 35 Kd.flt (fun x=>(x < 2 ^ 64)):=Z9x Tryz.underlying35 (by kernel_rfl)
theorem Zbcg:Opn Tryz.prog 116 Zz Zqq:=⟨by kernel_rfl,fun hg h=>by
 obtain ⟨hl,n,hf⟩:=Znh Tryz.underlying116 h
 obtain ⟨y0,h0⟩:=hf 0 _ rfl
 obtain ⟨v0,k0,w0⟩:=Z4k.op hg h0
 obtain ⟨y1,h1⟩:=hf 1 _ rfl
 obtain ⟨v1,k1,w1⟩:=op_9.op hg h1
 refine ⟨⟨v0,v1⟩,⟨hl.trans (by kernel_rfl),(Qc.2 ⟨k0,(Qc.2 ⟨k1,(fun _ h=>by cases h)⟩)⟩)⟩,w0,w1⟩,fun h=>Zo6 Tryz.underlying116 h⟩
theorem Zbc3:Opn Tryz.prog 36 Zz.sl (fun x=>(x.length ≤ maxLen ∧ ∀ e0 ∈ x,(Zqq e0))):=Zv5 Tryz.underlying36 (by kernel_rfl) Zbcg (by decide)
theorem Z8a:Opn Tryz.prog 38 Ze Zlf:=⟨by kernel_rfl,fun hg h=>by
 obtain ⟨hl,n,hf⟩:=Znh Tryz.underlying38 h
 obtain ⟨y0,h0⟩:=hf 0 _ rfl
 obtain ⟨v0,k0,w0⟩:=op_3.op hg h0
 obtain ⟨y1,h1⟩:=hf 1 _ rfl
 obtain ⟨v1,k1,w1⟩:=op_2.op hg h1
 obtain ⟨y2,h2⟩:=hf 2 _ rfl
 obtain ⟨v2,k2,w2⟩:=op_2.op hg h2
 obtain ⟨y3,h3⟩:=hf 3 _ rfl
 obtain ⟨v3,k3,w3⟩:=op_2.op hg h3
 obtain ⟨y4,h4⟩:=hf 4 _ rfl
 obtain ⟨v4,k4,w4⟩:=Z4k.op hg h4
 obtain ⟨y5,h5⟩:=hf 5 _ rfl
 obtain ⟨v5,k5,w5⟩:=op_3.op hg h5
 obtain ⟨y6,h6⟩:=hf 6 _ rfl
 obtain ⟨v6,k6,w6⟩:=op_9.op hg h6
 obtain ⟨y7,h7⟩:=hf 7 _ rfl
 obtain ⟨v7,k7,w7⟩:=Zbc3.op hg h7
 refine ⟨⟨v0,v1,v2,v3,v4,v5,v6,v7⟩,⟨hl.trans (by kernel_rfl),(Qc.2 ⟨k0,(Qc.2 ⟨k1,(Qc.2 ⟨k2,(Qc.2 ⟨k3,(Qc.2 ⟨k4,(Qc.2 ⟨k5,(Qc.2 ⟨k6,(Qc.2 ⟨k7,(fun _ h=>by cases h)⟩)⟩)⟩)⟩)⟩)⟩)⟩)⟩)⟩,w0,w1,w2,w3,w4,w5,w6,w7⟩,fun h=>Zo6 Tryz.underlying38 h⟩
theorem Zbdq:Opn Tryz.prog 85 Zb1 Zhw:=⟨by kernel_rfl,fun hg h=>by
 obtain ⟨hl,n,hf⟩:=Znh Tryz.underlying85 h
 obtain ⟨y0,h0⟩:=hf 0 _ rfl
 obtain ⟨v0,k0,w0⟩:=op_9.op hg h0
 obtain ⟨y1,h1⟩:=hf 1 _ rfl
 obtain ⟨v1,k1,w1⟩:=Z8a.op hg h1
 refine ⟨⟨v0,v1⟩,⟨hl.trans (by kernel_rfl),(Qc.2 ⟨k0,(Qc.2 ⟨k1,(fun _ h=>by cases h)⟩)⟩)⟩,w0,w1⟩,fun h=>Zo6 Tryz.underlying85 h⟩
theorem Zbd1:Opn Tryz.prog 22 Zb1.sl (fun x=>(x.length ≤ maxLen ∧ ∀ e0 ∈ x,(Zhw e0))):=Zv5 Tryz.underlying22 (by kernel_rfl) Zbdq (by decide)
theorem op_4:Opn Tryz.prog 4 Kd.bool (fun x=>True):=Z7a Tryz.underlying4 (by kernel_rfl)
theorem Zbc8:Opn Tryz.prog 40 Zy Zmf:=⟨by kernel_rfl,fun hg h=>by
 obtain ⟨hl,n,hf⟩:=Znh Tryz.underlying40 h
 obtain ⟨y0,h0⟩:=hf 0 _ rfl
 obtain ⟨v0,k0,w0⟩:=op_3.op hg h0
 obtain ⟨y1,h1⟩:=hf 1 _ rfl
 obtain ⟨v1,k1,w1⟩:=op_9.op hg h1
 obtain ⟨y2,h2⟩:=hf 2 _ rfl
 obtain ⟨v2,k2,w2⟩:=op_2.op hg h2
 obtain ⟨y3,h3⟩:=hf 3 _ rfl
 obtain ⟨v3,k3,w3⟩:=Z4k.op hg h3
 obtain ⟨y4,h4⟩:=hf 4 _ rfl
 obtain ⟨v4,k4,w4⟩:=op_9.op hg h4
 obtain ⟨y5,h5⟩:=hf 5 _ rfl
 obtain ⟨v5,k5,w5⟩:=Z8a.op hg h5
 obtain ⟨y6,h6⟩:=hf 6 _ rfl
 obtain ⟨v6,k6,w6⟩:=op_4.op hg h6
 refine ⟨⟨v0,v1,v2,v3,v4,v5,v6⟩,⟨hl.trans (by kernel_rfl),(Qc.2 ⟨k0,(Qc.2 ⟨k1,(Qc.2 ⟨k2,(Qc.2 ⟨k3,(Qc.2 ⟨k4,(Qc.2 ⟨k5,(Qc.2 ⟨k6,(fun _ h=>by cases h)⟩)⟩)⟩)⟩)⟩)⟩)⟩)⟩,w0,w1,w2,w3,w4,w5,w6⟩,fun h=>Zo6 Tryz.underlying40 h⟩
theorem Zbd2:Opn Tryz.prog 23 Zy.sl (fun x=>(x.length ≤ maxLen ∧ ∀ e0 ∈ x,(Zmf e0))):=Zv5 Tryz.underlying23 (by kernel_rfl) Zbc8 (by decide)
theorem Zbd8:Opn Tryz.prog 25 Zb5 Zqt:=⟨by kernel_rfl,fun hg h=>by
 obtain ⟨hl,n,hf⟩:=Znh Tryz.underlying25 h
 obtain ⟨y0,h0⟩:=hf 0 _ rfl
 obtain ⟨v0,k0,w0⟩:=Zbd2.op hg h0
 refine ⟨⟨v0⟩,⟨hl.trans (by kernel_rfl),(Qc.2 ⟨k0,(fun _ h=>by cases h)⟩)⟩,w0⟩,fun h=>Zo6 Tryz.underlying25 h⟩
theorem Zbc5:Opn Tryz.prog 26 Kd.str.sl (fun x=>(x.length ≤ maxLen ∧ ∀ e0 ∈ x,(e0.size ≤ maxLen))):=Zv5 Tryz.underlying26 (by kernel_rfl) op_9 (by decide)
theorem Z8e:Det Tryz.prog 9:=Z9a Tryz.underlying9
theorem Zbcm:Det Tryz.prog 3:=Z82 Tryz.underlying3
theorem Z87:Det Tryz.prog 145:=Z3n Tryz.underlying145 (fun i f h=>match i,f,h with
 | 0,_,h=>by obtain rfl:=Option.some.inj h;exact Z8e
 | 1,_,h=>by obtain rfl:=Option.some.inj h;exact Zbcm
 | 2,_,h=>by obtain rfl:=Option.some.inj h;exact Z8e
 | _ + 3,_,h=>by cases h) (by kernel_rfl)
theorem Z94:Det Tryz.prog 164:=Z9u Tryz.underlying164 Z87 (by kernel_rfl)
theorem HandSplit_met (os : Os) (args : Array Value) : laidMetH Tryz.prog [("moiety/act.kinds", Go.Proofs.YtlanlccmokaajaaGreatDoor.Rows.laid_moiety_act_kinds)] ((World.doorLaid Tryz.prog 400 os).forCall (fun _ _ => 0) ⟨#[], args, []⟩).memory :=
 laidMetH_of_parts3 (fuel:=8) (laidMet_of_run' 8 (by kernel_rfl) (by kernel_rfl)) (by kernel_rfl) (by kernel_rfl)
theorem HandSplit_gl {W : World} (h : laidMetH Tryz.prog [("moiety/act.kinds", Go.Proofs.YtlanlccmokaajaaGreatDoor.Rows.laid_moiety_act_kinds)] W) : GLok W (fun b _ => b < W.heap.size) := by
 have g0 := Z7k (P := Tryz.prog) (nm := "moiety/act.kinds") (d := Go.Proofs.YtlanlccmokaajaaGreatDoor.Rows.laid_moiety_act_kinds) (g := 0) (t := 164) (W := W) (w0 := W) (cells := [.string ⟨#[]⟩, .int .i64 (0), .string ⟨#[]⟩, .string ⟨#[110, 101, 119]⟩, .int .i64 (0), .string ⟨#[109]⟩, .string ⟨#[100, 114, 111, 112]⟩, .int .i64 (0), .string ⟨#[]⟩, .string ⟨#[105, 115]⟩, .int .i64 (0), .string ⟨#[]⟩, .string ⟨#[108, 111, 111, 107]⟩, .int .i64 (0), .string ⟨#[]⟩, .string ⟨#[112, 117, 116]⟩, .int .i64 (1), .string ⟨#[115]⟩, .string ⟨#[115, 119, 97, 112]⟩, .int .i64 (1), .string ⟨#[115]⟩, .string ⟨#[97, 100, 100]⟩, .int .i64 (2), .string ⟨#[110]⟩, .string ⟨#[112, 108, 117, 115]⟩, .int .i64 (3), .string ⟨#[110]⟩, .string ⟨#[114, 101, 97, 99, 104]⟩, .int .i64 (3), .string ⟨#[110]⟩, .string ⟨#[105, 110]⟩, .int .i64 (4), .string ⟨#[110]⟩, .string ⟨#[111, 117, 116]⟩, .int .i64 (4), .string ⟨#[110]⟩, .string ⟨#[101, 110, 111, 117, 103, 104]⟩, .int .i64 (4), .string ⟨#[110]⟩, .string ⟨#[114, 97, 105, 115, 101]⟩, .int .i64 (5), .string ⟨#[120]⟩, .string ⟨#[108, 111, 119, 101, 114]⟩, .int .i64 (6), .string ⟨#[120]⟩, .string ⟨#[115, 104, 105, 102, 116]⟩, .int .i64 (7), .string ⟨#[120]⟩, .string ⟨#[115, 99, 97, 108, 101]⟩, .int .i64 (7), .string ⟨#[120]⟩, .string ⟨#[102, 105, 120]⟩, .int .i64 (7), .string ⟨#[120]⟩, .string ⟨#[106, 111, 105, 110]⟩, .int .i64 (8), .string ⟨#[115]⟩, .string ⟨#[108, 101, 97, 118, 101]⟩, .int .i64 (8), .string ⟨#[115]⟩, .string ⟨#[104, 97, 115]⟩, .int .i64 (8), .string ⟨#[115]⟩, .string ⟨#[111, 102, 102, 101, 114]⟩, .int .i64 (9), .string ⟨#[120, 115]⟩]) (fu := 8) (by kernel_rfl) (by kernel_rfl) Z94 (by kernel_rfl) (by kernel_rfl) h
 intro e he i v hv
 rcases List.mem_cons.1 he with rfl | he
 ·exact ⟨(Ztq (g0 i v hv)).2,g0 i v hv⟩
 cases he
theorem HandSplit_ret (os:Os) (started:os.Started) (H:Type) (enc:TypeId × Value → H) :
  ReturnsInHanded {} Tryz.checked os 5 .any (fun w args => (Go.Proofs.YtlanlccmokaajaaGreatDoor.Rows.handSplitSpec.pre enc Tryz.prog Tryz.f5 [] false w args ∧ laidMetH Tryz.prog [("moiety/act.kinds", Go.Proofs.YtlanlccmokaajaaGreatDoor.Rows.laid_moiety_act_kinds)] w) ∧ sizedMet enc Tryz.prog Tryz.f5 (OpenSpec.ofChange Go.Proofs.YtlanlccmokaajaaGreatDoor.Rows.handSplitSpec) false w args) (Go.Proofs.YtlanlccmokaajaaGreatDoor.Rows.handSplitSpec.post enc Tryz.prog Tryz.f5 false true false false) := by
 refine returnsInHanded_of_change_and (C := Tryz.checked) (X := fun w _ => laidMetH Tryz.prog [("moiety/act.kinds", Go.Proofs.YtlanlccmokaajaaGreatDoor.Rows.laid_moiety_act_kinds)] w) (fun _ _ _ hh h => h.of_heap hh) Z7s started (by kernel_rfl) Tryz.func5
  (ChangeSpec.witness_shaped (enc := enc) (C := Tryz.checked) (os := os) (X := fun w _ => laidMetH Tryz.prog [("moiety/act.kinds", Go.Proofs.YtlanlccmokaajaaGreatDoor.Rows.laid_moiety_act_kinds)] w) false (World.doorLaid Tryz.prog 400 os) #[.slice none 0 0, .agg #[.slice none 0 0], .slice none 0 0] 8 rfl (World.shaped_of_RefB (by kernel_rfl) (by kernel_rfl)) (by kernel_rfl) (by kernel_rfl) (by kernel_rfl) (HandSplit_met os _)) ?_
 intro W base args ds gs before hval0 hW hcnd _ hL _
 have hval:∀ (j:Nat) t v,Tryz.f5.params[j]?=some t → args[j]?=some v → Value.okWide Tryz.prog W .any base t v:=hval0
 have hW':=hW
 obtain ⟨p,q,hA0,hV,rfl,hfz,hnd⟩:=hW
 have hA:DataW.TrodAll enc Tryz.prog W 0 (fun _=>true) true Tryz.f5.params.toList args.toList ds p:=hA0
 rw [Tryz.params5] at hA hval
 obtain ⟨v0,v1,v2,d0,d1,d2,p0,p1,p2,rfl,rfl,rfl,h0,h1,h2⟩:=trodAll_three hA
 obtain ⟨rfl,rfl⟩:=trodVars_none hV
 simp only [List.append_nil] at hW'
 have hg:GLok W (fun b _=>b < W.heap.size):=(HandSplit_gl hL)
 have hk0:=h0
 obtain ⟨a0,q0,w0⟩:=Zz1 Zbd1 hg h0 (hval 0 22 v0 rfl rfl)
 have hk1:=h1
 obtain ⟨a1,q1,w1⟩:=Zz1 Zbd8 hg h1 (hval 1 25 v1 rfl rfl)
 have hk2:=h2
 obtain ⟨a2,q2,w2⟩:=Zz1 Zbc5 hg h2 (hval 2 26 v2 rfl rfl)
 refine (Zps a0 a1 a2 (HandSplit_true a0 a1 a2 w0 w1 w2) (GW W hg) [v0,v1,v2] (Zon q0 (Zon q1 (Zon q2 Ze4)))).mono fun e W' ⟨g',v,he,hw,hs,hq⟩=>?_
 subst he;subst hw
 rw [Zil.1 hq]
 have hbel:=Z66 hs
 have hlt:∀ x ∈ (p0 ++ p1 ++ p2),x.block < W.heap.size:=fun x hx=>by simpa using hW'.lt x hx
 exact ⟨_,rfl,Zza (pv:=[]) hW' hbel (trodAll_mk1 (shut_bool Tryz.underlying4 true)) (trodAll_mk3 (Below.trod Zta (by kernel_rfl) (of_decide_eq_true (by kernel_rfl)) hk0 hbel (fun x hx=>hlt x (by simp [hx]))) (Below.trod Zta (by kernel_rfl) (of_decide_eq_true (by kernel_rfl)) hk1 hbel (fun x hx=>hlt x (by simp [hx]))) (Below.trod Zta (by kernel_rfl) (of_decide_eq_true (by kernel_rfl)) hk2 hbel (fun x hx=>hlt x (by simp [hx])))) rfl⟩
theorem HandSplit_holds:Go.Proofs.YtlanlccmokaajaaGreatDoor.Rows.HandSplitSaid :=
 OpenClaim.holds_of_wide 5 Tryz.f5 rfl rfl rfl rfl rfl rfl rfl ⟨rfl,rfl,rfl,rfl,rfl⟩ rfl rfl rfl rfl rfl (by kernel_rfl) Tryz.func5 (by kernel_rfl)
  (of_decide_eq_true (by kernel_rfl)) (by unfold Func.isWrapper;first | (rw [if_pos (by decide +kernel)];kernel_rfl) | (rw [if_neg (by decide +kernel)];exact ⟨rfl,rfl⟩))
  (fun os started H enc _=>HandSplit_ret os started H enc)
theorem HandSplit_card:Go.Proofs.YtlanlccmokaajaaGreatDoor.Rows.HandSplitCardSaid :=
 Claim7.holds_tied_plain_at .later [] [.data] true (true, "742167b159ec3a4f522c33c9de0194a4b520730ba2e9e03a283e4a3108c93551") false
  HandSplit_holds (fun _ h=>by cases h) (by kernel_rfl) (fun _ h=>by cases h) Go.Proofs.YtlanlccmokaajaaGreatDoor.handSplit_row_tie rfl ⟨rfl,rfl⟩ (by kernel_rfl) rfl
  (fun f fn hf hfn=>by
   obtain rfl : f = 5 := Option.some.inj ((show Tryz.prog.funcNamed "moiety/moietylaw15.HandSplit" = some 5 by kernel_rfl).symm.trans hf) |>.symm
   obtain rfl:fn=Tryz.f5:=(Option.some.inj (Tryz.func5.symm.trans hfn)).symm
   exact ⟨by kernel_rfl,fun j t ht=>by
    rw [Tryz.params5] at ht
    have hm:t ∈ [22,25,26]:=by simpa using Array.mem_of_getElem? ht
    have hall:(([22,25,26]:List TypeId).all fun u=>!Tryz.prog.wantsStandIn u)=true:=by kernel_rfl
    exact (show Tryz.prog.wantsStandIn t=false by simpa using List.all_eq_true.1 hall t hm)⟩)
  (by kernel_rfl)
end Go.CL
