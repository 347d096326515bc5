/- A part of the proof of ShareSome. -/
import Derived.Test.YtbiobpmabomjfaaDoorShareSomeC5
import Derived.Test.YtbiobpmabomjfaaDoorRows
import Derived.Test.YtbiobpmabomjfaaDoorCards
import Derived.Test.YtbiobpmabomjfaaDoorTie
import Derived.SevenTiedAt
set_option linter.unusedVariables false
set_option linter.unusedSimpArgs false
set_option maxRecDepth 100000
namespace Go.CL
open Go
theorem Zwn {x:Za} (h:Zg7 x):x.List.length ≤ 9223372036854775807:=by
 obtain ⟨_,_,_,_,_,_,_,h8,_⟩:=h
 simp only [maxLen] at h8;omega
theorem Zsp {x:Za} (h:Zg7 x) (hl:x.List.length ≤ 100):RecW x:=by
 obtain ⟨h1,h2,h3,h4,h5,_,_,h8,h9⟩:=h
 exact ⟨⟨h5,by omega,fun e he=>(h9 e he).1⟩,h2,h3,h4,h1,by omega⟩
theorem eqLr:∀ l:List Zd,eqL l l=true
 | []=>rfl
 | x :: l=>by simp [eqL,eqI,Zlz,eqLr l]
theorem Z6q (a:Za):Zjk a a=true:=by simp [Zjk,Zlz,eqLr]
theorem Z1t {a:Zg} (h:Zll a) (hl:a.Make.List.length ≤ 100):ActIn a:=by
 obtain ⟨_,_,h3,h4,_,h6,_⟩:=h
 exact ⟨⟨(Zsp h6 hl).ok,h4⟩,h3,Zsp h6 hl⟩
theorem Z6t {a:Zg} (h:Zll a):∃ c,Zhl a=some c ∧ (c=0 ∨ c=1) ∧ (c=0 → a.Make.List.length ≤ 100):=by
 obtain ⟨c,e1,e2,e3⟩:=Z2u (Zwn h.2.2.2.2.2.1)
 unfold Zhl
 rw [e1]
 by_cases hk:(decide ((200:Int) < (a.Key.size:Int)) || decide ((1000:Int) < (a.S.size:Int)))=true
 ·rw [hk];exact ⟨1,rfl,.inr rfl,fun h=>by cases h⟩
 ·have hk':=Bool.eq_false_iff.2 hk
  rw [hk']
  rcases e2 with rfl | rfl
  ·exact ⟨0,rfl,.inl rfl,fun _=>e3 rfl⟩
  ·exact ⟨1,rfl,.inr rfl,fun h=>by cases h⟩
theorem Zva {f:Zd → Bool} {l:Zbf}:∀ y ∈ l.take (pre f l),f y=true:=fun y hy=>by
 obtain ⟨k,hk,rfl⟩:=List.getElem_of_mem hy
 rw [List.length_take] at hk
 obtain ⟨e,he,hf⟩:=Zvo (f:=f) (l:=l) (k:=k) (by omega)
 rw [List.getElem?_eq_getElem (by omega)] at he
 rw [List.getElem_take]
 obtain rfl:=Option.some.inj he
 exact hf
variable {r r' r'':Za} {a:Zg} {o o':Zi} {c:Int}
theorem Zno {r:Za} {m:Int} (hg:Zbv r) (hk:2 ≤ r.Kind ∧ r.Kind ≤ 4) (hb:r.Kind=4 → r.Low ≤ m ∧ m ≤ r.High):Zbv { r with Num:=m }:=by
 obtain ⟨g1,g2,g3,g4,g5,g6,g7⟩:=hg
 refine ⟨g1,g2,?_,g4,fun h=>⟨(g5 h).1,(g5 h).2.1,(hb h).1,(hb h).2⟩,g6,g7⟩
 unfold Zgb at *
 have:decide (2 ≤ r.Kind ∧ r.Kind ≤ 4)=true:=decide_eq_true hk
 simp only [this,Bool.true_or] at *
 exact g3
theorem Zjj {a b c:Zd} (h:Zb0 a b=true) (k:Zb0 b c=true):Zb0 a c=true:=by
 unfold Zb0 at *
 by_cases h1:keyf a.Score=keyf b.Score
 ·rw [if_pos h1] at h
  by_cases h2:keyf b.Score=keyf c.Score
  ·rw [if_pos h2] at k
   rw [if_pos (h1.trans h2)];exact Zi6 h k
  ·rw [if_neg h2] at k
   rw [if_neg (by rw [h1];exact h2),h1];exact k
 ·rw [if_neg h1] at h
  have h':=of_decide_eq_true h
  by_cases h2:keyf b.Score=keyf c.Score
  ·rw [if_neg (by rw [← h2];exact h1),← h2];exact h
  ·rw [if_neg h2] at k
   have k':=of_decide_eq_true k
   rw [if_neg (by omega)];exact decide_eq_true (by omega)
def BS (l:Zbf):Prop:=l.Pairwise fun p q=>Zb0 p q=true
def Zl5 (k:Int) (e:Zd):Prop:=e.Name.size ≤ 16 ∧ (k=8 → keyf e.Score=keyf 0) ∧ e.Score=Zbh e.Score
theorem Zlk {k:Int} {l:Zbf} {i:Nat} {x:Zd} (h:l[i]?=some x):Zgc k l i=0 ↔ Zl5 k x ∧ (0 < i → k=8 → sLt ((l[i - 1]?).getD default).Name x.Name=true) ∧ (0 < i → k=9 → Zb0 ((l[i - 1]?).getD default) x=true):=by
 unfold Zgc Zl5
 rw [h]
 simp only []
 by_cases h1:(16:Int) < x.Name.size
 ·rw [if_pos h1];exact ⟨fun h=>(by cases h),fun h=>by omega⟩
 ·rw [if_neg h1]
  by_cases h2:(k=8 ∧ keyf x.Score ≠ keyf 0) ∨ x.Score ≠ Zbh x.Score
  ·rw [if_pos h2]
   refine ⟨fun h=>(by cases h),fun h=>?_⟩
   rcases h2 with ⟨a,b⟩ | b
   ·exact absurd (h.1.2.1 a) b
   ·exact absurd h.1.2.2 b
  ·rw [if_neg h2]
   have e1:k=8 → keyf x.Score=keyf 0:=fun hk=>Classical.byContradiction fun hn=>h2 (.inl ⟨hk,hn⟩)
   have e2:x.Score=Zbh x.Score:=Classical.byContradiction fun hn=>h2 (.inr hn)
   by_cases h3:0 < i ∧ k=8 ∧ sLt ((l[i - 1]?).getD default).Name x.Name=false
   ·rw [if_pos h3]
    refine ⟨fun h=>(by cases h),fun h=>?_⟩
    have:=h.2.1 h3.1 h3.2.1
    rw [h3.2.2] at this;cases this
   ·rw [if_neg h3]
    have e3:0 < i → k=8 → sLt ((l[i - 1]?).getD default).Name x.Name=true:=fun a b=>by
     cases hq:sLt ((l[i - 1]?).getD default).Name x.Name
     ·exact absurd ⟨a,b,hq⟩ h3
     ·rfl
    by_cases h4:0 < i ∧ k=9 ∧ Zb0 ((l[i - 1]?).getD default) x=false
    ·rw [if_pos h4]
     refine ⟨fun h=>(by cases h),fun h=>?_⟩
     have:=h.2.2 h4.1 h4.2.1
     rw [h4.2.2] at this;cases this
    ·rw [if_neg h4]
     refine ⟨fun _=>⟨⟨by omega,e1,e2⟩,e3,fun a b=>?_⟩,fun _=>rfl⟩
     cases hq:Zb0 ((l[i - 1]?).getD default) x
     ·exact absurd ⟨a,b,hq⟩ h4
     ·rfl
theorem Zvs {R:Zd → Zd → Prop} (ht:∀ {a b c},R a b → R b c → R a c) {l:Zbf} (step:∀ i,i + 1 < l.length → R ((l[i]?).getD default) ((l[i + 1]?).getD default)):l.Pairwise R:=by
 have far:∀ d i,i + d + 1 < l.length → R ((l[i]?).getD default) ((l[i + d + 1]?).getD default):=by
  intro d
  induction d with
  | zero=>intro i h;exact step i h
  | succ d ih=>intro i h;exact ht (ih i (by omega)) (step (i + d + 1) (by omega))
 refine List.pairwise_iff_getElem.2 fun i j hi hj hij=>?_
 have:=far (j - i - 1) i (by omega)
 rw [show i + (j - i - 1) + 1=j by omega,List.getElem?_eq_getElem hi,List.getElem?_eq_getElem hj] at this
 exact this
theorem Zu0 {R:Zd → Zd → Prop} {l:Zbf} (h:l.Pairwise R) {i:Nat} {x:Zd} (hx:l[i]?=some x) (hi:0 < i):R ((l[i - 1]?).getD default) x:=by
 obtain ⟨h1,rfl⟩:=List.getElem?_eq_some_iff.1 hx
 rw [List.getElem?_eq_getElem (by omega)]
 exact List.pairwise_iff_getElem.1 h _ _ (by omega) h1 (by omega)
theorem Zow {k:Int} {l:Zbf}:(∀ i,i < l.length → Zgc k l i=0) ↔ (∀ e ∈ l,Zl5 k e) ∧ (k=8 → NS l) ∧ (k=9 → BS l):=by
 constructor
 ·intro h
  refine ⟨fun e he=>?_,fun hk=>?_,fun hk=>?_⟩
  ·obtain ⟨i,hi,rfl⟩:=List.getElem_of_mem he
   exact ((Zlk (List.getElem?_eq_getElem hi)).1 (h i hi)).1
  ·refine Zvs (R:=fun p q=>sLt p.Name q.Name=true) (fun a b=>Zi6 a b) fun i hi=>?_
   have:=((Zlk (List.getElem?_eq_getElem hi)).1 (h (i + 1) hi)).2.1 (by omega) hk
   rw [List.getElem?_eq_getElem hi];exact this
  ·refine Zvs (R:=fun p q=>Zb0 p q=true) (fun a b=>Zjj a b) fun i hi=>?_
   have:=((Zlk (List.getElem?_eq_getElem hi)).1 (h (i + 1) hi)).2.2 (by omega) hk
   rw [List.getElem?_eq_getElem hi];exact this
 ·intro ⟨h1,h2,h3⟩ i hi
  have hx:=List.getElem?_eq_getElem hi
  exact (Zlk hx).2 ⟨h1 _ (List.getElem_mem hi),fun a b=>Zu0 (R:=fun p q=>sLt p.Name q.Name=true) (h2 b) hx a,fun a b=>Zu0 (R:=fun p q=>Zb0 p q=true) (h3 b) hx a⟩
theorem Zuv {r:Za} (h:Zbv r) (hk:8 ≤ r.Kind):1 ≤ r.Cap ∧ r.Cap ≤ 32 ∧ (r.List.length:Int) ≤ r.Cap ∧ (∀ e ∈ r.List,Zl5 r.Kind e) ∧ (r.Kind=8 → NS r.List) ∧ (r.Kind=9 → BS r.List):=by
 obtain ⟨a,b,c,d⟩:=h.2.2.2.2.2.2 hk
 exact ⟨a,b,c,Zow.1 d⟩
theorem Zlf {r:Za} {l:Zbf} (h:Zbv r) (hk:8 ≤ r.Kind) (h1:(l.length:Int) ≤ r.Cap) (h2:∀ e ∈ l,Zl5 r.Kind e) (h3:r.Kind=8 → NS l) (h4:r.Kind=9 → BS l):Zbv { r with List:=l }:=by
 obtain ⟨g1,g2,g3,g4,g5,g6,g7⟩:=h
 refine ⟨g1,g2,?_,g4,g5,g6,fun hk=>⟨(g7 hk).1,(g7 hk).2.1,h1,Zow.2 ⟨h2,h3,h4⟩⟩⟩
 unfold Zgb at *
 have:decide (8 ≤ r.Kind)=true:=decide_eq_true hk
 simp only [this,Bool.true_or] at *
 exact g3
theorem Zoj {r:Za} {t:ByteArray} (h:Zbv r) (hk:r.Kind=1) (h1:t.size ≤ 64):Zbv { r with Text:=t }:=by
 obtain ⟨g1,g2,g3,g4,g5,g6,g7⟩:=h
 refine ⟨g1,g2,?_,h1,g5,g6,g7⟩
 unfold Zgb at *
 have:decide (r.Kind=1)=true:=decide_eq_true hk
 simp only [this,Bool.true_or,Bool.true_and] at *
 exact g3
theorem Zty {r:Za} {x:Nat} (h:Zbv r) (hk:5 ≤ r.Kind ∧ r.Kind ≤ 7) (h1:x=Zbh x):Zbv { r with Real:=x }:=by
 obtain ⟨g1,g2,g3,g4,g5,g6,g7⟩:=h
 refine ⟨g1,g2,?_,g4,g5,h1,g7⟩
 unfold Zgb at *
 have:decide (5 ≤ r.Kind ∧ r.Kind ≤ 7)=true:=decide_eq_true hk
 simp only [this,Bool.true_or] at *
 exact g3
variable {r r':Za} {a:Zg} {o:Zi}
theorem Zk4 {ψ:Nat → Nat → Option Nat} (hg:Zbv r) (hk:5 ≤ r.Kind ∧ r.Kind ≤ 7) (hψ:∀ m,ψ r.Real a.X=some m → m=Zbh m) (e:Z6 a.Kind r a default=Zdo ψ r a default) (h1:Z6 a.Kind r a default=some (0,r',o)):Zbv r':=by
 rw [e] at h1
 unfold Zdo at h1
 obtain ⟨m,m1,m2⟩:=Option.bind_eq_some_iff.1 h1
 simp only [Option.some.injEq,Prod.mk.injEq] at m2
 obtain ⟨_,rfl,_⟩:=m2
 exact Zty hg hk (hψ m m1)
theorem Zzb (h:a.Kind=18) (hr:RecW r) (hg:Zbv r) (hk:r.Kind=8) (ha:ActW a) (h1:Z6 a.Kind r a default=some (0,r',o)):Zbv r':=by
 have e:Z6 a.Kind r a default=Zi9 r a default:=by rw [h];rfl
 obtain ⟨c1,c2,c3,c4,c5,_⟩:=Zuv hg (by omega)
 have hs:=c5 hk
 have hl:=hr.len
 have hple:=Zk3 (fun e=>sLt e.Name a.S) r.List
 rw [e] at h1
 unfold Zi9 at h1
 rw [Zmy hs (by omega),Znc (by omega)] at h1
 simp only [Option.bind_some] at h1
 by_cases hat:isAt a.S r.List=true
 ·rw [if_pos hat] at h1
  simp only [Option.some.injEq,Prod.mk.injEq,true_and] at h1
  rw [← h1.1];exact hg
 ·rw [if_neg hat] at h1
  by_cases hc:decide (r.Cap ≤ (r.List.length:Int))=true
  ·rw [if_pos hc] at h1;cases h1
  ·rw [if_neg hc] at h1
   have hc':¬ r.Cap ≤ (r.List.length:Int):=by simpa using hc
   unfold Zby at h1
   rw [if_pos ⟨by omega,by omega,by simp,by simp;omega⟩] at h1
   simp only [Option.bind_some,Option.some.injEq,Prod.mk.injEq,true_and,Int.toNat_natCast] at h1
   obtain ⟨rfl,_⟩:=h1
   have hbehind:∀ y ∈ r.List.drop (pre (fun e=>sLt e.Name a.S) r.List),sLt a.S y.Name=true:=fun y hy=>by
    obtain ⟨k,hk,rfl⟩:=List.getElem_of_mem hy
    rw [List.length_drop] at hk
    rw [List.getElem_drop]
    have hm:=Zqp (s:=a.S) hs (k:=pre (fun e=>sLt e.Name a.S) r.List + k) (by omega)
    rw [show decide (pre (fun e=>sLt e.Name a.S) r.List + k < pre (fun e=>sLt e.Name a.S) r.List)=false by simp] at hm
    refine Zsm hm fun hn=>?_
    have hany:=Zj1 (s:=a.S) hs
    rw [show isAt a.S r.List=false by simpa using hat,List.any_eq_false] at hany
    exact hany _ (List.getElem_mem _) (Zg9.2 hn)
   refine Zlf hg (by omega) (by simp;omega) (fun e he=>?_) (fun _=>?_) (fun h=>by omega)
   ·simp only [List.mem_append,List.mem_singleton] at he
    rcases he with (he | rfl) | he
    ·exact c4 e (List.mem_of_mem_take he)
    ·exact ⟨ha.s16 (by omega),fun _=>rfl,by kernel_rfl⟩
    ·exact c4 e (List.mem_of_mem_drop he)
   ·unfold NS at *
    rw [List.append_assoc,List.pairwise_append]
    refine ⟨hs.sublist (List.take_sublist _ _),?_,fun x hx y hy=>?_⟩
    ·rw [List.singleton_append,List.pairwise_cons]
     exact ⟨hbehind,hs.sublist (List.drop_sublist _ _)⟩
    ·have hxa:sLt x.Name a.S=true:=Zva (f:=fun e=>sLt e.Name a.S) x hx
     rcases List.mem_append.1 hy with hy | hy
     ·rw [List.mem_singleton.1 hy];exact hxa
     ·exact Zi6 hxa (hbehind y hy)
theorem Zyj (h:a.Kind=19) (hr:RecW r) (hg:Zbv r) (hk:r.Kind=8) (h1:Z6 a.Kind r a default=some (0,r',o)):Zbv r':=by
 obtain ⟨c1,c2,c3,c4,c5,_⟩:=Zuv hg (by omega)
 have hl:=hr.len
 obtain ⟨c,x,y,d1,d2,_⟩:=Zs7 h hr hg hk
 rw [h1] at d1
 simp only [Option.some.injEq,Prod.mk.injEq] at d1
 obtain ⟨rfl,rfl,rfl⟩:=d1
 have e2:Z3 r a=(Zdi r a (Int.toNat ((r.List.length:Int) - (0:Int)) + 1) ([]:List Zd) (0:Int)).bind fun z57=>match z57 with | y56=>(Zk ({ r with List:=y56 }) (ans 0)):=by unfold Z3 Zbm;rw [h];rfl
 have hf:=Zlb (a:=a) (a0:=r) (by omega) r.List.length 0 [] (by omega) (by simp)
 rw [show ((0:Nat):Int)=0 from rfl] at hf
 rw [e2,show (Int.toNat ((r.List.length:Int) - (0:Int)) + 1)=r.List.length + 1 by omega,hf,List.drop_zero,List.nil_append] at d2
 simp only [Option.bind_some,Zk,if_true,Option.some.injEq,Prod.mk.injEq] at d2
 obtain ⟨rfl,_⟩:=d2
 have hle:=List.length_filter_le (fun e:Zd=>!sEq e.Name a.S) r.List
 exact Zlf hg (by omega) (by omega) (fun e he=>c4 e (List.mem_filter.1 he).1) (fun _=>List.Pairwise.sublist List.filter_sublist (c5 hk)) (fun h=>by omega)
theorem Zyi (h:a.Kind=21) (hr:RecW r) (hg:Zbv r) (hk:r.Kind=9) (ha:ActW a) (h1:Z6 a.Kind r a default=some (0,r',o)):Zbv r':=by
 have e:Z6 a.Kind r a default=Zii r a default:=by rw [h];rfl
 obtain ⟨c1,c2,c3,c4,_,c6⟩:=Zuv hg (by omega)
 have hs:=c6 hk
 have hl:=hr.len
 have hple:=Zk3 (Zcb { Score:=a.X,Name:=a.S } false) r.List
 rw [e] at h1
 unfold Zii at h1
 rw [Zsz ha.ok.2 hr.ok.sc (by omega),Znc (by omega)] at h1
 simp only [Option.bind_some] at h1
 obtain ⟨e9,g9,h1⟩:=Option.bind_eq_some_iff.1 h1
 obtain ⟨r11,g11,h1⟩:=Option.bind_eq_some_iff.1 h1
 split at h1
 ·simp only [Option.some.injEq,Prod.mk.injEq,true_and] at h1
  rw [← h1.1];exact hg
 ·rename_i hcond
  unfold Zby at h1
  rw [if_pos ⟨by omega,by omega,by simp,by simp;omega⟩] at h1
  simp only [Option.bind_some] at h1
  rw [Zu8 c1 c2] at h1
  simp only [Option.bind_some,Option.some.injEq,Prod.mk.injEq,true_and,Int.toNat_natCast] at h1
  obtain ⟨rfl,_⟩:=h1
  have hbehind:∀ y ∈ r.List.drop (pre (Zcb { Score:=a.X,Name:=a.S } false) r.List),Zb0 { Score:=a.X,Name:=a.S } y=true:=fun y hy=>by
   have hp:pre (Zcb { Score:=a.X,Name:=a.S } false) r.List < r.List.length:=by
    have:=List.length_pos_of_mem hy
    rw [List.length_drop] at this;omega
   have hd:decide (((pre (Zcb { Score:=a.X,Name:=a.S } false) r.List:Nat):Int) < (r.List.length:Int))=true:=by simpa using hp
   rw [hd,Zcy hp] at g9
   simp only [gd_t,Option.some.injEq] at g9
   subst g9
   rw [hd] at g11 hcond
   simp only [gd_t] at g11
   rw [Zmj ha.ok.2 (hr.ok.sc _ (List.getElem_mem hp))] at g11
   have hb:Zb0 { Score:=a.X,Name:=a.S } r.List[pre (Zcb { Score:=a.X,Name:=a.S } false) r.List]=true:=by
    have:=Option.some.inj g11
    rw [← this] at hcond
    simpa using hcond
   rw [List.drop_eq_getElem_cons hp] at hy
   rcases List.mem_cons.1 hy with rfl | hy
   ·exact hb
   ·refine Zjj hb ?_
    have hpw:(r.List.drop (pre (Zcb { Score:=a.X,Name:=a.S } false) r.List)).Pairwise fun p q=>Zb0 p q=true:=List.Pairwise.sublist (List.drop_sublist _ _) hs
    rw [List.drop_eq_getElem_cons hp,List.pairwise_cons] at hpw
    exact hpw.1 y hy
  refine Zlf hg (by omega) (by rw [List.length_take];omega) (fun e he=>?_) (fun h=>by omega) (fun _=>?_)
  ·have he:=List.mem_of_mem_take he
   simp only [List.mem_append,List.mem_singleton] at he
   rcases he with (he | rfl) | he
   ·exact c4 e (List.mem_of_mem_take he)
   ·exact ⟨ha.s16 (by omega),fun h=>by omega,ha.xc⟩
   ·exact c4 e (List.mem_of_mem_drop he)
  ·refine List.Pairwise.sublist (List.take_sublist _ _) ?_
   rw [List.append_assoc,List.pairwise_append]
   refine ⟨List.Pairwise.sublist (List.take_sublist _ _) hs,?_,fun x hx y hy=>?_⟩
   ·rw [List.singleton_append,List.pairwise_cons]
    exact ⟨hbehind,List.Pairwise.sublist (List.drop_sublist _ _) hs⟩
   ·have hxa:Zb0 x { Score:=a.X,Name:=a.S }=true:=Zva (f:=Zcb { Score:=a.X,Name:=a.S } false) x hx
    rcases List.mem_append.1 hy with hy | hy
    ·rw [List.mem_singleton.1 hy];exact hxa
    ·exact Zjj hxa (hbehind y hy)
theorem Zgx {k on:Int} {c:Int} (h:Zd5 k=some on) (e:Zd5 k=some c):on=c:=Option.some.inj (h.symm.trans e)
theorem Z1q (h5:5 ≤ a.Kind) (h21:a.Kind ≤ 21) (hon:Zd5 a.Kind=some r.Kind) (hr:RecW r) (hg:Zbv r) (ha:ActW a) (h1:Z6 a.Kind r a default=some (0,r',o)):Zbv r':=by
 have real:∀ {m:Nat},m=r.Real ∨ m=a.X → m=Zbh m:=fun {m} h=>by
  rcases h with rfl | rfl
  ·exact Zk6 hg
  ·exact ha.xc
 have hk':a.Kind=5 ∨ a.Kind=6 ∨ a.Kind=7 ∨ a.Kind=8 ∨ a.Kind=9 ∨ a.Kind=10 ∨ a.Kind=11 ∨ a.Kind=12 ∨ a.Kind=13 ∨ a.Kind=14 ∨ a.Kind=15 ∨ a.Kind=16 ∨ a.Kind=17 ∨ a.Kind=18 ∨ a.Kind=19 ∨ a.Kind=20 ∨ a.Kind=21:=by omega
 rcases hk' with h | h | h | h | h | h | h | h | h | h | h | h | h | h | h | h | h
 ·have e:Z6 a.Kind r a default=Zh2 r a default:=by rw [h];rfl
  rw [e] at h1
  simp only [Zh2,Option.some.injEq,Prod.mk.injEq,true_and] at h1
  rw [← h1.1]
  exact Zoj hg (Zgx hon (by rw [h];kernel_rfl)) ha.s64
 ·have e:Z6 a.Kind r a default=Zfp r a default:=by rw [h];rfl
  rw [e] at h1
  simp only [Zfp,Zf2 hr.len,Option.bind_some,Option.some.injEq,Prod.mk.injEq,true_and] at h1
  rw [← h1.1]
  exact Zoj hg (Zgx hon (by rw [h];kernel_rfl)) ha.s64
 ·have e:Z6 a.Kind r a default=Zh9 r a default:=by rw [h];rfl
  rw [e] at h1
  simp only [Zh9,Option.some.injEq,Prod.mk.injEq,true_and] at h1
  rw [← h1.1]
  have hk:r.Kind=2:=Zgx hon (by rw [h];kernel_rfl)
  exact Zno hg (by omega) (fun h=>by omega)
 ·have e:Z6 a.Kind r a default=Zjg r a default:=by rw [h];rfl
  rw [e] at h1
  unfold Zjg at h1
  split at h1
  ·cases h1
  ·simp only [Option.some.injEq,Prod.mk.injEq,true_and] at h1
   rw [← h1.1]
   have hk:r.Kind=3:=Zgx hon (by rw [h];kernel_rfl)
   exact Zno hg (by omega) (fun h=>by omega)
 ·have e:Z6 a.Kind r a default=Zeo r a default:=by rw [h];rfl
  rw [e] at h1
  unfold Zeo at h1
  split at h1
  ·cases h1
  ·simp only [Option.some.injEq,Prod.mk.injEq,true_and] at h1
   rw [← h1.1];exact hg
 ·have e:Z6 a.Kind r a default=Zfl r a default:=by rw [h];rfl
  have hk:r.Kind=4:=Zgx hon (by rw [h];kernel_rfl)
  obtain ⟨p1,p2,p3,p4⟩:=Zmk hg hk
  obtain ⟨q1,q2⟩:=ha.inout (.inl h)
  rw [e] at h1
  unfold Zfl at h1
  rw [wr (x:=r.High - r.Num) (by omega) (by omega),wr (x:=r.Num + a.N) (by omega) (by omega)] at h1
  split at h1
  ·cases h1
  ·rename_i hcond
   have hcond':¬ (r.High - r.Num < a.N):=by simpa using hcond
   simp only [Option.some.injEq,Prod.mk.injEq,true_and] at h1
   rw [← h1.1]
   exact Zno hg (by omega) (fun _=>by omega)
 ·have e:Z6 a.Kind r a default=Zft r a default:=by rw [h];rfl
  have hk:r.Kind=4:=Zgx hon (by rw [h];kernel_rfl)
  obtain ⟨p1,p2,p3,p4⟩:=Zmk hg hk
  obtain ⟨q1,q2⟩:=ha.inout (.inr h)
  rw [e] at h1
  unfold Zft at h1
  rw [wr (x:=r.Num - r.Low) (by omega) (by omega),wr (x:=r.Num - a.N) (by omega) (by omega)] at h1
  split at h1
  ·cases h1
  ·rename_i hcond
   have hcond':¬ (r.Num - r.Low < a.N):=by simpa using hcond
   simp only [Option.some.injEq,Prod.mk.injEq,true_and] at h1
   rw [← h1.1]
   exact Zno hg (by omega) (fun _=>by omega)
 ·have e:Z6 a.Kind r a default=Zeo r a default:=by rw [h];rfl
  rw [e] at h1
  unfold Zeo at h1
  split at h1
  ·cases h1
  ·simp only [Option.some.injEq,Prod.mk.injEq,true_and] at h1
   rw [← h1.1];exact hg
 ·have hk:r.Kind=5:=Zgx hon (by rw [h];kernel_rfl)
  refine Zk4 (ψ:=fun x y=>Zge x y) hg (by omega) (fun m hm=>?_) (by rw [h];rfl) h1
  obtain ⟨m',e1,_,e2⟩:=Zvl hr.ok.real ha.ok.2 (Zk6 hg) ha.xc
  have:m=m':=Option.some.inj (hm.symm.trans e1)
  exact real (this ▸ e2)
 ·have hk:r.Kind=6:=Zgx hon (by rw [h];kernel_rfl)
  refine Zk4 (ψ:=fun x y=>Zgh x y) hg (by omega) (fun m hm=>?_) (by rw [h];rfl) h1
  obtain ⟨m',e1,_,e2⟩:=Zup hr.ok.real ha.ok.2 (Zk6 hg) ha.xc
  have:m=m':=Option.some.inj (hm.symm.trans e1)
  exact real (this ▸ e2)
 ·have hk:r.Kind=7:=Zgx hon (by rw [h];kernel_rfl)
  refine Zk4 (ψ:=fun x y=>Zgy x y) hg (by omega) (fun m hm=>?_) (by rw [h];rfl) h1
  have hz:=Zw1 r.Real a.X
  have:Zgy r.Real a.X=some (Zbh (fadd r.Real a.X)):=by unfold Zgy;rw [Zef hz];rfl
  have:m=Zbh (fadd r.Real a.X):=Option.some.inj (hm.symm.trans this)
  rw [this,Zqm]
 ·have hk:r.Kind=7:=Zgx hon (by rw [h];kernel_rfl)
  refine Zk4 (ψ:=fun x y=>Zfx x y) hg (by omega) (fun m hm=>?_) (by rw [h];rfl) h1
  have hz:=Zw2 r.Real a.X
  have:Zfx r.Real a.X=some (Zbh (fmul r.Real a.X)):=by unfold Zfx;rw [Zef hz];rfl
  have:m=Zbh (fmul r.Real a.X):=Option.some.inj (hm.symm.trans this)
  rw [this,Zqm]
 ·have hk:r.Kind=7:=Zgx hon (by rw [h];kernel_rfl)
  refine Zk4 (ψ:=fun x y=>Zfq x y) hg (by omega) (fun m hm=>?_) (by rw [h];rfl) h1
  exact real (.inr (Option.some.inj hm).symm)
 ·exact Zzb h hr hg (Zgx hon (by rw [h];kernel_rfl)) ha h1
 ·exact Zyj h hr hg (Zgx hon (by rw [h];kernel_rfl)) h1
 ·have hk:r.Kind=8:=Zgx hon (by rw [h];kernel_rfl)
  have e:Z6 a.Kind r a default=Zfm r a default:=by rw [h];rfl
  have hl:=hr.len
  rw [e] at h1
  unfold Zfm at h1
  rw [Zmy (Zig hg hk) (by omega)] at h1
  simp only [Option.bind_some] at h1
  split at h1
  ·cases h1
  ·simp only [Option.some.injEq,Prod.mk.injEq,true_and] at h1
   rw [← h1.1];exact hg
 ·exact Zyi h hr hg (Zgx hon (by rw [h];kernel_rfl)) ha h1
theorem Z08 {r:Za} {a:Zg} (hr:RecW r) (hg:Zbv r) (ha:ActIn a):∃ c,Zeg a=some c ∧ (c ≠ 0 → Zc3 r true a=some (r,true,ans c)) ∧
  (c=0 → 1 ≤ a.Kind ∧ a.Kind ≤ 21 ∧ ActW a ∧ ∃ on,Zd5 a.Kind=some on ∧ (a.Kind=1 → Zc3 r true a=some (r,true,ans 7)) ∧ (a.Kind=2 → Zc3 r true a=some (zrc,false,ans 0)) ∧
   (a.Kind=3 → Zc3 r true a=some (r,true,{ ans 0 with Num:=r.Kind })) ∧ (a.Kind=4 → Zc3 r true a=some (r,true,{ ans 0 with Rec:=r })) ∧ (5 ≤ a.Kind → on ≠ r.Kind → Zc3 r true a=some (r,true,ans 5)) ∧
   (5 ≤ a.Kind → on=r.Kind → ∃ c r' o,Z6 a.Kind r a default=some (c,r',o) ∧ RecW r' ∧ RecW o.Rec ∧ (c=0 → o.Code=0 ∧ o.Num=0) ∧ Zc3 r true a=some (if c=0 then (r',true,o) else (r,true,ans c)))):=by
 obtain ⟨c,h1,_,h3⟩:=Zk2 ha.ok
 have z1:((0:Int) != 0)=false:=rfl
 refine ⟨c,h1,fun hc=>?_,fun hc=>?_⟩
 ·show Zd9 true a r=_
  unfold Zd9
  rw [Zf2 hr.len,h1]
  simp only [Option.bind_some]
  rw [if_pos (by simpa using hc)]
  rfl
 ·subst hc
  have hf:=h3 rfl
  have hw:=ha.w (c:=0) hf
  obtain ⟨on,o1,_⟩:=Zkx hf.1 hf.2.1
  have e1:Zc3 r true a=Zff true a r:=by
   show Zd9 true a r=_
   unfold Zd9
   rw [Zf2 hr.len,h1]
   simp only [Option.bind_some,z1,Bool.false_eq_true,if_false,if_true]
   rw [(Ze1 hr.ok).2 hg]
   simp only [Option.bind_some,z1,Bool.false_eq_true,if_false]
  refine ⟨hf.1,hf.2.1,hw,on,o1,?_⟩
  rw [e1]
  unfold Zff Ze7
  rw [o1,Zf2 hr.len,Zf2 ha.mkr.len]
  simp only [Option.bind_some]
  refine ⟨fun k=>by rw [k];rfl,fun k=>by rw [k];rfl,fun k=>by rw [k];rfl,fun k=>by rw [k];rfl,fun k hn=>?_,fun k hn=>?_⟩
  all_goals
   have b1:(a.Kind == 1)=false:=by simp;omega
   have b2:(a.Kind == 2)=false:=by simp;omega
   have b3:(a.Kind == 3)=false:=by simp;omega
   have b4:(a.Kind == 4)=false:=by simp;omega
   simp only [b1,b2,b3,b4,Bool.false_and,Bool.false_eq_true,if_false,Bool.not_true]
  ·rw [if_pos (by simpa using hn)]
  ·rw [if_neg (by simpa using hn),if_pos ⟨k,hf.2.1⟩]
   obtain ⟨c,r',o,e1,_,w1,w2,w3⟩:=Zsd k hf.2.1 hr hg (by rw [← hn];exact o1) hw
   rw [e1]
   refine ⟨c,r',o,rfl,w1,w2,w3,?_⟩
   simp only [Option.bind_some]
   by_cases hc:c=0
   ·subst hc;rfl
   ·rw [if_pos (by simpa using hc),if_neg hc]
def eff (r:Za) (a:Zg):Za :=
 if a.Kind=7 ∨ a.Kind=8 ∨ a.Kind=10 then { r with Num:=IntKind.i64.wrap (r.Num + a.N) }
 else if a.Kind=11 then { r with Num:=IntKind.i64.wrap (r.Num - a.N) }
 else if a.Kind=13 then { r with Real:=if keyf r.Real < keyf a.X then a.X else r.Real }
 else if a.Kind=14 then { r with Real:=if keyf a.X < keyf r.Real then a.X else r.Real }
 else if a.Kind=18 then { r with List:=layL { Score:=0,Name:=a.S } true r.List }
 else if a.Kind=19 then { r with List:=r.List.filter fun e=>!sEq e.Name a.S }
 else if a.Kind=21 then { r with List:=(layL { Score:=a.X,Name:=a.S } false r.List).take r.Cap.toNat }
 else r
def Zj0 (k:Int):Prop:=k=7 ∨ k=8 ∨ k=10 ∨ k=11 ∨ k=13 ∨ k=14 ∨ k=18 ∨ k=19 ∨ k=21
structure Fits (r:Za) (a:Zg):Prop where
 plus:a.Kind=8 → -9223372036854775808 ≤ r.Num + a.N ∧ r.Num + a.N ≤ 9223372036854775807
 inn:a.Kind=10 → r.Num + a.N ≤ r.High
 out:a.Kind=11 → r.Low ≤ r.Num - a.N
 join:a.Kind=18 → isAt a.S r.List=true ∨ (r.List.length:Int) < r.Cap
theorem Zks (r:Za) (a:Zg):(eff r a).Kind=r.Kind ∧ (eff r a).Cap=r.Cap ∧ (eff r a).Low=r.Low ∧ (eff r a).High=r.High ∧ (eff r a).Text=r.Text:=by
 unfold eff
 repeat' split
 all_goals exact ⟨rfl,rfl,rfl,rfl,rfl⟩
theorem Z4u {a b:Nat} (ha:a < W64) (hb:b < W64):Zhn a b=some (if keyf a < keyf b then b else a):=by
 unfold Zhn
 rw [Zj4 ha hb]
 by_cases h:keyf a < keyf b <;> simp [h]
theorem Z4s {a b:Nat} (ha:a < W64) (hb:b < W64):Zhp a b=some (if keyf b < keyf a then b else a):=by
 unfold Zhp
 rw [Zj4 hb ha]
 by_cases h:keyf b < keyf a <;> simp [h]
theorem Z6e {r:Za} {a:Zg} (hr:RecW r) (hg:Zbv r) (ha:ActW a) (hk:Zj0 a.Kind) (hon:Zd5 a.Kind=some r.Kind) (hf:Fits r a):Z3 r a=some (eff r a,ans 0):=by
 have hlen:=hr.len
 obtain ⟨on,o1,_,_,_,k10,k18,k21,_⟩:=Zkx (k:=a.Kind) (by unfold Zj0 at hk;omega) (by unfold Zj0 at hk;omega)
 rw [hon] at o1
 obtain rfl:=Option.some.inj o1
 rcases hk with h | h | h | h | h | h | h | h | h
 ·unfold Z3 eff;rw [h];rfl
 ·have e2:Z3 r a=(Zg0 r.Num a.N).bind fun r7=>(if r7 then (Zk r (ans 9)) else (Zk { r with Num:=IntKind.i64.wrap (r.Num + a.N) } (ans 0))):=by unfold Z3;rw [h];rfl
  obtain ⟨f1,f2⟩:=hf.plus h
  have hn:=ha.n
  have hrn:=hr.num
  unfold I64 at hn hrn
  have ho:((((decide ((0:Int) < r.Num)) && (decide ((0:Int) < a.N))) && (decide ((IntKind.i64.wrap (r.Num + a.N)) < (0:Int)))) || (((decide (r.Num < (0:Int))) && (decide (a.N < (0:Int)))) && (decide ((0:Int) ≤ (IntKind.i64.wrap (r.Num + a.N))))))=false:=by
   rw [wr f1 f2,Bool.eq_false_iff]
   simp only [ne_eq,Bool.or_eq_true,Bool.and_eq_true,decide_eq_true_eq]
   omega
  rw [e2]
  unfold Zg0
  rw [ho]
  unfold eff Zk
  rw [h];rfl
 ·have e2:Z3 r a=(if (decide (r.High < IntKind.i64.wrap (r.Num + a.N))) then (Zk r (ans 9)) else (Zk { r with Num:=IntKind.i64.wrap (r.Num + a.N) } (ans 0))):=by unfold Z3 Zbm;rw [h];rfl
  obtain ⟨p1,p2,p3,p4⟩:=Zmk hg (k10 (.inl h))
  obtain ⟨n1,n2⟩:=ha.inout (.inl h)
  have f:=hf.inn h
  rw [e2,if_neg (by rw [wr (by omega) (by omega)];simp;omega)]
  unfold eff Zk
  rw [h];rfl
 ·have e2:Z3 r a=(if (decide (IntKind.i64.wrap (r.Num - a.N) < r.Low)) then (Zk r (ans 10)) else (Zk { r with Num:=IntKind.i64.wrap (r.Num - a.N) } (ans 0))):=by unfold Z3 Zbm;rw [h];rfl
  obtain ⟨p1,p2,p3,p4⟩:=Zmk hg (k10 (.inr h))
  obtain ⟨n1,n2⟩:=ha.inout (.inr h)
  have f:=hf.out h
  rw [e2,if_neg (by rw [wr (by omega) (by omega)];simp;omega)]
  unfold eff Zk
  rw [h];rfl
 ·unfold Z3 Zbm eff;rw [h,Z4u hr.ok.real ha.ok.2];rfl
 ·unfold Z3 Zbm eff;rw [h,Z4s hr.ok.real ha.ok.2];rfl
 ·have e2:Z3 r a=(Ze0 r.List a.S).bind fun r40=>(if ((!r40) && (decide (r.Cap ≤ (r.List.length:Int)))) then (Zk r (ans 8)) else ((Zd7 r.List ({ Score:=(0:Nat),Name:=a.S }:Zd) true).bind fun r43=>(Zk ({ r with List:=r43 }) (ans 0)))):=by unfold Z3 Zbm;rw [h];rfl
  have hs:=Zig hg (k18 (.inl h))
  have hff:((!isAt a.S r.List) && (decide (r.Cap ≤ (r.List.length:Int))))=false:=by
   rcases hf.join h with f | f
   ·rw [f];rfl
   ·rw [show decide (r.Cap ≤ (r.List.length:Int))=false by simp;omega,Bool.and_false]
  rw [e2,Zvv (by omega),Zj1 hs,Zpk (show (0:Nat) < W64 by decide) hr.ok.sc (by omega)]
  simp only [Option.bind_some]
  rw [hff]
  unfold eff Zk
  rw [h];rfl
 ·have e2:Z3 r a=(Zdi r a (Int.toNat ((r.List.length:Int) - (0:Int)) + 1) ([]:List Zd) (0:Int)).bind fun z57=>match z57 with | y56=>(Zk ({ r with List:=y56 }) (ans 0)):=by unfold Z3 Zbm;rw [h];rfl
  have hq:=Zlb (a:=a) (a0:=r) (by omega) r.List.length 0 [] (by omega) (by simp)
  rw [show ((0:Nat):Int)=0 from rfl] at hq
  rw [e2,show (Int.toNat ((r.List.length:Int) - (0:Int)) + 1)=r.List.length + 1 by omega,hq,List.drop_zero,List.nil_append]
  unfold eff Zk
  rw [h];rfl
 ·have e2:Z3 r a=(Zd7 r.List ({ Score:=a.X,Name:=a.S }:Zd) false).bind fun r63=>(if (decide (r.Cap < (r63.length:Int))) then ((cut r63 (0:Int) r.Cap).bind fun c66=>(Zc7 r c66)) else (Zc7 r r63)):=by unfold Z3 Zbm;rw [h];rfl
  obtain ⟨c1,c2,c3⟩:=Zkb hg (by omega)
  rw [e2,Zpk ha.ok.2 hr.ok.sc (by omega)]
  simp only [Option.bind_some]
  have he:eff r a={ r with List:=(layL { Score:=a.X,Name:=a.S } false r.List).take r.Cap.toNat }:=by unfold eff;rw [h];rfl
  rw [he]
  by_cases hc:r.Cap < ((layL { Score:=a.X,Name:=a.S } false r.List).length:Int)
  ·rw [if_pos (by simpa using hc)]
   unfold cut
   rw [if_pos (by omega)]
   simp only [Option.bind_some,Zc7,Zk,Int.toNat_zero,List.drop_zero,Nat.sub_zero]
  ·rw [if_neg (by simpa using hc),List.take_of_length_le (by omega)]
   rfl
theorem Zyd {r:Za} {a:Zg} (hr:RecW r) (hg:Zbv r) (ha:ActW a) (hk:Zj0 a.Kind) (hon:Zd5 a.Kind=some r.Kind) (hf:Fits r a):Z6 a.Kind r a default=some (0,eff r a,ans 0) ∧ RecW (eff r a) ∧ Zbv (eff r a):=by
 obtain ⟨c,r',o,e1,e2,w1,_⟩:=Zsd (by unfold Zj0 at hk;omega) (by unfold Zj0 at hk;omega) hr hg hon ha
 rw [Z6e hr hg ha hk hon hf] at e2
 by_cases hc:c=0
 ·subst hc
  rw [if_pos rfl] at e2
  simp only [Option.some.injEq,Prod.mk.injEq] at e2
  obtain ⟨rfl,rfl⟩:=e2
  exact ⟨e1,w1,Z1q (by unfold Zj0 at hk;omega) (by unfold Zj0 at hk;omega) hon hr hg ha e1⟩
 ·rw [if_neg hc] at e2
  simp only [Option.some.injEq,Prod.mk.injEq,Zi.mk.injEq] at e2
  exact absurd e2.2.1.symm hc
theorem Zzz {r:Za} {a:Zg} (hr:RecW r) (hg:Zbv r) (ha:ActIn a) (h0:Zeg a=some 0) (hk:Zj0 a.Kind) (hon:Zd5 a.Kind=some r.Kind) (hf:Fits r a):Zc3 r true a=some (eff r a,true,ans 0) ∧ RecW (eff r a) ∧ Zbv (eff r a):=by
 have h5:5 ≤ a.Kind:=by unfold Zj0 at hk;omega
 obtain ⟨c,h1,_,h3⟩:=Z08 hr hg ha
 rw [h0] at h1
 obtain rfl:=Option.some.inj h1
 obtain ⟨_,_,hw,on,o1,_,_,_,_,_,h4⟩:=h3 rfl
 rw [hon] at o1
 obtain ⟨c,r',o,e1,_,_,_,e2⟩:=h4 h5 (Option.some.inj o1).symm
 obtain ⟨e3,w,g⟩:=Zyd hr hg hw hk hon hf
 rw [e3] at e1
 simp only [Option.some.injEq,Prod.mk.injEq] at e1
 obtain ⟨rfl,rfl,rfl⟩:=e1
 exact ⟨by rw [e2];rfl,w,g⟩
def ins (lt same:Zd → Zd → Bool) (x:Zd):Zbf → Zbf
 | []=>[x]
 | e :: r=>if lt e x then e :: ins lt same x r else if same e x then e :: r else x :: e :: r
theorem Zd1 (x:Zd) (nm:Bool):∀ l:Zbf,layL x nm l=ins (fun e x=>Zcb x nm e) (fun e x=>Zei x nm e) x l
 | []=>rfl
 | e :: r=>by
  have ih:=Zd1 x nm r
  unfold layL at ih ⊢
  simp only [pre,ins]
  by_cases h:Zcb x nm e=true
  ·simp only [h,if_true,List.getElem?_cons_succ,List.take_succ_cons,List.drop_succ_cons]
   rw [← ih]
   cases r[pre (Zcb x nm) r]? <;> rfl
  ·simp only [h,if_false,List.getElem?_cons_zero,List.take_zero,List.drop_zero,List.nil_append,Bool.false_eq_true]
   by_cases hs:Zei x nm e=true
   ·simp [hs]
   ·simp [hs]
structure Ord (lt same:Zd → Zd → Bool):Prop where
 trans:∀ {a b c},lt a b=true → lt b c=true → lt a c=true
 asym:∀ {a b},lt a b=true → lt b a=false
 ns:∀ {a b},lt a b=true → same a b=false ∧ same b a=false
 tri:∀ {a b},lt a b=false → lt b a=false → same a b=true
 cong:∀ {a b c},same a b=true → lt b c=true → lt a c=true
theorem Zuj {lt same:Zd → Zd → Bool} (h:Ord lt same) {x y:Zd} (hxy:lt x y=true):∀ l:Zbf,ins lt same x (ins lt same y l)=ins lt same y (ins lt same x l)
 | []=>by simp [ins,hxy,h.asym hxy,(h.ns hxy).2]
 | e :: r=>by
  have ih:=Zuj h hxy r
  by_cases h1:lt e x=true
  ·have h2:=h.trans h1 hxy
   simp only [ins,h1,h2,if_true,ih]
  ·have h1':lt e x=false:=by simpa using h1
   by_cases h2:same e x=true
   ·have h3:=h.cong h2 hxy
    simp only [ins,h1',h2,h3,if_true,Bool.false_eq_true,if_false]
   ·have h2':same e x=false:=by simpa using h2
    have h3:lt x e=true:=by
     cases hq:lt x e
     ·exact absurd (h.tri h1' hq) h2
     ·rfl
    have hl:ins lt same x (e :: r)=x :: e :: r:=by simp [ins,h1',h2']
    have hd:∀ z s,lt x z=true → ins lt same x (z :: s)=x :: z :: s:=fun z s hz=>by simp [ins,h.asym hz,(h.ns hz).2]
    rw [hl]
    have hr:ins lt same y (x :: e :: r)=x :: ins lt same y (e :: r):=by simp [ins,hxy]
    rw [hr]
    by_cases h4:lt e y=true
    ·have:ins lt same y (e :: r)=e :: ins lt same y r:=by simp [ins,h4]
     rw [this,hd _ _ h3]
    ·have h4':lt e y=false:=by simpa using h4
     by_cases h5:same e y=true
     ·have:ins lt same y (e :: r)=e :: r:=by simp [ins,h4',h5]
      rw [this,hd _ _ h3]
     ·have:ins lt same y (e :: r)=y :: e :: r:=by simp [ins,h4',h5]
      rw [this,hd _ _ hxy]
theorem Zqy {lt same:Zd → Zd → Bool} (h:Ord lt same) {x y:Zd} (he:same x y=true → x=y) (l:Zbf):ins lt same x (ins lt same y l)=ins lt same y (ins lt same x l):=by
 by_cases h1:lt x y=true
 ·exact Zuj h h1 l
 ·by_cases h2:lt y x=true
  ·exact (Zuj h h2 l).symm
  ·rw [he (h.tri (by simpa using h1) (by simpa using h2))]
theorem Zn9 {lt same:Zd → Zd → Bool} (y:Zd):∀ (n:Nat) (l:Zbf),(ins lt same y (l.take n)).take n=(ins lt same y l).take n
 | 0,_=>by simp
 | n + 1,[]=>by simp
 | n + 1,e :: r=>by
  simp only [List.take_succ_cons,ins]
  split
  ·simp only [List.take_succ_cons,Zn9 y n r]
  ·split
   ·simp [List.take_take]
   ·cases n with
    | zero=>simp
    | succ m=>simp [List.take_take]
theorem Zv9 (a:Zd):Zb0 a a=false:=by unfold Zb0;rw [if_pos rfl,Zlp]
theorem Zmr:Ord (fun e x=>Zcb x true e) (fun e x=>Zei x true e) where
 trans h k:=Zi6 h k
 asym h:=Z1b h
 ns {a b} h:=by
  have h:sLt a.Name b.Name=true:=h
  simp [Zei,Zjt.2 (Zpe h),Zjt.2 (fun e=>Zpe h e.symm)]
 tri {a b} h k:=by
  have h:sLt a.Name b.Name=false:=h
  have k:sLt b.Name a.Name=false:=k
  have:a.Name=b.Name:=Classical.byContradiction fun hn=>by rw [Zsm h hn] at k;cases k
  simp [Zei,this,Zlz]
 cong {a b c} h k:=by
  have h:(sEq a.Name b.Name && (true || decide (keyf a.Score=keyf b.Score)))=true:=h
  have h:sEq a.Name b.Name=true:=by simpa using h
  have k:sLt b.Name c.Name=true:=k
  show sLt a.Name c.Name=true
  rw [Zg9.1 h];exact k
theorem Zl8 {a b:Zd}:Zei b false a=true ↔ a.Name=b.Name ∧ keyf a.Score=keyf b.Score:=by
 unfold Zei
 rw [Bool.and_eq_true,Zg9]
 simp
theorem Zn7:Ord (fun e x=>Zcb x false e) (fun e x=>Zei x false e) where
 trans h k:=Zjj h k
 asym {a b} h:=by
  have h:Zb0 a b=true:=h
  show Zb0 b a=false
  cases hq:Zb0 b a
  ·rfl
  ·have:=Zjj h hq
   rw [Zv9] at this;cases this
 ns {a b} h:=by
  have h:Zb0 a b=true:=h
  constructor
  ·show Zei b false a=false
   rw [Bool.eq_false_iff]
   intro hs
   obtain ⟨h1,h2⟩:=Zl8.1 hs
   unfold Zb0 at h
   rw [if_pos h2,h1,Zlp] at h;cases h
  ·show Zei a false b=false
   rw [Bool.eq_false_iff]
   intro hs
   obtain ⟨h1,h2⟩:=Zl8.1 hs
   unfold Zb0 at h
   rw [if_pos h2.symm,h1,Zlp] at h;cases h
 tri {a b} h k:=by
  have h:Zb0 a b=false:=h
  have k:Zb0 b a=false:=k
  show Zei b false a=true
  rw [← Zqk h,k];rfl
 cong {a b c} h k:=by
  obtain ⟨h1,h2⟩:=Zl8.1 h
  have k:Zb0 b c=true:=k
  show Zb0 a c=true
  unfold Zb0 at k ⊢
  rw [h1,h2];exact k
theorem Zod {a b:Nat} (ha:a < W64) (hb:b < W64) (ca:a=Zbh a) (cb:b=Zbh b) (h:keyf a=keyf b):a=b:=by
 have hW:W64=18446744073709551616:=rfl
 have hT:TOP=9223372036854775808:=rfl
 have hI:INF=9218868437227405312:=rfl
 have hn:∀ z,z < W64 → z=Zbh z → isn z → z=NANB:=fun z _ hz h=>by rw [hz];unfold Zbh;rw [if_pos h]
 have key:∀ z,z < W64 → ¬ isn z → keyf z ≠ 18444492273895866369:=fun z hz hzn=>by
  have h2:¬ INF < z % TOP:=hzn
  rw [hT] at h2
  unfold keyf
  rw [if_neg hzn]
  split <;> omega
 by_cases na:isn a
 ·by_cases nb:isn b
  ·rw [hn a ha ca na,hn b hb cb nb]
  ·exact absurd (by rw [← h];unfold keyf;rw [if_pos na]) (key b hb nb)
 ·by_cases nb:isn b
  ·exact absurd (by rw [h];unfold keyf;rw [if_pos nb]) (key a ha na)
  ·unfold keyf at h
   rw [if_neg na,if_neg nb] at h
   split at h <;> split at h <;> omega
theorem Zsb (s t:ByteArray) (l:Zbf):layL { Score:=0,Name:=s } true (layL { Score:=0,Name:=t } true l)=layL { Score:=0,Name:=t } true (layL { Score:=0,Name:=s } true l):=by
 rw [Zd1,Zd1,Zd1,Zd1]
 refine Zqy Zmr (fun h=>?_) l
 have h:(sEq s t && (true || decide (keyf 0=keyf 0)))=true:=h
 have h:sEq s t=true:=by simpa using h
 rw [Zg9.1 h]
theorem Zof {x y:Zd} (hx:x.Score < W64) (hy:y.Score < W64) (cx:x.Score=Zbh x.Score) (cy:y.Score=Zbh y.Score) (n:Nat) (l:Zbf):(layL x false ((layL y false l).take n)).take n=(layL y false ((layL x false l).take n)).take n:=by
 rw [Zd1,Zd1,Zd1,Zd1,Zn9,Zn9]
 rw [Zqy Zn7 (x:=x) (y:=y) (fun h=>?_) l]
 obtain ⟨h1,h2⟩:=Zl8.1 h
 have h3:=Zod hx hy cx cy h2
 obtain ⟨x1,x2⟩:=x
 obtain ⟨y1,y2⟩:=y
 have h1:x2=y2:=h1
 have h3:x1=y1:=h3
 rw [h1,h3]
theorem Zh7 {r:Za} {a:Zg} (h:a.Kind=7 ∨ a.Kind=8 ∨ a.Kind=10):eff r a={ r with Num:=IntKind.i64.wrap (r.Num + a.N) }:=if_pos h
theorem Zse {r:Za} {a:Zg} (h:a.Kind=11):eff r a={ r with Num:=IntKind.i64.wrap (r.Num - a.N) }:=by unfold eff;rw [h];rfl
theorem Zm5 {r:Za} {a:Zg} (h:a.Kind=13):eff r a={ r with Real:=if keyf r.Real < keyf a.X then a.X else r.Real }:=by unfold eff;rw [h];rfl
theorem Zm6 {r:Za} {a:Zg} (h:a.Kind=14):eff r a={ r with Real:=if keyf a.X < keyf r.Real then a.X else r.Real }:=by unfold eff;rw [h];rfl
theorem Zhu {r:Za} {a:Zg} (h:a.Kind=18):eff r a={ r with List:=layL { Score:=0,Name:=a.S } true r.List }:=by unfold eff;rw [h];rfl
theorem Zmn {r:Za} {a:Zg} (h:a.Kind=19):eff r a={ r with List:=r.List.filter fun e=>!sEq e.Name a.S }:=by unfold eff;rw [h];rfl
theorem Zjf {r:Za} {a:Zg} (h:a.Kind=21):eff r a={ r with List:=(layL { Score:=a.X,Name:=a.S } false r.List).take r.Cap.toNat }:=by unfold eff;rw [h];rfl
def fmx (x y:Nat):Nat:=if keyf x < keyf y then y else x
def fmn (x y:Nat):Nat:=if keyf y < keyf x then y else x
theorem Zqz {x y:Nat} (hx:x < W64) (hy:y < W64) (cx:x=Zbh x) (cy:y=Zbh y) (z:Nat):fmx (fmx z x) y=fmx (fmx z y) x:=by
 have e:=Zod hx hy cx cy
 unfold fmx
 by_cases c1:keyf z < keyf x <;> by_cases c2:keyf z < keyf y <;> simp only [c1,c2,if_true,if_false]
 ·by_cases c3:keyf x < keyf y
  ·rw [if_pos c3,if_neg (by omega)]
  ·rw [if_neg c3]
   by_cases c4:keyf y < keyf x
   ·rw [if_pos c4]
   ·rw [if_neg c4];exact e (by omega)
 ·rw [if_neg (by omega)]
 ·rw [if_neg (by omega)]
theorem Zqs {x y:Nat} (hx:x < W64) (hy:y < W64) (cx:x=Zbh x) (cy:y=Zbh y) (z:Nat):fmn (fmn z x) y=fmn (fmn z y) x:=by
 have e:=Zod hx hy cx cy
 unfold fmn
 by_cases c1:keyf x < keyf z <;> by_cases c2:keyf y < keyf z <;> simp only [c1,c2,if_true,if_false]
 ·by_cases c3:keyf y < keyf x
  ·rw [if_pos c3,if_neg (by omega)]
  ·rw [if_neg c3]
   by_cases c4:keyf x < keyf y
   ·rw [if_pos c4]
   ·rw [if_neg c4];exact e (by omega)
 ·rw [if_neg (by omega)]
 ·rw [if_neg (by omega)]
theorem Z05 {r:Za} {a b:Zg} (ha:ActW a) (hb:ActW b) (hk:a.Kind=7 ∨ a.Kind=13 ∨ a.Kind=14 ∨ a.Kind=18 ∨ a.Kind=19 ∨ a.Kind=21) (he:b.Kind=a.Kind):eff (eff r a) b=eff (eff r b) a:=by
 rcases hk with h | h | h | h | h | h <;> rw [h] at he
 ·rw [Zh7 (.inl h),Zh7 (.inl he),Zh7 (.inl h),Zh7 (.inl he)]
  have:IntKind.i64.wrap (IntKind.i64.wrap (r.Num + a.N) + b.N)=IntKind.i64.wrap (IntKind.i64.wrap (r.Num + b.N) + a.N):=by
   simp only [IntKind.wrap_i64];omega
  simp only [this]
 ·rw [Zm5 h,Zm5 he,Zm5 h,Zm5 he]
  exact congrArg (fun z=>({ r with Real:=z }:Za)) (Zqz ha.ok.2 hb.ok.2 ha.xc hb.xc r.Real)
 ·rw [Zm6 h,Zm6 he,Zm6 h,Zm6 he]
  exact congrArg (fun z=>({ r with Real:=z }:Za)) (Zqs ha.ok.2 hb.ok.2 ha.xc hb.xc r.Real)
 ·rw [Zhu h,Zhu he,Zhu h,Zhu he]
  exact congrArg (fun z=>({ r with List:=z }:Za)) (Zsb b.S a.S r.List)
 ·rw [Zmn h,Zmn he,Zmn h,Zmn he]
  refine congrArg (fun z=>({ r with List:=z }:Za)) ?_
  show List.filter _ (List.filter _ _)=List.filter _ (List.filter _ _)
  rw [List.filter_filter,List.filter_filter]
  congr 1
  funext e
  exact Bool.and_comm _ _
 ·rw [Zjf h,Zjf he,Zjf h,Zjf he]
  exact congrArg (fun z=>({ r with List:=z }:Za)) (Zof (x:={ Score:=b.X,Name:=b.S }) (y:={ Score:=a.X,Name:=a.S }) hb.ok.2 ha.ok.2 hb.xc ha.xc r.Cap.toNat r.List)
structure ActD (k:Int) (a:Zg):Prop where
 in_:ActIn a
 chk:Zeg a=some 0
 kind:a.Kind=7 ∨ a.Kind=8 ∨ a.Kind=10 ∨ a.Kind=11 ∨ a.Kind=13 ∨ a.Kind=14 ∨ a.Kind=18 ∨ a.Kind=21
 on:Zd5 a.Kind=some k
theorem ActD.w {k:Int} {a:Zg} (h:ActD k a):ActW a:=by
 obtain ⟨c,h1,_,h3⟩:=Zk2 h.in_.ok
 rw [h.chk] at h1
 obtain rfl:=Option.some.inj h1
 exact h.in_.w (c:=0) (h3 rfl)
theorem on7:Zd5 7=some 2:=by kernel_rfl
theorem on8:Zd5 8=some 3:=by kernel_rfl
theorem on10:Zd5 10=some 4:=by kernel_rfl
theorem on11:Zd5 11=some 4:=by kernel_rfl
theorem on13:Zd5 13=some 5:=by kernel_rfl
theorem on14:Zd5 14=some 6:=by kernel_rfl
theorem on18:Zd5 18=some 8:=by kernel_rfl
theorem on21:Zd5 21=some 9:=by kernel_rfl
theorem ActD.cases {k:Int} {a:Zg} (h:ActD k a):(k=2 ∧ a.Kind=7) ∨ (k=3 ∧ a.Kind=8) ∨ (k=4 ∧ (a.Kind=10 ∨ a.Kind=11)) ∨ (k=5 ∧ a.Kind=13) ∨ (k=6 ∧ a.Kind=14) ∨ (k=8 ∧ a.Kind=18) ∨ (k=9 ∧ a.Kind=21):=by
 have on:=h.on
 rcases h.kind with e | e | e | e | e | e | e | e <;> rw [e] at on ⊢
 ·rw [on7] at on;have:=Option.some.inj on;omega
 ·rw [on8] at on;have:=Option.some.inj on;omega
 ·rw [on10] at on;have:=Option.some.inj on;omega
 ·rw [on11] at on;have:=Option.some.inj on;omega
 ·rw [on13] at on;have:=Option.some.inj on;omega
 ·rw [on14] at on;have:=Option.some.inj on;omega
 ·rw [on18] at on;have:=Option.some.inj on;omega
 ·rw [on21] at on;have:=Option.some.inj on;omega
def hasN (l:Zbf) (s:ByteArray):Bool:=l.any fun e=>sEq e.Name s
def uC (l:Zbf) (a:Zg):Int:=if a.Kind=8 ∨ a.Kind=10 then max a.N 0 else if a.Kind=18 then (if hasN l a.S=true then 0 else 1) else 0
def dC (a:Zg):Int:=if a.Kind=8 then max (-a.N) 0 else if a.Kind=11 then max a.N 0 else 0
theorem Zpu (l:Zbf) (a:Zg):0 ≤ uC l a:=by
 unfold uC
 repeat' split
 all_goals omega
theorem Zn0 (a:Zg):0 ≤ dC a:=by
 unfold dC
 repeat' split
 all_goals omega
def su (l:Zbf):List Zg → Int
 | []=>0
 | a :: B=>uC l a + su l B
def sd:List Zg → Int
 | []=>0
 | a :: B=>dC a + sd B
theorem Zpj (l:Zbf):∀ B,0 ≤ su l B
 | []=>Int.le_refl _
 | a :: B=>by have:=Zpj l B;have:=Zpu l a;simp only [su];omega
theorem Zuc:∀ B,0 ≤ sd B
 | []=>Int.le_refl _
 | a :: B=>by have:=Zuc B;have:=Zn0 a;simp only [sd];omega
theorem Zgz (l:Zbf):∀ A B,su l (A ++ B)=su l A + su l B
 | [],B=>by simp [su]
 | a :: A,B=>by simp only [List.cons_append,su,Zgz l A B];omega
theorem Zph:∀ A B,sd (A ++ B)=sd A + sd B
 | [],B=>by simp [sd]
 | a :: A,B=>by simp only [List.cons_append,sd,Zph A B];omega
def upR (r:Za):Int:=if r.Kind=3 then 9223372036854775807 - r.Num else if r.Kind=4 then r.High - r.Num else if r.Kind=8 then r.Cap - (r.List.length:Int) else 0
def dnR (r:Za):Int:=if r.Kind=3 then r.Num + 9223372036854775808 else if r.Kind=4 then r.Num - r.Low else 0
def Room (r:Za) (B:List Zg):Prop:=su r.List B ≤ upR r ∧ sd B ≤ dnR r
theorem Z2w {l l':Zbf} (h:∀ s,hasN l s=true → hasN l' s=true):∀ B,su l' B ≤ su l B
 | []=>Int.le_refl _
 | a :: B=>by
  have:=Z2w h B
  have:uC l' a ≤ uC l a:=by
   unfold uC
   split
   ·exact Int.le_refl _
   ·split
    ·by_cases h1:hasN l a.S=true
     ·rw [if_pos h1,if_pos (h _ h1)];exact Int.le_refl _
     ·rw [if_neg h1];split <;> omega
    ·exact Int.le_refl _
  simp only [su];omega
theorem Z12 {l l':Zbf}:∀ {B:List Zg},(∀ b ∈ B,b.Kind ≠ 18) → su l' B=su l B
 | [],_=>rfl
 | a :: B,h=>by
  have h1:=h a (List.mem_cons_self ..)
  have:uC l' a=uC l a:=by unfold uC;rw [if_neg h1,if_neg h1]
  simp only [su,Z12 (l:=l) (l':=l') (fun b hb=>h b (List.mem_cons_of_mem _ hb)),this]
theorem Zqu (A B:Zbf) (s:ByteArray):hasN (A ++ B) s=(hasN A s || hasN B s):=List.any_append
theorem Z5d {l:Zbf} (hs:NS l) {s t:ByteArray} (h:hasN l t=true):hasN (layL { Score:=0,Name:=s } true l) t=true:=by
 rw [Zj9]
 split
 ·exact h
 ·rw [← List.take_append_drop (pre (fun e=>sLt e.Name s) l) l,Zqu] at h
  rw [Zqu,Zqu]
  revert h
  cases hasN (l.take (pre (fun e=>sLt e.Name s) l)) t <;> cases hasN (l.drop (pre (fun e=>sLt e.Name s) l)) t <;> simp
theorem Zus {l:Zbf} (hs:NS l) {s:ByteArray} (h:hasN l s=true):layL { Score:=0,Name:=s } true l=l:=by
 rw [Zj9,if_pos (by rw [← Zj1 hs];exact h)]
theorem Z42 (l:Zbf) (s:ByteArray):(layL { Score:=0,Name:=s } true l).length ≤ l.length + 1:=by
 rw [Zj9]
 split
 ·omega
 ·simp;omega
theorem Zrz {r:Za} {a:Zg} {B:List Zg} (hw:RecW r) (hg:Zbv r) (ha:ActD r.Kind a) (hB:∀ b ∈ B,ActD r.Kind b) (h:Room r (a :: B)) :
  Room (eff r a) B ∧ RecW (eff r a) ∧ Zbv (eff r a) ∧ Zc3 r true a=some (eff r a,true,ans 0) ∧ Zjs r true a=some (eff r a,true,ans 0) ∧ (eff r a).Kind=r.Kind:=by
 obtain ⟨h1,h2⟩:=h
 simp only [su,sd] at h1 h2
 have n1:=Zpj r.List B
 have n2:=Zuc B
 have hnum:=hw.num
 have haw:=ha.w
 have han:=haw.n
 unfold I64 at hnum han
 have hf:Fits r a:=by
  refine ⟨fun e=>?_,fun e=>?_,fun e=>?_,fun e=>?_⟩
  ·have hk:r.Kind=3:=by rcases ha.cases with c | c | c | c | c | c | c <;> omega
   simp only [uC,dC,upR,dnR,e,hk,if_true,true_or] at h1 h2
   omega
  ·have hk:r.Kind=4:=by rcases ha.cases with c | c | c | c | c | c | c <;> omega
   simp only [uC,upR,e,hk,if_true,or_true] at h1
   have:¬ ((4:Int)=3):=by decide
   rw [if_neg this] at h1
   omega
  ·have hk:r.Kind=4:=by rcases ha.cases with c | c | c | c | c | c | c <;> omega
   simp only [dC,dnR,e,hk] at h2
   have e1:¬ ((4:Int)=3):=by decide
   have e2:¬ ((11:Int)=8):=by decide
   rw [if_neg e1,if_neg e2] at h2
   simp only [if_true] at h2
   omega
  ·have hk:r.Kind=8:=by rcases ha.cases with c | c | c | c | c | c | c <;> omega
   have hs:=Zig hg hk
   by_cases hi:hasN r.List a.S=true
   ·left;rw [← Zj1 hs];exact hi
   ·right
    have e1:¬ ((8:Int)=3):=by decide
    have e2:¬ ((8:Int)=4):=by decide
    have e3:¬ ((18:Int)=8 ∨ (18:Int)=10):=by decide
    simp only [uC,upR,e,hk] at h1
    rw [if_neg e1,if_neg e2,if_neg e3,if_neg hi] at h1
    simp only [if_true] at h1
    omega
 have hdk:Zj0 a.Kind:=by unfold Zj0;rcases ha.kind with e | e | e | e | e | e | e | e <;> omega
 obtain ⟨a1,a2,a3⟩:=Zzz hw hg ha.in_ ha.chk hdk ha.on hf
 obtain ⟨x,is,out,b1,b2,_,_⟩:=Zyl (there:=true) hw ha.in_
 rw [a1] at b1
 simp only [Option.some.injEq,Prod.mk.injEq] at b1
 obtain ⟨rfl,rfl,rfl⟩:=b1
 have hkk:=(Zks r a).1
 refine ⟨?_,a2,a3,a1,b2,hkk⟩
 have hno:r.Kind ≠ 8 → su (eff r a).List B=su r.List B:=fun h8=>Z12 fun b hb=>by
  rcases (hB b hb).cases with c | c | c | c | c | c | c <;> omega
 unfold Room
 rcases ha.cases with ⟨k,e⟩ | ⟨k,e⟩ | ⟨k,e⟩ | ⟨k,e⟩ | ⟨k,e⟩ | ⟨k,e⟩ | ⟨k,e⟩
 ·rw [hno (by omega)]
  have z:∀ x:Za,x.Kind=2 → upR x=0 ∧ dnR x=0:=fun x hx=>by simp [upR,dnR,hx]
  rw [(z _ (hkk.trans k)).1,(z _ (hkk.trans k)).2]
  rw [(z r k).1,(z r k).2] at *
  have:=Zpu r.List a;have:=Zn0 a
  omega
 ·rw [hno (by omega),Zh7 (by omega)]
  obtain ⟨p1,p2⟩:=hf.plus e
  simp only [upR,dnR,k,if_true,uC,dC,e,true_or] at h1 h2 ⊢
  rw [wr p1 p2]
  omega
 ·rw [hno (by omega)]
  have hp:=Zmk hg k
  have e1:¬ ((4:Int)=3):=by decide
  rcases e with e | e
  ·have f:=hf.inn e
   have hn:=haw.inout (.inl e)
   rw [Zh7 (by omega)]
   simp only [upR,dnR,k,uC,dC,e,or_true,if_true] at h1 h2 ⊢
   rw [if_neg e1] at h1 h2 ⊢
   rw [if_neg e1]
   rw [wr (by omega) (by omega)]
   have e2:¬ ((10:Int)=8):=by decide
   have e3:¬ ((10:Int)=11):=by decide
   rw [if_neg e2,if_neg e3] at h2
   omega
  ·have f:=hf.out e
   have hn:=haw.inout (.inr e)
   rw [Zse e]
   have e2:¬ ((11:Int)=8):=by decide
   have e3:¬ ((11:Int)=8 ∨ (11:Int)=10):=by decide
   have e4:¬ ((11:Int)=18):=by decide
   simp only [upR,dnR,k,uC,dC,e,if_true] at h1 h2 ⊢
   rw [if_neg e1] at h1 h2 ⊢
   rw [if_neg e1]
   rw [if_neg e3,if_neg e4] at h1
   rw [if_neg e2] at h2
   rw [wr (by omega) (by omega)]
   omega
 ·rw [hno (by omega)]
  have z:∀ x:Za,x.Kind=5 → upR x=0 ∧ dnR x=0:=fun x hx=>by simp [upR,dnR,hx]
  rw [(z _ (hkk.trans k)).1,(z _ (hkk.trans k)).2]
  rw [(z r k).1,(z r k).2] at *
  have:=Zpu r.List a;have:=Zn0 a
  omega
 ·rw [hno (by omega)]
  have z:∀ x:Za,x.Kind=6 → upR x=0 ∧ dnR x=0:=fun x hx=>by simp [upR,dnR,hx]
  rw [(z _ (hkk.trans k)).1,(z _ (hkk.trans k)).2]
  rw [(z r k).1,(z r k).2] at *
  have:=Zpu r.List a;have:=Zn0 a
  omega
 ·have hs:=Zig hg k
  have e1:¬ ((8:Int)=3):=by decide
  have e2:¬ ((8:Int)=4):=by decide
  have e3:¬ ((18:Int)=8 ∨ (18:Int)=10):=by decide
  have hd2:dnR (eff r a)=0:=by simp [dnR,hkk,k]
  have hd1:dnR r=0:=by simp [dnR,k]
  have hu1:upR r=r.Cap - (r.List.length:Int):=by simp [upR,k]
  have hu2:upR (eff r a)=r.Cap - ((eff r a).List.length:Int):=by simp [upR,hkk,k,(Zks r a).2.1]
  rw [hd2]
  rw [hd1] at h2
  rw [hu2]
  rw [hu1] at h1
  have hmono:=Z2w (l:=r.List) (l':=(eff r a).List) (fun s hh=>by rw [Zhu e];exact Z5d hs hh) B
  have hdn:=Zn0 a
  refine ⟨?_,by omega⟩
  unfold uC at h1
  rw [e,if_neg e3] at h1
  simp only [if_true] at h1
  have hl:(eff r a).List=layL { Score:=0,Name:=a.S } true r.List:=by rw [Zhu e]
  by_cases hi:hasN r.List a.S=true
  ·rw [if_pos hi] at h1
   rw [hl,Zus hs hi]
   rw [hl,Zus hs hi] at hmono
   omega
  ·rw [if_neg hi] at h1
   have:=Z42 r.List a.S
   rw [hl]
   rw [hl] at hmono
   omega
 ·rw [hno (by omega)]
  have z:∀ x:Za,x.Kind=9 → upR x=0 ∧ dnR x=0:=fun x hx=>by simp [upR,dnR,hx]
  rw [(z _ (hkk.trans k)).1,(z _ (hkk.trans k)).2]
  rw [(z r k).1,(z r k).2] at *
  have:=Zpu r.List a;have:=Zn0 a
  omega
def effs (r:Za) (B:List Zg):Za:=B.foldl eff r
theorem Z6i {r:Za} {k:Int} {a b:Zg} (ha:ActD k a) (hb:ActD k b):eff (eff r a) b=eff (eff r b) a:=by
 have ca:=ha.cases
 have cb:=hb.cases
 by_cases hn:a.Kind=8 ∨ a.Kind=10 ∨ a.Kind=11
 ·have hnb:b.Kind=8 ∨ b.Kind=10 ∨ b.Kind=11:=by omega
  have one:∀ (x:Zg),x.Kind=8 ∨ x.Kind=10 ∨ x.Kind=11 → ∃ m:Int,∀ r:Za,eff r x={ r with Num:=IntKind.i64.wrap (r.Num + m) }:=fun x hx=>by
   by_cases h11:x.Kind=11
   ·exact ⟨-x.N,fun r=>by rw [Zse h11,Int.sub_eq_add_neg]⟩
   ·exact ⟨x.N,fun r=>Zh7 (by omega)⟩
  obtain ⟨m,hm⟩:=one a hn
  obtain ⟨n,hn⟩:=one b hnb
  rw [hm,hn,hn,hm]
  have:IntKind.i64.wrap (IntKind.i64.wrap (r.Num + m) + n)=IntKind.i64.wrap (IntKind.i64.wrap (r.Num + n) + m):=by
   simp only [IntKind.wrap_i64];omega
  simp only [this]
 ·exact Z05 ha.w hb.w (by omega) (by omega)
theorem Znt {k:Int} {a:Zg} (ha:ActD k a):∀ (B:List Zg) (r:Za),(∀ b ∈ B,ActD k b) → effs (eff r a) B=eff (effs r B) a
 | [],r,_=>rfl
 | b :: B,r,h=>by
  show effs (eff (eff r a) b) B=eff (effs (eff r b) B) a
  rw [Z6i ha (h b (List.mem_cons_self ..)),Znt ha B _ (fun x hx=>h x (List.mem_cons_of_mem _ hx))]
theorem Zl6 (r:Za) (A B:List Zg):effs r (A ++ B)=effs (effs r A) B:=List.foldl_append
theorem Zti {k:Int}:∀ (A B:List Zg) (r:Za),(∀ a ∈ A,ActD k a) → (∀ b ∈ B,ActD k b) → effs r (A ++ B)=effs r (B ++ A)
 | [],B,r,_,_=>by rw [List.append_nil];rfl
 | a :: A,B,r,hA,hB=>by
  show effs (eff r a) (A ++ B)=_
  rw [Zti A B _ (fun x hx=>hA x (List.mem_cons_of_mem _ hx)) hB,Zl6,Znt (hA a (List.mem_cons_self ..)) B r hB,Zl6]
  rfl
theorem Zy6:∀ {B:List Zg} {r:Za},RecW r → Zbv r → (∀ b ∈ B,ActD r.Kind b) → Room r B → RecW (effs r B) ∧ Zbv (effs r B) ∧ (effs r B).Kind=r.Kind
 | [],r,hw,hg,_,_=>⟨hw,hg,rfl⟩
 | a :: B,r,hw,hg,hB,h=>by
  obtain ⟨h1,h2,h3,_,_,h4⟩:=Zrz hw hg (hB a (List.mem_cons_self ..)) (fun b hb=>hB b (List.mem_cons_of_mem _ hb)) h
  obtain ⟨k1,k2,k3⟩:=Zy6 (B:=B) h2 h3 (fun b hb=>by rw [h4];exact hB b (List.mem_cons_of_mem _ hb)) h1
  exact ⟨k1,k2,k3.trans h4⟩
theorem Zo0 {r:Za} {A B:List Zg} (h:Room r (A ++ B)):Room r A:=by
 unfold Room at *
 rw [Zgz,Zph] at h
 have:=Zpj r.List B
 have:=Zuc B
 omega
theorem Zw9 (e:Zd):ActIn ({ Kind:=(18:Int),Key:=(⟨#[107]⟩:ByteArray),N:=(0:Int),X:=(0:Nat),S:=e.Name,Make:=(default:Za),Must:=false }:Zg):=⟨⟨Zc0.ok,show (0:Nat) < W64 by decide⟩,show I64 0 by unfold I64;decide,Zc0⟩
theorem Zxc {e:Zd} (h:e.Score < W64):ActIn ({ Kind:=(21:Int),Key:=(⟨#[107]⟩:ByteArray),N:=(0:Int),X:=e.Score,S:=e.Name,Make:=(default:Za),Must:=false }:Zg):=⟨⟨Zc0.ok,h⟩,show I64 0 by unfold I64;decide,Zc0⟩
theorem Z2i {α:Type} {xs:List α} {i:Nat} (h:i < xs.length):decide ((i:Int) < (xs.length:Int))=true:=decide_eq_true (by omega)
theorem withReal {r:Za} (h:RecW r) {m:Nat} (hm:m < W64):RecW { r with Real:=m }:=⟨⟨hm,h.ok.len,h.ok.sc⟩,h.num,h.low,h.high,h.kind,h.len⟩
theorem Z4d:Zhj=some true:=by kernel_rfl
theorem Ztc {l:List Zv} (hl:l.length ≤ 40) (hw:∀ o ∈ l,Zfh o):∀ (n i:Nat),i + n=l.length → (Zda l (n + 1) (i:Int)=some (.inl true)) ∨ (Zda l (n + 1) (i:Int)=some (.inr ()) ∧ ∀ o ∈ l.drop i,ActIn o.Act)
 | 0,i,h=>by
  right
  rw [Zda,if_neg (by simp;omega),List.drop_of_length_le (by omega)]
  exact ⟨rfl,fun o ho=>by cases ho⟩
 | n + 1,i,h=>by
  have h1:i < l.length:=by omega
  obtain ⟨c,e1,e2,e3⟩:=Z6t (hw _ (List.getElem_mem h1)).2
  rw [Zda,if_pos (by simp;omega),Zcy h1,wr1 (by omega)]
  simp only [Option.bind_some]
  rw [e1]
  rcases e2 with rfl | rfl
  ·simp only [Int.lt_irrefl,decide_false,Bool.false_eq_true,if_false,Option.bind_some]
   rcases Ztc hl hw n (i + 1) (by omega) with h2 | ⟨h2,h3⟩
   ·exact .inl h2
   ·right
    refine ⟨h2,fun o ho=>?_⟩
    rw [List.drop_eq_getElem_cons h1] at ho
    rcases List.mem_cons.1 ho with rfl | ho
    ·exact Z1t (hw _ (List.getElem_mem h1)).2 (e3 rfl)
    ·exact h3 o ho
  ·left;rfl
theorem big7 {r:Za} {l:List Zv} (hr:Zg7 r) (hw:∀ o ∈ l,Zfh o):Zgd r l=some true ∨ (Zgd r l=some false ∧ RecW r ∧ l.length ≤ 40 ∧ ∀ o ∈ l,ActIn o.Act):=by
 obtain ⟨c,e1,e2,e3⟩:=Z2u (Zwn hr)
 unfold Zgd
 rw [e1]
 simp only [Option.bind_some]
 rcases e2 with rfl | rfl
 ·by_cases h:(40:Int) < l.length
  ·left;simp [h]
  ·rw [if_neg (by simp;omega),show (Int.toNat ((l.length:Int) - (0:Int)) + 1)=l.length + 1 by omega]
   have:=Ztc (l:=l) (by omega) hw l.length 0 (by omega)
   rw [show ((0:Nat):Int)=0 from rfl] at this
   rcases this with h1 | ⟨h1,h2⟩
   ·left;rw [h1];rfl
   ·right;rw [h1];exact ⟨rfl,Zsp hr (e3 rfl),by omega,h2⟩
 ·left;rfl
theorem Zv8 (k a:Int):∃ b,Zen k a=some b ∧ Zi8 k a=some b:=by
 by_cases h:a=7 ∨ a=8 ∨ a=10 ∨ a=11 ∨ a=13 ∨ a=14 ∨ a=18 ∨ a=21
 ·obtain ⟨on,o1,o2,_⟩:=Zkx (k:=a) (by omega) (by omega)
  refine ⟨on == k,?_,?_⟩
  ·unfold Zen Zck
   rw [o1]
   rcases h with rfl | rfl | rfl | rfl | rfl | rfl | rfl | rfl <;> rfl
  ·unfold Zi8
   rw [o2]
   rcases h with rfl | rfl | rfl | rfl | rfl | rfl | rfl | rfl <;> rfl
 ·simp only [not_or] at h
  obtain ⟨h1,h2,h3,h4,h5,h6,h7,h8⟩:=h
  refine ⟨false,?_,?_⟩
  ·unfold Zen Zck
   simp [h1,h2,h3,h4,h5,h6,h7,h8]
  ·unfold Zi8
   simp [h1,h2,h3,h4,h5,h6,h7,h8]
def INFN:Nat:=18442240474082181120
theorem Zyw:Zn3 (-1:Int)=some INFN:=by kernel_rfl
theorem Z5h:∃ b,Zj2=some b ∧ b < W64 ∧ isn b:=by
 refine ⟨NANB,by kernel_rfl,by decide,?_⟩
 unfold isn rg INF NANB TOP;decide
theorem Zmx {k:Int} {b:Nat} {cap:Int} (hk:0 ≤ k ∧ k ≤ 9) (hb:b < W64):RecW ({ Kind:=k,Num:=(0:Int),Low:=(0:Int),High:=(0:Int),Real:=b,Cap:=cap,Text:=ByteArray.empty,List:=([]:List Zd) }:Za) :=
 ⟨⟨hb,by show (0:Nat) < _;decide,fun e he=>by cases he⟩,show I64 0 by unfold I64;decide,show I64 0 by unfold I64;decide,show I64 0 by unfold I64;decide,show I64 k by unfold I64;omega,by show (0:Nat) ≤ _;decide⟩
theorem Z27 {a:Nat} (ha:a < W64) (hc:a=Zbh a):Zge a INFN=some a:=by
 unfold Zge
 rw [Zkp ha (by decide),Zef ha,← hc]
 have:¬ keyf a < keyf INFN:=by
  have hi:keyf INFN=4503599627370495:=by decide
  rw [hi]
  unfold keyf
  split
  ·omega
  ·rename_i hn
   unfold isn rg INF at hn
   split
   ·rename_i ht
    have:a % TOP=a - TOP:=by
     simp only [TOP,W64] at *
     omega
    rw [this] at hn
    simp only [TOP,W64] at *
    omega
   ·omega
 rw [show decide (keyf a < keyf INFN)=false from decide_eq_false this]
 rfl
theorem Z3g {a b:Nat} (ha:a < W64) (hb:b < W64) (hc:a=Zbh a) (hn:isn b):Zgh a b=some a:=by
 unfold Zgh
 rw [Zkp hb ha,Zef ha,← hc]
 have:¬ keyf b < keyf a:=by
  have hi:keyf b=18444492273895866369:=by unfold keyf;rw [if_pos hn]
  rw [hi]
  unfold keyf
  split
  ·omega
  ·rename_i hna
   unfold isn rg INF at hna
   split
   ·simp only [TOP,W64] at *;omega
   ·rename_i ht
    have:a % TOP=a:=by simp only [TOP] at *;omega
    rw [this] at hna
    simp only [TOP] at *;omega
 rw [show decide (keyf b < keyf a)=false from decide_eq_false this]
 rfl
def pv (all n i:Int):Int:=if decide ((IntKind.u64.wrap i) < (Int.tmod all (IntKind.u64.wrap n)))=true then IntKind.u64.wrap ((IntKind.u64.wrap (Int.tdiv all (IntKind.u64.wrap n))) + (1:Int)) else IntKind.u64.wrap (Int.tdiv all (IntKind.u64.wrap n))
theorem wn {n:Int} (hn:1 ≤ n ∧ n ≤ 8):IntKind.u64.wrap n ≠ (0:Int):=by rw [Zpv];omega
theorem Zxe {all n i:Int} (hn:1 ≤ n ∧ n ≤ 8):Zjn all i n=some (pv all n i):=by
 unfold Zjn Ziq pv
 rw [if_pos (wn hn),if_pos (wn hn)]
 split <;> rfl
theorem Zta {n:Int} {r:Za} {q:Zs × Bool} (hn:1 ≤ n ∧ n ≤ 8):∀ (m i:Nat) (acc:List Zs),(i:Int) + m=n → acc=(List.range i).map (fun k:Nat=>(⟨pv q.1.up n k,pv q.1.down n k⟩:Zs)) → Zf0 n q (m + 1) ({ r:=r,by_:=acc }:Zu) (i:Int)=some ({ r:=r,by_:=(List.range n.toNat).map (fun k:Nat=>(⟨pv q.1.up n k,pv q.1.down n k⟩:Zs)) }:Zu)
 | 0,i,acc,h,ha=>by
  rw [Zf0,if_neg (by simp;omega),ha,show n.toNat=i by omega]
 | m + 1,i,acc,h,ha=>by
  have hl:acc.length=i:=by rw [ha];simp
  rw [Zf0,if_pos (by simp;omega),Zxe hn,Zxe hn]
  simp only [Option.bind_some]
  rw [if_pos (by simp only [List.length_singleton];omega),wr1 (by omega)]
  exact Zta hn m (i + 1) _ (by omega) (by rw [ha,List.range_succ,List.map_append];rfl)
abbrev Zm4 (l:List Zv):List Zg:=l.map fun d=>d.Act
theorem Z44 {r:Za} (hw:RecW r) (hg:Zbv r):∃ b,Zkg r=some (⟨upR r,dnR r⟩,b) ∧ 0 ≤ upR r ∧ upR r < 18446744073709551616 ∧ 0 ≤ dnR r ∧ dnR r < 18446744073709551616:=by
 have hn:=hw.num
 unfold I64 at hn
 unfold Zkg upR dnR
 by_cases h3:r.Kind=3
 ·rw [if_pos (by simp [h3]),if_pos h3,if_pos h3]
  refine ⟨true,?_,by omega,by omega,by omega,by omega⟩
  simp only [Zpv]
  congr 3 <;> omega
 ·rw [if_neg (by simpa using h3),if_neg h3,if_neg h3]
  by_cases h4:r.Kind=4
  ·obtain ⟨p1,p2,p3,p4⟩:=Zmk hg h4
   rw [if_pos (by simp [h4]),if_pos h4,if_pos h4]
   refine ⟨true,?_,by omega,by omega,by omega,by omega⟩
   rw [wr (by omega) (by omega),wr (by omega) (by omega),wru (by omega) (by omega),wru (by omega) (by omega)]
  ·rw [if_neg (by simpa using h4),if_neg h4,if_neg h4]
   by_cases h8:r.Kind=8
   ·obtain ⟨c1,c2,c3⟩:=Zkb hg (by omega)
    rw [if_pos (by simp [h8]),if_pos h8]
    refine ⟨true,?_,by omega,by omega,by omega,by omega⟩
    rw [wr (by omega) (by omega),wru (by omega) (by omega)]
   ·rw [if_neg (by simpa using h8),if_neg h8]
    exact ⟨false,rfl,by omega,by omega,by omega,by omega⟩
def tu:List Zs → Int
 | []=>0
 | x :: l=>x.up + tu l
def td:List Zs → Int
 | []=>0
 | x :: l=>x.down + td l
theorem Zzg:∀ A B,tu (A ++ B)=tu A + tu B
 | [],B=>by simp [tu]
 | a :: A,B=>by simp only [List.cons_append,tu,Zzg A B];omega
theorem Zzq:∀ A B,td (A ++ B)=td A + td B
 | [],B=>by simp [td]
 | a :: A,B=>by simp only [List.cons_append,td,Zzq A B];omega
theorem Zy1 {v:Zs}:∀ {l:List Zs} {m:Nat} (h:m < l.length),tu (l.set m v)=tu l - l[m].up + v.up
 | x :: l,0,_=>by simp only [List.set_cons_zero,tu,List.getElem_cons_zero];omega
 | x :: l,m + 1,h=>by
  have:=Zy1 (v:=v) (l:=l) (m:=m) (by simpa using h)
  simp only [List.set_cons_succ,tu,List.getElem_cons_succ,this];omega
theorem Zze {v:Zs}:∀ {l:List Zs} {m:Nat} (h:m < l.length),td (l.set m v)=td l - l[m].down + v.down
 | x :: l,0,_=>by simp only [List.set_cons_zero,td,List.getElem_cons_zero];omega
 | x :: l,m + 1,h=>by
  have:=Zze (v:=v) (l:=l) (m:=m) (by simpa using h)
  simp only [List.set_cons_succ,td,List.getElem_cons_succ,this];omega
theorem Z2x {u n:Int} {k:Nat} (hn:1 ≤ n ∧ n ≤ 8) (hu:0 ≤ u ∧ u < 18446744073709551616) (hk:(k:Int) < n):pv u n k=u / n + (if (k:Int) < u % n then 1 else 0):=by
 have hd:0 ≤ u / n:=Int.ediv_nonneg hu.1 (by omega)
 have hd2:u / n ≤ u:=Int.ediv_le_self n hu.1
 have hm:u % n < n:=Int.emod_lt_of_pos _ (by omega)
 have hm0:0 ≤ u % n:=Int.emod_nonneg _ (by omega)
 have hmul:=Int.mul_ediv_add_emod u n
 unfold pv
 rw [wru (x:=n) (by omega) (by omega),wru (x:=(k:Int)) (by omega) (by omega),Int.tmod_eq_emod_of_nonneg hu.1,Int.tdiv_eq_ediv_of_nonneg hu.1]
 by_cases h:(k:Int) < u % n
 ·rw [if_pos (by simpa using h),if_pos h,wru (x:=u / n) hd (by omega)]
  have hlt:u / n < 18446744073709551615:=by
   refine Classical.byContradiction fun hge=>?_
   have:u / n=18446744073709551615:=by omega
   have h1:u=18446744073709551615:=by omega
   rw [this,h1] at hmul
   rw [h1] at h hm0
   have:n * 18446744073709551615 + 18446744073709551615 % n=18446744073709551615:=hmul
   have hn1:n=1:=by omega
   subst hn1
   omega
  rw [wru (by omega) (by omega)]
 ·rw [if_neg (by simpa using h),if_neg h,wru hd (by omega),Int.add_zero]
theorem Z17 {u d n:Int} (hn:1 ≤ n ∧ n ≤ 8) (hu:0 ≤ u ∧ u < 18446744073709551616) (hd:0 ≤ d ∧ d < 18446744073709551616):∀ (j:Nat),(j:Int) ≤ n →
  tu ((List.range j).map fun k:Nat=>(⟨pv u n k,pv d n k⟩:Zs))=(j:Int) * (u / n) + min (j:Int) (u % n) ∧ td ((List.range j).map fun k:Nat=>(⟨pv u n k,pv d n k⟩:Zs))=(j:Int) * (d / n) + min (j:Int) (d % n)
 | 0,_=>by
  have h1:0 ≤ u % n:=Int.emod_nonneg _ (by omega)
  have h2:0 ≤ d % n:=Int.emod_nonneg _ (by omega)
  constructor
  ·show (0:Int)=_
   rw [show (((0:Nat):Int))=0 from rfl,Int.zero_mul];omega
  ·show (0:Int)=_
   rw [show (((0:Nat):Int))=0 from rfl,Int.zero_mul];omega
 | j + 1,hj=>by
  obtain ⟨i1,i2⟩:=Z17 hn hu hd j (by omega)
  rw [List.range_succ,List.map_append,Zzg,Zzq,i1,i2]
  simp only [List.map_cons,List.map_nil,tu,td]
  rw [Z2x hn hu (by omega),Z2x hn hd (by omega),show ((j + 1:Nat):Int)=(j:Int) + 1 by omega,Int.add_mul,Int.add_mul,Int.one_mul,Int.one_mul]
  constructor
  ·split <;> omega
  ·split <;> omega
def Z0h (l:List Zs):Prop:=∀ x ∈ l,0 ≤ x.up ∧ x.up < 18446744073709551616 ∧ 0 ≤ x.down ∧ x.down < 18446744073709551616
structure Zmo (e:Zu) (r:Za) (n:Int) (B:List Zg):Prop where
 hr:e.r=r
 len:(e.by_.length:Int)=n
 ok:Z0h e.by_
 up:tu e.by_ + su r.List B=upR r
 down:td e.by_ + sd B=dnR r
theorem Z2j {u n:Int} {k:Nat} (hn:1 ≤ n ∧ n ≤ 8) (hu:0 ≤ u ∧ u < 18446744073709551616) (hk:(k:Int) < n):0 ≤ pv u n k ∧ pv u n k < 18446744073709551616:=by
 unfold pv
 split <;> rw [Zpv] <;> omega
theorem Z3u {r:Za} {n:Int} (hw:RecW r) (hg:Zbv r):(∃ c,c ≠ 0 ∧ Zi0 r n=some (none,c) ∧ (n < 1 ∨ 8 < n ∨ r.Kind=1 ∨ r.Kind=7)) ∨ (∃ e,Zi0 r n=some (some e,0) ∧ Zmo e r n [] ∧ 1 ≤ n ∧ n ≤ 8 ∧ r.Kind ≠ 1 ∧ r.Kind ≠ 7):=by
 unfold Zi0
 by_cases hn:n < 1 ∨ 8 < n
 ·rw [if_pos (by simpa using hn)]
  exact .inl ⟨1,by decide,rfl,by omega⟩
 ·rw [if_neg (by simpa using hn),(Ze1 hw.ok).2 hg]
  have hn:1 ≤ n ∧ n ≤ 8:=by omega
  simp only [Option.bind_some,bne_self_eq_false,Bool.false_eq_true,if_false]
  have hk:r.Kind=1 ∨ r.Kind=2 ∨ r.Kind=3 ∨ r.Kind=4 ∨ r.Kind=5 ∨ r.Kind=6 ∨ r.Kind=7 ∨ r.Kind=8 ∨ r.Kind=9:=by have:=hg.1;have:=hg.2.1;omega
  have hs:∃ s ok,Zek r=some (s,ok) ∧ (ok=false → r.Kind=1 ∨ r.Kind=7) ∧ (ok=true → r.Kind ≠ 1 ∧ r.Kind ≠ 7):=by
   obtain ⟨nb,n1,_,_⟩:=Z5h
   unfold Zek Zfr
   rw [(Ze1 hw.ok).2 hg]
   rcases hk with h | h | h | h | h | h | h | h | h
   ·rw [h];exact ⟨_,false,rfl,fun _=>.inl rfl,fun h=>by cases h⟩
   ·rw [h];exact ⟨_,true,rfl,fun h=>(by cases h),fun _=>⟨by decide,by decide⟩⟩
   ·rw [h];exact ⟨_,true,rfl,fun h=>(by cases h),fun _=>⟨by decide,by decide⟩⟩
   ·rw [h];exact ⟨_,true,rfl,fun h=>(by cases h),fun _=>⟨by decide,by decide⟩⟩
   ·rw [h,Zyw];exact ⟨_,true,rfl,fun h=>(by cases h),fun _=>⟨by decide,by decide⟩⟩
   ·rw [h,n1];exact ⟨_,true,rfl,fun h=>(by cases h),fun _=>⟨by decide,by decide⟩⟩
   ·rw [h];exact ⟨_,false,rfl,fun _=>.inr rfl,fun h=>by cases h⟩
   ·rw [h];exact ⟨_,true,rfl,fun h=>(by cases h),fun _=>⟨by decide,by decide⟩⟩
   ·rw [h];exact ⟨_,true,rfl,fun h=>(by cases h),fun _=>⟨by decide,by decide⟩⟩
  obtain ⟨s,ok,e1,e2,e3⟩:=hs
  rw [e1]
  simp only [Option.bind_some]
  cases ok with
  | false=>exact .inl ⟨5,by decide,rfl,by have:=e2 rfl;omega⟩
  | true =>
   obtain ⟨b,q1,q2,q3,q4,q5⟩:=Z44 hw hg
   rw [Zf2 hw.len,q1]
   simp only [Option.bind_some,Bool.not_true,Bool.false_eq_true,if_false]
   have:=Zta (r:=r) (q:=(⟨upR r,dnR r⟩,b)) hn n.toNat 0 [] (by omega) rfl
   rw [show ((0:Nat):Int)=0 from rfl] at this
   rw [show Int.toNat (n - (0:Int))=n.toNat by omega,this]
   obtain ⟨t1,t2⟩:=Z17 hn ⟨q2,q3⟩ ⟨q4,q5⟩ n.toNat (by omega)
   refine .inr ⟨_,rfl,⟨rfl,by simp;omega,fun x hx=>?_,?_,?_⟩,hn.1,hn.2,(e3 rfl).1,(e3 rfl).2⟩
   ·obtain ⟨k,hk,rfl⟩:=List.mem_map.1 hx
    have hk:=List.mem_range.1 hk
    obtain ⟨p1,p2⟩:=Z2j (k:=k) hn ⟨q2,q3⟩ (by omega)
    obtain ⟨p3,p4⟩:=Z2j (k:=k) hn ⟨q4,q5⟩ (by omega)
    exact ⟨p1,p2,p3,p4⟩
   ·show tu _ + 0=_
    rw [t1,Int.add_zero,show ((n.toNat:Nat):Int)=n by omega]
    have h1:=Int.mul_ediv_add_emod (upR r) n
    have h2:upR r % n < n:=Int.emod_lt_of_pos _ (by omega)
    omega
   ·show td _ + 0=_
    rw [t2,Int.add_zero,show ((n.toNat:Nat):Int)=n by omega]
    have h1:=Int.mul_ediv_add_emod (dnR r) n
    have h2:dnR r % n < n:=Int.emod_lt_of_pos _ (by omega)
    omega
theorem Z07 {k:Int} {a:Zg} (h:Zen k a.Kind=some true):(a.Kind=7 ∨ a.Kind=8 ∨ a.Kind=10 ∨ a.Kind=11 ∨ a.Kind=13 ∨ a.Kind=14 ∨ a.Kind=18 ∨ a.Kind=21) ∧ Zd5 a.Kind=some k:=by
 by_cases hk:a.Kind=7 ∨ a.Kind=8 ∨ a.Kind=10 ∨ a.Kind=11 ∨ a.Kind=13 ∨ a.Kind=14 ∨ a.Kind=18 ∨ a.Kind=21
 ·refine ⟨hk,?_⟩
  obtain ⟨on,o1,_⟩:=Zkx (k:=a.Kind) (by omega) (by omega)
  unfold Zen Zck at h
  rw [o1] at h ⊢
  have:some (on == k)=some true:=by
   revert h
   rcases hk with e | e | e | e | e | e | e | e <;> rw [e] <;> exact fun h=>h
  have:=Option.some.inj this
  rw [beq_iff_eq] at this
  rw [this]
 ·exfalso
  simp only [not_or] at hk
  obtain ⟨h1,h2,h3,h4,h5,h6,h7,h8⟩:=hk
  unfold Zen Zck at h
  simp [h1,h2,h3,h4,h5,h6,h7,h8] at h
theorem Zyx {e:Zu} {a:Zg} (hl:e.r.List.length ≤ 1000) (x:Zs):∀ (n i:Nat),i + n=e.r.List.length → (Zcx e a (n + 1) x (i:Int)=some (.inl ⟨0,0⟩) ∧ hasN (e.r.List.drop i) a.S=true) ∨ (Zcx e a (n + 1) x (i:Int)=some (.inr x) ∧ hasN (e.r.List.drop i) a.S=false)
 | 0,i,h=>by
  right
  rw [Zcx,if_neg (by simp;omega),List.drop_of_length_le (by omega)]
  exact ⟨rfl,rfl⟩
 | n + 1,i,h=>by
  have h1:i < e.r.List.length:=by omega
  rw [Zcx,if_pos (by simp;omega),Zcy h1,wr1 (by omega),List.drop_eq_getElem_cons h1]
  simp only [Option.bind_some,hasN,List.any_cons]
  by_cases hq:sEq (e.r.List[i]).Name a.S=true
  ·rw [if_pos hq,hq];exact .inl ⟨rfl,rfl⟩
  ·rw [if_neg hq,Bool.eq_false_iff.2 hq,Bool.false_or]
   exact Zyx hl x n (i + 1) (by omega)
theorem Z50 {e:Zu} {a:Zg} (hl:e.r.List.length ≤ 1000) (ha:ActD e.r.Kind a):Zfa e a=some ⟨uC e.r.List a,dC a⟩ ∧ uC e.r.List a < 18446744073709551616 ∧ dC a < 18446744073709551616:=by
 have haw:=ha.w
 have hn:=haw.n
 unfold I64 at hn
 unfold Zfa uC dC
 rcases ha.kind with h | h | h | h | h | h | h | h
 ·rw [h];exact ⟨rfl,by show (0:Int) < _;decide,by show (0:Int) < _;decide⟩
 ·rw [h]
  simp only [beq_self_eq_true,if_true,true_or]
  refine ⟨?_,by omega,by omega⟩
  by_cases h0:a.N < 0
  ·rw [if_pos (by simpa using h0)]
   simp only [Zpv]
   congr 2 <;> omega
  ·rw [if_neg (by simpa using h0)]
   simp only [Zpv]
   congr 2 <;> omega
 ·have hi:=haw.inout (.inl h)
  rw [h]
  refine ⟨?_,?_,?_⟩
  ·show some (⟨IntKind.u64.wrap a.N,0⟩:Zs)=some ⟨max a.N 0,0⟩
   rw [wru (by omega) (by omega)]
   congr 2
   omega
  ·show max a.N 0 < _
   omega
  ·show (0:Int) < _
   decide
 ·have hi:=haw.inout (.inr h)
  rw [h]
  refine ⟨?_,?_,?_⟩
  ·show some (⟨0,IntKind.u64.wrap a.N⟩:Zs)=some ⟨0,max a.N 0⟩
   rw [wru (by omega) (by omega)]
   congr 2
   omega
  ·show (0:Int) < _
   decide
  ·show max a.N 0 < _
   omega
 ·rw [h];exact ⟨rfl,by show (0:Int) < _;decide,by show (0:Int) < _;decide⟩
 ·rw [h];exact ⟨rfl,by show (0:Int) < _;decide,by show (0:Int) < _;decide⟩
 ·have:=Zyx (e:=e) (a:=a) hl default e.r.List.length 0 (by omega)
  rw [show ((0:Nat):Int)=0 from rfl,List.drop_zero] at this
  rw [h,show (Int.toNat ((e.r.List.length:Int) - (0:Int)) + 1)=e.r.List.length + 1 by omega]
  rcases this with ⟨g1,g2⟩ | ⟨g1,g2⟩
  ·rw [g1]
   refine ⟨?_,?_,by show (0:Int) < _;decide⟩
   ·show some (⟨0,0⟩:Zs)=some ⟨if hasN e.r.List a.S=true then 0 else 1,0⟩
    rw [if_pos g2]
   ·show (if hasN e.r.List a.S=true then (0:Int) else 1) < _
    rw [if_pos g2];decide
  ·rw [g1]
   refine ⟨?_,?_,by show (0:Int) < _;decide⟩
   ·show some (⟨1,0⟩:Zs)=some ⟨if hasN e.r.List a.S=true then 0 else 1,0⟩
    rw [if_neg (by rw [g2];simp)]
   ·show (if hasN e.r.List a.S=true then (0:Int) else 1) < _
    rw [if_neg (by rw [g2];simp)];decide
 ·rw [h];exact ⟨rfl,by show (0:Int) < _;decide,by show (0:Int) < _;decide⟩
theorem Z1i {e:Zu} {r:Za} {n:Int} {B:List Zg} (he:Zmo e r n B) (hw:RecW r) (hn:n ≤ 8) {a:Zg} (ha:ActIn a) (w:Int) :
  ∃ e' c,Ze9 e w [a]=some (e',c) ∧ (c ≠ 0 → Zmo e' r n B) ∧ (c=0 → Zmo e' r n (B ++ [a]) ∧ ActD r.Kind a ∧ 0 ≤ w ∧ w < n):=by
 have hlen:=he.len
 have her:=he.hr
 unfold Ze9 Zg1
 by_cases hk:w < 0 ∨ (e.by_.length:Int) ≤ w
 ·rw [if_pos (by simpa using hk)]
  exact ⟨e,1,rfl,fun _=>he,fun h=>by cases h⟩
 ·rw [if_neg (by simpa using hk)]
  obtain ⟨m,rfl⟩:=Int.eq_ofNat_of_zero_le (show 0 ≤ w by omega)
  have hm:m < e.by_.length:=by omega
  obtain ⟨o1,o2,o3,o4⟩:=he.ok _ (List.getElem_mem hm)
  rw [Zcy hm]
  simp only [Option.bind_some]
  have i0:idx [a] (0:Int)=some a:=rfl
  show ∃ e' c,Option.bind (Option.bind (Zdd [a] 2 e e.by_[m] (0:Int)) _) _=some (e',c) ∧ _
  rw [Zdd,if_pos (show decide (((0:Int)) < (([a]:List Zg).length:Int))=true from rfl),i0]
  simp only [Option.bind_some]
  obtain ⟨c,e1,_,_⟩:=Zk2 ha.ok
  rw [e1]
  simp only [Option.bind_some]
  by_cases hc:(c != (0:Int))=true
  ·rw [if_pos hc]
   exact ⟨e,c,rfl,fun _=>he,fun h=>absurd h (by simpa using hc)⟩
  ·rw [if_neg hc]
   obtain ⟨b,s1,_⟩:=Zv8 e.r.Kind a.Kind
   rw [s1]
   simp only [Option.bind_some]
   cases b with
   | false=>exact ⟨e,5,rfl,fun _=>he,fun h=>by cases h⟩
   | true =>
    obtain ⟨p1,p2⟩:=Z07 s1
    have hc0:c=0:=by simpa using hc
    subst hc0
    have hd:ActD e.r.Kind a:=⟨ha,e1,p1,p2⟩
    obtain ⟨q1,q2,q3⟩:=Z50 (by rw [her];exact hw.len) hd
    have n1:=Zpu e.r.List a
    have n2:=Zn0 a
    rw [q1]
    simp only [Option.bind_some,Bool.not_true,Bool.false_eq_true,if_false]
    by_cases hu:(e.by_[m]).up < uC e.r.List a
    ·rw [decide_eq_true hu]
     simp only [Bool.true_and,if_true]
     by_cases h18:(a.Kind == (18:Int))=true
     ·rw [if_pos h18];exact ⟨e,8,rfl,fun _=>he,fun h=>by cases h⟩
     ·rw [if_neg h18];exact ⟨e,9,rfl,fun _=>he,fun h=>by cases h⟩
    ·rw [decide_eq_false hu]
     simp only [Bool.false_and,Bool.false_eq_true,if_false]
     by_cases hdn:(e.by_[m]).down < dC a
     ·rw [decide_eq_true hdn]
      exact ⟨e,10,rfl,fun _=>he,fun h=>by cases h⟩
     ·rw [decide_eq_false hdn]
      simp only [Bool.false_eq_true,if_false]
      have w1:IntKind.i64.wrap ((0:Int) + 1)=1:=by decide
      rw [w1,Zdd,if_neg (by simp)]
      simp only [Option.bind_some]
      rw [Zcy hm]
      simp only [Option.bind_some,Int.toNat_natCast]
      rw [wru (by omega) (by omega),wru (by omega) (by omega)]
      refine ⟨_,0,rfl,fun h=>absurd rfl h,fun _=>⟨⟨her,by simp [hlen],fun x hx=>?_,?_,?_⟩,by rw [← her];exact hd,by omega,by omega⟩⟩
      ·rcases List.mem_or_eq_of_mem_set hx with hx | rfl
       ·exact he.ok x hx
       ·exact ⟨by show 0 ≤ _ - _;omega,by show _ - _ < _;omega,by show 0 ≤ _ - _;omega,by show _ - _ < _;omega⟩
      ·have:=he.up
       rw [Zy1 hm,Zgz,← this,← her]
       simp only [su]
       omega
      ·have:=he.down
       rw [Zze hm,Zph,← this]
       simp only [sd]
       omega
theorem Zn5 {r:Za} {n:Int} (hw:RecW r) (hn:n ≤ 8) {l:List Zv} (hl:l.length ≤ 1000) (ha:∀ d ∈ l,ActIn d.Act):∀ (m i:Nat) {e:Zu} {X:List Zv},i + m=l.length → Zmo e r n (Zm4 X) → X.length ≤ i → (∀ d ∈ X,ActD r.Kind d.Act ∧ 0 ≤ d.Worker ∧ d.Worker < n) →
  ∃ Y,Zcm l (m + 1) (some e) X (i:Int)=some Y ∧ Y.length ≤ l.length ∧ (∀ d ∈ Y,ActD r.Kind d.Act ∧ 0 ≤ d.Worker ∧ d.Worker < n) ∧ ∃ e',Zmo e' r n (Zm4 Y)
 | 0,i,e,X,h,he,hX,hd=>by
  rw [Zcm,if_neg (by simp;omega)]
  exact ⟨X,rfl,by omega,hd,e,he⟩
 | m + 1,i,e,X,h,he,hX,hd=>by
  have h1:i < l.length:=by omega
  obtain ⟨e',c,e1,e2,e3⟩:=Z1i he hw hn (ha _ (List.getElem_mem h1)) (l[i]).Worker
  rw [Zcm,if_pos (by simp;omega),Zcy h1]
  simp only [Option.bind_some]
  rw [e1]
  simp only [Option.bind_some,Ze2,wr1 (show i < 9223372036854775807 by omega)]
  by_cases hc:(c == (0:Int))=true
  ·rw [if_pos hc,if_pos (by simp;omega)]
   obtain ⟨g1,g2,g3,g4⟩:=e3 (by simpa using hc)
   refine Zn5 hw hn hl ha m (i + 1) (by omega) ?_ (by simp;omega) fun d hd2=>?_
   ·show Zmo e' r n (List.map _ _)
    rw [List.map_append];exact g1
   ·rcases List.mem_append.1 hd2 with h | h
    ·exact hd d h
    ·rw [List.mem_singleton.1 h];exact ⟨g2,g3,g4⟩
  ·rw [if_neg hc]
   exact Zn5 hw hn hl ha m (i + 1) (by omega) (e2 (by simpa using hc)) (by omega) hd
theorem Z1e {e:Zu} {r:Za} {n:Int} {B:List Zg} (he:Zmo e r n B):Room r B:=by
 have h1:∀ l:List Zs,Z0h l → 0 ≤ tu l ∧ 0 ≤ td l:=fun l=>by
  induction l with
  | nil=>intro _;exact ⟨Int.le_refl _,Int.le_refl _⟩
  | cons x l ih =>
   intro h
   obtain ⟨i1,i2⟩:=ih fun y hy=>h y (List.mem_cons_of_mem _ hy)
   obtain ⟨a1,_,a3,_⟩:=h x (List.mem_cons_self ..)
   simp only [tu,td]
   omega
 obtain ⟨t1,t2⟩:=h1 _ he.ok
 have:=he.up
 have:=he.down
 unfold Room
 omega
theorem Z1r {r:Za} {n:Int} (hw:RecW r) (hg:Zbv r) {l:List Zv} (hl:l.length ≤ 1000) (ha:∀ d ∈ l,ActIn d.Act):(Zfc r n l=some ([],false) ∧ (n < 1 ∨ 8 < n ∨ r.Kind=1 ∨ r.Kind=7)) ∨ (∃ Y,Zfc r n l=some (Y,true) ∧ 1 ≤ n ∧ n ≤ 8 ∧ r.Kind ≠ 1 ∧ r.Kind ≠ 7 ∧ Y.length ≤ l.length ∧ (∀ d ∈ Y,ActD r.Kind d.Act ∧ 0 ≤ d.Worker ∧ d.Worker < n) ∧ Room r (Zm4 Y)):=by
 unfold Zfc
 rcases Z3u (n:=n) hw hg with ⟨c,hc,e,h⟩ | ⟨e,e1,e2,h1,h2,h3,h4⟩
 ·rw [e]
  simp only [Option.bind_some]
  rw [if_pos (by simp)]
  exact .inl ⟨rfl,h⟩
 ·rw [e1]
  simp only [Option.bind_some]
  rw [if_neg (by simp),show (Int.toNat ((l.length:Int) - (0:Int)) + 1)=l.length + 1 by omega]
  obtain ⟨Y,g1,g2,g3,e',g4⟩:=Zn5 hw h2 hl ha l.length 0 (X:=[]) (by omega) e2 (by simp) (fun d hd=>by cases hd)
  rw [show ((0:Nat):Int)=0 from rfl] at g1
  rw [g1]
  exact .inr ⟨Y,rfl,h1,h2,h3,h4,g2,g3,Z1e g4⟩
section
variable {lt same:Zd → Zd → Bool}
theorem Zry (h:Ord lt same) (x:Zd):lt x x=false:=by
 cases hq:lt x x
 ·rfl
 ·have:=h.asym hq;rw [hq] at this;cases this
theorem Zsx (h:Ord lt same) (x:Zd):same x x=true:=h.tri (Zry h x) (Zry h x)
theorem Zqr (h:Ord lt same) (x:Zd):∀ l:Zbf,ins lt same x (ins lt same x l)=ins lt same x l
 | []=>by simp [ins,Zry h,Zsx h]
 | e :: r=>by
  simp only [ins]
  by_cases h1:lt e x=true
  ·rw [if_pos h1]
   simp only [ins]
   rw [if_pos h1,Zqr h x r]
  ·rw [if_neg h1]
   by_cases h2:same e x=true
   ·rw [if_pos h2]
    simp only [ins]
    rw [if_neg h1,if_pos h2]
   ·rw [if_neg h2]
    simp only [ins]
    rw [if_neg (by rw [Zry h];simp),if_pos (Zsx h x)]
theorem Zvf {x y:Zd}:∀ {l:Zbf},y ∈ ins lt same x l → y=x ∨ y ∈ l
 | [],h=>.inl (List.mem_singleton.1 h)
 | e :: r,h=>by
  simp only [ins] at h
  split at h
  ·rcases List.mem_cons.1 h with h | h
   ·exact .inr (by rw [h];exact List.mem_cons_self ..)
   ·rcases Zvf h with h | h
    ·exact .inl h
    ·exact .inr (List.mem_cons_of_mem _ h)
  ·split at h
   ·exact .inr h
   ·rcases List.mem_cons.1 h with h | h
    ·exact .inl h
    ·exact .inr h
theorem Zsa (h:Ord lt same) {x:Zd}:∀ {l:Zbf},l.Pairwise (fun a b=>lt a b=true) → (ins lt same x l).Pairwise fun a b=>lt a b=true
 | [],_=>List.pairwise_singleton ..
 | e :: r,hp=>by
  obtain ⟨h1,h2⟩:=List.pairwise_cons.1 hp
  simp only [ins]
  by_cases c1:lt e x=true
  ·rw [if_pos c1]
   refine List.pairwise_cons.2 ⟨fun y hy=>?_,Zsa h h2⟩
   rcases Zvf hy with rfl | hy
   ·exact c1
   ·exact h1 y hy
  ·rw [if_neg c1]
   by_cases c2:same e x=true
   ·rw [if_pos c2];exact hp
   ·rw [if_neg c2]
    have hxe:lt x e=true:=by
     cases hq:lt x e
     ·exact absurd (h.tri (by simpa using c1) hq) c2
     ·rfl
    refine List.pairwise_cons.2 ⟨fun y hy=>?_,hp⟩
    rcases List.mem_cons.1 hy with rfl | hy
    ·exact hxe
    ·exact h.trans hxe (h1 y hy)
theorem Zwq:∀ (x:Zd) (l:Zbf),(ins lt same x l).length ≤ l.length + 1 ∧ l.length ≤ (ins lt same x l).length
 | x,[]=>by simp [ins]
 | x,e :: r=>by
  have:=Zwq x r
  simp only [ins]
  split
  ·simp;omega
  ·split <;> simp
theorem Zs0 (h:Ord lt same) {q z:Zd} (hqz:lt q z=true):∀ (k:Nat) (W:Zbf),k ≤ W.length → (∀ e ∈ W.take k,lt e q=true) → k + 1 ≤ (ins lt same q W).length ∧ ∀ e ∈ (ins lt same q W).take (k + 1),lt e z=true
 | 0,[],_,_=>by simp [ins,hqz]
 | 0,e :: r,_,_=>by
  simp only [ins]
  by_cases c1:lt e q=true
  ·rw [if_pos c1];simp [h.trans c1 hqz]
  ·rw [if_neg c1]
   by_cases c2:same e q=true
   ·rw [if_pos c2];simp [h.cong c2 hqz]
   ·rw [if_neg c2];simp [hqz]
 | k + 1,[],hl,_=>by simp at hl
 | k + 1,e :: r,hl,ha=>by
  have c1:lt e q=true:=ha e (by simp)
  obtain ⟨i1,i2⟩:=Zs0 h hqz k r (by simpa using hl) (fun y hy=>ha y (by rw [List.take_succ_cons];exact List.mem_cons_of_mem _ hy))
  simp only [ins,c1,if_true,List.length_cons,List.take_succ_cons]
  refine ⟨by omega,fun y hy=>?_⟩
  rcases List.mem_cons.1 hy with rfl | hy
  ·exact h.trans c1 hqz
  ·exact i2 y hy
theorem Zro {z:Zd}:∀ (n:Nat) (W:Zbf),n ≤ W.length → (∀ e ∈ W.take n,lt e z=true) → (ins lt same z W).take n=W.take n
 | 0,W,_,_=>by simp
 | n + 1,[],hl,_=>by simp at hl
 | n + 1,e :: r,hl,ha=>by
  have c1:lt e z=true:=ha e (by simp)
  simp only [ins,c1,if_true,List.take_succ_cons]
  rw [Zro n r (by simpa using hl) (fun y hy=>ha y (by rw [List.take_succ_cons];exact List.mem_cons_of_mem _ hy))]
def insN (lt same:Zd → Zd → Bool) (n:Nat) (X:Zbf) (L:Zbf):Zbf:=L.foldl (fun X e=>(ins lt same e X).take n) X
theorem Z1j (n:Nat) (X A B:Zbf):insN lt same n X (A ++ B)=insN lt same n (insN lt same n X A) B:=List.foldl_append
theorem Zrv (h:Ord lt same) {n:Nat} {z:Zd}:∀ (Q:Zbf) (k:Nat) (W:Zbf),k + Q.length ≤ n → Q.Pairwise (fun a b=>lt a b=true) → (∀ q ∈ Q,lt q z=true) → k ≤ W.length → (∀ q ∈ Q,∀ e ∈ W.take k,lt e q=true) → (∀ e ∈ W.take k,lt e z=true) → k + Q.length ≤ (insN lt same n W Q).length ∧ ∀ e ∈ (insN lt same n W Q).take (k + Q.length),lt e z=true
 | [],k,W,_,_,_,h1,_,h3=>⟨h1,h3⟩
 | q :: Q,k,W,hn,hp,hz,h1,h2,h3=>by
  obtain ⟨p1,p2⟩:=List.pairwise_cons.1 hp
  have hn:k + (Q.length + 1) ≤ n:=hn
  have htk:∀ {y:Zd},lt q y=true → k + 1 ≤ ((ins lt same q W).take n).length ∧ ∀ e ∈ ((ins lt same q W).take n).take (k + 1),lt e y=true:=fun {y} hy=>by
   obtain ⟨i1,i2⟩:=Zs0 h hy k W h1 (h2 q (List.mem_cons_self ..))
   refine ⟨by rw [List.length_take];omega,fun e he=>i2 e ?_⟩
   rw [List.take_take,Nat.min_eq_left (by omega)] at he
   exact he
  obtain ⟨i1,i2⟩:=htk (hz q (List.mem_cons_self ..))
  have:=Zrv h (n:=n) (z:=z) Q (k + 1) ((ins lt same q W).take n) (by omega) p2 (fun y hy=>hz y (List.mem_cons_of_mem _ hy)) i1 (fun y hy=>(htk (p1 y hy)).2) i2
  rw [show k + 1 + Q.length=k + (q :: Q).length by simp;omega] at this
  exact this
theorem Zwt {n:Nat}:∀ (Q W:Zbf),Q ≠ [] → (insN lt same n W Q).length ≤ n
 | [],W,h=>absurd rfl h
 | [q],W,_=>by show ((ins lt same q W).take n).length ≤ n;rw [List.length_take];omega
 | q :: q2 :: Q,W,_=>Zwt (q2 :: Q) _ (by simp)
theorem Zz4 (h:Ord lt same) {n:Nat} (X:Zbf) {Q:Zbf} {z:Zd} (hq:Q.length=n) (hn:0 < n) (hp:(Q ++ [z]).Pairwise fun a b=>lt a b=true):insN lt same n X (Q ++ [z])=insN lt same n X Q:=by
 obtain ⟨p1,_,p2⟩:=List.pairwise_append.1 hp
 obtain ⟨i1,i2⟩:=Zrv h (n:=n) (z:=z) Q 0 X (by omega) p1 (fun q hq=>p2 q hq z (by simp)) (by simp) (fun _ _ e he=>by simp at he) (fun e he=>by simp at he)
 rw [Nat.zero_add,hq] at i1 i2
 have hle:=Zwt (lt:=lt) (same:=same) (n:=n) Q X (fun he=>by rw [he] at hq;simp at hq;omega)
 rw [Z1j]
 show (ins lt same z (insN lt same n X Q)).take n=_
 rw [Zro n _ i1 i2,List.take_of_length_le hle]
theorem Zo1 {n:Nat} {y:Zd}:∀ (L X:Zbf),(∀ e ∈ L,∀ X,(ins lt same y ((ins lt same e X).take n)).take n=(ins lt same e ((ins lt same y X).take n)).take n) → insN lt same n ((ins lt same y X).take n) L=(ins lt same y (insN lt same n X L)).take n
 | [],X,_=>rfl
 | e :: L,X,he=>by
  show insN lt same n ((ins lt same e ((ins lt same y X).take n)).take n) L=_
  rw [← he e (List.mem_cons_self ..)]
  exact Zo1 L _ (fun e h=>he e (List.mem_cons_of_mem _ h))
theorem Zvc (h:Ord lt same) {n:Nat} {y:Zd}:∀ (L X:Zbf),(∀ e ∈ L,∀ X,(ins lt same y ((ins lt same e X).take n)).take n=(ins lt same e ((ins lt same y X).take n)).take n) → (∀ e ∈ L,same e y=true → ∀ X,ins lt same e X=ins lt same y X) → insN lt same n X (ins lt same y L)=(ins lt same y (insN lt same n X L)).take n
 | [],X,_,_=>rfl
 | e :: r,X,he,hs=>by
  have he':=fun e h=>he e (List.mem_cons_of_mem _ h)
  simp only [ins]
  by_cases c1:lt e y=true
  ·rw [if_pos c1]
   exact Zvc h r _ he' (fun e h=>hs e (List.mem_cons_of_mem _ h))
  ·rw [if_neg c1]
   by_cases c2:same e y=true
   ·rw [if_pos c2]
    have e1:insN lt same n X (e :: r)=insN lt same n ((ins lt same y X).take n) r:=by
     show insN lt same n ((ins lt same e X).take n) r=_
     rw [hs e (List.mem_cons_self ..) c2]
    rw [e1,← Zo1 r _ he',Zn9,Zqr h]
   ·rw [if_neg c2]
    exact Zo1 (e :: r) X he
end
theorem Zxj:∀ {A B:Zbf},NS A → (∀ e ∈ A,hasN B e.Name=true) → A.length ≤ B.length
 | [],B,_,_=>Nat.zero_le _
 | a :: A,B,hA,h=>by
  obtain ⟨a1,a2⟩:=List.pairwise_cons.1 hA
  have hB:=h a (List.mem_cons_self ..)
  have key:∀ (B:Zbf),hasN B a.Name=true → (B.filter fun e=>!sEq e.Name a.Name).length + 1 ≤ B.length:=fun B=>by
   induction B with
   | nil=>intro h;cases h
   | cons b B ih =>
    intro h
    unfold hasN at h
    rw [List.any_cons] at h
    by_cases hb:sEq b.Name a.Name=true
    ·rw [List.filter_cons_of_neg (by rw [hb];simp)]
     have:=List.length_filter_le (fun e:Zd=>!sEq e.Name a.Name) B
     simp;omega
    ·rw [List.filter_cons_of_pos (by simpa using hb)]
     rw [Bool.eq_false_iff.2 hb,Bool.false_or] at h
     have:=ih h
     simp;omega
  have:=Zxj (A:=A) (B:=B.filter fun e=>!sEq e.Name a.Name) a2 fun e he=>by
   have h1:=h e (List.mem_cons_of_mem _ he)
   have h2:=a1 e he
   unfold hasN at h1 ⊢
   obtain ⟨b,hb,hb2⟩:=List.any_eq_true.1 h1
   refine List.any_eq_true.2 ⟨b,List.mem_filter.2 ⟨hb,?_⟩,hb2⟩
   rw [Zg9.1 hb2,Zjt.2 (fun e=>Zpe h2 e.symm)]
   rfl
  have:=key B hB
  simp only [List.length_cons]
  omega
def jA (e:Zd):Zg:={ Kind:=(18:Int),Key:=(⟨#[107]⟩:ByteArray),N:=(0:Int),X:=(0:Nat),S:=e.Name,Make:=(default:Za),Must:=false }
def oA (e:Zd):Zg:={ Kind:=(21:Int),Key:=(⟨#[107]⟩:ByteArray),N:=(0:Int),X:=e.Score,S:=e.Name,Make:=(default:Za),Must:=false }
def mA (k:Int) (e:Zd):Zg:=if k=9 then oA e else jA e
theorem k107:(sEq (⟨#[107]⟩:ByteArray) ⟨#[]⟩ || decide ((24:Int) < ((⟨#[107]⟩:ByteArray).size:Int)))=false:=by kernel_rfl
theorem jA_d {e:Zd} (h:e.Name.size ≤ 16):ActD 8 (jA e):=by
 refine ⟨Zw9 e,?_,by simp [jA],on18⟩
 have hs:=Zi2 (a:=jA e) (Zw9 e).ok (w:=⟨#[106,111,105,110]⟩) (on:=8) (has:=⟨#[115]⟩) (c:=5) (n:=false) (x:=false) (s:=true) (m:=false) (by kernel_rfl) (by kernel_rfl) (by kernel_rfl) (by kernel_rfl) (by kernel_rfl) (by kernel_rfl) (by kernel_rfl)
 rw [hs]
 have h1:decide ((if ((8:Int) == 1)=true then (64:Int) else 16) < ((jA e).S.size:Int))=false:=by
  have:((8:Int) == 1)=false:=rfl
  rw [this]
  simp only [Bool.false_eq_true,if_false]
  show decide ((16:Int) < (e.Name.size:Int))=false
  simp;omega
 unfold actD
 rw [h1]
 have h2:(sEq (jA e).Key ⟨#[]⟩ || decide ((24:Int) < ((jA e).Key.size:Int)))=false:=k107
 have h3:Zjk (jA e).Make zrc=true:=by kernel_rfl
 have h4:decide ((jA e).X=Zbh (jA e).X)=true:=by kernel_rfl
 rw [h2,h3,h4]
 have h5:decide (keyf (jA e).X=keyf 0)=true:=by kernel_rfl
 rw [h5]
 rfl
theorem oA_d {e:Zd} (h:e.Name.size ≤ 16) (hw:e.Score < W64) (hc:e.Score=Zbh e.Score):ActD 9 (oA e):=by
 refine ⟨Zxc hw,?_,by simp [oA],on21⟩
 have hs:=Zi2 (a:=oA e) (Zxc hw).ok (w:=⟨#[111,102,102,101,114]⟩) (on:=9) (has:=⟨#[120,115]⟩) (c:=5) (n:=false) (x:=true) (s:=true) (m:=false) (by kernel_rfl) (by kernel_rfl) (by kernel_rfl) (by kernel_rfl) (by kernel_rfl) (by kernel_rfl) (by kernel_rfl)
 rw [hs]
 have h1:decide ((if ((9:Int) == 1)=true then (64:Int) else 16) < ((oA e).S.size:Int))=false:=by
  have:((9:Int) == 1)=false:=rfl
  rw [this]
  simp only [Bool.false_eq_true,if_false]
  show decide ((16:Int) < (e.Name.size:Int))=false
  simp;omega
 unfold actD
 rw [h1]
 have h2:(sEq (oA e).Key ⟨#[]⟩ || decide ((24:Int) < ((oA e).Key.size:Int)))=false:=k107
 have h3:Zjk (oA e).Make zrc=true:=by kernel_rfl
 have h4:decide ((oA e).X=Zbh (oA e).X)=true:=decide_eq_true hc
 rw [h2,h3,h4]
 rfl
theorem mA_d {k:Int} {e:Zd} (hk:k=8 ∨ k=9) (h:Zl5 k e) (hw:e.Score < W64):ActD k (mA k e):=by
 rcases hk with rfl | rfl
 ·exact jA_d h.1
 ·exact oA_d h.1 hw h.2.2
def sk (k:Int):Int:=if k=3 ∨ k=4 then 2 else k
def sa (a:Zg):Zg:=if a.Kind=8 ∨ a.Kind=10 then { a with Kind:=7 } else if a.Kind=11 then { a with Kind:=7,N:=IntKind.i64.wrap (0 - a.N) } else a
theorem Zr8 {a:Zg} (ha:ActIn a) (hc:Zeg a=some 0) (hk:a.Kind=8 ∨ a.Kind=10 ∨ a.Kind=11) {m:Int} (hm:I64 m):Zeg { a with Kind:=7,N:=m }=some 0:=by
 obtain ⟨c,c1,_⟩:=Zki ha.ok.1
 have hb:Zpn { a with Kind:=7,N:=m }:=⟨ha.ok.1,ha.ok.2⟩
 rw [Zi2 (a:={ a with Kind:=7,N:=m }) hb (w:=⟨#[97,100,100]⟩) (on:=2) (has:=⟨#[110]⟩) (c:=c) (n:=true) (x:=false) (s:=false) (m:=false) c1 (by kernel_rfl) (by kernel_rfl) (by kernel_rfl) (by kernel_rfl) (by kernel_rfl) (by kernel_rfl)]
 have key:∃ k2,actD true false false false false false k2 c a=0:=by
  rcases hk with h | h | h
  ·rw [Zi2 (a:=a) ha.ok (w:=⟨#[112,108,117,115]⟩) (on:=3) (has:=⟨#[110]⟩) (c:=c) (n:=true) (x:=false) (s:=false) (m:=false) c1 (by rw [h];kernel_rfl) (by kernel_rfl) (by kernel_rfl) (by kernel_rfl) (by kernel_rfl) (by kernel_rfl),h] at hc
   exact ⟨_,Option.some.inj hc⟩
  ·rw [Zi2 (a:=a) ha.ok (w:=⟨#[105,110]⟩) (on:=4) (has:=⟨#[110]⟩) (c:=c) (n:=true) (x:=false) (s:=false) (m:=false) c1 (by rw [h];kernel_rfl) (by kernel_rfl) (by kernel_rfl) (by kernel_rfl) (by kernel_rfl) (by kernel_rfl),h] at hc
   exact ⟨_,Option.some.inj hc⟩
  ·rw [Zi2 (a:=a) ha.ok (w:=⟨#[111,117,116]⟩) (on:=4) (has:=⟨#[110]⟩) (c:=c) (n:=true) (x:=false) (s:=false) (m:=false) c1 (by rw [h];kernel_rfl) (by kernel_rfl) (by kernel_rfl) (by kernel_rfl) (by kernel_rfl) (by kernel_rfl),h] at hc
   exact ⟨_,Option.some.inj hc⟩
 obtain ⟨k2,h⟩:=key
 show some (actD true false false false false false false c { a with Kind:=7,N:=m })=some 0
 congr 1
 unfold actD at h ⊢
 simp only [Bool.true_or,Bool.true_and,Bool.false_or,Bool.false_and,Bool.false_eq_true,if_false] at h ⊢
 revert h
 generalize (sEq a.Key ⟨#[]⟩ || decide ((24:Int) < a.Key.size))=b1
 generalize decide (keyf a.X=keyf 0)=b2
 generalize sEq a.S ⟨#[]⟩=b3
 generalize Zjk a.Make zrc=b4
 generalize decide ((16:Int) < (a.S.size:Int))=b5
 generalize (k2 && (decide (a.N < 0) || decide (2305843009213693952 < a.N)))=b6
 generalize decide (a.X=Zbh a.X)=b7
 cases b1 <;> cases b2 <;> cases b3 <;> cases b4 <;> cases b5 <;> cases b6 <;> cases b7 <;> simp
theorem sa_d {k:Int} {a:Zg} (h:ActD k a):ActD (sk k) (sa a):=by
 have hn:=h.in_.n
 rcases h.cases with ⟨rfl,e⟩ | ⟨rfl,e⟩ | ⟨rfl,e⟩ | ⟨rfl,e⟩ | ⟨rfl,e⟩ | ⟨rfl,e⟩ | ⟨rfl,e⟩
 ·have:sa a=a:=by unfold sa;rw [e];rfl
  rw [this];exact h
 ·have:sa a={ a with Kind:=7,N:=a.N }:=by unfold sa;rw [if_pos (.inl e)]
  rw [this]
  exact ⟨⟨⟨h.in_.ok.1,h.in_.ok.2⟩,hn,h.in_.mkr⟩,Zr8 h.in_ h.chk (.inl e) hn,.inl rfl,on7⟩
 ·rcases e with e | e
  ·have:sa a={ a with Kind:=7,N:=a.N }:=by unfold sa;rw [if_pos (.inr e)]
   rw [this]
   exact ⟨⟨⟨h.in_.ok.1,h.in_.ok.2⟩,hn,h.in_.mkr⟩,Zr8 h.in_ h.chk (.inr (.inl e)) hn,.inl rfl,on7⟩
  ·have:sa a={ a with Kind:=7,N:=IntKind.i64.wrap (0 - a.N) }:=by unfold sa;rw [if_neg (by omega),if_pos e]
   rw [this]
   exact ⟨⟨⟨h.in_.ok.1,h.in_.ok.2⟩,Zku _,h.in_.mkr⟩,Zr8 h.in_ h.chk (.inr (.inr e)) (Zku _),.inl rfl,on7⟩
 ·have:sa a=a:=by unfold sa;rw [e];rfl
  rw [this];exact h
 ·have:sa a=a:=by unfold sa;rw [e];rfl
  rw [this];exact h
 ·have:sa a=a:=by unfold sa;rw [e];rfl
  rw [this];exact h
 ·have:sa a=a:=by unfold sa;rw [e];rfl
  rw [this];exact h
structure Sl (r s:Za):Prop where
 w:RecW s
 g:Zbv s
 kind:s.Kind=sk r.Kind
 cap8:r.Kind=8 → s.Cap=32
 cap9:r.Kind=9 → s.Cap=r.Cap
def mrg (x s:Za):Za :=
 if x.Kind=2 ∨ x.Kind=3 ∨ x.Kind=4 then { x with Num:=IntKind.i64.wrap (x.Num + s.Num) }
 else if x.Kind=5 then { x with Real:=fmx x.Real s.Real }
 else if x.Kind=6 then { x with Real:=fmn x.Real s.Real }
 else effs x (s.List.map (mA x.Kind))
theorem Ztd:∀ (B:List Zg) (x:Za),(effs x B).Kind=x.Kind ∧ (effs x B).Cap=x.Cap
 | [],x=>⟨rfl,rfl⟩
 | a :: B,x=>by
  obtain ⟨h1,h2⟩:=Ztd B (eff x a)
  obtain ⟨k1,k2,_⟩:=Zks x a
  exact ⟨h1.trans k1,h2.trans k2⟩
theorem Zj5 (x s:Za):(mrg x s).Kind=x.Kind ∧ (mrg x s).Cap=x.Cap:=by
 unfold mrg
 split
 ·exact ⟨rfl,rfl⟩
 ·split
  ·exact ⟨rfl,rfl⟩
  ·split
   ·exact ⟨rfl,rfl⟩
   ·exact Ztd _ _
theorem Zer {x s:Za} (h:x.Kind=8 ∨ x.Kind=9):mrg x s=effs x (s.List.map (mA x.Kind)):=by
 unfold mrg
 rw [if_neg (by omega),if_neg (by omega),if_neg (by omega)]
theorem Zg2 {x s:Za} (h:x.Kind=2 ∨ x.Kind=3 ∨ x.Kind=4):mrg x s={ x with Num:=IntKind.i64.wrap (x.Num + s.Num) }:=if_pos h
theorem Zkh {x s:Za} (h:x.Kind=5):mrg x s={ x with Real:=fmx x.Real s.Real }:=by
 unfold mrg
 rw [if_neg (by omega),if_pos h]
theorem Zkc {x s:Za} (h:x.Kind=6):mrg x s={ x with Real:=fmn x.Real s.Real }:=by
 unfold mrg
 rw [if_neg (by omega),if_neg (by omega),if_pos h]
theorem Zue {x:Za} {a:Zg} (h:a.Kind=13):eff x a={ x with Real:=fmx x.Real a.X }:=Zm5 h
theorem Zub {x:Za} {a:Zg} (h:a.Kind=14):eff x a={ x with Real:=fmn x.Real a.X }:=Zm6 h
theorem Zob {r s:Za} (h:Sl r s) (hk:r.Kind=8 ∨ r.Kind=9):(∀ e ∈ s.List,Zl5 r.Kind e ∧ e.Score < W64) ∧ (r.Kind=8 → NS s.List) ∧ (r.Kind=9 → BS s.List) ∧ (s.List.length:Int) ≤ s.Cap:=by
 have hsk:s.Kind=r.Kind:=by rw [h.kind];unfold sk;rw [if_neg (by omega)]
 obtain ⟨c1,c2,c3,c4⟩:=h.g.2.2.2.2.2.2 (by omega)
 obtain ⟨i1,i2,i3⟩:=Zow.1 c4
 rw [hsk] at i1 i2 i3
 exact ⟨fun e he=>⟨i1 e he,h.w.ok.sc e he⟩,i2,i3,c3⟩
theorem Zls {r s:Za} (h:Sl r s) (hk:r.Kind=8 ∨ r.Kind=9):∀ b ∈ s.List.map (mA r.Kind),ActD r.Kind b:=fun b hb=>by
 obtain ⟨e,he,rfl⟩:=List.mem_map.1 hb
 obtain ⟨i1,i2⟩:=(Zob h hk).1 e he
 exact mA_d hk i1 i2
theorem Ze4 {s:Za} (hg:Zbv s):s.Real=Zbh s.Real:=hg.2.2.2.2.2.1
theorem Zlq {k:Int} {a:Zg} (ha:ActD k a) (hk:k=2 ∨ k=3 ∨ k=4):∃ m:Int,(∀ r:Za,eff r a={ r with Num:=IntKind.i64.wrap (r.Num + m) }) ∧ ∀ s:Za,eff s (sa a)={ s with Num:=IntKind.i64.wrap (s.Num + m) }:=by
 by_cases h11:a.Kind=11
 ·refine ⟨-a.N,fun r=>by rw [Zse h11,Int.sub_eq_add_neg],fun s=>?_⟩
  have:sa a={ a with Kind:=7,N:=IntKind.i64.wrap (0 - a.N) }:=by unfold sa;rw [if_neg (by omega),if_pos h11]
  rw [this,Zh7 (.inl rfl)]
  have:IntKind.i64.wrap (s.Num + IntKind.i64.wrap (0 - a.N))=IntKind.i64.wrap (s.Num + -a.N):=by
   simp only [IntKind.wrap_i64];omega
  show ({ s with Num:=IntKind.i64.wrap (s.Num + IntKind.i64.wrap (0 - a.N)) }:Za)=_
  rw [this]
 ·have hk3:a.Kind=7 ∨ a.Kind=8 ∨ a.Kind=10:=by rcases ha.cases with c | c | c | c | c | c | c <;> omega
  refine ⟨a.N,fun r=>Zh7 hk3,fun s=>?_⟩
  unfold sa
  by_cases h7:a.Kind=8 ∨ a.Kind=10
  ·rw [if_pos h7,Zh7 (.inl rfl)]
  ·rw [if_neg h7,if_neg h11,Zh7 hk3]
theorem Zt1 (x y z:Int):IntKind.i64.wrap (IntKind.i64.wrap (x + y) + z)=IntKind.i64.wrap (IntKind.i64.wrap (x + z) + y):=by simp only [IntKind.wrap_i64];omega
theorem Zx8 (x y z:Int):IntKind.i64.wrap (x + IntKind.i64.wrap (y + z))=IntKind.i64.wrap (IntKind.i64.wrap (x + y) + z):=by simp only [IntKind.wrap_i64];omega
theorem Z0d (x y z:Nat):fmx x (fmx y z)=fmx (fmx x y) z:=by
 unfold fmx
 by_cases c1:keyf y < keyf z <;> by_cases c2:keyf x < keyf y <;> simp only [c1,c2,if_true,if_false]
 ·rw [if_pos (by omega)]
 ·rw [if_neg (by omega)]
theorem Zz8 (x y z:Nat):fmn x (fmn y z)=fmn (fmn x y) z:=by
 unfold fmn
 by_cases c1:keyf z < keyf y <;> by_cases c2:keyf y < keyf x <;> simp only [c1,c2,if_true,if_false]
 ·rw [if_pos (by omega)]
 ·rw [if_neg (by omega)]
theorem Z4w {x s:Za} {a:Zg} (ha:ActD x.Kind a) (hs:Sl x s):mrg (eff x a) s=eff (mrg x s) a:=by
 have haw:=ha.w
 rcases ha.cases with ⟨k,e⟩ | ⟨k,e⟩ | ⟨k,e⟩ | ⟨k,e⟩ | ⟨k,e⟩ | ⟨k,e⟩ | ⟨k,e⟩
 ·obtain ⟨m,h1,_⟩:=Zlq ha (.inl k)
  rw [h1 x,Zg2 (.inl k),h1,Zg2 (x:={ x with Num:=IntKind.i64.wrap (x.Num + m) }) (.inl k)]
  show ({ x with Num:=IntKind.i64.wrap (IntKind.i64.wrap (x.Num + m) + s.Num) }:Za)={ x with Num:=IntKind.i64.wrap (IntKind.i64.wrap (x.Num + s.Num) + m) }
  rw [Zt1]
 ·obtain ⟨m,h1,_⟩:=Zlq ha (.inr (.inl k))
  rw [h1 x,Zg2 (.inr (.inl k)),h1,Zg2 (x:={ x with Num:=IntKind.i64.wrap (x.Num + m) }) (.inr (.inl k))]
  show ({ x with Num:=IntKind.i64.wrap (IntKind.i64.wrap (x.Num + m) + s.Num) }:Za)={ x with Num:=IntKind.i64.wrap (IntKind.i64.wrap (x.Num + s.Num) + m) }
  rw [Zt1]
 ·obtain ⟨m,h1,_⟩:=Zlq ha (.inr (.inr k))
  rw [h1 x,Zg2 (.inr (.inr k)),h1,Zg2 (x:={ x with Num:=IntKind.i64.wrap (x.Num + m) }) (.inr (.inr k))]
  show ({ x with Num:=IntKind.i64.wrap (IntKind.i64.wrap (x.Num + m) + s.Num) }:Za)={ x with Num:=IntKind.i64.wrap (IntKind.i64.wrap (x.Num + s.Num) + m) }
  rw [Zt1]
 ·rw [Zue e,Zkh k,Zue e,Zkh (x:={ x with Real:=fmx x.Real a.X }) k]
  exact congrArg (fun z=>({ x with Real:=z }:Za)) (Zqz haw.ok.2 hs.w.ok.real haw.xc (Ze4 hs.g) x.Real)
 ·rw [Zub e,Zkc k,Zub e,Zkc (x:={ x with Real:=fmn x.Real a.X }) k]
  exact congrArg (fun z=>({ x with Real:=z }:Za)) (Zqs haw.ok.2 hs.w.ok.real haw.xc (Ze4 hs.g) x.Real)
 ·have hk:=(Zks x a).1
  rw [Zer (.inl k),Zer (by rw [hk];exact .inl k),hk]
  exact Znt ha _ x (Zls hs (.inl k))
 ·have hk:=(Zks x a).1
  rw [Zer (.inr k),Zer (by rw [hk];exact .inr k),hk]
  exact Znt ha _ x (Zls hs (.inr k))
def zn (e:Zd):Zd:={ Score:=0,Name:=e.Name }
abbrev nlt:Zd → Zd → Bool:=fun e x=>Zcb x true e
abbrev nsm:Zd → Zd → Bool:=fun e x=>Zei x true e
abbrev blt:Zd → Zd → Bool:=fun e x=>Zcb x false e
abbrev bsm:Zd → Zd → Bool:=fun e x=>Zei x false e
def insF (X L:Zbf):Zbf:=L.foldl (fun X e=>ins nlt nsm e X) X
theorem Zov:∀ (L:Zbf) (x:Za),effs x (L.map jA)={ x with List:=insF x.List (L.map zn) }
 | [],x=>rfl
 | e :: L,x=>by
  have h1:effs x ((e :: L).map jA)=effs (eff x (jA e)) (L.map jA):=rfl
  have h2:eff x (jA e)={ x with List:=ins nlt nsm (zn e) x.List }:=by
   rw [Zhu (a:=jA e) rfl]
   show ({ x with List:=layL (zn e) true x.List }:Za)=_
   rw [Zd1]
  have h3:insF x.List ((e :: L).map zn)=insF (ins nlt nsm (zn e) x.List) (L.map zn):=rfl
  rw [h1,Zov L,h2,h3]
theorem Z3b (e:Zd):({ Score:=(oA e).X,Name:=(oA e).S }:Zd)=e:=by cases e;rfl
theorem Zn6:∀ (L:Zbf) (x:Za),effs x (L.map oA)={ x with List:=insN blt bsm x.Cap.toNat x.List L }
 | [],x=>rfl
 | e :: L,x=>by
  have h1:effs x ((e :: L).map oA)=effs (eff x (oA e)) (L.map oA):=rfl
  have h2:eff x (oA e)={ x with List:=(ins blt bsm e x.List).take x.Cap.toNat }:=by
   rw [Zjf (a:=oA e) rfl,Z3b,Zd1]
  have h3:insN blt bsm x.Cap.toNat x.List (e :: L)=insN blt bsm x.Cap.toNat ((ins blt bsm e x.List).take x.Cap.toNat) L:=rfl
  rw [h1,Zn6 L,h2,h3]
theorem Zpq {e y:Zd}:nlt e y=sLt e.Name y.Name:=by
 show Zcb y true e=_
 unfold Zcb
 rw [if_pos rfl]
theorem Zxi {e y:Zd}:nsm e y=sEq e.Name y.Name:=by
 show (sEq e.Name y.Name && (true || decide (keyf e.Score=keyf y.Score)))=_
 rw [Bool.true_or,Bool.and_true]
theorem Zyt (y:Zd):∀ L:Zbf,(ins nlt nsm y L).map zn=ins nlt nsm (zn y) (L.map zn)
 | []=>rfl
 | e :: r=>by
  have ih:=Zyt y r
  have h1:nlt (zn e) (zn y)=nlt e y:=by rw [Zpq,Zpq];rfl
  have h2:nsm (zn e) (zn y)=nsm e y:=by rw [Zxi,Zxi];rfl
  rw [List.map_cons]
  unfold ins
  rw [h1,h2]
  by_cases c1:nlt e y=true
  ·rw [if_pos c1,if_pos c1,List.map_cons,ih]
  ·rw [if_neg c1,if_neg c1]
   by_cases c2:nsm e y=true
   ·rw [if_pos c2,if_pos c2,List.map_cons]
   ·rw [if_neg c2,if_neg c2,List.map_cons,List.map_cons]
theorem Zxk {e y:Zd} (h:nsm (zn e) (zn y)=true):zn e=zn y:=by
 have h:(sEq e.Name y.Name && (true || decide (keyf (0:Nat)=keyf 0)))=true:=h
 have h:sEq e.Name y.Name=true:=by simpa using h
 unfold zn
 rw [Zg9.1 h]
theorem Z4f (e y:Zd) (X:Zbf):ins nlt nsm (zn y) (ins nlt nsm (zn e) X)=ins nlt nsm (zn e) (ins nlt nsm (zn y) X):=Zqy Zmr (fun h=>Zxk h) X
theorem Zo3 (y:Zd):∀ (L X:Zbf),insF (ins nlt nsm (zn y) X) (L.map zn)=ins nlt nsm (zn y) (insF X (L.map zn))
 | [],X=>rfl
 | e :: L,X=>by
  show insF (ins nlt nsm (zn e) (ins nlt nsm (zn y) X)) (L.map zn)=_
  rw [← Z4f]
  exact Zo3 y L _
theorem Zvq (y:Zd):∀ (L X:Zbf),insF X (ins nlt nsm (zn y) (L.map zn))=ins nlt nsm (zn y) (insF X (L.map zn))
 | [],X=>rfl
 | e :: r,X=>by
  simp only [ins,List.map_cons]
  by_cases c1:nlt (zn e) (zn y)=true
  ·rw [if_pos c1]
   exact Zvq y r _
  ·rw [if_neg c1]
   by_cases c2:nsm (zn e) (zn y)=true
   ·rw [if_pos c2]
    have e1:insF X (zn e :: r.map zn)=insF (ins nlt nsm (zn y) X) (r.map zn):=by
     show insF (ins nlt nsm (zn e) X) (r.map zn)=_
     rw [Zxk c2]
    rw [e1,Zo3,Zqr Zmr]
   ·rw [if_neg c2]
    exact Zo3 y (e :: r) X
theorem Z59 {x s:Za} {a:Zg} (ha:ActD x.Kind a) (hs:Sl x s):mrg x (eff s (sa a))=eff (mrg x s) a:=by
 have haw:=ha.w
 rcases ha.cases with ⟨k,e⟩ | ⟨k,e⟩ | ⟨k,e⟩ | ⟨k,e⟩ | ⟨k,e⟩ | ⟨k,e⟩ | ⟨k,e⟩
 ·obtain ⟨m,h1,h2⟩:=Zlq ha (.inl k)
  rw [h2,Zg2 (.inl k),Zg2 (.inl k),h1]
  show ({ x with Num:=IntKind.i64.wrap (x.Num + IntKind.i64.wrap (s.Num + m)) }:Za)={ x with Num:=IntKind.i64.wrap (IntKind.i64.wrap (x.Num + s.Num) + m) }
  rw [Zx8]
 ·obtain ⟨m,h1,h2⟩:=Zlq ha (.inr (.inl k))
  rw [h2,Zg2 (.inr (.inl k)),Zg2 (.inr (.inl k)),h1]
  show ({ x with Num:=IntKind.i64.wrap (x.Num + IntKind.i64.wrap (s.Num + m)) }:Za)={ x with Num:=IntKind.i64.wrap (IntKind.i64.wrap (x.Num + s.Num) + m) }
  rw [Zx8]
 ·obtain ⟨m,h1,h2⟩:=Zlq ha (.inr (.inr k))
  rw [h2,Zg2 (.inr (.inr k)),Zg2 (.inr (.inr k)),h1]
  show ({ x with Num:=IntKind.i64.wrap (x.Num + IntKind.i64.wrap (s.Num + m)) }:Za)={ x with Num:=IntKind.i64.wrap (IntKind.i64.wrap (x.Num + s.Num) + m) }
  rw [Zx8]
 ·have hsa:sa a=a:=by unfold sa;rw [e];rfl
  rw [hsa,Zue e,Zkh k,Zkh k,Zue e]
  exact congrArg (fun z=>({ x with Real:=z }:Za)) (Z0d x.Real s.Real a.X)
 ·have hsa:sa a=a:=by unfold sa;rw [e];rfl
  rw [hsa,Zub e,Zkc k,Zkc k,Zub e]
  exact congrArg (fun z=>({ x with Real:=z }:Za)) (Zz8 x.Real s.Real a.X)
 ·have hsa:sa a=a:=by unfold sa;rw [e];rfl
  rw [hsa,Zer (.inl k),Zer (.inl k),k]
  have hm:mA 8=jA:=by funext e;rfl
  rw [hm,Zov,Zov,Zhu e,Zhu e]
  show ({ x with List:=insF x.List ((layL { Score:=0,Name:=a.S } true s.List).map zn) }:Za)={ x with List:=layL { Score:=0,Name:=a.S } true (insF x.List (s.List.map zn)) }
  rw [Zd1,Zd1]
  have:=Zyt { Score:=0,Name:=a.S } s.List
  rw [show (ins (fun e x=>Zcb x true e) (fun e x=>Zei x true e) { Score:=0,Name:=a.S } s.List).map zn=ins nlt nsm (zn { Score:=0,Name:=a.S }) (s.List.map zn) from this,Zvq]
  rfl
 ·have hsa:sa a=a:=by unfold sa;rw [e];rfl
  obtain ⟨i1,_,i3,i4⟩:=Zob hs (.inr k)
  have hcap:=hs.cap9 k
  obtain ⟨g1,g2,g3,g4⟩:=hs.g.2.2.2.2.2.2 (by rw [hs.kind,k];decide)
  rw [hsa,Zer (.inr k),Zer (.inr k),k]
  have hm:mA 9=oA:=by funext e;rfl
  rw [hm,Zn6,Zn6,Zjf e,Zjf e]
  show ({ x with List:=insN blt bsm x.Cap.toNat x.List ((layL { Score:=a.X,Name:=a.S } false s.List).take s.Cap.toNat) }:Za)={ x with List:=(layL { Score:=a.X,Name:=a.S } false (insN blt bsm x.Cap.toNat x.List s.List)).take x.Cap.toNat }
  rw [hcap,Zd1,Zd1]
  have hc:∀ e ∈ s.List,∀ X,(ins blt bsm { Score:=a.X,Name:=a.S } ((ins blt bsm e X).take x.Cap.toNat)).take x.Cap.toNat=(ins blt bsm e ((ins blt bsm { Score:=a.X,Name:=a.S } X).take x.Cap.toNat)).take x.Cap.toNat:=fun e he X=>by
   obtain ⟨⟨_,_,c1⟩,c2⟩:=i1 e he
   have:=Zof (x:={ Score:=a.X,Name:=a.S }) (y:=e) haw.ok.2 c2 haw.xc c1 x.Cap.toNat X
   rw [Zd1,Zd1,Zd1,Zd1] at this
   exact this
  have hsm:∀ e ∈ s.List,bsm e { Score:=a.X,Name:=a.S }=true → ∀ X,ins blt bsm e X=ins blt bsm { Score:=a.X,Name:=a.S } X:=fun e he h X=>by
   obtain ⟨⟨_,_,c1⟩,c2⟩:=i1 e he
   obtain ⟨h1,h2⟩:=Zl8.1 h
   have h3:=Zod c2 haw.ok.2 c1 haw.xc h2
   obtain ⟨e1,e2⟩:=e
   have h1:e2=a.S:=h1
   have h3:e1=a.X:=h3
   rw [h1,h3]
  have hall:=Zvc Zn7 (n:=x.Cap.toNat) (y:={ Score:=a.X,Name:=a.S }) s.List x.List hc hsm
  refine congrArg (fun z=>({ x with List:=z }:Za)) ?_
  rw [← hall]
  by_cases hlen:(ins blt bsm { Score:=a.X,Name:=a.S } s.List).length ≤ x.Cap.toNat
  ·rw [List.take_of_length_le hlen]
  ·have hil:=Zwq (lt:=blt) (same:=bsm) { Score:=a.X,Name:=a.S } s.List
   have hsorted:=Zsa Zn7 (x:={ Score:=a.X,Name:=a.S }) (i3 k)
   generalize hZ:ins blt bsm { Score:=a.X,Name:=a.S } s.List=Z at *
   have hzl:Z.length=x.Cap.toNat + 1:=by omega
   have hzz:Z=Z.take x.Cap.toNat ++ [Z[x.Cap.toNat]]:=by
    have:=List.take_append_drop x.Cap.toNat Z
    rw [List.drop_eq_getElem_cons (by omega),List.drop_of_length_le (by omega)] at this
    exact this.symm
   have:=Zz4 Zn7 (n:=x.Cap.toNat) x.List (Q:=Z.take x.Cap.toNat) (z:=Z[x.Cap.toNat]) (by rw [List.length_take];omega) (by omega) (by rw [← hzz];exact hsorted)
   rw [← hzz] at this
   exact this.symm
theorem Z4l {l:Zbf} (hs:NS l) (s:ByteArray):NS (layL { Score:=0,Name:=s } true l):=by
 rw [Zd1]
 have h0:l.Pairwise fun a b=>nlt a b=true:=hs.imp fun {a b} h=>by rw [Zpq];exact h
 exact (Zsa Zmr (x:={ Score:=0,Name:=s }) h0).imp fun {a b} h=>by
  have h:nlt a b=true:=h
  rw [Zpq] at h;exact h
theorem Z69 {r s:Za} {a:Zg} (hs:Sl r s) (ha:ActD r.Kind a) (h8:r.Kind=8 → (layL { Score:=0,Name:=a.S } true s.List).length ≤ 32):Ziz s a=some (eff s (sa a)) ∧ Sl r (eff s (sa a)):=by
 have hd:ActD s.Kind (sa a):=by rw [hs.kind];exact sa_d ha
 have hsk:=hs.kind
 have hroom:Room s [sa a]:=by
  by_cases hk:r.Kind=8
  ·have hk8:s.Kind=8:=by rw [hsk,hk];rfl
   have ha18:a.Kind=18:=by rcases ha.cases with c | c | c | c | c | c | c <;> omega
   have hsa:sa a=a:=by unfold sa;rw [ha18];rfl
   have h32:=h8 hk
   have hcap:=hs.cap8 hk
   have hns:=(Zob hs (.inl hk)).2.1 hk
   have hu:upR s=32 - (s.List.length:Int):=by simp [upR,hk8,hcap]
   have hdn:dnR s=0:=by simp [dnR,hk8]
   have hda:dC a=0:=by simp [dC,ha18]
   have hua:uC s.List a=if hasN s.List a.S=true then 0 else 1:=by simp [uC,ha18]
   unfold Room
   rw [hsa,hu,hdn]
   simp only [su,sd,hda,hua]
   refine ⟨?_,by omega⟩
   by_cases hi:hasN s.List a.S=true
   ·rw [if_pos hi]
    rw [Zus hns hi] at h32
    omega
   ·rw [if_neg hi]
    have:isAt a.S s.List=false:=by rw [← Zj1 hns];exact Bool.eq_false_iff.2 hi
    rw [Zj9,if_neg (by rw [this];simp)] at h32
    have hpl:=Zk3 (fun e=>sLt e.Name a.S) s.List
    simp at h32
    omega
  ·have hz:upR s=0 ∧ dnR s=0:=by
    have:s.Kind ≠ 3 ∧ s.Kind ≠ 4 ∧ s.Kind ≠ 8:=by
     rw [hsk];unfold sk
     split
     ·decide
     ·rename_i h;exact ⟨fun e=>h (.inl e),fun e=>h (.inr e),hk⟩
    unfold upR dnR
    rw [if_neg this.1,if_neg this.2.1,if_neg this.2.2,if_neg this.1,if_neg this.2.1]
    exact ⟨rfl,rfl⟩
   have hz2:uC s.List (sa a)=0 ∧ dC (sa a)=0:=by
    have hc:=hd.cases
    have:(sa a).Kind ≠ 8 ∧ (sa a).Kind ≠ 10 ∧ (sa a).Kind ≠ 11 ∧ (sa a).Kind ≠ 18:=by
     have:s.Kind ≠ 3 ∧ s.Kind ≠ 4 ∧ s.Kind ≠ 8:=by
      rw [hsk];unfold sk
      split
      ·decide
      ·rename_i h;exact ⟨fun e=>h (.inl e),fun e=>h (.inr e),hk⟩
     rcases hc with c | c | c | c | c | c | c <;> omega
    unfold uC dC
    rw [if_neg (by omega),if_neg (by omega),if_neg (by omega),if_neg (by omega)]
    exact ⟨rfl,rfl⟩
   unfold Room
   simp only [su,sd,hz.1,hz.2,hz2.1,hz2.2]
   omega
 obtain ⟨_,w2,w3,w4,_,w6⟩:=Zrz (B:=[]) hs.w hs.g hd (fun b hb=>by cases hb) hroom
 have he:=Zks s (sa a)
 refine ⟨?_,w2,w3,w6.trans hs.kind,fun hk=>he.2.1.trans (hs.cap8 hk),fun hk=>he.2.1.trans (hs.cap9 hk)⟩
 have hdo:Ziz s a=Zht s (sa a):=by
  unfold Ziz Zju sa
  by_cases k8:a.Kind=8
  ·rw [if_pos (by simp [k8]),if_pos (by simp [k8]),if_pos (.inl k8)]
  ·rw [if_neg (by simpa using k8)]
   by_cases k10:a.Kind=10
   ·rw [if_pos (by simp [k10]),if_pos (.inr k10)]
   ·rw [if_neg (by simpa using k10),if_neg (show ¬ (a.Kind=8 ∨ a.Kind=10) by omega)]
    by_cases k11:a.Kind=11
    ·rw [if_pos (by simp [k11]),if_pos k11]
    ·rw [if_neg (by simpa using k11),if_neg k11]
 rw [hdo]
 unfold Zht
 rw [w4]
 rfl
theorem Zsw:∀ {A T:List Zg} {x:Za},RecW x → Zbv x → (∀ b ∈ A,ActD x.Kind b) → (∀ b ∈ T,ActD x.Kind b) → Room x (A ++ T) → Room (effs x A) T ∧ RecW (effs x A) ∧ Zbv (effs x A) ∧ (effs x A).Kind=x.Kind
 | [],T,x,hw,hg,_,_,h=>⟨h,hw,hg,rfl⟩
 | a :: A,T,x,hw,hg,hA,hT,h=>by
  obtain ⟨h1,h2,h3,_,_,h4⟩:=Zrz hw hg (hA a (List.mem_cons_self ..)) (fun b hb=>by
   rcases List.mem_append.1 hb with hb | hb
   ·exact hA b (List.mem_cons_of_mem _ hb)
   ·exact hT b hb) h
  obtain ⟨k1,k2,k3,k4⟩:=Zsw (A:=A) (T:=T) h2 h3 (fun b hb=>by rw [h4];exact hA b (List.mem_cons_of_mem _ hb)) (fun b hb=>by rw [h4];exact hT b hb) h1
  exact ⟨k1,k2,k3,k4.trans h4⟩
theorem Zqh {e:Za} (hl:e.List.length ≤ 1000):∀ (n i:Nat) {x:Za},i + n=e.List.length → RecW x → Zbv x → (x.Kind=8 ∨ x.Kind=9) → (∀ b ∈ e.List.map (mA x.Kind),ActD x.Kind b) → Room x ((e.List.drop i).map (mA x.Kind)) → Zdx e (n + 1) x (i:Int)=some (effs x ((e.List.drop i).map (mA x.Kind)))
 | 0,i,x,h,_,_,_,_,_=>by
  rw [Zdx,if_neg (by simp;omega),List.drop_of_length_le (by omega)]
  rfl
 | n + 1,i,x,h,hw,hg,hk,hA,hr=>by
  have hi:i < e.List.length:=by omega
  rw [List.drop_eq_getElem_cons hi,List.map_cons] at hr ⊢
  have hA':∀ b ∈ (e.List.drop (i + 1)).map (mA x.Kind),ActD x.Kind b:=fun b hb=>by
   obtain ⟨y,hy,rfl⟩:=List.mem_map.1 hb
   exact hA _ (List.mem_map.2 ⟨y,List.mem_of_mem_drop hy,rfl⟩)
  obtain ⟨s1,s2,s3,s4,_,s6⟩:=Zrz hw hg (hA _ (List.mem_map.2 ⟨_,List.getElem_mem hi,rfl⟩)) hA' hr
  have ih:=Zqh hl n (i + 1) (x:=eff x (mA x.Kind e.List[i])) (by omega) s2 s3 (by rw [s6];exact hk) (fun b hb=>by rw [s6] at hb ⊢;exact hA b hb) (by rw [s6];exact s1)
  rw [s6] at ih
  rw [Zdx,Z2i hi,if_pos rfl,Zcy hi]
  simp only [Option.bind_some]
  unfold Zh4
  rcases hk with k | k
  ·rw [if_neg (by simp [k])]
   have hm:mA x.Kind e.List[i]=jA e.List[i]:=by rw [k];rfl
   rw [hm] at s4 ih ⊢
   have s4:Zc3 x true ({ Kind:=(18:Int),Key:=(⟨#[107]⟩:ByteArray),N:=(0:Int),X:=(0:Nat),S:=(e.List[i]).Name,Make:=(default:Za),Must:=false }:Zg)=some (eff x (jA e.List[i]),true,ans 0):=s4
   rw [s4]
   simp only [Option.bind_some]
   rw [wr1 (by omega),ih]
   rfl
  ·rw [if_pos (by simp [k])]
   have hm:mA x.Kind e.List[i]=oA e.List[i]:=by rw [k];rfl
   rw [hm] at s4 ih ⊢
   have s4:Zc3 x true ({ Kind:=(21:Int),Key:=(⟨#[107]⟩:ByteArray),N:=(0:Int),X:=(e.List[i]).Score,S:=(e.List[i]).Name,Make:=(default:Za),Must:=false }:Zg)=some (eff x (oA e.List[i]),true,ans 0):=s4
   rw [s4]
   simp only [Option.bind_some]
   rw [wr1 (by omega),ih]
   rfl
def mJ (k:Int):List Za → List Zg
 | []=>[]
 | s :: ss=>s.List.map (mA k) ++ mJ k ss
theorem Zq6 (k:Int):∀ A B,mJ k (A ++ B)=mJ k A ++ mJ k B
 | [],B=>rfl
 | s :: A,B=>by simp only [List.cons_append,mJ,Zq6 k A B,List.append_assoc]
theorem Zxd {a b:Nat} (ha:a < W64) (hb:b < W64) (ca:a=Zbh a) (cb:b=Zbh b):Zge a b=some (fmx a b):=by
 unfold Zge fmx
 rw [Zkp ha hb,Zef ha,Zef hb,← ca,← cb]
 simp only [Option.bind_some]
 by_cases h:keyf a < keyf b
 ·rw [if_pos (by simpa using h),if_pos h]
 ·rw [if_neg (by simpa using h),if_neg h]
theorem Zwp {a b:Nat} (ha:a < W64) (hb:b < W64) (ca:a=Zbh a) (cb:b=Zbh b):Zgh a b=some (fmn a b):=by
 unfold Zgh fmn
 rw [Zkp hb ha,Zef ha,Zef hb,← ca,← cb]
 simp only [Option.bind_some]
 by_cases h:keyf b < keyf a
 ·rw [if_pos (by simpa using h),if_pos h]
 ·rw [if_neg (by simpa using h),if_neg h]
def MOk (x:Za) (T:List Zg):Prop:=(x.Kind=2 ∨ x.Kind=3 ∨ x.Kind=4) ∨ ((x.Kind=5 ∨ x.Kind=6) ∧ x.Real < W64 ∧ x.Real=Zbh x.Real) ∨ ((x.Kind=8 ∨ x.Kind=9) ∧ RecW x ∧ Zbv x ∧ Room x T)
theorem Zq4 {r x s:Za} (h:Sl r s) (k:x.Kind=r.Kind) (c:x.Cap=r.Cap):Sl x s:=⟨h.w,h.g,by rw [k];exact h.kind,fun hk=>h.cap8 (k ▸ hk),fun hk=>by rw [c];exact h.cap9 (k ▸ hk)⟩
theorem Zoi {ss:List Za} (hl:ss.length ≤ 1000):∀ (n i:Nat) {x:Za},i + n=ss.length → (∀ s ∈ ss,Sl x s) → MOk x (mJ x.Kind (ss.drop i)) → Zcz ss (n + 1) x (i:Int)=some ((ss.drop i).foldl mrg x)
 | 0,i,x,h,_,_=>by
  rw [Zcz,if_neg (by simp;omega),List.drop_of_length_le (by omega)]
  rfl
 | n + 1,i,x,h,hs,hm=>by
  have hi:i < ss.length:=by omega
  have hsi:=hs _ (List.getElem_mem hi)
  obtain ⟨mk,mc⟩:=Zj5 x ss[i]
  have hs':∀ s ∈ ss,Sl (mrg x ss[i]) s:=fun s h=>Zq4 (hs s h) mk mc
  have hacts:∀ s ∈ ss,(x.Kind=8 ∨ x.Kind=9) → ∀ b ∈ s.List.map (mA x.Kind),ActD x.Kind b:=fun s h hk=>Zls (hs s h) hk
  have hT:(x.Kind=8 ∨ x.Kind=9) → ∀ b ∈ mJ x.Kind (ss.drop (i + 1)),ActD x.Kind b:=fun hk=>by
   have:∀ (l:List Za),(∀ s ∈ l,s ∈ ss) → ∀ b ∈ mJ x.Kind l,ActD x.Kind b:=fun l=>by
    induction l with
    | nil=>intro _ b hb;cases hb
    | cons s l ih =>
     intro h b hb
     rcases List.mem_append.1 hb with hb | hb
     ·exact hacts s (h s (List.mem_cons_self ..)) hk b hb
     ·exact ih (fun s hs=>h s (List.mem_cons_of_mem _ hs)) b hb
   exact this _ fun s hs=>List.mem_of_mem_drop hs
  rw [List.drop_eq_getElem_cons hi,List.foldl_cons]
  rw [List.drop_eq_getElem_cons hi] at hm
  have next:MOk (mrg x ss[i]) (mJ (mrg x ss[i]).Kind (ss.drop (i + 1))):=by
   rcases hm with hk | ⟨hk,h1,h2⟩ | ⟨hk,h1,h2,h3⟩
   ·exact .inl (by rw [mk];exact hk)
   ·refine .inr (.inl ⟨by rw [mk];exact hk,?_⟩)
    rcases hk with k | k
    ·rw [Zkh k]
     show fmx x.Real (ss[i]).Real < W64 ∧ fmx x.Real (ss[i]).Real=Zbh (fmx x.Real (ss[i]).Real)
     unfold fmx
     split
     ·exact ⟨hsi.w.ok.real,Ze4 hsi.g⟩
     ·exact ⟨h1,h2⟩
    ·rw [Zkc k]
     show fmn x.Real (ss[i]).Real < W64 ∧ fmn x.Real (ss[i]).Real=Zbh (fmn x.Real (ss[i]).Real)
     unfold fmn
     split
     ·exact ⟨hsi.w.ok.real,Ze4 hsi.g⟩
     ·exact ⟨h1,h2⟩
   ·obtain ⟨k1,k2,k3,k4⟩:=Zsw h1 h2 (hacts _ (List.getElem_mem hi) hk) (hT hk) h3
    rw [mk,Zer hk]
    exact .inr (.inr ⟨by rw [k4];exact hk,k2,k3,k1⟩)
  have ih:=Zoi hl n (i + 1) (by omega) hs' next
  rw [Zcz,Z2i hi,if_pos rfl,Zcy hi]
  simp only [Option.bind_some]
  unfold Zgt
  rcases hm with hk | ⟨hk,h1,h2⟩ | ⟨hk,h1,h2,h3⟩
  ·rw [Zg2 hk] at ih ⊢
   unfold Zdw
   rw [wr1 (by omega)]
   rcases hk with k | k | k
   ·have b2:(x.Kind == (2:Int))=true:=by simp [k]
    simp only [b2,if_true];exact ih
   ·have b2:(x.Kind == (2:Int))=false:=by simp [k]
    have b3:(x.Kind == (3:Int))=true:=by simp [k]
    simp only [b2,b3,if_true,Bool.false_eq_true,if_false];exact ih
   ·have b2:(x.Kind == (2:Int))=false:=by simp [k]
    have b3:(x.Kind == (3:Int))=false:=by simp [k]
    have b4:(x.Kind == (4:Int))=true:=by simp [k]
    simp only [b2,b3,b4,if_true,Bool.false_eq_true,if_false];exact ih
  ·have b2:(x.Kind == (2:Int))=false:=by simp;omega
   have b3:(x.Kind == (3:Int))=false:=by simp;omega
   have b4:(x.Kind == (4:Int))=false:=by simp;omega
   simp only [b2,b3,b4,Bool.false_eq_true,if_false]
   unfold Zdw
   rcases hk with k | k
   ·have b5:(x.Kind == (5:Int))=true:=by simp [k]
    rw [Zkh k] at ih ⊢
    simp only [b5,if_true]
    rw [Zxd h1 hsi.w.ok.real h2 (Ze4 hsi.g)]
    simp only [Option.bind_some]
    rw [wr1 (by omega)];exact ih
   ·have b5:(x.Kind == (5:Int))=false:=by simp [k]
    have b6:(x.Kind == (6:Int))=true:=by simp [k]
    rw [Zkc k] at ih ⊢
    simp only [b5,b6,Bool.false_eq_true,if_false,if_true]
    rw [Zwp h1 hsi.w.ok.real h2 (Ze4 hsi.g)]
    simp only [Option.bind_some]
    rw [wr1 (by omega)];exact ih
  ·have b2:(x.Kind == (2:Int))=false:=by simp;omega
   have b3:(x.Kind == (3:Int))=false:=by simp;omega
   have b4:(x.Kind == (4:Int))=false:=by simp;omega
   have b5:(x.Kind == (5:Int))=false:=by simp;omega
   have b6:(x.Kind == (6:Int))=false:=by simp;omega
   simp only [b2,b3,b4,b5,b6,Bool.false_eq_true,if_false]
   have hll:(ss[i]).List.length ≤ 1000:=hsi.w.len
   have hl2:=Zqh (e:=ss[i]) hll (ss[i]).List.length 0 (by omega) h1 h2 hk (hacts _ (List.getElem_mem hi) hk) (by rw [List.drop_zero];exact Zo0 h3)
   rw [show ((0:Nat):Int)=0 from rfl,List.drop_zero] at hl2
   rw [Zer hk] at ih ⊢
   unfold Zh3 Zdw
   rw [show (Int.toNat (((ss[i]).List.length:Int) - (0:Int)) + 1)=(ss[i]).List.length + 1 by omega,hl2]
   simp only [Option.bind_some]
   rw [wr1 (by omega)]
   rcases hk with k | k
   ·have b8:(x.Kind == (8:Int))=true:=by simp [k]
    simp only [b8,if_true];exact ih
   ·have b8:(x.Kind == (8:Int))=false:=by simp [k]
    have b9:(x.Kind == (9:Int))=true:=by simp [k]
    simp only [b8,b9,if_true,Bool.false_eq_true,if_false];exact ih
theorem Z0q {r:Za} {ss:List Za} (hw:RecW r) (hg:Zbv r) (hk:r.Kind ≠ 1 ∧ r.Kind ≠ 7) (hl:ss.length ≤ 1000) (hs:∀ s ∈ ss,Sl r s) (hR:(r.Kind=8 ∨ r.Kind=9) → Room r (mJ r.Kind ss)):Zgs r ss=some (ss.foldl mrg r):=by
 have h1:=hg.1
 have h2:=hg.2.1
 unfold Zgs
 rw [Zf2 hw.len]
 simp only [Option.bind_some]
 have:=Zoi hl ss.length 0 (x:=r) (by omega) hs (by
  rw [List.drop_zero]
  by_cases k1:r.Kind=2 ∨ r.Kind=3 ∨ r.Kind=4
  ·exact .inl k1
  ·by_cases k2:r.Kind=5 ∨ r.Kind=6
   ·exact .inr (.inl ⟨k2,hw.ok.real,Ze4 hg⟩)
   ·exact .inr (.inr ⟨by omega,hw,hg,hR (by omega)⟩))
 rw [show ((0:Nat):Int)=0 from rfl,List.drop_zero] at this
 rw [show (Int.toNat ((ss.length:Int) - (0:Int)) + 1)=ss.length + 1 by omega,this]
 rfl
theorem uC_j (l:Zbf) (k:Int) (e:Zd):uC l (mA 8 e)=if hasN l e.Name=true then 0 else 1:=rfl
theorem Z1l {R:Zbf}:∀ {L:Zbf},NS L → (L.length:Int) ≤ (R.length:Int) + su R (L.map (mA 8)):=fun {L} hs=>by
 have h1:∀ L:Zbf,(L.length:Int)=((L.filter fun e=>hasN R e.Name).length:Int) + su R (L.map (mA 8)):=fun L=>by
  induction L with
  | nil=>rfl
  | cons e L ih =>
   rw [List.map_cons]
   simp only [su,List.length_cons]
   rw [uC_j R 8 e]
   by_cases h:hasN R e.Name=true
   ·rw [List.filter_cons_of_pos (p:=fun e:Zd=>hasN R e.Name) h,if_pos h,List.length_cons];omega
   ·rw [List.filter_cons_of_neg (p:=fun e:Zd=>hasN R e.Name) h,if_neg h];omega
 have h2:=Zxj (A:=L.filter fun e=>hasN R e.Name) (B:=R) (List.Pairwise.sublist List.filter_sublist hs) (fun e he=>(List.mem_filter.1 he).2)
 have:=h1 L
 omega
theorem Z6m {R:Zbf} {L:Zbf} (hs:NS L) (s:ByteArray):su R ((layL { Score:=0,Name:=s } true L).map (mA 8)) ≤ su R (L.map (mA 8)) + (if hasN R s=true then 0 else 1):=by
 rw [Zj9]
 split
 ·split <;> omega
 ·have h:su R (L.map (mA 8))=su R ((L.take (pre (fun e=>sLt e.Name s) L)).map (mA 8)) + su R ((L.drop (pre (fun e=>sLt e.Name s) L)).map (mA 8)):=by
   rw [← Zgz,← List.map_append,List.take_append_drop]
  rw [List.map_append,List.map_append,Zgz,Zgz,h,List.map_cons,List.map_nil]
  simp only [su]
  rw [uC_j R 8]
  show _ + ((if hasN R s=true then 0 else 1) + 0) + _ ≤ _
  omega
structure EInv (r:Za) (n:Nat) (ss:List Za) (B:List Zg):Prop where
 len:ss.length=n
 sl:∀ s ∈ ss,Sl r s
 mg:ss.foldl mrg r=effs r B
 su:r.Kind=8 → su r.List (mJ 8 ss) ≤ su r.List B
theorem Zs1:∀ (l:List Za) (x:Za),(l.foldl mrg x).Kind=x.Kind ∧ (l.foldl mrg x).Cap=x.Cap
 | [],x=>⟨rfl,rfl⟩
 | s :: l,x=>by
  obtain ⟨h1,h2⟩:=Zs1 l (mrg x s)
  obtain ⟨k1,k2⟩:=Zj5 x s
  exact ⟨h1.trans k1,h2.trans k2⟩
theorem Zul {r:Za} {a:Zg} (ha:ActD r.Kind a):∀ (l:List Za) {x:Za},x.Kind=r.Kind → x.Cap=r.Cap → (∀ s ∈ l,Sl r s) → l.foldl mrg (eff x a)=eff (l.foldl mrg x) a
 | [],x,_,_,_=>rfl
 | s :: l,x,hk,hc,hs=>by
  obtain ⟨k1,k2⟩:=Zj5 x s
  rw [List.foldl_cons,List.foldl_cons,Z4w (by rw [hk];exact ha) (Zq4 (hs s (List.mem_cons_self ..)) hk hc)]
  exact Zul ha l (k1.trans hk) (k2.trans hc) (fun s h=>hs s (List.mem_cons_of_mem _ h))
theorem Zy8 {r:Za} {n:Nat} {ss:List Za} {B:List Zg} (hw:RecW r) (hg:Zbv r) (hI:EInv r n ss B) {a:Zg} (ha:ActD r.Kind a) (hroom:Room r (B ++ [a])) {w:Nat} (h:w < ss.length) :
  Ziz ss[w] a=some (eff ss[w] (sa a)) ∧ EInv r n (ss.set w (eff ss[w] (sa a))) (B ++ [a]):=by
 have hsw:=hI.sl _ (List.getElem_mem h)
 have hsp:ss=ss.take w ++ ss[w] :: ss.drop (w + 1):=by
  rw [← List.drop_eq_getElem_cons h,List.take_append_drop]
 have hset:∀ v,ss.set w v=ss.take w ++ v :: ss.drop (w + 1):=fun v=>by
  rw [List.set_eq_take_append_cons_drop,if_pos h]
 have hmj:∀ v,su r.List (mJ 8 (ss.set w v))=su r.List (mJ 8 (ss.take w)) + su r.List (v.List.map (mA 8)) + su r.List (mJ 8 (ss.drop (w + 1))):=fun v=>by
  rw [hset,Zq6,Zgz,mJ,Zgz];omega
 have hmj0:su r.List (mJ 8 ss)=su r.List (mJ 8 (ss.take w)) + su r.List ((ss[w]).List.map (mA 8)) + su r.List (mJ 8 (ss.drop (w + 1))):=by
  conv=>lhs;rw [hsp]
  rw [Zq6,Zgz,mJ,Zgz];omega
 have hB:su r.List (B ++ [a])=su r.List B + uC r.List a:=by rw [Zgz];simp [su]
 have h8:r.Kind=8 → su r.List ((layL { Score:=0,Name:=a.S } true (ss[w]).List).map (mA 8)) ≤ su r.List ((ss[w]).List.map (mA 8)) + uC r.List a ∧ NS (ss[w]).List:=fun hk=>by
  have hns:=(Zob hsw (.inl hk)).2.1 hk
  have ha18:a.Kind=18:=by rcases ha.cases with c | c | c | c | c | c | c <;> omega
  have hua:uC r.List a=if hasN r.List a.S=true then 0 else 1:=by simp [uC,ha18]
  rw [hua]
  exact ⟨Z6m hns a.S,hns⟩
 have hlen:r.Kind=8 → (layL { Score:=0,Name:=a.S } true (ss[w]).List).length ≤ 32:=fun hk=>by
  obtain ⟨q1,q2⟩:=h8 hk
  have q3:=hI.su hk
  have q4:=hroom.1
  have q5:=Z1l (R:=r.List) (Z4l q2 a.S)
  have n1:=Zpj r.List (mJ 8 (ss.take w))
  have n2:=Zpj r.List (mJ 8 (ss.drop (w + 1)))
  obtain ⟨c1,c2,c3⟩:=Zkb hg (by omega)
  have hu:upR r=r.Cap - (r.List.length:Int):=by simp [upR,hk]
  rw [hu] at q4
  omega
 obtain ⟨d1,d2⟩:=Z69 hsw ha hlen
 refine ⟨d1,by rw [List.length_set];exact hI.len,fun s hs=>?_,?_,fun hk=>?_⟩
 ·rcases List.mem_or_eq_of_mem_set hs with hs | rfl
  ·exact hI.sl s hs
  ·exact d2
 ·obtain ⟨k1,k2⟩:=Zs1 (ss.take w) r
  have hm:=hI.mg
  rw [hsp,List.foldl_append,List.foldl_cons] at hm
  rw [hset,List.foldl_append,List.foldl_cons,Z59 (by rw [k1];exact ha) (Zq4 hsw k1 k2)]
  obtain ⟨m1,m2⟩:=Zj5 ((ss.take w).foldl mrg r) ss[w]
  rw [Zul ha _ (m1.trans k1) (m2.trans k2) (fun s h=>hI.sl s (List.mem_of_mem_drop h)),hm,Zl6]
  rfl
 ·have ha18:a.Kind=18:=by rcases ha.cases with c | c | c | c | c | c | c <;> omega
  have hsa:sa a=a:=by unfold sa;rw [ha18];rfl
  obtain ⟨q1,_⟩:=h8 hk
  have q3:=hI.su hk
  rw [hmj,hsa,Zhu ha18,hB]
  show _ + su r.List ((layL { Score:=0,Name:=a.S } true (ss[w]).List).map (mA 8)) + _ ≤ _
  omega
theorem Zu2 {k:Int} {l:Zbf}:∀ {B:List Zg},(∀ b ∈ B,ActD k b) → k ≠ 3 → k ≠ 4 → k ≠ 8 → su l B=0
 | [],_,_,_,_=>rfl
 | b :: B,h,h3,h4,h8=>by
  have:=Zu2 (l:=l) (fun x hx=>h x (List.mem_cons_of_mem _ hx)) h3 h4 h8
  have hc:=(h b (List.mem_cons_self ..)).cases
  simp only [su,this]
  unfold uC
  rw [if_neg (by omega),if_neg (by omega)]
  rfl
theorem Zu3 {k:Int}:∀ {B:List Zg},(∀ b ∈ B,ActD k b) → k ≠ 3 → k ≠ 4 → sd B=0
 | [],_,_,_=>rfl
 | b :: B,h,h3,h4=>by
  have:=Zu3 (fun x hx=>h x (List.mem_cons_of_mem _ hx)) h3 h4
  have hc:=(h b (List.mem_cons_self ..)).cases
  simp only [sd,this]
  unfold dC
  rw [if_neg (by omega),if_neg (by omega)]
  rfl
theorem Zxb {r:Za} (hk:r.Kind=8 ∨ r.Kind=9):∀ {l:List Za},(∀ s ∈ l,Sl r s) → ∀ b ∈ mJ r.Kind l,ActD r.Kind b
 | [],_,b,hb=>by cases hb
 | s :: l,h,b,hb=>by
  rcases List.mem_append.1 hb with hb | hb
  ·exact Zls (h s (List.mem_cons_self ..)) hk b hb
  ·exact Zxb hk (fun s hs=>h s (List.mem_cons_of_mem _ hs)) b hb
theorem Z3a {r:Za} {ss:List Za} {B:List Zg} (hs:∀ s ∈ ss,Sl r s) (hsu:r.Kind=8 → su r.List (mJ 8 ss) ≤ su r.List B) (hroom:Room r B) (hk:r.Kind=8 ∨ r.Kind=9):Room r (mJ r.Kind ss):=by
 have ha:=Zxb hk hs
 have hsd:=Zu3 ha (by omega) (by omega)
 have hdn:dnR r=0:=by unfold dnR;rw [if_neg (by omega),if_neg (by omega)]
 unfold Room
 rw [hsd,hdn]
 refine ⟨?_,Int.le_refl _⟩
 rcases hk with k | k
 ·have:=hsu k
  have:=hroom.1
  rw [k];omega
 ·have:upR r=0:=by unfold upR;rw [if_neg (by omega),if_neg (by omega),if_neg (by omega)]
  rw [Zu2 ha (by omega) (by omega) (by omega),this]
  exact Int.le_refl _
theorem Zrq {r:Za} {n:Nat} {ss:List Za} {B:List Zg} (hw:RecW r) (hg:Zbv r) (hk:r.Kind ≠ 1 ∧ r.Kind ≠ 7) (hn:n ≤ 1000) (hI:EInv r n ss B) (hroom:Room r B):Zgs r ss=some (effs r B):=by
 rw [Z0q hw hg hk (by rw [hI.len];exact hn) hI.sl (Z3a hI.sl hI.su hroom),hI.mg]
theorem Z41 {r:Za} (hw:RecW r) (hg:Zbv r) (hk:r.Kind ≠ 1 ∧ r.Kind ≠ 7):∃ s0,Zek r=some (s0,true) ∧ Sl r s0 ∧ s0.List=[] ∧ mrg r s0=r:=by
 have hk':r.Kind=2 ∨ r.Kind=3 ∨ r.Kind=4 ∨ r.Kind=5 ∨ r.Kind=6 ∨ r.Kind=8 ∨ r.Kind=9:=by have:=hg.1;have:=hg.2.1;omega
 have hnum:=hw.num
 unfold I64 at hnum
 have hcr:=Ze4 hg
 unfold Zek Zfr
 rw [(Ze1 hw.ok).2 hg]
 simp only [Option.bind_some,bne_self_eq_false,Bool.false_eq_true,if_false]
 have num:∀ s0:Za,s0.Num=0 → (r.Kind=2 ∨ r.Kind=3 ∨ r.Kind=4) → mrg r s0=r:=fun s0 h0 h=>by
  rw [Zg2 h,h0,Int.add_zero,wr hnum.1 hnum.2]
 have lst:∀ s0:Za,s0.List=[] → (r.Kind=8 ∨ r.Kind=9) → mrg r s0=r:=fun s0 h0 h=>by
  rw [Zer h,h0];rfl
 have w2:RecW ({ Kind:=(2:Int),Num:=(0:Int),Low:=(0:Int),High:=(0:Int),Real:=(0:Nat),Cap:=(0:Int),Text:=ByteArray.empty,List:=([]:List Zd) }:Za):=Zmx ⟨by decide,by decide⟩ (by decide)
 have g2:Zbv ({ Kind:=(2:Int),Num:=(0:Int),Low:=(0:Int),High:=(0:Int),Real:=(0:Nat),Cap:=(0:Int),Text:=ByteArray.empty,List:=([]:List Zd) }:Za):=(Ze1 w2.ok).1 (by kernel_rfl)
 rcases hk' with h | h | h | h | h | h | h
 ·rw [h];exact ⟨_,rfl,⟨w2,g2,by rw [h];rfl,fun h8=>by omega,fun h9=>by omega⟩,rfl,num _ rfl (by omega)⟩
 ·rw [h];exact ⟨_,rfl,⟨w2,g2,by rw [h];rfl,fun h8=>by omega,fun h9=>by omega⟩,rfl,num _ rfl (by omega)⟩
 ·rw [h];exact ⟨_,rfl,⟨w2,g2,by rw [h];rfl,fun h8=>by omega,fun h9=>by omega⟩,rfl,num _ rfl (by omega)⟩
 ·rw [h,Zyw]
  have w5:RecW ({ Kind:=(5:Int),Num:=(0:Int),Low:=(0:Int),High:=(0:Int),Real:=INFN,Cap:=(0:Int),Text:=ByteArray.empty,List:=([]:List Zd) }:Za):=Zmx ⟨by decide,by decide⟩ (by decide)
  have g5:Zbv ({ Kind:=(5:Int),Num:=(0:Int),Low:=(0:Int),High:=(0:Int),Real:=INFN,Cap:=(0:Int),Text:=ByteArray.empty,List:=([]:List Zd) }:Za):=(Ze1 w5.ok).1 (by kernel_rfl)
  refine ⟨_,rfl,⟨w5,g5,by rw [h];rfl,fun h8=>by omega,fun h9=>by omega⟩,rfl,?_⟩
  have e1:=Z27 hw.ok.real hcr
  rw [Zxd hw.ok.real (by decide) hcr (Ze4 g5)] at e1
  rw [Zkh h]
  show ({ r with Real:=fmx r.Real INFN }:Za)=r
  rw [Option.some.inj e1]
 ·have n1:Zj2=some NANB:=by kernel_rfl
  have n2:isn NANB:=by unfold isn rg INF NANB TOP;decide
  rw [h,n1]
  have w6:RecW ({ Kind:=(6:Int),Num:=(0:Int),Low:=(0:Int),High:=(0:Int),Real:=NANB,Cap:=(0:Int),Text:=ByteArray.empty,List:=([]:List Zd) }:Za):=Zmx ⟨by decide,by decide⟩ (by decide)
  have g6:Zbv ({ Kind:=(6:Int),Num:=(0:Int),Low:=(0:Int),High:=(0:Int),Real:=NANB,Cap:=(0:Int),Text:=ByteArray.empty,List:=([]:List Zd) }:Za):=(Ze1 w6.ok).1 (by kernel_rfl)
  refine ⟨_,rfl,⟨w6,g6,by rw [h];rfl,fun h8=>by omega,fun h9=>by omega⟩,rfl,?_⟩
  have e1:=Z3g hw.ok.real (show NANB < W64 by decide) hcr n2
  rw [Zwp hw.ok.real (by decide) hcr (Ze4 g6)] at e1
  rw [Zkc h]
  show ({ r with Real:=fmn r.Real NANB }:Za)=r
  rw [Option.some.inj e1]
 ·rw [h]
  have w8:RecW ({ Kind:=(8:Int),Num:=(0:Int),Low:=(0:Int),High:=(0:Int),Real:=(0:Nat),Cap:=(32:Int),Text:=ByteArray.empty,List:=([]:List Zd) }:Za):=Zmx ⟨by decide,by decide⟩ (by decide)
  have g8:Zbv ({ Kind:=(8:Int),Num:=(0:Int),Low:=(0:Int),High:=(0:Int),Real:=(0:Nat),Cap:=(32:Int),Text:=ByteArray.empty,List:=([]:List Zd) }:Za):=(Ze1 w8.ok).1 (by kernel_rfl)
  exact ⟨_,rfl,⟨w8,g8,by rw [h];rfl,fun _=>rfl,fun h9=>by omega⟩,rfl,lst _ rfl (by omega)⟩
 ·rw [h]
  obtain ⟨c1,c2,c3⟩:=Zkb hg (by omega)
  have w9:RecW ({ Kind:=(9:Int),Num:=(0:Int),Low:=(0:Int),High:=(0:Int),Real:=(0:Nat),Cap:=r.Cap,Text:=ByteArray.empty,List:=([]:List Zd) }:Za):=Zmx ⟨by decide,by decide⟩ (by decide)
  have g9:Zbv ({ Kind:=(9:Int),Num:=(0:Int),Low:=(0:Int),High:=(0:Int),Real:=(0:Nat),Cap:=r.Cap,Text:=ByteArray.empty,List:=([]:List Zd) }:Za) :=
   ⟨by show (1:Int) ≤ 9;decide,by show (9:Int) ≤ 9;decide,by kernel_rfl,by show (0:Nat) ≤ 64;decide,fun h=>(by cases h),by kernel_rfl,fun _=>⟨c1,c2,by show ((0:Nat):Int) ≤ r.Cap;omega,fun i hi=>by cases hi⟩⟩
  exact ⟨_,rfl,⟨w9,g9,by rw [h];rfl,fun h8=>by omega,fun _=>rfl⟩,rfl,lst _ rfl (by omega)⟩
theorem Z0c {r s0:Za} (hs:Sl r s0) (h0:s0.List=[]) (hm:mrg r s0=r) (n:Nat):EInv r n (List.replicate n s0) []:=by
 refine ⟨List.length_replicate,fun s h=>by rw [List.eq_of_mem_replicate h];exact hs,?_,fun _=>?_⟩
 ·induction n with
  | zero=>rfl
  | succ n ih=>rw [List.replicate_succ,List.foldl_cons,hm,ih]
 ·have:mJ 8 (List.replicate n s0)=[]:=by
   induction n with
   | zero=>rfl
   | succ n ih=>rw [List.replicate_succ,mJ,h0,ih];rfl
  rw [this]
  exact Int.le_refl _
theorem Zrl {r s0:Za} {ok:Bool} (hs:Zek r=some (s0,ok)) {n:Int} {F:Nat → List Za → Int → Option (List Za)}
  (hF:∀ k x (i:Int),F (k + 1) x i=(if (decide (i < ((List.replicate (Int.toNat n) (default:Za)).length:Int))) then ((Zek r).bind fun r16=>((idx x i).bind fun e18=>((F k) (x.set (Int.toNat i) r16.1) (IntKind.i64.wrap (i + (1:Int)))))) else (some x))) (hn:n ≤ 1000):∀ (m i:Nat),i + m=n.toNat → F (m + 1) (List.replicate i s0 ++ List.replicate m default) (i:Int)=some (List.replicate n.toNat s0)
 | 0,i,h=>by
  rw [hF,if_neg (by rw [List.length_replicate,decide_eq_true_eq];omega),List.replicate_zero,List.append_nil,show i=n.toNat by omega]
 | m + 1,i,h=>by
  rw [hF,if_pos (by rw [List.length_replicate,decide_eq_true_eq];omega),hs]
  simp only [Option.bind_some]
  have hlt:i < (List.replicate i s0 ++ List.replicate (m + 1) (default:Za)).length:=by simp
  rw [Zcy hlt]
  simp only [Option.bind_some,Int.toNat_natCast]
  have hset:(List.replicate i s0 ++ List.replicate (m + 1) (default:Za)).set i s0=List.replicate (i + 1) s0 ++ List.replicate m default:=by
   rw [List.set_append_right _ _ (by simp),List.length_replicate,Nat.sub_self,List.replicate_succ,List.set_cons_zero,List.replicate_succ',List.append_assoc]
   try rfl
  rw [hset,wr1 (by omega)]
  exact Zrl hs hF hn m (i + 1) (by omega)
theorem Zxn {x:Za} (h:RecW x):Zes x x=some true:=by rw [Zs9 h.ok h.ok,Z6q]
theorem Z1m {x s t:Za} (hs:Sl x s) (ht:Sl x t) (h1:x.Kind ≠ 1 ∧ x.Kind ≠ 7 ∧ 1 ≤ x.Kind ∧ x.Kind ≤ 9):mrg (mrg x s) t=mrg (mrg x t) s:=by
 by_cases k1:x.Kind=2 ∨ x.Kind=3 ∨ x.Kind=4
 ·rw [Zg2 (s:=s) k1,Zg2 (s:=t) k1,Zg2 (x:={ x with Num:=IntKind.i64.wrap (x.Num + s.Num) }) k1,Zg2 (x:={ x with Num:=IntKind.i64.wrap (x.Num + t.Num) }) k1]
  show ({ x with Num:=IntKind.i64.wrap (IntKind.i64.wrap (x.Num + s.Num) + t.Num) }:Za)={ x with Num:=IntKind.i64.wrap (IntKind.i64.wrap (x.Num + t.Num) + s.Num) }
  rw [Zt1]
 ·by_cases k5:x.Kind=5
  ·rw [Zkh (s:=s) k5,Zkh (s:=t) k5,Zkh (x:={ x with Real:=fmx x.Real s.Real }) k5,Zkh (x:={ x with Real:=fmx x.Real t.Real }) k5]
   exact congrArg (fun z=>({ x with Real:=z }:Za)) (Zqz hs.w.ok.real ht.w.ok.real (Ze4 hs.g) (Ze4 ht.g) x.Real)
  ·by_cases k6:x.Kind=6
   ·rw [Zkc (s:=s) k6,Zkc (s:=t) k6,Zkc (x:={ x with Real:=fmn x.Real s.Real }) k6,Zkc (x:={ x with Real:=fmn x.Real t.Real }) k6]
    exact congrArg (fun z=>({ x with Real:=z }:Za)) (Zqs hs.w.ok.real ht.w.ok.real (Ze4 hs.g) (Ze4 ht.g) x.Real)
   ·have hk:x.Kind=8 ∨ x.Kind=9:=by omega
    have m1:=(Zj5 x s).1
    have m2:=(Zj5 x t).1
    rw [Zer (x:=mrg x s) (by rw [m1];exact hk),Zer (x:=mrg x t) (by rw [m2];exact hk),m1,m2,Zer hk,Zer hk,← Zl6,← Zl6]
    exact Zti _ _ x (Zls hs hk) (Zls ht hk)
theorem Zvr {r t:Za} (h1:r.Kind ≠ 1 ∧ r.Kind ≠ 7 ∧ 1 ≤ r.Kind ∧ r.Kind ≤ 9) (ht:Sl r t):∀ (l:List Za) {x:Za},x.Kind=r.Kind → x.Cap=r.Cap → (∀ s ∈ l,Sl r s) → l.foldl mrg (mrg x t)=mrg (l.foldl mrg x) t
 | [],x,_,_,_=>rfl
 | s :: l,x,hk,hc,hs=>by
  obtain ⟨k1,k2⟩:=Zj5 x s
  rw [List.foldl_cons,List.foldl_cons,Z1m (Zq4 ht hk hc) (Zq4 (hs s (List.mem_cons_self ..)) hk hc) (by rw [hk];exact h1)]
  exact Zvr h1 ht l (k1.trans hk) (k2.trans hc) (fun s h=>hs s (List.mem_cons_of_mem _ h))
theorem Zvu {r:Za} (h1:r.Kind ≠ 1 ∧ r.Kind ≠ 7 ∧ 1 ≤ r.Kind ∧ r.Kind ≤ 9):∀ (l:List Za) {x:Za},x.Kind=r.Kind → x.Cap=r.Cap → (∀ s ∈ l,Sl r s) → l.reverse.foldl mrg x=l.foldl mrg x
 | [],x,_,_,_=>rfl
 | s :: l,x,hk,hc,hs=>by
  have hs':=fun s h=>hs s (List.mem_cons_of_mem _ h)
  rw [List.reverse_cons,List.foldl_append,List.foldl_cons,List.foldl_nil,Zvu h1 l hk hc hs',List.foldl_cons,Zvr h1 (hs s (List.mem_cons_self ..)) l hk hc hs']
theorem Zzf (R:Zbf):∀ l:List Za,su R (mJ 8 l.reverse)=su R (mJ 8 l)
 | []=>rfl
 | s :: l=>by
  rw [List.reverse_cons,Zq6,Zgz,Zzf R l]
  simp only [mJ,Zgz,List.append_nil]
  omega
theorem Ztf {ss:List Za} (hl:ss.length ≤ 1000):∀ (m i:Nat) (x:List Za),i + m=ss.length → x.length=ss.length → x.take i=ss.reverse.take i → Zco ss (m + 1) x (i:Int)=some ss.reverse
 | 0,i,x,h,hx,ht=>by
  rw [Zco,List.nil_append,if_neg (by rw [decide_eq_true_eq];omega)]
  rw [List.take_of_length_le (by omega),List.take_of_length_le (by rw [List.length_reverse];omega)] at ht
  rw [ht]
 | m + 1,i,x,h,hx,ht=>by
  have hi:i < ss.length:=by omega
  have hix:i < x.length:=by omega
  have hj:ss.length - 1 - i < ss.length:=by omega
  rw [Zco,List.nil_append,if_pos (by rw [decide_eq_true_eq];omega),wr (x:=(ss.length:Int) - 1) (by omega) (by omega),wr (x:=(ss.length:Int) - 1 - (i:Int)) (by omega) (by omega),show ((ss.length:Int) - 1 - (i:Int))=((ss.length - 1 - i:Nat):Int) by omega,Zcy hj]
  simp only [Option.bind_some]
  rw [Zcy hix]
  simp only [Option.bind_some,Int.toNat_natCast]
  rw [wr1 (by omega)]
  refine Ztf hl m (i + 1) _ (by omega) (by rw [List.length_set];exact hx) ?_
  have hri:i < ss.reverse.length:=by rw [List.length_reverse];exact hi
  rw [List.take_succ_eq_append_getElem (by rw [List.length_set];exact hix),List.take_succ_eq_append_getElem hri,List.getElem_set_self,List.getElem_reverse,List.take_set_of_le (Nat.le_refl _),ht]
theorem Z3p {k:Int} {a:Zg} (h:ActD k a):Zc6 a=some 0:=by
 obtain ⟨c,h1,h2,_⟩:=Zk2 h.in_.ok
 rw [h.chk] at h1
 obtain rfl:=Option.some.inj h1
 exact h2
theorem Zr1 {r:Za} (hw:RecW r) (hg:Zbv r) {n:Int} {D:List Bool} (hD:D.length ≤ 9223372036854775807) (hn:n=IntKind.i64.wrap ((1:Int) + (Int.tmod (D.length:Int) (8:Int)))) (hn8:1 ≤ n ∧ n ≤ 8) {l:List Zv} {b:Bool} (hl:l.length ≤ 1000) (hd:∀ d ∈ l,ActD r.Kind d.Act ∧ 0 ≤ d.Worker ∧ d.Worker < n):∀ (m i:Nat) {ss:List Za} {B:List Zg},i + m=l.length → EInv r n.toNat ss B → (∀ b ∈ B,ActD r.Kind b) → Room r (B ++ Zm4 (l.drop i)) →
  ∃ ss' B',Zb6 D (l,b) (m + 1) ss (i:Int)=some (.inr ss') ∧ EInv r n.toNat ss' B' ∧ (∀ b ∈ B',ActD r.Kind b) ∧ Room r B'
 | 0,i,ss,B,h,hI,hB,hr=>by
  rw [Zb6,if_neg (by simp;omega)]
  exact ⟨ss,B,rfl,hI,hB,Zo0 hr⟩
 | m + 1,i,ss,B,h,hI,hB,hr=>by
  have hi:i < l.length:=by omega
  obtain ⟨d1,d2,d3⟩:=hd _ (List.getElem_mem hi)
  obtain ⟨w,hwk⟩:=Int.eq_ofNat_of_zero_le d2
  have hwl:w < ss.length:=by rw [hI.len];omega
  rw [List.drop_eq_getElem_cons hi] at hr
  have hr1:Room r ((B ++ [(l[i]).Act]) ++ Zm4 (l.drop (i + 1))):=by
   rw [List.append_assoc];exact hr
  rw [Zb6,if_pos (by simp;omega),Zcy hi]
  simp only [Option.bind_some]
  rw [Z3p d1]
  simp only [Option.bind_some]
  rw [if_neg (by rw [← hn];simp;omega)]
  have hskip:Room r (B ++ Zm4 (l.drop (i + 1))):=by
   unfold Room at hr1 ⊢
   rw [Zgz,Zph] at hr1 ⊢
   rw [Zgz,Zph] at hr1
   have:=Zpj r.List [(l[i]).Act]
   have:=Zuc [(l[i]).Act]
   omega
  by_cases hb:∃ hlt:i < D.length,D[i]=true
  ·obtain ⟨hlt,hb⟩:=hb
   rw [show decide ((i:Int) < (D.length:Int))=true from decide_eq_true (by omega),gd_t,Zcy hlt]
   simp only [Option.bind_some]
   rw [if_pos (by rw [hb];rfl),hwk,Zcy hwl]
   simp only [Option.bind_some]
   obtain ⟨s1,s2⟩:=Zy8 hw hg hI d1 (Zo0 hr1) hwl
   rw [s1]
   simp only [Option.bind_some,Int.toNat_natCast,Zdn]
   rw [wr1 (by omega)]
   exact Zr1 hw hg hD hn hn8 hl hd m (i + 1) (by omega) s2 (fun b hb=>by
    rcases List.mem_append.1 hb with hb | hb
    ·exact hB b hb
    ·rw [List.mem_singleton.1 hb];exact d1) hr1
  ·have hgd:∃ e30,gd (decide ((i:Int) < (D.length:Int))) (idx D (i:Int))=some e30 ∧ ((decide ((i:Int) < (D.length:Int))) && e30)=false:=by
    by_cases hlt:i < D.length
    ·rw [show decide ((i:Int) < (D.length:Int))=true from decide_eq_true (by omega),gd_t,Zcy hlt]
     refine ⟨_,rfl,?_⟩
     have:D[i]=false:=by
      cases hq:D[i] with
      | false=>rfl
      | true=>exact absurd ⟨hlt,hq⟩ hb
     rw [this];rfl
    ·rw [show decide ((i:Int) < (D.length:Int))=false from decide_eq_false (by omega)]
     exact ⟨_,rfl,rfl⟩
   obtain ⟨e30,g1,g2⟩:=hgd
   rw [g1]
   simp only [Option.bind_some]
   rw [g2]
   simp only [Bool.false_eq_true,if_false,Zdn]
   rw [wr1 (by omega)]
   exact Zr1 hw hg hD hn hn8 hl hd m (i + 1) (by omega) hI hB hskip
theorem ShareSome_true (a0:Za) (a1:List Zv) (a2:List Bool) (w0:Zg7 a0) (w1:a1.length ≤ maxLen ∧ ∀ e0 ∈ a1,Zfh e0) (w2:a2.length ≤ maxLen ∧ ∀ e0 ∈ a2,True):Zgg a0 a1 a2=some true:=by
 have hD:a2.length ≤ 9223372036854775807:=by have:=w2.1;simp only [maxLen] at this;omega
 unfold Zgg
 rw [Z4d]
 simp only [Option.bind_some,Bool.not_true,Bool.false_eq_true,if_false]
 rcases big7 w0 w1.2 with h | ⟨h,hw,hl,ha⟩
 ·rw [h];rfl
 ·rw [h]
  obtain ⟨c,c1,c2⟩:=Zki hw.ok
  simp only [Option.bind_some,Bool.not_false,gd_t]
  rw [c2]
  simp only [Option.bind_some,Bool.false_or]
  by_cases h0:c=0
  ·subst h0
   have hg:=(Ze1 hw.ok).1 c1
   rw [if_neg (by simp)]
   generalize hn:IntKind.i64.wrap ((1:Int) + (Int.tmod (a2.length:Int) (8:Int)))=n
   rcases Z1r (n:=n) hw hg (by omega) ha with ⟨e,hk⟩ | ⟨Y,e,h1,h2,h3,h4,h5,h6,h7⟩
   ·rw [e];rfl
   ·rw [e]
    simp only [Option.bind_some,Bool.not_true,Bool.false_eq_true,if_false]
    rw [if_pos (by omega)]
    obtain ⟨s0,q1,q2,q3,q4⟩:=Z41 hw hg ⟨h3,h4⟩
    have st:=Zrl q1 (n:=n) (F:=Zc1 a0 a2) (fun k x i=>by rw [Zc1,hn]) (by omega) n.toNat 0 (by omega)
    rw [show ((0:Nat):Int)=0 from rfl,List.replicate_zero,List.nil_append] at st
    rw [List.length_replicate,show (Int.toNat ((n.toNat:Int) - (0:Int)) + 1)=n.toNat + 1 by omega,st]
    simp only [Option.bind_some]
    obtain ⟨ss,B,g1,g2,g3,g4⟩:=Zr1 hw hg hD hn.symm ⟨h1,h2⟩ (b:=true) (l:=Y) (by omega) h6 Y.length 0 (by omega) (Z0c q2 q3 q4 n.toNat) (fun b hb=>by cases hb) (by rw [List.drop_zero,List.nil_append];exact h7)
    rw [show ((0:Nat):Int)=0 from rfl] at g1
    rw [show (Int.toNat ((Y.length:Int) - (0:Int)) + 1)=Y.length + 1 by omega,g1]
    simp only [Option.bind_some]
    have hsl:=g2.len
    rw [Zrq hw hg ⟨h3,h4⟩ (by omega) g2 g4]
    simp only [Option.bind_some]
    rw [if_pos (by simp only [List.length_nil];omega),List.nil_append]
    have bl:=Ztf (ss:=ss) (by omega) ss.length 0 ss (by omega) rfl (by simp)
    rw [show ((0:Nat):Int)=0 from rfl] at bl
    rw [show (Int.toNat ((ss.length:Int) - (0:Int)) + 1)=ss.length + 1 by omega,bl]
    simp only [Option.bind_some]
    obtain ⟨f1,f2,f3⟩:=Zy6 hw hg g3 g4
    rw [(Ze1 f1.ok).2 f2]
    simp only [Option.bind_some,beq_self_eq_true,gd_t]
    have hk9:a0.Kind ≠ 1 ∧ a0.Kind ≠ 7 ∧ 1 ≤ a0.Kind ∧ a0.Kind ≤ 9:=⟨h3,h4,hg.1,hg.2.1⟩
    have hI2:EInv a0 n.toNat ss.reverse B:=⟨by rw [List.length_reverse];exact hsl,fun s h=>g2.sl s (List.mem_reverse.1 h),by rw [Zvu hk9 ss rfl rfl g2.sl];exact g2.mg,fun hk=>by rw [Zzf];exact g2.su hk⟩
    rw [Zrq hw hg ⟨h3,h4⟩ (by omega) hI2 g4]
    simp only [Option.bind_some]
    rw [Zxn f1]
    rfl
  ·rw [if_pos (by simpa using h0)]
end Go.CL
namespace Go.CL
open Go Go.RowKit Go.Proofs Go.ChangeShapes Go.WideShapes Go.ChangeAt
theorem Z1u:ownKnob Tryd.prog.godebug=none:=by kernel_rfl
theorem Zoo:laidOutB Tryd.prog=true:=by kernel_rfl
theorem op_3:Opn Tryd.prog 3 (Kd.int .i64) (fun x=>((IntKind.i64).min ≤ x ∧ x ≤ (IntKind.i64).max)):=Zwv Tryd.underlying3 (by kernel_rfl)
theorem op_2:Opn Tryd.prog 2 (Kd.int .i64) (fun x=>((IntKind.i64).min ≤ x ∧ x ≤ (IntKind.i64).max)):=Zwv Tryd.underlying2 (by kernel_rfl)
theorem Zyq:Opn Tryd.prog 22 Kd.flt (fun x=>(x < 2 ^ 64)):=Z4i Tryd.underlying22 (by kernel_rfl)
theorem op_9:Opn Tryd.prog 9 Kd.str (fun x=>(x.size ≤ maxLen)):=Z4q Tryd.underlying9 (by kernel_rfl)
theorem Z72:Opn Tryd.prog 75 Zo Zmv:=⟨by kernel_rfl,fun hg h=>by
 obtain ⟨hl,n,hf⟩:=Zlj Tryd.underlying75 h
 obtain ⟨y0,h0⟩:=hf 0 _ rfl
 obtain ⟨v0,k0,w0⟩:=Zyq.op hg h0
 obtain ⟨y1,h1⟩:=hf 1 _ rfl
 obtain ⟨v1,k1,w1⟩:=op_9.op hg h1
 refine ⟨⟨v0,v1⟩,⟨hl.trans (by kernel_rfl),(Qc.2 ⟨k0,(Qc.2 ⟨k1,(fun _ h=>by cases h)⟩)⟩)⟩,w0,w1⟩,fun h=>Zmp Tryd.underlying75 h⟩
theorem Z7y:Opn Tryd.prog 23 Zo.sl (fun x=>(x.length ≤ maxLen ∧ ∀ e0 ∈ x,(Zmv e0))):=Zun Tryd.underlying23 (by kernel_rfl) Z72 (by decide)
theorem Z2r:Opn Tryd.prog 25 Zc Zg7:=⟨by kernel_rfl,fun hg h=>by
 obtain ⟨hl,n,hf⟩:=Zlj Tryd.underlying25 h
 obtain ⟨y0,h0⟩:=hf 0 _ rfl
 obtain ⟨v0,k0,w0⟩:=op_3.op hg h0
 obtain ⟨y1,h1⟩:=hf 1 _ rfl
 obtain ⟨v1,k1,w1⟩:=op_2.op hg h1
 obtain ⟨y2,h2⟩:=hf 2 _ rfl
 obtain ⟨v2,k2,w2⟩:=op_2.op hg h2
 obtain ⟨y3,h3⟩:=hf 3 _ rfl
 obtain ⟨v3,k3,w3⟩:=op_2.op hg h3
 obtain ⟨y4,h4⟩:=hf 4 _ rfl
 obtain ⟨v4,k4,w4⟩:=Zyq.op hg h4
 obtain ⟨y5,h5⟩:=hf 5 _ rfl
 obtain ⟨v5,k5,w5⟩:=op_3.op hg h5
 obtain ⟨y6,h6⟩:=hf 6 _ rfl
 obtain ⟨v6,k6,w6⟩:=op_9.op hg h6
 obtain ⟨y7,h7⟩:=hf 7 _ rfl
 obtain ⟨v7,k7,w7⟩:=Z7y.op hg h7
 refine ⟨⟨v0,v1,v2,v3,v4,v5,v6,v7⟩,⟨hl.trans (by kernel_rfl),(Qc.2 ⟨k0,(Qc.2 ⟨k1,(Qc.2 ⟨k2,(Qc.2 ⟨k3,(Qc.2 ⟨k4,(Qc.2 ⟨k5,(Qc.2 ⟨k6,(Qc.2 ⟨k7,(fun _ h=>by cases h)⟩)⟩)⟩)⟩)⟩)⟩)⟩)⟩)⟩,w0,w1,w2,w3,w4,w5,w6,w7⟩,fun h=>Zmp Tryd.underlying25 h⟩
theorem op_4:Opn Tryd.prog 4 Kd.bool (fun x=>True):=Z1h Tryd.underlying4 (by kernel_rfl)
theorem Z7u:Opn Tryd.prog 37 Z1 Zll:=⟨by kernel_rfl,fun hg h=>by
 obtain ⟨hl,n,hf⟩:=Zlj Tryd.underlying37 h
 obtain ⟨y0,h0⟩:=hf 0 _ rfl
 obtain ⟨v0,k0,w0⟩:=op_3.op hg h0
 obtain ⟨y1,h1⟩:=hf 1 _ rfl
 obtain ⟨v1,k1,w1⟩:=op_9.op hg h1
 obtain ⟨y2,h2⟩:=hf 2 _ rfl
 obtain ⟨v2,k2,w2⟩:=op_2.op hg h2
 obtain ⟨y3,h3⟩:=hf 3 _ rfl
 obtain ⟨v3,k3,w3⟩:=Zyq.op hg h3
 obtain ⟨y4,h4⟩:=hf 4 _ rfl
 obtain ⟨v4,k4,w4⟩:=op_9.op hg h4
 obtain ⟨y5,h5⟩:=hf 5 _ rfl
 obtain ⟨v5,k5,w5⟩:=Z2r.op hg h5
 obtain ⟨y6,h6⟩:=hf 6 _ rfl
 obtain ⟨v6,k6,w6⟩:=op_4.op hg h6
 refine ⟨⟨v0,v1,v2,v3,v4,v5,v6⟩,⟨hl.trans (by kernel_rfl),(Qc.2 ⟨k0,(Qc.2 ⟨k1,(Qc.2 ⟨k2,(Qc.2 ⟨k3,(Qc.2 ⟨k4,(Qc.2 ⟨k5,(Qc.2 ⟨k6,(fun _ h=>by cases h)⟩)⟩)⟩)⟩)⟩)⟩)⟩)⟩,w0,w1,w2,w3,w4,w5,w6⟩,fun h=>Zmp Tryd.underlying37 h⟩
theorem Z7j:Opn Tryd.prog 39 Zba Zfh:=⟨by kernel_rfl,fun hg h=>by
 obtain ⟨hl,n,hf⟩:=Zlj Tryd.underlying39 h
 obtain ⟨y0,h0⟩:=hf 0 _ rfl
 obtain ⟨v0,k0,w0⟩:=op_3.op hg h0
 obtain ⟨y1,h1⟩:=hf 1 _ rfl
 obtain ⟨v1,k1,w1⟩:=Z7u.op hg h1
 refine ⟨⟨v0,v1⟩,⟨hl.trans (by kernel_rfl),(Qc.2 ⟨k0,(Qc.2 ⟨k1,(fun _ h=>by cases h)⟩)⟩)⟩,w0,w1⟩,fun h=>Zmp Tryd.underlying39 h⟩
theorem Z7q:Opn Tryd.prog 40 Zba.sl (fun x=>(x.length ≤ maxLen ∧ ∀ e0 ∈ x,(Zfh e0))):=Zun Tryd.underlying40 (by kernel_rfl) Z7j (by decide)
theorem Z7p:Opn Tryd.prog 49 Kd.bool.sl (fun x=>(x.length ≤ maxLen ∧ ∀ e0 ∈ x,True)):=Zun Tryd.underlying49 (by kernel_rfl) op_4 (by decide)
theorem Z13:Det Tryd.prog 9:=Z3h Tryd.underlying9
theorem Z6x:Det Tryd.prog 3:=Z4y Tryd.underlying3
theorem Z33:Det Tryd.prog 108:=Zxm Tryd.underlying108 (fun i f h=>match i,f,h with
 | 0,_,h=>by obtain rfl:=Option.some.inj h;exact Z13
 | 1,_,h=>by obtain rfl:=Option.some.inj h;exact Z6x
 | 2,_,h=>by obtain rfl:=Option.some.inj h;exact Z13
 | _ + 3,_,h=>by cases h) (by kernel_rfl)
theorem Z35:Det Tryd.prog 127:=Z49 Tryd.underlying127 Z33 (by kernel_rfl)
theorem ShareSome_met (os : Os) (args : Array Value) : laidMetH Tryd.prog [("moiety/act.kinds", Go.Proofs.YtbiobpmabomjfaaDoor.Rows.laid_moiety_act_kinds)] ((World.doorLaid Tryd.prog 400 os).forCall (fun _ _ => 0) ⟨#[], args, []⟩).memory :=
 laidMetH_of_parts3 (fuel:=8) (laidMet_of_run' 8 (by kernel_rfl) (by kernel_rfl)) (by kernel_rfl) (by kernel_rfl)
theorem ShareSome_gl {W : World} (h : laidMetH Tryd.prog [("moiety/act.kinds", Go.Proofs.YtbiobpmabomjfaaDoor.Rows.laid_moiety_act_kinds)] W) : GLok W (fun b _ => b < W.heap.size) := by
 have g0 := Z0x (P := Tryd.prog) (nm := "moiety/act.kinds") (d := Go.Proofs.YtbiobpmabomjfaaDoor.Rows.laid_moiety_act_kinds) (g := 1) (t := 127) (W := W) (w0 := W) (cells := [.string ⟨#[]⟩, .int .i64 (0), .string ⟨#[]⟩, .string ⟨#[110, 101, 119]⟩, .int .i64 (0), .string ⟨#[109]⟩, .string ⟨#[100, 114, 111, 112]⟩, .int .i64 (0), .string ⟨#[]⟩, .string ⟨#[105, 115]⟩, .int .i64 (0), .string ⟨#[]⟩, .string ⟨#[108, 111, 111, 107]⟩, .int .i64 (0), .string ⟨#[]⟩, .string ⟨#[112, 117, 116]⟩, .int .i64 (1), .string ⟨#[115]⟩, .string ⟨#[115, 119, 97, 112]⟩, .int .i64 (1), .string ⟨#[115]⟩, .string ⟨#[97, 100, 100]⟩, .int .i64 (2), .string ⟨#[110]⟩, .string ⟨#[112, 108, 117, 115]⟩, .int .i64 (3), .string ⟨#[110]⟩, .string ⟨#[114, 101, 97, 99, 104]⟩, .int .i64 (3), .string ⟨#[110]⟩, .string ⟨#[105, 110]⟩, .int .i64 (4), .string ⟨#[110]⟩, .string ⟨#[111, 117, 116]⟩, .int .i64 (4), .string ⟨#[110]⟩, .string ⟨#[101, 110, 111, 117, 103, 104]⟩, .int .i64 (4), .string ⟨#[110]⟩, .string ⟨#[114, 97, 105, 115, 101]⟩, .int .i64 (5), .string ⟨#[120]⟩, .string ⟨#[108, 111, 119, 101, 114]⟩, .int .i64 (6), .string ⟨#[120]⟩, .string ⟨#[115, 104, 105, 102, 116]⟩, .int .i64 (7), .string ⟨#[120]⟩, .string ⟨#[115, 99, 97, 108, 101]⟩, .int .i64 (7), .string ⟨#[120]⟩, .string ⟨#[102, 105, 120]⟩, .int .i64 (7), .string ⟨#[120]⟩, .string ⟨#[106, 111, 105, 110]⟩, .int .i64 (8), .string ⟨#[115]⟩, .string ⟨#[108, 101, 97, 118, 101]⟩, .int .i64 (8), .string ⟨#[115]⟩, .string ⟨#[104, 97, 115]⟩, .int .i64 (8), .string ⟨#[115]⟩, .string ⟨#[111, 102, 102, 101, 114]⟩, .int .i64 (9), .string ⟨#[120, 115]⟩]) (fu := 8) (by kernel_rfl) (by kernel_rfl) Z35 (by kernel_rfl) (by kernel_rfl) h
 intro e he i v hv
 rcases List.mem_cons.1 he with rfl | he
 ·exact ⟨(Zo7 (g0 i v hv)).2,g0 i v hv⟩
 cases he
theorem ShareSome_ret (os:Os) (started:os.Started) (H:Type) (enc:TypeId × Value → H) :
  ReturnsInHanded {} Tryd.checked os 6 .any (fun w args => (Go.Proofs.YtbiobpmabomjfaaDoor.Rows.shareSomeSpec.pre enc Tryd.prog Tryd.f6 [] false w args ∧ laidMetH Tryd.prog [("moiety/act.kinds", Go.Proofs.YtbiobpmabomjfaaDoor.Rows.laid_moiety_act_kinds)] w) ∧ sizedMet enc Tryd.prog Tryd.f6 (OpenSpec.ofChange Go.Proofs.YtbiobpmabomjfaaDoor.Rows.shareSomeSpec) false w args) (Go.Proofs.YtbiobpmabomjfaaDoor.Rows.shareSomeSpec.post enc Tryd.prog Tryd.f6 false true false false) := by
 refine returnsInHanded_of_change_and (C := Tryd.checked) (X := fun w _ => laidMetH Tryd.prog [("moiety/act.kinds", Go.Proofs.YtbiobpmabomjfaaDoor.Rows.laid_moiety_act_kinds)] w) (fun _ _ _ hh h => h.of_heap hh) Z1u started (by kernel_rfl) Tryd.func6
  (ChangeSpec.witness_shaped (enc := enc) (C := Tryd.checked) (os := os) (X := fun w _ => laidMetH Tryd.prog [("moiety/act.kinds", Go.Proofs.YtbiobpmabomjfaaDoor.Rows.laid_moiety_act_kinds)] w) false (World.doorLaid Tryd.prog 400 os) #[.agg #[.int .i64 0, .int .i64 0, .int .i64 0, .int .i64 0, .float .f64 0, .int .i64 0, .string ByteArray.empty, .slice none 0 0], .slice none 0 0, .slice none 0 0] 8 rfl (World.shaped_of_RefB (by kernel_rfl) (by kernel_rfl)) (by kernel_rfl) (by kernel_rfl) (by kernel_rfl) (ShareSome_met os _)) ?_
 intro W base args ds gs before hval0 hW hcnd _ hL _
 have hval:∀ (j:Nat) t v,Tryd.f6.params[j]?=some t → args[j]?=some v → Value.okWide Tryd.prog W .any base t v:=hval0
 have hW':=hW
 obtain ⟨p,q,hA0,hV,rfl,hfz,hnd⟩:=hW
 have hA:DataW.TrodAll enc Tryd.prog W 0 (fun _=>true) true Tryd.f6.params.toList args.toList ds p:=hA0
 rw [Tryd.params6] at hA hval
 obtain ⟨v0,v1,v2,d0,d1,d2,p0,p1,p2,rfl,rfl,rfl,h0,h1,h2⟩:=trodAll_three hA
 obtain ⟨rfl,rfl⟩:=trodVars_none hV
 simp only [List.append_nil] at hW'
 have hg:GLok W (fun b _=>b < W.heap.size):=(ShareSome_gl hL)
 have hk0:=h0
 obtain ⟨a0,q0,w0⟩:=Zuq Z2r hg h0 (hval 0 25 v0 rfl rfl)
 have hk1:=h1
 obtain ⟨a1,q1,w1⟩:=Zuq Z7q hg h1 (hval 1 40 v1 rfl rfl)
 have hk2:=h2
 obtain ⟨a2,q2,w2⟩:=Zuq Z7p hg h2 (hval 2 49 v2 rfl rfl)
 refine (Zlw a0 a1 a2 (ShareSome_true a0 a1 a2 w0 w1 w2) (GW W hg) [v0,v1,v2] (Zis q0 (Zis q1 (Zis q2 Zdk)))).mono fun e W' ⟨g',v,he,hw,hs,hq⟩=>?_
 subst he;subst hw
 rw [Zhi.1 hq]
 have hbel:=Z0n hs
 have hlt:∀ x ∈ (p0 ++ p1 ++ p2),x.block < W.heap.size:=fun x hx=>by simpa using hW'.lt x hx
 exact ⟨_,rfl,Ztu (pv:=[]) hW' hbel (trodAll_mk1 (shut_bool Tryd.underlying4 true)) (trodAll_mk3 (Below.trod Zoo (by kernel_rfl) (of_decide_eq_true (by kernel_rfl)) hk0 hbel (fun x hx=>hlt x (by simp [hx]))) (Below.trod Zoo (by kernel_rfl) (of_decide_eq_true (by kernel_rfl)) hk1 hbel (fun x hx=>hlt x (by simp [hx]))) (Below.trod Zoo (by kernel_rfl) (of_decide_eq_true (by kernel_rfl)) hk2 hbel (fun x hx=>hlt x (by simp [hx])))) rfl⟩
theorem ShareSome_holds:Go.Proofs.YtbiobpmabomjfaaDoor.Rows.ShareSomeSaid :=
 OpenClaim.holds_of_wide 6 Tryd.f6 rfl rfl rfl rfl rfl rfl rfl ⟨rfl,rfl,rfl,rfl,rfl⟩ rfl rfl rfl rfl rfl (by kernel_rfl) Tryd.func6 (by kernel_rfl)
  (of_decide_eq_true (by kernel_rfl)) (by unfold Func.isWrapper;first | (rw [if_pos (by decide +kernel)];kernel_rfl) | (rw [if_neg (by decide +kernel)];exact ⟨rfl,rfl⟩))
  (fun os started H enc _=>ShareSome_ret os started H enc)
theorem ShareSome_card:Go.Proofs.YtbiobpmabomjfaaDoor.Rows.ShareSomeCardSaid :=
 Claim7.holds_tied_plain_at .later [] [.data] true (true, "3aa006449d8ddc9dc8d5c5e333f2b4dcad9319e64e39586c0df1deb5178ade36") false
  ShareSome_holds (fun _ h=>by cases h) (by kernel_rfl) (fun _ h=>by cases h) Go.Proofs.YtbiobpmabomjfaaDoor.shareSome_row_tie rfl ⟨rfl,rfl⟩ (by kernel_rfl) rfl
  (fun f fn hf hfn=>by
   obtain rfl : f = 6 := Option.some.inj ((show Tryd.prog.funcNamed "moiety/moietylaw07.ShareSome" = some 6 by kernel_rfl).symm.trans hf) |>.symm
   obtain rfl:fn=Tryd.f6:=(Option.some.inj (Tryd.func6.symm.trans hfn)).symm
   exact ⟨by kernel_rfl,fun j t ht=>by
    rw [Tryd.params6] at ht
    have hm:t ∈ [25,40,49]:=by simpa using Array.mem_of_getElem? ht
    have hall:(([25,40,49]:List TypeId).all fun u=>!Tryd.prog.wantsStandIn u)=true:=by kernel_rfl
    exact (show Tryd.prog.wantsStandIn t=false by simpa using List.all_eq_true.1 hall t hm)⟩)
  (by kernel_rfl)
end Go.CL
