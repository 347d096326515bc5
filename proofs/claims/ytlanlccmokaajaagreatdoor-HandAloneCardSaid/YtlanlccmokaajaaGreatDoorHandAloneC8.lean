/- A part of the proof of HandAlone. -/
import Derived.Test.YtlanlccmokaajaaGreatDoorHandAloneC7
import Derived.Test.YtlanlccmokaajaaGreatDoorRows
import Derived.Test.YtlanlccmokaajaaGreatDoorCards
import Derived.Test.YtlanlccmokaajaaGreatDoorTie
import Derived.SevenTiedAt
set_option linter.unusedVariables false
set_option linter.unusedSimpArgs false
set_option maxRecDepth 100000
namespace Go.CL
open Go
theorem Zpl {a b c:Zl} (h:Zds a b=true) (k:Zds b c=true):Zds a c=true:=by
 unfold Zds at *
 by_cases h1:keyf a.Score=keyf b.Score
 ·rw [if_pos h1] at h
  by_cases h2:keyf b.Score=keyf c.Score
  ·rw [if_pos h2] at k
   rw [if_pos (h1.trans h2)];exact Zgj h k
  ·rw [if_neg h2] at k
   rw [if_neg (by rw [h1];exact h2),h1];exact k
 ·rw [if_neg h1] at h
  have h':=of_decide_eq_true h
  by_cases h2:keyf b.Score=keyf c.Score
  ·rw [if_neg (by rw [← h2];exact h1),← h2];exact h
  ·rw [if_neg h2] at k
   have k':=of_decide_eq_true k
   rw [if_neg (by omega)];exact decide_eq_true (by omega)
def BS (l:Zdx):Prop:=l.Pairwise fun p q=>Zds p q=true
def Zst (k:Int) (e:Zl):Prop:=e.Name.size ≤ 16 ∧ (k=8 → keyf e.Score=keyf 0) ∧ e.Score=Zck e.Score
theorem Zo2 {k:Int} {l:Zdx} {i:Nat} {x:Zl} (h:l[i]?=some x):Zil k l i=0 ↔ Zst k x ∧ (0 < i → k=8 → sLt ((l[i - 1]?).getD default).Name x.Name=true) ∧ (0 < i → k=9 → Zds ((l[i - 1]?).getD default) x=true):=by
 unfold Zil Zst
 rw [h]
 simp only []
 by_cases h1:(16:Int) < x.Name.size
 ·rw [if_pos h1];exact ⟨fun h=>(by cases h),fun h=>by omega⟩
 ·rw [if_neg h1]
  by_cases h2:(k=8 ∧ keyf x.Score ≠ keyf 0) ∨ x.Score ≠ Zck x.Score
  ·rw [if_pos h2]
   refine ⟨fun h=>(by cases h),fun h=>?_⟩
   rcases h2 with ⟨a,b⟩ | b
   ·exact absurd (h.1.2.1 a) b
   ·exact absurd h.1.2.2 b
  ·rw [if_neg h2]
   have e1:k=8 → keyf x.Score=keyf 0:=fun hk=>Classical.byContradiction fun hn=>h2 (.inl ⟨hk,hn⟩)
   have e2:x.Score=Zck x.Score:=Classical.byContradiction fun hn=>h2 (.inr hn)
   by_cases h3:0 < i ∧ k=8 ∧ sLt ((l[i - 1]?).getD default).Name x.Name=false
   ·rw [if_pos h3]
    refine ⟨fun h=>(by cases h),fun h=>?_⟩
    have:=h.2.1 h3.1 h3.2.1
    rw [h3.2.2] at this;cases this
   ·rw [if_neg h3]
    have e3:0 < i → k=8 → sLt ((l[i - 1]?).getD default).Name x.Name=true:=fun a b=>by
     cases hq:sLt ((l[i - 1]?).getD default).Name x.Name
     ·exact absurd ⟨a,b,hq⟩ h3
     ·rfl
    by_cases h4:0 < i ∧ k=9 ∧ Zds ((l[i - 1]?).getD default) x=false
    ·rw [if_pos h4]
     refine ⟨fun h=>(by cases h),fun h=>?_⟩
     have:=h.2.2 h4.1 h4.2.1
     rw [h4.2.2] at this;cases this
    ·rw [if_neg h4]
     refine ⟨fun _=>⟨⟨by omega,e1,e2⟩,e3,fun a b=>?_⟩,fun _=>rfl⟩
     cases hq:Zds ((l[i - 1]?).getD default) x
     ·exact absurd ⟨a,b,hq⟩ h4
     ·rfl
theorem Z0q {R:Zl → Zl → Prop} (ht:∀ {a b c},R a b → R b c → R a c) {l:Zdx} (step:∀ i,i + 1 < l.length → R ((l[i]?).getD default) ((l[i + 1]?).getD default)):l.Pairwise R:=by
 have far:∀ d i,i + d + 1 < l.length → R ((l[i]?).getD default) ((l[i + d + 1]?).getD default):=by
  intro d
  induction d with
  | zero=>intro i h;exact step i h
  | succ d ih=>intro i h;exact ht (ih i (by omega)) (step (i + d + 1) (by omega))
 refine List.pairwise_iff_getElem.2 fun i j hi hj hij=>?_
 have:=far (j - i - 1) i (by omega)
 rw [show i + (j - i - 1) + 1=j by omega,List.getElem?_eq_getElem hi,List.getElem?_eq_getElem hj] at this
 exact this
theorem Z0r {R:Zl → Zl → Prop} {l:Zdx} (h:l.Pairwise R) {i:Nat} {x:Zl} (hx:l[i]?=some x) (hi:0 < i):R ((l[i - 1]?).getD default) x:=by
 obtain ⟨h1,rfl⟩:=List.getElem?_eq_some_iff.1 hx
 rw [List.getElem?_eq_getElem (by omega)]
 exact List.pairwise_iff_getElem.1 h _ _ (by omega) h1 (by omega)
theorem Zxz {k:Int} {l:Zdx}:(∀ i,i < l.length → Zil k l i=0) ↔ (∀ e ∈ l,Zst k e) ∧ (k=8 → NS l) ∧ (k=9 → BS l):=by
 constructor
 ·intro h
  refine ⟨fun e he=>?_,fun hk=>?_,fun hk=>?_⟩
  ·obtain ⟨i,hi,rfl⟩:=List.getElem_of_mem he
   exact ((Zo2 (List.getElem?_eq_getElem hi)).1 (h i hi)).1
  ·refine Z0q (R:=fun p q=>sLt p.Name q.Name=true) (fun a b=>Zgj a b) fun i hi=>?_
   have:=((Zo2 (List.getElem?_eq_getElem hi)).1 (h (i + 1) hi)).2.1 (by omega) hk
   rw [List.getElem?_eq_getElem hi];exact this
  ·refine Z0q (R:=fun p q=>Zds p q=true) (fun a b=>Zpl a b) fun i hi=>?_
   have:=((Zo2 (List.getElem?_eq_getElem hi)).1 (h (i + 1) hi)).2.2 (by omega) hk
   rw [List.getElem?_eq_getElem hi];exact this
 ·intro ⟨h1,h2,h3⟩ i hi
  have hx:=List.getElem?_eq_getElem hi
  exact (Zo2 hx).2 ⟨h1 _ (List.getElem_mem hi),fun a b=>Z0r (R:=fun p q=>sLt p.Name q.Name=true) (h2 b) hx a,fun a b=>Z0r (R:=fun p q=>Zds p q=true) (h3 b) hx a⟩
theorem Zzs {r:Ze} (h:Zcz r) (hk:8 ≤ r.Kind):1 ≤ r.Cap ∧ r.Cap ≤ 32 ∧ (r.List.length:Int) ≤ r.Cap ∧ (∀ e ∈ r.List,Zst r.Kind e) ∧ (r.Kind=8 → NS r.List) ∧ (r.Kind=9 → BS r.List):=by
 obtain ⟨a,b,c,d⟩:=h.2.2.2.2.2.2 hk
 exact ⟨a,b,c,Zxz.1 d⟩
theorem Zow {r:Ze} {l:Zdx} (h:Zcz r) (hk:8 ≤ r.Kind) (h1:(l.length:Int) ≤ r.Cap) (h2:∀ e ∈ l,Zst r.Kind e) (h3:r.Kind=8 → NS l) (h4:r.Kind=9 → BS l):Zcz { r with List:=l }:=by
 obtain ⟨g1,g2,g3,g4,g5,g6,g7⟩:=h
 refine ⟨g1,g2,?_,g4,g5,g6,fun hk=>⟨(g7 hk).1,(g7 hk).2.1,h1,Zxz.2 ⟨h2,h3,h4⟩⟩⟩
 unfold Zh4 at *
 have:decide (8 ≤ r.Kind)=true:=decide_eq_true hk
 simp only [this,Bool.true_or] at *
 exact g3
theorem Zrx {r:Ze} {t:ByteArray} (h:Zcz r) (hk:r.Kind=1) (h1:t.size ≤ 64):Zcz { r with Text:=t }:=by
 obtain ⟨g1,g2,g3,g4,g5,g6,g7⟩:=h
 refine ⟨g1,g2,?_,h1,g5,g6,g7⟩
 unfold Zh4 at *
 have:decide (r.Kind=1)=true:=decide_eq_true hk
 simp only [this,Bool.true_or,Bool.true_and] at *
 exact g3
theorem Zx4 {r:Ze} {x:Nat} (h:Zcz r) (hk:5 ≤ r.Kind ∧ r.Kind ≤ 7) (h1:x=Zck x):Zcz { r with Real:=x }:=by
 obtain ⟨g1,g2,g3,g4,g5,g6,g7⟩:=h
 refine ⟨g1,g2,?_,g4,g5,h1,g7⟩
 unfold Zh4 at *
 have:decide (5 ≤ r.Kind ∧ r.Kind ≤ 7)=true:=decide_eq_true hk
 simp only [this,Bool.true_or] at *
 exact g3
variable {r r':Ze} {a:Zu} {o:Zg}
theorem Zok {ψ:Nat → Nat → Option Nat} (hg:Zcz r) (hk:5 ≤ r.Kind ∧ r.Kind ≤ 7) (hψ:∀ m,ψ r.Real a.X=some m → m=Zck m) (e:Zbk a.Kind r a default=Zfa ψ r a default) (h1:Zbk a.Kind r a default=some (0,r',o)):Zcz r':=by
 rw [e] at h1
 unfold Zfa at h1
 obtain ⟨m,m1,m2⟩:=Option.bind_eq_some_iff.1 h1
 simp only [Option.some.injEq,Prod.mk.injEq] at m2
 obtain ⟨_,rfl,_⟩:=m2
 exact Zx4 hg hk (hψ m m1)
theorem Z31 (h:a.Kind=18) (hr:RecW r) (hg:Zcz r) (hk:r.Kind=8) (ha:ActW a) (h1:Zbk a.Kind r a default=some (0,r',o)):Zcz r':=by
 have e:Zbk a.Kind r a default=Zlo r a default:=by rw [h];rfl
 obtain ⟨c1,c2,c3,c4,c5,_⟩:=Zzs hg (by omega)
 have hs:=c5 hk
 have hl:=hr.len
 have hple:=Zpe (fun e=>sLt e.Name a.S) r.List
 rw [e] at h1
 unfold Zlo at h1
 rw [Zo4 hs (by omega),Zqr (by omega)] at h1
 simp only [Option.bind_some] at h1
 by_cases hat:isAt a.S r.List=true
 ·rw [if_pos hat] at h1
  simp only [Option.some.injEq,Prod.mk.injEq,true_and] at h1
  rw [← h1.1];exact hg
 ·rw [if_neg hat] at h1
  by_cases hc:decide (r.Cap ≤ (r.List.length:Int))=true
  ·rw [if_pos hc] at h1;cases h1
  ·rw [if_neg hc] at h1
   have hc':¬ r.Cap ≤ (r.List.length:Int):=by simpa using hc
   unfold Zcm at h1
   rw [if_pos ⟨by omega,by omega,by simp,by simp;omega⟩] at h1
   simp only [Option.bind_some,Option.some.injEq,Prod.mk.injEq,true_and,Int.toNat_natCast] at h1
   obtain ⟨rfl,_⟩:=h1
   have hbehind:∀ y ∈ r.List.drop (pre (fun e=>sLt e.Name a.S) r.List),sLt a.S y.Name=true:=fun y hy=>by
    obtain ⟨k,hk,rfl⟩:=List.getElem_of_mem hy
    rw [List.length_drop] at hk
    rw [List.getElem_drop]
    have hm:=Zum (s:=a.S) hs (k:=pre (fun e=>sLt e.Name a.S) r.List + k) (by omega)
    rw [show decide (pre (fun e=>sLt e.Name a.S) r.List + k < pre (fun e=>sLt e.Name a.S) r.List)=false by simp] at hm
    refine Zm4 hm fun hn=>?_
    have hany:=Zuw (s:=a.S) hs
    rw [show isAt a.S r.List=false by simpa using hat,List.any_eq_false] at hany
    exact hany _ (List.getElem_mem _) (Zdz.2 hn)
   refine Zow hg (by omega) (by simp;omega) (fun e he=>?_) (fun _=>?_) (fun h=>by omega)
   ·simp only [List.mem_append,List.mem_singleton] at he
    rcases he with (he | rfl) | he
    ·exact c4 e (List.mem_of_mem_take he)
    ·exact ⟨ha.s16 (by omega),fun _=>rfl,by kernel_rfl⟩
    ·exact c4 e (List.mem_of_mem_drop he)
   ·unfold NS at *
    rw [List.append_assoc,List.pairwise_append]
    refine ⟨hs.sublist (List.take_sublist _ _),?_,fun x hx y hy=>?_⟩
    ·rw [List.singleton_append,List.pairwise_cons]
     exact ⟨hbehind,hs.sublist (List.drop_sublist _ _)⟩
    ·have hxa:sLt x.Name a.S=true:=Zz6 (f:=fun e=>sLt e.Name a.S) x hx
     rcases List.mem_append.1 hy with hy | hy
     ·rw [List.mem_singleton.1 hy];exact hxa
     ·exact Zgj hxa (hbehind y hy)
theorem Z3q (h:a.Kind=19) (hr:RecW r) (hg:Zcz r) (hk:r.Kind=8) (h1:Zbk a.Kind r a default=some (0,r',o)):Zcz r':=by
 obtain ⟨c1,c2,c3,c4,c5,_⟩:=Zzs hg (by omega)
 have hl:=hr.len
 obtain ⟨c,x,y,d1,d2,_⟩:=Zxs h hr hg hk
 rw [h1] at d1
 simp only [Option.some.injEq,Prod.mk.injEq] at d1
 obtain ⟨rfl,rfl,rfl⟩:=d1
 have e2:Zbz r a=(Zdj r a (Int.toNat ((r.List.length:Int) - (0:Int)) + 1) ([]:List Zl) (0:Int)).bind fun z57=>match z57 with | y56=>(Z7 ({ r with List:=y56 }) (ans 0)):=by unfold Zbz Zcp;rw [h];rfl
 have hf:=Zpy (a:=a) (a0:=r) (by omega) r.List.length 0 [] (by omega) (by simp)
 rw [show ((0:Nat):Int)=0 from rfl] at hf
 rw [e2,show (Int.toNat ((r.List.length:Int) - (0:Int)) + 1)=r.List.length + 1 by omega,hf,List.drop_zero,List.nil_append] at d2
 simp only [Option.bind_some,Z7,if_true,Option.some.injEq,Prod.mk.injEq] at d2
 obtain ⟨rfl,_⟩:=d2
 have hle:=List.length_filter_le (fun e:Zl=>!sEq e.Name a.S) r.List
 exact Zow hg (by omega) (by omega) (fun e he=>c4 e (List.mem_filter.1 he).1) (fun _=>List.Pairwise.sublist List.filter_sublist (c5 hk)) (fun h=>by omega)
theorem Z28 (h:a.Kind=21) (hr:RecW r) (hg:Zcz r) (hk:r.Kind=9) (ha:ActW a) (h1:Zbk a.Kind r a default=some (0,r',o)):Zcz r':=by
 have e:Zbk a.Kind r a default=Zk3 r a default:=by rw [h];rfl
 obtain ⟨c1,c2,c3,c4,_,c6⟩:=Zzs hg (by omega)
 have hs:=c6 hk
 have hl:=hr.len
 have hple:=Zpe (Zd9 { Score:=a.X,Name:=a.S } false) r.List
 rw [e] at h1
 unfold Zk3 at h1
 rw [Zxg ha.ok.2 hr.ok.sc (by omega),Zqr (by omega)] at h1
 simp only [Option.bind_some] at h1
 obtain ⟨e9,g9,h1⟩:=Option.bind_eq_some_iff.1 h1
 obtain ⟨r11,g11,h1⟩:=Option.bind_eq_some_iff.1 h1
 split at h1
 ·simp only [Option.some.injEq,Prod.mk.injEq,true_and] at h1
  rw [← h1.1];exact hg
 ·rename_i hcond
  unfold Zcm at h1
  rw [if_pos ⟨by omega,by omega,by simp,by simp;omega⟩] at h1
  simp only [Option.bind_some] at h1
  rw [Z0k c1 c2] at h1
  simp only [Option.bind_some,Option.some.injEq,Prod.mk.injEq,true_and,Int.toNat_natCast] at h1
  obtain ⟨rfl,_⟩:=h1
  have hbehind:∀ y ∈ r.List.drop (pre (Zd9 { Score:=a.X,Name:=a.S } false) r.List),Zds { Score:=a.X,Name:=a.S } y=true:=fun y hy=>by
   have hp:pre (Zd9 { Score:=a.X,Name:=a.S } false) r.List < r.List.length:=by
    have:=List.length_pos_of_mem hy
    rw [List.length_drop] at this;omega
   have hd:decide (((pre (Zd9 { Score:=a.X,Name:=a.S } false) r.List:Nat):Int) < (r.List.length:Int))=true:=by simpa using hp
   rw [hd,Zdd hp] at g9
   simp only [gd_t,Option.some.injEq] at g9
   subst g9
   rw [hd] at g11 hcond
   simp only [gd_t] at g11
   rw [Zp4 ha.ok.2 (hr.ok.sc _ (List.getElem_mem hp))] at g11
   have hb:Zds { Score:=a.X,Name:=a.S } r.List[pre (Zd9 { Score:=a.X,Name:=a.S } false) r.List]=true:=by
    have:=Option.some.inj g11
    rw [← this] at hcond
    simpa using hcond
   rw [List.drop_eq_getElem_cons hp] at hy
   rcases List.mem_cons.1 hy with rfl | hy
   ·exact hb
   ·refine Zpl hb ?_
    have hpw:(r.List.drop (pre (Zd9 { Score:=a.X,Name:=a.S } false) r.List)).Pairwise fun p q=>Zds p q=true:=List.Pairwise.sublist (List.drop_sublist _ _) hs
    rw [List.drop_eq_getElem_cons hp,List.pairwise_cons] at hpw
    exact hpw.1 y hy
  refine Zow hg (by omega) (by rw [List.length_take];omega) (fun e he=>?_) (fun h=>by omega) (fun _=>?_)
  ·have he:=List.mem_of_mem_take he
   simp only [List.mem_append,List.mem_singleton] at he
   rcases he with (he | rfl) | he
   ·exact c4 e (List.mem_of_mem_take he)
   ·exact ⟨ha.s16 (by omega),fun h=>by omega,ha.xc⟩
   ·exact c4 e (List.mem_of_mem_drop he)
  ·refine List.Pairwise.sublist (List.take_sublist _ _) ?_
   rw [List.append_assoc,List.pairwise_append]
   refine ⟨List.Pairwise.sublist (List.take_sublist _ _) hs,?_,fun x hx y hy=>?_⟩
   ·rw [List.singleton_append,List.pairwise_cons]
    exact ⟨hbehind,List.Pairwise.sublist (List.drop_sublist _ _) hs⟩
   ·have hxa:Zds x { Score:=a.X,Name:=a.S }=true:=Zz6 (f:=Zd9 { Score:=a.X,Name:=a.S } false) x hx
    rcases List.mem_append.1 hy with hy | hy
    ·rw [List.mem_singleton.1 hy];exact hxa
    ·exact Zpl hxa (hbehind y hy)
theorem Zix {k on:Int} {c:Int} (h:Zml k=some on) (e:Zml k=some c):on=c:=Option.some.inj (h.symm.trans e)
theorem Zuz (h5:5 ≤ a.Kind) (h21:a.Kind ≤ 21) (hon:Zml a.Kind=some r.Kind) (hr:RecW r) (hg:Zcz r) (ha:ActW a) (h1:Zbk a.Kind r a default=some (0,r',o)):Zcz r':=by
 have real:∀ {m:Nat},m=r.Real ∨ m=a.X → m=Zck m:=fun {m} h=>by
  rcases h with rfl | rfl
  ·exact Zoq hg
  ·exact ha.xc
 have hk':a.Kind=5 ∨ a.Kind=6 ∨ a.Kind=7 ∨ a.Kind=8 ∨ a.Kind=9 ∨ a.Kind=10 ∨ a.Kind=11 ∨ a.Kind=12 ∨ a.Kind=13 ∨ a.Kind=14 ∨ a.Kind=15 ∨ a.Kind=16 ∨ a.Kind=17 ∨ a.Kind=18 ∨ a.Kind=19 ∨ a.Kind=20 ∨ a.Kind=21:=by omega
 rcases hk' with h | h | h | h | h | h | h | h | h | h | h | h | h | h | h | h | h
 ·have e:Zbk a.Kind r a default=Zko r a default:=by rw [h];rfl
  rw [e] at h1
  simp only [Zko,Option.some.injEq,Prod.mk.injEq,true_and] at h1
  rw [← h1.1]
  exact Zrx hg (Zix hon (by rw [h];kernel_rfl)) ha.s64
 ·have e:Zbk a.Kind r a default=Zhx r a default:=by rw [h];rfl
  rw [e] at h1
  simp only [Zhx,Zks hr.len,Option.bind_some,Option.some.injEq,Prod.mk.injEq,true_and] at h1
  rw [← h1.1]
  exact Zrx hg (Zix hon (by rw [h];kernel_rfl)) ha.s64
 ·have e:Zbk a.Kind r a default=Zkk r a default:=by rw [h];rfl
  rw [e] at h1
  simp only [Zkk,Option.some.injEq,Prod.mk.injEq,true_and] at h1
  rw [← h1.1]
  have hk:r.Kind=2:=Zix hon (by rw [h];kernel_rfl)
  exact Zrk hg (by omega) (fun h=>by omega)
 ·have e:Zbk a.Kind r a default=Zlp r a default:=by rw [h];rfl
  rw [e] at h1
  unfold Zlp at h1
  split at h1
  ·cases h1
  ·simp only [Option.some.injEq,Prod.mk.injEq,true_and] at h1
   rw [← h1.1]
   have hk:r.Kind=3:=Zix hon (by rw [h];kernel_rfl)
   exact Zrk hg (by omega) (fun h=>by omega)
 ·have e:Zbk a.Kind r a default=Zem r a default:=by rw [h];rfl
  rw [e] at h1
  unfold Zem at h1
  split at h1
  ·cases h1
  ·simp only [Option.some.injEq,Prod.mk.injEq,true_and] at h1
   rw [← h1.1];exact hg
 ·have e:Zbk a.Kind r a default=Zhs r a default:=by rw [h];rfl
  have hk:r.Kind=4:=Zix hon (by rw [h];kernel_rfl)
  obtain ⟨p1,p2,p3,p4⟩:=Zyy hg hk
  obtain ⟨q1,q2⟩:=ha.inout (.inl h)
  rw [e] at h1
  unfold Zhs at h1
  rw [wr (x:=r.High - r.Num) (by omega) (by omega),wr (x:=r.Num + a.N) (by omega) (by omega)] at h1
  split at h1
  ·cases h1
  ·rename_i hcond
   have hcond':¬ (r.High - r.Num < a.N):=by simpa using hcond
   simp only [Option.some.injEq,Prod.mk.injEq,true_and] at h1
   rw [← h1.1]
   exact Zrk hg (by omega) (fun _=>by omega)
 ·have e:Zbk a.Kind r a default=Zhw r a default:=by rw [h];rfl
  have hk:r.Kind=4:=Zix hon (by rw [h];kernel_rfl)
  obtain ⟨p1,p2,p3,p4⟩:=Zyy hg hk
  obtain ⟨q1,q2⟩:=ha.inout (.inr h)
  rw [e] at h1
  unfold Zhw at h1
  rw [wr (x:=r.Num - r.Low) (by omega) (by omega),wr (x:=r.Num - a.N) (by omega) (by omega)] at h1
  split at h1
  ·cases h1
  ·rename_i hcond
   have hcond':¬ (r.Num - r.Low < a.N):=by simpa using hcond
   simp only [Option.some.injEq,Prod.mk.injEq,true_and] at h1
   rw [← h1.1]
   exact Zrk hg (by omega) (fun _=>by omega)
 ·have e:Zbk a.Kind r a default=Zem r a default:=by rw [h];rfl
  rw [e] at h1
  unfold Zem at h1
  split at h1
  ·cases h1
  ·simp only [Option.some.injEq,Prod.mk.injEq,true_and] at h1
   rw [← h1.1];exact hg
 ·have hk:r.Kind=5:=Zix hon (by rw [h];kernel_rfl)
  refine Zok (ψ:=fun x y=>Zl7 x y) hg (by omega) (fun m hm=>?_) (by rw [h];rfl) h1
  obtain ⟨m',e1,_,e2⟩:=Zzq hr.ok.real ha.ok.2 (Zoq hg) ha.xc
  have:m=m':=Option.some.inj (hm.symm.trans e1)
  exact real (this ▸ e2)
 ·have hk:r.Kind=6:=Zix hon (by rw [h];kernel_rfl)
  refine Zok (ψ:=fun x y=>Zl4 x y) hg (by omega) (fun m hm=>?_) (by rw [h];rfl) h1
  obtain ⟨m',e1,_,e2⟩:=Z0n hr.ok.real ha.ok.2 (Zoq hg) ha.xc
  have:m=m':=Option.some.inj (hm.symm.trans e1)
  exact real (this ▸ e2)
 ·have hk:r.Kind=7:=Zix hon (by rw [h];kernel_rfl)
  refine Zok (ψ:=fun x y=>Zja x y) hg (by omega) (fun m hm=>?_) (by rw [h];rfl) h1
  have hz:=Z2h r.Real a.X
  have:Zja r.Real a.X=some (Zck (fadd r.Real a.X)):=by unfold Zja;rw [Zka hz];rfl
  have:m=Zck (fadd r.Real a.X):=Option.some.inj (hm.symm.trans this)
  rw [this,Zt6]
 ·have hk:r.Kind=7:=Zix hon (by rw [h];kernel_rfl)
  refine Zok (ψ:=fun x y=>Zh9 x y) hg (by omega) (fun m hm=>?_) (by rw [h];rfl) h1
  have hz:=Z1m r.Real a.X
  have:Zh9 r.Real a.X=some (Zck (fmul r.Real a.X)):=by unfold Zh9;rw [Zka hz];rfl
  have:m=Zck (fmul r.Real a.X):=Option.some.inj (hm.symm.trans this)
  rw [this,Zt6]
 ·have hk:r.Kind=7:=Zix hon (by rw [h];kernel_rfl)
  refine Zok (ψ:=fun x y=>Zhv x y) hg (by omega) (fun m hm=>?_) (by rw [h];rfl) h1
  exact real (.inr (Option.some.inj hm).symm)
 ·exact Z31 h hr hg (Zix hon (by rw [h];kernel_rfl)) ha h1
 ·exact Z3q h hr hg (Zix hon (by rw [h];kernel_rfl)) h1
 ·have hk:r.Kind=8:=Zix hon (by rw [h];kernel_rfl)
  have e:Zbk a.Kind r a default=Zf6 r a default:=by rw [h];rfl
  have hl:=hr.len
  rw [e] at h1
  unfold Zf6 at h1
  rw [Zo4 (Zne hg hk) (by omega)] at h1
  simp only [Option.bind_some] at h1
  split at h1
  ·cases h1
  ·simp only [Option.some.injEq,Prod.mk.injEq,true_and] at h1
   rw [← h1.1];exact hg
 ·exact Z28 h hr hg (Zix hon (by rw [h];kernel_rfl)) ha h1
theorem Zrh (hk:a.Kind=9 ∨ a.Kind=12 ∨ a.Kind=20) (hr:RecW r) (hg:Zcz r) (hon:Zml a.Kind=some r.Kind) (h1:Zbk a.Kind r a default=some (0,r',o)):r'=r:=by
 rcases hk with h | h | h
 ·have e:Zbk a.Kind r a default=Zem r a default:=by rw [h];rfl
  rw [e] at h1
  unfold Zem at h1
  split at h1
  ·cases h1
  ·simp only [Option.some.injEq,Prod.mk.injEq,true_and] at h1
   exact h1.1.symm
 ·have e:Zbk a.Kind r a default=Zem r a default:=by rw [h];rfl
  rw [e] at h1
  unfold Zem at h1
  split at h1
  ·cases h1
  ·simp only [Option.some.injEq,Prod.mk.injEq,true_and] at h1
   exact h1.1.symm
 ·have hk:r.Kind=8:=Zix hon (by rw [h];kernel_rfl)
  have e:Zbk a.Kind r a default=Zf6 r a default:=by rw [h];rfl
  have hl:=hr.len
  rw [e] at h1
  unfold Zf6 at h1
  rw [Zo4 (Zne hg hk) (by omega)] at h1
  simp only [Option.bind_some] at h1
  split at h1
  ·cases h1
  ·simp only [Option.some.injEq,Prod.mk.injEq,true_and] at h1
   exact h1.1.symm
structure Z1t (t:Bool) (r:Ze):Prop where
 w:RecW r
 good:t=true → Zcz r
 zero:t=false → r=zrc
def Zlq (k:Int):Bool:=(((((k == (3:Int)) || (k == (4:Int))) || (k == (9:Int))) || (k == (12:Int))) || (k == (20:Int)))
abbrev KV:=ByteArray × Ze
def toL:shelf_nodeT → List KV
 | .nil=>[]
 | .node k r l rr _=>toL l ++ (k,r) :: toL rr
def Szd:shelf_nodeT → Prop
 | .nil=>True
 | .node k r l rr s=>Szd l ∧ Szd rr ∧ s=(((toL l).length + (toL rr).length + 1:Nat):Int)
def Srt (l:List KV):Prop:=l.Pairwise fun p q=>sLt p.1 q.1=true
theorem Zim {t:shelf_nodeT} (h:Szd t):Zcx t=some ((toL t).length:Int):=by
 cases t with
 | nil=>rfl
 | node k r l rr s =>
  obtain ⟨_,_,h3⟩:=h
  simp [Zcx,shelf_nodeT.isNil,shelf_nodeT.un,toL,h3]
  omega
theorem Z8y {k:ByteArray} {x:Ze} {l r:shelf_nodeT} (hl:Szd l) (hr:Szd r) (bl:(toL l).length < 1099511627776) (br:(toL r).length < 1099511627776) :
  Zd6 k x l r=some (.node k x l r (((toL l).length + (toL r).length + 1:Nat):Int)):=by
 unfold Zd6
 rw [Zim hl,Zim hr]
 simp only [Option.bind_some,shelf_node.up]
 rw [wr (x:=(toL l).length + (toL r).length) (by omega) (by omega),wr (by omega) (by omega)]
 rfl
theorem Zi7 {k:ByteArray} {x:Ze} {l r:shelf_nodeT} (hl:Szd l) (hr:Szd r) (bl:(toL l).length < 1099511627776) (br:(toL r).length < 1099511627776) :
  ∃ t,Zd6 k x l r=some t ∧ Szd t ∧ toL t=toL l ++ (k,x) :: toL r:=⟨_,Z8y hl hr bl br,⟨hl,hr,rfl⟩,rfl⟩
def Zot (a b:shelf_nodeT):Bool:=decide (3 * ((toL b).length + 1) < (toL a).length + 1)
theorem Zzc {a b:shelf_nodeT} (ha:Szd a) (hb:Szd b) (ba:(toL a).length < 1099511627776) (bb:(toL b).length < 1099511627776):Zi6 a b=some (Zot a b):=by
 unfold Zi6 Zot
 rw [Zim ha,Zim hb]
 simp only [Option.bind_some]
 rw [wr (x:=((toL b).length:Int) + 1) (by omega) (by omega),wr (x:=((toL a).length:Int) + 1) (by omega) (by omega),wr (by omega) (by omega)]
 congr 1
 apply decide_eq_decide.2
 omega
theorem Zu8 {t:shelf_nodeT} (h:0 < (toL t).length):∃ k r l rr s,t=.node k r l rr s:=by
 cases t with
 | nil=>simp [toL] at h
 | node k r l rr s=>exact ⟨k,r,l,rr,s,rfl⟩
theorem Zqp {k:ByteArray} {x:Ze} {l r:shelf_nodeT} (hl:Szd l) (hr:Szd r) (bl:(toL l).length < 1099511627776) (br:(toL r).length < 1099511627776) (bs:(toL l).length + (toL r).length + 1 < 1099511627776) :
  ∃ t,Zi4 k x l r=some t ∧ Szd t ∧ toL t=toL l ++ (k,x) :: toL r:=by
 unfold Zi4
 rw [Zzc hr hl br bl,Zzc hl hr bl br]
 simp only [Option.bind_some]
 by_cases h1:Zot r l=true
 ·have hlen:0 < (toL r).length:=by
   unfold Zot at h1
   have:=of_decide_eq_true h1
   omega
  obtain ⟨rk,rx,rl,rr,rs,rfl⟩:=Zu8 hlen
  obtain ⟨s1,s2,s3⟩:=hr
  have e:(toL (shelf_nodeT.node rk rx rl rr rs)).length=(toL rl).length + (toL rr).length + 1:=by simp [toL];omega
  rw [e] at br bs
  simp only [h1,gd_t,shelf_nodeT.un,Option.bind_some,if_true]
  rw [Zim s1,Zim s2]
  simp only [Option.bind_some,Bool.true_and]
  by_cases h2:(decide (IntKind.i64.wrap (((toL rl).length:Int) + 1) < IntKind.i64.wrap (2 * IntKind.i64.wrap (((toL rr).length:Int) + 1))))=true
  ·rw [if_pos h2]
   obtain ⟨t1,e1,z1,l1⟩:=Zi7 (k:=k) (x:=x) hl s1 bl (by omega)
   have b1:(toL t1).length < 1099511627776:=by rw [l1];simp;omega
   obtain ⟨t2,e2,z2,l2⟩:=Zi7 (k:=rk) (x:=rx) z1 s2 b1 (by omega)
   exact ⟨t2,by rw [e1];simp only [Option.bind_some];rw [e2];rfl,z2,by rw [l2,l1];simp [toL]⟩
  ·rw [if_neg h2]
   have hlen2:0 < (toL rl).length:=by
    rw [wr (x:=((toL rr).length:Int) + 1) (by omega) (by omega),wr (x:=((toL rl).length:Int) + 1) (by omega) (by omega),wr (by omega) (by omega)] at h2
    have:¬ ((toL rl).length:Int) + 1 < 2 * ((toL rr).length + 1):=by simpa using h2
    omega
   obtain ⟨lk,lx,ll,lr,ls,rfl⟩:=Zu8 hlen2
   obtain ⟨q1,q2,q3⟩:=s1
   have e':(toL (shelf_nodeT.node lk lx ll lr ls)).length=(toL ll).length + (toL lr).length + 1:=by simp [toL];omega
   rw [e'] at br bs
   simp only [shelf_nodeT.un,Option.bind_some]
   obtain ⟨t1,e1,z1,l1⟩:=Zi7 (k:=k) (x:=x) hl q1 bl (by omega)
   obtain ⟨t2,e2,z2,l2⟩:=Zi7 (k:=rk) (x:=rx) q2 s2 (by omega) (by omega)
   have b1:(toL t1).length < 1099511627776:=by rw [l1];simp;omega
   have b2:(toL t2).length < 1099511627776:=by rw [l2];simp;omega
   obtain ⟨t3,e3,z3,l3⟩:=Zi7 (k:=lk) (x:=lx) z1 z2 b1 b2
   exact ⟨t3,by rw [e1];simp only [Option.bind_some];rw [e2];simp only [Option.bind_some];rw [e3];rfl,z3,by rw [l3,l1,l2];simp [toL]⟩
 ·have h1':Zot r l=false:=by simpa using h1
  simp only [h1',gd_f,Option.bind_some,Bool.false_and,Bool.false_eq_true,if_false]
  by_cases h3:Zot l r=true
  ·have hlen:0 < (toL l).length:=by
    unfold Zot at h3
    have:=of_decide_eq_true h3
    omega
   obtain ⟨rk,rx,rl,rr,rs,rfl⟩:=Zu8 hlen
   obtain ⟨s1,s2,s3⟩:=hl
   have e:(toL (shelf_nodeT.node rk rx rl rr rs)).length=(toL rl).length + (toL rr).length + 1:=by simp [toL];omega
   rw [e] at bl bs
   simp only [h3,gd_t,shelf_nodeT.un,Option.bind_some,if_true]
   rw [Zim s2,Zim s1]
   simp only [Zcx,shelf_nodeT.isNil,if_true,Option.bind_some,Bool.true_and]
   by_cases h2:(decide (IntKind.i64.wrap (((toL rr).length:Int) + 1) < IntKind.i64.wrap (2 * IntKind.i64.wrap (((toL rl).length:Int) + 1))))=true
   ·rw [if_pos h2]
    obtain ⟨t1,e1,z1,l1⟩:=Zi7 (k:=k) (x:=x) s2 hr (by omega) br
    have b1:(toL t1).length < 1099511627776:=by rw [l1];simp;omega
    obtain ⟨t2,e2,z2,l2⟩:=Zi7 (k:=rk) (x:=rx) s1 z1 (by omega) b1
    exact ⟨t2,by rw [e1];simp only [Option.bind_some];rw [e2];rfl,z2,by rw [l2,l1];simp [toL]⟩
   ·rw [if_neg h2]
    have hlen2:0 < (toL rr).length:=by
     rw [wr (x:=((toL rl).length:Int) + 1) (by omega) (by omega),wr (x:=((toL rr).length:Int) + 1) (by omega) (by omega),wr (by omega) (by omega)] at h2
     have:¬ ((toL rr).length:Int) + 1 < 2 * ((toL rl).length + 1):=by simpa using h2
     omega
    obtain ⟨lk,lx,ll,lr,ls,rfl⟩:=Zu8 hlen2
    obtain ⟨q1,q2,q3⟩:=s2
    have e':(toL (shelf_nodeT.node lk lx ll lr ls)).length=(toL ll).length + (toL lr).length + 1:=by simp [toL];omega
    rw [e'] at bl bs
    simp only [shelf_nodeT.un,Option.bind_some]
    obtain ⟨t1,e1,z1,l1⟩:=Zi7 (k:=rk) (x:=rx) s1 q1 (by omega) (by omega)
    obtain ⟨t2,e2,z2,l2⟩:=Zi7 (k:=k) (x:=x) q2 hr (by omega) br
    have b1:(toL t1).length < 1099511627776:=by rw [l1];simp;omega
    have b2:(toL t2).length < 1099511627776:=by rw [l2];simp;omega
    obtain ⟨t3,e3,z3,l3⟩:=Zi7 (k:=lk) (x:=lx) z1 z2 b1 b2
    exact ⟨t3,by rw [e1];simp only [Option.bind_some];rw [e2];simp only [Option.bind_some];rw [e3];rfl,z3,by rw [l3,l1,l2];simp [toL]⟩
  ·have h3':Zot l r=false:=by simpa using h3
   simp only [h3',gd_f,Option.bind_some,Bool.false_and,Bool.false_eq_true,if_false]
   obtain ⟨t1,e1,z1,l1⟩:=Zi7 (k:=k) (x:=x) hl hr bl br
   exact ⟨t1,by rw [e1];simp [Zcx,shelf_nodeT.isNil,shelf_nodeT.un,Option.bind_some,gd],z1,l1⟩
def insL (k:ByteArray) (x:Ze):List KV → List KV
 | []=>[(k,x)]
 | p :: l=>if sLt k p.1 then (k,x) :: p :: l else if sEq k p.1 then (k,x) :: l else p :: insL k x l
def delL (k:ByteArray):List KV → List KV
 | []=>[]
 | p :: l=>if sEq k p.1 then l else p :: delL k l
theorem Zpa (k:ByteArray) (x:Ze):∀ l:List KV,(insL k x l).length ≤ l.length + 1
 | []=>by simp [insL]
 | p :: l=>by
  have:=Zpa k x l
  simp only [insL]
  split
  ·simp
  ·split <;> simp <;> omega
theorem Znx (k:ByteArray):∀ l:List KV,(delL k l).length ≤ l.length
 | []=>by simp [delL]
 | p :: l=>by
  have:=Znx k l
  simp only [delL]
  split <;> simp <;> omega
theorem Z1p {k:ByteArray} {x:Ze} {p:KV} {B:List KV} (h:sLt k p.1=true):∀ A:List KV,insL k x (A ++ p :: B)=insL k x A ++ p :: B
 | []=>by simp [insL,h]
 | q :: A=>by
  simp only [List.cons_append,insL]
  split
  ·rfl
  ·split
   ·rfl
   ·rw [Z1p h A];rfl
theorem Zsl {k:ByteArray} {x:Ze} {B:List KV}:∀ A:List KV,(∀ q ∈ A,sLt q.1 k=true) → insL k x (A ++ B)=A ++ insL k x B
 | [],_=>rfl
 | q :: A,h=>by
  have hq:=h q (by simp)
  have h1:sLt k q.1=false:=Zul hq
  have h2:sEq k q.1=false:=Ze6.2 (fun e=>Zm8 hq e.symm)
  simp only [List.cons_append,insL,h1,h2,Bool.false_eq_true,if_false]
  rw [Zsl A fun q hq=>h q (by simp [hq])]
theorem Z9c {k:ByteArray} {x:Ze} {p:KV} {B:List KV} (h:k=p.1):insL k x (p :: B)=(k,x) :: B:=by
 simp [insL,h,Zid,Zdi]
theorem Z9h {k:ByteArray} {x:Ze} {p:KV} {B:List KV} (h:sLt p.1 k=true):insL k x (p :: B)=p :: insL k x B:=by
 have h1:sLt k p.1=false:=Zul h
 have h2:sEq k p.1=false:=Ze6.2 (fun e=>Zm8 h e.symm)
 simp [insL,h1,h2]
theorem Zrm {k:ByteArray}:∀ l:List KV,(∀ q ∈ l,q.1 ≠ k) → delL k l=l
 | [],_=>rfl
 | p :: l,h=>by
  have:sEq k p.1=false:=Ze6.2 (fun e=>h p (by simp) e.symm)
  simp only [delL,this,Bool.false_eq_true,if_false]
  rw [Zrm l fun q hq=>h q (by simp [hq])]
theorem Z1w {k:ByteArray} {p:KV} {B:List KV} (h:sLt k p.1=true) (hB:∀ q ∈ B,sLt p.1 q.1=true):∀ A:List KV,delL k (A ++ p :: B)=delL k A ++ p :: B
 | []=>by
  have h1:sEq k p.1=false:=Ze6.2 (Zm8 h)
  simp only [List.nil_append,delL,h1,Bool.false_eq_true,if_false]
  rw [Zrm B fun q hq e=>by
   have:=Zgj h (hB q hq)
   rw [e,Zid] at this;cases this]
 | q :: A=>by
  simp only [List.cons_append,delL]
  split
  ·rfl
  ·rw [Z1w h hB A];rfl
theorem Zsz {k:ByteArray} {B:List KV}:∀ A:List KV,(∀ q ∈ A,sLt q.1 k=true) → delL k (A ++ B)=A ++ delL k B
 | [],_=>rfl
 | q :: A,h=>by
  have hq:=h q (by simp)
  have h2:sEq k q.1=false:=Ze6.2 (fun e=>Zm8 hq e.symm)
  simp only [List.cons_append,delL,h2,Bool.false_eq_true,if_false]
  rw [Zsz A fun q hq=>h q (by simp [hq])]
theorem Zwl {A B:List KV} {p:KV} (h:Srt (A ++ p :: B)):Srt A ∧ Srt B ∧ (∀ q ∈ A,sLt q.1 p.1=true) ∧ (∀ q ∈ B,sLt p.1 q.1=true):=by
 obtain ⟨h1,h2,h3⟩:=List.pairwise_append.1 h
 obtain ⟨h4,h5⟩:=List.pairwise_cons.1 h2
 exact ⟨h1,h5,fun q hq=>h3 q hq p (by simp),h4⟩
theorem Zqx {k:ByteArray} {x:Ze}:∀ {l:List KV} {q:KV},q ∈ insL k x l → q=(k,x) ∨ q ∈ l
 | [],q,h=>by simp [insL] at h;exact .inl h
 | p :: l,q,h=>by
  simp only [insL] at h
  split at h
  ·rcases List.mem_cons.1 h with h | h
   ·exact .inl h
   ·exact .inr h
  ·split at h
   ·rcases List.mem_cons.1 h with h | h
    ·exact .inl h
    ·exact .inr (List.mem_cons_of_mem _ h)
   ·rcases List.mem_cons.1 h with h | h
    ·exact .inr (by simp [h])
    ·rcases Zqx h with h | h
     ·exact .inl h
     ·exact .inr (List.mem_cons_of_mem _ h)
theorem Zn4 {k:ByteArray}:∀ {l:List KV} {q:KV},q ∈ delL k l → q ∈ l
 | [],q,h=>by simp [delL] at h
 | p :: l,q,h=>by
  simp only [delL] at h
  split at h
  ·exact List.mem_cons_of_mem _ h
  ·rcases List.mem_cons.1 h with h | h
   ·simp [h]
   ·exact List.mem_cons_of_mem _ (Zn4 h)
theorem Zth {k:ByteArray} {x:Ze}:∀ {l:List KV},Srt l → Srt (insL k x l)
 | [],_=>List.pairwise_singleton ..
 | p :: l,h=>by
  obtain ⟨h1,h2⟩:=List.pairwise_cons.1 h
  simp only [insL]
  split
  ·rename_i hk
   refine List.pairwise_cons.2 ⟨fun q hq=>?_,h⟩
   rcases List.mem_cons.1 hq with rfl | hq
   ·exact hk
   ·exact Zgj hk (h1 q hq)
  ·rename_i hk
   split
   ·rename_i he
    have he:=Zdz.1 he
    exact List.pairwise_cons.2 ⟨fun q hq=>by rw [he];exact h1 q hq,h2⟩
   ·rename_i he
    have hlt:sLt p.1 k=true:=Zm4 (by simpa using hk) (fun e=>he (Zdz.2 e))
    refine List.pairwise_cons.2 ⟨fun q hq=>?_,Zth h2⟩
    rcases Zqx hq with rfl | hq
    ·exact hlt
    ·exact h1 q hq
theorem Ztn {k:ByteArray}:∀ {l:List KV},Srt l → Srt (delL k l)
 | [],h=>h
 | p :: l,h=>by
  obtain ⟨h1,h2⟩:=List.pairwise_cons.1 h
  simp only [delL]
  split
  ·exact h2
  ·exact List.pairwise_cons.2 ⟨fun q hq=>h1 q (Zn4 hq),Ztn h2⟩
theorem Z0s:∀ (n:Nat) (t:shelf_nodeT) (k:ByteArray) (x:Ze),t.hh < n → Szd t → Srt (toL t) → (toL t).length + 2 < 1099511627776 →
  ∃ t',Zf1 n t k x=some t' ∧ Szd t' ∧ toL t'=insL k x (toL t)
 | 0,t,k,x,h,_,_,_=>by omega
 | n + 1,.nil,k,x,_,_,_,_=>by
  obtain ⟨t1,e1,z1,l1⟩:=Zi7 (k:=k) (x:=x) (l:=.nil) (r:=.nil) trivial trivial (by simp [toL]) (by simp [toL])
  refine ⟨t1,?_,z1,by rw [l1];rfl⟩
  simp only [Zf1,Zjg,shelf_nodeT.isNil,if_true]
  rw [e1];rfl
 | n + 1,.node nk nx l r s,k,x,hh,hz,hs,hb=>by
  obtain ⟨z1,z2,z3⟩:=hz
  simp only [toL] at hs hb
  obtain ⟨s1,s2,sA,sB⟩:=Zwl hs
  have hlen:(toL l ++ (nk,nx) :: toL r).length=(toL l).length + (toL r).length + 1:=by simp;omega
  rw [hlen] at hb
  simp only [shelf_nodeT.hh] at hh
  simp only [Zf1,Zjg,shelf_nodeT.isNil,shelf_nodeT.un,Bool.false_eq_true,if_false,Option.bind_some]
  by_cases h1:sLt k nk=true
  ·rw [if_pos h1]
   obtain ⟨t1,e1,y1,l1⟩:=Z0s n l k x (by omega) z1 s1 (by omega)
   have b1:=Zpa k x (toL l)
   rw [← l1] at b1
   obtain ⟨t2,e2,y2,l2⟩:=Zqp (k:=nk) (x:=nx) y1 z2 (by omega) (by omega) (by omega)
   refine ⟨t2,by rw [e1];simp only [Option.bind_some];rw [e2];rfl,y2,?_⟩
   rw [l2,l1];simp only [toL];rw [Z1p (by exact h1)]
  ·rw [if_neg h1]
   by_cases h2:k=nk
   ·subst h2
    have he:(!(sLt k k || sEq k k))=false:=by simp [Zdi]
    rw [he]
    simp only [Bool.false_eq_true,if_false]
    obtain ⟨t1,e1,y1,l1⟩:=Zi7 (k:=k) (x:=x) z1 z2 (by omega) (by omega)
    refine ⟨t1,by rw [e1];rfl,y1,?_⟩
    rw [l1];simp only [toL]
    rw [Zsl _ (fun q hq=>sA q hq),Z9c rfl]
   ·have h3:sLt nk k=true:=Zm4 (by simpa using h1) h2
    have he:(!(sLt k nk || sEq k nk))=true:=by simp [Ze6.2 h2];simpa using h1
    rw [he]
    simp only [if_true]
    obtain ⟨t1,e1,y1,l1⟩:=Z0s n r k x (by omega) z2 s2 (by omega)
    have b1:=Zpa k x (toL r)
    rw [← l1] at b1
    obtain ⟨t2,e2,y2,l2⟩:=Zqp (k:=nk) (x:=nx) z1 y1 (by omega) (by omega) (by omega)
    refine ⟨t2,by rw [e1];simp only [Option.bind_some];rw [e2];rfl,y2,?_⟩
    rw [l2,l1];simp only [toL]
    rw [Zsl _ (fun q hq=>Zgj (sA q hq) h3),Z9h h3]
theorem Z2p {t:shelf_nodeT} {k:ByteArray} {x:Ze} (hz:Szd t) (hs:Srt (toL t)) (hb:(toL t).length + 2 < 1099511627776) :
  ∃ t',Zn3 t k x=some t' ∧ Szd t' ∧ toL t'=insL k x (toL t):=Z0s _ t k x (Nat.lt_succ_self _) hz hs hb
theorem Zz1:∀ (n:Nat) (t:shelf_nodeT),t.hh < n → t.isNil=false → ∃ t' k x l r s B,Zfw n t=some t' ∧ t'=.node k x l r s ∧ toL t=(k,x) :: B
 | 0,t,h,_=>by omega
 | n + 1,.nil,_,h=>by cases h
 | n + 1,.node k x l r s,hh,_=>by
  simp only [shelf_nodeT.hh] at hh
  simp only [Zfw,shelf_nodeT.un,Option.bind_some]
  cases l with
  | nil=>exact ⟨_,k,x,.nil,r,s,toL r,rfl,rfl,rfl⟩
  | node k2 x2 l2 r2 s2 =>
   obtain ⟨t',k',x',l',r',s',B,e1,e2,e3⟩:=Zz1 n (.node k2 x2 l2 r2 s2) (by omega) rfl
   exact ⟨t',k',x',l',r',s',B ++ (k,x) :: toL r,by simp [shelf_nodeT.isNil];exact e1,e2,by
    simp only [toL] at e3 ⊢
    rw [e3];rfl⟩
theorem Zvj:∀ (n:Nat) (t:shelf_nodeT) (k:ByteArray),t.hh < n → Szd t → Srt (toL t) → (toL t).length + 2 < 1099511627776 →
  ∃ t',Zgx n t k=some t' ∧ Szd t' ∧ toL t'=delL k (toL t)
 | 0,t,k,h,_,_,_=>by omega
 | n + 1,.nil,k,_,_,_,_=>⟨.nil,rfl,trivial,rfl⟩
 | n + 1,.node nk nx l r s,k,hh,hz,hs,hb=>by
  obtain ⟨z1,z2,z3⟩:=hz
  simp only [toL] at hs hb
  obtain ⟨s1,s2,sA,sB⟩:=Zwl hs
  have hlen:(toL l ++ (nk,nx) :: toL r).length=(toL l).length + (toL r).length + 1:=by simp;omega
  rw [hlen] at hb
  simp only [shelf_nodeT.hh] at hh
  simp only [Zgx,Zky,shelf_nodeT.isNil,shelf_nodeT.un,Bool.false_eq_true,if_false,Option.bind_some]
  by_cases h1:sLt k nk=true
  ·rw [if_pos h1]
   obtain ⟨t1,e1,y1,l1⟩:=Zvj n l k (by omega) z1 s1 (by omega)
   have b1:=Znx k (toL l)
   rw [← l1] at b1
   obtain ⟨t2,e2,y2,l2⟩:=Zqp (k:=nk) (x:=nx) y1 z2 (by omega) (by omega) (by omega)
   refine ⟨t2,by rw [e1];simp only [Option.bind_some];rw [e2];rfl,y2,?_⟩
   rw [l2,l1];simp only [toL];rw [Z1w (by exact h1) (fun q hq=>sB q hq)]
  ·rw [if_neg h1]
   by_cases h2:k=nk
   ·subst h2
    have he:(!(sLt k k || sEq k k))=false:=by simp [Zdi]
    rw [he]
    simp only [Bool.false_eq_true,if_false]
    have hdel:delL k (toL l ++ (k,nx) :: toL r)=toL l ++ toL r:=by
     rw [Zsz _ (fun q hq=>sA q hq)]
     simp [delL,Zdi]
    cases hl:l with
    | nil=>exact ⟨r,by simp [shelf_nodeT.isNil,shelf_nodeT.un],z2,by show toL r=delL k (toL .nil ++ (k,nx) :: toL r);rw [← hl,hdel,hl];rfl⟩
    | node k2 x2 l2 r2 q2 =>
     cases hr:r with
     | nil=>exact ⟨l,by simp [shelf_nodeT.isNil,shelf_nodeT.un,hl],z1,by rw [← hl,← hr];show toL l=delL k (toL l ++ (k,nx) :: toL r);rw [hdel,hr];simp [toL]⟩
     | node k3 x3 l3 r3 q3 =>
      rw [← hl,← hr]
      have hn:r.isNil=false:=by rw [hr];rfl
      have hn1:l.isNil=false:=by rw [hl];rfl
      obtain ⟨t',k',x',l',r',s',B,e1,e2,e3⟩:=Zz1 (r.hh + 1) r (Nat.lt_succ_self _) hn
      subst e2
      have hf:Zje r=some (.node k' x' l' r' s'):=by
       unfold Zje;rw [e1];rfl
      obtain ⟨t1,c1,y1,l1⟩:=Zvj n r k' (by omega) z2 s2 (by omega)
      have hB:toL t1=B:=by rw [l1,e3];simp [delL,Zdi]
      have hBl:B.length + 1=(toL r).length:=by rw [e3];simp
      obtain ⟨t2,c2,y2,l2⟩:=Zqp (k:=k') (x:=x') z1 y1 (by omega) (by rw [hB];omega) (by rw [hB];omega)
      refine ⟨t2,?_,y2,?_⟩
      ·simp only [hf,Option.bind_some,shelf_nodeT.un,c1,c2]
       show (if l.isNil=true then some r else if r.isNil=true then some l else some t2)=some t2
       rw [hn,hn1];rfl
      ·show toL t2=delL k (toL l ++ (k,nx) :: toL r)
       rw [hdel,l2,hB,e3]
   ·have h3:sLt nk k=true:=Zm4 (by simpa using h1) h2
    have he:(!(sLt k nk || sEq k nk))=true:=by simp [Ze6.2 h2];simpa using h1
    rw [he]
    simp only [if_true]
    obtain ⟨t1,e1,y1,l1⟩:=Zvj n r k (by omega) z2 s2 (by omega)
    have b1:=Znx k (toL r)
    rw [← l1] at b1
    obtain ⟨t2,e2,y2,l2⟩:=Zqp (k:=nk) (x:=nx) z1 y1 (by omega) (by omega) (by omega)
    refine ⟨t2,by rw [e1];simp only [Option.bind_some];rw [e2];rfl,y2,?_⟩
    rw [l2,l1];simp only [toL]
    rw [Zsz _ (fun q hq=>Zgj (sA q hq) h3)]
    simp [delL,Ze6.2 h2]
theorem Z2g {t:shelf_nodeT} {k:ByteArray} (hz:Szd t) (hs:Srt (toL t)) (hb:(toL t).length + 2 < 1099511627776) :
  ∃ t',Znt t k=some t' ∧ Szd t' ∧ toL t'=delL k (toL t):=Zvj _ t k (Nat.lt_succ_self _) hz hs hb
def lk (k:ByteArray):List KV → Option Ze
 | []=>none
 | p :: l=>if sEq k p.1 then some p.2 else lk k l
def rk (k:ByteArray):List KV → Nat
 | []=>0
 | p :: l=>if sLt p.1 k then rk k l + 1 else 0
theorem Zly {k:ByteArray}:∀ {l:List KV},(∀ q ∈ l,q.1 ≠ k) → lk k l=none
 | [],_=>rfl
 | p :: l,h=>by
  have:sEq k p.1=false:=Ze6.2 (fun e=>h p (by simp) e.symm)
  simp only [lk,this,Bool.false_eq_true,if_false]
  exact Zly fun q hq=>h q (by simp [hq])
theorem Z7p {k:ByteArray} {p:KV} {B:List KV} (h:sLt k p.1=true) (hB:∀ q ∈ B,sLt p.1 q.1=true):∀ A:List KV,lk k (A ++ p :: B)=lk k A
 | []=>by
  have h1:sEq k p.1=false:=Ze6.2 (Zm8 h)
  simp only [List.nil_append,lk,h1,Bool.false_eq_true,if_false]
  exact Zly fun q hq e=>by
   have:=Zgj h (hB q hq)
   rw [e,Zid] at this;cases this
 | q :: A=>by
  simp only [List.cons_append,lk]
  split
  ·rfl
  ·exact Z7p h hB A
theorem Zwx {k:ByteArray} {B:List KV}:∀ A:List KV,(∀ q ∈ A,sLt q.1 k=true) → lk k (A ++ B)=lk k B
 | [],_=>rfl
 | q :: A,h=>by
  have hq:=h q (by simp)
  have h2:sEq k q.1=false:=Ze6.2 (fun e=>Zm8 hq e.symm)
  simp only [List.cons_append,lk,h2,Bool.false_eq_true,if_false]
  exact Zwx A fun q hq=>h q (by simp [hq])
theorem Ztg (k:ByteArray):∀ l:List KV,rk k l ≤ l.length
 | []=>by simp [rk]
 | p :: l=>by
  have:=Ztg k l
  simp only [rk]
  split <;> simp <;> omega
def Cl (x:Ze):Prop:=x.List.length ≤ 1000
theorem Zrc {x:Ze} (h:Cl x):Zev x=some x:=by
 unfold Zev Zby
 unfold Cl at h
 rw [if_pos (by omega)]
 rfl
abbrev zrec:Ze:={ Kind:=0,Num:=0,Low:=0,High:=0,Real:=0,Cap:=0,Text:=ByteArray.empty,List:=[] }
def getR:Option Ze → Ze × Bool
 | some r=>(r,true)
 | none=>(zrec,false)
def getE (x:Ze):Option Ze → (Ze × Bool) ⊕ Ze
 | some r=>.inl (r,true)
 | none=>.inr x
theorem Zur (k:ByteArray) (x:Ze):∀ (n:Nat) (t:shelf_nodeT),t.hh < n → Srt (toL t) → (∀ q ∈ toL t,Cl q.2) → Zeo k n x t=some (getE x (lk k (toL t)))
 | 0,t,h,_,_=>by omega
 | n + 1,.nil,_,_,_=>rfl
 | n + 1,.node nk nx l r s,hh,hs,hc=>by
  simp only [toL] at hs hc
  obtain ⟨s1,s2,sA,sB⟩:=Zwl hs
  simp only [shelf_nodeT.hh] at hh
  simp only [Zeo,shelf_nodeT.isNil,shelf_nodeT.un,Bool.not_false,if_true,Option.bind_some,Zib,toL]
  by_cases h1:sLt k nk=true
  ·rw [if_pos h1,Zur k x n l (by omega) s1 (fun q hq=>hc q (by simp [hq])),Z7p (by exact h1) (fun q hq=>sB q hq)]
  ·rw [if_neg h1]
   by_cases h2:k=nk
   ·subst h2
    have he:(!(sLt k k || sEq k k))=false:=by simp [Zdi]
    rw [he]
    simp only [Bool.false_eq_true,if_false]
    rw [Zrc (hc (k,nx) (by simp)),Zwx _ (fun q hq=>sA q hq)]
    simp [lk,Zdi,getE]
   ·have h3:sLt nk k=true:=Zm4 (by simpa using h1) h2
    have he:(!(sLt k nk || sEq k nk))=true:=by simp [Ze6.2 h2];simpa using h1
    rw [he]
    simp only [if_true]
    rw [Zur k x n r (by omega) s2 (fun q hq=>hc q (by simp [hq])),Zwx _ (fun q hq=>Zgj (sA q hq) h3)]
    simp [lk,Ze6.2 h2]
theorem Zba4 {s:Zn} {k:ByteArray} (hs:Srt (toL s.top)) (hc:∀ q ∈ toL s.top,Cl q.2):Zei s k=some (getR (lk k (toL s.top))):=by
 unfold Zei
 rw [Zur k _ _ _ (Nat.lt_succ_self _) hs hc]
 cases lk k (toL s.top) <;> rfl
def atE (x:Ze):Option KV → (ByteArray × Ze × Bool) ⊕ Ze
 | some p=>.inl (p.1,p.2,true)
 | none=>.inr x
theorem Z2r {α:Type} {A B:List α} {i:Int} (h:i < A.length):idx (A ++ B) i=idx A i:=by
 unfold idx
 split
 ·rw [List.getElem?_append_left (by omega)]
 ·rfl
theorem Z1e {α:Type} {A B:List α} {p:α}:idx (A ++ p :: B) (A.length:Int)=some p:=by
 rw [idxn];simp
theorem Z3i {α:Type} {A B:List α} {p:α} {i:Int} (h:(A.length:Int) < i):idx (A ++ p :: B) i=idx B (i - (A.length + 1)):=by
 unfold idx
 rw [if_pos (by omega),if_pos (by omega),List.getElem?_append_right (by omega)]
 rw [show i.toNat - A.length=(i - (A.length + 1)).toNat + 1 by omega,List.getElem?_cons_succ]
theorem Zw0 (x:Ze):∀ (n:Nat) (t:shelf_nodeT) (i:Int),t.hh < n → Szd t → (toL t).length + 2 < 1099511627776 → -1099511627776 < i → i < 1099511627776 → (∀ q ∈ toL t,Cl q.2) → Zd8 n i x t=some (atE x (idx (toL t) i))
 | 0,t,i,h,_,_,_,_,_=>by omega
 | n + 1,.nil,i,_,_,_,_,_,_=>by
  simp only [Zd8,shelf_nodeT.isNil,toL]
  have hn:idx ([]:List KV) i=none:=by
   unfold idx
   split <;> simp
  rw [hn]
  rfl
 | n + 1,.node nk nx l r s,i,hh,hz,hb,i1,i2,hc=>by
  obtain ⟨z1,z2,z3⟩:=hz
  simp only [toL] at hb hc
  have hlen:(toL l ++ (nk,nx) :: toL r).length=(toL l).length + (toL r).length + 1:=by simp;omega
  rw [hlen] at hb
  simp only [shelf_nodeT.hh] at hh
  simp only [Zd8,shelf_nodeT.isNil,shelf_nodeT.un,Bool.not_false,if_true,Option.bind_some,Zio,toL]
  rw [Zim z1]
  simp only [Option.bind_some]
  by_cases h1:i < (toL l).length
  ·rw [if_pos (by simpa using h1),Zw0 x n l i (by omega) z1 (by omega) i1 i2 (fun q hq=>hc q (by simp [hq])),Z2r h1]
  ·rw [if_neg (by simpa using h1)]
   by_cases h2:((toL l).length:Int) < i
   ·rw [if_pos (by simpa using h2),wr (x:=((toL l).length:Int) + 1) (by omega) (by omega),wr (by omega) (by omega),Zw0 x n r _ (by omega) z2 (by omega) (by omega) (by omega) (fun q hq=>hc q (by simp [hq])),Z3i h2]
   ·rw [if_neg (by simpa using h2),Zrc (hc (nk,nx) (by simp))]
    have:i=(toL l).length:=by omega
    subst this
    rw [Z1e];rfl
def atR:Option KV → ByteArray × Ze × Bool
 | some p=>(p.1,p.2,true)
 | none=>(⟨#[]⟩,zrec,false)
theorem Z2v {s:Zn} {i:Int} (hz:Szd s.top) (hb:(toL s.top).length + 2 < 1099511627776) (i1:-1099511627776 < i) (i2:i < 1099511627776) (hc:∀ q ∈ toL s.top,Cl q.2):Zhy s i=some (atR (idx (toL s.top) i)):=by
 unfold Zhy
 rw [Zw0 _ _ _ _ (Nat.lt_succ_self _) hz hb i1 i2 hc]
 cases idx (toL s.top) i <;> rfl
theorem Zlb {k:ByteArray} (x:Ze):∀ {l:List KV},Srt l →
  (∃ p,l[rk k l]?=some p ∧ p.1=k ∧ lk k l=some p.2 ∧ insL k x l=l.take (rk k l) ++ (k,x) :: l.drop (rk k l + 1) ∧ delL k l=l.take (rk k l) ++ l.drop (rk k l + 1)) ∨
  ((∀ p,l[rk k l]?=some p → p.1 ≠ k) ∧ lk k l=none ∧ insL k x l=l.take (rk k l) ++ (k,x) :: l.drop (rk k l) ∧ delL k l=l)
 | [],_=>.inr ⟨fun p h=>by simp at h,rfl,rfl,rfl⟩
 | p :: l,hs=>by
  obtain ⟨h1,h2⟩:=List.pairwise_cons.1 hs
  by_cases h:sLt p.1 k=true
  ·have e1:sLt k p.1=false:=Zul h
   have e2:sEq k p.1=false:=Ze6.2 (fun e=>Zm8 h e.symm)
   simp only [rk,h,if_true,lk,insL,delL,e1,e2,Bool.false_eq_true,if_false,List.getElem?_cons_succ,List.take_succ_cons,List.drop_succ_cons]
   rcases Zlb x h2 with ⟨q,a1,a2,a3,a4,a5⟩ | ⟨a1,a2,a3,a4⟩
   ·exact .inl ⟨q,a1,a2,a3,by rw [a4];rfl,by rw [a5];rfl⟩
   ·exact .inr ⟨a1,a2,by rw [a3];rfl,by rw [a4]⟩
  ·have h':sLt p.1 k=false:=by simpa using h
   simp only [rk,h',Bool.false_eq_true,if_false]
   by_cases he:k=p.1
   ·left
    exact ⟨p,rfl,he.symm,by simp [lk,he,Zdi],by simp [insL,he,Zid,Zdi],by simp [delL,he,Zdi]⟩
   ·right
    have hlt:sLt k p.1=true:=Zm4 h' (fun e=>he e.symm)
    have hne:∀ q ∈ l,q.1 ≠ k:=fun q hq e=>by
     have:=Zgj hlt (h1 q hq)
     rw [e,Zid] at this;cases this
    refine ⟨fun q hq e=>?_,?_,by simp [insL,hlt],?_⟩
    ·simp at hq;subst hq;exact he e.symm
    ·simp only [lk,Ze6.2 he,Bool.false_eq_true,if_false];exact Zly hne
    ·simp only [delL,Ze6.2 he,Bool.false_eq_true,if_false];rw [Zrm l hne]
def kv (p:Zbd):KV:=(p.Key,p.Rec)
def pl (t:Zj):List KV:=t.L.map kv
theorem Zpr (t:Zj) (i:Nat):(pl t)[i]?=(t.L[i]?).map kv:=by simp [pl]
theorem Zes (t:Zj):(pl t).length=t.L.length:=by simp [pl]
theorem Zxv {t:Zj} {k:ByteArray} (hb:t.L.length < 1099511627776):∀ (n i:Nat),i + n=t.L.length →
  Zdf t k (n + 1) (i:Int)=some ((i + rk k ((pl t).drop i):Nat):Int)
 | 0,i,h=>by
  have hd:decide ((i:Int) < (t.L.length:Int))=false:=by simp;omega
  rw [Zdf,hd,List.drop_of_length_le (by rw [Zes];omega)]
  simp [gd,rk]
 | n + 1,i,h=>by
  have hd:decide ((i:Int) < (t.L.length:Int))=true:=by simp;omega
  have hi:i < t.L.length:=by omega
  have hi':i < (pl t).length:=by rw [Zes];exact hi
  rw [Zdf,hd,Zdd hi,List.drop_eq_getElem_cons hi',wr1 (by omega)]
  have hg:(pl t)[i]=kv t.L[i]:=by simp [pl]
  rw [hg]
  simp only [gd_t,Option.bind_some,Bool.true_and,rk]
  by_cases hk:sLt t.L[i].Key k=true
  ·have hk':sLt (kv t.L[i]).1 k=true:=hk
   rw [if_pos hk,if_pos hk',Zxv hb n (i + 1) (by omega)]
   congr 2;omega
  ·have hk':¬ sLt (kv t.L[i]).1 k=true:=hk
   rw [if_neg hk,if_neg hk'];rfl
theorem Zuj {t:Zj} {k:ByteArray} (hb:t.L.length < 1099511627776):Zeq t k=some (rk k (pl t):Int):=by
 unfold Zeq
 have:=Zxv (k:=k) hb t.L.length 0 (by omega)
 rw [show ((0:Nat):Int)=0 from rfl] at this
 rw [show (Int.toNat ((t.L.length:Int) - (0:Int)) + 1)=t.L.length + 1 by omega,this]
 simp
structure Rel (s:Zn) (t:Zj) (n:Nat):Prop where
 top:toL s.top=pl t
 sz:Szd s.top
 srt:Srt (pl t)
 len:t.L.length ≤ n
 room:s.room=t.Room
 ok:∀ q ∈ pl t,Zih q.2 ∧ q.2.List.length ≤ 100
theorem Rel.cl {s:Zn} {t:Zj} {n:Nat} (h:Rel s t n):∀ q ∈ toL s.top,Cl q.2:=fun q hq=>by
 rw [h.top] at hq
 have:=(h.ok q hq).2
 unfold Cl;omega
theorem Rel.mono {s:Zn} {t:Zj} {n m:Nat} (h:Rel s t n) (hm:n ≤ m):Rel s t m:=⟨h.top,h.sz,h.srt,Nat.le_trans h.len hm,h.room,h.ok⟩
theorem Rel.tl {s:Zn} {t:Zj} {n:Nat} (h:Rel s t n):(toL s.top).length=t.L.length:=by rw [h.top,Zes]
theorem Z8v (r:Int):Rel { top:=.nil,room:=r } { L:=[],Room:=r } 0:=⟨rfl,trivial,List.Pairwise.nil,Nat.le_refl _,rfl,fun q h=>by simp [pl] at h⟩
theorem Z8k {s:Zn} {t:Zj} {n:Nat} (h:Rel s t n) (hn:n < 1000000) (k:ByteArray):Zg4 t k=some (getR (lk k (pl t))):=by
 have hb:=h.len
 unfold Zg4
 rw [Zuj (by omega)]
 simp only [Option.bind_some]
 have hle:=Ztg k (pl t)
 rw [Zes] at hle
 by_cases hi:rk k (pl t) < t.L.length
 ·have hd:decide (((rk k (pl t):Nat):Int) < (t.L.length:Int))=true:=by simp;omega
  rw [hd,Zdd hi]
  simp only [gd_t,Option.bind_some,Bool.true_and]
  have hg:(pl t)[rk k (pl t)]?=some (kv t.L[rk k (pl t)]):=by rw [Zpr,List.getElem?_eq_getElem hi];rfl
  rcases Zlb default h.srt with ⟨p,a1,a2,a3,_,_⟩ | ⟨a1,a2,_,_⟩
  ·rw [hg] at a1
   obtain rfl:=Option.some.inj a1
   have:sEq (t.L[rk k (pl t)]).Key k=true:=Zdz.2 a2
   rw [if_pos this,a3];rfl
  ·have:sEq (t.L[rk k (pl t)]).Key k=false:=Ze6.2 (a1 _ hg)
   rw [if_neg (by simp [this]),a2];rfl
 ·have hd:decide (((rk k (pl t):Nat):Int) < (t.L.length:Int))=false:=by simp;omega
  rw [hd]
  simp only [gd_f,Option.bind_some,Bool.false_and,Bool.false_eq_true,if_false]
  rcases Zlb (k:=k) default h.srt with ⟨p,a1,_⟩ | ⟨_,a2,_,_⟩
  ·have:=(List.getElem?_eq_some_iff.1 a1).1
   rw [Zes] at this;omega
  ·rw [a2];rfl
theorem Zm2 {s:Zn} {t:Zj} {n:Nat} (h:Rel s t n) (k:ByteArray):Zei s k=some (getR (lk k (pl t))):=by
 rw [Zba4 (by rw [h.top];exact h.srt) h.cl,h.top]
theorem Zwu {s:Zn} {t:Zj} {n:Nat} (h:Rel s t n):Zfb s=some (t.L.length:Int):=by
 unfold Zfb
 rw [Zim h.sz,h.tl];rfl
theorem Zuy (t:Zj) (i:Nat):(t.L.take i).map kv=(pl t).take i:=by simp [pl]
theorem Zuk (t:Zj) (i:Nat):(t.L.drop i).map kv=(pl t).drop i:=by simp [pl]
theorem Zrr {s:Zn} {t:Zj} {n:Nat} (h:Rel s t n) (hn:n < 1000000) (k:ByteArray):∃ s' t' b,Zef s k=some (s',b) ∧ Zg0 t k=some (t',b) ∧ Rel s' t' n ∧ (pl t'=pl t ∨ pl t'=delL k (pl t)):=by
 have hb:=h.len
 have hle:=Ztg k (pl t)
 rw [Zes] at hle
 unfold Zef Zg0
 rw [Zm2 h,Zuj (by omega)]
 simp only [Option.bind_some]
 rcases Zlb default h.srt with ⟨p,a1,a2,a3,_,a5⟩ | ⟨a1,a2,_,a4⟩
 ·have hi:rk k (pl t) < t.L.length:=by
   have:=(List.getElem?_eq_some_iff.1 a1).1
   rwa [Zes] at this
  rw [a3]
  have hd:decide ((t.L.length:Int) ≤ ((rk k (pl t):Nat):Int))=false:=by simp;omega
  have hg:(pl t)[rk k (pl t)]?=some (kv t.L[rk k (pl t)]):=by rw [Zpr,List.getElem?_eq_getElem hi];rfl
  rw [hg] at a1
  obtain rfl:=Option.some.inj a1
  have he:sEq (t.L[rk k (pl t)]).Key k=true:=Zdz.2 a2
  rw [hd,Zdd hi]
  obtain ⟨t1,c1,z1,l1⟩:=Z2g (k:=k) h.sz (by rw [h.top];exact h.srt) (by rw [h.tl];omega)
  rw [c1]
  simp only [getR,Bool.not_true,Bool.false_eq_true,if_false,Option.bind_some,Bool.not_false,gd_t,he,Bool.or_false,Bool.or_self]
  rw [show (0:Int)=((0:Nat):Int) from rfl,Zn5 (by omega) (by omega),wr1 (by omega),Zn5 (by omega) (by omega)]
  simp only [Option.bind_some,List.nil_append,List.drop_zero,Nat.sub_zero,List.length_nil,Nat.zero_add]
  have ht:(List.take (t.L.length - (rk k (pl t) + 1)) (List.drop (rk k (pl t) + 1) t.L))=List.drop (rk k (pl t) + 1) t.L:=List.take_of_length_le (by simp)
  rw [ht,if_pos (by simp;omega),if_pos (by simp;omega)]
  have hpl:pl { L:=List.take (rk k (pl t)) t.L ++ List.drop (rk k (pl t) + 1) t.L,Room:=t.Room }=delL k (pl t):=by
   rw [a5,← Zuy,← Zuk,← List.map_append];rfl
  refine ⟨_,_,true,rfl,rfl,⟨?_,z1,?_,?_,h.room,?_⟩,.inr hpl⟩
  ·rw [hpl,l1,h.top]
  ·rw [hpl];exact Ztn h.srt
  ·simp;omega
  ·intro q hq
   rw [hpl] at hq
   exact h.ok q (Zn4 hq)
 ·rw [a2]
  simp only [getR,Bool.not_false,if_true]
  by_cases hi:rk k (pl t) < t.L.length
  ·have hd:decide ((t.L.length:Int) ≤ ((rk k (pl t):Nat):Int))=false:=by simp;omega
   have hg:(pl t)[rk k (pl t)]?=some (kv t.L[rk k (pl t)]):=by rw [Zpr,List.getElem?_eq_getElem hi];rfl
   have he:sEq (t.L[rk k (pl t)]).Key k=false:=Ze6.2 (a1 _ hg)
   rw [hd,Zdd hi]
   simp only [Bool.not_false,gd_t,Option.bind_some,he,Bool.false_or,if_true]
   exact ⟨s,t,false,rfl,rfl,h,.inl rfl⟩
  ·have hd:decide ((t.L.length:Int) ≤ ((rk k (pl t):Nat):Int))=true:=by simp;omega
   rw [hd]
   simp only [Bool.not_true,gd_f,Option.bind_some,Bool.true_or,if_true]
   exact ⟨s,t,false,rfl,rfl,h,.inl rfl⟩
theorem Zw9 (k:ByteArray):sEq k (⟨#[]⟩:ByteArray)=decide ((k.size:Int) < 1):=by
 by_cases h:k=⟨#[]⟩
 ·subst h;rw [Zdi];decide
 ·rw [Ze6.2 h]
  have:k.size ≠ 0:=fun e=>h (by
   apply ByteArray.ext
   exact Array.size_eq_zero_iff.1 e)
  simp;omega
theorem Znw {s:Zn} {t:Zj} {n:Nat} (h:Rel s t n) (hn:n < 1000000) (k:ByteArray) {x:Ze} (hx:Zih x) (hx2:x.List.length ≤ 100) :
  ∃ s' t' c,Zc8 s k x=some (s',c) ∧ Ze8 t k x=some (t',c) ∧ Rel s' t' (n + 1) ∧ (pl t'=pl t ∨ (pl t'=insL k x (pl t) ∧ Zet x=some 0 ∧ ¬ (k.size:Int) < 1 ∧ ¬ (24:Int) < (k.size:Int))):=by
 have hb:=h.len
 have hle:=Ztg k (pl t)
 rw [Zes] at hle
 obtain ⟨c,hc1,hc2⟩:=Zni hx
 unfold Zc8 Ze8
 rw [hc1,hc2,Zm2 h,Zuj (by omega),Zwu h,Zrc (by unfold Cl;omega),Zw9,h.room]
 by_cases h1:(decide ((k.size:Int) < 1) || decide ((24:Int) < (k.size:Int)))=true
 ·rw [if_pos h1,if_pos h1]
  exact ⟨s,t,1,rfl,rfl,h.mono (by omega),.inl rfl⟩
 ·rw [if_neg h1,if_neg h1]
  simp only [Option.bind_some]
  by_cases h2:(c != 0)=true
  ·rw [if_pos h2,if_pos h2]
   exact ⟨s,t,c,rfl,rfl,h.mono (by omega),.inl rfl⟩
  ·rw [if_neg h2,if_neg h2]
   obtain ⟨t1,e1,z1,l1⟩:=Z2p (k:=k) (x:=x) h.sz (by rw [h.top];exact h.srt) (by rw [h.tl];omega)
   rw [e1]
   have h20:c=0:=by simpa using h2
   have h11:¬ (k.size:Int) < 1:=fun h'=>h1 (by simp [h'])
   have h12:¬ (24:Int) < (k.size:Int):=fun h'=>h1 (by simp [h'])
   have hmk:∀ L':List Zbd,L'.map kv=insL k x (pl t) → Rel { top:=t1,room:=t.Room } { L:=L',Room:=t.Room } (n + 1) ∧ (pl { L:=L',Room:=t.Room }=pl t ∨ (pl { L:=L',Room:=t.Room }=insL k x (pl t) ∧ some c=some (0:Int) ∧ ¬ (k.size:Int) < 1 ∧ ¬ (24:Int) < (k.size:Int))):=fun L' hL=>by
    have hpl:pl { L:=L',Room:=t.Room }=insL k x (pl t):=hL
    refine ⟨⟨by rw [hpl,l1,h.top],z1,by rw [hpl];exact Zth h.srt,?_,rfl,?_⟩,.inr ⟨hpl,by rw [h20],h11,h12⟩⟩
    ·have:=Zpa k x (pl t)
     rw [← hL,Zes] at this
     simp at this
     show L'.length ≤ n + 1
     omega
    ·intro q hq
     rw [hpl] at hq
     rcases Zqx hq with rfl | hq
     ·exact ⟨hx,hx2⟩
     ·exact h.ok q hq
   rcases Zlb x h.srt with ⟨p,a1,a2,a3,a4,_⟩ | ⟨a1,a2,a3,_⟩
   ·have hi:rk k (pl t) < t.L.length:=by
     have:=(List.getElem?_eq_some_iff.1 a1).1
     rwa [Zes] at this
    have hd:decide (((rk k (pl t):Nat):Int) < (t.L.length:Int))=true:=by simp;omega
    have hg:(pl t)[rk k (pl t)]?=some (kv t.L[rk k (pl t)]):=by rw [Zpr,List.getElem?_eq_getElem hi];rfl
    rw [hg] at a1
    obtain rfl:=Option.some.inj a1
    have he:sEq (t.L[rk k (pl t)]).Key k=true:=Zdz.2 a2
    rw [a3,hd,Zdd hi]
    simp only [getR,Bool.not_true,Bool.false_and,Bool.false_eq_true,if_false,gd_f,gd_t,Option.bind_some,he,Bool.and_self,Bool.true_and,if_true]
    rw [show (0:Int)=((0:Nat):Int) from rfl,Zn5 (by omega) (by omega),wr1 (by omega)]
    simp only [Option.bind_some,List.nil_append,List.drop_zero,Nat.sub_zero,List.length_nil,Nat.zero_add,Ze7]
    rw [if_pos (by simp;omega),if_pos (by simp;omega),Zn5 (by omega) (by omega)]
    have ht:(List.take (t.L.length - (rk k (pl t) + 1)) (List.drop (rk k (pl t) + 1) t.L))=List.drop (rk k (pl t) + 1) t.L:=List.take_of_length_le (by simp)
    simp only [Option.bind_some,ht,List.nil_append]
    rw [if_pos (by simp;omega)]
    refine ⟨_,_,0,rfl,rfl,hmk _ ?_⟩
    rw [a4];simp [Zuy,Zuk,kv,pl]
   ·rw [a2]
    simp only [getR,Bool.not_false,gd_t,Option.bind_some,Bool.true_and]
    have hne:(decide (((rk k (pl t):Nat):Int) < (t.L.length:Int)) && sEq (((gd (decide (((rk k (pl t):Nat):Int) < (t.L.length:Int))) (idx t.L ((rk k (pl t):Nat):Int))).getD default).Key) k)=false:=by
     by_cases hi:rk k (pl t) < t.L.length
     ·have hg:(pl t)[rk k (pl t)]?=some (kv t.L[rk k (pl t)]):=by rw [Zpr,List.getElem?_eq_getElem hi];rfl
      have he:sEq (t.L[rk k (pl t)]).Key k=false:=Ze6.2 (a1 _ hg)
      have hd:decide (((rk k (pl t):Nat):Int) < (t.L.length:Int))=true:=by simp;omega
      rw [hd,Zdd hi]
      simp [gd,he]
     ·have hd:decide (((rk k (pl t):Nat):Int) < (t.L.length:Int))=false:=by simp;omega
      rw [hd];rfl
    have hex:∃ e,gd (decide (((rk k (pl t):Nat):Int) < (t.L.length:Int))) (idx t.L ((rk k (pl t):Nat):Int))=some e:=by
     by_cases hi:rk k (pl t) < t.L.length
     ·rw [Zdd hi]
      cases decide (((rk k (pl t):Nat):Int) < (t.L.length:Int)) <;> exact ⟨_,rfl⟩
     ·have hd:decide (((rk k (pl t):Nat):Int) < (t.L.length:Int))=false:=by simp;omega
      rw [hd];exact ⟨_,rfl⟩
    obtain ⟨e,hee⟩:=hex
    rw [hee] at hne ⊢
    simp only [Option.getD_some] at hne
    simp only [Option.bind_some,hne,Bool.not_false,Bool.true_and]
    by_cases h5:decide (t.Room ≤ (t.L.length:Int))=true
    ·rw [if_pos h5,if_pos h5]
     exact ⟨s,t,8,rfl,rfl,h.mono (by omega),.inl rfl⟩
    ·rw [if_neg h5,if_neg h5]
     rw [show (0:Int)=((0:Nat):Int) from rfl,Zn5 (by omega) (by omega)]
     simp only [Option.bind_some,List.nil_append,List.drop_zero,Nat.sub_zero,List.length_nil,Nat.zero_add,Ze7,Bool.false_eq_true,if_false]
     rw [if_pos (by simp;omega),if_pos (by simp;omega),Zn5 (by omega) (by omega)]
     have ht:(List.take (t.L.length - rk k (pl t)) (List.drop (rk k (pl t)) t.L))=List.drop (rk k (pl t)) t.L:=List.take_of_length_le (by simp)
     simp only [Option.bind_some,ht,List.nil_append]
     rw [if_pos (by simp;omega)]
     refine ⟨_,_,0,rfl,rfl,hmk _ ?_⟩
     rw [a3];simp [Zuy,Zuk,kv,pl]
theorem Zy5:∀ l:List Zl,eqL l l=true
 | []=>rfl
 | x :: l=>by simp [eqL,eqI,Zdi,Zy5 l]
theorem Zu6 (a:Ze):Zkw a a=true:=by simp [Zkw,Zdi,Zy5]
theorem Z2e {s:Zn} {t:Zj} {m:Nat} (h:Rel s t m) (hm:m < 1000000):∀ (n i:Nat),i + n=t.L.length → Zfs s t (n + 1) (i:Int)=some (.inr ())
 | 0,i,hi=>by
  rw [Zfs,if_neg (by simp;omega)]
 | n + 1,i,hi=>by
  have hb:=h.len
  have h1:i < t.L.length:=by omega
  rw [Zfs,if_pos (by simp;omega),Zdd h1,Z2v h.sz (by rw [h.tl];omega) (by omega) (by omega) h.cl,wr1 (by omega),h.top,idxn,Zpr,List.getElem?_eq_getElem h1]
  have hq:kv t.L[i] ∈ pl t:=by
   have:(pl t)[i]?=some (kv t.L[i]):=by rw [Zpr,List.getElem?_eq_getElem h1];rfl
   exact List.mem_of_getElem? this
  have hr:Zih (t.L[i]).Rec:=(h.ok _ hq).1
  simp only [Option.map_some,atR,kv,Option.bind_some,Bool.not_true,Zdi,Bool.or_self,Bool.not_false,gd_t]
  rw [Zr8 hr hr,Zu6]
  simp only [Option.bind_some,Bool.not_true,Bool.false_or,Bool.false_eq_true,if_false]
  exact Z2e h hm n (i + 1) (by omega)
theorem Zbcy {s:Zn} {t:Zj} {m:Nat} (h:Rel s t m) (hm:m < 1000000):Zi8 s t=some 1:=by
 unfold Zi8
 rw [Zwu h]
 simp only [Option.bind_some,bne_self_eq_false,Bool.not_false,gd_t,Zk6,h.room,Bool.or_self,Bool.false_eq_true,if_false]
 have:=Z2e h hm t.L.length 0 (by omega)
 rw [show ((0:Nat):Int)=0 from rfl] at this
 rw [show (Int.toNat ((t.L.length:Int) - (0:Int)) + 1)=t.L.length + 1 by omega,this]
 rfl
theorem Zsu {k:ByteArray} {r:Ze} {l:List KV} (hs:Srt l) (h:lk k l=some r):insL k r l=l:=by
 rcases Zlb r hs with ⟨p,a1,a2,a3,a4,_⟩ | ⟨_,a2,_⟩
 ·rw [a4]
  rw [h] at a3
  obtain rfl:=Option.some.inj a3
  have e:(k,p.2)=p:=by rw [← a2]
  rw [e]
  obtain ⟨hlt,hp⟩:=List.getElem?_eq_some_iff.1 a1
  have:=List.take_append_drop (rk k l) l
  rw [List.drop_eq_getElem_cons hlt,hp] at this
  exact this
 ·rw [h] at a2;cases a2
theorem Zs8 {k:ByteArray} {r:Ze}:∀ {l:List KV},lk k l=some r → (k,r) ∈ l
 | [],h=>by cases h
 | p :: l,h=>by
  simp only [lk] at h
  split at h
  ·rename_i he
   obtain rfl:=Option.some.inj h
   have:=Zdz.1 he
   subst this
   exact List.mem_cons_self ..
  ·exact List.mem_cons_of_mem _ (Zs8 h)
theorem Znb {r:Ze} (h:Zcz r):r.List.length ≤ 32:=by
 by_cases hk:8 ≤ r.Kind
 ·have:=h.2.2.2.2.2.2 hk
  omega
 ·have h1:=h.2.2.1
  have h8:decide (8 ≤ r.Kind)=false:=by simpa using hk
  rw [h8] at h1
  simp only [Zh4,Bool.false_or,Bool.and_eq_true,beq_iff_eq] at h1
  have:=h1.2.2
  omega
theorem Zhi {s s':Zn} {k:ByteArray} {x:Ze} {c:Int} (h:Zc8 s k x=some (s',c)):s'.room=s.room:=by
 unfold Zc8 at h
 split at h
 ·cases h;rfl
 ·obtain ⟨_,_,h⟩:=Option.bind_eq_some_iff.1 h
  split at h
  ·cases h;rfl
  ·obtain ⟨_,_,h⟩:=Option.bind_eq_some_iff.1 h
   obtain ⟨_,_,h⟩:=Option.bind_eq_some_iff.1 h
   split at h
   ·cases h;rfl
   ·obtain ⟨_,_,h⟩:=Option.bind_eq_some_iff.1 h
    obtain ⟨_,_,h⟩:=Option.bind_eq_some_iff.1 h
    cases h;rfl
theorem Zoh {s s':Zn} {k:ByteArray} {b:Bool} (h:Zef s k=some (s',b)):s'.room=s.room:=by
 unfold Zef at h
 obtain ⟨_,_,h⟩:=Option.bind_eq_some_iff.1 h
 split at h
 ·cases h;rfl
 ·obtain ⟨_,_,h⟩:=Option.bind_eq_some_iff.1 h
  cases h;rfl
theorem Znu {s s':Zn} {t:Zj} {n:Nat} (h:Rel s t n) (hn:n < 1000000) {k:ByteArray} {x:Ze} {c:Int} (e:Zc8 s k x=some (s',c)) (hc:Zet x=some 0) (hx:x.List.length ≤ 100) (hk:sEq k ⟨#[]⟩=false) (hk2:k.size ≤ 24) :
  (((lk k (pl t)).isSome=true ∨ (t.L.length:Int) < t.Room) → c=0 ∧ toL s'.top=insL k x (pl t)) ∧ ((lk k (pl t)).isNone=true → t.Room ≤ (t.L.length:Int) → c=8 ∧ s'=s):=by
 have hb:=h.len
 obtain ⟨t1,q1,_,q3⟩:=Z2p (k:=k) (x:=x) h.sz (by rw [h.top];exact h.srt) (by rw [h.tl];omega)
 unfold Zc8 at e
 rw [hk,hc,Zm2 h,Zwu h,Zrc (by unfold Cl;omega)] at e
 have hd:decide ((24:Int) < (k.size:Int))=false:=by simp;omega
 rw [hd] at e
 simp only [Bool.or_self,Bool.false_eq_true,if_false,Option.bind_some,bne_self_eq_false] at e
 cases hl:lk k (pl t) with
 | none =>
  rw [hl] at e
  simp only [getR,Bool.not_false,gd_t,Option.bind_some,Bool.true_and,h.room] at e
  by_cases hr:t.Room ≤ (t.L.length:Int)
  ·rw [if_pos (by simpa using hr)] at e
   cases e
   refine ⟨fun h=>?_,fun _ _=>⟨rfl,rfl⟩⟩
   rcases h with h | h
   ·cases h
   ·omega
  ·rw [if_neg (by simpa using hr),q1] at e
   cases e
   exact ⟨fun _=>⟨rfl,by rw [← h.top];exact q3⟩,fun _ h=>absurd h hr⟩
 | some r =>
  rw [hl] at e
  simp only [getR,Bool.not_true,gd_f,Option.bind_some,Bool.false_and,Bool.false_eq_true,if_false] at e
  rw [q1] at e
  cases e
  exact ⟨fun _=>⟨rfl,by rw [← h.top];exact q3⟩,fun h=>by cases h⟩
structure FR (s:Zn) (t:Zj) (n:Nat):Prop where
 rel:Rel s t n
 good:∀ q ∈ pl t,RecW q.2 ∧ Zcz q.2
 fit:(t.L.length:Int) ≤ t.Room
theorem Z6j {k:ByteArray} {x r:Ze} {l:List KV} (hs:Srt l) (h:lk k l=some r):(insL k x l).length=l.length:=by
 rcases Zlb x hs with ⟨p,a1,a2,a3,a4,_⟩ | ⟨_,a2,_⟩
 ·rw [a4]
  have:=(List.getElem?_eq_some_iff.1 a1).1
  simp;omega
 ·rw [h] at a2;cases a2
theorem FR.mono {s:Zn} {t:Zj} {n m:Nat} (h:FR s t n) (hm:n ≤ m):FR s t m:=⟨h.rel.mono hm,h.good,h.fit⟩
theorem Z5f {s:Zn} {t t':Zj} {n:Nat} (h:Rel s t n) (hp:pl t'=pl t) (hr:t'.Room=t.Room):Rel s t' n :=
 ⟨h.top.trans hp.symm,h.sz,by rw [hp];exact h.srt,by rw [← Zes,hp,Zes];exact h.len,h.room.trans hr.symm,by rw [hp];exact h.ok⟩
theorem Zqt {s:Zn} {t t':Zj} {n:Nat} (h:FR s t n) (hp:pl t'=pl t) (hr:t'.Room=t.Room):FR s t' n :=
 ⟨Z5f h.rel hp hr,by rw [hp];exact h.good,by rw [hr,← Zes,hp,Zes];exact h.fit⟩
theorem Zv6 {s s':Zn} {t t':Zj} {n m:Nat} {k:ByteArray} {x:Ze} (h:FR s t n) (hr:Rel s' t' m) (hw:RecW x) (hg:Zcz x) (ho:(lk k (pl t)).isSome=true ∨ (t.L.length:Int) < t.Room) (hp:pl t'=insL k x (pl t)) (hro:t'.Room=t.Room):FR s' t' m:=⟨hr,fun q hq=>by
 rw [hp] at hq
 rcases Zqx hq with rfl | hq
 ·exact ⟨hw,hg⟩
 ·exact h.good q hq,by
 have hf:=h.fit
 rw [hro,← Zes,hp]
 have hl:=Zpa k x (pl t)
 rw [Zes] at hl
 rcases ho with ho | ho
 ·obtain ⟨r,hr⟩:=Option.isSome_iff_exists.1 ho
  rw [Z6j h.rel.srt hr,Zes];exact hf
 ·omega⟩
theorem Zzz {a:Zu} (ha:ActIn a) (h:Zgy a=some 0):sEq a.Key ⟨#[]⟩=false ∧ a.Key.size ≤ 24:=by
 obtain ⟨c,h1,_,h3⟩:=Zp2 ha.ok
 rw [h] at h1
 obtain rfl:=Option.some.inj h1
 exact ⟨(h3 rfl).2.2.2.2.2.2.2.1,(h3 rfl).2.2.2.2.2.2.2.2⟩
theorem Zwa (k k':ByteArray) (x:Ze):∀ l:List KV,lk k (insL k' x l)=if sEq k k'=true then some x else lk k l
 | []=>rfl
 | p :: l=>by
  simp only [insL]
  by_cases h1:sLt k' p.1=true
  ·rw [if_pos h1];simp only [lk]
  ·rw [if_neg h1]
   by_cases h2:sEq k' p.1=true
   ·rw [if_pos h2]
    have e:=Zdz.1 h2
    simp only [lk,← e]
    by_cases h3:sEq k k'=true
    ·rw [if_pos h3,if_pos h3]
    ·rw [if_neg h3,if_neg h3,if_neg h3]
   ·rw [if_neg h2]
    simp only [lk,Zwa k k' x l]
    by_cases h3:sEq k p.1=true
    ·have h4:¬ sEq k k'=true:=fun h=>h2 (by rw [← Zdz.1 h];exact h3)
     rw [if_pos h3,if_neg h4,if_pos h3]
    ·rw [if_neg h3,if_neg h3]
theorem Zsn (k k':ByteArray):∀ {l:List KV},Srt l → lk k (delL k' l)=if sEq k k'=true then none else lk k l
 | [],_=>by simp [delL,lk]
 | p :: l,hs=>by
  obtain ⟨h1,h2⟩:=List.pairwise_cons.1 hs
  simp only [delL]
  by_cases h:sEq k' p.1=true
  ·rw [if_pos h]
   have e:=Zdz.1 h
   by_cases h3:sEq k k'=true
   ·rw [if_pos h3]
    refine Zly fun q hq e2=>?_
    have:=h1 q hq
    rw [e2,Zdz.1 h3,e,Zid] at this;cases this
   ·rw [if_neg h3]
    simp only [lk,← e]
    rw [if_neg h3]
  ·rw [if_neg h]
   simp only [lk,Zsn k k' h2]
   by_cases h3:sEq k p.1=true
   ·have h4:¬ sEq k k'=true:=fun h5=>h (by rw [← Zdz.1 h5];exact h3)
    rw [if_pos h3,if_neg h4,if_pos h3]
   ·rw [if_neg h3,if_neg h3]
theorem Zwo:∀ {A B:List KV},Srt A → Srt B → (∀ k,lk k A=lk k B) → A=B
 | [],[],_,_,_=>rfl
 | [],q :: B,_,_,h=>by have:=h q.1;simp [lk,Zdi] at this
 | p :: A,[],_,_,h=>by have:=h p.1;simp [lk,Zdi] at this
 | p :: A,q :: B,hA,hB,h=>by
  obtain ⟨a1,a2⟩:=List.pairwise_cons.1 hA
  obtain ⟨b1,b2⟩:=List.pairwise_cons.1 hB
  have far:∀ {k:ByteArray} {z:KV} {Z:List KV},(∀ q ∈ Z,sLt z.1 q.1=true) → sLt k z.1=true → lk k (z :: Z)=none:=fun {k z Z} hz hk=>by
   refine Zly fun q hq e=>?_
   rcases List.mem_cons.1 hq with rfl | hq
   ·rw [e,Zid] at hk;cases hk
   ·have:=Zgj hk (hz q hq)
    rw [e,Zid] at this;cases this
  have hp:=h p.1
  have hq:=h q.1
  have e:p.1=q.1:=Classical.byContradiction fun hn=>by
   cases hlt:sLt p.1 q.1
   ·have:=far a1 (Zm4 hlt hn)
    rw [this] at hq
    simp [lk,Zdi] at hq
   ·have:=far b1 hlt
    rw [this] at hp
    simp [lk,Zdi] at hp
  have e2:p.2=q.2:=by
   simp only [lk,e,Zdi,if_true] at hp
   exact Option.some.inj hp
  have e3:A=B:=Zwo a2 b2 fun k=>by
   by_cases hk:sEq k p.1=true
   ·have ek:=Zdz.1 hk
    have n1:lk k A=none:=Zly fun z hz e4=>by
     have:=a1 z hz
     rw [e4,ek,Zid] at this;cases this
    have n2:lk k B=none:=Zly fun z hz e4=>by
     have:=b1 z hz
     rw [e4,ek,e,Zid] at this;cases this
    rw [n1,n2]
   ·have:=h k
    simp only [lk] at this
    rw [if_neg hk,if_neg (by rw [← e];exact hk)] at this
    exact this
  obtain ⟨p1,p2⟩:=p
  obtain ⟨q1,q2⟩:=q
  have e:p1=q1:=e
  have e2:p2=q2:=e2
  rw [e,e2,e3]
def upd (k:ByteArray) (o:Option Ze) (l:List KV):List KV:=match o with
 | some x=>insL k x l
 | none=>delL k l
theorem Z1o {k:ByteArray} {o:Option Ze} {l:List KV} (h:Srt l):Srt (upd k o l):=by
 cases o with
 | none=>exact Ztn h
 | some x=>exact Zth h
theorem Z4v {k k':ByteArray} {o:Option Ze} {l:List KV} (h:Srt l):lk k (upd k' o l)=if sEq k k'=true then o else lk k l:=by
 cases o with
 | none=>exact Zsn k k' h
 | some x=>exact Zwa k k' x l
theorem Z6g {k:ByteArray} {l:List KV} (h:Srt l):upd k (lk k l) l=l:=Zwo (Z1o h) h fun z=>by
 rw [Z4v h]
 split
 ·rename_i he;rw [Zdz.1 he]
 ·rfl
theorem Z8h {k:ByteArray} {o:Option Ze} {l:List KV} {q:KV} (h:q ∈ upd k o l):q ∈ l ∨ ∃ x,o=some x ∧ q=(k,x):=by
 cases o with
 | none=>exact .inl (Zn4 h)
 | some x =>
  rcases Zqx h with rfl | h
  ·exact .inr ⟨x,rfl,rfl⟩
  ·exact .inl h
def ap (o:Option Ze) (a:Zu):Option (Option Ze × Zg):=(Zh3 (getR o).1 (getR o).2 a).bind fun z=>some (if z.2.2.Code=0 then (if z.2.1=true then some z.1 else none) else o,z.2.2)
def OkO (o:Option Ze):Prop:=∀ r,o=some r → RecW r ∧ Zcz r
theorem Z9e {a:Zu} (ha:ActIn a) (hk:a.Kind ≠ 1):∃ x,ap none a=some (none,x) ∧ RecW x.Rec:=by
 obtain ⟨z,e,hs⟩:=Zlf (there:=false) Zcq ha
 have e:Zh3 zrec false a=some z:=e
 simp only [ap,getR,e,Option.bind_some]
 rcases hs with ⟨c,hc,rfl⟩ | ⟨h1,h2,h3,⟨k,k2,k3,rfl⟩ | ⟨k,k2,rfl⟩ | ⟨k,rfl⟩ | ⟨k,k2,rfl⟩ | ⟨k,k2,k3,k4,r',o,q1,q2,q3,q4,q5,rfl⟩⟩
 ·exact ⟨ans c,by simp [hc],Zcq⟩
 ·exact absurd k hk
 ·cases k2
 ·exact ⟨_,rfl,Zcq⟩
 ·cases k2
 ·cases k3
theorem Zqg {d:Zbm} (hd:∀ a ∈ d.Acts,ActIn a) (hl:d.Acts.length ≤ 12):∀ (n i:Nat),i + n=d.Acts.length →
  ∃ z,Zf5 d (n + 1) (i:Int)=some z ∧ Zej d (n + 1) (i:Int)=some z ∧ (z=.inr () ∨ ∃ c at_,z=.inl (c,at_) ∧ c ≠ 0)
 | 0,i,h=>by
  rw [Zf5,Zej,if_neg (by simp;omega),if_neg (by simp;omega)]
  exact ⟨_,rfl,rfl,.inl rfl⟩
 | n + 1,i,h=>by
  have h1:i < d.Acts.length:=by omega
  obtain ⟨c,e1,e2,_⟩:=Zp2 (hd _ (List.getElem_mem h1)).ok
  rw [Zf5,Zej,if_pos (by simp;omega),if_pos (by simp;omega),Zdd h1,wr1 (by omega)]
  simp only [Option.bind_some]
  rw [e1,e2]
  simp only [Option.bind_some]
  by_cases hc:(c != 0)=true
  ·rw [if_pos hc,if_pos hc]
   exact ⟨_,rfl,rfl,.inr ⟨_,_,rfl,by simpa using hc⟩⟩
  ·rw [if_neg hc,if_neg hc]
   exact Zqg hd hl n (i + 1) (by omega)
theorem Zqa {d:Zbm} (hd:∀ a ∈ d.Acts,ActIn a):∃ c at_,Zga d=some (c,at_) ∧ Zip d=some (c,at_) ∧ (c=0 → 1 ≤ d.Acts.length ∧ d.Acts.length ≤ 12):=by
 unfold Zga Zip
 by_cases h:d.Acts.length < 1 ∨ 12 < d.Acts.length
 ·rw [if_pos (by rw [Bool.or_eq_true,beq_iff_eq,decide_eq_true_eq];omega),if_pos (by rw [Bool.or_eq_true,decide_eq_true_eq,decide_eq_true_eq];omega)]
  exact ⟨_,_,rfl,rfl,fun h=>by cases h⟩
 ·rw [if_neg (by rw [Bool.or_eq_true,beq_iff_eq,decide_eq_true_eq];omega),if_neg (by rw [Bool.or_eq_true,decide_eq_true_eq,decide_eq_true_eq];omega)]
  obtain ⟨z,e1,e2,hz⟩:=Zqg hd (by omega) d.Acts.length 0 (by omega)
  rw [show ((0:Nat):Int)=0 from rfl] at e1 e2
  rw [show (Int.toNat ((d.Acts.length:Int) - (0:Int)) + 1)=d.Acts.length + 1 by omega,e1,e2]
  rcases hz with rfl | ⟨c,at_,rfl,hc⟩
  ·exact ⟨_,_,rfl,rfl,fun _=>by omega⟩
  ·exact ⟨_,_,rfl,rfl,fun h=>absurd h hc⟩
def Zn7 (L:List Zg):Prop:=∀ a ∈ L,RecW a.Rec
theorem Zvr {L:List Zg} {a:Zg} (h:Zn7 L) (ha:RecW a.Rec):Zn7 (L ++ [a]):=fun b hb=>by
 rcases List.mem_append.1 hb with hb | hb
 ·exact h b hb
 ·rw [List.mem_singleton.1 hb];exact ha
def Zvx (R:Z1):Prop:=R.Answers.length ≤ 12 ∧ Zn7 R.Answers
theorem Zxa {d:Zbm} (hl:d.Acts.length ≤ 40) (hw:∀ a ∈ d.Acts,Zmc a):∀ (n i:Nat),i + n=d.Acts.length → Zek d (n + 1) (i:Int)=some (.inl 1) ∨ (Zek d (n + 1) (i:Int)=some (.inr ()) ∧ ∀ a ∈ d.Acts.drop i,a.Make.List.length ≤ 100)
 | 0,i,h=>by
  right
  rw [Zek,if_neg (by simp;omega),List.drop_of_length_le (by omega)]
  exact ⟨rfl,fun o ho=>by cases ho⟩
 | n + 1,i,h=>by
  have h1:i < d.Acts.length:=by omega
  obtain ⟨c,e1,e2,e3⟩:=Zbbu (hw _ (List.getElem_mem h1))
  rw [Zek,if_pos (by simp;omega),Zdd h1,wr1 (by omega)]
  simp only [Option.bind_some]
  rw [e1]
  rcases e2 with rfl | rfl
  ·simp only [Int.lt_irrefl,decide_false,Bool.false_eq_true,if_false,Option.bind_some]
   rcases Zxa hl hw n (i + 1) (by omega) with h2 | ⟨h2,h3⟩
   ·exact .inl h2
   ·right
    refine ⟨h2,fun o ho=>?_⟩
    rw [List.drop_eq_getElem_cons h1] at ho
    rcases List.mem_cons.1 ho with rfl | ho
    ·exact e3 rfl
    ·exact h3 o ho
  ·left;rfl
theorem big8 {d:Zbm} (hw:Zqf d):∃ c,Zjs d=some c ∧ (c=0 ∨ c=1) ∧ (c=0 → d.Acts.length ≤ 40 ∧ ∀ a ∈ d.Acts,ActIn a):=by
 unfold Zjs
 by_cases h:40 < d.Acts.length
 ·rw [if_pos (by simp;omega)];exact ⟨1,rfl,.inr rfl,fun h=>by cases h⟩
 ·rw [if_neg (by simp;omega),show (Int.toNat ((d.Acts.length:Int) - (0:Int)) + 1)=d.Acts.length + 1 by omega]
  have:=Zxa (d:=d) (by omega) hw.2 d.Acts.length 0 (by omega)
  rw [show ((0:Nat):Int)=0 from rfl] at this
  rcases this with h1 | ⟨h1,h2⟩
  ·rw [h1];exact ⟨1,rfl,.inr rfl,fun h=>by cases h⟩
  ·rw [h1];exact ⟨0,rfl,.inl rfl,fun _=>⟨by omega,fun a ha=>Z6z (hw.2 a ha) (h2 a ha)⟩⟩
theorem Zvp {l:List Zbd} (hl:l.length ≤ 60) (hw:∀ p ∈ l,Zhq p) {z:Zn} {r:Int}:∀ (n i:Nat) {s:Zn} {t:Zj},i + n=l.length → FR s t i → t.Room=r →
  (∃ s',Zd1 l (n + 1) z s t (i:Int)=some (.inl (s',none))) ∨ (∃ s' t',Zd1 l (n + 1) z s t (i:Int)=some (.inr (z,s',t')) ∧ FR s' t' 60 ∧ t'.Room=r)
 | 0,i,s,t,h,hf,hr=>by
  right
  rw [Zd1,if_neg (by simp;omega)]
  exact ⟨s,t,rfl,hf.mono (by omega),hr⟩
 | n + 1,i,s,t,h,hf,hr=>by
  have h1:i < l.length:=by omega
  have hm:=hw _ (List.getElem_mem h1)
  obtain ⟨c,e1,e2,e3⟩:=Z7n (Z10 hm.2)
  rw [Zd1,if_pos (by simp;omega),Zdd h1,wr1 (by omega)]
  simp only [Option.bind_some]
  rw [e1]
  by_cases hk:decide ((100:Int) < ((l[i]).Key.size:Int))=true
  ·rw [hk];left;exact ⟨s,rfl⟩
  ·rw [Bool.eq_false_iff.2 hk]
   simp only [Bool.not_false,gd_t,Option.bind_some,Bool.false_or]
   rcases e2 with rfl | rfl
   ·simp only [Int.lt_irrefl,decide_false,Bool.false_eq_true,if_false]
    have hx:RecW (l[i]).Rec:=Zwf hm.2 (e3 rfl)
    obtain ⟨s',t',c,f1,f2,f3,f4⟩:=Znw hf.rel (by omega) (l[i]).Key hx.ok (e3 rfl)
    rw [f1,f2]
    simp only [Option.bind_some]
    have hro:t'.Room=t.Room:=by rw [← f3.room,Zhi f1,hf.rel.room]
    refine Zvp hl hw n (i + 1) (by omega) ?_ (by rw [hro,hr])
    rcases f4 with f4 | ⟨f4,f5,f6,f7⟩
    ·have:=Zqt hf f4 hro
     exact ⟨f3,this.good,this.fit⟩
    ·refine Zv6 hf f3 hx ((Zi2 hx.ok).1 f5) ?_ f4 hro
     refine Classical.byContradiction fun hno=>?_
     have h1:(lk (l[i]).Key (pl t)).isNone=true:=by
      cases hz:lk (l[i]).Key (pl t) with
      | none=>rfl
      | some r=>exact absurd (.inl (by rw [hz];rfl)) hno
     have h2:t.Room ≤ (t.L.length:Int):=Int.not_lt.1 fun h=>hno (.inr h)
     have hk1:sEq (l[i]).Key ⟨#[]⟩=false:=by
      rw [Zw9];simpa using f6
     obtain ⟨_,hs⟩:=(Znu hf.rel (by omega) f1 f5 (e3 rfl) hk1 (by omega)).2 h1 h2
     subst hs
     have ht:=f3.top
     rw [hf.rel.top,f4] at ht
     rcases Zlb (k:=(l[i]).Key) (l[i]).Rec hf.rel.srt with ⟨p,_,_,a3,_⟩ | ⟨_,_,a3,_⟩
     ·rw [a3] at h1;cases h1
     ·have hle:=congrArg List.length ht
      rw [a3] at hle
      have hrk:=Ztg (l[i]).Key (pl t)
      simp at hle
      omega
   ·left;exact ⟨s,rfl⟩
theorem Z6e {r:Int} {l:List Zbd} (hw:∀ p ∈ l,Zhq p):(∃ s,Zhg r l=some (s,none)) ∨ (∃ s t,Zhg r l=some (s,some t) ∧ FR s t 60 ∧ t.Room=r ∧ 1 ≤ r ∧ r ≤ 4096):=by
 unfold Zhg Zor
 by_cases hr:r < 1 ∨ 4096 < r
 ·rw [if_pos (by simpa using hr)]
  left;exact ⟨_,rfl⟩
 ·rw [if_neg (by simpa using hr)]
  simp only [Option.bind_some,bne_self_eq_false,Bool.false_or]
  by_cases hl:60 < l.length
  ·rw [if_pos (by simp;omega)];left;exact ⟨_,rfl⟩
  ·rw [if_neg (by simp;omega),show (Int.toNat ((l.length:Int) - (0:Int)) + 1)=l.length + 1 by omega]
   have:=Zvp (l:=l) (by omega) hw (z:=default) (r:=r) l.length 0 (by omega) ⟨Z8v r,fun q hq=>by simp [pl] at hq,by simp;omega⟩ rfl
   rw [show ((0:Nat):Int)=0 from rfl] at this
   rcases this with ⟨s',e⟩ | ⟨s',t',e,e2,e3⟩
   ·rw [e];left;exact ⟨_,rfl⟩
   ·rw [e];right;exact ⟨s',t',rfl,e2,e3,by omega,by omega⟩
def Zk2 (R:Int) (L:List KV) (a:Zu):Option (List KV × Zg):=(ap (lk a.Key L) a).bind fun z=>if (lk a.Key L).isNone=true ∧ z.1.isSome=true ∧ R ≤ (L.length:Int) then some (L,ans 8) else some (upd a.Key z.1 L,z.2)
structure InvK (L:List KV):Prop where
 srt:Srt L
 ok:∀ q ∈ L,RecW q.2 ∧ Zcz q.2
theorem InvK.at_ {L:List KV} (h:InvK L) (k:ByteArray):OkO (lk k L):=fun r hr=>h.ok _ (Zs8 hr)
theorem Z5k {o:Option Ze} {a:Zu} (ho:OkO o) (ha:ActIn a):∃ o1 x,ap o a=some (o1,x) ∧ OkO o1 ∧ RecW x.Rec ∧ (a.Kind ≠ 1 → a.Kind ≠ 2 → o1.isSome=o.isSome):=by
 cases o with
 | none =>
  obtain ⟨z,e,hs⟩:=Zlf (there:=false) Zcq ha
  have e:Zh3 zrec false a=some z:=e
  simp only [ap,getR,e,Option.bind_some]
  rcases hs with ⟨c,hc,rfl⟩ | ⟨h1,h2,h3,⟨k,k2,k3,rfl⟩ | ⟨k,k2,rfl⟩ | ⟨k,rfl⟩ | ⟨k,k2,rfl⟩ | ⟨k,k2,k3,k4,r',o,q1,q2,q3,q4,q5,rfl⟩⟩
  ·exact ⟨none,ans c,by simp [hc],fun r h=>(by cases h),Zcq,fun _ _=>rfl⟩
  ·exact ⟨some a.Make,ans 0,rfl,fun r h=>(by obtain rfl:=Option.some.inj h;exact ⟨ha.mkr,k3⟩),Zcq,fun h=>absurd k h⟩
  ·cases k2
  ·exact ⟨none,_,rfl,fun r h=>(by cases h),Zcq,fun _ _=>rfl⟩
  ·cases k2
  ·cases k3
 | some r =>
  obtain ⟨hr,hg⟩:=ho r rfl
  obtain ⟨z,e,hs⟩:=Zlf (there:=true) hr ha
  rw [if_pos rfl] at hs
  simp only [ap,getR,e,Option.bind_some]
  have self:OkO (some r):=ho
  rcases hs with ⟨c,hc,rfl⟩ | ⟨h1,h2,h3,⟨k,k2,k3,rfl⟩ | ⟨k,k2,rfl⟩ | ⟨k,rfl⟩ | ⟨k,k2,rfl⟩ | ⟨k,k2,k3,k4,r',o,q1,q2,q3,q4,q5,rfl⟩⟩
  ·exact ⟨some r,ans c,by simp [hc],self,Zcq,fun _ _=>rfl⟩
  ·cases k2
  ·exact ⟨none,ans 0,rfl,fun r h=>(by cases h),Zcq,fun _ h=>absurd k h⟩
  ·exact ⟨some r,_,rfl,self,Zcq,fun _ _=>rfl⟩
  ·exact ⟨some r,_,rfl,self,hr,fun _ _=>rfl⟩
  ·exact ⟨some r',o,by simp [q2],fun x h=>(by obtain rfl:=Option.some.inj h;exact ⟨q4,Zuz k k2 k4 hr hg h2 q1⟩),q5,fun _ _=>rfl⟩
theorem Z40 {R:Int} {L:List KV} {a:Zu} {o1:Option Ze} {x:Zg} (e:ap (lk a.Key L) a=some (o1,x)) (hs:o1.isSome=(lk a.Key L).isSome):Zk2 R L a=some (upd a.Key o1 L,x):=by
 unfold Zk2
 rw [e]
 simp only [Option.bind_some]
 rw [if_neg]
 rintro ⟨h1,h2,_⟩
 rw [hs] at h2
 cases hq:lk a.Key L <;> simp [hq] at h1 h2
theorem Zxx {R:Int} {L:List KV} {a:Zu} {x:Zg} (hs:Srt L) (e:ap (lk a.Key L) a=some (lk a.Key L,x)):Zk2 R L a=some (L,x):=by
 rw [Z40 e rfl,Z6g hs]
theorem Z6o {R:Int} {L:List KV} {a:Zu} (h:InvK L) (ha:ActIn a):∃ L' x,Zk2 R L a=some (L',x) ∧ InvK L' ∧ RecW x.Rec:=by
 obtain ⟨o1,x,e,h1,h2,_⟩:=Z5k (h.at_ a.Key) ha
 unfold Zk2
 rw [e]
 simp only [Option.bind_some]
 split
 ·exact ⟨L,ans 8,rfl,h,Zcq⟩
 ·refine ⟨_,_,rfl,⟨Z1o h.srt,fun q hq=>?_⟩,h2⟩
  rcases Z8h hq with hq | ⟨x,hx,rfl⟩
  ·exact h.ok q hq
  ·exact h1 x hx
def runK (R:Int):List Zu → List KV → Option (List KV × List Zg × Int)
 | [],L=>some (L,[],0)
 | a :: r,L=>(Zk2 R L a).bind fun z=>if (a.Must && (z.2.Code != 0))=true then some (z.1,[],z.2.Code) else (runK R r z.1).bind fun w=>some (w.1,z.2 :: w.2.1,w.2.2)
def oneK (R:Int) (L:List KV) (d:Zbm):Option (List KV × Z1):=(Zga d).bind fun z=>if (z.1 != 0)=true then some (L,{ Code:=z.1,At:=z.2,Answers:=[] }) else (runK R d.Acts L).bind fun w=>if w.2.2=0 then some (w.1,{ Code:=0,At:=0,Answers:=w.2.1 }) else some (L,{ Code:=w.2.2,At:=((w.2.1.length + 1:Nat):Int),Answers:=[] })
theorem Z1x {s s':Zn} {t:Zj} {n:Nat} (h:Rel s t n) (hn:n < 1000000) {k:ByteArray} {b:Bool} (e:Zef s k=some (s',b)):toL s'.top=delL k (pl t):=by
 have hb:=h.len
 unfold Zef at e
 rw [Zm2 h] at e
 simp only [Option.bind_some] at e
 rcases Zlb default h.srt with ⟨p,a1,a2,a3,_,a5⟩ | ⟨a1,a2,_,a4⟩
 ·rw [a3] at e
  obtain ⟨t1,c1,z1,l1⟩:=Z2g (k:=k) h.sz (by rw [h.top];exact h.srt) (by rw [h.tl];omega)
  rw [c1] at e
  simp only [getR,Bool.not_true,Bool.false_eq_true,if_false,Option.bind_some,Option.some.injEq,Prod.mk.injEq] at e
  rw [← e.1,← h.top]
  exact l1
 ·rw [a2] at e
  simp only [getR,Bool.not_false,if_true,Option.some.injEq,Prod.mk.injEq] at e
  rw [← e.1,a4]
  exact h.top
theorem FR.inv {s:Zn} {t:Zj} {n:Nat} (h:FR s t n):InvK (pl t):=⟨h.rel.srt,h.good⟩
theorem Zw8 {s:Zn} {t:Zj} {n:Nat} (h:FR s t n) (hn:n < 1000000) {a:Zu} (ha:ActIn a) :
  ∃ s' t' out,Zms s a=some (s',out) ∧ FR s' t' (n + 1) ∧ t'.Room=t.Room ∧ RecW out.Rec ∧ Zk2 t.Room (pl t) a=some (pl t',out):=by
 obtain ⟨r,there,hg,hi,hl1,hl2⟩:∃ r there,getR (lk a.Key (pl t))=(r,there) ∧ Z1t there r ∧ (there=true → lk a.Key (pl t)=some r) ∧ (there=false → lk a.Key (pl t)=none):=by
  cases hl:lk a.Key (pl t) with
  | none=>exact ⟨_,_,rfl,⟨Zcq,fun h=>(by cases h),fun _=>rfl⟩,fun h=>(by cases h),fun _=>rfl⟩
  | some r =>
   obtain ⟨g1,g2⟩:=h.good _ (Zs8 hl)
   exact ⟨_,_,rfl,⟨g1,fun _=>g2,fun h=>(by cases h)⟩,fun _=>rfl,fun h=>(by cases h)⟩
 obtain ⟨z,e3,hs⟩:=Zlf (there:=there) hi.w ha
 have hr0:(if there=true then r else zrc)=r:=by
  cases there
  ·exact (hi.zero rfl).symm
  ·rfl
 rw [hr0] at hs
 have hap:ap (lk a.Key (pl t)) a=some (if z.2.2.Code=0 then (if z.2.1=true then some z.1 else none) else lk a.Key (pl t),z.2.2):=by
  unfold ap
  rw [hg,e3]
  rfl
 have hlk:lk a.Key (pl t)=if there=true then some r else none:=by
  cases there
  ·exact hl2 rfl
  ·exact hl1 rfl
 unfold Zms
 rw [Zm2 h.rel,hg]
 simp only [Option.bind_some]
 rw [e3]
 simp only [Option.bind_some,Zl1]
 have same:∀ x,z.2.2=x → (x.Code ≠ 0 ∨ z.2.1=there ∧ z.1=r) → Zk2 t.Room (pl t) a=some (pl t,x):=fun x hx hc=>by
  refine Zxx h.rel.srt ?_
  rw [hap,hx]
  by_cases h0:x.Code=0
  ·rw [if_pos h0]
   obtain ⟨h1,h2⟩:=hc.resolve_left (fun h=>h h0)
   rw [h1,h2,hlk]
  ·rw [if_neg h0]
 rcases hs with ⟨c,hc,rfl⟩ | ⟨h1,h2,h3,hs⟩
 ·have hc':(c != 0)=true:=by simpa using hc
  simp only [hc',Bool.not_true,gd_f,Option.bind_some,Bool.true_or,if_true]
  exact ⟨s,t,ans c,rfl,h.mono (by omega),rfl,Zcq,same _ rfl (.inl hc)⟩
 obtain ⟨k1,k2⟩:=Zzz ha h1
 have hset:∀ {y:Ze},RecW y → Zcz y → ((lk a.Key (pl t)).isSome=true ∨ (t.L.length:Int) < t.Room) → ∃ s' t',Zc8 s a.Key y=some (s',0) ∧ FR s' t' (n + 1) ∧ pl t'=insL a.Key y (pl t) ∧ t'.Room=t.Room:=fun {y} hw hgy ho=>by
  have hsh:=Znb hgy
  obtain ⟨s',t',c,f1,f2,f3,_⟩:=Znw h.rel hn a.Key hw.ok (by omega)
  obtain ⟨rfl,hp⟩:=(Znu h.rel hn f1 ((Zi2 hw.ok).2 hgy) (by omega) k1 k2).1 ho
  rw [f3.top] at hp
  have hro:t'.Room=t.Room:=by rw [← f3.room,Zhi f1,h.rel.room]
  exact ⟨s',t',f1,Zv6 h f3 hw hgy ho hp hro,hp,hro⟩
 rcases hs with ⟨hk,rfl,hmk,rfl⟩ | ⟨hk,rfl,rfl⟩ | ⟨hk,rfl⟩ | ⟨hk,rfl,rfl⟩ | ⟨k5,k21,rfl,kon,r',o,q1,q2,q3,q4,q5,rfl⟩
 ·
  have hl:=hl2 rfl
  rw [hk]
  simp only [bne_self_eq_false,Bool.not_false,gd_t,Option.bind_some,show ((((((1:Int) == 3) || ((1:Int) == 4)) || ((1:Int) == 9)) || ((1:Int) == 12)) || ((1:Int) == 20))=false from rfl,Bool.or_self,Bool.false_eq_true,if_false,Bool.not_true]
  have hap:ap (lk a.Key (pl t)) a=some (some a.Make,ans 0):=hap
  by_cases hr:t.Room ≤ (t.L.length:Int)
  ·have hsh:=Znb hmk
   obtain ⟨s',t',c,f1,f2,f3,_⟩:=Znw h.rel hn a.Key ha.mkr.ok (by omega)
   obtain ⟨rfl,rfl⟩:=(Znu h.rel hn f1 ((Zi2 ha.mkr.ok).2 hmk) (by omega) k1 k2).2 (by rw [hl];rfl) hr
   rw [f1]
   refine ⟨s',t,ans 8,rfl,h.mono (by omega),rfl,Zcq,?_⟩
   unfold Zk2
   rw [hap]
   simp only [Option.bind_some]
   rw [if_pos ⟨by rw [hl];rfl,rfl,by rw [Zes];exact hr⟩]
  ·obtain ⟨s',t',f1,f3,f4,f5⟩:=hset ha.mkr hmk (.inr (by omega))
   rw [f1]
   refine ⟨s',t',ans 0,rfl,f3,f5,Zcq,?_⟩
   unfold Zk2
   rw [hap]
   simp only [Option.bind_some]
   rw [if_neg (by rw [Zes];omega),f4]
   rfl
 ·
  rw [hk]
  obtain ⟨s',t',b,f1,f2,f3,f4⟩:=Zrr h.rel hn a.Key
  have hd:=Z1x h.rel hn f1
  rw [f3.top] at hd
  rw [f1]
  have hro:t'.Room=t.Room:=by rw [← f3.room,Zoh f1,h.rel.room]
  have hf:=h.fit
  refine ⟨s',t',ans 0,rfl,⟨f3.mono (by omega),fun q hq=>?_,?_⟩,hro,Zcq,?_⟩
  ·rw [hd] at hq;exact h.good q (Zn4 hq)
  ·have:=Znx a.Key (pl t)
   rw [Zes] at this
   rw [hro,← Zes,hd];omega
  ·unfold Zk2
   have hap:ap (lk a.Key (pl t)) a=some (none,ans 0):=hap
   rw [hap,hl1 rfl,hd]
   rfl
 ·
  rw [hk]
  exact ⟨s,t,_,rfl,h.mono (by omega),rfl,Zcq,same _ rfl (.inr ⟨rfl,rfl⟩)⟩
 ·
  rw [hk]
  exact ⟨s,t,_,rfl,h.mono (by omega),rfl,hi.w,same _ rfl (.inr ⟨rfl,rfl⟩)⟩
 ·
  have hl:=hl1 rfl
  have hgx:Zcz r':=Zuz k5 k21 kon hi.w (hi.good rfl) h2 q1
  rw [q2]
  simp only [bne_self_eq_false,Bool.not_false,gd_t,Option.bind_some,Bool.false_or,Bool.false_eq_true,if_false,Bool.not_true,Bool.false_and]
  by_cases hrd:(((((a.Kind == (3:Int)) || (a.Kind == (4:Int))) || (a.Kind == (9:Int))) || (a.Kind == (12:Int))) || (a.Kind == (20:Int)))=true
  ·rw [if_pos hrd]
   have hx:r'=r:=by
    refine Zrh ?_ hi.w (hi.good rfl) kon q1
    simp only [Bool.or_eq_true,beq_iff_eq] at hrd
    omega
   subst hx
   exact ⟨s,t,o,rfl,h.mono (by omega),rfl,q5,same _ rfl (.inr ⟨rfl,rfl⟩)⟩
  ·rw [if_neg hrd]
   obtain ⟨s',t',f1,f3,f4,f5⟩:=hset q4 hgx (.inl (by rw [hl];rfl))
   rw [f1]
   have hap:ap (lk a.Key (pl t)) a=some (some r',o):=by rw [hap];simp [q2]
   refine ⟨s',t',o,rfl,f3,f5,q5,?_⟩
   rw [Z40 hap (by rw [hl];rfl),f4]
   rfl
def hasB (sp:List ByteArray) (k:ByteArray):Bool:=sp.any fun x=>sEq k x
theorem Zvy {sp:List ByteArray} {k:ByteArray} (hl:sp.length ≤ 1000):∀ (n i:Nat),i + n=sp.length →
  (Zct sp k (n + 1) (i:Int)=some (.inr ()) ∧ hasB (sp.drop i) k=false) ∨ (∃ j:Nat,Zct sp k (n + 1) (i:Int)=some (.inl (j:Int)) ∧ hasB (sp.drop i) k=true)
 | 0,i,h=>by
  rw [Zct,if_neg (by simp;omega),List.drop_of_length_le (by omega)]
  exact .inl ⟨rfl,rfl⟩
 | n + 1,i,h=>by
  have h1:i < sp.length:=by omega
  rw [Zct,if_pos (by simp;omega),Zdd h1,wr1 (by omega),List.drop_eq_getElem_cons h1]
  simp only [Option.bind_some,hasB,List.any_cons]
  by_cases hq:sEq k sp[i]=true
  ·rw [if_pos hq,hq];exact .inr ⟨i,rfl,rfl⟩
  ·rw [if_neg hq,Bool.eq_false_iff.2 hq,Bool.false_or]
   exact Zvy hl n (i + 1) (by omega)
theorem Zud {sp:List ByteArray} (k:ByteArray) (hl:sp.length ≤ 1000):Zd0 sp k=some (hasB sp k):=by
 unfold Zd0 Zgt
 rw [show (Int.toNat ((sp.length:Int) - (0:Int)) + 1)=sp.length + 1 by omega]
 have:=Zvy (k:=k) hl sp.length 0 (by omega)
 rw [show ((0:Nat):Int)=0 from rfl,List.drop_zero] at this
 rcases this with ⟨e1,e2⟩ | ⟨j,e1,e2⟩
 ·rw [e1,e2];rfl
 ·rw [e1,e2];simp
def Zpz (R:Int) (sp:List ByteArray) (L:List KV) (a:Zu):Option (List KV × Zg):=if hasB sp a.Key=true then some (L,default) else Zk2 R L a
def runS (R:Int) (sp:List ByteArray):List Zu → List KV → Option (List KV × List Zg × Int)
 | [],L=>some (L,[],0)
 | a :: r,L=>(Zpz R sp L a).bind fun z=>if (a.Must && (z.2.Code != 0))=true then some (z.1,[],z.2.Code) else (runS R sp r z.1).bind fun w=>some (w.1,z.2 :: w.2.1,w.2.2)
def oneS (R:Int) (sp:List ByteArray) (L:List KV) (d:Zbm):Option (List KV × Z1):=(Zga d).bind fun z=>if (z.1 != 0)=true then some (L,{ Code:=z.1,At:=z.2,Answers:=[] }) else (runS R sp d.Acts L).bind fun w=>if w.2.2=0 then some (w.1,{ Code:=0,At:=0,Answers:=w.2.1 }) else some (L,{ Code:=w.2.2,At:=((w.2.1.length + 1:Nat):Int),Answers:=[] })
theorem Z4f (R:Int):Zpz R []=Zk2 R:=rfl
theorem Z0l (R:Int):∀ (A:List Zu) (L:List KV),runS R [] A L=runK R A L
 | [],L=>rfl
 | a :: A,L=>by
  have ih:=Z0l R A
  unfold runS runK
  simp only [Z4f,ih]
theorem Z61 (R:Int) (L:List KV) (d:Zbm):oneS R [] L d=oneK R L d:=by
 unfold oneS oneK
 simp only [Z0l]
theorem Zxb {R:Int} {sp:List ByteArray} {L:List KV} {a:Zu} (h:InvK L) (ha:ActIn a):∃ L' x,Zpz R sp L a=some (L',x) ∧ InvK L' ∧ RecW x.Rec:=by
 unfold Zpz
 split
 ·exact ⟨L,_,rfl,h,Zcq⟩
 ·exact Z6o h ha
theorem Zu1 {R:Int} {sp:List ByteArray}:∀ {A:List Zu} {L:List KV},InvK L → (∀ a ∈ A,ActIn a) → ∃ L' xs c,runS R sp A L=some (L',xs,c) ∧ InvK L' ∧ Zn7 xs ∧ (c=0 → xs.length=A.length) ∧ (c ≠ 0 → xs.length < A.length)
 | [],L,h,_=>⟨L,[],0,rfl,h,fun a ha=>(by cases ha),fun _=>rfl,fun h=>absurd rfl h⟩
 | a :: A,L,h,hA=>by
  obtain ⟨La,xa,s1,i1,i2⟩:=Zxb (R:=R) (sp:=sp) h (hA a (List.mem_cons_self ..))
  rw [runS,s1]
  simp only [Option.bind_some]
  split
  ·rename_i hc
   have hne:xa.Code ≠ 0:=by
    have:=(Bool.and_eq_true _ _ ▸ hc:_ ∧ _).2
    simpa using this
   exact ⟨_,_,_,rfl,i1,fun a ha=>(by cases ha),fun h=>absurd h hne,fun _=>by simp⟩
  ·obtain ⟨L',xs,c,e,j1,j2,j3,j4⟩:=Zu1 i1 (fun a ha=>hA a (List.mem_cons_of_mem _ ha))
   rw [e]
   refine ⟨_,_,_,rfl,j1,fun y hy=>?_,fun h=>by simp [j3 h],fun h=>by have:=j4 h;simp;omega⟩
   rcases List.mem_cons.1 hy with rfl | hy
   ·exact i2
   ·exact j2 y hy
structure HandGo (h:Z3) (d:Zbm) (sp:List ByteArray) (R:Int) (Lf:List KV) (Q:Z1) (n m:Nat):Prop where
 hd:h.d=d
 hsp:h.split=sp
 st:(∃ t xs ys L1 c,FR h.now t n ∧ t.Room=R ∧ h.out={ Code:=0,At:=0,Answers:=xs } ∧ h.over=decide (xs.length=d.Acts.length) ∧ xs.length ≤ d.Acts.length ∧ runS R sp (d.Acts.drop xs.length) (pl t)=some (L1,ys,c) ∧ (c=0 → Q={ Code:=0,At:=0,Answers:=xs ++ ys } ∧ Lf=L1) ∧ (c ≠ 0 → Q={ Code:=c,At:=(((xs ++ ys).length + 1:Nat):Int),Answers:=[] }) ∧ Zn7 xs ∧ m=ys.length + (if c=0 then 0 else 1)) ∨
  (Q.Code ≠ 0 ∧ h.over=true ∧ h.out=Q ∧ Q.Answers=[] ∧ m=0)
theorem Zs0 {h:Z3} {d:Zbm} {sp:List ByteArray} {R:Int} {Lf:List KV} {Q:Z1} {n m:Nat} (hd:∀ a ∈ d.Acts,ActIn a) (hl:d.Acts.length ≤ 1000) (hs:sp.length ≤ 1000) (H:HandGo h d sp R Lf Q n m) (hn:n < 1000000) :
  (m=0 ∧ h.over=true ∧ Zfm h=some (h,false)) ∨ (∃ h' m',m=m' + 1 ∧ h.over=false ∧ Zfm h=some (h',true) ∧ HandGo h' d sp R Lf Q (n + 1) m'):=by
 obtain ⟨e1,e2,H⟩:=H
 obtain ⟨hd',hsp',now,out,over⟩:=h
 simp only at e1 e2 H
 subst e1 e2
 rcases H with ⟨t,xs,ys,L1,c,hf,hr,rfl,hov,hx,hrun,q1,q2,hA,rfl⟩ | ⟨q1,rfl,rfl,q2,rfl⟩
 ·by_cases hxl:xs.length=hd'.Acts.length
  ·rw [decide_eq_true hxl] at hov
   subst hov
   rw [List.drop_of_length_le (by omega)] at hrun
   cases hrun
   exact .inl ⟨rfl,rfl,rfl⟩
  ·rw [decide_eq_false hxl] at hov
   subst hov
   right
   have h1:xs.length < hd'.Acts.length:=by omega
   have ha:=hd _ (List.getElem_mem h1)
   rw [List.drop_eq_getElem_cons h1,runS] at hrun
   obtain ⟨s',t',x,f1,f2,f3,f4,f5⟩:∃ s' t' x,Zji { d:=hd',split:=hsp',now:=now,out:={ Code:=0,At:=0,Answers:=xs },over:=false }=Zhd { d:=hd',split:=hsp',now:=now,out:={ Code:=0,At:=0,Answers:=xs },over:=false } hd'.Acts[xs.length] x { d:=hd',split:=hsp',now:=s',out:={ Code:=0,At:=0,Answers:=xs },over:=false } ∧ FR s' t' (n + 1) ∧ t'.Room=R ∧ RecW x.Rec ∧ Zpz R hsp' (pl t) hd'.Acts[xs.length]=some (pl t',x):=by
    unfold Zji
    simp only [Bool.false_eq_true,if_false]
    rw [Zdd h1]
    simp only [Option.bind_some]
    rw [Zud _ hs]
    simp only [Option.bind_some]
    unfold Zpz
    by_cases hb:hasB hsp' (hd'.Acts[xs.length]).Key=true
    ·rw [hb]
     exact ⟨now,t,default,rfl,hf.mono (by omega),hr,Zcq,rfl⟩
    ·rw [if_neg hb,Bool.eq_false_iff.2 hb]
     obtain ⟨s',t',x,g1,g2,g3,g4,g5⟩:=Zw8 hf hn ha
     rw [hr] at g5
     refine ⟨s',t',x,?_,g2,g3.trans hr,g4,g5⟩
     simp only [Bool.not_false,if_true]
     rw [g1]
     rfl
   rw [f5] at hrun
   simp only [Option.bind_some] at hrun
   unfold Zfm
   rw [f1]
   unfold Zhd
   by_cases hm:((hd'.Acts[xs.length]).Must && (x.Code != 0))=true
   ·rw [if_pos hm] at hrun ⊢
    simp only [Option.some.injEq,Prod.mk.injEq] at hrun
    obtain ⟨rfl,rfl,rfl⟩:=hrun
    have hne:x.Code ≠ 0:=by
     have:=(Bool.and_eq_true _ _ ▸ hm:_ ∧ _).2
     simpa using this
    have hq:=q2 hne
    refine ⟨_,0,by simp [hne],rfl,rfl,rfl,rfl,.inr ⟨by rw [hq];exact hne,rfl,?_,by rw [hq],rfl⟩⟩
    rw [hq]
    simp only [List.append_nil]
    rw [wr1 (by omega)]
   ·rw [if_neg hm] at hrun ⊢
    obtain ⟨⟨w1,w2,w3⟩,r1,hrun⟩:=Option.bind_eq_some_iff.1 hrun
    simp only [Option.some.injEq,Prod.mk.injEq] at hrun
    obtain ⟨rfl,rfl,rfl⟩:=hrun
    have hlen:(xs.length + [x].length) * 104 ≤ 140737488355328:=by simp;omega
    simp only
    rw [if_pos hlen]
    refine ⟨_,w2.length + (if w3=0 then 0 else 1),by simp;omega,trivial,rfl,rfl,rfl,.inl ⟨t',xs ++ [x],w2,w1,w3,f2,f3,rfl,?_,by simp;omega,?_,?_,?_,Zvr hA f4,rfl⟩⟩
    ·show ((IntKind.i64.wrap ((xs.length:Int) + 1)) == ((hd'.Acts.length:Int)))=_
     rw [wr1 (by omega)]
     by_cases h2:xs.length + 1=hd'.Acts.length
     ·rw [decide_eq_true (by simp;omega)]
      rw [beq_iff_eq];omega
     ·rw [decide_eq_false (by simp;omega)]
      rw [beq_eq_false_iff_ne];omega
    ·rw [show (xs ++ [x]).length=xs.length + 1 by simp]
     exact r1
    ·intro hc
     obtain ⟨g1,g2⟩:=q1 hc
     exact ⟨by rw [g1];simp,g2⟩
    ·intro hc
     rw [q2 hc];simp
 ·exact .inl ⟨rfl,rfl,rfl⟩
theorem HandGo.mono {h:Z3} {d:Zbm} {sp:List ByteArray} {R:Int} {Lf:List KV} {Q:Z1} {n n' m:Nat} (H:HandGo h d sp R Lf Q n m) (hn:n ≤ n'):HandGo h d sp R Lf Q n' m:=by
 obtain ⟨e1,e2,H⟩:=H
 refine ⟨e1,e2,?_⟩
 rcases H with ⟨t,xs,ys,L1,c,hf,H⟩ | H
 ·exact .inl ⟨t,xs,ys,L1,c,hf.mono hn,H⟩
 ·exact .inr H
theorem HandGo.done {h:Z3} {d:Zbm} {sp:List ByteArray} {R:Int} {Lf:List KV} {Q:Z1} {n:Nat} (hd:∀ a ∈ d.Acts,ActIn a) (H:HandGo h d sp R Lf Q n 0) :
  h.over=true ∧ h.out=Q ∧ Zn7 Q.Answers ∧ (Q.Answers ≠ [] → Q.Answers.length=d.Acts.length) ∧ (Q.Code=0 → Q.At=0 ∧ Q.Answers.length=d.Acts.length ∧ ∃ t,FR h.now t n ∧ t.Room=R ∧ pl t=Lf):=by
 obtain ⟨e1,e2,H⟩:=H
 rcases H with ⟨t,xs,ys,L1,c,hf,hr,ho,hov,hx,hrun,q1,q2,hA,hm⟩ | ⟨q1,q2,q3,q4,_⟩
 ·have hc:c=0:=Classical.byContradiction fun h=>by rw [if_neg h] at hm;omega
  subst hc
  have hy:ys=[]:=List.length_eq_zero_iff.1 (by simpa using hm.symm)
  subst hy
  obtain ⟨rfl,rfl⟩:=q1 rfl
  obtain ⟨L',zs,c,r1,_,_,r2,_⟩:=Zu1 (R:=R) (sp:=sp) (A:=d.Acts.drop xs.length) hf.inv (fun a ha=>hd a (List.mem_of_mem_drop ha))
  rw [hrun] at r1
  simp only [Option.some.injEq,Prod.mk.injEq] at r1
  obtain ⟨rfl,rfl,rfl⟩:=r1
  have hlen:=r2 rfl
  simp at hlen
  have hxl:xs.length=d.Acts.length:=by omega
  rw [decide_eq_true hxl] at hov
  rw [List.drop_of_length_le (by omega)] at hrun
  cases hrun
  simp only [List.append_nil]
  exact ⟨hov,ho,hA,fun _=>hxl,fun _=>⟨trivial,hxl,t,hf,hr,rfl⟩⟩
 ·rw [q4]
  exact ⟨q2,q3,fun a ha=>(by cases ha),fun h=>absurd rfl h,fun h=>absurd h q1⟩
theorem Z9i {Q:Z1} (hl:Q.Answers.length ≤ 1000) (hA:Zn7 Q.Answers):Zoo Q=some Q:=by
 unfold Zoo
 rw [if_pos ⟨by omega,List.all_eq_true.2 fun a ha=>by have:=(hA a ha).len;simp;omega⟩]
theorem Z00 {h:Z3} {d:Zbm} {sp:List ByteArray} {R:Int} {Lf:List KV} {Q:Z1} {n:Nat} (hd:∀ a ∈ d.Acts,ActIn a) (hl:d.Acts.length ≤ 1000) (H:HandGo h d sp R Lf Q n 0):Zfj h=some (Q,true) ∧ Zvx Q=(Q.Answers.length ≤ 12 ∧ Zn7 Q.Answers) ∧ Zfn h=some true:=by
 obtain ⟨e1,e2,e3,e4,_⟩:=H.done hd
 refine ⟨?_,rfl,by unfold Zfn;rw [e1]⟩
 unfold Zfj
 rw [e1,e2,Z9i _ e3]
 ·rfl
 ·by_cases hq:Q.Answers=[]
  ·rw [hq];simp
  ·rw [e4 hq];exact hl
theorem Zxn {d:Zbm} (hd:∀ a ∈ d.Acts,ActIn a) (hl:d.Acts.length ≤ 1000):Zl8 d=some d:=by
 unfold Zl8
 rw [if_pos ⟨by omega,List.all_eq_true.2 fun a ha=>by have:=(hd a ha).mkr.len;simp;omega⟩]
theorem Z6d {d:Zbm} {s:Zn} {sp:List ByteArray} {t:Zj} {n:Nat} (hf:FR s t n) (hd:∀ a ∈ d.Acts,ActIn a) (hl:d.Acts.length ≤ 1000) (hs:sp.length ≤ 1000) :
  ∃ h Lf Q m,Zmr d s sp=some h ∧ oneS t.Room sp (pl t) d=some (Lf,Q) ∧ HandGo h d sp t.Room Lf Q n m ∧ m ≤ 12 ∧ (Q.Code=0 → ∃ at_,Zga d=some (0,at_)) ∧ (∀ at_,Zga d=some (0,at_) → (Q.Code=0 → m=d.Acts.length) ∧ (Q.Code ≠ 0 → Q.At=(m:Int))):=by
 obtain ⟨c,at_,e1,_,hc⟩:=Zqa hd
 unfold Zmr oneS
 rw [Zxn hd hl,e1]
 unfold Zgs
 rw [if_pos (by omega)]
 simp only [Option.bind_some]
 by_cases h0:(c != 0)=true
 ·rw [if_pos h0,if_pos h0]
  have hne:c ≠ 0:=by simpa using h0
  exact ⟨_,_,_,0,rfl,rfl,⟨rfl,rfl,.inr ⟨hne,rfl,rfl,rfl,rfl⟩⟩,by omega,fun h=>absurd h hne,fun a h=>by
   simp only [Option.some.injEq,Prod.mk.injEq] at h
   exact absurd h.1 hne⟩
 ·rw [if_neg h0,if_neg h0]
  obtain rfl:c=0:=by simpa using h0
  have hl2:=hc rfl
  obtain ⟨L',ys,k,r1,_,_,r3,r4⟩:=Zu1 (R:=t.Room) (sp:=sp) (A:=d.Acts) hf.inv hd
  rw [r1]
  simp only [Option.bind_some]
  by_cases hk:k=0
  ·rw [if_pos hk]
   subst hk
   have:=r3 rfl
   refine ⟨_,_,_,ys.length,rfl,rfl,⟨rfl,rfl,.inl ⟨t,[],ys,L',0,hf,rfl,rfl,?_,Nat.zero_le _,r1,fun _=>⟨rfl,rfl⟩,fun h=>absurd rfl h,fun a ha=>(by cases ha),rfl⟩⟩,by omega,fun _=>⟨_,rfl⟩,fun _ _=>⟨fun _=>this,fun h=>absurd rfl h⟩⟩
   exact (decide_eq_false (by simp;omega)).symm
  ·rw [if_neg hk]
   have:=r4 hk
   refine ⟨_,_,_,ys.length + 1,rfl,rfl,⟨rfl,rfl,.inl ⟨t,[],ys,L',k,hf,rfl,rfl,?_,Nat.zero_le _,r1,fun h=>absurd h hk,fun _=>rfl,fun a ha=>(by cases ha),by rw [if_neg hk]⟩⟩,by omega,fun h=>absurd h hk,fun _ _=>⟨fun h=>absurd h hk,fun _=>rfl⟩⟩
   exact (decide_eq_false (by simp;omega)).symm
theorem Z6k {o:Option Ze} {a:Zu} (ho:OkO o) (ha:ActIn a) (hk:Zlq a.Kind=true):∃ x,ap o a=some (o,x):=by
 have hk:a.Kind=3 ∨ a.Kind=4 ∨ a.Kind=9 ∨ a.Kind=12 ∨ a.Kind=20:=by
  unfold Zlq at hk
  simp only [Bool.or_eq_true,beq_iff_eq] at hk
  omega
 cases o with
 | none =>
  obtain ⟨x,e,_⟩:=Z9e ha (by omega)
  exact ⟨x,e⟩
 | some r =>
  obtain ⟨hr,hg⟩:=ho r rfl
  obtain ⟨z,e,hs⟩:=Zlf (there:=true) hr ha
  rw [if_pos rfl] at hs
  simp only [ap,getR,e,Option.bind_some]
  rcases hs with ⟨c,hc,rfl⟩ | ⟨h1,h2,h3,⟨k,k2,k3,rfl⟩ | ⟨k,k2,rfl⟩ | ⟨k,rfl⟩ | ⟨k,k2,rfl⟩ | ⟨k,k2,k3,k4,r',o,q1,q2,q3,q4,q5,rfl⟩⟩
  ·exact ⟨ans c,by simp [hc]⟩
  ·cases k2
  ·omega
  ·exact ⟨_,rfl⟩
  ·exact ⟨_,rfl⟩
  ·have:r'=r:=Zrh (by omega) hr hg k4 q1
   subst this
   exact ⟨o,by simp [q2]⟩
theorem Z53 {R:Int} {sp:List ByteArray} {L L':List KV} {a:Zu} {x:Zg} (h:InvK L) (ha:ActIn a) (e:Zpz R sp L a=some (L',x)) {z:ByteArray} (hz:z=a.Key → (hasB sp a.Key || Zlq a.Kind)=true):lk z L'=lk z L:=by
 unfold Zpz at e
 by_cases hb:hasB sp a.Key=true
 ·rw [if_pos hb] at e
  cases e
  rfl
 ·rw [if_neg hb] at e
  by_cases hrd:Zlq a.Kind=true
  ·obtain ⟨y,e1⟩:=Z6k (h.at_ a.Key) ha hrd
   rw [Zxx h.srt e1] at e
   cases e
   rfl
  ·have hz:z ≠ a.Key:=fun he=>by
    have:=hz he
    rw [Bool.eq_false_iff.2 hb,Bool.eq_false_iff.2 hrd] at this
    cases this
   obtain ⟨o1,y,e1,_⟩:=Z5k (h.at_ a.Key) ha
   unfold Zk2 at e
   rw [e1] at e
   simp only [Option.bind_some] at e
   split at e
   ·cases e;rfl
   ·cases e
    rw [Z4v h.srt,if_neg (fun he=>hz (Zdz.1 he))]
def Zgh (sp:List ByteArray) (A:List Zu):List ByteArray:=(A.filter fun a=>!(hasB sp a.Key || Zlq a.Kind)).map (·.Key)
def Zjy (sp:List ByteArray) (A:List Zu):List Zu:=A.filter fun a=>hasB sp a.Key
theorem Z99 {sp:List ByteArray} {a:Zu} {A:List Zu} (h:hasB sp a.Key=true):Zjy sp (a :: A)=a :: Zjy sp A:=by simp [Zjy,h]
theorem Zza {sp:List ByteArray} {a:Zu} {A:List Zu} (h:hasB sp a.Key=false):Zjy sp (a :: A)=Zjy sp A:=by simp [Zjy,h]
theorem Z7i {sp:List ByteArray} {a:Zu} {A:List Zu} (h:(hasB sp a.Key || Zlq a.Kind)=true):Zgh sp (a :: A)=Zgh sp A:=by
 unfold Zgh
 rw [List.filter_cons_of_neg (by rw [h];simp)]
theorem Z93 {sp:List ByteArray} {a:Zu} {A:List Zu} (h:(hasB sp a.Key || Zlq a.Kind)=false):Zgh sp (a :: A)=a.Key :: Zgh sp A:=by
 unfold Zgh
 rw [List.filter_cons_of_pos (by rw [h];rfl),List.map_cons]
theorem Z2f {R:Int} {sp:List ByteArray}:∀ {A:List Zu} {L L':List KV} {xs:List Zg} {c:Int},InvK L → (∀ a ∈ A,ActIn a) → runS R sp A L=some (L',xs,c) → ∀ z,z ∉ Zgh sp A → lk z L'=lk z L
 | [],L,L',xs,c,h,_,e,z,_=>by cases e;rfl
 | a :: A,L,L',xs,c,h,hA,e,z,hz=>by
  have ha:=hA a (List.mem_cons_self ..)
  obtain ⟨La,xa,s1,i1,i2⟩:=Zxb (R:=R) (sp:=sp) h ha
  rw [runS,s1] at e
  simp only [Option.bind_some] at e
  have h1:lk z La=lk z L:=Z53 h ha s1 fun he=>by
   cases hq:(hasB sp a.Key || Zlq a.Kind) with
   | true=>rfl
   | false =>
    refine absurd ?_ hz
    unfold Zgh
    rw [List.filter_cons_of_pos (by rw [hq];rfl),List.map_cons,he]
    exact List.mem_cons_self ..
  have hz2:z ∉ Zgh sp A:=fun hm=>hz (by
   unfold Zgh at hm ⊢
   obtain ⟨b,hb,rfl⟩:=List.mem_map.1 hm
   exact List.mem_map.2 ⟨b,by
    obtain ⟨b1,b2⟩:=List.mem_filter.1 hb
    exact List.mem_filter.2 ⟨List.mem_cons_of_mem _ b1,b2⟩,rfl⟩)
  split at e
  ·cases e;exact h1
  ·obtain ⟨⟨w1,w2,w3⟩,r1,e⟩:=Option.bind_eq_some_iff.1 e
   simp only [Option.some.injEq,Prod.mk.injEq] at e
   obtain ⟨rfl,_,_⟩:=e
   rw [Z2f i1 (fun a ha=>hA a (List.mem_cons_of_mem _ ha)) r1 z hz2,h1]
theorem Z8q {k:ByteArray} {l:List KV} (hs:Srt l) (h:(lk k l).isSome=true):(delL k l).length + 1=l.length:=by
 rcases Zlb zrc hs with ⟨p,a1,_,_,_,a5⟩ | ⟨_,a2,_⟩
 ·have:=(List.getElem?_eq_some_iff.1 a1).1
  rw [a5]
  simp
  omega
 ·rw [a2] at h;cases h
theorem Z11:∀ {A B:List KV},Srt A → Srt B → (∀ k,(lk k A).isSome=true → (lk k B).isSome=true) → A.length ≤ B.length
 | [],B,_,_,_=>Nat.zero_le _
 | p :: A,B,hA,hB,h=>by
  obtain ⟨a1,a2⟩:=List.pairwise_cons.1 hA
  have h1:=Z8q hB (h p.1 (by simp [lk,Zdi]))
  have:=Z11 a2 (Ztn (k:=p.1) hB) fun k hk=>by
   rw [Zsn k p.1 hB]
   by_cases he:sEq k p.1=true
   ·rw [Zly fun q hq e=>?_] at hk
    ·cases hk
    ·have:=a1 q hq
     rw [e,Zdz.1 he,Zid] at this;cases this
   ·rw [if_neg he]
    refine h k ?_
    simp only [lk]
    rw [if_neg he]
    exact hk
  simp only [List.length_cons]
  omega
theorem Z5y {A B:List KV} {k:ByteArray} (hA:Srt A) (hB:Srt B) (h:∀ k,(lk k A).isSome=true → (lk k B).isSome=true) (h1:lk k A=none) (h2:(lk k B).isSome=true):A.length < B.length:=by
 have:=Z11 (Zth (k:=k) (x:=zrc) hA) hB fun z hz=>by
  rw [Zwa] at hz
  by_cases he:sEq z k=true
  ·rw [Zdz.1 he];exact h2
  ·rw [if_neg he] at hz
   exact h z hz
 rcases Zlb zrc hA with ⟨p,_,_,a3,_⟩ | ⟨_,_,a3,_⟩
 ·rw [h1] at a3;cases a3
 ·rw [a3] at this
  have hr:=Ztg k A
  simp at this
  omega
theorem Z85 {s:Zn} {t:Zj} {n:Nat} (h:FR s t n) (hn:n < 1000000) (k:ByteArray):∃ s' t' b,Zef s k=some (s',b) ∧ FR s' t' n ∧ pl t'=delL k (pl t) ∧ t'.Room=t.Room:=by
 obtain ⟨s',t',b,f1,f2,f3,f4⟩:=Zrr h.rel hn k
 have hd:=Z1x h.rel hn f1
 rw [f3.top] at hd
 have hro:t'.Room=t.Room:=by rw [← f3.room,Zoh f1,h.rel.room]
 have hf:=h.fit
 refine ⟨s',t',b,f1,⟨f3,fun q hq=>?_,?_⟩,hd,hro⟩
 ·rw [hd] at hq;exact h.good q (Zn4 hq)
 ·have:=Znx k (pl t)
  rw [Zes] at this
  rw [hro,← Zes,hd];omega
theorem Z8t {s:Zn} {t:Zj} {n:Nat} (h:FR s t n) (hn:n < 1000000) {k:ByteArray} {y:Ze} (hw:RecW y) (hg:Zcz y) (k1:sEq k ⟨#[]⟩=false) (k2:k.size ≤ 24) (ho:(lk k (pl t)).isSome=true ∨ (t.L.length:Int) < t.Room) :
  ∃ s' t',Zc8 s k y=some (s',0) ∧ FR s' t' (n + 1) ∧ pl t'=insL k y (pl t) ∧ t'.Room=t.Room:=by
 have hsh:=Znb hg
 obtain ⟨s',t',c,f1,f2,f3,_⟩:=Znw h.rel hn k hw.ok (by omega)
 obtain ⟨rfl,hp⟩:=(Znu h.rel hn f1 ((Zi2 hw.ok).2 hg) (by omega) k1 k2).1 ho
 rw [f3.top] at hp
 have hro:t'.Room=t.Room:=by rw [← f3.room,Zhi f1,h.rel.room]
 exact ⟨s',t',f1,Zv6 h f3 hw hg ho hp hro,hp,hro⟩
theorem Zpf {d:Zbm} (hl:d.Acts.length ≤ 12):∀ (n i:Nat),i + n=d.Acts.length → Zf5 d (n + 1) (i:Int)=some (.inr ()) → ∀ a ∈ d.Acts.drop i,Zgy a=some 0
 | 0,i,h,_,a,ha=>by
  rw [List.drop_of_length_le (by omega)] at ha;cases ha
 | n + 1,i,h,e,a,ha=>by
  have h1:i < d.Acts.length:=by omega
  rw [Zf5,if_pos (by simp;omega),Zdd h1,wr1 (by omega)] at e
  simp only [Option.bind_some] at e
  obtain ⟨c,e1,e⟩:=Option.bind_eq_some_iff.1 e
  by_cases hc:(c != 0)=true
  ·rw [if_pos hc] at e;cases e
  ·rw [if_neg hc] at e
   rw [List.drop_eq_getElem_cons h1] at ha
   rcases List.mem_cons.1 ha with rfl | ha
   ·rw [e1]
    have:c=0:=by simpa using hc
    rw [this]
   ·exact Zpf hl n (i + 1) (by omega) e a ha
theorem Z09 {d:Zbm} {at_:Int} (hd:∀ a ∈ d.Acts,ActIn a) (e:Zga d=some (0,at_)):d.Acts.length ≤ 12 ∧ ∀ a ∈ d.Acts,Zgy a=some 0:=by
 obtain ⟨c,at2,e1,_,hc⟩:=Zqa hd
 rw [e] at e1
 simp only [Option.some.injEq,Prod.mk.injEq] at e1
 have hl:=hc e1.1.symm
 refine ⟨hl.2,?_⟩
 unfold Zga at e
 rw [if_neg (by rw [Bool.or_eq_true,beq_iff_eq,decide_eq_true_eq];omega),show (Int.toNat ((d.Acts.length:Int) - (0:Int)) + 1)=d.Acts.length + 1 by omega] at e
 obtain ⟨z,ez,e⟩:=Option.bind_eq_some_iff.1 e
 have hz:z=.inr ():=by
  rcases z with ⟨c,b⟩ | u
  ·simp only [Option.some.injEq,Prod.mk.injEq] at e
   obtain ⟨z2,f1,_,f3⟩:=Zqg hd hl.2 d.Acts.length 0 (by omega)
   rw [show ((0:Nat):Int)=0 from rfl,ez] at f1
   simp only [Option.some.injEq] at f1
   subst f1
   rcases f3 with f3 | ⟨c2,a2,f3,f4⟩
   ·cases f3
   ·simp only [Sum.inl.injEq,Prod.mk.injEq] at f3
    exact absurd (f3.1.symm.trans e.1) f4
  ·rfl
 subst hz
 exact Zpf hl.2 d.Acts.length 0 (by omega) ez
theorem Zta {h:Z3} (hl:h.d.Acts.length ≤ 1000) (hs:h.split.length ≤ 1000):∀ (n i:Nat) (xs:List Zu) (ks:List ByteArray),i + n=h.d.Acts.length → xs.length ≤ i → ks.length ≤ i → Zde h (n + 1) xs ks (i:Int)=some (xs ++ Zjy h.split (h.d.Acts.drop i),ks ++ Zgh h.split (h.d.Acts.drop i))
 | 0,i,xs,ks,hi,_,_=>by
  rw [Zde,if_neg (by simp;omega),List.drop_of_length_le (by omega)]
  simp [Zjy,Zgh]
 | n + 1,i,xs,ks,hi,h2,h3=>by
  have h1:i < h.d.Acts.length:=by omega
  rw [Zde,if_pos (by simp;omega),Zdd h1,List.drop_eq_getElem_cons h1]
  simp only [Option.bind_some]
  rw [Zud _ hs]
  simp only [Option.bind_some,Zgn,wr1 (show i < 9223372036854775807 by omega)]
  by_cases hb:hasB h.split (h.d.Acts[i]).Key=true
  ·rw [if_pos hb,if_pos (by simp;omega),Zta hl hs n (i + 1) _ _ (by omega) (by simp;omega) (by omega)]
   rw [Z99 hb,Z7i (by rw [hb];rfl),List.append_assoc]
   rfl
  ·rw [if_neg hb]
   have hb':=Bool.eq_false_iff.2 hb
   simp only [Zl1,Option.bind_some]
   by_cases hrd:Zlq (h.d.Acts[i]).Kind=true
   ·have hrd':=hrd
    unfold Zlq at hrd'
    rw [hrd']
    simp only [Bool.not_true,Bool.false_eq_true,if_false]
    rw [Zta hl hs n (i + 1) _ _ (by omega) (by omega) (by omega)]
    rw [Zza hb',Z7i (by rw [hrd,hb'];rfl)]
   ·have hrd1:=Bool.eq_false_iff.2 hrd
    have hrd':=hrd1
    unfold Zlq at hrd'
    rw [hrd']
    simp only [Bool.not_false,if_true]
    rw [if_pos (by simp;omega),Zta hl hs n (i + 1) _ _ (by omega) (by omega) (by simp;omega)]
    rw [Zza hb',Z93 (by rw [hrd1,hb'];rfl),List.append_assoc]
    rfl
theorem Zwv {h:Z3} {tn:Zj} {nn:Nat} (hnow:FR h.now tn nn) {K:List ByteArray} (hl:K.length ≤ 1000):∀ (n i:Nat) {s:Zn} {t:Zj} {m:Nat},i + n=K.length → FR s t m → m < 1000000 →
  ∃ s' t',Zdv h K (n + 1) s (i:Int)=some s' ∧ FR s' t' m ∧ t'.Room=t.Room ∧ (∀ z,z ∈ K.drop i → lk z (pl tn)=none → lk z (pl t')=none) ∧ (∀ z,¬ (z ∈ K.drop i ∧ lk z (pl tn)=none) → lk z (pl t')=lk z (pl t))
 | 0,i,s,t,m,hi,hf,hm=>by
  rw [Zdv,if_neg (by simp;omega),List.drop_of_length_le (by omega)]
  exact ⟨s,t,rfl,hf,rfl,fun z hz=>(by cases hz),fun z _=>rfl⟩
 | n + 1,i,s,t,m,hi,hf,hm=>by
  have h1:i < K.length:=by omega
  rw [Zdv,if_pos (by simp;omega),Zdd h1,List.drop_eq_getElem_cons h1]
  simp only [Option.bind_some]
  rw [Zm2 hnow.rel]
  simp only [Option.bind_some,Zhm,wr1 (show i < 9223372036854775807 by omega)]
  cases hk:lk K[i] (pl tn) with
  | none =>
   simp only [getR,Bool.not_false,if_true]
   obtain ⟨s1,t1,b,f1,f2,f3,f4⟩:=Z85 hf hm K[i]
   rw [f1]
   simp only [Option.bind_some]
   obtain ⟨s',t',g1,g2,g3,g4,g5⟩:=Zwv hnow hl n (i + 1) (by omega) f2 hm
   refine ⟨s',t',g1,g2,g3.trans f4,fun z hz hn=>?_,fun z hz=>?_⟩
   ·by_cases hr:z ∈ K.drop (i + 1)
    ·exact g4 z hr hn
    ·rw [g5 z (fun h=>hr h.1),f3,Zsn z _ hf.rel.srt]
     rcases List.mem_cons.1 hz with rfl | hz
     ·rw [Zdi];rfl
     ·exact absurd hz hr
   ·rw [g5 z (fun h=>hz ⟨List.mem_cons_of_mem _ h.1,h.2⟩),f3,Zsn z _ hf.rel.srt,if_neg]
    intro he
    exact hz ⟨by rw [Zdz.1 he];exact List.mem_cons_self ..,by rw [Zdz.1 he];exact hk⟩
  | some r =>
   simp only [getR,Bool.not_true,Bool.false_eq_true,if_false]
   obtain ⟨s',t',g1,g2,g3,g4,g5⟩:=Zwv hnow hl n (i + 1) (by omega) hf hm
   refine ⟨s',t',g1,g2,g3,fun z hz hn=>?_,fun z hz=>?_⟩
   ·rcases List.mem_cons.1 hz with rfl | hz
    ·rw [hk] at hn;cases hn
    ·exact g4 z hz hn
   ·exact g5 z (fun h=>hz ⟨List.mem_cons_of_mem _ h.1,h.2⟩)
theorem Zwr {h:Z3} {tn:Zj} {nn:Nat} (hnow:FR h.now tn nn) {K:List ByteArray} (hl:K.length ≤ 1000) {T:List KV} {R:Int} (hT:Srt T) (hTR:(T.length:Int) ≤ R) (hTK:∀ z ∈ K,lk z T=lk z (pl tn)) (hok:∀ k ∈ K,sEq k ⟨#[]⟩=false ∧ k.size ≤ 24):∀ (n i:Nat) {s:Zn} {t:Zj} {m:Nat},i + n=K.length → FR s t m → m + n < 1000000 → t.Room=R → (∀ z,(lk z (pl t)).isSome=true → (lk z T).isSome=true) →
  ∃ s' t',Zdt h K (n + 1) s (i:Int)=some s' ∧ FR s' t' (m + n) ∧ t'.Room=R ∧ (∀ z,z ∈ K.drop i → (lk z (pl tn)).isSome=true → lk z (pl t')=lk z (pl tn)) ∧ (∀ z,¬ (z ∈ K.drop i ∧ (lk z (pl tn)).isSome=true) → lk z (pl t')=lk z (pl t))
 | 0,i,s,t,m,hi,hf,hm,hr,_=>by
  rw [Zdt,if_neg (by simp;omega),List.drop_of_length_le (by omega)]
  exact ⟨s,t,rfl,hf,hr,fun z hz=>(by cases hz),fun z _=>rfl⟩
 | n + 1,i,s,t,m,hi,hf,hm,hr,hsub=>by
  have h1:i < K.length:=by omega
  have hKi:=List.getElem_mem h1
  rw [Zdt,if_pos (by simp;omega),Zdd h1,List.drop_eq_getElem_cons h1]
  simp only [Option.bind_some]
  rw [Zm2 hnow.rel]
  simp only [Option.bind_some,Zho,wr1 (show i < 9223372036854775807 by omega)]
  cases hk:lk K[i] (pl tn) with
  | none =>
   simp only [getR,Bool.false_eq_true,if_false]
   obtain ⟨s',t',g1,g2,g3,g4,g5⟩:=Zwr hnow hl hT hTR hTK hok n (i + 1) (by omega) hf (by omega) hr hsub
   refine ⟨s',t',g1,g2.mono (by omega),g3,fun z hz hn=>?_,fun z hz=>?_⟩
   ·rcases List.mem_cons.1 hz with rfl | hz
    ·rw [hk] at hn;cases hn
    ·exact g4 z hz hn
   ·exact g5 z (fun h=>hz ⟨List.mem_cons_of_mem _ h.1,h.2⟩)
  | some r =>
   simp only [getR,if_true]
   obtain ⟨hw,hg⟩:=hnow.good _ (Zs8 hk)
   have hTk:lk K[i] T=some r:=by rw [hTK _ hKi,hk]
   obtain ⟨s1,t1,f1,f2,f3,f4⟩:=Z8t hf (by omega) hw hg (hok _ hKi).1 (hok _ hKi).2 (by
    cases hc:lk K[i] (pl t) with
    | some _=>exact .inl rfl
    | none =>
     right
     have:=Z5y hf.rel.srt hT hsub hc (by rw [hTk];rfl)
     rw [Zes] at this
     omega)
   rw [f1]
   simp only [Option.bind_some]
   have hl1:∀ z,lk z (pl t1)=if sEq z K[i]=true then some r else lk z (pl t):=fun z=>by rw [f3,Zwa]
   obtain ⟨s',t',g1,g2,g3,g4,g5⟩:=Zwr hnow hl hT hTR hTK hok n (i + 1) (by omega) f2 (by omega) (f4.trans hr) (fun z hz=>by
    rw [hl1] at hz
    by_cases he:sEq z K[i]=true
    ·rw [Zdz.1 he,hTk];rfl
    ·rw [if_neg he] at hz
     exact hsub z hz)
   refine ⟨s',t',g1,g2.mono (by omega),g3,fun z hz hn=>?_,fun z hz=>?_⟩
   ·by_cases hr2:z ∈ K.drop (i + 1)
    ·exact g4 z hr2 hn
    ·rcases List.mem_cons.1 hz with rfl | hz
     ·rw [g5 _ (fun h=>hr2 h.1),hl1,Zdi,hk];rfl
     ·exact absurd hz hr2
   ·rw [g5 z (fun h=>hz ⟨List.mem_cons_of_mem _ h.1,h.2⟩),hl1,if_neg]
    intro he
    exact hz ⟨by rw [Zdz.1 he];exact List.mem_cons_self ..,by rw [Zdz.1 he,hk];rfl⟩
theorem Zxw {h:Z3} {s:Zn} (hc:h.over=false ∨ h.out.Code ≠ 0):Zd2 h s=some (s,[]):=by
 unfold Zd2
 rw [if_pos]
 rcases hc with hc | hc
 ·rw [hc];rfl
 ·simp [hc]
theorem Z04 {h:Z3} {d:Zbm} {sp:List ByteArray} {R:Int} {Lf:List KV} {Q:Z1} {n:Nat} (hd:∀ a ∈ d.Acts,ActIn a) (hs:sp.length ≤ 1000) (H:HandGo h d sp R Lf Q n 0) (hq:Q.Code=0) {at_:Int} (hc:Zga d=some (0,at_)) {s:Zn} {t:Zj} {m:Nat} (hf:FR s t m) (hm:m < 900000) (hr:t.Room=R)
  {T:List KV} (hT:Srt T) (hTR:(T.length:Int) ≤ R) (h1:∀ z ∈ Zgh sp d.Acts,lk z T=lk z Lf) (h2:∀ z,z ∉ Zgh sp d.Acts → lk z T=lk z (pl t)) :
  ∃ s' t',Zd2 h s=some (s',Zjy sp d.Acts) ∧ FR s' t' (m + 12) ∧ pl t'=T ∧ t'.Room=R:=by
 obtain ⟨hl,hca⟩:=Z09 hd hc
 obtain ⟨e1,e2,_,_,e3⟩:=H.done hd
 obtain ⟨_,_,tn,f1,f2,f3⟩:=e3 hq
 have hhd:=H.hd
 have hhs:=H.hsp
 have hKl:(Zgh sp d.Acts).length ≤ 12:=by
  unfold Zgh
  rw [List.length_map]
  exact Nat.le_trans (List.length_filter_le ..) hl
 have hok:∀ k ∈ Zgh sp d.Acts,sEq k ⟨#[]⟩=false ∧ k.size ≤ 24:=fun k hk=>by
  obtain ⟨a,ha,rfl⟩:=List.mem_map.1 hk
  have ha:=(List.mem_filter.1 ha).1
  exact Zzz (hd a ha) (hca a ha)
 subst f3
 unfold Zd2
 rw [e1,e2,hq]
 simp only [Bool.not_true,bne_self_eq_false,Bool.or_self,Bool.false_eq_true,if_false]
 have c1:=Zta (h:=h) (by rw [hhd];omega) (by rw [hhs];exact hs) d.Acts.length 0 [] [] (by rw [hhd];omega) (by simp) (by simp)
 rw [hhd,hhs,List.drop_zero,List.nil_append,List.nil_append,show ((0:Nat):Int)=0 from rfl] at c1
 rw [hhd,show (Int.toNat ((d.Acts.length:Int) - (0:Int)) + 1)=d.Acts.length + 1 by omega,c1]
 simp only [Option.bind_some]
 obtain ⟨s1,t1,g1,g2,g3,g4,g5⟩:=Zwv f1 (K:=Zgh sp d.Acts) (by omega) (Zgh sp d.Acts).length 0 (by omega) hf (by omega)
 rw [show ((0:Nat):Int)=0 from rfl] at g1
 rw [show (Int.toNat (((Zgh sp d.Acts).length:Int) - (0:Int)) + 1)=(Zgh sp d.Acts).length + 1 by omega,g1]
 simp only [Option.bind_some]
 rw [List.drop_zero] at g4 g5
 obtain ⟨s2,t2,k1,k2,k3,k4,k5⟩:=Zwr f1 (K:=Zgh sp d.Acts) (by omega) hT hTR h1 hok (Zgh sp d.Acts).length 0 (by omega) g2 (by omega) (g3.trans hr) (fun z hz=>by
  by_cases hk:z ∈ Zgh sp d.Acts
  ·rw [h1 z hk]
   cases hn:lk z (pl tn) with
   | some _=>rfl
   | none=>rw [g4 z hk hn] at hz;cases hz
  ·rw [h2 z hk,← g5 z (fun h=>hk h.1)];exact hz)
 rw [show ((0:Nat):Int)=0 from rfl] at k1
 rw [k1]
 simp only [Option.bind_some]
 rw [List.drop_zero] at k4 k5
 have hsa:∀ a ∈ Zjy sp d.Acts,ActIn a:=fun a ha=>hd a (List.mem_filter.1 ha).1
 rw [Zxn (d:={ Acts:=Zjy sp d.Acts }) hsa (Nat.le_trans (List.length_filter_le ..) (by omega))]
 refine ⟨s2,t2,rfl,k2.mono (by omega),Zwo k2.rel.srt hT fun z=>?_,k3⟩
 by_cases hk:z ∈ Zgh sp d.Acts
 ·cases hn:lk z (pl tn) with
  | some r=>rw [k4 z hk (by rw [hn];rfl),h1 z hk]
  | none=>rw [k5 z (fun h=>by rw [hn] at h;cases h.2),g4 z hk hn,h1 z hk,hn]
 ·rw [k5 z (fun h=>hk h.1),g5 z (fun h=>hk h.1),h2 z hk]
def eqS:List KV → List KV → Bool
 | [],[]=>true
 | p :: l,q :: m=>sEq p.1 q.1 && Zkw p.2 q.2 && eqS l m
 | _,_=>false
theorem Z2l:∀ {a b:List KV},eqS a b=true → a.length=b.length
 | [],[],_=>rfl
 | x :: xs,y :: ys,h=>by
  simp only [eqS,Bool.and_eq_true] at h
  simp [Z2l h.2]
 | [],_ :: _,h=>by simp [eqS] at h
 | _ :: _,[],h=>by simp [eqS] at h
theorem Zzj:∀ l:List KV,eqS l l=true
 | []=>rfl
 | p :: l=>by simp [eqS,Zdi,Zu6,Zzj l]
structure SOk (s:Zn):Prop where
 sz:Szd s.top
 srt:Srt (toL s.top)
 len:(toL s.top).length < 1000000
 ok:∀ q ∈ toL s.top,Zih q.2 ∧ q.2.List.length ≤ 100
theorem SOk.cl {s:Zn} (h:SOk s):∀ q ∈ toL s.top,Cl q.2:=fun q hq=>by
 have:=(h.ok q hq).2
 unfold Cl;omega
theorem Rel.sok {s:Zn} {t:Zj} {n:Nat} (h:Rel s t n) (hn:n < 1000000):SOk s :=
 ⟨h.sz,by rw [h.top];exact h.srt,by rw [h.tl];have:=h.len;omega,by rw [h.top];exact h.ok⟩
theorem Zxo {a b:Zn} (ha:SOk a) (hb:SOk b) (he:(toL a.top).length=(toL b.top).length):∀ (n i:Nat),i + n=(toL a.top).length →
  Zhj a b ((toL a.top).length:Int) (n + 1) (i:Int)=some (endB (eqS ((toL a.top).drop i) ((toL b.top).drop i)))
 | 0,i,h=>by
  rw [Zhj,if_neg (by simp;omega),List.drop_of_length_le (by omega),List.drop_of_length_le (by omega)]
  rfl
 | n + 1,i,h=>by
  have la:=ha.len
  have h1:i < (toL a.top).length:=by omega
  have h2:i < (toL b.top).length:=by omega
  rw [Zhj,if_pos (by simp;omega),Z2v ha.sz (by omega) (by omega) (by omega) ha.cl,Z2v hb.sz (by omega) (by omega) (by omega) hb.cl,idxn,idxn,List.getElem?_eq_getElem h1,List.getElem?_eq_getElem h2,wr1 (by omega),List.drop_eq_getElem_cons h1,List.drop_eq_getElem_cons h2]
  have r1:=(ha.ok _ (List.getElem_mem h1)).1
  have r2:=(hb.ok _ (List.getElem_mem h2)).1
  simp only [atR,Option.bind_some,eqS]
  cases hk:sEq (toL a.top)[i].1 (toL b.top)[i].1
  ·simp [gd,endB]
  ·simp only [Bool.not_true,Bool.not_false,gd_t]
   rw [Zzu r1 r2]
   simp only [Option.bind_some,Bool.false_or,Bool.true_and]
   cases hs:Zkw (toL a.top)[i].2 (toL b.top)[i].2
   ·simp [endB]
   ·simp only [Bool.not_true,Bool.false_eq_true,if_false,Bool.true_and]
    exact Zxo ha hb he n (i + 1) (by omega)
theorem Z6h {a b:Zn} (ha:SOk a) (hb:SOk b):Zk5 a b=some (eqS (toL a.top) (toL b.top)):=by
 have la:=ha.len
 have lb:=hb.len
 unfold Zk5 Zfb
 rw [Zim ha.sz,Zim hb.sz]
 simp only [Option.bind_some]
 by_cases he:(toL a.top).length=(toL b.top).length
 ·rw [if_neg (by simp;omega)]
  have:=Zxo ha hb he (toL a.top).length 0 (by omega)
  rw [show ((0:Nat):Int)=0 from rfl] at this
  rw [show (Int.toNat (((toL a.top).length:Int) - (0:Int)) + 1)=(toL a.top).length + 1 by omega,this]
  simp only [List.drop_zero]
  cases eqS (toL a.top) (toL b.top) <;> rfl
 ·rw [if_pos (by simp;omega)]
  cases h:eqS (toL a.top) (toL b.top)
  ·rfl
  ·exact absurd (Z2l h) he
theorem Zbcm {s:Zn} {t:Zj} {n:Nat} (h:FR s t n) (hn:n < 1000000):Zk5 s s=some true:=by
 rw [Z6h (h.rel.sok hn) (h.rel.sok hn),Zzj]
theorem Zxj {R:Int} {sp:List ByteArray} {L Lf:List KV} {d:Zbm} {Q:Z1} (e:oneS R sp L d=some (Lf,Q)) (hq:Q.Code=0):(∃ at_,Zga d=some (0,at_)) ∧ runS R sp d.Acts L=some (Lf,Q.Answers,0) ∧ Q={ Code:=0,At:=0,Answers:=Q.Answers }:=by
 unfold oneS at e
 obtain ⟨⟨c,at_⟩,e1,e⟩:=Option.bind_eq_some_iff.1 e
 by_cases h0:(c != 0)=true
 ·rw [if_pos h0] at e
  cases e
  exact absurd hq (by simpa using h0)
 ·rw [if_neg h0] at e
  obtain rfl:c=0:=by simpa using h0
  obtain ⟨⟨w1,w2,w3⟩,r1,e⟩:=Option.bind_eq_some_iff.1 e
  by_cases hw:w3=0
  ·rw [if_pos hw] at e
   simp only [Option.some.injEq,Prod.mk.injEq] at e
   obtain ⟨rfl,rfl⟩:=e
   subst hw
   exact ⟨⟨_,e1⟩,r1,rfl⟩
  ·rw [if_neg hw] at e
   simp only [Option.some.injEq,Prod.mk.injEq] at e
   obtain ⟨rfl,rfl⟩:=e
   exact absurd hq hw
theorem Z0b {R:Int} {sp:List ByteArray} {L Lf:List KV} {d:Zbm} {Q:Z1} (e:oneS R sp L d=some (Lf,Q)) (hq:Q.Code ≠ 0):Lf=L ∧ Q.Answers=[]:=by
 unfold oneS at e
 obtain ⟨⟨c,at_⟩,e1,e⟩:=Option.bind_eq_some_iff.1 e
 by_cases h0:(c != 0)=true
 ·rw [if_pos h0] at e
  cases e
  exact ⟨rfl,rfl⟩
 ·rw [if_neg h0] at e
  obtain ⟨⟨w1,w2,w3⟩,r1,e⟩:=Option.bind_eq_some_iff.1 e
  by_cases hw:w3=0
  ·rw [if_pos hw] at e
   cases e
   exact absurd rfl hq
  ·rw [if_neg hw] at e
   cases e
   exact ⟨rfl,rfl⟩
theorem Z72 {R:Int} {sp:List ByteArray} {L Lf:List KV} {d:Zbm} {Q:Z1} (h:InvK L) (hd:∀ a ∈ d.Acts,ActIn a) (e:oneS R sp L d=some (Lf,Q)):∀ z,z ∉ Zgh sp d.Acts → lk z Lf=lk z L:=fun z hz=>by
 by_cases hq:Q.Code=0
 ·exact Z2f h hd (Zxj e hq).2.1 z hz
 ·rw [(Z0b e hq).1]
theorem Z56 {h:Z3} {d:Zbm} {sp:List ByteArray} {R:Int} {Lf:List KV} {Q:Z1} {n:Nat} (hd:∀ a ∈ d.Acts,ActIn a) (hs:sp.length ≤ 1000) (H:HandGo h d sp R Lf Q n 0) {s:Zn} {t:Zj} {m:Nat} (hf:FR s t m) (hm:m < 900000) (hr:t.Room=R) (e:oneS R sp (pl t) d=some (Lf,Q)) :
  ∃ s' t',Zd2 h s=some (s',if Q.Code=0 then Zjy sp d.Acts else []) ∧ FR s' t' (m + 12) ∧ pl t'=Lf ∧ t'.Room=R:=by
 by_cases hq:Q.Code=0
 ·obtain ⟨_,_,_,_,e3⟩:=H.done hd
  obtain ⟨_,_,tn,f1,f2,f3⟩:=e3 hq
  obtain ⟨⟨at_,hc⟩,_⟩:=Zxj e hq
  have hfit:=f1.fit
  have hsrt:=f1.rel.srt
  rw [f3] at hsrt
  rw [← Zes,f3,f2] at hfit
  rw [if_pos hq]
  exact Z04 hd hs H hq hc hf hm hr hsrt hfit (fun _ _=>rfl) (Z72 hf.inv hd e)
 ·obtain ⟨_,e2,_⟩:=H.done hd
  rw [if_neg hq,Zxw (.inr (by rw [e2];exact hq))]
  exact ⟨s,t,rfl,hf.mono (by omega),(Z0b e hq).1.symm,hr⟩
theorem Zbb3 {s:Zn} {t t':Zj} {m:Nat} (h:FR s t m) (hm:m < 1000000) (e:pl t'=pl t) (hr:t'.Room=t.Room):Zi8 s t'=some 1:=Zbcy (Z5f h.rel e hr) hm
theorem Z5c:∀ A:List Zu,Zjy [] A=[]
 | []=>rfl
 | a :: A=>by rw [Zza rfl];exact Z5c A
theorem Z6w:Zj5=some true:=by kernel_rfl
theorem Z34 {s:Zn} {t:Zj} {n:Nat} (h:FR s t n) (hn:n < 1000000) {a:Zu} (ha:ActIn a) :
  ∃ s' t' out,Zms s a=some (s',out) ∧ Zik t a=some (t',out) ∧ FR s' t' (n + 1) ∧ RecW out.Rec ∧ t'.Room=t.Room:=by
 obtain ⟨r,there,hg,hi,hl1,hl2⟩:∃ r there,getR (lk a.Key (pl t))=(r,there) ∧ Z1t there r ∧ (there=true → lk a.Key (pl t)=some r) ∧ (there=false → lk a.Key (pl t)=none):=by
  cases hl:lk a.Key (pl t) with
  | none=>exact ⟨_,_,rfl,⟨Zcq,fun h=>(by cases h),fun _=>rfl⟩,fun h=>(by cases h),fun _=>rfl⟩
  | some r =>
   obtain ⟨g1,g2⟩:=h.good _ (Zs8 hl)
   exact ⟨_,_,rfl,⟨g1,fun _=>g2,fun h=>(by cases h)⟩,fun _=>rfl,fun h=>(by cases h)⟩
 obtain ⟨x,is,out,e1,e2,w1,w2⟩:=Z2x (there:=there) hi.w ha
 obtain ⟨z,e3,hs⟩:=Zlf (there:=there) hi.w ha
 have hr0:(if there=true then r else zrc)=r:=by
  cases there
  ·exact (hi.zero rfl).symm
  ·rfl
 rw [hr0] at hs
 rw [e1] at e3
 obtain rfl:=Option.some.inj e3
 unfold Zms Zik
 rw [Zm2 h.rel,Z8k h.rel hn,hg]
 simp only [Option.bind_some]
 rw [e1,e2]
 simp only [Option.bind_some,Zl1]
 rcases hs with ⟨c,hc,hz⟩ | ⟨h1,h2,h3,hs⟩
 ·obtain ⟨rfl,rfl,rfl⟩:x=r ∧ is=there ∧ out=ans c:=by simpa using hz
  have hc':(c != 0)=true:=by simpa using hc
  simp only [hc',Bool.not_true,gd_f,Option.bind_some,Bool.true_or,if_true]
  exact ⟨s,t,_,rfl,rfl,h.mono (by omega),w2,rfl⟩
 obtain ⟨k1,k2⟩:=Zzz ha h1
 have hset:∀ {y:Ze},RecW y → Zcz y → ((lk a.Key (pl t)).isSome=true ∨ (t.L.length:Int) < t.Room) → ∃ s' t',Zc8 s a.Key y=some (s',0) ∧ Ze8 t a.Key y=some (t',0) ∧ FR s' t' (n + 1) ∧ pl t'=insL a.Key y (pl t):=fun {y} hw hgy ho=>by
  have hsh:=Znb hgy
  obtain ⟨s',t',c,f1,f2,f3,_⟩:=Znw h.rel hn a.Key hw.ok (by omega)
  obtain ⟨rfl,hp⟩:=(Znu h.rel hn f1 ((Zi2 hw.ok).2 hgy) (by omega) k1 k2).1 ho
  rw [f3.top] at hp
  exact ⟨s',t',f1,f2,Zv6 h f3 hw hgy ho hp (by rw [← f3.room,Zhi f1,h.rel.room]),hp⟩
 rcases hs with ⟨hk,rfl,hmk,hz⟩ | ⟨hk,rfl,hz⟩ | ⟨hk,hz⟩ | ⟨hk,rfl,hz⟩ | ⟨k5,k21,rfl,kon,r',o,q1,q2,q3,q4,q5,hz⟩
 ·
  obtain ⟨rfl,rfl,rfl⟩:x=a.Make ∧ is=true ∧ out=ans 0:=by simpa using hz
  have hl:=hl2 rfl
  rw [hk]
  simp only [bne_self_eq_false,Bool.not_false,gd_t,Option.bind_some,show ((((((1:Int) == 3) || ((1:Int) == 4)) || ((1:Int) == 9)) || ((1:Int) == 12)) || ((1:Int) == 20))=false from rfl,Bool.or_self,Bool.false_eq_true,if_false,Bool.not_true,beq_self_eq_true,Bool.true_and]
  by_cases hr:t.Room ≤ (t.L.length:Int)
  ·rw [if_pos (by simpa using hr)]
   have hsh:=Znb hmk
   obtain ⟨s',t',c,f1,f2,f3,_⟩:=Znw h.rel hn a.Key ha.mkr.ok (by omega)
   obtain ⟨rfl,rfl⟩:=(Znu h.rel hn f1 ((Zi2 ha.mkr.ok).2 hmk) (by omega) k1 k2).2 (by rw [hl];rfl) hr
   rw [f1]
   exact ⟨s',t,_,rfl,rfl,h.mono (by omega),Zcq,rfl⟩
  ·rw [if_neg (by simpa using hr)]
   obtain ⟨s',t',f1,f2,f3,_⟩:=hset ha.mkr hmk (.inr (by omega))
   rw [f1,f2]
   exact ⟨s',t',_,rfl,rfl,f3,Zcq,by rw [← f3.rel.room,Zhi f1,h.rel.room]⟩
 ·
  obtain ⟨rfl,rfl,rfl⟩:x=zrc ∧ is=false ∧ out=ans 0:=by simpa using hz
  rw [hk]
  obtain ⟨s',t',b,f1,f2,f3,f4⟩:=Zrr h.rel hn a.Key
  rw [f1,f2]
  have hro:t'.Room=t.Room:=by rw [← f3.room,Zoh f1,h.rel.room]
  have hf:=h.fit
  refine ⟨s',t',ans 0,rfl,rfl,⟨f3.mono (by omega),fun q hq=>?_,?_⟩,Zcq,hro⟩
  ·rcases f4 with f4 | f4
   ·rw [f4] at hq;exact h.good q hq
   ·rw [f4] at hq;exact h.good q (Zn4 hq)
  ·rw [hro,← Zes]
   rcases f4 with f4 | f4
   ·rw [f4,Zes];exact hf
   ·have:=Znx a.Key (pl t)
    rw [Zes] at this
    rw [f4];omega
 ·
  obtain ⟨rfl,rfl,rfl⟩:x=r ∧ is=there ∧ out={ ans 0 with Num:=r.Kind }:=by simpa using hz
  rw [hk]
  cases is with
  | true =>
   have hl:=hl1 rfl
   obtain ⟨s',t',f1,f2,f3,f4⟩:=hset hi.w (hi.good rfl) (.inl (by rw [hl];rfl))
   rw [f2]
   rw [Zsu h.rel.srt hl] at f4
   exact ⟨s,t',_,rfl,rfl,(Zqt h f4 (by rw [← f3.rel.room,Zhi f1,h.rel.room])).mono (by omega),Zcq,by rw [← f3.rel.room,Zhi f1,h.rel.room]⟩
  | false =>
   have hl:=hl2 rfl
   obtain ⟨s',t',b,f1,f2,f3,f4⟩:=Zrr h.rel hn a.Key
   rw [f2]
   have hp:pl t'=pl t:=by
    rcases f4 with f4 | f4
    ·exact f4
    ·rcases Zlb x h.rel.srt with ⟨_,_,_,a3,_⟩ | ⟨_,_,_,a4⟩
     ·rw [hl] at a3;cases a3
     ·rw [f4,a4]
   exact ⟨s,t',_,rfl,rfl,(Zqt h hp (by rw [← f3.room,Zoh f1,h.rel.room])).mono (by omega),Zcq,by rw [← f3.room,Zoh f1,h.rel.room]⟩
 ·
  obtain ⟨rfl,rfl,rfl⟩:x=r ∧ is=true ∧ out={ ans 0 with Rec:=r }:=by simpa using hz
  rw [hk]
  have hl:=hl1 rfl
  obtain ⟨s',t',f1,f2,f3,f4⟩:=hset hi.w (hi.good rfl) (.inl (by rw [hl];rfl))
  rw [f2]
  rw [Zsu h.rel.srt hl] at f4
  exact ⟨s,t',_,rfl,rfl,(Zqt h f4 (by rw [← f3.rel.room,Zhi f1,h.rel.room])).mono (by omega),hi.w,by rw [← f3.rel.room,Zhi f1,h.rel.room]⟩
 ·
  obtain ⟨rfl,rfl,rfl⟩:x=r' ∧ is=true ∧ out=o:=by simpa using hz
  have hl:=hl1 rfl
  have hgx:Zcz x:=Zuz k5 k21 kon hi.w (hi.good rfl) h2 q1
  obtain ⟨s',t',f1,f2,f3,f4⟩:=hset q4 hgx (.inl (by rw [hl];rfl))
  have hk1:(a.Kind == 1)=false:=by simp;omega
  rw [q2,hk1]
  simp only [bne_self_eq_false,Bool.not_false,gd_t,Option.bind_some,Bool.false_or,Bool.false_eq_true,if_false,Bool.not_true,Bool.false_and]
  rw [f1,f2]
  by_cases hrd:(((((a.Kind == (3:Int)) || (a.Kind == (4:Int))) || (a.Kind == (9:Int))) || (a.Kind == (12:Int))) || (a.Kind == (20:Int)))=true
  ·rw [if_pos hrd]
   have hx:x=r:=by
    refine Zrh ?_ hi.w (hi.good rfl) kon q1
    simp only [Bool.or_eq_true,beq_iff_eq] at hrd
    omega
   subst hx
   rw [Zsu h.rel.srt hl] at f4
   exact ⟨s,t',_,rfl,rfl,(Zqt h f4 (by rw [← f3.rel.room,Zhi f1,h.rel.room])).mono (by omega),q5,by rw [← f3.rel.room,Zhi f1,h.rel.room]⟩
  ·rw [if_neg hrd]
   exact ⟨s',t',_,rfl,rfl,f3,q5,by rw [← f3.rel.room,Zhi f1,h.rel.room]⟩
theorem Z5q {s:Zn} {t:Zj} {n:Nat} (h:FR s t n) (hn:n < 1000000) {a:Zu} (ha:ActIn a):∃ s' t' out,Zik t a=some (t',out) ∧ FR s' t' (n + 1) ∧ t'.Room=t.Room ∧ RecW out.Rec ∧ Zk2 t.Room (pl t) a=some (pl t',out):=by
 obtain ⟨s1,t1,o1,e1,e2,e3,e4,e5⟩:=Z34 h hn ha
 obtain ⟨s2,t2,o2,g1,g2,g3,g4,g5⟩:=Zw8 h hn ha
 rw [e1] at g1
 simp only [Option.some.injEq,Prod.mk.injEq] at g1
 obtain ⟨rfl,rfl⟩:=g1
 have:pl t2=pl t1:=g2.rel.top.symm.trans e3.rel.top
 rw [this] at g5
 exact ⟨s1,t1,o1,e2,e3,e5,e4,g5⟩
theorem Zw3 {d:Zbm} (hd:∀ a ∈ d.Acts,ActIn a) (hl:d.Acts.length ≤ 12) {t0:Zj}:∀ (n i:Nat) {s:Zn} {t:Zj} {m:Nat} {L:List Zg},i + n=d.Acts.length → FR s t m → m + n < 1000000 → L.length=i → Zn7 L →
  ∃ L' xs c,runK t.Room (d.Acts.drop i) (pl t)=some (L',xs,c) ∧
   ((c ≠ 0 ∧ Zeg t0 d (n + 1) default default t L (i:Int)=some (.inl (t0,{ Code:=c,At:=((L.length + xs.length + 1:Nat):Int),Answers:=[] }))) ∨
    (c=0 ∧ ∃ s' t',Zeg t0 d (n + 1) default default t L (i:Int)=some (.inr (default,default,t',L ++ xs)) ∧ FR s' t' (m + n) ∧ t'.Room=t.Room ∧ pl t'=L' ∧ Zn7 (L ++ xs) ∧ (L ++ xs).length=d.Acts.length))
 | 0,i,s,t,m,L,h,hf,hm,hL,hA=>by
  rw [Zeg,if_neg (by simp;omega),List.drop_of_length_le (by omega)]
  exact ⟨pl t,[],0,rfl,.inr ⟨rfl,s,t,by rw [List.append_nil],hf,rfl,rfl,by rw [List.append_nil];exact hA,by rw [List.append_nil];omega⟩⟩
 | n + 1,i,s,t,m,L,h,hf,hm,hL,hA=>by
  have h1:i < d.Acts.length:=by omega
  obtain ⟨s',t',out,e1,hf',hro,hw,e2⟩:=Z5q hf (by omega) (hd _ (List.getElem_mem h1))
  rw [Zeg,if_pos (by simp;omega),Zdd h1,wr1 (by omega),List.drop_eq_getElem_cons h1,runK,e2]
  simp only [Option.bind_some]
  rw [e1]
  simp only [Option.bind_some]
  have hg:(gd (out.Code != 0) (some d.Acts[i]))=some (if (out.Code != 0)=true then d.Acts[i] else default):=Zqj _ _
  rw [hg]
  simp only [Option.bind_some]
  have hb:((out.Code != 0) && (if (out.Code != 0)=true then d.Acts[i] else default).Must)=((d.Acts[i]).Must && (out.Code != 0)):=by
   cases hz:(out.Code != 0)
   ·simp
   ·simp
  rw [hb]
  by_cases hc:((d.Acts[i]).Must && (out.Code != 0))=true
  ·rw [if_pos hc,if_pos hc]
   have hne:out.Code ≠ 0:=by
    have:=(Bool.and_eq_true _ _ ▸ hc:_ ∧ _).2
    simpa using this
   subst hL
   exact ⟨_,_,_,rfl,.inl ⟨hne,rfl⟩⟩
  ·rw [if_neg hc,if_neg hc]
   have hlen:(L.length + [out].length) * 104 ≤ 140737488355328:=by simp;omega
   rw [if_pos hlen]
   obtain ⟨L',xs,c,r1,r2⟩:=Zw3 hd hl (t0:=t0) n (i + 1) (L:=L ++ [out]) (by omega) hf' (by omega) (by simp;omega) (Zvr hA hw)
   rw [hro] at r1
   rw [r1]
   refine ⟨L',out :: xs,c,rfl,?_⟩
   rcases r2 with ⟨hc0,r2⟩ | ⟨hc0,s2,t2,r2,r3,r4,r5,r6,r7⟩
   ·refine .inl ⟨hc0,?_⟩
    rw [r2]
    have:(L ++ [out]).length + xs.length + 1=L.length + (out :: xs).length + 1:=by simp;omega
    rw [this]
   ·have ha:L ++ [out] ++ xs=L ++ out :: xs:=by simp
    rw [ha] at r2 r6 r7
    exact .inr ⟨hc0,s2,t2,r2,r3.mono (by omega),r4.trans hro,r5,r6,r7⟩
theorem rone {s:Zn} {t:Zj} {n:Nat} (h:FR s t n) (hn:n + 12 < 1000000) {d:Zbm} (hd:∀ a ∈ d.Acts,ActIn a) :
  ∃ s' t' R,Zjr t d=some (t',R) ∧ FR s' t' (n + 12) ∧ t'.Room=t.Room ∧ Zvx R ∧ oneK t.Room (pl t) d=some (pl t',R):=by
 obtain ⟨c,at_,e1,e2,hc⟩:=Zqa hd
 unfold Zjr oneK
 rw [e1,e2]
 simp only [Option.bind_some]
 by_cases h0:(c != 0)=true
 ·rw [if_pos h0,if_pos h0]
  exact ⟨s,t,_,rfl,h.mono (by omega),rfl,⟨by simp,fun a ha=>by cases ha⟩,rfl⟩
 ·rw [if_neg h0,if_neg h0]
  have hl:=hc (by simpa using h0)
  obtain ⟨L',xs,k,r1,r2⟩:=Zw3 hd hl.2 (t0:=t) d.Acts.length 0 (L:=[]) (by omega) h (by omega) rfl (fun a ha=>by cases ha)
  rw [show ((0:Nat):Int)=0 from rfl] at r2
  rw [List.drop_zero] at r1
  rw [show (Int.toNat ((d.Acts.length:Int) - (0:Int)) + 1)=d.Acts.length + 1 by omega,r1]
  simp only [Option.bind_some]
  rcases r2 with ⟨hk,r2⟩ | ⟨hk,s2,t2,r2,r3,r4,r5,r6,r7⟩
  ·rw [r2,if_neg hk]
   exact ⟨s,t,_,rfl,h.mono (by omega),rfl,⟨by simp,fun a ha=>by cases ha⟩,by simp⟩
  ·rw [r2,if_pos hk]
   exact ⟨s2,t2,_,rfl,r3.mono (by omega),r4,⟨by rw [r7];exact hl.2,r6⟩,by rw [r5];rfl⟩
theorem Zuf {R:Z1} (hR:Zvx R):∀ (n i:Nat),i + n=R.Answers.length → Zen R R (n + 1) (i:Int)=some (.inr ())
 | 0,i,h=>by rw [Zen,if_neg (by simp;omega)]
 | n + 1,i,h=>by
  have hl:=hR.1
  have h1:i < R.Answers.length:=by omega
  have hw:=hR.2 _ (List.getElem_mem h1)
  rw [Zen,if_pos (by simp;omega),Zdd h1,wr1 (by omega)]
  simp only [Option.bind_some]
  rw [Zbaw hw hw]
  simp only [beq_self_eq_true,Zbbe,Bool.and_self,Option.bind_some,Bool.not_true,Bool.false_eq_true,if_false]
  exact Zuf hR n (i + 1) (by omega)
theorem Z91 {R:Z1} (hR:Zvx R):Ziv R R=some true:=by
 unfold Ziv
 simp only [bne_self_eq_false,Bool.or_self,Bool.false_eq_true,if_false]
 have:=Zuf hR R.Answers.length 0 (by omega)
 rw [show ((0:Nat):Int)=0 from rfl] at this
 rw [show (Int.toNat ((R.Answers.length:Int) - (0:Int)) + 1)=R.Answers.length + 1 by omega,this]
 rfl
theorem Zvz {d:Zbm} {R:Int} {Lf:List KV} {Q:Z1} (hd:∀ a ∈ d.Acts,ActIn a) (hl:d.Acts.length ≤ 1000) {s:Zn} {t:Zj} {k:Nat} (hf:FR s t k) (hk:k < 1000000) {o:Option Zj}:∀ (m f i:Nat) {h:Z3} {n:Nat},HandGo h d [] R Lf Q n m → m ≤ f → i + m ≤ 12 → n + m < 1000000 → ∃ h',Zdm (s,o) (f + 1) h (i:Int)=some (.inr h') ∧ HandGo h' d [] R Lf Q (n + m) 0
 | 0,f,i,h,n,H,_,hi,hn=>by
  rcases Zs0 hd hl (by simp) H (by omega) with ⟨_,e,_⟩ | ⟨_,_,e,_⟩
  ·refine ⟨h,?_,H⟩
   rw [Zdm,if_pos (by simp;omega)]
   unfold Zfn
   rw [e]
   rfl
  ·omega
 | m + 1,f + 1,i,h,n,H,hfu,hi,hn=>by
  rcases Zs0 hd hl (by simp) H (by omega) with ⟨e,_⟩ | ⟨h',m',e,ho,e2,H'⟩
  ·omega
  ·obtain rfl:m'=m:=by omega
   obtain ⟨h2,g1,g2⟩:=Zvz hd hl hf hk (o:=o) m' f (i + 1) H' (by omega) (by omega) (by omega)
   refine ⟨h2,?_,g2.mono (by omega)⟩
   have hres:Zfj h=some ({ Code:=0,At:=0,Answers:=[] },false):=by
    unfold Zfj
    rw [ho]
    rfl
   rw [Zdm,if_pos (by simp;omega)]
   unfold Zfn
   simp only [Option.bind_some]
   rw [ho]
   simp only [Bool.false_eq_true,if_false]
   rw [Zxw (.inl ho)]
   simp only [Option.bind_some]
   rw [hres]
   simp only [Option.bind_some,Bool.not_false,gd_t]
   rw [Zbcm hf hk]
   simp only [Option.bind_some,Bool.not_true,Bool.or_self,List.length_nil,Int.lt_irrefl,decide_false,Bool.not_false,gd_t,Bool.false_or]
   have hz:decide ((0:Int) < ((0:Nat):Int))=false:=by decide
   simp only [hz,Bool.not_false,gd_t,Bool.false_or]
   rw [e2]
   simp only [Option.bind_some,Bool.not_true,Bool.false_eq_true,if_false,if_true]
   rw [wr1 (by omega)]
   exact g1
theorem HandAlone_true (a0:Int) (a1:List Zbd) (a2:Zbm) (w0:(IntKind.i64).min ≤ a0 ∧ a0 ≤ (IntKind.i64).max) (w1:a1.length ≤ maxLen ∧ ∀ e0 ∈ a1,Zhq e0) (w2:Zqf a2):Zij a0 a1 a2=some true:=by
 unfold Zij
 rw [Z6w]
 simp only [Option.bind_some,Bool.not_true,Bool.false_eq_true,if_false]
 rcases Z6e (r:=a0) w1.2 with ⟨s,e⟩ | ⟨s,t,e,hf,hr,_⟩
 ·rw [e];rfl
 ·rw [e]
  obtain ⟨c,e1,e2,e3⟩:=big8 w2
  simp only [Option.bind_some,Option.isNone_some,Bool.not_false,gd_t,Bool.false_or]
  rw [e1]
  rcases e2 with rfl | rfl
  ·simp only [Option.bind_some,Int.lt_irrefl,decide_false,Bool.false_eq_true,if_false]
   obtain ⟨hl,hd⟩:=e3 rfl
   obtain ⟨h,Lf,Q,m,g1,g2,g3,g4,_⟩:=Z6d (sp:=[]) hf hd (by omega) (by simp)
   obtain ⟨sr,tr,Qr,f1,f2,f3,f4,f5⟩:=rone hf (by omega) hd
   have g2':=g2
   rw [Z61,f5] at g2'
   simp only [Option.some.injEq,Prod.mk.injEq] at g2'
   obtain ⟨hLf,rfl⟩:=g2'
   rw [g1]
   simp only [Option.bind_some]
   rw [f1]
   simp only [Option.bind_some]
   obtain ⟨h',k1,k2⟩:=Zvz hd (by omega) hf (by omega) (o:=some t) m 20 0 g3 (by omega) (by omega) (by omega)
   rw [show ((0:Nat):Int)=0 from rfl] at k1
   rw [show (Int.toNat ((20:Int) - (0:Int)) + 1)=20 + 1 by rfl,k1]
   simp only [Option.bind_some]
   obtain ⟨q1,_,q2⟩:=Z00 hd (by omega) k2
   obtain ⟨s',t',l1,l2,l3,l4⟩:=Z56 hd (by simp) k2 hf (by omega) rfl g2
   have hstep:Zfm h'=some (h',false):=by
    rcases Zs0 hd (by omega) (by simp) k2 (by omega) with ⟨_,_,e⟩ | ⟨_,_,e,_⟩
    ·exact e
    ·omega
   rw [l1]
   simp only [Option.bind_some]
   rw [q1]
   simp only [Option.bind_some]
   rw [q2]
   simp only [Option.bind_some,gd_t]
   rw [hstep]
   simp only [Option.bind_some,Bool.not_false,Bool.and_self,gd_t]
   rw [Z91 f4]
   have hn:(if Qr.Code=0 then Zjy [] a2.Acts else [])=[]:=by rw [Z5c];split <;> rfl
   rw [hn]
   have hz:((([]:List Zu).length:Int) == (0:Int))=true:=rfl
   simp only [Option.bind_some,Bool.and_self,hz,gd_t]
   rw [Zbb3 l2 (by omega) (by rw [l3,hLf]) (by rw [f3,l4])]
   rfl
  ·rfl
end Go.CL
namespace Go.CL
open Go Go.RowKit Go.Proofs Go.ChangeShapes Go.WideShapes Go.ChangeAt
theorem Z6l:ownKnob Tryz.prog.godebug=none:=by kernel_rfl
theorem Zs4:laidOutB Tryz.prog=true:=by kernel_rfl
theorem op_3:Opn Tryz.prog 3 (Kd.int .i64) (fun x=>((IntKind.i64).min ≤ x ∧ x ≤ (IntKind.i64).max)):=Z1z Tryz.underlying3 (by kernel_rfl)
theorem op_9:Opn Tryz.prog 9 Kd.str (fun x=>(x.size ≤ maxLen)):=Z8g Tryz.underlying9 (by kernel_rfl)
theorem op_2:Opn Tryz.prog 2 (Kd.int .i64) (fun x=>((IntKind.i64).min ≤ x ∧ x ≤ (IntKind.i64).max)):=Z1z Tryz.underlying2 (by kernel_rfl)
theorem Z3n:Opn Tryz.prog 35 Kd.flt (fun x=>(x < 2 ^ 64)):=Z70 Tryz.underlying35 (by kernel_rfl)
theorem Z9u:Opn Tryz.prog 116 Zz Zqd:=⟨by kernel_rfl,fun hg h=>by
 obtain ⟨hl,n,hf⟩:=Zng Tryz.underlying116 h
 obtain ⟨y0,h0⟩:=hf 0 _ rfl
 obtain ⟨v0,k0,w0⟩:=Z3n.op hg h0
 obtain ⟨y1,h1⟩:=hf 1 _ rfl
 obtain ⟨v1,k1,w1⟩:=op_9.op hg h1
 refine ⟨⟨v0,v1⟩,⟨hl.trans (by kernel_rfl),(List.forall_mem_cons.2 ⟨k0,(List.forall_mem_cons.2 ⟨k1,(fun _ h=>by cases h)⟩)⟩)⟩,w0,w1⟩,fun h=>Zop Tryz.underlying116 h⟩
theorem Zbbz:Opn Tryz.prog 36 Zz.sl (fun x=>(x.length ≤ maxLen ∧ ∀ e0 ∈ x,(Zqd e0))):=Zzi Tryz.underlying36 (by kernel_rfl) Z9u (by decide)
theorem Z7x:Opn Tryz.prog 38 Zi Zld:=⟨by kernel_rfl,fun hg h=>by
 obtain ⟨hl,n,hf⟩:=Zng Tryz.underlying38 h
 obtain ⟨y0,h0⟩:=hf 0 _ rfl
 obtain ⟨v0,k0,w0⟩:=op_3.op hg h0
 obtain ⟨y1,h1⟩:=hf 1 _ rfl
 obtain ⟨v1,k1,w1⟩:=op_2.op hg h1
 obtain ⟨y2,h2⟩:=hf 2 _ rfl
 obtain ⟨v2,k2,w2⟩:=op_2.op hg h2
 obtain ⟨y3,h3⟩:=hf 3 _ rfl
 obtain ⟨v3,k3,w3⟩:=op_2.op hg h3
 obtain ⟨y4,h4⟩:=hf 4 _ rfl
 obtain ⟨v4,k4,w4⟩:=Z3n.op hg h4
 obtain ⟨y5,h5⟩:=hf 5 _ rfl
 obtain ⟨v5,k5,w5⟩:=op_3.op hg h5
 obtain ⟨y6,h6⟩:=hf 6 _ rfl
 obtain ⟨v6,k6,w6⟩:=op_9.op hg h6
 obtain ⟨y7,h7⟩:=hf 7 _ rfl
 obtain ⟨v7,k7,w7⟩:=Zbbz.op hg h7
 refine ⟨⟨v0,v1,v2,v3,v4,v5,v6,v7⟩,⟨hl.trans (by kernel_rfl),(List.forall_mem_cons.2 ⟨k0,(List.forall_mem_cons.2 ⟨k1,(List.forall_mem_cons.2 ⟨k2,(List.forall_mem_cons.2 ⟨k3,(List.forall_mem_cons.2 ⟨k4,(List.forall_mem_cons.2 ⟨k5,(List.forall_mem_cons.2 ⟨k6,(List.forall_mem_cons.2 ⟨k7,(fun _ h=>by cases h)⟩)⟩)⟩)⟩)⟩)⟩)⟩)⟩)⟩,w0,w1,w2,w3,w4,w5,w6,w7⟩,fun h=>Zop Tryz.underlying38 h⟩
theorem Zbb2:Opn Tryz.prog 85 Zb6 Zhq:=⟨by kernel_rfl,fun hg h=>by
 obtain ⟨hl,n,hf⟩:=Zng Tryz.underlying85 h
 obtain ⟨y0,h0⟩:=hf 0 _ rfl
 obtain ⟨v0,k0,w0⟩:=op_9.op hg h0
 obtain ⟨y1,h1⟩:=hf 1 _ rfl
 obtain ⟨v1,k1,w1⟩:=Z7x.op hg h1
 refine ⟨⟨v0,v1⟩,⟨hl.trans (by kernel_rfl),(List.forall_mem_cons.2 ⟨k0,(List.forall_mem_cons.2 ⟨k1,(fun _ h=>by cases h)⟩)⟩)⟩,w0,w1⟩,fun h=>Zop Tryz.underlying85 h⟩
theorem Zbce:Opn Tryz.prog 22 Zb6.sl (fun x=>(x.length ≤ maxLen ∧ ∀ e0 ∈ x,(Zhq e0))):=Zzi Tryz.underlying22 (by kernel_rfl) Zbb2 (by decide)
theorem op_4:Opn Tryz.prog 4 Kd.bool (fun x=>True):=Z64 Tryz.underlying4 (by kernel_rfl)
theorem Zbcb:Opn Tryz.prog 40 Z4 Zmc:=⟨by kernel_rfl,fun hg h=>by
 obtain ⟨hl,n,hf⟩:=Zng Tryz.underlying40 h
 obtain ⟨y0,h0⟩:=hf 0 _ rfl
 obtain ⟨v0,k0,w0⟩:=op_3.op hg h0
 obtain ⟨y1,h1⟩:=hf 1 _ rfl
 obtain ⟨v1,k1,w1⟩:=op_9.op hg h1
 obtain ⟨y2,h2⟩:=hf 2 _ rfl
 obtain ⟨v2,k2,w2⟩:=op_2.op hg h2
 obtain ⟨y3,h3⟩:=hf 3 _ rfl
 obtain ⟨v3,k3,w3⟩:=Z3n.op hg h3
 obtain ⟨y4,h4⟩:=hf 4 _ rfl
 obtain ⟨v4,k4,w4⟩:=op_9.op hg h4
 obtain ⟨y5,h5⟩:=hf 5 _ rfl
 obtain ⟨v5,k5,w5⟩:=Z7x.op hg h5
 obtain ⟨y6,h6⟩:=hf 6 _ rfl
 obtain ⟨v6,k6,w6⟩:=op_4.op hg h6
 refine ⟨⟨v0,v1,v2,v3,v4,v5,v6⟩,⟨hl.trans (by kernel_rfl),(List.forall_mem_cons.2 ⟨k0,(List.forall_mem_cons.2 ⟨k1,(List.forall_mem_cons.2 ⟨k2,(List.forall_mem_cons.2 ⟨k3,(List.forall_mem_cons.2 ⟨k4,(List.forall_mem_cons.2 ⟨k5,(List.forall_mem_cons.2 ⟨k6,(fun _ h=>by cases h)⟩)⟩)⟩)⟩)⟩)⟩)⟩)⟩,w0,w1,w2,w3,w4,w5,w6⟩,fun h=>Zop Tryz.underlying40 h⟩
theorem Zbcp:Opn Tryz.prog 23 Z4.sl (fun x=>(x.length ≤ maxLen ∧ ∀ e0 ∈ x,(Zmc e0))):=Zzi Tryz.underlying23 (by kernel_rfl) Zbcb (by decide)
theorem Zbcd:Opn Tryz.prog 25 Zch Zqf:=⟨by kernel_rfl,fun hg h=>by
 obtain ⟨hl,n,hf⟩:=Zng Tryz.underlying25 h
 obtain ⟨y0,h0⟩:=hf 0 _ rfl
 obtain ⟨v0,k0,w0⟩:=Zbcp.op hg h0
 refine ⟨⟨v0⟩,⟨hl.trans (by kernel_rfl),(List.forall_mem_cons.2 ⟨k0,(fun _ h=>by cases h)⟩)⟩,w0⟩,fun h=>Zop Tryz.underlying25 h⟩
theorem Z7g:Det Tryz.prog 9:=Z88 Tryz.underlying9
theorem Zbci:Det Tryz.prog 3:=Z8r Tryz.underlying3
theorem Z8l:Det Tryz.prog 145:=Z3v Tryz.underlying145 (fun i f h=>match i,f,h with
 | 0,_,h=>by obtain rfl:=Option.some.inj h;exact Z7g
 | 1,_,h=>by obtain rfl:=Option.some.inj h;exact Zbci
 | 2,_,h=>by obtain rfl:=Option.some.inj h;exact Z7g
 | _ + 3,_,h=>by cases h) (by kernel_rfl)
theorem Z8i:Det Tryz.prog 164:=Z8b Tryz.underlying164 Z8l (by kernel_rfl)
theorem HandAlone_met (os : Os) (args : Array Value) : laidMetH Tryz.prog [("moiety/act.kinds", Go.Proofs.YtlanlccmokaajaaGreatDoor.Rows.laid_moiety_act_kinds)] ((World.doorLaid Tryz.prog 400 os).forCall (fun _ _ => 0) ⟨#[], args, []⟩).memory :=
 laidMetH_of_parts3 (fuel:=8) (laidMet_of_run' 8 (by kernel_rfl) (by kernel_rfl)) (by kernel_rfl) (by kernel_rfl)
theorem HandAlone_gl {W : World} (h : laidMetH Tryz.prog [("moiety/act.kinds", Go.Proofs.YtlanlccmokaajaaGreatDoor.Rows.laid_moiety_act_kinds)] W) : GLok W (fun b _ => b < W.heap.size) := by
 have g0 := Z6c (P := Tryz.prog) (nm := "moiety/act.kinds") (d := Go.Proofs.YtlanlccmokaajaaGreatDoor.Rows.laid_moiety_act_kinds) (g := 0) (t := 164) (W := W) (w0 := W) (cells := [.string ⟨#[]⟩, .int .i64 (0), .string ⟨#[]⟩, .string ⟨#[110, 101, 119]⟩, .int .i64 (0), .string ⟨#[109]⟩, .string ⟨#[100, 114, 111, 112]⟩, .int .i64 (0), .string ⟨#[]⟩, .string ⟨#[105, 115]⟩, .int .i64 (0), .string ⟨#[]⟩, .string ⟨#[108, 111, 111, 107]⟩, .int .i64 (0), .string ⟨#[]⟩, .string ⟨#[112, 117, 116]⟩, .int .i64 (1), .string ⟨#[115]⟩, .string ⟨#[115, 119, 97, 112]⟩, .int .i64 (1), .string ⟨#[115]⟩, .string ⟨#[97, 100, 100]⟩, .int .i64 (2), .string ⟨#[110]⟩, .string ⟨#[112, 108, 117, 115]⟩, .int .i64 (3), .string ⟨#[110]⟩, .string ⟨#[114, 101, 97, 99, 104]⟩, .int .i64 (3), .string ⟨#[110]⟩, .string ⟨#[105, 110]⟩, .int .i64 (4), .string ⟨#[110]⟩, .string ⟨#[111, 117, 116]⟩, .int .i64 (4), .string ⟨#[110]⟩, .string ⟨#[101, 110, 111, 117, 103, 104]⟩, .int .i64 (4), .string ⟨#[110]⟩, .string ⟨#[114, 97, 105, 115, 101]⟩, .int .i64 (5), .string ⟨#[120]⟩, .string ⟨#[108, 111, 119, 101, 114]⟩, .int .i64 (6), .string ⟨#[120]⟩, .string ⟨#[115, 104, 105, 102, 116]⟩, .int .i64 (7), .string ⟨#[120]⟩, .string ⟨#[115, 99, 97, 108, 101]⟩, .int .i64 (7), .string ⟨#[120]⟩, .string ⟨#[102, 105, 120]⟩, .int .i64 (7), .string ⟨#[120]⟩, .string ⟨#[106, 111, 105, 110]⟩, .int .i64 (8), .string ⟨#[115]⟩, .string ⟨#[108, 101, 97, 118, 101]⟩, .int .i64 (8), .string ⟨#[115]⟩, .string ⟨#[104, 97, 115]⟩, .int .i64 (8), .string ⟨#[115]⟩, .string ⟨#[111, 102, 102, 101, 114]⟩, .int .i64 (9), .string ⟨#[120, 115]⟩]) (fu := 8) (by kernel_rfl) (by kernel_rfl) Z8i (by kernel_rfl) (by kernel_rfl) h
 intro e he i v hv
 rcases List.mem_cons.1 he with rfl | he
 ·exact ⟨(Zss (g0 i v hv)).2,g0 i v hv⟩
 cases he
theorem HandAlone_ret (os:Os) (started:os.Started) (H:Type) (enc:TypeId × Value → H) :
  ReturnsInHanded {} Tryz.checked os 4 .any (fun w args => (Go.Proofs.YtlanlccmokaajaaGreatDoor.Rows.handAloneSpec.pre enc Tryz.prog Tryz.f4 [] false w args ∧ laidMetH Tryz.prog [("moiety/act.kinds", Go.Proofs.YtlanlccmokaajaaGreatDoor.Rows.laid_moiety_act_kinds)] w) ∧ sizedMet enc Tryz.prog Tryz.f4 (OpenSpec.ofChange Go.Proofs.YtlanlccmokaajaaGreatDoor.Rows.handAloneSpec) false w args) (Go.Proofs.YtlanlccmokaajaaGreatDoor.Rows.handAloneSpec.post enc Tryz.prog Tryz.f4 false true false false) := by
 refine returnsInHanded_of_change_and (C := Tryz.checked) (X := fun w _ => laidMetH Tryz.prog [("moiety/act.kinds", Go.Proofs.YtlanlccmokaajaaGreatDoor.Rows.laid_moiety_act_kinds)] w) (fun _ _ _ hh h => h.of_heap hh) Z6l started (by kernel_rfl) Tryz.func4
  (ChangeSpec.witness_shaped (enc := enc) (C := Tryz.checked) (os := os) (X := fun w _ => laidMetH Tryz.prog [("moiety/act.kinds", Go.Proofs.YtlanlccmokaajaaGreatDoor.Rows.laid_moiety_act_kinds)] w) false (World.doorLaid Tryz.prog 400 os) #[.int .i64 0, .slice none 0 0, .agg #[.slice none 0 0]] 8 rfl (World.shaped_of_RefB (by kernel_rfl) (by kernel_rfl)) (by kernel_rfl) (by kernel_rfl) (by kernel_rfl) (HandAlone_met os _)) ?_
 intro W base args ds gs before hval0 hW hcnd _ hL _
 have hval:∀ (j:Nat) t v,Tryz.f4.params[j]?=some t → args[j]?=some v → Value.okWide Tryz.prog W .any base t v:=hval0
 have hW':=hW
 obtain ⟨p,q,hA0,hV,rfl,hfz,hnd⟩:=hW
 have hA:DataW.TrodAll enc Tryz.prog W 0 (fun _=>true) true Tryz.f4.params.toList args.toList ds p:=hA0
 rw [Tryz.params4] at hA hval
 obtain ⟨v0,v1,v2,d0,d1,d2,p0,p1,p2,rfl,rfl,rfl,h0,h1,h2⟩:=trodAll_three hA
 obtain ⟨rfl,rfl⟩:=trodVars_none hV
 simp only [List.append_nil] at hW'
 have hg:GLok W (fun b _=>b < W.heap.size):=(HandAlone_gl hL)
 have hk0:=h0
 obtain ⟨a0,q0,w0⟩:=Z0d op_3 hg h0 (hval 0 3 v0 rfl rfl)
 have hk1:=h1
 obtain ⟨a1,q1,w1⟩:=Z0d Zbce hg h1 (hval 1 22 v1 rfl rfl)
 have hk2:=h2
 obtain ⟨a2,q2,w2⟩:=Z0d Zbcd hg h2 (hval 2 25 v2 rfl rfl)
 refine (Zpm a0 a1 a2 (HandAlone_true a0 a1 a2 w0 w1 w2) (GW W hg) [v0,v1,v2] (Zoa q0 (Zoa q1 (Zoa q2 Ze3)))).mono fun e W' ⟨g',v,he,hw,hs,hq⟩=>?_
 subst he;subst hw
 rw [Zjz.1 hq]
 have hbel:=Z59 hs
 have hlt:∀ x ∈ (p0 ++ p1 ++ p2),x.block < W.heap.size:=fun x hx=>by simpa using hW'.lt x hx
 exact ⟨_,rfl,Zx8 (pv:=[]) hW' hbel (trodAll_mk1 (shut_bool Tryz.underlying4 true)) (trodAll_mk3 (Below.trod Zs4 (by kernel_rfl) (of_decide_eq_true (by kernel_rfl)) hk0 hbel (fun x hx=>hlt x (by simp [hx]))) (Below.trod Zs4 (by kernel_rfl) (of_decide_eq_true (by kernel_rfl)) hk1 hbel (fun x hx=>hlt x (by simp [hx]))) (Below.trod Zs4 (by kernel_rfl) (of_decide_eq_true (by kernel_rfl)) hk2 hbel (fun x hx=>hlt x (by simp [hx])))) rfl⟩
theorem HandAlone_holds:Go.Proofs.YtlanlccmokaajaaGreatDoor.Rows.HandAloneSaid :=
 OpenClaim.holds_of_wide 4 Tryz.f4 rfl rfl rfl rfl rfl rfl rfl ⟨rfl,rfl,rfl,rfl,rfl⟩ rfl rfl rfl rfl rfl (by kernel_rfl) Tryz.func4 (by kernel_rfl)
  (of_decide_eq_true (by kernel_rfl)) (by unfold Func.isWrapper;first | (rw [if_pos (by decide +kernel)];kernel_rfl) | (rw [if_neg (by decide +kernel)];exact ⟨rfl,rfl⟩))
  (fun os started H enc _=>HandAlone_ret os started H enc)
theorem HandAlone_card:Go.Proofs.YtlanlccmokaajaaGreatDoor.Rows.HandAloneCardSaid :=
 Claim7.holds_tied_plain_at .later [] [.data] true (true, "742167b159ec3a4f522c33c9de0194a4b520730ba2e9e03a283e4a3108c93551") false
  HandAlone_holds (fun _ h=>by cases h) (by kernel_rfl) (fun _ h=>by cases h) Go.Proofs.YtlanlccmokaajaaGreatDoor.handAlone_row_tie rfl ⟨rfl,rfl⟩ (by kernel_rfl) rfl
  (fun f fn hf hfn=>by
   obtain rfl : f = 4 := Option.some.inj ((show Tryz.prog.funcNamed "moiety/moietylaw15.HandAlone" = some 4 by kernel_rfl).symm.trans hf) |>.symm
   obtain rfl:fn=Tryz.f4:=(Option.some.inj (Tryz.func4.symm.trans hfn)).symm
   exact ⟨by kernel_rfl,fun j t ht=>by
    rw [Tryz.params4] at ht
    have hm:t ∈ [3,22,25]:=by simpa using Array.mem_of_getElem? ht
    have hall:(([3,22,25]:List TypeId).all fun u=>!Tryz.prog.wantsStandIn u)=true:=by kernel_rfl
    exact (show Tryz.prog.wantsStandIn t=false by simpa using List.all_eq_true.1 hall t hm)⟩)
  (by kernel_rfl)
end Go.CL
