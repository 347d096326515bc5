/- A part of the proof of WholeLots. -/
import Derived.Test.YtblhcbpleiohaaaGreatDoorWholeLotsC6
set_option linter.unusedVariables false
set_option linter.unusedSimpArgs false
set_option maxRecDepth 100000
namespace Go.CL
open Go
theorem Zwq {β:Type} [Inhabited β] (c:Bool) (v:β):gd c (some v)=some (if c then v else default):=by cases c <;> rfl
def Zzd (a:Zs):Prop:=Zjq a.Make ∧ a.X < W64
abbrev zrc:Zb:={ Kind:=0,Num:=0,Low:=0,High:=0,Real:=0,Cap:=0,Text:=ByteArray.empty,List:=[] }
theorem Z99:Zjq zrc:=⟨by decide,by decide,fun e he=>by cases he⟩
def actD (n x s m o1 k1 k2:Bool) (c:Int) (a:Zs):Int :=
 if (sEq a.Key ⟨#[]⟩ || decide ((24:Int) < a.Key.size))=true then 1
 else if (!(((n || a.N == 0) && (x || decide (keyf a.X=keyf 0))) && (s || sEq a.S ⟨#[]⟩) && (m || Zjl a.Make zrc)))=true then 4
 else if decide ((if o1=true then (64:Int) else 16) < a.S.size)=true then 3
 else if (k2 && (decide (a.N < 0) || decide (2305843009213693952 < a.N)))=true then 1
 else if (!decide (a.X=Zcl a.X))=true then 4
 else if k1=true then c else 0
theorem Zbgi (k:ByteArray):(decide ((k.size:Int) < 1))=sEq k ⟨#[]⟩:=by
 by_cases h:k=⟨#[]⟩
 ·subst h;rw [Zfj];decide
 ·rw [Zff.2 h]
  have:k.size ≠ 0:=fun e=>h (by
   apply ByteArray.ext
   exact Array.size_eq_zero_iff.1 e)
  simp;omega
theorem Z1f {a:Zs} (ha:Zzd a) {w has:ByteArray} {on c:Int} {n x s m:Bool} (hc:Zd5 a.Make=some c) (h1:Zlq a.Kind=some ⟨w,on,has⟩) (hw:sEq w ⟨#[]⟩=false)
  (fn:Zbu ⟨w,on,has⟩ 110=some n) (fx:Zbu ⟨w,on,has⟩ 120=some x) (fs:Zbu ⟨w,on,has⟩ 115=some s) (fm:Zbu ⟨w,on,has⟩ 109=some m) :
  Ze4 a=some (actD n x s m (on == 1) (a.Kind == 1) (a.Kind == 10 || a.Kind == 11) c a):=by
 have h0:(0:Nat) < W64:=by decide
 unfold Ze4 Zt5 Zou
 rw [h1]
 simp only [Option.bind_some,hw,Bool.false_eq_true,if_false,fn,fx,fs,fm,Zwq]
 rw [Zrl ha.2 h0,Z37 ha.1 Z99,Zvz ha.2,hc]
 simp only [Option.bind_some,Zwq]
 unfold actD
 generalize (sEq a.Key ⟨#[]⟩ || decide ((24:Int) < a.Key.size))=b1
 generalize (a.N == 0)=b2
 generalize decide (keyf a.X=keyf 0)=b3
 generalize sEq a.S ⟨#[]⟩=b4
 generalize Zjl a.Make zrc=b5
 generalize (a.Kind == 10 || a.Kind == 11)=b6
 generalize (a.Kind == 1)=b7
 generalize (decide (a.N < 0) || decide (2305843009213693952 < a.N))=b8
 generalize decide (a.X=Zcl a.X)=b9
 have e1:decide ((64:Int) < a.S.size)=decide ((if true=true then (64:Int) else 16) < a.S.size):=rfl
 cases b1
 ·have hm:∀ (z:Bool),((if z=true then some (64:Int) else some 16).bind fun r8=>(if decide (r8 < (a.S.size:Int))=true then some (3:Int) else if (b6 && b8)=true then some 1 else if (!b9)=true then some 4 else if b7=true then some c else some 0))=some (if decide ((if z=true then (64:Int) else 16) < a.S.size)=true then 3 else if (b6 && b8)=true then 1 else if (!b9)=true then 4 else if b7=true then c else 0):=by
   intro z
   cases z <;> simp only [Bool.false_eq_true,if_false,if_true,Option.bind_some] <;> (repeat' split) <;> rfl
  rw [hm]
  cases n <;> cases x <;> cases s <;> cases m <;> cases b2 <;> cases b3 <;> cases b4 <;> cases b5 <;> rfl
 ·rfl
theorem Z9h {a:Zs} (ha:Zzd a) {on c:Int} {n x s m:Bool} (hc:Zd2 a.Make=some c) (hk:¬ (a.Kind < 1 ∨ 21 < a.Kind)) (ro:Zgk a.Kind=some on)
  (fn:Zf7 a.Kind 110=some n) (fx:Zf7 a.Kind 120=some x) (fs:Zf7 a.Kind 115=some s) (fm:m=(a.Kind == 1)) :
  Zgu a=some (actD n x s m (on == 1) (a.Kind == 1) (a.Kind == 10 || a.Kind == 11) c a):=by
 have h0:(0:Nat) < W64:=by decide
 unfold Zgu
 rw [if_neg (by simpa using hk),fn,fx,fs,ro]
 simp only [Option.bind_some,Zwq,Zbgi]
 rw [Zot ha.2 h0,Zvn ha.1 Z99,Ztw ha.2,hc]
 simp only [Option.bind_some,Zwq]
 unfold actD
 subst fm
 have hmid:((on == 1 && decide ((64:Int) < a.S.size)) || ((if (!(on == 1 && decide ((64:Int) < a.S.size)))=true then on else default) != 1 && decide ((16:Int) < a.S.size)))=decide ((if (on == 1)=true then (64:Int) else 16) < a.S.size):=by
  by_cases ho:on=1
  ·subst ho
   by_cases h64:(64:Int) < a.S.size <;> simp [h64]
  ·have hb1:(on == 1)=false:=by simpa using ho
   have hb2:(on != 1)=true:=by simpa using ho
   simp [hb1,hb2]
 rw [hmid,show (a.N != 0)=!(a.N == 0) from rfl,show (a.Kind != 1)=!(a.Kind == 1) from rfl]
 generalize decide ((if (on == 1)=true then (64:Int) else 16) < a.S.size)=b10
 generalize (sEq a.Key ⟨#[]⟩ || decide ((24:Int) < a.Key.size))=b1
 generalize (a.N == 0)=b2
 generalize decide (keyf a.X=keyf 0)=b3
 generalize sEq a.S ⟨#[]⟩=b4
 generalize Zjl a.Make zrc=b5
 generalize (a.Kind == 10 || a.Kind == 11)=b6
 generalize (a.Kind == 1)=b7
 generalize (decide (a.N < 0) || decide (2305843009213693952 < a.N))=b8
 generalize decide (a.X=Zcl a.X)=b9
 have htail:(if b10=true then some (3:Int) else if (b6 && b8)=true then some 1 else if (!b9)=true then some 4 else if b7=true then some c else some 0)=some (if b10=true then 3 else if (b6 && b8)=true then 1 else if (!b9)=true then 4 else if b7=true then c else 0):=by
  (repeat' split) <;> rfl
 rw [htail]
 cases b1
 ·cases n <;> cases x <;> cases s <;> cases b7 <;> cases b2 <;> cases b3 <;> cases b4 <;> cases b5 <;> rfl
 ·rfl
theorem Zbbw {n x s m o1 k1 k2:Bool} {c:Int} {a:Zs} (h:actD n x s m o1 k1 k2 c a=0):(sEq a.Key ⟨#[]⟩ || decide ((24:Int) < a.Key.size))=false ∧ decide ((if o1=true then (64:Int) else 16) < a.S.size)=false ∧ (k2 && (decide (a.N < 0) || decide (2305843009213693952 < a.N)))=false ∧ decide (a.X=Zcl a.X)=true ∧ (k1=true → c=0):=by
 unfold actD at h
 revert h
 generalize (sEq a.Key ⟨#[]⟩ || decide ((24:Int) < a.Key.size))=b1
 generalize decide ((if o1=true then (64:Int) else 16) < a.S.size)=b3
 generalize (k2 && (decide (a.N < 0) || decide (2305843009213693952 < a.N)))=b4
 generalize decide (a.X=Zcl a.X)=b5
 generalize (!(((n || a.N == 0) && (x || decide (keyf a.X=keyf 0))) && (s || sEq a.S ⟨#[]⟩) && (m || Zjl a.Make zrc)))=b2
 cases b1 <;> cases b2 <;> cases b3 <;> cases b4 <;> cases b5 <;> cases k1 <;> simp
theorem Zpa {a:Zs} (ha:Zzd a):∃ c,Ze4 a=some c ∧ Zgu a=some c ∧ (c=0 → 1 ≤ a.Kind ∧ a.Kind ≤ 21 ∧ a.X=Zcl a.X ∧ a.S.size ≤ 64 ∧ ((a.Kind=10 ∨ a.Kind=11) → 0 ≤ a.N ∧ a.N ≤ 2305843009213693952) ∧ (a.Kind=1 → Zd5 a.Make=some 0) ∧ (¬ (5 ≤ a.Kind ∧ a.Kind ≤ 6) → a.S.size ≤ 16) ∧ sEq a.Key ⟨#[]⟩=false ∧ a.Key.size ≤ 24):=by
 by_cases hk:a.Kind < 1 ∨ 21 < a.Kind
 ·refine ⟨5,?_,?_,fun h=>by cases h⟩
  ·unfold Ze4 Zlq
   rw [if_pos (by simp;omega)]
   simp only [Option.bind_some]
   rw [if_pos (show sEq ByteArray.empty ⟨#[]⟩=true by kernel_rfl)]
  ·unfold Zgu
   rw [if_pos (by simpa using hk)]
 ·obtain ⟨c,hc1,hc2⟩:=Zoc ha.1
  have fin:∀ {w has:ByteArray} {on:Int} {n x s m:Bool},Zlq a.Kind=some ⟨w,on,has⟩ → sEq w ⟨#[]⟩=false → Zbu ⟨w,on,has⟩ 110=some n → Zbu ⟨w,on,has⟩ 120=some x → Zbu ⟨w,on,has⟩ 115=some s → Zbu ⟨w,on,has⟩ 109=some m →
    Zgk a.Kind=some on → Zf7 a.Kind 110=some n → Zf7 a.Kind 120=some x → Zf7 a.Kind 115=some s → m=(a.Kind == 1) → ((on == 1)=true → 5 ≤ a.Kind ∧ a.Kind ≤ 6) →
    ∃ c,Ze4 a=some c ∧ Zgu a=some c ∧ (c=0 → 1 ≤ a.Kind ∧ a.Kind ≤ 21 ∧ a.X=Zcl a.X ∧ a.S.size ≤ 64 ∧ ((a.Kind=10 ∨ a.Kind=11) → 0 ≤ a.N ∧ a.N ≤ 2305843009213693952) ∧ (a.Kind=1 → Zd5 a.Make=some 0) ∧ (¬ (5 ≤ a.Kind ∧ a.Kind ≤ 6) → a.S.size ≤ 16) ∧ sEq a.Key ⟨#[]⟩=false ∧ a.Key.size ≤ 24):=by
   intro w has on n x s m h1 hw fn fx fs fm ro rn rx rs hm hon
   refine ⟨_,Z1f ha hc1 h1 hw fn fx fs fm,by rw [hm];exact Z9h ha hc2 hk ro rn rx rs rfl,fun h0=>?_⟩
   obtain ⟨g1,g3,g4,g5,g6⟩:=Zbbw h0
   simp only [Bool.or_eq_false_iff,decide_eq_false_iff_not] at g1
   have g3':¬ (if (on == 1)=true then (64:Int) else 16) < a.S.size:=of_decide_eq_false g3
   refine ⟨by omega,by omega,of_decide_eq_true g5,?_,fun h=>?_,fun h=>?_,fun h=>?_,g1.1,by omega⟩
   ·split at g3' <;> omega
   ·have h11:(a.Kind == 10 || a.Kind == 11)=true:=by simpa using h
    rw [h11] at g4
    simp only [Bool.true_and,Bool.or_eq_false_iff,decide_eq_false_iff_not] at g4
    omega
   ·rw [hc1,g6 (by simp [h])]
   ·rw [if_neg (fun h2=>h (hon h2))] at g3'
    omega
  have hk':a.Kind=1 ∨ a.Kind=2 ∨ a.Kind=3 ∨ a.Kind=4 ∨ a.Kind=5 ∨ a.Kind=6 ∨ a.Kind=7 ∨ a.Kind=8 ∨ a.Kind=9 ∨ a.Kind=10 ∨ a.Kind=11 ∨ a.Kind=12 ∨ a.Kind=13 ∨ a.Kind=14 ∨ a.Kind=15 ∨ a.Kind=16 ∨ a.Kind=17 ∨ a.Kind=18 ∨ a.Kind=19 ∨ a.Kind=20 ∨ a.Kind=21:=by omega
  rcases hk' with h | h | h | h | h | h | h | h | h | h | h | h | h | h | h | h | h | h | h | h | h <;> rw [h] at fin ⊢
  ·exact fin (w:=⟨#[110,101,119]⟩) (on:=0) (has:=⟨#[109]⟩) (n:=false) (x:=false) (s:=false) (m:=true) (by kernel_rfl) (by kernel_rfl) (by kernel_rfl) (by kernel_rfl) (by kernel_rfl) (by kernel_rfl) (by kernel_rfl) (by kernel_rfl) (by kernel_rfl) (by kernel_rfl) (by decide) (by decide)
  ·exact fin (w:=⟨#[100,114,111,112]⟩) (on:=0) (has:=⟨#[]⟩) (n:=false) (x:=false) (s:=false) (m:=false) (by kernel_rfl) (by kernel_rfl) (by kernel_rfl) (by kernel_rfl) (by kernel_rfl) (by kernel_rfl) (by kernel_rfl) (by kernel_rfl) (by kernel_rfl) (by kernel_rfl) (by decide) (by decide)
  ·exact fin (w:=⟨#[105,115]⟩) (on:=0) (has:=⟨#[]⟩) (n:=false) (x:=false) (s:=false) (m:=false) (by kernel_rfl) (by kernel_rfl) (by kernel_rfl) (by kernel_rfl) (by kernel_rfl) (by kernel_rfl) (by kernel_rfl) (by kernel_rfl) (by kernel_rfl) (by kernel_rfl) (by decide) (by decide)
  ·exact fin (w:=⟨#[108,111,111,107]⟩) (on:=0) (has:=⟨#[]⟩) (n:=false) (x:=false) (s:=false) (m:=false) (by kernel_rfl) (by kernel_rfl) (by kernel_rfl) (by kernel_rfl) (by kernel_rfl) (by kernel_rfl) (by kernel_rfl) (by kernel_rfl) (by kernel_rfl) (by kernel_rfl) (by decide) (by decide)
  ·exact fin (w:=⟨#[112,117,116]⟩) (on:=1) (has:=⟨#[115]⟩) (n:=false) (x:=false) (s:=true) (m:=false) (by kernel_rfl) (by kernel_rfl) (by kernel_rfl) (by kernel_rfl) (by kernel_rfl) (by kernel_rfl) (by kernel_rfl) (by kernel_rfl) (by kernel_rfl) (by kernel_rfl) (by decide) (by decide)
  ·exact fin (w:=⟨#[115,119,97,112]⟩) (on:=1) (has:=⟨#[115]⟩) (n:=false) (x:=false) (s:=true) (m:=false) (by kernel_rfl) (by kernel_rfl) (by kernel_rfl) (by kernel_rfl) (by kernel_rfl) (by kernel_rfl) (by kernel_rfl) (by kernel_rfl) (by kernel_rfl) (by kernel_rfl) (by decide) (by decide)
  ·exact fin (w:=⟨#[97,100,100]⟩) (on:=2) (has:=⟨#[110]⟩) (n:=true) (x:=false) (s:=false) (m:=false) (by kernel_rfl) (by kernel_rfl) (by kernel_rfl) (by kernel_rfl) (by kernel_rfl) (by kernel_rfl) (by kernel_rfl) (by kernel_rfl) (by kernel_rfl) (by kernel_rfl) (by decide) (by decide)
  ·exact fin (w:=⟨#[112,108,117,115]⟩) (on:=3) (has:=⟨#[110]⟩) (n:=true) (x:=false) (s:=false) (m:=false) (by kernel_rfl) (by kernel_rfl) (by kernel_rfl) (by kernel_rfl) (by kernel_rfl) (by kernel_rfl) (by kernel_rfl) (by kernel_rfl) (by kernel_rfl) (by kernel_rfl) (by decide) (by decide)
  ·exact fin (w:=⟨#[114,101,97,99,104]⟩) (on:=3) (has:=⟨#[110]⟩) (n:=true) (x:=false) (s:=false) (m:=false) (by kernel_rfl) (by kernel_rfl) (by kernel_rfl) (by kernel_rfl) (by kernel_rfl) (by kernel_rfl) (by kernel_rfl) (by kernel_rfl) (by kernel_rfl) (by kernel_rfl) (by decide) (by decide)
  ·exact fin (w:=⟨#[105,110]⟩) (on:=4) (has:=⟨#[110]⟩) (n:=true) (x:=false) (s:=false) (m:=false) (by kernel_rfl) (by kernel_rfl) (by kernel_rfl) (by kernel_rfl) (by kernel_rfl) (by kernel_rfl) (by kernel_rfl) (by kernel_rfl) (by kernel_rfl) (by kernel_rfl) (by decide) (by decide)
  ·exact fin (w:=⟨#[111,117,116]⟩) (on:=4) (has:=⟨#[110]⟩) (n:=true) (x:=false) (s:=false) (m:=false) (by kernel_rfl) (by kernel_rfl) (by kernel_rfl) (by kernel_rfl) (by kernel_rfl) (by kernel_rfl) (by kernel_rfl) (by kernel_rfl) (by kernel_rfl) (by kernel_rfl) (by decide) (by decide)
  ·exact fin (w:=⟨#[101,110,111,117,103,104]⟩) (on:=4) (has:=⟨#[110]⟩) (n:=true) (x:=false) (s:=false) (m:=false) (by kernel_rfl) (by kernel_rfl) (by kernel_rfl) (by kernel_rfl) (by kernel_rfl) (by kernel_rfl) (by kernel_rfl) (by kernel_rfl) (by kernel_rfl) (by kernel_rfl) (by decide) (by decide)
  ·exact fin (w:=⟨#[114,97,105,115,101]⟩) (on:=5) (has:=⟨#[120]⟩) (n:=false) (x:=true) (s:=false) (m:=false) (by kernel_rfl) (by kernel_rfl) (by kernel_rfl) (by kernel_rfl) (by kernel_rfl) (by kernel_rfl) (by kernel_rfl) (by kernel_rfl) (by kernel_rfl) (by kernel_rfl) (by decide) (by decide)
  ·exact fin (w:=⟨#[108,111,119,101,114]⟩) (on:=6) (has:=⟨#[120]⟩) (n:=false) (x:=true) (s:=false) (m:=false) (by kernel_rfl) (by kernel_rfl) (by kernel_rfl) (by kernel_rfl) (by kernel_rfl) (by kernel_rfl) (by kernel_rfl) (by kernel_rfl) (by kernel_rfl) (by kernel_rfl) (by decide) (by decide)
  ·exact fin (w:=⟨#[115,104,105,102,116]⟩) (on:=7) (has:=⟨#[120]⟩) (n:=false) (x:=true) (s:=false) (m:=false) (by kernel_rfl) (by kernel_rfl) (by kernel_rfl) (by kernel_rfl) (by kernel_rfl) (by kernel_rfl) (by kernel_rfl) (by kernel_rfl) (by kernel_rfl) (by kernel_rfl) (by decide) (by decide)
  ·exact fin (w:=⟨#[115,99,97,108,101]⟩) (on:=7) (has:=⟨#[120]⟩) (n:=false) (x:=true) (s:=false) (m:=false) (by kernel_rfl) (by kernel_rfl) (by kernel_rfl) (by kernel_rfl) (by kernel_rfl) (by kernel_rfl) (by kernel_rfl) (by kernel_rfl) (by kernel_rfl) (by kernel_rfl) (by decide) (by decide)
  ·exact fin (w:=⟨#[102,105,120]⟩) (on:=7) (has:=⟨#[120]⟩) (n:=false) (x:=true) (s:=false) (m:=false) (by kernel_rfl) (by kernel_rfl) (by kernel_rfl) (by kernel_rfl) (by kernel_rfl) (by kernel_rfl) (by kernel_rfl) (by kernel_rfl) (by kernel_rfl) (by kernel_rfl) (by decide) (by decide)
  ·exact fin (w:=⟨#[106,111,105,110]⟩) (on:=8) (has:=⟨#[115]⟩) (n:=false) (x:=false) (s:=true) (m:=false) (by kernel_rfl) (by kernel_rfl) (by kernel_rfl) (by kernel_rfl) (by kernel_rfl) (by kernel_rfl) (by kernel_rfl) (by kernel_rfl) (by kernel_rfl) (by kernel_rfl) (by decide) (by decide)
  ·exact fin (w:=⟨#[108,101,97,118,101]⟩) (on:=8) (has:=⟨#[115]⟩) (n:=false) (x:=false) (s:=true) (m:=false) (by kernel_rfl) (by kernel_rfl) (by kernel_rfl) (by kernel_rfl) (by kernel_rfl) (by kernel_rfl) (by kernel_rfl) (by kernel_rfl) (by kernel_rfl) (by kernel_rfl) (by decide) (by decide)
  ·exact fin (w:=⟨#[104,97,115]⟩) (on:=8) (has:=⟨#[115]⟩) (n:=false) (x:=false) (s:=true) (m:=false) (by kernel_rfl) (by kernel_rfl) (by kernel_rfl) (by kernel_rfl) (by kernel_rfl) (by kernel_rfl) (by kernel_rfl) (by kernel_rfl) (by kernel_rfl) (by kernel_rfl) (by decide) (by decide)
  ·exact fin (w:=⟨#[111,102,102,101,114]⟩) (on:=9) (has:=⟨#[120,115]⟩) (n:=false) (x:=true) (s:=true) (m:=false) (by kernel_rfl) (by kernel_rfl) (by kernel_rfl) (by kernel_rfl) (by kernel_rfl) (by kernel_rfl) (by kernel_rfl) (by kernel_rfl) (by kernel_rfl) (by kernel_rfl) (by decide) (by decide)
abbrev Zd0:=List Zh
def NS (l:Zd0):Prop:=l.Pairwise fun p q=>sLt p.Name q.Name=true
def pre (f:Zh → Bool):Zd0 → Nat
 | []=>0
 | e :: r=>if f e then pre f r + 1 else 0
theorem Zrv (f:Zh → Bool):∀ l:Zd0,pre f l ≤ l.length
 | []=>Nat.le_refl _
 | e :: r=>by
  have:=Zrv f r
  simp only [pre]
  split <;> simp <;> omega
theorem Z5b {f:Zh → Bool}:∀ {l:Zd0} {k:Nat} (h:k < pre f l),∃ e,l[k]?=some e ∧ f e=true
 | [],k,h=>by simp [pre] at h
 | e :: r,k,h=>by
  simp only [pre] at h
  split at h
  ·rename_i hf
   cases k with
   | zero=>exact ⟨e,rfl,hf⟩
   | succ k=>exact Z5b (l:=r) (by omega)
  ·omega
theorem Zzz {f:Zh → Bool}:∀ {l:Zd0} {e:Zh},l[pre f l]?=some e → f e=false
 | [],e,h=>by simp [pre] at h
 | x :: r,e,h=>by
  simp only [pre] at h
  split at h
  ·exact Zzz (l:=r) (by simpa using h)
  ·rename_i hf
   simp at h;subst h;simpa using hf
theorem Zyk {s:ByteArray} {l:Zd0} (hs:NS l) {k:Nat} (hk:k < l.length):sLt (l[k]).Name s=decide (k < pre (fun e=>sLt e.Name s) l):=by
 by_cases h:k < pre (fun e=>sLt e.Name s) l
 ·obtain ⟨e,he,hf⟩:=Z5b h
  rw [List.getElem?_eq_getElem hk] at he
  obtain rfl:=Option.some.inj he
  simp only [h,decide_true];exact hf
 ·simp only [h,decide_false]
  have hp:pre (fun e=>sLt e.Name s) l < l.length:=by omega
  have h1:=Zzz (List.getElem?_eq_getElem hp)
  rcases Nat.lt_or_eq_of_le (Nat.le_of_not_lt h) with hlt | heq
  ·have h2:=List.pairwise_iff_getElem.1 hs _ _ hp hk hlt
   cases h3:sLt (l[k]).Name s
   ·rfl
   ·rw [Zhc h2 h3] at h1;cases h1
  ·have:l[k]=l[pre (fun e=>sLt e.Name s) l]:=by congr 1;exact heq.symm
   rw [this];exact h1
theorem half {i j:Nat} (h:i + j < 4611686018427387904):IntKind.i64.wrap (Int.fdiv (IntKind.u64.wrap (IntKind.i64.wrap ((i:Int) + (j:Int)))) (2 ^ 1))=(((i + j) / 2:Nat):Int):=by
 rw [wr (x:=(i:Int) + j) (by omega) (by omega),wru (by omega) (by omega)]
 have:Int.fdiv ((i:Int) + j) (2 ^ 1)=(((i + j) / 2:Nat):Int):=by
  rw [Int.fdiv_eq_ediv_of_nonneg _ (by decide)];omega
 rw [this,wr (by omega) (by omega)]
theorem Zbeg (e:Zh) (s:ByteArray):∃ c:Int,Zlf e s=some c ∧ decide (c < 0)=sLt e.Name s ∧ (c == 0)=sEq e.Name s:=by
 unfold Zlf
 by_cases h:sLt e.Name s=true
 ·exact ⟨-1,by rw [if_pos h],by rw [h];rfl,by rw [Zff.2 (Zpu h)];rfl⟩
 ·have h':sLt e.Name s=false:=by simpa using h
  by_cases h2:e.Name=s
  ·exact ⟨0,by rw [if_neg h,h',Zj2.2 h2];rfl,by rw [h'];rfl,by rw [Zj2.2 h2];rfl⟩
  ·exact ⟨1,by rw [if_neg h,h',Zff.2 h2];rfl,by rw [h'];rfl,by rw [Zff.2 h2];rfl⟩
theorem Z02 {l:Zd0} {s:ByteArray} (hs:NS l) (hl:l.length < 2305843009213693952):∀ (n i j:Nat),j - i < n → i ≤ pre (fun e=>sLt e.Name s) l → pre (fun e=>sLt e.Name s) l ≤ j → j ≤ l.length →
  Zbv l s (fun y0 y1=>Zlf y0 y1) n (i:Int) (j:Int)=some ((pre (fun e=>sLt e.Name s) l:Nat):Int)
 | 0,i,j,h,_,_,_=>by omega
 | n + 1,i,j,h,h1,h2,h3=>by
  rw [Zbv]
  by_cases hij:i < j
  ·rw [if_pos (by simpa using hij),half (by omega)]
   have hm:(i + j) / 2 < l.length:=by omega
   rw [Zc3 hm]
   obtain ⟨c,hc,hc1,_⟩:=Zbeg l[(i + j) / 2] s
   simp only [Option.bind_some,hc]
   rw [hc1,Zyk hs hm]
   unfold Zcq
   by_cases hp:(i + j) / 2 < pre (fun e=>sLt e.Name s) l
   ·rw [if_pos (by simpa using hp),wr1 (by omega)]
    exact Z02 hs hl n ((i + j) / 2 + 1) j (by omega) (by omega) h2 h3
   ·rw [if_neg (by simpa using hp)]
    exact Z02 hs hl n i ((i + j) / 2) (by omega) h1 (by omega) (by omega)
  ·rw [if_neg (by simpa using hij)]
   congr 2;omega
def isAt (s:ByteArray) (l:Zd0):Bool:=match l[pre (fun e=>sLt e.Name s) l]? with
 | some e=>sEq e.Name s
 | none=>false
theorem Ztb {l:Zd0} {s:ByteArray} (hs:NS l) (hl:l.length < 2305843009213693952):Znq l s=some (((pre (fun e=>sLt e.Name s) l:Nat):Int),isAt s l):=by
 unfold Znq Zde
 have:=Z02 (s:=s) hs hl (l.length + 1) 0 l.length (by omega) (Nat.zero_le _) (Zrv _ _) (Nat.le_refl _)
 rw [show ((0:Nat):Int)=0 from rfl] at this
 rw [show (Int.toNat ((l.length:Int) - (0:Int)) + 1)=l.length + 1 by omega,this]
 simp only [Option.bind_some]
 unfold isAt
 by_cases hp:pre (fun e=>sLt e.Name s) l < l.length
 ·have hd:decide (((pre (fun e=>sLt e.Name s) l:Nat):Int) < (l.length:Int))=true:=by simpa using hp
  rw [hd,Zc3 hp,List.getElem?_eq_getElem hp]
  obtain ⟨c,hc,_,hc2⟩:=Zbeg l[pre (fun e=>sLt e.Name s) l] s
  simp only [gd_t,Option.bind_some,hc,Bool.true_and,hc2]
 ·have hd:decide (((pre (fun e=>sLt e.Name s) l:Nat):Int) < (l.length:Int))=false:=by simpa using hp
  rw [hd,List.getElem?_eq_none (by omega)]
  rfl
def goL (f g:Zh → Bool) (x:Zh):Zd0 → Bool → Zd0 × Bool
 | [],d=>([],d)
 | e :: r,d=>if (!d && !f e)=true then ((if g e then [] else [x]) ++ e :: (goL f g x r true).1,(goL f g x r true).2) else (e :: (goL f g x r d).1,(goL f g x r d).2)
theorem Zben (f g:Zh → Bool) (x:Zh):∀ l:Zd0,goL f g x l true=(l,true)
 | []=>rfl
 | e :: r=>by simp [goL,Zben f g x r]
theorem Zbet (f g:Zh → Bool) (x:Zh):∀ l:Zd0,goL f g x l false=match l[pre f l]? with
  | some e=>(l.take (pre f l) ++ (if g e then [] else [x]) ++ l.drop (pre f l),true)
  | none=>(l,false)
 | []=>rfl
 | e :: r=>by
  simp only [goL,pre]
  by_cases hf:f e=true
  ·simp only [hf,Bool.not_true,Bool.and_false,Bool.false_eq_true,if_false,if_true]
   rw [Zbet f g x r]
   simp only [List.getElem?_cons_succ]
   cases r[pre f r]? <;> simp
  ·have hf':f e=false:=by simpa using hf
   simp only [hf',Bool.not_false,Bool.and_self,if_true,Bool.false_eq_true,if_false,Zben,List.getElem?_cons_zero,List.take_zero,List.nil_append,List.drop_zero]
def Zef (x:Zh) (nm:Bool) (e:Zh):Bool:=if nm then sLt e.Name x.Name else Zdt e x
def Zoq (x:Zh) (nm:Bool) (e:Zh):Bool:=sEq e.Name x.Name && (nm || decide (keyf e.Score=keyf x.Score))
theorem Z93 {l:Zd0} {x:Zh} {nm:Bool} (hx:x.Score < W64) (hsc:∀ e ∈ l,e.Score < W64) {n i:Nat} {out:Zd0} {d:Bool} (h1:i < l.length) :
  Zdk l x nm (n + 1) out d (i:Int)=(if (!d && !Zef x nm l[i])=true then (if (!Zoq x nm l[i])=true then (if (out.length + ([x]:List Zh).length) * 24 ≤ 140737488355328 then Zf4 l (i:Int) (Zdk l x nm n) (out ++ [x]) true else none) else Zf4 l (i:Int) (Zdk l x nm n) out true) else Zf4 l (i:Int) (Zdk l x nm n) out d):=by
 have hm:=hsc _ (List.getElem_mem h1)
 have ha:Zgs l[i] x=some (Zdt l[i] x):=Z5u hm hx
 have hs:Zdy l[i].Score x.Score=some (decide (keyf l[i].Score=keyf x.Score)):=Zot hm hx
 rw [Zdk,if_pos (by simp;omega),Zc3 h1]
 cases nm
 ·simp only [Bool.not_false,gd_t,Option.bind_some,Bool.true_and,ha,Bool.and_false,gd_f,Bool.false_and,Bool.or_false,Bool.and_true,Bool.false_or,Zef,Zoq,Bool.false_eq_true,if_false]
  cases hq:sEq l[i].Name x.Name
  ·simp only [gd_f,Option.bind_some,Bool.false_and]
  ·simp only [gd_t,Option.bind_some,Bool.true_and,hs]
 ·simp only [Bool.not_true,gd_f,Option.bind_some,Bool.false_and,Bool.not_false,Bool.true_and,gd_t,Bool.false_or,Bool.true_or,Bool.and_false,Bool.and_true,Zef,Zoq,if_true]
theorem Zsc {l:Zd0} {x:Zh} {nm:Bool} (hx:x.Score < W64) (hsc:∀ e ∈ l,e.Score < W64) (hl:l.length < 1000000):∀ (n i:Nat) (out:Zd0) (d:Bool),i + n=l.length → out.length + (if d=true then 0 else 1) ≤ i + 1 →
  Zdk l x nm (n + 1) out d (i:Int)=some (out ++ (goL (Zef x nm) (Zoq x nm) x (l.drop i) d).1,(goL (Zef x nm) (Zoq x nm) x (l.drop i) d).2)
 | 0,i,out,d,h,_=>by
  rw [Zdk,if_neg (by simp;omega),List.drop_of_length_le (by omega)]
  simp [goL]
 | n + 1,i,out,d,h,ho=>by
  have h1:i < l.length:=by omega
  rw [Z93 hx hsc h1,List.drop_eq_getElem_cons h1]
  simp only [Zf4,Zc3 h1,wr1 (show i < 9223372036854775807 by omega),Option.bind_some,goL]
  by_cases hc:(!d && !Zef x nm l[i])=true
  ·rw [if_pos hc,if_pos hc]
   have hd:d=false:=by cases d <;> simp_all
   subst hd
   simp only [Bool.false_eq_true,if_false] at ho
   by_cases hs:(!Zoq x nm l[i])=true
   ·rw [if_pos hs,if_pos (by simp;omega),if_pos (by simp;omega),Zsc hx hsc hl n (i + 1) _ true (by omega) (by simp;omega)]
    have:Zoq x nm l[i]=false:=by simpa using hs
    simp [this]
   ·rw [if_neg hs,if_pos (by simp;omega),Zsc hx hsc hl n (i + 1) _ true (by omega) (by simp;omega)]
    have:Zoq x nm l[i]=true:=by simpa using hs
    simp [this]
  ·rw [if_neg hc,if_neg hc,if_pos (by simp;omega),Zsc hx hsc hl n (i + 1) _ d (by omega) (by simp;omega)]
   simp
def layL (x:Zh) (nm:Bool) (l:Zd0):Zd0:=match l[pre (Zef x nm) l]? with
 | some e=>l.take (pre (Zef x nm) l) ++ (if Zoq x nm e then [] else [x]) ++ l.drop (pre (Zef x nm) l)
 | none=>l ++ [x]
theorem Z72 {l:Zd0} {x:Zh} {nm:Bool} (hx:x.Score < W64) (hsc:∀ e ∈ l,e.Score < W64) (hl:l.length < 1000000):Zij l x nm=some (layL x nm l):=by
 unfold Zij
 have:=Zsc (nm:=nm) hx hsc hl l.length 0 [] false (by omega) (by simp)
 rw [show ((0:Nat):Int)=0 from rfl] at this
 rw [show (Int.toNat ((l.length:Int) - (0:Int)) + 1)=l.length + 1 by omega,this]
 simp only [Option.bind_some,List.nil_append,List.drop_zero]
 rw [Zbet]
 unfold layL
 cases h:l[pre (Zef x nm) l]? with
 | none =>
  simp only [Bool.not_false,if_true,Zkk]
  rw [if_pos (by simp;omega)]
 | some e=>simp only [Bool.not_true,Bool.false_eq_true,if_false,Zkk]
theorem Z33 {l:Zd0} {s:ByteArray} (hl:l.length < 1000000):∀ (n i:Nat),i + n=l.length → Zix l s (n + 1) (i:Int)=some (cond ((l.drop i).any (fun e=>sEq e.Name s)) (.inl true) (.inr ()))
 | 0,i,h=>by
  rw [Zix,if_neg (by simp;omega),List.drop_of_length_le (by omega)];rfl
 | n + 1,i,h=>by
  have h1:i < l.length:=by omega
  rw [Zix,if_pos (by simp;omega),Zc3 h1,List.drop_eq_getElem_cons h1,List.any_cons]
  simp only [Option.bind_some]
  by_cases hq:sEq l[i].Name s=true
  ·rw [if_pos hq,hq];rfl
  ·have hq':sEq l[i].Name s=false:=by simpa using hq
   rw [if_neg hq,wr1 (by omega),Z33 hl n (i + 1) (by omega),hq',Bool.false_or]
theorem Z9w {l:Zd0} {s:ByteArray} (hl:l.length < 1000000):Zi5 l s=some (l.any (fun e=>sEq e.Name s)):=by
 unfold Zi5
 have:=Z33 (s:=s) hl l.length 0 (by omega)
 rw [show ((0:Nat):Int)=0 from rfl] at this
 rw [show (Int.toNat ((l.length:Int) - (0:Int)) + 1)=l.length + 1 by omega,this]
 simp only [List.drop_zero]
 cases h:l.any (fun e=>sEq e.Name s) <;> rfl
theorem Zsi {a0:Zb} {a:Zs} (hl:a0.List.length < 1000000):∀ (n i:Nat) (out:Zd0),i + n=a0.List.length → out.length ≤ i → Zfz a0 a (n + 1) out (i:Int)=some (out ++ (a0.List.drop i).filter (fun e=>!sEq e.Name a.S))
 | 0,i,out,h,_=>by
  rw [Zfz,if_neg (by simp;omega),List.drop_of_length_le (by omega)];simp
 | n + 1,i,out,h,ho=>by
  have h1:i < a0.List.length:=by omega
  rw [Zfz,if_pos (by simp;omega),Zc3 h1,List.drop_eq_getElem_cons h1]
  simp only [Option.bind_some,Zog,wr1 (show i < 9223372036854775807 by omega)]
  rw [List.filter_cons]
  by_cases hq:(!sEq a0.List[i].Name a.S)=true
  ·rw [if_pos hq,if_pos hq,if_pos (by simp;omega),Zsi hl n (i + 1) _ (by omega) (by simp;omega),List.append_assoc];rfl
  ·rw [if_neg hq,if_neg hq,Zsi hl n (i + 1) _ (by omega) (by omega)]
theorem Zxl {l:Zd0} {s:ByteArray} (hs:NS l):(∀ e ∈ l.take (pre (fun e=>sLt e.Name s) l),sEq e.Name s=false) ∧ (∀ e ∈ l.drop (pre (fun e=>sLt e.Name s) l + 1),sEq e.Name s=false):=by
 constructor
 ·intro e he
  obtain ⟨k,hk,rfl⟩:=List.getElem_of_mem he
  rw [List.length_take] at hk
  rw [List.getElem_take]
  have:=Zyk (s:=s) hs (k:=k) (by omega)
  rw [show decide (k < pre (fun e=>sLt e.Name s) l)=true by simp;omega] at this
  exact Zff.2 (Zpu this)
 ·intro e he
  obtain ⟨k,hk,rfl⟩:=List.getElem_of_mem he
  rw [List.length_drop] at hk
  rw [List.getElem_drop]
  refine Zff.2 fun h=>?_
  have hp:pre (fun e=>sLt e.Name s) l < l.length:=by omega
  have h1:=List.pairwise_iff_getElem.1 hs _ _ hp (show pre (fun e=>sLt e.Name s) l + 1 + k < l.length by omega) (by omega)
  rw [h] at h1
  have:=Zzz (List.getElem?_eq_getElem hp)
  rw [h1] at this;cases this
theorem Zya (l:Zd0) (k:Nat) (h:k < l.length):l=l.take k ++ l[k] :: l.drop (k + 1):=by
 rw [← List.drop_eq_getElem_cons h,List.take_append_drop]
theorem Zxt {l:Zd0} {s:ByteArray} (hs:NS l):l.any (fun e=>sEq e.Name s)=isAt s l:=by
 obtain ⟨h1,h2⟩:=Zxl (s:=s) hs
 unfold isAt
 by_cases hp:pre (fun e=>sLt e.Name s) l < l.length
 ·rw [List.getElem?_eq_getElem hp]
  conv=>lhs;rw [Zya l _ hp]
  have a1:(l.take (pre (fun e=>sLt e.Name s) l)).any (fun e=>sEq e.Name s)=false:=by
   rw [List.any_eq_false];intro e he;rw [h1 e he];decide
  have a2:(l.drop (pre (fun e=>sLt e.Name s) l + 1)).any (fun e=>sEq e.Name s)=false:=by
   rw [List.any_eq_false];intro e he;rw [h2 e he];decide
  rw [List.any_append,List.any_cons,a1,a2];simp
 ·rw [List.getElem?_eq_none (by omega)]
  have:l.take (pre (fun e=>sLt e.Name s) l)=l:=List.take_of_length_le (by omega)
  rw [this] at h1
  rw [List.any_eq_false];intro e he;rw [h1 e he];decide
theorem Zbau {l:Zd0} {s:ByteArray} (hs:NS l):l.filter (fun e=>!sEq e.Name s)=if isAt s l=true then l.take (pre (fun e=>sLt e.Name s) l) ++ l.drop (pre (fun e=>sLt e.Name s) l + 1) else l:=by
 obtain ⟨h1,h2⟩:=Zxl (s:=s) hs
 unfold isAt
 by_cases hp:pre (fun e=>sLt e.Name s) l < l.length
 ·rw [List.getElem?_eq_getElem hp]
  conv=>lhs;rw [Zya l _ hp]
  have a1:(l.take (pre (fun e=>sLt e.Name s) l)).filter (fun e=>!sEq e.Name s)=l.take (pre (fun e=>sLt e.Name s) l):=List.filter_eq_self.2 fun e he=>by rw [h1 e he];rfl
  have a2:(l.drop (pre (fun e=>sLt e.Name s) l + 1)).filter (fun e=>!sEq e.Name s)=l.drop (pre (fun e=>sLt e.Name s) l + 1):=List.filter_eq_self.2 fun e he=>by rw [h2 e he];rfl
  rw [List.filter_append,List.filter_cons,a1,a2]
  by_cases hq:sEq (l[pre (fun e=>sLt e.Name s) l]).Name s=true
  ·rw [if_pos hq,if_neg (by rw [hq];decide)]
  ·rw [if_neg hq,if_pos (by simpa using hq)]
   exact (Zya l _ hp).symm
 ·rw [List.getElem?_eq_none (by omega)]
  have:l.take (pre (fun e=>sLt e.Name s) l)=l:=List.take_of_length_le (by omega)
  rw [this] at h1
  rw [if_neg (by simp)]
  exact List.filter_eq_self.2 fun e he=>by rw [h1 e he];rfl
theorem Zban {l:Zd0} {s:ByteArray}:layL { Score:=0,Name:=s } true l=if isAt s l=true then l else l.take (pre (fun e=>sLt e.Name s) l) ++ [{ Score:=0,Name:=s }] ++ l.drop (pre (fun e=>sLt e.Name s) l):=by
 have hf:Zef { Score:=0,Name:=s } true=fun e=>sLt e.Name s:=rfl
 unfold layL isAt
 rw [hf]
 cases h:l[pre (fun e=>sLt e.Name s) l]? with
 | none =>
  have hp:=List.getElem?_eq_none_iff.1 h
  rw [if_neg (by simp),List.take_of_length_le hp,List.drop_of_length_le hp,List.append_nil]
 | some e =>
  simp only [Zoq,Bool.true_or,Bool.and_true]
  by_cases hq:sEq e.Name s=true
  ·rw [if_pos hq,if_pos hq,List.append_nil,List.take_append_drop]
  ·rw [if_neg hq,if_neg hq]
theorem Zs8 {l:Zd0} (h:l.length < 1000000):Zb9 l=some l:=by
 unfold Zb9
 rw [if_pos (by omega)]
theorem Zze {r:Zb} {a:Zs} (ha:a.X < W64) (hsc:∀ e ∈ r.List,e.Score < W64) (hl:r.List.length < 1000000):∀ (n i:Nat),i + n=r.List.length →
  Zg4 r a (n + 1) (i:Int)=some ((i + pre (Zef { Score:=a.X,Name:=a.S } false) (r.List.drop i):Nat):Int)
 | 0,i,h=>by
  have hd:decide ((i:Int) < (r.List.length:Int))=false:=by simp;omega
  rw [Zg4,hd,List.drop_of_length_le (by omega)]
  simp [gd,pre]
 | n + 1,i,h=>by
  have h1:i < r.List.length:=by omega
  have hd:decide ((i:Int) < (r.List.length:Int))=true:=by simp;omega
  rw [Zg4,hd,Zc3 h1,List.drop_eq_getElem_cons h1]
  simp only [gd_t,Option.bind_some,Bool.true_and]
  rw [Zsl (hsc _ (List.getElem_mem h1)) ha]
  simp only [Option.bind_some,pre,Zef,Bool.false_eq_true,if_false,wr1 (show i < 9223372036854775807 by omega)]
  by_cases hb:Zdt r.List[i] { Score:=a.X,Name:=a.S }=true
  ·rw [if_pos hb,if_pos hb,Zze ha hsc hl n (i + 1) (by omega)]
   congr 2;omega
  ·rw [if_neg hb,if_neg hb];simp
theorem Z16 {r:Zb} {a:Zs} (ha:a.X < W64) (hsc:∀ e ∈ r.List,e.Score < W64) (hl:r.List.length < 1000000):Zg4 r a (Int.toNat ((r.List.length:Int) - (0:Int)) + 1) (0:Int)=some ((pre (Zef { Score:=a.X,Name:=a.S } false) r.List:Nat):Int):=by
 have:=Zze (a:=a) ha hsc hl r.List.length 0 (by omega)
 rw [show ((0:Nat):Int)=0 from rfl] at this
 rw [show (Int.toNat ((r.List.length:Int) - (0:Int)) + 1)=r.List.length + 1 by omega,this]
 simp
theorem Z6a {e x:Zh} (h1:Zdt e x=false):(!Zdt x e)=Zoq x false e:=by
 unfold Zdt Zoq at *
 by_cases hk:keyf e.Score=keyf x.Score
 ·rw [if_pos hk] at h1
  rw [if_pos hk.symm,hk]
  simp only [Bool.false_or,decide_true,Bool.and_true]
  by_cases hn:e.Name=x.Name
  ·rw [hn,Zo6,Zfj];rfl
  ·rw [Zp2 h1 hn,Zff.2 hn];rfl
 ·rw [if_neg hk] at h1
  rw [if_neg (fun h=>hk h.symm)]
  have:=of_decide_eq_false h1
  have h3:keyf e.Score < keyf x.Score:=by omega
  simp [h3,hk]
theorem Zxi {k:Int} {l:Zd0}:∀ (n i:Nat),Zkt k l i n=0 ↔ ∀ j,i ≤ j → j < i + n → Zis k l j=0
 | 0,i=>⟨fun _ j h1 h2=>by omega,fun _=>rfl⟩
 | n + 1,i=>by
  by_cases h:Zis k l i=0
  ·rw [Zx7 h,Zxi n (i + 1)]
   constructor
   ·intro hh j h1 h2
    by_cases e:j=i
    ·rw [e];exact h
    ·exact hh j (by omega) (by omega)
   ·intro hh j h1 h2;exact hh j (by omega) (by omega)
  ·rw [Zyj h]
   exact ⟨fun e=>absurd e h,fun hh=>absurd (hh i (Nat.le_refl _) (by omega)) h⟩
theorem Zxe {t n b r l:Bool} {a:Zb}:Zs9 t n b r l a=0 ↔ Zh5 t n b r l a=true ∧ a.Text.size ≤ 64 ∧ (b=true → -2305843009213693952 ≤ a.Low ∧ a.High ≤ 2305843009213693952 ∧ a.Low ≤ a.Num ∧ a.Num ≤ a.High) ∧ a.Real=Zcl a.Real ∧ (l=true → 1 ≤ a.Cap ∧ a.Cap ≤ 32 ∧ (a.List.length:Int) ≤ a.Cap ∧ ∀ i,i < a.List.length → Zis a.Kind a.List i=0):=by
 unfold Zs9
 by_cases h1:Zh5 t n b r l a=false
 ·rw [if_pos h1,h1];simp
 ·have h1':Zh5 t n b r l a=true:=by simpa using h1
  rw [if_neg h1,h1']
  by_cases h2:(64:Int) < a.Text.size
  ·rw [if_pos h2];exact ⟨fun h=>absurd h (by decide),fun h=>by omega⟩
  ·rw [if_neg h2]
   by_cases h3:b=true ∧ (a.Low < -2305843009213693952 ∨ 2305843009213693952 < a.High ∨ a.Num < a.Low ∨ a.High < a.Num)
   ·rw [if_pos h3];exact ⟨fun h=>absurd h (by decide),fun h=>by have:=h.2.2.1 h3.1;omega⟩
   ·rw [if_neg h3]
    by_cases h4:a.Real=Zcl a.Real
    ·rw [if_neg (fun h=>h h4)]
     cases l
     ·rw [if_pos rfl]
      refine ⟨fun _=>⟨rfl,by omega,fun hb=>?_,h4,fun h=>absurd h (by decide)⟩,fun _=>rfl⟩
      have:¬ (a.Low < -2305843009213693952 ∨ 2305843009213693952 < a.High ∨ a.Num < a.Low ∨ a.High < a.Num):=fun h=>h3 ⟨hb,h⟩
      omega
     ·rw [if_neg (by decide)]
      by_cases h5:a.Cap < 1 ∨ 32 < a.Cap
      ·rw [if_pos h5];exact ⟨fun h=>absurd h (by decide),fun h=>by have:=h.2.2.2.2 rfl;omega⟩
      ·rw [if_neg h5]
       by_cases h6:a.Cap < a.List.length
       ·rw [if_pos h6];exact ⟨fun h=>absurd h (by decide),fun h=>by have:=h.2.2.2.2 rfl;omega⟩
       ·rw [if_neg h6,Zxi]
        constructor
        ·intro h
         refine ⟨rfl,by omega,fun hb=>?_,h4,fun _=>⟨by omega,by omega,by omega,fun i hi=>h i (Nat.zero_le _) (by omega)⟩⟩
         have:¬ (a.Low < -2305843009213693952 ∨ 2305843009213693952 < a.High ∨ a.Num < a.Low ∨ a.High < a.Num):=fun h=>h3 ⟨hb,h⟩
         omega
        ·intro h j _ hj
         exact (h.2.2.2.2 rfl).2.2.2 j (by omega)
    ·rw [if_pos h4];exact ⟨fun h=>absurd h (by decide),fun h=>absurd h.2.2.2.1 h4⟩
def Zdh (a:Zb):Prop:=1 ≤ a.Kind ∧ a.Kind ≤ 9 ∧ Zh5 (decide (a.Kind=1)) (decide (2 ≤ a.Kind ∧ a.Kind ≤ 4)) (decide (a.Kind=4)) (decide (5 ≤ a.Kind ∧ a.Kind ≤ 7)) (decide (8 ≤ a.Kind)) a=true ∧ a.Text.size ≤ 64 ∧ (a.Kind=4 → -2305843009213693952 ≤ a.Low ∧ a.High ≤ 2305843009213693952 ∧ a.Low ≤ a.Num ∧ a.Num ≤ a.High) ∧ a.Real=Zcl a.Real ∧
 (8 ≤ a.Kind → 1 ≤ a.Cap ∧ a.Cap ≤ 32 ∧ (a.List.length:Int) ≤ a.Cap ∧ ∀ i,i < a.List.length → Zis a.Kind a.List i=0)
theorem Zmf {a:Zb} (ha:Zjq a):Zd5 a=some 0 ↔ Zdh a:=by
 by_cases hk:a.Kind ≤ 0 ∨ 10 ≤ a.Kind
 ·have:Zd5 a ≠ some 0:=by
   obtain ⟨c,hc,hc2⟩:=Zoc ha
   unfold Zd2 at hc2
   rw [if_pos (by simp;omega)] at hc2
   rw [hc,← hc2];decide
  exact ⟨fun h=>absurd h this,fun h=>by obtain ⟨h1,h2,_⟩:=h;omega⟩
 ·have fin:∀ {t n b r l:Bool},Zd3 a.Kind=some ⟨t,n,b,r,l⟩ → t=decide (a.Kind=1) → n=decide (2 ≤ a.Kind ∧ a.Kind ≤ 4) → b=decide (a.Kind=4) → r=decide (5 ≤ a.Kind ∧ a.Kind ≤ 7) → l=decide (8 ≤ a.Kind) → (Zd5 a=some 0 ↔ Zdh a):=by
   intro t n b r l hs h1 h2 h3 h4 h5
   rw [Zhk ha hk hs]
   constructor
   ·intro h
    obtain ⟨g1,g2,g3,g4,g5⟩:=Zxe.1 (Option.some.inj h)
    refine ⟨by omega,by omega,by rw [← h1,← h2,← h3,← h4,← h5];exact g1,g2,fun hk4=>g3 (by rw [h3];simpa using hk4),g4,fun hk8=>g5 (by rw [h5];simpa using hk8)⟩
   ·rintro ⟨_,_,g1,g2,g3,g4,g5⟩
    congr 1
    exact Zxe.2 ⟨by rw [h1,h2,h3,h4,h5];exact g1,g2,fun hb=>g3 (by rw [h3] at hb;simpa using hb),g4,fun hb=>g5 (by rw [h5] at hb;simpa using hb)⟩
  have hk':a.Kind=1 ∨ a.Kind=2 ∨ a.Kind=3 ∨ a.Kind=4 ∨ a.Kind=5 ∨ a.Kind=6 ∨ a.Kind=7 ∨ a.Kind=8 ∨ a.Kind=9:=by omega
  rcases hk' with h | h | h | h | h | h | h | h | h <;> rw [h] at fin
  ·exact fin Z3q rfl rfl rfl rfl rfl
  ·exact fin Z4y rfl rfl rfl rfl rfl
  ·exact fin Z5s rfl rfl rfl rfl rfl
  ·exact fin Z3r rfl rfl rfl rfl rfl
  ·exact fin Z42 rfl rfl rfl rfl rfl
  ·exact fin Z4f rfl rfl rfl rfl rfl
  ·exact fin Z4n rfl rfl rfl rfl rfl
  ·exact fin Z4s rfl rfl rfl rfl rfl
  ·exact fin Z5g rfl rfl rfl rfl rfl
theorem Zrh {a:Zb} (h:Zdh a) (hk:a.Kind=8):NS a.List:=by
 obtain ⟨_,_,_,_,_,_,h8⟩:=h
 obtain ⟨_,_,_,hi⟩:=h8 (by omega)
 have step:∀ i,i + 1 < a.List.length → sLt ((a.List[i]?).getD default).Name ((a.List[i + 1]?).getD default).Name=true:=by
  intro i hi1
  have:=hi (i + 1) hi1
  unfold Zis at this
  rw [List.getElem?_eq_getElem hi1] at this
  simp only [Nat.add_sub_cancel] at this
  split at this
  ·cases this
  ·split at this
   ·cases this
   ·split at this
    ·cases this
    ·rename_i h3
     rw [List.getElem?_eq_getElem hi1]
     cases hq:sLt ((a.List[i]?).getD default).Name a.List[i + 1].Name
     ·exact absurd ⟨by omega,hk,hq⟩ h3
     ·exact hq
 have far:∀ d i,i + d + 1 < a.List.length → sLt ((a.List[i]?).getD default).Name ((a.List[i + d + 1]?).getD default).Name=true:=by
  intro d
  induction d with
  | zero=>intro i h;exact step i h
  | succ d ih=>intro i h;exact Zhc (ih i (by omega)) (step (i + d + 1) (by omega))
 refine List.pairwise_iff_getElem.2 fun i j hi hj hij=>?_
 have:=far (j - i - 1) i (by omega)
 rw [show i + (j - i - 1) + 1=j by omega,List.getElem?_eq_getElem hi,List.getElem?_eq_getElem hj] at this
 exact this
theorem Z0b {neg:Bool} {r:Nat} (h:r ≤ Ieee.double.infRung):Ieee.double.word neg r < W64:=by
 have h1:Ieee.double.infRung=9218868437227405312:=by decide
 have h2:Ieee.double.signWeight=9223372036854775808:=by decide
 unfold Ieee.Format.word
 rw [h1] at h
 show _ < 18446744073709551616
 split
 ·rw [h2];omega
 ·omega
theorem Z78 (neg:Bool) (mag:Nat) (place:Int):Ieee.double.nearest neg mag place < W64:=by
 unfold Ieee.Format.nearest
 split
 ·exact Z0b (Nat.zero_le _)
 ·exact Z0b (Nat.min_le_right _ _)
theorem Z5x {d:Ieee.Datum} (h:∀ n f,d ≠ .nan n f):Ieee.double.write d < W64:=by
 cases d with
 | number n m p=>exact Z78 n m p
 | infinity n=>exact Z0b (Nat.le_refl _)
 | nan n f=>exact absurd rfl (h n f)
theorem Zbe4 {x y d:Ieee.Datum} (h:x.sum y=some d):∀ n f,d ≠ .nan n f:=by
 intro n f e
 subst e
 cases x <;> cases y <;> simp [Ieee.Datum.sum] at h
theorem Z6j {x y d:Ieee.Datum} (h:x.product y=some d):∀ n f,d ≠ .nan n f:=by
 intro n f e
 subst e
 cases x <;> cases y <;> simp [Ieee.Datum.product] at h
theorem Z7w (m n:Nat):fadd m n < W64:=by
 unfold fadd Ieee.Format.add
 cases h:(Ieee.double.read m).sum (Ieee.double.read n) with
 | none=>exact (by decide:9221120237041090561 < W64)
 | some d=>simpa using Z5x (Zbe4 h)
theorem Z7a (m n:Nat):fmul m n < W64:=by
 unfold fmul Ieee.Format.mul
 cases h:(Ieee.double.read m).product (Ieee.double.read n) with
 | none=>exact (by decide:9221120237041090561 < W64)
 | some d=>simpa using Z5x (Z6j h)
theorem Zvc {z:Nat} (hz:z < W64):∃ p,Zlm z=some p ∧ Zhd p=some (Zcl z):=by
 have hz':z < 18446744073709551616:=hz
 unfold Zlm Zhd Zcl NANB
 rw [Ztx hz]
 simp only [Option.bind_some]
 by_cases hn:isn z
 ·refine ⟨18444492273895866369,by simp [hn];decide,?_⟩
  rw [if_pos (by decide),if_pos hn];decide
 ·simp only [hn,decide_false,Bool.false_eq_true,if_false]
  by_cases ht:(9223372036854775808:Int) ≤ z
  ·rw [if_pos (by simpa using ht)]
   refine ⟨_,rfl,?_⟩
   rw [wru (x:=(9223372036854775808:Int) - 1) (by decide) (by decide),wru (x:=(z:Int) - 9223372036854775808) (by omega) (by omega),wru (by omega) (by omega)]
   rw [if_neg (by simp;omega)]
   rw [wru (x:=(9223372036854775808:Int) - 1 - _) (by omega) (by omega),wru (by omega) (by omega)]
   congr 1;omega
  ·rw [if_neg (by simpa using ht)]
   refine ⟨_,rfl,?_⟩
   rw [wru (by omega) (by omega),if_pos (by simp;omega),wru (by omega) (by omega)]
   congr 1;omega
theorem Zxn {z:Nat}:Zcl (Zcl z)=Zcl z:=by
 unfold Zcl
 by_cases h:isn z
 ·rw [if_pos h,if_pos (show isn NANB by unfold isn rg INF NANB TOP;decide)]
 ·rw [if_neg h,if_neg h]
theorem Z4z {a b:Nat} (ha:a < W64) (hb:b < W64) (ca:a=Zcl a) (cb:b=Zcl b):∃ m,Zn1 a b=some m ∧ Zpt a b=some m ∧ (m=a ∨ m=b):=by
 unfold Zn1 Zpt
 rw [Z0x ha hb,Zr4 ha hb,Zli ha,Zli hb,← ca,← cb]
 by_cases h:keyf a < keyf b
 ·exact ⟨b,by simp [h],by simp [h],.inr rfl⟩
 ·exact ⟨a,by simp [h],by simp [h],.inl rfl⟩
theorem Z4b {a b:Nat} (ha:a < W64) (hb:b < W64) (ca:a=Zcl a) (cb:b=Zcl b):∃ m,Zob a b=some m ∧ Zpp a b=some m ∧ (m=a ∨ m=b):=by
 unfold Zob Zpp
 rw [Z0x hb ha,Zr4 hb ha,Zli ha,Zli hb,← ca,← cb]
 by_cases h:keyf b < keyf a
 ·exact ⟨b,by simp [h],by simp [h],.inr rfl⟩
 ·exact ⟨a,by simp [h],by simp [h],.inl rfl⟩
def I64 (x:Int):Prop:=-9223372036854775808 ≤ x ∧ x ≤ 9223372036854775807
structure RecW (r:Zb):Prop where
 ok:Zjq r
 num:I64 r.Num
 low:I64 r.Low
 high:I64 r.High
 kind:I64 r.Kind
 len:r.List.length ≤ 1000
structure ActW (a:Zs):Prop where
 ok:Zzd a
 n:I64 a.N
 mkr:RecW a.Make
 xc:a.X=Zcl a.X
 inout:(a.Kind=10 ∨ a.Kind=11) → 0 ≤ a.N ∧ a.N ≤ 2305843009213693952
 s64:a.S.size ≤ 64
 s16:¬ (5 ≤ a.Kind ∧ a.Kind ≤ 6) → a.S.size ≤ 16
abbrev ans (c:Int):Zj:={ Code:=c,Num:=0,Rec:=default }
def Chg (r:Zb) (a:Zs):Prop:=∃ c r' o,Zbs a.Kind r a (default:Zj)=some (c,r',o) ∧ Zb8 r a=some (if c=0 then (r',o) else (r,ans c)) ∧ RecW r' ∧ RecW o.Rec ∧ (c=0 → o.Code=0 ∧ o.Num=0)
theorem Zt3 (x:Int):I64 (IntKind.i64.wrap x):=by unfold I64;rw [IntKind.wrap_i64];omega
theorem Zdz:RecW (default:Zb):=⟨⟨by decide,by decide,fun e he=>by cases he⟩,by unfold I64;decide,by unfold I64;decide,by unfold I64;decide,by unfold I64;decide,by decide⟩
theorem RecW.withNum {r:Zb} (h:RecW r) {x:Int} (hx:I64 x):RecW { r with Num:=x }:=⟨⟨h.ok.real,h.ok.len,h.ok.sc⟩,hx,h.low,h.high,h.kind,h.len⟩
theorem RecW.withText {r:Zb} (h:RecW r) (t:ByteArray):RecW { r with Text:=t }:=⟨⟨h.ok.real,h.ok.len,h.ok.sc⟩,h.num,h.low,h.high,h.kind,h.len⟩
theorem RecW.withReal {r:Zb} (h:RecW r) {x:Nat} (hx:x < W64):RecW { r with Real:=x }:=⟨⟨hx,h.ok.len,h.ok.sc⟩,h.num,h.low,h.high,h.kind,h.len⟩
theorem RecW.withList {r:Zb} (h:RecW r) {l:Zd0} (h1:l.length ≤ 1000) (h2:∀ e ∈ l,e.Score < W64):RecW { r with List:=l }:=⟨⟨h.ok.real,by show l.length < _;omega,h2⟩,h.num,h.low,h.high,h.kind,h1⟩
theorem Zl1 {r:Zb} (h:r.List.length ≤ 1000):Zf0 r=some r:=by
 unfold Zf0 Zb9
 rw [if_pos (by omega)];rfl
theorem Zso {r:Zb} (h:r.List.length ≤ 1000):Zhg r=some r:=by
 unfold Zhg
 rw [if_pos (by simp;omega)];rfl
variable {r:Zb} {a:Zs}
theorem Zbfr (h:a.Kind=5) (hr:RecW r):Chg r a:=by
 refine ⟨0,{ r with Text:=a.S },ans 0,?_,?_,hr.withText _,Zdz,fun _=>⟨rfl,rfl⟩⟩
 ·rw [h];rfl
 ·unfold Zb8;rw [h];rfl
theorem Zbce (h:a.Kind=6) (hr:RecW r):Chg r a:=by
 refine ⟨0,{ r with Text:=a.S },{ ans 0 with Rec:=r },?_,?_,hr.withText _,hr,fun _=>⟨rfl,rfl⟩⟩
 ·rw [h]
  show Zir r a default=_
  unfold Zir
  rw [Zl1 hr.len];rfl
 ·unfold Zb8;rw [h,Zso hr.len];rfl
theorem Zbe2 (h:a.Kind=7) (hr:RecW r):Chg r a:=by
 refine ⟨0,{ r with Num:=IntKind.i64.wrap (r.Num + a.N) },ans 0,?_,?_,hr.withNum (Zt3 _),Zdz,fun _=>⟨rfl,rfl⟩⟩
 ·rw [h];rfl
 ·unfold Zb8;rw [h];rfl
theorem Zbbc (hr:I64 r.Num) (hn:I64 a.N):(((decide ((0:Int) < a.N)) && (decide ((IntKind.i64.wrap ((9223372036854775807:Int) - a.N)) < r.Num))) || ((decide (a.N < (0:Int))) && (decide (r.Num < (IntKind.i64.wrap ((-9223372036854775808:Int) - a.N)))))) =
  ((((decide ((0:Int) < r.Num)) && (decide ((0:Int) < a.N))) && (decide ((IntKind.i64.wrap (r.Num + a.N)) < (0:Int)))) || (((decide (r.Num < (0:Int))) && (decide (a.N < (0:Int)))) && (decide ((0:Int) ≤ (IntKind.i64.wrap (r.Num + a.N)))))):=by
 unfold I64 at hr hn
 rw [Bool.eq_iff_iff]
 simp only [Bool.or_eq_true,Bool.and_eq_true,decide_eq_true_eq,IntKind.wrap_i64]
 omega
theorem Zbcs (h:a.Kind=8) (hr:RecW r) (ha:ActW a):Chg r a:=by
 have e1:Zbs a.Kind r a default=Znf r a default:=by rw [h];rfl
 have e2:Zb8 r a=(Zoy r.Num a.N).bind fun r7=>(if r7 then (Zbc r (ans 9)) else (Zbc { r with Num:=IntKind.i64.wrap (r.Num + a.N) } (ans 0))):=by unfold Zb8;rw [h];rfl
 have hp:=Zbbc hr.num ha.n
 unfold Chg
 rw [e1,e2]
 unfold Znf Zoy Zbc
 rw [hp]
 simp only [Option.bind_some]
 split
 ·exact ⟨9,r,_,rfl,rfl,hr,Zdz,fun h=>by cases h⟩
 ·exact ⟨0,_,_,rfl,rfl,hr.withNum (Zt3 _),Zdz,fun _=>⟨rfl,rfl⟩⟩
theorem Z1c (h:a.Kind=9 ∨ a.Kind=12) (hr:RecW r):Chg r a:=by
 have e1:Zbs a.Kind r a default=Zg3 r a default:=by rcases h with h | h <;> rw [h] <;> rfl
 have e2:Zb8 r a=(if (decide (r.Num < a.N)) then (Zbc r (ans 11)) else (Zbc r (ans 0))):=by rcases h with h | h <;> unfold Zb8 Zc0 <;> rw [h] <;> rfl
 unfold Chg
 rw [e1,e2]
 unfold Zg3 Zbc
 split
 ·exact ⟨11,r,_,rfl,rfl,hr,Zdz,fun h=>by cases h⟩
 ·exact ⟨0,r,_,rfl,rfl,hr,Zdz,fun _=>⟨rfl,rfl⟩⟩
theorem Z26 (hg:Zdh r) (hk:r.Kind=4):-2305843009213693952 ≤ r.Low ∧ r.High ≤ 2305843009213693952 ∧ r.Low ≤ r.Num ∧ r.Num ≤ r.High:=hg.2.2.2.2.1 hk
theorem Zbih (h:a.Kind=10) (hr:RecW r) (hg:Zdh r) (hk:r.Kind=4) (ha:ActW a):Chg r a:=by
 have e1:Zbs a.Kind r a default=Zie r a default:=by rw [h];rfl
 have e2:Zb8 r a=(if (decide (r.High < IntKind.i64.wrap (r.Num + a.N))) then (Zbc r (ans 9)) else (Zbc { r with Num:=IntKind.i64.wrap (r.Num + a.N) } (ans 0))):=by unfold Zb8 Zc0;rw [h];rfl
 obtain ⟨p1,p2,p3,p4⟩:=Z26 hg hk
 obtain ⟨n1,n2⟩:=ha.inout (.inl h)
 have hd:decide (IntKind.i64.wrap (r.High - r.Num) < a.N)=decide (r.High < IntKind.i64.wrap (r.Num + a.N)):=by
  rw [wr (x:=r.High - r.Num) (by omega) (by omega),wr (x:=r.Num + a.N) (by omega) (by omega)]
  apply decide_eq_decide.2;omega
 unfold Chg
 rw [e1,e2]
 unfold Zie Zbc
 rw [hd]
 split
 ·exact ⟨9,r,_,rfl,rfl,hr,Zdz,fun h=>by cases h⟩
 ·exact ⟨0,_,_,rfl,rfl,hr.withNum (Zt3 _),Zdz,fun _=>⟨rfl,rfl⟩⟩
theorem Zbfc (h:a.Kind=11) (hr:RecW r) (hg:Zdh r) (hk:r.Kind=4) (ha:ActW a):Chg r a:=by
 have e1:Zbs a.Kind r a default=Zic r a default:=by rw [h];rfl
 have e2:Zb8 r a=(if (decide (IntKind.i64.wrap (r.Num - a.N) < r.Low)) then (Zbc r (ans 10)) else (Zbc { r with Num:=IntKind.i64.wrap (r.Num - a.N) } (ans 0))):=by unfold Zb8 Zc0;rw [h];rfl
 obtain ⟨p1,p2,p3,p4⟩:=Z26 hg hk
 obtain ⟨n1,n2⟩:=ha.inout (.inr h)
 have hd:decide (IntKind.i64.wrap (r.Num - r.Low) < a.N)=decide (IntKind.i64.wrap (r.Num - a.N) < r.Low):=by
  rw [wr (x:=r.Num - r.Low) (by omega) (by omega),wr (x:=r.Num - a.N) (by omega) (by omega)]
  apply decide_eq_decide.2;omega
 unfold Chg
 rw [e1,e2]
 unfold Zic Zbc
 rw [hd]
 split
 ·exact ⟨10,r,_,rfl,rfl,hr,Zdz,fun h=>by cases h⟩
 ·exact ⟨0,_,_,rfl,rfl,hr.withNum (Zt3 _),Zdz,fun _=>⟨rfl,rfl⟩⟩
theorem Zrx {m:Nat} {ψ:Nat → Nat → Option Nat} (h:Zbs a.Kind r a default=Zfb ψ r a default) (h1:ψ r.Real a.X=some m) (hm:m < W64) (h2:Zb8 r a=some ({ r with Real:=m },ans 0)) (hr:RecW r):Chg r a:=by
 refine ⟨0,{ r with Real:=m },ans 0,?_,h2,hr.withReal hm,Zdz,fun _=>⟨rfl,rfl⟩⟩
 rw [h]
 unfold Zfb
 rw [h1];rfl
theorem Zq4 (hg:Zdh r):r.Real=Zcl r.Real:=hg.2.2.2.2.2.1
theorem Zbbd (h:a.Kind=13) (hr:RecW r) (hg:Zdh r) (ha:ActW a):Chg r a:=by
 obtain ⟨m,m1,m2,m3⟩:=Z4z hr.ok.real ha.ok.2 (Zq4 hg) ha.xc
 refine Zrx (m:=m) (ψ:=fun x y=>Zn1 x y) (by rw [h];rfl) m1 (by rcases m3 with rfl | rfl;exact hr.ok.real;exact ha.ok.2) ?_ hr
 unfold Zb8 Zc0;rw [h,m2];rfl
theorem Z9t (h:a.Kind=14) (hr:RecW r) (hg:Zdh r) (ha:ActW a):Chg r a:=by
 obtain ⟨m,m1,m2,m3⟩:=Z4b hr.ok.real ha.ok.2 (Zq4 hg) ha.xc
 refine Zrx (m:=m) (ψ:=fun x y=>Zob x y) (by rw [h];rfl) m1 (by rcases m3 with rfl | rfl;exact hr.ok.real;exact ha.ok.2) ?_ hr
 unfold Zb8 Zc0;rw [h,m2];rfl
theorem Z91 (h:a.Kind=15) (hr:RecW r):Chg r a:=by
 have hz:=Z7w r.Real a.X
 obtain ⟨p,p1,p2⟩:=Zvc hz
 refine Zrx (m:=Zcl (fadd r.Real a.X)) (ψ:=fun x y=>Zkd x y) (by rw [h];rfl) (by show Zkd r.Real a.X=_;unfold Zkd;rw [Zli hz];rfl) (Zyi hz) ?_ hr
 unfold Zb8 Zc0;rw [h,p1]
 show ((Zhd p).bind _)=_
 rw [p2];rfl
theorem Zbat (h:a.Kind=16) (hr:RecW r):Chg r a:=by
 have hz:=Z7a r.Real a.X
 obtain ⟨p,p1,p2⟩:=Zvc hz
 refine Zrx (m:=Zcl (fmul r.Real a.X)) (ψ:=fun x y=>Zi2 x y) (by rw [h];rfl) (by show Zi2 r.Real a.X=_;unfold Zi2;rw [Zli hz];rfl) (Zyi hz) ?_ hr
 unfold Zb8 Zc0;rw [h,p1]
 show ((Zhd p).bind _)=_
 rw [p2];rfl
theorem Zbf2 (h:a.Kind=17) (hr:RecW r) (ha:ActW a):Chg r a:=by
 refine Zrx (m:=a.X) (ψ:=fun x y=>Zih x y) (by rw [h];rfl) rfl ha.ok.2 ?_ hr
 unfold Zb8 Zc0;rw [h];rfl
theorem Z1m (hg:Zdh r) (hk:8 ≤ r.Kind):1 ≤ r.Cap ∧ r.Cap ≤ 32 ∧ (r.List.length:Int) ≤ r.Cap:=by
 obtain ⟨h1,h2,h3,_⟩:=hg.2.2.2.2.2.2 hk
 exact ⟨h1,h2,h3⟩
theorem Zbgm (h:a.Kind=20) (hr:RecW r) (hg:Zdh r) (hk:r.Kind=8):Chg r a:=by
 have hs:=Zrh hg hk
 have hl:=hr.len
 have e1:Zbs a.Kind r a default=Zig r a default:=by rw [h];rfl
 have e2:Zb8 r a=(Zi5 r.List a.S).bind fun r59=>(if (!r59) then (Zbc r (ans 11)) else (Zbc r (ans 0))):=by unfold Zb8 Zc0;rw [h];rfl
 unfold Chg
 rw [e1,e2]
 unfold Zig Zbc
 rw [Ztb hs (by omega),Z9w (by omega),Zxt hs]
 simp only [Option.bind_some]
 split
 ·exact ⟨11,r,_,rfl,rfl,hr,Zdz,fun h=>by cases h⟩
 ·exact ⟨0,r,_,rfl,rfl,hr,Zdz,fun _=>⟨rfl,rfl⟩⟩
theorem Zbda (h:a.Kind=18) (hr:RecW r) (hg:Zdh r) (hk:r.Kind=8):Chg r a:=by
 have hs:=Zrh hg hk
 have hl:=hr.len
 obtain ⟨c1,c2,c3⟩:=Z1m hg (by omega)
 have e1:Zbs a.Kind r a default=Znh r a default:=by rw [h];rfl
 have e2:Zb8 r a=(Zi5 r.List a.S).bind fun r40=>(if ((!r40) && (decide (r.Cap ≤ (r.List.length:Int)))) then (Zbc r (ans 8)) else ((Zij r.List ({ Score:=(0:Nat),Name:=a.S }:Zh) true).bind fun r43=>(Zbc ({ r with List:=r43 }) (ans 0)))):=by unfold Zb8 Zc0;rw [h];rfl
 have hple:=Zrv (fun e=>sLt e.Name a.S) r.List
 unfold Chg
 rw [e1,e2]
 unfold Znh Zbc
 rw [Ztb hs (by omega),Z9w (by omega),Zxt hs,Z72 (show (0:Nat) < W64 by decide) hr.ok.sc (by omega),Zban,Zs8 (by omega)]
 simp only [Option.bind_some]
 by_cases hat:isAt a.S r.List=true
 ·rw [hat]
  exact ⟨0,r,_,rfl,rfl,hr,Zdz,fun _=>⟨rfl,rfl⟩⟩
 ·have hat':isAt a.S r.List=false:=by simpa using hat
  rw [hat']
  simp only [Bool.not_false,Bool.true_and,Bool.false_eq_true,if_false]
  by_cases hc:decide (r.Cap ≤ (r.List.length:Int))=true
  ·rw [if_pos hc,if_pos hc]
   exact ⟨8,r,_,rfl,rfl,hr,Zdz,fun h=>by cases h⟩
  ·rw [if_neg hc,if_neg hc]
   unfold Zcp
   rw [if_pos ⟨by omega,by omega,by simp,by simp;omega⟩]
   refine ⟨0,_,_,rfl,rfl,hr.withList (by simp;omega) fun e he=>?_,Zdz,fun _=>⟨rfl,rfl⟩⟩
   simp only [List.mem_append,List.mem_singleton,Int.toNat_natCast] at he
   rcases he with (he | rfl) | he
   ·exact hr.ok.sc e (List.mem_of_mem_take he)
   ·exact (show (0:Nat) < W64 by decide)
   ·exact hr.ok.sc e (List.mem_of_mem_drop he)
theorem Z1d (h:a.Kind=19) (hr:RecW r) (hg:Zdh r) (hk:r.Kind=8):Chg r a:=by
 have hs:=Zrh hg hk
 have hl:=hr.len
 have e1:Zbs a.Kind r a default=Zlu r a default:=by rw [h];rfl
 have e2:Zb8 r a=(Zfz r a (Int.toNat ((r.List.length:Int) - (0:Int)) + 1) ([]:List Zh) (0:Int)).bind fun z57=>match z57 with | y56=>(Zbc ({ r with List:=y56 }) (ans 0)):=by unfold Zb8 Zc0;rw [h];rfl
 have hple:=Zrv (fun e=>sLt e.Name a.S) r.List
 unfold Chg
 rw [e1,e2]
 unfold Zlu Zbc
 have hf:=Zsi (a:=a) (a0:=r) (by omega) r.List.length 0 [] (by omega) (by simp)
 rw [show ((0:Nat):Int)=0 from rfl] at hf
 rw [Ztb hs (by omega),show (Int.toNat ((r.List.length:Int) - (0:Int)) + 1)=r.List.length + 1 by omega,hf,List.drop_zero,List.nil_append,Zbau hs,Zs8 (by omega)]
 simp only [Option.bind_some]
 by_cases hat:isAt a.S r.List=true
 ·have hp:pre (fun e=>sLt e.Name a.S) r.List < r.List.length:=by
   unfold isAt at hat
   cases hq:r.List[pre (fun e=>sLt e.Name a.S) r.List]? with
   | none=>rw [hq] at hat;cases hat
   | some e=>exact (List.getElem?_eq_some_iff.1 hq).1
  rw [hat]
  simp only [if_true]
  unfold Zfu
  rw [wr1 (by omega),if_pos ⟨by omega,by omega,by omega,by omega,by omega⟩]
  refine ⟨0,_,_,rfl,rfl,hr.withList (by simp;omega) fun e he=>?_,Zdz,fun _=>⟨rfl,rfl⟩⟩
  simp only [List.mem_append,Int.toNat_natCast] at he
  rcases he with he | he
  ·exact hr.ok.sc e (List.mem_of_mem_take he)
  ·exact hr.ok.sc e (List.mem_of_mem_drop he)
 ·have hat':isAt a.S r.List=false:=by simpa using hat
  rw [hat']
  exact ⟨0,r,_,rfl,rfl,hr,Zdz,fun _=>⟨rfl,rfl⟩⟩
def itB (nine:Bool) (e:Zh):List Int:=(if nine=true then F8 e.Score else []) ++ (W e.Name.size ++ bts e.Name)
def ItOk (nine:Bool) (l:List Zh):Prop:=l.length ≤ 32 ∧ ∀ e ∈ l,e.Name.size ≤ 16 ∧ e.Score < W64 ∧ e.Score=Zcl e.Score ∧ (nine=false → e.Score=0)
theorem Zbbe (l:List Zh) (nine:Bool) (h:∀ e ∈ l,e.Name.size ≤ 16):(l.flatMap (itB nine)).length ≤ 40 * l.length:=by
 induction l with
 | nil=>simp
 | cons e l ih =>
  have h1:=h e (List.mem_cons_self ..)
  have h2:=ih fun x hx=>h x (List.mem_cons_of_mem _ hx)
  have h3:=Zlj e.Name.size
  have h4:(itB nine e).length ≤ 34:=by
   unfold itB;cases nine <;> simp [Zvx,Zmz] <;> omega
  simp only [List.flatMap_cons,List.length_append,List.length_cons]
  omega
theorem Zbad {a:Zb} {nine:Bool} (hk:(a.Kind == 9)=nine) (hl:ItOk nine a.List):∀ (n i:Nat) (b:List Int),i + n=a.List.length → b.length + ((a.List.drop i).flatMap (itB nine)).length ≤ 1000000000 → Zhw a (n + 1) (i:Int) ⟨b⟩=some ⟨b ++ (a.List.drop i).flatMap (itB nine)⟩:=by
 intro n
 induction n with
 | zero =>
  intro i b h hb
  rw [Zhw,if_neg (by simp;omega),List.drop_of_length_le (by omega)];simp
 | succ n ih =>
  intro i b h hb
  have h1:i < a.List.length:=by omega
  have hl1:=hl.1
  obtain ⟨g1,g2,g3,g4⟩:=hl.2 _ (List.getElem_mem h1)
  rw [List.drop_eq_getElem_cons h1] at hb ⊢
  simp only [List.flatMap_cons] at hb ⊢
  rw [Zhw,if_pos (by simp;omega),Zc3 h1,Option.bind_some,hk]
  unfold itB at hb ⊢
  simp only [List.length_append] at hb
  refine (optP (put:=fun w=>Zfr w (a.List[i]).Score) (fun hc=>by rw [if_pos hc];exact Z4e g2 g3) (bs:=if nine=true then F8 (a.List[i]).Score else []) (fun hc=>?_) ?_ (Znv (i:Int) a.List[i] (Zhw a (n + 1)))).trans ?_
  ·simp [hc]
  ·omega
  unfold Znv
  have hs:(a.List[i]).Name.size < 1000000:=by omega
  refine (Zmi (Zy1 hs) ?_ _).trans ?_
  ·simp only [List.length_append];omega
  rw [wr1 (by omega)]
  refine (ih (i + 1) _ (by omega) ?_).trans ?_
  ·simp only [List.length_append];unfold itB;omega
  ·simp only [List.append_assoc]
   rfl
theorem Zbfw {y:Zb} {i:Nat} {kk:(Zb) → (Int) → (Ze) → Option (Zb × Ze)} {e:Zh} {X post:List Int} {p:Nat} (hi:i < 1000000) (hX:X.length ≤ 1000000000) {s:ByteArray} (hs:s.size ≤ 16) (hy:y.List.length ≤ 1000000) (hd:X.drop p=W s.size ++ (bts s ++ post)) :
  Zle y (i:Int) kk e ⟨X,(p:Int)⟩=kk { y with List:=y.List ++ [{ e with Name:=s }] } ((i + 1:Nat):Int) ⟨X,((p + (W s.size ++ bts s).length:Nat):Int)⟩:=by
 unfold Zle
 have:=Zwl (s:=s) (l:=16) (by omega) (by decide) X p post hX (by rw [List.append_assoc];exact hd)
 rw [show Zem ⟨X,(p:Int)⟩ 16=_ from this,Option.bind_some,wr1 (by omega)]
 simp only []
 rw [if_pos (by simp;omega)]
theorem Z76 {a:Zb} {nine:Bool} (hk:(a.Kind == 9)=nine) (hl:ItOk nine a.List) {r34:Int × Ze} (hr:r34.1=(a.List.length:Int)) {X:List Int} (hX:X.length ≤ 1000000000):∀ (n i p:Nat) (y:Zb) (post:List Int),i + n=a.List.length → y.Kind=a.Kind → y.List=a.List.take i → X.drop p=(a.List.drop i).flatMap (itB nine) ++ post →
  Zfw r34 (n + 1) y (i:Int) ⟨X,(p:Int)⟩=some ({ y with List:=a.List },⟨X,((p + ((a.List.drop i).flatMap (itB nine)).length:Nat):Int)⟩):=by
 intro n
 induction n with
 | zero =>
  intro i p y post h hy hyl hd
  have e:a.List=y.List:=by rw [hyl,List.take_of_length_le (by omega)]
  rw [Zfw,hr,if_neg (by simp;omega),List.drop_of_length_le (by omega),e];simp
 | succ n ih =>
  intro i p y post h hy hyl hd
  have h1:i < a.List.length:=by omega
  have hl1:=hl.1
  obtain ⟨g1,g2,g3,g4⟩:=hl.2 _ (List.getElem_mem h1)
  have hs:((a.List[i]).Name.size:Int) ≤ 16:=by omega
  rw [List.drop_eq_getElem_cons h1] at hd ⊢
  simp only [List.flatMap_cons,List.append_assoc,itB] at hd
  rw [Zfw,hr,if_pos (by simp;omega),hy,hk]
  refine (optT (take:=Zgj) (bs:=if nine=true then F8 (a.List[i]).Score else []) (x:=(a.List[i]).Score) (fun s R=>Zle y (i:Int) (Zfw r34 (n + 1)) ({ (default:Zh) with Score:=s }) R) (fun hc=>by rw [if_pos hc];exact Z0l g2 g3) (fun hc=>⟨by simp [hc],?_⟩) hX hd).trans ?_
  ·rw [g4 hc];rfl
  have hd2:=Zdm hd
  have hyl2:y.List.length=i:=by rw [hyl,List.length_take];omega
  refine (Zbfw (by omega) hX (s:=(a.List[i]).Name) (by omega) (by omega) hd2).trans ?_
  refine (ih (i + 1) _ _ post (by omega) (by simpa using hy) ?_ ?_).trans ?_
  ·simp only [hyl];exact List.take_append_getElem h1
  ·have:=Zdm (bs:=W (a.List[i]).Name.size ++ bts (a.List[i]).Name) (by rw [List.append_assoc];exact hd2)
   rw [this]
  ·simp only [List.flatMap_cons,List.length_append,itB,hy,hk,Nat.add_assoc]
def tB (a:Zb):List Int:=if a.Kind=1 then W a.Text.size ++ bts a.Text else []
def bB (a:Zb):List Int:=if a.Kind=4 then W (zig a.Low) ++ W (zig a.High) else []
def nB (a:Zb):List Int:=if 2 ≤ a.Kind ∧ a.Kind ≤ 4 then W (zig a.Num) else []
def rB (a:Zb):List Int:=if 5 ≤ a.Kind ∧ a.Kind ≤ 7 then F8 a.Real else []
def lB (a:Zb):List Int:=if 8 ≤ a.Kind then W a.Cap.toNat ++ (W a.List.length ++ a.List.flatMap (itB (a.Kind == 9))) else []
def recB (a:Zb):List Int:=W a.Kind.toNat ++ (tB a ++ (bB a ++ (nB a ++ (rB a ++ lB a))))
structure RB1 (a:Zb):Prop where
 k1:1 ≤ a.Kind
 k9:a.Kind ≤ 9
 text:a.Text.size ≤ 64
 t0:a.Kind ≠ 1 → a.Text=ByteArray.empty
 low:-9223372036854775808 ≤ a.Low ∧ a.Low ≤ 9223372036854775807
 high:-9223372036854775808 ≤ a.High ∧ a.High ≤ 9223372036854775807
 b0:a.Kind ≠ 4 → a.Low=0 ∧ a.High=0
 num:-9223372036854775808 ≤ a.Num ∧ a.Num ≤ 9223372036854775807
 n0:¬ (2 ≤ a.Kind ∧ a.Kind ≤ 4) → a.Num=0
 real:a.Real < W64 ∧ a.Real=Zcl a.Real
 r0:¬ (5 ≤ a.Kind ∧ a.Kind ≤ 7) → a.Real=0
 cap:8 ≤ a.Kind → 0 ≤ a.Cap ∧ a.Cap ≤ 32 ∧ ItOk (a.Kind == 9) a.List
 l0:¬ 8 ≤ a.Kind → a.Cap=0 ∧ a.List=[]
theorem Z0r {s:ByteArray} (h:sEq s ⟨#[]⟩=true):s=ByteArray.empty:=Zj2.1 h
theorem Zbjw {a:Zb} (hw:RecW a) (hg:Zdh a):RB1 a:=by
 obtain ⟨k1,k9,ho,ht,hb,hr,hl⟩:=hg
 simp only [Zh5,Bool.and_eq_true,Bool.or_eq_true,decide_eq_true_eq,beq_iff_eq] at ho
 obtain ⟨⟨⟨⟨o1,o2⟩,o3⟩,o4⟩,o5⟩:=ho
 have wl:=hw.low;have wh:=hw.high;have wn:=hw.num
 unfold I64 at wl wh wn
 refine ⟨k1,k9,ht,fun h=>?_,by omega,by omega,fun h=>?_,by omega,fun h=>?_,⟨hw.ok.real,hr⟩,fun h=>?_,fun h=>?_,fun h=>?_⟩
 ·rcases o1 with o1 | o1
  ·exact absurd o1 h
  ·exact Z0r o1
 ·rcases o3 with o3 | o3
  ·exact absurd o3 h
  ·exact o3
 ·rcases o2 with o2 | o2
  ·exact absurd o2 h
  ·exact o2
 ·rcases o4 with o4 | o4
  ·exact absurd o4 h
  ·exact Z1x hw.ok.real hr o4
 ·obtain ⟨c1,c2,c3,c4⟩:=hl h
  refine ⟨by omega,c2,by omega,fun e he=>?_⟩
  obtain ⟨i,hi,rfl⟩:=List.getElem_of_mem he
  have hs:=hw.ok.sc _ he
  have hc:=c4 i hi
  unfold Zis at hc
  rw [List.getElem?_eq_getElem hi] at hc
  simp only [] at hc
  split at hc
  ·cases hc
  rename_i n1
  split at hc
  ·cases hc
  rename_i n2
  have n3:(a.List[i]).Score=Zcl (a.List[i]).Score:=Classical.byContradiction fun h=>n2 (.inr h)
  refine ⟨by omega,hs,n3,fun h9=>Z1x hs n3 (Classical.byContradiction fun h=>n2 (.inl ⟨?_,h⟩))⟩
  have:a.Kind ≠ 9:=by simpa using h9
  omega
 ·rcases o5 with o5 | o5
  ·exact absurd o5 h
  ·exact ⟨o5.1,by have:=o5.2;simpa using this⟩
theorem Z31 {k:Int} (h1:1 ≤ k) (h9:k ≤ 9):Zd3 k=some ⟨decide (k=1),decide (2 ≤ k ∧ k ≤ 4),decide (k=4),decide (5 ≤ k ∧ k ≤ 7),decide (8 ≤ k)⟩:=by
 have:k=1 ∨ k=2 ∨ k=3 ∨ k=4 ∨ k=5 ∨ k=6 ∨ k=7 ∨ k=8 ∨ k=9:=by omega
 rcases this with rfl | rfl | rfl | rfl | rfl | rfl | rfl | rfl | rfl
 ·exact Z3q
 ·exact Z4y
 ·exact Z5s
 ·exact Z3r
 ·exact Z42
 ·exact Z4f
 ·exact Z4n
 ·exact Z4s
 ·exact Z5g
theorem Zbcz {a:Zb} (h:RB1 a):(recB a).length ≤ 2000:=by
 have h1:=Zlj a.Kind.toNat
 have h2:(tB a).length ≤ 74:=by
  unfold tB
  split
  ·have:=Zlj a.Text.size;have:=h.text;simp only [List.length_append,Zmz];omega
  ·simp
 have h3:(bB a).length ≤ 20:=by
  unfold bB
  split
  ·have:=Zlj (zig a.Low);have:=Zlj (zig a.High);simp only [List.length_append];omega
  ·simp
 have h4:(nB a).length ≤ 10:=by
  unfold nB
  split
  ·have:=Zlj (zig a.Num);omega
  ·simp
 have h5:(rB a).length ≤ 8:=by unfold rB;split <;> simp [Zvx]
 have h6:(lB a).length ≤ 1400:=by
  unfold lB
  split
  ·rename_i hk
   obtain ⟨_,_,c3⟩:=h.cap hk
   have:=Zbbe a.List (a.Kind == 9) (fun e he=>(c3.2 e he).1)
   have:=c3.1
   have:=Zlj a.Cap.toNat;have:=Zlj a.List.length
   simp only [List.length_append];omega
  ·simp
 unfold recB
 simp only [List.length_append]
 omega
theorem Zbc3 {a:Zb} (h:RB1 a):Puts (fun w=>Zqa w a) (recB a):=fun b hb=>by
 show Zqa _ a=_
 unfold recB at hb ⊢
 simp only [List.length_append] at hb
 have k1:=h.k1;have k9:=h.k9
 have hku:IntKind.u64.wrap a.Kind=((a.Kind.toNat:Nat):Int):=by rw [wru (by omega) (by omega)];omega
 have hs:a.Text.size < 1000000:=by have:=h.text;omega
 unfold Zqa
 rw [Z31 k1 k9,Option.bind_some,hku]
 refine (Zmi (Zpl (v:=a.Kind.toNat) (by omega)) (by omega) _).trans ?_
 refine (optP (put:=fun w=>Zfp w a.Text) (bs:=tB a) (fun hc=>?_) (fun hc=>?_) (by simp only [List.length_append];omega) (Zmc a _)).trans ?_
 ·rw [tB,if_pos (of_decide_eq_true hc)];exact Zy1 hs
 ·rw [tB,if_neg (of_decide_eq_false hc)]
 have e3:Zmc a ⟨decide (a.Kind=1),decide (2 ≤ a.Kind ∧ a.Kind ≤ 4),decide (a.Kind=4),decide (5 ≤ a.Kind ∧ a.Kind ≤ 7),decide (8 ≤ a.Kind)⟩ ⟨b ++ W a.Kind.toNat ++ tB a⟩=Znw a ⟨decide (a.Kind=1),decide (2 ≤ a.Kind ∧ a.Kind ≤ 4),decide (a.Kind=4),decide (5 ≤ a.Kind ∧ a.Kind ≤ 7),decide (8 ≤ a.Kind)⟩ ⟨b ++ W a.Kind.toNat ++ tB a ++ bB a⟩:=by
  unfold Zmc
  simp only []
  unfold bB at hb ⊢
  by_cases hc:a.Kind=4
  ·rw [if_pos hc] at hb ⊢
   rw [if_pos (decide_eq_true hc)]
   simp only [List.length_append] at hb
   refine (Zmi (Zyv h.low.1 h.low.2) (by simp only [List.length_append];omega) _).trans ?_
   refine (Zmi (Zyv h.high.1 h.high.2) (by simp only [List.length_append];omega) _).trans ?_
   simp only [List.append_assoc]
  ·rw [if_neg hc,List.append_nil,if_neg (by simpa using hc)]
 rw [e3]
 unfold Znw
 refine (optP (put:=fun w=>Zfs w a.Num) (bs:=nB a) (fun hc=>?_) (fun hc=>?_) (by simp only [List.length_append];omega) (Zn7 a _)).trans ?_
 ·rw [nB,if_pos (of_decide_eq_true hc)];exact Zyv h.num.1 h.num.2
 ·rw [nB,if_neg (of_decide_eq_false hc)]
 unfold Zn7
 refine (optP (put:=fun w=>Zfr w a.Real) (bs:=rB a) (fun hc=>?_) (fun hc=>?_) (by simp only [List.length_append];omega) (Znx a _)).trans ?_
 ·rw [rB,if_pos (of_decide_eq_true hc)];exact Z4e h.real.1 h.real.2
 ·rw [rB,if_neg (of_decide_eq_false hc)]
 unfold Znx
 simp only []
 unfold lB at hb ⊢
 by_cases hc:8 ≤ a.Kind
 ·obtain ⟨c1,c2,c3⟩:=h.cap hc
  rw [if_pos hc] at hb ⊢
  simp only [List.length_append] at hb
  have c4:=c3.1
  have hcu:IntKind.u64.wrap a.Cap=((a.Cap.toNat:Nat):Int):=by rw [wru (by omega) (by omega)];omega
  rw [if_neg (by simpa using hc),hcu,wru (x:=(a.List.length:Int)) (by omega) (by omega)]
  refine (Zmi (Zpl (v:=a.Cap.toNat) (by omega)) (by simp only [List.length_append];omega) _).trans ?_
  refine (Zmi (Zpl (v:=a.List.length) (by omega)) (by simp only [List.length_append];omega) _).trans ?_
  have:=Zbad rfl c3 a.List.length 0 (b ++ W a.Kind.toNat ++ tB a ++ bB a ++ nB a ++ rB a ++ W a.Cap.toNat ++ W a.List.length) (by omega) (by simp only [List.length_append,List.drop_zero];omega)
  rw [show ((0:Nat):Int)=0 from rfl,List.drop_zero] at this
  rw [show (Int.toNat ((a.List.length:Int) - (0:Int)) + 1)=a.List.length + 1 by omega,this]
  simp only [List.append_assoc,Option.bind_some]
 ·rw [if_neg hc,if_pos (by simpa using hc)]
  simp only [List.append_assoc,List.append_nil]
theorem Zbak {a:Zb} (h:RB1 a) (hc:Zd5 a=some 0):Zph Zp1 (recB a) a:=fun X i post hX hd=>by
 have k1:=h.k1;have k9:=h.k9
 have hk:((a.Kind.toNat:Nat):Int)=a.Kind:=by omega
 have ht:(a.Text.size:Int) ≤ 64:=by have:=h.text;omega
 have hd0:X.drop i=W a.Kind.toNat ++ (tB a ++ (bB a ++ (nB a ++ (rB a ++ (lB a ++ post))))):=by rw [hd];unfold recB;simp only [List.append_assoc]
 have hd1:=Zdm hd0
 have hd2:=Zdm hd1
 have hd3:=Zdm hd2
 have hd4:=Zdm hd3
 have hd5:=Zdm hd4
 unfold Zp1
 refine (Zm9 (Zl9 (v:=a.Kind.toNat) (l:=9) (by omega) (by decide)) hX hd0 (fun x R=>if (({ (default:Zb) with Kind:=x }:Zb).Kind == (0:Int)) then ((Zdg R (5:Int)).bind fun r4=>(Zld (x,R) r4)) else (Zld (x,R) R))).trans ?_
 simp only [hk]
 rw [if_neg (by simp;omega)]
 unfold Zld
 simp only []
 rw [Z31 k1 k9,Option.bind_some]
 generalize hsh:(⟨decide (a.Kind=1),decide (2 ≤ a.Kind ∧ a.Kind ≤ 4),decide (a.Kind=4),decide (5 ≤ a.Kind ∧ a.Kind ≤ 7),decide (8 ≤ a.Kind)⟩:Zb6)=sh
 refine (optT (take:=fun r=>Zem r 64) (bs:=tB a) (x:=a.Text) (c:=sh.text) (fun s R=>Zlc sh ⟨a.Kind,0,0,0,0,0,s,[]⟩ R) (fun hc=>?_) (fun hc=>?_) hX hd1).trans ?_
 ·subst hsh;rw [tB,if_pos (of_decide_eq_true hc)];exact Zwl ht (by decide)
 ·subst hsh
  have hn:=of_decide_eq_false hc
  rw [tB,if_neg hn,h.t0 hn];exact ⟨rfl,rfl⟩
 have e3:Zlc sh ⟨a.Kind,0,0,0,0,0,a.Text,[]⟩ ⟨X,((i + (W a.Kind.toNat).length + (tB a).length:Nat):Int)⟩=Zjs sh ⟨a.Kind,0,a.Low,a.High,0,0,a.Text,[]⟩ ⟨X,((i + (W a.Kind.toNat).length + (tB a).length + (bB a).length:Nat):Int)⟩:=by
  unfold Zlc
  subst hsh
  simp only []
  unfold bB at hd2 ⊢
  by_cases h4:a.Kind=4
  ·rw [if_pos h4] at hd2 ⊢
   rw [if_pos (decide_eq_true h4)]
   rw [List.append_assoc] at hd2
   refine (Zm9 (Zwm h.low.1 h.low.2) hX hd2 (fun x R=>(Zek R).bind fun r17=>Zjs _ ⟨a.Kind,0,x,r17.1,0,0,a.Text,[]⟩ r17.2)).trans ?_
   refine (Zm9 (Zwm h.high.1 h.high.2) hX (Zdm hd2) (fun x R=>Zjs _ ⟨a.Kind,0,a.Low,x,0,0,a.Text,[]⟩ R)).trans ?_
   simp only [List.length_append,Nat.add_assoc]
  ·rw [if_neg h4,if_neg (by simpa using h4),(h.b0 h4).1,(h.b0 h4).2];rfl
 rw [e3]
 unfold Zjs
 refine (optT (take:=Zek) (bs:=nB a) (x:=a.Num) (c:=sh.num) (fun s R=>Zm2 sh ⟨a.Kind,s,a.Low,a.High,0,0,a.Text,[]⟩ R) (fun hc=>?_) (fun hc=>?_) hX hd3).trans ?_
 ·subst hsh;rw [nB,if_pos (of_decide_eq_true hc)];exact Zwm h.num.1 h.num.2
 ·subst hsh
  have hn:=of_decide_eq_false hc
  rw [nB,if_neg hn,h.n0 hn];exact ⟨rfl,rfl⟩
 unfold Zm2
 refine (optT (take:=Zgj) (bs:=rB a) (x:=a.Real) (c:=sh.real) (fun s R=>Zmw sh ⟨a.Kind,a.Num,a.Low,a.High,s,0,a.Text,[]⟩ R) (fun hc=>?_) (fun hc=>?_) hX hd4).trans ?_
 ·subst hsh;rw [rB,if_pos (of_decide_eq_true hc)];exact Z0l h.real.1 h.real.2
 ·subst hsh
  have hn:=of_decide_eq_false hc
  rw [rB,if_neg hn,h.r0 hn];exact ⟨rfl,rfl⟩
 have fin:∀ R,Zjt a R=some (a,R):=fun R=>by
  unfold Zjt
  rw [hc,Option.bind_some,if_neg (by simp)];rfl
 unfold Zmw
 unfold lB at hd5
 by_cases h8:8 ≤ a.Kind
 ·obtain ⟨c1,c2,c3⟩:=h.cap h8
  have c4:=c3.1
  rw [if_pos h8] at hd5
  simp only [List.append_assoc] at hd5
  subst hsh
  rw [if_pos (decide_eq_true h8)]
  have hcu:((a.Cap.toNat:Nat):Int)=a.Cap:=by omega
  refine (Zm9 (Zl9 (v:=a.Cap.toNat) (l:=32) (by omega) (by decide)) hX hd5 (fun x R=>(Zdo R (32:Int)).bind fun r34=>((Zfw r34 (Int.toNat (r34.1 - (0:Int)) + 1) ⟨a.Kind,a.Num,a.Low,a.High,a.Real,x,a.Text,[]⟩ (0:Int) r34.2).bind fun z50=>match z50 with | (y48,y49)=>(Zjt y48 y49)))).trans ?_
  have hd6:=Zdm hd5
  refine (Zm9 (Zl9 (v:=a.List.length) (l:=32) (by omega) (by decide)) hX hd6 (fun x R=>(Zfw (x,R) (Int.toNat (x - (0:Int)) + 1) ⟨a.Kind,a.Num,a.Low,a.High,a.Real,((a.Cap.toNat:Nat):Int),a.Text,[]⟩ (0:Int) R).bind fun z50=>match z50 with | (y48,y49)=>(Zjt y48 y49))).trans ?_
  have hd7:=Zdm hd6
  rw [hcu,show (Int.toNat ((a.List.length:Int) - (0:Int)) + 1)=a.List.length + 1 by omega]
  refine (congrArg (fun z=>Option.bind z _) (Z76 rfl c3 (r34:=((a.List.length:Int),_)) rfl hX a.List.length 0 _ ⟨a.Kind,a.Num,a.Low,a.High,a.Real,a.Cap,a.Text,[]⟩ post (by omega) rfl (by simp) (by rw [List.drop_zero];exact hd7))).trans ?_
  rw [Option.bind_some]
  refine (fin _).trans ?_
  unfold recB lB
  rw [if_pos h8,List.drop_zero]
  simp only [List.length_append,Nat.add_assoc]
 ·subst hsh
  rw [if_neg (by simpa using h8)]
  obtain ⟨g1,g2⟩:=h.l0 h8
  have e:(⟨a.Kind,a.Num,a.Low,a.High,a.Real,0,a.Text,[]⟩:Zb)=a:=by
   cases a;simp only [] at g1 g2;subst g1 g2;rfl
  rw [e]
  refine (fin _).trans ?_
  unfold recB lB
  rw [if_neg h8,List.append_nil]
  simp only [List.length_append,Nat.add_assoc]
variable {r:Zb} {a:Zs}
theorem Z3w {l:Zd0} {c:Int} (h1:1 ≤ c) (h2:c ≤ 32):cut l 0 (min (l.length:Int) c)=some (l.take c.toNat):=by
 unfold cut
 rw [if_pos (by omega)]
 simp only [Int.toNat_zero,List.drop_zero,Nat.sub_zero]
 congr 1
 rcases Int.le_total (l.length:Int) c with h | h
 ·rw [Int.min_eq_left h,Int.toNat_natCast,List.take_of_length_le (Nat.le_refl _),List.take_of_length_le (by omega)]
 ·rw [Int.min_eq_right h]
theorem Zbae (h:a.Kind=21) (hr:RecW r) (hg:Zdh r) (hk:r.Kind=9) (ha:ActW a):Chg r a:=by
 have hl:=hr.len
 obtain ⟨c1,c2,c3⟩:=Z1m hg (by omega)
 have e1:Zbs a.Kind r a default=Zl4 r a default:=by rw [h];rfl
 have e2:Zb8 r a=(Zij r.List ({ Score:=a.X,Name:=a.S }:Zh) false).bind fun r63=>(if (decide (r.Cap < (r63.length:Int))) then ((cut r63 (0:Int) r.Cap).bind fun c66=>(Zgr r c66)) else (Zgr r r63)):=by unfold Zb8 Zc0;rw [h];rfl
 have hx:({ Score:=a.X,Name:=a.S }:Zh).Score < W64:=ha.ok.2
 have hple:=Zrv (Zef { Score:=a.X,Name:=a.S } false) r.List
 unfold Chg
 rw [e1,e2]
 unfold Zl4
 rw [Z16 ha.ok.2 hr.ok.sc (by omega),Z72 hx hr.ok.sc (by omega),Zs8 (by omega)]
 simp only [Option.bind_some]
 have fin:∀ L:Zd0,L=r.List.take (pre (Zef { Score:=a.X,Name:=a.S } false) r.List) ++ [{ Score:=a.X,Name:=a.S }] ++ r.List.drop (pre (Zef { Score:=a.X,Name:=a.S } false) r.List) → layL { Score:=a.X,Name:=a.S } false r.List=L →
   ∃ c r' o,((Zcp r.List ((pre (Zef { Score:=a.X,Name:=a.S } false) r.List:Nat):Int) ([({ Score:=a.X,Name:=a.S }:Zh)]:List Zh)).bind fun r16=>((cut r16 (0:Int) (min (r16.length:Int) r.Cap)).bind fun c18=>(some ((0:Int),({ r with List:=c18 }),(default:Zj)))))=some (c,r',o) ∧
    (if (decide (r.Cap < ((layL { Score:=a.X,Name:=a.S } false r.List).length:Int)))=true then ((cut (layL { Score:=a.X,Name:=a.S } false r.List) (0:Int) r.Cap).bind fun c66=>(Zgr r c66)) else (Zgr r (layL { Score:=a.X,Name:=a.S } false r.List)))=some (if c=0 then (r',o) else (r,ans c)) ∧ RecW r' ∧ RecW o.Rec ∧ (c=0 → o.Code=0 ∧ o.Num=0):=by
  intro L hL hlay
  have hLl:L.length=r.List.length + 1:=by rw [hL];simp;omega
  have hLs:∀ e ∈ L,e.Score < W64:=fun e he=>by
   rw [hL] at he
   simp only [List.mem_append,List.mem_singleton] at he
   rcases he with (he | rfl) | he
   ·exact hr.ok.sc e (List.mem_of_mem_take he)
   ·exact hx
   ·exact hr.ok.sc e (List.mem_of_mem_drop he)
  rw [hlay]
  unfold Zcp Zgr Zbc
  rw [if_pos ⟨by omega,by omega,by simp,by simp;omega⟩]
  simp only [Option.bind_some,Int.toNat_natCast]
  rw [← hL,Z3w c1 c2]
  refine ⟨0,{ r with List:=L.take r.Cap.toNat },ans 0,rfl,?_,hr.withList (by simp;omega) (fun e he=>hLs e (List.mem_of_mem_take he)),Zdz,fun _=>⟨rfl,rfl⟩⟩
  by_cases hc:decide (r.Cap < (L.length:Int))=true
  ·rw [if_pos hc]
   have:r.Cap < (L.length:Int):=of_decide_eq_true hc
   unfold cut
   rw [if_pos (by omega)]
   simp
  ·rw [if_neg hc]
   have:¬ r.Cap < (L.length:Int):=fun h=>hc (decide_eq_true h)
   rw [List.take_of_length_le (by omega)];rfl
 by_cases hp:pre (Zef { Score:=a.X,Name:=a.S } false) r.List < r.List.length
 ·have hd:decide (((pre (Zef { Score:=a.X,Name:=a.S } false) r.List:Nat):Int) < (r.List.length:Int))=true:=by simpa using hp
  have hat:=Zzz (List.getElem?_eq_getElem hp)
  have hb:Zdt r.List[pre (Zef { Score:=a.X,Name:=a.S } false) r.List] { Score:=a.X,Name:=a.S }=false:=hat
  have hbs:=Z6a hb
  rw [hd,Zc3 hp]
  simp only [gd_t,Option.bind_some,Bool.true_and]
  rw [Zsl hx (hr.ok.sc _ (List.getElem_mem hp))]
  simp only [Option.bind_some]
  by_cases hs:(!Zdt { Score:=a.X,Name:=a.S } r.List[pre (Zef { Score:=a.X,Name:=a.S } false) r.List])=true
  ·rw [if_pos hs]
   have hlay:layL { Score:=a.X,Name:=a.S } false r.List=r.List:=by
    unfold layL
    rw [List.getElem?_eq_getElem hp]
    simp only
    rw [if_pos (by rw [← hbs];exact hs),List.append_nil,List.take_append_drop]
   rw [hlay,if_neg (by simp;omega)]
   exact ⟨0,r,_,rfl,rfl,hr,Zdz,fun _=>⟨rfl,rfl⟩⟩
  ·rw [if_neg hs]
   refine fin _ rfl ?_
   unfold layL
   rw [List.getElem?_eq_getElem hp]
   simp only
   rw [if_neg (by rw [← hbs];exact hs)]
 ·have hd:decide (((pre (Zef { Score:=a.X,Name:=a.S } false) r.List:Nat):Int) < (r.List.length:Int))=false:=by simpa using hp
  rw [hd]
  simp only [gd_f,Option.bind_some,Bool.false_and,Bool.false_eq_true,if_false]
  refine fin _ rfl ?_
  unfold layL
  rw [List.getElem?_eq_none (by omega),List.take_of_length_le (by omega),List.drop_of_length_le (by omega),List.append_nil]
theorem Zv8 {k:Int} (h1:1 ≤ k) (h2:k ≤ 21):∃ on,Zpm k=some on ∧ Zgk k=some on ∧ (k ≤ 4 → on=0) ∧ (5 ≤ k → on ≠ 0) ∧ ((k=10 ∨ k=11) → on=4) ∧ ((k=18 ∨ k=19 ∨ k=20) → on=8) ∧ (k=21 → on=9) ∧
  ((k=5 ∨ k=6) → on=1) ∧ (k=7 → on=2) ∧ ((k=8 ∨ k=9) → on=3) ∧ (k=12 → on=4) ∧ (k=13 → on=5) ∧ (k=14 → on=6) ∧ ((k=15 ∨ k=16 ∨ k=17) → on=7):=by
 have hk':k=1 ∨ k=2 ∨ k=3 ∨ k=4 ∨ k=5 ∨ k=6 ∨ k=7 ∨ k=8 ∨ k=9 ∨ k=10 ∨ k=11 ∨ k=12 ∨ k=13 ∨ k=14 ∨ k=15 ∨ k=16 ∨ k=17 ∨ k=18 ∨ k=19 ∨ k=20 ∨ k=21:=by omega
 rcases hk' with rfl | rfl | rfl | rfl | rfl | rfl | rfl | rfl | rfl | rfl | rfl | rfl | rfl | rfl | rfl | rfl | rfl | rfl | rfl | rfl | rfl
 all_goals first
  | exact ⟨0,by kernel_rfl,by kernel_rfl,by decide⟩
  | exact ⟨1,by kernel_rfl,by kernel_rfl,by decide⟩
  | exact ⟨2,by kernel_rfl,by kernel_rfl,by decide⟩
  | exact ⟨3,by kernel_rfl,by kernel_rfl,by decide⟩
  | exact ⟨4,by kernel_rfl,by kernel_rfl,by decide⟩
  | exact ⟨5,by kernel_rfl,by kernel_rfl,by decide⟩
  | exact ⟨6,by kernel_rfl,by kernel_rfl,by decide⟩
  | exact ⟨7,by kernel_rfl,by kernel_rfl,by decide⟩
  | exact ⟨8,by kernel_rfl,by kernel_rfl,by decide⟩
  | exact ⟨9,by kernel_rfl,by kernel_rfl,by decide⟩
theorem Z7v (h5:5 ≤ a.Kind) (h21:a.Kind ≤ 21) (hr:RecW r) (hg:Zdh r) (hon:Zpm a.Kind=some r.Kind) (ha:ActW a):Chg r a:=by
 obtain ⟨on,o1,_,_,_,k10,k18,k21,_⟩:=Zv8 (k:=a.Kind) (by omega) h21
 rw [hon] at o1
 obtain rfl:=Option.some.inj o1
 have hk':a.Kind=5 ∨ a.Kind=6 ∨ a.Kind=7 ∨ a.Kind=8 ∨ a.Kind=9 ∨ a.Kind=10 ∨ a.Kind=11 ∨ a.Kind=12 ∨ a.Kind=13 ∨ a.Kind=14 ∨ a.Kind=15 ∨ a.Kind=16 ∨ a.Kind=17 ∨ a.Kind=18 ∨ a.Kind=19 ∨ a.Kind=20 ∨ a.Kind=21:=by omega
 rcases hk' with h | h | h | h | h | h | h | h | h | h | h | h | h | h | h | h | h
 ·exact Zbfr h hr
 ·exact Zbce h hr
 ·exact Zbe2 h hr
 ·exact Zbcs h hr ha
 ·exact Z1c (.inl h) hr
 ·exact Zbih h hr hg (k10 (.inl h)) ha
 ·exact Zbfc h hr hg (k10 (.inr h)) ha
 ·exact Z1c (.inr h) hr
 ·exact Zbbd h hr hg ha
 ·exact Z9t h hr hg ha
 ·exact Z91 h hr
 ·exact Zbat h hr
 ·exact Zbf2 h hr ha
 ·exact Zbda h hr hg (k18 (.inl h))
 ·exact Z1d h hr hg (k18 (.inr (.inl h)))
 ·exact Zbgm h hr hg (k18 (.inr (.inr h)))
 ·exact Zbae h hr hg (k21 h) ha
structure ActIn (a:Zs):Prop where
 ok:Zzd a
 n:I64 a.N
 mkr:RecW a.Make
theorem ActIn.w {a:Zs} (h:ActIn a) {c:Int} (hc:1 ≤ a.Kind ∧ a.Kind ≤ 21 ∧ a.X=Zcl a.X ∧ a.S.size ≤ 64 ∧ ((a.Kind=10 ∨ a.Kind=11) → 0 ≤ a.N ∧ a.N ≤ 2305843009213693952) ∧ (a.Kind=1 → Zd5 a.Make=some 0) ∧ (¬ (5 ≤ a.Kind ∧ a.Kind ≤ 6) → a.S.size ≤ 16) ∧ sEq a.Key ⟨#[]⟩=false ∧ a.Key.size ≤ 24):ActW a :=
 ⟨h.ok,h.n,h.mkr,hc.2.2.1,hc.2.2.2.2.1,hc.2.2.2.1,hc.2.2.2.2.2.2.1⟩
theorem Z65 {there:Bool} {r:Zb} {c:Int} (hc:c ≠ 0) {on:Int} (ho:Zgk a.Kind=some on):Zgo there a r c=some (r,there,ans c):=by
 have h1:(c == 0)=false:=by simpa using hc
 have h2:(c != 0)=true:=by simpa using hc
 unfold Zgo
 simp only [h1,Bool.false_and,Bool.false_eq_true,if_false]
 unfold Zjk
 simp only [h1,Bool.false_and,Bool.false_eq_true,if_false]
 unfold Zjo
 rw [ho]
 simp only [h1,Bool.false_and,Bool.false_eq_true,if_false,Option.bind_some]
 unfold Zjm
 rw [if_pos h2]
theorem Zbe0 (k:Int):∃ on,Zgk k=some on:=by
 by_cases h:k < 0 ∨ 21 < k
 ·exact ⟨0,by unfold Zgk;rw [if_pos (by simpa using h)]⟩
 ·by_cases h0:k=0
  ·exact ⟨0,by rw [h0];kernel_rfl⟩
  ·obtain ⟨on,_,h2,_⟩:=Zv8 (k:=k) (by omega) (by omega)
   exact ⟨on,h2⟩
theorem Z9a {r:Zb} {there:Bool} {a:Zs} (hr:RecW r) (ha:ActIn a):∃ x is out,Zmj r there a=some (x,is,out) ∧ Zrc r there a=some (x,is,out) ∧ RecW x ∧ RecW out.Rec:=by
 suffices hs:∀ r0:Zb,RecW r0 → ∃ x is out,Zhz there a r0=some (x,is,out) ∧ Zjn there a r0=some (x,is,out) ∧ RecW x ∧ RecW out.Rec by
  unfold Zmj Zrc
  cases there
  ·exact hs _ Zdz
  ·exact hs r hr
 intro r0 hr0
 unfold Zhz Zjn
 rw [Zl1 hr0.len,Zso hr0.len]
 obtain ⟨c,h1,h2,h3⟩:=Zpa ha.ok
 obtain ⟨on,hon⟩:=Zbe0 a.Kind
 rw [h1,h2]
 simp only [Option.bind_some]
 by_cases hc:c=0
 ·subst hc
  have hf:=h3 rfl
  have hw:=ha.w (c:=0) hf
  obtain ⟨on2,o1,o2,o3,o4,_⟩:=Zv8 hf.1 hf.2.1
  have main:(there=true → Zdh r0) → ∃ x is out,Zh0 there a r0=some (x,is,out) ∧ Zgo there a r0 0=some (x,is,out) ∧ RecW x ∧ RecW out.Rec:=by
   intro hg
   unfold Zh0 Zhl Zgo Zjk Zjo
   rw [o1,o2,Zl1 hr0.len,Zl1 ha.mkr.len]
   unfold Zjm
   rw [Zso hr0.len,Zso ha.mkr.len]
   simp only [Option.bind_some]
   by_cases k1:a.Kind=1
   ·rw [k1,o3 (by omega)]
    cases there
    ·exact ⟨a.Make,true,ans 0,rfl,rfl,ha.mkr,Zdz⟩
    ·exact ⟨r0,true,ans 7,rfl,rfl,hr0,Zdz⟩
   ·by_cases k3:a.Kind=3
    ·rw [k3,o3 (by omega)]
     cases there
     ·exact ⟨r0,false,{ ans 0 with Num:=r0.Kind },rfl,rfl,hr0,Zdz⟩
     ·exact ⟨r0,true,{ ans 0 with Num:=r0.Kind },rfl,rfl,hr0,Zdz⟩
    ·by_cases k2:a.Kind=2
     ·rw [k2,o3 (by omega)]
      cases there
      ·exact ⟨r0,false,ans 6,rfl,rfl,hr0,Zdz⟩
      ·exact ⟨zrc,false,ans 0,rfl,rfl,Zdz,Zdz⟩
     ·by_cases k4:a.Kind=4
      ·rw [k4,o3 (by omega)]
       cases there
       ·exact ⟨r0,false,ans 6,rfl,rfl,hr0,Zdz⟩
       ·exact ⟨r0,true,{ ans 0 with Rec:=r0 },rfl,rfl,hr0,hr0⟩
      ·have h5:5 ≤ a.Kind:=by omega
       have b1:(a.Kind == 1)=false:=by simpa using k1
       have b2:(a.Kind == 2)=false:=by simpa using k2
       have b3:(a.Kind == 3)=false:=by simpa using k3
       have b4:(a.Kind == 4)=false:=by simpa using k4
       have b1':(a.Kind != 1)=true:=by simpa using k1
       have b3':(a.Kind != 3)=true:=by simpa using k3
       have bo:(on2 != 0)=true:=by simpa using o4 h5
       simp only [b1,b2,b3,b4,b1',b3',bo,Bool.false_and,Bool.and_false,Bool.and_true,Bool.true_and,Bool.false_eq_true,if_false,beq_self_eq_true]
       cases there
       ·exact ⟨r0,false,ans 6,rfl,rfl,hr0,Zdz⟩
       ·simp only [Bool.not_true,Bool.false_eq_true,if_false,Bool.and_false,Bool.false_and,beq_self_eq_true,Bool.true_and]
        by_cases hk:(on2 != r0.Kind)=true
        ·rw [if_pos hk,if_pos hk]
         exact ⟨r0,true,ans 5,rfl,rfl,hr0,Zdz⟩
        ·rw [if_neg hk,if_neg hk,if_pos ⟨h5,hf.2.1⟩]
         have hk':on2=r0.Kind:=by simpa using hk
         obtain ⟨c,r',o,e1,e2,w1,w2,_⟩:=Z7v h5 hf.2.1 hr0 (hg rfl) (by rw [← hk'];exact o1) hw
         rw [e1,e2]
         simp only [Option.bind_some]
         by_cases hc:c=0
         ·subst hc
          exact ⟨r',true,o,rfl,rfl,w1,w2⟩
         ·have hcn:(c != 0)=true:=by simpa using hc
          rw [if_pos hcn,if_neg hc]
          exact ⟨r0,true,ans c,rfl,rfl,hr0,Zdz⟩
  have z1:((0:Int) != 0)=false:=rfl
  have z2:((0:Int) == 0)=true:=rfl
  rw [z1,z2]
  simp only [Bool.false_eq_true,if_false,Bool.true_and]
  by_cases ht:there=true
  ·rw [if_pos ht,if_pos ht]
   obtain ⟨c2,g1,g2⟩:=Zoc hr0.ok
   rw [g1,g2]
   simp only [Option.bind_some]
   by_cases hc2:c2=0
   ·subst hc2
    rw [z1]
    exact main fun _=>(Zmf hr0.ok).1 g1
   ·have hcn:(c2 != 0)=true:=by simpa using hc2
    rw [if_pos hcn,Z65 hc2 o2]
    exact ⟨r0,there,ans c2,rfl,rfl,hr0,Zdz⟩
  ·rw [if_neg ht,if_neg ht]
   exact main fun h=>absurd h ht
 ·have hcn:(c != 0)=true:=by simpa using hc
  have hcz:(c == 0)=false:=by simpa using hc
  rw [if_pos hcn,hcz]
  simp only [Bool.false_and,Bool.false_eq_true,if_false]
  rw [Z65 hc hon]
  exact ⟨r0,there,ans c,rfl,rfl,hr0,Zdz⟩
def af (k c:Int):Bool:=((Zlq k).bind fun q=>Zbu q c).getD false
def kOk (k:Int):Bool:=match Zlq k with
 | none=>false
 | some q=>!sEq q.word ⟨#[]⟩ && ((Zbu q 110).isSome && ((Zbu q 120).isSome && ((Zbu q 115).isSome && ((Zbu q 109 == some (k == 1)) && (Zou q == some (if 5 ≤ k ∧ k ≤ 6 then 64 else 16))))))
theorem Zbgl:∀ k:Nat,k < 21 → kOk ((k + 1:Nat):Int)=true:=by decide +kernel
structure AF (k:Int) (q:Zcx):Prop where
 of:Zlq k=some q
 word:sEq q.word ⟨#[]⟩=false
 n:Zbu q 110=some (af k 110)
 x:Zbu q 120=some (af k 120)
 s:Zbu q 115=some (af k 115)
 m:Zbu q 109=some (k == 1)
 most:Zou q=some (if 5 ≤ k ∧ k ≤ 6 then 64 else 16)
theorem Z82 {k:Int} (h1:1 ≤ k) (h2:k ≤ 21):∃ q,AF k q:=by
 have h:=Zbgl (k - 1).toNat (by omega)
 rw [show (((k - 1).toNat + 1:Nat):Int)=k by omega] at h
 unfold kOk at h
 cases hq:Zlq k with
 | none=>rw [hq] at h;cases h
 | some q =>
  rw [hq] at h
  simp only [Bool.and_eq_true,Bool.not_eq_true',beq_iff_eq] at h
  obtain ⟨g1,g2,g3,g4,g5,g6⟩:=h
  have e:∀ c,(Zbu q c).isSome=true → Zbu q c=some (af k c):=fun c hc=>by
   unfold af
   rw [hq,Option.bind_some]
   cases hz:Zbu q c with
   | none=>rw [hz] at hc;cases hc
   | some z=>rfl
  exact ⟨q,hq,g1,e _ g2,e _ g3,e _ g4,g5,g6⟩
theorem Zbbg {n x s m o1 k1 k2:Bool} {c:Int} {a:Zs} (h:actD n x s m o1 k1 k2 c a=0):(((n || a.N == 0) && (x || decide (keyf a.X=keyf 0))) && (s || sEq a.S ⟨#[]⟩) && (m || Zjl a.Make zrc))=true:=by
 unfold actD at h
 revert h
 generalize (sEq a.Key ⟨#[]⟩ || decide ((24:Int) < a.Key.size))=b1
 generalize (((n || a.N == 0) && (x || decide (keyf a.X=keyf 0))) && (s || sEq a.S ⟨#[]⟩) && (m || Zjl a.Make zrc))=b2
 cases b1 <;> cases b2 <;> simp
theorem Z9u {x:Nat} (h:keyf x=keyf 0):x=0:=by
 unfold keyf at h
 rw [if_neg (show ¬ isn 0 by decide),if_neg (show ¬ TOP ≤ 0 by decide)] at h
 split at h
 ·exact absurd h (by decide)
 ·split at h
  ·unfold TOP at *;omega
  ·omega
theorem Zbia {r:Zb} (h:Zjl r zrc=true):r=zrc:=by
 unfold Zjl at h
 simp only [Bool.and_eq_true,beq_iff_eq,decide_eq_true_eq] at h
 obtain ⟨⟨⟨⟨⟨⟨⟨h1,h2⟩,h3⟩,h4⟩,h5⟩,h6⟩,h7⟩,h8⟩:=h
 have h9:=Z9u h5
 have h10:=Z0r h7
 have h11:=Zwt h8
 cases r
 simp only [] at h1 h2 h3 h4 h6 h9 h10 h11
 subst h1 h2 h3 h4 h6 h9 h10
 rw [List.eq_nil_of_length_eq_zero h11]
structure AB (a:Zs):Prop where
 k1:1 ≤ a.Kind
 k21:a.Kind ≤ 21
 key:a.Key.size ≤ 24
 num:-9223372036854775808 ≤ a.N ∧ a.N ≤ 9223372036854775807
 n0:af a.Kind 110=false → a.N=0
 x:a.X < W64 ∧ a.X=Zcl a.X
 x0:af a.Kind 120=false → a.X=0
 s:a.S.size ≤ (if 5 ≤ a.Kind ∧ a.Kind ≤ 6 then 64 else 16)
 s0:af a.Kind 115=false → a.S=ByteArray.empty
 mkr:(a.Kind == 1)=true → RB1 a.Make ∧ Zd5 a.Make=some 0
 m0:(a.Kind == 1)=false → a.Make=zrc
theorem Zbjm {a:Zs} (hi:ActIn a) (hc:Ze4 a=some 0):AB a:=by
 obtain ⟨c,e1,_,e3⟩:=Zpa hi.ok
 rw [hc] at e1
 obtain rfl:=Option.some.inj e1
 obtain ⟨k1,k21,xc,s64,_,mk,s16,_,key⟩:=e3 rfl
 obtain ⟨q,hq⟩:=Z82 k1 k21
 obtain ⟨c2,hc1,_⟩:=Zoc hi.ok.1
 have hs:=Z1f (w:=q.word) (on:=q.on) (has:=q.has) hi.ok hc1 hq.of hq.word hq.n hq.x hq.s hq.m
 rw [hc] at hs
 have hb:=Zbbg (Option.some.inj hs).symm
 simp only [Bool.and_eq_true] at hb
 obtain ⟨⟨⟨b1,b2⟩,b3⟩,b4⟩:=hb
 have hn:=hi.n
 unfold I64 at hn
 refine ⟨k1,k21,key,hn,fun h=>?_,⟨hi.ok.2,xc⟩,fun h=>?_,?_,fun h=>?_,fun h=>?_,fun h=>?_⟩
 ·rw [h] at b1;simpa using b1
 ·rw [h] at b2;exact Z9u (by simpa using b2)
 ·split
  ·exact s64
  ·rename_i h;exact s16 h
 ·rw [h] at b3;exact Z0r (by simpa using b3)
 ·have:=mk (by simpa using h)
  exact ⟨Zbjw hi.mkr ((Zmf hi.mkr.ok).1 this),this⟩
 ·rw [h] at b4;exact Zbia (by simpa using b4)
def aN (a:Zs):List Int:=if af a.Kind 110=true then W (zig a.N) else []
def aX (a:Zs):List Int:=if af a.Kind 120=true then F8 a.X else []
def aS (a:Zs):List Int:=if af a.Kind 115=true then W a.S.size ++ bts a.S else []
def aM (a:Zs):List Int:=if (a.Kind == 1)=true then recB a.Make else []
def actB (a:Zs):List Int:=W a.Kind.toNat ++ (fl a.Must ++ ((W a.Key.size ++ bts a.Key) ++ (aN a ++ (aX a ++ (aS a ++ aM a)))))
theorem Zbb1 {a:Zs} (h:AB a):1 ≤ (actB a).length ∧ (actB a).length ≤ 2200:=by
 have h1:=Zlj a.Kind.toNat
 have h2:=Zlj a.Key.size
 have h3:(fl a.Must).length=1:=by cases a.Must <;> rfl
 have h4:(aN a).length ≤ 10:=by
  unfold aN;split
  ·have:=Zlj (zig a.N);omega
  ·simp
 have h5:(aX a).length ≤ 8:=by unfold aX;split <;> simp [Zvx]
 have h6:(aS a).length ≤ 74:=by
  unfold aS;split
  ·have:=Zlj a.S.size
   have hs:=h.s
   split at hs <;> simp only [List.length_append,Zmz] <;> omega
  ·simp
 have h7:(aM a).length ≤ 2000:=by
  unfold aM;split
  ·rename_i hk;exact Zbcz (h.mkr hk).1
  ·simp
 have h8:=h.key
 unfold actB
 simp only [List.length_append,Zmz]
 omega
theorem Zbdq {a:Zs} (h:AB a):Puts (fun w=>Zo7 w a) (actB a):=fun b hb=>by
 show Zo7 _ a=_
 obtain ⟨q,hq⟩:=Z82 h.k1 h.k21
 have k1:=h.k1;have k21:=h.k21
 have hku:IntKind.u64.wrap a.Kind=((a.Kind.toNat:Nat):Int):=by rw [wru (by omega) (by omega)];omega
 have hks:a.Key.size < 1000000:=by have:=h.key;omega
 have hss:a.S.size < 1000000:=by have:=h.s;split at this <;> omega
 unfold actB at hb ⊢
 simp only [List.length_append] at hb
 unfold Zo7
 rw [hq.of,Option.bind_some,hku]
 refine (Zmi (Zpl (v:=a.Kind.toNat) (by omega)) (by omega) _).trans ?_
 refine (Zmi (Zbab a.Must) (by simp only [List.length_append];omega) _).trans ?_
 refine (Zmi (Zy1 hks) (by simp only [List.length_append];omega) _).trans ?_
 rw [hq.n,Option.bind_some]
 refine (optP (put:=fun w=>Zfs w a.N) (bs:=aN a) (fun hc=>?_) (fun hc=>?_) (by simp only [List.length_append];omega) (Zls a q)).trans ?_
 ·rw [aN,if_pos hc];exact Zyv h.num.1 h.num.2
 ·rw [aN,if_neg (by simp [hc])]
 unfold Zls
 rw [hq.x,Option.bind_some]
 refine (optP (put:=fun w=>Zfr w a.X) (bs:=aX a) (fun hc=>?_) (fun hc=>?_) (by simp only [List.length_append];omega) (Zlr a q)).trans ?_
 ·rw [aX,if_pos hc];exact Z4e h.x.1 h.x.2
 ·rw [aX,if_neg (by simp [hc])]
 unfold Zlr
 rw [hq.s,Option.bind_some]
 refine (optP (put:=fun w=>Zfp w a.S) (bs:=aS a) (fun hc=>?_) (fun hc=>?_) (by simp only [List.length_append];omega) (Zlt a q)).trans ?_
 ·rw [aS,if_pos hc];exact Zy1 hss
 ·rw [aS,if_neg (by simp [hc])]
 unfold Zlt
 rw [hq.m,Option.bind_some]
 refine (optP (put:=fun w=>Zqa w a.Make) (bs:=aM a) (fun hc=>?_) (fun hc=>?_) (by simp only [List.length_append];omega) Zly).trans ?_
 ·rw [aM,if_pos hc];exact Zbc3 (h.mkr hc).1
 ·rw [aM,if_neg (by simp [hc])]
 unfold Zly
 simp only [List.append_assoc]
theorem Zbax {a:Zs} (h:AB a) (hc:Ze4 a=some 0):Zph Zr2 (actB a) a:=fun X i post hX hd=>by
 obtain ⟨q,hq⟩:=Z82 h.k1 h.k21
 have k1:=h.k1;have k21:=h.k21
 have hk:((a.Kind.toNat:Nat):Int)=a.Kind:=by omega
 have hks:(a.Key.size:Int) ≤ 24:=by have:=h.key;omega
 have hd0:X.drop i=W a.Kind.toNat ++ (fl a.Must ++ ((W a.Key.size ++ bts a.Key) ++ (aN a ++ (aX a ++ (aS a ++ (aM a ++ post)))))):=by rw [hd];unfold actB;simp only [List.append_assoc]
 have hd1:=Zdm hd0
 have hd2:=Zdm hd1
 have hd3:=Zdm hd2
 have hd4:=Zdm hd3
 have hd5:=Zdm hd4
 have hd6:=Zdm hd5
 unfold Zr2
 refine (Zm9 (Zl9 (v:=a.Kind.toNat) (l:=21) (by omega) (by decide)) hX hd0 (fun x R=>if (({ (default:Zs) with Kind:=x }:Zs).Kind == (0:Int)) then ((Zdg R (5:Int)).bind fun r4=>(Zk8 (x,R) r4)) else (Zk8 (x,R) R))).trans ?_
 simp only [hk]
 rw [if_neg (by simp;omega)]
 unfold Zk8
 simp only []
 rw [hq.of,Option.bind_some]
 refine (Zm9 (Z8n a.Must) hX hd1 (fun x R=>(Zem R (24:Int)).bind fun r11=>((Zbu q (110:Int)).bind fun r13=>(if r13 then ((Zek r11.2).bind fun r16=>(Zhi q ⟨a.Kind,r11.1,r16.1,0,ByteArray.empty,zrc,x⟩ r16.2)) else (Zhi q ⟨a.Kind,r11.1,0,0,ByteArray.empty,zrc,x⟩ r11.2))))).trans ?_
 refine (Zm9 (Zwl hks (by decide)) hX hd2 (fun x R=>((Zbu q (110:Int)).bind fun r13=>(if r13 then ((Zek R).bind fun r16=>(Zhi q ⟨a.Kind,x,r16.1,0,ByteArray.empty,zrc,a.Must⟩ r16.2)) else (Zhi q ⟨a.Kind,x,0,0,ByteArray.empty,zrc,a.Must⟩ R))))).trans ?_
 rw [hq.n,Option.bind_some]
 refine (optT (take:=Zek) (bs:=aN a) (x:=a.N) (fun s R=>Zhi q ⟨a.Kind,a.Key,s,0,ByteArray.empty,zrc,a.Must⟩ R) (fun hc=>?_) (fun hc=>?_) hX hd3).trans ?_
 ·rw [aN,if_pos hc];exact Zwm h.num.1 h.num.2
 ·rw [aN,if_neg (by simp [hc]),h.n0 hc];exact ⟨rfl,rfl⟩
 unfold Zhi
 rw [hq.x,Option.bind_some]
 refine (optT (take:=Zgj) (bs:=aX a) (x:=a.X) (fun s R=>Zm5 q ⟨a.Kind,a.Key,a.N,s,ByteArray.empty,zrc,a.Must⟩ R) (fun hc=>?_) (fun hc=>?_) hX hd4).trans ?_
 ·rw [aX,if_pos hc];exact Z0l h.x.1 h.x.2
 ·rw [aX,if_neg (by simp [hc]),h.x0 hc];exact ⟨rfl,rfl⟩
 unfold Zm5
 rw [hq.s,hq.most,Option.bind_some]
 refine (optT (take:=fun r=>(some (if 5 ≤ a.Kind ∧ a.Kind ≤ 6 then (64:Int) else 16)).bind fun l=>Zem r l) (bs:=aS a) (x:=a.S) (fun s R=>Zm3 q ⟨a.Kind,a.Key,a.N,a.X,s,zrc,a.Must⟩ R) (fun hc=>?_) (fun hc=>?_) hX hd5).trans ?_
 ·rw [aS,if_pos hc]
  have hs:=h.s
  refine Zwl ?_ ?_
  ·split at hs
   ·rename_i h1;rw [if_pos h1];omega
   ·rename_i h1;rw [if_neg h1];omega
  ·split <;> decide
 ·rw [aS,if_neg (by simp [hc]),h.s0 hc];exact ⟨rfl,rfl⟩
 unfold Zm3
 rw [hq.m,Option.bind_some]
 refine (optT (take:=Zp1) (bs:=aM a) (x:=a.Make) (fun s R=>Zm0 ⟨a.Kind,a.Key,a.N,a.X,a.S,s,a.Must⟩ R) (fun hc=>?_) (fun hc=>?_) hX hd6).trans ?_
 ·rw [aM,if_pos hc];exact Zbak (h.mkr hc).1 (h.mkr hc).2
 ·rw [aM,if_neg (by simp [hc]),h.m0 hc];exact ⟨rfl,rfl⟩
 unfold Zm0
 rw [show Ze4 ⟨a.Kind,a.Key,a.N,a.X,a.S,a.Make,a.Must⟩=some 0 from hc,Option.bind_some,if_neg (by simp)]
 unfold Zol actB
 simp only [List.length_append,Nat.add_assoc]
abbrev KV:=ByteArray × Zb
def toL:shelf_nodeT → List KV
 | .nil=>[]
 | .node k r l rr _=>toL l ++ (k,r) :: toL rr
def Szd:shelf_nodeT → Prop
 | .nil=>True
 | .node k r l rr s=>Szd l ∧ Szd rr ∧ s=(((toL l).length + (toL rr).length + 1:Nat):Int)
def Srt (l:List KV):Prop:=l.Pairwise fun p q=>sLt p.1 q.1=true
theorem Zja {t:shelf_nodeT} (h:Szd t):Zc1 t=some ((toL t).length:Int):=by
 cases t with
 | nil=>rfl
 | node k r l rr s =>
  obtain ⟨_,_,h3⟩:=h
  simp [Zc1,shelf_nodeT.isNil,shelf_nodeT.un,toL,h3]
  omega
theorem Zbf6 {k:ByteArray} {x:Zb} {l r:shelf_nodeT} (hl:Szd l) (hr:Szd r) (bl:(toL l).length < 1099511627776) (br:(toL r).length < 1099511627776) :
  Zeb k x l r=some (.node k x l r (((toL l).length + (toL r).length + 1:Nat):Int)):=by
 unfold Zeb
 rw [Zja hl,Zja hr]
 simp only [Option.bind_some,shelf_node.up]
 rw [wr (x:=(toL l).length + (toL r).length) (by omega) (by omega),wr (by omega) (by omega)]
 rfl
theorem Zj0 {k:ByteArray} {x:Zb} {l r:shelf_nodeT} (hl:Szd l) (hr:Szd r) (bl:(toL l).length < 1099511627776) (br:(toL r).length < 1099511627776) :
  ∃ t,Zeb k x l r=some t ∧ Szd t ∧ toL t=toL l ++ (k,x) :: toL r:=⟨_,Zbf6 hl hr bl br,⟨hl,hr,rfl⟩,rfl⟩
def Zqy (a b:shelf_nodeT):Bool:=decide (3 * ((toL b).length + 1) < (toL a).length + 1)
theorem Z3n {a b:shelf_nodeT} (ha:Szd a) (hb:Szd b) (ba:(toL a).length < 1099511627776) (bb:(toL b).length < 1099511627776):Zjw a b=some (Zqy a b):=by
 unfold Zjw Zqy
 rw [Zja ha,Zja hb]
 simp only [Option.bind_some]
 rw [wr (x:=((toL b).length:Int) + 1) (by omega) (by omega),wr (x:=((toL a).length:Int) + 1) (by omega) (by omega),wr (by omega) (by omega)]
 congr 1
 apply decide_eq_decide.2
 omega
theorem Zzl {t:shelf_nodeT} (h:0 < (toL t).length):∃ k r l rr s,t=.node k r l rr s:=by
 cases t with
 | nil=>simp [toL] at h
 | node k r l rr s=>exact ⟨k,r,l,rr,s,rfl⟩
theorem Zs0 {k:ByteArray} {x:Zb} {l r:shelf_nodeT} (hl:Szd l) (hr:Szd r) (bl:(toL l).length < 1099511627776) (br:(toL r).length < 1099511627776) (bs:(toL l).length + (toL r).length + 1 < 1099511627776) :
  ∃ t,Zjp k x l r=some t ∧ Szd t ∧ toL t=toL l ++ (k,x) :: toL r:=by
 unfold Zjp
 rw [Z3n hr hl br bl,Z3n hl hr bl br]
 simp only [Option.bind_some]
 by_cases h1:Zqy r l=true
 ·have hlen:0 < (toL r).length:=by
   unfold Zqy at h1
   have:=of_decide_eq_true h1
   omega
  obtain ⟨rk,rx,rl,rr,rs,rfl⟩:=Zzl hlen
  obtain ⟨s1,s2,s3⟩:=hr
  have e:(toL (shelf_nodeT.node rk rx rl rr rs)).length=(toL rl).length + (toL rr).length + 1:=by simp [toL];omega
  rw [e] at br bs
  simp only [h1,gd_t,shelf_nodeT.un,Option.bind_some,if_true]
  rw [Zja s1,Zja s2]
  simp only [Option.bind_some,Bool.true_and]
  by_cases h2:(decide (IntKind.i64.wrap (((toL rl).length:Int) + 1) < IntKind.i64.wrap (2 * IntKind.i64.wrap (((toL rr).length:Int) + 1))))=true
  ·rw [if_pos h2]
   obtain ⟨t1,e1,z1,l1⟩:=Zj0 (k:=k) (x:=x) hl s1 bl (by omega)
   have b1:(toL t1).length < 1099511627776:=by rw [l1];simp;omega
   obtain ⟨t2,e2,z2,l2⟩:=Zj0 (k:=rk) (x:=rx) z1 s2 b1 (by omega)
   exact ⟨t2,by rw [e1];simp only [Option.bind_some];rw [e2];rfl,z2,by rw [l2,l1];simp [toL]⟩
  ·rw [if_neg h2]
   have hlen2:0 < (toL rl).length:=by
    rw [wr (x:=((toL rr).length:Int) + 1) (by omega) (by omega),wr (x:=((toL rl).length:Int) + 1) (by omega) (by omega),wr (by omega) (by omega)] at h2
    have:¬ ((toL rl).length:Int) + 1 < 2 * ((toL rr).length + 1):=by simpa using h2
    omega
   obtain ⟨lk,lx,ll,lr,ls,rfl⟩:=Zzl hlen2
   obtain ⟨q1,q2,q3⟩:=s1
   have e':(toL (shelf_nodeT.node lk lx ll lr ls)).length=(toL ll).length + (toL lr).length + 1:=by simp [toL];omega
   rw [e'] at br bs
   simp only [shelf_nodeT.un,Option.bind_some]
   obtain ⟨t1,e1,z1,l1⟩:=Zj0 (k:=k) (x:=x) hl q1 bl (by omega)
   obtain ⟨t2,e2,z2,l2⟩:=Zj0 (k:=rk) (x:=rx) q2 s2 (by omega) (by omega)
   have b1:(toL t1).length < 1099511627776:=by rw [l1];simp;omega
   have b2:(toL t2).length < 1099511627776:=by rw [l2];simp;omega
   obtain ⟨t3,e3,z3,l3⟩:=Zj0 (k:=lk) (x:=lx) z1 z2 b1 b2
   exact ⟨t3,by rw [e1];simp only [Option.bind_some];rw [e2];simp only [Option.bind_some];rw [e3];rfl,z3,by rw [l3,l1,l2];simp [toL]⟩
 ·have h1':Zqy r l=false:=by simpa using h1
  simp only [h1',gd_f,Option.bind_some,Bool.false_and,Bool.false_eq_true,if_false]
  by_cases h3:Zqy l r=true
  ·have hlen:0 < (toL l).length:=by
    unfold Zqy at h3
    have:=of_decide_eq_true h3
    omega
   obtain ⟨rk,rx,rl,rr,rs,rfl⟩:=Zzl hlen
   obtain ⟨s1,s2,s3⟩:=hl
   have e:(toL (shelf_nodeT.node rk rx rl rr rs)).length=(toL rl).length + (toL rr).length + 1:=by simp [toL];omega
   rw [e] at bl bs
   simp only [h3,gd_t,shelf_nodeT.un,Option.bind_some,if_true]
   rw [Zja s2,Zja s1]
   simp only [Zc1,shelf_nodeT.isNil,if_true,Option.bind_some,Bool.true_and]
   by_cases h2:(decide (IntKind.i64.wrap (((toL rr).length:Int) + 1) < IntKind.i64.wrap (2 * IntKind.i64.wrap (((toL rl).length:Int) + 1))))=true
   ·rw [if_pos h2]
    obtain ⟨t1,e1,z1,l1⟩:=Zj0 (k:=k) (x:=x) s2 hr (by omega) br
    have b1:(toL t1).length < 1099511627776:=by rw [l1];simp;omega
    obtain ⟨t2,e2,z2,l2⟩:=Zj0 (k:=rk) (x:=rx) s1 z1 (by omega) b1
    exact ⟨t2,by rw [e1];simp only [Option.bind_some];rw [e2];rfl,z2,by rw [l2,l1];simp [toL]⟩
   ·rw [if_neg h2]
    have hlen2:0 < (toL rr).length:=by
     rw [wr (x:=((toL rl).length:Int) + 1) (by omega) (by omega),wr (x:=((toL rr).length:Int) + 1) (by omega) (by omega),wr (by omega) (by omega)] at h2
     have:¬ ((toL rr).length:Int) + 1 < 2 * ((toL rl).length + 1):=by simpa using h2
     omega
    obtain ⟨lk,lx,ll,lr,ls,rfl⟩:=Zzl hlen2
    obtain ⟨q1,q2,q3⟩:=s2
    have e':(toL (shelf_nodeT.node lk lx ll lr ls)).length=(toL ll).length + (toL lr).length + 1:=by simp [toL];omega
    rw [e'] at bl bs
    simp only [shelf_nodeT.un,Option.bind_some]
    obtain ⟨t1,e1,z1,l1⟩:=Zj0 (k:=rk) (x:=rx) s1 q1 (by omega) (by omega)
    obtain ⟨t2,e2,z2,l2⟩:=Zj0 (k:=k) (x:=x) q2 hr (by omega) br
    have b1:(toL t1).length < 1099511627776:=by rw [l1];simp;omega
    have b2:(toL t2).length < 1099511627776:=by rw [l2];simp;omega
    obtain ⟨t3,e3,z3,l3⟩:=Zj0 (k:=lk) (x:=lx) z1 z2 b1 b2
    exact ⟨t3,by rw [e1];simp only [Option.bind_some];rw [e2];simp only [Option.bind_some];rw [e3];rfl,z3,by rw [l3,l1,l2];simp [toL]⟩
  ·have h3':Zqy l r=false:=by simpa using h3
   simp only [h3',gd_f,Option.bind_some,Bool.false_and,Bool.false_eq_true,if_false]
   obtain ⟨t1,e1,z1,l1⟩:=Zj0 (k:=k) (x:=x) hl hr bl br
   exact ⟨t1,by rw [e1];simp [Zc1,shelf_nodeT.isNil,shelf_nodeT.un,Option.bind_some,gd],z1,l1⟩
def insL (k:ByteArray) (x:Zb):List KV → List KV
 | []=>[(k,x)]
 | p :: l=>if sLt k p.1 then (k,x) :: p :: l else if sEq k p.1 then (k,x) :: l else p :: insL k x l
def delL (k:ByteArray):List KV → List KV
 | []=>[]
 | p :: l=>if sEq k p.1 then l else p :: delL k l
theorem Zr7 (k:ByteArray) (x:Zb):∀ l:List KV,(insL k x l).length ≤ l.length + 1
 | []=>by simp [insL]
 | p :: l=>by
  have:=Zr7 k x l
  simp only [insL]
  split
  ·simp
  ·split <;> simp <;> omega
theorem Ztt (k:ByteArray):∀ l:List KV,(delL k l).length ≤ l.length
 | []=>by simp [delL]
 | p :: l=>by
  have:=Ztt k l
  simp only [delL]
  split <;> simp <;> omega
theorem Z68 {k:ByteArray} {x:Zb} {p:KV} {B:List KV} (h:sLt k p.1=true):∀ A:List KV,insL k x (A ++ p :: B)=insL k x A ++ p :: B
 | []=>by simp [insL,h]
 | q :: A=>by
  simp only [List.cons_append,insL]
  split
  ·rfl
  ·split
   ·rfl
   ·rw [Z68 h A];rfl
theorem Zva {k:ByteArray} {x:Zb} {B:List KV}:∀ A:List KV,(∀ q ∈ A,sLt q.1 k=true) → insL k x (A ++ B)=A ++ insL k x B
 | [],_=>rfl
 | q :: A,h=>by
  have hq:=h q (by simp)
  have h1:sLt k q.1=false:=Zx9 hq
  have h2:sEq k q.1=false:=Zff.2 (fun e=>Zpu hq e.symm)
  simp only [List.cons_append,insL,h1,h2,Bool.false_eq_true,if_false]
  rw [Zva A fun q hq=>h q (by simp [hq])]
theorem Zbfl {k:ByteArray} {x:Zb} {p:KV} {B:List KV} (h:k=p.1):insL k x (p :: B)=(k,x) :: B:=by
 simp [insL,h,Zo6,Zfj]
theorem Zbgf {k:ByteArray} {x:Zb} {p:KV} {B:List KV} (h:sLt p.1 k=true):insL k x (p :: B)=p :: insL k x B:=by
 have h1:sLt k p.1=false:=Zx9 h
 have h2:sEq k p.1=false:=Zff.2 (fun e=>Zpu h e.symm)
 simp [insL,h1,h2]
theorem Zt1 {k:ByteArray}:∀ l:List KV,(∀ q ∈ l,q.1 ≠ k) → delL k l=l
 | [],_=>rfl
 | p :: l,h=>by
  have:sEq k p.1=false:=Zff.2 (fun e=>h p (by simp) e.symm)
  simp only [delL,this,Bool.false_eq_true,if_false]
  rw [Zt1 l fun q hq=>h q (by simp [hq])]
theorem Z7q {k:ByteArray} {p:KV} {B:List KV} (h:sLt k p.1=true) (hB:∀ q ∈ B,sLt p.1 q.1=true):∀ A:List KV,delL k (A ++ p :: B)=delL k A ++ p :: B
 | []=>by
  have h1:sEq k p.1=false:=Zff.2 (Zpu h)
  simp only [List.nil_append,delL,h1,Bool.false_eq_true,if_false]
  rw [Zt1 B fun q hq e=>by
   have:=Zhc h (hB q hq)
   rw [e,Zo6] at this;cases this]
 | q :: A=>by
  simp only [List.cons_append,delL]
  split
  ·rfl
  ·rw [Z7q h hB A];rfl
theorem Zvv {k:ByteArray} {B:List KV}:∀ A:List KV,(∀ q ∈ A,sLt q.1 k=true) → delL k (A ++ B)=A ++ delL k B
 | [],_=>rfl
 | q :: A,h=>by
  have hq:=h q (by simp)
  have h2:sEq k q.1=false:=Zff.2 (fun e=>Zpu hq e.symm)
  simp only [List.cons_append,delL,h2,Bool.false_eq_true,if_false]
  rw [Zvv A fun q hq=>h q (by simp [hq])]
theorem Zz8 {A B:List KV} {p:KV} (h:Srt (A ++ p :: B)):Srt A ∧ Srt B ∧ (∀ q ∈ A,sLt q.1 p.1=true) ∧ (∀ q ∈ B,sLt p.1 q.1=true):=by
 obtain ⟨h1,h2,h3⟩:=List.pairwise_append.1 h
 obtain ⟨h4,h5⟩:=List.pairwise_cons.1 h2
 exact ⟨h1,h5,fun q hq=>h3 q hq p (by simp),h4⟩
theorem Zws {k:ByteArray} {x:Zb}:∀ {l:List KV} {q:KV},q ∈ insL k x l → q=(k,x) ∨ q ∈ l
 | [],q,h=>by simp [insL] at h;exact .inl h
 | p :: l,q,h=>by
  simp only [insL] at h
  split at h
  ·rcases List.mem_cons.1 h with h | h
   ·exact .inl h
   ·exact .inr h
  ·split at h
   ·rcases List.mem_cons.1 h with h | h
    ·exact .inl h
    ·exact .inr (List.mem_cons_of_mem _ h)
   ·rcases List.mem_cons.1 h with h | h
    ·exact .inr (by simp [h])
    ·rcases Zws h with h | h
     ·exact .inl h
     ·exact .inr (List.mem_cons_of_mem _ h)
theorem Zwn {k:ByteArray}:∀ {l:List KV} {q:KV},q ∈ delL k l → q ∈ l
 | [],q,h=>by simp [delL] at h
 | p :: l,q,h=>by
  simp only [delL] at h
  split at h
  ·exact List.mem_cons_of_mem _ h
  ·rcases List.mem_cons.1 h with h | h
   ·simp [h]
   ·exact List.mem_cons_of_mem _ (Zwn h)
theorem Z67 {k:ByteArray} {x:Zb}:∀ {l:List KV},Srt l → Srt (insL k x l)
 | [],_=>List.pairwise_singleton ..
 | p :: l,h=>by
  obtain ⟨h1,h2⟩:=List.pairwise_cons.1 h
  simp only [insL]
  split
  ·rename_i hk
   refine List.pairwise_cons.2 ⟨fun q hq=>?_,h⟩
   rcases List.mem_cons.1 hq with rfl | hq
   ·exact hk
   ·exact Zhc hk (h1 q hq)
  ·rename_i hk
   split
   ·rename_i he
    have he:=Zj2.1 he
    exact List.pairwise_cons.2 ⟨fun q hq=>by rw [he];exact h1 q hq,h2⟩
   ·rename_i he
    have hlt:sLt p.1 k=true:=Zp2 (by simpa using hk) (fun e=>he (Zj2.2 e))
    refine List.pairwise_cons.2 ⟨fun q hq=>?_,Z67 h2⟩
    rcases Zws hq with rfl | hq
    ·exact hlt
    ·exact h1 q hq
theorem Z7t {k:ByteArray}:∀ {l:List KV},Srt l → Srt (delL k l)
 | [],h=>h
 | p :: l,h=>by
  obtain ⟨h1,h2⟩:=List.pairwise_cons.1 h
  simp only [delL]
  split
  ·exact h2
  ·exact List.pairwise_cons.2 ⟨fun q hq=>h1 q (Zwn hq),Z7t h2⟩
theorem Z3y:∀ (n:Nat) (t:shelf_nodeT) (k:ByteArray) (x:Zb),t.hh < n → Szd t → Srt (toL t) → (toL t).length + 2 < 1099511627776 →
  ∃ t',Zgf n t k x=some t' ∧ Szd t' ∧ toL t'=insL k x (toL t)
 | 0,t,k,x,h,_,_,_=>by omega
 | n + 1,.nil,k,x,_,_,_,_=>by
  obtain ⟨t1,e1,z1,l1⟩:=Zj0 (k:=k) (x:=x) (l:=.nil) (r:=.nil) trivial trivial (by simp [toL]) (by simp [toL])
  refine ⟨t1,?_,z1,by rw [l1];rfl⟩
  simp only [Zgf,Zkj,shelf_nodeT.isNil,if_true]
  rw [e1];rfl
 | n + 1,.node nk nx l r s,k,x,hh,hz,hs,hb=>by
  obtain ⟨z1,z2,z3⟩:=hz
  simp only [toL] at hs hb
  obtain ⟨s1,s2,sA,sB⟩:=Zz8 hs
  have hlen:(toL l ++ (nk,nx) :: toL r).length=(toL l).length + (toL r).length + 1:=by simp;omega
  rw [hlen] at hb
  simp only [shelf_nodeT.hh] at hh
  simp only [Zgf,Zkj,shelf_nodeT.isNil,shelf_nodeT.un,Bool.false_eq_true,if_false,Option.bind_some]
  by_cases h1:sLt k nk=true
  ·rw [if_pos h1]
   obtain ⟨t1,e1,y1,l1⟩:=Z3y n l k x (by omega) z1 s1 (by omega)
   have b1:=Zr7 k x (toL l)
   rw [← l1] at b1
   obtain ⟨t2,e2,y2,l2⟩:=Zs0 (k:=nk) (x:=nx) y1 z2 (by omega) (by omega) (by omega)
   refine ⟨t2,by rw [e1];simp only [Option.bind_some];rw [e2];rfl,y2,?_⟩
   rw [l2,l1];simp only [toL];rw [Z68 (by exact h1)]
  ·rw [if_neg h1]
   by_cases h2:k=nk
   ·subst h2
    have he:(!(sLt k k || sEq k k))=false:=by simp [Zfj]
    rw [he]
    simp only [Bool.false_eq_true,if_false]
    obtain ⟨t1,e1,y1,l1⟩:=Zj0 (k:=k) (x:=x) z1 z2 (by omega) (by omega)
    refine ⟨t1,by rw [e1];rfl,y1,?_⟩
    rw [l1];simp only [toL]
    rw [Zva _ (fun q hq=>sA q hq),Zbfl rfl]
   ·have h3:sLt nk k=true:=Zp2 (by simpa using h1) h2
    have he:(!(sLt k nk || sEq k nk))=true:=by simp [Zff.2 h2];simpa using h1
    rw [he]
    simp only [if_true]
    obtain ⟨t1,e1,y1,l1⟩:=Z3y n r k x (by omega) z2 s2 (by omega)
    have b1:=Zr7 k x (toL r)
    rw [← l1] at b1
    obtain ⟨t2,e2,y2,l2⟩:=Zs0 (k:=nk) (x:=nx) z1 y1 (by omega) (by omega) (by omega)
    refine ⟨t2,by rw [e1];simp only [Option.bind_some];rw [e2];rfl,y2,?_⟩
    rw [l2,l1];simp only [toL]
    rw [Zva _ (fun q hq=>Zhc (sA q hq) h3),Zbgf h3]
theorem Z69 {t:shelf_nodeT} {k:ByteArray} {x:Zb} (hz:Szd t) (hs:Srt (toL t)) (hb:(toL t).length + 2 < 1099511627776) :
  ∃ t',Zqf t k x=some t' ∧ Szd t' ∧ toL t'=insL k x (toL t):=Z3y _ t k x (Nat.lt_succ_self _) hz hs hb
theorem Z4j:∀ (n:Nat) (t:shelf_nodeT),t.hh < n → t.isNil=false → ∃ t' k x l r s B,Zf5 n t=some t' ∧ t'=.node k x l r s ∧ toL t=(k,x) :: B
 | 0,t,h,_=>by omega
 | n + 1,.nil,_,h=>by cases h
 | n + 1,.node k x l r s,hh,_=>by
  simp only [shelf_nodeT.hh] at hh
  simp only [Zf5,shelf_nodeT.un,Option.bind_some]
  cases l with
  | nil=>exact ⟨_,k,x,.nil,r,s,toL r,rfl,rfl,rfl⟩
  | node k2 x2 l2 r2 s2 =>
   obtain ⟨t',k',x',l',r',s',B,e1,e2,e3⟩:=Z4j n (.node k2 x2 l2 r2 s2) (by omega) rfl
   exact ⟨t',k',x',l',r',s',B ++ (k,x) :: toL r,by simp [shelf_nodeT.isNil];exact e1,e2,by
    simp only [toL] at e3 ⊢
    rw [e3];rfl⟩
theorem Zyw:∀ (n:Nat) (t:shelf_nodeT) (k:ByteArray),t.hh < n → Szd t → Srt (toL t) → (toL t).length + 2 < 1099511627776 →
  ∃ t',Zg8 n t k=some t' ∧ Szd t' ∧ toL t'=delL k (toL t)
 | 0,t,k,h,_,_,_=>by omega
 | n + 1,.nil,k,_,_,_,_=>⟨.nil,rfl,trivial,rfl⟩
 | n + 1,.node nk nx l r s,k,hh,hz,hs,hb=>by
  obtain ⟨z1,z2,z3⟩:=hz
  simp only [toL] at hs hb
  obtain ⟨s1,s2,sA,sB⟩:=Zz8 hs
  have hlen:(toL l ++ (nk,nx) :: toL r).length=(toL l).length + (toL r).length + 1:=by simp;omega
  rw [hlen] at hb
  simp only [shelf_nodeT.hh] at hh
  simp only [Zg8,Zmn,shelf_nodeT.isNil,shelf_nodeT.un,Bool.false_eq_true,if_false,Option.bind_some]
  by_cases h1:sLt k nk=true
  ·rw [if_pos h1]
   obtain ⟨t1,e1,y1,l1⟩:=Zyw n l k (by omega) z1 s1 (by omega)
   have b1:=Ztt k (toL l)
   rw [← l1] at b1
   obtain ⟨t2,e2,y2,l2⟩:=Zs0 (k:=nk) (x:=nx) y1 z2 (by omega) (by omega) (by omega)
   refine ⟨t2,by rw [e1];simp only [Option.bind_some];rw [e2];rfl,y2,?_⟩
   rw [l2,l1];simp only [toL];rw [Z7q (by exact h1) (fun q hq=>sB q hq)]
  ·rw [if_neg h1]
   by_cases h2:k=nk
   ·subst h2
    have he:(!(sLt k k || sEq k k))=false:=by simp [Zfj]
    rw [he]
    simp only [Bool.false_eq_true,if_false]
    have hdel:delL k (toL l ++ (k,nx) :: toL r)=toL l ++ toL r:=by
     rw [Zvv _ (fun q hq=>sA q hq)]
     simp [delL,Zfj]
    cases hl:l with
    | nil=>exact ⟨r,by simp [shelf_nodeT.isNil,shelf_nodeT.un],z2,by show toL r=delL k (toL .nil ++ (k,nx) :: toL r);rw [← hl,hdel,hl];rfl⟩
    | node k2 x2 l2 r2 q2 =>
     cases hr:r with
     | nil=>exact ⟨l,by simp [shelf_nodeT.isNil,shelf_nodeT.un,hl],z1,by rw [← hl,← hr];show toL l=delL k (toL l ++ (k,nx) :: toL r);rw [hdel,hr];simp [toL]⟩
     | node k3 x3 l3 r3 q3 =>
      rw [← hl,← hr]
      have hn:r.isNil=false:=by rw [hr];rfl
      have hn1:l.isNil=false:=by rw [hl];rfl
      obtain ⟨t',k',x',l',r',s',B,e1,e2,e3⟩:=Z4j (r.hh + 1) r (Nat.lt_succ_self _) hn
      subst e2
      have hf:Zj4 r=some (.node k' x' l' r' s'):=by
       unfold Zj4;rw [e1];rfl
      obtain ⟨t1,c1,y1,l1⟩:=Zyw n r k' (by omega) z2 s2 (by omega)
      have hB:toL t1=B:=by rw [l1,e3];simp [delL,Zfj]
      have hBl:B.length + 1=(toL r).length:=by rw [e3];simp
      obtain ⟨t2,c2,y2,l2⟩:=Zs0 (k:=k') (x:=x') z1 y1 (by omega) (by rw [hB];omega) (by rw [hB];omega)
      refine ⟨t2,?_,y2,?_⟩
      ·simp only [hf,Option.bind_some,shelf_nodeT.un,c1,c2]
       show (if l.isNil=true then some r else if r.isNil=true then some l else some t2)=some t2
       rw [hn,hn1];rfl
      ·show toL t2=delL k (toL l ++ (k,nx) :: toL r)
       rw [hdel,l2,hB,e3]
   ·have h3:sLt nk k=true:=Zp2 (by simpa using h1) h2
    have he:(!(sLt k nk || sEq k nk))=true:=by simp [Zff.2 h2];simpa using h1
    rw [he]
    simp only [if_true]
    obtain ⟨t1,e1,y1,l1⟩:=Zyw n r k (by omega) z2 s2 (by omega)
    have b1:=Ztt k (toL r)
    rw [← l1] at b1
    obtain ⟨t2,e2,y2,l2⟩:=Zs0 (k:=nk) (x:=nx) z1 y1 (by omega) (by omega) (by omega)
    refine ⟨t2,by rw [e1];simp only [Option.bind_some];rw [e2];rfl,y2,?_⟩
    rw [l2,l1];simp only [toL]
    rw [Zvv _ (fun q hq=>Zhc (sA q hq) h3)]
    simp [delL,Zff.2 h2]
theorem Zbe1 {t:shelf_nodeT} {k:ByteArray} (hz:Szd t) (hs:Srt (toL t)) (hb:(toL t).length + 2 < 1099511627776) :
  ∃ t',Zqc t k=some t' ∧ Szd t' ∧ toL t'=delL k (toL t):=Zyw _ t k (Nat.lt_succ_self _) hz hs hb
def lk (k:ByteArray):List KV → Option Zb
 | []=>none
 | p :: l=>if sEq k p.1 then some p.2 else lk k l
def rk (k:ByteArray):List KV → Nat
 | []=>0
 | p :: l=>if sLt p.1 k then rk k l + 1 else 0
theorem Zyd {k:ByteArray}:∀ {l:List KV},(∀ q ∈ l,q.1 ≠ k) → lk k l=none
 | [],_=>rfl
 | p :: l,h=>by
  have:sEq k p.1=false:=Zff.2 (fun e=>h p (by simp) e.symm)
  simp only [lk,this,Bool.false_eq_true,if_false]
  exact Zyd fun q hq=>h q (by simp [hq])
theorem Zbd4 {k:ByteArray} {p:KV} {B:List KV} (h:sLt k p.1=true) (hB:∀ q ∈ B,sLt p.1 q.1=true):∀ A:List KV,lk k (A ++ p :: B)=lk k A
 | []=>by
  have h1:sEq k p.1=false:=Zff.2 (Zpu h)
  simp only [List.nil_append,lk,h1,Bool.false_eq_true,if_false]
  exact Zyd fun q hq e=>by
   have:=Zhc h (hB q hq)
   rw [e,Zo6] at this;cases this
 | q :: A=>by
  simp only [List.cons_append,lk]
  split
  ·rfl
  ·exact Zbd4 h hB A
theorem Z06 {k:ByteArray} {B:List KV}:∀ A:List KV,(∀ q ∈ A,sLt q.1 k=true) → lk k (A ++ B)=lk k B
 | [],_=>rfl
 | q :: A,h=>by
  have hq:=h q (by simp)
  have h2:sEq k q.1=false:=Zff.2 (fun e=>Zpu hq e.symm)
  simp only [List.cons_append,lk,h2,Bool.false_eq_true,if_false]
  exact Z06 A fun q hq=>h q (by simp [hq])
theorem Z2u (k:ByteArray):∀ l:List KV,rk k l ≤ l.length
 | []=>by simp [rk]
 | p :: l=>by
  have:=Z2u k l
  simp only [rk]
  split <;> simp <;> omega
def Cl (x:Zb):Prop:=x.List.length ≤ 1000
theorem Ztl {x:Zb} (h:Cl x):Zf0 x=some x:=by
 unfold Zf0 Zb9
 unfold Cl at h
 rw [if_pos (by omega)]
 rfl
abbrev zrec:Zb:={ Kind:=0,Num:=0,Low:=0,High:=0,Real:=0,Cap:=0,Text:=ByteArray.empty,List:=[] }
def getR:Option Zb → Zb × Bool
 | some r=>(r,true)
 | none=>(zrec,false)
def getE (x:Zb):Option Zb → (Zb × Bool) ⊕ Zb
 | some r=>.inl (r,true)
 | none=>.inr x
theorem Zx4 (k:ByteArray) (x:Zb):∀ (n:Nat) (t:shelf_nodeT),t.hh < n → Srt (toL t) → (∀ q ∈ toL t,Cl q.2) → Zeo k n x t=some (getE x (lk k (toL t)))
 | 0,t,h,_,_=>by omega
 | n + 1,.nil,_,_,_=>rfl
 | n + 1,.node nk nx l r s,hh,hs,hc=>by
  simp only [toL] at hs hc
  obtain ⟨s1,s2,sA,sB⟩:=Zz8 hs
  simp only [shelf_nodeT.hh] at hh
  simp only [Zeo,shelf_nodeT.isNil,shelf_nodeT.un,Bool.not_false,if_true,Option.bind_some,Zi0,toL]
  by_cases h1:sLt k nk=true
  ·rw [if_pos h1,Zx4 k x n l (by omega) s1 (fun q hq=>hc q (by simp [hq])),Zbd4 (by exact h1) (fun q hq=>sB q hq)]
  ·rw [if_neg h1]
   by_cases h2:k=nk
   ·subst h2
    have he:(!(sLt k k || sEq k k))=false:=by simp [Zfj]
    rw [he]
    simp only [Bool.false_eq_true,if_false]
    rw [Ztl (hc (k,nx) (by simp)),Z06 _ (fun q hq=>sA q hq)]
    simp [lk,Zfj,getE]
   ·have h3:sLt nk k=true:=Zp2 (by simpa using h1) h2
    have he:(!(sLt k nk || sEq k nk))=true:=by simp [Zff.2 h2];simpa using h1
    rw [he]
    simp only [if_true]
    rw [Zx4 k x n r (by omega) s2 (fun q hq=>hc q (by simp [hq])),Z06 _ (fun q hq=>Zhc (sA q hq) h3)]
    simp [lk,Zff.2 h2]
theorem Zbii {s:Zp} {k:ByteArray} (hs:Srt (toL s.top)) (hc:∀ q ∈ toL s.top,Cl q.2):Zgw s k=some (getR (lk k (toL s.top))):=by
 unfold Zgw
 rw [Zx4 k _ _ _ (Nat.lt_succ_self _) hs hc]
 cases lk k (toL s.top) <;> rfl
def atE (x:Zb):Option KV → (ByteArray × Zb × Bool) ⊕ Zb
 | some p=>.inl (p.1,p.2,true)
 | none=>.inr x
theorem Z9d {α:Type} {A B:List α} {i:Int} (h:i < A.length):idx (A ++ B) i=idx A i:=by
 unfold idx
 split
 ·rw [List.getElem?_append_left (by omega)]
 ·rfl
theorem Z6s {α:Type} {A B:List α} {p:α}:idx (A ++ p :: B) (A.length:Int)=some p:=by
 rw [idxn];simp
theorem Z8p {α:Type} {A B:List α} {p:α} {i:Int} (h:(A.length:Int) < i):idx (A ++ p :: B) i=idx B (i - (A.length + 1)):=by
 unfold idx
 rw [if_pos (by omega),if_pos (by omega),List.getElem?_append_right (by omega)]
 rw [show i.toNat - A.length=(i - (A.length + 1)).toNat + 1 by omega,List.getElem?_cons_succ]
theorem Z0z (x:Zb):∀ (n:Nat) (t:shelf_nodeT) (i:Int),t.hh < n → Szd t → (toL t).length + 2 < 1099511627776 → -1099511627776 < i → i < 1099511627776 → (∀ q ∈ toL t,Cl q.2) → Zee n i x t=some (atE x (idx (toL t) i))
 | 0,t,i,h,_,_,_,_,_=>by omega
 | n + 1,.nil,i,_,_,_,_,_,_=>by
  simp only [Zee,shelf_nodeT.isNil,toL]
  have hn:idx ([]:List KV) i=none:=by
   unfold idx
   split <;> simp
  rw [hn]
  rfl
 | n + 1,.node nk nx l r s,i,hh,hz,hb,i1,i2,hc=>by
  obtain ⟨z1,z2,z3⟩:=hz
  simp only [toL] at hb hc
  have hlen:(toL l ++ (nk,nx) :: toL r).length=(toL l).length + (toL r).length + 1:=by simp;omega
  rw [hlen] at hb
  simp only [shelf_nodeT.hh] at hh
  simp only [Zee,shelf_nodeT.isNil,shelf_nodeT.un,Bool.not_false,if_true,Option.bind_some,Zjg,toL]
  rw [Zja z1]
  simp only [Option.bind_some]
  by_cases h1:i < (toL l).length
  ·rw [if_pos (by simpa using h1),Z0z x n l i (by omega) z1 (by omega) i1 i2 (fun q hq=>hc q (by simp [hq])),Z9d h1]
  ·rw [if_neg (by simpa using h1)]
   by_cases h2:((toL l).length:Int) < i
   ·rw [if_pos (by simpa using h2),wr (x:=((toL l).length:Int) + 1) (by omega) (by omega),wr (by omega) (by omega),Z0z x n r _ (by omega) z2 (by omega) (by omega) (by omega) (fun q hq=>hc q (by simp [hq])),Z8p h2]
   ·rw [if_neg (by simpa using h2),Ztl (hc (nk,nx) (by simp))]
    have:i=(toL l).length:=by omega
    subst this
    rw [Z6s];rfl
def atR:Option KV → ByteArray × Zb × Bool
 | some p=>(p.1,p.2,true)
 | none=>(⟨#[]⟩,zrec,false)
theorem Zbef {s:Zp} {i:Int} (hz:Szd s.top) (hb:(toL s.top).length + 2 < 1099511627776) (i1:-1099511627776 < i) (i2:i < 1099511627776) (hc:∀ q ∈ toL s.top,Cl q.2):Zjz s i=some (atR (idx (toL s.top) i)):=by
 unfold Zjz
 rw [Z0z _ _ _ _ (Nat.lt_succ_self _) hz hb i1 i2 hc]
 cases idx (toL s.top) i <;> rfl
theorem Zvk {k:ByteArray} (x:Zb):∀ {l:List KV},Srt l →
  (∃ p,l[rk k l]?=some p ∧ p.1=k ∧ lk k l=some p.2 ∧ insL k x l=l.take (rk k l) ++ (k,x) :: l.drop (rk k l + 1) ∧ delL k l=l.take (rk k l) ++ l.drop (rk k l + 1)) ∨
  ((∀ p,l[rk k l]?=some p → p.1 ≠ k) ∧ lk k l=none ∧ insL k x l=l.take (rk k l) ++ (k,x) :: l.drop (rk k l) ∧ delL k l=l)
 | [],_=>.inr ⟨fun p h=>by simp at h,rfl,rfl,rfl⟩
 | p :: l,hs=>by
  obtain ⟨h1,h2⟩:=List.pairwise_cons.1 hs
  by_cases h:sLt p.1 k=true
  ·have e1:sLt k p.1=false:=Zx9 h
   have e2:sEq k p.1=false:=Zff.2 (fun e=>Zpu h e.symm)
   simp only [rk,h,if_true,lk,insL,delL,e1,e2,Bool.false_eq_true,if_false,List.getElem?_cons_succ,List.take_succ_cons,List.drop_succ_cons]
   rcases Zvk x h2 with ⟨q,a1,a2,a3,a4,a5⟩ | ⟨a1,a2,a3,a4⟩
   ·exact .inl ⟨q,a1,a2,a3,by rw [a4];rfl,by rw [a5];rfl⟩
   ·exact .inr ⟨a1,a2,by rw [a3];rfl,by rw [a4]⟩
  ·have h':sLt p.1 k=false:=by simpa using h
   simp only [rk,h',Bool.false_eq_true,if_false]
   by_cases he:k=p.1
   ·left
    exact ⟨p,rfl,he.symm,by simp [lk,he,Zfj],by simp [insL,he,Zo6,Zfj],by simp [delL,he,Zfj]⟩
   ·right
    have hlt:sLt k p.1=true:=Zp2 h' (fun e=>he e.symm)
    have hne:∀ q ∈ l,q.1 ≠ k:=fun q hq e=>by
     have:=Zhc hlt (h1 q hq)
     rw [e,Zo6] at this;cases this
    refine ⟨fun q hq e=>?_,?_,by simp [insL,hlt],?_⟩
    ·simp at hq;subst hq;exact he e.symm
    ·simp only [lk,Zff.2 he,Bool.false_eq_true,if_false];exact Zyd hne
    ·simp only [delL,Zff.2 he,Bool.false_eq_true,if_false];rw [Zt1 l hne]
def kv (p:Zbj):KV:=(p.Key,p.Rec)
def pl (t:Zx):List KV:=t.L.map kv
theorem Zyp (t:Zx) (i:Nat):(pl t)[i]?=(t.L[i]?).map kv:=by simp [pl]
theorem Zh6 (t:Zx):(pl t).length=t.L.length:=by simp [pl]
theorem Z17 {t:Zx} {k:ByteArray} (hb:t.L.length < 1099511627776):∀ (n i:Nat),i + n=t.L.length →
  Zdl t k (n + 1) (i:Int)=some ((i + rk k ((pl t).drop i):Nat):Int)
 | 0,i,h=>by
  have hd:decide ((i:Int) < (t.L.length:Int))=false:=by simp;omega
  rw [Zdl,hd,List.drop_of_length_le (by rw [Zh6];omega)]
  simp [gd,rk]
 | n + 1,i,h=>by
  have hd:decide ((i:Int) < (t.L.length:Int))=true:=by simp;omega
  have hi:i < t.L.length:=by omega
  have hi':i < (pl t).length:=by rw [Zh6];exact hi
  rw [Zdl,hd,Zc3 hi,List.drop_eq_getElem_cons hi',wr1 (by omega)]
  have hg:(pl t)[i]=kv t.L[i]:=by simp [pl]
  rw [hg]
  simp only [gd_t,Option.bind_some,Bool.true_and,rk]
  by_cases hk:sLt t.L[i].Key k=true
  ·have hk':sLt (kv t.L[i]).1 k=true:=hk
   rw [if_pos hk,if_pos hk',Z17 hb n (i + 1) (by omega)]
   congr 2;omega
  ·have hk':¬ sLt (kv t.L[i]).1 k=true:=hk
   rw [if_neg hk,if_neg hk'];rfl
theorem Z4v {t:Zx} {k:ByteArray} (hb:t.L.length < 1099511627776):Zfv t k=some (rk k (pl t):Int):=by
 unfold Zfv
 have:=Z17 (k:=k) hb t.L.length 0 (by omega)
 rw [show ((0:Nat):Int)=0 from rfl] at this
 rw [show (Int.toNat ((t.L.length:Int) - (0:Int)) + 1)=t.L.length + 1 by omega,this]
 simp
structure Rel (s:Zp) (t:Zx) (n:Nat):Prop where
 top:toL s.top=pl t
 sz:Szd s.top
 srt:Srt (pl t)
 len:t.L.length ≤ n
 room:s.room=t.Room
 ok:∀ q ∈ pl t,Zjq q.2 ∧ q.2.List.length ≤ 100
theorem Rel.cl {s:Zp} {t:Zx} {n:Nat} (h:Rel s t n):∀ q ∈ toL s.top,Cl q.2:=fun q hq=>by
 rw [h.top] at hq
 have:=(h.ok q hq).2
 unfold Cl;omega
theorem Rel.mono {s:Zp} {t:Zx} {n m:Nat} (h:Rel s t n) (hm:n ≤ m):Rel s t m:=⟨h.top,h.sz,h.srt,Nat.le_trans h.len hm,h.room,h.ok⟩
theorem Rel.tl {s:Zp} {t:Zx} {n:Nat} (h:Rel s t n):(toL s.top).length=t.L.length:=by rw [h.top,Zh6]
theorem Zbe6 (r:Int):Rel { top:=.nil,room:=r } { L:=[],Room:=r } 0:=⟨rfl,trivial,List.Pairwise.nil,Nat.le_refl _,rfl,fun q h=>by simp [pl] at h⟩
theorem Zwd {s:Zp} {t:Zx} {n:Nat} (h:Rel s t n) (k:ByteArray):Zgw s k=some (getR (lk k (pl t))):=by
 rw [Zbii (by rw [h.top];exact h.srt) h.cl,h.top]
theorem Z7g {s:Zp} {t:Zx} {n:Nat} (h:Rel s t n):Zf6 s=some (t.L.length:Int):=by
 unfold Zf6
 rw [Zja h.sz,h.tl];rfl
theorem Zyc (t:Zx) (i:Nat):(t.L.take i).map kv=(pl t).take i:=by simp [pl]
theorem Zxz (t:Zx) (i:Nat):(t.L.drop i).map kv=(pl t).drop i:=by simp [pl]
theorem Zbcu {s:Zp} {t:Zx} {n:Nat} (h:Rel s t n) (hn:n < 1000000) (k:ByteArray):∃ s' t' b,Zhr s k=some (s',b) ∧ Zo9 t k=some (t',b) ∧ Rel s' t' n ∧ (pl t'=pl t ∨ pl t'=delL k (pl t)):=by
 have hb:=h.len
 have hle:=Z2u k (pl t)
 rw [Zh6] at hle
 unfold Zhr Zo9
 rw [Zwd h,Z4v (by omega)]
 simp only [Option.bind_some]
 rcases Zvk default h.srt with ⟨p,a1,a2,a3,_,a5⟩ | ⟨a1,a2,_,a4⟩
 ·have hi:rk k (pl t) < t.L.length:=by
   have:=(List.getElem?_eq_some_iff.1 a1).1
   rwa [Zh6] at this
  rw [a3]
  have hd:decide ((t.L.length:Int) ≤ ((rk k (pl t):Nat):Int))=false:=by simp;omega
  have hg:(pl t)[rk k (pl t)]?=some (kv t.L[rk k (pl t)]):=by rw [Zyp,List.getElem?_eq_getElem hi];rfl
  rw [hg] at a1
  obtain rfl:=Option.some.inj a1
  have he:sEq (t.L[rk k (pl t)]).Key k=true:=Zj2.2 a2
  rw [hd,Zc3 hi]
  obtain ⟨t1,c1,z1,l1⟩:=Zbe1 (k:=k) h.sz (by rw [h.top];exact h.srt) (by rw [h.tl];omega)
  rw [c1]
  simp only [getR,Bool.not_true,Bool.false_eq_true,if_false,Option.bind_some,Bool.not_false,gd_t,he,Bool.or_false,Bool.or_self]
  rw [show (0:Int)=((0:Nat):Int) from rfl,Zlh (by omega) (by omega),wr1 (by omega),Zlh (by omega) (by omega)]
  simp only [Option.bind_some,List.nil_append,List.drop_zero,Nat.sub_zero,List.length_nil,Nat.zero_add]
  have ht:(List.take (t.L.length - (rk k (pl t) + 1)) (List.drop (rk k (pl t) + 1) t.L))=List.drop (rk k (pl t) + 1) t.L:=List.take_of_length_le (by simp)
  rw [ht,if_pos (by simp;omega),if_pos (by simp;omega)]
  have hpl:pl { L:=List.take (rk k (pl t)) t.L ++ List.drop (rk k (pl t) + 1) t.L,Room:=t.Room }=delL k (pl t):=by
   rw [a5,← Zyc,← Zxz,← List.map_append];rfl
  refine ⟨_,_,true,rfl,rfl,⟨?_,z1,?_,?_,h.room,?_⟩,.inr hpl⟩
  ·rw [hpl,l1,h.top]
  ·rw [hpl];exact Z7t h.srt
  ·simp;omega
  ·intro q hq
   rw [hpl] at hq
   exact h.ok q (Zwn hq)
 ·rw [a2]
  simp only [getR,Bool.not_false,if_true]
  by_cases hi:rk k (pl t) < t.L.length
  ·have hd:decide ((t.L.length:Int) ≤ ((rk k (pl t):Nat):Int))=false:=by simp;omega
   have hg:(pl t)[rk k (pl t)]?=some (kv t.L[rk k (pl t)]):=by rw [Zyp,List.getElem?_eq_getElem hi];rfl
   have he:sEq (t.L[rk k (pl t)]).Key k=false:=Zff.2 (a1 _ hg)
   rw [hd,Zc3 hi]
   simp only [Bool.not_false,gd_t,Option.bind_some,he,Bool.false_or,if_true]
   exact ⟨s,t,false,rfl,rfl,h,.inl rfl⟩
  ·have hd:decide ((t.L.length:Int) ≤ ((rk k (pl t):Nat):Int))=true:=by simp;omega
   rw [hd]
   simp only [Bool.not_true,gd_f,Option.bind_some,Bool.true_or,if_true]
   exact ⟨s,t,false,rfl,rfl,h,.inl rfl⟩
theorem Z1i (k:ByteArray):sEq k (⟨#[]⟩:ByteArray)=decide ((k.size:Int) < 1):=by
 by_cases h:k=⟨#[]⟩
 ·subst h;rw [Zfj];decide
 ·rw [Zff.2 h]
  have:k.size ≠ 0:=fun e=>h (by
   apply ByteArray.ext
   exact Array.size_eq_zero_iff.1 e)
  simp;omega
theorem Zyl {s:Zp} {t:Zx} {n:Nat} (h:Rel s t n) (hn:n < 1000000) (k:ByteArray) {x:Zb} (hx:Zjq x) (hx2:x.List.length ≤ 100) :
  ∃ s' t' c,Zet s k x=some (s',c) ∧ Zf9 t k x=some (t',c) ∧ Rel s' t' (n + 1) ∧ (pl t'=pl t ∨ (pl t'=insL k x (pl t) ∧ Zd5 x=some 0 ∧ ¬ (k.size:Int) < 1 ∧ ¬ (24:Int) < (k.size:Int))):=by
 have hb:=h.len
 have hle:=Z2u k (pl t)
 rw [Zh6] at hle
 obtain ⟨c,hc1,hc2⟩:=Zoc hx
 unfold Zet Zf9
 rw [hc1,hc2,Zwd h,Z4v (by omega),Z7g h,Ztl (by unfold Cl;omega),Z1i,h.room]
 by_cases h1:(decide ((k.size:Int) < 1) || decide ((24:Int) < (k.size:Int)))=true
 ·rw [if_pos h1,if_pos h1]
  exact ⟨s,t,1,rfl,rfl,h.mono (by omega),.inl rfl⟩
 ·rw [if_neg h1,if_neg h1]
  simp only [Option.bind_some]
  by_cases h2:(c != 0)=true
  ·rw [if_pos h2,if_pos h2]
   exact ⟨s,t,c,rfl,rfl,h.mono (by omega),.inl rfl⟩
  ·rw [if_neg h2,if_neg h2]
   obtain ⟨t1,e1,z1,l1⟩:=Z69 (k:=k) (x:=x) h.sz (by rw [h.top];exact h.srt) (by rw [h.tl];omega)
   rw [e1]
   have h20:c=0:=by simpa using h2
   have h11:¬ (k.size:Int) < 1:=fun h'=>h1 (by simp [h'])
   have h12:¬ (24:Int) < (k.size:Int):=fun h'=>h1 (by simp [h'])
   have hmk:∀ L':List Zbj,L'.map kv=insL k x (pl t) → Rel { top:=t1,room:=t.Room } { L:=L',Room:=t.Room } (n + 1) ∧ (pl { L:=L',Room:=t.Room }=pl t ∨ (pl { L:=L',Room:=t.Room }=insL k x (pl t) ∧ some c=some (0:Int) ∧ ¬ (k.size:Int) < 1 ∧ ¬ (24:Int) < (k.size:Int))):=fun L' hL=>by
    have hpl:pl { L:=L',Room:=t.Room }=insL k x (pl t):=hL
    refine ⟨⟨by rw [hpl,l1,h.top],z1,by rw [hpl];exact Z67 h.srt,?_,rfl,?_⟩,.inr ⟨hpl,by rw [h20],h11,h12⟩⟩
    ·have:=Zr7 k x (pl t)
     rw [← hL,Zh6] at this
     simp at this
     show L'.length ≤ n + 1
     omega
    ·intro q hq
     rw [hpl] at hq
     rcases Zws hq with rfl | hq
     ·exact ⟨hx,hx2⟩
     ·exact h.ok q hq
   rcases Zvk x h.srt with ⟨p,a1,a2,a3,a4,_⟩ | ⟨a1,a2,a3,_⟩
   ·have hi:rk k (pl t) < t.L.length:=by
     have:=(List.getElem?_eq_some_iff.1 a1).1
     rwa [Zh6] at this
    have hd:decide (((rk k (pl t):Nat):Int) < (t.L.length:Int))=true:=by simp;omega
    have hg:(pl t)[rk k (pl t)]?=some (kv t.L[rk k (pl t)]):=by rw [Zyp,List.getElem?_eq_getElem hi];rfl
    rw [hg] at a1
    obtain rfl:=Option.some.inj a1
    have he:sEq (t.L[rk k (pl t)]).Key k=true:=Zj2.2 a2
    rw [a3,hd,Zc3 hi]
    simp only [getR,Bool.not_true,Bool.false_and,Bool.false_eq_true,if_false,gd_f,gd_t,Option.bind_some,he,Bool.and_self,Bool.true_and,if_true]
    rw [show (0:Int)=((0:Nat):Int) from rfl,Zlh (by omega) (by omega),wr1 (by omega)]
    simp only [Option.bind_some,List.nil_append,List.drop_zero,Nat.sub_zero,List.length_nil,Nat.zero_add,Ze9]
    rw [if_pos (by simp;omega),if_pos (by simp;omega),Zlh (by omega) (by omega)]
    have ht:(List.take (t.L.length - (rk k (pl t) + 1)) (List.drop (rk k (pl t) + 1) t.L))=List.drop (rk k (pl t) + 1) t.L:=List.take_of_length_le (by simp)
    simp only [Option.bind_some,ht,List.nil_append]
    rw [if_pos (by simp;omega)]
    refine ⟨_,_,0,rfl,rfl,hmk _ ?_⟩
    rw [a4];simp [Zyc,Zxz,kv,pl]
   ·rw [a2]
    simp only [getR,Bool.not_false,gd_t,Option.bind_some,Bool.true_and]
    have hne:(decide (((rk k (pl t):Nat):Int) < (t.L.length:Int)) && sEq (((gd (decide (((rk k (pl t):Nat):Int) < (t.L.length:Int))) (idx t.L ((rk k (pl t):Nat):Int))).getD default).Key) k)=false:=by
     by_cases hi:rk k (pl t) < t.L.length
     ·have hg:(pl t)[rk k (pl t)]?=some (kv t.L[rk k (pl t)]):=by rw [Zyp,List.getElem?_eq_getElem hi];rfl
      have he:sEq (t.L[rk k (pl t)]).Key k=false:=Zff.2 (a1 _ hg)
      have hd:decide (((rk k (pl t):Nat):Int) < (t.L.length:Int))=true:=by simp;omega
      rw [hd,Zc3 hi]
      simp [gd,he]
     ·have hd:decide (((rk k (pl t):Nat):Int) < (t.L.length:Int))=false:=by simp;omega
      rw [hd];rfl
    have hex:∃ e,gd (decide (((rk k (pl t):Nat):Int) < (t.L.length:Int))) (idx t.L ((rk k (pl t):Nat):Int))=some e:=by
     by_cases hi:rk k (pl t) < t.L.length
     ·rw [Zc3 hi]
      cases decide (((rk k (pl t):Nat):Int) < (t.L.length:Int)) <;> exact ⟨_,rfl⟩
     ·have hd:decide (((rk k (pl t):Nat):Int) < (t.L.length:Int))=false:=by simp;omega
      rw [hd];exact ⟨_,rfl⟩
    obtain ⟨e,hee⟩:=hex
    rw [hee] at hne ⊢
    simp only [Option.getD_some] at hne
    simp only [Option.bind_some,hne,Bool.not_false,Bool.true_and]
    by_cases h5:decide (t.Room ≤ (t.L.length:Int))=true
    ·rw [if_pos h5,if_pos h5]
     exact ⟨s,t,8,rfl,rfl,h.mono (by omega),.inl rfl⟩
    ·rw [if_neg h5,if_neg h5]
     rw [show (0:Int)=((0:Nat):Int) from rfl,Zlh (by omega) (by omega)]
     simp only [Option.bind_some,List.nil_append,List.drop_zero,Nat.sub_zero,List.length_nil,Nat.zero_add,Ze9,Bool.false_eq_true,if_false]
     rw [if_pos (by simp;omega),if_pos (by simp;omega),Zlh (by omega) (by omega)]
     have ht:(List.take (t.L.length - rk k (pl t)) (List.drop (rk k (pl t)) t.L))=List.drop (rk k (pl t)) t.L:=List.take_of_length_le (by simp)
     simp only [Option.bind_some,ht,List.nil_append]
     rw [if_pos (by simp;omega)]
     refine ⟨_,_,0,rfl,rfl,hmk _ ?_⟩
     rw [a3];simp [Zyc,Zxz,kv,pl]
theorem Z44:∀ l:List Zh,eqL l l=true
 | []=>rfl
 | x :: l=>by simp [eqL,eqI,Zfj,Z44 l]
theorem Z8i (a:Zb):Zjl a a=true:=by simp [Zjl,Zfj,Z44]
theorem Z70 {x:Zb} (h:Zms x):x.List.length ≤ 9223372036854775807:=by
 obtain ⟨_,_,_,_,_,_,_,h8,_⟩:=h
 simp only [maxLen] at h8;omega
theorem Z0e {x:Zb} (h:Zms x) (hl:x.List.length ≤ 100):RecW x:=by
 obtain ⟨h1,h2,h3,h4,h5,_,_,h8,h9⟩:=h
 exact ⟨⟨h5,by omega,fun e he=>(h9 e he).1⟩,h2,h3,h4,h1,by omega⟩
theorem eqLr:∀ l:List Zh,eqL l l=true
 | []=>rfl
 | x :: l=>by simp [eqL,eqI,Zfj,eqLr l]
theorem Z97 (a:Zb):Zjl a a=true:=by simp [Zjl,Zfj,eqLr]
theorem Zbb8 {a:Zs} (h:Znu a) (hl:a.Make.List.length ≤ 100):ActIn a:=by
 obtain ⟨_,_,h3,h4,_,h6,_⟩:=h
 exact ⟨⟨(Z0e h6 hl).ok,h4⟩,h3,Z0e h6 hl⟩
theorem Zbjk {a:Zs} (h:Znu a):∃ c,Zk6 a=some c ∧ (c=0 ∨ c=1) ∧ (c=0 → a.Make.List.length ≤ 100):=by
 obtain ⟨c,e1,e2,e3⟩:=Zber (Z70 h.2.2.2.2.2.1)
 unfold Zk6
 rw [e1]
 by_cases hk:(decide ((200:Int) < (a.Key.size:Int)) || decide ((1000:Int) < (a.S.size:Int)))=true
 ·rw [hk];exact ⟨1,rfl,.inr rfl,fun h=>by cases h⟩
 ·have hk':=Bool.eq_false_iff.2 hk
  rw [hk']
  rcases e2 with rfl | rfl
  ·exact ⟨0,rfl,.inl rfl,fun _=>e3 rfl⟩
  ·exact ⟨1,rfl,.inr rfl,fun h=>by cases h⟩
theorem Zbiw {a b:Zj} (ha:RecW a.Rec) (hb:RecW b.Rec):Zka a b=some ((a.Code == b.Code) && (a.Num == b.Num) && Zjl a.Rec b.Rec):=by
 unfold Zka
 rw [Zvn ha.ok hb.ok]
 cases (a.Code == b.Code) && (a.Num == b.Num) <;> rfl
def Z8a (r0:Zb) (there:Bool) (a:Zs) (z:Zb × Bool × Zj):Prop :=
 (∃ c,c ≠ 0 ∧ z=(r0,there,ans c)) ∨ (Ze4 a=some 0 ∧ ActW a ∧ (there=true → Zdh r0) ∧
  ((a.Kind=1 ∧ there=false ∧ Zdh a.Make ∧ z=(a.Make,true,ans 0)) ∨ (a.Kind=2 ∧ there=true ∧ z=(zrc,false,ans 0)) ∨ (a.Kind=3 ∧ z=(r0,there,{ ans 0 with Num:=r0.Kind })) ∨ (a.Kind=4 ∧ there=true ∧ z=(r0,true,{ ans 0 with Rec:=r0 })) ∨
   (5 ≤ a.Kind ∧ a.Kind ≤ 21 ∧ there=true ∧ Zpm a.Kind=some r0.Kind ∧ ∃ r' o,Zbs a.Kind r0 a default=some (0,r',o) ∧ o.Code=0 ∧ o.Num=0 ∧ RecW r' ∧ RecW o.Rec ∧ z=(r',true,o))))
theorem Z6v {r:Zb} {there:Bool} {a:Zs} (hr:RecW r) (ha:ActIn a):∃ z,Zmj r there a=some z ∧ Z8a (if there=true then r else zrc) there a z:=by
 suffices hs:∀ r0:Zb,RecW r0 → ∃ z,Zhz there a r0=some z ∧ Z8a r0 there a z by
  unfold Zmj
  cases there
  ·exact hs _ Zdz
  ·exact hs r hr
 intro r0 hr0
 unfold Zhz
 rw [Zl1 hr0.len]
 obtain ⟨c,h1,h2,h3⟩:=Zpa ha.ok
 rw [h1]
 simp only [Option.bind_some]
 by_cases hc:c=0
 ·subst hc
  have hf:=h3 rfl
  have hw:=ha.w (c:=0) hf
  obtain ⟨on2,o1,o2,o3,o4,_⟩:=Zv8 hf.1 hf.2.1
  have main:(there=true → Zdh r0) → ∃ z,Zh0 there a r0=some z ∧ Z8a r0 there a z:=by
   intro hg
   unfold Zh0 Zhl
   rw [o1,Zl1 hr0.len,Zl1 ha.mkr.len]
   simp only [Option.bind_some]
   by_cases k1:a.Kind=1
   ·have hm:Zdh a.Make:=(Zmf ha.mkr.ok).1 (hf.2.2.2.2.2.1 k1)
    rw [k1]
    cases there
    ·exact ⟨_,rfl,.inr ⟨h1,hw,hg,.inl ⟨k1,rfl,hm,rfl⟩⟩⟩
    ·exact ⟨_,rfl,.inl ⟨7,by decide,rfl⟩⟩
   ·by_cases k3:a.Kind=3
    ·rw [k3]
     exact ⟨_,rfl,.inr ⟨h1,hw,hg,.inr (.inr (.inl ⟨k3,rfl⟩))⟩⟩
    ·by_cases k2:a.Kind=2
     ·rw [k2]
      cases there
      ·exact ⟨_,rfl,.inl ⟨6,by decide,rfl⟩⟩
      ·exact ⟨_,rfl,.inr ⟨h1,hw,hg,.inr (.inl ⟨k2,rfl,rfl⟩)⟩⟩
     ·by_cases k4:a.Kind=4
      ·rw [k4]
       cases there
       ·exact ⟨_,rfl,.inl ⟨6,by decide,rfl⟩⟩
       ·exact ⟨_,rfl,.inr ⟨h1,hw,hg,.inr (.inr (.inr (.inl ⟨k4,rfl,rfl⟩)))⟩⟩
      ·have h5:5 ≤ a.Kind:=by omega
       have b1:(a.Kind == 1)=false:=by simpa using k1
       have b2:(a.Kind == 2)=false:=by simpa using k2
       have b3:(a.Kind == 3)=false:=by simpa using k3
       have b4:(a.Kind == 4)=false:=by simpa using k4
       simp only [b1,b2,b3,b4,Bool.false_and,Bool.false_eq_true,if_false]
       cases there
       ·exact ⟨_,rfl,.inl ⟨6,by decide,rfl⟩⟩
       ·simp only [Bool.not_true,Bool.false_eq_true,if_false]
        by_cases hk:(on2 != r0.Kind)=true
        ·rw [if_pos hk]
         exact ⟨_,rfl,.inl ⟨5,by decide,rfl⟩⟩
        ·rw [if_neg hk,if_pos ⟨h5,hf.2.1⟩]
         have hk':on2=r0.Kind:=by simpa using hk
         obtain ⟨c,r',o,e1,e2,w1,w2,w3⟩:=Z7v h5 hf.2.1 hr0 (hg rfl) (by rw [← hk'];exact o1) hw
         rw [e1]
         simp only [Option.bind_some]
         by_cases hc:c=0
         ·subst hc
          exact ⟨(r',true,o),rfl,.inr ⟨h1,hw,hg,.inr (.inr (.inr (.inr ⟨h5,hf.2.1,rfl,by rw [← hk'];exact o1,r',o,e1,(w3 rfl).1,(w3 rfl).2,w1,w2,rfl⟩)))⟩⟩
         ·have hcn:(c != 0)=true:=by simpa using hc
          rw [if_pos hcn]
          exact ⟨_,rfl,.inl ⟨c,hc,rfl⟩⟩
  have z1:((0:Int) != 0)=false:=rfl
  rw [z1]
  simp only [Bool.false_eq_true,if_false]
  by_cases ht:there=true
  ·rw [if_pos ht]
   obtain ⟨c2,g1,g2⟩:=Zoc hr0.ok
   rw [g1]
   simp only [Option.bind_some]
   by_cases hc2:c2=0
   ·subst hc2
    rw [z1]
    exact main fun _=>(Zmf hr0.ok).1 g1
   ·have hcn:(c2 != 0)=true:=by simpa using hc2
    rw [if_pos hcn]
    exact ⟨_,rfl,.inl ⟨c2,hc2,rfl⟩⟩
  ·rw [if_neg ht]
   exact main fun h=>absurd h ht
 ·have hcn:(c != 0)=true:=by simpa using hc
  rw [if_pos hcn]
  exact ⟨_,rfl,.inl ⟨c,hc,rfl⟩⟩
theorem Z53 {f:Zh → Bool} {l:Zd0}:∀ y ∈ l.take (pre f l),f y=true:=fun y hy=>by
 obtain ⟨k,hk,rfl⟩:=List.getElem_of_mem hy
 rw [List.length_take] at hk
 obtain ⟨e,he,hf⟩:=Z5b (f:=f) (l:=l) (k:=k) (by omega)
 rw [List.getElem?_eq_getElem (by omega)] at he
 rw [List.getElem_take]
 obtain rfl:=Option.some.inj he
 exact hf
variable {r r' r'':Zb} {a:Zs} {o o':Zj} {c:Int}
theorem Zug {r:Zb} {m:Int} (hg:Zdh r) (hk:2 ≤ r.Kind ∧ r.Kind ≤ 4) (hb:r.Kind=4 → r.Low ≤ m ∧ m ≤ r.High):Zdh { r with Num:=m }:=by
 obtain ⟨g1,g2,g3,g4,g5,g6,g7⟩:=hg
 refine ⟨g1,g2,?_,g4,fun h=>⟨(g5 h).1,(g5 h).2.1,(hb h).1,(hb h).2⟩,g6,g7⟩
 unfold Zh5 at *
 have:decide (2 ≤ r.Kind ∧ r.Kind ≤ 4)=true:=decide_eq_true hk
 simp only [this,Bool.true_or] at *
 exact g3
theorem Zry {a b c:Zh} (h:Zdt a b=true) (k:Zdt b c=true):Zdt a c=true:=by
 unfold Zdt at *
 by_cases h1:keyf a.Score=keyf b.Score
 ·rw [if_pos h1] at h
  by_cases h2:keyf b.Score=keyf c.Score
  ·rw [if_pos h2] at k
   rw [if_pos (h1.trans h2)];exact Zhc h k
  ·rw [if_neg h2] at k
   rw [if_neg (by rw [h1];exact h2),h1];exact k
 ·rw [if_neg h1] at h
  have h':=of_decide_eq_true h
  by_cases h2:keyf b.Score=keyf c.Score
  ·rw [if_neg (by rw [← h2];exact h1),← h2];exact h
  ·rw [if_neg h2] at k
   have k':=of_decide_eq_true k
   rw [if_neg (by omega)];exact decide_eq_true (by omega)
def BS (l:Zd0):Prop:=l.Pairwise fun p q=>Zdt p q=true
def Zvg (k:Int) (e:Zh):Prop:=e.Name.size ≤ 16 ∧ (k=8 → keyf e.Score=keyf 0) ∧ e.Score=Zcl e.Score
theorem Zrg {k:Int} {l:Zd0} {i:Nat} {x:Zh} (h:l[i]?=some x):Zis k l i=0 ↔ Zvg k x ∧ (0 < i → k=8 → sLt ((l[i - 1]?).getD default).Name x.Name=true) ∧ (0 < i → k=9 → Zdt ((l[i - 1]?).getD default) x=true):=by
 unfold Zis Zvg
 rw [h]
 simp only []
 by_cases h1:(16:Int) < x.Name.size
 ·rw [if_pos h1];exact ⟨fun h=>(by cases h),fun h=>by omega⟩
 ·rw [if_neg h1]
  by_cases h2:(k=8 ∧ keyf x.Score ≠ keyf 0) ∨ x.Score ≠ Zcl x.Score
  ·rw [if_pos h2]
   refine ⟨fun h=>(by cases h),fun h=>?_⟩
   rcases h2 with ⟨a,b⟩ | b
   ·exact absurd (h.1.2.1 a) b
   ·exact absurd h.1.2.2 b
  ·rw [if_neg h2]
   have e1:k=8 → keyf x.Score=keyf 0:=fun hk=>Classical.byContradiction fun hn=>h2 (.inl ⟨hk,hn⟩)
   have e2:x.Score=Zcl x.Score:=Classical.byContradiction fun hn=>h2 (.inr hn)
   by_cases h3:0 < i ∧ k=8 ∧ sLt ((l[i - 1]?).getD default).Name x.Name=false
   ·rw [if_pos h3]
    refine ⟨fun h=>(by cases h),fun h=>?_⟩
    have:=h.2.1 h3.1 h3.2.1
    rw [h3.2.2] at this;cases this
   ·rw [if_neg h3]
    have e3:0 < i → k=8 → sLt ((l[i - 1]?).getD default).Name x.Name=true:=fun a b=>by
     cases hq:sLt ((l[i - 1]?).getD default).Name x.Name
     ·exact absurd ⟨a,b,hq⟩ h3
     ·rfl
    by_cases h4:0 < i ∧ k=9 ∧ Zdt ((l[i - 1]?).getD default) x=false
    ·rw [if_pos h4]
     refine ⟨fun h=>(by cases h),fun h=>?_⟩
     have:=h.2.2 h4.1 h4.2.1
     rw [h4.2.2] at this;cases this
    ·rw [if_neg h4]
     refine ⟨fun _=>⟨⟨by omega,e1,e2⟩,e3,fun a b=>?_⟩,fun _=>rfl⟩
     cases hq:Zdt ((l[i - 1]?).getD default) x
     ·exact absurd ⟨a,b,hq⟩ h4
     ·rfl
theorem Z4l {R:Zh → Zh → Prop} (ht:∀ {a b c},R a b → R b c → R a c) {l:Zd0} (step:∀ i,i + 1 < l.length → R ((l[i]?).getD default) ((l[i + 1]?).getD default)):l.Pairwise R:=by
 have far:∀ d i,i + d + 1 < l.length → R ((l[i]?).getD default) ((l[i + d + 1]?).getD default):=by
  intro d
  induction d with
  | zero=>intro i h;exact step i h
  | succ d ih=>intro i h;exact ht (ih i (by omega)) (step (i + d + 1) (by omega))
 refine List.pairwise_iff_getElem.2 fun i j hi hj hij=>?_
 have:=far (j - i - 1) i (by omega)
 rw [show i + (j - i - 1) + 1=j by omega,List.getElem?_eq_getElem hi,List.getElem?_eq_getElem hj] at this
 exact this
theorem Z43 {R:Zh → Zh → Prop} {l:Zd0} (h:l.Pairwise R) {i:Nat} {x:Zh} (hx:l[i]?=some x) (hi:0 < i):R ((l[i - 1]?).getD default) x:=by
 obtain ⟨h1,rfl⟩:=List.getElem?_eq_some_iff.1 hx
 rw [List.getElem?_eq_getElem (by omega)]
 exact List.pairwise_iff_getElem.1 h _ _ (by omega) h1 (by omega)
theorem Z1v {k:Int} {l:Zd0}:(∀ i,i < l.length → Zis k l i=0) ↔ (∀ e ∈ l,Zvg k e) ∧ (k=8 → NS l) ∧ (k=9 → BS l):=by
 constructor
 ·intro h
  refine ⟨fun e he=>?_,fun hk=>?_,fun hk=>?_⟩
  ·obtain ⟨i,hi,rfl⟩:=List.getElem_of_mem he
   exact ((Zrg (List.getElem?_eq_getElem hi)).1 (h i hi)).1
  ·refine Z4l (R:=fun p q=>sLt p.Name q.Name=true) (fun a b=>Zhc a b) fun i hi=>?_
   have:=((Zrg (List.getElem?_eq_getElem hi)).1 (h (i + 1) hi)).2.1 (by omega) hk
   rw [List.getElem?_eq_getElem hi];exact this
  ·refine Z4l (R:=fun p q=>Zdt p q=true) (fun a b=>Zry a b) fun i hi=>?_
   have:=((Zrg (List.getElem?_eq_getElem hi)).1 (h (i + 1) hi)).2.2 (by omega) hk
   rw [List.getElem?_eq_getElem hi];exact this
 ·intro ⟨h1,h2,h3⟩ i hi
  have hx:=List.getElem?_eq_getElem hi
  exact (Zrg hx).2 ⟨h1 _ (List.getElem_mem hi),fun a b=>Z43 (R:=fun p q=>sLt p.Name q.Name=true) (h2 b) hx a,fun a b=>Z43 (R:=fun p q=>Zdt p q=true) (h3 b) hx a⟩
theorem Z5r {r:Zb} (h:Zdh r) (hk:8 ≤ r.Kind):1 ≤ r.Cap ∧ r.Cap ≤ 32 ∧ (r.List.length:Int) ≤ r.Cap ∧ (∀ e ∈ r.List,Zvg r.Kind e) ∧ (r.Kind=8 → NS r.List) ∧ (r.Kind=9 → BS r.List):=by
 obtain ⟨a,b,c,d⟩:=h.2.2.2.2.2.2 hk
 exact ⟨a,b,c,Z1v.1 d⟩
theorem Zq8 {r:Zb} {l:Zd0} (h:Zdh r) (hk:8 ≤ r.Kind) (h1:(l.length:Int) ≤ r.Cap) (h2:∀ e ∈ l,Zvg r.Kind e) (h3:r.Kind=8 → NS l) (h4:r.Kind=9 → BS l):Zdh { r with List:=l }:=by
 obtain ⟨g1,g2,g3,g4,g5,g6,g7⟩:=h
 refine ⟨g1,g2,?_,g4,g5,g6,fun hk=>⟨(g7 hk).1,(g7 hk).2.1,h1,Z1v.2 ⟨h2,h3,h4⟩⟩⟩
 unfold Zh5 at *
 have:decide (8 ≤ r.Kind)=true:=decide_eq_true hk
 simp only [this,Bool.true_or] at *
 exact g3
theorem Zun {r:Zb} {t:ByteArray} (h:Zdh r) (hk:r.Kind=1) (h1:t.size ≤ 64):Zdh { r with Text:=t }:=by
 obtain ⟨g1,g2,g3,g4,g5,g6,g7⟩:=h
 refine ⟨g1,g2,?_,h1,g5,g6,g7⟩
 unfold Zh5 at *
 have:decide (r.Kind=1)=true:=decide_eq_true hk
 simp only [this,Bool.true_or,Bool.true_and] at *
 exact g3
theorem Z2s {r:Zb} {x:Nat} (h:Zdh r) (hk:5 ≤ r.Kind ∧ r.Kind ≤ 7) (h1:x=Zcl x):Zdh { r with Real:=x }:=by
 obtain ⟨g1,g2,g3,g4,g5,g6,g7⟩:=h
 refine ⟨g1,g2,?_,g4,g5,h1,g7⟩
 unfold Zh5 at *
 have:decide (5 ≤ r.Kind ∧ r.Kind ≤ 7)=true:=decide_eq_true hk
 simp only [this,Bool.true_or] at *
 exact g3
variable {r r':Zb} {a:Zs} {o:Zj}
theorem Zq1 {ψ:Nat → Nat → Option Nat} (hg:Zdh r) (hk:5 ≤ r.Kind ∧ r.Kind ≤ 7) (hψ:∀ m,ψ r.Real a.X=some m → m=Zcl m) (e:Zbs a.Kind r a default=Zfb ψ r a default) (h1:Zbs a.Kind r a default=some (0,r',o)):Zdh r':=by
 rw [e] at h1
 unfold Zfb at h1
 obtain ⟨m,m1,m2⟩:=Option.bind_eq_some_iff.1 h1
 simp only [Option.some.injEq,Prod.mk.injEq] at m2
 obtain ⟨_,rfl,_⟩:=m2
 exact Z2s hg hk (hψ m m1)
theorem Zbaq (h:a.Kind=18) (hr:RecW r) (hg:Zdh r) (hk:r.Kind=8) (ha:ActW a) (h1:Zbs a.Kind r a default=some (0,r',o)):Zdh r':=by
 have e:Zbs a.Kind r a default=Znh r a default:=by rw [h];rfl
 obtain ⟨c1,c2,c3,c4,c5,_⟩:=Z5r hg (by omega)
 have hs:=c5 hk
 have hl:=hr.len
 have hple:=Zrv (fun e=>sLt e.Name a.S) r.List
 rw [e] at h1
 unfold Znh at h1
 rw [Ztb hs (by omega),Zs8 (by omega)] at h1
 simp only [Option.bind_some] at h1
 by_cases hat:isAt a.S r.List=true
 ·rw [if_pos hat] at h1
  simp only [Option.some.injEq,Prod.mk.injEq,true_and] at h1
  rw [← h1.1];exact hg
 ·rw [if_neg hat] at h1
  by_cases hc:decide (r.Cap ≤ (r.List.length:Int))=true
  ·rw [if_pos hc] at h1;cases h1
  ·rw [if_neg hc] at h1
   have hc':¬ r.Cap ≤ (r.List.length:Int):=by simpa using hc
   unfold Zcp at h1
   rw [if_pos ⟨by omega,by omega,by simp,by simp;omega⟩] at h1
   simp only [Option.bind_some,Option.some.injEq,Prod.mk.injEq,true_and,Int.toNat_natCast] at h1
   obtain ⟨rfl,_⟩:=h1
   have hbehind:∀ y ∈ r.List.drop (pre (fun e=>sLt e.Name a.S) r.List),sLt a.S y.Name=true:=fun y hy=>by
    obtain ⟨k,hk,rfl⟩:=List.getElem_of_mem hy
    rw [List.length_drop] at hk
    rw [List.getElem_drop]
    have hm:=Zyk (s:=a.S) hs (k:=pre (fun e=>sLt e.Name a.S) r.List + k) (by omega)
    rw [show decide (pre (fun e=>sLt e.Name a.S) r.List + k < pre (fun e=>sLt e.Name a.S) r.List)=false by simp] at hm
    refine Zp2 hm fun hn=>?_
    have hany:=Zxt (s:=a.S) hs
    rw [show isAt a.S r.List=false by simpa using hat,List.any_eq_false] at hany
    exact hany _ (List.getElem_mem _) (Zj2.2 hn)
   refine Zq8 hg (by omega) (by simp;omega) (fun e he=>?_) (fun _=>?_) (fun h=>by omega)
   ·simp only [List.mem_append,List.mem_singleton] at he
    rcases he with (he | rfl) | he
    ·exact c4 e (List.mem_of_mem_take he)
    ·exact ⟨ha.s16 (by omega),fun _=>rfl,by kernel_rfl⟩
    ·exact c4 e (List.mem_of_mem_drop he)
   ·unfold NS at *
    rw [List.append_assoc,List.pairwise_append]
    refine ⟨hs.sublist (List.take_sublist _ _),?_,fun x hx y hy=>?_⟩
    ·rw [List.singleton_append,List.pairwise_cons]
     exact ⟨hbehind,hs.sublist (List.drop_sublist _ _)⟩
    ·have hxa:sLt x.Name a.S=true:=Z53 (f:=fun e=>sLt e.Name a.S) x hx
     rcases List.mem_append.1 hy with hy | hy
     ·rw [List.mem_singleton.1 hy];exact hxa
     ·exact Zhc hxa (hbehind y hy)
theorem Z75 (h:a.Kind=19) (hr:RecW r) (hg:Zdh r) (hk:r.Kind=8) (h1:Zbs a.Kind r a default=some (0,r',o)):Zdh r':=by
 obtain ⟨c1,c2,c3,c4,c5,_⟩:=Z5r hg (by omega)
 have hl:=hr.len
 obtain ⟨c,x,y,d1,d2,_⟩:=Z1d h hr hg hk
 rw [h1] at d1
 simp only [Option.some.injEq,Prod.mk.injEq] at d1
 obtain ⟨rfl,rfl,rfl⟩:=d1
 have e2:Zb8 r a=(Zfz r a (Int.toNat ((r.List.length:Int) - (0:Int)) + 1) ([]:List Zh) (0:Int)).bind fun z57=>match z57 with | y56=>(Zbc ({ r with List:=y56 }) (ans 0)):=by unfold Zb8 Zc0;rw [h];rfl
 have hf:=Zsi (a:=a) (a0:=r) (by omega) r.List.length 0 [] (by omega) (by simp)
 rw [show ((0:Nat):Int)=0 from rfl] at hf
 rw [e2,show (Int.toNat ((r.List.length:Int) - (0:Int)) + 1)=r.List.length + 1 by omega,hf,List.drop_zero,List.nil_append] at d2
 simp only [Option.bind_some,Zbc,if_true,Option.some.injEq,Prod.mk.injEq] at d2
 obtain ⟨rfl,_⟩:=d2
 have hle:=List.length_filter_le (fun e:Zh=>!sEq e.Name a.S) r.List
 exact Zq8 hg (by omega) (by omega) (fun e he=>c4 e (List.mem_filter.1 he).1) (fun _=>List.Pairwise.sublist List.filter_sublist (c5 hk)) (fun h=>by omega)
theorem Z9e (h:a.Kind=21) (hr:RecW r) (hg:Zdh r) (hk:r.Kind=9) (ha:ActW a) (h1:Zbs a.Kind r a default=some (0,r',o)):Zdh r':=by
 have e:Zbs a.Kind r a default=Zl4 r a default:=by rw [h];rfl
 obtain ⟨c1,c2,c3,c4,_,c6⟩:=Z5r hg (by omega)
 have hs:=c6 hk
 have hl:=hr.len
 have hple:=Zrv (Zef { Score:=a.X,Name:=a.S } false) r.List
 rw [e] at h1
 unfold Zl4 at h1
 rw [Z16 ha.ok.2 hr.ok.sc (by omega),Zs8 (by omega)] at h1
 simp only [Option.bind_some] at h1
 obtain ⟨e9,g9,h1⟩:=Option.bind_eq_some_iff.1 h1
 obtain ⟨r11,g11,h1⟩:=Option.bind_eq_some_iff.1 h1
 split at h1
 ·simp only [Option.some.injEq,Prod.mk.injEq,true_and] at h1
  rw [← h1.1];exact hg
 ·rename_i hcond
  unfold Zcp at h1
  rw [if_pos ⟨by omega,by omega,by simp,by simp;omega⟩] at h1
  simp only [Option.bind_some] at h1
  rw [Z3w c1 c2] at h1
  simp only [Option.bind_some,Option.some.injEq,Prod.mk.injEq,true_and,Int.toNat_natCast] at h1
  obtain ⟨rfl,_⟩:=h1
  have hbehind:∀ y ∈ r.List.drop (pre (Zef { Score:=a.X,Name:=a.S } false) r.List),Zdt { Score:=a.X,Name:=a.S } y=true:=fun y hy=>by
   have hp:pre (Zef { Score:=a.X,Name:=a.S } false) r.List < r.List.length:=by
    have:=List.length_pos_of_mem hy
    rw [List.length_drop] at this;omega
   have hd:decide (((pre (Zef { Score:=a.X,Name:=a.S } false) r.List:Nat):Int) < (r.List.length:Int))=true:=by simpa using hp
   rw [hd,Zc3 hp] at g9
   simp only [gd_t,Option.some.injEq] at g9
   subst g9
   rw [hd] at g11 hcond
   simp only [gd_t] at g11
   rw [Zsl ha.ok.2 (hr.ok.sc _ (List.getElem_mem hp))] at g11
   have hb:Zdt { Score:=a.X,Name:=a.S } r.List[pre (Zef { Score:=a.X,Name:=a.S } false) r.List]=true:=by
    have:=Option.some.inj g11
    rw [← this] at hcond
    simpa using hcond
   rw [List.drop_eq_getElem_cons hp] at hy
   rcases List.mem_cons.1 hy with rfl | hy
   ·exact hb
   ·refine Zry hb ?_
    have hpw:(r.List.drop (pre (Zef { Score:=a.X,Name:=a.S } false) r.List)).Pairwise fun p q=>Zdt p q=true:=List.Pairwise.sublist (List.drop_sublist _ _) hs
    rw [List.drop_eq_getElem_cons hp,List.pairwise_cons] at hpw
    exact hpw.1 y hy
  refine Zq8 hg (by omega) (by rw [List.length_take];omega) (fun e he=>?_) (fun h=>by omega) (fun _=>?_)
  ·have he:=List.mem_of_mem_take he
   simp only [List.mem_append,List.mem_singleton] at he
   rcases he with (he | rfl) | he
   ·exact c4 e (List.mem_of_mem_take he)
   ·exact ⟨ha.s16 (by omega),fun h=>by omega,ha.xc⟩
   ·exact c4 e (List.mem_of_mem_drop he)
  ·refine List.Pairwise.sublist (List.take_sublist _ _) ?_
   rw [List.append_assoc,List.pairwise_append]
   refine ⟨List.Pairwise.sublist (List.take_sublist _ _) hs,?_,fun x hx y hy=>?_⟩
   ·rw [List.singleton_append,List.pairwise_cons]
    exact ⟨hbehind,List.Pairwise.sublist (List.drop_sublist _ _) hs⟩
   ·have hxa:Zdt x { Score:=a.X,Name:=a.S }=true:=Z53 (f:=Zef { Score:=a.X,Name:=a.S } false) x hx
    rcases List.mem_append.1 hy with hy | hy
    ·rw [List.mem_singleton.1 hy];exact hxa
    ·exact Zry hxa (hbehind y hy)
theorem Zkh {k on:Int} {c:Int} (h:Zpm k=some on) (e:Zpm k=some c):on=c:=Option.some.inj (h.symm.trans e)
theorem Zbb3 (h5:5 ≤ a.Kind) (h21:a.Kind ≤ 21) (hon:Zpm a.Kind=some r.Kind) (hr:RecW r) (hg:Zdh r) (ha:ActW a) (h1:Zbs a.Kind r a default=some (0,r',o)):Zdh r':=by
 have real:∀ {m:Nat},m=r.Real ∨ m=a.X → m=Zcl m:=fun {m} h=>by
  rcases h with rfl | rfl
  ·exact Zq4 hg
  ·exact ha.xc
 have hk':a.Kind=5 ∨ a.Kind=6 ∨ a.Kind=7 ∨ a.Kind=8 ∨ a.Kind=9 ∨ a.Kind=10 ∨ a.Kind=11 ∨ a.Kind=12 ∨ a.Kind=13 ∨ a.Kind=14 ∨ a.Kind=15 ∨ a.Kind=16 ∨ a.Kind=17 ∨ a.Kind=18 ∨ a.Kind=19 ∨ a.Kind=20 ∨ a.Kind=21:=by omega
 rcases hk' with h | h | h | h | h | h | h | h | h | h | h | h | h | h | h | h | h
 ·have e:Zbs a.Kind r a default=Zlz r a default:=by rw [h];rfl
  rw [e] at h1
  simp only [Zlz,Option.some.injEq,Prod.mk.injEq,true_and] at h1
  rw [← h1.1]
  exact Zun hg (Zkh hon (by rw [h];kernel_rfl)) ha.s64
 ·have e:Zbs a.Kind r a default=Zir r a default:=by rw [h];rfl
  rw [e] at h1
  simp only [Zir,Zl1 hr.len,Option.bind_some,Option.some.injEq,Prod.mk.injEq,true_and] at h1
  rw [← h1.1]
  exact Zun hg (Zkh hon (by rw [h];kernel_rfl)) ha.s64
 ·have e:Zbs a.Kind r a default=Zlw r a default:=by rw [h];rfl
  rw [e] at h1
  simp only [Zlw,Option.some.injEq,Prod.mk.injEq,true_and] at h1
  rw [← h1.1]
  have hk:r.Kind=2:=Zkh hon (by rw [h];kernel_rfl)
  exact Zug hg (by omega) (fun h=>by omega)
 ·have e:Zbs a.Kind r a default=Znf r a default:=by rw [h];rfl
  rw [e] at h1
  unfold Znf at h1
  split at h1
  ·cases h1
  ·simp only [Option.some.injEq,Prod.mk.injEq,true_and] at h1
   rw [← h1.1]
   have hk:r.Kind=3:=Zkh hon (by rw [h];kernel_rfl)
   exact Zug hg (by omega) (fun h=>by omega)
 ·have e:Zbs a.Kind r a default=Zg3 r a default:=by rw [h];rfl
  rw [e] at h1
  unfold Zg3 at h1
  split at h1
  ·cases h1
  ·simp only [Option.some.injEq,Prod.mk.injEq,true_and] at h1
   rw [← h1.1];exact hg
 ·have e:Zbs a.Kind r a default=Zie r a default:=by rw [h];rfl
  have hk:r.Kind=4:=Zkh hon (by rw [h];kernel_rfl)
  obtain ⟨p1,p2,p3,p4⟩:=Z26 hg hk
  obtain ⟨q1,q2⟩:=ha.inout (.inl h)
  rw [e] at h1
  unfold Zie at h1
  rw [wr (x:=r.High - r.Num) (by omega) (by omega),wr (x:=r.Num + a.N) (by omega) (by omega)] at h1
  split at h1
  ·cases h1
  ·rename_i hcond
   have hcond':¬ (r.High - r.Num < a.N):=by simpa using hcond
   simp only [Option.some.injEq,Prod.mk.injEq,true_and] at h1
   rw [← h1.1]
   exact Zug hg (by omega) (fun _=>by omega)
 ·have e:Zbs a.Kind r a default=Zic r a default:=by rw [h];rfl
  have hk:r.Kind=4:=Zkh hon (by rw [h];kernel_rfl)
  obtain ⟨p1,p2,p3,p4⟩:=Z26 hg hk
  obtain ⟨q1,q2⟩:=ha.inout (.inr h)
  rw [e] at h1
  unfold Zic at h1
  rw [wr (x:=r.Num - r.Low) (by omega) (by omega),wr (x:=r.Num - a.N) (by omega) (by omega)] at h1
  split at h1
  ·cases h1
  ·rename_i hcond
   have hcond':¬ (r.Num - r.Low < a.N):=by simpa using hcond
   simp only [Option.some.injEq,Prod.mk.injEq,true_and] at h1
   rw [← h1.1]
   exact Zug hg (by omega) (fun _=>by omega)
 ·have e:Zbs a.Kind r a default=Zg3 r a default:=by rw [h];rfl
  rw [e] at h1
  unfold Zg3 at h1
  split at h1
  ·cases h1
  ·simp only [Option.some.injEq,Prod.mk.injEq,true_and] at h1
   rw [← h1.1];exact hg
 ·have hk:r.Kind=5:=Zkh hon (by rw [h];kernel_rfl)
  refine Zq1 (ψ:=fun x y=>Zn1 x y) hg (by omega) (fun m hm=>?_) (by rw [h];rfl) h1
  obtain ⟨m',e1,_,e2⟩:=Z4z hr.ok.real ha.ok.2 (Zq4 hg) ha.xc
  have:m=m':=Option.some.inj (hm.symm.trans e1)
  exact real (this ▸ e2)
 ·have hk:r.Kind=6:=Zkh hon (by rw [h];kernel_rfl)
  refine Zq1 (ψ:=fun x y=>Zob x y) hg (by omega) (fun m hm=>?_) (by rw [h];rfl) h1
  obtain ⟨m',e1,_,e2⟩:=Z4b hr.ok.real ha.ok.2 (Zq4 hg) ha.xc
  have:m=m':=Option.some.inj (hm.symm.trans e1)
  exact real (this ▸ e2)
 ·have hk:r.Kind=7:=Zkh hon (by rw [h];kernel_rfl)
  refine Zq1 (ψ:=fun x y=>Zkd x y) hg (by omega) (fun m hm=>?_) (by rw [h];rfl) h1
  have hz:=Z7w r.Real a.X
  have:Zkd r.Real a.X=some (Zcl (fadd r.Real a.X)):=by unfold Zkd;rw [Zli hz];rfl
  have:m=Zcl (fadd r.Real a.X):=Option.some.inj (hm.symm.trans this)
  rw [this,Zxn]
 ·have hk:r.Kind=7:=Zkh hon (by rw [h];kernel_rfl)
  refine Zq1 (ψ:=fun x y=>Zi2 x y) hg (by omega) (fun m hm=>?_) (by rw [h];rfl) h1
  have hz:=Z7a r.Real a.X
  have:Zi2 r.Real a.X=some (Zcl (fmul r.Real a.X)):=by unfold Zi2;rw [Zli hz];rfl
  have:m=Zcl (fmul r.Real a.X):=Option.some.inj (hm.symm.trans this)
  rw [this,Zxn]
 ·have hk:r.Kind=7:=Zkh hon (by rw [h];kernel_rfl)
  refine Zq1 (ψ:=fun x y=>Zih x y) hg (by omega) (fun m hm=>?_) (by rw [h];rfl) h1
  exact real (.inr (Option.some.inj hm).symm)
 ·exact Zbaq h hr hg (Zkh hon (by rw [h];kernel_rfl)) ha h1
 ·exact Z75 h hr hg (Zkh hon (by rw [h];kernel_rfl)) h1
 ·have hk:r.Kind=8:=Zkh hon (by rw [h];kernel_rfl)
  have e:Zbs a.Kind r a default=Zig r a default:=by rw [h];rfl
  have hl:=hr.len
  rw [e] at h1
  unfold Zig at h1
  rw [Ztb (Zrh hg hk) (by omega)] at h1
  simp only [Option.bind_some] at h1
  split at h1
  ·cases h1
  ·simp only [Option.some.injEq,Prod.mk.injEq,true_and] at h1
   rw [← h1.1];exact hg
 ·exact Z9e h hr hg (Zkh hon (by rw [h];kernel_rfl)) ha h1
structure Zbez (t:Bool) (r:Zb):Prop where
 w:RecW r
 good:t=true → Zdh r
 zero:t=false → r=zrc
theorem Zbac {k:ByteArray} {r:Zb}:∀ {l:List KV},lk k l=some r → (k,r) ∈ l
 | [],h=>by cases h
 | p :: l,h=>by
  simp only [lk] at h
  split at h
  ·rename_i he
   obtain rfl:=Option.some.inj h
   have:=Zj2.1 he
   subst this
   exact List.mem_cons_self ..
  ·exact List.mem_cons_of_mem _ (Zbac h)
theorem Zz6 {r:Zb} (h:Zdh r):r.List.length ≤ 32:=by
 by_cases hk:8 ≤ r.Kind
 ·have:=h.2.2.2.2.2.2 hk
  omega
 ·have h1:=h.2.2.1
  have h8:decide (8 ≤ r.Kind)=false:=by simpa using hk
  rw [h8] at h1
  simp only [Zh5,Bool.false_or,Bool.and_eq_true,beq_iff_eq] at h1
  have:=h1.2.2
  omega
theorem Zsh {s s':Zp} {k:ByteArray} {x:Zb} {c:Int} (h:Zet s k x=some (s',c)):s'.room=s.room:=by
 unfold Zet at h
 split at h
 ·cases h;rfl
 ·obtain ⟨_,_,h⟩:=Option.bind_eq_some_iff.1 h
  split at h
  ·cases h;rfl
  ·obtain ⟨_,_,h⟩:=Option.bind_eq_some_iff.1 h
   obtain ⟨_,_,h⟩:=Option.bind_eq_some_iff.1 h
   split at h
   ·cases h;rfl
   ·obtain ⟨_,_,h⟩:=Option.bind_eq_some_iff.1 h
    obtain ⟨_,_,h⟩:=Option.bind_eq_some_iff.1 h
    cases h;rfl
theorem Z9y {s s':Zp} {k:ByteArray} {b:Bool} (h:Zhr s k=some (s',b)):s'.room=s.room:=by
 unfold Zhr at h
 obtain ⟨_,_,h⟩:=Option.bind_eq_some_iff.1 h
 split at h
 ·cases h;rfl
 ·obtain ⟨_,_,h⟩:=Option.bind_eq_some_iff.1 h
  cases h;rfl
theorem Zym {s s':Zp} {t:Zx} {n:Nat} (h:Rel s t n) (hn:n < 1000000) {k:ByteArray} {x:Zb} {c:Int} (e:Zet s k x=some (s',c)) (hc:Zd5 x=some 0) (hx:x.List.length ≤ 100) (hk:sEq k ⟨#[]⟩=false) (hk2:k.size ≤ 24) :
  (((lk k (pl t)).isSome=true ∨ (t.L.length:Int) < t.Room) → c=0 ∧ toL s'.top=insL k x (pl t)) ∧ ((lk k (pl t)).isNone=true → t.Room ≤ (t.L.length:Int) → c=8 ∧ s'=s):=by
 have hb:=h.len
 obtain ⟨t1,q1,_,q3⟩:=Z69 (k:=k) (x:=x) h.sz (by rw [h.top];exact h.srt) (by rw [h.tl];omega)
 unfold Zet at e
 rw [hk,hc,Zwd h,Z7g h,Ztl (by unfold Cl;omega)] at e
 have hd:decide ((24:Int) < (k.size:Int))=false:=by simp;omega
 rw [hd] at e
 simp only [Bool.or_self,Bool.false_eq_true,if_false,Option.bind_some,bne_self_eq_false] at e
 cases hl:lk k (pl t) with
 | none =>
  rw [hl] at e
  simp only [getR,Bool.not_false,gd_t,Option.bind_some,Bool.true_and,h.room] at e
  by_cases hr:t.Room ≤ (t.L.length:Int)
  ·rw [if_pos (by simpa using hr)] at e
   cases e
   refine ⟨fun h=>?_,fun _ _=>⟨rfl,rfl⟩⟩
   rcases h with h | h
   ·cases h
   ·omega
  ·rw [if_neg (by simpa using hr),q1] at e
   cases e
   exact ⟨fun _=>⟨rfl,by rw [← h.top];exact q3⟩,fun _ h=>absurd h hr⟩
 | some r =>
  rw [hl] at e
  simp only [getR,Bool.not_true,gd_f,Option.bind_some,Bool.false_and,Bool.false_eq_true,if_false] at e
  rw [q1] at e
  cases e
  exact ⟨fun _=>⟨rfl,by rw [← h.top];exact q3⟩,fun h=>by cases h⟩
structure FR (s:Zp) (t:Zx) (n:Nat):Prop where
 rel:Rel s t n
 good:∀ q ∈ pl t,RecW q.2 ∧ Zdh q.2
 fit:(t.L.length:Int) ≤ t.Room
theorem Zbdj {k:ByteArray} {x r:Zb} {l:List KV} (hs:Srt l) (h:lk k l=some r):(insL k x l).length=l.length:=by
 rcases Zvk x hs with ⟨p,a1,a2,a3,a4,_⟩ | ⟨_,a2,_⟩
 ·rw [a4]
  have:=(List.getElem?_eq_some_iff.1 a1).1
  simp;omega
 ·rw [h] at a2;cases a2
theorem FR.mono {s:Zp} {t:Zx} {n m:Nat} (h:FR s t n) (hm:n ≤ m):FR s t m:=⟨h.rel.mono hm,h.good,h.fit⟩
theorem Zbhi {s:Zp} {t t':Zx} {n:Nat} (h:Rel s t n) (hp:pl t'=pl t) (hr:t'.Room=t.Room):Rel s t' n :=
 ⟨h.top.trans hp.symm,h.sz,by rw [hp];exact h.srt,by rw [← Zh6,hp,Zh6];exact h.len,h.room.trans hr.symm,by rw [hp];exact h.ok⟩
theorem Zbfm {s:Zp} {t t':Zx} {n:Nat} (h:FR s t n) (hp:pl t'=pl t) (hr:t'.Room=t.Room):FR s t' n :=
 ⟨Zbhi h.rel hp hr,by rw [hp];exact h.good,by rw [hr,← Zh6,hp,Zh6];exact h.fit⟩
theorem Z9o {s s':Zp} {t t':Zx} {n m:Nat} {k:ByteArray} {x:Zb} (h:FR s t n) (hr:Rel s' t' m) (hw:RecW x) (hg:Zdh x) (ho:(lk k (pl t)).isSome=true ∨ (t.L.length:Int) < t.Room) (hp:pl t'=insL k x (pl t)) (hro:t'.Room=t.Room):FR s' t' m:=⟨hr,fun q hq=>by
 rw [hp] at hq
 rcases Zws hq with rfl | hq
 ·exact ⟨hw,hg⟩
 ·exact h.good q hq,by
 have hf:=h.fit
 rw [hro,← Zh6,hp]
 have hl:=Zr7 k x (pl t)
 rw [Zh6] at hl
 rcases ho with ho | ho
 ·obtain ⟨r,hr⟩:=Option.isSome_iff_exists.1 ho
  rw [Zbdj h.rel.srt hr,Zh6];exact hf
 ·omega⟩
theorem Zbis {a:Zs} (ha:ActIn a) (h:Ze4 a=some 0):sEq a.Key ⟨#[]⟩=false ∧ a.Key.size ≤ 24:=by
 obtain ⟨c,h1,_,h3⟩:=Zpa ha.ok
 rw [h] at h1
 obtain rfl:=Option.some.inj h1
 exact ⟨(h3 rfl).2.2.2.2.2.2.2.1,(h3 rfl).2.2.2.2.2.2.2.2⟩
theorem Zst {d:Zu} (hd:∀ a ∈ d.Acts,ActIn a) (hl:d.Acts.length ≤ 12):∀ (n i:Nat),i + n=d.Acts.length →
  ∃ z,Zej d (n + 1) (i:Int)=some z ∧ Zhq d (n + 1) (i:Int)=some z ∧ (z=.inr () ∨ ∃ c at_,z=.inl (c,at_) ∧ c ≠ 0)
 | 0,i,h=>by
  rw [Zej,Zhq,if_neg (by simp;omega),if_neg (by simp;omega)]
  exact ⟨_,rfl,rfl,.inl rfl⟩
 | n + 1,i,h=>by
  have h1:i < d.Acts.length:=by omega
  obtain ⟨c,e1,e2,_⟩:=Zpa (hd _ (List.getElem_mem h1)).ok
  rw [Zej,Zhq,if_pos (by simp;omega),if_pos (by simp;omega),Zc3 h1,wr1 (by omega)]
  simp only [Option.bind_some]
  rw [e1,e2]
  simp only [Option.bind_some]
  by_cases hc:(c != 0)=true
  ·rw [if_pos hc,if_pos hc]
   exact ⟨_,rfl,rfl,.inr ⟨_,_,rfl,by simpa using hc⟩⟩
  ·rw [if_neg hc,if_neg hc]
   exact Zst hd hl n (i + 1) (by omega)
theorem Zxf {d:Zu} (hd:∀ a ∈ d.Acts,ActIn a):∃ c at_,Zht d=some (c,at_) ∧ Zrb d=some (c,at_) ∧ (c=0 → 1 ≤ d.Acts.length ∧ d.Acts.length ≤ 12):=by
 unfold Zht Zrb
 by_cases h:d.Acts.length < 1 ∨ 12 < d.Acts.length
 ·rw [if_pos (by rw [Bool.or_eq_true,beq_iff_eq,decide_eq_true_eq];omega),if_pos (by rw [Bool.or_eq_true,decide_eq_true_eq,decide_eq_true_eq];omega)]
  exact ⟨_,_,rfl,rfl,fun h=>by cases h⟩
 ·rw [if_neg (by rw [Bool.or_eq_true,beq_iff_eq,decide_eq_true_eq];omega),if_neg (by rw [Bool.or_eq_true,decide_eq_true_eq,decide_eq_true_eq];omega)]
  obtain ⟨z,e1,e2,hz⟩:=Zst hd (by omega) d.Acts.length 0 (by omega)
  rw [show ((0:Nat):Int)=0 from rfl] at e1 e2
  rw [show (Int.toNat ((d.Acts.length:Int) - (0:Int)) + 1)=d.Acts.length + 1 by omega,e1,e2]
  rcases hz with rfl | ⟨c,at_,rfl,hc⟩
  ·exact ⟨_,_,rfl,rfl,fun _=>by omega⟩
  ·exact ⟨_,_,rfl,rfl,fun h=>absurd h hc⟩
def Zz2 (L:List Zj):Prop:=∀ a ∈ L,RecW a.Rec
theorem Z9k {L:List Zj} {a:Zj} (h:Zz2 L) (ha:RecW a.Rec):Zz2 (L ++ [a]):=fun b hb=>by
 rcases List.mem_append.1 hb with hb | hb
 ·exact h b hb
 ·rw [List.mem_singleton.1 hb];exact ha
def Zzv (R:Z7):Prop:=R.Answers.length ≤ 12 ∧ Zz2 R.Answers
def Zyt (L:List Z7):Prop:=∀ R ∈ L,Zzv R
theorem Z1r {d:Zu} (hl:d.Acts.length ≤ 40) (hw:∀ a ∈ d.Acts,Znu a):∀ (n i:Nat),i + n=d.Acts.length → Zer d (n + 1) (i:Int)=some (.inl 1) ∨ (Zer d (n + 1) (i:Int)=some (.inr ()) ∧ ∀ a ∈ d.Acts.drop i,a.Make.List.length ≤ 100)
 | 0,i,h=>by
  right
  rw [Zer,if_neg (by simp;omega),List.drop_of_length_le (by omega)]
  exact ⟨rfl,fun o ho=>by cases ho⟩
 | n + 1,i,h=>by
  have h1:i < d.Acts.length:=by omega
  obtain ⟨c,e1,e2,e3⟩:=Zbjk (hw _ (List.getElem_mem h1))
  rw [Zer,if_pos (by simp;omega),Zc3 h1,wr1 (by omega)]
  simp only [Option.bind_some]
  rw [e1]
  rcases e2 with rfl | rfl
  ·simp only [Int.lt_irrefl,decide_false,Bool.false_eq_true,if_false,Option.bind_some]
   rcases Z1r hl hw n (i + 1) (by omega) with h2 | ⟨h2,h3⟩
   ·exact .inl h2
   ·right
    refine ⟨h2,fun o ho=>?_⟩
    rw [List.drop_eq_getElem_cons h1] at ho
    rcases List.mem_cons.1 ho with rfl | ho
    ·exact e3 rfl
    ·exact h3 o ho
  ·left;rfl
theorem big8 {d:Zu} (hw:Zm1 d):∃ c,Zky d=some c ∧ (c=0 ∨ c=1) ∧ (c=0 → d.Acts.length ≤ 40 ∧ ∀ a ∈ d.Acts,ActIn a):=by
 unfold Zky
 by_cases h:40 < d.Acts.length
 ·rw [if_pos (by simp;omega)];exact ⟨1,rfl,.inr rfl,fun h=>by cases h⟩
 ·rw [if_neg (by simp;omega),show (Int.toNat ((d.Acts.length:Int) - (0:Int)) + 1)=d.Acts.length + 1 by omega]
  have:=Z1r (d:=d) (by omega) hw.2 d.Acts.length 0 (by omega)
  rw [show ((0:Nat):Int)=0 from rfl] at this
  rcases this with h1 | ⟨h1,h2⟩
  ·rw [h1];exact ⟨1,rfl,.inr rfl,fun h=>by cases h⟩
  ·rw [h1];exact ⟨0,rfl,.inl rfl,fun _=>⟨by omega,fun a ha=>Zbb8 (hw.2 a ha) (h2 a ha)⟩⟩
theorem Zy9 {l:List Zu} (hl:l.length ≤ 40) (hw:∀ d ∈ l,Zm1 d):∀ (n i:Nat),i + n=l.length → Zeu l (n + 1) (i:Int)=some (.inl 1) ∨ (Zeu l (n + 1) (i:Int)=some (.inr ()) ∧ ∀ d ∈ l.drop i,d.Acts.length ≤ 40 ∧ ∀ a ∈ d.Acts,ActIn a)
 | 0,i,h=>by
  right
  rw [Zeu,if_neg (by simp;omega),List.drop_of_length_le (by omega)]
  exact ⟨rfl,fun o ho=>by cases ho⟩
 | n + 1,i,h=>by
  have h1:i < l.length:=by omega
  obtain ⟨c,e1,e2,e3⟩:=big8 (hw _ (List.getElem_mem h1))
  rw [Zeu,if_pos (by simp;omega),Zc3 h1,wr1 (by omega)]
  simp only [Option.bind_some]
  rw [e1]
  rcases e2 with rfl | rfl
  ·simp only [Int.lt_irrefl,decide_false,Bool.false_eq_true,if_false,Option.bind_some]
   rcases Zy9 hl hw n (i + 1) (by omega) with h2 | ⟨h2,h3⟩
   ·exact .inl h2
   ·right
    refine ⟨h2,fun o ho=>?_⟩
    rw [List.drop_eq_getElem_cons h1] at ho
    rcases List.mem_cons.1 ho with rfl | ho
    ·exact e3 rfl
    ·exact h3 o ho
  ·left;rfl
theorem Zbkd {l:List Zu} (hw:∀ d ∈ l,Zm1 d):∃ c,Zku l=some c ∧ (c=0 ∨ c=1) ∧ (c=0 → l.length ≤ 40 ∧ ∀ d ∈ l,d.Acts.length ≤ 40 ∧ ∀ a ∈ d.Acts,ActIn a):=by
 unfold Zku
 by_cases h:40 < l.length
 ·rw [if_pos (by simp;omega)];exact ⟨1,rfl,.inr rfl,fun h=>by cases h⟩
 ·rw [if_neg (by simp;omega),show (Int.toNat ((l.length:Int) - (0:Int)) + 1)=l.length + 1 by omega]
  have:=Zy9 (l:=l) (by omega) hw l.length 0 (by omega)
  rw [show ((0:Nat):Int)=0 from rfl] at this
  rcases this with h1 | ⟨h1,h2⟩
  ·rw [h1];exact ⟨1,rfl,.inr rfl,fun h=>by cases h⟩
  ·rw [h1];exact ⟨0,rfl,.inl rfl,fun _=>⟨by omega,h2⟩⟩
theorem Zy7 {l:List Zbj} (hl:l.length ≤ 60) (hw:∀ p ∈ l,Zh9 p) {z:Zp} {r:Int}:∀ (n i:Nat) {s:Zp} {t:Zx},i + n=l.length → FR s t i → t.Room=r →
  (∃ s',Zd4 l (n + 1) z s t (i:Int)=some (.inl (s',none))) ∨ (∃ s' t',Zd4 l (n + 1) z s t (i:Int)=some (.inr (z,s',t')) ∧ FR s' t' 60 ∧ t'.Room=r)
 | 0,i,s,t,h,hf,hr=>by
  right
  rw [Zd4,if_neg (by simp;omega)]
  exact ⟨s,t,rfl,hf.mono (by omega),hr⟩
 | n + 1,i,s,t,h,hf,hr=>by
  have h1:i < l.length:=by omega
  have hm:=hw _ (List.getElem_mem h1)
  obtain ⟨c,e1,e2,e3⟩:=Zber (Z70 hm.2)
  rw [Zd4,if_pos (by simp;omega),Zc3 h1,wr1 (by omega)]
  simp only [Option.bind_some]
  rw [e1]
  by_cases hk:decide ((100:Int) < ((l[i]).Key.size:Int))=true
  ·rw [hk];left;exact ⟨s,rfl⟩
  ·rw [Bool.eq_false_iff.2 hk]
   simp only [Bool.not_false,gd_t,Option.bind_some,Bool.false_or]
   rcases e2 with rfl | rfl
   ·simp only [Int.lt_irrefl,decide_false,Bool.false_eq_true,if_false]
    have hx:RecW (l[i]).Rec:=Z0e hm.2 (e3 rfl)
    obtain ⟨s',t',c,f1,f2,f3,f4⟩:=Zyl hf.rel (by omega) (l[i]).Key hx.ok (e3 rfl)
    rw [f1,f2]
    simp only [Option.bind_some]
    have hro:t'.Room=t.Room:=by rw [← f3.room,Zsh f1,hf.rel.room]
    refine Zy7 hl hw n (i + 1) (by omega) ?_ (by rw [hro,hr])
    rcases f4 with f4 | ⟨f4,f5,f6,f7⟩
    ·have:=Zbfm hf f4 hro
     exact ⟨f3,this.good,this.fit⟩
    ·refine Z9o hf f3 hx ((Zmf hx.ok).1 f5) ?_ f4 hro
     refine Classical.byContradiction fun hno=>?_
     have h1:(lk (l[i]).Key (pl t)).isNone=true:=by
      cases hz:lk (l[i]).Key (pl t) with
      | none=>rfl
      | some r=>exact absurd (.inl (by rw [hz];rfl)) hno
     have h2:t.Room ≤ (t.L.length:Int):=Int.not_lt.1 fun h=>hno (.inr h)
     have hk1:sEq (l[i]).Key ⟨#[]⟩=false:=by
      rw [Z1i];simpa using f6
     obtain ⟨_,hs⟩:=(Zym hf.rel (by omega) f1 f5 (e3 rfl) hk1 (by omega)).2 h1 h2
     subst hs
     have ht:=f3.top
     rw [hf.rel.top,f4] at ht
     rcases Zvk (k:=(l[i]).Key) (l[i]).Rec hf.rel.srt with ⟨p,_,_,a3,_⟩ | ⟨_,_,a3,_⟩
     ·rw [a3] at h1;cases h1
     ·have hle:=congrArg List.length ht
      rw [a3] at hle
      have hrk:=Z2u (l[i]).Key (pl t)
      simp at hle
      omega
   ·left;exact ⟨s,rfl⟩
theorem Zbdc {r:Int} {l:List Zbj} (hw:∀ p ∈ l,Zh9 p):(∃ s,Zhx r l=some (s,none)) ∨ (∃ s t,Zhx r l=some (s,some t) ∧ FR s t 60 ∧ t.Room=r ∧ 1 ≤ r ∧ r ≤ 4096):=by
 unfold Zhx Zsd
 by_cases hr:r < 1 ∨ 4096 < r
 ·rw [if_pos (by simpa using hr)]
  left;exact ⟨_,rfl⟩
 ·rw [if_neg (by simpa using hr)]
  simp only [Option.bind_some,bne_self_eq_false,Bool.false_or]
  by_cases hl:60 < l.length
  ·rw [if_pos (by simp;omega)];left;exact ⟨_,rfl⟩
  ·rw [if_neg (by simp;omega),show (Int.toNat ((l.length:Int) - (0:Int)) + 1)=l.length + 1 by omega]
   have:=Zy7 (l:=l) (by omega) hw (z:=default) (r:=r) l.length 0 (by omega) ⟨Zbe6 r,fun q hq=>by simp [pl] at hq,by simp;omega⟩ rfl
   rw [show ((0:Nat):Int)=0 from rfl] at this
   rcases this with ⟨s',e⟩ | ⟨s',t',e,e2,e3⟩
   ·rw [e];left;exact ⟨_,rfl⟩
   ·rw [e];right;exact ⟨s',t',rfl,e2,e3,by omega,by omega⟩
structure DB (d:Zu):Prop where
 l1:1 ≤ d.Acts.length
 l12:d.Acts.length ≤ 12
 ab:∀ a ∈ d.Acts,AB a ∧ Ze4 a=some 0
theorem Zyb {α:Type} {f:α → List Int} {m:Nat}:∀ (l:List α),(∀ a ∈ l,(f a).length ≤ m) → (l.flatMap f).length ≤ l.length * m
 | [],h=>by simp
 | a :: l,h=>by
  have h1:=h a (List.mem_cons_self ..)
  have h2:=Zyb l fun x hx=>h x (List.mem_cons_of_mem _ hx)
  simp only [List.flatMap_cons,List.length_append,List.length_cons,Nat.add_mul]
  omega
def Zsk (d:Zu):List Int:=W d.Acts.length ++ d.Acts.flatMap actB
theorem Zbbq {d:Zu} (h:DB d):(Zsk d).length ≤ 30000:=by
 have h1:=Zlj d.Acts.length
 have h2:=Zyb d.Acts (f:=actB) (m:=2200) fun a ha=>(Zbb1 (h.ab a ha).1).2
 have h3:d.Acts.length * 2200 ≤ 12 * 2200:=Nat.mul_le_mul_right _ h.l12
 unfold Zsk
 simp only [List.length_append]
 omega
theorem Z5l {d:Zu}:∀ (n i:Nat),i + n=d.Acts.length → d.Acts.length ≤ 12 → (∀ a ∈ d.Acts,ActIn a) → Zej d (n + 1) (i:Int)=some (.inr ()) → ∀ a ∈ d.Acts.drop i,Ze4 a=some 0
 | 0,i,h,hl,hi,e=>fun a ha=>by rw [List.drop_of_length_le (by omega)] at ha;cases ha
 | n + 1,i,h,hl,hi,e=>fun a ha=>by
  have h1:i < d.Acts.length:=by omega
  obtain ⟨c,e1,_⟩:=Zpa (hi _ (List.getElem_mem h1)).ok
  rw [Zej,if_pos (by simp;omega),Zc3 h1,wr1 (by omega),Option.bind_some,e1,Option.bind_some] at e
  by_cases hc:(c != 0)=true
  ·rw [if_pos hc] at e;cases e
  ·rw [if_neg hc] at e
   rw [List.drop_eq_getElem_cons h1] at ha
   rcases List.mem_cons.1 ha with rfl | ha
   ·have:c=0:=by simpa using hc
    rw [e1,this]
   ·exact Z5l n (i + 1) (by omega) hl hi e a ha
theorem Z1z {d:Zu} (hl:d.Acts.length ≤ 12):∀ (n i:Nat),i + n=d.Acts.length → (∀ a ∈ d.Acts,Ze4 a=some 0) → Zej d (n + 1) (i:Int)=some (.inr ())
 | 0,i,h,hi=>by rw [Zej,if_neg (by simp;omega)]
 | n + 1,i,h,hi=>by
  have h1:i < d.Acts.length:=by omega
  rw [Zej,if_pos (by simp;omega),Zc3 h1,wr1 (by omega),Option.bind_some,hi _ (List.getElem_mem h1),Option.bind_some,if_neg (by simp)]
  exact Z1z hl n (i + 1) (by omega) hi
theorem Z35 {d:Zu} (hd:∀ a ∈ d.Acts,ActIn a):(∃ c at_,Zht d=some (c,at_) ∧ c ≠ 0) ∨ (DB d ∧ ∃ at_,Zht d=some (0,at_)):=by
 obtain ⟨c,at_,e1,_,e3⟩:=Zxf hd
 by_cases hc:c=0
 ·subst hc
  obtain ⟨l1,l2⟩:=e3 rfl
  refine .inr ⟨⟨l1,l2,?_⟩,at_,e1⟩
  unfold Zht at e1
  rw [if_neg (by rw [Bool.or_eq_true,beq_iff_eq,decide_eq_true_eq];omega)] at e1
  obtain ⟨z,f1,_,hz⟩:=Zst hd (by omega) d.Acts.length 0 (by omega)
  rw [show ((0:Nat):Int)=0 from rfl] at f1
  rw [show (Int.toNat ((d.Acts.length:Int) - (0:Int)) + 1)=d.Acts.length + 1 by omega,f1] at e1
  rcases hz with rfl | ⟨c',a',rfl,hc'⟩
  ·have:=Z5l d.Acts.length 0 (by omega) l2 hd (by rw [show ((0:Nat):Int)=0 from rfl];exact f1)
   rw [List.drop_zero] at this
   exact fun a ha=>⟨Zbjm (hd a ha) (this a ha),this a ha⟩
  ·rw [Option.bind_some] at e1
   have:=congrArg Prod.fst (Option.some.inj e1)
   exact absurd this hc'
 ·exact .inl ⟨c,at_,e1,hc⟩
theorem Z9v {d:Zu} (h:DB d):Zht d=some (0,0):=by
 unfold Zht
 have l1:=h.l1;have l2:=h.l12
 rw [if_neg (by rw [Bool.or_eq_true,beq_iff_eq,decide_eq_true_eq];omega),show (Int.toNat ((d.Acts.length:Int) - (0:Int)) + 1)=d.Acts.length + 1 by omega]
 have:=Z1z h.l12 d.Acts.length 0 (by omega) fun a ha=>(h.ab a ha).2
 rw [show ((0:Nat):Int)=0 from rfl] at this
 rw [this];rfl
theorem Z4h {d:Zu} (h:DB d):∀ (n i:Nat) (b:List Int),i + n=d.Acts.length → b.length + ((d.Acts.drop i).flatMap actB).length ≤ 1000000000 → Zh4 d (n + 1) (i:Int) ⟨b⟩=some ⟨b ++ (d.Acts.drop i).flatMap actB⟩
 | 0,i,b,hi,hb=>by rw [Zh4,if_neg (by simp;omega),List.drop_of_length_le (by omega)];simp
 | n + 1,i,b,hi,hb=>by
  have h1:i < d.Acts.length:=by omega
  have hl:=h.l12
  rw [List.drop_eq_getElem_cons h1] at hb ⊢
  simp only [List.flatMap_cons,List.length_append] at hb ⊢
  rw [Zh4,if_pos (by simp;omega),Zc3 h1,Option.bind_some]
  refine (Zmi (Zbdq (h.ab _ (List.getElem_mem h1)).1) (by omega) _).trans ?_
  rw [wr1 (by omega)]
  refine (Z4h h n (i + 1) _ (by omega) ?_).trans ?_
  ·simp only [List.length_append];omega
  ·simp only [List.append_assoc]
theorem Zbbf {d:Zu} (h:DB d):Puts (fun w=>Zn4 w d) (Zsk d):=fun b hb=>by
 show Zn4 _ d=_
 unfold Zsk at hb ⊢
 simp only [List.length_append] at hb
 have hl:=h.l12
 unfold Zn4
 rw [wru (x:=(d.Acts.length:Int)) (by omega) (by omega),show (Int.toNat ((d.Acts.length:Int) - (0:Int)) + 1)=d.Acts.length + 1 by omega]
 refine (Zmi (Zpl (v:=d.Acts.length) (by omega)) (by omega) _).trans ?_
 have:=Z4h h d.Acts.length 0 (b ++ W d.Acts.length) (by omega) (by simp only [List.length_append,List.drop_zero];omega)
 rw [show ((0:Nat):Int)=0 from rfl,List.drop_zero] at this
 rw [this,Option.bind_some,List.append_assoc]
theorem Z09 {d:Zu} (h:DB d) {X:List Int} {R:Ze} (hX:X.length ≤ 1000000000):∀ (n i p:Nat) (post:List Int),i + n=d.Acts.length → X.drop p=(d.Acts.drop i).flatMap actB ++ post →
  Zhu ((d.Acts.length:Int),R) (n + 1) ⟨d.Acts.take i⟩ (i:Int) ⟨X,(p:Int)⟩=some (d,⟨X,((p + ((d.Acts.drop i).flatMap actB).length:Nat):Int)⟩)
 | 0,i,p,post,hi,hd=>by
  rw [Zhu,if_neg (by simp;omega),List.drop_of_length_le (by omega),List.take_of_length_le (by omega)];simp
 | n + 1,i,p,post,hi,hd=>by
  have h1:i < d.Acts.length:=by omega
  have hl:=h.l12
  obtain ⟨g1,g2⟩:=h.ab _ (List.getElem_mem h1)
  rw [List.drop_eq_getElem_cons h1] at hd ⊢
  simp only [List.flatMap_cons,List.append_assoc] at hd
  rw [Zhu,if_pos (by simp;omega)]
  refine (Zm9 (Zbax g1 g2) hX hd (fun x R'=>if ((d.Acts.take i).length + ([x]:List Zs).length) * 152 ≤ 140737488355328 then (Zhu ((d.Acts.length:Int),R) (n + 1)) ⟨d.Acts.take i ++ [x]⟩ (IntKind.i64.wrap ((i:Int) + 1)) R' else none)).trans ?_
  rw [if_pos (by simp;omega),wr1 (by omega),List.take_append_getElem h1]
  refine (Z09 h hX n (i + 1) _ post (by omega) (Zdm hd)).trans ?_
  simp only [List.flatMap_cons,List.length_append,Nat.add_assoc]
theorem Z8l {d:Zu} (h:DB d):Zph Zqp (Zsk d) d:=fun X i post hX hd=>by
 have hl:=h.l12;have hl1:=h.l1
 unfold Zsk at hd ⊢
 rw [List.append_assoc] at hd
 unfold Zqp
 refine (Zm9 (Zl9 (v:=d.Acts.length) (l:=12) (by omega) (by decide)) hX hd (fun x R=>if (x == (0:Int)) then ((Zdg R (1:Int)).bind fun r4=>(Zki (x,R) r4)) else (Zki (x,R) R))).trans ?_
 rw [if_neg (by rw [beq_iff_eq];omega)]
 unfold Zki
 simp only []
 rw [show (Int.toNat ((d.Acts.length:Int) - (0:Int)) + 1)=d.Acts.length + 1 by omega]
 have:=Z09 h (R:=⟨X,((i + (W d.Acts.length).length:Nat):Int)⟩) hX d.Acts.length 0 (i + (W d.Acts.length).length) post (by omega) (by rw [List.drop_zero];exact Zdm hd)
 rw [show ((0:Nat):Int)=0 from rfl,List.drop_zero,List.take_zero] at this
 rw [show (default:Zu)=⟨[]⟩ from rfl,this,Option.bind_some]
 simp only [List.length_append,Nat.add_assoc]
def Zj8 (l:List Zu):List Int:=l.flatMap Zsk
def lotB (x:Zbk):List Int:=W x.Number.toNat ++ (W x.Deals.length ++ Zj8 x.Deals)
theorem Z1k {x:Zbk} (hl:x.Deals.length ≤ 32) (h:∀ d ∈ x.Deals,DB d):∀ (n i:Nat) (b:List Int),i + n=x.Deals.length → b.length + (Zj8 (x.Deals.drop i)).length ≤ 1000000000 → Zhe x (n + 1) (i:Int) ⟨b⟩=some ⟨b ++ Zj8 (x.Deals.drop i)⟩
 | 0,i,b,hi,hb=>by rw [Zhe,if_neg (by simp;omega),List.drop_of_length_le (by omega)];simp [Zj8]
 | n + 1,i,b,hi,hb=>by
  have h1:i < x.Deals.length:=by omega
  rw [List.drop_eq_getElem_cons h1] at hb ⊢
  simp only [Zj8,List.flatMap_cons,List.length_append] at hb ⊢
  rw [Zhe,if_pos (by simp;omega),Zc3 h1,Option.bind_some]
  refine (Zmi (Zbbf (h _ (List.getElem_mem h1))) (by omega) _).trans ?_
  rw [wr1 (by omega)]
  refine (Z1k hl h n (i + 1) _ (by omega) ?_).trans ?_
  ·simp only [List.length_append,Zj8];omega
  ·simp only [List.append_assoc,Zj8]
theorem Zbc0 {x:Zbk} (hl:x.Deals.length ≤ 32) (h:∀ d ∈ x.Deals,DB d):(lotB x).length ≤ 1000000:=by
 have h1:=Zlj x.Number.toNat
 have h2:=Zlj x.Deals.length
 have h3:=Zyb x.Deals (f:=Zsk) (m:=30000) fun d hd=>Zbbq (h d hd)
 have h4:x.Deals.length * 30000 ≤ 32 * 30000:=Nat.mul_le_mul_right _ hl
 unfold lotB Zj8
 simp only [List.length_append]
 omega
theorem Zuc {x:Zbk} (hn:1 ≤ x.Number) (hn2:x.Number ≤ 1099511627776) (hl:x.Deals.length ≤ 32) (h:∀ d ∈ x.Deals,DB d):Zm6 x=some (lotB x):=by
 have hlen:=Zbc0 hl h
 unfold lotB at hlen ⊢
 simp only [List.length_append] at hlen
 unfold Zm6
 have hnu:IntKind.u64.wrap x.Number=((x.Number.toNat:Nat):Int):=by rw [wru (by omega) (by omega)];omega
 rw [hnu,wru (x:=(x.Deals.length:Int)) (by omega) (by omega),show (Int.toNat ((x.Deals.length:Int) - (0:Int)) + 1)=x.Deals.length + 1 by omega]
 refine (Zmi (Zpl (v:=x.Number.toNat) (by omega)) (by simp only [List.length_nil];omega) _).trans ?_
 refine (Zmi (Zpl (v:=x.Deals.length) (by omega)) (by simp only [List.length_append,List.length_nil];omega) _).trans ?_
 have:=Z1k hl h x.Deals.length 0 ([] ++ W x.Number.toNat ++ W x.Deals.length) (by omega) (by simp only [List.length_append,List.length_nil,List.drop_zero];omega)
 rw [show ((0:Nat):Int)=0 from rfl,List.drop_zero] at this
 rw [this,Option.bind_some]
 simp only []
 unfold Zlk
 rw [if_pos (by simp only [List.length_append,List.length_nil];omega)]
 simp only [Option.bind_some,List.nil_append,List.append_assoc]
theorem Zxj {x:Zbk} (hl:x.Deals.length ≤ 32) (h:∀ d ∈ x.Deals,∀ a ∈ d.Acts,ActIn a):∀ (n i:Nat),i + n=x.Deals.length → (∃ c at_,Zfq x (n + 1) (i:Int)=some (.inl (c,at_)) ∧ c ≠ 0) ∨ (Zfq x (n + 1) (i:Int)=some (.inr ()) ∧ ∀ d ∈ x.Deals.drop i,DB d)
 | 0,i,hi=>by
  right
  rw [Zfq,if_neg (by simp;omega),List.drop_of_length_le (by omega)]
  exact ⟨rfl,fun d hd=>by cases hd⟩
 | n + 1,i,hi=>by
  have h1:i < x.Deals.length:=by omega
  rw [Zfq,if_pos (by simp;omega),Zc3 h1,Option.bind_some,wr1 (by omega),List.drop_eq_getElem_cons h1]
  rcases Z35 (h _ (List.getElem_mem h1)) with ⟨c,a,e,hc⟩ | ⟨hd,a,e⟩
  ·rw [e,Option.bind_some,if_pos (by simpa using hc)]
   exact .inl ⟨c,_,rfl,hc⟩
  ·rw [e,Option.bind_some,if_neg (by simp)]
   rcases Zxj hl h n (i + 1) (by omega) with h2 | ⟨h2,h3⟩
   ·exact .inl h2
   ·refine .inr ⟨h2,fun d hd'=>?_⟩
    rcases List.mem_cons.1 hd' with rfl | hd'
    ·exact hd
    ·exact h3 d hd'
structure LB (x:Zbk):Prop where
 n1:1 ≤ x.Number
 n2:x.Number ≤ 1099511627776
 l:x.Deals.length ≤ 32
 db:∀ d ∈ x.Deals,DB d
 short:(lotB x).length ≤ 2048
theorem Zbg1 {x:Zbk} (h:∀ d ∈ x.Deals,∀ a ∈ d.Acts,ActIn a):∃ c at_,Zgg x=some (c,at_) ∧ (c=0 → at_=0 ∧ LB x):=by
 unfold Zgg
 by_cases hn:x.Number < 1 ∨ 1099511627776 < x.Number
 ·rw [if_pos (by simpa using hn)];exact ⟨_,_,rfl,fun h=>by cases h⟩
 rw [if_neg (by simpa using hn)]
 by_cases hl:32 < x.Deals.length
 ·rw [if_pos (by simp;omega)];exact ⟨_,_,rfl,fun h=>by cases h⟩
 rw [if_neg (by simp;omega),show (Int.toNat ((x.Deals.length:Int) - (0:Int)) + 1)=x.Deals.length + 1 by omega]
 have:=Zxj (x:=x) (by omega) h x.Deals.length 0 (by omega)
 rw [show ((0:Nat):Int)=0 from rfl] at this
 rcases this with ⟨c,a,e,hc⟩ | ⟨e,hd⟩
 ·rw [e,Option.bind_some];exact ⟨c,a,rfl,fun h=>absurd h hc⟩
 ·rw [List.drop_zero] at hd
  rw [e,Option.bind_some]
  simp only []
  rw [Zuc (by omega) (by omega) (by omega) hd,Option.bind_some]
  by_cases hs:2048 < (lotB x).length
  ·rw [if_pos (by simp;omega)];exact ⟨_,_,rfl,fun h=>by cases h⟩
  ·rw [if_neg (by simp;omega)];exact ⟨_,_,rfl,fun _=>⟨rfl,by omega,by omega,by omega,hd,by omega⟩⟩
theorem Z4q {x:Zbk} (hl:x.Deals.length ≤ 32) (h:∀ d ∈ x.Deals,DB d):∀ (n i:Nat),i + n=x.Deals.length → Zfq x (n + 1) (i:Int)=some (.inr ())
 | 0,i,hi=>by rw [Zfq,if_neg (by simp;omega)]
 | n + 1,i,hi=>by
  have h1:i < x.Deals.length:=by omega
  rw [Zfq,if_pos (by simp;omega),Zc3 h1,Option.bind_some,wr1 (by omega),Z9v (h _ (List.getElem_mem h1)),Option.bind_some,if_neg (by simp)]
  exact Z4q hl h n (i + 1) (by omega)
theorem Zvq {x:Zbk} (h:LB x):Zgg x=some (0,0):=by
 have n1:=h.n1;have n2:=h.n2;have l:=h.l;have s:=h.short
 unfold Zgg
 rw [if_neg (by simp;omega),if_neg (by simp;omega),show (Int.toNat ((x.Deals.length:Int) - (0:Int)) + 1)=x.Deals.length + 1 by omega]
 have:=Z4q l h.db x.Deals.length 0 (by omega)
 rw [show ((0:Nat):Int)=0 from rfl] at this
 rw [this,Option.bind_some]
 simp only []
 rw [Zuc n1 n2 l h.db,Option.bind_some,if_neg (by simp;omega)]
theorem Z2a {x:Zbk} (h:LB x):Zo4 x=some (lotB x):=by
 unfold Zo4
 rw [Zvq h,Option.bind_some,if_neg (by simp),Zuc h.n1 h.n2 h.l h.db];rfl
theorem Zyu {x:Zbk} (h:LB x) {X:List Int} {R:Ze} (hX:X.length ≤ 1000000000):∀ (n i p:Nat) (post:List Int),i + n=x.Deals.length → X.drop p=Zj8 (x.Deals.drop i) ++ post →
  Zhj ((x.Deals.length:Int),R) (n + 1) ⟨x.Number,x.Deals.take i⟩ ⟨X,(p:Int)⟩ (i:Int)=some (x,⟨X,((p + (Zj8 (x.Deals.drop i)).length:Nat):Int)⟩)
 | 0,i,p,post,hi,hd=>by
  rw [Zhj,if_neg (by simp;omega),List.drop_of_length_le (by omega),List.take_of_length_le (by omega)];simp [Zj8]
 | n + 1,i,p,post,hi,hd=>by
  have h1:i < x.Deals.length:=by omega
  have hl:=h.l
  rw [List.drop_eq_getElem_cons h1] at hd ⊢
  simp only [Zj8,List.flatMap_cons,List.append_assoc] at hd
  rw [Zhj,if_pos (by simp;omega)]
  refine (Zm9 (Z8l (h.db _ (List.getElem_mem h1))) hX hd (fun y R'=>if ((x.Deals.take i).length + ([y]:List Zu).length) * 24 ≤ 140737488355328 then (Zhj ((x.Deals.length:Int),R) (n + 1)) ⟨x.Number,x.Deals.take i ++ [y]⟩ R' (IntKind.i64.wrap ((i:Int) + 1)) else none)).trans ?_
  rw [if_pos (by simp;omega),wr1 (by omega),List.take_append_getElem h1]
  refine (Zyu h hX n (i + 1) _ post (by omega) (Zdm hd)).trans ?_
  simp only [Zj8,List.flatMap_cons,List.length_append,Nat.add_assoc]
theorem Zbgu {x:Zbk} (h:LB x):Zr5 (lotB x)=some (x,⟨0,0⟩):=by
 have n1:=h.n1;have n2:=h.n2;have l:=h.l;have s:=h.short
 have hk:((x.Number.toNat:Nat):Int)=x.Number:=by omega
 generalize hX:lotB x=X
 rw [hX] at s
 have hd0:X.drop 0=W x.Number.toNat ++ (W x.Deals.length ++ (Zj8 x.Deals ++ [])):=by rw [List.drop_zero,← hX,List.append_nil];rfl
 have hX1:X.length ≤ 1000000000:=by omega
 unfold Zr5 Zx8
 rw [Option.bind_some]
 refine (Zm9 (Zl9 (v:=x.Number.toNat) (l:=1099511627776) (by omega) (by decide)) hX1 hd0 (fun y R=>if (({ (default:Zbk) with Number:=y }:Zbk).Number == (0:Int)) then ((Zdg R (1:Int)).bind fun r6=>(Zk7 (y,R) r6)) else (Zk7 (y,R) R))).trans ?_
 simp only [hk]
 rw [if_neg (by simp;omega)]
 unfold Zk7
 have hd1:=Zdm hd0
 refine (Zm9 (Zl9 (v:=x.Deals.length) (l:=32) (by omega) (by decide)) hX1 hd1 (fun y R=>(Zhj (y,R) (Int.toNat (y - (0:Int)) + 1) ⟨x.Number,[]⟩ R (0:Int)).bind fun z20=>match z20 with | (y18,y19)=>((Zgg y18).bind fun r21=>(if (r21.1 != (0:Int)) then ((Zdg y19 r21.1).bind fun r24=>(Zla y18 r24)) else (Zla y18 y19))))).trans ?_
 have hd2:=Zdm hd1
 rw [show (Int.toNat ((x.Deals.length:Int) - (0:Int)) + 1)=x.Deals.length + 1 by omega]
 have:=Zyu h (R:=⟨X,((0 + (W x.Number.toNat).length + (W x.Deals.length).length:Nat):Int)⟩) hX1 x.Deals.length 0 (0 + (W x.Number.toNat).length + (W x.Deals.length).length) [] (by omega) (by rw [List.drop_zero];exact hd2)
 rw [show ((0:Nat):Int)=0 from rfl,List.drop_zero,List.take_zero] at this
 rw [this,Option.bind_some]
 simp only []
 rw [Zvq h,Option.bind_some,if_neg (by simp)]
 unfold Zla Znb Zio
 have hlen:0 + (W x.Number.toNat).length + (W x.Deals.length).length + (Zj8 x.Deals).length=X.length:=by
  rw [← hX];unfold lotB;simp only [List.length_append];omega
 rw [hlen,Option.bind_some]
 simp only []
 rw [if_neg (by rw [decide_eq_true_eq,Int.sub_self];decide)]
 rfl
theorem Zxk {R:Z7} (hR:Zzv R):∀ (n i:Nat),i + n=R.Answers.length → Zeq R R (n + 1) (i:Int)=some (.inr ())
 | 0,i,h=>by rw [Zeq,if_neg (by simp;omega)]
 | n + 1,i,h=>by
  have hl:=hR.1
  have h1:i < R.Answers.length:=by omega
  have hw:=hR.2 _ (List.getElem_mem h1)
  rw [Zeq,if_pos (by simp;omega),Zc3 h1,wr1 (by omega)]
  simp only [Option.bind_some]
  rw [Zbiw hw hw]
  simp only [beq_self_eq_true,Z97,Bool.and_self,Option.bind_some,Bool.not_true,Bool.false_eq_true,if_false]
  exact Zxk hR n (i + 1) (by omega)
theorem Zbh8 {R:Z7} (hR:Zzv R):Zjh R R=some true:=by
 unfold Zjh
 simp only [bne_self_eq_false,Bool.or_self,Bool.false_eq_true,if_false]
 have:=Zxk hR R.Answers.length 0 (by omega)
 rw [show ((0:Nat):Int)=0 from rfl] at this
 rw [show (Int.toNat ((R.Answers.length:Int) - (0:Int)) + 1)=R.Answers.length + 1 by omega,this]
 rfl
theorem Zvm {L:List Z7} (hl:L.length ≤ 1000) (hR:Zyt L):∀ (n i:Nat),i + n=L.length → Zep L L (n + 1) (i:Int)=some (.inr ())
 | 0,i,h=>by rw [Zep,if_neg (by simp;omega)]
 | n + 1,i,h=>by
  have h1:i < L.length:=by omega
  rw [Zep,if_pos (by simp;omega),Zc3 h1,wr1 (by omega)]
  simp only [Option.bind_some]
  rw [Zbh8 (hR _ (List.getElem_mem h1))]
  simp only [Option.bind_some,Bool.not_true,Bool.false_eq_true,if_false]
  exact Zvm hl hR n (i + 1) (by omega)
theorem Zbgx {L:List Z7} (hl:L.length ≤ 1000) (hR:Zyt L):Zjb L L=some true:=by
 unfold Zjb
 simp only [bne_self_eq_false,Bool.false_eq_true,if_false]
 have:=Zvm hl hR L.length 0 (by omega)
 rw [show ((0:Nat):Int)=0 from rfl] at this
 rw [show (Int.toNat ((L.length:Int) - (0:Int)) + 1)=L.length + 1 by omega,this]
 rfl
theorem Zbdg {s:Zp} {t:Zx} {n:Nat} (h:FR s t n) (hn:n < 1000000) {a:Zs} (ha:ActIn a) :
  ∃ s' t' out,Zrs s a=some (s',out) ∧ FR s' t' (n + 1) ∧ RecW out.Rec ∧ t'.Room=t.Room:=by
 obtain ⟨r,there,hg,hi,hl1,hl2⟩:∃ r there,getR (lk a.Key (pl t))=(r,there) ∧ Zbez there r ∧ (there=true → lk a.Key (pl t)=some r) ∧ (there=false → lk a.Key (pl t)=none):=by
  cases hl:lk a.Key (pl t) with
  | none=>exact ⟨_,_,rfl,⟨Zdz,fun h=>(by cases h),fun _=>rfl⟩,fun h=>(by cases h),fun _=>rfl⟩
  | some r =>
   obtain ⟨g1,g2⟩:=h.good _ (Zbac hl)
   exact ⟨_,_,rfl,⟨g1,fun _=>g2,fun h=>(by cases h)⟩,fun _=>rfl,fun h=>(by cases h)⟩
 obtain ⟨x,is,out,e1,e2,w1,w2⟩:=Z9a (there:=there) hi.w ha
 obtain ⟨z,e3,hs⟩:=Z6v (there:=there) hi.w ha
 have hr0:(if there=true then r else zrc)=r:=by
  cases there
  ·exact (hi.zero rfl).symm
  ·rfl
 rw [hr0] at hs
 rw [e1] at e3
 obtain rfl:=Option.some.inj e3
 unfold Zrs
 rw [Zwd h.rel,hg]
 simp only [Option.bind_some]
 rw [e1]
 simp only [Option.bind_some,Zsg]
 rcases hs with ⟨c,hc,hz⟩ | ⟨h1,h2,h3,hs⟩
 ·obtain ⟨rfl,rfl,rfl⟩:x=r ∧ is=there ∧ out=ans c:=by simpa using hz
  have hc':(c != 0)=true:=by simpa using hc
  simp only [hc',Bool.not_true,gd_f,Option.bind_some,Bool.true_or,if_true]
  exact ⟨s,t,_,rfl,h.mono (by omega),w2,rfl⟩
 obtain ⟨k1,k2⟩:=Zbis ha h1
 have hset:∀ {y:Zb},RecW y → Zdh y → ((lk a.Key (pl t)).isSome=true ∨ (t.L.length:Int) < t.Room) → ∃ s' t',Zet s a.Key y=some (s',0) ∧ Zf9 t a.Key y=some (t',0) ∧ FR s' t' (n + 1) ∧ pl t'=insL a.Key y (pl t):=fun {y} hw hgy ho=>by
  have hsh:=Zz6 hgy
  obtain ⟨s',t',c,f1,f2,f3,_⟩:=Zyl h.rel hn a.Key hw.ok (by omega)
  obtain ⟨rfl,hp⟩:=(Zym h.rel hn f1 ((Zmf hw.ok).2 hgy) (by omega) k1 k2).1 ho
  rw [f3.top] at hp
  exact ⟨s',t',f1,f2,Z9o h f3 hw hgy ho hp (by rw [← f3.room,Zsh f1,h.rel.room]),hp⟩
 rcases hs with ⟨hk,rfl,hmk,hz⟩ | ⟨hk,rfl,hz⟩ | ⟨hk,hz⟩ | ⟨hk,rfl,hz⟩ | ⟨k5,k21,rfl,kon,r',o,q1,q2,q3,q4,q5,hz⟩
 ·
  obtain ⟨rfl,rfl,rfl⟩:x=a.Make ∧ is=true ∧ out=ans 0:=by simpa using hz
  have hl:=hl2 rfl
  rw [hk]
  simp only [bne_self_eq_false,Bool.not_false,gd_t,Option.bind_some,show ((((((1:Int) == 3) || ((1:Int) == 4)) || ((1:Int) == 9)) || ((1:Int) == 12)) || ((1:Int) == 20))=false from rfl,Bool.or_self,Bool.false_eq_true,if_false,Bool.not_true,beq_self_eq_true,Bool.true_and]
  by_cases hr:t.Room ≤ (t.L.length:Int)
  ·have hsh:=Zz6 hmk
   obtain ⟨s',t',c,f1,f2,f3,_⟩:=Zyl h.rel hn a.Key ha.mkr.ok (by omega)
   obtain ⟨rfl,rfl⟩:=(Zym h.rel hn f1 ((Zmf ha.mkr.ok).2 hmk) (by omega) k1 k2).2 (by rw [hl];rfl) hr
   rw [f1]
   exact ⟨s',t,_,rfl,h.mono (by omega),Zdz,rfl⟩
  ·obtain ⟨s',t',f1,f2,f3,_⟩:=hset ha.mkr hmk (.inr (by omega))
   rw [f1]
   exact ⟨s',t',_,rfl,f3,Zdz,by rw [← f3.rel.room,Zsh f1,h.rel.room]⟩
 ·
  obtain ⟨rfl,rfl,rfl⟩:x=zrc ∧ is=false ∧ out=ans 0:=by simpa using hz
  rw [hk]
  obtain ⟨s',t',b,f1,f2,f3,f4⟩:=Zbcu h.rel hn a.Key
  rw [f1]
  have hro:t'.Room=t.Room:=by rw [← f3.room,Z9y f1,h.rel.room]
  have hf:=h.fit
  refine ⟨s',t',ans 0,rfl,⟨f3.mono (by omega),fun q hq=>?_,?_⟩,Zdz,hro⟩
  ·rcases f4 with f4 | f4
   ·rw [f4] at hq;exact h.good q hq
   ·rw [f4] at hq;exact h.good q (Zwn hq)
  ·rw [hro,← Zh6]
   rcases f4 with f4 | f4
   ·rw [f4,Zh6];exact hf
   ·have:=Ztt a.Key (pl t)
    rw [Zh6] at this
    rw [f4];omega
 ·
  obtain ⟨rfl,rfl,rfl⟩:x=r ∧ is=there ∧ out={ ans 0 with Num:=r.Kind }:=by simpa using hz
  rw [hk]
  exact ⟨s,t,_,rfl,h.mono (by omega),Zdz,rfl⟩
 ·
  obtain ⟨rfl,rfl,rfl⟩:x=r ∧ is=true ∧ out={ ans 0 with Rec:=r }:=by simpa using hz
  rw [hk]
  exact ⟨s,t,_,rfl,h.mono (by omega),hi.w,rfl⟩
 ·
  obtain ⟨rfl,rfl,rfl⟩:x=r' ∧ is=true ∧ out=o:=by simpa using hz
  have hl:=hl1 rfl
  have hgx:Zdh x:=Zbb3 k5 k21 kon hi.w (hi.good rfl) h2 q1
  obtain ⟨s',t',f1,f2,f3,f4⟩:=hset q4 hgx (.inl (by rw [hl];rfl))
  rw [q2]
  simp only [bne_self_eq_false,Bool.not_false,gd_t,Option.bind_some,Bool.false_or,Bool.false_eq_true,if_false,Bool.not_true,Bool.false_and]
  by_cases hrd:(((((a.Kind == (3:Int)) || (a.Kind == (4:Int))) || (a.Kind == (9:Int))) || (a.Kind == (12:Int))) || (a.Kind == (20:Int)))=true
  ·rw [if_pos hrd]
   exact ⟨s,t,_,rfl,h.mono (by omega),q5,rfl⟩
  ·rw [if_neg hrd,f1]
   exact ⟨s',t',_,rfl,f3,q5,by rw [← f3.rel.room,Zsh f1,h.rel.room]⟩
theorem Z8h {ε β:Type} (e:Zs) (out:Zj) (i:Int) (F:Zea → Option β) (R:Zj → Option β) :
  Z4g (Zoi e out i) F ((Zqt e out i).bind R)=if (e.Must && (out.Code != 0))=true then F { code:=out.Code,at_:=i } else R out:=by
 unfold Zoi Zqt
 by_cases h:(e.Must && (out.Code != 0))=true
 ·rw [if_pos h,if_pos h,if_pos h];rfl
 ·rw [if_neg h,if_neg h,if_neg h];rfl
theorem Z1s {d:Zu} (hd:∀ a ∈ d.Acts,ActIn a) (hl:d.Acts.length ≤ 12) {s0:Zp}:∀ (n i:Nat) {s:Zp} {t:Zx} {m:Nat} {L:List Zj},i + n=d.Acts.length → FR s t m → m + n < 1000000 → L.length=i → Zz2 L →
  (∃ R:Z7,R.Answers=[] ∧ Zit s0 d (n + 1) { Code:=0,At:=0,Answers:=L } s (i:Int)=some (.inl (s0,R))) ∨
  (∃ s' t' L',Zit s0 d (n + 1) { Code:=0,At:=0,Answers:=L } s (i:Int)=some (.inr ({ Code:=0,At:=0,Answers:=L' },s')) ∧ FR s' t' (m + n) ∧ Zz2 L' ∧ L'.length=d.Acts.length)
 | 0,i,s,t,m,L,h,hf,hm,hL,hA=>by
  right
  rw [Zit,if_neg (by simp;omega)]
  exact ⟨s,t,L,rfl,hf,hA,by omega⟩
 | n + 1,i,s,t,m,L,h,hf,hm,hL,hA=>by
  have h1:i < d.Acts.length:=by omega
  obtain ⟨s',t',out,e1,hf',hw,hro⟩:=Zbdg hf (by omega) (hd _ (List.getElem_mem h1))
  rw [Zit,if_pos (by simp;omega),Zc3 h1,wr1 (by omega)]
  simp only [Option.bind_some]
  rw [e1]
  simp only [Option.bind_some,Z8h (ε:=Unit)]
  by_cases hc:((d.Acts[i]).Must && (out.Code != 0))=true
  ·rw [if_pos hc]
   exact .inl ⟨_,rfl,rfl⟩
  ·rw [if_neg hc]
   have hlen:(L.length + [out].length) * 104 ≤ 140737488355328:=by simp;omega
   rw [if_pos hlen]
   rcases Z1s hd hl (s0:=s0) n (i + 1) (L:=L ++ [out]) (by omega) hf' (by omega) (by simp;omega) (Z9k hA hw) with ⟨R,h0,h1⟩ | ⟨s2,t2,L2,h1,h3,h4,h5⟩
   ·exact .inl ⟨R,h0,h1⟩
   ·exact .inr ⟨s2,t2,L2,h1,h3.mono (by omega),h4,h5⟩
theorem Zbe5 {s:Zp} {t:Zx} {n:Nat} (h:FR s t n) (hn:n + 12 < 1000000) {d:Zu} (hd:∀ a ∈ d.Acts,ActIn a) :
  ∃ s' t' R,Zni s d=some (s',R) ∧ FR s' t' (n + 12) ∧ Zzv R:=by
 obtain ⟨c,at_,e1,_,hc⟩:=Zxf hd
 unfold Zni
 rw [e1]
 simp only [Option.bind_some]
 by_cases h0:(c != 0)=true
 ·rw [if_pos h0]
  exact ⟨s,t,_,rfl,h.mono (by omega),by simp,fun a ha=>by cases ha⟩
 ·rw [if_neg h0]
  have hl:=hc (by simpa using h0)
  have:=Z1s hd hl.2 (s0:=s) d.Acts.length 0 (L:=[]) (by omega) h (by omega) rfl (fun a ha=>by cases ha)
  rw [show ((0:Nat):Int)=0 from rfl] at this
  rw [show (Int.toNat ((d.Acts.length:Int) - (0:Int)) + 1)=d.Acts.length + 1 by omega,show (default:Z7)={ Code:=0,At:=0,Answers:=[] } from rfl]
  rcases this with ⟨R,h0,h1⟩ | ⟨s2,t2,L2,h1,h3,h4,h5⟩
  ·rw [h1]
   exact ⟨s,t,R,rfl,h.mono (by omega),by rw [h0];simp,by rw [h0];intro a ha;cases ha⟩
  ·rw [h1]
   exact ⟨s2,t2,_,rfl,h3.mono (by omega),by show L2.length ≤ 12;omega,h4⟩
def runF:List Zu → Zp → Option (Zp × List Z7)
 | [],s=>some (s,[])
 | d :: l,s=>(Zni s d).bind fun r=>(runF l r.1).bind fun q=>some (q.1,r.2 :: q.2)
theorem Zyh:∀ (l:List Zu) {s:Zp} {t:Zx} {m:Nat},FR s t m → m + 12 * l.length < 900000 → (∀ d ∈ l,∀ a ∈ d.Acts,ActIn a) → ∃ s' t' L,runF l s=some (s',L) ∧ FR s' t' (m + 12 * l.length) ∧ Zyt L ∧ L.length=l.length
 | [],s,t,m,h,_,_=>⟨s,t,[],rfl,h,fun _ h=>(by cases h),rfl⟩
 | d :: l,s,t,m,h,hm,hd=>by
  simp only [List.length_cons] at hm
  obtain ⟨s1,t1,R,e1,f1,r1⟩:=Zbe5 h (by omega) (hd d (List.mem_cons_self ..))
  obtain ⟨s2,t2,L,e2,f2,r2,l2⟩:=Zyh l f1 (by omega) (fun e he=>hd e (List.mem_cons_of_mem _ he))
  refine ⟨s2,t2,R :: L,by rw [runF,e1,Option.bind_some,e2];rfl,f2.mono (by simp only [List.length_cons];omega),fun z hz=>?_,by simp [l2]⟩
  rcases List.mem_cons.1 hz with rfl | hz
  ·exact r1
  ·exact r2 z hz
theorem Zxc:∀ (a b:List Zu) (s:Zp),runF (a ++ b) s=(runF a s).bind fun r=>(runF b r.1).bind fun q=>some (q.1,r.2 ++ q.2)
 | [],b,s=>by
  simp only [List.nil_append,runF,Option.bind_some]
  cases runF b s <;> rfl
 | d :: a,b,s=>by
  simp only [List.cons_append,runF]
  cases Zni s d with
  | none=>rfl
  | some r =>
   simp only [Option.bind_some]
   rw [Zxc a b]
   cases runF a r.1 with
   | none=>rfl
   | some q =>
    simp only [Option.bind_some]
    cases runF b q.1 <;> rfl
theorem Z13 {l:List Zu} (hl:l.length ≤ 1000):∀ (n i:Nat) (s:Zp) (L:List Z7),i + n=l.length → L.length=i → Zjv l (n + 1) s L (i:Int)=(runF (l.drop i) s).bind fun q=>some (q.1,L ++ q.2)
 | 0,i,s,L,h,hL=>by
  rw [Zjv,if_neg (by simp;omega),List.drop_of_length_le (by omega)]
  simp [runF]
 | n + 1,i,s,L,h,hL=>by
  have h1:i < l.length:=by omega
  rw [Zjv,if_pos (by simp;omega),Zc3 h1,wr1 (by omega),List.drop_eq_getElem_cons h1,runF]
  simp only [Option.bind_some]
  cases e:Zni s l[i] with
  | none=>rfl
  | some r =>
   simp only [Option.bind_some]
   rw [if_pos (by simp;omega),Z13 hl n (i + 1) _ (L ++ [r.2]) (by omega) (by simp;omega)]
   cases runF (l.drop (i + 1)) r.1 with
   | none=>rfl
   | some q=>simp
theorem Z32 {l:List Zu} (hl:l.length ≤ 1000) (s:Zp):Zp7 s l=runF l s:=by
 unfold Zp7
 rw [show (Int.toNat ((l.length:Int) - (0:Int)) + 1)=l.length + 1 by omega]
 have:=Z13 hl l.length 0 s [] (by omega) rfl
 rw [show ((0:Nat):Int)=0 from rfl] at this
 rw [this,List.drop_zero]
 cases runF l s <;> simp
theorem Zbjd {a:Zs} (ha:ActIn a):Zkc a a=some true:=by
 unfold Zkc
 simp only [bne_self_eq_false,Zfj,Bool.not_true,Bool.or_self,Bool.false_eq_true,if_false]
 rw [Zot ha.ok.2 ha.ok.2,Zvn ha.ok.1 ha.ok.1,Z97]
 simp [gd_t]
theorem Zz4 {d:Zu} (hl:d.Acts.length ≤ 12) (h:∀ a ∈ d.Acts,ActIn a):∀ (n i:Nat),i + n=d.Acts.length → Ze2 d d (n + 1) (i:Int)=some (.inr ())
 | 0,i,hi=>by rw [Ze2,if_neg (by simp;omega)]
 | n + 1,i,hi=>by
  have h1:i < d.Acts.length:=by omega
  rw [Ze2,if_pos (by simp;omega),Zc3 h1,wr1 (by omega)]
  simp only [Option.bind_some]
  rw [Zbjd (h _ (List.getElem_mem h1))]
  simp only [Option.bind_some,Bool.not_true,Bool.false_eq_true,if_false]
  exact Zz4 hl h n (i + 1) (by omega)
theorem Zbj3 {d:Zu} (hl:d.Acts.length ≤ 12) (h:∀ a ∈ d.Acts,ActIn a):Zj9 d d=some true:=by
 unfold Zj9
 simp only [bne_self_eq_false,Bool.false_eq_true,if_false]
 have:=Zz4 hl h d.Acts.length 0 (by omega)
 rw [show ((0:Nat):Int)=0 from rfl] at this
 rw [show (Int.toNat ((d.Acts.length:Int) - (0:Int)) + 1)=d.Acts.length + 1 by omega,this]
 rfl
theorem Zxm {x:Zbk} (hx:LB x) (h:∀ d ∈ x.Deals,∀ a ∈ d.Acts,ActIn a):∀ (n i:Nat),i + n=x.Deals.length → Ze1 x x (n + 1) (i:Int)=some (.inr ())
 | 0,i,hi=>by rw [Ze1,if_neg (by simp;omega)]
 | n + 1,i,hi=>by
  have h1:i < x.Deals.length:=by omega
  have hl:=hx.l
  rw [Ze1,if_pos (by simp;omega),Zc3 h1,wr1 (by omega)]
  simp only [Option.bind_some]
  rw [Zbj3 (hx.db _ (List.getElem_mem h1)).l12 (h _ (List.getElem_mem h1))]
  simp only [Option.bind_some,Bool.not_true,Bool.false_eq_true,if_false]
  exact Zxm hx h n (i + 1) (by omega)
theorem Zbhw {x:Zbk} (hx:LB x) (h:∀ d ∈ x.Deals,∀ a ∈ d.Acts,ActIn a):Zik x x=some true:=by
 unfold Zik
 simp only [bne_self_eq_false,Bool.or_self,Bool.false_eq_true,if_false]
 have:=Zxm hx h x.Deals.length 0 (by omega)
 rw [show ((0:Nat):Int)=0 from rfl] at this
 rw [show (Int.toNat ((x.Deals.length:Int) - (0:Int)) + 1)=x.Deals.length + 1 by omega,this]
 rfl
def DIn (d:Zu):Prop:=d.Acts.length ≤ 40 ∧ ∀ a ∈ d.Acts,ActIn a
theorem Z1h {d:Zu} (h:DIn d):Zn5 d=some d:=by
 unfold Zn5
 have:=h.1
 rw [if_pos ⟨by omega,List.all_eq_true.2 fun a ha=>decide_eq_true (by have:=(h.2 a ha).mkr.len;omega)⟩]
theorem Z15 {c:List Zu} (hc:c.length ≤ 40) (h:∀ d ∈ c,DIn d):∀ (n i:Nat),i + n=c.length → Zkw c (n + 1) (c.take i) (i:Int)=some c
 | 0,i,hi=>by rw [Zkw,if_neg (by simp;omega),List.take_of_length_le (by omega)]
 | n + 1,i,hi=>by
  have h1:i < c.length:=by omega
  rw [Zkw,if_pos (by simp;omega),Zc3 h1,wr1 (by omega),Option.bind_some,Z1h (h _ (List.getElem_mem h1)),Option.bind_some,if_pos (by simp;omega),List.take_append_getElem h1]
  exact Z15 hc h n (i + 1) (by omega)
theorem Z1g {k:Int} {l:List Zu} (hl:l.length ≤ 40) (h:∀ d ∈ l,DIn d):∀ (n i:Nat),i + n=l.length → (i=0 ∨ LB ⟨k,l.take i⟩) →
  ∃ m,m ≤ l.length ∧ Zkv k l (n + 1) ⟨k,l.take i⟩ (i:Int)=some ⟨k,l.take m⟩ ∧ (m=0 ∨ LB ⟨k,l.take m⟩) ∧ (m < l.length → ∃ c a,Zgg ⟨k,l.take (m + 1)⟩=some (c,a) ∧ c ≠ 0)
 | 0,i,hi,hb=>by
  rw [Zkv,if_neg (by simp;omega)]
  exact ⟨i,by omega,rfl,hb,fun h=>by omega⟩
 | n + 1,i,hi,hb=>by
  have h1:i < l.length:=by omega
  have hin:∀ d ∈ l.take (i + 1),∀ a ∈ d.Acts,ActIn a:=fun d hd=>(h d (List.mem_of_mem_take hd)).2
  obtain ⟨c,a,e,hz⟩:=Zbg1 (x:=⟨k,l.take (i + 1)⟩) hin
  rw [Zkv,if_pos (by simp;omega),Zc3 h1,wr1 (by omega),Option.bind_some,Z1h (h _ (List.getElem_mem h1)),Option.bind_some,if_pos (by simp),if_pos (by simp;omega)]
  simp only [List.take_append_getElem h1]
  rw [e,Option.bind_some]
  by_cases hc:c=0
  ·rw [if_neg (by simpa using hc)]
   exact Z1g hl h n (i + 1) (by omega) (.inr (hz hc).2)
  ·rw [if_pos (by simpa using hc)]
   exact ⟨i,by omega,rfl,hb,fun _=>⟨c,a,e,hc⟩⟩
theorem Zbfb {k:Int} {l:List Zu} (hl:l.length ≤ 40) (h:∀ d ∈ l,DIn d) :
  ∃ m,m ≤ l.length ∧ Zte k l=some (⟨k,l.take m⟩,l.drop m) ∧ (m=0 ∨ LB ⟨k,l.take m⟩) ∧ (m < l.length → ∃ c a,Zgg ⟨k,l.take (m + 1)⟩=some (c,a) ∧ c ≠ 0):=by
 obtain ⟨m,hm,e,h1,h2⟩:=Z1g (k:=k) hl h l.length 0 (by omega) (.inl rfl)
 refine ⟨m,hm,?_,h1,h2⟩
 rw [show ((0:Nat):Int)=0 from rfl,List.take_zero] at e
 unfold Zte
 rw [show (Int.toNat ((l.length:Int) - (0:Int)) + 1)=l.length + 1 by omega,e,Option.bind_some]
 simp only []
 rw [show ((l.take m).length:Int)=(m:Nat) by simp;omega,Zlh (by omega) (by omega),Option.bind_some,List.take_of_length_le (by simp)]
 have:=Z15 (c:=l.drop m) (by simp;omega) (fun d hd=>h d (List.mem_of_mem_drop hd)) (l.drop m).length 0 (by omega)
 rw [show ((0:Nat):Int)=0 from rfl,List.take_zero] at this
 rw [show (Int.toNat (((l.drop m).length:Int) - (0:Int)) + 1)=(l.drop m).length + 1 by omega,this]
 rfl
def eqS:List KV → List KV → Bool
 | [],[]=>true
 | p :: l,q :: m=>sEq p.1 q.1 && Zjl p.2 q.2 && eqS l m
 | _,_=>false
theorem Z66:∀ {a b:List KV},eqS a b=true → a.length=b.length
 | [],[],_=>rfl
 | x :: xs,y :: ys,h=>by
  simp only [eqS,Bool.and_eq_true] at h
  simp [Z66 h.2]
 | [],_ :: _,h=>by simp [eqS] at h
 | _ :: _,[],h=>by simp [eqS] at h
theorem Z3m:∀ l:List KV,eqS l l=true
 | []=>rfl
 | p :: l=>by simp [eqS,Zfj,Z8i,Z3m l]
structure SOk (s:Zp):Prop where
 sz:Szd s.top
 srt:Srt (toL s.top)
 len:(toL s.top).length < 1000000
 ok:∀ q ∈ toL s.top,Zjq q.2 ∧ q.2.List.length ≤ 100
theorem SOk.cl {s:Zp} (h:SOk s):∀ q ∈ toL s.top,Cl q.2:=fun q hq=>by
 have:=(h.ok q hq).2
 unfold Cl;omega
theorem Rel.sok {s:Zp} {t:Zx} {n:Nat} (h:Rel s t n) (hn:n < 1000000):SOk s :=
 ⟨h.sz,by rw [h.top];exact h.srt,by rw [h.tl];have:=h.len;omega,by rw [h.top];exact h.ok⟩
theorem Z1q {a b:Zp} (ha:SOk a) (hb:SOk b) (he:(toL a.top).length=(toL b.top).length):∀ (n i:Nat),i + n=(toL a.top).length →
  Zh2 a b ((toL a.top).length:Int) (n + 1) (i:Int)=some (endB (eqS ((toL a.top).drop i) ((toL b.top).drop i)))
 | 0,i,h=>by
  rw [Zh2,if_neg (by simp;omega),List.drop_of_length_le (by omega),List.drop_of_length_le (by omega)]
  rfl
 | n + 1,i,h=>by
  have la:=ha.len
  have h1:i < (toL a.top).length:=by omega
  have h2:i < (toL b.top).length:=by omega
  rw [Zh2,if_pos (by simp;omega),Zbef ha.sz (by omega) (by omega) (by omega) ha.cl,Zbef hb.sz (by omega) (by omega) (by omega) hb.cl,idxn,idxn,List.getElem?_eq_getElem h1,List.getElem?_eq_getElem h2,wr1 (by omega),List.drop_eq_getElem_cons h1,List.drop_eq_getElem_cons h2]
  have r1:=(ha.ok _ (List.getElem_mem h1)).1
  have r2:=(hb.ok _ (List.getElem_mem h2)).1
  simp only [atR,Option.bind_some,eqS]
  cases hk:sEq (toL a.top)[i].1 (toL b.top)[i].1
  ·simp [gd,endB]
  ·simp only [Bool.not_true,Bool.not_false,gd_t]
   rw [Z37 r1 r2]
   simp only [Option.bind_some,Bool.false_or,Bool.true_and]
   cases hs:Zjl (toL a.top)[i].2 (toL b.top)[i].2
   ·simp [endB]
   ·simp only [Bool.not_true,Bool.false_eq_true,if_false,Bool.true_and]
    exact Z1q ha hb he n (i + 1) (by omega)
theorem Zbct {a b:Zp} (ha:SOk a) (hb:SOk b):Znt a b=some (eqS (toL a.top) (toL b.top)):=by
 have la:=ha.len
 have lb:=hb.len
 unfold Znt Zf6
 rw [Zja ha.sz,Zja hb.sz]
 simp only [Option.bind_some]
 by_cases he:(toL a.top).length=(toL b.top).length
 ·rw [if_neg (by simp;omega)]
  have:=Z1q ha hb he (toL a.top).length 0 (by omega)
  rw [show ((0:Nat):Int)=0 from rfl] at this
  rw [show (Int.toNat (((toL a.top).length:Int) - (0:Int)) + 1)=(toL a.top).length + 1 by omega,this]
  simp only [List.drop_zero]
  cases eqS (toL a.top) (toL b.top) <;> rfl
 ·rw [if_pos (by simp;omega)]
  cases h:eqS (toL a.top) (toL b.top)
  ·rfl
  ·exact absurd (Z66 h) he
theorem Zbkm {s:Zp} {t:Zx} {n:Nat} (h:FR s t n) (hn:n < 1000000):Znt s s=some true:=by
 rw [Zbct (h.rel.sok hn) (h.rel.sok hn),Z3m]
end Go.CL
