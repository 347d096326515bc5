/- A part of the proof of FoldPlaces. -/
import Derived.Test.YtlhmmgcmbeegjaaGreatDoorFoldPlacesC6
set_option linter.unusedVariables false
set_option linter.unusedSimpArgs false
set_option maxRecDepth 100000
namespace Go.CL
open Go
theorem Zrq {β : Type} [Inhabited β] (c : Bool) (v : β) : gd c (some v) = some (if c then v else default) := by cases c <;> rfl
def Ztx (a : Zm) : Prop := Zhs a.Make ∧ a.X < W64
abbrev zrc : Zd := { Kind := 0, Num := 0, Low := 0, High := 0, Real := 0, Cap := 0, Text := ByteArray.empty, List := [] }
theorem Z2z : Zhs zrc := ⟨by decide, by decide, fun e he => by cases he⟩
def actD (n x s m o1 k1 k2 : Bool) (c : Int) (a : Zm) : Int :=
 if (sEq a.Key ⟨#[]⟩ || decide ((24 : Int) < a.Key.size)) = true then 1
 else if (!(((n || a.N == 0) && (x || decide (keyf a.X = keyf 0))) && (s || sEq a.S ⟨#[]⟩) && (m || Zjc a.Make zrc))) = true then 4
 else if decide ((if o1 = true then (64 : Int) else 16) < a.S.size) = true then 3
 else if (k2 && (decide (a.N < 0) || decide (2305843009213693952 < a.N))) = true then 1
 else if (!decide (a.X = Zbz a.X)) = true then 4
 else if k1 = true then c else 0
theorem Z6k (k : ByteArray) : (decide ((k.size : Int) < 1)) = sEq k ⟨#[]⟩ := by
 by_cases h : k = ⟨#[]⟩
 · subst h; rw [Zdg]; decide
 · rw [Zdq.2 h]
   have : k.size ≠ 0 := fun e => h (by
     apply ByteArray.ext
     exact Array.size_eq_zero_iff.1 e)
   simp; omega
theorem Z2c {a : Zm} (ha : Ztx a) {w has : ByteArray} {on c : Int} {n x s m : Bool} (hc : Zd2 a.Make = some c) (h1 : Zlz a.Kind = some ⟨w, on, has⟩) (hw : sEq w ⟨#[]⟩ = false)
   (fn : Zc9 ⟨w, on, has⟩ 110 = some n) (fx : Zc9 ⟨w, on, has⟩ 120 = some x) (fs : Zc9 ⟨w, on, has⟩ 115 = some s) (fm : Zc9 ⟨w, on, has⟩ 109 = some m) :
   Ze9 a = some (actD n x s m (on == 1) (a.Kind == 1) (a.Kind == 10 || a.Kind == 11) c a) := by
 have h0 : (0 : Nat) < W64 := by decide
 unfold Ze9 Zpl Zpt
 rw [h1]
 simp only [Option.bind_some, hw, Bool.false_eq_true, if_false, fn, fx, fs, fm, Zrq]
 rw [Znh ha.2 h0, Zsx ha.1 Z2z, Zq5 ha.2, hc]
 simp only [Option.bind_some, Zrq]
 unfold actD
 generalize (sEq a.Key ⟨#[]⟩ || decide ((24 : Int) < a.Key.size)) = b1
 generalize (a.N == 0) = b2
 generalize decide (keyf a.X = keyf 0) = b3
 generalize sEq a.S ⟨#[]⟩ = b4
 generalize Zjc a.Make zrc = b5
 generalize (a.Kind == 10 || a.Kind == 11) = b6
 generalize (a.Kind == 1) = b7
 generalize (decide (a.N < 0) || decide (2305843009213693952 < a.N)) = b8
 generalize decide (a.X = Zbz a.X) = b9
 have e1 : decide ((64 : Int) < a.S.size) = decide ((if true = true then (64 : Int) else 16) < a.S.size) := rfl
 cases b1
 · have hm : ∀ (z : Bool), ((if z = true then some (64 : Int) else some 16).bind fun r8 => (if decide (r8 < (a.S.size : Int)) = true then some (3 : Int) else if (b6 && b8) = true then some 1 else if (!b9) = true then some 4 else if b7 = true then some c else some 0)) = some (if decide ((if z = true then (64 : Int) else 16) < a.S.size) = true then 3 else if (b6 && b8) = true then 1 else if (!b9) = true then 4 else if b7 = true then c else 0) := by
     intro z
     cases z <;> simp only [Bool.false_eq_true, if_false, if_true, Option.bind_some] <;> (repeat' split) <;> rfl
   rw [hm]
   cases n <;> cases x <;> cases s <;> cases m <;> cases b2 <;> cases b3 <;> cases b4 <;> cases b5 <;> rfl
 · rfl
theorem Z04 {a : Zm} (ha : Ztx a) {on c : Int} {n x s m : Bool} (hc : Zdo a.Make = some c) (hk : ¬ (a.Kind < 1 ∨ 21 < a.Kind)) (ro : Ze6 a.Kind = some on)
   (fn : Zet a.Kind 110 = some n) (fx : Zet a.Kind 120 = some x) (fs : Zet a.Kind 115 = some s) (fm : m = (a.Kind == 1)) :
   Zf8 a = some (actD n x s m (on == 1) (a.Kind == 1) (a.Kind == 10 || a.Kind == 11) c a) := by
 have h0 : (0 : Nat) < W64 := by decide
 unfold Zf8
 rw [if_neg (by simpa using hk), fn, fx, fs, ro]
 simp only [Option.bind_some, Zrq, Z6k]
 rw [Zl9 ha.2 h0, Z27 ha.1 Z2z, Zpc ha.2, hc]
 simp only [Option.bind_some, Zrq]
 unfold actD
 subst fm
 have hmid : ((on == 1 && decide ((64 : Int) < a.S.size)) || ((if (!(on == 1 && decide ((64 : Int) < a.S.size))) = true then on else default) != 1 && decide ((16 : Int) < a.S.size))) = decide ((if (on == 1) = true then (64 : Int) else 16) < a.S.size) := by
   by_cases ho : on = 1
   · subst ho
     by_cases h64 : (64 : Int) < a.S.size <;> simp [h64]
   · have hb1 : (on == 1) = false := by simpa using ho
     have hb2 : (on != 1) = true := by simpa using ho
     simp [hb1, hb2]
 rw [hmid, show (a.N != 0) = !(a.N == 0) from rfl, show (a.Kind != 1) = !(a.Kind == 1) from rfl]
 generalize decide ((if (on == 1) = true then (64 : Int) else 16) < a.S.size) = b10
 generalize (sEq a.Key ⟨#[]⟩ || decide ((24 : Int) < a.Key.size)) = b1
 generalize (a.N == 0) = b2
 generalize decide (keyf a.X = keyf 0) = b3
 generalize sEq a.S ⟨#[]⟩ = b4
 generalize Zjc a.Make zrc = b5
 generalize (a.Kind == 10 || a.Kind == 11) = b6
 generalize (a.Kind == 1) = b7
 generalize (decide (a.N < 0) || decide (2305843009213693952 < a.N)) = b8
 generalize decide (a.X = Zbz a.X) = b9
 have htail : (if b10 = true then some (3 : Int) else if (b6 && b8) = true then some 1 else if (!b9) = true then some 4 else if b7 = true then some c else some 0) = some (if b10 = true then 3 else if (b6 && b8) = true then 1 else if (!b9) = true then 4 else if b7 = true then c else 0) := by
   (repeat' split) <;> rfl
 rw [htail]
 cases b1
 · cases n <;> cases x <;> cases s <;> cases b7 <;> cases b2 <;> cases b3 <;> cases b4 <;> cases b5 <;> rfl
 · rfl
theorem Z17 {n x s m o1 k1 k2 : Bool} {c : Int} {a : Zm} (h : actD n x s m o1 k1 k2 c a = 0) : (sEq a.Key ⟨#[]⟩ || decide ((24 : Int) < a.Key.size)) = false ∧ decide ((if o1 = true then (64 : Int) else 16) < a.S.size) = false ∧ (k2 && (decide (a.N < 0) || decide (2305843009213693952 < a.N))) = false ∧ decide (a.X = Zbz a.X) = true ∧ (k1 = true → c = 0) := by
 unfold actD at h
 revert h
 generalize (sEq a.Key ⟨#[]⟩ || decide ((24 : Int) < a.Key.size)) = b1
 generalize decide ((if o1 = true then (64 : Int) else 16) < a.S.size) = b3
 generalize (k2 && (decide (a.N < 0) || decide (2305843009213693952 < a.N))) = b4
 generalize decide (a.X = Zbz a.X) = b5
 generalize (!(((n || a.N == 0) && (x || decide (keyf a.X = keyf 0))) && (s || sEq a.S ⟨#[]⟩) && (m || Zjc a.Make zrc))) = b2
 cases b1 <;> cases b2 <;> cases b3 <;> cases b4 <;> cases b5 <;> cases k1 <;> simp
theorem Zn8 {a : Zm} (ha : Ztx a) : ∃ c, Ze9 a = some c ∧ Zf8 a = some c ∧ (c = 0 → 1 ≤ a.Kind ∧ a.Kind ≤ 21 ∧ a.X = Zbz a.X ∧ a.S.size ≤ 64 ∧ ((a.Kind = 10 ∨ a.Kind = 11) → 0 ≤ a.N ∧ a.N ≤ 2305843009213693952) ∧ (a.Kind = 1 → Zd2 a.Make = some 0) ∧ (¬ (5 ≤ a.Kind ∧ a.Kind ≤ 6) → a.S.size ≤ 16) ∧ sEq a.Key ⟨#[]⟩ = false ∧ a.Key.size ≤ 24) := by
 by_cases hk : a.Kind < 1 ∨ 21 < a.Kind
 · refine ⟨5, ?_, ?_, fun h => by cases h⟩
   · unfold Ze9 Zlz
     rw [if_pos (by simp; omega)]
     simp only [Option.bind_some]
     rw [if_pos (show sEq ByteArray.empty ⟨#[]⟩ = true by kernel_rfl)]
   · unfold Zf8
     rw [if_pos (by simpa using hk)]
 · obtain ⟨c, hc1, hc2⟩ := Zne ha.1
   have fin : ∀ {w has : ByteArray} {on : Int} {n x s m : Bool}, Zlz a.Kind = some ⟨w, on, has⟩ → sEq w ⟨#[]⟩ = false → Zc9 ⟨w, on, has⟩ 110 = some n → Zc9 ⟨w, on, has⟩ 120 = some x → Zc9 ⟨w, on, has⟩ 115 = some s → Zc9 ⟨w, on, has⟩ 109 = some m →
       Ze6 a.Kind = some on → Zet a.Kind 110 = some n → Zet a.Kind 120 = some x → Zet a.Kind 115 = some s → m = (a.Kind == 1) → ((on == 1) = true → 5 ≤ a.Kind ∧ a.Kind ≤ 6) →
       ∃ c, Ze9 a = some c ∧ Zf8 a = some c ∧ (c = 0 → 1 ≤ a.Kind ∧ a.Kind ≤ 21 ∧ a.X = Zbz a.X ∧ a.S.size ≤ 64 ∧ ((a.Kind = 10 ∨ a.Kind = 11) → 0 ≤ a.N ∧ a.N ≤ 2305843009213693952) ∧ (a.Kind = 1 → Zd2 a.Make = some 0) ∧ (¬ (5 ≤ a.Kind ∧ a.Kind ≤ 6) → a.S.size ≤ 16) ∧ sEq a.Key ⟨#[]⟩ = false ∧ a.Key.size ≤ 24) := by
     intro w has on n x s m h1 hw fn fx fs fm ro rn rx rs hm hon
     refine ⟨_, Z2c ha hc1 h1 hw fn fx fs fm, by rw [hm]; exact Z04 ha hc2 hk ro rn rx rs rfl, fun h0 => ?_⟩
     obtain ⟨g1, g3, g4, g5, g6⟩ := Z17 h0
     simp only [Bool.or_eq_false_iff, decide_eq_false_iff_not] at g1
     have g3' : ¬ (if (on == 1) = true then (64 : Int) else 16) < a.S.size := of_decide_eq_false g3
     refine ⟨by omega, by omega, of_decide_eq_true g5, ?_, fun h => ?_, fun h => ?_, fun h => ?_, g1.1, by omega⟩
     · split at g3' <;> omega
     · have h11 : (a.Kind == 10 || a.Kind == 11) = true := by simpa using h
       rw [h11] at g4
       simp only [Bool.true_and, Bool.or_eq_false_iff, decide_eq_false_iff_not] at g4
       omega
     · rw [hc1, g6 (by simp [h])]
     · rw [if_neg (fun h2 => h (hon h2))] at g3'
       omega
   have hk' : a.Kind = 1 ∨ a.Kind = 2 ∨ a.Kind = 3 ∨ a.Kind = 4 ∨ a.Kind = 5 ∨ a.Kind = 6 ∨ a.Kind = 7 ∨ a.Kind = 8 ∨ a.Kind = 9 ∨ a.Kind = 10 ∨ a.Kind = 11 ∨ a.Kind = 12 ∨ a.Kind = 13 ∨ a.Kind = 14 ∨ a.Kind = 15 ∨ a.Kind = 16 ∨ a.Kind = 17 ∨ a.Kind = 18 ∨ a.Kind = 19 ∨ a.Kind = 20 ∨ a.Kind = 21 := by omega
   rcases hk' with h | h | h | h | h | h | h | h | h | h | h | h | h | h | h | h | h | h | h | h | h <;> rw [h] at fin ⊢
   · exact fin (w := ⟨#[110, 101, 119]⟩) (on := 0) (has := ⟨#[109]⟩) (n := false) (x := false) (s := false) (m := true) (by kernel_rfl) (by kernel_rfl) (by kernel_rfl) (by kernel_rfl) (by kernel_rfl) (by kernel_rfl) (by kernel_rfl) (by kernel_rfl) (by kernel_rfl) (by kernel_rfl) (by decide) (by decide)
   · exact fin (w := ⟨#[100, 114, 111, 112]⟩) (on := 0) (has := ⟨#[]⟩) (n := false) (x := false) (s := false) (m := false) (by kernel_rfl) (by kernel_rfl) (by kernel_rfl) (by kernel_rfl) (by kernel_rfl) (by kernel_rfl) (by kernel_rfl) (by kernel_rfl) (by kernel_rfl) (by kernel_rfl) (by decide) (by decide)
   · exact fin (w := ⟨#[105, 115]⟩) (on := 0) (has := ⟨#[]⟩) (n := false) (x := false) (s := false) (m := false) (by kernel_rfl) (by kernel_rfl) (by kernel_rfl) (by kernel_rfl) (by kernel_rfl) (by kernel_rfl) (by kernel_rfl) (by kernel_rfl) (by kernel_rfl) (by kernel_rfl) (by decide) (by decide)
   · exact fin (w := ⟨#[108, 111, 111, 107]⟩) (on := 0) (has := ⟨#[]⟩) (n := false) (x := false) (s := false) (m := false) (by kernel_rfl) (by kernel_rfl) (by kernel_rfl) (by kernel_rfl) (by kernel_rfl) (by kernel_rfl) (by kernel_rfl) (by kernel_rfl) (by kernel_rfl) (by kernel_rfl) (by decide) (by decide)
   · exact fin (w := ⟨#[112, 117, 116]⟩) (on := 1) (has := ⟨#[115]⟩) (n := false) (x := false) (s := true) (m := false) (by kernel_rfl) (by kernel_rfl) (by kernel_rfl) (by kernel_rfl) (by kernel_rfl) (by kernel_rfl) (by kernel_rfl) (by kernel_rfl) (by kernel_rfl) (by kernel_rfl) (by decide) (by decide)
   · exact fin (w := ⟨#[115, 119, 97, 112]⟩) (on := 1) (has := ⟨#[115]⟩) (n := false) (x := false) (s := true) (m := false) (by kernel_rfl) (by kernel_rfl) (by kernel_rfl) (by kernel_rfl) (by kernel_rfl) (by kernel_rfl) (by kernel_rfl) (by kernel_rfl) (by kernel_rfl) (by kernel_rfl) (by decide) (by decide)
   · exact fin (w := ⟨#[97, 100, 100]⟩) (on := 2) (has := ⟨#[110]⟩) (n := true) (x := false) (s := false) (m := false) (by kernel_rfl) (by kernel_rfl) (by kernel_rfl) (by kernel_rfl) (by kernel_rfl) (by kernel_rfl) (by kernel_rfl) (by kernel_rfl) (by kernel_rfl) (by kernel_rfl) (by decide) (by decide)
   · exact fin (w := ⟨#[112, 108, 117, 115]⟩) (on := 3) (has := ⟨#[110]⟩) (n := true) (x := false) (s := false) (m := false) (by kernel_rfl) (by kernel_rfl) (by kernel_rfl) (by kernel_rfl) (by kernel_rfl) (by kernel_rfl) (by kernel_rfl) (by kernel_rfl) (by kernel_rfl) (by kernel_rfl) (by decide) (by decide)
   · exact fin (w := ⟨#[114, 101, 97, 99, 104]⟩) (on := 3) (has := ⟨#[110]⟩) (n := true) (x := false) (s := false) (m := false) (by kernel_rfl) (by kernel_rfl) (by kernel_rfl) (by kernel_rfl) (by kernel_rfl) (by kernel_rfl) (by kernel_rfl) (by kernel_rfl) (by kernel_rfl) (by kernel_rfl) (by decide) (by decide)
   · exact fin (w := ⟨#[105, 110]⟩) (on := 4) (has := ⟨#[110]⟩) (n := true) (x := false) (s := false) (m := false) (by kernel_rfl) (by kernel_rfl) (by kernel_rfl) (by kernel_rfl) (by kernel_rfl) (by kernel_rfl) (by kernel_rfl) (by kernel_rfl) (by kernel_rfl) (by kernel_rfl) (by decide) (by decide)
   · exact fin (w := ⟨#[111, 117, 116]⟩) (on := 4) (has := ⟨#[110]⟩) (n := true) (x := false) (s := false) (m := false) (by kernel_rfl) (by kernel_rfl) (by kernel_rfl) (by kernel_rfl) (by kernel_rfl) (by kernel_rfl) (by kernel_rfl) (by kernel_rfl) (by kernel_rfl) (by kernel_rfl) (by decide) (by decide)
   · exact fin (w := ⟨#[101, 110, 111, 117, 103, 104]⟩) (on := 4) (has := ⟨#[110]⟩) (n := true) (x := false) (s := false) (m := false) (by kernel_rfl) (by kernel_rfl) (by kernel_rfl) (by kernel_rfl) (by kernel_rfl) (by kernel_rfl) (by kernel_rfl) (by kernel_rfl) (by kernel_rfl) (by kernel_rfl) (by decide) (by decide)
   · exact fin (w := ⟨#[114, 97, 105, 115, 101]⟩) (on := 5) (has := ⟨#[120]⟩) (n := false) (x := true) (s := false) (m := false) (by kernel_rfl) (by kernel_rfl) (by kernel_rfl) (by kernel_rfl) (by kernel_rfl) (by kernel_rfl) (by kernel_rfl) (by kernel_rfl) (by kernel_rfl) (by kernel_rfl) (by decide) (by decide)
   · exact fin (w := ⟨#[108, 111, 119, 101, 114]⟩) (on := 6) (has := ⟨#[120]⟩) (n := false) (x := true) (s := false) (m := false) (by kernel_rfl) (by kernel_rfl) (by kernel_rfl) (by kernel_rfl) (by kernel_rfl) (by kernel_rfl) (by kernel_rfl) (by kernel_rfl) (by kernel_rfl) (by kernel_rfl) (by decide) (by decide)
   · exact fin (w := ⟨#[115, 104, 105, 102, 116]⟩) (on := 7) (has := ⟨#[120]⟩) (n := false) (x := true) (s := false) (m := false) (by kernel_rfl) (by kernel_rfl) (by kernel_rfl) (by kernel_rfl) (by kernel_rfl) (by kernel_rfl) (by kernel_rfl) (by kernel_rfl) (by kernel_rfl) (by kernel_rfl) (by decide) (by decide)
   · exact fin (w := ⟨#[115, 99, 97, 108, 101]⟩) (on := 7) (has := ⟨#[120]⟩) (n := false) (x := true) (s := false) (m := false) (by kernel_rfl) (by kernel_rfl) (by kernel_rfl) (by kernel_rfl) (by kernel_rfl) (by kernel_rfl) (by kernel_rfl) (by kernel_rfl) (by kernel_rfl) (by kernel_rfl) (by decide) (by decide)
   · exact fin (w := ⟨#[102, 105, 120]⟩) (on := 7) (has := ⟨#[120]⟩) (n := false) (x := true) (s := false) (m := false) (by kernel_rfl) (by kernel_rfl) (by kernel_rfl) (by kernel_rfl) (by kernel_rfl) (by kernel_rfl) (by kernel_rfl) (by kernel_rfl) (by kernel_rfl) (by kernel_rfl) (by decide) (by decide)
   · exact fin (w := ⟨#[106, 111, 105, 110]⟩) (on := 8) (has := ⟨#[115]⟩) (n := false) (x := false) (s := true) (m := false) (by kernel_rfl) (by kernel_rfl) (by kernel_rfl) (by kernel_rfl) (by kernel_rfl) (by kernel_rfl) (by kernel_rfl) (by kernel_rfl) (by kernel_rfl) (by kernel_rfl) (by decide) (by decide)
   · exact fin (w := ⟨#[108, 101, 97, 118, 101]⟩) (on := 8) (has := ⟨#[115]⟩) (n := false) (x := false) (s := true) (m := false) (by kernel_rfl) (by kernel_rfl) (by kernel_rfl) (by kernel_rfl) (by kernel_rfl) (by kernel_rfl) (by kernel_rfl) (by kernel_rfl) (by kernel_rfl) (by kernel_rfl) (by decide) (by decide)
   · exact fin (w := ⟨#[104, 97, 115]⟩) (on := 8) (has := ⟨#[115]⟩) (n := false) (x := false) (s := true) (m := false) (by kernel_rfl) (by kernel_rfl) (by kernel_rfl) (by kernel_rfl) (by kernel_rfl) (by kernel_rfl) (by kernel_rfl) (by kernel_rfl) (by kernel_rfl) (by kernel_rfl) (by decide) (by decide)
   · exact fin (w := ⟨#[111, 102, 102, 101, 114]⟩) (on := 9) (has := ⟨#[120, 115]⟩) (n := false) (x := true) (s := true) (m := false) (by kernel_rfl) (by kernel_rfl) (by kernel_rfl) (by kernel_rfl) (by kernel_rfl) (by kernel_rfl) (by kernel_rfl) (by kernel_rfl) (by kernel_rfl) (by kernel_rfl) (by decide) (by decide)
abbrev Zcs := List Zi
def NS (l : Zcs) : Prop := l.Pairwise fun p q => sLt p.Name q.Name = true
def pre (f : Zi → Bool) : Zcs → Nat
 | [] => 0
 | e :: r => if f e then pre f r + 1 else 0
theorem Znm (f : Zi → Bool) : ∀ l : Zcs, pre f l ≤ l.length
 | [] => Nat.le_refl _
 | e :: r => by
   have := Znm f r
   simp only [pre]
   split <;> simp <;> omega
theorem Zyq {f : Zi → Bool} : ∀ {l : Zcs} {k : Nat} (h : k < pre f l), ∃ e, l[k]? = some e ∧ f e = true
 | [], k, h => by simp [pre] at h
 | e :: r, k, h => by
   simp only [pre] at h
   split at h
   · rename_i hf
     cases k with
     | zero => exact ⟨e, rfl, hf⟩
     | succ k => exact Zyq (l := r) (by omega)
   · omega
theorem Ztr {f : Zi → Bool} : ∀ {l : Zcs} {e : Zi}, l[pre f l]? = some e → f e = false
 | [], e, h => by simp [pre] at h
 | x :: r, e, h => by
   simp only [pre] at h
   split at h
   · exact Ztr (l := r) (by simpa using h)
   · rename_i hf
     simp at h; subst h; simpa using hf
theorem Zs4 {s : ByteArray} {l : Zcs} (hs : NS l) {k : Nat} (hk : k < l.length) : sLt (l[k]).Name s = decide (k < pre (fun e => sLt e.Name s) l) := by
 by_cases h : k < pre (fun e => sLt e.Name s) l
 · obtain ⟨e, he, hf⟩ := Zyq h
   rw [List.getElem?_eq_getElem hk] at he
   obtain rfl := Option.some.inj he
   simp only [h, decide_true]; exact hf
 · simp only [h, decide_false]
   have hp : pre (fun e => sLt e.Name s) l < l.length := by omega
   have h1 := Ztr (List.getElem?_eq_getElem hp)
   rcases Nat.lt_or_eq_of_le (Nat.le_of_not_lt h) with hlt | heq
   · have h2 := List.pairwise_iff_getElem.1 hs _ _ hp hk hlt
     cases h3 : sLt (l[k]).Name s
     · rfl
     · rw [Ze0 h2 h3] at h1; cases h1
   · have : l[k] = l[pre (fun e => sLt e.Name s) l] := by congr 1; exact heq.symm
     rw [this]; exact h1
theorem half {i j : Nat} (h : i + j < 4611686018427387904) : IntKind.i64.wrap (Int.fdiv (IntKind.u64.wrap (IntKind.i64.wrap ((i : Int) + (j : Int)))) (2 ^ 1)) = (((i + j) / 2 : Nat) : Int) := by
 rw [wr (x := (i : Int) + j) (by omega) (by omega), wru (by omega) (by omega)]
 have : Int.fdiv ((i : Int) + j) (2 ^ 1) = (((i + j) / 2 : Nat) : Int) := by
   rw [Int.fdiv_eq_ediv_of_nonneg _ (by decide)]; omega
 rw [this, wr (by omega) (by omega)]
theorem Z5v (e : Zi) (s : ByteArray) : ∃ c : Int, Ziv e s = some c ∧ decide (c < 0) = sLt e.Name s ∧ (c == 0) = sEq e.Name s := by
 unfold Ziv
 by_cases h : sLt e.Name s = true
 · exact ⟨-1, by rw [if_pos h], by rw [h]; rfl, by rw [Zdq.2 (Zj7 h)]; rfl⟩
 · have h' : sLt e.Name s = false := by simpa using h
   by_cases h2 : e.Name = s
   · exact ⟨0, by rw [if_neg h, h', Zda.2 h2]; rfl, by rw [h']; rfl, by rw [Zda.2 h2]; rfl⟩
   · exact ⟨1, by rw [if_neg h, h', Zdq.2 h2]; rfl, by rw [h']; rfl, by rw [Zdq.2 h2]; rfl⟩
theorem Zu1 {l : Zcs} {s : ByteArray} (hs : NS l) (hl : l.length < 2305843009213693952) : ∀ (n i j : Nat), j - i < n → i ≤ pre (fun e => sLt e.Name s) l → pre (fun e => sLt e.Name s) l ≤ j → j ≤ l.length →
   Zbl l s (fun y0 y1 => Ziv y0 y1) n (i : Int) (j : Int) = some ((pre (fun e => sLt e.Name s) l : Nat) : Int)
 | 0, i, j, h, _, _, _ => by omega
 | n + 1, i, j, h, h1, h2, h3 => by
   rw [Zbl]
   by_cases hij : i < j
   · rw [if_pos (by simpa using hij), half (by omega)]
     have hm : (i + j) / 2 < l.length := by omega
     rw [Zc6 hm]
     obtain ⟨c, hc, hc1, _⟩ := Z5v l[(i + j) / 2] s
     simp only [Option.bind_some, hc]
     rw [hc1, Zs4 hs hm]
     unfold Zb9
     by_cases hp : (i + j) / 2 < pre (fun e => sLt e.Name s) l
     · rw [if_pos (by simpa using hp), wr1 (by omega)]
       exact Zu1 hs hl n ((i + j) / 2 + 1) j (by omega) (by omega) h2 h3
     · rw [if_neg (by simpa using hp)]
       exact Zu1 hs hl n i ((i + j) / 2) (by omega) h1 (by omega) (by omega)
   · rw [if_neg (by simpa using hij)]
     congr 2; omega
def isAt (s : ByteArray) (l : Zcs) : Bool := match l[pre (fun e => sLt e.Name s) l]? with
 | some e => sEq e.Name s
 | none => false
theorem Znj {l : Zcs} {s : ByteArray} (hs : NS l) (hl : l.length < 2305843009213693952) : Zke l s = some (((pre (fun e => sLt e.Name s) l : Nat) : Int), isAt s l) := by
 unfold Zke Zcv
 have := Zu1 (s := s) hs hl (l.length + 1) 0 l.length (by omega) (Nat.zero_le _) (Znm _ _) (Nat.le_refl _)
 rw [show ((0 : Nat) : Int) = 0 from rfl] at this
 rw [show (Int.toNat ((l.length : Int) - (0 : Int)) + 1) = l.length + 1 by omega, this]
 simp only [Option.bind_some]
 unfold isAt
 by_cases hp : pre (fun e => sLt e.Name s) l < l.length
 · have hd : decide (((pre (fun e => sLt e.Name s) l : Nat) : Int) < (l.length : Int)) = true := by simpa using hp
   rw [hd, Zc6 hp, List.getElem?_eq_getElem hp]
   obtain ⟨c, hc, _, hc2⟩ := Z5v l[pre (fun e => sLt e.Name s) l] s
   simp only [gd_t, Option.bind_some, hc, Bool.true_and, hc2]
 · have hd : decide (((pre (fun e => sLt e.Name s) l : Nat) : Int) < (l.length : Int)) = false := by simpa using hp
   rw [hd, List.getElem?_eq_none (by omega)]
   rfl
def goL (f g : Zi → Bool) (x : Zi) : Zcs → Bool → Zcs × Bool
 | [], d => ([], d)
 | e :: r, d => if (!d && !f e) = true then ((if g e then [] else [x]) ++ e :: (goL f g x r true).1, (goL f g x r true).2) else (e :: (goL f g x r d).1, (goL f g x r d).2)
theorem Z50 (f g : Zi → Bool) (x : Zi) : ∀ l : Zcs, goL f g x l true = (l, true)
 | [] => rfl
 | e :: r => by simp [goL, Z50 f g x r]
theorem Z6e (f g : Zi → Bool) (x : Zi) : ∀ l : Zcs, goL f g x l false = match l[pre f l]? with
   | some e => (l.take (pre f l) ++ (if g e then [] else [x]) ++ l.drop (pre f l), true)
   | none => (l, false)
 | [] => rfl
 | e :: r => by
   simp only [goL, pre]
   by_cases hf : f e = true
   · simp only [hf, Bool.not_true, Bool.and_false, Bool.false_eq_true, if_false, if_true]
     rw [Z6e f g x r]
     simp only [List.getElem?_cons_succ]
     cases r[pre f r]? <;> simp
   · have hf' : f e = false := by simpa using hf
     simp only [hf', Bool.not_false, Bool.and_self, if_true, Bool.false_eq_true, if_false, Z50, List.getElem?_cons_zero, List.take_zero, List.nil_append, List.drop_zero]
def Zc4 (x : Zi) (nm : Bool) (e : Zi) : Bool := if nm then sLt e.Name x.Name else Zca e x
def Zfy (x : Zi) (nm : Bool) (e : Zi) : Bool := sEq e.Name x.Name && (nm || decide (keyf e.Score = keyf x.Score))
theorem Z3v {l : Zcs} {x : Zi} {nm : Bool} (hx : x.Score < W64) (hsc : ∀ e ∈ l, e.Score < W64) {n i : Nat} {out : Zcs} {d : Bool} (h1 : i < l.length) :
   Zc0 l x nm (n + 1) out d (i : Int) = (if (!d && !Zc4 x nm l[i]) = true then (if (!Zfy x nm l[i]) = true then (if (out.length + ([x] : List Zi).length) * 24 ≤ 140737488355328 then Zeo l (i : Int) (Zc0 l x nm n) (out ++ [x]) true else none) else Zeo l (i : Int) (Zc0 l x nm n) out true) else Zeo l (i : Int) (Zc0 l x nm n) out d) := by
 have hm := hsc _ (List.getElem_mem h1)
 have ha : Ze7 l[i] x = some (Zca l[i] x) := Zyw hm hx
 have hs : Zdi l[i].Score x.Score = some (decide (keyf l[i].Score = keyf x.Score)) := Zl9 hm hx
 rw [Zc0, if_pos (by simp; omega), Zc6 h1]
 cases nm
 · simp only [Bool.not_false, gd_t, Option.bind_some, Bool.true_and, ha, Bool.and_false, gd_f, Bool.false_and, Bool.or_false, Bool.and_true, Bool.false_or, Zc4, Zfy, Bool.false_eq_true, if_false]
   cases hq : sEq l[i].Name x.Name
   · simp only [gd_f, Option.bind_some, Bool.false_and]
   · simp only [gd_t, Option.bind_some, Bool.true_and, hs]
 · simp only [Bool.not_true, gd_f, Option.bind_some, Bool.false_and, Bool.not_false, Bool.true_and, gd_t, Bool.false_or, Bool.true_or, Bool.and_false, Bool.and_true, Zc4, Zfy, if_true]
theorem Zn7 {l : Zcs} {x : Zi} {nm : Bool} (hx : x.Score < W64) (hsc : ∀ e ∈ l, e.Score < W64) (hl : l.length < 1000000) : ∀ (n i : Nat) (out : Zcs) (d : Bool), i + n = l.length → out.length + (if d = true then 0 else 1) ≤ i + 1 →
   Zc0 l x nm (n + 1) out d (i : Int) = some (out ++ (goL (Zc4 x nm) (Zfy x nm) x (l.drop i) d).1, (goL (Zc4 x nm) (Zfy x nm) x (l.drop i) d).2)
 | 0, i, out, d, h, _ => by
   rw [Zc0, if_neg (by simp; omega), List.drop_of_length_le (by omega)]
   simp [goL]
 | n + 1, i, out, d, h, ho => by
   have h1 : i < l.length := by omega
   rw [Z3v hx hsc h1, List.drop_eq_getElem_cons h1]
   simp only [Zeo, Zc6 h1, wr1 (show i < 9223372036854775807 by omega), Option.bind_some, goL]
   by_cases hc : (!d && !Zc4 x nm l[i]) = true
   · rw [if_pos hc, if_pos hc]
     have hd : d = false := by cases d <;> simp_all
     subst hd
     simp only [Bool.false_eq_true, if_false] at ho
     by_cases hs : (!Zfy x nm l[i]) = true
     · rw [if_pos hs, if_pos (by simp; omega), if_pos (by simp; omega), Zn7 hx hsc hl n (i + 1) _ true (by omega) (by simp; omega)]
       have : Zfy x nm l[i] = false := by simpa using hs
       simp [this]
     · rw [if_neg hs, if_pos (by simp; omega), Zn7 hx hsc hl n (i + 1) _ true (by omega) (by simp; omega)]
       have : Zfy x nm l[i] = true := by simpa using hs
       simp [this]
   · rw [if_neg hc, if_neg hc, if_pos (by simp; omega), Zn7 hx hsc hl n (i + 1) _ d (by omega) (by simp; omega)]
     simp
def layL (x : Zi) (nm : Bool) (l : Zcs) : Zcs := match l[pre (Zc4 x nm) l]? with
 | some e => l.take (pre (Zc4 x nm) l) ++ (if Zfy x nm e then [] else [x]) ++ l.drop (pre (Zc4 x nm) l)
 | none => l ++ [x]
theorem Zrt {l : Zcs} {x : Zi} {nm : Bool} (hx : x.Score < W64) (hsc : ∀ e ∈ l, e.Score < W64) (hl : l.length < 1000000) : Zew l x nm = some (layL x nm l) := by
 unfold Zew
 have := Zn7 (nm := nm) hx hsc hl l.length 0 [] false (by omega) (by simp)
 rw [show ((0 : Nat) : Int) = 0 from rfl] at this
 rw [show (Int.toNat ((l.length : Int) - (0 : Int)) + 1) = l.length + 1 by omega, this]
 simp only [Option.bind_some, List.nil_append, List.drop_zero]
 rw [Z6e]
 unfold layL
 cases h : l[pre (Zc4 x nm) l]? with
 | none =>
   simp only [Bool.not_false, if_true, Zh5]
   rw [if_pos (by simp; omega)]
 | some e => simp only [Bool.not_true, Bool.false_eq_true, if_false, Zh5]
theorem Zxs {l : Zcs} {s : ByteArray} (hl : l.length < 1000000) : ∀ (n i : Nat), i + n = l.length → Zg5 l s (n + 1) (i : Int) = some (cond ((l.drop i).any (fun e => sEq e.Name s)) (.inl true) (.inr ()))
 | 0, i, h => by
   rw [Zg5, if_neg (by simp; omega), List.drop_of_length_le (by omega)]; rfl
 | n + 1, i, h => by
   have h1 : i < l.length := by omega
   rw [Zg5, if_pos (by simp; omega), Zc6 h1, List.drop_eq_getElem_cons h1, List.any_cons]
   simp only [Option.bind_some]
   by_cases hq : sEq l[i].Name s = true
   · rw [if_pos hq, hq]; rfl
   · have hq' : sEq l[i].Name s = false := by simpa using hq
     rw [if_neg hq, wr1 (by omega), Zxs hl n (i + 1) (by omega), hq', Bool.false_or]
theorem Zxp {l : Zcs} {s : ByteArray} (hl : l.length < 1000000) : Zfv l s = some (l.any (fun e => sEq e.Name s)) := by
 unfold Zfv
 have := Zxs (s := s) hl l.length 0 (by omega)
 rw [show ((0 : Nat) : Int) = 0 from rfl] at this
 rw [show (Int.toNat ((l.length : Int) - (0 : Int)) + 1) = l.length + 1 by omega, this]
 simp only [List.drop_zero]
 cases h : l.any (fun e => sEq e.Name s) <;> rfl
theorem Zmt {a0 : Zd} {a : Zm} (hl : a0.List.length < 1000000) : ∀ (n i : Nat) (out : Zcs), i + n = a0.List.length → out.length ≤ i → Zd4 a0 a (n + 1) out (i : Int) = some (out ++ (a0.List.drop i).filter (fun e => !sEq e.Name a.S))
 | 0, i, out, h, _ => by
   rw [Zd4, if_neg (by simp; omega), List.drop_of_length_le (by omega)]; simp
 | n + 1, i, out, h, ho => by
   have h1 : i < a0.List.length := by omega
   rw [Zd4, if_pos (by simp; omega), Zc6 h1, List.drop_eq_getElem_cons h1]
   simp only [Option.bind_some, Zk0, wr1 (show i < 9223372036854775807 by omega)]
   rw [List.filter_cons]
   by_cases hq : (!sEq a0.List[i].Name a.S) = true
   · rw [if_pos hq, if_pos hq, if_pos (by simp; omega), Zmt hl n (i + 1) _ (by omega) (by simp; omega), List.append_assoc]; rfl
   · rw [if_neg hq, if_neg hq, Zmt hl n (i + 1) _ (by omega) (by omega)]
theorem Zsi {l : Zcs} {s : ByteArray} (hs : NS l) : (∀ e ∈ l.take (pre (fun e => sLt e.Name s) l), sEq e.Name s = false) ∧ (∀ e ∈ l.drop (pre (fun e => sLt e.Name s) l + 1), sEq e.Name s = false) := by
 constructor
 · intro e he
   obtain ⟨k, hk, rfl⟩ := List.getElem_of_mem he
   rw [List.length_take] at hk
   rw [List.getElem_take]
   have := Zs4 (s := s) hs (k := k) (by omega)
   rw [show decide (k < pre (fun e => sLt e.Name s) l) = true by simp; omega] at this
   exact Zdq.2 (Zj7 this)
 · intro e he
   obtain ⟨k, hk, rfl⟩ := List.getElem_of_mem he
   rw [List.length_drop] at hk
   rw [List.getElem_drop]
   refine Zdq.2 fun h => ?_
   have hp : pre (fun e => sLt e.Name s) l < l.length := by omega
   have h1 := List.pairwise_iff_getElem.1 hs _ _ hp (show pre (fun e => sLt e.Name s) l + 1 + k < l.length by omega) (by omega)
   rw [h] at h1
   have := Ztr (List.getElem?_eq_getElem hp)
   rw [h1] at this; cases this
theorem Zst (l : Zcs) (k : Nat) (h : k < l.length) : l = l.take k ++ l[k] :: l.drop (k + 1) := by
 rw [← List.drop_eq_getElem_cons h, List.take_append_drop]
theorem Zpn {l : Zcs} {s : ByteArray} (hs : NS l) : l.any (fun e => sEq e.Name s) = isAt s l := by
 obtain ⟨h1, h2⟩ := Zsi (s := s) hs
 unfold isAt
 by_cases hp : pre (fun e => sLt e.Name s) l < l.length
 · rw [List.getElem?_eq_getElem hp]
   conv => lhs; rw [Zst l _ hp]
   have a1 : (l.take (pre (fun e => sLt e.Name s) l)).any (fun e => sEq e.Name s) = false := by
     rw [List.any_eq_false]; intro e he; rw [h1 e he]; decide
   have a2 : (l.drop (pre (fun e => sLt e.Name s) l + 1)).any (fun e => sEq e.Name s) = false := by
     rw [List.any_eq_false]; intro e he; rw [h2 e he]; decide
   rw [List.any_append, List.any_cons, a1, a2]; simp
 · rw [List.getElem?_eq_none (by omega)]
   have : l.take (pre (fun e => sLt e.Name s) l) = l := List.take_of_length_le (by omega)
   rw [this] at h1
   rw [List.any_eq_false]; intro e he; rw [h1 e he]; decide
theorem Z3y {l : Zcs} {s : ByteArray} (hs : NS l) : l.filter (fun e => !sEq e.Name s) = if isAt s l = true then l.take (pre (fun e => sLt e.Name s) l) ++ l.drop (pre (fun e => sLt e.Name s) l + 1) else l := by
 obtain ⟨h1, h2⟩ := Zsi (s := s) hs
 unfold isAt
 by_cases hp : pre (fun e => sLt e.Name s) l < l.length
 · rw [List.getElem?_eq_getElem hp]
   conv => lhs; rw [Zst l _ hp]
   have a1 : (l.take (pre (fun e => sLt e.Name s) l)).filter (fun e => !sEq e.Name s) = l.take (pre (fun e => sLt e.Name s) l) := List.filter_eq_self.2 fun e he => by rw [h1 e he]; rfl
   have a2 : (l.drop (pre (fun e => sLt e.Name s) l + 1)).filter (fun e => !sEq e.Name s) = l.drop (pre (fun e => sLt e.Name s) l + 1) := List.filter_eq_self.2 fun e he => by rw [h2 e he]; rfl
   rw [List.filter_append, List.filter_cons, a1, a2]
   by_cases hq : sEq (l[pre (fun e => sLt e.Name s) l]).Name s = true
   · rw [if_pos hq, if_neg (by rw [hq]; decide)]
   · rw [if_neg hq, if_pos (by simpa using hq)]
     exact (Zst l _ hp).symm
 · rw [List.getElem?_eq_none (by omega)]
   have : l.take (pre (fun e => sLt e.Name s) l) = l := List.take_of_length_le (by omega)
   rw [this] at h1
   rw [if_neg (by simp)]
   exact List.filter_eq_self.2 fun e he => by rw [h1 e he]; rfl
theorem Z2n {l : Zcs} {s : ByteArray} : layL { Score := 0, Name := s } true l = if isAt s l = true then l else l.take (pre (fun e => sLt e.Name s) l) ++ [{ Score := 0, Name := s }] ++ l.drop (pre (fun e => sLt e.Name s) l) := by
 have hf : Zc4 { Score := 0, Name := s } true = fun e => sLt e.Name s := rfl
 unfold layL isAt
 rw [hf]
 cases h : l[pre (fun e => sLt e.Name s) l]? with
 | none =>
   have hp := List.getElem?_eq_none_iff.1 h
   rw [if_neg (by simp), List.take_of_length_le hp, List.drop_of_length_le hp, List.append_nil]
 | some e =>
   simp only [Zfy, Bool.true_or, Bool.and_true]
   by_cases hq : sEq e.Name s = true
   · rw [if_pos hq, if_pos hq, List.append_nil, List.take_append_drop]
   · rw [if_neg hq, if_neg hq]
theorem Zo6 {l : Zcs} (h : l.length < 1000000) : Zby l = some l := by
 unfold Zby
 rw [if_pos (by omega)]
theorem Zth {r : Zd} {a : Zm} (ha : a.X < W64) (hsc : ∀ e ∈ r.List, e.Score < W64) (hl : r.List.length < 1000000) : ∀ (n i : Nat), i + n = r.List.length →
   Zff r a (n + 1) (i : Int) = some ((i + pre (Zc4 { Score := a.X, Name := a.S } false) (r.List.drop i) : Nat) : Int)
 | 0, i, h => by
   have hd : decide ((i : Int) < (r.List.length : Int)) = false := by simp; omega
   rw [Zff, hd, List.drop_of_length_le (by omega)]
   simp [gd, pre]
 | n + 1, i, h => by
   have h1 : i < r.List.length := by omega
   have hd : decide ((i : Int) < (r.List.length : Int)) = true := by simp; omega
   rw [Zff, hd, Zc6 h1, List.drop_eq_getElem_cons h1]
   simp only [gd_t, Option.bind_some, Bool.true_and]
   rw [Zob (hsc _ (List.getElem_mem h1)) ha]
   simp only [Option.bind_some, pre, Zc4, Bool.false_eq_true, if_false, wr1 (show i < 9223372036854775807 by omega)]
   by_cases hb : Zca r.List[i] { Score := a.X, Name := a.S } = true
   · rw [if_pos hb, if_pos hb, Zth ha hsc hl n (i + 1) (by omega)]
     congr 2; omega
   · rw [if_neg hb, if_neg hb]; simp
theorem Zvt {r : Zd} {a : Zm} (ha : a.X < W64) (hsc : ∀ e ∈ r.List, e.Score < W64) (hl : r.List.length < 1000000) : Zff r a (Int.toNat ((r.List.length : Int) - (0 : Int)) + 1) (0 : Int) = some ((pre (Zc4 { Score := a.X, Name := a.S } false) r.List : Nat) : Int) := by
 have := Zth (a := a) ha hsc hl r.List.length 0 (by omega)
 rw [show ((0 : Nat) : Int) = 0 from rfl] at this
 rw [show (Int.toNat ((r.List.length : Int) - (0 : Int)) + 1) = r.List.length + 1 by omega, this]
 simp
theorem Zsh {e x : Zi} (h1 : Zca e x = false) : (!Zca x e) = Zfy x false e := by
 unfold Zca Zfy at *
 by_cases hk : keyf e.Score = keyf x.Score
 · rw [if_pos hk] at h1
   rw [if_pos hk.symm, hk]
   simp only [Bool.false_or, decide_true, Bool.and_true]
   by_cases hn : e.Name = x.Name
   · rw [hn, Zf9, Zdg]; rfl
   · rw [Zkw h1 hn, Zdq.2 hn]; rfl
 · rw [if_neg hk] at h1
   rw [if_neg (fun h => hk h.symm)]
   have := of_decide_eq_false h1
   have h3 : keyf e.Score < keyf x.Score := by omega
   simp [h3, hk]
theorem Zsn {k : Int} {l : Zcs} : ∀ (n i : Nat), Zik k l i n = 0 ↔ ∀ j, i ≤ j → j < i + n → Zhf k l j = 0
 | 0, i => ⟨fun _ j h1 h2 => by omega, fun _ => rfl⟩
 | n + 1, i => by
   by_cases h : Zhf k l i = 0
   · rw [Zsy h, Zsn n (i + 1)]
     constructor
     · intro hh j h1 h2
       by_cases e : j = i
       · rw [e]; exact h
       · exact hh j (by omega) (by omega)
     · intro hh j h1 h2; exact hh j (by omega) (by omega)
   · rw [Zs8 h]
     exact ⟨fun e => absurd e h, fun hh => absurd (hh i (Nat.le_refl _) (by omega)) h⟩
theorem Zsf {t n b r l : Bool} {a : Zd} : Zor t n b r l a = 0 ↔ Zgr t n b r l a = true ∧ a.Text.size ≤ 64 ∧ (b = true → -2305843009213693952 ≤ a.Low ∧ a.High ≤ 2305843009213693952 ∧ a.Low ≤ a.Num ∧ a.Num ≤ a.High) ∧ a.Real = Zbz a.Real ∧ (l = true → 1 ≤ a.Cap ∧ a.Cap ≤ 32 ∧ (a.List.length : Int) ≤ a.Cap ∧ ∀ i, i < a.List.length → Zhf a.Kind a.List i = 0) := by
 unfold Zor
 by_cases h1 : Zgr t n b r l a = false
 · rw [if_pos h1, h1]; simp
 · have h1' : Zgr t n b r l a = true := by simpa using h1
   rw [if_neg h1, h1']
   by_cases h2 : (64 : Int) < a.Text.size
   · rw [if_pos h2]; exact ⟨fun h => absurd h (by decide), fun h => by omega⟩
   · rw [if_neg h2]
     by_cases h3 : b = true ∧ (a.Low < -2305843009213693952 ∨ 2305843009213693952 < a.High ∨ a.Num < a.Low ∨ a.High < a.Num)
     · rw [if_pos h3]; exact ⟨fun h => absurd h (by decide), fun h => by have := h.2.2.1 h3.1; omega⟩
     · rw [if_neg h3]
       by_cases h4 : a.Real = Zbz a.Real
       · rw [if_neg (fun h => h h4)]
         cases l
         · rw [if_pos rfl]
           refine ⟨fun _ => ⟨rfl, by omega, fun hb => ?_, h4, fun h => absurd h (by decide)⟩, fun _ => rfl⟩
           have : ¬ (a.Low < -2305843009213693952 ∨ 2305843009213693952 < a.High ∨ a.Num < a.Low ∨ a.High < a.Num) := fun h => h3 ⟨hb, h⟩
           omega
         · rw [if_neg (by decide)]
           by_cases h5 : a.Cap < 1 ∨ 32 < a.Cap
           · rw [if_pos h5]; exact ⟨fun h => absurd h (by decide), fun h => by have := h.2.2.2.2 rfl; omega⟩
           · rw [if_neg h5]
             by_cases h6 : a.Cap < a.List.length
             · rw [if_pos h6]; exact ⟨fun h => absurd h (by decide), fun h => by have := h.2.2.2.2 rfl; omega⟩
             · rw [if_neg h6, Zsn]
               constructor
               · intro h
                 refine ⟨rfl, by omega, fun hb => ?_, h4, fun _ => ⟨by omega, by omega, by omega, fun i hi => h i (Nat.zero_le _) (by omega)⟩⟩
                 have : ¬ (a.Low < -2305843009213693952 ∨ 2305843009213693952 < a.High ∨ a.Num < a.Low ∨ a.High < a.Num) := fun h => h3 ⟨hb, h⟩
                 omega
               · intro h j _ hj
                 exact (h.2.2.2.2 rfl).2.2.2 j (by omega)
       · rw [if_pos h4]; exact ⟨fun h => absurd h (by decide), fun h => absurd h.2.2.2.1 h4⟩
def Zcc (a : Zd) : Prop := 1 ≤ a.Kind ∧ a.Kind ≤ 9 ∧ Zgr (decide (a.Kind = 1)) (decide (2 ≤ a.Kind ∧ a.Kind ≤ 4)) (decide (a.Kind = 4)) (decide (5 ≤ a.Kind ∧ a.Kind ≤ 7)) (decide (8 ≤ a.Kind)) a = true ∧ a.Text.size ≤ 64 ∧ (a.Kind = 4 → -2305843009213693952 ≤ a.Low ∧ a.High ≤ 2305843009213693952 ∧ a.Low ≤ a.Num ∧ a.Num ≤ a.High) ∧ a.Real = Zbz a.Real ∧
 (8 ≤ a.Kind → 1 ≤ a.Cap ∧ a.Cap ≤ 32 ∧ (a.List.length : Int) ≤ a.Cap ∧ ∀ i, i < a.List.length → Zhf a.Kind a.List i = 0)
theorem Zkq {a : Zd} (ha : Zhs a) : Zd2 a = some 0 ↔ Zcc a := by
 by_cases hk : a.Kind ≤ 0 ∨ 10 ≤ a.Kind
 · have : Zd2 a ≠ some 0 := by
     obtain ⟨c, hc, hc2⟩ := Zne ha
     unfold Zdo at hc2
     rw [if_pos (by simp; omega)] at hc2
     rw [hc, ← hc2]; decide
   exact ⟨fun h => absurd h this, fun h => by obtain ⟨h1, h2, _⟩ := h; omega⟩
 · have fin : ∀ {t n b r l : Bool}, Zd6 a.Kind = some ⟨t, n, b, r, l⟩ → t = decide (a.Kind = 1) → n = decide (2 ≤ a.Kind ∧ a.Kind ≤ 4) → b = decide (a.Kind = 4) → r = decide (5 ≤ a.Kind ∧ a.Kind ≤ 7) → l = decide (8 ≤ a.Kind) → (Zd2 a = some 0 ↔ Zcc a) := by
     intro t n b r l hs h1 h2 h3 h4 h5
     rw [Zfu ha hk hs]
     constructor
     · intro h
       obtain ⟨g1, g2, g3, g4, g5⟩ := Zsf.1 (Option.some.inj h)
       refine ⟨by omega, by omega, by rw [← h1, ← h2, ← h3, ← h4, ← h5]; exact g1, g2, fun hk4 => g3 (by rw [h3]; simpa using hk4), g4, fun hk8 => g5 (by rw [h5]; simpa using hk8)⟩
     · rintro ⟨_, _, g1, g2, g3, g4, g5⟩
       congr 1
       exact Zsf.2 ⟨by rw [h1, h2, h3, h4, h5]; exact g1, g2, fun hb => g3 (by rw [h3] at hb; simpa using hb), g4, fun hb => g5 (by rw [h5] at hb; simpa using hb)⟩
   have hk' : a.Kind = 1 ∨ a.Kind = 2 ∨ a.Kind = 3 ∨ a.Kind = 4 ∨ a.Kind = 5 ∨ a.Kind = 6 ∨ a.Kind = 7 ∨ a.Kind = 8 ∨ a.Kind = 9 := by omega
   rcases hk' with h | h | h | h | h | h | h | h | h <;> rw [h] at fin
   · exact fin Z20 rfl rfl rfl rfl rfl
   · exact fin Z25 rfl rfl rfl rfl rfl
   · exact fin Z3q rfl rfl rfl rfl rfl
   · exact fin Z2m rfl rfl rfl rfl rfl
   · exact fin Z3o rfl rfl rfl rfl rfl
   · exact fin Z13 rfl rfl rfl rfl rfl
   · exact fin Z2d rfl rfl rfl rfl rfl
   · exact fin Z2b rfl rfl rfl rfl rfl
   · exact fin Z2k rfl rfl rfl rfl rfl
theorem Zko {a : Zd} (h : Zcc a) (hk : a.Kind = 8) : NS a.List := by
 obtain ⟨_, _, _, _, _, _, h8⟩ := h
 obtain ⟨_, _, _, hi⟩ := h8 (by omega)
 have step : ∀ i, i + 1 < a.List.length → sLt ((a.List[i]?).getD default).Name ((a.List[i + 1]?).getD default).Name = true := by
   intro i hi1
   have := hi (i + 1) hi1
   unfold Zhf at this
   rw [List.getElem?_eq_getElem hi1] at this
   simp only [Nat.add_sub_cancel] at this
   split at this
   · cases this
   · split at this
     · cases this
     · split at this
       · cases this
       · rename_i h3
         rw [List.getElem?_eq_getElem hi1]
         cases hq : sLt ((a.List[i]?).getD default).Name a.List[i + 1].Name
         · exact absurd ⟨by omega, hk, hq⟩ h3
         · exact hq
 have far : ∀ d i, i + d + 1 < a.List.length → sLt ((a.List[i]?).getD default).Name ((a.List[i + d + 1]?).getD default).Name = true := by
   intro d
   induction d with
   | zero => intro i h; exact step i h
   | succ d ih => intro i h; exact Ze0 (ih i (by omega)) (step (i + d + 1) (by omega))
 refine List.pairwise_iff_getElem.2 fun i j hi hj hij => ?_
 have := far (j - i - 1) i (by omega)
 rw [show i + (j - i - 1) + 1 = j by omega, List.getElem?_eq_getElem hi, List.getElem?_eq_getElem hj] at this
 exact this
theorem Zum {neg : Bool} {r : Nat} (h : r ≤ Ieee.double.infRung) : Ieee.double.word neg r < W64 := by
 have h1 : Ieee.double.infRung = 9218868437227405312 := by decide
 have h2 : Ieee.double.signWeight = 9223372036854775808 := by decide
 unfold Ieee.Format.word
 rw [h1] at h
 show _ < 18446744073709551616
 split
 · rw [h2]; omega
 · omega
theorem Z02 (neg : Bool) (mag : Nat) (place : Int) : Ieee.double.nearest neg mag place < W64 := by
 unfold Ieee.Format.nearest
 split
 · exact Zum (Nat.zero_le _)
 · exact Zum (Nat.min_le_right _ _)
theorem Zym {d : Ieee.Datum} (h : ∀ n f, d ≠ .nan n f) : Ieee.double.write d < W64 := by
 cases d with
 | number n m p => exact Z02 n m p
 | infinity n => exact Zum (Nat.le_refl _)
 | nan n f => exact absurd rfl (h n f)
theorem Z65 {x y d : Ieee.Datum} (h : x.sum y = some d) : ∀ n f, d ≠ .nan n f := by
 intro n f e
 subst e
 cases x <;> cases y <;> simp [Ieee.Datum.sum] at h
theorem Zy7 {x y d : Ieee.Datum} (h : x.product y = some d) : ∀ n f, d ≠ .nan n f := by
 intro n f e
 subst e
 cases x <;> cases y <;> simp [Ieee.Datum.product] at h
theorem Z0g (m n : Nat) : fadd m n < W64 := by
 unfold fadd Ieee.Format.add
 cases h : (Ieee.double.read m).sum (Ieee.double.read n) with
 | none => exact (by decide : 9221120237041090561 < W64)
 | some d => simpa using Zym (Z65 h)
theorem Zz4 (m n : Nat) : fmul m n < W64 := by
 unfold fmul Ieee.Format.mul
 cases h : (Ieee.double.read m).product (Ieee.double.read n) with
 | none => exact (by decide : 9221120237041090561 < W64)
 | some d => simpa using Zym (Zy7 h)
theorem Zqs {z : Nat} (hz : z < W64) : ∃ p, Zi0 z = some p ∧ Zfo p = some (Zbz z) := by
 have hz' : z < 18446744073709551616 := hz
 unfold Zi0 Zfo Zbz NANB
 rw [Zo9 hz]
 simp only [Option.bind_some]
 by_cases hn : isn z
 · refine ⟨18444492273895866369, by simp [hn]; decide, ?_⟩
   rw [if_pos (by decide), if_pos hn]; decide
 · simp only [hn, decide_false, Bool.false_eq_true, if_false]
   by_cases ht : (9223372036854775808 : Int) ≤ z
   · rw [if_pos (by simpa using ht)]
     refine ⟨_, rfl, ?_⟩
     rw [wru (x := (9223372036854775808 : Int) - 1) (by decide) (by decide), wru (x := (z : Int) - 9223372036854775808) (by omega) (by omega), wru (by omega) (by omega)]
     rw [if_neg (by simp; omega)]
     rw [wru (x := (9223372036854775808 : Int) - 1 - _) (by omega) (by omega), wru (by omega) (by omega)]
     congr 1; omega
   · rw [if_neg (by simpa using ht)]
     refine ⟨_, rfl, ?_⟩
     rw [wru (by omega) (by omega), if_pos (by simp; omega), wru (by omega) (by omega)]
     congr 1; omega
theorem Zsg {z : Nat} : Zbz (Zbz z) = Zbz z := by
 unfold Zbz
 by_cases h : isn z
 · rw [if_pos h, if_pos (show isn NANB by unfold isn rg INF NANB TOP; decide)]
 · rw [if_neg h, if_neg h]
theorem Zyz {a b : Nat} (ha : a < W64) (hb : b < W64) (ca : a = Zbz a) (cb : b = Zbz b) : ∃ m, Zju a b = some m ∧ Zip a b = some m ∧ (m = a ∨ m = b) := by
 unfold Zju Zip
 rw [Zul ha hb, Zld ha hb, Ziu ha, Ziu hb, ← ca, ← cb]
 by_cases h : keyf a < keyf b
 · exact ⟨b, by simp [h], by simp [h], .inr rfl⟩
 · exact ⟨a, by simp [h], by simp [h], .inl rfl⟩
theorem Zxb {a b : Nat} (ha : a < W64) (hb : b < W64) (ca : a = Zbz a) (cb : b = Zbz b) : ∃ m, Zjv a b = some m ∧ Zib a b = some m ∧ (m = a ∨ m = b) := by
 unfold Zjv Zib
 rw [Zul hb ha, Zld hb ha, Ziu ha, Ziu hb, ← ca, ← cb]
 by_cases h : keyf b < keyf a
 · exact ⟨b, by simp [h], by simp [h], .inr rfl⟩
 · exact ⟨a, by simp [h], by simp [h], .inl rfl⟩
def I64 (x : Int) : Prop := -9223372036854775808 ≤ x ∧ x ≤ 9223372036854775807
structure RecW (r : Zd) : Prop where
 ok : Zhs r
 num : I64 r.Num
 low : I64 r.Low
 high : I64 r.High
 kind : I64 r.Kind
 len : r.List.length ≤ 1000
structure ActW (a : Zm) : Prop where
 ok : Ztx a
 n : I64 a.N
 mkr : RecW a.Make
 xc : a.X = Zbz a.X
 inout : (a.Kind = 10 ∨ a.Kind = 11) → 0 ≤ a.N ∧ a.N ≤ 2305843009213693952
 s64 : a.S.size ≤ 64
 s16 : ¬ (5 ≤ a.Kind ∧ a.Kind ≤ 6) → a.S.size ≤ 16
abbrev ans (c : Int) : Zh := { Code := c, Num := 0, Rec := default }
def Chg (r : Zd) (a : Zm) : Prop := ∃ c r' o, Z3 a.Kind r a (default : Zh) = some (c, r', o) ∧ Z9 r a = some (if c = 0 then (r', o) else (r, ans c)) ∧ RecW r' ∧ RecW o.Rec ∧ (c = 0 → o.Code = 0 ∧ o.Num = 0)
theorem Zpf (x : Int) : I64 (IntKind.i64.wrap x) := by unfold I64; rw [IntKind.wrap_i64]; omega
theorem Zdd : RecW (default : Zd) := ⟨⟨by decide, by decide, fun e he => by cases he⟩, by unfold I64; decide, by unfold I64; decide, by unfold I64; decide, by unfold I64; decide, by decide⟩
theorem RecW.withNum {r : Zd} (h : RecW r) {x : Int} (hx : I64 x) : RecW { r with Num := x } := ⟨⟨h.ok.real, h.ok.len, h.ok.sc⟩, hx, h.low, h.high, h.kind, h.len⟩
theorem RecW.withText {r : Zd} (h : RecW r) (t : ByteArray) : RecW { r with Text := t } := ⟨⟨h.ok.real, h.ok.len, h.ok.sc⟩, h.num, h.low, h.high, h.kind, h.len⟩
theorem RecW.withReal {r : Zd} (h : RecW r) {x : Nat} (hx : x < W64) : RecW { r with Real := x } := ⟨⟨hx, h.ok.len, h.ok.sc⟩, h.num, h.low, h.high, h.kind, h.len⟩
theorem RecW.withList {r : Zd} (h : RecW r) {l : Zcs} (h1 : l.length ≤ 1000) (h2 : ∀ e ∈ l, e.Score < W64) : RecW { r with List := l } := ⟨⟨h.ok.real, by show l.length < _; omega, h2⟩, h.num, h.low, h.high, h.kind, h1⟩
theorem Zia {r : Zd} (h : r.List.length ≤ 1000) : Zfc r = some r := by
 unfold Zfc Zby
 rw [if_pos (by omega)]; rfl
theorem Z28 {r : Zd} (h : r.List.length ≤ 1000) : Zj8 r = some r := by
 unfold Zj8
 rw [if_pos (by simp; omega)]; rfl
variable {r : Zd} {a : Zm}
theorem Z69 (h : a.Kind = 5) (hr : RecW r) : Chg r a := by
 refine ⟨0, { r with Text := a.S }, ans 0, ?_, ?_, hr.withText _, Zdd, fun _ => ⟨rfl, rfl⟩⟩
 · rw [h]; rfl
 · unfold Z9; rw [h]; rfl
theorem Z4i (h : a.Kind = 6) (hr : RecW r) : Chg r a := by
 refine ⟨0, { r with Text := a.S }, { ans 0 with Rec := r }, ?_, ?_, hr.withText _, hr, fun _ => ⟨rfl, rfl⟩⟩
 · rw [h]
   show Ze4 r a default = _
   unfold Ze4
   rw [Zia hr.len]; rfl
 · unfold Z9; rw [h, Z28 hr.len]; rfl
theorem Z6s (h : a.Kind = 7) (hr : RecW r) : Chg r a := by
 refine ⟨0, { r with Num := IntKind.i64.wrap (r.Num + a.N) }, ans 0, ?_, ?_, hr.withNum (Zpf _), Zdd, fun _ => ⟨rfl, rfl⟩⟩
 · rw [h]; rfl
 · unfold Z9; rw [h]; rfl
theorem Z3m (hr : I64 r.Num) (hn : I64 a.N) : (((decide ((0 : Int) < a.N)) && (decide ((IntKind.i64.wrap ((9223372036854775807 : Int) - a.N)) < r.Num))) || ((decide (a.N < (0 : Int))) && (decide (r.Num < (IntKind.i64.wrap ((-9223372036854775808 : Int) - a.N)))))) =
   ((((decide ((0 : Int) < r.Num)) && (decide ((0 : Int) < a.N))) && (decide ((IntKind.i64.wrap (r.Num + a.N)) < (0 : Int)))) || (((decide (r.Num < (0 : Int))) && (decide (a.N < (0 : Int)))) && (decide ((0 : Int) ≤ (IntKind.i64.wrap (r.Num + a.N)))))) := by
 unfold I64 at hr hn
 rw [Bool.eq_iff_iff]
 simp only [Bool.or_eq_true, Bool.and_eq_true, decide_eq_true_eq, IntKind.wrap_i64]
 omega
theorem Z36 (h : a.Kind = 8) (hr : RecW r) (ha : ActW a) : Chg r a := by
 have e1 : Z3 a.Kind r a default = Zi7 r a default := by rw [h]; rfl
 have e2 : Z9 r a = (Zh2 r.Num a.N).bind fun r7 => (if r7 then (Zu r (ans 9)) else (Zu { r with Num := IntKind.i64.wrap (r.Num + a.N) } (ans 0))) := by unfold Z9; rw [h]; rfl
 have hp := Z3m hr.num ha.n
 unfold Chg
 rw [e1, e2]
 unfold Zi7 Zh2 Zu
 rw [hp]
 simp only [Option.bind_some]
 split
 · exact ⟨9, r, _, rfl, rfl, hr, Zdd, fun h => by cases h⟩
 · exact ⟨0, _, _, rfl, rfl, hr.withNum (Zpf _), Zdd, fun _ => ⟨rfl, rfl⟩⟩
theorem Zvo (h : a.Kind = 9 ∨ a.Kind = 12) (hr : RecW r) : Chg r a := by
 have e1 : Z3 a.Kind r a default = Zde r a default := by rcases h with h | h <;> rw [h] <;> rfl
 have e2 : Z9 r a = (if (decide (r.Num < a.N)) then (Zu r (ans 11)) else (Zu r (ans 0))) := by rcases h with h | h <;> unfold Z9 Zbx <;> rw [h] <;> rfl
 unfold Chg
 rw [e1, e2]
 unfold Zde Zu
 split
 · exact ⟨11, r, _, rfl, rfl, hr, Zdd, fun h => by cases h⟩
 · exact ⟨0, r, _, rfl, rfl, hr, Zdd, fun _ => ⟨rfl, rfl⟩⟩
theorem Zrs (hg : Zcc r) (hk : r.Kind = 4) : -2305843009213693952 ≤ r.Low ∧ r.High ≤ 2305843009213693952 ∧ r.Low ≤ r.Num ∧ r.Num ≤ r.High := hg.2.2.2.2.1 hk
theorem Z88 (h : a.Kind = 10) (hr : RecW r) (hg : Zcc r) (hk : r.Kind = 4) (ha : ActW a) : Chg r a := by
 have e1 : Z3 a.Kind r a default = Zfr r a default := by rw [h]; rfl
 have e2 : Z9 r a = (if (decide (r.High < IntKind.i64.wrap (r.Num + a.N))) then (Zu r (ans 9)) else (Zu { r with Num := IntKind.i64.wrap (r.Num + a.N) } (ans 0))) := by unfold Z9 Zbx; rw [h]; rfl
 obtain ⟨p1, p2, p3, p4⟩ := Zrs hg hk
 obtain ⟨n1, n2⟩ := ha.inout (.inl h)
 have hd : decide (IntKind.i64.wrap (r.High - r.Num) < a.N) = decide (r.High < IntKind.i64.wrap (r.Num + a.N)) := by
   rw [wr (x := r.High - r.Num) (by omega) (by omega), wr (x := r.Num + a.N) (by omega) (by omega)]
   apply decide_eq_decide.2; omega
 unfold Chg
 rw [e1, e2]
 unfold Zfr Zu
 rw [hd]
 split
 · exact ⟨9, r, _, rfl, rfl, hr, Zdd, fun h => by cases h⟩
 · exact ⟨0, _, _, rfl, rfl, hr.withNum (Zpf _), Zdd, fun _ => ⟨rfl, rfl⟩⟩
theorem Z6r (h : a.Kind = 11) (hr : RecW r) (hg : Zcc r) (hk : r.Kind = 4) (ha : ActW a) : Chg r a := by
 have e1 : Z3 a.Kind r a default = Zfp r a default := by rw [h]; rfl
 have e2 : Z9 r a = (if (decide (IntKind.i64.wrap (r.Num - a.N) < r.Low)) then (Zu r (ans 10)) else (Zu { r with Num := IntKind.i64.wrap (r.Num - a.N) } (ans 0))) := by unfold Z9 Zbx; rw [h]; rfl
 obtain ⟨p1, p2, p3, p4⟩ := Zrs hg hk
 obtain ⟨n1, n2⟩ := ha.inout (.inr h)
 have hd : decide (IntKind.i64.wrap (r.Num - r.Low) < a.N) = decide (IntKind.i64.wrap (r.Num - a.N) < r.Low) := by
   rw [wr (x := r.Num - r.Low) (by omega) (by omega), wr (x := r.Num - a.N) (by omega) (by omega)]
   apply decide_eq_decide.2; omega
 unfold Chg
 rw [e1, e2]
 unfold Zfp Zu
 rw [hd]
 split
 · exact ⟨10, r, _, rfl, rfl, hr, Zdd, fun h => by cases h⟩
 · exact ⟨0, _, _, rfl, rfl, hr.withNum (Zpf _), Zdd, fun _ => ⟨rfl, rfl⟩⟩
theorem Znp {m : Nat} {ψ : Nat → Nat → Option Nat} (h : Z3 a.Kind r a default = Zcu ψ r a default) (h1 : ψ r.Real a.X = some m) (hm : m < W64) (h2 : Z9 r a = some ({ r with Real := m }, ans 0)) (hr : RecW r) : Chg r a := by
 refine ⟨0, { r with Real := m }, ans 0, ?_, h2, hr.withReal hm, Zdd, fun _ => ⟨rfl, rfl⟩⟩
 rw [h]
 unfold Zcu
 rw [h1]; rfl
theorem Zm4 (hg : Zcc r) : r.Real = Zbz r.Real := hg.2.2.2.2.2.1
theorem Z3w (h : a.Kind = 13) (hr : RecW r) (hg : Zcc r) (ha : ActW a) : Chg r a := by
 obtain ⟨m, m1, m2, m3⟩ := Zyz hr.ok.real ha.ok.2 (Zm4 hg) ha.xc
 refine Znp (m := m) (ψ := fun x y => Zju x y) (by rw [h]; rfl) m1 (by rcases m3 with rfl | rfl; exact hr.ok.real; exact ha.ok.2) ?_ hr
 unfold Z9 Zbx; rw [h, m2]; rfl
theorem Z2w (h : a.Kind = 14) (hr : RecW r) (hg : Zcc r) (ha : ActW a) : Chg r a := by
 obtain ⟨m, m1, m2, m3⟩ := Zxb hr.ok.real ha.ok.2 (Zm4 hg) ha.xc
 refine Znp (m := m) (ψ := fun x y => Zjv x y) (by rw [h]; rfl) m1 (by rcases m3 with rfl | rfl; exact hr.ok.real; exact ha.ok.2) ?_ hr
 unfold Z9 Zbx; rw [h, m2]; rfl
theorem Z2x (h : a.Kind = 15) (hr : RecW r) : Chg r a := by
 have hz := Z0g r.Real a.X
 obtain ⟨p, p1, p2⟩ := Zqs hz
 refine Znp (m := Zbz (fadd r.Real a.X)) (ψ := fun x y => Zhg x y) (by rw [h]; rfl) (by show Zhg r.Real a.X = _; unfold Zhg; rw [Ziu hz]; rfl) (Zs3 hz) ?_ hr
 unfold Z9 Zbx; rw [h, p1]
 show ((Zfo p).bind _) = _
 rw [p2]; rfl
theorem Z2v (h : a.Kind = 16) (hr : RecW r) : Chg r a := by
 have hz := Zz4 r.Real a.X
 obtain ⟨p, p1, p2⟩ := Zqs hz
 refine Znp (m := Zbz (fmul r.Real a.X)) (ψ := fun x y => Zgc x y) (by rw [h]; rfl) (by show Zgc r.Real a.X = _; unfold Zgc; rw [Ziu hz]; rfl) (Zs3 hz) ?_ hr
 unfold Z9 Zbx; rw [h, p1]
 show ((Zfo p).bind _) = _
 rw [p2]; rfl
theorem Z6m (h : a.Kind = 17) (hr : RecW r) (ha : ActW a) : Chg r a := by
 refine Znp (m := a.X) (ψ := fun x y => Zfj x y) (by rw [h]; rfl) rfl ha.ok.2 ?_ hr
 unfold Z9 Zbx; rw [h]; rfl
theorem Zqi (hg : Zcc r) (hk : 8 ≤ r.Kind) : 1 ≤ r.Cap ∧ r.Cap ≤ 32 ∧ (r.List.length : Int) ≤ r.Cap := by
 obtain ⟨h1, h2, h3, _⟩ := hg.2.2.2.2.2.2 hk
 exact ⟨h1, h2, h3⟩
theorem Z7s (h : a.Kind = 20) (hr : RecW r) (hg : Zcc r) (hk : r.Kind = 8) : Chg r a := by
 have hs := Zko hg hk
 have hl := hr.len
 have e1 : Z3 a.Kind r a default = Zd9 r a default := by rw [h]; rfl
 have e2 : Z9 r a = (Zfv r.List a.S).bind fun r59 => (if (!r59) then (Zu r (ans 11)) else (Zu r (ans 0))) := by unfold Z9 Zbx; rw [h]; rfl
 unfold Chg
 rw [e1, e2]
 unfold Zd9 Zu
 rw [Znj hs (by omega), Zxp (by omega), Zpn hs]
 simp only [Option.bind_some]
 split
 · exact ⟨11, r, _, rfl, rfl, hr, Zdd, fun h => by cases h⟩
 · exact ⟨0, r, _, rfl, rfl, hr, Zdd, fun _ => ⟨rfl, rfl⟩⟩
theorem Z4u (h : a.Kind = 18) (hr : RecW r) (hg : Zcc r) (hk : r.Kind = 8) : Chg r a := by
 have hs := Zko hg hk
 have hl := hr.len
 obtain ⟨c1, c2, c3⟩ := Zqi hg (by omega)
 have e1 : Z3 a.Kind r a default = Zif r a default := by rw [h]; rfl
 have e2 : Z9 r a = (Zfv r.List a.S).bind fun r40 => (if ((!r40) && (decide (r.Cap ≤ (r.List.length : Int)))) then (Zu r (ans 8)) else ((Zew r.List ({ Score := (0 : Nat), Name := a.S } : Zi) true).bind fun r43 => (Zu ({ r with List := r43 }) (ans 0)))) := by unfold Z9 Zbx; rw [h]; rfl
 have hple := Znm (fun e => sLt e.Name a.S) r.List
 unfold Chg
 rw [e1, e2]
 unfold Zif Zu
 rw [Znj hs (by omega), Zxp (by omega), Zpn hs, Zrt (show (0 : Nat) < W64 by decide) hr.ok.sc (by omega), Z2n, Zo6 (by omega)]
 simp only [Option.bind_some]
 by_cases hat : isAt a.S r.List = true
 · rw [hat]
   exact ⟨0, r, _, rfl, rfl, hr, Zdd, fun _ => ⟨rfl, rfl⟩⟩
 · have hat' : isAt a.S r.List = false := by simpa using hat
   rw [hat']
   simp only [Bool.not_false, Bool.true_and, Bool.false_eq_true, if_false]
   by_cases hc : decide (r.Cap ≤ (r.List.length : Int)) = true
   · rw [if_pos hc, if_pos hc]
     exact ⟨8, r, _, rfl, rfl, hr, Zdd, fun h => by cases h⟩
   · rw [if_neg hc, if_neg hc]
     unfold Zb7
     rw [if_pos ⟨by omega, by omega, by simp, by simp; omega⟩]
     refine ⟨0, _, _, rfl, rfl, hr.withList (by simp; omega) fun e he => ?_, Zdd, fun _ => ⟨rfl, rfl⟩⟩
     simp only [List.mem_append, List.mem_singleton, Int.toNat_natCast] at he
     rcases he with (he | rfl) | he
     · exact hr.ok.sc e (List.mem_of_mem_take he)
     · exact (show (0 : Nat) < W64 by decide)
     · exact hr.ok.sc e (List.mem_of_mem_drop he)
theorem Zv1 (h : a.Kind = 19) (hr : RecW r) (hg : Zcc r) (hk : r.Kind = 8) : Chg r a := by
 have hs := Zko hg hk
 have hl := hr.len
 have e1 : Z3 a.Kind r a default = Zgj r a default := by rw [h]; rfl
 have e2 : Z9 r a = (Zd4 r a (Int.toNat ((r.List.length : Int) - (0 : Int)) + 1) ([] : List Zi) (0 : Int)).bind fun z57 => match z57 with | y56 => (Zu ({ r with List := y56 }) (ans 0)) := by unfold Z9 Zbx; rw [h]; rfl
 have hple := Znm (fun e => sLt e.Name a.S) r.List
 unfold Chg
 rw [e1, e2]
 unfold Zgj Zu
 have hf := Zmt (a := a) (a0 := r) (by omega) r.List.length 0 [] (by omega) (by simp)
 rw [show ((0 : Nat) : Int) = 0 from rfl] at hf
 rw [Znj hs (by omega), show (Int.toNat ((r.List.length : Int) - (0 : Int)) + 1) = r.List.length + 1 by omega, hf, List.drop_zero, List.nil_append, Z3y hs, Zo6 (by omega)]
 simp only [Option.bind_some]
 by_cases hat : isAt a.S r.List = true
 · have hp : pre (fun e => sLt e.Name a.S) r.List < r.List.length := by
     unfold isAt at hat
     cases hq : r.List[pre (fun e => sLt e.Name a.S) r.List]? with
     | none => rw [hq] at hat; cases hat
     | some e => exact (List.getElem?_eq_some_iff.1 hq).1
   rw [hat]
   simp only [if_true]
   unfold Zek
   rw [wr1 (by omega), if_pos ⟨by omega, by omega, by omega, by omega, by omega⟩]
   refine ⟨0, _, _, rfl, rfl, hr.withList (by simp; omega) fun e he => ?_, Zdd, fun _ => ⟨rfl, rfl⟩⟩
   simp only [List.mem_append, Int.toNat_natCast] at he
   rcases he with he | he
   · exact hr.ok.sc e (List.mem_of_mem_take he)
   · exact hr.ok.sc e (List.mem_of_mem_drop he)
 · have hat' : isAt a.S r.List = false := by simpa using hat
   rw [hat']
   exact ⟨0, r, _, rfl, rfl, hr, Zdd, fun _ => ⟨rfl, rfl⟩⟩
variable {r : Zd} {a : Zm}
theorem Zxy {l : Zcs} {c : Int} (h1 : 1 ≤ c) (h2 : c ≤ 32) : cut l 0 (min (l.length : Int) c) = some (l.take c.toNat) := by
 unfold cut
 rw [if_pos (by omega)]
 simp only [Int.toNat_zero, List.drop_zero, Nat.sub_zero]
 congr 1
 rcases Int.le_total (l.length : Int) c with h | h
 · rw [Int.min_eq_left h, Int.toNat_natCast, List.take_of_length_le (Nat.le_refl _), List.take_of_length_le (by omega)]
 · rw [Int.min_eq_right h]
theorem Z18 (h : a.Kind = 21) (hr : RecW r) (hg : Zcc r) (hk : r.Kind = 9) (ha : ActW a) : Chg r a := by
 have hl := hr.len
 obtain ⟨c1, c2, c3⟩ := Zqi hg (by omega)
 have e1 : Z3 a.Kind r a default = Zhr r a default := by rw [h]; rfl
 have e2 : Z9 r a = (Zew r.List ({ Score := a.X, Name := a.S } : Zi) false).bind fun r63 => (if (decide (r.Cap < (r63.length : Int))) then ((cut r63 (0 : Int) r.Cap).bind fun c66 => (Zdm r c66)) else (Zdm r r63)) := by unfold Z9 Zbx; rw [h]; rfl
 have hx : ({ Score := a.X, Name := a.S } : Zi).Score < W64 := ha.ok.2
 have hple := Znm (Zc4 { Score := a.X, Name := a.S } false) r.List
 unfold Chg
 rw [e1, e2]
 unfold Zhr
 rw [Zvt ha.ok.2 hr.ok.sc (by omega), Zrt hx hr.ok.sc (by omega), Zo6 (by omega)]
 simp only [Option.bind_some]
 have fin : ∀ L : Zcs, L = r.List.take (pre (Zc4 { Score := a.X, Name := a.S } false) r.List) ++ [{ Score := a.X, Name := a.S }] ++ r.List.drop (pre (Zc4 { Score := a.X, Name := a.S } false) r.List) → layL { Score := a.X, Name := a.S } false r.List = L →
     ∃ c r' o, ((Zb7 r.List ((pre (Zc4 { Score := a.X, Name := a.S } false) r.List : Nat) : Int) ([({ Score := a.X, Name := a.S } : Zi)] : List Zi)).bind fun r16 => ((cut r16 (0 : Int) (min (r16.length : Int) r.Cap)).bind fun c18 => (some ((0 : Int), ({ r with List := c18 }), (default : Zh))))) = some (c, r', o) ∧
       (if (decide (r.Cap < ((layL { Score := a.X, Name := a.S } false r.List).length : Int))) = true then ((cut (layL { Score := a.X, Name := a.S } false r.List) (0 : Int) r.Cap).bind fun c66 => (Zdm r c66)) else (Zdm r (layL { Score := a.X, Name := a.S } false r.List))) = some (if c = 0 then (r', o) else (r, ans c)) ∧ RecW r' ∧ RecW o.Rec ∧ (c = 0 → o.Code = 0 ∧ o.Num = 0) := by
   intro L hL hlay
   have hLl : L.length = r.List.length + 1 := by rw [hL]; simp; omega
   have hLs : ∀ e ∈ L, e.Score < W64 := fun e he => by
     rw [hL] at he
     simp only [List.mem_append, List.mem_singleton] at he
     rcases he with (he | rfl) | he
     · exact hr.ok.sc e (List.mem_of_mem_take he)
     · exact hx
     · exact hr.ok.sc e (List.mem_of_mem_drop he)
   rw [hlay]
   unfold Zb7 Zdm Zu
   rw [if_pos ⟨by omega, by omega, by simp, by simp; omega⟩]
   simp only [Option.bind_some, Int.toNat_natCast]
   rw [← hL, Zxy c1 c2]
   refine ⟨0, { r with List := L.take r.Cap.toNat }, ans 0, rfl, ?_, hr.withList (by simp; omega) (fun e he => hLs e (List.mem_of_mem_take he)), Zdd, fun _ => ⟨rfl, rfl⟩⟩
   by_cases hc : decide (r.Cap < (L.length : Int)) = true
   · rw [if_pos hc]
     have : r.Cap < (L.length : Int) := of_decide_eq_true hc
     unfold cut
     rw [if_pos (by omega)]
     simp
   · rw [if_neg hc]
     have : ¬ r.Cap < (L.length : Int) := fun h => hc (decide_eq_true h)
     rw [List.take_of_length_le (by omega)]; rfl
 by_cases hp : pre (Zc4 { Score := a.X, Name := a.S } false) r.List < r.List.length
 · have hd : decide (((pre (Zc4 { Score := a.X, Name := a.S } false) r.List : Nat) : Int) < (r.List.length : Int)) = true := by simpa using hp
   have hat := Ztr (List.getElem?_eq_getElem hp)
   have hb : Zca r.List[pre (Zc4 { Score := a.X, Name := a.S } false) r.List] { Score := a.X, Name := a.S } = false := hat
   have hbs := Zsh hb
   rw [hd, Zc6 hp]
   simp only [gd_t, Option.bind_some, Bool.true_and]
   rw [Zob hx (hr.ok.sc _ (List.getElem_mem hp))]
   simp only [Option.bind_some]
   by_cases hs : (!Zca { Score := a.X, Name := a.S } r.List[pre (Zc4 { Score := a.X, Name := a.S } false) r.List]) = true
   · rw [if_pos hs]
     have hlay : layL { Score := a.X, Name := a.S } false r.List = r.List := by
       unfold layL
       rw [List.getElem?_eq_getElem hp]
       simp only
       rw [if_pos (by rw [← hbs]; exact hs), List.append_nil, List.take_append_drop]
     rw [hlay, if_neg (by simp; omega)]
     exact ⟨0, r, _, rfl, rfl, hr, Zdd, fun _ => ⟨rfl, rfl⟩⟩
   · rw [if_neg hs]
     refine fin _ rfl ?_
     unfold layL
     rw [List.getElem?_eq_getElem hp]
     simp only
     rw [if_neg (by rw [← hbs]; exact hs)]
 · have hd : decide (((pre (Zc4 { Score := a.X, Name := a.S } false) r.List : Nat) : Int) < (r.List.length : Int)) = false := by simpa using hp
   rw [hd]
   simp only [gd_f, Option.bind_some, Bool.false_and, Bool.false_eq_true, if_false]
   refine fin _ rfl ?_
   unfold layL
   rw [List.getElem?_eq_none (by omega), List.take_of_length_le (by omega), List.drop_of_length_le (by omega), List.append_nil]
theorem Zni {k : Int} (h1 : 1 ≤ k) (h2 : k ≤ 21) : ∃ on, Zfq k = some on ∧ Ze6 k = some on ∧ (k ≤ 4 → on = 0) ∧ (5 ≤ k → on ≠ 0) ∧ ((k = 10 ∨ k = 11) → on = 4) ∧ ((k = 18 ∨ k = 19 ∨ k = 20) → on = 8) ∧ (k = 21 → on = 9) ∧
   ((k = 5 ∨ k = 6) → on = 1) ∧ (k = 7 → on = 2) ∧ ((k = 8 ∨ k = 9) → on = 3) ∧ (k = 12 → on = 4) ∧ (k = 13 → on = 5) ∧ (k = 14 → on = 6) ∧ ((k = 15 ∨ k = 16 ∨ k = 17) → on = 7) := by
 have hk' : k = 1 ∨ k = 2 ∨ k = 3 ∨ k = 4 ∨ k = 5 ∨ k = 6 ∨ k = 7 ∨ k = 8 ∨ k = 9 ∨ k = 10 ∨ k = 11 ∨ k = 12 ∨ k = 13 ∨ k = 14 ∨ k = 15 ∨ k = 16 ∨ k = 17 ∨ k = 18 ∨ k = 19 ∨ k = 20 ∨ k = 21 := by omega
 rcases hk' with rfl | rfl | rfl | rfl | rfl | rfl | rfl | rfl | rfl | rfl | rfl | rfl | rfl | rfl | rfl | rfl | rfl | rfl | rfl | rfl | rfl
 all_goals first
   | exact ⟨0, by kernel_rfl, by kernel_rfl, by decide⟩
   | exact ⟨1, by kernel_rfl, by kernel_rfl, by decide⟩
   | exact ⟨2, by kernel_rfl, by kernel_rfl, by decide⟩
   | exact ⟨3, by kernel_rfl, by kernel_rfl, by decide⟩
   | exact ⟨4, by kernel_rfl, by kernel_rfl, by decide⟩
   | exact ⟨5, by kernel_rfl, by kernel_rfl, by decide⟩
   | exact ⟨6, by kernel_rfl, by kernel_rfl, by decide⟩
   | exact ⟨7, by kernel_rfl, by kernel_rfl, by decide⟩
   | exact ⟨8, by kernel_rfl, by kernel_rfl, by decide⟩
   | exact ⟨9, by kernel_rfl, by kernel_rfl, by decide⟩
theorem Zun (h5 : 5 ≤ a.Kind) (h21 : a.Kind ≤ 21) (hr : RecW r) (hg : Zcc r) (hon : Zfq a.Kind = some r.Kind) (ha : ActW a) : Chg r a := by
 obtain ⟨on, o1, _, _, _, k10, k18, k21, _⟩ := Zni (k := a.Kind) (by omega) h21
 rw [hon] at o1
 obtain rfl := Option.some.inj o1
 have hk' : a.Kind = 5 ∨ a.Kind = 6 ∨ a.Kind = 7 ∨ a.Kind = 8 ∨ a.Kind = 9 ∨ a.Kind = 10 ∨ a.Kind = 11 ∨ a.Kind = 12 ∨ a.Kind = 13 ∨ a.Kind = 14 ∨ a.Kind = 15 ∨ a.Kind = 16 ∨ a.Kind = 17 ∨ a.Kind = 18 ∨ a.Kind = 19 ∨ a.Kind = 20 ∨ a.Kind = 21 := by omega
 rcases hk' with h | h | h | h | h | h | h | h | h | h | h | h | h | h | h | h | h
 · exact Z69 h hr
 · exact Z4i h hr
 · exact Z6s h hr
 · exact Z36 h hr ha
 · exact Zvo (.inl h) hr
 · exact Z88 h hr hg (k10 (.inl h)) ha
 · exact Z6r h hr hg (k10 (.inr h)) ha
 · exact Zvo (.inr h) hr
 · exact Z3w h hr hg ha
 · exact Z2w h hr hg ha
 · exact Z2x h hr
 · exact Z2v h hr
 · exact Z6m h hr ha
 · exact Z4u h hr hg (k18 (.inl h))
 · exact Zv1 h hr hg (k18 (.inr (.inl h)))
 · exact Z7s h hr hg (k18 (.inr (.inr h)))
 · exact Z18 h hr hg (k21 h) ha
structure ActIn (a : Zm) : Prop where
 ok : Ztx a
 n : I64 a.N
 mkr : RecW a.Make
theorem ActIn.w {a : Zm} (h : ActIn a) {c : Int} (hc : 1 ≤ a.Kind ∧ a.Kind ≤ 21 ∧ a.X = Zbz a.X ∧ a.S.size ≤ 64 ∧ ((a.Kind = 10 ∨ a.Kind = 11) → 0 ≤ a.N ∧ a.N ≤ 2305843009213693952) ∧ (a.Kind = 1 → Zd2 a.Make = some 0) ∧ (¬ (5 ≤ a.Kind ∧ a.Kind ≤ 6) → a.S.size ≤ 16) ∧ sEq a.Key ⟨#[]⟩ = false ∧ a.Key.size ≤ 24) : ActW a :=
 ⟨h.ok, h.n, h.mkr, hc.2.2.1, hc.2.2.2.2.1, hc.2.2.2.1, hc.2.2.2.2.2.2.1⟩
theorem Zz1 {x : Zd} (h : Zjn x) : x.List.length ≤ 9223372036854775807 := by
 obtain ⟨_, _, _, _, _, _, _, h8, _⟩ := h
 simp only [maxLen] at h8; omega
theorem Zut {x : Zd} (h : Zjn x) (hl : x.List.length ≤ 100) : RecW x := by
 obtain ⟨h1, h2, h3, h4, h5, _, _, h8, h9⟩ := h
 exact ⟨⟨h5, by omega, fun e he => (h9 e he).1⟩, h2, h3, h4, h1, by omega⟩
theorem eqLr : ∀ l : List Zi, eqL l l = true
 | [] => rfl
 | x :: l => by simp [eqL, eqI, Zdg, eqLr l]
theorem Z9g (a : Zd) : Zjc a a = true := by simp [Zjc, Zdg, eqLr]
theorem Z4l {a : Zm} (h : Zkm a) (hl : a.Make.List.length ≤ 100) : ActIn a := by
 obtain ⟨_, _, h3, h4, _, h6, _⟩ := h
 exact ⟨⟨(Zut h6 hl).ok, h4⟩, h3, Zut h6 hl⟩
theorem Z9s {a : Zm} (h : Zkm a) : ∃ c, Zij a = some c ∧ (c = 0 ∨ c = 1) ∧ (c = 0 → a.Make.List.length ≤ 100) := by
 obtain ⟨c, e1, e2, e3⟩ := Z55 (Zz1 h.2.2.2.2.2.1)
 unfold Zij
 rw [e1]
 by_cases hk : (decide ((200 : Int) < (a.Key.size : Int)) || decide ((1000 : Int) < (a.S.size : Int))) = true
 · rw [hk]; exact ⟨1, rfl, .inr rfl, fun h => by cases h⟩
 · have hk' := Bool.eq_false_iff.2 hk
   rw [hk']
   rcases e2 with rfl | rfl
   · exact ⟨0, rfl, .inl rfl, fun _ => e3 rfl⟩
   · exact ⟨1, rfl, .inr rfl, fun h => by cases h⟩
theorem Z9p {a b : Zh} (ha : RecW a.Rec) (hb : RecW b.Rec) : Zj9 a b = some ((a.Code == b.Code) && (a.Num == b.Num) && Zjc a.Rec b.Rec) := by
 unfold Zj9
 rw [Zsx ha.ok hb.ok]
 cases (a.Code == b.Code) && (a.Num == b.Num) <;> rfl
def Z0u (r0 : Zd) (there : Bool) (a : Zm) (z : Zd × Bool × Zh) : Prop :=
 (∃ c, c ≠ 0 ∧ z = (r0, there, ans c)) ∨ (Ze9 a = some 0 ∧ ActW a ∧ (there = true → Zcc r0) ∧
   ((a.Kind = 1 ∧ there = false ∧ Zcc a.Make ∧ z = (a.Make, true, ans 0)) ∨ (a.Kind = 2 ∧ there = true ∧ z = (zrc, false, ans 0)) ∨ (a.Kind = 3 ∧ z = (r0, there, { ans 0 with Num := r0.Kind })) ∨ (a.Kind = 4 ∧ there = true ∧ z = (r0, true, { ans 0 with Rec := r0 })) ∨
     (5 ≤ a.Kind ∧ a.Kind ≤ 21 ∧ there = true ∧ Zfq a.Kind = some r0.Kind ∧ ∃ r' o, Z3 a.Kind r0 a default = some (0, r', o) ∧ o.Code = 0 ∧ o.Num = 0 ∧ RecW r' ∧ RecW o.Rec ∧ z = (r', true, o))))
theorem Zk4 {r : Zd} {there : Bool} {a : Zm} (hr : RecW r) (ha : ActIn a) : ∃ z, Zcn r there a = some z ∧ Z0u (if there = true then r else zrc) there a z := by
 suffices hs : ∀ r0 : Zd, RecW r0 → ∃ z, Ze1 there a r0 = some z ∧ Z0u r0 there a z by
   unfold Zcn
   cases there
   · exact hs _ Zdd
   · exact hs r hr
 intro r0 hr0
 unfold Ze1
 rw [Zia hr0.len]
 obtain ⟨c, h1, h2, h3⟩ := Zn8 ha.ok
 rw [h1]
 simp only [Option.bind_some]
 by_cases hc : c = 0
 · subst hc
   have hf := h3 rfl
   have hw := ha.w (c := 0) hf
   obtain ⟨on2, o1, o2, o3, o4, _⟩ := Zni hf.1 hf.2.1
   have main : (there = true → Zcc r0) → ∃ z, Zge there a r0 = some z ∧ Z0u r0 there a z := by
     intro hg
     unfold Zge Zf3
     rw [o1, Zia hr0.len, Zia ha.mkr.len]
     simp only [Option.bind_some]
     by_cases k1 : a.Kind = 1
     · have hm : Zcc a.Make := (Zkq ha.mkr.ok).1 (hf.2.2.2.2.2.1 k1)
       rw [k1]
       cases there
       · exact ⟨_, rfl, .inr ⟨h1, hw, hg, .inl ⟨k1, rfl, hm, rfl⟩⟩⟩
       · exact ⟨_, rfl, .inl ⟨7, by decide, rfl⟩⟩
     · by_cases k3 : a.Kind = 3
       · rw [k3]
         exact ⟨_, rfl, .inr ⟨h1, hw, hg, .inr (.inr (.inl ⟨k3, rfl⟩))⟩⟩
       · by_cases k2 : a.Kind = 2
         · rw [k2]
           cases there
           · exact ⟨_, rfl, .inl ⟨6, by decide, rfl⟩⟩
           · exact ⟨_, rfl, .inr ⟨h1, hw, hg, .inr (.inl ⟨k2, rfl, rfl⟩)⟩⟩
         · by_cases k4 : a.Kind = 4
           · rw [k4]
             cases there
             · exact ⟨_, rfl, .inl ⟨6, by decide, rfl⟩⟩
             · exact ⟨_, rfl, .inr ⟨h1, hw, hg, .inr (.inr (.inr (.inl ⟨k4, rfl, rfl⟩)))⟩⟩
           · have h5 : 5 ≤ a.Kind := by omega
             have b1 : (a.Kind == 1) = false := by simpa using k1
             have b2 : (a.Kind == 2) = false := by simpa using k2
             have b3 : (a.Kind == 3) = false := by simpa using k3
             have b4 : (a.Kind == 4) = false := by simpa using k4
             simp only [b1, b2, b3, b4, Bool.false_and, Bool.false_eq_true, if_false]
             cases there
             · exact ⟨_, rfl, .inl ⟨6, by decide, rfl⟩⟩
             · simp only [Bool.not_true, Bool.false_eq_true, if_false]
               by_cases hk : (on2 != r0.Kind) = true
               · rw [if_pos hk]
                 exact ⟨_, rfl, .inl ⟨5, by decide, rfl⟩⟩
               · rw [if_neg hk, if_pos ⟨h5, hf.2.1⟩]
                 have hk' : on2 = r0.Kind := by simpa using hk
                 obtain ⟨c, r', o, e1, e2, w1, w2, w3⟩ := Zun h5 hf.2.1 hr0 (hg rfl) (by rw [← hk']; exact o1) hw
                 rw [e1]
                 simp only [Option.bind_some]
                 by_cases hc : c = 0
                 · subst hc
                   exact ⟨(r', true, o), rfl, .inr ⟨h1, hw, hg, .inr (.inr (.inr (.inr ⟨h5, hf.2.1, rfl, by rw [← hk']; exact o1, r', o, e1, (w3 rfl).1, (w3 rfl).2, w1, w2, rfl⟩)))⟩⟩
                 · have hcn : (c != 0) = true := by simpa using hc
                   rw [if_pos hcn]
                   exact ⟨_, rfl, .inl ⟨c, hc, rfl⟩⟩
   have z1 : ((0 : Int) != 0) = false := rfl
   rw [z1]
   simp only [Bool.false_eq_true, if_false]
   by_cases ht : there = true
   · rw [if_pos ht]
     obtain ⟨c2, g1, g2⟩ := Zne hr0.ok
     rw [g1]
     simp only [Option.bind_some]
     by_cases hc2 : c2 = 0
     · subst hc2
       rw [z1]
       exact main fun _ => (Zkq hr0.ok).1 g1
     · have hcn : (c2 != 0) = true := by simpa using hc2
       rw [if_pos hcn]
       exact ⟨_, rfl, .inl ⟨c2, hc2, rfl⟩⟩
   · rw [if_neg ht]
     exact main fun h => absurd h ht
 · have hcn : (c != 0) = true := by simpa using hc
   rw [if_pos hcn]
   exact ⟨_, rfl, .inl ⟨c, hc, rfl⟩⟩
theorem Zx4 {f : Zi → Bool} {l : Zcs} : ∀ y ∈ l.take (pre f l), f y = true := fun y hy => by
 obtain ⟨k, hk, rfl⟩ := List.getElem_of_mem hy
 rw [List.length_take] at hk
 obtain ⟨e, he, hf⟩ := Zyq (f := f) (l := l) (k := k) (by omega)
 rw [List.getElem?_eq_getElem (by omega)] at he
 rw [List.getElem_take]
 obtain rfl := Option.some.inj he
 exact hf
variable {r r' r'' : Zd} {a : Zm} {o o' : Zh} {c : Int}
theorem Zpm {r : Zd} {m : Int} (hg : Zcc r) (hk : 2 ≤ r.Kind ∧ r.Kind ≤ 4) (hb : r.Kind = 4 → r.Low ≤ m ∧ m ≤ r.High) : Zcc { r with Num := m } := by
 obtain ⟨g1, g2, g3, g4, g5, g6, g7⟩ := hg
 refine ⟨g1, g2, ?_, g4, fun h => ⟨(g5 h).1, (g5 h).2.1, (hb h).1, (hb h).2⟩, g6, g7⟩
 unfold Zgr at *
 have : decide (2 ≤ r.Kind ∧ r.Kind ≤ 4) = true := decide_eq_true hk
 simp only [this, Bool.true_or] at *
 exact g3
theorem Zkc {a b c : Zi} (h : Zca a b = true) (k : Zca b c = true) : Zca a c = true := by
 unfold Zca at *
 by_cases h1 : keyf a.Score = keyf b.Score
 · rw [if_pos h1] at h
   by_cases h2 : keyf b.Score = keyf c.Score
   · rw [if_pos h2] at k
     rw [if_pos (h1.trans h2)]; exact Ze0 h k
   · rw [if_neg h2] at k
     rw [if_neg (by rw [h1]; exact h2), h1]; exact k
 · rw [if_neg h1] at h
   have h' := of_decide_eq_true h
   by_cases h2 : keyf b.Score = keyf c.Score
   · rw [if_neg (by rw [← h2]; exact h1), ← h2]; exact h
   · rw [if_neg h2] at k
     have k' := of_decide_eq_true k
     rw [if_neg (by omega)]; exact decide_eq_true (by omega)
def BS (l : Zcs) : Prop := l.Pairwise fun p q => Zca p q = true
def Zqz (k : Int) (e : Zi) : Prop := e.Name.size ≤ 16 ∧ (k = 8 → keyf e.Score = keyf 0) ∧ e.Score = Zbz e.Score
theorem Zng {k : Int} {l : Zcs} {i : Nat} {x : Zi} (h : l[i]? = some x) : Zhf k l i = 0 ↔ Zqz k x ∧ (0 < i → k = 8 → sLt ((l[i - 1]?).getD default).Name x.Name = true) ∧ (0 < i → k = 9 → Zca ((l[i - 1]?).getD default) x = true) := by
 unfold Zhf Zqz
 rw [h]
 simp only []
 by_cases h1 : (16 : Int) < x.Name.size
 · rw [if_pos h1]; exact ⟨fun h => (by cases h), fun h => by omega⟩
 · rw [if_neg h1]
   by_cases h2 : (k = 8 ∧ keyf x.Score ≠ keyf 0) ∨ x.Score ≠ Zbz x.Score
   · rw [if_pos h2]
     refine ⟨fun h => (by cases h), fun h => ?_⟩
     rcases h2 with ⟨a, b⟩ | b
     · exact absurd (h.1.2.1 a) b
     · exact absurd h.1.2.2 b
   · rw [if_neg h2]
     have e1 : k = 8 → keyf x.Score = keyf 0 := fun hk => Classical.byContradiction fun hn => h2 (.inl ⟨hk, hn⟩)
     have e2 : x.Score = Zbz x.Score := Classical.byContradiction fun hn => h2 (.inr hn)
     by_cases h3 : 0 < i ∧ k = 8 ∧ sLt ((l[i - 1]?).getD default).Name x.Name = false
     · rw [if_pos h3]
       refine ⟨fun h => (by cases h), fun h => ?_⟩
       have := h.2.1 h3.1 h3.2.1
       rw [h3.2.2] at this; cases this
     · rw [if_neg h3]
       have e3 : 0 < i → k = 8 → sLt ((l[i - 1]?).getD default).Name x.Name = true := fun a b => by
         cases hq : sLt ((l[i - 1]?).getD default).Name x.Name
         · exact absurd ⟨a, b, hq⟩ h3
         · rfl
       by_cases h4 : 0 < i ∧ k = 9 ∧ Zca ((l[i - 1]?).getD default) x = false
       · rw [if_pos h4]
         refine ⟨fun h => (by cases h), fun h => ?_⟩
         have := h.2.2 h4.1 h4.2.1
         rw [h4.2.2] at this; cases this
       · rw [if_neg h4]
         refine ⟨fun _ => ⟨⟨by omega, e1, e2⟩, e3, fun a b => ?_⟩, fun _ => rfl⟩
         cases hq : Zca ((l[i - 1]?).getD default) x
         · exact absurd ⟨a, b, hq⟩ h4
         · rfl
theorem Zyh {R : Zi → Zi → Prop} (ht : ∀ {a b c}, R a b → R b c → R a c) {l : Zcs} (step : ∀ i, i + 1 < l.length → R ((l[i]?).getD default) ((l[i + 1]?).getD default)) : l.Pairwise R := by
 have far : ∀ d i, i + d + 1 < l.length → R ((l[i]?).getD default) ((l[i + d + 1]?).getD default) := by
   intro d
   induction d with
   | zero => intro i h; exact step i h
   | succ d ih => intro i h; exact ht (ih i (by omega)) (step (i + d + 1) (by omega))
 refine List.pairwise_iff_getElem.2 fun i j hi hj hij => ?_
 have := far (j - i - 1) i (by omega)
 rw [show i + (j - i - 1) + 1 = j by omega, List.getElem?_eq_getElem hi, List.getElem?_eq_getElem hj] at this
 exact this
theorem Zxo {R : Zi → Zi → Prop} {l : Zcs} (h : l.Pairwise R) {i : Nat} {x : Zi} (hx : l[i]? = some x) (hi : 0 < i) : R ((l[i - 1]?).getD default) x := by
 obtain ⟨h1, rfl⟩ := List.getElem?_eq_some_iff.1 hx
 rw [List.getElem?_eq_getElem (by omega)]
 exact List.pairwise_iff_getElem.1 h _ _ (by omega) h1 (by omega)
theorem Zv0 {k : Int} {l : Zcs} : (∀ i, i < l.length → Zhf k l i = 0) ↔ (∀ e ∈ l, Zqz k e) ∧ (k = 8 → NS l) ∧ (k = 9 → BS l) := by
 constructor
 · intro h
   refine ⟨fun e he => ?_, fun hk => ?_, fun hk => ?_⟩
   · obtain ⟨i, hi, rfl⟩ := List.getElem_of_mem he
     exact ((Zng (List.getElem?_eq_getElem hi)).1 (h i hi)).1
   · refine Zyh (R := fun p q => sLt p.Name q.Name = true) (fun a b => Ze0 a b) fun i hi => ?_
     have := ((Zng (List.getElem?_eq_getElem hi)).1 (h (i + 1) hi)).2.1 (by omega) hk
     rw [List.getElem?_eq_getElem hi]; exact this
   · refine Zyh (R := fun p q => Zca p q = true) (fun a b => Zkc a b) fun i hi => ?_
     have := ((Zng (List.getElem?_eq_getElem hi)).1 (h (i + 1) hi)).2.2 (by omega) hk
     rw [List.getElem?_eq_getElem hi]; exact this
 · intro ⟨h1, h2, h3⟩ i hi
   have hx := List.getElem?_eq_getElem hi
   exact (Zng hx).2 ⟨h1 _ (List.getElem_mem hi), fun a b => Zxo (R := fun p q => sLt p.Name q.Name = true) (h2 b) hx a, fun a b => Zxo (R := fun p q => Zca p q = true) (h3 b) hx a⟩
theorem Zxa {r : Zd} (h : Zcc r) (hk : 8 ≤ r.Kind) : 1 ≤ r.Cap ∧ r.Cap ≤ 32 ∧ (r.List.length : Int) ≤ r.Cap ∧ (∀ e ∈ r.List, Zqz r.Kind e) ∧ (r.Kind = 8 → NS r.List) ∧ (r.Kind = 9 → BS r.List) := by
 obtain ⟨a, b, c, d⟩ := h.2.2.2.2.2.2 hk
 exact ⟨a, b, c, Zv0.1 d⟩
theorem Zm6 {r : Zd} {l : Zcs} (h : Zcc r) (hk : 8 ≤ r.Kind) (h1 : (l.length : Int) ≤ r.Cap) (h2 : ∀ e ∈ l, Zqz r.Kind e) (h3 : r.Kind = 8 → NS l) (h4 : r.Kind = 9 → BS l) : Zcc { r with List := l } := by
 obtain ⟨g1, g2, g3, g4, g5, g6, g7⟩ := h
 refine ⟨g1, g2, ?_, g4, g5, g6, fun hk => ⟨(g7 hk).1, (g7 hk).2.1, h1, Zv0.2 ⟨h2, h3, h4⟩⟩⟩
 unfold Zgr at *
 have : decide (8 ≤ r.Kind) = true := decide_eq_true hk
 simp only [this, Bool.true_or] at *
 exact g3
theorem Zp2 {r : Zd} {t : ByteArray} (h : Zcc r) (hk : r.Kind = 1) (h1 : t.size ≤ 64) : Zcc { r with Text := t } := by
 obtain ⟨g1, g2, g3, g4, g5, g6, g7⟩ := h
 refine ⟨g1, g2, ?_, h1, g5, g6, g7⟩
 unfold Zgr at *
 have : decide (r.Kind = 1) = true := decide_eq_true hk
 simp only [this, Bool.true_or, Bool.true_and] at *
 exact g3
theorem Zwp {r : Zd} {x : Nat} (h : Zcc r) (hk : 5 ≤ r.Kind ∧ r.Kind ≤ 7) (h1 : x = Zbz x) : Zcc { r with Real := x } := by
 obtain ⟨g1, g2, g3, g4, g5, g6, g7⟩ := h
 refine ⟨g1, g2, ?_, g4, g5, h1, g7⟩
 unfold Zgr at *
 have : decide (5 ≤ r.Kind ∧ r.Kind ≤ 7) = true := decide_eq_true hk
 simp only [this, Bool.true_or] at *
 exact g3
variable {r r' : Zd} {a : Zm} {o : Zh}
theorem Zmz {ψ : Nat → Nat → Option Nat} (hg : Zcc r) (hk : 5 ≤ r.Kind ∧ r.Kind ≤ 7) (hψ : ∀ m, ψ r.Real a.X = some m → m = Zbz m) (e : Z3 a.Kind r a default = Zcu ψ r a default) (h1 : Z3 a.Kind r a default = some (0, r', o)) : Zcc r' := by
 rw [e] at h1
 unfold Zcu at h1
 obtain ⟨m, m1, m2⟩ := Option.bind_eq_some_iff.1 h1
 simp only [Option.some.injEq, Prod.mk.injEq] at m2
 obtain ⟨_, rfl, _⟩ := m2
 exact Zwp hg hk (hψ m m1)
theorem Z10 (h : a.Kind = 18) (hr : RecW r) (hg : Zcc r) (hk : r.Kind = 8) (ha : ActW a) (h1 : Z3 a.Kind r a default = some (0, r', o)) : Zcc r' := by
 have e : Z3 a.Kind r a default = Zif r a default := by rw [h]; rfl
 obtain ⟨c1, c2, c3, c4, c5, _⟩ := Zxa hg (by omega)
 have hs := c5 hk
 have hl := hr.len
 have hple := Znm (fun e => sLt e.Name a.S) r.List
 rw [e] at h1
 unfold Zif at h1
 rw [Znj hs (by omega), Zo6 (by omega)] at h1
 simp only [Option.bind_some] at h1
 by_cases hat : isAt a.S r.List = true
 · rw [if_pos hat] at h1
   simp only [Option.some.injEq, Prod.mk.injEq, true_and] at h1
   rw [← h1.1]; exact hg
 · rw [if_neg hat] at h1
   by_cases hc : decide (r.Cap ≤ (r.List.length : Int)) = true
   · rw [if_pos hc] at h1; cases h1
   · rw [if_neg hc] at h1
     have hc' : ¬ r.Cap ≤ (r.List.length : Int) := by simpa using hc
     unfold Zb7 at h1
     rw [if_pos ⟨by omega, by omega, by simp, by simp; omega⟩] at h1
     simp only [Option.bind_some, Option.some.injEq, Prod.mk.injEq, true_and, Int.toNat_natCast] at h1
     obtain ⟨rfl, _⟩ := h1
     have hbehind : ∀ y ∈ r.List.drop (pre (fun e => sLt e.Name a.S) r.List), sLt a.S y.Name = true := fun y hy => by
       obtain ⟨k, hk, rfl⟩ := List.getElem_of_mem hy
       rw [List.length_drop] at hk
       rw [List.getElem_drop]
       have hm := Zs4 (s := a.S) hs (k := pre (fun e => sLt e.Name a.S) r.List + k) (by omega)
       rw [show decide (pre (fun e => sLt e.Name a.S) r.List + k < pre (fun e => sLt e.Name a.S) r.List) = false by simp] at hm
       refine Zkw hm fun hn => ?_
       have hany := Zpn (s := a.S) hs
       rw [show isAt a.S r.List = false by simpa using hat, List.any_eq_false] at hany
       exact hany _ (List.getElem_mem _) (Zda.2 hn)
     refine Zm6 hg (by omega) (by simp; omega) (fun e he => ?_) (fun _ => ?_) (fun h => by omega)
     · simp only [List.mem_append, List.mem_singleton] at he
       rcases he with (he | rfl) | he
       · exact c4 e (List.mem_of_mem_take he)
       · exact ⟨ha.s16 (by omega), fun _ => rfl, by kernel_rfl⟩
       · exact c4 e (List.mem_of_mem_drop he)
     · unfold NS at *
       rw [List.append_assoc, List.pairwise_append]
       refine ⟨hs.sublist (List.take_sublist _ _), ?_, fun x hx y hy => ?_⟩
       · rw [List.singleton_append, List.pairwise_cons]
         exact ⟨hbehind, hs.sublist (List.drop_sublist _ _)⟩
       · have hxa : sLt x.Name a.S = true := Zx4 (f := fun e => sLt e.Name a.S) x hx
         rcases List.mem_append.1 hy with hy | hy
         · rw [List.mem_singleton.1 hy]; exact hxa
         · exact Ze0 hxa (hbehind y hy)
theorem Z1d (h : a.Kind = 19) (hr : RecW r) (hg : Zcc r) (hk : r.Kind = 8) (h1 : Z3 a.Kind r a default = some (0, r', o)) : Zcc r' := by
 obtain ⟨c1, c2, c3, c4, c5, _⟩ := Zxa hg (by omega)
 have hl := hr.len
 obtain ⟨c, x, y, d1, d2, _⟩ := Zv1 h hr hg hk
 rw [h1] at d1
 simp only [Option.some.injEq, Prod.mk.injEq] at d1
 obtain ⟨rfl, rfl, rfl⟩ := d1
 have e2 : Z9 r a = (Zd4 r a (Int.toNat ((r.List.length : Int) - (0 : Int)) + 1) ([] : List Zi) (0 : Int)).bind fun z57 => match z57 with | y56 => (Zu ({ r with List := y56 }) (ans 0)) := by unfold Z9 Zbx; rw [h]; rfl
 have hf := Zmt (a := a) (a0 := r) (by omega) r.List.length 0 [] (by omega) (by simp)
 rw [show ((0 : Nat) : Int) = 0 from rfl] at hf
 rw [e2, show (Int.toNat ((r.List.length : Int) - (0 : Int)) + 1) = r.List.length + 1 by omega, hf, List.drop_zero, List.nil_append] at d2
 simp only [Option.bind_some, Zu, if_true, Option.some.injEq, Prod.mk.injEq] at d2
 obtain ⟨rfl, _⟩ := d2
 have hle := List.length_filter_le (fun e : Zi => !sEq e.Name a.S) r.List
 exact Zm6 hg (by omega) (by omega) (fun e he => c4 e (List.mem_filter.1 he).1) (fun _ => List.Pairwise.sublist List.filter_sublist (c5 hk)) (fun h => by omega)
theorem Z1a (h : a.Kind = 21) (hr : RecW r) (hg : Zcc r) (hk : r.Kind = 9) (ha : ActW a) (h1 : Z3 a.Kind r a default = some (0, r', o)) : Zcc r' := by
 have e : Z3 a.Kind r a default = Zhr r a default := by rw [h]; rfl
 obtain ⟨c1, c2, c3, c4, _, c6⟩ := Zxa hg (by omega)
 have hs := c6 hk
 have hl := hr.len
 have hple := Znm (Zc4 { Score := a.X, Name := a.S } false) r.List
 rw [e] at h1
 unfold Zhr at h1
 rw [Zvt ha.ok.2 hr.ok.sc (by omega), Zo6 (by omega)] at h1
 simp only [Option.bind_some] at h1
 obtain ⟨e9, g9, h1⟩ := Option.bind_eq_some_iff.1 h1
 obtain ⟨r11, g11, h1⟩ := Option.bind_eq_some_iff.1 h1
 split at h1
 · simp only [Option.some.injEq, Prod.mk.injEq, true_and] at h1
   rw [← h1.1]; exact hg
 · rename_i hcond
   unfold Zb7 at h1
   rw [if_pos ⟨by omega, by omega, by simp, by simp; omega⟩] at h1
   simp only [Option.bind_some] at h1
   rw [Zxy c1 c2] at h1
   simp only [Option.bind_some, Option.some.injEq, Prod.mk.injEq, true_and, Int.toNat_natCast] at h1
   obtain ⟨rfl, _⟩ := h1
   have hbehind : ∀ y ∈ r.List.drop (pre (Zc4 { Score := a.X, Name := a.S } false) r.List), Zca { Score := a.X, Name := a.S } y = true := fun y hy => by
     have hp : pre (Zc4 { Score := a.X, Name := a.S } false) r.List < r.List.length := by
       have := List.length_pos_of_mem hy
       rw [List.length_drop] at this; omega
     have hd : decide (((pre (Zc4 { Score := a.X, Name := a.S } false) r.List : Nat) : Int) < (r.List.length : Int)) = true := by simpa using hp
     rw [hd, Zc6 hp] at g9
     simp only [gd_t, Option.some.injEq] at g9
     subst g9
     rw [hd] at g11 hcond
     simp only [gd_t] at g11
     rw [Zob ha.ok.2 (hr.ok.sc _ (List.getElem_mem hp))] at g11
     have hb : Zca { Score := a.X, Name := a.S } r.List[pre (Zc4 { Score := a.X, Name := a.S } false) r.List] = true := by
       have := Option.some.inj g11
       rw [← this] at hcond
       simpa using hcond
     rw [List.drop_eq_getElem_cons hp] at hy
     rcases List.mem_cons.1 hy with rfl | hy
     · exact hb
     · refine Zkc hb ?_
       have hpw : (r.List.drop (pre (Zc4 { Score := a.X, Name := a.S } false) r.List)).Pairwise fun p q => Zca p q = true := List.Pairwise.sublist (List.drop_sublist _ _) hs
       rw [List.drop_eq_getElem_cons hp, List.pairwise_cons] at hpw
       exact hpw.1 y hy
   refine Zm6 hg (by omega) (by rw [List.length_take]; omega) (fun e he => ?_) (fun h => by omega) (fun _ => ?_)
   · have he := List.mem_of_mem_take he
     simp only [List.mem_append, List.mem_singleton] at he
     rcases he with (he | rfl) | he
     · exact c4 e (List.mem_of_mem_take he)
     · exact ⟨ha.s16 (by omega), fun h => by omega, ha.xc⟩
     · exact c4 e (List.mem_of_mem_drop he)
   · refine List.Pairwise.sublist (List.take_sublist _ _) ?_
     rw [List.append_assoc, List.pairwise_append]
     refine ⟨List.Pairwise.sublist (List.take_sublist _ _) hs, ?_, fun x hx y hy => ?_⟩
     · rw [List.singleton_append, List.pairwise_cons]
       exact ⟨hbehind, List.Pairwise.sublist (List.drop_sublist _ _) hs⟩
     · have hxa : Zca x { Score := a.X, Name := a.S } = true := Zx4 (f := Zc4 { Score := a.X, Name := a.S } false) x hx
       rcases List.mem_append.1 hy with hy | hy
       · rw [List.mem_singleton.1 hy]; exact hxa
       · exact Zkc hxa (hbehind y hy)
theorem Zhm {k on : Int} {c : Int} (h : Zfq k = some on) (e : Zfq k = some c) : on = c := Option.some.inj (h.symm.trans e)
theorem Zpv (h5 : 5 ≤ a.Kind) (h21 : a.Kind ≤ 21) (hon : Zfq a.Kind = some r.Kind) (hr : RecW r) (hg : Zcc r) (ha : ActW a) (h1 : Z3 a.Kind r a default = some (0, r', o)) : Zcc r' := by
 have real : ∀ {m : Nat}, m = r.Real ∨ m = a.X → m = Zbz m := fun {m} h => by
   rcases h with rfl | rfl
   · exact Zm4 hg
   · exact ha.xc
 have hk' : a.Kind = 5 ∨ a.Kind = 6 ∨ a.Kind = 7 ∨ a.Kind = 8 ∨ a.Kind = 9 ∨ a.Kind = 10 ∨ a.Kind = 11 ∨ a.Kind = 12 ∨ a.Kind = 13 ∨ a.Kind = 14 ∨ a.Kind = 15 ∨ a.Kind = 16 ∨ a.Kind = 17 ∨ a.Kind = 18 ∨ a.Kind = 19 ∨ a.Kind = 20 ∨ a.Kind = 21 := by omega
 rcases hk' with h | h | h | h | h | h | h | h | h | h | h | h | h | h | h | h | h
 · have e : Z3 a.Kind r a default = Zgn r a default := by rw [h]; rfl
   rw [e] at h1
   simp only [Zgn, Option.some.injEq, Prod.mk.injEq, true_and] at h1
   rw [← h1.1]
   exact Zp2 hg (Zhm hon (by rw [h]; kernel_rfl)) ha.s64
 · have e : Z3 a.Kind r a default = Ze4 r a default := by rw [h]; rfl
   rw [e] at h1
   simp only [Ze4, Zia hr.len, Option.bind_some, Option.some.injEq, Prod.mk.injEq, true_and] at h1
   rw [← h1.1]
   exact Zp2 hg (Zhm hon (by rw [h]; kernel_rfl)) ha.s64
 · have e : Z3 a.Kind r a default = Zgq r a default := by rw [h]; rfl
   rw [e] at h1
   simp only [Zgq, Option.some.injEq, Prod.mk.injEq, true_and] at h1
   rw [← h1.1]
   have hk : r.Kind = 2 := Zhm hon (by rw [h]; kernel_rfl)
   exact Zpm hg (by omega) (fun h => by omega)
 · have e : Z3 a.Kind r a default = Zi7 r a default := by rw [h]; rfl
   rw [e] at h1
   unfold Zi7 at h1
   split at h1
   · cases h1
   · simp only [Option.some.injEq, Prod.mk.injEq, true_and] at h1
     rw [← h1.1]
     have hk : r.Kind = 3 := Zhm hon (by rw [h]; kernel_rfl)
     exact Zpm hg (by omega) (fun h => by omega)
 · have e : Z3 a.Kind r a default = Zde r a default := by rw [h]; rfl
   rw [e] at h1
   unfold Zde at h1
   split at h1
   · cases h1
   · simp only [Option.some.injEq, Prod.mk.injEq, true_and] at h1
     rw [← h1.1]; exact hg
 · have e : Z3 a.Kind r a default = Zfr r a default := by rw [h]; rfl
   have hk : r.Kind = 4 := Zhm hon (by rw [h]; kernel_rfl)
   obtain ⟨p1, p2, p3, p4⟩ := Zrs hg hk
   obtain ⟨q1, q2⟩ := ha.inout (.inl h)
   rw [e] at h1
   unfold Zfr at h1
   rw [wr (x := r.High - r.Num) (by omega) (by omega), wr (x := r.Num + a.N) (by omega) (by omega)] at h1
   split at h1
   · cases h1
   · rename_i hcond
     have hcond' : ¬ (r.High - r.Num < a.N) := by simpa using hcond
     simp only [Option.some.injEq, Prod.mk.injEq, true_and] at h1
     rw [← h1.1]
     exact Zpm hg (by omega) (fun _ => by omega)
 · have e : Z3 a.Kind r a default = Zfp r a default := by rw [h]; rfl
   have hk : r.Kind = 4 := Zhm hon (by rw [h]; kernel_rfl)
   obtain ⟨p1, p2, p3, p4⟩ := Zrs hg hk
   obtain ⟨q1, q2⟩ := ha.inout (.inr h)
   rw [e] at h1
   unfold Zfp at h1
   rw [wr (x := r.Num - r.Low) (by omega) (by omega), wr (x := r.Num - a.N) (by omega) (by omega)] at h1
   split at h1
   · cases h1
   · rename_i hcond
     have hcond' : ¬ (r.Num - r.Low < a.N) := by simpa using hcond
     simp only [Option.some.injEq, Prod.mk.injEq, true_and] at h1
     rw [← h1.1]
     exact Zpm hg (by omega) (fun _ => by omega)
 · have e : Z3 a.Kind r a default = Zde r a default := by rw [h]; rfl
   rw [e] at h1
   unfold Zde at h1
   split at h1
   · cases h1
   · simp only [Option.some.injEq, Prod.mk.injEq, true_and] at h1
     rw [← h1.1]; exact hg
 · have hk : r.Kind = 5 := Zhm hon (by rw [h]; kernel_rfl)
   refine Zmz (ψ := fun x y => Zju x y) hg (by omega) (fun m hm => ?_) (by rw [h]; rfl) h1
   obtain ⟨m', e1, _, e2⟩ := Zyz hr.ok.real ha.ok.2 (Zm4 hg) ha.xc
   have : m = m' := Option.some.inj (hm.symm.trans e1)
   exact real (this ▸ e2)
 · have hk : r.Kind = 6 := Zhm hon (by rw [h]; kernel_rfl)
   refine Zmz (ψ := fun x y => Zjv x y) hg (by omega) (fun m hm => ?_) (by rw [h]; rfl) h1
   obtain ⟨m', e1, _, e2⟩ := Zxb hr.ok.real ha.ok.2 (Zm4 hg) ha.xc
   have : m = m' := Option.some.inj (hm.symm.trans e1)
   exact real (this ▸ e2)
 · have hk : r.Kind = 7 := Zhm hon (by rw [h]; kernel_rfl)
   refine Zmz (ψ := fun x y => Zhg x y) hg (by omega) (fun m hm => ?_) (by rw [h]; rfl) h1
   have hz := Z0g r.Real a.X
   have : Zhg r.Real a.X = some (Zbz (fadd r.Real a.X)) := by unfold Zhg; rw [Ziu hz]; rfl
   have : m = Zbz (fadd r.Real a.X) := Option.some.inj (hm.symm.trans this)
   rw [this, Zsg]
 · have hk : r.Kind = 7 := Zhm hon (by rw [h]; kernel_rfl)
   refine Zmz (ψ := fun x y => Zgc x y) hg (by omega) (fun m hm => ?_) (by rw [h]; rfl) h1
   have hz := Zz4 r.Real a.X
   have : Zgc r.Real a.X = some (Zbz (fmul r.Real a.X)) := by unfold Zgc; rw [Ziu hz]; rfl
   have : m = Zbz (fmul r.Real a.X) := Option.some.inj (hm.symm.trans this)
   rw [this, Zsg]
 · have hk : r.Kind = 7 := Zhm hon (by rw [h]; kernel_rfl)
   refine Zmz (ψ := fun x y => Zfj x y) hg (by omega) (fun m hm => ?_) (by rw [h]; rfl) h1
   exact real (.inr (Option.some.inj hm).symm)
 · exact Z10 h hr hg (Zhm hon (by rw [h]; kernel_rfl)) ha h1
 · exact Z1d h hr hg (Zhm hon (by rw [h]; kernel_rfl)) h1
 · have hk : r.Kind = 8 := Zhm hon (by rw [h]; kernel_rfl)
   have e : Z3 a.Kind r a default = Zd9 r a default := by rw [h]; rfl
   have hl := hr.len
   rw [e] at h1
   unfold Zd9 at h1
   rw [Znj (Zko hg hk) (by omega)] at h1
   simp only [Option.bind_some] at h1
   split at h1
   · cases h1
   · simp only [Option.some.injEq, Prod.mk.injEq, true_and] at h1
     rw [← h1.1]; exact hg
 · exact Z1a h hr hg (Zhm hon (by rw [h]; kernel_rfl)) ha h1
theorem Zt0 (hk : a.Kind = 9 ∨ a.Kind = 12 ∨ a.Kind = 20) (hr : RecW r) (hg : Zcc r) (hon : Zfq a.Kind = some r.Kind) (h1 : Z3 a.Kind r a default = some (0, r', o)) : r' = r := by
 rcases hk with h | h | h
 · have e : Z3 a.Kind r a default = Zde r a default := by rw [h]; rfl
   rw [e] at h1
   unfold Zde at h1
   split at h1
   · cases h1
   · simp only [Option.some.injEq, Prod.mk.injEq, true_and] at h1
     exact h1.1.symm
 · have e : Z3 a.Kind r a default = Zde r a default := by rw [h]; rfl
   rw [e] at h1
   unfold Zde at h1
   split at h1
   · cases h1
   · simp only [Option.some.injEq, Prod.mk.injEq, true_and] at h1
     exact h1.1.symm
 · have hk : r.Kind = 8 := Zhm hon (by rw [h]; kernel_rfl)
   have e : Z3 a.Kind r a default = Zd9 r a default := by rw [h]; rfl
   have hl := hr.len
   rw [e] at h1
   unfold Zd9 at h1
   rw [Znj (Zko hg hk) (by omega)] at h1
   simp only [Option.bind_some] at h1
   split at h1
   · cases h1
   · simp only [Option.some.injEq, Prod.mk.injEq, true_and] at h1
     exact h1.1.symm
structure Z62 (t : Bool) (r : Zd) : Prop where
 w : RecW r
 good : t = true → Zcc r
 zero : t = false → r = zrc
def Zir (k : Int) : Bool := (((((k == (3 : Int)) || (k == (4 : Int))) || (k == (9 : Int))) || (k == (12 : Int))) || (k == (20 : Int)))
theorem Znv {r : Zd} {a : Zm} (hr : RecW r) (hg : Zcc r) (ha : ActIn a) : ∃ c, Ze9 a = some c ∧ (c ≠ 0 → Zcn r true a = some (r, true, ans c)) ∧
   (c = 0 → 1 ≤ a.Kind ∧ a.Kind ≤ 21 ∧ ActW a ∧ ∃ on, Zfq a.Kind = some on ∧ (a.Kind = 1 → Zcn r true a = some (r, true, ans 7)) ∧ (a.Kind = 2 → Zcn r true a = some (zrc, false, ans 0)) ∧
     (a.Kind = 3 → Zcn r true a = some (r, true, { ans 0 with Num := r.Kind })) ∧ (a.Kind = 4 → Zcn r true a = some (r, true, { ans 0 with Rec := r })) ∧ (5 ≤ a.Kind → on ≠ r.Kind → Zcn r true a = some (r, true, ans 5)) ∧
     (5 ≤ a.Kind → on = r.Kind → ∃ c r' o, Z3 a.Kind r a default = some (c, r', o) ∧ RecW r' ∧ RecW o.Rec ∧ (c = 0 → o.Code = 0 ∧ o.Num = 0) ∧ Zcn r true a = some (if c = 0 then (r', true, o) else (r, true, ans c)))) := by
 obtain ⟨c, h1, _, h3⟩ := Zn8 ha.ok
 have z1 : ((0 : Int) != 0) = false := rfl
 refine ⟨c, h1, fun hc => ?_, fun hc => ?_⟩
 · show Ze1 true a r = _
   unfold Ze1
   rw [Zia hr.len, h1]
   simp only [Option.bind_some]
   rw [if_pos (by simpa using hc)]
   rfl
 · subst hc
   have hf := h3 rfl
   have hw := ha.w (c := 0) hf
   obtain ⟨on, o1, _⟩ := Zni hf.1 hf.2.1
   have e1 : Zcn r true a = Zge true a r := by
     show Ze1 true a r = _
     unfold Ze1
     rw [Zia hr.len, h1]
     simp only [Option.bind_some, z1, Bool.false_eq_true, if_false, if_true]
     rw [(Zkq hr.ok).2 hg]
     simp only [Option.bind_some, z1, Bool.false_eq_true, if_false]
   refine ⟨hf.1, hf.2.1, hw, on, o1, ?_⟩
   rw [e1]
   unfold Zge Zf3
   rw [o1, Zia hr.len, Zia ha.mkr.len]
   simp only [Option.bind_some]
   refine ⟨fun k => by rw [k]; rfl, fun k => by rw [k]; rfl, fun k => by rw [k]; rfl, fun k => by rw [k]; rfl, fun k hn => ?_, fun k hn => ?_⟩
   all_goals
     have b1 : (a.Kind == 1) = false := by simp; omega
     have b2 : (a.Kind == 2) = false := by simp; omega
     have b3 : (a.Kind == 3) = false := by simp; omega
     have b4 : (a.Kind == 4) = false := by simp; omega
     simp only [b1, b2, b3, b4, Bool.false_and, Bool.false_eq_true, if_false, Bool.not_true]
   · rw [if_pos (by simpa using hn)]
   · rw [if_neg (by simpa using hn), if_pos ⟨k, hf.2.1⟩]
     obtain ⟨c, r', o, e1, _, w1, w2, w3⟩ := Zun k hf.2.1 hr hg (by rw [← hn]; exact o1) hw
     rw [e1]
     refine ⟨c, r', o, rfl, w1, w2, w3, ?_⟩
     simp only [Option.bind_some]
     by_cases hc : c = 0
     · subst hc; rfl
     · rw [if_pos (by simpa using hc), if_neg hc]
def eff (r : Zd) (a : Zm) : Zd :=
 if a.Kind = 7 ∨ a.Kind = 8 ∨ a.Kind = 10 then { r with Num := IntKind.i64.wrap (r.Num + a.N) }
 else if a.Kind = 11 then { r with Num := IntKind.i64.wrap (r.Num - a.N) }
 else if a.Kind = 13 then { r with Real := if keyf r.Real < keyf a.X then a.X else r.Real }
 else if a.Kind = 14 then { r with Real := if keyf a.X < keyf r.Real then a.X else r.Real }
 else if a.Kind = 18 then { r with List := layL { Score := 0, Name := a.S } true r.List }
 else if a.Kind = 19 then { r with List := r.List.filter fun e => !sEq e.Name a.S }
 else if a.Kind = 21 then { r with List := (layL { Score := a.X, Name := a.S } false r.List).take r.Cap.toNat }
 else r
def Zk9 (k : Int) : Prop := k = 7 ∨ k = 8 ∨ k = 10 ∨ k = 11 ∨ k = 13 ∨ k = 14 ∨ k = 18 ∨ k = 19 ∨ k = 21
structure Fits (r : Zd) (a : Zm) : Prop where
 plus : a.Kind = 8 → -9223372036854775808 ≤ r.Num + a.N ∧ r.Num + a.N ≤ 9223372036854775807
 inn : a.Kind = 10 → r.Num + a.N ≤ r.High
 out : a.Kind = 11 → r.Low ≤ r.Num - a.N
 join : a.Kind = 18 → isAt a.S r.List = true ∨ (r.List.length : Int) < r.Cap
theorem Zyu (r : Zd) (a : Zm) : (eff r a).Kind = r.Kind ∧ (eff r a).Cap = r.Cap ∧ (eff r a).Low = r.Low ∧ (eff r a).High = r.High ∧ (eff r a).Text = r.Text := by
 unfold eff
 repeat' split
 all_goals exact ⟨rfl, rfl, rfl, rfl, rfl⟩
theorem Z6q {a b : Nat} (ha : a < W64) (hb : b < W64) : Zip a b = some (if keyf a < keyf b then b else a) := by
 unfold Zip
 rw [Zld ha hb]
 by_cases h : keyf a < keyf b <;> simp [h]
theorem Z7l {a b : Nat} (ha : a < W64) (hb : b < W64) : Zib a b = some (if keyf b < keyf a then b else a) := by
 unfold Zib
 rw [Zld hb ha]
 by_cases h : keyf b < keyf a <;> simp [h]
theorem Z8w {r : Zd} {a : Zm} (hr : RecW r) (hg : Zcc r) (ha : ActW a) (hk : Zk9 a.Kind) (hon : Zfq a.Kind = some r.Kind) (hf : Fits r a) : Z9 r a = some (eff r a, ans 0) := by
 have hlen := hr.len
 obtain ⟨on, o1, _, _, _, k10, k18, k21, _⟩ := Zni (k := a.Kind) (by unfold Zk9 at hk; omega) (by unfold Zk9 at hk; omega)
 rw [hon] at o1
 obtain rfl := Option.some.inj o1
 rcases hk with h | h | h | h | h | h | h | h | h
 · unfold Z9 eff; rw [h]; rfl
 · have e2 : Z9 r a = (Zh2 r.Num a.N).bind fun r7 => (if r7 then (Zu r (ans 9)) else (Zu { r with Num := IntKind.i64.wrap (r.Num + a.N) } (ans 0))) := by unfold Z9; rw [h]; rfl
   obtain ⟨f1, f2⟩ := hf.plus h
   have hn := ha.n
   have hrn := hr.num
   unfold I64 at hn hrn
   have ho : ((((decide ((0 : Int) < r.Num)) && (decide ((0 : Int) < a.N))) && (decide ((IntKind.i64.wrap (r.Num + a.N)) < (0 : Int)))) || (((decide (r.Num < (0 : Int))) && (decide (a.N < (0 : Int)))) && (decide ((0 : Int) ≤ (IntKind.i64.wrap (r.Num + a.N)))))) = false := by
     rw [wr f1 f2, Bool.eq_false_iff]
     simp only [ne_eq, Bool.or_eq_true, Bool.and_eq_true, decide_eq_true_eq]
     omega
   rw [e2]
   unfold Zh2
   rw [ho]
   unfold eff Zu
   rw [h]; rfl
 · have e2 : Z9 r a = (if (decide (r.High < IntKind.i64.wrap (r.Num + a.N))) then (Zu r (ans 9)) else (Zu { r with Num := IntKind.i64.wrap (r.Num + a.N) } (ans 0))) := by unfold Z9 Zbx; rw [h]; rfl
   obtain ⟨p1, p2, p3, p4⟩ := Zrs hg (k10 (.inl h))
   obtain ⟨n1, n2⟩ := ha.inout (.inl h)
   have f := hf.inn h
   rw [e2, if_neg (by rw [wr (by omega) (by omega)]; simp; omega)]
   unfold eff Zu
   rw [h]; rfl
 · have e2 : Z9 r a = (if (decide (IntKind.i64.wrap (r.Num - a.N) < r.Low)) then (Zu r (ans 10)) else (Zu { r with Num := IntKind.i64.wrap (r.Num - a.N) } (ans 0))) := by unfold Z9 Zbx; rw [h]; rfl
   obtain ⟨p1, p2, p3, p4⟩ := Zrs hg (k10 (.inr h))
   obtain ⟨n1, n2⟩ := ha.inout (.inr h)
   have f := hf.out h
   rw [e2, if_neg (by rw [wr (by omega) (by omega)]; simp; omega)]
   unfold eff Zu
   rw [h]; rfl
 · unfold Z9 Zbx eff; rw [h, Z6q hr.ok.real ha.ok.2]; rfl
 · unfold Z9 Zbx eff; rw [h, Z7l hr.ok.real ha.ok.2]; rfl
 · have e2 : Z9 r a = (Zfv r.List a.S).bind fun r40 => (if ((!r40) && (decide (r.Cap ≤ (r.List.length : Int)))) then (Zu r (ans 8)) else ((Zew r.List ({ Score := (0 : Nat), Name := a.S } : Zi) true).bind fun r43 => (Zu ({ r with List := r43 }) (ans 0)))) := by unfold Z9 Zbx; rw [h]; rfl
   have hs := Zko hg (k18 (.inl h))
   have hff : ((!isAt a.S r.List) && (decide (r.Cap ≤ (r.List.length : Int)))) = false := by
     rcases hf.join h with f | f
     · rw [f]; rfl
     · rw [show decide (r.Cap ≤ (r.List.length : Int)) = false by simp; omega, Bool.and_false]
   rw [e2, Zxp (by omega), Zpn hs, Zrt (show (0 : Nat) < W64 by decide) hr.ok.sc (by omega)]
   simp only [Option.bind_some]
   rw [hff]
   unfold eff Zu
   rw [h]; rfl
 · have e2 : Z9 r a = (Zd4 r a (Int.toNat ((r.List.length : Int) - (0 : Int)) + 1) ([] : List Zi) (0 : Int)).bind fun z57 => match z57 with | y56 => (Zu ({ r with List := y56 }) (ans 0)) := by unfold Z9 Zbx; rw [h]; rfl
   have hq := Zmt (a := a) (a0 := r) (by omega) r.List.length 0 [] (by omega) (by simp)
   rw [show ((0 : Nat) : Int) = 0 from rfl] at hq
   rw [e2, show (Int.toNat ((r.List.length : Int) - (0 : Int)) + 1) = r.List.length + 1 by omega, hq, List.drop_zero, List.nil_append]
   unfold eff Zu
   rw [h]; rfl
 · have e2 : Z9 r a = (Zew r.List ({ Score := a.X, Name := a.S } : Zi) false).bind fun r63 => (if (decide (r.Cap < (r63.length : Int))) then ((cut r63 (0 : Int) r.Cap).bind fun c66 => (Zdm r c66)) else (Zdm r r63)) := by unfold Z9 Zbx; rw [h]; rfl
   obtain ⟨c1, c2, c3⟩ := Zqi hg (by omega)
   rw [e2, Zrt ha.ok.2 hr.ok.sc (by omega)]
   simp only [Option.bind_some]
   have he : eff r a = { r with List := (layL { Score := a.X, Name := a.S } false r.List).take r.Cap.toNat } := by unfold eff; rw [h]; rfl
   rw [he]
   by_cases hc : r.Cap < ((layL { Score := a.X, Name := a.S } false r.List).length : Int)
   · rw [if_pos (by simpa using hc)]
     unfold cut
     rw [if_pos (by omega)]
     simp only [Option.bind_some, Zdm, Zu, Int.toNat_zero, List.drop_zero, Nat.sub_zero]
   · rw [if_neg (by simpa using hc), List.take_of_length_le (by omega)]
     rfl
theorem Z0z {r : Zd} {a : Zm} (hr : RecW r) (hg : Zcc r) (ha : ActW a) (hk : Zk9 a.Kind) (hon : Zfq a.Kind = some r.Kind) (hf : Fits r a) : Z3 a.Kind r a default = some (0, eff r a, ans 0) ∧ RecW (eff r a) ∧ Zcc (eff r a) := by
 obtain ⟨c, r', o, e1, e2, w1, _⟩ := Zun (by unfold Zk9 at hk; omega) (by unfold Zk9 at hk; omega) hr hg hon ha
 rw [Z8w hr hg ha hk hon hf] at e2
 by_cases hc : c = 0
 · subst hc
   rw [if_pos rfl] at e2
   simp only [Option.some.injEq, Prod.mk.injEq] at e2
   obtain ⟨rfl, rfl⟩ := e2
   exact ⟨e1, w1, Zpv (by unfold Zk9 at hk; omega) (by unfold Zk9 at hk; omega) hon hr hg ha e1⟩
 · rw [if_neg hc] at e2
   simp only [Option.some.injEq, Prod.mk.injEq, Zh.mk.injEq] at e2
   exact absurd e2.2.1.symm hc
theorem Zof {r : Zd} {a : Zm} (hr : RecW r) (hg : Zcc r) (ha : ActIn a) (h0 : Ze9 a = some 0) (hk : Zk9 a.Kind) (hon : Zfq a.Kind = some r.Kind) (hf : Fits r a) : Zcn r true a = some (eff r a, true, ans 0) ∧ RecW (eff r a) ∧ Zcc (eff r a) := by
 have h5 : 5 ≤ a.Kind := by unfold Zk9 at hk; omega
 obtain ⟨c, h1, _, h3⟩ := Znv hr hg ha
 rw [h0] at h1
 obtain rfl := Option.some.inj h1
 obtain ⟨_, _, hw, on, o1, _, _, _, _, _, h4⟩ := h3 rfl
 rw [hon] at o1
 obtain ⟨c, r', o, e1, _, _, _, e2⟩ := h4 h5 (Option.some.inj o1).symm
 obtain ⟨e3, w, g⟩ := Z0z hr hg hw hk hon hf
 rw [e3] at e1
 simp only [Option.some.injEq, Prod.mk.injEq] at e1
 obtain ⟨rfl, rfl, rfl⟩ := e1
 exact ⟨by rw [e2]; rfl, w, g⟩
def ins (lt same : Zi → Zi → Bool) (x : Zi) : Zcs → Zcs
 | [] => [x]
 | e :: r => if lt e x then e :: ins lt same x r else if same e x then e :: r else x :: e :: r
theorem Zkl (x : Zi) (nm : Bool) : ∀ l : Zcs, layL x nm l = ins (fun e x => Zc4 x nm e) (fun e x => Zfy x nm e) x l
 | [] => rfl
 | e :: r => by
   have ih := Zkl x nm r
   unfold layL at ih ⊢
   simp only [pre, ins]
   by_cases h : Zc4 x nm e = true
   · simp only [h, if_true, List.getElem?_cons_succ, List.take_succ_cons, List.drop_succ_cons]
     rw [← ih]
     cases r[pre (Zc4 x nm) r]? <;> rfl
   · simp only [h, if_false, List.getElem?_cons_zero, List.take_zero, List.drop_zero, List.nil_append, Bool.false_eq_true]
     by_cases hs : Zfy x nm e = true
     · simp [hs]
     · simp [hs]
structure Ord (lt same : Zi → Zi → Bool) : Prop where
 trans : ∀ {a b c}, lt a b = true → lt b c = true → lt a c = true
 asym : ∀ {a b}, lt a b = true → lt b a = false
 ns : ∀ {a b}, lt a b = true → same a b = false ∧ same b a = false
 tri : ∀ {a b}, lt a b = false → lt b a = false → same a b = true
 cong : ∀ {a b c}, same a b = true → lt b c = true → lt a c = true
theorem Zyn {lt same : Zi → Zi → Bool} (h : Ord lt same) {x y : Zi} (hxy : lt x y = true) : ∀ l : Zcs, ins lt same x (ins lt same y l) = ins lt same y (ins lt same x l)
 | [] => by simp [ins, hxy, h.asym hxy, (h.ns hxy).2]
 | e :: r => by
   have ih := Zyn h hxy r
   by_cases h1 : lt e x = true
   · have h2 := h.trans h1 hxy
     simp only [ins, h1, h2, if_true, ih]
   · have h1' : lt e x = false := by simpa using h1
     by_cases h2 : same e x = true
     · have h3 := h.cong h2 hxy
       simp only [ins, h1', h2, h3, if_true, Bool.false_eq_true, if_false]
     · have h2' : same e x = false := by simpa using h2
       have h3 : lt x e = true := by
         cases hq : lt x e
         · exact absurd (h.tri h1' hq) h2
         · rfl
       have hl : ins lt same x (e :: r) = x :: e :: r := by simp [ins, h1', h2']
       have hd : ∀ z s, lt x z = true → ins lt same x (z :: s) = x :: z :: s := fun z s hz => by simp [ins, h.asym hz, (h.ns hz).2]
       rw [hl]
       have hr : ins lt same y (x :: e :: r) = x :: ins lt same y (e :: r) := by simp [ins, hxy]
       rw [hr]
       by_cases h4 : lt e y = true
       · have : ins lt same y (e :: r) = e :: ins lt same y r := by simp [ins, h4]
         rw [this, hd _ _ h3]
       · have h4' : lt e y = false := by simpa using h4
         by_cases h5 : same e y = true
         · have : ins lt same y (e :: r) = e :: r := by simp [ins, h4', h5]
           rw [this, hd _ _ h3]
         · have : ins lt same y (e :: r) = y :: e :: r := by simp [ins, h4', h5]
           rw [this, hd _ _ hxy]
theorem Zx0 {lt same : Zi → Zi → Bool} (h : Ord lt same) {x y : Zi} (he : same x y = true → x = y) (l : Zcs) : ins lt same x (ins lt same y l) = ins lt same y (ins lt same x l) := by
 by_cases h1 : lt x y = true
 · exact Zyn h h1 l
 · by_cases h2 : lt y x = true
   · exact (Zyn h h2 l).symm
   · rw [he (h.tri (by simpa using h1) (by simpa using h2))]
theorem Zsv {lt same : Zi → Zi → Bool} (y : Zi) : ∀ (n : Nat) (l : Zcs), (ins lt same y (l.take n)).take n = (ins lt same y l).take n
 | 0, _ => by simp
 | n + 1, [] => by simp
 | n + 1, e :: r => by
   simp only [List.take_succ_cons, ins]
   split
   · simp only [List.take_succ_cons, Zsv y n r]
   · split
     · simp [List.take_take]
     · cases n with
       | zero => simp
       | succ m => simp [List.take_take]
theorem Zzc (a : Zi) : Zca a a = false := by unfold Zca; rw [if_pos rfl, Zf9]
theorem Z3e : Ord (fun e x => Zc4 x true e) (fun e x => Zfy x true e) where
 trans h k := Ze0 h k
 asym h := Zpg h
 ns {a b} h := by
   have h : sLt a.Name b.Name = true := h
   simp [Zfy, Zdq.2 (Zj7 h), Zdq.2 (fun e => Zj7 h e.symm)]
 tri {a b} h k := by
   have h : sLt a.Name b.Name = false := h
   have k : sLt b.Name a.Name = false := k
   have : a.Name = b.Name := Classical.byContradiction fun hn => by rw [Zkw h hn] at k; cases k
   simp [Zfy, this, Zdg]
 cong {a b c} h k := by
   have h : (sEq a.Name b.Name && (true || decide (keyf a.Score = keyf b.Score))) = true := h
   have h : sEq a.Name b.Name = true := by simpa using h
   have k : sLt b.Name c.Name = true := k
   show sLt a.Name c.Name = true
   rw [Zda.1 h]; exact k
theorem Zpa {a b : Zi} : Zfy b false a = true ↔ a.Name = b.Name ∧ keyf a.Score = keyf b.Score := by
 unfold Zfy
 rw [Bool.and_eq_true, Zda]
 simp
theorem Z5b : Ord (fun e x => Zc4 x false e) (fun e x => Zfy x false e) where
 trans h k := Zkc h k
 asym {a b} h := by
   have h : Zca a b = true := h
   show Zca b a = false
   cases hq : Zca b a
   · rfl
   · have := Zkc h hq
     rw [Zzc] at this; cases this
 ns {a b} h := by
   have h : Zca a b = true := h
   constructor
   · show Zfy b false a = false
     rw [Bool.eq_false_iff]
     intro hs
     obtain ⟨h1, h2⟩ := Zpa.1 hs
     unfold Zca at h
     rw [if_pos h2, h1, Zf9] at h; cases h
   · show Zfy a false b = false
     rw [Bool.eq_false_iff]
     intro hs
     obtain ⟨h1, h2⟩ := Zpa.1 hs
     unfold Zca at h
     rw [if_pos h2.symm, h1, Zf9] at h; cases h
 tri {a b} h k := by
   have h : Zca a b = false := h
   have k : Zca b a = false := k
   show Zfy b false a = true
   rw [← Zsh h, k]; rfl
 cong {a b c} h k := by
   obtain ⟨h1, h2⟩ := Zpa.1 h
   have k : Zca b c = true := k
   show Zca a c = true
   unfold Zca at k ⊢
   rw [h1, h2]; exact k
theorem Zsu {a b : Nat} (ha : a < W64) (hb : b < W64) (ca : a = Zbz a) (cb : b = Zbz b) (h : keyf a = keyf b) : a = b := by
 have hW : W64 = 18446744073709551616 := rfl
 have hT : TOP = 9223372036854775808 := rfl
 have hI : INF = 9218868437227405312 := rfl
 have hn : ∀ z, z < W64 → z = Zbz z → isn z → z = NANB := fun z _ hz h => by rw [hz]; unfold Zbz; rw [if_pos h]
 have key : ∀ z, z < W64 → ¬ isn z → keyf z ≠ 18444492273895866369 := fun z hz hzn => by
   have h2 : ¬ INF < z % TOP := hzn
   rw [hT] at h2
   unfold keyf
   rw [if_neg hzn]
   split <;> omega
 by_cases na : isn a
 · by_cases nb : isn b
   · rw [hn a ha ca na, hn b hb cb nb]
   · exact absurd (by rw [← h]; unfold keyf; rw [if_pos na]) (key b hb nb)
 · by_cases nb : isn b
   · exact absurd (by rw [h]; unfold keyf; rw [if_pos nb]) (key a ha na)
   · unfold keyf at h
     rw [if_neg na, if_neg nb] at h
     split at h <;> split at h <;> omega
theorem Zve (s t : ByteArray) (l : Zcs) : layL { Score := 0, Name := s } true (layL { Score := 0, Name := t } true l) = layL { Score := 0, Name := t } true (layL { Score := 0, Name := s } true l) := by
 rw [Zkl, Zkl, Zkl, Zkl]
 refine Zx0 Z3e (fun h => ?_) l
 have h : (sEq s t && (true || decide (keyf 0 = keyf 0))) = true := h
 have h : sEq s t = true := by simpa using h
 rw [Zda.1 h]
theorem Zwj {x y : Zi} (hx : x.Score < W64) (hy : y.Score < W64) (cx : x.Score = Zbz x.Score) (cy : y.Score = Zbz y.Score) (n : Nat) (l : Zcs) : (layL x false ((layL y false l).take n)).take n = (layL y false ((layL x false l).take n)).take n := by
 rw [Zkl, Zkl, Zkl, Zkl, Zsv, Zsv]
 rw [Zx0 Z5b (x := x) (y := y) (fun h => ?_) l]
 obtain ⟨h1, h2⟩ := Zpa.1 h
 have h3 := Zsu hx hy cx cy h2
 obtain ⟨x1, x2⟩ := x
 obtain ⟨y1, y2⟩ := y
 have h1 : x2 = y2 := h1
 have h3 : x1 = y1 := h3
 rw [h1, h3]
theorem Zrj {r : Zd} {a : Zm} (h : a.Kind = 7 ∨ a.Kind = 8 ∨ a.Kind = 10) : eff r a = { r with Num := IntKind.i64.wrap (r.Num + a.N) } := if_pos h
theorem Zrr {r : Zd} {a : Zm} (h : a.Kind = 13) : eff r a = { r with Real := if keyf r.Real < keyf a.X then a.X else r.Real } := by unfold eff; rw [h]; rfl
theorem Zry {r : Zd} {a : Zm} (h : a.Kind = 14) : eff r a = { r with Real := if keyf a.X < keyf r.Real then a.X else r.Real } := by unfold eff; rw [h]; rfl
theorem Zpx {r : Zd} {a : Zm} (h : a.Kind = 18) : eff r a = { r with List := layL { Score := 0, Name := a.S } true r.List } := by unfold eff; rw [h]; rfl
theorem Zoe {r : Zd} {a : Zm} (h : a.Kind = 19) : eff r a = { r with List := r.List.filter fun e => !sEq e.Name a.S } := by unfold eff; rw [h]; rfl
theorem Zoa {r : Zd} {a : Zm} (h : a.Kind = 21) : eff r a = { r with List := (layL { Score := a.X, Name := a.S } false r.List).take r.Cap.toNat } := by unfold eff; rw [h]; rfl
def fmx (x y : Nat) : Nat := if keyf x < keyf y then y else x
def fmn (x y : Nat) : Nat := if keyf y < keyf x then y else x
theorem Z4f {x y : Nat} (hx : x < W64) (hy : y < W64) (cx : x = Zbz x) (cy : y = Zbz y) (z : Nat) : fmx (fmx z x) y = fmx (fmx z y) x := by
 have e := Zsu hx hy cx cy
 unfold fmx
 by_cases c1 : keyf z < keyf x <;> by_cases c2 : keyf z < keyf y <;> simp only [c1, c2, if_true, if_false]
 · by_cases c3 : keyf x < keyf y
   · rw [if_pos c3, if_neg (by omega)]
   · rw [if_neg c3]
     by_cases c4 : keyf y < keyf x
     · rw [if_pos c4]
     · rw [if_neg c4]; exact e (by omega)
 · rw [if_neg (by omega)]
 · rw [if_neg (by omega)]
theorem Z39 {x y : Nat} (hx : x < W64) (hy : y < W64) (cx : x = Zbz x) (cy : y = Zbz y) (z : Nat) : fmn (fmn z x) y = fmn (fmn z y) x := by
 have e := Zsu hx hy cx cy
 unfold fmn
 by_cases c1 : keyf x < keyf z <;> by_cases c2 : keyf y < keyf z <;> simp only [c1, c2, if_true, if_false]
 · by_cases c3 : keyf y < keyf x
   · rw [if_pos c3, if_neg (by omega)]
   · rw [if_neg c3]
     by_cases c4 : keyf x < keyf y
     · rw [if_pos c4]
     · rw [if_neg c4]; exact e (by omega)
 · rw [if_neg (by omega)]
 · rw [if_neg (by omega)]
theorem Z4r {r : Zd} {a b : Zm} (ha : ActW a) (hb : ActW b) (hk : a.Kind = 7 ∨ a.Kind = 13 ∨ a.Kind = 14 ∨ a.Kind = 18 ∨ a.Kind = 19 ∨ a.Kind = 21) (he : b.Kind = a.Kind) : eff (eff r a) b = eff (eff r b) a := by
 rcases hk with h | h | h | h | h | h <;> rw [h] at he
 · rw [Zrj (.inl h), Zrj (.inl he), Zrj (.inl h), Zrj (.inl he)]
   have : IntKind.i64.wrap (IntKind.i64.wrap (r.Num + a.N) + b.N) = IntKind.i64.wrap (IntKind.i64.wrap (r.Num + b.N) + a.N) := by
     simp only [IntKind.wrap_i64]; omega
   simp only [this]
 · rw [Zrr h, Zrr he, Zrr h, Zrr he]
   exact congrArg (fun z => ({ r with Real := z } : Zd)) (Z4f ha.ok.2 hb.ok.2 ha.xc hb.xc r.Real)
 · rw [Zry h, Zry he, Zry h, Zry he]
   exact congrArg (fun z => ({ r with Real := z } : Zd)) (Z39 ha.ok.2 hb.ok.2 ha.xc hb.xc r.Real)
 · rw [Zpx h, Zpx he, Zpx h, Zpx he]
   exact congrArg (fun z => ({ r with List := z } : Zd)) (Zve b.S a.S r.List)
 · rw [Zoe h, Zoe he, Zoe h, Zoe he]
   refine congrArg (fun z => ({ r with List := z } : Zd)) ?_
   show List.filter _ (List.filter _ _) = List.filter _ (List.filter _ _)
   rw [List.filter_filter, List.filter_filter]
   congr 1
   funext e
   exact Bool.and_comm _ _
 · rw [Zoa h, Zoa he, Zoa h, Zoa he]
   exact congrArg (fun z => ({ r with List := z } : Zd)) (Zwj (x := { Score := b.X, Name := b.S }) (y := { Score := a.X, Name := a.S }) hb.ok.2 ha.ok.2 hb.xc ha.xc r.Cap.toNat r.List)
abbrev KV := ByteArray × Zd
def toL : shelf_nodeT → List KV
 | .nil => []
 | .node k r l rr _ => toL l ++ (k, r) :: toL rr
def Szd : shelf_nodeT → Prop
 | .nil => True
 | .node k r l rr s => Szd l ∧ Szd rr ∧ s = (((toL l).length + (toL rr).length + 1 : Nat) : Int)
def Srt (l : List KV) : Prop := l.Pairwise fun p q => sLt p.1 q.1 = true
theorem Zhh {t : shelf_nodeT} (h : Szd t) : Zce t = some ((toL t).length : Int) := by
 cases t with
 | nil => rfl
 | node k r l rr s =>
   obtain ⟨_, _, h3⟩ := h
   simp [Zce, shelf_nodeT.isNil, shelf_nodeT.un, toL, h3]
   omega
theorem Z7b {k : ByteArray} {x : Zd} {l r : shelf_nodeT} (hl : Szd l) (hr : Szd r) (bl : (toL l).length < 1099511627776) (br : (toL r).length < 1099511627776) :
   Zdl k x l r = some (.node k x l r (((toL l).length + (toL r).length + 1 : Nat) : Int)) := by
 unfold Zdl
 rw [Zhh hl, Zhh hr]
 simp only [Option.bind_some, shelf_node.up]
 rw [wr (x := (toL l).length + (toL r).length) (by omega) (by omega), wr (by omega) (by omega)]
 rfl
theorem Zhy {k : ByteArray} {x : Zd} {l r : shelf_nodeT} (hl : Szd l) (hr : Szd r) (bl : (toL l).length < 1099511627776) (br : (toL r).length < 1099511627776) :
   ∃ t, Zdl k x l r = some t ∧ Szd t ∧ toL t = toL l ++ (k, x) :: toL r := ⟨_, Z7b hl hr bl br, ⟨hl, hr, rfl⟩, rfl⟩
def Zmp (a b : shelf_nodeT) : Bool := decide (3 * ((toL b).length + 1) < (toL a).length + 1)
theorem Zx9 {a b : shelf_nodeT} (ha : Szd a) (hb : Szd b) (ba : (toL a).length < 1099511627776) (bb : (toL b).length < 1099511627776) : Zhw a b = some (Zmp a b) := by
 unfold Zhw Zmp
 rw [Zhh ha, Zhh hb]
 simp only [Option.bind_some]
 rw [wr (x := ((toL b).length : Int) + 1) (by omega) (by omega), wr (x := ((toL a).length : Int) + 1) (by omega) (by omega), wr (by omega) (by omega)]
 congr 1
 apply decide_eq_decide.2
 omega
theorem Zui {t : shelf_nodeT} (h : 0 < (toL t).length) : ∃ k r l rr s, t = .node k r l rr s := by
 cases t with
 | nil => simp [toL] at h
 | node k r l rr s => exact ⟨k, r, l, rr, s, rfl⟩
theorem Zov {k : ByteArray} {x : Zd} {l r : shelf_nodeT} (hl : Szd l) (hr : Szd r) (bl : (toL l).length < 1099511627776) (br : (toL r).length < 1099511627776) (bs : (toL l).length + (toL r).length + 1 < 1099511627776) :
   ∃ t, Zhq k x l r = some t ∧ Szd t ∧ toL t = toL l ++ (k, x) :: toL r := by
 unfold Zhq
 rw [Zx9 hr hl br bl, Zx9 hl hr bl br]
 simp only [Option.bind_some]
 by_cases h1 : Zmp r l = true
 · have hlen : 0 < (toL r).length := by
     unfold Zmp at h1
     have := of_decide_eq_true h1
     omega
   obtain ⟨rk, rx, rl, rr, rs, rfl⟩ := Zui hlen
   obtain ⟨s1, s2, s3⟩ := hr
   have e : (toL (shelf_nodeT.node rk rx rl rr rs)).length = (toL rl).length + (toL rr).length + 1 := by simp [toL]; omega
   rw [e] at br bs
   simp only [h1, gd_t, shelf_nodeT.un, Option.bind_some, if_true]
   rw [Zhh s1, Zhh s2]
   simp only [Option.bind_some, Bool.true_and]
   by_cases h2 : (decide (IntKind.i64.wrap (((toL rl).length : Int) + 1) < IntKind.i64.wrap (2 * IntKind.i64.wrap (((toL rr).length : Int) + 1)))) = true
   · rw [if_pos h2]
     obtain ⟨t1, e1, z1, l1⟩ := Zhy (k := k) (x := x) hl s1 bl (by omega)
     have b1 : (toL t1).length < 1099511627776 := by rw [l1]; simp; omega
     obtain ⟨t2, e2, z2, l2⟩ := Zhy (k := rk) (x := rx) z1 s2 b1 (by omega)
     exact ⟨t2, by rw [e1]; simp only [Option.bind_some]; rw [e2]; rfl, z2, by rw [l2, l1]; simp [toL]⟩
   · rw [if_neg h2]
     have hlen2 : 0 < (toL rl).length := by
       rw [wr (x := ((toL rr).length : Int) + 1) (by omega) (by omega), wr (x := ((toL rl).length : Int) + 1) (by omega) (by omega), wr (by omega) (by omega)] at h2
       have : ¬ ((toL rl).length : Int) + 1 < 2 * ((toL rr).length + 1) := by simpa using h2
       omega
     obtain ⟨lk, lx, ll, lr, ls, rfl⟩ := Zui hlen2
     obtain ⟨q1, q2, q3⟩ := s1
     have e' : (toL (shelf_nodeT.node lk lx ll lr ls)).length = (toL ll).length + (toL lr).length + 1 := by simp [toL]; omega
     rw [e'] at br bs
     simp only [shelf_nodeT.un, Option.bind_some]
     obtain ⟨t1, e1, z1, l1⟩ := Zhy (k := k) (x := x) hl q1 bl (by omega)
     obtain ⟨t2, e2, z2, l2⟩ := Zhy (k := rk) (x := rx) q2 s2 (by omega) (by omega)
     have b1 : (toL t1).length < 1099511627776 := by rw [l1]; simp; omega
     have b2 : (toL t2).length < 1099511627776 := by rw [l2]; simp; omega
     obtain ⟨t3, e3, z3, l3⟩ := Zhy (k := lk) (x := lx) z1 z2 b1 b2
     exact ⟨t3, by rw [e1]; simp only [Option.bind_some]; rw [e2]; simp only [Option.bind_some]; rw [e3]; rfl, z3, by rw [l3, l1, l2]; simp [toL]⟩
 · have h1' : Zmp r l = false := by simpa using h1
   simp only [h1', gd_f, Option.bind_some, Bool.false_and, Bool.false_eq_true, if_false]
   by_cases h3 : Zmp l r = true
   · have hlen : 0 < (toL l).length := by
       unfold Zmp at h3
       have := of_decide_eq_true h3
       omega
     obtain ⟨rk, rx, rl, rr, rs, rfl⟩ := Zui hlen
     obtain ⟨s1, s2, s3⟩ := hl
     have e : (toL (shelf_nodeT.node rk rx rl rr rs)).length = (toL rl).length + (toL rr).length + 1 := by simp [toL]; omega
     rw [e] at bl bs
     simp only [h3, gd_t, shelf_nodeT.un, Option.bind_some, if_true]
     rw [Zhh s2, Zhh s1]
     simp only [Zce, shelf_nodeT.isNil, if_true, Option.bind_some, Bool.true_and]
     by_cases h2 : (decide (IntKind.i64.wrap (((toL rr).length : Int) + 1) < IntKind.i64.wrap (2 * IntKind.i64.wrap (((toL rl).length : Int) + 1)))) = true
     · rw [if_pos h2]
       obtain ⟨t1, e1, z1, l1⟩ := Zhy (k := k) (x := x) s2 hr (by omega) br
       have b1 : (toL t1).length < 1099511627776 := by rw [l1]; simp; omega
       obtain ⟨t2, e2, z2, l2⟩ := Zhy (k := rk) (x := rx) s1 z1 (by omega) b1
       exact ⟨t2, by rw [e1]; simp only [Option.bind_some]; rw [e2]; rfl, z2, by rw [l2, l1]; simp [toL]⟩
     · rw [if_neg h2]
       have hlen2 : 0 < (toL rr).length := by
         rw [wr (x := ((toL rl).length : Int) + 1) (by omega) (by omega), wr (x := ((toL rr).length : Int) + 1) (by omega) (by omega), wr (by omega) (by omega)] at h2
         have : ¬ ((toL rr).length : Int) + 1 < 2 * ((toL rl).length + 1) := by simpa using h2
         omega
       obtain ⟨lk, lx, ll, lr, ls, rfl⟩ := Zui hlen2
       obtain ⟨q1, q2, q3⟩ := s2
       have e' : (toL (shelf_nodeT.node lk lx ll lr ls)).length = (toL ll).length + (toL lr).length + 1 := by simp [toL]; omega
       rw [e'] at bl bs
       simp only [shelf_nodeT.un, Option.bind_some]
       obtain ⟨t1, e1, z1, l1⟩ := Zhy (k := rk) (x := rx) s1 q1 (by omega) (by omega)
       obtain ⟨t2, e2, z2, l2⟩ := Zhy (k := k) (x := x) q2 hr (by omega) br
       have b1 : (toL t1).length < 1099511627776 := by rw [l1]; simp; omega
       have b2 : (toL t2).length < 1099511627776 := by rw [l2]; simp; omega
       obtain ⟨t3, e3, z3, l3⟩ := Zhy (k := lk) (x := lx) z1 z2 b1 b2
       exact ⟨t3, by rw [e1]; simp only [Option.bind_some]; rw [e2]; simp only [Option.bind_some]; rw [e3]; rfl, z3, by rw [l3, l1, l2]; simp [toL]⟩
   · have h3' : Zmp l r = false := by simpa using h3
     simp only [h3', gd_f, Option.bind_some, Bool.false_and, Bool.false_eq_true, if_false]
     obtain ⟨t1, e1, z1, l1⟩ := Zhy (k := k) (x := x) hl hr bl br
     exact ⟨t1, by rw [e1]; simp [Zce, shelf_nodeT.isNil, shelf_nodeT.un, Option.bind_some, gd], z1, l1⟩
def insL (k : ByteArray) (x : Zd) : List KV → List KV
 | [] => [(k, x)]
 | p :: l => if sLt k p.1 then (k, x) :: p :: l else if sEq k p.1 then (k, x) :: l else p :: insL k x l
def delL (k : ByteArray) : List KV → List KV
 | [] => []
 | p :: l => if sEq k p.1 then l else p :: delL k l
theorem Znz (k : ByteArray) (x : Zd) : ∀ l : List KV, (insL k x l).length ≤ l.length + 1
 | [] => by simp [insL]
 | p :: l => by
   have := Znz k x l
   simp only [insL]
   split
   · simp
   · split <;> simp <;> omega
theorem Zp0 (k : ByteArray) : ∀ l : List KV, (delL k l).length ≤ l.length
 | [] => by simp [delL]
 | p :: l => by
   have := Zp0 k l
   simp only [delL]
   split <;> simp <;> omega
theorem Zzv {k : ByteArray} {x : Zd} {p : KV} {B : List KV} (h : sLt k p.1 = true) : ∀ A : List KV, insL k x (A ++ p :: B) = insL k x A ++ p :: B
 | [] => by simp [insL, h]
 | q :: A => by
   simp only [List.cons_append, insL]
   split
   · rfl
   · split
     · rfl
     · rw [Zzv h A]; rfl
theorem Zq7 {k : ByteArray} {x : Zd} {B : List KV} : ∀ A : List KV, (∀ q ∈ A, sLt q.1 k = true) → insL k x (A ++ B) = A ++ insL k x B
 | [], _ => rfl
 | q :: A, h => by
   have hq := h q (by simp)
   have h1 : sLt k q.1 = false := Zpg hq
   have h2 : sEq k q.1 = false := Zdq.2 (fun e => Zj7 hq e.symm)
   simp only [List.cons_append, insL, h1, h2, Bool.false_eq_true, if_false]
   rw [Zq7 A fun q hq => h q (by simp [hq])]
theorem Z7g {k : ByteArray} {x : Zd} {p : KV} {B : List KV} (h : k = p.1) : insL k x (p :: B) = (k, x) :: B := by
 simp [insL, h, Zf9, Zdg]
theorem Z7j {k : ByteArray} {x : Zd} {p : KV} {B : List KV} (h : sLt p.1 k = true) : insL k x (p :: B) = p :: insL k x B := by
 have h1 : sLt k p.1 = false := Zpg h
 have h2 : sEq k p.1 = false := Zdq.2 (fun e => Zj7 h e.symm)
 simp [insL, h1, h2]
theorem Zpj {k : ByteArray} : ∀ l : List KV, (∀ q ∈ l, q.1 ≠ k) → delL k l = l
 | [], _ => rfl
 | p :: l, h => by
   have : sEq k p.1 = false := Zdq.2 (fun e => h p (by simp) e.symm)
   simp only [delL, this, Bool.false_eq_true, if_false]
   rw [Zpj l fun q hq => h q (by simp [hq])]
theorem Zzp {k : ByteArray} {p : KV} {B : List KV} (h : sLt k p.1 = true) (hB : ∀ q ∈ B, sLt p.1 q.1 = true) : ∀ A : List KV, delL k (A ++ p :: B) = delL k A ++ p :: B
 | [] => by
   have h1 : sEq k p.1 = false := Zdq.2 (Zj7 h)
   simp only [List.nil_append, delL, h1, Bool.false_eq_true, if_false]
   rw [Zpj B fun q hq e => by
     have := Ze0 h (hB q hq)
     rw [e, Zf9] at this; cases this]
 | q :: A => by
   simp only [List.cons_append, delL]
   split
   · rfl
   · rw [Zzp h hB A]; rfl
theorem Zra {k : ByteArray} {B : List KV} : ∀ A : List KV, (∀ q ∈ A, sLt q.1 k = true) → delL k (A ++ B) = A ++ delL k B
 | [], _ => rfl
 | q :: A, h => by
   have hq := h q (by simp)
   have h2 : sEq k q.1 = false := Zdq.2 (fun e => Zj7 hq e.symm)
   simp only [List.cons_append, delL, h2, Bool.false_eq_true, if_false]
   rw [Zra A fun q hq => h q (by simp [hq])]
theorem Zvc {A B : List KV} {p : KV} (h : Srt (A ++ p :: B)) : Srt A ∧ Srt B ∧ (∀ q ∈ A, sLt q.1 p.1 = true) ∧ (∀ q ∈ B, sLt p.1 q.1 = true) := by
 obtain ⟨h1, h2, h3⟩ := List.pairwise_append.1 h
 obtain ⟨h4, h5⟩ := List.pairwise_cons.1 h2
 exact ⟨h1, h5, fun q hq => h3 q hq p (by simp), h4⟩
theorem Zox {k : ByteArray} {x : Zd} : ∀ {l : List KV} {q : KV}, q ∈ insL k x l → q = (k, x) ∨ q ∈ l
 | [], q, h => by simp [insL] at h; exact .inl h
 | p :: l, q, h => by
   simp only [insL] at h
   split at h
   · rcases List.mem_cons.1 h with h | h
     · exact .inl h
     · exact .inr h
   · split at h
     · rcases List.mem_cons.1 h with h | h
       · exact .inl h
       · exact .inr (List.mem_cons_of_mem _ h)
     · rcases List.mem_cons.1 h with h | h
       · exact .inr (by simp [h])
       · rcases Zox h with h | h
         · exact .inl h
         · exact .inr (List.mem_cons_of_mem _ h)
theorem Zot {k : ByteArray} : ∀ {l : List KV} {q : KV}, q ∈ delL k l → q ∈ l
 | [], q, h => by simp [delL] at h
 | p :: l, q, h => by
   simp only [delL] at h
   split at h
   · exact List.mem_cons_of_mem _ h
   · rcases List.mem_cons.1 h with h | h
     · simp [h]
     · exact List.mem_cons_of_mem _ (Zot h)
theorem Zu8 {k : ByteArray} {x : Zd} : ∀ {l : List KV}, Srt l → Srt (insL k x l)
 | [], _ => List.pairwise_singleton ..
 | p :: l, h => by
   obtain ⟨h1, h2⟩ := List.pairwise_cons.1 h
   simp only [insL]
   split
   · rename_i hk
     refine List.pairwise_cons.2 ⟨fun q hq => ?_, h⟩
     rcases List.mem_cons.1 hq with rfl | hq
     · exact hk
     · exact Ze0 hk (h1 q hq)
   · rename_i hk
     split
     · rename_i he
       have he := Zda.1 he
       exact List.pairwise_cons.2 ⟨fun q hq => by rw [he]; exact h1 q hq, h2⟩
     · rename_i he
       have hlt : sLt p.1 k = true := Zkw (by simpa using hk) (fun e => he (Zda.2 e))
       refine List.pairwise_cons.2 ⟨fun q hq => ?_, Zu8 h2⟩
       rcases Zox hq with rfl | hq
       · exact hlt
       · exact h1 q hq
theorem Zuv {k : ByteArray} : ∀ {l : List KV}, Srt l → Srt (delL k l)
 | [], h => h
 | p :: l, h => by
   obtain ⟨h1, h2⟩ := List.pairwise_cons.1 h
   simp only [delL]
   split
   · exact h2
   · exact List.pairwise_cons.2 ⟨fun q hq => h1 q (Zot hq), Zuv h2⟩
theorem Zxr : ∀ (n : Nat) (t : shelf_nodeT) (k : ByteArray) (x : Zd), t.hh < n → Szd t → Srt (toL t) → (toL t).length + 2 < 1099511627776 →
   ∃ t', Zev n t k x = some t' ∧ Szd t' ∧ toL t' = insL k x (toL t)
 | 0, t, k, x, h, _, _, _ => by omega
 | n + 1, .nil, k, x, _, _, _, _ => by
   obtain ⟨t1, e1, z1, l1⟩ := Zhy (k := k) (x := x) (l := .nil) (r := .nil) trivial trivial (by simp [toL]) (by simp [toL])
   refine ⟨t1, ?_, z1, by rw [l1]; rfl⟩
   simp only [Zev, Zh1, shelf_nodeT.isNil, if_true]
   rw [e1]; rfl
 | n + 1, .node nk nx l r s, k, x, hh, hz, hs, hb => by
   obtain ⟨z1, z2, z3⟩ := hz
   simp only [toL] at hs hb
   obtain ⟨s1, s2, sA, sB⟩ := Zvc hs
   have hlen : (toL l ++ (nk, nx) :: toL r).length = (toL l).length + (toL r).length + 1 := by simp; omega
   rw [hlen] at hb
   simp only [shelf_nodeT.hh] at hh
   simp only [Zev, Zh1, shelf_nodeT.isNil, shelf_nodeT.un, Bool.false_eq_true, if_false, Option.bind_some]
   by_cases h1 : sLt k nk = true
   · rw [if_pos h1]
     obtain ⟨t1, e1, y1, l1⟩ := Zxr n l k x (by omega) z1 s1 (by omega)
     have b1 := Znz k x (toL l)
     rw [← l1] at b1
     obtain ⟨t2, e2, y2, l2⟩ := Zov (k := nk) (x := nx) y1 z2 (by omega) (by omega) (by omega)
     refine ⟨t2, by rw [e1]; simp only [Option.bind_some]; rw [e2]; rfl, y2, ?_⟩
     rw [l2, l1]; simp only [toL]; rw [Zzv (by exact h1)]
   · rw [if_neg h1]
     by_cases h2 : k = nk
     · subst h2
       have he : (!(sLt k k || sEq k k)) = false := by simp [Zdg]
       rw [he]
       simp only [Bool.false_eq_true, if_false]
       obtain ⟨t1, e1, y1, l1⟩ := Zhy (k := k) (x := x) z1 z2 (by omega) (by omega)
       refine ⟨t1, by rw [e1]; rfl, y1, ?_⟩
       rw [l1]; simp only [toL]
       rw [Zq7 _ (fun q hq => sA q hq), Z7g rfl]
     · have h3 : sLt nk k = true := Zkw (by simpa using h1) h2
       have he : (!(sLt k nk || sEq k nk)) = true := by simp [Zdq.2 h2]; simpa using h1
       rw [he]
       simp only [if_true]
       obtain ⟨t1, e1, y1, l1⟩ := Zxr n r k x (by omega) z2 s2 (by omega)
       have b1 := Znz k x (toL r)
       rw [← l1] at b1
       obtain ⟨t2, e2, y2, l2⟩ := Zov (k := nk) (x := nx) z1 y1 (by omega) (by omega) (by omega)
       refine ⟨t2, by rw [e1]; simp only [Option.bind_some]; rw [e2]; rfl, y2, ?_⟩
       rw [l2, l1]; simp only [toL]
       rw [Zq7 _ (fun q hq => Ze0 (sA q hq) h3), Z7j h3]
theorem Zz7 {t : shelf_nodeT} {k : ByteArray} {x : Zd} (hz : Szd t) (hs : Srt (toL t)) (hb : (toL t).length + 2 < 1099511627776) :
   ∃ t', Zmb t k x = some t' ∧ Szd t' ∧ toL t' = insL k x (toL t) := Zxr _ t k x (Nat.lt_succ_self _) hz hs hb
theorem Zxt : ∀ (n : Nat) (t : shelf_nodeT), t.hh < n → t.isNil = false → ∃ t' k x l r s B, Zep n t = some t' ∧ t' = .node k x l r s ∧ toL t = (k, x) :: B
 | 0, t, h, _ => by omega
 | n + 1, .nil, _, h => by cases h
 | n + 1, .node k x l r s, hh, _ => by
   simp only [shelf_nodeT.hh] at hh
   simp only [Zep, shelf_nodeT.un, Option.bind_some]
   cases l with
   | nil => exact ⟨_, k, x, .nil, r, s, toL r, rfl, rfl, rfl⟩
   | node k2 x2 l2 r2 s2 =>
     obtain ⟨t', k', x', l', r', s', B, e1, e2, e3⟩ := Zxt n (.node k2 x2 l2 r2 s2) (by omega) rfl
     exact ⟨t', k', x', l', r', s', B ++ (k, x) :: toL r, by simp [shelf_nodeT.isNil]; exact e1, e2, by
       simp only [toL] at e3 ⊢
       rw [e3]; rfl⟩
theorem Zuf : ∀ (n : Nat) (t : shelf_nodeT) (k : ByteArray), t.hh < n → Szd t → Srt (toL t) → (toL t).length + 2 < 1099511627776 →
   ∃ t', Zfi n t k = some t' ∧ Szd t' ∧ toL t' = delL k (toL t)
 | 0, t, k, h, _, _, _ => by omega
 | n + 1, .nil, k, _, _, _, _ => ⟨.nil, rfl, trivial, rfl⟩
 | n + 1, .node nk nx l r s, k, hh, hz, hs, hb => by
   obtain ⟨z1, z2, z3⟩ := hz
   simp only [toL] at hs hb
   obtain ⟨s1, s2, sA, sB⟩ := Zvc hs
   have hlen : (toL l ++ (nk, nx) :: toL r).length = (toL l).length + (toL r).length + 1 := by simp; omega
   rw [hlen] at hb
   simp only [shelf_nodeT.hh] at hh
   simp only [Zfi, Zjf, shelf_nodeT.isNil, shelf_nodeT.un, Bool.false_eq_true, if_false, Option.bind_some]
   by_cases h1 : sLt k nk = true
   · rw [if_pos h1]
     obtain ⟨t1, e1, y1, l1⟩ := Zuf n l k (by omega) z1 s1 (by omega)
     have b1 := Zp0 k (toL l)
     rw [← l1] at b1
     obtain ⟨t2, e2, y2, l2⟩ := Zov (k := nk) (x := nx) y1 z2 (by omega) (by omega) (by omega)
     refine ⟨t2, by rw [e1]; simp only [Option.bind_some]; rw [e2]; rfl, y2, ?_⟩
     rw [l2, l1]; simp only [toL]; rw [Zzp (by exact h1) (fun q hq => sB q hq)]
   · rw [if_neg h1]
     by_cases h2 : k = nk
     · subst h2
       have he : (!(sLt k k || sEq k k)) = false := by simp [Zdg]
       rw [he]
       simp only [Bool.false_eq_true, if_false]
       have hdel : delL k (toL l ++ (k, nx) :: toL r) = toL l ++ toL r := by
         rw [Zra _ (fun q hq => sA q hq)]
         simp [delL, Zdg]
       cases hl : l with
       | nil => exact ⟨r, by simp [shelf_nodeT.isNil, shelf_nodeT.un], z2, by show toL r = delL k (toL .nil ++ (k, nx) :: toL r); rw [← hl, hdel, hl]; rfl⟩
       | node k2 x2 l2 r2 q2 =>
         cases hr : r with
         | nil => exact ⟨l, by simp [shelf_nodeT.isNil, shelf_nodeT.un, hl], z1, by rw [← hl, ← hr]; show toL l = delL k (toL l ++ (k, nx) :: toL r); rw [hdel, hr]; simp [toL]⟩
         | node k3 x3 l3 r3 q3 =>
           rw [← hl, ← hr]
           have hn : r.isNil = false := by rw [hr]; rfl
           have hn1 : l.isNil = false := by rw [hl]; rfl
           obtain ⟨t', k', x', l', r', s', B, e1, e2, e3⟩ := Zxt (r.hh + 1) r (Nat.lt_succ_self _) hn
           subst e2
           have hf : Zh3 r = some (.node k' x' l' r' s') := by
             unfold Zh3; rw [e1]; rfl
           obtain ⟨t1, c1, y1, l1⟩ := Zuf n r k' (by omega) z2 s2 (by omega)
           have hB : toL t1 = B := by rw [l1, e3]; simp [delL, Zdg]
           have hBl : B.length + 1 = (toL r).length := by rw [e3]; simp
           obtain ⟨t2, c2, y2, l2⟩ := Zov (k := k') (x := x') z1 y1 (by omega) (by rw [hB]; omega) (by rw [hB]; omega)
           refine ⟨t2, ?_, y2, ?_⟩
           · simp only [hf, Option.bind_some, shelf_nodeT.un, c1, c2]
             show (if l.isNil = true then some r else if r.isNil = true then some l else some t2) = some t2
             rw [hn, hn1]; rfl
           · show toL t2 = delL k (toL l ++ (k, nx) :: toL r)
             rw [hdel, l2, hB, e3]
     · have h3 : sLt nk k = true := Zkw (by simpa using h1) h2
       have he : (!(sLt k nk || sEq k nk)) = true := by simp [Zdq.2 h2]; simpa using h1
       rw [he]
       simp only [if_true]
       obtain ⟨t1, e1, y1, l1⟩ := Zuf n r k (by omega) z2 s2 (by omega)
       have b1 := Zp0 k (toL r)
       rw [← l1] at b1
       obtain ⟨t2, e2, y2, l2⟩ := Zov (k := nk) (x := nx) z1 y1 (by omega) (by omega) (by omega)
       refine ⟨t2, by rw [e1]; simp only [Option.bind_some]; rw [e2]; rfl, y2, ?_⟩
       rw [l2, l1]; simp only [toL]
       rw [Zra _ (fun q hq => Ze0 (sA q hq) h3)]
       simp [delL, Zdq.2 h2]
theorem Z0o {t : shelf_nodeT} {k : ByteArray} (hz : Szd t) (hs : Srt (toL t)) (hb : (toL t).length + 2 < 1099511627776) :
   ∃ t', Zmi t k = some t' ∧ Szd t' ∧ toL t' = delL k (toL t) := Zuf _ t k (Nat.lt_succ_self _) hz hs hb
def lk (k : ByteArray) : List KV → Option Zd
 | [] => none
 | p :: l => if sEq k p.1 then some p.2 else lk k l
def rk (k : ByteArray) : List KV → Nat
 | [] => 0
 | p :: l => if sLt p.1 k then rk k l + 1 else 0
theorem Zlj {k : ByteArray} : ∀ {l : List KV}, (∀ q ∈ l, q.1 ≠ k) → lk k l = none
 | [], _ => rfl
 | p :: l, h => by
   have : sEq k p.1 = false := Zdq.2 (fun e => h p (by simp) e.symm)
   simp only [lk, this, Bool.false_eq_true, if_false]
   exact Zlj fun q hq => h q (by simp [hq])
theorem Z5s {k : ByteArray} {p : KV} {B : List KV} (h : sLt k p.1 = true) (hB : ∀ q ∈ B, sLt p.1 q.1 = true) : ∀ A : List KV, lk k (A ++ p :: B) = lk k A
 | [] => by
   have h1 : sEq k p.1 = false := Zdq.2 (Zj7 h)
   simp only [List.nil_append, lk, h1, Bool.false_eq_true, if_false]
   exact Zlj fun q hq e => by
     have := Ze0 h (hB q hq)
     rw [e, Zf9] at this; cases this
 | q :: A => by
   simp only [List.cons_append, lk]
   split
   · rfl
   · exact Z5s h hB A
theorem Zvi {k : ByteArray} {B : List KV} : ∀ A : List KV, (∀ q ∈ A, sLt q.1 k = true) → lk k (A ++ B) = lk k B
 | [], _ => rfl
 | q :: A, h => by
   have hq := h q (by simp)
   have h2 : sEq k q.1 = false := Zdq.2 (fun e => Zj7 hq e.symm)
   simp only [List.cons_append, lk, h2, Bool.false_eq_true, if_false]
   exact Zvi A fun q hq => h q (by simp [hq])
theorem Zww (k : ByteArray) : ∀ l : List KV, rk k l ≤ l.length
 | [] => by simp [rk]
 | p :: l => by
   have := Zww k l
   simp only [rk]
   split <;> simp <;> omega
def Cl (x : Zd) : Prop := x.List.length ≤ 1000
theorem Zpi {x : Zd} (h : Cl x) : Zfc x = some x := by
 unfold Zfc Zby
 unfold Cl at h
 rw [if_pos (by omega)]
 rfl
abbrev zrec : Zd := { Kind := 0, Num := 0, Low := 0, High := 0, Real := 0, Cap := 0, Text := ByteArray.empty, List := [] }
def getR : Option Zd → Zd × Bool
 | some r => (r, true)
 | none => (zrec, false)
def getE (x : Zd) : Option Zd → (Zd × Bool) ⊕ Zd
 | some r => .inl (r, true)
 | none => .inr x
theorem Ztc (k : ByteArray) (x : Zd) : ∀ (n : Nat) (t : shelf_nodeT), t.hh < n → Srt (toL t) → (∀ q ∈ toL t, Cl q.2) → Zdu k n x t = some (getE x (lk k (toL t)))
 | 0, t, h, _, _ => by omega
 | n + 1, .nil, _, _, _ => rfl
 | n + 1, .node nk nx l r s, hh, hs, hc => by
   simp only [toL] at hs hc
   obtain ⟨s1, s2, sA, sB⟩ := Zvc hs
   simp only [shelf_nodeT.hh] at hh
   simp only [Zdu, shelf_nodeT.isNil, shelf_nodeT.un, Bool.not_false, if_true, Option.bind_some, Zg0, toL]
   by_cases h1 : sLt k nk = true
   · rw [if_pos h1, Ztc k x n l (by omega) s1 (fun q hq => hc q (by simp [hq])), Z5s (by exact h1) (fun q hq => sB q hq)]
   · rw [if_neg h1]
     by_cases h2 : k = nk
     · subst h2
       have he : (!(sLt k k || sEq k k)) = false := by simp [Zdg]
       rw [he]
       simp only [Bool.false_eq_true, if_false]
       rw [Zpi (hc (k, nx) (by simp)), Zvi _ (fun q hq => sA q hq)]
       simp [lk, Zdg, getE]
     · have h3 : sLt nk k = true := Zkw (by simpa using h1) h2
       have he : (!(sLt k nk || sEq k nk)) = true := by simp [Zdq.2 h2]; simpa using h1
       rw [he]
       simp only [if_true]
       rw [Ztc k x n r (by omega) s2 (fun q hq => hc q (by simp [hq])), Zvi _ (fun q hq => Ze0 (sA q hq) h3)]
       simp [lk, Zdq.2 h2]
theorem Z8z {s : Zn} {k : ByteArray} (hs : Srt (toL s.top)) (hc : ∀ q ∈ toL s.top, Cl q.2) : Zfa s k = some (getR (lk k (toL s.top))) := by
 unfold Zfa
 rw [Ztc k _ _ _ (Nat.lt_succ_self _) hs hc]
 cases lk k (toL s.top) <;> rfl
def atE (x : Zd) : Option KV → (ByteArray × Zd × Bool) ⊕ Zd
 | some p => .inl (p.1, p.2, true)
 | none => .inr x
theorem Z1e {α : Type} {A B : List α} {i : Int} (h : i < A.length) : idx (A ++ B) i = idx A i := by
 unfold idx
 split
 · rw [List.getElem?_append_left (by omega)]
 · rfl
theorem Zy8 {α : Type} {A B : List α} {p : α} : idx (A ++ p :: B) (A.length : Int) = some p := by
 rw [idxn]; simp
theorem Z1i {α : Type} {A B : List α} {p : α} {i : Int} (h : (A.length : Int) < i) : idx (A ++ p :: B) i = idx B (i - (A.length + 1)) := by
 unfold idx
 rw [if_pos (by omega), if_pos (by omega), List.getElem?_append_right (by omega)]
 rw [show i.toNat - A.length = (i - (A.length + 1)).toNat + 1 by omega, List.getElem?_cons_succ]
theorem Zu6 (x : Zd) : ∀ (n : Nat) (t : shelf_nodeT) (i : Int), t.hh < n → Szd t → (toL t).length + 2 < 1099511627776 → -1099511627776 < i → i < 1099511627776 → (∀ q ∈ toL t, Cl q.2) → Zdn n i x t = some (atE x (idx (toL t) i))
 | 0, t, i, h, _, _, _, _, _ => by omega
 | n + 1, .nil, i, _, _, _, _, _, _ => by
   simp only [Zdn, shelf_nodeT.isNil, toL]
   have hn : idx ([] : List KV) i = none := by
     unfold idx
     split <;> simp
   rw [hn]
   rfl
 | n + 1, .node nk nx l r s, i, hh, hz, hb, i1, i2, hc => by
   obtain ⟨z1, z2, z3⟩ := hz
   simp only [toL] at hb hc
   have hlen : (toL l ++ (nk, nx) :: toL r).length = (toL l).length + (toL r).length + 1 := by simp; omega
   rw [hlen] at hb
   simp only [shelf_nodeT.hh] at hh
   simp only [Zdn, shelf_nodeT.isNil, shelf_nodeT.un, Bool.not_false, if_true, Option.bind_some, Zho, toL]
   rw [Zhh z1]
   simp only [Option.bind_some]
   by_cases h1 : i < (toL l).length
   · rw [if_pos (by simpa using h1), Zu6 x n l i (by omega) z1 (by omega) i1 i2 (fun q hq => hc q (by simp [hq])), Z1e h1]
   · rw [if_neg (by simpa using h1)]
     by_cases h2 : ((toL l).length : Int) < i
     · rw [if_pos (by simpa using h2), wr (x := ((toL l).length : Int) + 1) (by omega) (by omega), wr (by omega) (by omega), Zu6 x n r _ (by omega) z2 (by omega) (by omega) (by omega) (fun q hq => hc q (by simp [hq])), Z1i h2]
     · rw [if_neg (by simpa using h2), Zpi (hc (nk, nx) (by simp))]
       have : i = (toL l).length := by omega
       subst this
       rw [Zy8]; rfl
def atR : Option KV → ByteArray × Zd × Bool
 | some p => (p.1, p.2, true)
 | none => (⟨#[]⟩, zrec, false)
theorem Z5q {s : Zn} {i : Int} (hz : Szd s.top) (hb : (toL s.top).length + 2 < 1099511627776) (i1 : -1099511627776 < i) (i2 : i < 1099511627776) (hc : ∀ q ∈ toL s.top, Cl q.2) : Zhx s i = some (atR (idx (toL s.top) i)) := by
 unfold Zhx
 rw [Zu6 _ _ _ _ (Nat.lt_succ_self _) hz hb i1 i2 hc]
 cases idx (toL s.top) i <;> rfl
theorem Zoo {k : ByteArray} (x : Zd) : ∀ {l : List KV}, Srt l →
   (∃ p, l[rk k l]? = some p ∧ p.1 = k ∧ lk k l = some p.2 ∧ insL k x l = l.take (rk k l) ++ (k, x) :: l.drop (rk k l + 1) ∧ delL k l = l.take (rk k l) ++ l.drop (rk k l + 1)) ∨
   ((∀ p, l[rk k l]? = some p → p.1 ≠ k) ∧ lk k l = none ∧ insL k x l = l.take (rk k l) ++ (k, x) :: l.drop (rk k l) ∧ delL k l = l)
 | [], _ => .inr ⟨fun p h => by simp at h, rfl, rfl, rfl⟩
 | p :: l, hs => by
   obtain ⟨h1, h2⟩ := List.pairwise_cons.1 hs
   by_cases h : sLt p.1 k = true
   · have e1 : sLt k p.1 = false := Zpg h
     have e2 : sEq k p.1 = false := Zdq.2 (fun e => Zj7 h e.symm)
     simp only [rk, h, if_true, lk, insL, delL, e1, e2, Bool.false_eq_true, if_false, List.getElem?_cons_succ, List.take_succ_cons, List.drop_succ_cons]
     rcases Zoo x h2 with ⟨q, a1, a2, a3, a4, a5⟩ | ⟨a1, a2, a3, a4⟩
     · exact .inl ⟨q, a1, a2, a3, by rw [a4]; rfl, by rw [a5]; rfl⟩
     · exact .inr ⟨a1, a2, by rw [a3]; rfl, by rw [a4]⟩
   · have h' : sLt p.1 k = false := by simpa using h
     simp only [rk, h', Bool.false_eq_true, if_false]
     by_cases he : k = p.1
     · left
       exact ⟨p, rfl, he.symm, by simp [lk, he, Zdg], by simp [insL, he, Zf9, Zdg], by simp [delL, he, Zdg]⟩
     · right
       have hlt : sLt k p.1 = true := Zkw h' (fun e => he e.symm)
       have hne : ∀ q ∈ l, q.1 ≠ k := fun q hq e => by
         have := Ze0 hlt (h1 q hq)
         rw [e, Zf9] at this; cases this
       refine ⟨fun q hq e => ?_, ?_, by simp [insL, hlt], ?_⟩
       · simp at hq; subst hq; exact he e.symm
       · simp only [lk, Zdq.2 he, Bool.false_eq_true, if_false]; exact Zlj hne
       · simp only [delL, Zdq.2 he, Bool.false_eq_true, if_false]; rw [Zpj l hne]
def kv (p : Z6) : KV := (p.Key, p.Rec)
def pl (t : Zs) : List KV := t.L.map kv
theorem Zt2 (t : Zs) (i : Nat) : (pl t)[i]? = (t.L[i]?).map kv := by simp [pl]
theorem Zf1 (t : Zs) : (pl t).length = t.L.length := by simp [pl]
theorem Zvv {t : Zs} {k : ByteArray} (hb : t.L.length < 1099511627776) : ∀ (n i : Nat), i + n = t.L.length →
   Zc1 t k (n + 1) (i : Int) = some ((i + rk k ((pl t).drop i) : Nat) : Int)
 | 0, i, h => by
   have hd : decide ((i : Int) < (t.L.length : Int)) = false := by simp; omega
   rw [Zc1, hd, List.drop_of_length_le (by rw [Zf1]; omega)]
   simp [gd, rk]
 | n + 1, i, h => by
   have hd : decide ((i : Int) < (t.L.length : Int)) = true := by simp; omega
   have hi : i < t.L.length := by omega
   have hi' : i < (pl t).length := by rw [Zf1]; exact hi
   rw [Zc1, hd, Zc6 hi, List.drop_eq_getElem_cons hi', wr1 (by omega)]
   have hg : (pl t)[i] = kv t.L[i] := by simp [pl]
   rw [hg]
   simp only [gd_t, Option.bind_some, Bool.true_and, rk]
   by_cases hk : sLt t.L[i].Key k = true
   · have hk' : sLt (kv t.L[i]).1 k = true := hk
     rw [if_pos hk, if_pos hk', Zvv hb n (i + 1) (by omega)]
     congr 2; omega
   · have hk' : ¬ sLt (kv t.L[i]).1 k = true := hk
     rw [if_neg hk, if_neg hk']; rfl
theorem Zxv {t : Zs} {k : ByteArray} (hb : t.L.length < 1099511627776) : Zel t k = some (rk k (pl t) : Int) := by
 unfold Zel
 have := Zvv (k := k) hb t.L.length 0 (by omega)
 rw [show ((0 : Nat) : Int) = 0 from rfl] at this
 rw [show (Int.toNat ((t.L.length : Int) - (0 : Int)) + 1) = t.L.length + 1 by omega, this]
 simp
structure Rel (s : Zn) (t : Zs) (n : Nat) : Prop where
 top : toL s.top = pl t
 sz : Szd s.top
 srt : Srt (pl t)
 len : t.L.length ≤ n
 room : s.room = t.Room
 ok : ∀ q ∈ pl t, Zhs q.2 ∧ q.2.List.length ≤ 100
theorem Rel.cl {s : Zn} {t : Zs} {n : Nat} (h : Rel s t n) : ∀ q ∈ toL s.top, Cl q.2 := fun q hq => by
 rw [h.top] at hq
 have := (h.ok q hq).2
 unfold Cl; omega
theorem Rel.mono {s : Zn} {t : Zs} {n m : Nat} (h : Rel s t n) (hm : n ≤ m) : Rel s t m := ⟨h.top, h.sz, h.srt, Nat.le_trans h.len hm, h.room, h.ok⟩
theorem Rel.tl {s : Zn} {t : Zs} {n : Nat} (h : Rel s t n) : (toL s.top).length = t.L.length := by rw [h.top, Zf1]
theorem Z6i (r : Int) : Rel { top := .nil, room := r } { L := [], Room := r } 0 := ⟨rfl, trivial, List.Pairwise.nil, Nat.le_refl _, rfl, fun q h => by simp [pl] at h⟩
theorem Zop {s : Zn} {t : Zs} {n : Nat} (h : Rel s t n) (k : ByteArray) : Zfa s k = some (getR (lk k (pl t))) := by
 rw [Z8z (by rw [h.top]; exact h.srt) h.cl, h.top]
theorem Z0m {s : Zn} {t : Zs} {n : Nat} (h : Rel s t n) : Zdt s = some (t.L.length : Int) := by
 unfold Zdt
 rw [Zhh h.sz, h.tl]; rfl
theorem Ztb (t : Zs) (i : Nat) : (t.L.take i).map kv = (pl t).take i := by simp [pl]
theorem Zsw (t : Zs) (i : Nat) : (t.L.drop i).map kv = (pl t).drop i := by simp [pl]
theorem Z4n {s : Zn} {t : Zs} {n : Nat} (h : Rel s t n) (hn : n < 1000000) (k : ByteArray) : ∃ s' t' b, Zeq s k = some (s', b) ∧ Zlp t k = some (t', b) ∧ Rel s' t' n ∧ (pl t' = pl t ∨ pl t' = delL k (pl t)) := by
 have hb := h.len
 have hle := Zww k (pl t)
 rw [Zf1] at hle
 unfold Zeq Zlp
 rw [Zop h, Zxv (by omega)]
 simp only [Option.bind_some]
 rcases Zoo default h.srt with ⟨p, a1, a2, a3, _, a5⟩ | ⟨a1, a2, _, a4⟩
 · have hi : rk k (pl t) < t.L.length := by
     have := (List.getElem?_eq_some_iff.1 a1).1
     rwa [Zf1] at this
   rw [a3]
   have hd : decide ((t.L.length : Int) ≤ ((rk k (pl t) : Nat) : Int)) = false := by simp; omega
   have hg : (pl t)[rk k (pl t)]? = some (kv t.L[rk k (pl t)]) := by rw [Zt2, List.getElem?_eq_getElem hi]; rfl
   rw [hg] at a1
   obtain rfl := Option.some.inj a1
   have he : sEq (t.L[rk k (pl t)]).Key k = true := Zda.2 a2
   rw [hd, Zc6 hi]
   obtain ⟨t1, c1, z1, l1⟩ := Z0o (k := k) h.sz (by rw [h.top]; exact h.srt) (by rw [h.tl]; omega)
   rw [c1]
   simp only [getR, Bool.not_true, Bool.false_eq_true, if_false, Option.bind_some, Bool.not_false, gd_t, he, Bool.or_false, Bool.or_self]
   rw [show (0 : Int) = ((0 : Nat) : Int) from rfl, Zmc (by omega) (by omega), wr1 (by omega), Zmc (by omega) (by omega)]
   simp only [Option.bind_some, List.nil_append, List.drop_zero, Nat.sub_zero, List.length_nil, Nat.zero_add]
   have ht : (List.take (t.L.length - (rk k (pl t) + 1)) (List.drop (rk k (pl t) + 1) t.L)) = List.drop (rk k (pl t) + 1) t.L := List.take_of_length_le (by simp)
   rw [ht, if_pos (by simp; omega), if_pos (by simp; omega)]
   have hpl : pl { L := List.take (rk k (pl t)) t.L ++ List.drop (rk k (pl t) + 1) t.L, Room := t.Room } = delL k (pl t) := by
     rw [a5, ← Ztb, ← Zsw, ← List.map_append]; rfl
   refine ⟨_, _, true, rfl, rfl, ⟨?_, z1, ?_, ?_, h.room, ?_⟩, .inr hpl⟩
   · rw [hpl, l1, h.top]
   · rw [hpl]; exact Zuv h.srt
   · simp; omega
   · intro q hq
     rw [hpl] at hq
     exact h.ok q (Zot hq)
 · rw [a2]
   simp only [getR, Bool.not_false, if_true]
   by_cases hi : rk k (pl t) < t.L.length
   · have hd : decide ((t.L.length : Int) ≤ ((rk k (pl t) : Nat) : Int)) = false := by simp; omega
     have hg : (pl t)[rk k (pl t)]? = some (kv t.L[rk k (pl t)]) := by rw [Zt2, List.getElem?_eq_getElem hi]; rfl
     have he : sEq (t.L[rk k (pl t)]).Key k = false := Zdq.2 (a1 _ hg)
     rw [hd, Zc6 hi]
     simp only [Bool.not_false, gd_t, Option.bind_some, he, Bool.false_or, if_true]
     exact ⟨s, t, false, rfl, rfl, h, .inl rfl⟩
   · have hd : decide ((t.L.length : Int) ≤ ((rk k (pl t) : Nat) : Int)) = true := by simp; omega
     rw [hd]
     simp only [Bool.not_true, gd_f, Option.bind_some, Bool.true_or, if_true]
     exact ⟨s, t, false, rfl, rfl, h, .inl rfl⟩
theorem Zv7 (k : ByteArray) : sEq k (⟨#[]⟩ : ByteArray) = decide ((k.size : Int) < 1) := by
 by_cases h : k = ⟨#[]⟩
 · subst h; rw [Zdg]; decide
 · rw [Zdq.2 h]
   have : k.size ≠ 0 := fun e => h (by
     apply ByteArray.ext
     exact Array.size_eq_zero_iff.1 e)
   simp; omega
theorem Zs5 {s : Zn} {t : Zs} {n : Nat} (h : Rel s t n) (hn : n < 1000000) (k : ByteArray) {x : Zd} (hx : Zhs x) (hx2 : x.List.length ≤ 100) :
   ∃ s' t' c, Zdw s k x = some (s', c) ∧ Zfm t k x = some (t', c) ∧ Rel s' t' (n + 1) ∧ (pl t' = pl t ∨ (pl t' = insL k x (pl t) ∧ Zd2 x = some 0 ∧ ¬ (k.size : Int) < 1 ∧ ¬ (24 : Int) < (k.size : Int))) := by
 have hb := h.len
 have hle := Zww k (pl t)
 rw [Zf1] at hle
 obtain ⟨c, hc1, hc2⟩ := Zne hx
 unfold Zdw Zfm
 rw [hc1, hc2, Zop h, Zxv (by omega), Z0m h, Zpi (by unfold Cl; omega), Zv7, h.room]
 by_cases h1 : (decide ((k.size : Int) < 1) || decide ((24 : Int) < (k.size : Int))) = true
 · rw [if_pos h1, if_pos h1]
   exact ⟨s, t, 1, rfl, rfl, h.mono (by omega), .inl rfl⟩
 · rw [if_neg h1, if_neg h1]
   simp only [Option.bind_some]
   by_cases h2 : (c != 0) = true
   · rw [if_pos h2, if_pos h2]
     exact ⟨s, t, c, rfl, rfl, h.mono (by omega), .inl rfl⟩
   · rw [if_neg h2, if_neg h2]
     obtain ⟨t1, e1, z1, l1⟩ := Zz7 (k := k) (x := x) h.sz (by rw [h.top]; exact h.srt) (by rw [h.tl]; omega)
     rw [e1]
     have h20 : c = 0 := by simpa using h2
     have h11 : ¬ (k.size : Int) < 1 := fun h' => h1 (by simp [h'])
     have h12 : ¬ (24 : Int) < (k.size : Int) := fun h' => h1 (by simp [h'])
     have hmk : ∀ L' : List Z6, L'.map kv = insL k x (pl t) → Rel { top := t1, room := t.Room } { L := L', Room := t.Room } (n + 1) ∧ (pl { L := L', Room := t.Room } = pl t ∨ (pl { L := L', Room := t.Room } = insL k x (pl t) ∧ some c = some (0 : Int) ∧ ¬ (k.size : Int) < 1 ∧ ¬ (24 : Int) < (k.size : Int))) := fun L' hL => by
       have hpl : pl { L := L', Room := t.Room } = insL k x (pl t) := hL
       refine ⟨⟨by rw [hpl, l1, h.top], z1, by rw [hpl]; exact Zu8 h.srt, ?_, rfl, ?_⟩, .inr ⟨hpl, by rw [h20], h11, h12⟩⟩
       · have := Znz k x (pl t)
         rw [← hL, Zf1] at this
         simp at this
         show L'.length ≤ n + 1
         omega
       · intro q hq
         rw [hpl] at hq
         rcases Zox hq with rfl | hq
         · exact ⟨hx, hx2⟩
         · exact h.ok q hq
     rcases Zoo x h.srt with ⟨p, a1, a2, a3, a4, _⟩ | ⟨a1, a2, a3, _⟩
     · have hi : rk k (pl t) < t.L.length := by
         have := (List.getElem?_eq_some_iff.1 a1).1
         rwa [Zf1] at this
       have hd : decide (((rk k (pl t) : Nat) : Int) < (t.L.length : Int)) = true := by simp; omega
       have hg : (pl t)[rk k (pl t)]? = some (kv t.L[rk k (pl t)]) := by rw [Zt2, List.getElem?_eq_getElem hi]; rfl
       rw [hg] at a1
       obtain rfl := Option.some.inj a1
       have he : sEq (t.L[rk k (pl t)]).Key k = true := Zda.2 a2
       rw [a3, hd, Zc6 hi]
       simp only [getR, Bool.not_true, Bool.false_and, Bool.false_eq_true, if_false, gd_f, gd_t, Option.bind_some, he, Bool.and_self, Bool.true_and, if_true]
       rw [show (0 : Int) = ((0 : Nat) : Int) from rfl, Zmc (by omega) (by omega), wr1 (by omega)]
       simp only [Option.bind_some, List.nil_append, List.drop_zero, Nat.sub_zero, List.length_nil, Nat.zero_add, Zd8]
       rw [if_pos (by simp; omega), if_pos (by simp; omega), Zmc (by omega) (by omega)]
       have ht : (List.take (t.L.length - (rk k (pl t) + 1)) (List.drop (rk k (pl t) + 1) t.L)) = List.drop (rk k (pl t) + 1) t.L := List.take_of_length_le (by simp)
       simp only [Option.bind_some, ht, List.nil_append]
       rw [if_pos (by simp; omega)]
       refine ⟨_, _, 0, rfl, rfl, hmk _ ?_⟩
       rw [a4]; simp [Ztb, Zsw, kv, pl]
     · rw [a2]
       simp only [getR, Bool.not_false, gd_t, Option.bind_some, Bool.true_and]
       have hne : (decide (((rk k (pl t) : Nat) : Int) < (t.L.length : Int)) && sEq (((gd (decide (((rk k (pl t) : Nat) : Int) < (t.L.length : Int))) (idx t.L ((rk k (pl t) : Nat) : Int))).getD default).Key) k) = false := by
         by_cases hi : rk k (pl t) < t.L.length
         · have hg : (pl t)[rk k (pl t)]? = some (kv t.L[rk k (pl t)]) := by rw [Zt2, List.getElem?_eq_getElem hi]; rfl
           have he : sEq (t.L[rk k (pl t)]).Key k = false := Zdq.2 (a1 _ hg)
           have hd : decide (((rk k (pl t) : Nat) : Int) < (t.L.length : Int)) = true := by simp; omega
           rw [hd, Zc6 hi]
           simp [gd, he]
         · have hd : decide (((rk k (pl t) : Nat) : Int) < (t.L.length : Int)) = false := by simp; omega
           rw [hd]; rfl
       have hex : ∃ e, gd (decide (((rk k (pl t) : Nat) : Int) < (t.L.length : Int))) (idx t.L ((rk k (pl t) : Nat) : Int)) = some e := by
         by_cases hi : rk k (pl t) < t.L.length
         · rw [Zc6 hi]
           cases decide (((rk k (pl t) : Nat) : Int) < (t.L.length : Int)) <;> exact ⟨_, rfl⟩
         · have hd : decide (((rk k (pl t) : Nat) : Int) < (t.L.length : Int)) = false := by simp; omega
           rw [hd]; exact ⟨_, rfl⟩
       obtain ⟨e, hee⟩ := hex
       rw [hee] at hne ⊢
       simp only [Option.getD_some] at hne
       simp only [Option.bind_some, hne, Bool.not_false, Bool.true_and]
       by_cases h5 : decide (t.Room ≤ (t.L.length : Int)) = true
       · rw [if_pos h5, if_pos h5]
         exact ⟨s, t, 8, rfl, rfl, h.mono (by omega), .inl rfl⟩
       · rw [if_neg h5, if_neg h5]
         rw [show (0 : Int) = ((0 : Nat) : Int) from rfl, Zmc (by omega) (by omega)]
         simp only [Option.bind_some, List.nil_append, List.drop_zero, Nat.sub_zero, List.length_nil, Nat.zero_add, Zd8, Bool.false_eq_true, if_false]
         rw [if_pos (by simp; omega), if_pos (by simp; omega), Zmc (by omega) (by omega)]
         have ht : (List.take (t.L.length - rk k (pl t)) (List.drop (rk k (pl t)) t.L)) = List.drop (rk k (pl t)) t.L := List.take_of_length_le (by simp)
         simp only [Option.bind_some, ht, List.nil_append]
         rw [if_pos (by simp; omega)]
         refine ⟨_, _, 0, rfl, rfl, hmk _ ?_⟩
         rw [a3]; simp [Ztb, Zsw, kv, pl]
theorem Zxh : ∀ l : List Zi, eqL l l = true
 | [] => rfl
 | x :: l => by simp [eqL, eqI, Zdg, Zxh l]
theorem Z1z (a : Zd) : Zjc a a = true := by simp [Zjc, Zdg, Zxh]
theorem Zx6 {k : ByteArray} {r : Zd} : ∀ {l : List KV}, lk k l = some r → (k, r) ∈ l
 | [], h => by cases h
 | p :: l, h => by
   simp only [lk] at h
   split at h
   · rename_i he
     obtain rfl := Option.some.inj h
     have := Zda.1 he
     subst this
     exact List.mem_cons_self ..
   · exact List.mem_cons_of_mem _ (Zx6 h)
theorem Zuc {r : Zd} (h : Zcc r) : r.List.length ≤ 32 := by
 by_cases hk : 8 ≤ r.Kind
 · have := h.2.2.2.2.2.2 hk
   omega
 · have h1 := h.2.2.1
   have h8 : decide (8 ≤ r.Kind) = false := by simpa using hk
   rw [h8] at h1
   simp only [Zgr, Bool.false_or, Bool.and_eq_true, beq_iff_eq] at h1
   have := h1.2.2
   omega
theorem Zvs {s s' : Zn} {k : ByteArray} {x : Zd} {c : Int} (h : Zdw s k x = some (s', c)) : s'.room = s.room := by
 unfold Zdw at h
 split at h
 · cases h; rfl
 · obtain ⟨_, _, h⟩ := Option.bind_eq_some_iff.1 h
   split at h
   · cases h; rfl
   · obtain ⟨_, _, h⟩ := Option.bind_eq_some_iff.1 h
     obtain ⟨_, _, h⟩ := Option.bind_eq_some_iff.1 h
     split at h
     · cases h; rfl
     · obtain ⟨_, _, h⟩ := Option.bind_eq_some_iff.1 h
       obtain ⟨_, _, h⟩ := Option.bind_eq_some_iff.1 h
       cases h; rfl
theorem Z11 {s s' : Zn} {k : ByteArray} {b : Bool} (h : Zeq s k = some (s', b)) : s'.room = s.room := by
 unfold Zeq at h
 obtain ⟨_, _, h⟩ := Option.bind_eq_some_iff.1 h
 split at h
 · cases h; rfl
 · obtain ⟨_, _, h⟩ := Option.bind_eq_some_iff.1 h
   cases h; rfl
theorem Zta {s s' : Zn} {t : Zs} {n : Nat} (h : Rel s t n) (hn : n < 1000000) {k : ByteArray} {x : Zd} {c : Int} (e : Zdw s k x = some (s', c)) (hc : Zd2 x = some 0) (hx : x.List.length ≤ 100) (hk : sEq k ⟨#[]⟩ = false) (hk2 : k.size ≤ 24) :
   (((lk k (pl t)).isSome = true ∨ (t.L.length : Int) < t.Room) → c = 0 ∧ toL s'.top = insL k x (pl t)) ∧ ((lk k (pl t)).isNone = true → t.Room ≤ (t.L.length : Int) → c = 8 ∧ s' = s) := by
 have hb := h.len
 obtain ⟨t1, q1, _, q3⟩ := Zz7 (k := k) (x := x) h.sz (by rw [h.top]; exact h.srt) (by rw [h.tl]; omega)
 unfold Zdw at e
 rw [hk, hc, Zop h, Z0m h, Zpi (by unfold Cl; omega)] at e
 have hd : decide ((24 : Int) < (k.size : Int)) = false := by simp; omega
 rw [hd] at e
 simp only [Bool.or_self, Bool.false_eq_true, if_false, Option.bind_some, bne_self_eq_false] at e
 cases hl : lk k (pl t) with
 | none =>
   rw [hl] at e
   simp only [getR, Bool.not_false, gd_t, Option.bind_some, Bool.true_and, h.room] at e
   by_cases hr : t.Room ≤ (t.L.length : Int)
   · rw [if_pos (by simpa using hr)] at e
     cases e
     refine ⟨fun h => ?_, fun _ _ => ⟨rfl, rfl⟩⟩
     rcases h with h | h
     · cases h
     · omega
   · rw [if_neg (by simpa using hr), q1] at e
     cases e
     exact ⟨fun _ => ⟨rfl, by rw [← h.top]; exact q3⟩, fun _ h => absurd h hr⟩
 | some r =>
   rw [hl] at e
   simp only [getR, Bool.not_true, gd_f, Option.bind_some, Bool.false_and, Bool.false_eq_true, if_false] at e
   rw [q1] at e
   cases e
   exact ⟨fun _ => ⟨rfl, by rw [← h.top]; exact q3⟩, fun h => by cases h⟩
structure FR (s : Zn) (t : Zs) (n : Nat) : Prop where
 rel : Rel s t n
 good : ∀ q ∈ pl t, RecW q.2 ∧ Zcc q.2
 fit : (t.L.length : Int) ≤ t.Room
theorem Zyy {k : ByteArray} {x r : Zd} {l : List KV} (hs : Srt l) (h : lk k l = some r) : (insL k x l).length = l.length := by
 rcases Zoo x hs with ⟨p, a1, a2, a3, a4, _⟩ | ⟨_, a2, _⟩
 · rw [a4]
   have := (List.getElem?_eq_some_iff.1 a1).1
   simp; omega
 · rw [h] at a2; cases a2
theorem FR.mono {s : Zn} {t : Zs} {n m : Nat} (h : FR s t n) (hm : n ≤ m) : FR s t m := ⟨h.rel.mono hm, h.good, h.fit⟩
theorem Z9k {s : Zn} {t t' : Zs} {n : Nat} (h : Rel s t n) (hp : pl t' = pl t) (hr : t'.Room = t.Room) : Rel s t' n :=
 ⟨h.top.trans hp.symm, h.sz, by rw [hp]; exact h.srt, by rw [← Zf1, hp, Zf1]; exact h.len, h.room.trans hr.symm, by rw [hp]; exact h.ok⟩
theorem Z7r {s : Zn} {t t' : Zs} {n : Nat} (h : FR s t n) (hp : pl t' = pl t) (hr : t'.Room = t.Room) : FR s t' n :=
 ⟨Z9k h.rel hp hr, by rw [hp]; exact h.good, by rw [hr, ← Zf1, hp, Zf1]; exact h.fit⟩
theorem Z15 {s s' : Zn} {t t' : Zs} {n m : Nat} {k : ByteArray} {x : Zd} (h : FR s t n) (hr : Rel s' t' m) (hw : RecW x) (hg : Zcc x) (ho : (lk k (pl t)).isSome = true ∨ (t.L.length : Int) < t.Room) (hp : pl t' = insL k x (pl t)) (hro : t'.Room = t.Room) : FR s' t' m := ⟨hr, fun q hq => by
 rw [hp] at hq
 rcases Zox hq with rfl | hq
 · exact ⟨hw, hg⟩
 · exact h.good q hq, by
 have hf := h.fit
 rw [hro, ← Zf1, hp]
 have hl := Znz k x (pl t)
 rw [Zf1] at hl
 rcases ho with ho | ho
 · obtain ⟨r, hr⟩ := Option.isSome_iff_exists.1 ho
   rw [Zyy h.rel.srt hr, Zf1]; exact hf
 · omega⟩
theorem Z80 {a : Zm} (ha : ActIn a) (h : Ze9 a = some 0) : sEq a.Key ⟨#[]⟩ = false ∧ a.Key.size ≤ 24 := by
 obtain ⟨c, h1, _, h3⟩ := Zn8 ha.ok
 rw [h] at h1
 obtain rfl := Option.some.inj h1
 exact ⟨(h3 rfl).2.2.2.2.2.2.2.1, (h3 rfl).2.2.2.2.2.2.2.2⟩
theorem Z3b (k k' : ByteArray) (x : Zd) : ∀ l : List KV, lk k (insL k' x l) = if sEq k k' = true then some x else lk k l
 | [] => rfl
 | p :: l => by
   simp only [insL]
   by_cases h1 : sLt k' p.1 = true
   · rw [if_pos h1]; simp only [lk]
   · rw [if_neg h1]
     by_cases h2 : sEq k' p.1 = true
     · rw [if_pos h2]
       have e := Zda.1 h2
       simp only [lk, ← e]
       by_cases h3 : sEq k k' = true
       · rw [if_pos h3, if_pos h3]
       · rw [if_neg h3, if_neg h3, if_neg h3]
     · rw [if_neg h2]
       simp only [lk, Z3b k k' x l]
       by_cases h3 : sEq k p.1 = true
       · have h4 : ¬ sEq k k' = true := fun h => h2 (by rw [← Zda.1 h]; exact h3)
         rw [if_pos h3, if_neg h4, if_pos h3]
       · rw [if_neg h3, if_neg h3]
theorem Z2t (k k' : ByteArray) : ∀ {l : List KV}, Srt l → lk k (delL k' l) = if sEq k k' = true then none else lk k l
 | [], _ => by simp [delL, lk]
 | p :: l, hs => by
   obtain ⟨h1, h2⟩ := List.pairwise_cons.1 hs
   simp only [delL]
   by_cases h : sEq k' p.1 = true
   · rw [if_pos h]
     have e := Zda.1 h
     by_cases h3 : sEq k k' = true
     · rw [if_pos h3]
       refine Zlj fun q hq e2 => ?_
       have := h1 q hq
       rw [e2, Zda.1 h3, e, Zf9] at this; cases this
     · rw [if_neg h3]
       simp only [lk, ← e]
       rw [if_neg h3]
   · rw [if_neg h]
     simp only [lk, Z2t k k' h2]
     by_cases h3 : sEq k p.1 = true
     · have h4 : ¬ sEq k k' = true := fun h5 => h (by rw [← Zda.1 h5]; exact h3)
       rw [if_pos h3, if_neg h4, if_pos h3]
     · rw [if_neg h3, if_neg h3]
theorem Zrd : ∀ {A B : List KV}, Srt A → Srt B → (∀ k, lk k A = lk k B) → A = B
 | [], [], _, _, _ => rfl
 | [], q :: B, _, _, h => by have := h q.1; simp [lk, Zdg] at this
 | p :: A, [], _, _, h => by have := h p.1; simp [lk, Zdg] at this
 | p :: A, q :: B, hA, hB, h => by
   obtain ⟨a1, a2⟩ := List.pairwise_cons.1 hA
   obtain ⟨b1, b2⟩ := List.pairwise_cons.1 hB
   have far : ∀ {k : ByteArray} {z : KV} {Z : List KV}, (∀ q ∈ Z, sLt z.1 q.1 = true) → sLt k z.1 = true → lk k (z :: Z) = none := fun {k z Z} hz hk => by
     refine Zlj fun q hq e => ?_
     rcases List.mem_cons.1 hq with rfl | hq
     · rw [e, Zf9] at hk; cases hk
     · have := Ze0 hk (hz q hq)
       rw [e, Zf9] at this; cases this
   have hp := h p.1
   have hq := h q.1
   have e : p.1 = q.1 := Classical.byContradiction fun hn => by
     cases hlt : sLt p.1 q.1
     · have := far a1 (Zkw hlt hn)
       rw [this] at hq
       simp [lk, Zdg] at hq
     · have := far b1 hlt
       rw [this] at hp
       simp [lk, Zdg] at hp
   have e2 : p.2 = q.2 := by
     simp only [lk, e, Zdg, if_true] at hp
     exact Option.some.inj hp
   have e3 : A = B := Zrd a2 b2 fun k => by
     by_cases hk : sEq k p.1 = true
     · have ek := Zda.1 hk
       have n1 : lk k A = none := Zlj fun z hz e4 => by
         have := a1 z hz
         rw [e4, ek, Zf9] at this; cases this
       have n2 : lk k B = none := Zlj fun z hz e4 => by
         have := b1 z hz
         rw [e4, ek, e, Zf9] at this; cases this
       rw [n1, n2]
     · have := h k
       simp only [lk] at this
       rw [if_neg hk, if_neg (by rw [← e]; exact hk)] at this
       exact this
   obtain ⟨p1, p2⟩ := p
   obtain ⟨q1, q2⟩ := q
   have e : p1 = q1 := e
   have e2 : p2 = q2 := e2
   rw [e, e2, e3]
def upd (k : ByteArray) (o : Option Zd) (l : List KV) : List KV := match o with
 | some x => insL k x l
 | none => delL k l
theorem Zh8 {k : ByteArray} {o : Option Zd} {l : List KV} (h : Srt l) : Srt (upd k o l) := by
 cases o with
 | none => exact Zuv h
 | some x => exact Zu8 h
theorem Zjp {k k' : ByteArray} {o : Option Zd} {l : List KV} (h : Srt l) : lk k (upd k' o l) = if sEq k k' = true then o else lk k l := by
 cases o with
 | none => exact Z2t k k' h
 | some x => exact Z3b k k' x l
theorem Zyd {k : ByteArray} {l : List KV} (h : Srt l) : upd k (lk k l) l = l := Zrd (Zh8 h) h fun z => by
 rw [Zjp h]
 split
 · rename_i he; rw [Zda.1 he]
 · rfl
theorem Zz2 {k : ByteArray} {o o' : Option Zd} {l : List KV} (h : Srt l) : upd k o (upd k o' l) = upd k o l := Zrd (Zh8 (Zh8 h)) (Zh8 h) fun z => by
 rw [Zjp (Zh8 h), Zjp h, Zjp h]
 split <;> rfl
theorem Z49 {k k' : ByteArray} {o o' : Option Zd} {l : List KV} (h : Srt l) (hn : k ≠ k') : upd k o (upd k' o' l) = upd k' o' (upd k o l) := Zrd (Zh8 (Zh8 h)) (Zh8 (Zh8 h)) fun z => by
 rw [Zjp (Zh8 h), Zjp h, Zjp (Zh8 h), Zjp h]
 by_cases h1 : sEq z k = true
 · have h2 : ¬ sEq z k' = true := fun h2 => hn ((Zda.1 h1).symm.trans (Zda.1 h2))
   rw [if_pos h1, if_neg h2, if_pos h1]
 · rw [if_neg h1, if_neg h1]
theorem Z7n {k : ByteArray} {o : Option Zd} {l : List KV} (h : Srt l) (he : o.isSome = (lk k l).isSome) : (upd k o l).length = l.length := by
 cases o with
 | none =>
   have hl : lk k l = none := by cases hq : lk k l with | none => rfl | some r => rw [hq] at he; cases he
   have := Zyd (k := k) h
   rw [hl] at this
   rw [this]
 | some x =>
   obtain ⟨r, hr⟩ := Option.isSome_iff_exists.1 he.symm
   exact Zyy h hr
theorem Z7t {k : ByteArray} {o : Option Zd} {l : List KV} {q : KV} (h : q ∈ upd k o l) : q ∈ l ∨ ∃ x, o = some x ∧ q = (k, x) := by
 cases o with
 | none => exact .inl (Zot h)
 | some x =>
   rcases Zox h with rfl | h
   · exact .inr ⟨x, rfl, rfl⟩
   · exact .inl h
def ap (o : Option Zd) (a : Zm) : Option (Option Zd × Zh) := (Zcn (getR o).1 (getR o).2 a).bind fun z => some (if z.2.2.Code = 0 then (if z.2.1 = true then some z.1 else none) else o, z.2.2)
def OkO (o : Option Zd) : Prop := ∀ r, o = some r → RecW r ∧ Zcc r
theorem Zmn {ψ : Nat → Nat → Option Nat} {r r' : Zd} {a : Zm} {d o : Zh} {c : Int} (h1 : Zcu ψ r a d = some (c, r', o)) : r'.Kind = r.Kind := by
 unfold Zcu at h1
 obtain ⟨m, _, h1⟩ := Option.bind_eq_some_iff.1 h1
 simp only [Option.some.injEq, Prod.mk.injEq] at h1
 rw [← h1.2.1]
theorem Zze {r r' : Zd} {a : Zm} {o : Zh} {c : Int} (h5 : 5 ≤ a.Kind) (h21 : a.Kind ≤ 21) (h1 : Z3 a.Kind r a default = some (c, r', o)) : r'.Kind = r.Kind := by
 have hk' : a.Kind = 5 ∨ a.Kind = 6 ∨ a.Kind = 7 ∨ a.Kind = 8 ∨ a.Kind = 9 ∨ a.Kind = 10 ∨ a.Kind = 11 ∨ a.Kind = 12 ∨ a.Kind = 13 ∨ a.Kind = 14 ∨ a.Kind = 15 ∨ a.Kind = 16 ∨ a.Kind = 17 ∨ a.Kind = 18 ∨ a.Kind = 19 ∨ a.Kind = 20 ∨ a.Kind = 21 := by omega
 have two : ∀ {b : Bool} {u v : Int × Zd × Zh}, (if b = true then some u else some v) = some (c, r', o) → u.2.1.Kind = r.Kind → v.2.1.Kind = r.Kind → r'.Kind = r.Kind := fun {b u v} h hu hv => by
   split at h
   · obtain rfl := Option.some.inj h; exact hu
   · obtain rfl := Option.some.inj h; exact hv
 rcases hk' with h | h | h | h | h | h | h | h | h | h | h | h | h | h | h | h | h
 · have e : Z3 a.Kind r a default = Zgn r a default := by rw [h]; rfl
   rw [e] at h1
   simp only [Zgn, Option.some.injEq, Prod.mk.injEq] at h1
   rw [← h1.2.1]
 · have e : Z3 a.Kind r a default = Ze4 r a default := by rw [h]; rfl
   rw [e] at h1
   unfold Ze4 at h1
   obtain ⟨m, _, h1⟩ := Option.bind_eq_some_iff.1 h1
   simp only [Option.some.injEq, Prod.mk.injEq] at h1
   rw [← h1.2.1]
 · have e : Z3 a.Kind r a default = Zgq r a default := by rw [h]; rfl
   rw [e] at h1
   simp only [Zgq, Option.some.injEq, Prod.mk.injEq] at h1
   rw [← h1.2.1]
 · have e : Z3 a.Kind r a default = Zi7 r a default := by rw [h]; rfl
   rw [e] at h1
   exact two h1 rfl rfl
 · have e : Z3 a.Kind r a default = Zde r a default := by rw [h]; rfl
   rw [e] at h1
   exact two h1 rfl rfl
 · have e : Z3 a.Kind r a default = Zfr r a default := by rw [h]; rfl
   rw [e] at h1
   exact two h1 rfl rfl
 · have e : Z3 a.Kind r a default = Zfp r a default := by rw [h]; rfl
   rw [e] at h1
   exact two h1 rfl rfl
 · have e : Z3 a.Kind r a default = Zde r a default := by rw [h]; rfl
   rw [e] at h1
   exact two h1 rfl rfl
 · have e : Z3 a.Kind r a default = Zcu (fun x y => Zju x y) r a default := by rw [h]; rfl
   rw [e] at h1; exact Zmn h1
 · have e : Z3 a.Kind r a default = Zcu (fun x y => Zjv x y) r a default := by rw [h]; rfl
   rw [e] at h1; exact Zmn h1
 · have e : Z3 a.Kind r a default = Zcu (fun x y => Zhg x y) r a default := by rw [h]; rfl
   rw [e] at h1; exact Zmn h1
 · have e : Z3 a.Kind r a default = Zcu (fun x y => Zgc x y) r a default := by rw [h]; rfl
   rw [e] at h1; exact Zmn h1
 · have e : Z3 a.Kind r a default = Zcu (fun x y => Zfj x y) r a default := by rw [h]; rfl
   rw [e] at h1; exact Zmn h1
 · have e : Z3 a.Kind r a default = Zif r a default := by rw [h]; rfl
   rw [e] at h1
   unfold Zif at h1
   obtain ⟨r1, _, h1⟩ := Option.bind_eq_some_iff.1 h1
   split at h1
   · obtain ⟨rfl, rfl, rfl⟩ := by simpa using h1
     rfl
   · split at h1
     · obtain ⟨rfl, rfl, rfl⟩ := by simpa using h1
       rfl
     · obtain ⟨r5, _, h1⟩ := Option.bind_eq_some_iff.1 h1
       obtain ⟨r7, _, h1⟩ := Option.bind_eq_some_iff.1 h1
       simp only [Option.some.injEq, Prod.mk.injEq] at h1
       rw [← h1.2.1]
 · have e : Z3 a.Kind r a default = Zgj r a default := by rw [h]; rfl
   rw [e] at h1
   unfold Zgj Zhl at h1
   obtain ⟨r1, _, h1⟩ := Option.bind_eq_some_iff.1 h1
   split at h1
   · obtain ⟨r5, _, h1⟩ := Option.bind_eq_some_iff.1 h1
     obtain ⟨r7, _, h1⟩ := Option.bind_eq_some_iff.1 h1
     simp only [Option.some.injEq, Prod.mk.injEq] at h1
     rw [← h1.2.1]
   · obtain ⟨rfl, rfl, rfl⟩ := by simpa using h1
     rfl
 · have e : Z3 a.Kind r a default = Zd9 r a default := by rw [h]; rfl
   rw [e] at h1
   unfold Zd9 at h1
   obtain ⟨r1, _, h1⟩ := Option.bind_eq_some_iff.1 h1
   exact two h1 rfl rfl
 · have e : Z3 a.Kind r a default = Zhr r a default := by rw [h]; rfl
   rw [e] at h1
   unfold Zhr at h1
   obtain ⟨z, _, h1⟩ := Option.bind_eq_some_iff.1 h1
   obtain ⟨e9, _, h1⟩ := Option.bind_eq_some_iff.1 h1
   obtain ⟨r11, _, h1⟩ := Option.bind_eq_some_iff.1 h1
   split at h1
   · obtain ⟨rfl, rfl, rfl⟩ := by simpa using h1
     rfl
   · obtain ⟨r14, _, h1⟩ := Option.bind_eq_some_iff.1 h1
     obtain ⟨r16, _, h1⟩ := Option.bind_eq_some_iff.1 h1
     obtain ⟨c18, _, h1⟩ := Option.bind_eq_some_iff.1 h1
     simp only [Option.some.injEq, Prod.mk.injEq] at h1
     rw [← h1.2.1]
theorem Zzy {a : Zm} (ha : ActIn a) (hk : a.Kind ≠ 1) : ∃ x, ap none a = some (none, x) ∧ RecW x.Rec := by
 obtain ⟨z, e, hs⟩ := Zk4 (there := false) Zdd ha
 have e : Zcn zrec false a = some z := e
 simp only [ap, getR, e, Option.bind_some]
 rcases hs with ⟨c, hc, rfl⟩ | ⟨h1, h2, h3, ⟨k, k2, k3, rfl⟩ | ⟨k, k2, rfl⟩ | ⟨k, rfl⟩ | ⟨k, k2, rfl⟩ | ⟨k, k2, k3, k4, r', o, q1, q2, q3, q4, q5, rfl⟩⟩
 · exact ⟨ans c, by simp [hc], Zdd⟩
 · exact absurd k hk
 · cases k2
 · exact ⟨_, rfl, Zdd⟩
 · cases k2
 · cases k3
theorem Zu4 {r : Zd} {a : Zm} (hr : RecW r) (hg : Zcc r) (ha : ActIn a) (h1 : a.Kind ≠ 1) (h2 : a.Kind ≠ 2) : ∃ r1 x, Zcn r true a = some (r1, true, x) ∧ ap (some r) a = some (some r1, x) ∧ RecW r1 ∧ Zcc r1 ∧ r1.Kind = r.Kind ∧ RecW x.Rec := by
 obtain ⟨z, e, hs⟩ := Zk4 (there := true) hr ha
 rw [if_pos rfl] at hs
 have e' : Zcn (getR (some r)).1 (getR (some r)).2 a = some z := e
 unfold ap
 rw [e', e]
 rcases hs with ⟨c, hc, rfl⟩ | ⟨h1', h2', h3, ⟨k, k2, k3, rfl⟩ | ⟨k, k2, rfl⟩ | ⟨k, rfl⟩ | ⟨k, k2, rfl⟩ | ⟨k, k2, k3, k4, r', o, q1, q2, q3, q4, q5, rfl⟩⟩
 · exact ⟨r, ans c, rfl, by simp [hc], hr, hg, rfl, Zdd⟩
 · exact absurd k h1
 · exact absurd k h2
 · exact ⟨r, _, rfl, rfl, hr, hg, rfl, Zdd⟩
 · exact ⟨r, _, rfl, rfl, hr, hg, rfl, hr⟩
 · exact ⟨r', o, rfl, by simp [q2], q4, Zpv k k2 k4 hr hg h2' q1, Zze k k2 q1, q5⟩
theorem Ztf {r r1 : Zd} {a : Zm} {x : Zh} (hr : RecW r) (hg : Zcc r) (ha : ActIn a) (h1 : a.Kind ≠ 1) (h2 : a.Kind ≠ 2) (h : Zcn r true a = some (r1, true, x)) : ap (some r) a = some (some r1, x) := by
 obtain ⟨r2, y, e1, e2, _⟩ := Zu4 hr hg ha h1 h2
 rw [h] at e1
 simp only [Option.some.injEq, Prod.mk.injEq, true_and] at e1
 obtain ⟨rfl, rfl⟩ := e1
 exact e2
theorem Zs0 {r : Zd} {a : Zm} (hr : RecW r) (hg : Zcc r) (ha : ActIn a) (h1 : a.Kind ≠ 1) (h2 : a.Kind ≠ 2) :
   (∃ x, ∀ r', RecW r' → Zcc r' → r'.Kind = r.Kind → Zcn r' true a = some (r', true, x)) ∨ (Zir a.Kind = true ∧ a.Kind ≠ 3 ∧ (a.Kind ≠ 4 → Zfq a.Kind = some r.Kind) ∧ ∃ x, Zcn r true a = some (r, true, x)) ∨
     (Zir a.Kind = false ∧ Ze9 a = some 0 ∧ ActW a ∧ Zfq a.Kind = some r.Kind ∧ 5 ≤ a.Kind ∧ a.Kind ≤ 21) := by
 obtain ⟨c, hc, hc1, hc2⟩ := Znv hr hg ha
 by_cases c0 : c = 0
 · subst c0
   obtain ⟨l1, l2, hw, on, o1, _, _, k3, k4, k5, k6⟩ := hc2 rfl
   by_cases h3 : a.Kind = 3
   · left
     refine ⟨{ ans 0 with Num := r.Kind }, fun r' hr' hg' hk => ?_⟩
     obtain ⟨c, hc', _, hc2'⟩ := Znv hr' hg' ha
     rw [hc] at hc'
     obtain rfl := Option.some.inj hc'
     obtain ⟨_, _, _, _, _, _, _, k3', _⟩ := hc2' rfl
     rw [k3' h3, hk]
   · by_cases h4 : a.Kind = 4
     · right; left
       exact ⟨by rw [h4]; rfl, h3, fun h => absurd h4 h, _, k4 h4⟩
     · have h5 : 5 ≤ a.Kind := by
         clear k3 k4 k5 k6 hc1 hc2
         omega
       by_cases hon : on = r.Kind
       · right
         by_cases hrd : Zir a.Kind = true
         · left
           refine ⟨hrd, h3, fun _ => by rw [o1, hon], ?_⟩
           obtain ⟨c, r', o, e1, _, _, _, e2⟩ := k6 h5 hon
           by_cases hz : c = 0
           · subst hz
             have : r' = r := Zt0 (by unfold Zir at hrd; simp only [Bool.or_eq_true, beq_iff_eq] at hrd; omega) hr hg (by rw [o1, hon]) e1
             subst this
             exact ⟨o, e2⟩
           · rw [if_neg hz] at e2
             exact ⟨_, e2⟩
         · right
           exact ⟨by simpa using hrd, hc, hw, by rw [o1, hon], h5, l2⟩
       · left
         refine ⟨ans 5, fun r' hr' hg' hk => ?_⟩
         obtain ⟨c, hc', _, hc2'⟩ := Znv hr' hg' ha
         rw [hc] at hc'
         obtain rfl := Option.some.inj hc'
         obtain ⟨_, _, _, on', o1', _, _, _, _, k5', _⟩ := hc2' rfl
         rw [o1] at o1'
         obtain rfl := Option.some.inj o1'
         exact k5' h5 (by rw [hk]; exact hon)
 · left
   refine ⟨ans c, fun r' hr' hg' hk => ?_⟩
   obtain ⟨c', hc', hc1', _⟩ := Znv hr' hg' ha
   rw [hc] at hc'
   obtain rfl := Option.some.inj hc'
   exact hc1' c0
def KC (k l : Int) : Prop := 3 ≤ k ∧ k ≤ 21 ∧ 3 ≤ l ∧ l ≤ 21 ∧ ((Zir k = true ∧ Zir l = true) ∨ k = 3 ∨ l = 3 ∨ (k ≠ 4 ∧ l ≠ 4 ∧ (Zfq k ≠ Zfq l ∨ (k = l ∧ (k = 7 ∨ k = 13 ∨ k = 14 ∨ k = 19 ∨ k = 21)))))
theorem Z7f {o o1 o2 : Option Zd} {a b : Zm} {xa xb : Zh} (ho : OkO o) (ha : ActIn a) (hb : ActIn b) (hk : KC a.Kind b.Kind) (e1 : ap o a = some (o1, xa)) (e2 : ap o b = some (o2, xb)) : ∃ o3, ap o1 b = some (o3, xb) ∧ ap o2 a = some (o3, xa) := by
 obtain ⟨l1, l2, l3, l4, hk⟩ := hk
 cases o with
 | none =>
   obtain ⟨x, f1, _⟩ := Zzy ha (by omega)
   obtain ⟨y, f2, _⟩ := Zzy hb (by omega)
   rw [f1] at e1
   rw [f2] at e2
   simp only [Option.some.injEq, Prod.mk.injEq] at e1 e2
   obtain ⟨rfl, rfl⟩ := e1
   obtain ⟨rfl, rfl⟩ := e2
   exact ⟨none, f2, f1⟩
 | some r =>
   obtain ⟨hr, hg⟩ := ho r rfl
   obtain ⟨r1, x, p1, p2, p3, p4, p5, _⟩ := Zu4 hr hg ha (by omega) (by omega)
   obtain ⟨r2, y, q1, q2, q3, q4, q5, _⟩ := Zu4 hr hg hb (by omega) (by omega)
   rw [p2] at e1
   rw [q2] at e2
   simp only [Option.some.injEq, Prod.mk.injEq] at e1 e2
   obtain ⟨rfl, rfl⟩ := e1
   obtain ⟨rfl, rfl⟩ := e2
   have quiet : ∀ {a : Zm} {x x' : Zh} {r1 : Zd}, Zcn r true a = some (r1, true, x) → Zcn r true a = some (r, true, x') → r1 = r ∧ x = x' := fun h h' => by
     rw [h] at h'
     simpa using h'
   rcases Zs0 hr hg ha (by omega) (by omega) with ⟨x', hs⟩ | ⟨a1, a2, a3, x', a4⟩ | ⟨a1, a2, a3, a4, a5, a6⟩
   · obtain ⟨rfl, rfl⟩ := quiet p1 (hs r hr hg rfl)
     exact ⟨some r2, q2, Ztf q3 q4 ha (by omega) (by omega) (hs r2 q3 q4 q5)⟩
   · rcases Zs0 hr hg hb (by omega) (by omega) with ⟨y', hs⟩ | ⟨b1, b2, b3, y', b4⟩ | ⟨b1, b2, b3, b4, b5, b6⟩
     · obtain ⟨rfl, rfl⟩ := quiet q1 (hs r hr hg rfl)
       exact ⟨some r1, Ztf p3 p4 hb (by omega) (by omega) (hs r1 p3 p4 p5), p2⟩
     · obtain ⟨rfl, rfl⟩ := quiet p1 a4
       obtain ⟨rfl, rfl⟩ := quiet q1 b4
       exact ⟨_, q2, p2⟩
     · exfalso
       rcases hk with ⟨_, h⟩ | h | h | ⟨h1, h2, h3 | ⟨h3, _⟩⟩
       · rw [b1] at h; cases h
       · exact a2 h
       · rw [h] at b1; cases b1
       · exact h3 ((a3 h1).trans b4.symm)
       · rw [h3, b1] at a1; cases a1
   · rcases Zs0 hr hg hb (by omega) (by omega) with ⟨y', hs⟩ | ⟨b1, b2, b3, y', b4⟩ | ⟨b1, b2, b3, b4, b5, b6⟩
     · obtain ⟨rfl, rfl⟩ := quiet q1 (hs r hr hg rfl)
       exact ⟨some r1, Ztf p3 p4 hb (by omega) (by omega) (hs r1 p3 p4 p5), p2⟩
     · exfalso
       rcases hk with ⟨h, _⟩ | h | h | ⟨h1, h2, h3 | ⟨h3, _⟩⟩
       · rw [a1] at h; cases h
       · rw [h] at a1; cases a1
       · exact b2 h
       · exact h3 (a4.trans (b3 h2).symm)
       · rw [← h3, a1] at b1; cases b1
     · have hkk : a.Kind = b.Kind ∧ (a.Kind = 7 ∨ a.Kind = 13 ∨ a.Kind = 14 ∨ a.Kind = 19 ∨ a.Kind = 21) := by
         rcases hk with ⟨h, _⟩ | h | h | ⟨h1, h2, h3 | h3⟩
         · rw [a1] at h; cases h
         · rw [h] at a1; cases a1
         · rw [h] at b1; cases b1
         · exact absurd (a4.trans b4.symm) h3
         · exact h3
       obtain ⟨hke, hkk⟩ := hkk
       have fit : ∀ (r : Zd) (a : Zm), (a.Kind = 7 ∨ a.Kind = 13 ∨ a.Kind = 14 ∨ a.Kind = 19 ∨ a.Kind = 21) → Fits r a := fun r a h => ⟨fun h => by omega, fun h => by omega, fun h => by omega, fun h => by omega⟩
       have dr : ∀ {k : Int}, (k = 7 ∨ k = 13 ∨ k = 14 ∨ k = 19 ∨ k = 21) → Zk9 k := fun h => by unfold Zk9; omega
       have hkb : b.Kind = 7 ∨ b.Kind = 13 ∨ b.Kind = 14 ∨ b.Kind = 19 ∨ b.Kind = 21 := by omega
       obtain ⟨f1, f2, f3⟩ := Zof hr hg ha a2 (dr hkk) a4 (fit r a hkk)
       obtain ⟨g1, g2, g3⟩ := Zof hr hg hb b2 (dr hkb) b4 (fit r b hkb)
       rw [p1] at f1
       rw [q1] at g1
       simp only [Option.some.injEq, Prod.mk.injEq, true_and] at f1 g1
       obtain ⟨rfl, rfl⟩ := f1
       obtain ⟨rfl, rfl⟩ := g1
       obtain ⟨f4, _⟩ := Zof f2 f3 hb b2 (dr hkb) (by rw [(Zyu r a).1]; exact b4) (fit _ b hkb)
       obtain ⟨g4, _⟩ := Zof g2 g3 ha a2 (dr hkk) (by rw [(Zyu r b).1]; exact a4) (fit _ a hkk)
       have hc := Z4r (r := r) a3 b3 (by omega) hke.symm
       rw [← hc] at g4
       exact ⟨_, Ztf f2 f3 hb (by omega) (by omega) f4, Ztf g2 g3 ha (by omega) (by omega) g4⟩
theorem Zso {d : Zbk} (hd : ∀ a ∈ d.Acts, ActIn a) (hl : d.Acts.length ≤ 12) : ∀ (n i : Nat), i + n = d.Acts.length →
   ∃ z, Zga d (n + 1) (i : Int) = some z ∧ Zfw d (n + 1) (i : Int) = some z ∧ (z = .inr () ∨ ∃ c at_, z = .inl (c, at_) ∧ c ≠ 0)
 | 0, i, h => by
   rw [Zga, Zfw, if_neg (by simp; omega), if_neg (by simp; omega)]
   exact ⟨_, rfl, rfl, .inl rfl⟩
 | n + 1, i, h => by
   have h1 : i < d.Acts.length := by omega
   obtain ⟨c, e1, e2, _⟩ := Zn8 (hd _ (List.getElem_mem h1)).ok
   rw [Zga, Zfw, if_pos (by simp; omega), if_pos (by simp; omega), Zc6 h1, wr1 (by omega)]
   simp only [Option.bind_some]
   rw [e1, e2]
   simp only [Option.bind_some]
   by_cases hc : (c != 0) = true
   · rw [if_pos hc, if_pos hc]
     exact ⟨_, rfl, rfl, .inr ⟨_, _, rfl, by simpa using hc⟩⟩
   · rw [if_neg hc, if_neg hc]
     exact Zso hd hl n (i + 1) (by omega)
theorem Zoi {d : Zbk} (hd : ∀ a ∈ d.Acts, ActIn a) : ∃ c at_, Zkp d = some (c, at_) ∧ Zna d = some (c, at_) ∧ (c = 0 → 1 ≤ d.Acts.length ∧ d.Acts.length ≤ 12) := by
 unfold Zkp Zna
 by_cases h : d.Acts.length < 1 ∨ 12 < d.Acts.length
 · rw [if_pos (by rw [Bool.or_eq_true, beq_iff_eq, decide_eq_true_eq]; omega), if_pos (by rw [Bool.or_eq_true, decide_eq_true_eq, decide_eq_true_eq]; omega)]
   exact ⟨_, _, rfl, rfl, fun h => by cases h⟩
 · rw [if_neg (by rw [Bool.or_eq_true, beq_iff_eq, decide_eq_true_eq]; omega), if_neg (by rw [Bool.or_eq_true, decide_eq_true_eq, decide_eq_true_eq]; omega)]
   obtain ⟨z, e1, e2, hz⟩ := Zso hd (by omega) d.Acts.length 0 (by omega)
   rw [show ((0 : Nat) : Int) = 0 from rfl] at e1 e2
   rw [show (Int.toNat ((d.Acts.length : Int) - (0 : Int)) + 1) = d.Acts.length + 1 by omega, e1, e2]
   rcases hz with rfl | ⟨c, at_, rfl, hc⟩
   · exact ⟨_, _, rfl, rfl, fun _ => by omega⟩
   · exact ⟨_, _, rfl, rfl, fun h => absurd h hc⟩
def Zri (L : List Zh) : Prop := ∀ a ∈ L, RecW a.Rec
theorem Z0y {L : List Zh} {a : Zh} (h : Zri L) (ha : RecW a.Rec) : Zri (L ++ [a]) := fun b hb => by
 rcases List.mem_append.1 hb with hb | hb
 · exact h b hb
 · rw [List.mem_singleton.1 hb]; exact ha
theorem Z00 {ε β : Type} (e : Zm) (out : Zh) (i : Int) (F : Zdk → Option β) (R : Zh → Option β) :
   Zya (Zk7 e out i) F ((Zmo e out i).bind R) = if (e.Must && (out.Code != 0)) = true then F { code := out.Code, at_ := i } else R out := by
 unfold Zk7 Zmo
 by_cases h : (e.Must && (out.Code != 0)) = true
 · rw [if_pos h, if_pos h, if_pos h]; rfl
 · rw [if_neg h, if_neg h, if_neg h]; rfl
def Z3s (R : Z7) : Prop := R.Answers.length ≤ 12 ∧ Zri R.Answers
theorem Zvl {d : Zbk} (hl : d.Acts.length ≤ 40) (hw : ∀ a ∈ d.Acts, Zkm a) : ∀ (n i : Nat), i + n = d.Acts.length → Zds d (n + 1) (i : Int) = some (.inl 1) ∨ (Zds d (n + 1) (i : Int) = some (.inr ()) ∧ ∀ a ∈ d.Acts.drop i, a.Make.List.length ≤ 100)
 | 0, i, h => by
   right
   rw [Zds, if_neg (by simp; omega), List.drop_of_length_le (by omega)]
   exact ⟨rfl, fun o ho => by cases ho⟩
 | n + 1, i, h => by
   have h1 : i < d.Acts.length := by omega
   obtain ⟨c, e1, e2, e3⟩ := Z9s (hw _ (List.getElem_mem h1))
   rw [Zds, if_pos (by simp; omega), Zc6 h1, wr1 (by omega)]
   simp only [Option.bind_some]
   rw [e1]
   rcases e2 with rfl | rfl
   · simp only [Int.lt_irrefl, decide_false, Bool.false_eq_true, if_false, Option.bind_some]
     rcases Zvl hl hw n (i + 1) (by omega) with h2 | ⟨h2, h3⟩
     · exact .inl h2
     · right
       refine ⟨h2, fun o ho => ?_⟩
       rw [List.drop_eq_getElem_cons h1] at ho
       rcases List.mem_cons.1 ho with rfl | ho
       · exact e3 rfl
       · exact h3 o ho
   · left; rfl
theorem big8 {d : Zbk} (hw : Zjr d) : ∃ c, Zis d = some c ∧ (c = 0 ∨ c = 1) ∧ (c = 0 → d.Acts.length ≤ 40 ∧ ∀ a ∈ d.Acts, ActIn a) := by
 unfold Zis
 by_cases h : 40 < d.Acts.length
 · rw [if_pos (by simp; omega)]; exact ⟨1, rfl, .inr rfl, fun h => by cases h⟩
 · rw [if_neg (by simp; omega), show (Int.toNat ((d.Acts.length : Int) - (0 : Int)) + 1) = d.Acts.length + 1 by omega]
   have := Zvl (d := d) (by omega) hw.2 d.Acts.length 0 (by omega)
   rw [show ((0 : Nat) : Int) = 0 from rfl] at this
   rcases this with h1 | ⟨h1, h2⟩
   · rw [h1]; exact ⟨1, rfl, .inr rfl, fun h => by cases h⟩
   · rw [h1]; exact ⟨0, rfl, .inl rfl, fun _ => ⟨by omega, fun a ha => Z4l (hw.2 a ha) (h2 a ha)⟩⟩
theorem Ztl {l : List Zbk} (hl : l.length ≤ 40) (hw : ∀ d ∈ l, Zjr d) : ∀ (n i : Nat), i + n = l.length → Zdr l (n + 1) (i : Int) = some (.inl 1) ∨ (Zdr l (n + 1) (i : Int) = some (.inr ()) ∧ ∀ d ∈ l.drop i, d.Acts.length ≤ 40 ∧ ∀ a ∈ d.Acts, ActIn a)
 | 0, i, h => by
   right
   rw [Zdr, if_neg (by simp; omega), List.drop_of_length_le (by omega)]
   exact ⟨rfl, fun o ho => by cases ho⟩
 | n + 1, i, h => by
   have h1 : i < l.length := by omega
   obtain ⟨c, e1, e2, e3⟩ := big8 (hw _ (List.getElem_mem h1))
   rw [Zdr, if_pos (by simp; omega), Zc6 h1, wr1 (by omega)]
   simp only [Option.bind_some]
   rw [e1]
   rcases e2 with rfl | rfl
   · simp only [Int.lt_irrefl, decide_false, Bool.false_eq_true, if_false, Option.bind_some]
     rcases Ztl hl hw n (i + 1) (by omega) with h2 | ⟨h2, h3⟩
     · exact .inl h2
     · right
       refine ⟨h2, fun o ho => ?_⟩
       rw [List.drop_eq_getElem_cons h1] at ho
       rcases List.mem_cons.1 ho with rfl | ho
       · exact e3 rfl
       · exact h3 o ho
   · left; rfl
theorem Zbaa {l : List Zbk} (hw : ∀ d ∈ l, Zjr d) : ∃ c, Zhc l = some c ∧ (c = 0 ∨ c = 1) ∧ (c = 0 → l.length ≤ 40 ∧ ∀ d ∈ l, d.Acts.length ≤ 40 ∧ ∀ a ∈ d.Acts, ActIn a) := by
 unfold Zhc
 by_cases h : 40 < l.length
 · rw [if_pos (by simp; omega)]; exact ⟨1, rfl, .inr rfl, fun h => by cases h⟩
 · rw [if_neg (by simp; omega), show (Int.toNat ((l.length : Int) - (0 : Int)) + 1) = l.length + 1 by omega]
   have := Ztl (l := l) (by omega) hw l.length 0 (by omega)
   rw [show ((0 : Nat) : Int) = 0 from rfl] at this
   rcases this with h1 | ⟨h1, h2⟩
   · rw [h1]; exact ⟨1, rfl, .inr rfl, fun h => by cases h⟩
   · rw [h1]; exact ⟨0, rfl, .inl rfl, fun _ => ⟨by omega, h2⟩⟩
theorem Zti {l : List Z6} (hl : l.length ≤ 60) (hw : ∀ p ∈ l, Zgi p) {z : Zn} {r : Int} : ∀ (n i : Nat) {s : Zn} {t : Zs}, i + n = l.length → FR s t i → t.Room = r →
   (∃ s', Zdf l (n + 1) z s t (i : Int) = some (.inl (s', none))) ∨ (∃ s' t', Zdf l (n + 1) z s t (i : Int) = some (.inr (z, s', t')) ∧ FR s' t' 60 ∧ t'.Room = r)
 | 0, i, s, t, h, hf, hr => by
   right
   rw [Zdf, if_neg (by simp; omega)]
   exact ⟨s, t, rfl, hf.mono (by omega), hr⟩
 | n + 1, i, s, t, h, hf, hr => by
   have h1 : i < l.length := by omega
   have hm := hw _ (List.getElem_mem h1)
   obtain ⟨c, e1, e2, e3⟩ := Z55 (Zz1 hm.2)
   rw [Zdf, if_pos (by simp; omega), Zc6 h1, wr1 (by omega)]
   simp only [Option.bind_some]
   rw [e1]
   by_cases hk : decide ((100 : Int) < ((l[i]).Key.size : Int)) = true
   · rw [hk]; left; exact ⟨s, rfl⟩
   · rw [Bool.eq_false_iff.2 hk]
     simp only [Bool.not_false, gd_t, Option.bind_some, Bool.false_or]
     rcases e2 with rfl | rfl
     · simp only [Int.lt_irrefl, decide_false, Bool.false_eq_true, if_false]
       have hx : RecW (l[i]).Rec := Zut hm.2 (e3 rfl)
       obtain ⟨s', t', c, f1, f2, f3, f4⟩ := Zs5 hf.rel (by omega) (l[i]).Key hx.ok (e3 rfl)
       rw [f1, f2]
       simp only [Option.bind_some]
       have hro : t'.Room = t.Room := by rw [← f3.room, Zvs f1, hf.rel.room]
       refine Zti hl hw n (i + 1) (by omega) ?_ (by rw [hro, hr])
       rcases f4 with f4 | ⟨f4, f5, f6, f7⟩
       · have := Z7r hf f4 hro
         exact ⟨f3, this.good, this.fit⟩
       · refine Z15 hf f3 hx ((Zkq hx.ok).1 f5) ?_ f4 hro
         refine Classical.byContradiction fun hno => ?_
         have h1 : (lk (l[i]).Key (pl t)).isNone = true := by
           cases hz : lk (l[i]).Key (pl t) with
           | none => rfl
           | some r => exact absurd (.inl (by rw [hz]; rfl)) hno
         have h2 : t.Room ≤ (t.L.length : Int) := Int.not_lt.1 fun h => hno (.inr h)
         have hk1 : sEq (l[i]).Key ⟨#[]⟩ = false := by
           rw [Zv7]; simpa using f6
         obtain ⟨_, hs⟩ := (Zta hf.rel (by omega) f1 f5 (e3 rfl) hk1 (by omega)).2 h1 h2
         subst hs
         have ht := f3.top
         rw [hf.rel.top, f4] at ht
         rcases Zoo (k := (l[i]).Key) (l[i]).Rec hf.rel.srt with ⟨p, _, _, a3, _⟩ | ⟨_, _, a3, _⟩
         · rw [a3] at h1; cases h1
         · have hle := congrArg List.length ht
           rw [a3] at hle
           have hrk := Zww (l[i]).Key (pl t)
           simp at hle
           omega
     · left; exact ⟨s, rfl⟩
theorem Z4p {r : Int} {l : List Z6} (hw : ∀ p ∈ l, Zgi p) : (∃ s, Zf6 r l = some (s, none)) ∨ (∃ s t, Zf6 r l = some (s, some t) ∧ FR s t 60 ∧ t.Room = r ∧ 1 ≤ r ∧ r ≤ 4096) := by
 unfold Zf6 Zmq
 by_cases hr : r < 1 ∨ 4096 < r
 · rw [if_pos (by simpa using hr)]
   left; exact ⟨_, rfl⟩
 · rw [if_neg (by simpa using hr)]
   simp only [Option.bind_some, bne_self_eq_false, Bool.false_or]
   by_cases hl : 60 < l.length
   · rw [if_pos (by simp; omega)]; left; exact ⟨_, rfl⟩
   · rw [if_neg (by simp; omega), show (Int.toNat ((l.length : Int) - (0 : Int)) + 1) = l.length + 1 by omega]
     have := Zti (l := l) (by omega) hw (z := default) (r := r) l.length 0 (by omega) ⟨Z6i r, fun q hq => by simp [pl] at hq, by simp; omega⟩ rfl
     rw [show ((0 : Nat) : Int) = 0 from rfl] at this
     rcases this with ⟨s', e⟩ | ⟨s', t', e, e2, e3⟩
     · rw [e]; left; exact ⟨_, rfl⟩
     · rw [e]; right; exact ⟨s', t', rfl, e2, e3, by omega, by omega⟩
theorem Z4k : Zil = some true := by kernel_rfl
end Go.CL
