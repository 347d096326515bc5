/- A part of the proof of FoldRuns. -/
import Derived.Test.YtiggdpakpaickaaGreatDoorFoldRunsC7
import Derived.Test.YtiggdpakpaickaaGreatDoorRows
import Derived.Test.YtiggdpakpaickaaGreatDoorCards
import Derived.Test.YtiggdpakpaickaaGreatDoorTie
import Derived.SevenTiedAt
set_option linter.unusedVariables false
set_option linter.unusedSimpArgs false
namespace Go.CL
open Go
theorem Zo5 {β : Type} [Inhabited β] (c : Bool) (v : β) : gd c (some v) = some (if c then v else default) := by cases c <;> rfl
def Zug (a : Z2) : Prop := Zh2 a.Make ∧ a.X < W64
abbrev zrc : Ze := { Kind := 0, Num := 0, Low := 0, High := 0, Real := 0, Cap := 0, Text := ByteArray.empty, List := [] }
theorem Z13 : Zh2 zrc := ⟨by decide, by decide, fun e he => by cases he⟩
def actD (n x s m o1 k1 k2 : Bool) (c : Int) (a : Z2) : Int :=
 if (sEq a.Key ⟨#[]⟩ || decide ((24 : Int) < a.Key.size)) = true then 1
 else if (!(((n || a.N == 0) && (x || decide (keyf a.X = keyf 0))) && (s || sEq a.S ⟨#[]⟩) && (m || Zk3 a.Make zrc))) = true then 4
 else if decide ((if o1 = true then (64 : Int) else 16) < a.S.size) = true then 3
 else if (k2 && (decide (a.N < 0) || decide (2305843009213693952 < a.N))) = true then 1
 else if (!decide (a.X = Zcc a.X)) = true then 4
 else if k1 = true then c else 0
theorem Z5c (k : ByteArray) : (decide ((k.size : Int) < 1)) = sEq k ⟨#[]⟩ := by
 by_cases h : k = ⟨#[]⟩
 · subst h; rw [Ze8]; decide
 · rw [Zeo.2 h]
   have : k.size ≠ 0 := fun e => h (by
     apply ByteArray.ext
     exact Array.size_eq_zero_iff.1 e)
   simp; omega
theorem Z2z {a : Z2} (ha : Zug a) {w has : ByteArray} {on c : Int} {n x s m : Bool} (hc : Zee a.Make = some c) (h1 : Zno a.Kind = some ⟨w, on, has⟩) (hw : sEq w ⟨#[]⟩ = false)
   (fn : Zdf ⟨w, on, has⟩ 110 = some n) (fx : Zdf ⟨w, on, has⟩ 120 = some x) (fs : Zdf ⟨w, on, has⟩ 115 = some s) (fm : Zdf ⟨w, on, has⟩ 109 = some m) :
   Zg9 a = some (actD n x s m (on == 1) (a.Kind == 1) (a.Kind == 10 || a.Kind == 11) c a) := by
 have h0 : (0 : Nat) < W64 := by decide
 unfold Zg9 Zpz Zpe
 rw [h1]
 simp only [Option.bind_some, hw, Bool.false_eq_true, if_false, fn, fx, fs, fm, Zo5]
 rw [Zni ha.2 h0, Z4b ha.1 Z13, Zqn ha.2, hc]
 simp only [Option.bind_some, Zo5]
 unfold actD
 generalize (sEq a.Key ⟨#[]⟩ || decide ((24 : Int) < a.Key.size)) = b1
 generalize (a.N == 0) = b2
 generalize decide (keyf a.X = keyf 0) = b3
 generalize sEq a.S ⟨#[]⟩ = b4
 generalize Zk3 a.Make zrc = b5
 generalize (a.Kind == 10 || a.Kind == 11) = b6
 generalize (a.Kind == 1) = b7
 generalize (decide (a.N < 0) || decide (2305843009213693952 < a.N)) = b8
 generalize decide (a.X = Zcc a.X) = b9
 have e1 : decide ((64 : Int) < a.S.size) = decide ((if true = true then (64 : Int) else 16) < a.S.size) := rfl
 cases b1
 · have hm : ∀ (z : Bool), ((if z = true then some (64 : Int) else some 16).bind fun r8 => (if decide (r8 < (a.S.size : Int)) = true then some (3 : Int) else if (b6 && b8) = true then some 1 else if (!b9) = true then some 4 else if b7 = true then some c else some 0)) = some (if decide ((if z = true then (64 : Int) else 16) < a.S.size) = true then 3 else if (b6 && b8) = true then 1 else if (!b9) = true then 4 else if b7 = true then c else 0) := by
     intro z
     cases z <;> simp only [Bool.false_eq_true, if_false, if_true, Option.bind_some] <;> (repeat' split) <;> rfl
   rw [hm]
   cases n <;> cases x <;> cases s <;> cases m <;> cases b2 <;> cases b3 <;> cases b4 <;> cases b5 <;> rfl
 · rfl
theorem Z0m {a : Z2} (ha : Zug a) {on c : Int} {n x s m : Bool} (hc : Zdj a.Make = some c) (hk : ¬ (a.Kind < 1 ∨ 21 < a.Kind)) (ro : Zel a.Kind = some on)
   (fn : Zdx a.Kind 110 = some n) (fx : Zdx a.Kind 120 = some x) (fs : Zdx a.Kind 115 = some s) (fm : m = (a.Kind == 1)) :
   Zeg a = some (actD n x s m (on == 1) (a.Kind == 1) (a.Kind == 10 || a.Kind == 11) c a) := by
 have h0 : (0 : Nat) < W64 := by decide
 unfold Zeg
 rw [if_neg (by simpa using hk), fn, fx, fs, ro]
 simp only [Option.bind_some, Zo5, Z5c]
 rw [Zmh ha.2 h0, Zq5 ha.1 Z13, Zp1 ha.2, hc]
 simp only [Option.bind_some, Zo5]
 unfold actD
 subst fm
 have hmid : ((on == 1 && decide ((64 : Int) < a.S.size)) || ((if (!(on == 1 && decide ((64 : Int) < a.S.size))) = true then on else default) != 1 && decide ((16 : Int) < a.S.size))) = decide ((if (on == 1) = true then (64 : Int) else 16) < a.S.size) := by
   by_cases ho : on = 1
   · subst ho
     by_cases h64 : (64 : Int) < a.S.size <;> simp [h64]
   · have hb1 : (on == 1) = false := by simpa using ho
     have hb2 : (on != 1) = true := by simpa using ho
     simp [hb1, hb2]
 rw [hmid, show (a.N != 0) = !(a.N == 0) from rfl, show (a.Kind != 1) = !(a.Kind == 1) from rfl]
 generalize decide ((if (on == 1) = true then (64 : Int) else 16) < a.S.size) = b10
 generalize (sEq a.Key ⟨#[]⟩ || decide ((24 : Int) < a.Key.size)) = b1
 generalize (a.N == 0) = b2
 generalize decide (keyf a.X = keyf 0) = b3
 generalize sEq a.S ⟨#[]⟩ = b4
 generalize Zk3 a.Make zrc = b5
 generalize (a.Kind == 10 || a.Kind == 11) = b6
 generalize (a.Kind == 1) = b7
 generalize (decide (a.N < 0) || decide (2305843009213693952 < a.N)) = b8
 generalize decide (a.X = Zcc a.X) = b9
 have htail : (if b10 = true then some (3 : Int) else if (b6 && b8) = true then some 1 else if (!b9) = true then some 4 else if b7 = true then some c else some 0) = some (if b10 = true then 3 else if (b6 && b8) = true then 1 else if (!b9) = true then 4 else if b7 = true then c else 0) := by
   (repeat' split) <;> rfl
 rw [htail]
 cases b1
 · cases n <;> cases x <;> cases s <;> cases b7 <;> cases b2 <;> cases b3 <;> cases b4 <;> cases b5 <;> rfl
 · rfl
theorem Z14 {n x s m o1 k1 k2 : Bool} {c : Int} {a : Z2} (h : actD n x s m o1 k1 k2 c a = 0) : (sEq a.Key ⟨#[]⟩ || decide ((24 : Int) < a.Key.size)) = false ∧ decide ((if o1 = true then (64 : Int) else 16) < a.S.size) = false ∧ (k2 && (decide (a.N < 0) || decide (2305843009213693952 < a.N))) = false ∧ decide (a.X = Zcc a.X) = true ∧ (k1 = true → c = 0) := by
 unfold actD at h
 revert h
 generalize (sEq a.Key ⟨#[]⟩ || decide ((24 : Int) < a.Key.size)) = b1
 generalize decide ((if o1 = true then (64 : Int) else 16) < a.S.size) = b3
 generalize (k2 && (decide (a.N < 0) || decide (2305843009213693952 < a.N))) = b4
 generalize decide (a.X = Zcc a.X) = b5
 generalize (!(((n || a.N == 0) && (x || decide (keyf a.X = keyf 0))) && (s || sEq a.S ⟨#[]⟩) && (m || Zk3 a.Make zrc))) = b2
 cases b1 <;> cases b2 <;> cases b3 <;> cases b4 <;> cases b5 <;> cases k1 <;> simp
theorem Zoi {a : Z2} (ha : Zug a) : ∃ c, Zg9 a = some c ∧ Zeg a = some c ∧ (c = 0 → 1 ≤ a.Kind ∧ a.Kind ≤ 21 ∧ a.X = Zcc a.X ∧ a.S.size ≤ 64 ∧ ((a.Kind = 10 ∨ a.Kind = 11) → 0 ≤ a.N ∧ a.N ≤ 2305843009213693952) ∧ (a.Kind = 1 → Zee a.Make = some 0) ∧ (¬ (5 ≤ a.Kind ∧ a.Kind ≤ 6) → a.S.size ≤ 16) ∧ sEq a.Key ⟨#[]⟩ = false ∧ a.Key.size ≤ 24) := by
 by_cases hk : a.Kind < 1 ∨ 21 < a.Kind
 · refine ⟨5, ?_, ?_, fun h => by cases h⟩
   · unfold Zg9 Zno
     rw [if_pos (by simp; omega)]
     simp only [Option.bind_some]
     rw [if_pos (show sEq ByteArray.empty ⟨#[]⟩ = true by kernel_rfl)]
   · unfold Zeg
     rw [if_pos (by simpa using hk)]
 · obtain ⟨c, hc1, hc2⟩ := Zl4 ha.1
   have fin : ∀ {w has : ByteArray} {on : Int} {n x s m : Bool}, Zno a.Kind = some ⟨w, on, has⟩ → sEq w ⟨#[]⟩ = false → Zdf ⟨w, on, has⟩ 110 = some n → Zdf ⟨w, on, has⟩ 120 = some x → Zdf ⟨w, on, has⟩ 115 = some s → Zdf ⟨w, on, has⟩ 109 = some m →
       Zel a.Kind = some on → Zdx a.Kind 110 = some n → Zdx a.Kind 120 = some x → Zdx a.Kind 115 = some s → m = (a.Kind == 1) → ((on == 1) = true → 5 ≤ a.Kind ∧ a.Kind ≤ 6) →
       ∃ c, Zg9 a = some c ∧ Zeg a = some c ∧ (c = 0 → 1 ≤ a.Kind ∧ a.Kind ≤ 21 ∧ a.X = Zcc a.X ∧ a.S.size ≤ 64 ∧ ((a.Kind = 10 ∨ a.Kind = 11) → 0 ≤ a.N ∧ a.N ≤ 2305843009213693952) ∧ (a.Kind = 1 → Zee a.Make = some 0) ∧ (¬ (5 ≤ a.Kind ∧ a.Kind ≤ 6) → a.S.size ≤ 16) ∧ sEq a.Key ⟨#[]⟩ = false ∧ a.Key.size ≤ 24) := by
     intro w has on n x s m h1 hw fn fx fs fm ro rn rx rs hm hon
     refine ⟨_, Z2z ha hc1 h1 hw fn fx fs fm, by rw [hm]; exact Z0m ha hc2 hk ro rn rx rs rfl, fun h0 => ?_⟩
     obtain ⟨g1, g3, g4, g5, g6⟩ := Z14 h0
     simp only [Bool.or_eq_false_iff, decide_eq_false_iff_not] at g1
     have g3' : ¬ (if (on == 1) = true then (64 : Int) else 16) < a.S.size := of_decide_eq_false g3
     refine ⟨by omega, by omega, of_decide_eq_true g5, ?_, fun h => ?_, fun h => ?_, fun h => ?_, g1.1, by omega⟩
     · split at g3' <;> omega
     · have h11 : (a.Kind == 10 || a.Kind == 11) = true := by simpa using h
       rw [h11] at g4
       simp only [Bool.true_and, Bool.or_eq_false_iff, decide_eq_false_iff_not] at g4
       omega
     · rw [hc1, g6 (by simp [h])]
     · rw [if_neg (fun h2 => h (hon h2))] at g3'
       omega
   have hk' : a.Kind = 1 ∨ a.Kind = 2 ∨ a.Kind = 3 ∨ a.Kind = 4 ∨ a.Kind = 5 ∨ a.Kind = 6 ∨ a.Kind = 7 ∨ a.Kind = 8 ∨ a.Kind = 9 ∨ a.Kind = 10 ∨ a.Kind = 11 ∨ a.Kind = 12 ∨ a.Kind = 13 ∨ a.Kind = 14 ∨ a.Kind = 15 ∨ a.Kind = 16 ∨ a.Kind = 17 ∨ a.Kind = 18 ∨ a.Kind = 19 ∨ a.Kind = 20 ∨ a.Kind = 21 := by omega
   rcases hk' with h | h | h | h | h | h | h | h | h | h | h | h | h | h | h | h | h | h | h | h | h <;> rw [h] at fin ⊢
   · exact fin (w := ⟨#[110, 101, 119]⟩) (on := 0) (has := ⟨#[109]⟩) (n := false) (x := false) (s := false) (m := true) (by kernel_rfl) (by kernel_rfl) (by kernel_rfl) (by kernel_rfl) (by kernel_rfl) (by kernel_rfl) (by kernel_rfl) (by kernel_rfl) (by kernel_rfl) (by kernel_rfl) (by decide) (by decide)
   · exact fin (w := ⟨#[100, 114, 111, 112]⟩) (on := 0) (has := ⟨#[]⟩) (n := false) (x := false) (s := false) (m := false) (by kernel_rfl) (by kernel_rfl) (by kernel_rfl) (by kernel_rfl) (by kernel_rfl) (by kernel_rfl) (by kernel_rfl) (by kernel_rfl) (by kernel_rfl) (by kernel_rfl) (by decide) (by decide)
   · exact fin (w := ⟨#[105, 115]⟩) (on := 0) (has := ⟨#[]⟩) (n := false) (x := false) (s := false) (m := false) (by kernel_rfl) (by kernel_rfl) (by kernel_rfl) (by kernel_rfl) (by kernel_rfl) (by kernel_rfl) (by kernel_rfl) (by kernel_rfl) (by kernel_rfl) (by kernel_rfl) (by decide) (by decide)
   · exact fin (w := ⟨#[108, 111, 111, 107]⟩) (on := 0) (has := ⟨#[]⟩) (n := false) (x := false) (s := false) (m := false) (by kernel_rfl) (by kernel_rfl) (by kernel_rfl) (by kernel_rfl) (by kernel_rfl) (by kernel_rfl) (by kernel_rfl) (by kernel_rfl) (by kernel_rfl) (by kernel_rfl) (by decide) (by decide)
   · exact fin (w := ⟨#[112, 117, 116]⟩) (on := 1) (has := ⟨#[115]⟩) (n := false) (x := false) (s := true) (m := false) (by kernel_rfl) (by kernel_rfl) (by kernel_rfl) (by kernel_rfl) (by kernel_rfl) (by kernel_rfl) (by kernel_rfl) (by kernel_rfl) (by kernel_rfl) (by kernel_rfl) (by decide) (by decide)
   · exact fin (w := ⟨#[115, 119, 97, 112]⟩) (on := 1) (has := ⟨#[115]⟩) (n := false) (x := false) (s := true) (m := false) (by kernel_rfl) (by kernel_rfl) (by kernel_rfl) (by kernel_rfl) (by kernel_rfl) (by kernel_rfl) (by kernel_rfl) (by kernel_rfl) (by kernel_rfl) (by kernel_rfl) (by decide) (by decide)
   · exact fin (w := ⟨#[97, 100, 100]⟩) (on := 2) (has := ⟨#[110]⟩) (n := true) (x := false) (s := false) (m := false) (by kernel_rfl) (by kernel_rfl) (by kernel_rfl) (by kernel_rfl) (by kernel_rfl) (by kernel_rfl) (by kernel_rfl) (by kernel_rfl) (by kernel_rfl) (by kernel_rfl) (by decide) (by decide)
   · exact fin (w := ⟨#[112, 108, 117, 115]⟩) (on := 3) (has := ⟨#[110]⟩) (n := true) (x := false) (s := false) (m := false) (by kernel_rfl) (by kernel_rfl) (by kernel_rfl) (by kernel_rfl) (by kernel_rfl) (by kernel_rfl) (by kernel_rfl) (by kernel_rfl) (by kernel_rfl) (by kernel_rfl) (by decide) (by decide)
   · exact fin (w := ⟨#[114, 101, 97, 99, 104]⟩) (on := 3) (has := ⟨#[110]⟩) (n := true) (x := false) (s := false) (m := false) (by kernel_rfl) (by kernel_rfl) (by kernel_rfl) (by kernel_rfl) (by kernel_rfl) (by kernel_rfl) (by kernel_rfl) (by kernel_rfl) (by kernel_rfl) (by kernel_rfl) (by decide) (by decide)
   · exact fin (w := ⟨#[105, 110]⟩) (on := 4) (has := ⟨#[110]⟩) (n := true) (x := false) (s := false) (m := false) (by kernel_rfl) (by kernel_rfl) (by kernel_rfl) (by kernel_rfl) (by kernel_rfl) (by kernel_rfl) (by kernel_rfl) (by kernel_rfl) (by kernel_rfl) (by kernel_rfl) (by decide) (by decide)
   · exact fin (w := ⟨#[111, 117, 116]⟩) (on := 4) (has := ⟨#[110]⟩) (n := true) (x := false) (s := false) (m := false) (by kernel_rfl) (by kernel_rfl) (by kernel_rfl) (by kernel_rfl) (by kernel_rfl) (by kernel_rfl) (by kernel_rfl) (by kernel_rfl) (by kernel_rfl) (by kernel_rfl) (by decide) (by decide)
   · exact fin (w := ⟨#[101, 110, 111, 117, 103, 104]⟩) (on := 4) (has := ⟨#[110]⟩) (n := true) (x := false) (s := false) (m := false) (by kernel_rfl) (by kernel_rfl) (by kernel_rfl) (by kernel_rfl) (by kernel_rfl) (by kernel_rfl) (by kernel_rfl) (by kernel_rfl) (by kernel_rfl) (by kernel_rfl) (by decide) (by decide)
   · exact fin (w := ⟨#[114, 97, 105, 115, 101]⟩) (on := 5) (has := ⟨#[120]⟩) (n := false) (x := true) (s := false) (m := false) (by kernel_rfl) (by kernel_rfl) (by kernel_rfl) (by kernel_rfl) (by kernel_rfl) (by kernel_rfl) (by kernel_rfl) (by kernel_rfl) (by kernel_rfl) (by kernel_rfl) (by decide) (by decide)
   · exact fin (w := ⟨#[108, 111, 119, 101, 114]⟩) (on := 6) (has := ⟨#[120]⟩) (n := false) (x := true) (s := false) (m := false) (by kernel_rfl) (by kernel_rfl) (by kernel_rfl) (by kernel_rfl) (by kernel_rfl) (by kernel_rfl) (by kernel_rfl) (by kernel_rfl) (by kernel_rfl) (by kernel_rfl) (by decide) (by decide)
   · exact fin (w := ⟨#[115, 104, 105, 102, 116]⟩) (on := 7) (has := ⟨#[120]⟩) (n := false) (x := true) (s := false) (m := false) (by kernel_rfl) (by kernel_rfl) (by kernel_rfl) (by kernel_rfl) (by kernel_rfl) (by kernel_rfl) (by kernel_rfl) (by kernel_rfl) (by kernel_rfl) (by kernel_rfl) (by decide) (by decide)
   · exact fin (w := ⟨#[115, 99, 97, 108, 101]⟩) (on := 7) (has := ⟨#[120]⟩) (n := false) (x := true) (s := false) (m := false) (by kernel_rfl) (by kernel_rfl) (by kernel_rfl) (by kernel_rfl) (by kernel_rfl) (by kernel_rfl) (by kernel_rfl) (by kernel_rfl) (by kernel_rfl) (by kernel_rfl) (by decide) (by decide)
   · exact fin (w := ⟨#[102, 105, 120]⟩) (on := 7) (has := ⟨#[120]⟩) (n := false) (x := true) (s := false) (m := false) (by kernel_rfl) (by kernel_rfl) (by kernel_rfl) (by kernel_rfl) (by kernel_rfl) (by kernel_rfl) (by kernel_rfl) (by kernel_rfl) (by kernel_rfl) (by kernel_rfl) (by decide) (by decide)
   · exact fin (w := ⟨#[106, 111, 105, 110]⟩) (on := 8) (has := ⟨#[115]⟩) (n := false) (x := false) (s := true) (m := false) (by kernel_rfl) (by kernel_rfl) (by kernel_rfl) (by kernel_rfl) (by kernel_rfl) (by kernel_rfl) (by kernel_rfl) (by kernel_rfl) (by kernel_rfl) (by kernel_rfl) (by decide) (by decide)
   · exact fin (w := ⟨#[108, 101, 97, 118, 101]⟩) (on := 8) (has := ⟨#[115]⟩) (n := false) (x := false) (s := true) (m := false) (by kernel_rfl) (by kernel_rfl) (by kernel_rfl) (by kernel_rfl) (by kernel_rfl) (by kernel_rfl) (by kernel_rfl) (by kernel_rfl) (by kernel_rfl) (by kernel_rfl) (by decide) (by decide)
   · exact fin (w := ⟨#[104, 97, 115]⟩) (on := 8) (has := ⟨#[115]⟩) (n := false) (x := false) (s := true) (m := false) (by kernel_rfl) (by kernel_rfl) (by kernel_rfl) (by kernel_rfl) (by kernel_rfl) (by kernel_rfl) (by kernel_rfl) (by kernel_rfl) (by kernel_rfl) (by kernel_rfl) (by decide) (by decide)
   · exact fin (w := ⟨#[111, 102, 102, 101, 114]⟩) (on := 9) (has := ⟨#[120, 115]⟩) (n := false) (x := true) (s := true) (m := false) (by kernel_rfl) (by kernel_rfl) (by kernel_rfl) (by kernel_rfl) (by kernel_rfl) (by kernel_rfl) (by kernel_rfl) (by kernel_rfl) (by kernel_rfl) (by kernel_rfl) (by decide) (by decide)
end Go.CL
set_option linter.unusedVariables false
set_option linter.unusedSimpArgs false
namespace Go.CL
open Go
abbrev Zdi := List Zl
def NS (l : Zdi) : Prop := l.Pairwise fun p q => sLt p.Name q.Name = true
def pre (f : Zl → Bool) : Zdi → Nat
 | [] => 0
 | e :: r => if f e then pre f r + 1 else 0
theorem Znn (f : Zl → Bool) : ∀ l : Zdi, pre f l ≤ l.length
 | [] => Nat.le_refl _
 | e :: r => by
   have := Znn f r
   simp only [pre]
   split <;> simp <;> omega
theorem Zww {f : Zl → Bool} : ∀ {l : Zdi} {k : Nat} (h : k < pre f l), ∃ e, l[k]? = some e ∧ f e = true
 | [], k, h => by simp [pre] at h
 | e :: r, k, h => by
   simp only [pre] at h
   split at h
   · rename_i hf
     cases k with
     | zero => exact ⟨e, rfl, hf⟩
     | succ k => exact Zww (l := r) (by omega)
   · omega
theorem Zt7 {f : Zl → Bool} : ∀ {l : Zdi} {e : Zl}, l[pre f l]? = some e → f e = false
 | [], e, h => by simp [pre] at h
 | x :: r, e, h => by
   simp only [pre] at h
   split at h
   · exact Zt7 (l := r) (by simpa using h)
   · rename_i hf
     simp at h; subst h; simpa using hf
theorem Zs6 {s : ByteArray} {l : Zdi} (hs : NS l) {k : Nat} (hk : k < l.length) : sLt (l[k]).Name s = decide (k < pre (fun e => sLt e.Name s) l) := by
 by_cases h : k < pre (fun e => sLt e.Name s) l
 · obtain ⟨e, he, hf⟩ := Zww h
   rw [List.getElem?_eq_getElem hk] at he
   obtain rfl := Option.some.inj he
   simp only [h, decide_true]; exact hf
 · simp only [h, decide_false]
   have hp : pre (fun e => sLt e.Name s) l < l.length := by omega
   have h1 := Zt7 (List.getElem?_eq_getElem hp)
   rcases Nat.lt_or_eq_of_le (Nat.le_of_not_lt h) with hlt | heq
   · have h2 := List.pairwise_iff_getElem.1 hs _ _ hp hk hlt
     cases h3 : sLt (l[k]).Name s
     · rfl
     · rw [Zf7 h2 h3] at h1; cases h1
   · have : l[k] = l[pre (fun e => sLt e.Name s) l] := by congr 1; exact heq.symm
     rw [this]; exact h1
theorem half {i j : Nat} (h : i + j < 4611686018427387904) : IntKind.i64.wrap (Int.fdiv (IntKind.u64.wrap (IntKind.i64.wrap ((i : Int) + (j : Int)))) (2 ^ 1)) = (((i + j) / 2 : Nat) : Int) := by
 rw [wr (x := (i : Int) + j) (by omega) (by omega), wru (by omega) (by omega)]
 have : Int.fdiv ((i : Int) + j) (2 ^ 1) = (((i + j) / 2 : Nat) : Int) := by
   rw [Int.fdiv_eq_ediv_of_nonneg _ (by decide)]; omega
 rw [this, wr (by omega) (by omega)]
theorem Z41 (e : Zl) (s : ByteArray) : ∃ c : Int, Zi9 e s = some c ∧ decide (c < 0) = sLt e.Name s ∧ (c == 0) = sEq e.Name s := by
 unfold Zi9
 by_cases h : sLt e.Name s = true
 · exact ⟨-1, by rw [if_pos h], by rw [h]; rfl, by rw [Zeo.2 (Zlz h)]; rfl⟩
 · have h' : sLt e.Name s = false := by simpa using h
   by_cases h2 : e.Name = s
   · exact ⟨0, by rw [if_neg h, h', Zh5.2 h2]; rfl, by rw [h']; rfl, by rw [Zh5.2 h2]; rfl⟩
   · exact ⟨1, by rw [if_neg h, h', Zeo.2 h2]; rfl, by rw [h']; rfl, by rw [Zeo.2 h2]; rfl⟩
theorem Zur {l : Zdi} {s : ByteArray} (hs : NS l) (hl : l.length < 2305843009213693952) : ∀ (n i j : Nat), j - i < n → i ≤ pre (fun e => sLt e.Name s) l → pre (fun e => sLt e.Name s) l ≤ j → j ≤ l.length →
   Zbm l s (fun y0 y1 => Zi9 y0 y1) n (i : Int) (j : Int) = some ((pre (fun e => sLt e.Name s) l : Nat) : Int)
 | 0, i, j, h, _, _, _ => by omega
 | n + 1, i, j, h, h1, h2, h3 => by
   rw [Zbm]
   by_cases hij : i < j
   · rw [if_pos (by simpa using hij), half (by omega)]
     have hm : (i + j) / 2 < l.length := by omega
     rw [Zdc hm]
     obtain ⟨c, hc, hc1, _⟩ := Z41 l[(i + j) / 2] s
     simp only [Option.bind_some, hc]
     rw [hc1, Zs6 hs hm]
     unfold Zch
     by_cases hp : (i + j) / 2 < pre (fun e => sLt e.Name s) l
     · rw [if_pos (by simpa using hp), wr1 (by omega)]
       exact Zur hs hl n ((i + j) / 2 + 1) j (by omega) (by omega) h2 h3
     · rw [if_neg (by simpa using hp)]
       exact Zur hs hl n i ((i + j) / 2) (by omega) h1 (by omega) (by omega)
   · rw [if_neg (by simpa using hij)]
     congr 2; omega
def isAt (s : ByteArray) (l : Zdi) : Bool := match l[pre (fun e => sLt e.Name s) l]? with
 | some e => sEq e.Name s
 | none => false
theorem Zne {l : Zdi} {s : ByteArray} (hs : NS l) (hl : l.length < 2305843009213693952) : Zko l s = some (((pre (fun e => sLt e.Name s) l : Nat) : Int), isAt s l) := by
 unfold Zko Zcx
 have := Zur (s := s) hs hl (l.length + 1) 0 l.length (by omega) (Nat.zero_le _) (Znn _ _) (Nat.le_refl _)
 rw [show ((0 : Nat) : Int) = 0 from rfl] at this
 rw [show (Int.toNat ((l.length : Int) - (0 : Int)) + 1) = l.length + 1 by omega, this]
 simp only [Option.bind_some]
 unfold isAt
 by_cases hp : pre (fun e => sLt e.Name s) l < l.length
 · have hd : decide (((pre (fun e => sLt e.Name s) l : Nat) : Int) < (l.length : Int)) = true := by simpa using hp
   rw [hd, Zdc hp, List.getElem?_eq_getElem hp]
   obtain ⟨c, hc, _, hc2⟩ := Z41 l[pre (fun e => sLt e.Name s) l] s
   simp only [gd_t, Option.bind_some, hc, Bool.true_and, hc2]
 · have hd : decide (((pre (fun e => sLt e.Name s) l : Nat) : Int) < (l.length : Int)) = false := by simpa using hp
   rw [hd, List.getElem?_eq_none (by omega)]
   rfl
def goL (f g : Zl → Bool) (x : Zl) : Zdi → Bool → Zdi × Bool
 | [], d => ([], d)
 | e :: r, d => if (!d && !f e) = true then ((if g e then [] else [x]) ++ e :: (goL f g x r true).1, (goL f g x r true).2) else (e :: (goL f g x r d).1, (goL f g x r d).2)
theorem Z4n (f g : Zl → Bool) (x : Zl) : ∀ l : Zdi, goL f g x l true = (l, true)
 | [] => rfl
 | e :: r => by simp [goL, Z4n f g x r]
theorem Z4r (f g : Zl → Bool) (x : Zl) : ∀ l : Zdi, goL f g x l false = match l[pre f l]? with
   | some e => (l.take (pre f l) ++ (if g e then [] else [x]) ++ l.drop (pre f l), true)
   | none => (l, false)
 | [] => rfl
 | e :: r => by
   simp only [goL, pre]
   by_cases hf : f e = true
   · simp only [hf, Bool.not_true, Bool.and_false, Bool.false_eq_true, if_false, if_true]
     rw [Z4r f g x r]
     simp only [List.getElem?_cons_succ]
     cases r[pre f r]? <;> simp
   · have hf' : f e = false := by simpa using hf
     simp only [hf', Bool.not_false, Bool.and_self, if_true, Bool.false_eq_true, if_false, Z4n, List.getElem?_cons_zero, List.take_zero, List.nil_append, List.drop_zero]
def Zdt (x : Zl) (nm : Bool) (e : Zl) : Bool := if nm then sLt e.Name x.Name else Zdd e x
def Zlc (x : Zl) (nm : Bool) (e : Zl) : Bool := sEq e.Name x.Name && (nm || decide (keyf e.Score = keyf x.Score))
theorem Z2o {l : Zdi} {x : Zl} {nm : Bool} (hx : x.Score < W64) (hsc : ∀ e ∈ l, e.Score < W64) {n i : Nat} {out : Zdi} {d : Bool} (h1 : i < l.length) :
   Zcj l x nm (n + 1) out d (i : Int) = (if (!d && !Zdt x nm l[i]) = true then (if (!Zlc x nm l[i]) = true then (if (out.length + ([x] : List Zl).length) * 24 ≤ 140737488355328 then Zdp l (i : Int) (Zcj l x nm n) (out ++ [x]) true else none) else Zdp l (i : Int) (Zcj l x nm n) out true) else Zdp l (i : Int) (Zcj l x nm n) out d) := by
 have hm := hsc _ (List.getElem_mem h1)
 have ha : Zfq l[i] x = some (Zdd l[i] x) := Zw9 hm hx
 have hs : Zdn l[i].Score x.Score = some (decide (keyf l[i].Score = keyf x.Score)) := Zmh hm hx
 rw [Zcj, if_pos (by simp; omega), Zdc h1]
 cases nm
 · simp only [Bool.not_false, gd_t, Option.bind_some, Bool.true_and, ha, Bool.and_false, gd_f, Bool.false_and, Bool.or_false, Bool.and_true, Bool.false_or, Zdt, Zlc, Bool.false_eq_true, if_false]
   cases hq : sEq l[i].Name x.Name
   · simp only [gd_f, Option.bind_some, Bool.false_and]
   · simp only [gd_t, Option.bind_some, Bool.true_and, hs]
 · simp only [Bool.not_true, gd_f, Option.bind_some, Bool.false_and, Bool.not_false, Bool.true_and, gd_t, Bool.false_or, Bool.true_or, Bool.and_false, Bool.and_true, Zdt, Zlc, if_true]
theorem Zok {l : Zdi} {x : Zl} {nm : Bool} (hx : x.Score < W64) (hsc : ∀ e ∈ l, e.Score < W64) (hl : l.length < 1000000) : ∀ (n i : Nat) (out : Zdi) (d : Bool), i + n = l.length → out.length + (if d = true then 0 else 1) ≤ i + 1 →
   Zcj l x nm (n + 1) out d (i : Int) = some (out ++ (goL (Zdt x nm) (Zlc x nm) x (l.drop i) d).1, (goL (Zdt x nm) (Zlc x nm) x (l.drop i) d).2)
 | 0, i, out, d, h, _ => by
   rw [Zcj, if_neg (by simp; omega), List.drop_of_length_le (by omega)]
   simp [goL]
 | n + 1, i, out, d, h, ho => by
   have h1 : i < l.length := by omega
   rw [Z2o hx hsc h1, List.drop_eq_getElem_cons h1]
   simp only [Zdp, Zdc h1, wr1 (show i < 9223372036854775807 by omega), Option.bind_some, goL]
   by_cases hc : (!d && !Zdt x nm l[i]) = true
   · rw [if_pos hc, if_pos hc]
     have hd : d = false := by cases d <;> simp_all
     subst hd
     simp only [Bool.false_eq_true, if_false] at ho
     by_cases hs : (!Zlc x nm l[i]) = true
     · rw [if_pos hs, if_pos (by simp; omega), if_pos (by simp; omega), Zok hx hsc hl n (i + 1) _ true (by omega) (by simp; omega)]
       have : Zlc x nm l[i] = false := by simpa using hs
       simp [this]
     · rw [if_neg hs, if_pos (by simp; omega), Zok hx hsc hl n (i + 1) _ true (by omega) (by simp; omega)]
       have : Zlc x nm l[i] = true := by simpa using hs
       simp [this]
   · rw [if_neg hc, if_neg hc, if_pos (by simp; omega), Zok hx hsc hl n (i + 1) _ d (by omega) (by simp; omega)]
     simp
def layL (x : Zl) (nm : Bool) (l : Zdi) : Zdi := match l[pre (Zdt x nm) l]? with
 | some e => l.take (pre (Zdt x nm) l) ++ (if Zlc x nm e then [] else [x]) ++ l.drop (pre (Zdt x nm) l)
 | none => l ++ [x]
theorem Zzm {l : Zdi} {x : Zl} {nm : Bool} (hx : x.Score < W64) (hsc : ∀ e ∈ l, e.Score < W64) (hl : l.length < 1000000) : Zfe l x nm = some (layL x nm l) := by
 unfold Zfe
 have := Zok (nm := nm) hx hsc hl l.length 0 [] false (by omega) (by simp)
 rw [show ((0 : Nat) : Int) = 0 from rfl] at this
 rw [show (Int.toNat ((l.length : Int) - (0 : Int)) + 1) = l.length + 1 by omega, this]
 simp only [Option.bind_some, List.nil_append, List.drop_zero]
 rw [Z4r]
 unfold layL
 cases h : l[pre (Zdt x nm) l]? with
 | none =>
   simp only [Bool.not_false, if_true, Zfx]
   rw [if_pos (by simp; omega)]
 | some e => simp only [Bool.not_true, Bool.false_eq_true, if_false, Zfx]
theorem Zwu {l : Zdi} {s : ByteArray} (hl : l.length < 1000000) : ∀ (n i : Nat), i + n = l.length → Zew l s (n + 1) (i : Int) = some (cond ((l.drop i).any (fun e => sEq e.Name s)) (.inl true) (.inr ()))
 | 0, i, h => by
   rw [Zew, if_neg (by simp; omega), List.drop_of_length_le (by omega)]; rfl
 | n + 1, i, h => by
   have h1 : i < l.length := by omega
   rw [Zew, if_pos (by simp; omega), Zdc h1, List.drop_eq_getElem_cons h1, List.any_cons]
   simp only [Option.bind_some]
   by_cases hq : sEq l[i].Name s = true
   · rw [if_pos hq, hq]; rfl
   · have hq' : sEq l[i].Name s = false := by simpa using hq
     rw [if_neg hq, wr1 (by omega), Zwu hl n (i + 1) (by omega), hq', Bool.false_or]
theorem Z2d {l : Zdi} {s : ByteArray} (hl : l.length < 1000000) : Zfr l s = some (l.any (fun e => sEq e.Name s)) := by
 unfold Zfr
 have := Zwu (s := s) hl l.length 0 (by omega)
 rw [show ((0 : Nat) : Int) = 0 from rfl] at this
 rw [show (Int.toNat ((l.length : Int) - (0 : Int)) + 1) = l.length + 1 by omega, this]
 simp only [List.drop_zero]
 cases h : l.any (fun e => sEq e.Name s) <;> rfl
theorem Zoh {a0 : Ze} {a : Z2} (hl : a0.List.length < 1000000) : ∀ (n i : Nat) (out : Zdi), i + n = a0.List.length → out.length ≤ i → Zc7 a0 a (n + 1) out (i : Int) = some (out ++ (a0.List.drop i).filter (fun e => !sEq e.Name a.S))
 | 0, i, out, h, _ => by
   rw [Zc7, if_neg (by simp; omega), List.drop_of_length_le (by omega)]; simp
 | n + 1, i, out, h, ho => by
   have h1 : i < a0.List.length := by omega
   rw [Zc7, if_pos (by simp; omega), Zdc h1, List.drop_eq_getElem_cons h1]
   simp only [Option.bind_some, Zht, wr1 (show i < 9223372036854775807 by omega)]
   rw [List.filter_cons]
   by_cases hq : (!sEq a0.List[i].Name a.S) = true
   · rw [if_pos hq, if_pos hq, if_pos (by simp; omega), Zoh hl n (i + 1) _ (by omega) (by simp; omega), List.append_assoc]; rfl
   · rw [if_neg hq, if_neg hq, Zoh hl n (i + 1) _ (by omega) (by omega)]
theorem Zsf {l : Zdi} {s : ByteArray} (hs : NS l) : (∀ e ∈ l.take (pre (fun e => sLt e.Name s) l), sEq e.Name s = false) ∧ (∀ e ∈ l.drop (pre (fun e => sLt e.Name s) l + 1), sEq e.Name s = false) := by
 constructor
 · intro e he
   obtain ⟨k, hk, rfl⟩ := List.getElem_of_mem he
   rw [List.length_take] at hk
   rw [List.getElem_take]
   have := Zs6 (s := s) hs (k := k) (by omega)
   rw [show decide (k < pre (fun e => sLt e.Name s) l) = true by simp; omega] at this
   exact Zeo.2 (Zlz this)
 · intro e he
   obtain ⟨k, hk, rfl⟩ := List.getElem_of_mem he
   rw [List.length_drop] at hk
   rw [List.getElem_drop]
   refine Zeo.2 fun h => ?_
   have hp : pre (fun e => sLt e.Name s) l < l.length := by omega
   have h1 := List.pairwise_iff_getElem.1 hs _ _ hp (show pre (fun e => sLt e.Name s) l + 1 + k < l.length by omega) (by omega)
   rw [h] at h1
   have := Zt7 (List.getElem?_eq_getElem hp)
   rw [h1] at this; cases this
theorem Zs0 (l : Zdi) (k : Nat) (h : k < l.length) : l = l.take k ++ l[k] :: l.drop (k + 1) := by
 rw [← List.drop_eq_getElem_cons h, List.take_append_drop]
theorem Zsx {l : Zdi} {s : ByteArray} (hs : NS l) : l.any (fun e => sEq e.Name s) = isAt s l := by
 obtain ⟨h1, h2⟩ := Zsf (s := s) hs
 unfold isAt
 by_cases hp : pre (fun e => sLt e.Name s) l < l.length
 · rw [List.getElem?_eq_getElem hp]
   conv => lhs; rw [Zs0 l _ hp]
   have a1 : (l.take (pre (fun e => sLt e.Name s) l)).any (fun e => sEq e.Name s) = false := by
     rw [List.any_eq_false]; intro e he; rw [h1 e he]; decide
   have a2 : (l.drop (pre (fun e => sLt e.Name s) l + 1)).any (fun e => sEq e.Name s) = false := by
     rw [List.any_eq_false]; intro e he; rw [h2 e he]; decide
   rw [List.any_append, List.any_cons, a1, a2]; simp
 · rw [List.getElem?_eq_none (by omega)]
   have : l.take (pre (fun e => sLt e.Name s) l) = l := List.take_of_length_le (by omega)
   rw [this] at h1
   rw [List.any_eq_false]; intro e he; rw [h1 e he]; decide
theorem Z1s {l : Zdi} {s : ByteArray} (hs : NS l) : l.filter (fun e => !sEq e.Name s) = if isAt s l = true then l.take (pre (fun e => sLt e.Name s) l) ++ l.drop (pre (fun e => sLt e.Name s) l + 1) else l := by
 obtain ⟨h1, h2⟩ := Zsf (s := s) hs
 unfold isAt
 by_cases hp : pre (fun e => sLt e.Name s) l < l.length
 · rw [List.getElem?_eq_getElem hp]
   conv => lhs; rw [Zs0 l _ hp]
   have a1 : (l.take (pre (fun e => sLt e.Name s) l)).filter (fun e => !sEq e.Name s) = l.take (pre (fun e => sLt e.Name s) l) := List.filter_eq_self.2 fun e he => by rw [h1 e he]; rfl
   have a2 : (l.drop (pre (fun e => sLt e.Name s) l + 1)).filter (fun e => !sEq e.Name s) = l.drop (pre (fun e => sLt e.Name s) l + 1) := List.filter_eq_self.2 fun e he => by rw [h2 e he]; rfl
   rw [List.filter_append, List.filter_cons, a1, a2]
   by_cases hq : sEq (l[pre (fun e => sLt e.Name s) l]).Name s = true
   · rw [if_pos hq, if_neg (by rw [hq]; decide)]
   · rw [if_neg hq, if_pos (by simpa using hq)]
     exact (Zs0 l _ hp).symm
 · rw [List.getElem?_eq_none (by omega)]
   have : l.take (pre (fun e => sLt e.Name s) l) = l := List.take_of_length_le (by omega)
   rw [this] at h1
   rw [if_neg (by simp)]
   exact List.filter_eq_self.2 fun e he => by rw [h1 e he]; rfl
theorem Z1v {l : Zdi} {s : ByteArray} : layL { Score := 0, Name := s } true l = if isAt s l = true then l else l.take (pre (fun e => sLt e.Name s) l) ++ [{ Score := 0, Name := s }] ++ l.drop (pre (fun e => sLt e.Name s) l) := by
 have hf : Zdt { Score := 0, Name := s } true = fun e => sLt e.Name s := rfl
 unfold layL isAt
 rw [hf]
 cases h : l[pre (fun e => sLt e.Name s) l]? with
 | none =>
   have hp := List.getElem?_eq_none_iff.1 h
   rw [if_neg (by simp), List.take_of_length_le hp, List.drop_of_length_le hp, List.append_nil]
 | some e =>
   simp only [Zlc, Bool.true_or, Bool.and_true]
   by_cases hq : sEq e.Name s = true
   · rw [if_pos hq, if_pos hq, List.append_nil, List.take_append_drop]
   · rw [if_neg hq, if_neg hq]
theorem Zot {l : Zdi} (h : l.length < 1000000) : Zb2 l = some l := by
 unfold Zb2
 rw [if_pos (by omega)]
theorem Ztq {r : Ze} {a : Z2} (ha : a.X < W64) (hsc : ∀ e ∈ r.List, e.Score < W64) (hl : r.List.length < 1000000) : ∀ (n i : Nat), i + n = r.List.length →
   Zf1 r a (n + 1) (i : Int) = some ((i + pre (Zdt { Score := a.X, Name := a.S } false) (r.List.drop i) : Nat) : Int)
 | 0, i, h => by
   have hd : decide ((i : Int) < (r.List.length : Int)) = false := by simp; omega
   rw [Zf1, hd, List.drop_of_length_le (by omega)]
   simp [gd, pre]
 | n + 1, i, h => by
   have h1 : i < r.List.length := by omega
   have hd : decide ((i : Int) < (r.List.length : Int)) = true := by simp; omega
   rw [Zf1, hd, Zdc h1, List.drop_eq_getElem_cons h1]
   simp only [gd_t, Option.bind_some, Bool.true_and]
   rw [Zoc (hsc _ (List.getElem_mem h1)) ha]
   simp only [Option.bind_some, pre, Zdt, Bool.false_eq_true, if_false, wr1 (show i < 9223372036854775807 by omega)]
   by_cases hb : Zdd r.List[i] { Score := a.X, Name := a.S } = true
   · rw [if_pos hb, if_pos hb, Ztq ha hsc hl n (i + 1) (by omega)]
     congr 2; omega
   · rw [if_neg hb, if_neg hb]; simp
theorem Zvg {r : Ze} {a : Z2} (ha : a.X < W64) (hsc : ∀ e ∈ r.List, e.Score < W64) (hl : r.List.length < 1000000) : Zf1 r a (Int.toNat ((r.List.length : Int) - (0 : Int)) + 1) (0 : Int) = some ((pre (Zdt { Score := a.X, Name := a.S } false) r.List : Nat) : Int) := by
 have := Ztq (a := a) ha hsc hl r.List.length 0 (by omega)
 rw [show ((0 : Nat) : Int) = 0 from rfl] at this
 rw [show (Int.toNat ((r.List.length : Int) - (0 : Int)) + 1) = r.List.length + 1 by omega, this]
 simp
theorem Zyl {e x : Zl} (h1 : Zdd e x = false) : (!Zdd x e) = Zlc x false e := by
 unfold Zdd Zlc at *
 by_cases hk : keyf e.Score = keyf x.Score
 · rw [if_pos hk] at h1
   rw [if_pos hk.symm, hk]
   simp only [Bool.false_or, decide_true, Bool.and_true]
   by_cases hn : e.Name = x.Name
   · rw [hn, Zlk, Ze8]; rfl
   · rw [Zmn h1 hn, Zeo.2 hn]; rfl
 · rw [if_neg hk] at h1
   rw [if_neg (fun h => hk h.symm)]
   have := of_decide_eq_false h1
   have h3 : keyf e.Score < keyf x.Score := by omega
   simp [h3, hk]
end Go.CL
set_option linter.unusedVariables false
set_option linter.unusedSimpArgs false
namespace Go.CL
open Go
theorem Zsh {k : Int} {l : Zdi} : ∀ (n i : Nat), Zio k l i n = 0 ↔ ∀ j, i ≤ j → j < i + n → Zhk k l j = 0
 | 0, i => ⟨fun _ j h1 h2 => by omega, fun _ => rfl⟩
 | n + 1, i => by
   by_cases h : Zhk k l i = 0
   · rw [Zs5 h, Zsh n (i + 1)]
     constructor
     · intro hh j h1 h2
       by_cases e : j = i
       · rw [e]; exact h
       · exact hh j (by omega) (by omega)
     · intro hh j h1 h2; exact hh j (by omega) (by omega)
   · rw [Zs7 h]
     exact ⟨fun e => absurd e h, fun hh => absurd (hh i (Nat.le_refl _) (by omega)) h⟩
theorem Zse {t n b r l : Bool} {a : Ze} : Zow t n b r l a = 0 ↔ Zg7 t n b r l a = true ∧ a.Text.size ≤ 64 ∧ (b = true → -2305843009213693952 ≤ a.Low ∧ a.High ≤ 2305843009213693952 ∧ a.Low ≤ a.Num ∧ a.Num ≤ a.High) ∧ a.Real = Zcc a.Real ∧ (l = true → 1 ≤ a.Cap ∧ a.Cap ≤ 32 ∧ (a.List.length : Int) ≤ a.Cap ∧ ∀ i, i < a.List.length → Zhk a.Kind a.List i = 0) := by
 unfold Zow
 by_cases h1 : Zg7 t n b r l a = false
 · rw [if_pos h1, h1]; simp
 · have h1' : Zg7 t n b r l a = true := by simpa using h1
   rw [if_neg h1, h1']
   by_cases h2 : (64 : Int) < a.Text.size
   · rw [if_pos h2]; exact ⟨fun h => absurd h (by decide), fun h => by omega⟩
   · rw [if_neg h2]
     by_cases h3 : b = true ∧ (a.Low < -2305843009213693952 ∨ 2305843009213693952 < a.High ∨ a.Num < a.Low ∨ a.High < a.Num)
     · rw [if_pos h3]; exact ⟨fun h => absurd h (by decide), fun h => by have := h.2.2.1 h3.1; omega⟩
     · rw [if_neg h3]
       by_cases h4 : a.Real = Zcc a.Real
       · rw [if_neg (fun h => h h4)]
         cases l
         · rw [if_pos rfl]
           refine ⟨fun _ => ⟨rfl, by omega, fun hb => ?_, h4, fun h => absurd h (by decide)⟩, fun _ => rfl⟩
           have : ¬ (a.Low < -2305843009213693952 ∨ 2305843009213693952 < a.High ∨ a.Num < a.Low ∨ a.High < a.Num) := fun h => h3 ⟨hb, h⟩
           omega
         · rw [if_neg (by decide)]
           by_cases h5 : a.Cap < 1 ∨ 32 < a.Cap
           · rw [if_pos h5]; exact ⟨fun h => absurd h (by decide), fun h => by have := h.2.2.2.2 rfl; omega⟩
           · rw [if_neg h5]
             by_cases h6 : a.Cap < a.List.length
             · rw [if_pos h6]; exact ⟨fun h => absurd h (by decide), fun h => by have := h.2.2.2.2 rfl; omega⟩
             · rw [if_neg h6, Zsh]
               constructor
               · intro h
                 refine ⟨rfl, by omega, fun hb => ?_, h4, fun _ => ⟨by omega, by omega, by omega, fun i hi => h i (Nat.zero_le _) (by omega)⟩⟩
                 have : ¬ (a.Low < -2305843009213693952 ∨ 2305843009213693952 < a.High ∨ a.Num < a.Low ∨ a.High < a.Num) := fun h => h3 ⟨hb, h⟩
                 omega
               · intro h j _ hj
                 exact (h.2.2.2.2 rfl).2.2.2 j (by omega)
       · rw [if_pos h4]; exact ⟨fun h => absurd h (by decide), fun h => absurd h.2.2.2.1 h4⟩
def Zc1 (a : Ze) : Prop := 1 ≤ a.Kind ∧ a.Kind ≤ 9 ∧ Zg7 (decide (a.Kind = 1)) (decide (2 ≤ a.Kind ∧ a.Kind ≤ 4)) (decide (a.Kind = 4)) (decide (5 ≤ a.Kind ∧ a.Kind ≤ 7)) (decide (8 ≤ a.Kind)) a = true ∧ a.Text.size ≤ 64 ∧ (a.Kind = 4 → -2305843009213693952 ≤ a.Low ∧ a.High ≤ 2305843009213693952 ∧ a.Low ≤ a.Num ∧ a.Num ≤ a.High) ∧ a.Real = Zcc a.Real ∧
 (8 ≤ a.Kind → 1 ≤ a.Cap ∧ a.Cap ≤ 32 ∧ (a.List.length : Int) ≤ a.Cap ∧ ∀ i, i < a.List.length → Zhk a.Kind a.List i = 0)
theorem Zk0 {a : Ze} (ha : Zh2 a) : Zee a = some 0 ↔ Zc1 a := by
 by_cases hk : a.Kind ≤ 0 ∨ 10 ≤ a.Kind
 · have : Zee a ≠ some 0 := by
     obtain ⟨c, hc, hc2⟩ := Zl4 ha
     unfold Zdj at hc2
     rw [if_pos (by simp; omega)] at hc2
     rw [hc, ← hc2]; decide
   exact ⟨fun h => absurd h this, fun h => by obtain ⟨h1, h2, _⟩ := h; omega⟩
 · have fin : ∀ {t n b r l : Bool}, Zeh a.Kind = some ⟨t, n, b, r, l⟩ → t = decide (a.Kind = 1) → n = decide (2 ≤ a.Kind ∧ a.Kind ≤ 4) → b = decide (a.Kind = 4) → r = decide (5 ≤ a.Kind ∧ a.Kind ≤ 7) → l = decide (8 ≤ a.Kind) → (Zee a = some 0 ↔ Zc1 a) := by
     intro t n b r l hs h1 h2 h3 h4 h5
     rw [Zgf ha hk hs]
     constructor
     · intro h
       obtain ⟨g1, g2, g3, g4, g5⟩ := Zse.1 (Option.some.inj h)
       refine ⟨by omega, by omega, by rw [← h1, ← h2, ← h3, ← h4, ← h5]; exact g1, g2, fun hk4 => g3 (by rw [h3]; simpa using hk4), g4, fun hk8 => g5 (by rw [h5]; simpa using hk8)⟩
     · rintro ⟨_, _, g1, g2, g3, g4, g5⟩
       congr 1
       exact Zse.2 ⟨by rw [h1, h2, h3, h4, h5]; exact g1, g2, fun hb => g3 (by rw [h3] at hb; simpa using hb), g4, fun hb => g5 (by rw [h5] at hb; simpa using hb)⟩
   have hk' : a.Kind = 1 ∨ a.Kind = 2 ∨ a.Kind = 3 ∨ a.Kind = 4 ∨ a.Kind = 5 ∨ a.Kind = 6 ∨ a.Kind = 7 ∨ a.Kind = 8 ∨ a.Kind = 9 := by omega
   rcases hk' with h | h | h | h | h | h | h | h | h <;> rw [h] at fin
   · exact fin Z2n rfl rfl rfl rfl rfl
   · exact fin Z2j rfl rfl rfl rfl rfl
   · exact fin Z2b rfl rfl rfl rfl rfl
   · exact fin Z1y rfl rfl rfl rfl rfl
   · exact fin Z1d rfl rfl rfl rfl rfl
   · exact fin Z2a rfl rfl rfl rfl rfl
   · exact fin Z2h rfl rfl rfl rfl rfl
   · exact fin Z1a rfl rfl rfl rfl rfl
   · exact fin Z2e rfl rfl rfl rfl rfl
theorem Zl5 {a : Ze} (h : Zc1 a) (hk : a.Kind = 8) : NS a.List := by
 obtain ⟨_, _, _, _, _, _, h8⟩ := h
 obtain ⟨_, _, _, hi⟩ := h8 (by omega)
 have step : ∀ i, i + 1 < a.List.length → sLt ((a.List[i]?).getD default).Name ((a.List[i + 1]?).getD default).Name = true := by
   intro i hi1
   have := hi (i + 1) hi1
   unfold Zhk at this
   rw [List.getElem?_eq_getElem hi1] at this
   simp only [Nat.add_sub_cancel] at this
   split at this
   · cases this
   · split at this
     · cases this
     · split at this
       · cases this
       · rename_i h3
         rw [List.getElem?_eq_getElem hi1]
         cases hq : sLt ((a.List[i]?).getD default).Name a.List[i + 1].Name
         · exact absurd ⟨by omega, hk, hq⟩ h3
         · exact hq
 have far : ∀ d i, i + d + 1 < a.List.length → sLt ((a.List[i]?).getD default).Name ((a.List[i + d + 1]?).getD default).Name = true := by
   intro d
   induction d with
   | zero => intro i h; exact step i h
   | succ d ih => intro i h; exact Zf7 (ih i (by omega)) (step (i + d + 1) (by omega))
 refine List.pairwise_iff_getElem.2 fun i j hi hj hij => ?_
 have := far (j - i - 1) i (by omega)
 rw [show i + (j - i - 1) + 1 = j by omega, List.getElem?_eq_getElem hi, List.getElem?_eq_getElem hj] at this
 exact this
theorem Zu5 {neg : Bool} {r : Nat} (h : r ≤ Ieee.double.infRung) : Ieee.double.word neg r < W64 := by
 have h1 : Ieee.double.infRung = 9218868437227405312 := by decide
 have h2 : Ieee.double.signWeight = 9223372036854775808 := by decide
 unfold Ieee.Format.word
 rw [h1] at h
 show _ < 18446744073709551616
 split
 · rw [h2]; omega
 · omega
theorem Z0k (neg : Bool) (mag : Nat) (place : Int) : Ieee.double.nearest neg mag place < W64 := by
 unfold Ieee.Format.nearest
 split
 · exact Zu5 (Nat.zero_le _)
 · exact Zu5 (Nat.min_le_right _ _)
theorem Zxm {d : Ieee.Datum} (h : ∀ n f, d ≠ .nan n f) : Ieee.double.write d < W64 := by
 cases d with
 | number n m p => exact Z0k n m p
 | infinity n => exact Zu5 (Nat.le_refl _)
 | nan n f => exact absurd rfl (h n f)
theorem Z47 {x y d : Ieee.Datum} (h : x.sum y = some d) : ∀ n f, d ≠ .nan n f := by
 intro n f e
 subst e
 cases x <;> cases y <;> simp [Ieee.Datum.sum] at h
theorem Zym {x y d : Ieee.Datum} (h : x.product y = some d) : ∀ n f, d ≠ .nan n f := by
 intro n f e
 subst e
 cases x <;> cases y <;> simp [Ieee.Datum.product] at h
theorem Zzf (m n : Nat) : fadd m n < W64 := by
 unfold fadd Ieee.Format.add
 cases h : (Ieee.double.read m).sum (Ieee.double.read n) with
 | none => exact (by decide : 9221120237041090561 < W64)
 | some d => simpa using Zxm (Z47 h)
theorem Zzs (m n : Nat) : fmul m n < W64 := by
 unfold fmul Ieee.Format.mul
 cases h : (Ieee.double.read m).product (Ieee.double.read n) with
 | none => exact (by decide : 9221120237041090561 < W64)
 | some d => simpa using Zxm (Zym h)
theorem Zq4 {z : Nat} (hz : z < W64) : ∃ p, Ze5 z = some p ∧ Zeu p = some (Zcc z) := by
 have hz' : z < 18446744073709551616 := hz
 unfold Ze5 Zeu Zcc NANB
 rw [Zps hz]
 simp only [Option.bind_some]
 by_cases hn : isn z
 · refine ⟨18444492273895866369, by simp [hn]; decide, ?_⟩
   rw [if_pos (by decide), if_pos hn]; decide
 · simp only [hn, decide_false, Bool.false_eq_true, if_false]
   by_cases ht : (9223372036854775808 : Int) ≤ z
   · rw [if_pos (by simpa using ht)]
     refine ⟨_, rfl, ?_⟩
     rw [wru (x := (9223372036854775808 : Int) - 1) (by decide) (by decide), wru (x := (z : Int) - 9223372036854775808) (by omega) (by omega), wru (by omega) (by omega)]
     rw [if_neg (by simp; omega)]
     rw [wru (x := (9223372036854775808 : Int) - 1 - _) (by omega) (by omega), wru (by omega) (by omega)]
     congr 1; omega
   · rw [if_neg (by simpa using ht)]
     refine ⟨_, rfl, ?_⟩
     rw [wru (by omega) (by omega), if_pos (by simp; omega), wru (by omega) (by omega)]
     congr 1; omega
theorem Zsn {z : Nat} : Zcc (Zcc z) = Zcc z := by
 unfold Zcc
 by_cases h : isn z
 · rw [if_pos h, if_pos (show isn NANB by unfold isn rg INF NANB TOP; decide)]
 · rw [if_neg h, if_neg h]
theorem Zxx {a b : Nat} (ha : a < W64) (hb : b < W64) (ca : a = Zcc a) (cb : b = Zcc b) : ∃ m, Zkv a b = some m ∧ Zim a b = some m ∧ (m = a ∨ m = b) := by
 unfold Zkv Zim
 rw [Zun ha hb, Zny ha hb, Zja ha, Zja hb, ← ca, ← cb]
 by_cases h : keyf a < keyf b
 · exact ⟨b, by simp [h], by simp [h], .inr rfl⟩
 · exact ⟨a, by simp [h], by simp [h], .inl rfl⟩
theorem Zwo {a b : Nat} (ha : a < W64) (hb : b < W64) (ca : a = Zcc a) (cb : b = Zcc b) : ∃ m, Zkx a b = some m ∧ Ziw a b = some m ∧ (m = a ∨ m = b) := by
 unfold Zkx Ziw
 rw [Zun hb ha, Zny hb ha, Zja ha, Zja hb, ← ca, ← cb]
 by_cases h : keyf b < keyf a
 · exact ⟨b, by simp [h], by simp [h], .inr rfl⟩
 · exact ⟨a, by simp [h], by simp [h], .inl rfl⟩
end Go.CL
set_option linter.unusedVariables false
set_option linter.unusedSimpArgs false
namespace Go.CL
open Go
def I64 (x : Int) : Prop := -9223372036854775808 ≤ x ∧ x ≤ 9223372036854775807
structure RecW (r : Ze) : Prop where
 ok : Zh2 r
 num : I64 r.Num
 low : I64 r.Low
 high : I64 r.High
 kind : I64 r.Kind
 len : r.List.length ≤ 1000
structure ActW (a : Z2) : Prop where
 ok : Zug a
 n : I64 a.N
 mkr : RecW a.Make
 xc : a.X = Zcc a.X
 inout : (a.Kind = 10 ∨ a.Kind = 11) → 0 ≤ a.N ∧ a.N ≤ 2305843009213693952
 s64 : a.S.size ≤ 64
 s16 : ¬ (5 ≤ a.Kind ∧ a.Kind ≤ 6) → a.S.size ≤ 16
abbrev ans (c : Int) : Zg := { Code := c, Num := 0, Rec := default }
def Chg (r : Ze) (a : Z2) : Prop := ∃ c r' o, Zbi a.Kind r a (default : Zg) = some (c, r', o) ∧ Zbt r a = some (if c = 0 then (r', o) else (r, ans c)) ∧ RecW r' ∧ RecW o.Rec ∧ (c = 0 → o.Code = 0 ∧ o.Num = 0)
theorem Zp0 (x : Int) : I64 (IntKind.i64.wrap x) := by unfold I64; rw [IntKind.wrap_i64]; omega
theorem Zdg : RecW (default : Ze) := ⟨⟨by decide, by decide, fun e he => by cases he⟩, by unfold I64; decide, by unfold I64; decide, by unfold I64; decide, by unfold I64; decide, by decide⟩
theorem RecW.withNum {r : Ze} (h : RecW r) {x : Int} (hx : I64 x) : RecW { r with Num := x } := ⟨⟨h.ok.real, h.ok.len, h.ok.sc⟩, hx, h.low, h.high, h.kind, h.len⟩
theorem RecW.withText {r : Ze} (h : RecW r) (t : ByteArray) : RecW { r with Text := t } := ⟨⟨h.ok.real, h.ok.len, h.ok.sc⟩, h.num, h.low, h.high, h.kind, h.len⟩
theorem RecW.withReal {r : Ze} (h : RecW r) {x : Nat} (hx : x < W64) : RecW { r with Real := x } := ⟨⟨hx, h.ok.len, h.ok.sc⟩, h.num, h.low, h.high, h.kind, h.len⟩
theorem RecW.withList {r : Ze} (h : RecW r) {l : Zdi} (h1 : l.length ≤ 1000) (h2 : ∀ e ∈ l, e.Score < W64) : RecW { r with List := l } := ⟨⟨h.ok.real, by show l.length < _; omega, h2⟩, h.num, h.low, h.high, h.kind, h1⟩
theorem Zjt {r : Ze} (h : r.List.length ≤ 1000) : Zfs r = some r := by
 unfold Zfs Zb2
 rw [if_pos (by omega)]; rfl
theorem Zoa {r : Ze} (h : r.List.length ≤ 1000) : Zet r = some r := by
 unfold Zet
 rw [if_pos (by simp; omega)]; rfl
variable {r : Ze} {a : Z2}
theorem Z6e (h : a.Kind = 5) (hr : RecW r) : Chg r a := by
 refine ⟨0, { r with Text := a.S }, ans 0, ?_, ?_, hr.withText _, Zdg, fun _ => ⟨rfl, rfl⟩⟩
 · rw [h]; rfl
 · unfold Zbt; rw [h]; rfl
theorem Z3q (h : a.Kind = 6) (hr : RecW r) : Chg r a := by
 refine ⟨0, { r with Text := a.S }, { ans 0 with Rec := r }, ?_, ?_, hr.withText _, hr, fun _ => ⟨rfl, rfl⟩⟩
 · rw [h]
   show Zgz r a default = _
   unfold Zgz
   rw [Zjt hr.len]; rfl
 · unfold Zbt; rw [h, Zoa hr.len]; rfl
theorem Z5a (h : a.Kind = 7) (hr : RecW r) : Chg r a := by
 refine ⟨0, { r with Num := IntKind.i64.wrap (r.Num + a.N) }, ans 0, ?_, ?_, hr.withNum (Zp0 _), Zdg, fun _ => ⟨rfl, rfl⟩⟩
 · rw [h]; rfl
 · unfold Zbt; rw [h]; rfl
theorem Z2l (hr : I64 r.Num) (hn : I64 a.N) : (((decide ((0 : Int) < a.N)) && (decide ((IntKind.i64.wrap ((9223372036854775807 : Int) - a.N)) < r.Num))) || ((decide (a.N < (0 : Int))) && (decide (r.Num < (IntKind.i64.wrap ((-9223372036854775808 : Int) - a.N)))))) =
   ((((decide ((0 : Int) < r.Num)) && (decide ((0 : Int) < a.N))) && (decide ((IntKind.i64.wrap (r.Num + a.N)) < (0 : Int)))) || (((decide (r.Num < (0 : Int))) && (decide (a.N < (0 : Int)))) && (decide ((0 : Int) ≤ (IntKind.i64.wrap (r.Num + a.N)))))) := by
 unfold I64 at hr hn
 rw [Bool.eq_iff_iff]
 simp only [Bool.or_eq_true, Bool.and_eq_true, decide_eq_true_eq, IntKind.wrap_i64]
 omega
theorem Z3n (h : a.Kind = 8) (hr : RecW r) (ha : ActW a) : Chg r a := by
 have e1 : Zbi a.Kind r a default = Zkh r a default := by rw [h]; rfl
 have e2 : Zbt r a = (Zh9 r.Num a.N).bind fun r7 => (if r7 then (Z5 r (ans 9)) else (Z5 { r with Num := IntKind.i64.wrap (r.Num + a.N) } (ans 0))) := by unfold Zbt; rw [h]; rfl
 have hp := Z2l hr.num ha.n
 unfold Chg
 rw [e1, e2]
 unfold Zkh Zh9 Z5
 rw [hp]
 simp only [Option.bind_some]
 split
 · exact ⟨9, r, _, rfl, rfl, hr, Zdg, fun h => by cases h⟩
 · exact ⟨0, _, _, rfl, rfl, hr.withNum (Zp0 _), Zdg, fun _ => ⟨rfl, rfl⟩⟩
theorem Zvb (h : a.Kind = 9 ∨ a.Kind = 12) (hr : RecW r) : Chg r a := by
 have e1 : Zbi a.Kind r a default = Zd6 r a default := by rcases h with h | h <;> rw [h] <;> rfl
 have e2 : Zbt r a = (if (decide (r.Num < a.N)) then (Z5 r (ans 11)) else (Z5 r (ans 0))) := by rcases h with h | h <;> unfold Zbt Zcg <;> rw [h] <;> rfl
 unfold Chg
 rw [e1, e2]
 unfold Zd6 Z5
 split
 · exact ⟨11, r, _, rfl, rfl, hr, Zdg, fun h => by cases h⟩
 · exact ⟨0, r, _, rfl, rfl, hr, Zdg, fun _ => ⟨rfl, rfl⟩⟩
theorem Zwg (hg : Zc1 r) (hk : r.Kind = 4) : -2305843009213693952 ≤ r.Low ∧ r.High ≤ 2305843009213693952 ∧ r.Low ≤ r.Num ∧ r.Num ≤ r.High := hg.2.2.2.2.1 hk
theorem Z7n (h : a.Kind = 10) (hr : RecW r) (hg : Zc1 r) (hk : r.Kind = 4) (ha : ActW a) : Chg r a := by
 have e1 : Zbi a.Kind r a default = Zgx r a default := by rw [h]; rfl
 have e2 : Zbt r a = (if (decide (r.High < IntKind.i64.wrap (r.Num + a.N))) then (Z5 r (ans 9)) else (Z5 { r with Num := IntKind.i64.wrap (r.Num + a.N) } (ans 0))) := by unfold Zbt Zcg; rw [h]; rfl
 obtain ⟨p1, p2, p3, p4⟩ := Zwg hg hk
 obtain ⟨n1, n2⟩ := ha.inout (.inl h)
 have hd : decide (IntKind.i64.wrap (r.High - r.Num) < a.N) = decide (r.High < IntKind.i64.wrap (r.Num + a.N)) := by
   rw [wr (x := r.High - r.Num) (by omega) (by omega), wr (x := r.Num + a.N) (by omega) (by omega)]
   apply decide_eq_decide.2; omega
 unfold Chg
 rw [e1, e2]
 unfold Zgx Z5
 rw [hd]
 split
 · exact ⟨9, r, _, rfl, rfl, hr, Zdg, fun h => by cases h⟩
 · exact ⟨0, _, _, rfl, rfl, hr.withNum (Zp0 _), Zdg, fun _ => ⟨rfl, rfl⟩⟩
theorem Z6c (h : a.Kind = 11) (hr : RecW r) (hg : Zc1 r) (hk : r.Kind = 4) (ha : ActW a) : Chg r a := by
 have e1 : Zbi a.Kind r a default = Zg3 r a default := by rw [h]; rfl
 have e2 : Zbt r a = (if (decide (IntKind.i64.wrap (r.Num - a.N) < r.Low)) then (Z5 r (ans 10)) else (Z5 { r with Num := IntKind.i64.wrap (r.Num - a.N) } (ans 0))) := by unfold Zbt Zcg; rw [h]; rfl
 obtain ⟨p1, p2, p3, p4⟩ := Zwg hg hk
 obtain ⟨n1, n2⟩ := ha.inout (.inr h)
 have hd : decide (IntKind.i64.wrap (r.Num - r.Low) < a.N) = decide (IntKind.i64.wrap (r.Num - a.N) < r.Low) := by
   rw [wr (x := r.Num - r.Low) (by omega) (by omega), wr (x := r.Num - a.N) (by omega) (by omega)]
   apply decide_eq_decide.2; omega
 unfold Chg
 rw [e1, e2]
 unfold Zg3 Z5
 rw [hd]
 split
 · exact ⟨10, r, _, rfl, rfl, hr, Zdg, fun h => by cases h⟩
 · exact ⟨0, _, _, rfl, rfl, hr.withNum (Zp0 _), Zdg, fun _ => ⟨rfl, rfl⟩⟩
theorem Zns {m : Nat} {ψ : Nat → Nat → Option Nat} (h : Zbi a.Kind r a default = Zer ψ r a default) (h1 : ψ r.Real a.X = some m) (hm : m < W64) (h2 : Zbt r a = some ({ r with Real := m }, ans 0)) (hr : RecW r) : Chg r a := by
 refine ⟨0, { r with Real := m }, ans 0, ?_, h2, hr.withReal hm, Zdg, fun _ => ⟨rfl, rfl⟩⟩
 rw [h]
 unfold Zer
 rw [h1]; rfl
theorem Zmx (hg : Zc1 r) : r.Real = Zcc r.Real := hg.2.2.2.2.2.1
theorem Z15 (h : a.Kind = 13) (hr : RecW r) (hg : Zc1 r) (ha : ActW a) : Chg r a := by
 obtain ⟨m, m1, m2, m3⟩ := Zxx hr.ok.real ha.ok.2 (Zmx hg) ha.xc
 refine Zns (m := m) (ψ := fun x y => Zkv x y) (by rw [h]; rfl) m1 (by rcases m3 with rfl | rfl; exact hr.ok.real; exact ha.ok.2) ?_ hr
 unfold Zbt Zcg; rw [h, m2]; rfl
theorem Z1i (h : a.Kind = 14) (hr : RecW r) (hg : Zc1 r) (ha : ActW a) : Chg r a := by
 obtain ⟨m, m1, m2, m3⟩ := Zwo hr.ok.real ha.ok.2 (Zmx hg) ha.xc
 refine Zns (m := m) (ψ := fun x y => Zkx x y) (by rw [h]; rfl) m1 (by rcases m3 with rfl | rfl; exact hr.ok.real; exact ha.ok.2) ?_ hr
 unfold Zbt Zcg; rw [h, m2]; rfl
theorem Z1x (h : a.Kind = 15) (hr : RecW r) : Chg r a := by
 have hz := Zzf r.Real a.X
 obtain ⟨p, p1, p2⟩ := Zq4 hz
 refine Zns (m := Zcc (fadd r.Real a.X)) (ψ := fun x y => Zie x y) (by rw [h]; rfl) (by show Zie r.Real a.X = _; unfold Zie; rw [Zja hz]; rfl) (Zs9 hz) ?_ hr
 unfold Zbt Zcg; rw [h, p1]
 show ((Zeu p).bind _) = _
 rw [p2]; rfl
theorem Z2v (h : a.Kind = 16) (hr : RecW r) : Chg r a := by
 have hz := Zzs r.Real a.X
 obtain ⟨p, p1, p2⟩ := Zq4 hz
 refine Zns (m := Zcc (fmul r.Real a.X)) (ψ := fun x y => Zhc x y) (by rw [h]; rfl) (by show Zhc r.Real a.X = _; unfold Zhc; rw [Zja hz]; rfl) (Zs9 hz) ?_ hr
 unfold Zbt Zcg; rw [h, p1]
 show ((Zeu p).bind _) = _
 rw [p2]; rfl
theorem Z50 (h : a.Kind = 17) (hr : RecW r) (ha : ActW a) : Chg r a := by
 refine Zns (m := a.X) (ψ := fun x y => Zg2 x y) (by rw [h]; rfl) rfl ha.ok.2 ?_ hr
 unfold Zbt Zcg; rw [h]; rfl
theorem Zu8 (hg : Zc1 r) (hk : 8 ≤ r.Kind) : 1 ≤ r.Cap ∧ r.Cap ≤ 32 ∧ (r.List.length : Int) ≤ r.Cap := by
 obtain ⟨h1, h2, h3, _⟩ := hg.2.2.2.2.2.2 hk
 exact ⟨h1, h2, h3⟩
theorem Z6d (h : a.Kind = 20) (hr : RecW r) (hg : Zc1 r) (hk : r.Kind = 8) : Chg r a := by
 have hs := Zl5 hg hk
 have hl := hr.len
 have e1 : Zbi a.Kind r a default = Zfm r a default := by rw [h]; rfl
 have e2 : Zbt r a = (Zfr r.List a.S).bind fun r59 => (if (!r59) then (Z5 r (ans 11)) else (Z5 r (ans 0))) := by unfold Zbt Zcg; rw [h]; rfl
 unfold Chg
 rw [e1, e2]
 unfold Zfm Z5
 rw [Zne hs (by omega), Z2d (by omega), Zsx hs]
 simp only [Option.bind_some]
 split
 · exact ⟨11, r, _, rfl, rfl, hr, Zdg, fun h => by cases h⟩
 · exact ⟨0, r, _, rfl, rfl, hr, Zdg, fun _ => ⟨rfl, rfl⟩⟩
theorem Z28 (h : a.Kind = 18) (hr : RecW r) (hg : Zc1 r) (hk : r.Kind = 8) : Chg r a := by
 have hs := Zl5 hg hk
 have hl := hr.len
 obtain ⟨c1, c2, c3⟩ := Zu8 hg (by omega)
 have e1 : Zbi a.Kind r a default = Zkm r a default := by rw [h]; rfl
 have e2 : Zbt r a = (Zfr r.List a.S).bind fun r40 => (if ((!r40) && (decide (r.Cap ≤ (r.List.length : Int)))) then (Z5 r (ans 8)) else ((Zfe r.List ({ Score := (0 : Nat), Name := a.S } : Zl) true).bind fun r43 => (Z5 ({ r with List := r43 }) (ans 0)))) := by unfold Zbt Zcg; rw [h]; rfl
 have hple := Znn (fun e => sLt e.Name a.S) r.List
 unfold Chg
 rw [e1, e2]
 unfold Zkm Z5
 rw [Zne hs (by omega), Z2d (by omega), Zsx hs, Zzm (show (0 : Nat) < W64 by decide) hr.ok.sc (by omega), Z1v, Zot (by omega)]
 simp only [Option.bind_some]
 by_cases hat : isAt a.S r.List = true
 · rw [hat]
   exact ⟨0, r, _, rfl, rfl, hr, Zdg, fun _ => ⟨rfl, rfl⟩⟩
 · have hat' : isAt a.S r.List = false := by simpa using hat
   rw [hat']
   simp only [Bool.not_false, Bool.true_and, Bool.false_eq_true, if_false]
   by_cases hc : decide (r.Cap ≤ (r.List.length : Int)) = true
   · rw [if_pos hc, if_pos hc]
     exact ⟨8, r, _, rfl, rfl, hr, Zdg, fun h => by cases h⟩
   · rw [if_neg hc, if_neg hc]
     unfold Zcf
     rw [if_pos ⟨by omega, by omega, by simp, by simp; omega⟩]
     refine ⟨0, _, _, rfl, rfl, hr.withList (by simp; omega) fun e he => ?_, Zdg, fun _ => ⟨rfl, rfl⟩⟩
     simp only [List.mem_append, List.mem_singleton, Int.toNat_natCast] at he
     rcases he with (he | rfl) | he
     · exact hr.ok.sc e (List.mem_of_mem_take he)
     · exact (show (0 : Nat) < W64 by decide)
     · exact hr.ok.sc e (List.mem_of_mem_drop he)
theorem Zve (h : a.Kind = 19) (hr : RecW r) (hg : Zc1 r) (hk : r.Kind = 8) : Chg r a := by
 have hs := Zl5 hg hk
 have hl := hr.len
 have e1 : Zbi a.Kind r a default = Zjp r a default := by rw [h]; rfl
 have e2 : Zbt r a = (Zc7 r a (Int.toNat ((r.List.length : Int) - (0 : Int)) + 1) ([] : List Zl) (0 : Int)).bind fun z57 => match z57 with | y56 => (Z5 ({ r with List := y56 }) (ans 0)) := by unfold Zbt Zcg; rw [h]; rfl
 have hple := Znn (fun e => sLt e.Name a.S) r.List
 unfold Chg
 rw [e1, e2]
 unfold Zjp Z5
 have hf := Zoh (a := a) (a0 := r) (by omega) r.List.length 0 [] (by omega) (by simp)
 rw [show ((0 : Nat) : Int) = 0 from rfl] at hf
 rw [Zne hs (by omega), show (Int.toNat ((r.List.length : Int) - (0 : Int)) + 1) = r.List.length + 1 by omega, hf, List.drop_zero, List.nil_append, Z1s hs, Zot (by omega)]
 simp only [Option.bind_some]
 by_cases hat : isAt a.S r.List = true
 · have hp : pre (fun e => sLt e.Name a.S) r.List < r.List.length := by
     unfold isAt at hat
     cases hq : r.List[pre (fun e => sLt e.Name a.S) r.List]? with
     | none => rw [hq] at hat; cases hat
     | some e => exact (List.getElem?_eq_some_iff.1 hq).1
   rw [hat]
   simp only [if_true]
   unfold Ze1
   rw [wr1 (by omega), if_pos ⟨by omega, by omega, by omega, by omega, by omega⟩]
   refine ⟨0, _, _, rfl, rfl, hr.withList (by simp; omega) fun e he => ?_, Zdg, fun _ => ⟨rfl, rfl⟩⟩
   simp only [List.mem_append, Int.toNat_natCast] at he
   rcases he with he | he
   · exact hr.ok.sc e (List.mem_of_mem_take he)
   · exact hr.ok.sc e (List.mem_of_mem_drop he)
 · have hat' : isAt a.S r.List = false := by simpa using hat
   rw [hat']
   exact ⟨0, r, _, rfl, rfl, hr, Zdg, fun _ => ⟨rfl, rfl⟩⟩
end Go.CL
set_option linter.unusedVariables false
set_option linter.unusedSimpArgs false
namespace Go.CL
open Go
variable {r : Ze} {a : Z2}
theorem Zxb {l : Zdi} {c : Int} (h1 : 1 ≤ c) (h2 : c ≤ 32) : cut l 0 (min (l.length : Int) c) = some (l.take c.toNat) := by
 unfold cut
 rw [if_pos (by omega)]
 simp only [Int.toNat_zero, List.drop_zero, Nat.sub_zero]
 congr 1
 rcases Int.le_total (l.length : Int) c with h | h
 · rw [Int.min_eq_left h, Int.toNat_natCast, List.take_of_length_le (Nat.le_refl _), List.take_of_length_le (by omega)]
 · rw [Int.min_eq_right h]
theorem Z1l (h : a.Kind = 21) (hr : RecW r) (hg : Zc1 r) (hk : r.Kind = 9) (ha : ActW a) : Chg r a := by
 have hl := hr.len
 obtain ⟨c1, c2, c3⟩ := Zu8 hg (by omega)
 have e1 : Zbi a.Kind r a default = Zjz r a default := by rw [h]; rfl
 have e2 : Zbt r a = (Zfe r.List ({ Score := a.X, Name := a.S } : Zl) false).bind fun r63 => (if (decide (r.Cap < (r63.length : Int))) then ((cut r63 (0 : Int) r.Cap).bind fun c66 => (Zek r c66)) else (Zek r r63)) := by unfold Zbt Zcg; rw [h]; rfl
 have hx : ({ Score := a.X, Name := a.S } : Zl).Score < W64 := ha.ok.2
 have hple := Znn (Zdt { Score := a.X, Name := a.S } false) r.List
 unfold Chg
 rw [e1, e2]
 unfold Zjz
 rw [Zvg ha.ok.2 hr.ok.sc (by omega), Zzm hx hr.ok.sc (by omega), Zot (by omega)]
 simp only [Option.bind_some]
 have fin : ∀ L : Zdi, L = r.List.take (pre (Zdt { Score := a.X, Name := a.S } false) r.List) ++ [{ Score := a.X, Name := a.S }] ++ r.List.drop (pre (Zdt { Score := a.X, Name := a.S } false) r.List) → layL { Score := a.X, Name := a.S } false r.List = L →
     ∃ c r' o, ((Zcf r.List ((pre (Zdt { Score := a.X, Name := a.S } false) r.List : Nat) : Int) ([({ Score := a.X, Name := a.S } : Zl)] : List Zl)).bind fun r16 => ((cut r16 (0 : Int) (min (r16.length : Int) r.Cap)).bind fun c18 => (some ((0 : Int), ({ r with List := c18 }), (default : Zg))))) = some (c, r', o) ∧
       (if (decide (r.Cap < ((layL { Score := a.X, Name := a.S } false r.List).length : Int))) = true then ((cut (layL { Score := a.X, Name := a.S } false r.List) (0 : Int) r.Cap).bind fun c66 => (Zek r c66)) else (Zek r (layL { Score := a.X, Name := a.S } false r.List))) = some (if c = 0 then (r', o) else (r, ans c)) ∧ RecW r' ∧ RecW o.Rec ∧ (c = 0 → o.Code = 0 ∧ o.Num = 0) := by
   intro L hL hlay
   have hLl : L.length = r.List.length + 1 := by rw [hL]; simp; omega
   have hLs : ∀ e ∈ L, e.Score < W64 := fun e he => by
     rw [hL] at he
     simp only [List.mem_append, List.mem_singleton] at he
     rcases he with (he | rfl) | he
     · exact hr.ok.sc e (List.mem_of_mem_take he)
     · exact hx
     · exact hr.ok.sc e (List.mem_of_mem_drop he)
   rw [hlay]
   unfold Zcf Zek Z5
   rw [if_pos ⟨by omega, by omega, by simp, by simp; omega⟩]
   simp only [Option.bind_some, Int.toNat_natCast]
   rw [← hL, Zxb c1 c2]
   refine ⟨0, { r with List := L.take r.Cap.toNat }, ans 0, rfl, ?_, hr.withList (by simp; omega) (fun e he => hLs e (List.mem_of_mem_take he)), Zdg, fun _ => ⟨rfl, rfl⟩⟩
   by_cases hc : decide (r.Cap < (L.length : Int)) = true
   · rw [if_pos hc]
     have : r.Cap < (L.length : Int) := of_decide_eq_true hc
     unfold cut
     rw [if_pos (by omega)]
     simp
   · rw [if_neg hc]
     have : ¬ r.Cap < (L.length : Int) := fun h => hc (decide_eq_true h)
     rw [List.take_of_length_le (by omega)]; rfl
 by_cases hp : pre (Zdt { Score := a.X, Name := a.S } false) r.List < r.List.length
 · have hd : decide (((pre (Zdt { Score := a.X, Name := a.S } false) r.List : Nat) : Int) < (r.List.length : Int)) = true := by simpa using hp
   have hat := Zt7 (List.getElem?_eq_getElem hp)
   have hb : Zdd r.List[pre (Zdt { Score := a.X, Name := a.S } false) r.List] { Score := a.X, Name := a.S } = false := hat
   have hbs := Zyl hb
   rw [hd, Zdc hp]
   simp only [gd_t, Option.bind_some, Bool.true_and]
   rw [Zoc hx (hr.ok.sc _ (List.getElem_mem hp))]
   simp only [Option.bind_some]
   by_cases hs : (!Zdd { Score := a.X, Name := a.S } r.List[pre (Zdt { Score := a.X, Name := a.S } false) r.List]) = true
   · rw [if_pos hs]
     have hlay : layL { Score := a.X, Name := a.S } false r.List = r.List := by
       unfold layL
       rw [List.getElem?_eq_getElem hp]
       simp only
       rw [if_pos (by rw [← hbs]; exact hs), List.append_nil, List.take_append_drop]
     rw [hlay, if_neg (by simp; omega)]
     exact ⟨0, r, _, rfl, rfl, hr, Zdg, fun _ => ⟨rfl, rfl⟩⟩
   · rw [if_neg hs]
     refine fin _ rfl ?_
     unfold layL
     rw [List.getElem?_eq_getElem hp]
     simp only
     rw [if_neg (by rw [← hbs]; exact hs)]
 · have hd : decide (((pre (Zdt { Score := a.X, Name := a.S } false) r.List : Nat) : Int) < (r.List.length : Int)) = false := by simpa using hp
   rw [hd]
   simp only [gd_f, Option.bind_some, Bool.false_and, Bool.false_eq_true, if_false]
   refine fin _ rfl ?_
   unfold layL
   rw [List.getElem?_eq_none (by omega), List.take_of_length_le (by omega), List.drop_of_length_le (by omega), List.append_nil]
theorem Zrl {k : Int} (h1 : 1 ≤ k) (h2 : k ≤ 21) : ∃ on, Zla k = some on ∧ Zel k = some on ∧ (k ≤ 4 → on = 0) ∧ (5 ≤ k → on ≠ 0) ∧ ((k = 10 ∨ k = 11) → on = 4) ∧ ((k = 18 ∨ k = 19 ∨ k = 20) → on = 8) ∧ (k = 21 → on = 9) ∧
   ((k = 5 ∨ k = 6) → on = 1) ∧ (k = 7 → on = 2) ∧ ((k = 8 ∨ k = 9) → on = 3) ∧ (k = 12 → on = 4) ∧ (k = 13 → on = 5) ∧ (k = 14 → on = 6) ∧ ((k = 15 ∨ k = 16 ∨ k = 17) → on = 7) := by
 have hk' : k = 1 ∨ k = 2 ∨ k = 3 ∨ k = 4 ∨ k = 5 ∨ k = 6 ∨ k = 7 ∨ k = 8 ∨ k = 9 ∨ k = 10 ∨ k = 11 ∨ k = 12 ∨ k = 13 ∨ k = 14 ∨ k = 15 ∨ k = 16 ∨ k = 17 ∨ k = 18 ∨ k = 19 ∨ k = 20 ∨ k = 21 := by omega
 rcases hk' with rfl | rfl | rfl | rfl | rfl | rfl | rfl | rfl | rfl | rfl | rfl | rfl | rfl | rfl | rfl | rfl | rfl | rfl | rfl | rfl | rfl
 all_goals first
   | exact ⟨0, by kernel_rfl, by kernel_rfl, by decide⟩
   | exact ⟨1, by kernel_rfl, by kernel_rfl, by decide⟩
   | exact ⟨2, by kernel_rfl, by kernel_rfl, by decide⟩
   | exact ⟨3, by kernel_rfl, by kernel_rfl, by decide⟩
   | exact ⟨4, by kernel_rfl, by kernel_rfl, by decide⟩
   | exact ⟨5, by kernel_rfl, by kernel_rfl, by decide⟩
   | exact ⟨6, by kernel_rfl, by kernel_rfl, by decide⟩
   | exact ⟨7, by kernel_rfl, by kernel_rfl, by decide⟩
   | exact ⟨8, by kernel_rfl, by kernel_rfl, by decide⟩
   | exact ⟨9, by kernel_rfl, by kernel_rfl, by decide⟩
theorem Zzt (h5 : 5 ≤ a.Kind) (h21 : a.Kind ≤ 21) (hr : RecW r) (hg : Zc1 r) (hon : Zla a.Kind = some r.Kind) (ha : ActW a) : Chg r a := by
 obtain ⟨on, o1, _, _, _, k10, k18, k21, _⟩ := Zrl (k := a.Kind) (by omega) h21
 rw [hon] at o1
 obtain rfl := Option.some.inj o1
 have hk' : a.Kind = 5 ∨ a.Kind = 6 ∨ a.Kind = 7 ∨ a.Kind = 8 ∨ a.Kind = 9 ∨ a.Kind = 10 ∨ a.Kind = 11 ∨ a.Kind = 12 ∨ a.Kind = 13 ∨ a.Kind = 14 ∨ a.Kind = 15 ∨ a.Kind = 16 ∨ a.Kind = 17 ∨ a.Kind = 18 ∨ a.Kind = 19 ∨ a.Kind = 20 ∨ a.Kind = 21 := by omega
 rcases hk' with h | h | h | h | h | h | h | h | h | h | h | h | h | h | h | h | h
 · exact Z6e h hr
 · exact Z3q h hr
 · exact Z5a h hr
 · exact Z3n h hr ha
 · exact Zvb (.inl h) hr
 · exact Z7n h hr hg (k10 (.inl h)) ha
 · exact Z6c h hr hg (k10 (.inr h)) ha
 · exact Zvb (.inr h) hr
 · exact Z15 h hr hg ha
 · exact Z1i h hr hg ha
 · exact Z1x h hr
 · exact Z2v h hr
 · exact Z50 h hr ha
 · exact Z28 h hr hg (k18 (.inl h))
 · exact Zve h hr hg (k18 (.inr (.inl h)))
 · exact Z6d h hr hg (k18 (.inr (.inr h)))
 · exact Z1l h hr hg (k21 h) ha
structure ActIn (a : Z2) : Prop where
 ok : Zug a
 n : I64 a.N
 mkr : RecW a.Make
theorem ActIn.w {a : Z2} (h : ActIn a) {c : Int} (hc : 1 ≤ a.Kind ∧ a.Kind ≤ 21 ∧ a.X = Zcc a.X ∧ a.S.size ≤ 64 ∧ ((a.Kind = 10 ∨ a.Kind = 11) → 0 ≤ a.N ∧ a.N ≤ 2305843009213693952) ∧ (a.Kind = 1 → Zee a.Make = some 0) ∧ (¬ (5 ≤ a.Kind ∧ a.Kind ≤ 6) → a.S.size ≤ 16) ∧ sEq a.Key ⟨#[]⟩ = false ∧ a.Key.size ≤ 24) : ActW a :=
 ⟨h.ok, h.n, h.mkr, hc.2.2.1, hc.2.2.2.2.1, hc.2.2.2.1, hc.2.2.2.2.2.2.1⟩
theorem Zzh {there : Bool} {r : Ze} {c : Int} (hc : c ≠ 0) {on : Int} (ho : Zel a.Kind = some on) : Zd8 there a r c = some (r, there, ans c) := by
 have h1 : (c == 0) = false := by simpa using hc
 have h2 : (c != 0) = true := by simpa using hc
 unfold Zd8
 simp only [h1, Bool.false_and, Bool.false_eq_true, if_false]
 unfold Zfo
 simp only [h1, Bool.false_and, Bool.false_eq_true, if_false]
 unfold Zfn
 rw [ho]
 simp only [h1, Bool.false_and, Bool.false_eq_true, if_false, Option.bind_some]
 unfold Zfh
 rw [if_pos h2]
theorem Z5n (k : Int) : ∃ on, Zel k = some on := by
 by_cases h : k < 0 ∨ 21 < k
 · exact ⟨0, by unfold Zel; rw [if_pos (by simpa using h)]⟩
 · by_cases h0 : k = 0
   · exact ⟨0, by rw [h0]; kernel_rfl⟩
   · obtain ⟨on, _, h2, _⟩ := Zrl (k := k) (by omega) (by omega)
     exact ⟨on, h2⟩
theorem Zz8 {r : Ze} {there : Bool} {a : Z2} (hr : RecW r) (ha : ActIn a) : ∃ x is out, Zj0 r there a = some (x, is, out) ∧ Zhl r there a = some (x, is, out) ∧ RecW x ∧ RecW out.Rec := by
 suffices hs : ∀ r0 : Ze, RecW r0 → ∃ x is out, Zgr there a r0 = some (x, is, out) ∧ Zfk there a r0 = some (x, is, out) ∧ RecW x ∧ RecW out.Rec by
   unfold Zj0 Zhl
   cases there
   · exact hs _ Zdg
   · exact hs r hr
 intro r0 hr0
 unfold Zgr Zfk
 rw [Zjt hr0.len, Zoa hr0.len]
 obtain ⟨c, h1, h2, h3⟩ := Zoi ha.ok
 obtain ⟨on, hon⟩ := Z5n a.Kind
 rw [h1, h2]
 simp only [Option.bind_some]
 by_cases hc : c = 0
 · subst hc
   have hf := h3 rfl
   have hw := ha.w (c := 0) hf
   obtain ⟨on2, o1, o2, o3, o4, _⟩ := Zrl hf.1 hf.2.1
   have main : (there = true → Zc1 r0) → ∃ x is out, Zgp there a r0 = some (x, is, out) ∧ Zd8 there a r0 0 = some (x, is, out) ∧ RecW x ∧ RecW out.Rec := by
     intro hg
     unfold Zgp Zgl Zd8 Zfo Zfn
     rw [o1, o2, Zjt hr0.len, Zjt ha.mkr.len]
     unfold Zfh
     rw [Zoa hr0.len, Zoa ha.mkr.len]
     simp only [Option.bind_some]
     by_cases k1 : a.Kind = 1
     · rw [k1, o3 (by omega)]
       cases there
       · exact ⟨a.Make, true, ans 0, rfl, rfl, ha.mkr, Zdg⟩
       · exact ⟨r0, true, ans 7, rfl, rfl, hr0, Zdg⟩
     · by_cases k3 : a.Kind = 3
       · rw [k3, o3 (by omega)]
         cases there
         · exact ⟨r0, false, { ans 0 with Num := r0.Kind }, rfl, rfl, hr0, Zdg⟩
         · exact ⟨r0, true, { ans 0 with Num := r0.Kind }, rfl, rfl, hr0, Zdg⟩
       · by_cases k2 : a.Kind = 2
         · rw [k2, o3 (by omega)]
           cases there
           · exact ⟨r0, false, ans 6, rfl, rfl, hr0, Zdg⟩
           · exact ⟨zrc, false, ans 0, rfl, rfl, Zdg, Zdg⟩
         · by_cases k4 : a.Kind = 4
           · rw [k4, o3 (by omega)]
             cases there
             · exact ⟨r0, false, ans 6, rfl, rfl, hr0, Zdg⟩
             · exact ⟨r0, true, { ans 0 with Rec := r0 }, rfl, rfl, hr0, hr0⟩
           · have h5 : 5 ≤ a.Kind := by omega
             have b1 : (a.Kind == 1) = false := by simpa using k1
             have b2 : (a.Kind == 2) = false := by simpa using k2
             have b3 : (a.Kind == 3) = false := by simpa using k3
             have b4 : (a.Kind == 4) = false := by simpa using k4
             have b1' : (a.Kind != 1) = true := by simpa using k1
             have b3' : (a.Kind != 3) = true := by simpa using k3
             have bo : (on2 != 0) = true := by simpa using o4 h5
             simp only [b1, b2, b3, b4, b1', b3', bo, Bool.false_and, Bool.and_false, Bool.and_true, Bool.true_and, Bool.false_eq_true, if_false, beq_self_eq_true]
             cases there
             · exact ⟨r0, false, ans 6, rfl, rfl, hr0, Zdg⟩
             · simp only [Bool.not_true, Bool.false_eq_true, if_false, Bool.and_false, Bool.false_and, beq_self_eq_true, Bool.true_and]
               by_cases hk : (on2 != r0.Kind) = true
               · rw [if_pos hk, if_pos hk]
                 exact ⟨r0, true, ans 5, rfl, rfl, hr0, Zdg⟩
               · rw [if_neg hk, if_neg hk, if_pos ⟨h5, hf.2.1⟩]
                 have hk' : on2 = r0.Kind := by simpa using hk
                 obtain ⟨c, r', o, e1, e2, w1, w2, _⟩ := Zzt h5 hf.2.1 hr0 (hg rfl) (by rw [← hk']; exact o1) hw
                 rw [e1, e2]
                 simp only [Option.bind_some]
                 by_cases hc : c = 0
                 · subst hc
                   exact ⟨r', true, o, rfl, rfl, w1, w2⟩
                 · have hcn : (c != 0) = true := by simpa using hc
                   rw [if_pos hcn, if_neg hc]
                   exact ⟨r0, true, ans c, rfl, rfl, hr0, Zdg⟩
   have z1 : ((0 : Int) != 0) = false := rfl
   have z2 : ((0 : Int) == 0) = true := rfl
   rw [z1, z2]
   simp only [Bool.false_eq_true, if_false, Bool.true_and]
   by_cases ht : there = true
   · rw [if_pos ht, if_pos ht]
     obtain ⟨c2, g1, g2⟩ := Zl4 hr0.ok
     rw [g1, g2]
     simp only [Option.bind_some]
     by_cases hc2 : c2 = 0
     · subst hc2
       rw [z1]
       exact main fun _ => (Zk0 hr0.ok).1 g1
     · have hcn : (c2 != 0) = true := by simpa using hc2
       rw [if_pos hcn, Zzh hc2 o2]
       exact ⟨r0, there, ans c2, rfl, rfl, hr0, Zdg⟩
   · rw [if_neg ht, if_neg ht]
     exact main fun h => absurd h ht
 · have hcn : (c != 0) = true := by simpa using hc
   have hcz : (c == 0) = false := by simpa using hc
   rw [if_pos hcn, hcz]
   simp only [Bool.false_and, Bool.false_eq_true, if_false]
   rw [Zzh hc hon]
   exact ⟨r0, there, ans c, rfl, rfl, hr0, Zdg⟩
end Go.CL
set_option linter.unusedVariables false
set_option linter.unusedSimpArgs false
namespace Go.CL
open Go
theorem Zy4 {x : Ze} (h : Zj8 x) : x.List.length ≤ 9223372036854775807 := by
 obtain ⟨_, _, _, _, _, _, _, h8, _⟩ := h
 simp only [maxLen] at h8; omega
theorem Zux {x : Ze} (h : Zj8 x) (hl : x.List.length ≤ 100) : RecW x := by
 obtain ⟨h1, h2, h3, h4, h5, _, _, h8, h9⟩ := h
 exact ⟨⟨h5, by omega, fun e he => (h9 e he).1⟩, h2, h3, h4, h1, by omega⟩
theorem eqLr : ∀ l : List Zl, eqL l l = true
 | [] => rfl
 | x :: l => by simp [eqL, eqI, Ze8, eqLr l]
theorem Z64 (a : Ze) : Zk3 a a = true := by simp [Zk3, Ze8, eqLr]
theorem Z37 {a : Z2} (h : Zku a) (hl : a.Make.List.length ≤ 100) : ActIn a := by
 obtain ⟨_, _, h3, h4, _, h6, _⟩ := h
 exact ⟨⟨(Zux h6 hl).ok, h4⟩, h3, Zux h6 hl⟩
theorem Z97 {a : Z2} (h : Zku a) : ∃ c, Zin a = some c ∧ (c = 0 ∨ c = 1) ∧ (c = 0 → a.Make.List.length ≤ 100) := by
 obtain ⟨c, e1, e2, e3⟩ := Z4v (Zy4 h.2.2.2.2.2.1)
 unfold Zin
 rw [e1]
 by_cases hk : (decide ((200 : Int) < (a.Key.size : Int)) || decide ((1000 : Int) < (a.S.size : Int))) = true
 · rw [hk]; exact ⟨1, rfl, .inr rfl, fun h => by cases h⟩
 · have hk' := Bool.eq_false_iff.2 hk
   rw [hk']
   rcases e2 with rfl | rfl
   · exact ⟨0, rfl, .inl rfl, fun _ => e3 rfl⟩
   · exact ⟨1, rfl, .inr rfl, fun h => by cases h⟩
theorem Z6t {a b : Zg} (ha : RecW a.Rec) (hb : RecW b.Rec) : Zif a b = some ((a.Code == b.Code) && (a.Num == b.Num) && Zk3 a.Rec b.Rec) := by
 unfold Zif
 rw [Zq5 ha.ok hb.ok]
 cases (a.Code == b.Code) && (a.Num == b.Num) <;> rfl
end Go.CL
set_option linter.unusedVariables false
set_option linter.unusedSimpArgs false
namespace Go.CL
open Go
def Z02 (r0 : Ze) (there : Bool) (a : Z2) (z : Ze × Bool × Zg) : Prop :=
 (∃ c, c ≠ 0 ∧ z = (r0, there, ans c)) ∨ (Zg9 a = some 0 ∧ ActW a ∧ (there = true → Zc1 r0) ∧
   ((a.Kind = 1 ∧ there = false ∧ Zc1 a.Make ∧ z = (a.Make, true, ans 0)) ∨ (a.Kind = 2 ∧ there = true ∧ z = (zrc, false, ans 0)) ∨ (a.Kind = 3 ∧ z = (r0, there, { ans 0 with Num := r0.Kind })) ∨ (a.Kind = 4 ∧ there = true ∧ z = (r0, true, { ans 0 with Rec := r0 })) ∨
     (5 ≤ a.Kind ∧ a.Kind ≤ 21 ∧ there = true ∧ Zla a.Kind = some r0.Kind ∧ ∃ r' o, Zbi a.Kind r0 a default = some (0, r', o) ∧ o.Code = 0 ∧ o.Num = 0 ∧ RecW r' ∧ RecW o.Rec ∧ z = (r', true, o))))
theorem Zyh {r : Ze} {there : Bool} {a : Z2} (hr : RecW r) (ha : ActIn a) : ∃ z, Zj0 r there a = some z ∧ Z02 (if there = true then r else zrc) there a z := by
 suffices hs : ∀ r0 : Ze, RecW r0 → ∃ z, Zgr there a r0 = some z ∧ Z02 r0 there a z by
   unfold Zj0
   cases there
   · exact hs _ Zdg
   · exact hs r hr
 intro r0 hr0
 unfold Zgr
 rw [Zjt hr0.len]
 obtain ⟨c, h1, h2, h3⟩ := Zoi ha.ok
 rw [h1]
 simp only [Option.bind_some]
 by_cases hc : c = 0
 · subst hc
   have hf := h3 rfl
   have hw := ha.w (c := 0) hf
   obtain ⟨on2, o1, o2, o3, o4, _⟩ := Zrl hf.1 hf.2.1
   have main : (there = true → Zc1 r0) → ∃ z, Zgp there a r0 = some z ∧ Z02 r0 there a z := by
     intro hg
     unfold Zgp Zgl
     rw [o1, Zjt hr0.len, Zjt ha.mkr.len]
     simp only [Option.bind_some]
     by_cases k1 : a.Kind = 1
     · have hm : Zc1 a.Make := (Zk0 ha.mkr.ok).1 (hf.2.2.2.2.2.1 k1)
       rw [k1]
       cases there
       · exact ⟨_, rfl, .inr ⟨h1, hw, hg, .inl ⟨k1, rfl, hm, rfl⟩⟩⟩
       · exact ⟨_, rfl, .inl ⟨7, by decide, rfl⟩⟩
     · by_cases k3 : a.Kind = 3
       · rw [k3]
         exact ⟨_, rfl, .inr ⟨h1, hw, hg, .inr (.inr (.inl ⟨k3, rfl⟩))⟩⟩
       · by_cases k2 : a.Kind = 2
         · rw [k2]
           cases there
           · exact ⟨_, rfl, .inl ⟨6, by decide, rfl⟩⟩
           · exact ⟨_, rfl, .inr ⟨h1, hw, hg, .inr (.inl ⟨k2, rfl, rfl⟩)⟩⟩
         · by_cases k4 : a.Kind = 4
           · rw [k4]
             cases there
             · exact ⟨_, rfl, .inl ⟨6, by decide, rfl⟩⟩
             · exact ⟨_, rfl, .inr ⟨h1, hw, hg, .inr (.inr (.inr (.inl ⟨k4, rfl, rfl⟩)))⟩⟩
           · have h5 : 5 ≤ a.Kind := by omega
             have b1 : (a.Kind == 1) = false := by simpa using k1
             have b2 : (a.Kind == 2) = false := by simpa using k2
             have b3 : (a.Kind == 3) = false := by simpa using k3
             have b4 : (a.Kind == 4) = false := by simpa using k4
             simp only [b1, b2, b3, b4, Bool.false_and, Bool.false_eq_true, if_false]
             cases there
             · exact ⟨_, rfl, .inl ⟨6, by decide, rfl⟩⟩
             · simp only [Bool.not_true, Bool.false_eq_true, if_false]
               by_cases hk : (on2 != r0.Kind) = true
               · rw [if_pos hk]
                 exact ⟨_, rfl, .inl ⟨5, by decide, rfl⟩⟩
               · rw [if_neg hk, if_pos ⟨h5, hf.2.1⟩]
                 have hk' : on2 = r0.Kind := by simpa using hk
                 obtain ⟨c, r', o, e1, e2, w1, w2, w3⟩ := Zzt h5 hf.2.1 hr0 (hg rfl) (by rw [← hk']; exact o1) hw
                 rw [e1]
                 simp only [Option.bind_some]
                 by_cases hc : c = 0
                 · subst hc
                   exact ⟨(r', true, o), rfl, .inr ⟨h1, hw, hg, .inr (.inr (.inr (.inr ⟨h5, hf.2.1, rfl, by rw [← hk']; exact o1, r', o, e1, (w3 rfl).1, (w3 rfl).2, w1, w2, rfl⟩)))⟩⟩
                 · have hcn : (c != 0) = true := by simpa using hc
                   rw [if_pos hcn]
                   exact ⟨_, rfl, .inl ⟨c, hc, rfl⟩⟩
   have z1 : ((0 : Int) != 0) = false := rfl
   rw [z1]
   simp only [Bool.false_eq_true, if_false]
   by_cases ht : there = true
   · rw [if_pos ht]
     obtain ⟨c2, g1, g2⟩ := Zl4 hr0.ok
     rw [g1]
     simp only [Option.bind_some]
     by_cases hc2 : c2 = 0
     · subst hc2
       rw [z1]
       exact main fun _ => (Zk0 hr0.ok).1 g1
     · have hcn : (c2 != 0) = true := by simpa using hc2
       rw [if_pos hcn]
       exact ⟨_, rfl, .inl ⟨c2, hc2, rfl⟩⟩
   · rw [if_neg ht]
     exact main fun h => absurd h ht
 · have hcn : (c != 0) = true := by simpa using hc
   rw [if_pos hcn]
   exact ⟨_, rfl, .inl ⟨c, hc, rfl⟩⟩
end Go.CL
set_option linter.unusedVariables false
set_option linter.unusedSimpArgs false
namespace Go.CL
open Go
theorem Zxi {f : Zl → Bool} {l : Zdi} : ∀ y ∈ l.take (pre f l), f y = true := fun y hy => by
 obtain ⟨k, hk, rfl⟩ := List.getElem_of_mem hy
 rw [List.length_take] at hk
 obtain ⟨e, he, hf⟩ := Zww (f := f) (l := l) (k := k) (by omega)
 rw [List.getElem?_eq_getElem (by omega)] at he
 rw [List.getElem_take]
 obtain rfl := Option.some.inj he
 exact hf
variable {r r' r'' : Ze} {a : Z2} {o o' : Zg} {c : Int}
end Go.CL
set_option linter.unusedVariables false
set_option linter.unusedSimpArgs false
namespace Go.CL
open Go
end Go.CL
set_option linter.unusedVariables false
set_option linter.unusedSimpArgs false
namespace Go.CL
open Go
theorem Zpj {r : Ze} {m : Int} (hg : Zc1 r) (hk : 2 ≤ r.Kind ∧ r.Kind ≤ 4) (hb : r.Kind = 4 → r.Low ≤ m ∧ m ≤ r.High) : Zc1 { r with Num := m } := by
 obtain ⟨g1, g2, g3, g4, g5, g6, g7⟩ := hg
 refine ⟨g1, g2, ?_, g4, fun h => ⟨(g5 h).1, (g5 h).2.1, (hb h).1, (hb h).2⟩, g6, g7⟩
 unfold Zg7 at *
 have : decide (2 ≤ r.Kind ∧ r.Kind ≤ 4) = true := decide_eq_true hk
 simp only [this, Bool.true_or] at *
 exact g3
end Go.CL
set_option linter.unusedVariables false
set_option linter.unusedSimpArgs false
namespace Go.CL
open Go
theorem Znq {a b c : Zl} (h : Zdd a b = true) (k : Zdd b c = true) : Zdd a c = true := by
 unfold Zdd at *
 by_cases h1 : keyf a.Score = keyf b.Score
 · rw [if_pos h1] at h
   by_cases h2 : keyf b.Score = keyf c.Score
   · rw [if_pos h2] at k
     rw [if_pos (h1.trans h2)]; exact Zf7 h k
   · rw [if_neg h2] at k
     rw [if_neg (by rw [h1]; exact h2), h1]; exact k
 · rw [if_neg h1] at h
   have h' := of_decide_eq_true h
   by_cases h2 : keyf b.Score = keyf c.Score
   · rw [if_neg (by rw [← h2]; exact h1), ← h2]; exact h
   · rw [if_neg h2] at k
     have k' := of_decide_eq_true k
     rw [if_neg (by omega)]; exact decide_eq_true (by omega)
def BS (l : Zdi) : Prop := l.Pairwise fun p q => Zdd p q = true
def Zqw (k : Int) (e : Zl) : Prop := e.Name.size ≤ 16 ∧ (k = 8 → keyf e.Score = keyf 0) ∧ e.Score = Zcc e.Score
theorem Znc {k : Int} {l : Zdi} {i : Nat} {x : Zl} (h : l[i]? = some x) : Zhk k l i = 0 ↔ Zqw k x ∧ (0 < i → k = 8 → sLt ((l[i - 1]?).getD default).Name x.Name = true) ∧ (0 < i → k = 9 → Zdd ((l[i - 1]?).getD default) x = true) := by
 unfold Zhk Zqw
 rw [h]
 simp only []
 by_cases h1 : (16 : Int) < x.Name.size
 · rw [if_pos h1]; exact ⟨fun h => (by cases h), fun h => by omega⟩
 · rw [if_neg h1]
   by_cases h2 : (k = 8 ∧ keyf x.Score ≠ keyf 0) ∨ x.Score ≠ Zcc x.Score
   · rw [if_pos h2]
     refine ⟨fun h => (by cases h), fun h => ?_⟩
     rcases h2 with ⟨a, b⟩ | b
     · exact absurd (h.1.2.1 a) b
     · exact absurd h.1.2.2 b
   · rw [if_neg h2]
     have e1 : k = 8 → keyf x.Score = keyf 0 := fun hk => Classical.byContradiction fun hn => h2 (.inl ⟨hk, hn⟩)
     have e2 : x.Score = Zcc x.Score := Classical.byContradiction fun hn => h2 (.inr hn)
     by_cases h3 : 0 < i ∧ k = 8 ∧ sLt ((l[i - 1]?).getD default).Name x.Name = false
     · rw [if_pos h3]
       refine ⟨fun h => (by cases h), fun h => ?_⟩
       have := h.2.1 h3.1 h3.2.1
       rw [h3.2.2] at this; cases this
     · rw [if_neg h3]
       have e3 : 0 < i → k = 8 → sLt ((l[i - 1]?).getD default).Name x.Name = true := fun a b => by
         cases hq : sLt ((l[i - 1]?).getD default).Name x.Name
         · exact absurd ⟨a, b, hq⟩ h3
         · rfl
       by_cases h4 : 0 < i ∧ k = 9 ∧ Zdd ((l[i - 1]?).getD default) x = false
       · rw [if_pos h4]
         refine ⟨fun h => (by cases h), fun h => ?_⟩
         have := h.2.2 h4.1 h4.2.1
         rw [h4.2.2] at this; cases this
       · rw [if_neg h4]
         refine ⟨fun _ => ⟨⟨by omega, e1, e2⟩, e3, fun a b => ?_⟩, fun _ => rfl⟩
         cases hq : Zdd ((l[i - 1]?).getD default) x
         · exact absurd ⟨a, b, hq⟩ h4
         · rfl
theorem Zw2 {R : Zl → Zl → Prop} (ht : ∀ {a b c}, R a b → R b c → R a c) {l : Zdi} (step : ∀ i, i + 1 < l.length → R ((l[i]?).getD default) ((l[i + 1]?).getD default)) : l.Pairwise R := by
 have far : ∀ d i, i + d + 1 < l.length → R ((l[i]?).getD default) ((l[i + d + 1]?).getD default) := by
   intro d
   induction d with
   | zero => intro i h; exact step i h
   | succ d ih => intro i h; exact ht (ih i (by omega)) (step (i + d + 1) (by omega))
 refine List.pairwise_iff_getElem.2 fun i j hi hj hij => ?_
 have := far (j - i - 1) i (by omega)
 rw [show i + (j - i - 1) + 1 = j by omega, List.getElem?_eq_getElem hi, List.getElem?_eq_getElem hj] at this
 exact this
theorem Zx2 {R : Zl → Zl → Prop} {l : Zdi} (h : l.Pairwise R) {i : Nat} {x : Zl} (hx : l[i]? = some x) (hi : 0 < i) : R ((l[i - 1]?).getD default) x := by
 obtain ⟨h1, rfl⟩ := List.getElem?_eq_some_iff.1 hx
 rw [List.getElem?_eq_getElem (by omega)]
 exact List.pairwise_iff_getElem.1 h _ _ (by omega) h1 (by omega)
theorem Zvc {k : Int} {l : Zdi} : (∀ i, i < l.length → Zhk k l i = 0) ↔ (∀ e ∈ l, Zqw k e) ∧ (k = 8 → NS l) ∧ (k = 9 → BS l) := by
 constructor
 · intro h
   refine ⟨fun e he => ?_, fun hk => ?_, fun hk => ?_⟩
   · obtain ⟨i, hi, rfl⟩ := List.getElem_of_mem he
     exact ((Znc (List.getElem?_eq_getElem hi)).1 (h i hi)).1
   · refine Zw2 (R := fun p q => sLt p.Name q.Name = true) (fun a b => Zf7 a b) fun i hi => ?_
     have := ((Znc (List.getElem?_eq_getElem hi)).1 (h (i + 1) hi)).2.1 (by omega) hk
     rw [List.getElem?_eq_getElem hi]; exact this
   · refine Zw2 (R := fun p q => Zdd p q = true) (fun a b => Znq a b) fun i hi => ?_
     have := ((Znc (List.getElem?_eq_getElem hi)).1 (h (i + 1) hi)).2.2 (by omega) hk
     rw [List.getElem?_eq_getElem hi]; exact this
 · intro ⟨h1, h2, h3⟩ i hi
   have hx := List.getElem?_eq_getElem hi
   exact (Znc hx).2 ⟨h1 _ (List.getElem_mem hi), fun a b => Zx2 (R := fun p q => sLt p.Name q.Name = true) (h2 b) hx a, fun a b => Zx2 (R := fun p q => Zdd p q = true) (h3 b) hx a⟩
theorem Zyd {r : Ze} (h : Zc1 r) (hk : 8 ≤ r.Kind) : 1 ≤ r.Cap ∧ r.Cap ≤ 32 ∧ (r.List.length : Int) ≤ r.Cap ∧ (∀ e ∈ r.List, Zqw r.Kind e) ∧ (r.Kind = 8 → NS r.List) ∧ (r.Kind = 9 → BS r.List) := by
 obtain ⟨a, b, c, d⟩ := h.2.2.2.2.2.2 hk
 exact ⟨a, b, c, Zvc.1 d⟩
theorem Zm9 {r : Ze} {l : Zdi} (h : Zc1 r) (hk : 8 ≤ r.Kind) (h1 : (l.length : Int) ≤ r.Cap) (h2 : ∀ e ∈ l, Zqw r.Kind e) (h3 : r.Kind = 8 → NS l) (h4 : r.Kind = 9 → BS l) : Zc1 { r with List := l } := by
 obtain ⟨g1, g2, g3, g4, g5, g6, g7⟩ := h
 refine ⟨g1, g2, ?_, g4, g5, g6, fun hk => ⟨(g7 hk).1, (g7 hk).2.1, h1, Zvc.2 ⟨h2, h3, h4⟩⟩⟩
 unfold Zg7 at *
 have : decide (8 ≤ r.Kind) = true := decide_eq_true hk
 simp only [this, Bool.true_or] at *
 exact g3
theorem Zp2 {r : Ze} {t : ByteArray} (h : Zc1 r) (hk : r.Kind = 1) (h1 : t.size ≤ 64) : Zc1 { r with Text := t } := by
 obtain ⟨g1, g2, g3, g4, g5, g6, g7⟩ := h
 refine ⟨g1, g2, ?_, h1, g5, g6, g7⟩
 unfold Zg7 at *
 have : decide (r.Kind = 1) = true := decide_eq_true hk
 simp only [this, Bool.true_or, Bool.true_and] at *
 exact g3
theorem Zvy {r : Ze} {x : Nat} (h : Zc1 r) (hk : 5 ≤ r.Kind ∧ r.Kind ≤ 7) (h1 : x = Zcc x) : Zc1 { r with Real := x } := by
 obtain ⟨g1, g2, g3, g4, g5, g6, g7⟩ := h
 refine ⟨g1, g2, ?_, g4, g5, h1, g7⟩
 unfold Zg7 at *
 have : decide (5 ≤ r.Kind ∧ r.Kind ≤ 7) = true := decide_eq_true hk
 simp only [this, Bool.true_or] at *
 exact g3
variable {r r' : Ze} {a : Z2} {o : Zg}
theorem Zm6 {ψ : Nat → Nat → Option Nat} (hg : Zc1 r) (hk : 5 ≤ r.Kind ∧ r.Kind ≤ 7) (hψ : ∀ m, ψ r.Real a.X = some m → m = Zcc m) (e : Zbi a.Kind r a default = Zer ψ r a default) (h1 : Zbi a.Kind r a default = some (0, r', o)) : Zc1 r' := by
 rw [e] at h1
 unfold Zer at h1
 obtain ⟨m, m1, m2⟩ := Option.bind_eq_some_iff.1 h1
 simp only [Option.some.injEq, Prod.mk.injEq] at m2
 obtain ⟨_, rfl, _⟩ := m2
 exact Zvy hg hk (hψ m m1)
theorem Z18 (h : a.Kind = 18) (hr : RecW r) (hg : Zc1 r) (hk : r.Kind = 8) (ha : ActW a) (h1 : Zbi a.Kind r a default = some (0, r', o)) : Zc1 r' := by
 have e : Zbi a.Kind r a default = Zkm r a default := by rw [h]; rfl
 obtain ⟨c1, c2, c3, c4, c5, _⟩ := Zyd hg (by omega)
 have hs := c5 hk
 have hl := hr.len
 have hple := Znn (fun e => sLt e.Name a.S) r.List
 rw [e] at h1
 unfold Zkm at h1
 rw [Zne hs (by omega), Zot (by omega)] at h1
 simp only [Option.bind_some] at h1
 by_cases hat : isAt a.S r.List = true
 · rw [if_pos hat] at h1
   simp only [Option.some.injEq, Prod.mk.injEq, true_and] at h1
   rw [← h1.1]; exact hg
 · rw [if_neg hat] at h1
   by_cases hc : decide (r.Cap ≤ (r.List.length : Int)) = true
   · rw [if_pos hc] at h1; cases h1
   · rw [if_neg hc] at h1
     have hc' : ¬ r.Cap ≤ (r.List.length : Int) := by simpa using hc
     unfold Zcf at h1
     rw [if_pos ⟨by omega, by omega, by simp, by simp; omega⟩] at h1
     simp only [Option.bind_some, Option.some.injEq, Prod.mk.injEq, true_and, Int.toNat_natCast] at h1
     obtain ⟨rfl, _⟩ := h1
     have hbehind : ∀ y ∈ r.List.drop (pre (fun e => sLt e.Name a.S) r.List), sLt a.S y.Name = true := fun y hy => by
       obtain ⟨k, hk, rfl⟩ := List.getElem_of_mem hy
       rw [List.length_drop] at hk
       rw [List.getElem_drop]
       have hm := Zs6 (s := a.S) hs (k := pre (fun e => sLt e.Name a.S) r.List + k) (by omega)
       rw [show decide (pre (fun e => sLt e.Name a.S) r.List + k < pre (fun e => sLt e.Name a.S) r.List) = false by simp] at hm
       refine Zmn hm fun hn => ?_
       have hany := Zsx (s := a.S) hs
       rw [show isAt a.S r.List = false by simpa using hat, List.any_eq_false] at hany
       exact hany _ (List.getElem_mem _) (Zh5.2 hn)
     refine Zm9 hg (by omega) (by simp; omega) (fun e he => ?_) (fun _ => ?_) (fun h => by omega)
     · simp only [List.mem_append, List.mem_singleton] at he
       rcases he with (he | rfl) | he
       · exact c4 e (List.mem_of_mem_take he)
       · exact ⟨ha.s16 (by omega), fun _ => rfl, by kernel_rfl⟩
       · exact c4 e (List.mem_of_mem_drop he)
     · unfold NS at *
       rw [List.append_assoc, List.pairwise_append]
       refine ⟨hs.sublist (List.take_sublist _ _), ?_, fun x hx y hy => ?_⟩
       · rw [List.singleton_append, List.pairwise_cons]
         exact ⟨hbehind, hs.sublist (List.drop_sublist _ _)⟩
       · have hxa : sLt x.Name a.S = true := Zxi (f := fun e => sLt e.Name a.S) x hx
         rcases List.mem_append.1 hy with hy | hy
         · rw [List.mem_singleton.1 hy]; exact hxa
         · exact Zf7 hxa (hbehind y hy)
theorem Z0j (h : a.Kind = 19) (hr : RecW r) (hg : Zc1 r) (hk : r.Kind = 8) (h1 : Zbi a.Kind r a default = some (0, r', o)) : Zc1 r' := by
 obtain ⟨c1, c2, c3, c4, c5, _⟩ := Zyd hg (by omega)
 have hl := hr.len
 obtain ⟨c, x, y, d1, d2, _⟩ := Zve h hr hg hk
 rw [h1] at d1
 simp only [Option.some.injEq, Prod.mk.injEq] at d1
 obtain ⟨rfl, rfl, rfl⟩ := d1
 have e2 : Zbt r a = (Zc7 r a (Int.toNat ((r.List.length : Int) - (0 : Int)) + 1) ([] : List Zl) (0 : Int)).bind fun z57 => match z57 with | y56 => (Z5 ({ r with List := y56 }) (ans 0)) := by unfold Zbt Zcg; rw [h]; rfl
 have hf := Zoh (a := a) (a0 := r) (by omega) r.List.length 0 [] (by omega) (by simp)
 rw [show ((0 : Nat) : Int) = 0 from rfl] at hf
 rw [e2, show (Int.toNat ((r.List.length : Int) - (0 : Int)) + 1) = r.List.length + 1 by omega, hf, List.drop_zero, List.nil_append] at d2
 simp only [Option.bind_some, Z5, if_true, Option.some.injEq, Prod.mk.injEq] at d2
 obtain ⟨rfl, _⟩ := d2
 have hle := List.length_filter_le (fun e : Zl => !sEq e.Name a.S) r.List
 exact Zm9 hg (by omega) (by omega) (fun e he => c4 e (List.mem_filter.1 he).1) (fun _ => List.Pairwise.sublist List.filter_sublist (c5 hk)) (fun h => by omega)
theorem Zz4 (h : a.Kind = 21) (hr : RecW r) (hg : Zc1 r) (hk : r.Kind = 9) (ha : ActW a) (h1 : Zbi a.Kind r a default = some (0, r', o)) : Zc1 r' := by
 have e : Zbi a.Kind r a default = Zjz r a default := by rw [h]; rfl
 obtain ⟨c1, c2, c3, c4, _, c6⟩ := Zyd hg (by omega)
 have hs := c6 hk
 have hl := hr.len
 have hple := Znn (Zdt { Score := a.X, Name := a.S } false) r.List
 rw [e] at h1
 unfold Zjz at h1
 rw [Zvg ha.ok.2 hr.ok.sc (by omega), Zot (by omega)] at h1
 simp only [Option.bind_some] at h1
 obtain ⟨e9, g9, h1⟩ := Option.bind_eq_some_iff.1 h1
 obtain ⟨r11, g11, h1⟩ := Option.bind_eq_some_iff.1 h1
 split at h1
 · simp only [Option.some.injEq, Prod.mk.injEq, true_and] at h1
   rw [← h1.1]; exact hg
 · rename_i hcond
   unfold Zcf at h1
   rw [if_pos ⟨by omega, by omega, by simp, by simp; omega⟩] at h1
   simp only [Option.bind_some] at h1
   rw [Zxb c1 c2] at h1
   simp only [Option.bind_some, Option.some.injEq, Prod.mk.injEq, true_and, Int.toNat_natCast] at h1
   obtain ⟨rfl, _⟩ := h1
   have hbehind : ∀ y ∈ r.List.drop (pre (Zdt { Score := a.X, Name := a.S } false) r.List), Zdd { Score := a.X, Name := a.S } y = true := fun y hy => by
     have hp : pre (Zdt { Score := a.X, Name := a.S } false) r.List < r.List.length := by
       have := List.length_pos_of_mem hy
       rw [List.length_drop] at this; omega
     have hd : decide (((pre (Zdt { Score := a.X, Name := a.S } false) r.List : Nat) : Int) < (r.List.length : Int)) = true := by simpa using hp
     rw [hd, Zdc hp] at g9
     simp only [gd_t, Option.some.injEq] at g9
     subst g9
     rw [hd] at g11 hcond
     simp only [gd_t] at g11
     rw [Zoc ha.ok.2 (hr.ok.sc _ (List.getElem_mem hp))] at g11
     have hb : Zdd { Score := a.X, Name := a.S } r.List[pre (Zdt { Score := a.X, Name := a.S } false) r.List] = true := by
       have := Option.some.inj g11
       rw [← this] at hcond
       simpa using hcond
     rw [List.drop_eq_getElem_cons hp] at hy
     rcases List.mem_cons.1 hy with rfl | hy
     · exact hb
     · refine Znq hb ?_
       have hpw : (r.List.drop (pre (Zdt { Score := a.X, Name := a.S } false) r.List)).Pairwise fun p q => Zdd p q = true := List.Pairwise.sublist (List.drop_sublist _ _) hs
       rw [List.drop_eq_getElem_cons hp, List.pairwise_cons] at hpw
       exact hpw.1 y hy
   refine Zm9 hg (by omega) (by rw [List.length_take]; omega) (fun e he => ?_) (fun h => by omega) (fun _ => ?_)
   · have he := List.mem_of_mem_take he
     simp only [List.mem_append, List.mem_singleton] at he
     rcases he with (he | rfl) | he
     · exact c4 e (List.mem_of_mem_take he)
     · exact ⟨ha.s16 (by omega), fun h => by omega, ha.xc⟩
     · exact c4 e (List.mem_of_mem_drop he)
   · refine List.Pairwise.sublist (List.take_sublist _ _) ?_
     rw [List.append_assoc, List.pairwise_append]
     refine ⟨List.Pairwise.sublist (List.take_sublist _ _) hs, ?_, fun x hx y hy => ?_⟩
     · rw [List.singleton_append, List.pairwise_cons]
       exact ⟨hbehind, List.Pairwise.sublist (List.drop_sublist _ _) hs⟩
     · have hxa : Zdd x { Score := a.X, Name := a.S } = true := Zxi (f := Zdt { Score := a.X, Name := a.S } false) x hx
       rcases List.mem_append.1 hy with hy | hy
       · rw [List.mem_singleton.1 hy]; exact hxa
       · exact Znq hxa (hbehind y hy)
theorem Zhp {k on : Int} {c : Int} (h : Zla k = some on) (e : Zla k = some c) : on = c := Option.some.inj (h.symm.trans e)
theorem Z30 (h5 : 5 ≤ a.Kind) (h21 : a.Kind ≤ 21) (hon : Zla a.Kind = some r.Kind) (hr : RecW r) (hg : Zc1 r) (ha : ActW a) (h1 : Zbi a.Kind r a default = some (0, r', o)) : Zc1 r' := by
 have real : ∀ {m : Nat}, m = r.Real ∨ m = a.X → m = Zcc m := fun {m} h => by
   rcases h with rfl | rfl
   · exact Zmx hg
   · exact ha.xc
 have hk' : a.Kind = 5 ∨ a.Kind = 6 ∨ a.Kind = 7 ∨ a.Kind = 8 ∨ a.Kind = 9 ∨ a.Kind = 10 ∨ a.Kind = 11 ∨ a.Kind = 12 ∨ a.Kind = 13 ∨ a.Kind = 14 ∨ a.Kind = 15 ∨ a.Kind = 16 ∨ a.Kind = 17 ∨ a.Kind = 18 ∨ a.Kind = 19 ∨ a.Kind = 20 ∨ a.Kind = 21 := by omega
 rcases hk' with h | h | h | h | h | h | h | h | h | h | h | h | h | h | h | h | h
 · have e : Zbi a.Kind r a default = Zjl r a default := by rw [h]; rfl
   rw [e] at h1
   simp only [Zjl, Option.some.injEq, Prod.mk.injEq, true_and] at h1
   rw [← h1.1]
   exact Zp2 hg (Zhp hon (by rw [h]; kernel_rfl)) ha.s64
 · have e : Zbi a.Kind r a default = Zgz r a default := by rw [h]; rfl
   rw [e] at h1
   simp only [Zgz, Zjt hr.len, Option.bind_some, Option.some.injEq, Prod.mk.injEq, true_and] at h1
   rw [← h1.1]
   exact Zp2 hg (Zhp hon (by rw [h]; kernel_rfl)) ha.s64
 · have e : Zbi a.Kind r a default = Zji r a default := by rw [h]; rfl
   rw [e] at h1
   simp only [Zji, Option.some.injEq, Prod.mk.injEq, true_and] at h1
   rw [← h1.1]
   have hk : r.Kind = 2 := Zhp hon (by rw [h]; kernel_rfl)
   exact Zpj hg (by omega) (fun h => by omega)
 · have e : Zbi a.Kind r a default = Zkh r a default := by rw [h]; rfl
   rw [e] at h1
   unfold Zkh at h1
   split at h1
   · cases h1
   · simp only [Option.some.injEq, Prod.mk.injEq, true_and] at h1
     rw [← h1.1]
     have hk : r.Kind = 3 := Zhp hon (by rw [h]; kernel_rfl)
     exact Zpj hg (by omega) (fun h => by omega)
 · have e : Zbi a.Kind r a default = Zd6 r a default := by rw [h]; rfl
   rw [e] at h1
   unfold Zd6 at h1
   split at h1
   · cases h1
   · simp only [Option.some.injEq, Prod.mk.injEq, true_and] at h1
     rw [← h1.1]; exact hg
 · have e : Zbi a.Kind r a default = Zgx r a default := by rw [h]; rfl
   have hk : r.Kind = 4 := Zhp hon (by rw [h]; kernel_rfl)
   obtain ⟨p1, p2, p3, p4⟩ := Zwg hg hk
   obtain ⟨q1, q2⟩ := ha.inout (.inl h)
   rw [e] at h1
   unfold Zgx at h1
   rw [wr (x := r.High - r.Num) (by omega) (by omega), wr (x := r.Num + a.N) (by omega) (by omega)] at h1
   split at h1
   · cases h1
   · rename_i hcond
     have hcond' : ¬ (r.High - r.Num < a.N) := by simpa using hcond
     simp only [Option.some.injEq, Prod.mk.injEq, true_and] at h1
     rw [← h1.1]
     exact Zpj hg (by omega) (fun _ => by omega)
 · have e : Zbi a.Kind r a default = Zg3 r a default := by rw [h]; rfl
   have hk : r.Kind = 4 := Zhp hon (by rw [h]; kernel_rfl)
   obtain ⟨p1, p2, p3, p4⟩ := Zwg hg hk
   obtain ⟨q1, q2⟩ := ha.inout (.inr h)
   rw [e] at h1
   unfold Zg3 at h1
   rw [wr (x := r.Num - r.Low) (by omega) (by omega), wr (x := r.Num - a.N) (by omega) (by omega)] at h1
   split at h1
   · cases h1
   · rename_i hcond
     have hcond' : ¬ (r.Num - r.Low < a.N) := by simpa using hcond
     simp only [Option.some.injEq, Prod.mk.injEq, true_and] at h1
     rw [← h1.1]
     exact Zpj hg (by omega) (fun _ => by omega)
 · have e : Zbi a.Kind r a default = Zd6 r a default := by rw [h]; rfl
   rw [e] at h1
   unfold Zd6 at h1
   split at h1
   · cases h1
   · simp only [Option.some.injEq, Prod.mk.injEq, true_and] at h1
     rw [← h1.1]; exact hg
 · have hk : r.Kind = 5 := Zhp hon (by rw [h]; kernel_rfl)
   refine Zm6 (ψ := fun x y => Zkv x y) hg (by omega) (fun m hm => ?_) (by rw [h]; rfl) h1
   obtain ⟨m', e1, _, e2⟩ := Zxx hr.ok.real ha.ok.2 (Zmx hg) ha.xc
   have : m = m' := Option.some.inj (hm.symm.trans e1)
   exact real (this ▸ e2)
 · have hk : r.Kind = 6 := Zhp hon (by rw [h]; kernel_rfl)
   refine Zm6 (ψ := fun x y => Zkx x y) hg (by omega) (fun m hm => ?_) (by rw [h]; rfl) h1
   obtain ⟨m', e1, _, e2⟩ := Zwo hr.ok.real ha.ok.2 (Zmx hg) ha.xc
   have : m = m' := Option.some.inj (hm.symm.trans e1)
   exact real (this ▸ e2)
 · have hk : r.Kind = 7 := Zhp hon (by rw [h]; kernel_rfl)
   refine Zm6 (ψ := fun x y => Zie x y) hg (by omega) (fun m hm => ?_) (by rw [h]; rfl) h1
   have hz := Zzf r.Real a.X
   have : Zie r.Real a.X = some (Zcc (fadd r.Real a.X)) := by unfold Zie; rw [Zja hz]; rfl
   have : m = Zcc (fadd r.Real a.X) := Option.some.inj (hm.symm.trans this)
   rw [this, Zsn]
 · have hk : r.Kind = 7 := Zhp hon (by rw [h]; kernel_rfl)
   refine Zm6 (ψ := fun x y => Zhc x y) hg (by omega) (fun m hm => ?_) (by rw [h]; rfl) h1
   have hz := Zzs r.Real a.X
   have : Zhc r.Real a.X = some (Zcc (fmul r.Real a.X)) := by unfold Zhc; rw [Zja hz]; rfl
   have : m = Zcc (fmul r.Real a.X) := Option.some.inj (hm.symm.trans this)
   rw [this, Zsn]
 · have hk : r.Kind = 7 := Zhp hon (by rw [h]; kernel_rfl)
   refine Zm6 (ψ := fun x y => Zg2 x y) hg (by omega) (fun m hm => ?_) (by rw [h]; rfl) h1
   exact real (.inr (Option.some.inj hm).symm)
 · exact Z18 h hr hg (Zhp hon (by rw [h]; kernel_rfl)) ha h1
 · exact Z0j h hr hg (Zhp hon (by rw [h]; kernel_rfl)) h1
 · have hk : r.Kind = 8 := Zhp hon (by rw [h]; kernel_rfl)
   have e : Zbi a.Kind r a default = Zfm r a default := by rw [h]; rfl
   have hl := hr.len
   rw [e] at h1
   unfold Zfm at h1
   rw [Zne (Zl5 hg hk) (by omega)] at h1
   simp only [Option.bind_some] at h1
   split at h1
   · cases h1
   · simp only [Option.some.injEq, Prod.mk.injEq, true_and] at h1
     rw [← h1.1]; exact hg
 · exact Zz4 h hr hg (Zhp hon (by rw [h]; kernel_rfl)) ha h1
theorem Z0i (hk : a.Kind = 9 ∨ a.Kind = 12 ∨ a.Kind = 20) (hr : RecW r) (hg : Zc1 r) (hon : Zla a.Kind = some r.Kind) (h1 : Zbi a.Kind r a default = some (0, r', o)) : r' = r := by
 rcases hk with h | h | h
 · have e : Zbi a.Kind r a default = Zd6 r a default := by rw [h]; rfl
   rw [e] at h1
   unfold Zd6 at h1
   split at h1
   · cases h1
   · simp only [Option.some.injEq, Prod.mk.injEq, true_and] at h1
     exact h1.1.symm
 · have e : Zbi a.Kind r a default = Zd6 r a default := by rw [h]; rfl
   rw [e] at h1
   unfold Zd6 at h1
   split at h1
   · cases h1
   · simp only [Option.some.injEq, Prod.mk.injEq, true_and] at h1
     exact h1.1.symm
 · have hk : r.Kind = 8 := Zhp hon (by rw [h]; kernel_rfl)
   have e : Zbi a.Kind r a default = Zfm r a default := by rw [h]; rfl
   have hl := hr.len
   rw [e] at h1
   unfold Zfm at h1
   rw [Zne (Zl5 hg hk) (by omega)] at h1
   simp only [Option.bind_some] at h1
   split at h1
   · cases h1
   · simp only [Option.some.injEq, Prod.mk.injEq, true_and] at h1
     exact h1.1.symm
structure Z5h (t : Bool) (r : Ze) : Prop where
 w : RecW r
 good : t = true → Zc1 r
 zero : t = false → r = zrc
end Go.CL
set_option linter.unusedVariables false
set_option linter.unusedSimpArgs false
namespace Go.CL
open Go
theorem Zq7 {k : ByteArray} {r : Ze} {l : List KV} (hs : Srt l) (h : lk k l = some r) : insL k r l = l := by
 rcases Znm r hs with ⟨p, a1, a2, a3, a4, _⟩ | ⟨_, a2, _⟩
 · rw [a4]
   rw [h] at a3
   obtain rfl := Option.some.inj a3
   have e : (k, p.2) = p := by rw [← a2]
   rw [e]
   obtain ⟨hlt, hp⟩ := List.getElem?_eq_some_iff.1 a1
   have := List.take_append_drop (rk k l) l
   rw [List.drop_eq_getElem_cons hlt, hp] at this
   exact this
 · rw [h] at a2; cases a2
theorem Z1f {k : ByteArray} {r : Ze} : ∀ {l : List KV}, lk k l = some r → (k, r) ∈ l
 | [], h => by cases h
 | p :: l, h => by
   simp only [lk] at h
   split at h
   · rename_i he
     obtain rfl := Option.some.inj h
     have := Zh5.1 he
     subst this
     exact List.mem_cons_self ..
   · exact List.mem_cons_of_mem _ (Z1f h)
theorem Ztd {r : Ze} (h : Zc1 r) : r.List.length ≤ 32 := by
 by_cases hk : 8 ≤ r.Kind
 · have := h.2.2.2.2.2.2 hk
   omega
 · have h1 := h.2.2.1
   have h8 : decide (8 ≤ r.Kind) = false := by simpa using hk
   rw [h8] at h1
   simp only [Zg7, Bool.false_or, Bool.and_eq_true, beq_iff_eq] at h1
   have := h1.2.2
   omega
theorem Zol {s s' : Zq} {k : ByteArray} {x : Ze} {c : Int} (h : Zd0 s k x = some (s', c)) : s'.room = s.room := by
 unfold Zd0 at h
 split at h
 · cases h; rfl
 · obtain ⟨_, _, h⟩ := Option.bind_eq_some_iff.1 h
   split at h
   · cases h; rfl
   · obtain ⟨_, _, h⟩ := Option.bind_eq_some_iff.1 h
     obtain ⟨_, _, h⟩ := Option.bind_eq_some_iff.1 h
     split at h
     · cases h; rfl
     · obtain ⟨_, _, h⟩ := Option.bind_eq_some_iff.1 h
       obtain ⟨_, _, h⟩ := Option.bind_eq_some_iff.1 h
       cases h; rfl
theorem Z1p {s s' : Zq} {k : ByteArray} {b : Bool} (h : Zgj s k = some (s', b)) : s'.room = s.room := by
 unfold Zgj at h
 obtain ⟨_, _, h⟩ := Option.bind_eq_some_iff.1 h
 split at h
 · cases h; rfl
 · obtain ⟨_, _, h⟩ := Option.bind_eq_some_iff.1 h
   cases h; rfl
theorem Zxj {s s' : Zq} {t : Zj} {n : Nat} (h : Rel s t n) (hn : n < 1000000) {k : ByteArray} {x : Ze} {c : Int} (e : Zd0 s k x = some (s', c)) (hc : Zee x = some 0) (hx : x.List.length ≤ 100) (hk : sEq k ⟨#[]⟩ = false) (hk2 : k.size ≤ 24) :
   (((lk k (pl t)).isSome = true ∨ (t.L.length : Int) < t.Room) → c = 0 ∧ toL s'.top = insL k x (pl t)) ∧ ((lk k (pl t)).isNone = true → t.Room ≤ (t.L.length : Int) → c = 8 ∧ s' = s) := by
 have hb := h.len
 obtain ⟨t1, q1, _, q3⟩ := Zzg (k := k) (x := x) h.sz (by rw [h.top]; exact h.srt) (by rw [h.tl]; omega)
 unfold Zd0 at e
 rw [hk, hc, Zrs h, Zuk h, Zpm (by unfold Cl; omega)] at e
 have hd : decide ((24 : Int) < (k.size : Int)) = false := by simp; omega
 rw [hd] at e
 simp only [Bool.or_self, Bool.false_eq_true, if_false, Option.bind_some, bne_self_eq_false] at e
 cases hl : lk k (pl t) with
 | none =>
   rw [hl] at e
   simp only [getR, Bool.not_false, gd_t, Option.bind_some, Bool.true_and, h.room] at e
   by_cases hr : t.Room ≤ (t.L.length : Int)
   · rw [if_pos (by simpa using hr)] at e
     cases e
     refine ⟨fun h => ?_, fun _ _ => ⟨rfl, rfl⟩⟩
     rcases h with h | h
     · cases h
     · omega
   · rw [if_neg (by simpa using hr), q1] at e
     cases e
     exact ⟨fun _ => ⟨rfl, by rw [← h.top]; exact q3⟩, fun _ h => absurd h hr⟩
 | some r =>
   rw [hl] at e
   simp only [getR, Bool.not_true, gd_f, Option.bind_some, Bool.false_and, Bool.false_eq_true, if_false] at e
   rw [q1] at e
   cases e
   exact ⟨fun _ => ⟨rfl, by rw [← h.top]; exact q3⟩, fun h => by cases h⟩
structure FR (s : Zq) (t : Zj) (n : Nat) : Prop where
 rel : Rel s t n
 good : ∀ q ∈ pl t, RecW q.2 ∧ Zc1 q.2
theorem FR.mono {s : Zq} {t : Zj} {n m : Nat} (h : FR s t n) (hm : n ≤ m) : FR s t m := ⟨h.rel.mono hm, h.good⟩
theorem Ztz {s : Zq} {t t' : Zj} {n : Nat} (h : Rel s t n) (hp : pl t' = pl t) (hr : t'.Room = t.Room) : Rel s t' n :=
 ⟨h.top.trans hp.symm, h.sz, by rw [hp]; exact h.srt, by rw [← Zj9, hp, Zj9]; exact h.len, h.room.trans hr.symm, by rw [hp]; exact h.ok⟩
theorem Z71 {s s' : Zq} {t t' : Zj} {n m : Nat} {k : ByteArray} {x : Ze} (h : FR s t n) (hr : Rel s' t' m) (hw : RecW x) (hg : Zc1 x) (hp : pl t' = pl t ∨ pl t' = insL k x (pl t)) : FR s' t' m := ⟨hr, fun q hq => by
 rcases hp with hp | hp
 · rw [hp] at hq; exact h.good q hq
 · rw [hp] at hq
   rcases Zo9 hq with rfl | hq
   · exact ⟨hw, hg⟩
   · exact h.good q hq⟩
theorem Z60 {a : Z2} (ha : ActIn a) (h : Zg9 a = some 0) : sEq a.Key ⟨#[]⟩ = false ∧ a.Key.size ≤ 24 := by
 obtain ⟨c, h1, _, h3⟩ := Zoi ha.ok
 rw [h] at h1
 obtain rfl := Option.some.inj h1
 exact ⟨(h3 rfl).2.2.2.2.2.2.2.1, (h3 rfl).2.2.2.2.2.2.2.2⟩
theorem Z23 {s : Zq} {t : Zj} {n : Nat} (h : FR s t n) (hn : n < 1000000) {a : Z2} (ha : ActIn a) :
   ∃ s' t' out, Zmk s a = some (s', out) ∧ Zis t a = some (t', out) ∧ FR s' t' (n + 1) ∧ RecW out.Rec := by
 obtain ⟨r, there, hg, hi, hl1, hl2⟩ : ∃ r there, getR (lk a.Key (pl t)) = (r, there) ∧ Z5h there r ∧ (there = true → lk a.Key (pl t) = some r) ∧ (there = false → lk a.Key (pl t) = none) := by
   cases hl : lk a.Key (pl t) with
   | none => exact ⟨_, _, rfl, ⟨Zdg, fun h => (by cases h), fun _ => rfl⟩, fun h => (by cases h), fun _ => rfl⟩
   | some r =>
     obtain ⟨g1, g2⟩ := h.good _ (Z1f hl)
     exact ⟨_, _, rfl, ⟨g1, fun _ => g2, fun h => (by cases h)⟩, fun _ => rfl, fun h => (by cases h)⟩
 obtain ⟨x, is, out, e1, e2, w1, w2⟩ := Zz8 (there := there) hi.w ha
 obtain ⟨z, e3, hs⟩ := Zyh (there := there) hi.w ha
 have hr0 : (if there = true then r else zrc) = r := by
   cases there
   · exact (hi.zero rfl).symm
   · rfl
 rw [hr0] at hs
 rw [e1] at e3
 obtain rfl := Option.some.inj e3
 unfold Zmk Zis
 rw [Zrs h.rel, Z5l h.rel hn, hg]
 simp only [Option.bind_some]
 rw [e1, e2]
 simp only [Option.bind_some, Zod]
 rcases hs with ⟨c, hc, hz⟩ | ⟨h1, h2, h3, hs⟩
 · obtain ⟨rfl, rfl, rfl⟩ : x = r ∧ is = there ∧ out = ans c := by simpa using hz
   have hc' : (c != 0) = true := by simpa using hc
   simp only [hc', Bool.not_true, gd_f, Option.bind_some, Bool.true_or, if_true]
   exact ⟨s, t, _, rfl, rfl, h.mono (by omega), w2⟩
 obtain ⟨k1, k2⟩ := Z60 ha h1
 have hset : ∀ {y : Ze}, RecW y → Zc1 y → ((lk a.Key (pl t)).isSome = true ∨ (t.L.length : Int) < t.Room) → ∃ s' t', Zd0 s a.Key y = some (s', 0) ∧ Zep t a.Key y = some (t', 0) ∧ FR s' t' (n + 1) ∧ pl t' = insL a.Key y (pl t) := fun {y} hw hgy ho => by
   have hsh := Ztd hgy
   obtain ⟨s', t', c, f1, f2, f3, _⟩ := Zs8 h.rel hn a.Key hw.ok (by omega)
   obtain ⟨rfl, hp⟩ := (Zxj h.rel hn f1 ((Zk0 hw.ok).2 hgy) (by omega) k1 k2).1 ho
   rw [f3.top] at hp
   exact ⟨s', t', f1, f2, Z71 h f3 hw hgy (.inr hp), hp⟩
 rcases hs with ⟨hk, rfl, hmk, hz⟩ | ⟨hk, rfl, hz⟩ | ⟨hk, hz⟩ | ⟨hk, rfl, hz⟩ | ⟨k5, k21, rfl, kon, r', o, q1, q2, q3, q4, q5, hz⟩
 · -- New
   obtain ⟨rfl, rfl, rfl⟩ : x = a.Make ∧ is = true ∧ out = ans 0 := by simpa using hz
   have hl := hl2 rfl
   rw [hk]
   simp only [bne_self_eq_false, Bool.not_false, gd_t, Option.bind_some, show ((((((1 : Int) == 3) || ((1 : Int) == 4)) || ((1 : Int) == 9)) || ((1 : Int) == 12)) || ((1 : Int) == 20)) = false from rfl, Bool.or_self, Bool.false_eq_true, if_false, Bool.not_true, beq_self_eq_true, Bool.true_and]
   by_cases hr : t.Room ≤ (t.L.length : Int)
   · rw [if_pos (by simpa using hr)]
     have hsh := Ztd hmk
     obtain ⟨s', t', c, f1, f2, f3, _⟩ := Zs8 h.rel hn a.Key ha.mkr.ok (by omega)
     obtain ⟨rfl, rfl⟩ := (Zxj h.rel hn f1 ((Zk0 ha.mkr.ok).2 hmk) (by omega) k1 k2).2 (by rw [hl]; rfl) hr
     rw [f1]
     exact ⟨s', t, _, rfl, rfl, h.mono (by omega), Zdg⟩
   · rw [if_neg (by simpa using hr)]
     obtain ⟨s', t', f1, f2, f3, _⟩ := hset ha.mkr hmk (.inr (by omega))
     rw [f1, f2]
     exact ⟨s', t', _, rfl, rfl, f3, Zdg⟩
 · -- Drop
   obtain ⟨rfl, rfl, rfl⟩ : x = zrc ∧ is = false ∧ out = ans 0 := by simpa using hz
   rw [hk]
   obtain ⟨s', t', b, f1, f2, f3, f4⟩ := Zxc h.rel hn a.Key
   rw [f1, f2]
   refine ⟨s', t', ans 0, rfl, rfl, ⟨f3.mono (by omega), fun q hq => ?_⟩, Zdg⟩
   rcases f4 with f4 | f4
   · rw [f4] at hq; exact h.good q hq
   · rw [f4] at hq; exact h.good q (Zrj hq)
 · -- Is
   obtain ⟨rfl, rfl, rfl⟩ : x = r ∧ is = there ∧ out = { ans 0 with Num := r.Kind } := by simpa using hz
   rw [hk]
   cases is with
   | true =>
     have hl := hl1 rfl
     obtain ⟨s', t', f1, f2, f3, f4⟩ := hset hi.w (hi.good rfl) (.inl (by rw [hl]; rfl))
     rw [f2]
     rw [Zq7 h.rel.srt hl] at f4
     exact ⟨s, t', _, rfl, rfl, ⟨(Ztz h.rel f4 (by rw [← f3.rel.room, Zol f1, h.rel.room])).mono (by omega), by rw [f4]; exact h.good⟩, Zdg⟩
   | false =>
     have hl := hl2 rfl
     obtain ⟨s', t', b, f1, f2, f3, f4⟩ := Zxc h.rel hn a.Key
     rw [f2]
     have hp : pl t' = pl t := by
       rcases f4 with f4 | f4
       · exact f4
       · rcases Znm x h.rel.srt with ⟨_, _, _, a3, _⟩ | ⟨_, _, _, a4⟩
         · rw [hl] at a3; cases a3
         · rw [f4, a4]
     exact ⟨s, t', _, rfl, rfl, ⟨(Ztz h.rel hp (by rw [← f3.room, Z1p f1, h.rel.room])).mono (by omega), by rw [hp]; exact h.good⟩, Zdg⟩
 · -- Look
   obtain ⟨rfl, rfl, rfl⟩ : x = r ∧ is = true ∧ out = { ans 0 with Rec := r } := by simpa using hz
   rw [hk]
   have hl := hl1 rfl
   obtain ⟨s', t', f1, f2, f3, f4⟩ := hset hi.w (hi.good rfl) (.inl (by rw [hl]; rfl))
   rw [f2]
   rw [Zq7 h.rel.srt hl] at f4
   exact ⟨s, t', _, rfl, rfl, ⟨(Ztz h.rel f4 (by rw [← f3.rel.room, Zol f1, h.rel.room])).mono (by omega), by rw [f4]; exact h.good⟩, hi.w⟩
 · -- what changes a record
   obtain ⟨rfl, rfl, rfl⟩ : x = r' ∧ is = true ∧ out = o := by simpa using hz
   have hl := hl1 rfl
   have hgx : Zc1 x := Z30 k5 k21 kon hi.w (hi.good rfl) h2 q1
   obtain ⟨s', t', f1, f2, f3, f4⟩ := hset q4 hgx (.inl (by rw [hl]; rfl))
   have hk1 : (a.Kind == 1) = false := by simp; omega
   rw [q2, hk1]
   simp only [bne_self_eq_false, Bool.not_false, gd_t, Option.bind_some, Bool.false_or, Bool.false_eq_true, if_false, Bool.not_true, Bool.false_and]
   rw [f1, f2]
   by_cases hrd : (((((a.Kind == (3 : Int)) || (a.Kind == (4 : Int))) || (a.Kind == (9 : Int))) || (a.Kind == (12 : Int))) || (a.Kind == (20 : Int))) = true
   · rw [if_pos hrd]
     have hx : x = r := by
       refine Z0i ?_ hi.w (hi.good rfl) kon q1
       simp only [Bool.or_eq_true, beq_iff_eq] at hrd
       omega
     subst hx
     rw [Zq7 h.rel.srt hl] at f4
     exact ⟨s, t', _, rfl, rfl, ⟨(Ztz h.rel f4 (by rw [← f3.rel.room, Zol f1, h.rel.room])).mono (by omega), by rw [f4]; exact h.good⟩, q5⟩
   · rw [if_neg hrd]
     exact ⟨s', t', _, rfl, rfl, f3, q5⟩
end Go.CL
set_option linter.unusedVariables false
set_option linter.unusedSimpArgs false
namespace Go.CL
open Go
theorem Zsj {d : Zb0} (hd : ∀ a ∈ d.Acts, ActIn a) (hl : d.Acts.length ≤ 12) : ∀ (n i : Nat), i + n = d.Acts.length →
   ∃ z, Zgq d (n + 1) (i : Int) = some z ∧ Zd5 d (n + 1) (i : Int) = some z ∧ (z = .inr () ∨ ∃ c at_, z = .inl (c, at_) ∧ c ≠ 0)
 | 0, i, h => by
   rw [Zgq, Zd5, if_neg (by simp; omega), if_neg (by simp; omega)]
   exact ⟨_, rfl, rfl, .inl rfl⟩
 | n + 1, i, h => by
   have h1 : i < d.Acts.length := by omega
   obtain ⟨c, e1, e2, _⟩ := Zoi (hd _ (List.getElem_mem h1)).ok
   rw [Zgq, Zd5, if_pos (by simp; omega), if_pos (by simp; omega), Zdc h1, wr1 (by omega)]
   simp only [Option.bind_some]
   rw [e1, e2]
   simp only [Option.bind_some]
   by_cases hc : (c != 0) = true
   · rw [if_pos hc, if_pos hc]
     exact ⟨_, rfl, rfl, .inr ⟨_, _, rfl, by simpa using hc⟩⟩
   · rw [if_neg hc, if_neg hc]
     exact Zsj hd hl n (i + 1) (by omega)
theorem Zyy {d : Zb0} (hd : ∀ a ∈ d.Acts, ActIn a) : ∃ c at_, Zls d = some (c, at_) ∧ Zhs d = some (c, at_) ∧ (c = 0 → 1 ≤ d.Acts.length ∧ d.Acts.length ≤ 12) := by
 unfold Zls Zhs
 by_cases h : d.Acts.length < 1 ∨ 12 < d.Acts.length
 · rw [if_pos (by rw [Bool.or_eq_true, beq_iff_eq, decide_eq_true_eq]; omega), if_pos (by rw [Bool.or_eq_true, decide_eq_true_eq, decide_eq_true_eq]; omega)]
   exact ⟨_, _, rfl, rfl, fun h => by cases h⟩
 · rw [if_neg (by rw [Bool.or_eq_true, beq_iff_eq, decide_eq_true_eq]; omega), if_neg (by rw [Bool.or_eq_true, decide_eq_true_eq, decide_eq_true_eq]; omega)]
   obtain ⟨z, e1, e2, hz⟩ := Zsj hd (by omega) d.Acts.length 0 (by omega)
   rw [show ((0 : Nat) : Int) = 0 from rfl] at e1 e2
   rw [show (Int.toNat ((d.Acts.length : Int) - (0 : Int)) + 1) = d.Acts.length + 1 by omega, e1, e2]
   rcases hz with rfl | ⟨c, at_, rfl, hc⟩
   · exact ⟨_, _, rfl, rfl, fun _ => by omega⟩
   · exact ⟨_, _, rfl, rfl, fun h => absurd h hc⟩
def Zuc (L : List Zg) : Prop := ∀ a ∈ L, RecW a.Rec
theorem Z0z {L : List Zg} {a : Zg} (h : Zuc L) (ha : RecW a.Rec) : Zuc (L ++ [a]) := fun b hb => by
 rcases List.mem_append.1 hb with hb | hb
 · exact h b hb
 · rw [List.mem_singleton.1 hb]; exact ha
theorem Z04 {ε β : Type} (e : Z2) (out : Zg) (i : Int) (F : Zdo → Option β) (R : Zg → Option β) :
   Zw8 (Zk8 e out i) F ((Zm5 e out i).bind R) = if (e.Must && (out.Code != 0)) = true then F { code := out.Code, at_ := i } else R out := by
 unfold Zk8 Zm5
 by_cases h : (e.Must && (out.Code != 0)) = true
 · rw [if_pos h, if_pos h, if_pos h]; rfl
 · rw [if_neg h, if_neg h, if_neg h]; rfl
theorem Zxe {d : Zb0} (hd : ∀ a ∈ d.Acts, ActIn a) (hl : d.Acts.length ≤ 12) {s0 : Zq} {t0 : Zj} : ∀ (n i : Nat) {s : Zq} {t : Zj} {m : Nat} {L : List Zg}, i + n = d.Acts.length → FR s t m → m + n < 1000000 → L.length = i → Zuc L →
   (∃ R : Zx, R.Code ≠ 0 ∧ R.Answers = [] ∧ Zg6 s0 d (n + 1) { Code := 0, At := 0, Answers := L } s (i : Int) = some (.inl (s0, R)) ∧ Zd2 t0 d (n + 1) default default t L (i : Int) = some (.inl (t0, R))) ∨
   (∃ s' t' L', Zg6 s0 d (n + 1) { Code := 0, At := 0, Answers := L } s (i : Int) = some (.inr ({ Code := 0, At := 0, Answers := L' }, s')) ∧ Zd2 t0 d (n + 1) default default t L (i : Int) = some (.inr (default, default, t', L')) ∧ FR s' t' (m + n) ∧ Zuc L' ∧ L'.length = d.Acts.length)
 | 0, i, s, t, m, L, h, hf, hm, hL, hA => by
   right
   rw [Zg6, Zd2, if_neg (by simp; omega), if_neg (by simp; omega)]
   exact ⟨s, t, L, rfl, rfl, hf, hA, by omega⟩
 | n + 1, i, s, t, m, L, h, hf, hm, hL, hA => by
   have h1 : i < d.Acts.length := by omega
   obtain ⟨s', t', out, e1, e2, hf', hw⟩ := Z23 hf (by omega) (hd _ (List.getElem_mem h1))
   rw [Zg6, Zd2, if_pos (by simp; omega), if_pos (by simp; omega), Zdc h1, wr1 (by omega)]
   simp only [Option.bind_some]
   rw [e1, e2]
   simp only [Option.bind_some, Z04 (ε := Unit)]
   have hg : (gd (out.Code != 0) (some d.Acts[i])) = some (if (out.Code != 0) = true then d.Acts[i] else default) := Zo5 _ _
   rw [hg]
   simp only [Option.bind_some]
   have hb : ((out.Code != 0) && (if (out.Code != 0) = true then d.Acts[i] else default).Must) = ((d.Acts[i]).Must && (out.Code != 0)) := by
     cases hz : (out.Code != 0)
     · simp
     · simp
   rw [hb]
   by_cases hc : ((d.Acts[i]).Must && (out.Code != 0)) = true
   · rw [if_pos hc, if_pos hc]
     left
     have hne : out.Code ≠ 0 := by
       have := (Bool.and_eq_true _ _ ▸ hc : _ ∧ _).2
       simpa using this
     exact ⟨_, hne, rfl, rfl, rfl⟩
   · rw [if_neg hc, if_neg hc]
     have hlen : (L.length + [out].length) * 104 ≤ 140737488355328 := by simp; omega
     rw [if_pos hlen, if_pos hlen]
     have := Zxe hd hl (s0 := s0) (t0 := t0) n (i + 1) (L := L ++ [out]) (by omega) hf' (by omega) (by simp; omega) (Z0z hA hw)
     rcases this with ⟨R, h0, h1, h2, h3⟩ | ⟨s2, t2, L2, h1, h2, h3, h4, h5⟩
     · exact .inl ⟨R, h0, h1, h2, h3⟩
     · exact .inr ⟨s2, t2, L2, h1, h2, ⟨h3.rel.mono (by omega), h3.good⟩, h4, h5⟩
def Ztt (R : Zx) : Prop := R.Answers.length ≤ 12 ∧ Zuc R.Answers
theorem Z3r {s : Zq} {t : Zj} {n : Nat} (h : FR s t n) (hn : n + 12 < 1000000) {d : Zb0} (hd : ∀ a ∈ d.Acts, ActIn a) :
   ∃ s' t' R, Zmg s d = some (s', R) ∧ Zi6 t d = some (t', R) ∧ FR s' t' (n + 12) ∧ Ztt R ∧ (R.Code ≠ 0 → s' = s ∧ t' = t ∧ R.Answers = []) ∧ (R.Code = 0 → R.At = 0 ∧ R.Answers.length = d.Acts.length) := by
 obtain ⟨c, at_, e1, e2, hc⟩ := Zyy hd
 unfold Zmg Zi6
 rw [e1, e2]
 simp only [Option.bind_some]
 by_cases h0 : (c != 0) = true
 · rw [if_pos h0, if_pos h0]
   exact ⟨s, t, _, rfl, rfl, h.mono (by omega), ⟨by simp, fun a ha => by cases ha⟩, fun _ => ⟨rfl, rfl, rfl⟩, fun hz => absurd hz (by simpa using h0)⟩
 · rw [if_neg h0, if_neg h0]
   have hl := hc (by simpa using h0)
   have := Zxe hd hl.2 (s0 := s) (t0 := t) d.Acts.length 0 (L := []) (by omega) h (by omega) rfl (fun a ha => by cases ha)
   rw [show ((0 : Nat) : Int) = 0 from rfl] at this
   rw [show (Int.toNat ((d.Acts.length : Int) - (0 : Int)) + 1) = d.Acts.length + 1 by omega]
   have hdef : (default : Zx) = { Code := 0, At := 0, Answers := [] } := rfl
   rcases this with ⟨R, h0, h1, h2, h3⟩ | ⟨s2, t2, L2, h1, h2, h3, h4, h5⟩
   · rw [h3]
     rw [hdef, h2]
     exact ⟨s, t, R, rfl, rfl, h.mono (by omega), ⟨by rw [h1]; simp, by rw [h1]; intro a ha; cases ha⟩, fun _ => ⟨rfl, rfl, h1⟩, fun hz => absurd hz h0⟩
   · rw [h2]
     rw [hdef, h1]
     exact ⟨s2, t2, _, rfl, rfl, ⟨h3.rel.mono (by omega), h3.good⟩, ⟨by show L2.length ≤ 12; omega, h4⟩, fun hz => absurd rfl hz, fun _ => ⟨rfl, h5⟩⟩
def Zqr (L : List Zx) : Prop := ∀ R ∈ L, Ztt R
theorem Zxn {l : List Zb0} (hl : l.length ≤ 1000) (hd : ∀ d ∈ l, ∀ a ∈ d.Acts, ActIn a) : ∀ (n i : Nat) {s : Zq} {t : Zj} {m : Nat} {L : List Zx}, i + n = l.length → FR s t m → m + 12 * n < 900000 → L.length = i → Zqr L →
   ∃ s' t' L', Zh4 l (n + 1) s L (i : Int) = some (s', L') ∧ Zev l (n + 1) t L (i : Int) = some (t', L') ∧ FR s' t' (m + 12 * n) ∧ Zqr L' ∧ L'.length = l.length
 | 0, i, s, t, m, L, h, hf, hm, hL, hA => by
   rw [Zh4, Zev, if_neg (by simp; omega), if_neg (by simp; omega)]
   exact ⟨s, t, L, rfl, rfl, hf, hA, by omega⟩
 | n + 1, i, s, t, m, L, h, hf, hm, hL, hA => by
   have h1 : i < l.length := by omega
   obtain ⟨s', t', R, e1, e2, hf', hR, _⟩ := Z3r hf (by omega) (hd _ (List.getElem_mem h1))
   rw [Zh4, Zev, if_pos (by simp; omega), if_pos (by simp; omega), Zdc h1, wr1 (by omega)]
   simp only [Option.bind_some]
   rw [e1, e2]
   simp only [Option.bind_some]
   have hlen : (L.length + [R].length) * 40 ≤ 140737488355328 := by simp; omega
   rw [if_pos hlen, if_pos hlen]
   obtain ⟨s2, t2, L2, g1, g2, g3, g4, g5⟩ := Zxn hl hd n (i + 1) (L := L ++ [R]) (by omega) hf' (by omega) (by simp; omega) (fun z hz => by
     rcases List.mem_append.1 hz with hz | hz
     · exact hA z hz
     · rw [List.mem_singleton.1 hz]; exact hR)
   exact ⟨s2, t2, L2, g1, g2, ⟨g3.rel.mono (by omega), g3.good⟩, g4, g5⟩
theorem Z34 {s : Zq} {t : Zj} {n : Nat} (h : FR s t n) (hn : n ≤ 1000) {l : List Zb0} (hl : l.length ≤ 40) (hd : ∀ d ∈ l, ∀ a ∈ d.Acts, ActIn a) :
   ∃ s' t' L, Zmo s l = some (s', L) ∧ Zi1 t l = some (t', L) ∧ FR s' t' (n + 480) ∧ Zqr L ∧ L.length = l.length := by
 obtain ⟨s', t', L, e1, e2, e3, e4, e5⟩ := Zxn (by omega) hd l.length 0 (L := []) (by omega) h (by omega) rfl (fun z hz => by cases hz)
 rw [show ((0 : Nat) : Int) = 0 from rfl] at e1 e2
 unfold Zmo Zi1
 rw [show (Int.toNat ((l.length : Int) - (0 : Int)) + 1) = l.length + 1 by omega, e1, e2]
 exact ⟨s', t', L, rfl, rfl, ⟨e3.rel.mono (by omega), e3.good⟩, e4, e5⟩
theorem Zsp {R : Zx} (hR : Ztt R) : ∀ (n i : Nat), i + n = R.Answers.length → Zd4 R R (n + 1) (i : Int) = some (.inr ())
 | 0, i, h => by rw [Zd4, if_neg (by simp; omega)]
 | n + 1, i, h => by
   have hl := hR.1
   have h1 : i < R.Answers.length := by omega
   have hw := hR.2 _ (List.getElem_mem h1)
   rw [Zd4, if_pos (by simp; omega), Zdc h1, wr1 (by omega)]
   simp only [Option.bind_some]
   rw [Z6t hw hw]
   simp only [beq_self_eq_true, Z64, Bool.and_self, Option.bind_some, Bool.not_true, Bool.false_eq_true, if_false]
   exact Zsp hR n (i + 1) (by omega)
theorem Z7a {R : Zx} (hR : Ztt R) : Zhm R R = some true := by
 unfold Zhm
 simp only [bne_self_eq_false, Bool.or_self, Bool.false_eq_true, if_false]
 have := Zsp hR R.Answers.length 0 (by omega)
 rw [show ((0 : Nat) : Int) = 0 from rfl] at this
 rw [show (Int.toNat ((R.Answers.length : Int) - (0 : Int)) + 1) = R.Answers.length + 1 by omega, this]
 rfl
theorem Zqj {L : List Zx} (hl : L.length ≤ 1000) (hR : Zqr L) : ∀ (n i : Nat), i + n = L.length → Zdy L L (n + 1) (i : Int) = some (.inr ())
 | 0, i, h => by rw [Zdy, if_neg (by simp; omega)]
 | n + 1, i, h => by
   have h1 : i < L.length := by omega
   rw [Zdy, if_pos (by simp; omega), Zdc h1, wr1 (by omega)]
   simp only [Option.bind_some]
   rw [Z7a (hR _ (List.getElem_mem h1))]
   simp only [Option.bind_some, Bool.not_true, Bool.false_eq_true, if_false]
   exact Zqj hl hR n (i + 1) (by omega)
theorem Z5u {L : List Zx} (hl : L.length ≤ 1000) (hR : Zqr L) : Zhr L L = some true := by
 unfold Zhr
 simp only [bne_self_eq_false, Bool.false_eq_true, if_false]
 have := Zqj hl hR L.length 0 (by omega)
 rw [show ((0 : Nat) : Int) = 0 from rfl] at this
 rw [show (Int.toNat ((L.length : Int) - (0 : Int)) + 1) = L.length + 1 by omega, this]
 rfl
theorem Zvn {d : Zb0} (hl : d.Acts.length ≤ 40) (hw : ∀ a ∈ d.Acts, Zku a) : ∀ (n i : Nat), i + n = d.Acts.length → Zd3 d (n + 1) (i : Int) = some (.inl 1) ∨ (Zd3 d (n + 1) (i : Int) = some (.inr ()) ∧ ∀ a ∈ d.Acts.drop i, a.Make.List.length ≤ 100)
 | 0, i, h => by
   right
   rw [Zd3, if_neg (by simp; omega), List.drop_of_length_le (by omega)]
   exact ⟨rfl, fun o ho => by cases ho⟩
 | n + 1, i, h => by
   have h1 : i < d.Acts.length := by omega
   obtain ⟨c, e1, e2, e3⟩ := Z97 (hw _ (List.getElem_mem h1))
   rw [Zd3, if_pos (by simp; omega), Zdc h1, wr1 (by omega)]
   simp only [Option.bind_some]
   rw [e1]
   rcases e2 with rfl | rfl
   · simp only [Int.lt_irrefl, decide_false, Bool.false_eq_true, if_false, Option.bind_some]
     rcases Zvn hl hw n (i + 1) (by omega) with h2 | ⟨h2, h3⟩
     · exact .inl h2
     · right
       refine ⟨h2, fun o ho => ?_⟩
       rw [List.drop_eq_getElem_cons h1] at ho
       rcases List.mem_cons.1 ho with rfl | ho
       · exact e3 rfl
       · exact h3 o ho
   · left; rfl
theorem big8 {d : Zb0} (hw : Zkc d) : ∃ c, Zir d = some c ∧ (c = 0 ∨ c = 1) ∧ (c = 0 → d.Acts.length ≤ 40 ∧ ∀ a ∈ d.Acts, ActIn a) := by
 unfold Zir
 by_cases h : 40 < d.Acts.length
 · rw [if_pos (by simp; omega)]; exact ⟨1, rfl, .inr rfl, fun h => by cases h⟩
 · rw [if_neg (by simp; omega), show (Int.toNat ((d.Acts.length : Int) - (0 : Int)) + 1) = d.Acts.length + 1 by omega]
   have := Zvn (d := d) (by omega) hw.2 d.Acts.length 0 (by omega)
   rw [show ((0 : Nat) : Int) = 0 from rfl] at this
   rcases this with h1 | ⟨h1, h2⟩
   · rw [h1]; exact ⟨1, rfl, .inr rfl, fun h => by cases h⟩
   · rw [h1]; exact ⟨0, rfl, .inl rfl, fun _ => ⟨by omega, fun a ha => Z37 (hw.2 a ha) (h2 a ha)⟩⟩
theorem Ztg {l : List Zb0} (hl : l.length ≤ 40) (hw : ∀ d ∈ l, Zkc d) : ∀ (n i : Nat), i + n = l.length → Zd7 l (n + 1) (i : Int) = some (.inl 1) ∨ (Zd7 l (n + 1) (i : Int) = some (.inr ()) ∧ ∀ d ∈ l.drop i, d.Acts.length ≤ 40 ∧ ∀ a ∈ d.Acts, ActIn a)
 | 0, i, h => by
   right
   rw [Zd7, if_neg (by simp; omega), List.drop_of_length_le (by omega)]
   exact ⟨rfl, fun o ho => by cases ho⟩
 | n + 1, i, h => by
   have h1 : i < l.length := by omega
   obtain ⟨c, e1, e2, e3⟩ := big8 (hw _ (List.getElem_mem h1))
   rw [Zd7, if_pos (by simp; omega), Zdc h1, wr1 (by omega)]
   simp only [Option.bind_some]
   rw [e1]
   rcases e2 with rfl | rfl
   · simp only [Int.lt_irrefl, decide_false, Bool.false_eq_true, if_false, Option.bind_some]
     rcases Ztg hl hw n (i + 1) (by omega) with h2 | ⟨h2, h3⟩
     · exact .inl h2
     · right
       refine ⟨h2, fun o ho => ?_⟩
       rw [List.drop_eq_getElem_cons h1] at ho
       rcases List.mem_cons.1 ho with rfl | ho
       · exact e3 rfl
       · exact h3 o ho
   · left; rfl
theorem Z80 {l : List Zb0} (hw : ∀ d ∈ l, Zkc d) : ∃ c, Zi4 l = some c ∧ (c = 0 ∨ c = 1) ∧ (c = 0 → l.length ≤ 40 ∧ ∀ d ∈ l, d.Acts.length ≤ 40 ∧ ∀ a ∈ d.Acts, ActIn a) := by
 unfold Zi4
 by_cases h : 40 < l.length
 · rw [if_pos (by simp; omega)]; exact ⟨1, rfl, .inr rfl, fun h => by cases h⟩
 · rw [if_neg (by simp; omega), show (Int.toNat ((l.length : Int) - (0 : Int)) + 1) = l.length + 1 by omega]
   have := Ztg (l := l) (by omega) hw l.length 0 (by omega)
   rw [show ((0 : Nat) : Int) = 0 from rfl] at this
   rcases this with h1 | ⟨h1, h2⟩
   · rw [h1]; exact ⟨1, rfl, .inr rfl, fun h => by cases h⟩
   · rw [h1]; exact ⟨0, rfl, .inl rfl, fun _ => ⟨by omega, h2⟩⟩
theorem Zte {l : List Z9} (hl : l.length ≤ 60) (hw : ∀ p ∈ l, Zgu p) {z : Zq} {r : Int} : ∀ (n i : Nat) {s : Zq} {t : Zj}, i + n = l.length → FR s t i → t.Room = r →
   (∃ s', Zdl l (n + 1) z s t (i : Int) = some (.inl (s', none))) ∨ (∃ s' t', Zdl l (n + 1) z s t (i : Int) = some (.inr (z, s', t')) ∧ FR s' t' 60 ∧ t'.Room = r)
 | 0, i, s, t, h, hf, hr => by
   right
   rw [Zdl, if_neg (by simp; omega)]
   exact ⟨s, t, rfl, hf.mono (by omega), hr⟩
 | n + 1, i, s, t, h, hf, hr => by
   have h1 : i < l.length := by omega
   have hm := hw _ (List.getElem_mem h1)
   obtain ⟨c, e1, e2, e3⟩ := Z4v (Zy4 hm.2)
   rw [Zdl, if_pos (by simp; omega), Zdc h1, wr1 (by omega)]
   simp only [Option.bind_some]
   rw [e1]
   by_cases hk : decide ((100 : Int) < ((l[i]).Key.size : Int)) = true
   · rw [hk]; left; exact ⟨s, rfl⟩
   · rw [Bool.eq_false_iff.2 hk]
     simp only [Bool.not_false, gd_t, Option.bind_some, Bool.false_or]
     rcases e2 with rfl | rfl
     · simp only [Int.lt_irrefl, decide_false, Bool.false_eq_true, if_false]
       have hx : RecW (l[i]).Rec := Zux hm.2 (e3 rfl)
       obtain ⟨s', t', c, f1, f2, f3, f4⟩ := Zs8 hf.rel (by omega) (l[i]).Key hx.ok (e3 rfl)
       rw [f1, f2]
       simp only [Option.bind_some]
       refine Zte hl hw n (i + 1) (by omega) ⟨f3, fun q hq => ?_⟩ (by rw [← f3.room, Zol f1, hf.rel.room, hr])
       rcases f4 with f4 | ⟨f4, f5, _⟩
       · rw [f4] at hq; exact hf.good q hq
       · rw [f4] at hq
         rcases Zo9 hq with rfl | hq
         · exact ⟨hx, (Zk0 hx.ok).1 f5⟩
         · exact hf.good q hq
     · left; exact ⟨s, rfl⟩
theorem Z3a {r : Int} {l : List Z9} (hw : ∀ p ∈ l, Zgu p) : (∃ s, Zgo r l = some (s, none)) ∨ (∃ s t, Zgo r l = some (s, some t) ∧ FR s t 60 ∧ t.Room = r ∧ 1 ≤ r ∧ r ≤ 4096) := by
 unfold Zgo Zm0
 by_cases hr : r < 1 ∨ 4096 < r
 · rw [if_pos (by simpa using hr)]
   left; exact ⟨_, rfl⟩
 · rw [if_neg (by simpa using hr)]
   simp only [Option.bind_some, bne_self_eq_false, Bool.false_or]
   by_cases hl : 60 < l.length
   · rw [if_pos (by simp; omega)]; left; exact ⟨_, rfl⟩
   · rw [if_neg (by simp; omega), show (Int.toNat ((l.length : Int) - (0 : Int)) + 1) = l.length + 1 by omega]
     have := Zte (l := l) (by omega) hw (z := default) (r := r) l.length 0 (by omega) ⟨Z5i r, fun q hq => by simp [pl] at hq⟩ rfl
     rw [show ((0 : Nat) : Int) = 0 from rfl] at this
     rcases this with ⟨s', e⟩ | ⟨s', t', e, e2, e3⟩
     · rw [e]; left; exact ⟨_, rfl⟩
     · rw [e]; right; exact ⟨s', t', rfl, e2, e3, by omega, by omega⟩
theorem Z4d : Ziu = some true := by kernel_rfl
end Go.CL
set_option linter.unusedVariables false
set_option linter.unusedSimpArgs false
namespace Go.CL
open Go
theorem FoldRuns_true (a0 : Int) (a1 : List Z9) (a2 : List Zb0) (w0 : (IntKind.i64).min ≤ a0 ∧ a0 ≤ (IntKind.i64).max) (w1 : a1.length ≤ maxLen ∧ ∀ e0 ∈ a1, Zgu e0) (w2 : a2.length ≤ maxLen ∧ ∀ e0 ∈ a2, Zkc e0) : Zhw a0 a1 a2 = some true := by
 unfold Zhw
 rw [Z4d]
 simp only [Option.bind_some, Bool.not_true, Bool.false_eq_true, if_false]
 rcases Z3a (r := a0) w1.2 with ⟨s, e⟩ | ⟨s, t, e, hf, _⟩
 · rw [e]; rfl
 · rw [e]
   obtain ⟨c, e1, e2, e3⟩ := Z80 w2.2
   simp only [Option.bind_some, Option.isNone_some, Bool.not_false, gd_t, Bool.false_or]
   rw [e1]
   rcases e2 with rfl | rfl
   · simp only [Option.bind_some, Int.lt_irrefl, decide_false, Bool.false_eq_true, if_false]
     obtain ⟨hl, hd⟩ := e3 rfl
     obtain ⟨s', t', L, f1, f2, f3, f4, f5⟩ := Z34 hf (by omega) hl (fun d hm => (hd d hm).2)
     rw [f1, f2]
     simp only [Option.bind_some]
     rw [Z9s f3.rel (by omega), Z5u (by omega) f4]
     rfl
   · rfl
end Go.CL
set_option linter.unusedVariables false
set_option linter.unusedSimpArgs false
set_option maxRecDepth 100000
namespace Go.CL
open Go Go.RowKit Go.Proofs Go.ChangeShapes Go.WideShapes Go.ChangeAt
theorem Z27 : ownKnob Tryz.prog.godebug = none := by kernel_rfl
theorem Zra : laidOutB Tryz.prog = true := by kernel_rfl
theorem op_3 : Opn Tryz.prog 3 (Kd.int .i64) (fun x => ((IntKind.i64).min ≤ x ∧ x ≤ (IntKind.i64).max)) := Zzq Tryz.underlying3 (by kernel_rfl)
theorem op_9 : Opn Tryz.prog 9 Kd.str (fun x => (x.size ≤ maxLen)) := Z6m Tryz.underlying9 (by kernel_rfl)
theorem op_2 : Opn Tryz.prog 2 (Kd.int .i64) (fun x => ((IntKind.i64).min ≤ x ∧ x ≤ (IntKind.i64).max)) := Zzq Tryz.underlying2 (by kernel_rfl)
theorem Zz7 : Opn Tryz.prog 61 Kd.flt (fun x => (x < 2 ^ 64)) := Z5j Tryz.underlying61 (by kernel_rfl)
theorem Z6r : Opn Tryz.prog 105 Zy Zoo := ⟨by kernel_rfl, fun hg h => by
 obtain ⟨hl, n, hf⟩ := Zl7 Tryz.underlying105 h
 obtain ⟨y0, h0⟩ := hf 0 _ rfl
 obtain ⟨v0, k0, w0⟩ := Zz7.op hg h0
 obtain ⟨y1, h1⟩ := hf 1 _ rfl
 obtain ⟨v1, k1, w1⟩ := op_9.op hg h1
 refine ⟨⟨v0, v1⟩, ⟨hl.trans (by kernel_rfl), (List.forall_mem_cons.2 ⟨k0, (List.forall_mem_cons.2 ⟨k1, (fun _ h => by cases h)⟩)⟩)⟩, w0, w1⟩, fun h => Zm4 Tryz.underlying105 h⟩
theorem Z95 : Opn Tryz.prog 62 Zy.sl (fun x => (x.length ≤ maxLen ∧ ∀ e0 ∈ x, (Zoo e0))) := Ztk Tryz.underlying62 (by kernel_rfl) Z6r (by decide)
theorem Z40 : Opn Tryz.prog 64 Zi Zj8 := ⟨by kernel_rfl, fun hg h => by
 obtain ⟨hl, n, hf⟩ := Zl7 Tryz.underlying64 h
 obtain ⟨y0, h0⟩ := hf 0 _ rfl
 obtain ⟨v0, k0, w0⟩ := op_3.op hg h0
 obtain ⟨y1, h1⟩ := hf 1 _ rfl
 obtain ⟨v1, k1, w1⟩ := op_2.op hg h1
 obtain ⟨y2, h2⟩ := hf 2 _ rfl
 obtain ⟨v2, k2, w2⟩ := op_2.op hg h2
 obtain ⟨y3, h3⟩ := hf 3 _ rfl
 obtain ⟨v3, k3, w3⟩ := op_2.op hg h3
 obtain ⟨y4, h4⟩ := hf 4 _ rfl
 obtain ⟨v4, k4, w4⟩ := Zz7.op hg h4
 obtain ⟨y5, h5⟩ := hf 5 _ rfl
 obtain ⟨v5, k5, w5⟩ := op_3.op hg h5
 obtain ⟨y6, h6⟩ := hf 6 _ rfl
 obtain ⟨v6, k6, w6⟩ := op_9.op hg h6
 obtain ⟨y7, h7⟩ := hf 7 _ rfl
 obtain ⟨v7, k7, w7⟩ := Z95.op hg h7
 refine ⟨⟨v0, v1, v2, v3, v4, v5, v6, v7⟩, ⟨hl.trans (by kernel_rfl), (List.forall_mem_cons.2 ⟨k0, (List.forall_mem_cons.2 ⟨k1, (List.forall_mem_cons.2 ⟨k2, (List.forall_mem_cons.2 ⟨k3, (List.forall_mem_cons.2 ⟨k4, (List.forall_mem_cons.2 ⟨k5, (List.forall_mem_cons.2 ⟨k6, (List.forall_mem_cons.2 ⟨k7, (fun _ h => by cases h)⟩)⟩)⟩)⟩)⟩)⟩)⟩)⟩)⟩, w0, w1, w2, w3, w4, w5, w6, w7⟩, fun h => Zm4 Tryz.underlying64 h⟩
theorem Z9v : Opn Tryz.prog 75 Zb1 Zgu := ⟨by kernel_rfl, fun hg h => by
 obtain ⟨hl, n, hf⟩ := Zl7 Tryz.underlying75 h
 obtain ⟨y0, h0⟩ := hf 0 _ rfl
 obtain ⟨v0, k0, w0⟩ := op_9.op hg h0
 obtain ⟨y1, h1⟩ := hf 1 _ rfl
 obtain ⟨v1, k1, w1⟩ := Z40.op hg h1
 refine ⟨⟨v0, v1⟩, ⟨hl.trans (by kernel_rfl), (List.forall_mem_cons.2 ⟨k0, (List.forall_mem_cons.2 ⟨k1, (fun _ h => by cases h)⟩)⟩)⟩, w0, w1⟩, fun h => Zm4 Tryz.underlying75 h⟩
theorem Z9o : Opn Tryz.prog 22 Zb1.sl (fun x => (x.length ≤ maxLen ∧ ∀ e0 ∈ x, (Zgu e0))) := Ztk Tryz.underlying22 (by kernel_rfl) Z9v (by decide)
theorem op_4 : Opn Tryz.prog 4 Kd.bool (fun x => True) := Z3j Tryz.underlying4 (by kernel_rfl)
theorem Z84 : Opn Tryz.prog 66 Zbd Zku := ⟨by kernel_rfl, fun hg h => by
 obtain ⟨hl, n, hf⟩ := Zl7 Tryz.underlying66 h
 obtain ⟨y0, h0⟩ := hf 0 _ rfl
 obtain ⟨v0, k0, w0⟩ := op_3.op hg h0
 obtain ⟨y1, h1⟩ := hf 1 _ rfl
 obtain ⟨v1, k1, w1⟩ := op_9.op hg h1
 obtain ⟨y2, h2⟩ := hf 2 _ rfl
 obtain ⟨v2, k2, w2⟩ := op_2.op hg h2
 obtain ⟨y3, h3⟩ := hf 3 _ rfl
 obtain ⟨v3, k3, w3⟩ := Zz7.op hg h3
 obtain ⟨y4, h4⟩ := hf 4 _ rfl
 obtain ⟨v4, k4, w4⟩ := op_9.op hg h4
 obtain ⟨y5, h5⟩ := hf 5 _ rfl
 obtain ⟨v5, k5, w5⟩ := Z40.op hg h5
 obtain ⟨y6, h6⟩ := hf 6 _ rfl
 obtain ⟨v6, k6, w6⟩ := op_4.op hg h6
 refine ⟨⟨v0, v1, v2, v3, v4, v5, v6⟩, ⟨hl.trans (by kernel_rfl), (List.forall_mem_cons.2 ⟨k0, (List.forall_mem_cons.2 ⟨k1, (List.forall_mem_cons.2 ⟨k2, (List.forall_mem_cons.2 ⟨k3, (List.forall_mem_cons.2 ⟨k4, (List.forall_mem_cons.2 ⟨k5, (List.forall_mem_cons.2 ⟨k6, (fun _ h => by cases h)⟩)⟩)⟩)⟩)⟩)⟩)⟩)⟩, w0, w1, w2, w3, w4, w5, w6⟩, fun h => Zm4 Tryz.underlying66 h⟩
theorem Z8p : Opn Tryz.prog 50 Zbd.sl (fun x => (x.length ≤ maxLen ∧ ∀ e0 ∈ x, (Zku e0))) := Ztk Tryz.underlying50 (by kernel_rfl) Z84 (by decide)
theorem Z9j : Opn Tryz.prog 52 Zcq Zkc := ⟨by kernel_rfl, fun hg h => by
 obtain ⟨hl, n, hf⟩ := Zl7 Tryz.underlying52 h
 obtain ⟨y0, h0⟩ := hf 0 _ rfl
 obtain ⟨v0, k0, w0⟩ := Z8p.op hg h0
 refine ⟨⟨v0⟩, ⟨hl.trans (by kernel_rfl), (List.forall_mem_cons.2 ⟨k0, (fun _ h => by cases h)⟩)⟩, w0⟩, fun h => Zm4 Tryz.underlying52 h⟩
theorem Z86 : Opn Tryz.prog 23 Zcq.sl (fun x => (x.length ≤ maxLen ∧ ∀ e0 ∈ x, (Zkc e0))) := Ztk Tryz.underlying23 (by kernel_rfl) Z9j (by decide)
theorem Z4m : Det Tryz.prog 9 := Z6g Tryz.underlying9
theorem Z9i : Det Tryz.prog 3 := Z46 Tryz.underlying3
theorem Z5m : Det Tryz.prog 150 := Z0t Tryz.underlying150 (fun i f h => match i, f, h with
 | 0, _, h => by obtain rfl := Option.some.inj h; exact Z4m
 | 1, _, h => by obtain rfl := Option.some.inj h; exact Z9i
 | 2, _, h => by obtain rfl := Option.some.inj h; exact Z4m
 | _ + 3, _, h => by cases h) (by kernel_rfl)
theorem Z53 : Det Tryz.prog 167 := Z5y Tryz.underlying167 Z5m (by kernel_rfl)
theorem FoldRuns_met (os : Os) (args : Array Value) : laidMetH Tryz.prog [("moiety/act.kinds", Go.Proofs.YtiggdpakpaickaaGreatDoor.Rows.laid_moiety_act_kinds)] ((World.doorLaid Tryz.prog 400 os).forCall (fun _ _ => 0) ⟨#[], args, []⟩).memory :=
 laidMetH_of_parts3 (fuel := 8) (laidMet_of_run' 8 (by kernel_rfl) (by kernel_rfl)) (by kernel_rfl) (by kernel_rfl)
theorem FoldRuns_gl {W : World} (h : laidMetH Tryz.prog [("moiety/act.kinds", Go.Proofs.YtiggdpakpaickaaGreatDoor.Rows.laid_moiety_act_kinds)] W) : GLok W (fun b _ => b < W.heap.size) := by
 have g0 := Z36 (P := Tryz.prog) (nm := "moiety/act.kinds") (d := Go.Proofs.YtiggdpakpaickaaGreatDoor.Rows.laid_moiety_act_kinds) (g := 0) (t := 167) (W := W) (w0 := W) (cells := [.string ⟨#[]⟩, .int .i64 (0), .string ⟨#[]⟩, .string ⟨#[110, 101, 119]⟩, .int .i64 (0), .string ⟨#[109]⟩, .string ⟨#[100, 114, 111, 112]⟩, .int .i64 (0), .string ⟨#[]⟩, .string ⟨#[105, 115]⟩, .int .i64 (0), .string ⟨#[]⟩, .string ⟨#[108, 111, 111, 107]⟩, .int .i64 (0), .string ⟨#[]⟩, .string ⟨#[112, 117, 116]⟩, .int .i64 (1), .string ⟨#[115]⟩, .string ⟨#[115, 119, 97, 112]⟩, .int .i64 (1), .string ⟨#[115]⟩, .string ⟨#[97, 100, 100]⟩, .int .i64 (2), .string ⟨#[110]⟩, .string ⟨#[112, 108, 117, 115]⟩, .int .i64 (3), .string ⟨#[110]⟩, .string ⟨#[114, 101, 97, 99, 104]⟩, .int .i64 (3), .string ⟨#[110]⟩, .string ⟨#[105, 110]⟩, .int .i64 (4), .string ⟨#[110]⟩, .string ⟨#[111, 117, 116]⟩, .int .i64 (4), .string ⟨#[110]⟩, .string ⟨#[101, 110, 111, 117, 103, 104]⟩, .int .i64 (4), .string ⟨#[110]⟩, .string ⟨#[114, 97, 105, 115, 101]⟩, .int .i64 (5), .string ⟨#[120]⟩, .string ⟨#[108, 111, 119, 101, 114]⟩, .int .i64 (6), .string ⟨#[120]⟩, .string ⟨#[115, 104, 105, 102, 116]⟩, .int .i64 (7), .string ⟨#[120]⟩, .string ⟨#[115, 99, 97, 108, 101]⟩, .int .i64 (7), .string ⟨#[120]⟩, .string ⟨#[102, 105, 120]⟩, .int .i64 (7), .string ⟨#[120]⟩, .string ⟨#[106, 111, 105, 110]⟩, .int .i64 (8), .string ⟨#[115]⟩, .string ⟨#[108, 101, 97, 118, 101]⟩, .int .i64 (8), .string ⟨#[115]⟩, .string ⟨#[104, 97, 115]⟩, .int .i64 (8), .string ⟨#[115]⟩, .string ⟨#[111, 102, 102, 101, 114]⟩, .int .i64 (9), .string ⟨#[120, 115]⟩]) (fu := 8) (by kernel_rfl) (by kernel_rfl) Z53 (by kernel_rfl) (by kernel_rfl) h
 intro e he i v hv
 rcases List.mem_cons.1 he with rfl | he
 · exact ⟨(Zqx (g0 i v hv)).2, g0 i v hv⟩
 cases he
theorem FoldRuns_ret (os : Os) (started : os.Started) (H : Type) (enc : TypeId × Value → H) :
   ReturnsInHanded {} Tryz.checked os 3 .any (fun w args => (Go.Proofs.YtiggdpakpaickaaGreatDoor.Rows.foldRunsSpec.pre enc Tryz.prog Tryz.f3 [] false w args ∧ laidMetH Tryz.prog [("moiety/act.kinds", Go.Proofs.YtiggdpakpaickaaGreatDoor.Rows.laid_moiety_act_kinds)] w) ∧ sizedMet enc Tryz.prog Tryz.f3 (OpenSpec.ofChange Go.Proofs.YtiggdpakpaickaaGreatDoor.Rows.foldRunsSpec) false w args) (Go.Proofs.YtiggdpakpaickaaGreatDoor.Rows.foldRunsSpec.post enc Tryz.prog Tryz.f3 false true false false) := by
 refine returnsInHanded_of_change_and (C := Tryz.checked) (X := fun w _ => laidMetH Tryz.prog [("moiety/act.kinds", Go.Proofs.YtiggdpakpaickaaGreatDoor.Rows.laid_moiety_act_kinds)] w) (fun _ _ _ hh h => h.of_heap hh) Z27 started (by kernel_rfl) Tryz.func3
   (ChangeSpec.witness_shaped (enc := enc) (C := Tryz.checked) (os := os) (X := fun w _ => laidMetH Tryz.prog [("moiety/act.kinds", Go.Proofs.YtiggdpakpaickaaGreatDoor.Rows.laid_moiety_act_kinds)] w) false (World.doorLaid Tryz.prog 400 os) #[.int .i64 0, .slice none 0 0, .slice none 0 0] 8 rfl (World.shaped_of_RefB (by kernel_rfl) (by kernel_rfl)) (by kernel_rfl) (by kernel_rfl) (by kernel_rfl) (FoldRuns_met os _)) ?_
 intro W base args ds gs before hval0 hW hcnd _ hL _
 have hval : ∀ (j : Nat) t v, Tryz.f3.params[j]? = some t → args[j]? = some v → Value.okWide Tryz.prog W .any base t v := hval0
 have hW' := hW
 obtain ⟨p, q, hA0, hV, rfl, hfz, hnd⟩ := hW
 have hA : DataW.TrodAll enc Tryz.prog W 0 (fun _ => true) true Tryz.f3.params.toList args.toList ds p := hA0
 rw [Tryz.params3] at hA hval
 obtain ⟨v0, v1, v2, d0, d1, d2, p0, p1, p2, rfl, rfl, rfl, h0, h1, h2⟩ := trodAll_three hA
 obtain ⟨rfl, rfl⟩ := trodVars_none hV
 simp only [List.append_nil] at hW'
 have hg : GLok W (fun b _ => b < W.heap.size) := (FoldRuns_gl hL)
 have hk0 := h0
 obtain ⟨a0, q0, w0⟩ := Zwx op_3 hg h0 (hval 0 3 v0 rfl rfl)
 have hk1 := h1
 obtain ⟨a1, q1, w1⟩ := Zwx Z9o hg h1 (hval 1 22 v1 rfl rfl)
 have hk2 := h2
 obtain ⟨a2, q2, w2⟩ := Zwx Z86 hg h2 (hval 2 23 v2 rfl rfl)
 refine (Zn6 a0 a1 a2 (FoldRuns_true a0 a1 a2 w0 w1 w2) (GW W hg) [v0, v1, v2] (Zmr q0 (Zmr q1 (Zmr q2 Zei)))).mono fun e W' ⟨g', v, he, hw, hs, hq⟩ => ?_
 subst he; subst hw
 rw [Ziz.1 hq]
 have hbel := Z31 hs
 have hlt : ∀ x ∈ (p0 ++ p1 ++ p2), x.block < W.heap.size := fun x hx => by simpa using hW'.lt x hx
 exact ⟨_, rfl, Zv2 (pv := []) hW' hbel (trodAll_mk1 (shut_bool Tryz.underlying4 true)) (trodAll_mk3 (Below.trod Zra (by kernel_rfl) (of_decide_eq_true (by kernel_rfl)) hk0 hbel (fun x hx => hlt x (by simp [hx]))) (Below.trod Zra (by kernel_rfl) (of_decide_eq_true (by kernel_rfl)) hk1 hbel (fun x hx => hlt x (by simp [hx]))) (Below.trod Zra (by kernel_rfl) (of_decide_eq_true (by kernel_rfl)) hk2 hbel (fun x hx => hlt x (by simp [hx])))) rfl⟩
theorem FoldRuns_holds : Go.Proofs.YtiggdpakpaickaaGreatDoor.Rows.FoldRunsSaid :=
 OpenClaim.holds_of_wide 3 Tryz.f3 rfl rfl rfl rfl rfl rfl rfl ⟨rfl, rfl, rfl, rfl, rfl⟩ rfl rfl rfl rfl rfl (by kernel_rfl) Tryz.func3 (by kernel_rfl)
   (of_decide_eq_true (by kernel_rfl)) (by unfold Func.isWrapper; first | (rw [if_pos (by decide +kernel)]; kernel_rfl) | (rw [if_neg (by decide +kernel)]; exact ⟨rfl, rfl⟩))
   (fun os started H enc _ => FoldRuns_ret os started H enc)
theorem FoldRuns_card : Go.Proofs.YtiggdpakpaickaaGreatDoor.Rows.FoldRunsCardSaid :=
 Claim7.holds_tied_plain_at .later [] [.data] true (true, "e7e36f5ae84a6e7b1c4c0dcbde582f8ca352bc73d43fbf27528de71db528e4f8") true
   FoldRuns_holds (fun _ h => by cases h) (by kernel_rfl) (fun _ h => by cases h) Go.Proofs.YtiggdpakpaickaaGreatDoor.foldRuns_row_tie rfl ⟨rfl, rfl⟩ (by kernel_rfl) rfl
   (fun f fn hf hfn => by
     obtain rfl : f = 3 := Option.some.inj ((show Tryz.prog.funcNamed "moiety/moietylaw10.FoldRuns" = some 3 by kernel_rfl).symm.trans hf) |>.symm
     obtain rfl : fn = Tryz.f3 := (Option.some.inj (Tryz.func3.symm.trans hfn)).symm
     exact ⟨by kernel_rfl, fun j t ht => by
       rw [Tryz.params3] at ht
       have hm : t ∈ [3, 22, 23] := by simpa using Array.mem_of_getElem? ht
       have hall : (([3, 22, 23] : List TypeId).all fun u => !Tryz.prog.wantsStandIn u) = true := by kernel_rfl
       exact (show Tryz.prog.wantsStandIn t = false by simpa using List.all_eq_true.1 hall t hm)⟩)
   (by kernel_rfl)
end Go.CL
