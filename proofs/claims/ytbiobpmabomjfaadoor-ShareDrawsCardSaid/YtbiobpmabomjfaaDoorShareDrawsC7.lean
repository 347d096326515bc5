/- A part of the proof of ShareDraws. -/
import Derived.Test.YtbiobpmabomjfaaDoorShareDrawsC6
import Derived.Test.YtbiobpmabomjfaaDoorRows
import Derived.Test.YtbiobpmabomjfaaDoorCards
import Derived.Test.YtbiobpmabomjfaaDoorTie
import Derived.SevenTiedAt
set_option linter.unusedVariables false
set_option linter.unusedSimpArgs false
set_option maxRecDepth 100000
namespace Go.CL
open Go
theorem Zn3 {β : Type} [Inhabited β] (c : Bool) (v : β) : gd c (some v) = some (if c then v else default) := by cases c <;> rfl
def Zpg (a : Zr) : Prop := Zg8 a.Make ∧ a.X < W64
abbrev zrc : Ze := { Kind := 0, Num := 0, Low := 0, High := 0, Real := 0, Cap := 0, Text := ByteArray.empty, List := [] }
theorem Zw0 : Zg8 zrc := ⟨by decide, by decide, fun e he => by cases he⟩
def actD (n x s m o1 k1 k2 : Bool) (c : Int) (a : Zr) : Int :=
 if (sEq a.Key ⟨#[]⟩ || decide ((24 : Int) < a.Key.size)) = true then 1
 else if (!(((n || a.N == 0) && (x || decide (keyf a.X = keyf 0))) && (s || sEq a.S ⟨#[]⟩) && (m || Zla a.Make zrc))) = true then 4
 else if decide ((if o1 = true then (64 : Int) else 16) < a.S.size) = true then 3
 else if (k2 && (decide (a.N < 0) || decide (2305843009213693952 < a.N))) = true then 1
 else if (!decide (a.X = Zc5 a.X)) = true then 4
 else if k1 = true then c else 0
theorem Zzz (k : ByteArray) : (decide ((k.size : Int) < 1)) = sEq k ⟨#[]⟩ := by
 by_cases h : k = ⟨#[]⟩
 · subst h; rw [Zxj]; decide
 · rw [Z1f.2 h]
   have : k.size ≠ 0 := fun e => h (by
     apply ByteArray.ext
     exact Array.size_eq_zero_iff.1 e)
   simp; omega
theorem Zwv {a : Zr} (ha : Zpg a) {w has : ByteArray} {on c : Int} {n x s m : Bool} (hc : Zdu a.Make = some c) (h1 : Zkt a.Kind = some ⟨w, on, has⟩) (hw : sEq w ⟨#[]⟩ = false)
   (fn : Zcx ⟨w, on, has⟩ 110 = some n) (fx : Zcx ⟨w, on, has⟩ 120 = some x) (fs : Zcx ⟨w, on, has⟩ 115 = some s) (fm : Zcx ⟨w, on, has⟩ 109 = some m) :
   Zgn a = some (actD n x s m (on == 1) (a.Kind == 1) (a.Kind == 10 || a.Kind == 11) c a) := by
 have h0 : (0 : Nat) < W64 := by decide
 unfold Zgn Zms Zmp
 rw [h1]
 simp only [Option.bind_some, hw, Bool.false_eq_true, if_false, fn, fx, fs, fm, Zn3]
 rw [Zkl ha.2 h0, Zw6 ha.1 Zw0, Znp ha.2, hc]
 simp only [Option.bind_some, Zn3]
 unfold actD
 generalize (sEq a.Key ⟨#[]⟩ || decide ((24 : Int) < a.Key.size)) = b1
 generalize (a.N == 0) = b2
 generalize decide (keyf a.X = keyf 0) = b3
 generalize sEq a.S ⟨#[]⟩ = b4
 generalize Zla a.Make zrc = b5
 generalize (a.Kind == 10 || a.Kind == 11) = b6
 generalize (a.Kind == 1) = b7
 generalize (decide (a.N < 0) || decide (2305843009213693952 < a.N)) = b8
 generalize decide (a.X = Zc5 a.X) = b9
 have e1 : decide ((64 : Int) < a.S.size) = decide ((if true = true then (64 : Int) else 16) < a.S.size) := rfl
 cases b1
 · have hm : ∀ (z : Bool), ((if z = true then some (64 : Int) else some 16).bind fun r8 => (if decide (r8 < (a.S.size : Int)) = true then some (3 : Int) else if (b6 && b8) = true then some 1 else if (!b9) = true then some 4 else if b7 = true then some c else some 0)) = some (if decide ((if z = true then (64 : Int) else 16) < a.S.size) = true then 3 else if (b6 && b8) = true then 1 else if (!b9) = true then 4 else if b7 = true then c else 0) := by
     intro z
     cases z <;> simp only [Bool.false_eq_true, if_false, if_true, Option.bind_some] <;> (repeat' split) <;> rfl
   rw [hm]
   cases n <;> cases x <;> cases s <;> cases m <;> cases b2 <;> cases b3 <;> cases b4 <;> cases b5 <;> rfl
 · rfl
theorem Zve {a : Zr} (ha : Zpg a) {on c : Int} {n x s m : Bool} (hc : Zc2 a.Make = some c) (hk : ¬ (a.Kind < 1 ∨ 21 < a.Kind)) (ro : Zek a.Kind = some on)
   (fn : Zdh a.Kind 110 = some n) (fx : Zdh a.Kind 120 = some x) (fs : Zdh a.Kind 115 = some s) (fm : m = (a.Kind == 1)) :
   Zd1 a = some (actD n x s m (on == 1) (a.Kind == 1) (a.Kind == 10 || a.Kind == 11) c a) := by
 have h0 : (0 : Nat) < W64 := by decide
 unfold Zd1
 rw [if_neg (by simpa using hk), fn, fx, fs, ro]
 simp only [Option.bind_some, Zn3, Zzz]
 rw [Zk1 ha.2 h0, Zvw ha.1 Zw0, Zme ha.2, hc]
 simp only [Option.bind_some, Zn3]
 unfold actD
 subst fm
 have hmid : ((on == 1 && decide ((64 : Int) < a.S.size)) || ((if (!(on == 1 && decide ((64 : Int) < a.S.size))) = true then on else default) != 1 && decide ((16 : Int) < a.S.size))) = decide ((if (on == 1) = true then (64 : Int) else 16) < a.S.size) := by
   by_cases ho : on = 1
   · subst ho
     by_cases h64 : (64 : Int) < a.S.size <;> simp [h64]
   · have hb1 : (on == 1) = false := by simpa using ho
     have hb2 : (on != 1) = true := by simpa using ho
     simp [hb1, hb2]
 rw [hmid, show (a.N != 0) = !(a.N == 0) from rfl, show (a.Kind != 1) = !(a.Kind == 1) from rfl]
 generalize decide ((if (on == 1) = true then (64 : Int) else 16) < a.S.size) = b10
 generalize (sEq a.Key ⟨#[]⟩ || decide ((24 : Int) < a.Key.size)) = b1
 generalize (a.N == 0) = b2
 generalize decide (keyf a.X = keyf 0) = b3
 generalize sEq a.S ⟨#[]⟩ = b4
 generalize Zla a.Make zrc = b5
 generalize (a.Kind == 10 || a.Kind == 11) = b6
 generalize (a.Kind == 1) = b7
 generalize (decide (a.N < 0) || decide (2305843009213693952 < a.N)) = b8
 generalize decide (a.X = Zc5 a.X) = b9
 have htail : (if b10 = true then some (3 : Int) else if (b6 && b8) = true then some 1 else if (!b9) = true then some 4 else if b7 = true then some c else some 0) = some (if b10 = true then 3 else if (b6 && b8) = true then 1 else if (!b9) = true then 4 else if b7 = true then c else 0) := by
   (repeat' split) <;> rfl
 rw [htail]
 cases b1
 · cases n <;> cases x <;> cases s <;> cases b7 <;> cases b2 <;> cases b3 <;> cases b4 <;> cases b5 <;> rfl
 · rfl
theorem Zws {n x s m o1 k1 k2 : Bool} {c : Int} {a : Zr} (h : actD n x s m o1 k1 k2 c a = 0) : (sEq a.Key ⟨#[]⟩ || decide ((24 : Int) < a.Key.size)) = false ∧ decide ((if o1 = true then (64 : Int) else 16) < a.S.size) = false ∧ (k2 && (decide (a.N < 0) || decide (2305843009213693952 < a.N))) = false ∧ decide (a.X = Zc5 a.X) = true ∧ (k1 = true → c = 0) := by
 unfold actD at h
 revert h
 generalize (sEq a.Key ⟨#[]⟩ || decide ((24 : Int) < a.Key.size)) = b1
 generalize decide ((if o1 = true then (64 : Int) else 16) < a.S.size) = b3
 generalize (k2 && (decide (a.N < 0) || decide (2305843009213693952 < a.N))) = b4
 generalize decide (a.X = Zc5 a.X) = b5
 generalize (!(((n || a.N == 0) && (x || decide (keyf a.X = keyf 0))) && (s || sEq a.S ⟨#[]⟩) && (m || Zla a.Make zrc))) = b2
 cases b1 <;> cases b2 <;> cases b3 <;> cases b4 <;> cases b5 <;> cases k1 <;> simp
theorem Zvj {a : Zr} (ha : Zpg a) : ∃ c, Zgn a = some c ∧ Zd1 a = some c ∧ (c = 0 → 1 ≤ a.Kind ∧ a.Kind ≤ 21 ∧ a.X = Zc5 a.X ∧ a.S.size ≤ 64 ∧ ((a.Kind = 10 ∨ a.Kind = 11) → 0 ≤ a.N ∧ a.N ≤ 2305843009213693952) ∧ (a.Kind = 1 → Zdu a.Make = some 0) ∧ (¬ (5 ≤ a.Kind ∧ a.Kind ≤ 6) → a.S.size ≤ 16) ∧ sEq a.Key ⟨#[]⟩ = false ∧ a.Key.size ≤ 24) := by
 by_cases hk : a.Kind < 1 ∨ 21 < a.Kind
 · refine ⟨5, ?_, ?_, fun h => by cases h⟩
   · unfold Zgn Zkt
     rw [if_pos (by simp; omega)]
     simp only [Option.bind_some]
     rw [if_pos (show sEq ByteArray.empty ⟨#[]⟩ = true by kernel_rfl)]
   · unfold Zd1
     rw [if_pos (by simpa using hk)]
 · obtain ⟨c, hc1, hc2⟩ := Zkh ha.1
   have fin : ∀ {w has : ByteArray} {on : Int} {n x s m : Bool}, Zkt a.Kind = some ⟨w, on, has⟩ → sEq w ⟨#[]⟩ = false → Zcx ⟨w, on, has⟩ 110 = some n → Zcx ⟨w, on, has⟩ 120 = some x → Zcx ⟨w, on, has⟩ 115 = some s → Zcx ⟨w, on, has⟩ 109 = some m →
       Zek a.Kind = some on → Zdh a.Kind 110 = some n → Zdh a.Kind 120 = some x → Zdh a.Kind 115 = some s → m = (a.Kind == 1) → ((on == 1) = true → 5 ≤ a.Kind ∧ a.Kind ≤ 6) →
       ∃ c, Zgn a = some c ∧ Zd1 a = some c ∧ (c = 0 → 1 ≤ a.Kind ∧ a.Kind ≤ 21 ∧ a.X = Zc5 a.X ∧ a.S.size ≤ 64 ∧ ((a.Kind = 10 ∨ a.Kind = 11) → 0 ≤ a.N ∧ a.N ≤ 2305843009213693952) ∧ (a.Kind = 1 → Zdu a.Make = some 0) ∧ (¬ (5 ≤ a.Kind ∧ a.Kind ≤ 6) → a.S.size ≤ 16) ∧ sEq a.Key ⟨#[]⟩ = false ∧ a.Key.size ≤ 24) := by
     intro w has on n x s m h1 hw fn fx fs fm ro rn rx rs hm hon
     refine ⟨_, Zwv ha hc1 h1 hw fn fx fs fm, by rw [hm]; exact Zve ha hc2 hk ro rn rx rs rfl, fun h0 => ?_⟩
     obtain ⟨g1, g3, g4, g5, g6⟩ := Zws h0
     simp only [Bool.or_eq_false_iff, decide_eq_false_iff_not] at g1
     have g3' : ¬ (if (on == 1) = true then (64 : Int) else 16) < a.S.size := of_decide_eq_false g3
     refine ⟨by omega, by omega, of_decide_eq_true g5, ?_, fun h => ?_, fun h => ?_, fun h => ?_, g1.1, by omega⟩
     · split at g3' <;> omega
     · have h11 : (a.Kind == 10 || a.Kind == 11) = true := by simpa using h
       rw [h11] at g4
       simp only [Bool.true_and, Bool.or_eq_false_iff, decide_eq_false_iff_not] at g4
       omega
     · rw [hc1, g6 (by simp [h])]
     · rw [if_neg (fun h2 => h (hon h2))] at g3'
       omega
   have hk' : a.Kind = 1 ∨ a.Kind = 2 ∨ a.Kind = 3 ∨ a.Kind = 4 ∨ a.Kind = 5 ∨ a.Kind = 6 ∨ a.Kind = 7 ∨ a.Kind = 8 ∨ a.Kind = 9 ∨ a.Kind = 10 ∨ a.Kind = 11 ∨ a.Kind = 12 ∨ a.Kind = 13 ∨ a.Kind = 14 ∨ a.Kind = 15 ∨ a.Kind = 16 ∨ a.Kind = 17 ∨ a.Kind = 18 ∨ a.Kind = 19 ∨ a.Kind = 20 ∨ a.Kind = 21 := by omega
   rcases hk' with h | h | h | h | h | h | h | h | h | h | h | h | h | h | h | h | h | h | h | h | h <;> rw [h] at fin ⊢
   · exact fin (w := ⟨#[110, 101, 119]⟩) (on := 0) (has := ⟨#[109]⟩) (n := false) (x := false) (s := false) (m := true) (by kernel_rfl) (by kernel_rfl) (by kernel_rfl) (by kernel_rfl) (by kernel_rfl) (by kernel_rfl) (by kernel_rfl) (by kernel_rfl) (by kernel_rfl) (by kernel_rfl) (by decide) (by decide)
   · exact fin (w := ⟨#[100, 114, 111, 112]⟩) (on := 0) (has := ⟨#[]⟩) (n := false) (x := false) (s := false) (m := false) (by kernel_rfl) (by kernel_rfl) (by kernel_rfl) (by kernel_rfl) (by kernel_rfl) (by kernel_rfl) (by kernel_rfl) (by kernel_rfl) (by kernel_rfl) (by kernel_rfl) (by decide) (by decide)
   · exact fin (w := ⟨#[105, 115]⟩) (on := 0) (has := ⟨#[]⟩) (n := false) (x := false) (s := false) (m := false) (by kernel_rfl) (by kernel_rfl) (by kernel_rfl) (by kernel_rfl) (by kernel_rfl) (by kernel_rfl) (by kernel_rfl) (by kernel_rfl) (by kernel_rfl) (by kernel_rfl) (by decide) (by decide)
   · exact fin (w := ⟨#[108, 111, 111, 107]⟩) (on := 0) (has := ⟨#[]⟩) (n := false) (x := false) (s := false) (m := false) (by kernel_rfl) (by kernel_rfl) (by kernel_rfl) (by kernel_rfl) (by kernel_rfl) (by kernel_rfl) (by kernel_rfl) (by kernel_rfl) (by kernel_rfl) (by kernel_rfl) (by decide) (by decide)
   · exact fin (w := ⟨#[112, 117, 116]⟩) (on := 1) (has := ⟨#[115]⟩) (n := false) (x := false) (s := true) (m := false) (by kernel_rfl) (by kernel_rfl) (by kernel_rfl) (by kernel_rfl) (by kernel_rfl) (by kernel_rfl) (by kernel_rfl) (by kernel_rfl) (by kernel_rfl) (by kernel_rfl) (by decide) (by decide)
   · exact fin (w := ⟨#[115, 119, 97, 112]⟩) (on := 1) (has := ⟨#[115]⟩) (n := false) (x := false) (s := true) (m := false) (by kernel_rfl) (by kernel_rfl) (by kernel_rfl) (by kernel_rfl) (by kernel_rfl) (by kernel_rfl) (by kernel_rfl) (by kernel_rfl) (by kernel_rfl) (by kernel_rfl) (by decide) (by decide)
   · exact fin (w := ⟨#[97, 100, 100]⟩) (on := 2) (has := ⟨#[110]⟩) (n := true) (x := false) (s := false) (m := false) (by kernel_rfl) (by kernel_rfl) (by kernel_rfl) (by kernel_rfl) (by kernel_rfl) (by kernel_rfl) (by kernel_rfl) (by kernel_rfl) (by kernel_rfl) (by kernel_rfl) (by decide) (by decide)
   · exact fin (w := ⟨#[112, 108, 117, 115]⟩) (on := 3) (has := ⟨#[110]⟩) (n := true) (x := false) (s := false) (m := false) (by kernel_rfl) (by kernel_rfl) (by kernel_rfl) (by kernel_rfl) (by kernel_rfl) (by kernel_rfl) (by kernel_rfl) (by kernel_rfl) (by kernel_rfl) (by kernel_rfl) (by decide) (by decide)
   · exact fin (w := ⟨#[114, 101, 97, 99, 104]⟩) (on := 3) (has := ⟨#[110]⟩) (n := true) (x := false) (s := false) (m := false) (by kernel_rfl) (by kernel_rfl) (by kernel_rfl) (by kernel_rfl) (by kernel_rfl) (by kernel_rfl) (by kernel_rfl) (by kernel_rfl) (by kernel_rfl) (by kernel_rfl) (by decide) (by decide)
   · exact fin (w := ⟨#[105, 110]⟩) (on := 4) (has := ⟨#[110]⟩) (n := true) (x := false) (s := false) (m := false) (by kernel_rfl) (by kernel_rfl) (by kernel_rfl) (by kernel_rfl) (by kernel_rfl) (by kernel_rfl) (by kernel_rfl) (by kernel_rfl) (by kernel_rfl) (by kernel_rfl) (by decide) (by decide)
   · exact fin (w := ⟨#[111, 117, 116]⟩) (on := 4) (has := ⟨#[110]⟩) (n := true) (x := false) (s := false) (m := false) (by kernel_rfl) (by kernel_rfl) (by kernel_rfl) (by kernel_rfl) (by kernel_rfl) (by kernel_rfl) (by kernel_rfl) (by kernel_rfl) (by kernel_rfl) (by kernel_rfl) (by decide) (by decide)
   · exact fin (w := ⟨#[101, 110, 111, 117, 103, 104]⟩) (on := 4) (has := ⟨#[110]⟩) (n := true) (x := false) (s := false) (m := false) (by kernel_rfl) (by kernel_rfl) (by kernel_rfl) (by kernel_rfl) (by kernel_rfl) (by kernel_rfl) (by kernel_rfl) (by kernel_rfl) (by kernel_rfl) (by kernel_rfl) (by decide) (by decide)
   · exact fin (w := ⟨#[114, 97, 105, 115, 101]⟩) (on := 5) (has := ⟨#[120]⟩) (n := false) (x := true) (s := false) (m := false) (by kernel_rfl) (by kernel_rfl) (by kernel_rfl) (by kernel_rfl) (by kernel_rfl) (by kernel_rfl) (by kernel_rfl) (by kernel_rfl) (by kernel_rfl) (by kernel_rfl) (by decide) (by decide)
   · exact fin (w := ⟨#[108, 111, 119, 101, 114]⟩) (on := 6) (has := ⟨#[120]⟩) (n := false) (x := true) (s := false) (m := false) (by kernel_rfl) (by kernel_rfl) (by kernel_rfl) (by kernel_rfl) (by kernel_rfl) (by kernel_rfl) (by kernel_rfl) (by kernel_rfl) (by kernel_rfl) (by kernel_rfl) (by decide) (by decide)
   · exact fin (w := ⟨#[115, 104, 105, 102, 116]⟩) (on := 7) (has := ⟨#[120]⟩) (n := false) (x := true) (s := false) (m := false) (by kernel_rfl) (by kernel_rfl) (by kernel_rfl) (by kernel_rfl) (by kernel_rfl) (by kernel_rfl) (by kernel_rfl) (by kernel_rfl) (by kernel_rfl) (by kernel_rfl) (by decide) (by decide)
   · exact fin (w := ⟨#[115, 99, 97, 108, 101]⟩) (on := 7) (has := ⟨#[120]⟩) (n := false) (x := true) (s := false) (m := false) (by kernel_rfl) (by kernel_rfl) (by kernel_rfl) (by kernel_rfl) (by kernel_rfl) (by kernel_rfl) (by kernel_rfl) (by kernel_rfl) (by kernel_rfl) (by kernel_rfl) (by decide) (by decide)
   · exact fin (w := ⟨#[102, 105, 120]⟩) (on := 7) (has := ⟨#[120]⟩) (n := false) (x := true) (s := false) (m := false) (by kernel_rfl) (by kernel_rfl) (by kernel_rfl) (by kernel_rfl) (by kernel_rfl) (by kernel_rfl) (by kernel_rfl) (by kernel_rfl) (by kernel_rfl) (by kernel_rfl) (by decide) (by decide)
   · exact fin (w := ⟨#[106, 111, 105, 110]⟩) (on := 8) (has := ⟨#[115]⟩) (n := false) (x := false) (s := true) (m := false) (by kernel_rfl) (by kernel_rfl) (by kernel_rfl) (by kernel_rfl) (by kernel_rfl) (by kernel_rfl) (by kernel_rfl) (by kernel_rfl) (by kernel_rfl) (by kernel_rfl) (by decide) (by decide)
   · exact fin (w := ⟨#[108, 101, 97, 118, 101]⟩) (on := 8) (has := ⟨#[115]⟩) (n := false) (x := false) (s := true) (m := false) (by kernel_rfl) (by kernel_rfl) (by kernel_rfl) (by kernel_rfl) (by kernel_rfl) (by kernel_rfl) (by kernel_rfl) (by kernel_rfl) (by kernel_rfl) (by kernel_rfl) (by decide) (by decide)
   · exact fin (w := ⟨#[104, 97, 115]⟩) (on := 8) (has := ⟨#[115]⟩) (n := false) (x := false) (s := true) (m := false) (by kernel_rfl) (by kernel_rfl) (by kernel_rfl) (by kernel_rfl) (by kernel_rfl) (by kernel_rfl) (by kernel_rfl) (by kernel_rfl) (by kernel_rfl) (by kernel_rfl) (by decide) (by decide)
   · exact fin (w := ⟨#[111, 102, 102, 101, 114]⟩) (on := 9) (has := ⟨#[120, 115]⟩) (n := false) (x := true) (s := true) (m := false) (by kernel_rfl) (by kernel_rfl) (by kernel_rfl) (by kernel_rfl) (by kernel_rfl) (by kernel_rfl) (by kernel_rfl) (by kernel_rfl) (by kernel_rfl) (by kernel_rfl) (by decide) (by decide)
abbrev Zx8 := List Zm
def pre (f : Zm → Bool) : Zx8 → Nat
 | [] => 0
 | e :: r => if f e then pre f r + 1 else 0
theorem Zoy {k : Int} {l : Zx8} : ∀ (n i : Nat), Zgq k l i n = 0 ↔ ∀ j, i ≤ j → j < i + n → Zg9 k l j = 0
 | 0, i => ⟨fun _ j h1 h2 => by omega, fun _ => rfl⟩
 | n + 1, i => by
   by_cases h : Zg9 k l i = 0
   · rw [Zpa h, Zoy n (i + 1)]
     constructor
     · intro hh j h1 h2
       by_cases e : j = i
       · rw [e]; exact h
       · exact hh j (by omega) (by omega)
     · intro hh j h1 h2; exact hh j (by omega) (by omega)
   · rw [Zo7 h]
     exact ⟨fun e => absurd e h, fun hh => absurd (hh i (Nat.le_refl _) (by omega)) h⟩
theorem Zor {t n b r l : Bool} {a : Ze} : Zlt t n b r l a = 0 ↔ Zg6 t n b r l a = true ∧ a.Text.size ≤ 64 ∧ (b = true → -2305843009213693952 ≤ a.Low ∧ a.High ≤ 2305843009213693952 ∧ a.Low ≤ a.Num ∧ a.Num ≤ a.High) ∧ a.Real = Zc5 a.Real ∧ (l = true → 1 ≤ a.Cap ∧ a.Cap ≤ 32 ∧ (a.List.length : Int) ≤ a.Cap ∧ ∀ i, i < a.List.length → Zg9 a.Kind a.List i = 0) := by
 unfold Zlt
 by_cases h1 : Zg6 t n b r l a = false
 · rw [if_pos h1, h1]; simp
 · have h1' : Zg6 t n b r l a = true := by simpa using h1
   rw [if_neg h1, h1']
   by_cases h2 : (64 : Int) < a.Text.size
   · rw [if_pos h2]; exact ⟨fun h => absurd h (by decide), fun h => by omega⟩
   · rw [if_neg h2]
     by_cases h3 : b = true ∧ (a.Low < -2305843009213693952 ∨ 2305843009213693952 < a.High ∨ a.Num < a.Low ∨ a.High < a.Num)
     · rw [if_pos h3]; exact ⟨fun h => absurd h (by decide), fun h => by have := h.2.2.1 h3.1; omega⟩
     · rw [if_neg h3]
       by_cases h4 : a.Real = Zc5 a.Real
       · rw [if_neg (fun h => h h4)]
         cases l
         · rw [if_pos rfl]
           refine ⟨fun _ => ⟨rfl, by omega, fun hb => ?_, h4, fun h => absurd h (by decide)⟩, fun _ => rfl⟩
           have : ¬ (a.Low < -2305843009213693952 ∨ 2305843009213693952 < a.High ∨ a.Num < a.Low ∨ a.High < a.Num) := fun h => h3 ⟨hb, h⟩
           omega
         · rw [if_neg (by decide)]
           by_cases h5 : a.Cap < 1 ∨ 32 < a.Cap
           · rw [if_pos h5]; exact ⟨fun h => absurd h (by decide), fun h => by have := h.2.2.2.2 rfl; omega⟩
           · rw [if_neg h5]
             by_cases h6 : a.Cap < a.List.length
             · rw [if_pos h6]; exact ⟨fun h => absurd h (by decide), fun h => by have := h.2.2.2.2 rfl; omega⟩
             · rw [if_neg h6, Zoy]
               constructor
               · intro h
                 refine ⟨rfl, by omega, fun hb => ?_, h4, fun _ => ⟨by omega, by omega, by omega, fun i hi => h i (Nat.zero_le _) (by omega)⟩⟩
                 have : ¬ (a.Low < -2305843009213693952 ∨ 2305843009213693952 < a.High ∨ a.Num < a.Low ∨ a.High < a.Num) := fun h => h3 ⟨hb, h⟩
                 omega
               · intro h j _ hj
                 exact (h.2.2.2.2 rfl).2.2.2 j (by omega)
       · rw [if_pos h4]; exact ⟨fun h => absurd h (by decide), fun h => absurd h.2.2.2.1 h4⟩
def Zu5 (a : Ze) : Prop := 1 ≤ a.Kind ∧ a.Kind ≤ 9 ∧ Zg6 (decide (a.Kind = 1)) (decide (2 ≤ a.Kind ∧ a.Kind ≤ 4)) (decide (a.Kind = 4)) (decide (5 ≤ a.Kind ∧ a.Kind ≤ 7)) (decide (8 ≤ a.Kind)) a = true ∧ a.Text.size ≤ 64 ∧ (a.Kind = 4 → -2305843009213693952 ≤ a.Low ∧ a.High ≤ 2305843009213693952 ∧ a.Low ≤ a.Num ∧ a.Num ≤ a.High) ∧ a.Real = Zc5 a.Real ∧
 (8 ≤ a.Kind → 1 ≤ a.Cap ∧ a.Cap ≤ 32 ∧ (a.List.length : Int) ≤ a.Cap ∧ ∀ i, i < a.List.length → Zg9 a.Kind a.List i = 0)
theorem Zvg {a : Ze} (ha : Zg8 a) : Zdu a = some 0 ↔ Zu5 a := by
 by_cases hk : a.Kind ≤ 0 ∨ 10 ≤ a.Kind
 · have : Zdu a ≠ some 0 := by
     obtain ⟨c, hc, hc2⟩ := Zkh ha
     unfold Zc2 at hc2
     rw [if_pos (by simp; omega)] at hc2
     rw [hc, ← hc2]; decide
   exact ⟨fun h => absurd h this, fun h => by obtain ⟨h1, h2, _⟩ := h; omega⟩
 · have fin : ∀ {t n b r l : Bool}, Zdp a.Kind = some ⟨t, n, b, r, l⟩ → t = decide (a.Kind = 1) → n = decide (2 ≤ a.Kind ∧ a.Kind ≤ 4) → b = decide (a.Kind = 4) → r = decide (5 ≤ a.Kind ∧ a.Kind ≤ 7) → l = decide (8 ≤ a.Kind) → (Zdu a = some 0 ↔ Zu5 a) := by
     intro t n b r l hs h1 h2 h3 h4 h5
     rw [Zes ha hk hs]
     constructor
     · intro h
       obtain ⟨g1, g2, g3, g4, g5⟩ := Zor.1 (Option.some.inj h)
       refine ⟨by omega, by omega, by rw [← h1, ← h2, ← h3, ← h4, ← h5]; exact g1, g2, fun hk4 => g3 (by rw [h3]; simpa using hk4), g4, fun hk8 => g5 (by rw [h5]; simpa using hk8)⟩
     · rintro ⟨_, _, g1, g2, g3, g4, g5⟩
       congr 1
       exact Zor.2 ⟨by rw [h1, h2, h3, h4, h5]; exact g1, g2, fun hb => g3 (by rw [h3] at hb; simpa using hb), g4, fun hb => g5 (by rw [h5] at hb; simpa using hb)⟩
   have hk' : a.Kind = 1 ∨ a.Kind = 2 ∨ a.Kind = 3 ∨ a.Kind = 4 ∨ a.Kind = 5 ∨ a.Kind = 6 ∨ a.Kind = 7 ∨ a.Kind = 8 ∨ a.Kind = 9 := by omega
   rcases hk' with h | h | h | h | h | h | h | h | h <;> rw [h] at fin
   · exact fin Zvv rfl rfl rfl rfl rfl
   · exact fin Zwt rfl rfl rfl rfl rfl
   · exact fin Zww rfl rfl rfl rfl rfl
   · exact fin Zvu rfl rfl rfl rfl rfl
   · exact fin Zwh rfl rfl rfl rfl rfl
   · exact fin Zwn rfl rfl rfl rfl rfl
   · exact fin Zvp rfl rfl rfl rfl rfl
   · exact fin Zvl rfl rfl rfl rfl rfl
   · exact fin Zwp rfl rfl rfl rfl rfl
def I64 (x : Int) : Prop := -9223372036854775808 ≤ x ∧ x ≤ 9223372036854775807
structure RecW (r : Ze) : Prop where
 ok : Zg8 r
 num : I64 r.Num
 low : I64 r.Low
 high : I64 r.High
 kind : I64 r.Kind
 len : r.List.length ≤ 1000
structure ActW (a : Zr) : Prop where
 ok : Zpg a
 n : I64 a.N
 mkr : RecW a.Make
 xc : a.X = Zc5 a.X
 inout : (a.Kind = 10 ∨ a.Kind = 11) → 0 ≤ a.N ∧ a.N ≤ 2305843009213693952
 s64 : a.S.size ≤ 64
 s16 : ¬ (5 ≤ a.Kind ∧ a.Kind ≤ 6) → a.S.size ≤ 16
theorem Zwi {r : Ze} (h : r.List.length ≤ 1000) : Zfj r = some r := by
 unfold Zfj Zb1
 rw [if_pos (by omega)]; rfl
variable {r : Ze} {a : Zr}
variable {r : Ze} {a : Zr}
theorem Zz2 {k : Int} (h1 : 1 ≤ k) (h2 : k ≤ 21) : ∃ on, Znx k = some on ∧ Zek k = some on ∧ (k ≤ 4 → on = 0) ∧ (5 ≤ k → on ≠ 0) ∧ ((k = 10 ∨ k = 11) → on = 4) ∧ ((k = 18 ∨ k = 19 ∨ k = 20) → on = 8) ∧ (k = 21 → on = 9) ∧
   ((k = 5 ∨ k = 6) → on = 1) ∧ (k = 7 → on = 2) ∧ ((k = 8 ∨ k = 9) → on = 3) ∧ (k = 12 → on = 4) ∧ (k = 13 → on = 5) ∧ (k = 14 → on = 6) ∧ ((k = 15 ∨ k = 16 ∨ k = 17) → on = 7) := by
 have hk' : k = 1 ∨ k = 2 ∨ k = 3 ∨ k = 4 ∨ k = 5 ∨ k = 6 ∨ k = 7 ∨ k = 8 ∨ k = 9 ∨ k = 10 ∨ k = 11 ∨ k = 12 ∨ k = 13 ∨ k = 14 ∨ k = 15 ∨ k = 16 ∨ k = 17 ∨ k = 18 ∨ k = 19 ∨ k = 20 ∨ k = 21 := by omega
 rcases hk' with rfl | rfl | rfl | rfl | rfl | rfl | rfl | rfl | rfl | rfl | rfl | rfl | rfl | rfl | rfl | rfl | rfl | rfl | rfl | rfl | rfl
 all_goals first
   | exact ⟨0, by kernel_rfl, by kernel_rfl, by decide⟩
   | exact ⟨1, by kernel_rfl, by kernel_rfl, by decide⟩
   | exact ⟨2, by kernel_rfl, by kernel_rfl, by decide⟩
   | exact ⟨3, by kernel_rfl, by kernel_rfl, by decide⟩
   | exact ⟨4, by kernel_rfl, by kernel_rfl, by decide⟩
   | exact ⟨5, by kernel_rfl, by kernel_rfl, by decide⟩
   | exact ⟨6, by kernel_rfl, by kernel_rfl, by decide⟩
   | exact ⟨7, by kernel_rfl, by kernel_rfl, by decide⟩
   | exact ⟨8, by kernel_rfl, by kernel_rfl, by decide⟩
   | exact ⟨9, by kernel_rfl, by kernel_rfl, by decide⟩
structure ActIn (a : Zr) : Prop where
 ok : Zpg a
 n : I64 a.N
 mkr : RecW a.Make
theorem ActIn.w {a : Zr} (h : ActIn a) {c : Int} (hc : 1 ≤ a.Kind ∧ a.Kind ≤ 21 ∧ a.X = Zc5 a.X ∧ a.S.size ≤ 64 ∧ ((a.Kind = 10 ∨ a.Kind = 11) → 0 ≤ a.N ∧ a.N ≤ 2305843009213693952) ∧ (a.Kind = 1 → Zdu a.Make = some 0) ∧ (¬ (5 ≤ a.Kind ∧ a.Kind ≤ 6) → a.S.size ≤ 16) ∧ sEq a.Key ⟨#[]⟩ = false ∧ a.Key.size ≤ 24) : ActW a :=
 ⟨h.ok, h.n, h.mkr, hc.2.2.1, hc.2.2.2.2.1, hc.2.2.2.1, hc.2.2.2.2.2.2.1⟩
theorem Zub {x : Ze} (h : Zgi x) : x.List.length ≤ 9223372036854775807 := by
 obtain ⟨_, _, _, _, _, _, _, h8, _⟩ := h
 simp only [maxLen] at h8; omega
theorem Zqj {x : Ze} (h : Zgi x) (hl : x.List.length ≤ 100) : RecW x := by
 obtain ⟨h1, h2, h3, h4, h5, _, _, h8, h9⟩ := h
 exact ⟨⟨h5, by omega, fun e he => (h9 e he).1⟩, h2, h3, h4, h1, by omega⟩
theorem Zxp {a : Zr} (h : Zkg a) (hl : a.Make.List.length ≤ 100) : ActIn a := by
 obtain ⟨_, _, h3, h4, _, h6, _⟩ := h
 exact ⟨⟨(Zqj h6 hl).ok, h4⟩, h3, Zqj h6 hl⟩
theorem Z28 {a : Zr} (h : Zkg a) : ∃ c, Zgl a = some c ∧ (c = 0 ∨ c = 1) ∧ (c = 0 → a.Make.List.length ≤ 100) := by
 obtain ⟨c, e1, e2, e3⟩ := Zx1 (Zub h.2.2.2.2.2.1)
 unfold Zgl
 rw [e1]
 by_cases hk : (decide ((200 : Int) < (a.Key.size : Int)) || decide ((1000 : Int) < (a.S.size : Int))) = true
 · rw [hk]; exact ⟨1, rfl, .inr rfl, fun h => by cases h⟩
 · have hk' := Bool.eq_false_iff.2 hk
   rw [hk']
   rcases e2 with rfl | rfl
   · exact ⟨0, rfl, .inl rfl, fun _ => e3 rfl⟩
   · exact ⟨1, rfl, .inr rfl, fun h => by cases h⟩
theorem Zpo {α : Type} {xs : List α} {i : Nat} (h : i < xs.length) : decide ((i : Int) < (xs.length : Int)) = true := decide_eq_true (by omega)
theorem Zyy : Zgr = some true := by kernel_rfl
theorem Zq2 {l : List Zbp} (hl : l.length ≤ 40) (hw : ∀ o ∈ l, Ze8 o) : ∀ (n i : Nat), i + n = l.length → (Zde l (n + 1) (i : Int) = some (.inl true)) ∨ (Zde l (n + 1) (i : Int) = some (.inr ()) ∧ ∀ o ∈ l.drop i, ActIn o.Act)
 | 0, i, h => by
   right
   rw [Zde, if_neg (by simp; omega), List.drop_of_length_le (by omega)]
   exact ⟨rfl, fun o ho => by cases ho⟩
 | n + 1, i, h => by
   have h1 : i < l.length := by omega
   obtain ⟨c, e1, e2, e3⟩ := Z28 (hw _ (List.getElem_mem h1)).2
   rw [Zde, if_pos (by simp; omega), Ze7 h1, wr1 (by omega)]
   simp only [Option.bind_some]
   rw [e1]
   rcases e2 with rfl | rfl
   · simp only [Int.lt_irrefl, decide_false, Bool.false_eq_true, if_false, Option.bind_some]
     rcases Zq2 hl hw n (i + 1) (by omega) with h2 | ⟨h2, h3⟩
     · exact .inl h2
     · right
       refine ⟨h2, fun o ho => ?_⟩
       rw [List.drop_eq_getElem_cons h1] at ho
       rcases List.mem_cons.1 ho with rfl | ho
       · exact Zxp (hw _ (List.getElem_mem h1)).2 (e3 rfl)
       · exact h3 o ho
   · left; rfl
theorem big7 {r : Ze} {l : List Zbp} (hr : Zgi r) (hw : ∀ o ∈ l, Ze8 o) : Zfs r l = some true ∨ (Zfs r l = some false ∧ RecW r ∧ l.length ≤ 40 ∧ ∀ o ∈ l, ActIn o.Act) := by
 obtain ⟨c, e1, e2, e3⟩ := Zx1 (Zub hr)
 unfold Zfs
 rw [e1]
 simp only [Option.bind_some]
 rcases e2 with rfl | rfl
 · by_cases h : (40 : Int) < l.length
   · left; simp [h]
   · rw [if_neg (by simp; omega), show (Int.toNat ((l.length : Int) - (0 : Int)) + 1) = l.length + 1 by omega]
     have := Zq2 (l := l) (by omega) hw l.length 0 (by omega)
     rw [show ((0 : Nat) : Int) = 0 from rfl] at this
     rcases this with h1 | ⟨h1, h2⟩
     · left; rw [h1]; rfl
     · right; rw [h1]; exact ⟨rfl, Zqj hr (e3 rfl), by omega, h2⟩
 · left; rfl
theorem Ztb (k a : Int) : ∃ b, Zf9 k a = some b ∧ Zel k a = some b := by
 by_cases h : a = 7 ∨ a = 8 ∨ a = 10 ∨ a = 11 ∨ a = 13 ∨ a = 14 ∨ a = 18 ∨ a = 21
 · obtain ⟨on, o1, o2, _⟩ := Zz2 (k := a) (by omega) (by omega)
   refine ⟨on == k, ?_, ?_⟩
   · unfold Zf9 Zda
     rw [o1]
     rcases h with rfl | rfl | rfl | rfl | rfl | rfl | rfl | rfl <;> rfl
   · unfold Zel
     rw [o2]
     rcases h with rfl | rfl | rfl | rfl | rfl | rfl | rfl | rfl <;> rfl
 · simp only [not_or] at h
   obtain ⟨h1, h2, h3, h4, h5, h6, h7, h8⟩ := h
   refine ⟨false, ?_, ?_⟩
   · unfold Zf9 Zda
     simp [h1, h2, h3, h4, h5, h6, h7, h8]
   · unfold Zel
     simp [h1, h2, h3, h4, h5, h6, h7, h8]
def INFN : Nat := 18442240474082181120
theorem Z09 : Zkw (-1 : Int) = some INFN := by kernel_rfl
theorem Z0r : ∃ b, Ziw = some b ∧ b < W64 ∧ isn b := by
 refine ⟨NANB, by kernel_rfl, by decide, ?_⟩
 unfold isn rg INF NANB TOP; decide
theorem Ziz {k : Int} {b : Nat} {cap : Int} (hk : 0 ≤ k ∧ k ≤ 9) (hb : b < W64) : RecW ({ Kind := k, Num := (0 : Int), Low := (0 : Int), High := (0 : Int), Real := b, Cap := cap, Text := ByteArray.empty, List := ([] : List Zm) } : Ze) :=
 ⟨⟨hb, by show (0 : Nat) < _; decide, fun e he => by cases he⟩, show I64 0 by unfold I64; decide, show I64 0 by unfold I64; decide, show I64 0 by unfold I64; decide, show I64 k by unfold I64; omega, by show (0 : Nat) ≤ _; decide⟩
theorem Zun {r : Ze} (hr : RecW r) : ∃ s ok, Zhy r = some (s, ok) ∧ Zfz r = some (s, ok) ∧ RecW s ∧ (ok = true → Zu5 r ∧ s.List = [] ∧ ((2 ≤ r.Kind ∧ r.Kind ≤ 4) → s.Num = 0) ∧ (r.Kind = 5 → s.Real = INFN) ∧ (r.Kind = 6 → isn s.Real)) := by
 obtain ⟨c, e1, e2⟩ := Zkh hr.ok
 have h0 : RecW ({ Kind := (0 : Int), Num := (0 : Int), Low := (0 : Int), High := (0 : Int), Real := (0 : Nat), Cap := (0 : Int), Text := ByteArray.empty, List := ([] : List Zm) } : Ze) := Ziz ⟨by decide, by decide⟩ (by decide)
 unfold Zhy Zfz
 rw [e1, e2]
 simp only [Option.bind_some]
 by_cases hc : c = 0
 · subst hc
   have hg := (Zvg hr.ok).1 e1
   obtain ⟨nb, n1, n2, n3⟩ := Z0r
   have hk : r.Kind = 1 ∨ r.Kind = 2 ∨ r.Kind = 3 ∨ r.Kind = 4 ∨ r.Kind = 5 ∨ r.Kind = 6 ∨ r.Kind = 7 ∨ r.Kind = 8 ∨ r.Kind = 9 := by have := hg.1; have := hg.2.1; omega
   unfold Zf7
   rcases hk with h | h | h | h | h | h | h | h | h
   · rw [h]; exact ⟨_, false, rfl, rfl, h0, fun h => by cases h⟩
   · rw [h]; exact ⟨_, true, rfl, rfl, Ziz ⟨by decide, by decide⟩ (by decide), fun _ => ⟨hg, rfl, fun _ => rfl, fun h => by omega, fun h => by omega⟩⟩
   · rw [h]; exact ⟨_, true, rfl, rfl, Ziz ⟨by decide, by decide⟩ (by decide), fun _ => ⟨hg, rfl, fun _ => rfl, fun h => by omega, fun h => by omega⟩⟩
   · rw [h]; exact ⟨_, true, rfl, rfl, Ziz ⟨by decide, by decide⟩ (by decide), fun _ => ⟨hg, rfl, fun _ => rfl, fun h => by omega, fun h => by omega⟩⟩
   · rw [h, Z09]; exact ⟨_, true, rfl, rfl, Ziz ⟨by decide, by decide⟩ (by decide), fun _ => ⟨hg, rfl, fun h => by omega, fun _ => rfl, fun h => by omega⟩⟩
   · rw [h, n1]; exact ⟨_, true, rfl, rfl, Ziz ⟨by decide, by decide⟩ n2, fun _ => ⟨hg, rfl, fun h => by omega, fun h => by omega, fun _ => n3⟩⟩
   · rw [h]; exact ⟨_, false, rfl, rfl, h0, fun h => by cases h⟩
   · rw [h]; exact ⟨_, true, rfl, rfl, Ziz ⟨by decide, by decide⟩ (by decide), fun _ => ⟨hg, rfl, fun h => by omega, fun h => by omega, fun h => by omega⟩⟩
   · rw [h]; exact ⟨_, true, rfl, rfl, Ziz ⟨by decide, by decide⟩ (by decide), fun _ => ⟨hg, rfl, fun h => by omega, fun h => by omega, fun h => by omega⟩⟩
 · rw [if_pos (by simpa using hc), if_pos (by simp [hc])]
   exact ⟨_, false, rfl, rfl, h0, fun h => by cases h⟩
theorem Zqt {e : Zs} {w : Zi} {a : Zr} (h : e.r = w.R) (hl : e.r.List.length ≤ 1000) (x : Zx) : ∀ (n i : Nat), i + n = e.r.List.length → (Zc6 e a (n + 1) x (i : Int) = some (.inl ({ up := (0 : Int), down := (0 : Int) } : Zx)) ∧ Zcd w a (n + 1) (i : Int) = some (.inl ((0 : Int), (0 : Int)))) ∨ (Zc6 e a (n + 1) x (i : Int) = some (.inr x) ∧ Zcd w a (n + 1) (i : Int) = some (.inr ()))
 | 0, i, hi => by
   right
   exact ⟨by rw [Zc6, if_neg (by simp; omega)], by rw [Zcd, ← h, if_neg (by simp; omega)]⟩
 | n + 1, i, hi => by
   have h1 : i < e.r.List.length := by omega
   rw [Zc6, Zpo h1, if_pos rfl, Ze7 h1, Zcd, ← h, Zpo h1, if_pos rfl, Ze7 h1]
   simp only [Option.bind_some]
   by_cases hc : sEq e.r.List[i].Name a.S = true
   · rw [if_pos hc, if_pos hc]; exact .inl ⟨rfl, rfl⟩
   · rw [if_neg hc, if_neg hc, wr1 (by omega)]
     exact Zqt h hl x n (i + 1) (by omega)
theorem Zwk {e : Zs} {w : Zi} {a : Zr} (h : e.r = w.R) (hl : e.r.List.length ≤ 1000) (hn : I64 a.N) : ∃ u d, Ze2 e a = some ⟨u, d⟩ ∧ Zdv w a = some (u, d) := by
 unfold I64 at hn
 unfold Ze2 Zdv
 by_cases h8 : a.Kind = 8
 · rw [if_pos (by simp [h8])]
   by_cases h0 : a.N < 0
   · rw [if_pos (by simp [h0]), if_pos (by simp [h8, h0])]
     refine ⟨_, _, rfl, ?_⟩
     have e1 : IntKind.i64.wrap (a.N + 1) = a.N + 1 := wr (by omega) (by omega)
     have e2 : IntKind.i64.wrap (0 - (a.N + 1)) = 0 - (a.N + 1) := wr (by omega) (by omega)
     rw [e1, e2, Zml, Zml, Zml, Zml]
     congr 2
     omega
   · rw [if_neg (by simp; omega), if_neg (show ¬ ((a.Kind == (8 : Int)) && (decide (a.N < (0 : Int)))) = true by simp [h0]), if_pos (show ((a.Kind == (8 : Int)) || (a.Kind == (10 : Int))) = true by simp [h8])]
     exact ⟨_, _, rfl, rfl⟩
 · rw [if_neg (show ¬ (a.Kind == (8 : Int)) = true by simpa using h8), if_neg (show ¬ ((a.Kind == (8 : Int)) && (decide (a.N < (0 : Int)))) = true by simp [h8])]
   by_cases h10 : a.Kind = 10
   · rw [if_pos (show (a.Kind == (10 : Int)) = true by simp [h10]), if_pos (show ((a.Kind == (8 : Int)) || (a.Kind == (10 : Int))) = true by simp [h10])]; exact ⟨_, _, rfl, rfl⟩
   · rw [if_neg (show ¬ (a.Kind == (10 : Int)) = true by simpa using h10), if_neg (show ¬ ((a.Kind == (8 : Int)) || (a.Kind == (10 : Int))) = true by simp [h8, h10])]
     by_cases h11 : a.Kind = 11
     · have hc : (a.Kind == (11 : Int)) = true := by simp [h11]
       rw [if_pos hc, if_pos hc]; exact ⟨_, _, rfl, rfl⟩
     · have hc : ¬ (a.Kind == (11 : Int)) = true := by simpa using h11
       rw [if_neg hc, if_neg hc]
       by_cases h18 : a.Kind = 18
       · have hc : (a.Kind == (18 : Int)) = true := by simp [h18]
         rw [if_pos hc, if_pos hc]
         have := Zqt (a := a) h hl default e.r.List.length 0 (by omega)
         rw [show ((0 : Nat) : Int) = 0 from rfl] at this
         rw [show Int.toNat ((e.r.List.length : Int) - (0 : Int)) = e.r.List.length by omega, ← h, show Int.toNat ((e.r.List.length : Int) - (0 : Int)) = e.r.List.length by omega]
         rcases this with ⟨h1, h2⟩ | ⟨h1, h2⟩
         · rw [h1, h2]; exact ⟨_, _, rfl, rfl⟩
         · rw [h1, h2]; exact ⟨_, _, rfl, rfl⟩
       · have hc : ¬ (a.Kind == (18 : Int)) = true := by simpa using h18
         rw [if_neg hc, if_neg hc]; exact ⟨_, _, rfl, rfl⟩
theorem Zv3 {r : Ze} (hr : RecW r) : ∃ u d b, Zi3 r = some (⟨u, d⟩, b) ∧ Zga r = some (u, d) := by
 have hn := hr.num
 unfold I64 at hn
 unfold Zi3 Zga
 by_cases h3 : r.Kind = 3
 · have hc : (r.Kind == (3 : Int)) = true := by simp [h3]
   rw [if_pos hc, if_pos hc]
   refine ⟨_, _, _, rfl, ?_⟩
   by_cases h0 : r.Num < 0
   · rw [if_pos (by simp [h0])]
     have e1 : IntKind.i64.wrap (r.Num + 1) = r.Num + 1 := wr (by omega) (by omega)
     have e2 : IntKind.i64.wrap (0 - (r.Num + 1)) = 0 - (r.Num + 1) := wr (by omega) (by omega)
     rw [e1, e2]
     simp only [Zml]
     congr 2 <;> omega
   · rw [if_neg (by simp; omega)]
     simp only [Zml]
     congr 2 <;> omega
 · have hc : ¬ (r.Kind == (3 : Int)) = true := by simpa using h3
   rw [if_neg hc, if_neg hc]
   by_cases h4 : r.Kind = 4
   · have hc : (r.Kind == (4 : Int)) = true := by simp [h4]
     rw [if_pos hc, if_pos hc]; exact ⟨_, _, _, rfl, rfl⟩
   · have hc : ¬ (r.Kind == (4 : Int)) = true := by simpa using h4
     rw [if_neg hc, if_neg hc]
     by_cases h8 : r.Kind = 8
     · have hc : (r.Kind == (8 : Int)) = true := by simp [h8]
       rw [if_pos hc, if_pos hc]; exact ⟨_, _, _, rfl, rfl⟩
     · have hc : ¬ (r.Kind == (8 : Int)) = true := by simpa using h8
       rw [if_neg hc, if_neg hc]; exact ⟨_, _, _, rfl, rfl⟩
def pv (all n i : Int) : Int := if decide ((IntKind.u64.wrap i) < (Int.tmod all (IntKind.u64.wrap n))) = true then IntKind.u64.wrap ((IntKind.u64.wrap (Int.tdiv all (IntKind.u64.wrap n))) + (1 : Int)) else IntKind.u64.wrap (Int.tdiv all (IntKind.u64.wrap n))
theorem wn {n : Int} (hn : 1 ≤ n ∧ n ≤ 8) : IntKind.u64.wrap n ≠ (0 : Int) := by rw [Zml]; omega
theorem Ztz {all n i : Int} (hn : 1 ≤ n ∧ n ≤ 8) : Zih all i n = some (pv all n i) := by
 unfold Zih Zhr pv
 rw [if_pos (wn hn), if_pos (wn hn)]
 split <;> rfl
theorem Zpv {all n : Int} (hn : 1 ≤ n ∧ n ≤ 8) : ∀ (m i : Nat) (acc : List Int), (i : Int) + m = n → acc = (List.range i).map (fun k : Nat => pv all n k) → Zcq all n (m + 1) acc (i : Int) = some ((List.range n.toNat).map (fun k : Nat => pv all n k))
 | 0, i, acc, h, ha => by
   rw [Zcq, if_neg (by simp; omega), ha, show n.toNat = i by omega]
 | m + 1, i, acc, h, ha => by
   have hl : acc.length = i := by rw [ha]; simp
   have go : ∀ v, v = pv all n i → Zeb acc (i : Int) (Zcq all n (m + 1)) v = some ((List.range n.toNat).map (fun k : Nat => pv all n k)) := fun v hv => by
     unfold Zeb
     rw [if_pos (by simp only [List.length_singleton]; omega), wr1 (by omega)]
     exact Zpv hn m (i + 1) _ (by omega) (by rw [ha, hv, List.range_succ, List.map_append]; rfl)
   rw [Zcq, if_pos (by simp; omega), if_pos (wn hn), if_pos (wn hn)]
   by_cases hc : decide ((IntKind.u64.wrap (i : Int)) < (Int.tmod all (IntKind.u64.wrap n))) = true
   · rw [if_pos hc]; exact go _ (by unfold pv; rw [if_pos hc])
   · rw [if_neg hc]; exact go _ (by unfold pv; rw [if_neg hc])
theorem Zsh {all n : Int} (hn : 1 ≤ n ∧ n ≤ 8) : Ze0 all n = some ((List.range n.toNat).map (fun k : Nat => pv all n k)) := by
 unfold Ze0
 have := Zpv (all := all) hn n.toNat 0 [] (by omega) rfl
 rw [show ((0 : Nat) : Int) = 0 from rfl] at this
 rw [show Int.toNat (n - (0 : Int)) = n.toNat by omega, this]
 rfl
theorem Zqs {n : Int} {r : Ze} {q : Zx × Bool} (hn : 1 ≤ n ∧ n ≤ 8) : ∀ (m i : Nat) (acc : List Zx), (i : Int) + m = n → acc = (List.range i).map (fun k : Nat => (⟨pv q.1.up n k, pv q.1.down n k⟩ : Zx)) → Zfq n q (m + 1) ({ r := r, by_ := acc } : Zs) (i : Int) = some ({ r := r, by_ := (List.range n.toNat).map (fun k : Nat => (⟨pv q.1.up n k, pv q.1.down n k⟩ : Zx)) } : Zs)
 | 0, i, acc, h, ha => by
   rw [Zfq, if_neg (by simp; omega), ha, show n.toNat = i by omega]
 | m + 1, i, acc, h, ha => by
   have hl : acc.length = i := by rw [ha]; simp
   rw [Zfq, if_pos (by simp; omega), Ztz hn, Ztz hn]
   simp only [Option.bind_some]
   rw [if_pos (by simp only [List.length_singleton]; omega), wr1 (by omega)]
   exact Zqs hn m (i + 1) _ (by omega) (by rw [ha, List.range_succ, List.map_append]; rfl)
structure Er (e : Zs) (w : Zi) : Prop where
 r : e.r = w.R
 up : w.Up = e.by_.map (fun x => x.up)
 down : w.Down = e.by_.map (fun x => x.down)
 ok : RecW e.r
theorem Zxd {r : Ze} {n : Int} (hr : RecW r) : (∃ c, c ≠ 0 ∧ Zie r n = some (none, c) ∧ Zfu r n = some (none, c)) ∨ (∃ e w, Zie r n = some (some e, 0) ∧ Zfu r n = some (some w, 0) ∧ Er e w ∧ (e.by_.length : Int) = n ∧ 1 ≤ n ∧ n ≤ 8) := by
 unfold Zie Zfu
 by_cases hn : n < 1 ∨ 8 < n
 · have hc : ((decide (n < (1 : Int))) || (decide ((8 : Int) < n))) = true := by simpa using hn
   rw [if_pos hc, if_pos hc]
   exact .inl ⟨1, by decide, rfl, rfl⟩
 · have hc : ¬ ((decide (n < (1 : Int))) || (decide ((8 : Int) < n))) = true := by simpa using hn
   have hn : 1 ≤ n ∧ n ≤ 8 := by omega
   rw [if_neg hc, if_neg hc]
   obtain ⟨c, e1, e2⟩ := Zkh hr.ok
   rw [e1, e2]
   simp only [Option.bind_some]
   by_cases h0 : c = 0
   · have hc2 : ¬ (c != (0 : Int)) = true := by simpa using h0
     rw [if_neg hc2, if_neg hc2]
     obtain ⟨s, ok, s1, s2, _, _⟩ := Zun hr
     rw [s1, s2]
     simp only [Option.bind_some]
     cases ok with
     | false => exact .inl ⟨5, by decide, rfl, rfl⟩
     | true =>
       obtain ⟨u, d, b, r1, r2⟩ := Zv3 hr
       rw [Zwi hr.len, r1, r2]
       simp only [Option.bind_some, Bool.not_true, Bool.false_eq_true, if_false]
       rw [Zsh hn, Zsh hn]
       simp only [Option.bind_some]
       have := Zqs (r := r) (q := (⟨u, d⟩, b)) hn n.toNat 0 [] (by omega) rfl
       rw [show ((0 : Nat) : Int) = 0 from rfl] at this
       rw [show Int.toNat (n - (0 : Int)) = n.toNat by omega, this]
       refine .inr ⟨_, _, rfl, rfl, ⟨rfl, ?_, ?_, hr⟩, ?_, hn.1, hn.2⟩
       · simp [List.map_map, Function.comp_def]
       · simp [List.map_map, Function.comp_def]
       · simp; omega
   · have hc2 : (c != (0 : Int)) = true := by simpa using h0
     rw [if_pos hc2, if_pos hc2]
     exact .inl ⟨c, h0, rfl, rfl⟩
theorem Zq1 {e : Zs} {w : Zi} (hE : Er e w) {l : List Zr} (hl : l.length ≤ 1000) (ha : ∀ a ∈ l, ActIn a) : ∀ (n i : Nat) (now : Zx), i + n = l.length →
   (∃ c, Zc4 l (n + 1) e now (i : Int) = some (.inl (c, e)) ∧ Zcc l (n + 1) w now.up now.down (i : Int) = some (.inl (c, w))) ∨ (∃ now', Zc4 l (n + 1) e now (i : Int) = some (.inr (e, now')) ∧ Zcc l (n + 1) w now.up now.down (i : Int) = some (.inr (w, now'.up, now'.down)))
 | 0, i, now, hi => .inr ⟨now, by rw [Zc4, if_neg (by simp; omega)], by rw [Zcc, if_neg (by simp; omega)]⟩
 | n + 1, i, now, hi => by
   have h1 : i < l.length := by omega
   have hA := ha _ (List.getElem_mem h1)
   rw [Zc4, Zpo h1, if_pos rfl, Ze7 h1, Zcc, Zpo h1, if_pos rfl, Ze7 h1]
   simp only [Option.bind_some]
   obtain ⟨c, e1, e2, _⟩ := Zvj hA.ok
   rw [e1, e2]
   simp only [Option.bind_some]
   by_cases hc : (c != (0 : Int)) = true
   · rw [if_pos hc, if_pos hc]; exact .inl ⟨c, rfl, rfl⟩
   · rw [if_neg hc, if_neg hc, ← hE.r]
     obtain ⟨b, s1, s2⟩ := Ztb e.r.Kind l[i].Kind
     rw [s1, s2]
     simp only [Option.bind_some]
     cases b with
     | false => exact .inl ⟨5, rfl, rfl⟩
     | true =>
       obtain ⟨u, d, c1, c2⟩ := Zwk (a := l[i]) hE.r hE.ok.len hA.n
       rw [c1, c2]
       simp only [Option.bind_some, Bool.not_true, Bool.false_eq_true, if_false]
       by_cases hu : now.up < u
       · rw [decide_eq_true hu]
         simp only [Bool.true_and, if_true, gd_t, Option.bind_some]
         by_cases h18 : (l[i].Kind == (18 : Int)) = true
         · rw [if_pos h18, if_pos h18]; exact .inl ⟨8, rfl, rfl⟩
         · rw [if_neg h18, if_neg h18]; exact .inl ⟨9, rfl, rfl⟩
       · rw [decide_eq_false hu]
         simp only [Bool.false_and, Bool.false_eq_true, if_false, gd_f, Option.bind_some]
         by_cases hd : now.down < d
         · rw [decide_eq_true hd]; exact .inl ⟨10, rfl, rfl⟩
         · rw [decide_eq_false hd]
           simp only [Bool.false_eq_true, if_false]
           rw [wr1 (by omega)]
           exact Zq1 hE hl ha n (i + 1) ⟨IntKind.u64.wrap (now.up - u), IntKind.u64.wrap (now.down - d)⟩ (by omega)
theorem Zvz {e : Zs} {w : Zi} (hE : Er e w) (hb : e.by_.length ≤ 8) {l : List Zr} (hl : l.length ≤ 1000) (ha : ∀ a ∈ l, ActIn a) (k : Int) : ∃ e' w' c, Ze1 e k l = some (e', c) ∧ Ze4 w k l = some (w', c) ∧ Er e' w' ∧ e'.by_.length = e.by_.length := by
 have hul : w.Up.length = e.by_.length := by rw [hE.up, List.length_map]
 have hdl : w.Down.length = e.by_.length := by rw [hE.down, List.length_map]
 unfold Ze1 Zgg Ze4 Zeo
 rw [hul]
 by_cases hk : k < 0 ∨ (e.by_.length : Int) ≤ k
 · have hc : ((decide (k < (0 : Int))) || (decide ((e.by_.length : Int) ≤ k))) = true := by simpa using hk
   rw [if_pos hc, if_pos hc]
   exact ⟨e, w, 1, rfl, rfl, hE, rfl⟩
 · have hc : ¬ ((decide (k < (0 : Int))) || (decide ((e.by_.length : Int) ≤ k))) = true := by simpa using hk
   rw [if_neg hc, if_neg hc]
   obtain ⟨m, rfl⟩ := Int.eq_ofNat_of_zero_le (show 0 ≤ k by omega)
   have hm : m < e.by_.length := by omega
   have iU : idx w.Up (m : Int) = some (e.by_[m]).up := by rw [idxn, hE.up, List.getElem?_map, List.getElem?_eq_getElem hm]; rfl
   have iD : idx w.Down (m : Int) = some (e.by_[m]).down := by rw [idxn, hE.down, List.getElem?_map, List.getElem?_eq_getElem hm]; rfl
   rw [Ze7 hm, iU, iD]
   simp only [Option.bind_some]
   have := Zq1 hE hl ha l.length 0 e.by_[m] (by omega)
   rw [show ((0 : Nat) : Int) = 0 from rfl] at this
   rw [show Int.toNat ((l.length : Int) - (0 : Int)) = l.length by omega]
   rcases this with ⟨c, h1, h2⟩ | ⟨now, h1, h2⟩
   · rw [h1, h2]; exact ⟨e, w, c, rfl, rfl, hE, rfl⟩
   · rw [h1, h2]
     simp only [Option.bind_some]
     rw [Ze7 hm, iU]
     simp only [Option.bind_some]
     rw [iD]
     simp only [Option.bind_some, Int.toNat_natCast]
     exact ⟨_, _, 0, rfl, rfl, ⟨hE.r, by simp [hE.up, List.map_set], by simp [hE.down, List.map_set], hE.ok⟩, by simp⟩
theorem Zsu {e : Zs} {k : Int} (h : k < 0 ∨ (e.by_.length : Int) ≤ k) : Zch e k = some (0, 0) := by
 unfold Zch
 rw [if_pos (by simpa using h)]
theorem Zt2 {e : Zs} {m : Nat} (h : m < e.by_.length) : Zch e (m : Int) = some ((e.by_[m]).up, (e.by_[m]).down) := by
 unfold Zch
 rw [if_neg (by simp; omega), Ze7 h]
 rfl
theorem Zsi {n : Int} {p : Zs × Int} {q : Zi × Int} (hE : Er p.1 q.1) (hn : (p.1.by_.length : Int) = n) (h8 : n ≤ 8) : ∀ (m j : Nat), (j : Int) + m = n + 2 → Zb2 n p q (m + 1) ((j : Int) - 1) = some (.inr ())
 | 0, j, h => by rw [Zb2, if_neg (by simp; omega)]
 | m + 1, j, h => by
   have next : Zdj ((j : Int) - 1) (Zb2 n p q (m + 1)) = some (.inr ()) := by
     unfold Zdj
     have := Zsi hE hn h8 m (j + 1) (by omega)
     rw [show (((j + 1 : Nat) : Int) - 1) = (j : Int) by omega] at this
     rw [show ((j : Int) - 1 + 1) = (j : Int) by omega, wr (by omega) (by omega)]
     exact this
   rw [Zb2, if_pos (by simp; omega)]
   by_cases ho : (j : Int) - 1 < 0 ∨ (p.1.by_.length : Int) ≤ (j : Int) - 1
   · rw [Zsu ho]
     simp only [Option.bind_some]
     rw [if_pos (by simp; omega), if_neg (by simp)]
     exact next
   · obtain ⟨k, rfl⟩ : ∃ k, j = k + 1 := ⟨j - 1, by omega⟩
     have hk : k < p.1.by_.length := by omega
     rw [show (((k + 1 : Nat) : Int) - 1) = (k : Int) by omega] at next ⊢
     have iU : idx q.1.Up (k : Int) = some (p.1.by_[k]).up := by rw [idxn, hE.up, List.getElem?_map, List.getElem?_eq_getElem hk]; rfl
     have iD : idx q.1.Down (k : Int) = some (p.1.by_[k]).down := by rw [idxn, hE.down, List.getElem?_map, List.getElem?_eq_getElem hk]; rfl
     rw [Zt2 hk]
     simp only [Option.bind_some]
     rw [if_neg (by simp; omega), iU]
     simp only [Option.bind_some, bne_self_eq_false, Bool.not_false, gd_t, Bool.false_or]
     rw [iD]
     simp only [Option.bind_some, bne_self_eq_false, Bool.or_self, Bool.false_eq_true, if_false]
     exact next
theorem Zo5 {n : Int} {l : List Zbp} (hl : l.length ≤ 40) (ha : ∀ d ∈ l, ActIn d.Act) (h8 : 1 ≤ n ∧ n ≤ 8) : ∀ (m i : Nat) (e : Zs) (w : Zi) (acc : List Zr), i + m = l.length → Er e w → (e.by_.length : Int) = n → acc.length ≤ i → (∀ a ∈ acc, ActIn a) → Zb5 n l (m + 1) (some e) (some w) acc (i : Int) = some (.inr ())
 | 0, i, e, w, acc, h, hE, hn, hc, hA => by rw [Zb5, if_neg (by simp; omega)]
 | m + 1, i, e, w, acc, h, hE, hn, hc, hA => by
   have h1 : i < l.length := by omega
   have hA' : ∀ a ∈ acc ++ [(l[i]).Act], ActIn a := fun a h => by
     rcases List.mem_append.1 h with h | h
     · exact hA a h
     · rw [List.mem_singleton.1 h]; exact ha _ (List.getElem_mem h1)
   have hlen : (acc ++ [(l[i]).Act]).length = acc.length + 1 := by simp
   rw [Zb5, Zpo h1, if_pos rfl, Ze7 h1]
   simp only [Option.bind_some]
   rw [if_pos (by simp only [List.length_singleton]; omega)]
   split
   · unfold Zdi
     rw [wr1 (by omega)]
     exact Zo5 hl ha h8 m (i + 1) e w _ (by omega) hE hn (by omega) hA'
   · obtain ⟨e', w', c, d1, d2, hE', hn'⟩ := Zvz hE (by omega) (l := acc ++ [(l[i]).Act]) (by omega) hA' (l[i]).Worker
     have hcl : Zfr e = some e := by
       unfold Zfr Zdm
       rw [if_pos (by omega)]; rfl
     obtain ⟨p, hp⟩ : ∃ p, Zch e (l[i]).Worker = some p := by
       by_cases ho : (l[i]).Worker < 0 ∨ (e.by_.length : Int) ≤ (l[i]).Worker
       · exact ⟨_, Zsu ho⟩
       · obtain ⟨k, hk⟩ := Int.eq_ofNat_of_zero_le (show 0 ≤ (l[i]).Worker by omega)
         rw [hk]; exact ⟨_, Zt2 (by omega)⟩
     rw [hcl]
     simp only [Option.bind_some]
     rw [hp]
     simp only [Option.bind_some]
     rw [d1]
     simp only [Option.bind_some]
     rw [d2]
     simp only [Option.bind_some, bne_self_eq_false, Bool.or_self, Bool.false_eq_true, if_false]
     have := Zsi (p := (e', c)) (q := (w', c)) hE' (by show (e'.by_.length : Int) = n; omega) h8.2 (n + 2).toNat 0 (by omega)
     rw [show (((0 : Nat) : Int) - 1) = -1 from rfl] at this
     rw [show Int.toNat (n + 1 - (-1 : Int)) = (n + 2).toNat by omega, this]
     simp only [Option.bind_some]
     unfold Zdi
     rw [wr1 (by omega)]
     exact Zo5 hl ha h8 m (i + 1) e' w' [] (by omega) hE' (by omega) (by simp) (fun _ h => by cases h)
theorem ShareDraws_true (a0 : Ze) (a1 : Int) (a2 : List Zbp) (w0 : Zgi a0) (w1 : (IntKind.i64).min ≤ a1 ∧ a1 ≤ (IntKind.i64).max) (w2 : a2.length ≤ maxLen ∧ ∀ e0 ∈ a2, Ze8 e0) : Zfg a0 a1 a2 = some true := by
 unfold Zfg
 rw [Zyy]
 simp only [Option.bind_some, Bool.not_true, Bool.false_eq_true, if_false]
 rcases big7 w0 w2.2 with hb | ⟨hb, hr, hl, hi⟩
 · rw [hb]; rfl
 · rw [hb]
   simp only [Option.bind_some, Bool.false_eq_true, if_false]
   rcases Zxd (n := a1) hr with ⟨c, hc, e1, e2⟩ | ⟨e, w, e1, e2, hE, hn, h1, h8⟩
   · rw [e1, e2]
     have : (c != (0 : Int)) = true := by simpa using hc
     simp [this, hc]
   · rw [e1, e2]
     simp only [Option.bind_some]
     rw [if_neg (by simp), if_neg (by simp)]
     have := Zo5 hl hi ⟨h1, h8⟩ a2.length 0 e w [] (by omega) hE hn (by simp) (fun _ h => by cases h)
     rw [show ((0 : Nat) : Int) = 0 from rfl] at this
     rw [show Int.toNat ((a2.length : Int) - (0 : Int)) = a2.length by omega, this]
     rfl
end Go.CL
namespace Go.CL
open Go Go.RowKit Go.Proofs Go.ChangeShapes Go.WideShapes Go.ChangeAt
theorem Zxf : ownKnob Tryd.prog.godebug = none := by kernel_rfl
theorem Znq : laidOutB Tryd.prog = true := by kernel_rfl
theorem op_3 : Opn Tryd.prog 3 (Kd.int .i64) (fun x => ((IntKind.i64).min ≤ x ∧ x ≤ (IntKind.i64).max)) := Zuc Tryd.underlying3 (by kernel_rfl)
theorem op_2 : Opn Tryd.prog 2 (Kd.int .i64) (fun x => ((IntKind.i64).min ≤ x ∧ x ≤ (IntKind.i64).max)) := Zuc Tryd.underlying2 (by kernel_rfl)
theorem Zu6 : Opn Tryd.prog 22 Kd.flt (fun x => (x < 2 ^ 64)) := Zy9 Tryd.underlying22 (by kernel_rfl)
theorem op_9 : Opn Tryd.prog 9 Kd.str (fun x => (x.size ≤ maxLen)) := Zz4 Tryd.underlying9 (by kernel_rfl)
theorem Z2w : Opn Tryd.prog 75 Zt Zll := ⟨by kernel_rfl, fun hg h => by
 obtain ⟨hl, n, hf⟩ := Zkc Tryd.underlying75 h
 obtain ⟨y0, h0⟩ := hf 0 _ rfl
 obtain ⟨v0, k0, w0⟩ := Zu6.op hg h0
 obtain ⟨y1, h1⟩ := hf 1 _ rfl
 obtain ⟨v1, k1, w1⟩ := op_9.op hg h1
 refine ⟨⟨v0, v1⟩, ⟨hl.trans (by kernel_rfl), (List.forall_mem_cons.2 ⟨k0, (List.forall_mem_cons.2 ⟨k1, (fun _ h => by cases h)⟩)⟩)⟩, w0, w1⟩, fun h => Zlj Tryd.underlying75 h⟩
theorem Z3c : Opn Tryd.prog 23 Zt.sl (fun x => (x.length ≤ maxLen ∧ ∀ e0 ∈ x, (Zll e0))) := Zv9 Tryd.underlying23 (by kernel_rfl) Z2w (by decide)
theorem Zyt : Opn Tryd.prog 25 Zg Zgi := ⟨by kernel_rfl, fun hg h => by
 obtain ⟨hl, n, hf⟩ := Zkc Tryd.underlying25 h
 obtain ⟨y0, h0⟩ := hf 0 _ rfl
 obtain ⟨v0, k0, w0⟩ := op_3.op hg h0
 obtain ⟨y1, h1⟩ := hf 1 _ rfl
 obtain ⟨v1, k1, w1⟩ := op_2.op hg h1
 obtain ⟨y2, h2⟩ := hf 2 _ rfl
 obtain ⟨v2, k2, w2⟩ := op_2.op hg h2
 obtain ⟨y3, h3⟩ := hf 3 _ rfl
 obtain ⟨v3, k3, w3⟩ := op_2.op hg h3
 obtain ⟨y4, h4⟩ := hf 4 _ rfl
 obtain ⟨v4, k4, w4⟩ := Zu6.op hg h4
 obtain ⟨y5, h5⟩ := hf 5 _ rfl
 obtain ⟨v5, k5, w5⟩ := op_3.op hg h5
 obtain ⟨y6, h6⟩ := hf 6 _ rfl
 obtain ⟨v6, k6, w6⟩ := op_9.op hg h6
 obtain ⟨y7, h7⟩ := hf 7 _ rfl
 obtain ⟨v7, k7, w7⟩ := Z3c.op hg h7
 refine ⟨⟨v0, v1, v2, v3, v4, v5, v6, v7⟩, ⟨hl.trans (by kernel_rfl), (List.forall_mem_cons.2 ⟨k0, (List.forall_mem_cons.2 ⟨k1, (List.forall_mem_cons.2 ⟨k2, (List.forall_mem_cons.2 ⟨k3, (List.forall_mem_cons.2 ⟨k4, (List.forall_mem_cons.2 ⟨k5, (List.forall_mem_cons.2 ⟨k6, (List.forall_mem_cons.2 ⟨k7, (fun _ h => by cases h)⟩)⟩)⟩)⟩)⟩)⟩)⟩)⟩)⟩, w0, w1, w2, w3, w4, w5, w6, w7⟩, fun h => Zlj Tryd.underlying25 h⟩
theorem op_4 : Opn Tryd.prog 4 Kd.bool (fun x => True) := Zxv Tryd.underlying4 (by kernel_rfl)
theorem Z27 : Opn Tryd.prog 37 Zy Zkg := ⟨by kernel_rfl, fun hg h => by
 obtain ⟨hl, n, hf⟩ := Zkc Tryd.underlying37 h
 obtain ⟨y0, h0⟩ := hf 0 _ rfl
 obtain ⟨v0, k0, w0⟩ := op_3.op hg h0
 obtain ⟨y1, h1⟩ := hf 1 _ rfl
 obtain ⟨v1, k1, w1⟩ := op_9.op hg h1
 obtain ⟨y2, h2⟩ := hf 2 _ rfl
 obtain ⟨v2, k2, w2⟩ := op_2.op hg h2
 obtain ⟨y3, h3⟩ := hf 3 _ rfl
 obtain ⟨v3, k3, w3⟩ := Zu6.op hg h3
 obtain ⟨y4, h4⟩ := hf 4 _ rfl
 obtain ⟨v4, k4, w4⟩ := op_9.op hg h4
 obtain ⟨y5, h5⟩ := hf 5 _ rfl
 obtain ⟨v5, k5, w5⟩ := Zyt.op hg h5
 obtain ⟨y6, h6⟩ := hf 6 _ rfl
 obtain ⟨v6, k6, w6⟩ := op_4.op hg h6
 refine ⟨⟨v0, v1, v2, v3, v4, v5, v6⟩, ⟨hl.trans (by kernel_rfl), (List.forall_mem_cons.2 ⟨k0, (List.forall_mem_cons.2 ⟨k1, (List.forall_mem_cons.2 ⟨k2, (List.forall_mem_cons.2 ⟨k3, (List.forall_mem_cons.2 ⟨k4, (List.forall_mem_cons.2 ⟨k5, (List.forall_mem_cons.2 ⟨k6, (fun _ h => by cases h)⟩)⟩)⟩)⟩)⟩)⟩)⟩)⟩, w0, w1, w2, w3, w4, w5, w6⟩, fun h => Zlj Tryd.underlying37 h⟩
theorem Z1t : Opn Tryd.prog 39 Zbw Ze8 := ⟨by kernel_rfl, fun hg h => by
 obtain ⟨hl, n, hf⟩ := Zkc Tryd.underlying39 h
 obtain ⟨y0, h0⟩ := hf 0 _ rfl
 obtain ⟨v0, k0, w0⟩ := op_3.op hg h0
 obtain ⟨y1, h1⟩ := hf 1 _ rfl
 obtain ⟨v1, k1, w1⟩ := Z27.op hg h1
 refine ⟨⟨v0, v1⟩, ⟨hl.trans (by kernel_rfl), (List.forall_mem_cons.2 ⟨k0, (List.forall_mem_cons.2 ⟨k1, (fun _ h => by cases h)⟩)⟩)⟩, w0, w1⟩, fun h => Zlj Tryd.underlying39 h⟩
theorem Z2o : Opn Tryd.prog 40 Zbw.sl (fun x => (x.length ≤ maxLen ∧ ∀ e0 ∈ x, (Ze8 e0))) := Zv9 Tryd.underlying40 (by kernel_rfl) Z1t (by decide)
theorem Zyi : Det Tryd.prog 9 := Zy8 Tryd.underlying9
theorem Z17 : Det Tryd.prog 3 := Zy6 Tryd.underlying3
theorem Zzg : Det Tryd.prog 108 := Zul Tryd.underlying108 (fun i f h => match i, f, h with
 | 0, _, h => by obtain rfl := Option.some.inj h; exact Zyi
 | 1, _, h => by obtain rfl := Option.some.inj h; exact Z17
 | 2, _, h => by obtain rfl := Option.some.inj h; exact Zyi
 | _ + 3, _, h => by cases h) (by kernel_rfl)
theorem Zz1 : Det Tryd.prog 127 := Zzl Tryd.underlying127 Zzg (by kernel_rfl)
theorem ShareDraws_met (os : Os) (args : Array Value) : laidMetH Tryd.prog [("moiety/act.kinds", Go.Proofs.YtbiobpmabomjfaaDoor.Rows.laid_moiety_act_kinds)] ((World.doorLaid Tryd.prog 400 os).forCall (fun _ _ => 0) ⟨#[], args, []⟩).memory :=
 laidMetH_of_parts3 (fuel := 8) (laidMet_of_run' 8 (by kernel_rfl) (by kernel_rfl)) (by kernel_rfl) (by kernel_rfl)
theorem ShareDraws_gl {W : World} (h : laidMetH Tryd.prog [("moiety/act.kinds", Go.Proofs.YtbiobpmabomjfaaDoor.Rows.laid_moiety_act_kinds)] W) : GLok W (fun b _ => b < W.heap.size) := by
 have g0 := Zw2 (P := Tryd.prog) (nm := "moiety/act.kinds") (d := Go.Proofs.YtbiobpmabomjfaaDoor.Rows.laid_moiety_act_kinds) (g := 1) (t := 127) (W := W) (w0 := W) (cells := [.string ⟨#[]⟩, .int .i64 (0), .string ⟨#[]⟩, .string ⟨#[110, 101, 119]⟩, .int .i64 (0), .string ⟨#[109]⟩, .string ⟨#[100, 114, 111, 112]⟩, .int .i64 (0), .string ⟨#[]⟩, .string ⟨#[105, 115]⟩, .int .i64 (0), .string ⟨#[]⟩, .string ⟨#[108, 111, 111, 107]⟩, .int .i64 (0), .string ⟨#[]⟩, .string ⟨#[112, 117, 116]⟩, .int .i64 (1), .string ⟨#[115]⟩, .string ⟨#[115, 119, 97, 112]⟩, .int .i64 (1), .string ⟨#[115]⟩, .string ⟨#[97, 100, 100]⟩, .int .i64 (2), .string ⟨#[110]⟩, .string ⟨#[112, 108, 117, 115]⟩, .int .i64 (3), .string ⟨#[110]⟩, .string ⟨#[114, 101, 97, 99, 104]⟩, .int .i64 (3), .string ⟨#[110]⟩, .string ⟨#[105, 110]⟩, .int .i64 (4), .string ⟨#[110]⟩, .string ⟨#[111, 117, 116]⟩, .int .i64 (4), .string ⟨#[110]⟩, .string ⟨#[101, 110, 111, 117, 103, 104]⟩, .int .i64 (4), .string ⟨#[110]⟩, .string ⟨#[114, 97, 105, 115, 101]⟩, .int .i64 (5), .string ⟨#[120]⟩, .string ⟨#[108, 111, 119, 101, 114]⟩, .int .i64 (6), .string ⟨#[120]⟩, .string ⟨#[115, 104, 105, 102, 116]⟩, .int .i64 (7), .string ⟨#[120]⟩, .string ⟨#[115, 99, 97, 108, 101]⟩, .int .i64 (7), .string ⟨#[120]⟩, .string ⟨#[102, 105, 120]⟩, .int .i64 (7), .string ⟨#[120]⟩, .string ⟨#[106, 111, 105, 110]⟩, .int .i64 (8), .string ⟨#[115]⟩, .string ⟨#[108, 101, 97, 118, 101]⟩, .int .i64 (8), .string ⟨#[115]⟩, .string ⟨#[104, 97, 115]⟩, .int .i64 (8), .string ⟨#[115]⟩, .string ⟨#[111, 102, 102, 101, 114]⟩, .int .i64 (9), .string ⟨#[120, 115]⟩]) (fu := 8) (by kernel_rfl) (by kernel_rfl) Zz1 (by kernel_rfl) (by kernel_rfl) h
 intro e he i v hv
 rcases List.mem_cons.1 he with rfl | he
 · exact ⟨(Zm9 (g0 i v hv)).2, g0 i v hv⟩
 cases he
theorem ShareDraws_ret (os : Os) (started : os.Started) (H : Type) (enc : TypeId × Value → H) :
   ReturnsInHanded {} Tryd.checked os 7 .any (fun w args => (Go.Proofs.YtbiobpmabomjfaaDoor.Rows.shareDrawsSpec.pre enc Tryd.prog Tryd.f7 [] false w args ∧ laidMetH Tryd.prog [("moiety/act.kinds", Go.Proofs.YtbiobpmabomjfaaDoor.Rows.laid_moiety_act_kinds)] w) ∧ sizedMet enc Tryd.prog Tryd.f7 (OpenSpec.ofChange Go.Proofs.YtbiobpmabomjfaaDoor.Rows.shareDrawsSpec) false w args) (Go.Proofs.YtbiobpmabomjfaaDoor.Rows.shareDrawsSpec.post enc Tryd.prog Tryd.f7 false true false false) := by
 refine returnsInHanded_of_change_and (C := Tryd.checked) (X := fun w _ => laidMetH Tryd.prog [("moiety/act.kinds", Go.Proofs.YtbiobpmabomjfaaDoor.Rows.laid_moiety_act_kinds)] w) (fun _ _ _ hh h => h.of_heap hh) Zxf started (by kernel_rfl) Tryd.func7
   (ChangeSpec.witness_shaped (enc := enc) (C := Tryd.checked) (os := os) (X := fun w _ => laidMetH Tryd.prog [("moiety/act.kinds", Go.Proofs.YtbiobpmabomjfaaDoor.Rows.laid_moiety_act_kinds)] w) false (World.doorLaid Tryd.prog 400 os) #[.agg #[.int .i64 0, .int .i64 0, .int .i64 0, .int .i64 0, .float .f64 0, .int .i64 0, .string ByteArray.empty, .slice none 0 0], .int .i64 0, .slice none 0 0] 8 rfl (World.shaped_of_RefB (by kernel_rfl) (by kernel_rfl)) (by kernel_rfl) (by kernel_rfl) (by kernel_rfl) (ShareDraws_met os _)) ?_
 intro W base args ds gs before hval0 hW hcnd _ hL _
 have hval : ∀ (j : Nat) t v, Tryd.f7.params[j]? = some t → args[j]? = some v → Value.okWide Tryd.prog W .any base t v := hval0
 have hW' := hW
 obtain ⟨p, q, hA0, hV, rfl, hfz, hnd⟩ := hW
 have hA : DataW.TrodAll enc Tryd.prog W 0 (fun _ => true) true Tryd.f7.params.toList args.toList ds p := hA0
 rw [Tryd.params7] at hA hval
 obtain ⟨v0, v1, v2, d0, d1, d2, p0, p1, p2, rfl, rfl, rfl, h0, h1, h2⟩ := trodAll_three hA
 obtain ⟨rfl, rfl⟩ := trodVars_none hV
 simp only [List.append_nil] at hW'
 have hg : GLok W (fun b _ => b < W.heap.size) := (ShareDraws_gl hL)
 have hk0 := h0
 obtain ⟨a0, q0, w0⟩ := Zr8 Zyt hg h0 (hval 0 25 v0 rfl rfl)
 have hk1 := h1
 obtain ⟨a1, q1, w1⟩ := Zr8 op_3 hg h1 (hval 1 3 v1 rfl rfl)
 have hk2 := h2
 obtain ⟨a2, q2, w2⟩ := Zr8 Z2o hg h2 (hval 2 40 v2 rfl rfl)
 refine (Zka a0 a1 a2 (ShareDraws_true a0 a1 a2 w0 w1 w2) (GW W hg) [v0, v1, v2] (Zf4 q0 (Zf4 q1 (Zf4 q2 Zdl)))).mono fun e W' ⟨g', v, he, hw, hs, hq⟩ => ?_
 subst he; subst hw
 rw [Zfm.1 hq]
 have hbel := Zxq hs
 have hlt : ∀ x ∈ (p0 ++ p1 ++ p2), x.block < W.heap.size := fun x hx => by simpa using hW'.lt x hx
 exact ⟨_, rfl, Zrh (pv := []) hW' hbel (trodAll_mk1 (shut_bool Tryd.underlying4 true)) (trodAll_mk3 (Below.trod Znq (by kernel_rfl) (of_decide_eq_true (by kernel_rfl)) hk0 hbel (fun x hx => hlt x (by simp [hx]))) (Below.trod Znq (by kernel_rfl) (of_decide_eq_true (by kernel_rfl)) hk1 hbel (fun x hx => hlt x (by simp [hx]))) (Below.trod Znq (by kernel_rfl) (of_decide_eq_true (by kernel_rfl)) hk2 hbel (fun x hx => hlt x (by simp [hx])))) rfl⟩
theorem ShareDraws_holds : Go.Proofs.YtbiobpmabomjfaaDoor.Rows.ShareDrawsSaid :=
 OpenClaim.holds_of_wide 7 Tryd.f7 rfl rfl rfl rfl rfl rfl rfl ⟨rfl, rfl, rfl, rfl, rfl⟩ rfl rfl rfl rfl rfl (by kernel_rfl) Tryd.func7 (by kernel_rfl)
   (of_decide_eq_true (by kernel_rfl)) (by unfold Func.isWrapper; first | (rw [if_pos (by decide +kernel)]; kernel_rfl) | (rw [if_neg (by decide +kernel)]; exact ⟨rfl, rfl⟩))
   (fun os started H enc _ => ShareDraws_ret os started H enc)
theorem ShareDraws_card : Go.Proofs.YtbiobpmabomjfaaDoor.Rows.ShareDrawsCardSaid :=
 Claim7.holds_tied_plain_at .later [] [.data] true (true, "3aa006449d8ddc9dc8d5c5e333f2b4dcad9319e64e39586c0df1deb5178ade36") false
   ShareDraws_holds (fun _ h => by cases h) (by kernel_rfl) (fun _ h => by cases h) Go.Proofs.YtbiobpmabomjfaaDoor.shareDraws_row_tie rfl ⟨rfl, rfl⟩ (by kernel_rfl) rfl
   (fun f fn hf hfn => by
     obtain rfl : f = 7 := Option.some.inj ((show Tryd.prog.funcNamed "moiety/moietylaw07.ShareDraws" = some 7 by kernel_rfl).symm.trans hf) |>.symm
     obtain rfl : fn = Tryd.f7 := (Option.some.inj (Tryd.func7.symm.trans hfn)).symm
     exact ⟨by kernel_rfl, fun j t ht => by
       rw [Tryd.params7] at ht
       have hm : t ∈ [25, 3, 40] := by simpa using Array.mem_of_getElem? ht
       have hall : (([25, 3, 40] : List TypeId).all fun u => !Tryd.prog.wantsStandIn u) = true := by kernel_rfl
       exact (show Tryd.prog.wantsStandIn t = false by simpa using List.all_eq_true.1 hall t hm)⟩)
   (by kernel_rfl)
end Go.CL
