/- A part of the proof of RuleBack. -/
import Derived.Test.YtajghnodbhcnoaaDoorRuleBackC5
import Derived.Test.YtajghnodbhcnoaaDoorRows
import Derived.Test.YtajghnodbhcnoaaDoorCards
import Derived.Test.YtajghnodbhcnoaaDoorTie
import Derived.SevenTiedAt
/- act.Check = moietyref04.Check. -/
set_option linter.unusedVariables false
set_option linter.unusedSimpArgs false
namespace Go.CL
open Go

theorem gd_some {β : Type} [Inhabited β] (c : Bool) (v : β) : gd c (some v) = some (if c then v else default) := by cases c <;> rfl
def ActOk (a : api_Act) : Prop := RecOk a.Make ∧ a.X < W64
abbrev zrc : api_Record := { Kind := 0, Num := 0, Low := 0, High := 0, Real := 0, Cap := 0, Text := ByteArray.empty, List := [] }
theorem zrc_ok : RecOk zrc := ⟨by decide, by decide, fun e he => by cases he⟩
/-- What both say of an act of a kind. -/
def actD (n x s m o1 k1 k2 : Bool) (c : Int) (a : api_Act) : Int :=
  if (sEq a.Key ⟨#[]⟩ || decide ((24 : Int) < a.Key.size)) = true then 1
  else if (!(((n || a.N == 0) && (x || decide (keyf a.X = keyf 0))) && (s || sEq a.S ⟨#[]⟩) && (m || sameR a.Make zrc))) = true then 4
  else if decide ((if o1 = true then (64 : Int) else 16) < a.S.size) = true then 3
  else if (k2 && (decide (a.N < 0) || decide (2305843009213693952 < a.N))) = true then 1
  else if (!decide (a.X = canon a.X)) = true then 4
  else if k1 = true then c else 0
theorem emp_iff (k : ByteArray) : (decide ((k.size : Int) < 1)) = sEq k ⟨#[]⟩ := by
  by_cases h : k = ⟨#[]⟩
  · subst h; rw [sEq_self]; decide
  · rw [sEq_ne.2 h]
    have : k.size ≠ 0 := fun e => h (by
      apply ByteArray.ext
      exact Array.size_eq_zero_iff.1 e)
    simp; omega
theorem act_shape {a : api_Act} (ha : ActOk a) {w has : ByteArray} {on c : Int} {n x s m : Bool} (hc : rec_Check a.Make = some c) (h1 : act_of a.Kind = some ⟨w, on, has⟩) (hw : sEq w ⟨#[]⟩ = false)
    (fn : act_kind_field ⟨w, on, has⟩ 110 = some n) (fx : act_kind_field ⟨w, on, has⟩ 120 = some x) (fs : act_kind_field ⟨w, on, has⟩ 115 = some s) (fm : act_kind_field ⟨w, on, has⟩ 109 = some m) :
    act_Check a = some (actD n x s m (on == 1) (a.Kind == 1) (a.Kind == 10 || a.Kind == 11) c a) := by
  have h0 : (0 : Nat) < W64 := by decide
  unfold act_Check act_bare act_most
  rw [h1]
  simp only [Option.bind_some, hw, Bool.false_eq_true, if_false, fn, fx, fs, fm, gd_some]
  rw [same_eq ha.2 h0, same_rec ha.1 zrc_ok, proper_eq ha.2, hc]
  simp only [Option.bind_some, gd_some]
  unfold actD
  generalize (sEq a.Key ⟨#[]⟩ || decide ((24 : Int) < a.Key.size)) = b1
  generalize (a.N == 0) = b2
  generalize decide (keyf a.X = keyf 0) = b3
  generalize sEq a.S ⟨#[]⟩ = b4
  generalize sameR a.Make zrc = b5
  generalize (a.Kind == 10 || a.Kind == 11) = b6
  generalize (a.Kind == 1) = b7
  generalize (decide (a.N < 0) || decide (2305843009213693952 < a.N)) = b8
  generalize decide (a.X = canon a.X) = b9
  have e1 : decide ((64 : Int) < a.S.size) = decide ((if true = true then (64 : Int) else 16) < a.S.size) := rfl
  cases b1
  · have hm : ∀ (z : Bool), ((if z = true then some (64 : Int) else some 16).bind fun r8 => (if decide (r8 < (a.S.size : Int)) = true then some (3 : Int) else if (b6 && b8) = true then some 1 else if (!b9) = true then some 4 else if b7 = true then some c else some 0)) = some (if decide ((if z = true then (64 : Int) else 16) < a.S.size) = true then 3 else if (b6 && b8) = true then 1 else if (!b9) = true then 4 else if b7 = true then c else 0) := by
      intro z
      cases z <;> simp only [Bool.false_eq_true, if_false, if_true, Option.bind_some] <;> (repeat' split) <;> rfl
    rw [hm]
    cases n <;> cases x <;> cases s <;> cases m <;> cases b2 <;> cases b3 <;> cases b4 <;> cases b5 <;> rfl
  · rfl
theorem ract_shape {a : api_Act} (ha : ActOk a) {on c : Int} {n x s m : Bool} (hc : moietyref03_Check a.Make = some c) (hk : ¬ (a.Kind < 1 ∨ 21 < a.Kind)) (ro : moietyref04_On a.Kind = some on)
    (fn : moietyref04_Has a.Kind 110 = some n) (fx : moietyref04_Has a.Kind 120 = some x) (fs : moietyref04_Has a.Kind 115 = some s) (fm : m = (a.Kind == 1)) :
    moietyref04_Check a = some (actD n x s m (on == 1) (a.Kind == 1) (a.Kind == 10 || a.Kind == 11) c a) := by
  have h0 : (0 : Nat) < W64 := by decide
  unfold moietyref04_Check
  rw [if_neg (by simpa using hk), fn, fx, fs, ro]
  simp only [Option.bind_some, gd_some, emp_iff]
  rw [rsame_eq ha.2 h0, rsame_rec ha.1 zrc_ok, rproper_eq ha.2, hc]
  simp only [Option.bind_some, gd_some]
  unfold actD
  subst fm
  have hmid : ((on == 1 && decide ((64 : Int) < a.S.size)) || ((if (!(on == 1 && decide ((64 : Int) < a.S.size))) = true then on else default) != 1 && decide ((16 : Int) < a.S.size))) = decide ((if (on == 1) = true then (64 : Int) else 16) < a.S.size) := by
    by_cases ho : on = 1
    · subst ho
      by_cases h64 : (64 : Int) < a.S.size <;> simp [h64]
    · have hb1 : (on == 1) = false := by simpa using ho
      have hb2 : (on != 1) = true := by simpa using ho
      simp [hb1, hb2]
  rw [hmid, show (a.N != 0) = !(a.N == 0) from rfl, show (a.Kind != 1) = !(a.Kind == 1) from rfl]
  generalize decide ((if (on == 1) = true then (64 : Int) else 16) < a.S.size) = b10
  generalize (sEq a.Key ⟨#[]⟩ || decide ((24 : Int) < a.Key.size)) = b1
  generalize (a.N == 0) = b2
  generalize decide (keyf a.X = keyf 0) = b3
  generalize sEq a.S ⟨#[]⟩ = b4
  generalize sameR a.Make zrc = b5
  generalize (a.Kind == 10 || a.Kind == 11) = b6
  generalize (a.Kind == 1) = b7
  generalize (decide (a.N < 0) || decide (2305843009213693952 < a.N)) = b8
  generalize decide (a.X = canon a.X) = b9
  have htail : (if b10 = true then some (3 : Int) else if (b6 && b8) = true then some 1 else if (!b9) = true then some 4 else if b7 = true then some c else some 0) = some (if b10 = true then 3 else if (b6 && b8) = true then 1 else if (!b9) = true then 4 else if b7 = true then c else 0) := by
    (repeat' split) <;> rfl
  rw [htail]
  cases b1
  · cases n <;> cases x <;> cases s <;> cases b7 <;> cases b2 <;> cases b3 <;> cases b4 <;> cases b5 <;> rfl
  · rfl
theorem actD_zero {n x s m o1 k1 k2 : Bool} {c : Int} {a : api_Act} (h : actD n x s m o1 k1 k2 c a = 0) : (sEq a.Key ⟨#[]⟩ || decide ((24 : Int) < a.Key.size)) = false ∧ decide ((if o1 = true then (64 : Int) else 16) < a.S.size) = false ∧ (k2 && (decide (a.N < 0) || decide (2305843009213693952 < a.N))) = false ∧ decide (a.X = canon a.X) = true ∧ (k1 = true → c = 0) := by
  unfold actD at h
  revert h
  generalize (sEq a.Key ⟨#[]⟩ || decide ((24 : Int) < a.Key.size)) = b1
  generalize decide ((if o1 = true then (64 : Int) else 16) < a.S.size) = b3
  generalize (k2 && (decide (a.N < 0) || decide (2305843009213693952 < a.N))) = b4
  generalize decide (a.X = canon a.X) = b5
  generalize (!(((n || a.N == 0) && (x || decide (keyf a.X = keyf 0))) && (s || sEq a.S ⟨#[]⟩) && (m || sameR a.Make zrc))) = b2
  cases b1 <;> cases b2 <;> cases b3 <;> cases b4 <;> cases b5 <;> cases k1 <;> simp
/-- **May an act be: the program says what the document says.** -/
theorem check_act {a : api_Act} (ha : ActOk a) : ∃ c, act_Check a = some c ∧ moietyref04_Check a = some c ∧ (c = 0 → 1 ≤ a.Kind ∧ a.Kind ≤ 21 ∧ a.X = canon a.X ∧ a.S.size ≤ 64 ∧ ((a.Kind = 10 ∨ a.Kind = 11) → 0 ≤ a.N ∧ a.N ≤ 2305843009213693952) ∧ (a.Kind = 1 → rec_Check a.Make = some 0) ∧ (¬ (5 ≤ a.Kind ∧ a.Kind ≤ 6) → a.S.size ≤ 16) ∧ sEq a.Key ⟨#[]⟩ = false ∧ a.Key.size ≤ 24) := by
  by_cases hk : a.Kind < 1 ∨ 21 < a.Kind
  · refine ⟨5, ?_, ?_, fun h => by cases h⟩
    · unfold act_Check act_of
      rw [if_pos (by simp; omega)]
      simp only [Option.bind_some]
      rw [if_pos (show sEq ByteArray.empty ⟨#[]⟩ = true by kernel_rfl)]
    · unfold moietyref04_Check
      rw [if_pos (by simpa using hk)]
  · obtain ⟨c, hc1, hc2⟩ := check_both ha.1
    have fin : ∀ {w has : ByteArray} {on : Int} {n x s m : Bool}, act_of a.Kind = some ⟨w, on, has⟩ → sEq w ⟨#[]⟩ = false → act_kind_field ⟨w, on, has⟩ 110 = some n → act_kind_field ⟨w, on, has⟩ 120 = some x → act_kind_field ⟨w, on, has⟩ 115 = some s → act_kind_field ⟨w, on, has⟩ 109 = some m →
        moietyref04_On a.Kind = some on → moietyref04_Has a.Kind 110 = some n → moietyref04_Has a.Kind 120 = some x → moietyref04_Has a.Kind 115 = some s → m = (a.Kind == 1) → ((on == 1) = true → 5 ≤ a.Kind ∧ a.Kind ≤ 6) →
        ∃ c, act_Check a = some c ∧ moietyref04_Check a = some c ∧ (c = 0 → 1 ≤ a.Kind ∧ a.Kind ≤ 21 ∧ a.X = canon a.X ∧ a.S.size ≤ 64 ∧ ((a.Kind = 10 ∨ a.Kind = 11) → 0 ≤ a.N ∧ a.N ≤ 2305843009213693952) ∧ (a.Kind = 1 → rec_Check a.Make = some 0) ∧ (¬ (5 ≤ a.Kind ∧ a.Kind ≤ 6) → a.S.size ≤ 16) ∧ sEq a.Key ⟨#[]⟩ = false ∧ a.Key.size ≤ 24) := by
      intro w has on n x s m h1 hw fn fx fs fm ro rn rx rs hm hon
      refine ⟨_, act_shape ha hc1 h1 hw fn fx fs fm, by rw [hm]; exact ract_shape ha hc2 hk ro rn rx rs rfl, fun h0 => ?_⟩
      obtain ⟨g1, g3, g4, g5, g6⟩ := actD_zero h0
      simp only [Bool.or_eq_false_iff, decide_eq_false_iff_not] at g1
      have g3' : ¬ (if (on == 1) = true then (64 : Int) else 16) < a.S.size := of_decide_eq_false g3
      refine ⟨by omega, by omega, of_decide_eq_true g5, ?_, fun h => ?_, fun h => ?_, fun h => ?_, g1.1, by omega⟩
      · split at g3' <;> omega
      · have h11 : (a.Kind == 10 || a.Kind == 11) = true := by simpa using h
        rw [h11] at g4
        simp only [Bool.true_and, Bool.or_eq_false_iff, decide_eq_false_iff_not] at g4
        omega
      · rw [hc1, g6 (by simp [h])]
      · rw [if_neg (fun h2 => h (hon h2))] at g3'
        omega
    have hk' : a.Kind = 1 ∨ a.Kind = 2 ∨ a.Kind = 3 ∨ a.Kind = 4 ∨ a.Kind = 5 ∨ a.Kind = 6 ∨ a.Kind = 7 ∨ a.Kind = 8 ∨ a.Kind = 9 ∨ a.Kind = 10 ∨ a.Kind = 11 ∨ a.Kind = 12 ∨ a.Kind = 13 ∨ a.Kind = 14 ∨ a.Kind = 15 ∨ a.Kind = 16 ∨ a.Kind = 17 ∨ a.Kind = 18 ∨ a.Kind = 19 ∨ a.Kind = 20 ∨ a.Kind = 21 := by omega
    rcases hk' with h | h | h | h | h | h | h | h | h | h | h | h | h | h | h | h | h | h | h | h | h <;> rw [h] at fin ⊢
    · exact fin (w := ⟨#[110, 101, 119]⟩) (on := 0) (has := ⟨#[109]⟩) (n := false) (x := false) (s := false) (m := true) (by kernel_rfl) (by kernel_rfl) (by kernel_rfl) (by kernel_rfl) (by kernel_rfl) (by kernel_rfl) (by kernel_rfl) (by kernel_rfl) (by kernel_rfl) (by kernel_rfl) (by decide) (by decide)
    · exact fin (w := ⟨#[100, 114, 111, 112]⟩) (on := 0) (has := ⟨#[]⟩) (n := false) (x := false) (s := false) (m := false) (by kernel_rfl) (by kernel_rfl) (by kernel_rfl) (by kernel_rfl) (by kernel_rfl) (by kernel_rfl) (by kernel_rfl) (by kernel_rfl) (by kernel_rfl) (by kernel_rfl) (by decide) (by decide)
    · exact fin (w := ⟨#[105, 115]⟩) (on := 0) (has := ⟨#[]⟩) (n := false) (x := false) (s := false) (m := false) (by kernel_rfl) (by kernel_rfl) (by kernel_rfl) (by kernel_rfl) (by kernel_rfl) (by kernel_rfl) (by kernel_rfl) (by kernel_rfl) (by kernel_rfl) (by kernel_rfl) (by decide) (by decide)
    · exact fin (w := ⟨#[108, 111, 111, 107]⟩) (on := 0) (has := ⟨#[]⟩) (n := false) (x := false) (s := false) (m := false) (by kernel_rfl) (by kernel_rfl) (by kernel_rfl) (by kernel_rfl) (by kernel_rfl) (by kernel_rfl) (by kernel_rfl) (by kernel_rfl) (by kernel_rfl) (by kernel_rfl) (by decide) (by decide)
    · exact fin (w := ⟨#[112, 117, 116]⟩) (on := 1) (has := ⟨#[115]⟩) (n := false) (x := false) (s := true) (m := false) (by kernel_rfl) (by kernel_rfl) (by kernel_rfl) (by kernel_rfl) (by kernel_rfl) (by kernel_rfl) (by kernel_rfl) (by kernel_rfl) (by kernel_rfl) (by kernel_rfl) (by decide) (by decide)
    · exact fin (w := ⟨#[115, 119, 97, 112]⟩) (on := 1) (has := ⟨#[115]⟩) (n := false) (x := false) (s := true) (m := false) (by kernel_rfl) (by kernel_rfl) (by kernel_rfl) (by kernel_rfl) (by kernel_rfl) (by kernel_rfl) (by kernel_rfl) (by kernel_rfl) (by kernel_rfl) (by kernel_rfl) (by decide) (by decide)
    · exact fin (w := ⟨#[97, 100, 100]⟩) (on := 2) (has := ⟨#[110]⟩) (n := true) (x := false) (s := false) (m := false) (by kernel_rfl) (by kernel_rfl) (by kernel_rfl) (by kernel_rfl) (by kernel_rfl) (by kernel_rfl) (by kernel_rfl) (by kernel_rfl) (by kernel_rfl) (by kernel_rfl) (by decide) (by decide)
    · exact fin (w := ⟨#[112, 108, 117, 115]⟩) (on := 3) (has := ⟨#[110]⟩) (n := true) (x := false) (s := false) (m := false) (by kernel_rfl) (by kernel_rfl) (by kernel_rfl) (by kernel_rfl) (by kernel_rfl) (by kernel_rfl) (by kernel_rfl) (by kernel_rfl) (by kernel_rfl) (by kernel_rfl) (by decide) (by decide)
    · exact fin (w := ⟨#[114, 101, 97, 99, 104]⟩) (on := 3) (has := ⟨#[110]⟩) (n := true) (x := false) (s := false) (m := false) (by kernel_rfl) (by kernel_rfl) (by kernel_rfl) (by kernel_rfl) (by kernel_rfl) (by kernel_rfl) (by kernel_rfl) (by kernel_rfl) (by kernel_rfl) (by kernel_rfl) (by decide) (by decide)
    · exact fin (w := ⟨#[105, 110]⟩) (on := 4) (has := ⟨#[110]⟩) (n := true) (x := false) (s := false) (m := false) (by kernel_rfl) (by kernel_rfl) (by kernel_rfl) (by kernel_rfl) (by kernel_rfl) (by kernel_rfl) (by kernel_rfl) (by kernel_rfl) (by kernel_rfl) (by kernel_rfl) (by decide) (by decide)
    · exact fin (w := ⟨#[111, 117, 116]⟩) (on := 4) (has := ⟨#[110]⟩) (n := true) (x := false) (s := false) (m := false) (by kernel_rfl) (by kernel_rfl) (by kernel_rfl) (by kernel_rfl) (by kernel_rfl) (by kernel_rfl) (by kernel_rfl) (by kernel_rfl) (by kernel_rfl) (by kernel_rfl) (by decide) (by decide)
    · exact fin (w := ⟨#[101, 110, 111, 117, 103, 104]⟩) (on := 4) (has := ⟨#[110]⟩) (n := true) (x := false) (s := false) (m := false) (by kernel_rfl) (by kernel_rfl) (by kernel_rfl) (by kernel_rfl) (by kernel_rfl) (by kernel_rfl) (by kernel_rfl) (by kernel_rfl) (by kernel_rfl) (by kernel_rfl) (by decide) (by decide)
    · exact fin (w := ⟨#[114, 97, 105, 115, 101]⟩) (on := 5) (has := ⟨#[120]⟩) (n := false) (x := true) (s := false) (m := false) (by kernel_rfl) (by kernel_rfl) (by kernel_rfl) (by kernel_rfl) (by kernel_rfl) (by kernel_rfl) (by kernel_rfl) (by kernel_rfl) (by kernel_rfl) (by kernel_rfl) (by decide) (by decide)
    · exact fin (w := ⟨#[108, 111, 119, 101, 114]⟩) (on := 6) (has := ⟨#[120]⟩) (n := false) (x := true) (s := false) (m := false) (by kernel_rfl) (by kernel_rfl) (by kernel_rfl) (by kernel_rfl) (by kernel_rfl) (by kernel_rfl) (by kernel_rfl) (by kernel_rfl) (by kernel_rfl) (by kernel_rfl) (by decide) (by decide)
    · exact fin (w := ⟨#[115, 104, 105, 102, 116]⟩) (on := 7) (has := ⟨#[120]⟩) (n := false) (x := true) (s := false) (m := false) (by kernel_rfl) (by kernel_rfl) (by kernel_rfl) (by kernel_rfl) (by kernel_rfl) (by kernel_rfl) (by kernel_rfl) (by kernel_rfl) (by kernel_rfl) (by kernel_rfl) (by decide) (by decide)
    · exact fin (w := ⟨#[115, 99, 97, 108, 101]⟩) (on := 7) (has := ⟨#[120]⟩) (n := false) (x := true) (s := false) (m := false) (by kernel_rfl) (by kernel_rfl) (by kernel_rfl) (by kernel_rfl) (by kernel_rfl) (by kernel_rfl) (by kernel_rfl) (by kernel_rfl) (by kernel_rfl) (by kernel_rfl) (by decide) (by decide)
    · exact fin (w := ⟨#[102, 105, 120]⟩) (on := 7) (has := ⟨#[120]⟩) (n := false) (x := true) (s := false) (m := false) (by kernel_rfl) (by kernel_rfl) (by kernel_rfl) (by kernel_rfl) (by kernel_rfl) (by kernel_rfl) (by kernel_rfl) (by kernel_rfl) (by kernel_rfl) (by kernel_rfl) (by decide) (by decide)
    · exact fin (w := ⟨#[106, 111, 105, 110]⟩) (on := 8) (has := ⟨#[115]⟩) (n := false) (x := false) (s := true) (m := false) (by kernel_rfl) (by kernel_rfl) (by kernel_rfl) (by kernel_rfl) (by kernel_rfl) (by kernel_rfl) (by kernel_rfl) (by kernel_rfl) (by kernel_rfl) (by kernel_rfl) (by decide) (by decide)
    · exact fin (w := ⟨#[108, 101, 97, 118, 101]⟩) (on := 8) (has := ⟨#[115]⟩) (n := false) (x := false) (s := true) (m := false) (by kernel_rfl) (by kernel_rfl) (by kernel_rfl) (by kernel_rfl) (by kernel_rfl) (by kernel_rfl) (by kernel_rfl) (by kernel_rfl) (by kernel_rfl) (by kernel_rfl) (by decide) (by decide)
    · exact fin (w := ⟨#[104, 97, 115]⟩) (on := 8) (has := ⟨#[115]⟩) (n := false) (x := false) (s := true) (m := false) (by kernel_rfl) (by kernel_rfl) (by kernel_rfl) (by kernel_rfl) (by kernel_rfl) (by kernel_rfl) (by kernel_rfl) (by kernel_rfl) (by kernel_rfl) (by kernel_rfl) (by decide) (by decide)
    · exact fin (w := ⟨#[111, 102, 102, 101, 114]⟩) (on := 9) (has := ⟨#[120, 115]⟩) (n := false) (x := true) (s := true) (m := false) (by kernel_rfl) (by kernel_rfl) (by kernel_rfl) (by kernel_rfl) (by kernel_rfl) (by kernel_rfl) (by kernel_rfl) (by kernel_rfl) (by kernel_rfl) (by kernel_rfl) (by decide) (by decide)
end Go.CL

/- Names in order, and the best in order: find, join, leave, has, offer; the document's Laid. -/
set_option linter.unusedVariables false
set_option linter.unusedSimpArgs false
namespace Go.CL
open Go

abbrev Items := List api_Item
def NS (l : Items) : Prop := l.Pairwise fun p q => sLt p.Name q.Name = true
/-- How many stand ahead. -/
def pre (f : api_Item → Bool) : Items → Nat
  | [] => 0
  | e :: r => if f e then pre f r + 1 else 0
theorem pre_le (f : api_Item → Bool) : ∀ l : Items, pre f l ≤ l.length
  | [] => Nat.le_refl _
  | e :: r => by
    have := pre_le f r
    simp only [pre]
    split <;> simp <;> omega
theorem pre_lt {f : api_Item → Bool} : ∀ {l : Items} {k : Nat} (h : k < pre f l), ∃ e, l[k]? = some e ∧ f e = true
  | [], k, h => by simp [pre] at h
  | e :: r, k, h => by
    simp only [pre] at h
    split at h
    · rename_i hf
      cases k with
      | zero => exact ⟨e, rfl, hf⟩
      | succ k => exact pre_lt (l := r) (by omega)
    · omega
theorem pre_at {f : api_Item → Bool} : ∀ {l : Items} {e : api_Item}, l[pre f l]? = some e → f e = false
  | [], e, h => by simp [pre] at h
  | x :: r, e, h => by
    simp only [pre] at h
    split at h
    · exact pre_at (l := r) (by simpa using h)
    · rename_i hf
      simp at h; subst h; simpa using hf
theorem pre_mono {s : ByteArray} {l : Items} (hs : NS l) {k : Nat} (hk : k < l.length) : sLt (l[k]).Name s = decide (k < pre (fun e => sLt e.Name s) l) := by
  by_cases h : k < pre (fun e => sLt e.Name s) l
  · obtain ⟨e, he, hf⟩ := pre_lt h
    rw [List.getElem?_eq_getElem hk] at he
    obtain rfl := Option.some.inj he
    simp only [h, decide_true]; exact hf
  · simp only [h, decide_false]
    have hp : pre (fun e => sLt e.Name s) l < l.length := by omega
    have h1 := pre_at (List.getElem?_eq_getElem hp)
    rcases Nat.lt_or_eq_of_le (Nat.le_of_not_lt h) with hlt | heq
    · have h2 := List.pairwise_iff_getElem.1 hs _ _ hp hk hlt
      cases h3 : sLt (l[k]).Name s
      · rfl
      · rw [sLt_trans h2 h3] at h1; cases h1
    · have : l[k] = l[pre (fun e => sLt e.Name s) l] := by congr 1; exact heq.symm
      rw [this]; exact h1
theorem half {i j : Nat} (h : i + j < 4611686018427387904) : IntKind.i64.wrap (Int.fdiv (IntKind.u64.wrap (IntKind.i64.wrap ((i : Int) + (j : Int)))) (2 ^ 1)) = (((i + j) / 2 : Nat) : Int) := by
  rw [wr (x := (i : Int) + j) (by omega) (by omega), wru (by omega) (by omega)]
  have : Int.fdiv ((i : Int) + j) (2 ^ 1) = (((i + j) / 2 : Nat) : Int) := by
    rw [Int.fdiv_eq_ediv_of_nonneg _ (by decide)]; omega
  rw [this, wr (by omega) (by omega)]
theorem find1 (e : api_Item) (s : ByteArray) : ∃ c : Int, rule_find_1 e s = some c ∧ decide (c < 0) = sLt e.Name s ∧ (c == 0) = sEq e.Name s := by
  unfold rule_find_1
  by_cases h : sLt e.Name s = true
  · exact ⟨-1, by rw [if_pos h], by rw [h]; rfl, by rw [sEq_ne.2 (sLt_ne h)]; rfl⟩
  · have h' : sLt e.Name s = false := by simpa using h
    by_cases h2 : e.Name = s
    · exact ⟨0, by rw [if_neg h, h', sEq_iff.2 h2]; rfl, by rw [h']; rfl, by rw [sEq_iff.2 h2]; rfl⟩
    · exact ⟨1, by rw [if_neg h, h', sEq_ne.2 h2]; rfl, by rw [h']; rfl, by rw [sEq_ne.2 h2]; rfl⟩
theorem bs_loop {l : Items} {s : ByteArray} (hs : NS l) (hl : l.length < 2305843009213693952) : ∀ (n i j : Nat), j - i < n → i ≤ pre (fun e => sLt e.Name s) l → pre (fun e => sLt e.Name s) l ≤ j → j ≤ l.length →
    slices_BinarySearchFunc_api_Item_api_Item_string_l1 l s (fun y0 y1 => rule_find_1 y0 y1) n (i : Int) (j : Int) = some ((pre (fun e => sLt e.Name s) l : Nat) : Int)
  | 0, i, j, h, _, _, _ => by omega
  | n + 1, i, j, h, h1, h2, h3 => by
    rw [slices_BinarySearchFunc_api_Item_api_Item_string_l1]
    by_cases hij : i < j
    · rw [if_pos (by simpa using hij), half (by omega)]
      have hm : (i + j) / 2 < l.length := by omega
      rw [idx_lt hm]
      obtain ⟨c, hc, hc1, _⟩ := find1 l[(i + j) / 2] s
      simp only [Option.bind_some, hc]
      rw [hc1, pre_mono hs hm]
      unfold slices_BinarySearchFunc_api_Item_api_Item_string_j1
      by_cases hp : (i + j) / 2 < pre (fun e => sLt e.Name s) l
      · rw [if_pos (by simpa using hp), wr1 (by omega)]
        exact bs_loop hs hl n ((i + j) / 2 + 1) j (by omega) (by omega) h2 h3
      · rw [if_neg (by simpa using hp)]
        exact bs_loop hs hl n i ((i + j) / 2) (by omega) h1 (by omega) (by omega)
    · rw [if_neg (by simpa using hij)]
      congr 2; omega
def isAt (s : ByteArray) (l : Items) : Bool := match l[pre (fun e => sLt e.Name s) l]? with
  | some e => sEq e.Name s
  | none => false
theorem find_eq {l : Items} {s : ByteArray} (hs : NS l) (hl : l.length < 2305843009213693952) : rule_find l s = some (((pre (fun e => sLt e.Name s) l : Nat) : Int), isAt s l) := by
  unfold rule_find slices_BinarySearchFunc_api_Item_api_Item_string
  have := bs_loop (s := s) hs hl (l.length + 1) 0 l.length (by omega) (Nat.zero_le _) (pre_le _ _) (Nat.le_refl _)
  rw [show ((0 : Nat) : Int) = 0 from rfl] at this
  rw [show (Int.toNat ((l.length : Int) - (0 : Int)) + 1) = l.length + 1 by omega, this]
  simp only [Option.bind_some]
  unfold isAt
  by_cases hp : pre (fun e => sLt e.Name s) l < l.length
  · have hd : decide (((pre (fun e => sLt e.Name s) l : Nat) : Int) < (l.length : Int)) = true := by simpa using hp
    rw [hd, idx_lt hp, List.getElem?_eq_getElem hp]
    obtain ⟨c, hc, _, hc2⟩ := find1 l[pre (fun e => sLt e.Name s) l] s
    simp only [gd_t, Option.bind_some, hc, Bool.true_and, hc2]
  · have hd : decide (((pre (fun e => sLt e.Name s) l : Nat) : Int) < (l.length : Int)) = false := by simpa using hp
    rw [hd, List.getElem?_eq_none (by omega)]
    rfl
/-! ### the document's -/
def goL (f g : api_Item → Bool) (x : api_Item) : Items → Bool → Items × Bool
  | [], d => ([], d)
  | e :: r, d => if (!d && !f e) = true then ((if g e then [] else [x]) ++ e :: (goL f g x r true).1, (goL f g x r true).2) else (e :: (goL f g x r d).1, (goL f g x r d).2)
theorem goL_t (f g : api_Item → Bool) (x : api_Item) : ∀ l : Items, goL f g x l true = (l, true)
  | [] => rfl
  | e :: r => by simp [goL, goL_t f g x r]
theorem goL_f (f g : api_Item → Bool) (x : api_Item) : ∀ l : Items, goL f g x l false = match l[pre f l]? with
    | some e => (l.take (pre f l) ++ (if g e then [] else [x]) ++ l.drop (pre f l), true)
    | none => (l, false)
  | [] => rfl
  | e :: r => by
    simp only [goL, pre]
    by_cases hf : f e = true
    · simp only [hf, Bool.not_true, Bool.and_false, Bool.false_eq_true, if_false, if_true]
      rw [goL_f f g x r]
      simp only [List.getElem?_cons_succ]
      cases r[pre f r]? <;> simp
    · have hf' : f e = false := by simpa using hf
      simp only [hf', Bool.not_false, Bool.and_self, if_true, Bool.false_eq_true, if_false, goL_t, List.getElem?_cons_zero, List.take_zero, List.nil_append, List.drop_zero]
def aheadF (x : api_Item) (nm : Bool) (e : api_Item) : Bool := if nm then sLt e.Name x.Name else betterB e x
def sameF (x : api_Item) (nm : Bool) (e : api_Item) : Bool := sEq e.Name x.Name && (nm || decide (keyf e.Score = keyf x.Score))
theorem goL_len (f g : api_Item → Bool) (x : api_Item) : ∀ (l : Items) (d : Bool), (goL f g x l d).1.length ≤ l.length + 1 ∧ (d = true → (goL f g x l d).1.length = l.length)
  | l, true => by rw [goL_t]; simp
  | l, false => by
    rw [goL_f]
    cases h : l[pre f l]? with
    | none => simp
    | some e =>
      refine ⟨?_, fun h => by cases h⟩
      have := (List.getElem?_eq_some_iff.1 h).1
      simp only []
      split <;> simp <;> omega
theorem laid_step {l : Items} {x : api_Item} {nm : Bool} (hx : x.Score < W64) (hsc : ∀ e ∈ l, e.Score < W64) {n i : Nat} {out : Items} {d : Bool} (h1 : i < l.length) :
    moietyref05_Laid_l1 l x nm (n + 1) out d (i : Int) = (if (!d && !aheadF x nm l[i]) = true then (if (!sameF x nm l[i]) = true then (if (out.length + ([x] : List api_Item).length) * 24 ≤ 140737488355328 then moietyref05_Laid_j1 l (i : Int) (moietyref05_Laid_l1 l x nm n) (out ++ [x]) true else none) else moietyref05_Laid_j1 l (i : Int) (moietyref05_Laid_l1 l x nm n) out true) else moietyref05_Laid_j1 l (i : Int) (moietyref05_Laid_l1 l x nm n) out d) := by
  have hm := hsc _ (List.getElem_mem h1)
  have ha : moietyref03_Ahead l[i] x = some (betterB l[i] x) := ahead_eq hm hx
  have hs : moietyref01_Same l[i].Score x.Score = some (decide (keyf l[i].Score = keyf x.Score)) := rsame_eq hm hx
  rw [moietyref05_Laid_l1, if_pos (by simp; omega), idx_lt h1]
  cases nm
  · simp only [Bool.not_false, gd_t, Option.bind_some, Bool.true_and, ha, Bool.and_false, gd_f, Bool.false_and, Bool.or_false, Bool.and_true, Bool.false_or, aheadF, sameF, Bool.false_eq_true, if_false]
    cases hq : sEq l[i].Name x.Name
    · simp only [gd_f, Option.bind_some, Bool.false_and]
    · simp only [gd_t, Option.bind_some, Bool.true_and, hs]
  · simp only [Bool.not_true, gd_f, Option.bind_some, Bool.false_and, Bool.not_false, Bool.true_and, gd_t, Bool.false_or, Bool.true_or, Bool.and_false, Bool.and_true, aheadF, sameF, if_true]
theorem laid_loop {l : Items} {x : api_Item} {nm : Bool} (hx : x.Score < W64) (hsc : ∀ e ∈ l, e.Score < W64) (hl : l.length < 1000000) : ∀ (n i : Nat) (out : Items) (d : Bool), i + n = l.length → out.length + (if d = true then 0 else 1) ≤ i + 1 →
    moietyref05_Laid_l1 l x nm (n + 1) out d (i : Int) = some (out ++ (goL (aheadF x nm) (sameF x nm) x (l.drop i) d).1, (goL (aheadF x nm) (sameF x nm) x (l.drop i) d).2)
  | 0, i, out, d, h, _ => by
    rw [moietyref05_Laid_l1, if_neg (by simp; omega), List.drop_of_length_le (by omega)]
    simp [goL]
  | n + 1, i, out, d, h, ho => by
    have h1 : i < l.length := by omega
    rw [laid_step hx hsc h1, List.drop_eq_getElem_cons h1]
    simp only [moietyref05_Laid_j1, idx_lt h1, wr1 (show i < 9223372036854775807 by omega), Option.bind_some, goL]
    by_cases hc : (!d && !aheadF x nm l[i]) = true
    · rw [if_pos hc, if_pos hc]
      have hd : d = false := by cases d <;> simp_all
      subst hd
      simp only [Bool.false_eq_true, if_false] at ho
      by_cases hs : (!sameF x nm l[i]) = true
      · rw [if_pos hs, if_pos (by simp; omega), if_pos (by simp; omega), laid_loop hx hsc hl n (i + 1) _ true (by omega) (by simp; omega)]
        have : sameF x nm l[i] = false := by simpa using hs
        simp [this]
      · rw [if_neg hs, if_pos (by simp; omega), laid_loop hx hsc hl n (i + 1) _ true (by omega) (by simp; omega)]
        have : sameF x nm l[i] = true := by simpa using hs
        simp [this]
    · rw [if_neg hc, if_neg hc, if_pos (by simp; omega), laid_loop hx hsc hl n (i + 1) _ d (by omega) (by simp; omega)]
      simp
/-- A list with an item more. -/
def layL (x : api_Item) (nm : Bool) (l : Items) : Items := match l[pre (aheadF x nm) l]? with
  | some e => l.take (pre (aheadF x nm) l) ++ (if sameF x nm e then [] else [x]) ++ l.drop (pre (aheadF x nm) l)
  | none => l ++ [x]
theorem laid_eq {l : Items} {x : api_Item} {nm : Bool} (hx : x.Score < W64) (hsc : ∀ e ∈ l, e.Score < W64) (hl : l.length < 1000000) : moietyref05_Laid l x nm = some (layL x nm l) := by
  unfold moietyref05_Laid
  have := laid_loop (nm := nm) hx hsc hl l.length 0 [] false (by omega) (by simp)
  rw [show ((0 : Nat) : Int) = 0 from rfl] at this
  rw [show (Int.toNat ((l.length : Int) - (0 : Int)) + 1) = l.length + 1 by omega, this]
  simp only [Option.bind_some, List.nil_append, List.drop_zero]
  rw [goL_f]
  unfold layL
  cases h : l[pre (aheadF x nm) l]? with
  | none =>
    simp only [Bool.not_false, if_true, moietyref05_Laid_j2]
    rw [if_pos (by simp; omega)]
  | some e => simp only [Bool.not_true, Bool.false_eq_true, if_false, moietyref05_Laid_j2]
theorem has_loop {l : Items} {s : ByteArray} (hl : l.length < 1000000) : ∀ (n i : Nat), i + n = l.length → moietyref05_has_l1 l s (n + 1) (i : Int) = some (cond ((l.drop i).any (fun e => sEq e.Name s)) (.inl true) (.inr ()))
  | 0, i, h => by
    rw [moietyref05_has_l1, if_neg (by simp; omega), List.drop_of_length_le (by omega)]; rfl
  | n + 1, i, h => by
    have h1 : i < l.length := by omega
    rw [moietyref05_has_l1, if_pos (by simp; omega), idx_lt h1, List.drop_eq_getElem_cons h1, List.any_cons]
    simp only [Option.bind_some]
    by_cases hq : sEq l[i].Name s = true
    · rw [if_pos hq, hq]; rfl
    · have hq' : sEq l[i].Name s = false := by simpa using hq
      rw [if_neg hq, wr1 (by omega), has_loop hl n (i + 1) (by omega), hq', Bool.false_or]
theorem has_eq {l : Items} {s : ByteArray} (hl : l.length < 1000000) : moietyref05_has l s = some (l.any (fun e => sEq e.Name s)) := by
  unfold moietyref05_has
  have := has_loop (s := s) hl l.length 0 (by omega)
  rw [show ((0 : Nat) : Int) = 0 from rfl] at this
  rw [show (Int.toNat ((l.length : Int) - (0 : Int)) + 1) = l.length + 1 by omega, this]
  simp only [List.drop_zero]
  cases h : l.any (fun e => sEq e.Name s) <;> rfl
theorem filt_loop {a0 : api_Record} {a : api_Act} (hl : a0.List.length < 1000000) : ∀ (n i : Nat) (out : Items), i + n = a0.List.length → out.length ≤ i → moietyref05_do_l1 a0 a (n + 1) out (i : Int) = some (out ++ (a0.List.drop i).filter (fun e => !sEq e.Name a.S))
  | 0, i, out, h, _ => by
    rw [moietyref05_do_l1, if_neg (by simp; omega), List.drop_of_length_le (by omega)]; simp
  | n + 1, i, out, h, ho => by
    have h1 : i < a0.List.length := by omega
    rw [moietyref05_do_l1, if_pos (by simp; omega), idx_lt h1, List.drop_eq_getElem_cons h1]
    simp only [Option.bind_some, moietyref05_do_j3, wr1 (show i < 9223372036854775807 by omega)]
    rw [List.filter_cons]
    by_cases hq : (!sEq a0.List[i].Name a.S) = true
    · rw [if_pos hq, if_pos hq, if_pos (by simp; omega), filt_loop hl n (i + 1) _ (by omega) (by simp; omega), List.append_assoc]; rfl
    · rw [if_neg hq, if_neg hq, filt_loop hl n (i + 1) _ (by omega) (by omega)]
/-! ### both -/
/-- Names in order: which stand ahead, at, and behind. -/
theorem names_split {l : Items} {s : ByteArray} (hs : NS l) : (∀ e ∈ l.take (pre (fun e => sLt e.Name s) l), sEq e.Name s = false) ∧ (∀ e ∈ l.drop (pre (fun e => sLt e.Name s) l + 1), sEq e.Name s = false) := by
  constructor
  · intro e he
    obtain ⟨k, hk, rfl⟩ := List.getElem_of_mem he
    rw [List.length_take] at hk
    rw [List.getElem_take]
    have := pre_mono (s := s) hs (k := k) (by omega)
    rw [show decide (k < pre (fun e => sLt e.Name s) l) = true by simp; omega] at this
    exact sEq_ne.2 (sLt_ne this)
  · intro e he
    obtain ⟨k, hk, rfl⟩ := List.getElem_of_mem he
    rw [List.length_drop] at hk
    rw [List.getElem_drop]
    refine sEq_ne.2 fun h => ?_
    have hp : pre (fun e => sLt e.Name s) l < l.length := by omega
    have h1 := List.pairwise_iff_getElem.1 hs _ _ hp (show pre (fun e => sLt e.Name s) l + 1 + k < l.length by omega) (by omega)
    rw [h] at h1
    have := pre_at (List.getElem?_eq_getElem hp)
    rw [h1] at this; cases this
theorem split_at (l : Items) (k : Nat) (h : k < l.length) : l = l.take k ++ l[k] :: l.drop (k + 1) := by
  rw [← List.drop_eq_getElem_cons h, List.take_append_drop]
theorem any_isAt {l : Items} {s : ByteArray} (hs : NS l) : l.any (fun e => sEq e.Name s) = isAt s l := by
  obtain ⟨h1, h2⟩ := names_split (s := s) hs
  unfold isAt
  by_cases hp : pre (fun e => sLt e.Name s) l < l.length
  · rw [List.getElem?_eq_getElem hp]
    conv => lhs; rw [split_at l _ hp]
    have a1 : (l.take (pre (fun e => sLt e.Name s) l)).any (fun e => sEq e.Name s) = false := by
      rw [List.any_eq_false]; intro e he; rw [h1 e he]; decide
    have a2 : (l.drop (pre (fun e => sLt e.Name s) l + 1)).any (fun e => sEq e.Name s) = false := by
      rw [List.any_eq_false]; intro e he; rw [h2 e he]; decide
    rw [List.any_append, List.any_cons, a1, a2]; simp
  · rw [List.getElem?_eq_none (by omega)]
    have : l.take (pre (fun e => sLt e.Name s) l) = l := List.take_of_length_le (by omega)
    rw [this] at h1
    rw [List.any_eq_false]; intro e he; rw [h1 e he]; decide
theorem filt_isAt {l : Items} {s : ByteArray} (hs : NS l) : l.filter (fun e => !sEq e.Name s) = if isAt s l = true then l.take (pre (fun e => sLt e.Name s) l) ++ l.drop (pre (fun e => sLt e.Name s) l + 1) else l := by
  obtain ⟨h1, h2⟩ := names_split (s := s) hs
  unfold isAt
  by_cases hp : pre (fun e => sLt e.Name s) l < l.length
  · rw [List.getElem?_eq_getElem hp]
    conv => lhs; rw [split_at l _ hp]
    have a1 : (l.take (pre (fun e => sLt e.Name s) l)).filter (fun e => !sEq e.Name s) = l.take (pre (fun e => sLt e.Name s) l) := List.filter_eq_self.2 fun e he => by rw [h1 e he]; rfl
    have a2 : (l.drop (pre (fun e => sLt e.Name s) l + 1)).filter (fun e => !sEq e.Name s) = l.drop (pre (fun e => sLt e.Name s) l + 1) := List.filter_eq_self.2 fun e he => by rw [h2 e he]; rfl
    rw [List.filter_append, List.filter_cons, a1, a2]
    by_cases hq : sEq (l[pre (fun e => sLt e.Name s) l]).Name s = true
    · rw [if_pos hq, if_neg (by rw [hq]; decide)]
    · rw [if_neg hq, if_pos (by simpa using hq)]
      exact (split_at l _ hp).symm
  · rw [List.getElem?_eq_none (by omega)]
    have : l.take (pre (fun e => sLt e.Name s) l) = l := List.take_of_length_le (by omega)
    rw [this] at h1
    rw [if_neg (by simp)]
    exact List.filter_eq_self.2 fun e he => by rw [h1 e he]; rfl
theorem layL_isAt {l : Items} {s : ByteArray} : layL { Score := 0, Name := s } true l = if isAt s l = true then l else l.take (pre (fun e => sLt e.Name s) l) ++ [{ Score := 0, Name := s }] ++ l.drop (pre (fun e => sLt e.Name s) l) := by
  have hf : aheadF { Score := 0, Name := s } true = fun e => sLt e.Name s := rfl
  unfold layL isAt
  rw [hf]
  cases h : l[pre (fun e => sLt e.Name s) l]? with
  | none =>
    have hp := List.getElem?_eq_none_iff.1 h
    rw [if_neg (by simp), List.take_of_length_le hp, List.drop_of_length_le hp, List.append_nil]
  | some e =>
    simp only [sameF, Bool.true_or, Bool.and_true]
    by_cases hq : sEq e.Name s = true
    · rw [if_pos hq, if_pos hq, List.append_nil, List.take_append_drop]
    · rw [if_neg hq, if_neg hq]
theorem clone_i {l : Items} (h : l.length < 1000000) : slices_Clone_api_Item_api_Item l = some l := by
  unfold slices_Clone_api_Item_api_Item
  rw [if_pos (by omega)]
theorem offer_loop {r : api_Record} {a : api_Act} (ha : a.X < W64) (hsc : ∀ e ∈ r.List, e.Score < W64) (hl : r.List.length < 1000000) : ∀ (n i : Nat), i + n = r.List.length →
    rule_offer_l1 r a (n + 1) (i : Int) = some ((i + pre (aheadF { Score := a.X, Name := a.S } false) (r.List.drop i) : Nat) : Int)
  | 0, i, h => by
    have hd : decide ((i : Int) < (r.List.length : Int)) = false := by simp; omega
    rw [rule_offer_l1, hd, List.drop_of_length_le (by omega)]
    simp [gd, pre]
  | n + 1, i, h => by
    have h1 : i < r.List.length := by omega
    have hd : decide ((i : Int) < (r.List.length : Int)) = true := by simp; omega
    rw [rule_offer_l1, hd, idx_lt h1, List.drop_eq_getElem_cons h1]
    simp only [gd_t, Option.bind_some, Bool.true_and]
    rw [better_eq (hsc _ (List.getElem_mem h1)) ha]
    simp only [Option.bind_some, pre, aheadF, Bool.false_eq_true, if_false, wr1 (show i < 9223372036854775807 by omega)]
    by_cases hb : betterB r.List[i] { Score := a.X, Name := a.S } = true
    · rw [if_pos hb, if_pos hb, offer_loop ha hsc hl n (i + 1) (by omega)]
      congr 2; omega
    · rw [if_neg hb, if_neg hb]; simp
theorem offer_pre {r : api_Record} {a : api_Act} (ha : a.X < W64) (hsc : ∀ e ∈ r.List, e.Score < W64) (hl : r.List.length < 1000000) : rule_offer_l1 r a (Int.toNat ((r.List.length : Int) - (0 : Int)) + 1) (0 : Int) = some ((pre (aheadF { Score := a.X, Name := a.S } false) r.List : Nat) : Int) := by
  have := offer_loop (a := a) ha hsc hl r.List.length 0 (by omega)
  rw [show ((0 : Nat) : Int) = 0 from rfl] at this
  rw [show (Int.toNat ((r.List.length : Int) - (0 : Int)) + 1) = r.List.length + 1 by omega, this]
  simp
/-- Neither stands ahead of the other: they are the same. -/
theorem better_same {e x : api_Item} (h1 : betterB e x = false) : (!betterB x e) = sameF x false e := by
  unfold betterB sameF at *
  by_cases hk : keyf e.Score = keyf x.Score
  · rw [if_pos hk] at h1
    rw [if_pos hk.symm, hk]
    simp only [Bool.false_or, decide_true, Bool.and_true]
    by_cases hn : e.Name = x.Name
    · rw [hn, sLt_irr, sEq_self]; rfl
    · rw [sLt_tri h1 hn, sEq_ne.2 hn]; rfl
  · rw [if_neg hk] at h1
    rw [if_neg (fun h => hk h.symm)]
    have := of_decide_eq_false h1
    have h3 : keyf e.Score < keyf x.Score := by omega
    simp [h3, hk]
end Go.CL

/- Records that may be; sums of floats. -/
set_option linter.unusedVariables false
set_option linter.unusedSimpArgs false
namespace Go.CL
open Go

theorem firstC_zero {k : Int} {l : Items} : ∀ (n i : Nat), firstC k l i n = 0 ↔ ∀ j, i ≤ j → j < i + n → itemC k l j = 0
  | 0, i => ⟨fun _ j h1 h2 => by omega, fun _ => rfl⟩
  | n + 1, i => by
    by_cases h : itemC k l i = 0
    · rw [firstC_z h, firstC_zero n (i + 1)]
      constructor
      · intro hh j h1 h2
        by_cases e : j = i
        · rw [e]; exact h
        · exact hh j (by omega) (by omega)
      · intro hh j h1 h2; exact hh j (by omega) (by omega)
    · rw [firstC_e h]
      exact ⟨fun e => absurd e h, fun hh => absurd (hh i (Nat.le_refl _) (by omega)) h⟩
theorem checkD_zero {t n b r l : Bool} {a : api_Record} : checkD t n b r l a = 0 ↔ onlyB t n b r l a = true ∧ a.Text.size ≤ 64 ∧ (b = true → -2305843009213693952 ≤ a.Low ∧ a.High ≤ 2305843009213693952 ∧ a.Low ≤ a.Num ∧ a.Num ≤ a.High) ∧ a.Real = canon a.Real ∧ (l = true → 1 ≤ a.Cap ∧ a.Cap ≤ 32 ∧ (a.List.length : Int) ≤ a.Cap ∧ ∀ i, i < a.List.length → itemC a.Kind a.List i = 0) := by
  unfold checkD
  by_cases h1 : onlyB t n b r l a = false
  · rw [if_pos h1, h1]; simp
  · have h1' : onlyB t n b r l a = true := by simpa using h1
    rw [if_neg h1, h1']
    by_cases h2 : (64 : Int) < a.Text.size
    · rw [if_pos h2]; exact ⟨fun h => absurd h (by decide), fun h => by omega⟩
    · rw [if_neg h2]
      by_cases h3 : b = true ∧ (a.Low < -2305843009213693952 ∨ 2305843009213693952 < a.High ∨ a.Num < a.Low ∨ a.High < a.Num)
      · rw [if_pos h3]; exact ⟨fun h => absurd h (by decide), fun h => by have := h.2.2.1 h3.1; omega⟩
      · rw [if_neg h3]
        by_cases h4 : a.Real = canon a.Real
        · rw [if_neg (fun h => h h4)]
          cases l
          · rw [if_pos rfl]
            refine ⟨fun _ => ⟨rfl, by omega, fun hb => ?_, h4, fun h => absurd h (by decide)⟩, fun _ => rfl⟩
            have : ¬ (a.Low < -2305843009213693952 ∨ 2305843009213693952 < a.High ∨ a.Num < a.Low ∨ a.High < a.Num) := fun h => h3 ⟨hb, h⟩
            omega
          · rw [if_neg (by decide)]
            by_cases h5 : a.Cap < 1 ∨ 32 < a.Cap
            · rw [if_pos h5]; exact ⟨fun h => absurd h (by decide), fun h => by have := h.2.2.2.2 rfl; omega⟩
            · rw [if_neg h5]
              by_cases h6 : a.Cap < a.List.length
              · rw [if_pos h6]; exact ⟨fun h => absurd h (by decide), fun h => by have := h.2.2.2.2 rfl; omega⟩
              · rw [if_neg h6, firstC_zero]
                constructor
                · intro h
                  refine ⟨rfl, by omega, fun hb => ?_, h4, fun _ => ⟨by omega, by omega, by omega, fun i hi => h i (Nat.zero_le _) (by omega)⟩⟩
                  have : ¬ (a.Low < -2305843009213693952 ∨ 2305843009213693952 < a.High ∨ a.Num < a.Low ∨ a.High < a.Num) := fun h => h3 ⟨hb, h⟩
                  omega
                · intro h j _ hj
                  exact (h.2.2.2.2 rfl).2.2.2 j (by omega)
        · rw [if_pos h4]; exact ⟨fun h => absurd h (by decide), fun h => absurd h.2.2.2.1 h4⟩
def GoodR (a : api_Record) : Prop := 1 ≤ a.Kind ∧ a.Kind ≤ 9 ∧ onlyB (decide (a.Kind = 1)) (decide (2 ≤ a.Kind ∧ a.Kind ≤ 4)) (decide (a.Kind = 4)) (decide (5 ≤ a.Kind ∧ a.Kind ≤ 7)) (decide (8 ≤ a.Kind)) a = true ∧ a.Text.size ≤ 64 ∧ (a.Kind = 4 → -2305843009213693952 ≤ a.Low ∧ a.High ≤ 2305843009213693952 ∧ a.Low ≤ a.Num ∧ a.Num ≤ a.High) ∧ a.Real = canon a.Real ∧
  (8 ≤ a.Kind → 1 ≤ a.Cap ∧ a.Cap ≤ 32 ∧ (a.List.length : Int) ≤ a.Cap ∧ ∀ i, i < a.List.length → itemC a.Kind a.List i = 0)
theorem check_good {a : api_Record} (ha : RecOk a) : rec_Check a = some 0 ↔ GoodR a := by
  by_cases hk : a.Kind ≤ 0 ∨ 10 ≤ a.Kind
  · have : rec_Check a ≠ some 0 := by
      obtain ⟨c, hc, hc2⟩ := check_both ha
      unfold moietyref03_Check at hc2
      rw [if_pos (by simp; omega)] at hc2
      rw [hc, ← hc2]; decide
    exact ⟨fun h => absurd h this, fun h => by obtain ⟨h1, h2, _⟩ := h; omega⟩
  · have fin : ∀ {t n b r l : Bool}, rec_shaped a.Kind = some ⟨t, n, b, r, l⟩ → t = decide (a.Kind = 1) → n = decide (2 ≤ a.Kind ∧ a.Kind ≤ 4) → b = decide (a.Kind = 4) → r = decide (5 ≤ a.Kind ∧ a.Kind ≤ 7) → l = decide (8 ≤ a.Kind) → (rec_Check a = some 0 ↔ GoodR a) := by
      intro t n b r l hs h1 h2 h3 h4 h5
      rw [check_shape ha hk hs]
      constructor
      · intro h
        obtain ⟨g1, g2, g3, g4, g5⟩ := checkD_zero.1 (Option.some.inj h)
        refine ⟨by omega, by omega, by rw [← h1, ← h2, ← h3, ← h4, ← h5]; exact g1, g2, fun hk4 => g3 (by rw [h3]; simpa using hk4), g4, fun hk8 => g5 (by rw [h5]; simpa using hk8)⟩
      · rintro ⟨_, _, g1, g2, g3, g4, g5⟩
        congr 1
        exact checkD_zero.2 ⟨by rw [h1, h2, h3, h4, h5]; exact g1, g2, fun hb => g3 (by rw [h3] at hb; simpa using hb), g4, fun hb => g5 (by rw [h5] at hb; simpa using hb)⟩
    have hk' : a.Kind = 1 ∨ a.Kind = 2 ∨ a.Kind = 3 ∨ a.Kind = 4 ∨ a.Kind = 5 ∨ a.Kind = 6 ∨ a.Kind = 7 ∨ a.Kind = 8 ∨ a.Kind = 9 := by omega
    rcases hk' with h | h | h | h | h | h | h | h | h <;> rw [h] at fin
    · exact fin shape1 rfl rfl rfl rfl rfl
    · exact fin shape2 rfl rfl rfl rfl rfl
    · exact fin shape3 rfl rfl rfl rfl rfl
    · exact fin shape4 rfl rfl rfl rfl rfl
    · exact fin shape5 rfl rfl rfl rfl rfl
    · exact fin shape6 rfl rfl rfl rfl rfl
    · exact fin shape7 rfl rfl rfl rfl rfl
    · exact fin shape8 rfl rfl rfl rfl rfl
    · exact fin shape9 rfl rfl rfl rfl rfl
/-- Names in order of a Set that may be. -/
theorem good_names {a : api_Record} (h : GoodR a) (hk : a.Kind = 8) : NS a.List := by
  obtain ⟨_, _, _, _, _, _, h8⟩ := h
  obtain ⟨_, _, _, hi⟩ := h8 (by omega)
  have step : ∀ i, i + 1 < a.List.length → sLt ((a.List[i]?).getD default).Name ((a.List[i + 1]?).getD default).Name = true := by
    intro i hi1
    have := hi (i + 1) hi1
    unfold itemC at this
    rw [List.getElem?_eq_getElem hi1] at this
    simp only [Nat.add_sub_cancel] at this
    split at this
    · cases this
    · split at this
      · cases this
      · split at this
        · cases this
        · rename_i h3
          rw [List.getElem?_eq_getElem hi1]
          cases hq : sLt ((a.List[i]?).getD default).Name a.List[i + 1].Name
          · exact absurd ⟨by omega, hk, hq⟩ h3
          · exact hq
  have far : ∀ d i, i + d + 1 < a.List.length → sLt ((a.List[i]?).getD default).Name ((a.List[i + d + 1]?).getD default).Name = true := by
    intro d
    induction d with
    | zero => intro i h; exact step i h
    | succ d ih => intro i h; exact sLt_trans (ih i (by omega)) (step (i + d + 1) (by omega))
  refine List.pairwise_iff_getElem.2 fun i j hi hj hij => ?_
  have := far (j - i - 1) i (by omega)
  rw [show i + (j - i - 1) + 1 = j by omega, List.getElem?_eq_getElem hi, List.getElem?_eq_getElem hj] at this
  exact this
/-! ### floats -/
theorem word_lt {neg : Bool} {r : Nat} (h : r ≤ Ieee.double.infRung) : Ieee.double.word neg r < W64 := by
  have h1 : Ieee.double.infRung = 9218868437227405312 := by decide
  have h2 : Ieee.double.signWeight = 9223372036854775808 := by decide
  unfold Ieee.Format.word
  rw [h1] at h
  show _ < 18446744073709551616
  split
  · rw [h2]; omega
  · omega
theorem nearest_lt (neg : Bool) (mag : Nat) (place : Int) : Ieee.double.nearest neg mag place < W64 := by
  unfold Ieee.Format.nearest
  split
  · exact word_lt (Nat.zero_le _)
  · exact word_lt (Nat.min_le_right _ _)
theorem write_lt {d : Ieee.Datum} (h : ∀ n f, d ≠ .nan n f) : Ieee.double.write d < W64 := by
  cases d with
  | number n m p => exact nearest_lt n m p
  | infinity n => exact word_lt (Nat.le_refl _)
  | nan n f => exact absurd rfl (h n f)
theorem sum_nan {x y d : Ieee.Datum} (h : x.sum y = some d) : ∀ n f, d ≠ .nan n f := by
  intro n f e
  subst e
  cases x <;> cases y <;> simp [Ieee.Datum.sum] at h
theorem product_nan {x y d : Ieee.Datum} (h : x.product y = some d) : ∀ n f, d ≠ .nan n f := by
  intro n f e
  subst e
  cases x <;> cases y <;> simp [Ieee.Datum.product] at h
theorem fadd_lt (m n : Nat) : fadd m n < W64 := by
  unfold fadd Ieee.Format.add
  cases h : (Ieee.double.read m).sum (Ieee.double.read n) with
  | none => exact (by decide : 9221120237041090561 < W64)
  | some d => simpa using write_lt (sum_nan h)
theorem fmul_lt (m n : Nat) : fmul m n < W64 := by
  unfold fmul Ieee.Format.mul
  cases h : (Ieee.double.read m).product (Ieee.double.read n) with
  | none => exact (by decide : 9221120237041090561 < W64)
  | some d => simpa using write_lt (product_nan h)
theorem place_number {z : Nat} (hz : z < W64) : ∃ p, moietyref01_Place z = some p ∧ moietyref01_Number p = some (canon z) := by
  have hz' : z < 18446744073709551616 := hz
  unfold moietyref01_Place moietyref01_Number canon NANB
  rw [rnone_eq hz]
  simp only [Option.bind_some]
  by_cases hn : isn z
  · refine ⟨18444492273895866369, by simp [hn]; decide, ?_⟩
    rw [if_pos (by decide), if_pos hn]; decide
  · simp only [hn, decide_false, Bool.false_eq_true, if_false]
    by_cases ht : (9223372036854775808 : Int) ≤ z
    · rw [if_pos (by simpa using ht)]
      refine ⟨_, rfl, ?_⟩
      rw [wru (x := (9223372036854775808 : Int) - 1) (by decide) (by decide), wru (x := (z : Int) - 9223372036854775808) (by omega) (by omega), wru (by omega) (by omega)]
      rw [if_neg (by simp; omega)]
      rw [wru (x := (9223372036854775808 : Int) - 1 - _) (by omega) (by omega), wru (by omega) (by omega)]
      congr 1; omega
    · rw [if_neg (by simpa using ht)]
      refine ⟨_, rfl, ?_⟩
      rw [wru (by omega) (by omega), if_pos (by simp; omega), wru (by omega) (by omega)]
      congr 1; omega
theorem canon_canon {z : Nat} : canon (canon z) = canon z := by
  unfold canon
  by_cases h : isn z
  · rw [if_pos h, if_pos (show isn NANB by unfold isn rg INF NANB TOP; decide)]
  · rw [if_neg h, if_neg h]
theorem max_both {a b : Nat} (ha : a < W64) (hb : b < W64) (ca : a = canon a) (cb : b = canon b) : ∃ m, flo_Max a b = some m ∧ moietyref01_Max a b = some m ∧ (m = a ∨ m = b) := by
  unfold flo_Max moietyref01_Max
  rw [less_eq ha hb, rless_eq ha hb, canon_eq ha, canon_eq hb, ← ca, ← cb]
  by_cases h : keyf a < keyf b
  · exact ⟨b, by simp [h], by simp [h], .inr rfl⟩
  · exact ⟨a, by simp [h], by simp [h], .inl rfl⟩
theorem min_both {a b : Nat} (ha : a < W64) (hb : b < W64) (ca : a = canon a) (cb : b = canon b) : ∃ m, flo_Min a b = some m ∧ moietyref01_Min a b = some m ∧ (m = a ∨ m = b) := by
  unfold flo_Min moietyref01_Min
  rw [less_eq hb ha, rless_eq hb ha, canon_eq ha, canon_eq hb, ← ca, ← cb]
  by_cases h : keyf b < keyf a
  · exact ⟨b, by simp [h], by simp [h], .inr rfl⟩
  · exact ⟨a, by simp [h], by simp [h], .inl rfl⟩
end Go.CL

/- What acts do: rule.changes and moietyref05.do, kind by kind. -/
set_option linter.unusedVariables false
set_option linter.unusedSimpArgs false
namespace Go.CL
open Go

def I64 (x : Int) : Prop := -9223372036854775808 ≤ x ∧ x ≤ 9223372036854775807
structure RecW (r : api_Record) : Prop where
  ok : RecOk r
  num : I64 r.Num
  low : I64 r.Low
  high : I64 r.High
  kind : I64 r.Kind
  len : r.List.length ≤ 1000
structure ActW (a : api_Act) : Prop where
  ok : ActOk a
  n : I64 a.N
  mkr : RecW a.Make
  xc : a.X = canon a.X
  inout : (a.Kind = 10 ∨ a.Kind = 11) → 0 ≤ a.N ∧ a.N ≤ 2305843009213693952
  s64 : a.S.size ≤ 64
  s16 : ¬ (5 ≤ a.Kind ∧ a.Kind ≤ 6) → a.S.size ≤ 16
abbrev ans (c : Int) : api_Answer := { Code := c, Num := 0, Rec := default }
theorem ans0 : (default : api_Answer) = ans 0 := rfl
def Chg (r : api_Record) (a : api_Act) : Prop := ∃ c r' o, rule_change a.Kind r a (default : api_Answer) = some (c, r', o) ∧ moietyref05_do r a = some (if c = 0 then (r', o) else (r, ans c)) ∧ RecW r' ∧ RecW o.Rec ∧ (c = 0 → o.Code = 0 ∧ o.Num = 0)
theorem wrap_rng (x : Int) : I64 (IntKind.i64.wrap x) := by unfold I64; rw [IntKind.wrap_i64]; omega
theorem zrc_w : RecW (default : api_Record) := ⟨⟨by decide, by decide, fun e he => by cases he⟩, by unfold I64; decide, by unfold I64; decide, by unfold I64; decide, by unfold I64; decide, by decide⟩
theorem RecW.withNum {r : api_Record} (h : RecW r) {x : Int} (hx : I64 x) : RecW { r with Num := x } := ⟨⟨h.ok.real, h.ok.len, h.ok.sc⟩, hx, h.low, h.high, h.kind, h.len⟩
theorem RecW.withText {r : api_Record} (h : RecW r) (t : ByteArray) : RecW { r with Text := t } := ⟨⟨h.ok.real, h.ok.len, h.ok.sc⟩, h.num, h.low, h.high, h.kind, h.len⟩
theorem RecW.withReal {r : api_Record} (h : RecW r) {x : Nat} (hx : x < W64) : RecW { r with Real := x } := ⟨⟨hx, h.ok.len, h.ok.sc⟩, h.num, h.low, h.high, h.kind, h.len⟩
theorem RecW.withList {r : api_Record} (h : RecW r) {l : Items} (h1 : l.length ≤ 1000) (h2 : ∀ e ∈ l, e.Score < W64) : RecW { r with List := l } := ⟨⟨h.ok.real, by show l.length < _; omega, h2⟩, h.num, h.low, h.high, h.kind, h1⟩
theorem rclone_eq {r : api_Record} (h : r.List.length ≤ 1000) : rec_Clone r = some r := by
  unfold rec_Clone slices_Clone_api_Item_api_Item
  rw [if_pos (by omega)]; rfl
theorem copied_eq {r : api_Record} (h : r.List.length ≤ 1000) : moietyref05_copied r = some r := by
  unfold moietyref05_copied
  rw [if_pos (by simp; omega)]; rfl
variable {r : api_Record} {a : api_Act}
theorem chg_put (h : a.Kind = 5) (hr : RecW r) : Chg r a := by
  refine ⟨0, { r with Text := a.S }, ans 0, ?_, ?_, hr.withText _, zrc_w, fun _ => ⟨rfl, rfl⟩⟩
  · rw [h]; rfl
  · unfold moietyref05_do; rw [h]; rfl
theorem chg_swap (h : a.Kind = 6) (hr : RecW r) : Chg r a := by
  refine ⟨0, { r with Text := a.S }, { ans 0 with Rec := r }, ?_, ?_, hr.withText _, hr, fun _ => ⟨rfl, rfl⟩⟩
  · rw [h]
    show rule_changes_2 r a default = _
    unfold rule_changes_2
    rw [rclone_eq hr.len]; rfl
  · unfold moietyref05_do; rw [h, copied_eq hr.len]; rfl
theorem chg_add (h : a.Kind = 7) (hr : RecW r) : Chg r a := by
  refine ⟨0, { r with Num := IntKind.i64.wrap (r.Num + a.N) }, ans 0, ?_, ?_, hr.withNum (wrap_rng _), zrc_w, fun _ => ⟨rfl, rfl⟩⟩
  · rw [h]; rfl
  · unfold moietyref05_do; rw [h]; rfl
theorem plus_over (hr : I64 r.Num) (hn : I64 a.N) : (((decide ((0 : Int) < a.N)) && (decide ((IntKind.i64.wrap ((9223372036854775807 : Int) - a.N)) < r.Num))) || ((decide (a.N < (0 : Int))) && (decide (r.Num < (IntKind.i64.wrap ((-9223372036854775808 : Int) - a.N)))))) =
    ((((decide ((0 : Int) < r.Num)) && (decide ((0 : Int) < a.N))) && (decide ((IntKind.i64.wrap (r.Num + a.N)) < (0 : Int)))) || (((decide (r.Num < (0 : Int))) && (decide (a.N < (0 : Int)))) && (decide ((0 : Int) ≤ (IntKind.i64.wrap (r.Num + a.N)))))) := by
  unfold I64 at hr hn
  rw [Bool.eq_iff_iff]
  simp only [Bool.or_eq_true, Bool.and_eq_true, decide_eq_true_eq, IntKind.wrap_i64]
  omega
theorem chg_plus (h : a.Kind = 8) (hr : RecW r) (ha : ActW a) : Chg r a := by
  have e1 : rule_change a.Kind r a default = rule_plus r a default := by rw [h]; rfl
  have e2 : moietyref05_do r a = (moietyref05_over r.Num a.N).bind fun r7 => (if r7 then (moietyref05_do_j1 r (ans 9)) else (moietyref05_do_j1 { r with Num := IntKind.i64.wrap (r.Num + a.N) } (ans 0))) := by unfold moietyref05_do; rw [h]; rfl
  have hp := plus_over hr.num ha.n
  unfold Chg
  rw [e1, e2]
  unfold rule_plus moietyref05_over moietyref05_do_j1
  rw [hp]
  simp only [Option.bind_some]
  split
  · exact ⟨9, r, _, rfl, rfl, hr, zrc_w, fun h => by cases h⟩
  · exact ⟨0, _, _, rfl, rfl, hr.withNum (wrap_rng _), zrc_w, fun _ => ⟨rfl, rfl⟩⟩
theorem chg_reach (h : a.Kind = 9 ∨ a.Kind = 12) (hr : RecW r) : Chg r a := by
  have e1 : rule_change a.Kind r a default = rule_atLeast r a default := by rcases h with h | h <;> rw [h] <;> rfl
  have e2 : moietyref05_do r a = (if (decide (r.Num < a.N)) then (moietyref05_do_j1 r (ans 11)) else (moietyref05_do_j1 r (ans 0))) := by rcases h with h | h <;> unfold moietyref05_do moietyref05_do_j2 <;> rw [h] <;> rfl
  unfold Chg
  rw [e1, e2]
  unfold rule_atLeast moietyref05_do_j1
  split
  · exact ⟨11, r, _, rfl, rfl, hr, zrc_w, fun h => by cases h⟩
  · exact ⟨0, r, _, rfl, rfl, hr, zrc_w, fun _ => ⟨rfl, rfl⟩⟩
theorem purse (hg : GoodR r) (hk : r.Kind = 4) : -2305843009213693952 ≤ r.Low ∧ r.High ≤ 2305843009213693952 ∧ r.Low ≤ r.Num ∧ r.Num ≤ r.High := hg.2.2.2.2.1 hk
theorem chg_in (h : a.Kind = 10) (hr : RecW r) (hg : GoodR r) (hk : r.Kind = 4) (ha : ActW a) : Chg r a := by
  have e1 : rule_change a.Kind r a default = rule_changes_4 r a default := by rw [h]; rfl
  have e2 : moietyref05_do r a = (if (decide (r.High < IntKind.i64.wrap (r.Num + a.N))) then (moietyref05_do_j1 r (ans 9)) else (moietyref05_do_j1 { r with Num := IntKind.i64.wrap (r.Num + a.N) } (ans 0))) := by unfold moietyref05_do moietyref05_do_j2; rw [h]; rfl
  obtain ⟨p1, p2, p3, p4⟩ := purse hg hk
  obtain ⟨n1, n2⟩ := ha.inout (.inl h)
  have hd : decide (IntKind.i64.wrap (r.High - r.Num) < a.N) = decide (r.High < IntKind.i64.wrap (r.Num + a.N)) := by
    rw [wr (x := r.High - r.Num) (by omega) (by omega), wr (x := r.Num + a.N) (by omega) (by omega)]
    apply decide_eq_decide.2; omega
  unfold Chg
  rw [e1, e2]
  unfold rule_changes_4 moietyref05_do_j1
  rw [hd]
  split
  · exact ⟨9, r, _, rfl, rfl, hr, zrc_w, fun h => by cases h⟩
  · exact ⟨0, _, _, rfl, rfl, hr.withNum (wrap_rng _), zrc_w, fun _ => ⟨rfl, rfl⟩⟩
theorem chg_out (h : a.Kind = 11) (hr : RecW r) (hg : GoodR r) (hk : r.Kind = 4) (ha : ActW a) : Chg r a := by
  have e1 : rule_change a.Kind r a default = rule_changes_5 r a default := by rw [h]; rfl
  have e2 : moietyref05_do r a = (if (decide (IntKind.i64.wrap (r.Num - a.N) < r.Low)) then (moietyref05_do_j1 r (ans 10)) else (moietyref05_do_j1 { r with Num := IntKind.i64.wrap (r.Num - a.N) } (ans 0))) := by unfold moietyref05_do moietyref05_do_j2; rw [h]; rfl
  obtain ⟨p1, p2, p3, p4⟩ := purse hg hk
  obtain ⟨n1, n2⟩ := ha.inout (.inr h)
  have hd : decide (IntKind.i64.wrap (r.Num - r.Low) < a.N) = decide (IntKind.i64.wrap (r.Num - a.N) < r.Low) := by
    rw [wr (x := r.Num - r.Low) (by omega) (by omega), wr (x := r.Num - a.N) (by omega) (by omega)]
    apply decide_eq_decide.2; omega
  unfold Chg
  rw [e1, e2]
  unfold rule_changes_5 moietyref05_do_j1
  rw [hd]
  split
  · exact ⟨10, r, _, rfl, rfl, hr, zrc_w, fun h => by cases h⟩
  · exact ⟨0, _, _, rfl, rfl, hr.withNum (wrap_rng _), zrc_w, fun _ => ⟨rfl, rfl⟩⟩
theorem chg_real {m : Nat} {ψ : Nat → Nat → Option Nat} (h : rule_change a.Kind r a default = rule_real_1 ψ r a default) (h1 : ψ r.Real a.X = some m) (hm : m < W64) (h2 : moietyref05_do r a = some ({ r with Real := m }, ans 0)) (hr : RecW r) : Chg r a := by
  refine ⟨0, { r with Real := m }, ans 0, ?_, h2, hr.withReal hm, zrc_w, fun _ => ⟨rfl, rfl⟩⟩
  rw [h]
  unfold rule_real_1
  rw [h1]; rfl
theorem good_real (hg : GoodR r) : r.Real = canon r.Real := hg.2.2.2.2.2.1
theorem chg_raise (h : a.Kind = 13) (hr : RecW r) (hg : GoodR r) (ha : ActW a) : Chg r a := by
  obtain ⟨m, m1, m2, m3⟩ := max_both hr.ok.real ha.ok.2 (good_real hg) ha.xc
  refine chg_real (m := m) (ψ := fun x y => flo_Max x y) (by rw [h]; rfl) m1 (by rcases m3 with rfl | rfl; exact hr.ok.real; exact ha.ok.2) ?_ hr
  unfold moietyref05_do moietyref05_do_j2; rw [h, m2]; rfl
theorem chg_lower (h : a.Kind = 14) (hr : RecW r) (hg : GoodR r) (ha : ActW a) : Chg r a := by
  obtain ⟨m, m1, m2, m3⟩ := min_both hr.ok.real ha.ok.2 (good_real hg) ha.xc
  refine chg_real (m := m) (ψ := fun x y => flo_Min x y) (by rw [h]; rfl) m1 (by rcases m3 with rfl | rfl; exact hr.ok.real; exact ha.ok.2) ?_ hr
  unfold moietyref05_do moietyref05_do_j2; rw [h, m2]; rfl
theorem chg_shift (h : a.Kind = 15) (hr : RecW r) : Chg r a := by
  have hz := fadd_lt r.Real a.X
  obtain ⟨p, p1, p2⟩ := place_number hz
  refine chg_real (m := canon (fadd r.Real a.X)) (ψ := fun x y => flo_Plus x y) (by rw [h]; rfl) (by show flo_Plus r.Real a.X = _; unfold flo_Plus; rw [canon_eq hz]; rfl) (canon_lt hz) ?_ hr
  unfold moietyref05_do moietyref05_do_j2; rw [h, p1]
  show ((moietyref01_Number p).bind _) = _
  rw [p2]; rfl
theorem chg_scale (h : a.Kind = 16) (hr : RecW r) : Chg r a := by
  have hz := fmul_lt r.Real a.X
  obtain ⟨p, p1, p2⟩ := place_number hz
  refine chg_real (m := canon (fmul r.Real a.X)) (ψ := fun x y => flo_Times x y) (by rw [h]; rfl) (by show flo_Times r.Real a.X = _; unfold flo_Times; rw [canon_eq hz]; rfl) (canon_lt hz) ?_ hr
  unfold moietyref05_do moietyref05_do_j2; rw [h, p1]
  show ((moietyref01_Number p).bind _) = _
  rw [p2]; rfl
theorem chg_fix (h : a.Kind = 17) (hr : RecW r) (ha : ActW a) : Chg r a := by
  refine chg_real (m := a.X) (ψ := fun x y => rule_changes_6 x y) (by rw [h]; rfl) rfl ha.ok.2 ?_ hr
  unfold moietyref05_do moietyref05_do_j2; rw [h]; rfl
theorem good_list (hg : GoodR r) (hk : 8 ≤ r.Kind) : 1 ≤ r.Cap ∧ r.Cap ≤ 32 ∧ (r.List.length : Int) ≤ r.Cap := by
  obtain ⟨h1, h2, h3, _⟩ := hg.2.2.2.2.2.2 hk
  exact ⟨h1, h2, h3⟩
theorem chg_has (h : a.Kind = 20) (hr : RecW r) (hg : GoodR r) (hk : r.Kind = 8) : Chg r a := by
  have hs := good_names hg hk
  have hl := hr.len
  have e1 : rule_change a.Kind r a default = rule_changes_8 r a default := by rw [h]; rfl
  have e2 : moietyref05_do r a = (moietyref05_has r.List a.S).bind fun r59 => (if (!r59) then (moietyref05_do_j1 r (ans 11)) else (moietyref05_do_j1 r (ans 0))) := by unfold moietyref05_do moietyref05_do_j2; rw [h]; rfl
  unfold Chg
  rw [e1, e2]
  unfold rule_changes_8 moietyref05_do_j1
  rw [find_eq hs (by omega), has_eq (by omega), any_isAt hs]
  simp only [Option.bind_some]
  split
  · exact ⟨11, r, _, rfl, rfl, hr, zrc_w, fun h => by cases h⟩
  · exact ⟨0, r, _, rfl, rfl, hr, zrc_w, fun _ => ⟨rfl, rfl⟩⟩
theorem chg_join (h : a.Kind = 18) (hr : RecW r) (hg : GoodR r) (hk : r.Kind = 8) : Chg r a := by
  have hs := good_names hg hk
  have hl := hr.len
  obtain ⟨c1, c2, c3⟩ := good_list hg (by omega)
  have e1 : rule_change a.Kind r a default = rule_join r a default := by rw [h]; rfl
  have e2 : moietyref05_do r a = (moietyref05_has r.List a.S).bind fun r40 => (if ((!r40) && (decide (r.Cap ≤ (r.List.length : Int)))) then (moietyref05_do_j1 r (ans 8)) else ((moietyref05_Laid r.List ({ Score := (0 : Nat), Name := a.S } : api_Item) true).bind fun r43 => (moietyref05_do_j1 ({ r with List := r43 }) (ans 0)))) := by unfold moietyref05_do moietyref05_do_j2; rw [h]; rfl
  have hple := pre_le (fun e => sLt e.Name a.S) r.List
  unfold Chg
  rw [e1, e2]
  unfold rule_join moietyref05_do_j1
  rw [find_eq hs (by omega), has_eq (by omega), any_isAt hs, laid_eq (show (0 : Nat) < W64 by decide) hr.ok.sc (by omega), layL_isAt, clone_i (by omega)]
  simp only [Option.bind_some]
  by_cases hat : isAt a.S r.List = true
  · rw [hat]
    exact ⟨0, r, _, rfl, rfl, hr, zrc_w, fun _ => ⟨rfl, rfl⟩⟩
  · have hat' : isAt a.S r.List = false := by simpa using hat
    rw [hat']
    simp only [Bool.not_false, Bool.true_and, Bool.false_eq_true, if_false]
    by_cases hc : decide (r.Cap ≤ (r.List.length : Int)) = true
    · rw [if_pos hc, if_pos hc]
      exact ⟨8, r, _, rfl, rfl, hr, zrc_w, fun h => by cases h⟩
    · rw [if_neg hc, if_neg hc]
      unfold slices_Insert_api_Item_api_Item
      rw [if_pos ⟨by omega, by omega, by simp, by simp; omega⟩]
      refine ⟨0, _, _, rfl, rfl, hr.withList (by simp; omega) fun e he => ?_, zrc_w, fun _ => ⟨rfl, rfl⟩⟩
      simp only [List.mem_append, List.mem_singleton, Int.toNat_natCast] at he
      rcases he with (he | rfl) | he
      · exact hr.ok.sc e (List.mem_of_mem_take he)
      · exact (show (0 : Nat) < W64 by decide)
      · exact hr.ok.sc e (List.mem_of_mem_drop he)
theorem chg_leave (h : a.Kind = 19) (hr : RecW r) (hg : GoodR r) (hk : r.Kind = 8) : Chg r a := by
  have hs := good_names hg hk
  have hl := hr.len
  have e1 : rule_change a.Kind r a default = rule_changes_7 r a default := by rw [h]; rfl
  have e2 : moietyref05_do r a = (moietyref05_do_l1 r a (Int.toNat ((r.List.length : Int) - (0 : Int)) + 1) ([] : List api_Item) (0 : Int)).bind fun z57 => match z57 with | y56 => (moietyref05_do_j1 ({ r with List := y56 }) (ans 0)) := by unfold moietyref05_do moietyref05_do_j2; rw [h]; rfl
  have hple := pre_le (fun e => sLt e.Name a.S) r.List
  unfold Chg
  rw [e1, e2]
  unfold rule_changes_7 moietyref05_do_j1
  have hf := filt_loop (a := a) (a0 := r) (by omega) r.List.length 0 [] (by omega) (by simp)
  rw [show ((0 : Nat) : Int) = 0 from rfl] at hf
  rw [find_eq hs (by omega), show (Int.toNat ((r.List.length : Int) - (0 : Int)) + 1) = r.List.length + 1 by omega, hf, List.drop_zero, List.nil_append, filt_isAt hs, clone_i (by omega)]
  simp only [Option.bind_some]
  by_cases hat : isAt a.S r.List = true
  · have hp : pre (fun e => sLt e.Name a.S) r.List < r.List.length := by
      unfold isAt at hat
      cases hq : r.List[pre (fun e => sLt e.Name a.S) r.List]? with
      | none => rw [hq] at hat; cases hat
      | some e => exact (List.getElem?_eq_some_iff.1 hq).1
    rw [hat]
    simp only [if_true]
    unfold slices_Delete_api_Item_api_Item
    rw [wr1 (by omega), if_pos ⟨by omega, by omega, by omega, by omega, by omega⟩]
    refine ⟨0, _, _, rfl, rfl, hr.withList (by simp; omega) fun e he => ?_, zrc_w, fun _ => ⟨rfl, rfl⟩⟩
    simp only [List.mem_append, Int.toNat_natCast] at he
    rcases he with he | he
    · exact hr.ok.sc e (List.mem_of_mem_take he)
    · exact hr.ok.sc e (List.mem_of_mem_drop he)
  · have hat' : isAt a.S r.List = false := by simpa using hat
    rw [hat']
    exact ⟨0, r, _, rfl, rfl, hr, zrc_w, fun _ => ⟨rfl, rfl⟩⟩
end Go.CL

/- rule.Apply = moietyref05.Apply. -/
set_option linter.unusedVariables false
set_option linter.unusedSimpArgs false
namespace Go.CL
open Go

variable {r : api_Record} {a : api_Act}
theorem min_take {l : Items} {c : Int} (h1 : 1 ≤ c) (h2 : c ≤ 32) : cut l 0 (min (l.length : Int) c) = some (l.take c.toNat) := by
  unfold cut
  rw [if_pos (by omega)]
  simp only [Int.toNat_zero, List.drop_zero, Nat.sub_zero]
  congr 1
  rcases Int.le_total (l.length : Int) c with h | h
  · rw [Int.min_eq_left h, Int.toNat_natCast, List.take_of_length_le (Nat.le_refl _), List.take_of_length_le (by omega)]
  · rw [Int.min_eq_right h]
theorem chg_offer (h : a.Kind = 21) (hr : RecW r) (hg : GoodR r) (hk : r.Kind = 9) (ha : ActW a) : Chg r a := by
  have hl := hr.len
  obtain ⟨c1, c2, c3⟩ := good_list hg (by omega)
  have e1 : rule_change a.Kind r a default = rule_offer r a default := by rw [h]; rfl
  have e2 : moietyref05_do r a = (moietyref05_Laid r.List ({ Score := a.X, Name := a.S } : api_Item) false).bind fun r63 => (if (decide (r.Cap < (r63.length : Int))) then ((cut r63 (0 : Int) r.Cap).bind fun c66 => (moietyref05_do_j4 r c66)) else (moietyref05_do_j4 r r63)) := by unfold moietyref05_do moietyref05_do_j2; rw [h]; rfl
  have hx : ({ Score := a.X, Name := a.S } : api_Item).Score < W64 := ha.ok.2
  have hple := pre_le (aheadF { Score := a.X, Name := a.S } false) r.List
  unfold Chg
  rw [e1, e2]
  unfold rule_offer
  rw [offer_pre ha.ok.2 hr.ok.sc (by omega), laid_eq hx hr.ok.sc (by omega), clone_i (by omega)]
  simp only [Option.bind_some]
  -- an item more, and no more than there may be
  have fin : ∀ L : Items, L = r.List.take (pre (aheadF { Score := a.X, Name := a.S } false) r.List) ++ [{ Score := a.X, Name := a.S }] ++ r.List.drop (pre (aheadF { Score := a.X, Name := a.S } false) r.List) → layL { Score := a.X, Name := a.S } false r.List = L →
      ∃ c r' o, ((slices_Insert_api_Item_api_Item r.List ((pre (aheadF { Score := a.X, Name := a.S } false) r.List : Nat) : Int) ([({ Score := a.X, Name := a.S } : api_Item)] : List api_Item)).bind fun r16 => ((cut r16 (0 : Int) (min (r16.length : Int) r.Cap)).bind fun c18 => (some ((0 : Int), ({ r with List := c18 }), (default : api_Answer))))) = some (c, r', o) ∧
        (if (decide (r.Cap < ((layL { Score := a.X, Name := a.S } false r.List).length : Int))) = true then ((cut (layL { Score := a.X, Name := a.S } false r.List) (0 : Int) r.Cap).bind fun c66 => (moietyref05_do_j4 r c66)) else (moietyref05_do_j4 r (layL { Score := a.X, Name := a.S } false r.List))) = some (if c = 0 then (r', o) else (r, ans c)) ∧ RecW r' ∧ RecW o.Rec ∧ (c = 0 → o.Code = 0 ∧ o.Num = 0) := by
    intro L hL hlay
    have hLl : L.length = r.List.length + 1 := by rw [hL]; simp; omega
    have hLs : ∀ e ∈ L, e.Score < W64 := fun e he => by
      rw [hL] at he
      simp only [List.mem_append, List.mem_singleton] at he
      rcases he with (he | rfl) | he
      · exact hr.ok.sc e (List.mem_of_mem_take he)
      · exact hx
      · exact hr.ok.sc e (List.mem_of_mem_drop he)
    rw [hlay]
    unfold slices_Insert_api_Item_api_Item moietyref05_do_j4 moietyref05_do_j1
    rw [if_pos ⟨by omega, by omega, by simp, by simp; omega⟩]
    simp only [Option.bind_some, Int.toNat_natCast]
    rw [← hL, min_take c1 c2]
    refine ⟨0, { r with List := L.take r.Cap.toNat }, ans 0, rfl, ?_, hr.withList (by simp; omega) (fun e he => hLs e (List.mem_of_mem_take he)), zrc_w, fun _ => ⟨rfl, rfl⟩⟩
    by_cases hc : decide (r.Cap < (L.length : Int)) = true
    · rw [if_pos hc]
      have : r.Cap < (L.length : Int) := of_decide_eq_true hc
      unfold cut
      rw [if_pos (by omega)]
      simp
    · rw [if_neg hc]
      have : ¬ r.Cap < (L.length : Int) := fun h => hc (decide_eq_true h)
      rw [List.take_of_length_le (by omega)]; rfl
  by_cases hp : pre (aheadF { Score := a.X, Name := a.S } false) r.List < r.List.length
  · have hd : decide (((pre (aheadF { Score := a.X, Name := a.S } false) r.List : Nat) : Int) < (r.List.length : Int)) = true := by simpa using hp
    have hat := pre_at (List.getElem?_eq_getElem hp)
    have hb : betterB r.List[pre (aheadF { Score := a.X, Name := a.S } false) r.List] { Score := a.X, Name := a.S } = false := hat
    have hbs := better_same hb
    rw [hd, idx_lt hp]
    simp only [gd_t, Option.bind_some, Bool.true_and]
    rw [better_eq hx (hr.ok.sc _ (List.getElem_mem hp))]
    simp only [Option.bind_some]
    by_cases hs : (!betterB { Score := a.X, Name := a.S } r.List[pre (aheadF { Score := a.X, Name := a.S } false) r.List]) = true
    · rw [if_pos hs]
      have hlay : layL { Score := a.X, Name := a.S } false r.List = r.List := by
        unfold layL
        rw [List.getElem?_eq_getElem hp]
        simp only
        rw [if_pos (by rw [← hbs]; exact hs), List.append_nil, List.take_append_drop]
      rw [hlay, if_neg (by simp; omega)]
      exact ⟨0, r, _, rfl, rfl, hr, zrc_w, fun _ => ⟨rfl, rfl⟩⟩
    · rw [if_neg hs]
      refine fin _ rfl ?_
      unfold layL
      rw [List.getElem?_eq_getElem hp]
      simp only
      rw [if_neg (by rw [← hbs]; exact hs)]
  · have hd : decide (((pre (aheadF { Score := a.X, Name := a.S } false) r.List : Nat) : Int) < (r.List.length : Int)) = false := by simpa using hp
    rw [hd]
    simp only [gd_f, Option.bind_some, Bool.false_and, Bool.false_eq_true, if_false]
    refine fin _ rfl ?_
    unfold layL
    rw [List.getElem?_eq_none (by omega), List.take_of_length_le (by omega), List.drop_of_length_le (by omega), List.append_nil]
theorem on_both {k : Int} (h1 : 1 ≤ k) (h2 : k ≤ 21) : ∃ on, act_On k = some on ∧ moietyref04_On k = some on ∧ (k ≤ 4 → on = 0) ∧ (5 ≤ k → on ≠ 0) ∧ ((k = 10 ∨ k = 11) → on = 4) ∧ ((k = 18 ∨ k = 19 ∨ k = 20) → on = 8) ∧ (k = 21 → on = 9) ∧
    ((k = 5 ∨ k = 6) → on = 1) ∧ (k = 7 → on = 2) ∧ ((k = 8 ∨ k = 9) → on = 3) ∧ (k = 12 → on = 4) ∧ (k = 13 → on = 5) ∧ (k = 14 → on = 6) ∧ ((k = 15 ∨ k = 16 ∨ k = 17) → on = 7) := by
  have hk' : k = 1 ∨ k = 2 ∨ k = 3 ∨ k = 4 ∨ k = 5 ∨ k = 6 ∨ k = 7 ∨ k = 8 ∨ k = 9 ∨ k = 10 ∨ k = 11 ∨ k = 12 ∨ k = 13 ∨ k = 14 ∨ k = 15 ∨ k = 16 ∨ k = 17 ∨ k = 18 ∨ k = 19 ∨ k = 20 ∨ k = 21 := by omega
  rcases hk' with rfl | rfl | rfl | rfl | rfl | rfl | rfl | rfl | rfl | rfl | rfl | rfl | rfl | rfl | rfl | rfl | rfl | rfl | rfl | rfl | rfl
  all_goals first
    | exact ⟨0, by kernel_rfl, by kernel_rfl, by decide⟩
    | exact ⟨1, by kernel_rfl, by kernel_rfl, by decide⟩
    | exact ⟨2, by kernel_rfl, by kernel_rfl, by decide⟩
    | exact ⟨3, by kernel_rfl, by kernel_rfl, by decide⟩
    | exact ⟨4, by kernel_rfl, by kernel_rfl, by decide⟩
    | exact ⟨5, by kernel_rfl, by kernel_rfl, by decide⟩
    | exact ⟨6, by kernel_rfl, by kernel_rfl, by decide⟩
    | exact ⟨7, by kernel_rfl, by kernel_rfl, by decide⟩
    | exact ⟨8, by kernel_rfl, by kernel_rfl, by decide⟩
    | exact ⟨9, by kernel_rfl, by kernel_rfl, by decide⟩
theorem chg_all (h5 : 5 ≤ a.Kind) (h21 : a.Kind ≤ 21) (hr : RecW r) (hg : GoodR r) (hon : act_On a.Kind = some r.Kind) (ha : ActW a) : Chg r a := by
  obtain ⟨on, o1, _, _, _, k10, k18, k21, _⟩ := on_both (k := a.Kind) (by omega) h21
  rw [hon] at o1
  obtain rfl := Option.some.inj o1
  have hk' : a.Kind = 5 ∨ a.Kind = 6 ∨ a.Kind = 7 ∨ a.Kind = 8 ∨ a.Kind = 9 ∨ a.Kind = 10 ∨ a.Kind = 11 ∨ a.Kind = 12 ∨ a.Kind = 13 ∨ a.Kind = 14 ∨ a.Kind = 15 ∨ a.Kind = 16 ∨ a.Kind = 17 ∨ a.Kind = 18 ∨ a.Kind = 19 ∨ a.Kind = 20 ∨ a.Kind = 21 := by omega
  rcases hk' with h | h | h | h | h | h | h | h | h | h | h | h | h | h | h | h | h
  · exact chg_put h hr
  · exact chg_swap h hr
  · exact chg_add h hr
  · exact chg_plus h hr ha
  · exact chg_reach (.inl h) hr
  · exact chg_in h hr hg (k10 (.inl h)) ha
  · exact chg_out h hr hg (k10 (.inr h)) ha
  · exact chg_reach (.inr h) hr
  · exact chg_raise h hr hg ha
  · exact chg_lower h hr hg ha
  · exact chg_shift h hr
  · exact chg_scale h hr
  · exact chg_fix h hr ha
  · exact chg_join h hr hg (k18 (.inl h))
  · exact chg_leave h hr hg (k18 (.inr (.inl h)))
  · exact chg_has h hr hg (k18 (.inr (.inr h)))
  · exact chg_offer h hr hg (k21 h) ha
/-- An act as it may come in. -/
structure ActIn (a : api_Act) : Prop where
  ok : ActOk a
  n : I64 a.N
  mkr : RecW a.Make
theorem ActIn.w {a : api_Act} (h : ActIn a) {c : Int} (hc : 1 ≤ a.Kind ∧ a.Kind ≤ 21 ∧ a.X = canon a.X ∧ a.S.size ≤ 64 ∧ ((a.Kind = 10 ∨ a.Kind = 11) → 0 ≤ a.N ∧ a.N ≤ 2305843009213693952) ∧ (a.Kind = 1 → rec_Check a.Make = some 0) ∧ (¬ (5 ≤ a.Kind ∧ a.Kind ≤ 6) → a.S.size ≤ 16) ∧ sEq a.Key ⟨#[]⟩ = false ∧ a.Key.size ≤ 24) : ActW a :=
  ⟨h.ok, h.n, h.mkr, hc.2.2.1, hc.2.2.2.2.1, hc.2.2.2.1, hc.2.2.2.2.2.2.1⟩
theorem ref_err {there : Bool} {r : api_Record} {c : Int} (hc : c ≠ 0) {on : Int} (ho : moietyref04_On a.Kind = some on) : moietyref05_Apply_j2 there a r c = some (r, there, ans c) := by
  have h1 : (c == 0) = false := by simpa using hc
  have h2 : (c != 0) = true := by simpa using hc
  unfold moietyref05_Apply_j2
  simp only [h1, Bool.false_and, Bool.false_eq_true, if_false]
  unfold moietyref05_Apply_j3
  simp only [h1, Bool.false_and, Bool.false_eq_true, if_false]
  unfold moietyref05_Apply_j4
  rw [ho]
  simp only [h1, Bool.false_and, Bool.false_eq_true, if_false, Option.bind_some]
  unfold moietyref05_Apply_j5
  rw [if_pos h2]
theorem on_some (k : Int) : ∃ on, moietyref04_On k = some on := by
  by_cases h : k < 0 ∨ 21 < k
  · exact ⟨0, by unfold moietyref04_On; rw [if_pos (by simpa using h)]⟩
  · by_cases h0 : k = 0
    · exact ⟨0, by rw [h0]; kernel_rfl⟩
    · obtain ⟨on, _, h2, _⟩ := on_both (k := k) (by omega) (by omega)
      exact ⟨on, h2⟩
/-- **The program's Apply and the document's are the same.** -/
theorem apply_both {r : api_Record} {there : Bool} {a : api_Act} (hr : RecW r) (ha : ActIn a) : ∃ x is out, rule_Apply r there a = some (x, is, out) ∧ moietyref05_Apply r there a = some (x, is, out) ∧ RecW x ∧ RecW out.Rec := by
  suffices hs : ∀ r0 : api_Record, RecW r0 → ∃ x is out, rule_Apply_j1 there a r0 = some (x, is, out) ∧ moietyref05_Apply_j1 there a r0 = some (x, is, out) ∧ RecW x ∧ RecW out.Rec by
    unfold rule_Apply moietyref05_Apply
    cases there
    · exact hs _ zrc_w
    · exact hs r hr
  intro r0 hr0
  unfold rule_Apply_j1 moietyref05_Apply_j1
  rw [rclone_eq hr0.len, copied_eq hr0.len]
  obtain ⟨c, h1, h2, h3⟩ := check_act ha.ok
  obtain ⟨on, hon⟩ := on_some a.Kind
  rw [h1, h2]
  simp only [Option.bind_some]
  by_cases hc : c = 0
  · subst hc
    have hf := h3 rfl
    have hw := ha.w (c := 0) hf
    obtain ⟨on2, o1, o2, o3, o4, _⟩ := on_both hf.1 hf.2.1
    have main : (there = true → GoodR r0) → ∃ x is out, rule_Apply_j2 there a r0 = some (x, is, out) ∧ moietyref05_Apply_j2 there a r0 0 = some (x, is, out) ∧ RecW x ∧ RecW out.Rec := by
      intro hg
      unfold rule_Apply_j2 rule_Apply_1 moietyref05_Apply_j2 moietyref05_Apply_j3 moietyref05_Apply_j4
      rw [o1, o2, rclone_eq hr0.len, rclone_eq ha.mkr.len]
      unfold moietyref05_Apply_j5
      rw [copied_eq hr0.len, copied_eq ha.mkr.len]
      simp only [Option.bind_some]
      by_cases k1 : a.Kind = 1
      · rw [k1, o3 (by omega)]
        cases there
        · exact ⟨a.Make, true, ans 0, rfl, rfl, ha.mkr, zrc_w⟩
        · exact ⟨r0, true, ans 7, rfl, rfl, hr0, zrc_w⟩
      · by_cases k3 : a.Kind = 3
        · rw [k3, o3 (by omega)]
          cases there
          · exact ⟨r0, false, { ans 0 with Num := r0.Kind }, rfl, rfl, hr0, zrc_w⟩
          · exact ⟨r0, true, { ans 0 with Num := r0.Kind }, rfl, rfl, hr0, zrc_w⟩
        · by_cases k2 : a.Kind = 2
          · rw [k2, o3 (by omega)]
            cases there
            · exact ⟨r0, false, ans 6, rfl, rfl, hr0, zrc_w⟩
            · exact ⟨zrc, false, ans 0, rfl, rfl, zrc_w, zrc_w⟩
          · by_cases k4 : a.Kind = 4
            · rw [k4, o3 (by omega)]
              cases there
              · exact ⟨r0, false, ans 6, rfl, rfl, hr0, zrc_w⟩
              · exact ⟨r0, true, { ans 0 with Rec := r0 }, rfl, rfl, hr0, hr0⟩
            · have h5 : 5 ≤ a.Kind := by omega
              have b1 : (a.Kind == 1) = false := by simpa using k1
              have b2 : (a.Kind == 2) = false := by simpa using k2
              have b3 : (a.Kind == 3) = false := by simpa using k3
              have b4 : (a.Kind == 4) = false := by simpa using k4
              have b1' : (a.Kind != 1) = true := by simpa using k1
              have b3' : (a.Kind != 3) = true := by simpa using k3
              have bo : (on2 != 0) = true := by simpa using o4 h5
              simp only [b1, b2, b3, b4, b1', b3', bo, Bool.false_and, Bool.and_false, Bool.and_true, Bool.true_and, Bool.false_eq_true, if_false, beq_self_eq_true]
              cases there
              · exact ⟨r0, false, ans 6, rfl, rfl, hr0, zrc_w⟩
              · simp only [Bool.not_true, Bool.false_eq_true, if_false, Bool.and_false, Bool.false_and, beq_self_eq_true, Bool.true_and]
                by_cases hk : (on2 != r0.Kind) = true
                · rw [if_pos hk, if_pos hk]
                  exact ⟨r0, true, ans 5, rfl, rfl, hr0, zrc_w⟩
                · rw [if_neg hk, if_neg hk, if_pos ⟨h5, hf.2.1⟩]
                  have hk' : on2 = r0.Kind := by simpa using hk
                  obtain ⟨c, r', o, e1, e2, w1, w2, _⟩ := chg_all h5 hf.2.1 hr0 (hg rfl) (by rw [← hk']; exact o1) hw
                  rw [e1, e2]
                  simp only [Option.bind_some]
                  by_cases hc : c = 0
                  · subst hc
                    exact ⟨r', true, o, rfl, rfl, w1, w2⟩
                  · have hcn : (c != 0) = true := by simpa using hc
                    rw [if_pos hcn, if_neg hc]
                    exact ⟨r0, true, ans c, rfl, rfl, hr0, zrc_w⟩
    have z1 : ((0 : Int) != 0) = false := rfl
    have z2 : ((0 : Int) == 0) = true := rfl
    rw [z1, z2]
    simp only [Bool.false_eq_true, if_false, Bool.true_and]
    by_cases ht : there = true
    · rw [if_pos ht, if_pos ht]
      obtain ⟨c2, g1, g2⟩ := check_both hr0.ok
      rw [g1, g2]
      simp only [Option.bind_some]
      by_cases hc2 : c2 = 0
      · subst hc2
        rw [z1]
        exact main fun _ => (check_good hr0.ok).1 g1
      · have hcn : (c2 != 0) = true := by simpa using hc2
        rw [if_pos hcn, ref_err hc2 o2]
        exact ⟨r0, there, ans c2, rfl, rfl, hr0, zrc_w⟩
    · rw [if_neg ht, if_neg ht]
      exact main fun h => absurd h ht
  · have hcn : (c != 0) = true := by simpa using hc
    have hcz : (c == 0) = false := by simpa using hc
    rw [if_pos hcn, hcz]
    simp only [Bool.false_and, Bool.false_eq_true, if_false]
    rw [ref_err hc hon]
    exact ⟨r0, there, ans c, rfl, rfl, hr0, zrc_w⟩
end Go.CL

/- RuleApplies. -/
set_option linter.unusedVariables false
set_option linter.unusedSimpArgs false
namespace Go.CL
open Go

theorem recLenR {x : api_Record} (h : wf_api_Record x) : x.List.length ≤ 9223372036854775807 := by
  obtain ⟨_, _, _, _, _, _, _, h8, _⟩ := h
  simp only [maxLen] at h8; omega
theorem recW_of {x : api_Record} (h : wf_api_Record x) (hl : x.List.length ≤ 100) : RecW x := by
  obtain ⟨h1, h2, h3, h4, h5, _, _, h8, h9⟩ := h
  exact ⟨⟨h5, by omega, fun e he => (h9 e he).1⟩, h2, h3, h4, h1, by omega⟩
theorem eqLr : ∀ l : List api_Item, eqL l l = true
  | [] => rfl
  | x :: l => by simp [eqL, eqI, sEq_self, eqLr l]
theorem sameRr (a : api_Record) : sameR a a = true := by simp [sameR, sEq_self, eqLr]
theorem actIn_of {a : api_Act} (h : wf_api_Act a) (hl : a.Make.List.length ≤ 100) : ActIn a := by
  obtain ⟨_, _, h3, h4, _, h6, _⟩ := h
  exact ⟨⟨(recW_of h6 hl).ok, h4⟩, h3, recW_of h6 hl⟩
theorem big04 {a : api_Act} (h : wf_api_Act a) : ∃ c, moietylaw04_Big a = some c ∧ (c = 0 ∨ c = 1) ∧ (c = 0 → a.Make.List.length ≤ 100) := by
  obtain ⟨c, e1, e2, e3⟩ := big03 (recLenR h.2.2.2.2.2.1)
  unfold moietylaw04_Big
  rw [e1]
  by_cases hk : (decide ((200 : Int) < (a.Key.size : Int)) || decide ((1000 : Int) < (a.S.size : Int))) = true
  · rw [hk]; exact ⟨1, rfl, .inr rfl, fun h => by cases h⟩
  · have hk' := Bool.eq_false_iff.2 hk
    rw [hk']
    rcases e2 with rfl | rfl
    · exact ⟨0, rfl, .inl rfl, fun _ => e3 rfl⟩
    · exact ⟨1, rfl, .inr rfl, fun h => by cases h⟩
theorem big5_loop {l : List api_Act} (hl : l.length ≤ 30) (hw : ∀ o ∈ l, wf_api_Act o) : ∀ (n i : Nat), i + n = l.length → (moietylaw05_big_l1 l (n + 1) (i : Int) = some (.inl true)) ∨ (moietylaw05_big_l1 l (n + 1) (i : Int) = some (.inr ()) ∧ ∀ o ∈ l.drop i, o.Make.List.length ≤ 100)
  | 0, i, h => by
    right
    rw [moietylaw05_big_l1, if_neg (by simp; omega), List.drop_of_length_le (by omega)]
    exact ⟨rfl, fun o ho => by cases ho⟩
  | n + 1, i, h => by
    have h1 : i < l.length := by omega
    obtain ⟨c, e1, e2, e3⟩ := big04 (hw _ (List.getElem_mem h1))
    rw [moietylaw05_big_l1, if_pos (by simp; omega), idx_lt h1, wr1 (by omega)]
    simp only [Option.bind_some]
    rw [e1]
    rcases e2 with rfl | rfl
    · simp only [Int.lt_irrefl, decide_false, Bool.false_eq_true, if_false, Option.bind_some]
      rcases big5_loop hl hw n (i + 1) (by omega) with h2 | ⟨h2, h3⟩
      · exact .inl h2
      · right
        refine ⟨h2, fun o ho => ?_⟩
        rw [List.drop_eq_getElem_cons h1] at ho
        rcases List.mem_cons.1 ho with rfl | ho
        · exact e3 rfl
        · exact h3 o ho
    · left; rfl
theorem big5 {r : api_Record} {l : List api_Act} (hr : wf_api_Record r) (hw : ∀ o ∈ l, wf_api_Act o) : moietylaw05_big r l = some true ∨ (moietylaw05_big r l = some false ∧ RecW r ∧ l.length ≤ 30 ∧ ∀ o ∈ l, ActIn o) := by
  obtain ⟨c, e1, e2, e3⟩ := big03 (recLenR hr)
  unfold moietylaw05_big
  rw [e1]
  simp only [Option.bind_some]
  rcases e2 with rfl | rfl
  · by_cases h : (30 : Int) < l.length
    · left; simp [h]
    · rw [if_neg (by simp; omega), show (Int.toNat ((l.length : Int) - (0 : Int)) + 1) = l.length + 1 by omega]
      have := big5_loop (l := l) (by omega) hw l.length 0 (by omega)
      rw [show ((0 : Nat) : Int) = 0 from rfl] at this
      rcases this with h1 | ⟨h1, h2⟩
      · left; rw [h1]; rfl
      · right; rw [h1]; exact ⟨rfl, recW_of hr (e3 rfl), by omega, fun o ho => actIn_of (hw o ho) (h2 o ho)⟩
  · left; rfl
theorem rsameA {a b : api_Answer} (ha : RecW a.Rec) (hb : RecW b.Rec) : moietyref05_Same a b = some ((a.Code == b.Code) && (a.Num == b.Num) && sameR a.Rec b.Rec) := by
  unfold moietyref05_Same
  rw [rsame_rec ha.ok hb.ok]
  cases (a.Code == b.Code) && (a.Num == b.Num) <;> rfl
theorem sameA {a b : api_Answer} (ha : RecW a.Rec) (hb : RecW b.Rec) : rule_Same a b = some ((a.Code == b.Code) && (a.Num == b.Num) && sameR a.Rec b.Rec) := by
  unfold rule_Same
  rw [same_rec ha.ok hb.ok]
  cases (a.Code == b.Code) && (a.Num == b.Num) <;> rfl
theorem speaks5 : moietylaw05_speaks = some true := by kernel_rfl
/-- **RuleApplies.** -/
theorem RuleApplies_true (a0 : api_Record) (a1 : Bool) (a2 : api_Act) (ha0 : wf_api_Record a0) (ha1 : True) (ha2 : wf_api_Act a2) : moietylaw05_RuleApplies a0 a1 a2 = some true := by
  unfold moietylaw05_RuleApplies
  rw [speaks5]
  simp only [Option.bind_some, Bool.not_true, Bool.false_eq_true, if_false]
  rcases big5 (l := [a2]) ha0 (fun o ho => by rw [List.mem_singleton.1 ho]; exact ha2) with hb | ⟨hb, hr, _, hi⟩
  · rw [hb]; rfl
  · rw [hb]
    obtain ⟨x, is, out, e1, e2, w1, w2⟩ := apply_both (there := a1) hr (hi a2 (List.mem_singleton.2 rfl))
    rw [e1, e2]
    simp only [Option.bind_some, Bool.false_eq_true, if_false]
    rw [rsame_rec w1.ok w1.ok, rsameA w2 w2, sameA w2 w2]
    simp [sameRr, gd_t]
end Go.CL

/- What Apply did: the shape of its answer. -/
set_option linter.unusedVariables false
set_option linter.unusedSimpArgs false
namespace Go.CL
open Go

def Shape (r0 : api_Record) (there : Bool) (a : api_Act) (z : api_Record × Bool × api_Answer) : Prop :=
  (∃ c, c ≠ 0 ∧ z = (r0, there, ans c)) ∨ (act_Check a = some 0 ∧ ActW a ∧ (there = true → GoodR r0) ∧
    ((a.Kind = 1 ∧ there = false ∧ GoodR a.Make ∧ z = (a.Make, true, ans 0)) ∨ (a.Kind = 2 ∧ there = true ∧ z = (zrc, false, ans 0)) ∨ (a.Kind = 3 ∧ z = (r0, there, { ans 0 with Num := r0.Kind })) ∨ (a.Kind = 4 ∧ there = true ∧ z = (r0, true, { ans 0 with Rec := r0 })) ∨
      (5 ≤ a.Kind ∧ a.Kind ≤ 21 ∧ there = true ∧ act_On a.Kind = some r0.Kind ∧ ∃ r' o, rule_change a.Kind r0 a default = some (0, r', o) ∧ o.Code = 0 ∧ o.Num = 0 ∧ RecW r' ∧ RecW o.Rec ∧ z = (r', true, o))))
theorem apply_shape {r : api_Record} {there : Bool} {a : api_Act} (hr : RecW r) (ha : ActIn a) : ∃ z, rule_Apply r there a = some z ∧ Shape (if there = true then r else zrc) there a z := by
  suffices hs : ∀ r0 : api_Record, RecW r0 → ∃ z, rule_Apply_j1 there a r0 = some z ∧ Shape r0 there a z by
    unfold rule_Apply
    cases there
    · exact hs _ zrc_w
    · exact hs r hr
  intro r0 hr0
  unfold rule_Apply_j1
  rw [rclone_eq hr0.len]
  obtain ⟨c, h1, h2, h3⟩ := check_act ha.ok
  rw [h1]
  simp only [Option.bind_some]
  by_cases hc : c = 0
  · subst hc
    have hf := h3 rfl
    have hw := ha.w (c := 0) hf
    obtain ⟨on2, o1, o2, o3, o4, _⟩ := on_both hf.1 hf.2.1
    have main : (there = true → GoodR r0) → ∃ z, rule_Apply_j2 there a r0 = some z ∧ Shape r0 there a z := by
      intro hg
      unfold rule_Apply_j2 rule_Apply_1
      rw [o1, rclone_eq hr0.len, rclone_eq ha.mkr.len]
      simp only [Option.bind_some]
      by_cases k1 : a.Kind = 1
      · have hm : GoodR a.Make := (check_good ha.mkr.ok).1 (hf.2.2.2.2.2.1 k1)
        rw [k1]
        cases there
        · exact ⟨_, rfl, .inr ⟨h1, hw, hg, .inl ⟨k1, rfl, hm, rfl⟩⟩⟩
        · exact ⟨_, rfl, .inl ⟨7, by decide, rfl⟩⟩
      · by_cases k3 : a.Kind = 3
        · rw [k3]
          exact ⟨_, rfl, .inr ⟨h1, hw, hg, .inr (.inr (.inl ⟨k3, rfl⟩))⟩⟩
        · by_cases k2 : a.Kind = 2
          · rw [k2]
            cases there
            · exact ⟨_, rfl, .inl ⟨6, by decide, rfl⟩⟩
            · exact ⟨_, rfl, .inr ⟨h1, hw, hg, .inr (.inl ⟨k2, rfl, rfl⟩)⟩⟩
          · by_cases k4 : a.Kind = 4
            · rw [k4]
              cases there
              · exact ⟨_, rfl, .inl ⟨6, by decide, rfl⟩⟩
              · exact ⟨_, rfl, .inr ⟨h1, hw, hg, .inr (.inr (.inr (.inl ⟨k4, rfl, rfl⟩)))⟩⟩
            · have h5 : 5 ≤ a.Kind := by omega
              have b1 : (a.Kind == 1) = false := by simpa using k1
              have b2 : (a.Kind == 2) = false := by simpa using k2
              have b3 : (a.Kind == 3) = false := by simpa using k3
              have b4 : (a.Kind == 4) = false := by simpa using k4
              simp only [b1, b2, b3, b4, Bool.false_and, Bool.false_eq_true, if_false]
              cases there
              · exact ⟨_, rfl, .inl ⟨6, by decide, rfl⟩⟩
              · simp only [Bool.not_true, Bool.false_eq_true, if_false]
                by_cases hk : (on2 != r0.Kind) = true
                · rw [if_pos hk]
                  exact ⟨_, rfl, .inl ⟨5, by decide, rfl⟩⟩
                · rw [if_neg hk, if_pos ⟨h5, hf.2.1⟩]
                  have hk' : on2 = r0.Kind := by simpa using hk
                  obtain ⟨c, r', o, e1, e2, w1, w2, w3⟩ := chg_all h5 hf.2.1 hr0 (hg rfl) (by rw [← hk']; exact o1) hw
                  rw [e1]
                  simp only [Option.bind_some]
                  by_cases hc : c = 0
                  · subst hc
                    exact ⟨(r', true, o), rfl, .inr ⟨h1, hw, hg, .inr (.inr (.inr (.inr ⟨h5, hf.2.1, rfl, by rw [← hk']; exact o1, r', o, e1, (w3 rfl).1, (w3 rfl).2, w1, w2, rfl⟩)))⟩⟩
                  · have hcn : (c != 0) = true := by simpa using hc
                    rw [if_pos hcn]
                    exact ⟨_, rfl, .inl ⟨c, hc, rfl⟩⟩
    have z1 : ((0 : Int) != 0) = false := rfl
    rw [z1]
    simp only [Bool.false_eq_true, if_false]
    by_cases ht : there = true
    · rw [if_pos ht]
      obtain ⟨c2, g1, g2⟩ := check_both hr0.ok
      rw [g1]
      simp only [Option.bind_some]
      by_cases hc2 : c2 = 0
      · subst hc2
        rw [z1]
        exact main fun _ => (check_good hr0.ok).1 g1
      · have hcn : (c2 != 0) = true := by simpa using hc2
        rw [if_pos hcn]
        exact ⟨_, rfl, .inl ⟨c2, hc2, rfl⟩⟩
    · rw [if_neg ht]
      exact main fun h => absurd h ht
  · have hcn : (c != 0) = true := by simpa using hc
    rw [if_pos hcn]
    exact ⟨_, rfl, .inl ⟨c, hc, rfl⟩⟩
/-- Of a record that is there, and a kind of change: what it answers. -/
theorem apply_chg {r : api_Record} {a : api_Act} (hr : RecW r) (ha : ActIn a) (h5 : 5 ≤ a.Kind) : ∃ z, rule_Apply r true a = some z ∧ ((∃ c, c ≠ 0 ∧ z = (r, true, ans c)) ∨ (act_Check a = some 0 ∧ ActW a ∧ GoodR r ∧ a.Kind ≤ 21 ∧ act_On a.Kind = some r.Kind ∧ ∃ r' o, rule_change a.Kind r a default = some (0, r', o) ∧ o.Code = 0 ∧ o.Num = 0 ∧ RecW r' ∧ RecW o.Rec ∧ z = (r', true, o))) := by
  obtain ⟨z, e, hs⟩ := apply_shape (there := true) hr ha
  rw [if_pos rfl] at hs
  refine ⟨z, e, ?_⟩
  rcases hs with h | ⟨h1, h2, h3, ⟨k, _⟩ | ⟨k, _⟩ | ⟨k, _⟩ | ⟨k, _⟩ | ⟨_, k2, _, k4, h⟩⟩
  · exact .inl h
  · omega
  · omega
  · omega
  · omega
  · exact .inr ⟨h1, h2, h3 rfl, k2, k4, h⟩
end Go.CL

/- RuleRows. -/
set_option linter.unusedVariables false
set_option linter.unusedSimpArgs false
namespace Go.CL
open Go

def runR : List api_Act → Bool → api_Record → Option (api_Record × Bool × List api_Answer)
  | [], t, r => some (r, t, [])
  | a :: l, t, r => (rule_Apply r t a).bind fun z => (runR l z.2.1 z.1).bind fun y => some (y.1, y.2.1, z.2.2 :: y.2.2)
theorem run_ok : ∀ {l : List api_Act} {t : Bool} {r : api_Record}, RecW r → (∀ a ∈ l, ActIn a) → ∃ x is outs, runR l t r = some (x, is, outs) ∧ RecW x ∧ outs.length = l.length ∧ ∀ o ∈ outs, RecW o.Rec
  | [], t, r, hr, _ => ⟨r, t, [], rfl, hr, rfl, fun o h => by cases h⟩
  | a :: l, t, r, hr, hl => by
    obtain ⟨x, is, out, e1, _, w1, w2⟩ := apply_both (there := t) hr (hl a (List.mem_cons_self ..))
    obtain ⟨y, js, outs, e2, w3, h4, h5⟩ := run_ok (l := l) (t := is) w1 fun a h => hl a (List.mem_cons_of_mem _ h)
    refine ⟨y, js, out :: outs, by rw [runR, e1]; simp only [Option.bind_some]; rw [e2]; rfl, w3, by simp [h4], fun o h => ?_⟩
    rcases List.mem_cons.1 h with rfl | h
    · exact w2
    · exact h5 o h
theorem run_cons {a : api_Act} {l : List api_Act} {t : Bool} {r x : api_Record} {is : Bool} {outs : List api_Answer} (h : runR (a :: l) t r = some (x, is, outs)) : ∃ r1 t1 o1 os, rule_Apply r t a = some (r1, t1, o1) ∧ runR l t1 r1 = some (x, is, os) ∧ outs = o1 :: os := by
  rw [runR] at h
  obtain ⟨⟨r1, t1, o1⟩, h1, h2⟩ := Option.bind_eq_some_iff.1 h
  obtain ⟨⟨x', is', os⟩, h3, h4⟩ := Option.bind_eq_some_iff.1 h2
  simp only [Option.some.injEq, Prod.mk.injEq] at h4
  obtain ⟨rfl, rfl, rfl⟩ := h4
  exact ⟨r1, t1, o1, os, h1, h3, rfl⟩
theorem row_loop {l : List api_Act} (hl : l.length ≤ 30) : ∀ (n i : Nat) {t : Bool} {r x : api_Record} {is : Bool} {outs acc : List api_Answer}, i + n = l.length → acc.length = i → runR (l.drop i) t r = some (x, is, outs) → rule_Row_l1 l (n + 1) t r acc (i : Int) = some (is, x, acc ++ outs)
  | 0, i, t, r, x, is, outs, acc, h, ha, hr => by
    rw [List.drop_of_length_le (by omega)] at hr
    simp only [runR, Option.some.injEq, Prod.mk.injEq] at hr
    obtain ⟨rfl, rfl, rfl⟩ := hr
    rw [rule_Row_l1, if_neg (by simp; omega), List.append_nil]
  | n + 1, i, t, r, x, is, outs, acc, h, ha, hr => by
    have h1 : i < l.length := by omega
    rw [List.drop_eq_getElem_cons h1] at hr
    obtain ⟨r1, t1, o1, os, e1, e2, rfl⟩ := run_cons hr
    rw [rule_Row_l1, if_pos (by simp; omega), idx_lt h1, wr1 (by omega)]
    simp only [Option.bind_some]
    rw [e1]
    simp only [Option.bind_some]
    rw [if_pos (by simp; omega), row_loop hl n (i + 1) (by omega) (by simp [ha]) e2]
    simp
theorem row_eq {l : List api_Act} (hl : l.length ≤ 30) {t : Bool} {r x : api_Record} {is : Bool} {outs : List api_Answer} (hr : RecW r) (h : runR l t r = some (x, is, outs)) : rule_Row_j1 t l r = some (x, is, outs) := by
  have := row_loop hl l.length 0 (t := t) (r := r) (acc := []) (by omega) rfl (by rw [List.drop_zero]; exact h)
  unfold rule_Row_j1
  rw [show ((0 : Nat) : Int) = 0 from rfl] at this
  rw [rclone_eq hr.len, show (Int.toNat ((l.length : Int) - (0 : Int)) + 1) = l.length + 1 by omega]
  simp only [Option.bind_some]
  rw [this]; rfl
theorem rrows_loop {l : List api_Act} {X : api_Record} {B : Bool} {all : List api_Answer} (hl : l.length ≤ 30) (hin : ∀ a ∈ l, ActIn a) : ∀ (n i : Nat) {t : Bool} {r x : api_Record} {is : Bool}, i + n = l.length → all.length = l.length → RecW r → runR (l.drop i) t r = some (x, is, all.drop i) → moietylaw05_RuleRows_l1 l (X, B, all) (n + 1) r t (i : Int) = some (.inr (x, is))
  | 0, i, t, r, x, is, h, ha, hw, hr => by
    rw [List.drop_of_length_le (by omega)] at hr
    simp only [runR, Option.some.injEq, Prod.mk.injEq] at hr
    obtain ⟨rfl, rfl, _⟩ := hr
    rw [moietylaw05_RuleRows_l1, if_neg (by simp; omega)]
  | n + 1, i, t, r, x, is, h, ha, hw, hr => by
    have h1 : i < l.length := by omega
    have h2 : i < all.length := by omega
    rw [List.drop_eq_getElem_cons h1, List.drop_eq_getElem_cons h2] at hr
    obtain ⟨r1, t1, o1, os, e1, e2, e3⟩ := run_cons hr
    obtain ⟨rfl, rfl⟩ := List.cons.inj e3
    obtain ⟨x', is', out, f1, f2, w1, w2⟩ := apply_both (there := t) hw (hin _ (List.getElem_mem h1))
    rw [f1] at e1
    simp only [Option.some.injEq, Prod.mk.injEq] at e1
    obtain ⟨rfl, rfl, rfl⟩ := e1
    rw [moietylaw05_RuleRows_l1, if_pos (by simp; omega), idx_lt h1, wr1 (by omega)]
    simp only [Option.bind_some]
    rw [f2, idx_lt h2]
    simp only [Option.bind_some]
    rw [rsameA w2 w2]
    simp only [sameRr, beq_self_eq_true, Bool.and_self, Option.bind_some, Bool.not_true, Bool.false_eq_true, if_false]
    exact rrows_loop hl hin n (i + 1) (by omega) ha w1 e2
/-- **RuleRows.** -/
theorem RuleRows_true (a0 : api_Record) (a1 : Bool) (a2 : List api_Act) (ha0 : wf_api_Record a0) (ha1 : True) (ha2 : a2.length ≤ maxLen ∧ ∀ e0 ∈ a2, wf_api_Act e0) : moietylaw05_RuleRows a0 a1 a2 = some true := by
  unfold moietylaw05_RuleRows
  rw [speaks5]
  simp only [Option.bind_some, Bool.not_true, Bool.false_eq_true, if_false]
  rcases big5 ha0 ha2.2 with hb | ⟨hb, hr, hl, hi⟩
  · rw [hb]; rfl
  · rw [hb]
    have main : ∀ r0 : api_Record, RecW r0 → ((rule_Row_j1 a1 a2 r0).bind fun r7 => moietylaw05_RuleRows_j1 a1 a2 r7 r0) = some true := by
      intro r0 h0
      obtain ⟨x, is, outs, e1, w1, hlen, hos⟩ := run_ok (t := a1) h0 hi
      rw [row_eq hl h0 e1]
      simp only [Option.bind_some]
      unfold moietylaw05_RuleRows_j1
      have := rrows_loop (X := x) (B := is) (all := outs) hl hi a2.length 0 (by omega) hlen h0 (by rw [List.drop_zero, List.drop_zero]; exact e1)
      rw [show ((0 : Nat) : Int) = 0 from rfl] at this
      rw [if_neg (by simp [hlen]), show (Int.toNat ((a2.length : Int) - (0 : Int)) + 1) = a2.length + 1 by omega, this]
      simp only [Option.bind_some]
      rw [rsame_rec w1.ok w1.ok]
      simp [sameRr]
    simp only [Option.bind_some, Bool.false_eq_true, if_false]
    unfold rule_Row
    cases a1
    · exact main _ zrc_w
    · exact main _ hr
end Go.CL

/- RuleBack. -/
set_option linter.unusedVariables false
set_option linter.unusedSimpArgs false
namespace Go.CL
open Go

/-- An act that is in order, on a record that is: it is done. -/
theorem apply_go {r x : api_Record} {a : api_Act} {o : api_Answer} (hr : RecW r) (hg : GoodR r) (hc : act_Check a = some 0) (h5 : 5 ≤ a.Kind) (h21 : a.Kind ≤ 21) (hon : act_On a.Kind = some r.Kind) (h : rule_change a.Kind r a default = some (0, x, o)) : rule_Apply r true a = some (x, true, o) := by
  show rule_Apply_j1 true a r = _
  unfold rule_Apply_j1
  have z1 : ((0 : Int) != 0) = false := rfl
  rw [rclone_eq hr.len, hc]
  simp only [Option.bind_some, z1, Bool.false_eq_true, if_false, if_true]
  rw [(check_good hr.ok).2 hg]
  simp only [Option.bind_some, z1, Bool.false_eq_true, if_false, if_true]
  unfold rule_Apply_j2
  have b1 : (a.Kind == 1) = false := by simp; omega
  have b2 : (a.Kind == 2) = false := by simp; omega
  have b3 : (a.Kind == 3) = false := by simp; omega
  have b4 : (a.Kind == 4) = false := by simp; omega
  have bk : (r.Kind != r.Kind) = false := by simp
  simp only [b1, b2, b3, b4, Bool.false_and, Bool.false_eq_true, if_false, Bool.not_true]
  rw [hon]
  simp only [Option.bind_some, bk, Bool.false_eq_true, if_false]
  rw [rclone_eq hr.len]
  simp only [Option.bind_some]
  rw [if_pos ⟨h5, h21⟩, h]
  rfl
theorem good_num {r : api_Record} {m : Int} (hg : GoodR r) (hk : 2 ≤ r.Kind ∧ r.Kind ≤ 4) (hb : r.Kind = 4 → r.Low ≤ m ∧ m ≤ r.High) : GoodR { r with Num := m } := by
  obtain ⟨g1, g2, g3, g4, g5, g6, g7⟩ := hg
  refine ⟨g1, g2, ?_, g4, fun h => ⟨(g5 h).1, (g5 h).2.1, (hb h).1, (hb h).2⟩, g6, g7⟩
  unfold onlyB at *
  have : decide (2 ≤ r.Kind ∧ r.Kind ≤ 4) = true := decide_eq_true hk
  simp only [this, Bool.true_or] at *
  exact g3
theorem chk7 {a : api_Act} (h : a.Kind = 7) (m : Int) : act_Check { a with N := m } = act_Check a := by
  obtain ⟨k, key, n, x, s, mk, mu⟩ := a
  obtain rfl : k = 7 := h
  rfl
theorem chk8 {a : api_Act} (h : a.Kind = 8) (m : Int) : act_Check { a with N := m } = act_Check a := by
  obtain ⟨k, key, n, x, s, mk, mu⟩ := a
  obtain rfl : k = 8 := h
  rfl
theorem chk10 {a : api_Act} (h : a.Kind = 10) : act_Check { a with Kind := 11 } = act_Check a := by
  obtain ⟨k, key, n, x, s, mk, mu⟩ := a
  obtain rfl : k = 10 := h
  kernel_rfl
theorem chk11 {a : api_Act} (h : a.Kind = 11) : act_Check { a with Kind := 10 } = act_Check a := by
  obtain ⟨k, key, n, x, s, mk, mu⟩ := a
  obtain rfl : k = 11 := h
  kernel_rfl
/-- There and back. -/
theorem back {r : api_Record} {a b : api_Act} (hr : RecW r) (ha : ActIn a) (hb : ActIn b) (h5 : 5 ≤ a.Kind) (h5' : 5 ≤ b.Kind)
    (h : ∀ r' o, ActW a → GoodR r → RecW r' → act_Check a = some 0 → act_On a.Kind = some r.Kind → rule_change a.Kind r a default = some (0, r', o) → ∃ o', rule_Apply r' true b = some (r, true, o') ∧ o'.Code = 0) : moietylaw05_RuleBack_j1 r a b = some true := by
  obtain ⟨z, e1, hz⟩ := apply_chg hr ha h5
  have hrow : ∀ {x y : api_Record} {o1 o2 : api_Answer}, rule_Apply r true a = some (x, true, o1) → rule_Apply x true b = some (y, true, o2) → rule_Row r true [a, b] = some (y, true, [o1, o2]) := fun {x y o1 o2} q1 q2 => by
    show rule_Row_j1 true [a, b] r = _
    refine row_eq (by simp) hr ?_
    rw [runR, q1]
    simp only [Option.bind_some]
    rw [runR, q2]
    rfl
  unfold moietylaw05_RuleBack_j1
  rcases hz with ⟨c, hc, rfl⟩ | ⟨k1, k2, k3, k4, k5, r', o, q1, q2, q3, q4, q5, rfl⟩
  · obtain ⟨z2, e2, hz2⟩ := apply_chg hr hb h5'
    have : ∃ y o2, z2 = (y, true, o2) := by
      rcases hz2 with ⟨c2, _, rfl⟩ | ⟨_, _, _, _, _, r', o, _, _, _, _, _, rfl⟩
      · exact ⟨_, _, rfl⟩
      · exact ⟨_, _, rfl⟩
    obtain ⟨y, o2, rfl⟩ := this
    rw [hrow e1 e2]
    have hcn : ((ans c).Code != 0) = true := by simpa using hc
    simp [idx, hcn, gd, hc]
  · obtain ⟨o', f1, f2⟩ := h r' o k2 k3 q4 k1 k5 q1
    rw [hrow e1 f1]
    simp [idx, gd, q2, f2, same_rec hr.ok hr.ok, sameRr]
theorem wrap_back {n k : Int} (h : I64 n) : IntKind.i64.wrap (IntKind.i64.wrap (n + k) + IntKind.i64.wrap (0 - k)) = n := by
  unfold I64 at h
  simp only [IntKind.wrap_i64]
  omega
theorem back7 {r : api_Record} {a : api_Act} (hr : RecW r) (ha : ActIn a) (h : a.Kind = 7) : moietylaw05_RuleBack_j1 r a { a with N := IntKind.i64.wrap (0 - a.N) } = some true := by
  refine back hr ha ⟨ha.ok, wrap_rng _, ha.mkr⟩ (by omega) (show 5 ≤ a.Kind by omega) fun r' o hw hg hw' hc hon h1 => ?_
  have e : ∀ r, rule_change a.Kind r a default = rule_changes_3 r a default := fun r => by rw [h]; rfl
  rw [e] at h1
  simp only [rule_changes_3, Option.some.injEq, Prod.mk.injEq, true_and] at h1
  obtain ⟨rfl, rfl⟩ := h1
  have hk : r.Kind = 2 := by
    rw [h, show act_On 7 = some 2 by kernel_rfl] at hon
    exact (Option.some.inj hon).symm
  refine ⟨default, apply_go hw' (good_num hg (by omega) (fun h => by omega)) ((chk7 h _).trans hc) (show 5 ≤ a.Kind by omega) (show a.Kind ≤ 21 by omega) hon ?_, rfl⟩
  show rule_change a.Kind _ { a with N := IntKind.i64.wrap (0 - a.N) } default = _
  rw [h]
  show rule_changes_3 _ _ _ = _
  unfold rule_changes_3
  simp only []
  rw [wrap_back hr.num]
theorem back8 {r : api_Record} {a : api_Act} (hr : RecW r) (ha : ActIn a) (h : a.Kind = 8) (hN : -9223372036854775808 < a.N) : moietylaw05_RuleBack_j1 r a { a with N := IntKind.i64.wrap (0 - a.N) } = some true := by
  refine back hr ha ⟨ha.ok, wrap_rng _, ha.mkr⟩ (by omega) (show 5 ≤ a.Kind by omega) fun r' o hw hg hw' hc hon h1 => ?_
  have e : ∀ r, rule_change a.Kind r a default = rule_plus r a default := fun r => by rw [h]; rfl
  rw [e] at h1
  unfold rule_plus at h1
  have n1 := hr.num
  have n2 := hw.n
  unfold I64 at n1 n2
  split at h1
  · cases h1
  · rename_i hcond
    simp only [Option.some.injEq, Prod.mk.injEq, true_and] at h1
    obtain ⟨rfl, rfl⟩ := h1
    simp only [Bool.or_eq_true, Bool.and_eq_true, decide_eq_true_eq, IntKind.wrap_i64] at hcond
    have hk : r.Kind = 3 := by
      rw [h, show act_On 8 = some 3 by kernel_rfl] at hon
      exact (Option.some.inj hon).symm
    have hsum : IntKind.i64.wrap (r.Num + a.N) = r.Num + a.N := wr (by omega) (by omega)
    have hneg : IntKind.i64.wrap (0 - a.N) = 0 - a.N := wr (by omega) (by omega)
    refine ⟨default, apply_go hw' (good_num hg (by omega) (fun h => by omega)) ((chk8 h _).trans hc) (show 5 ≤ a.Kind by omega) (show a.Kind ≤ 21 by omega) hon ?_, rfl⟩
    show rule_change a.Kind _ { a with N := IntKind.i64.wrap (0 - a.N) } default = _
    rw [h]
    show rule_plus _ _ _ = _
    unfold rule_plus
    simp only []
    rw [if_neg, wrap_back hr.num]
    rw [hsum, hneg]
    simp only [Bool.or_eq_true, Bool.and_eq_true, decide_eq_true_eq, IntKind.wrap_i64]
    omega
theorem back10 {r : api_Record} {a : api_Act} (hr : RecW r) (ha : ActIn a) (h : a.Kind = 10) : moietylaw05_RuleBack_j1 r a { a with Kind := 11 } = some true := by
  refine back hr ha ⟨ha.ok, ha.n, ha.mkr⟩ (by omega) (show (5 : Int) ≤ 11 by omega) fun r' o hw hg hw' hc hon h1 => ?_
  have e : ∀ r, rule_change a.Kind r a default = rule_changes_4 r a default := fun r => by rw [h]; rfl
  have hk : r.Kind = 4 := by
    rw [h, show act_On 10 = some 4 by kernel_rfl] at hon
    exact (Option.some.inj hon).symm
  obtain ⟨p1, p2, p3, p4⟩ := purse hg hk
  obtain ⟨q1, q2⟩ := hw.inout (.inl h)
  rw [e] at h1
  unfold rule_changes_4 at h1
  rw [wr (x := r.High - r.Num) (by omega) (by omega), wr (x := r.Num + a.N) (by omega) (by omega)] at h1
  split at h1
  · cases h1
  · rename_i hcond
    have hcond' : ¬ (r.High - r.Num < a.N) := by simpa using hcond
    simp only [Option.some.injEq, Prod.mk.injEq, true_and] at h1
    obtain ⟨rfl, rfl⟩ := h1
    refine ⟨default, apply_go hw' (good_num hg (by omega) (fun _ => by omega)) ((chk10 h).trans hc) (show (5 : Int) ≤ 11 by omega) (show (11 : Int) ≤ 21 by omega) ?_ ?_, rfl⟩
    · show act_On 11 = some r.Kind
      rw [hk]; kernel_rfl
    · show rule_changes_5 _ _ _ = _
      unfold rule_changes_5
      simp only []
      rw [wr (x := r.Num + a.N - r.Low) (by omega) (by omega), wr (x := r.Num + a.N - a.N) (by omega) (by omega), if_neg (by simp; omega), show r.Num + a.N - a.N = r.Num by omega]
theorem back11 {r : api_Record} {a : api_Act} (hr : RecW r) (ha : ActIn a) (h : a.Kind = 11) : moietylaw05_RuleBack_j1 r a { a with Kind := 10 } = some true := by
  refine back hr ha ⟨ha.ok, ha.n, ha.mkr⟩ (by omega) (show (5 : Int) ≤ 10 by omega) fun r' o hw hg hw' hc hon h1 => ?_
  have e : ∀ r, rule_change a.Kind r a default = rule_changes_5 r a default := fun r => by rw [h]; rfl
  have hk : r.Kind = 4 := by
    rw [h, show act_On 11 = some 4 by kernel_rfl] at hon
    exact (Option.some.inj hon).symm
  obtain ⟨p1, p2, p3, p4⟩ := purse hg hk
  obtain ⟨q1, q2⟩ := hw.inout (.inr h)
  rw [e] at h1
  unfold rule_changes_5 at h1
  rw [wr (x := r.Num - r.Low) (by omega) (by omega), wr (x := r.Num - a.N) (by omega) (by omega)] at h1
  split at h1
  · cases h1
  · rename_i hcond
    have hcond' : ¬ (r.Num - r.Low < a.N) := by simpa using hcond
    simp only [Option.some.injEq, Prod.mk.injEq, true_and] at h1
    obtain ⟨rfl, rfl⟩ := h1
    refine ⟨default, apply_go hw' (good_num hg (by omega) (fun _ => by omega)) ((chk11 h).trans hc) (show (5 : Int) ≤ 10 by omega) (show (10 : Int) ≤ 21 by omega) ?_ ?_, rfl⟩
    · show act_On 10 = some r.Kind
      rw [hk]; kernel_rfl
    · show rule_changes_4 _ _ _ = _
      unfold rule_changes_4
      simp only []
      rw [wr (x := r.High - (r.Num - a.N)) (by omega) (by omega), wr (x := r.Num - a.N + a.N) (by omega) (by omega), if_neg (by simp; omega), show r.Num - a.N + a.N = r.Num by omega]
/-- **RuleBack.** -/
theorem RuleBack_true (a0 : api_Record) (a1 : api_Act) (ha0 : wf_api_Record a0) (ha1 : wf_api_Act a1) : moietylaw05_RuleBack a0 a1 = some true := by
  unfold moietylaw05_RuleBack
  rw [speaks5]
  simp only [Option.bind_some, Bool.not_true, Bool.false_eq_true, if_false]
  rcases big5 (l := [a1]) ha0 (fun o ho => by rw [List.mem_singleton.1 ho]; exact ha1) with hb | ⟨hb, hr, _, hi⟩
  · rw [hb]; rfl
  · rw [hb]
    have ha := hi a1 (List.mem_singleton.2 rfl)
    obtain ⟨c1, _, g1⟩ := check_both hr.ok
    obtain ⟨c2, _, g2, _⟩ := check_act ha.ok
    simp only [Option.bind_some, Bool.not_false, gd_t, g1, Bool.false_or, g2, gd_some]
    have key : ∀ j : Bool, (j = true → a1.Kind = 7 ∨ (a1.Kind = 8 ∧ -9223372036854775808 < a1.N)) → moietylaw05_RuleBack_j2 a0 a1 j = some true := fun j hj => by
      unfold moietylaw05_RuleBack_j2
      split
      · rename_i h
        rcases hj h with h | ⟨h, h'⟩
        · exact back7 hr ha h
        · exact back8 hr ha h h'
      · split
        · rename_i h
          exact back10 hr ha (by simpa using h)
        · split
          · rename_i h
            exact back11 hr ha (by simpa using h)
          · rfl
    rw [key (a1.Kind == 7) (fun h => .inl (by simpa using h)), key (a1.Kind == 8 && decide (-9223372036854775808 < a1.N)) (fun h => .inr (by simpa using h))]
    simp
end Go.CL

set_option linter.unusedVariables false
set_option linter.unusedSimpArgs false
set_option maxRecDepth 100000
namespace Go.CL
open Go Go.RowKit Go.Proofs Go.ChangeShapes Go.WideShapes Go.ChangeAt
theorem Tryd_own : ownKnob Tryd.prog.godebug = none := by kernel_rfl
theorem Tryd_laid : laidOutB Tryd.prog = true := by kernel_rfl
theorem op_3 : Opn Tryd.prog 3 (Kd.int .i64) (fun x => ((IntKind.i64).min ≤ x ∧ x ≤ (IntKind.i64).max)) := opn_int Tryd.underlying3 (by kernel_rfl)
theorem op_2 : Opn Tryd.prog 2 (Kd.int .i64) (fun x => ((IntKind.i64).min ≤ x ∧ x ≤ (IntKind.i64).max)) := opn_int Tryd.underlying2 (by kernel_rfl)
theorem op_22 : Opn Tryd.prog 22 Kd.flt (fun x => (x < 2 ^ 64)) := opn_flt Tryd.underlying22 (by kernel_rfl)
theorem op_9 : Opn Tryd.prog 9 Kd.str (fun x => (x.size ≤ maxLen)) := opn_str Tryd.underlying9 (by kernel_rfl)
theorem op_48 : Opn Tryd.prog 48 k_api_Item wf_api_Item := ⟨by kernel_rfl, fun hg h => by
  obtain ⟨hl, n, hf⟩ := opn_fields Tryd.underlying48 h
  obtain ⟨y0, h0⟩ := hf 0 _ rfl
  obtain ⟨v0, k0, w0⟩ := op_22.op hg h0
  obtain ⟨y1, h1⟩ := hf 1 _ rfl
  obtain ⟨v1, k1, w1⟩ := op_9.op hg h1
  refine ⟨⟨v0, v1⟩, ⟨hl.trans (by kernel_rfl), (List.forall_mem_cons.2 ⟨k0, (List.forall_mem_cons.2 ⟨k1, (fun _ h => by cases h)⟩)⟩)⟩, w0, w1⟩, fun h => fm_struct Tryd.underlying48 h⟩
theorem op_23 : Opn Tryd.prog 23 k_api_Item.sl (fun x => (x.length ≤ maxLen ∧ ∀ e0 ∈ x, (wf_api_Item e0))) := opn_sl Tryd.underlying23 (by kernel_rfl) op_48 (by decide)
theorem op_25 : Opn Tryd.prog 25 k_api_Record wf_api_Record := ⟨by kernel_rfl, fun hg h => by
  obtain ⟨hl, n, hf⟩ := opn_fields Tryd.underlying25 h
  obtain ⟨y0, h0⟩ := hf 0 _ rfl
  obtain ⟨v0, k0, w0⟩ := op_3.op hg h0
  obtain ⟨y1, h1⟩ := hf 1 _ rfl
  obtain ⟨v1, k1, w1⟩ := op_2.op hg h1
  obtain ⟨y2, h2⟩ := hf 2 _ rfl
  obtain ⟨v2, k2, w2⟩ := op_2.op hg h2
  obtain ⟨y3, h3⟩ := hf 3 _ rfl
  obtain ⟨v3, k3, w3⟩ := op_2.op hg h3
  obtain ⟨y4, h4⟩ := hf 4 _ rfl
  obtain ⟨v4, k4, w4⟩ := op_22.op hg h4
  obtain ⟨y5, h5⟩ := hf 5 _ rfl
  obtain ⟨v5, k5, w5⟩ := op_3.op hg h5
  obtain ⟨y6, h6⟩ := hf 6 _ rfl
  obtain ⟨v6, k6, w6⟩ := op_9.op hg h6
  obtain ⟨y7, h7⟩ := hf 7 _ rfl
  obtain ⟨v7, k7, w7⟩ := op_23.op hg h7
  refine ⟨⟨v0, v1, v2, v3, v4, v5, v6, v7⟩, ⟨hl.trans (by kernel_rfl), (List.forall_mem_cons.2 ⟨k0, (List.forall_mem_cons.2 ⟨k1, (List.forall_mem_cons.2 ⟨k2, (List.forall_mem_cons.2 ⟨k3, (List.forall_mem_cons.2 ⟨k4, (List.forall_mem_cons.2 ⟨k5, (List.forall_mem_cons.2 ⟨k6, (List.forall_mem_cons.2 ⟨k7, (fun _ h => by cases h)⟩)⟩)⟩)⟩)⟩)⟩)⟩)⟩)⟩, w0, w1, w2, w3, w4, w5, w6, w7⟩, fun h => fm_struct Tryd.underlying25 h⟩
theorem op_4 : Opn Tryd.prog 4 Kd.bool (fun x => True) := opn_bool Tryd.underlying4 (by kernel_rfl)
theorem op_27 : Opn Tryd.prog 27 k_api_Act wf_api_Act := ⟨by kernel_rfl, fun hg h => by
  obtain ⟨hl, n, hf⟩ := opn_fields Tryd.underlying27 h
  obtain ⟨y0, h0⟩ := hf 0 _ rfl
  obtain ⟨v0, k0, w0⟩ := op_3.op hg h0
  obtain ⟨y1, h1⟩ := hf 1 _ rfl
  obtain ⟨v1, k1, w1⟩ := op_9.op hg h1
  obtain ⟨y2, h2⟩ := hf 2 _ rfl
  obtain ⟨v2, k2, w2⟩ := op_2.op hg h2
  obtain ⟨y3, h3⟩ := hf 3 _ rfl
  obtain ⟨v3, k3, w3⟩ := op_22.op hg h3
  obtain ⟨y4, h4⟩ := hf 4 _ rfl
  obtain ⟨v4, k4, w4⟩ := op_9.op hg h4
  obtain ⟨y5, h5⟩ := hf 5 _ rfl
  obtain ⟨v5, k5, w5⟩ := op_25.op hg h5
  obtain ⟨y6, h6⟩ := hf 6 _ rfl
  obtain ⟨v6, k6, w6⟩ := op_4.op hg h6
  refine ⟨⟨v0, v1, v2, v3, v4, v5, v6⟩, ⟨hl.trans (by kernel_rfl), (List.forall_mem_cons.2 ⟨k0, (List.forall_mem_cons.2 ⟨k1, (List.forall_mem_cons.2 ⟨k2, (List.forall_mem_cons.2 ⟨k3, (List.forall_mem_cons.2 ⟨k4, (List.forall_mem_cons.2 ⟨k5, (List.forall_mem_cons.2 ⟨k6, (fun _ h => by cases h)⟩)⟩)⟩)⟩)⟩)⟩)⟩)⟩, w0, w1, w2, w3, w4, w5, w6⟩, fun h => fm_struct Tryd.underlying27 h⟩
theorem det_9 : Det Tryd.prog 9 := det_str Tryd.underlying9
theorem det_3 : Det Tryd.prog 3 := det_int Tryd.underlying3
theorem det_77 : Det Tryd.prog 77 := det_struct Tryd.underlying77 (fun i f h => match i, f, h with
  | 0, _, h => by obtain rfl := Option.some.inj h; exact det_9
  | 1, _, h => by obtain rfl := Option.some.inj h; exact det_3
  | 2, _, h => by obtain rfl := Option.some.inj h; exact det_9
  | _ + 3, _, h => by cases h) (by kernel_rfl)
theorem det_95 : Det Tryd.prog 95 := det_arr Tryd.underlying95 det_77 (by kernel_rfl)
theorem RuleBack_met (os : Os) (args : Array Value) : laidMetH Tryd.prog [("moiety/act.kinds", Go.Proofs.YtajghnodbhcnoaaDoor.Rows.laid_moiety_act_kinds)] ((World.doorLaid Tryd.prog 400 os).forCall (fun _ _ => 0) ⟨#[], args, []⟩).memory :=
  laidMetH_of_parts3 (fuel := 8) (laidMet_of_run' 8 (by kernel_rfl) (by kernel_rfl)) (by kernel_rfl) (by kernel_rfl)
theorem RuleBack_gl {W : World} (h : laidMetH Tryd.prog [("moiety/act.kinds", Go.Proofs.YtajghnodbhcnoaaDoor.Rows.laid_moiety_act_kinds)] W) : GLok W (fun b _ => b < W.heap.size) := by
  have g0 := laid_one (P := Tryd.prog) (nm := "moiety/act.kinds") (d := Go.Proofs.YtajghnodbhcnoaaDoor.Rows.laid_moiety_act_kinds) (g := 0) (t := 95) (W := W) (w0 := W) (cells := [.string ⟨#[]⟩, .int .i64 (0), .string ⟨#[]⟩, .string ⟨#[110, 101, 119]⟩, .int .i64 (0), .string ⟨#[109]⟩, .string ⟨#[100, 114, 111, 112]⟩, .int .i64 (0), .string ⟨#[]⟩, .string ⟨#[105, 115]⟩, .int .i64 (0), .string ⟨#[]⟩, .string ⟨#[108, 111, 111, 107]⟩, .int .i64 (0), .string ⟨#[]⟩, .string ⟨#[112, 117, 116]⟩, .int .i64 (1), .string ⟨#[115]⟩, .string ⟨#[115, 119, 97, 112]⟩, .int .i64 (1), .string ⟨#[115]⟩, .string ⟨#[97, 100, 100]⟩, .int .i64 (2), .string ⟨#[110]⟩, .string ⟨#[112, 108, 117, 115]⟩, .int .i64 (3), .string ⟨#[110]⟩, .string ⟨#[114, 101, 97, 99, 104]⟩, .int .i64 (3), .string ⟨#[110]⟩, .string ⟨#[105, 110]⟩, .int .i64 (4), .string ⟨#[110]⟩, .string ⟨#[111, 117, 116]⟩, .int .i64 (4), .string ⟨#[110]⟩, .string ⟨#[101, 110, 111, 117, 103, 104]⟩, .int .i64 (4), .string ⟨#[110]⟩, .string ⟨#[114, 97, 105, 115, 101]⟩, .int .i64 (5), .string ⟨#[120]⟩, .string ⟨#[108, 111, 119, 101, 114]⟩, .int .i64 (6), .string ⟨#[120]⟩, .string ⟨#[115, 104, 105, 102, 116]⟩, .int .i64 (7), .string ⟨#[120]⟩, .string ⟨#[115, 99, 97, 108, 101]⟩, .int .i64 (7), .string ⟨#[120]⟩, .string ⟨#[102, 105, 120]⟩, .int .i64 (7), .string ⟨#[120]⟩, .string ⟨#[106, 111, 105, 110]⟩, .int .i64 (8), .string ⟨#[115]⟩, .string ⟨#[108, 101, 97, 118, 101]⟩, .int .i64 (8), .string ⟨#[115]⟩, .string ⟨#[104, 97, 115]⟩, .int .i64 (8), .string ⟨#[115]⟩, .string ⟨#[111, 102, 102, 101, 114]⟩, .int .i64 (9), .string ⟨#[120, 115]⟩]) (fu := 8) (by kernel_rfl) (by kernel_rfl) det_95 (by kernel_rfl) (by kernel_rfl) h
  intro e he i v hv
  rcases List.mem_cons.1 he with rfl | he
  · exact ⟨(spot_none (g0 i v hv)).2, g0 i v hv⟩
  cases he
theorem RuleBack_ret (os : Os) (started : os.Started) (H : Type) (enc : TypeId × Value → H) :
    ReturnsInHanded {} Tryd.checked os 6 .any (fun w args => (Go.Proofs.YtajghnodbhcnoaaDoor.Rows.ruleBackSpec.pre enc Tryd.prog Tryd.f6 [] false w args ∧ laidMetH Tryd.prog [("moiety/act.kinds", Go.Proofs.YtajghnodbhcnoaaDoor.Rows.laid_moiety_act_kinds)] w) ∧ sizedMet enc Tryd.prog Tryd.f6 (OpenSpec.ofChange Go.Proofs.YtajghnodbhcnoaaDoor.Rows.ruleBackSpec) false w args) (Go.Proofs.YtajghnodbhcnoaaDoor.Rows.ruleBackSpec.post enc Tryd.prog Tryd.f6 false true false false) := by
  refine returnsInHanded_of_change_and (C := Tryd.checked) (X := fun w _ => laidMetH Tryd.prog [("moiety/act.kinds", Go.Proofs.YtajghnodbhcnoaaDoor.Rows.laid_moiety_act_kinds)] w) (fun _ _ _ hh h => h.of_heap hh) Tryd_own started (by kernel_rfl) Tryd.func6
    (ChangeSpec.witness_shaped (enc := enc) (C := Tryd.checked) (os := os) (X := fun w _ => laidMetH Tryd.prog [("moiety/act.kinds", Go.Proofs.YtajghnodbhcnoaaDoor.Rows.laid_moiety_act_kinds)] w) false (World.doorLaid Tryd.prog 400 os) #[.agg #[.int .i64 0, .int .i64 0, .int .i64 0, .int .i64 0, .float .f64 0, .int .i64 0, .string ByteArray.empty, .slice none 0 0], .agg #[.int .i64 0, .string ByteArray.empty, .int .i64 0, .float .f64 0, .string ByteArray.empty, .int .i64 0, .int .i64 0, .int .i64 0, .int .i64 0, .float .f64 0, .int .i64 0, .string ByteArray.empty, .slice none 0 0, .bool false]] 8 rfl (World.shaped_of_RefB (by kernel_rfl) (by kernel_rfl)) (by kernel_rfl) (by kernel_rfl) (by kernel_rfl) (RuleBack_met os _)) ?_
  intro W base args ds gs before hval0 hW hcnd _ hL _
  have hval : ∀ (j : Nat) t v, Tryd.f6.params[j]? = some t → args[j]? = some v → Value.okWide Tryd.prog W .any base t v := hval0
  have hW' := hW
  obtain ⟨p, q, hA0, hV, rfl, hfz, hnd⟩ := hW
  have hA : DataW.TrodAll enc Tryd.prog W 0 (fun _ => true) true Tryd.f6.params.toList args.toList ds p := hA0
  rw [Tryd.params6] at hA hval
  obtain ⟨v0, v1, d0, d1, p0, p1, rfl, rfl, rfl, h0, h1⟩ := trodAll_two hA
  obtain ⟨rfl, rfl⟩ := trodVars_none hV
  simp only [List.append_nil] at hW'
  have hg : GLok W (fun b _ => b < W.heap.size) := (RuleBack_gl hL)
  have hk0 := h0
  obtain ⟨a0, q0, w0⟩ := arg_of op_25 hg h0 (hval 0 25 v0 rfl rfl)
  have hk1 := h1
  obtain ⟨a1, q1, w1⟩ := arg_of op_27 hg h1 (hval 1 27 v1 rfl rfl)
  refine (moietylaw05_RuleBack_ok a0 a1 (RuleBack_true a0 a1 w0 w1) (GW W hg) [v0, v1] (argsOk_cons q0 (argsOk_cons q1 argsOk_nil))).mono fun e W' ⟨g', v, he, hw, hs, hq⟩ => ?_
  subst he; subst hw
  rw [pBool_iff.1 hq]
  have hbel := below_of hs
  have hlt : ∀ x ∈ (p0 ++ p1), x.block < W.heap.size := fun x hx => by simpa using hW'.lt x hx
  exact ⟨_, rfl, post_of_below (pv := []) hW' hbel (trodAll_mk1 (shut_bool Tryd.underlying4 true)) (trodAll_mk2 (Below.trod Tryd_laid (by kernel_rfl) (of_decide_eq_true (by kernel_rfl)) hk0 hbel (fun x hx => hlt x (by simp [hx]))) (Below.trod Tryd_laid (by kernel_rfl) (of_decide_eq_true (by kernel_rfl)) hk1 hbel (fun x hx => hlt x (by simp [hx])))) rfl⟩
theorem RuleBack_holds : Go.Proofs.YtajghnodbhcnoaaDoor.Rows.RuleBackSaid :=
  OpenClaim.holds_of_wide 6 Tryd.f6 rfl rfl rfl rfl rfl rfl rfl ⟨rfl, rfl, rfl, rfl, rfl⟩ rfl rfl rfl rfl rfl (by kernel_rfl) Tryd.func6 (by kernel_rfl)
    (of_decide_eq_true (by kernel_rfl)) (by unfold Func.isWrapper; first | (rw [if_pos (by decide +kernel)]; kernel_rfl) | (rw [if_neg (by decide +kernel)]; exact ⟨rfl, rfl⟩))
    (fun os started H enc _ => RuleBack_ret os started H enc)
theorem RuleBack_card : Go.Proofs.YtajghnodbhcnoaaDoor.Rows.RuleBackCardSaid :=
  Claim7.holds_tied_plain_at .later [] [.data] true (true, "d53d6a7d9198ad883dc428b1854140353358626e00ef43ddb68ca71f2a693fba") false
    RuleBack_holds (fun _ h => by cases h) (by kernel_rfl) (fun _ h => by cases h) Go.Proofs.YtajghnodbhcnoaaDoor.ruleBack_row_tie rfl ⟨rfl, rfl⟩ (by kernel_rfl) rfl
    (fun f fn hf hfn => by
      obtain rfl : f = 6 := Option.some.inj ((show Tryd.prog.funcNamed "moiety/moietylaw05.RuleBack" = some 6 by kernel_rfl).symm.trans hf) |>.symm
      obtain rfl : fn = Tryd.f6 := (Option.some.inj (Tryd.func6.symm.trans hfn)).symm
      exact ⟨by kernel_rfl, fun j t ht => by
        rw [Tryd.params6] at ht
        have hm : t ∈ [25, 27] := by simpa using Array.mem_of_getElem? ht
        have hall : (([25, 27] : List TypeId).all fun u => !Tryd.prog.wantsStandIn u) = true := by kernel_rfl
        exact (show Tryd.prog.wantsStandIn t = false by simpa using List.all_eq_true.1 hall t hm)⟩)
    (by kernel_rfl)
end Go.CL
