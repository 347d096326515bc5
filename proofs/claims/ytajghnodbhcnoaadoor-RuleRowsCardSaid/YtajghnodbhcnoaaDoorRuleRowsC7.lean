/- A part of the proof of RuleRows. -/
import Derived.Test.YtajghnodbhcnoaaDoorRuleRowsC6
import Derived.Test.YtajghnodbhcnoaaDoorRows
import Derived.Test.YtajghnodbhcnoaaDoorCards
import Derived.Test.YtajghnodbhcnoaaDoorTie
import Derived.SevenTiedAt
/- Records that may be; sums of floats. -/
set_option linter.unusedVariables false
set_option linter.unusedSimpArgs false
namespace Go.CL
open Go

theorem firstC_zero {k : Int} {l : Items} : ∀ (n i : Nat), firstC k l i n = 0 ↔ ∀ j, i ≤ j → j < i + n → itemC k l j = 0
  | 0, i => ⟨fun _ j h1 h2 => by omega, fun _ => rfl⟩
  | n + 1, i => by
    by_cases h : itemC k l i = 0
    · rw [firstC_z h, firstC_zero n (i + 1)]
      constructor
      · intro hh j h1 h2
        by_cases e : j = i
        · rw [e]; exact h
        · exact hh j (by omega) (by omega)
      · intro hh j h1 h2; exact hh j (by omega) (by omega)
    · rw [firstC_e h]
      exact ⟨fun e => absurd e h, fun hh => absurd (hh i (Nat.le_refl _) (by omega)) h⟩
theorem checkD_zero {t n b r l : Bool} {a : api_Record} : checkD t n b r l a = 0 ↔ onlyB t n b r l a = true ∧ a.Text.size ≤ 64 ∧ (b = true → -2305843009213693952 ≤ a.Low ∧ a.High ≤ 2305843009213693952 ∧ a.Low ≤ a.Num ∧ a.Num ≤ a.High) ∧ a.Real = canon a.Real ∧ (l = true → 1 ≤ a.Cap ∧ a.Cap ≤ 32 ∧ (a.List.length : Int) ≤ a.Cap ∧ ∀ i, i < a.List.length → itemC a.Kind a.List i = 0) := by
  unfold checkD
  by_cases h1 : onlyB t n b r l a = false
  · rw [if_pos h1, h1]; simp
  · have h1' : onlyB t n b r l a = true := by simpa using h1
    rw [if_neg h1, h1']
    by_cases h2 : (64 : Int) < a.Text.size
    · rw [if_pos h2]; exact ⟨fun h => absurd h (by decide), fun h => by omega⟩
    · rw [if_neg h2]
      by_cases h3 : b = true ∧ (a.Low < -2305843009213693952 ∨ 2305843009213693952 < a.High ∨ a.Num < a.Low ∨ a.High < a.Num)
      · rw [if_pos h3]; exact ⟨fun h => absurd h (by decide), fun h => by have := h.2.2.1 h3.1; omega⟩
      · rw [if_neg h3]
        by_cases h4 : a.Real = canon a.Real
        · rw [if_neg (fun h => h h4)]
          cases l
          · rw [if_pos rfl]
            refine ⟨fun _ => ⟨rfl, by omega, fun hb => ?_, h4, fun h => absurd h (by decide)⟩, fun _ => rfl⟩
            have : ¬ (a.Low < -2305843009213693952 ∨ 2305843009213693952 < a.High ∨ a.Num < a.Low ∨ a.High < a.Num) := fun h => h3 ⟨hb, h⟩
            omega
          · rw [if_neg (by decide)]
            by_cases h5 : a.Cap < 1 ∨ 32 < a.Cap
            · rw [if_pos h5]; exact ⟨fun h => absurd h (by decide), fun h => by have := h.2.2.2.2 rfl; omega⟩
            · rw [if_neg h5]
              by_cases h6 : a.Cap < a.List.length
              · rw [if_pos h6]; exact ⟨fun h => absurd h (by decide), fun h => by have := h.2.2.2.2 rfl; omega⟩
              · rw [if_neg h6, firstC_zero]
                constructor
                · intro h
                  refine ⟨rfl, by omega, fun hb => ?_, h4, fun _ => ⟨by omega, by omega, by omega, fun i hi => h i (Nat.zero_le _) (by omega)⟩⟩
                  have : ¬ (a.Low < -2305843009213693952 ∨ 2305843009213693952 < a.High ∨ a.Num < a.Low ∨ a.High < a.Num) := fun h => h3 ⟨hb, h⟩
                  omega
                · intro h j _ hj
                  exact (h.2.2.2.2 rfl).2.2.2 j (by omega)
        · rw [if_pos h4]; exact ⟨fun h => absurd h (by decide), fun h => absurd h.2.2.2.1 h4⟩
def GoodR (a : api_Record) : Prop := 1 ≤ a.Kind ∧ a.Kind ≤ 9 ∧ onlyB (decide (a.Kind = 1)) (decide (2 ≤ a.Kind ∧ a.Kind ≤ 4)) (decide (a.Kind = 4)) (decide (5 ≤ a.Kind ∧ a.Kind ≤ 7)) (decide (8 ≤ a.Kind)) a = true ∧ a.Text.size ≤ 64 ∧ (a.Kind = 4 → -2305843009213693952 ≤ a.Low ∧ a.High ≤ 2305843009213693952 ∧ a.Low ≤ a.Num ∧ a.Num ≤ a.High) ∧ a.Real = canon a.Real ∧
  (8 ≤ a.Kind → 1 ≤ a.Cap ∧ a.Cap ≤ 32 ∧ (a.List.length : Int) ≤ a.Cap ∧ ∀ i, i < a.List.length → itemC a.Kind a.List i = 0)
theorem check_good {a : api_Record} (ha : RecOk a) : rec_Check a = some 0 ↔ GoodR a := by
  by_cases hk : a.Kind ≤ 0 ∨ 10 ≤ a.Kind
  · have : rec_Check a ≠ some 0 := by
      obtain ⟨c, hc, hc2⟩ := check_both ha
      unfold moietyref03_Check at hc2
      rw [if_pos (by simp; omega)] at hc2
      rw [hc, ← hc2]; decide
    exact ⟨fun h => absurd h this, fun h => by obtain ⟨h1, h2, _⟩ := h; omega⟩
  · have fin : ∀ {t n b r l : Bool}, rec_shaped a.Kind = some ⟨t, n, b, r, l⟩ → t = decide (a.Kind = 1) → n = decide (2 ≤ a.Kind ∧ a.Kind ≤ 4) → b = decide (a.Kind = 4) → r = decide (5 ≤ a.Kind ∧ a.Kind ≤ 7) → l = decide (8 ≤ a.Kind) → (rec_Check a = some 0 ↔ GoodR a) := by
      intro t n b r l hs h1 h2 h3 h4 h5
      rw [check_shape ha hk hs]
      constructor
      · intro h
        obtain ⟨g1, g2, g3, g4, g5⟩ := checkD_zero.1 (Option.some.inj h)
        refine ⟨by omega, by omega, by rw [← h1, ← h2, ← h3, ← h4, ← h5]; exact g1, g2, fun hk4 => g3 (by rw [h3]; simpa using hk4), g4, fun hk8 => g5 (by rw [h5]; simpa using hk8)⟩
      · rintro ⟨_, _, g1, g2, g3, g4, g5⟩
        congr 1
        exact checkD_zero.2 ⟨by rw [h1, h2, h3, h4, h5]; exact g1, g2, fun hb => g3 (by rw [h3] at hb; simpa using hb), g4, fun hb => g5 (by rw [h5] at hb; simpa using hb)⟩
    have hk' : a.Kind = 1 ∨ a.Kind = 2 ∨ a.Kind = 3 ∨ a.Kind = 4 ∨ a.Kind = 5 ∨ a.Kind = 6 ∨ a.Kind = 7 ∨ a.Kind = 8 ∨ a.Kind = 9 := by omega
    rcases hk' with h | h | h | h | h | h | h | h | h <;> rw [h] at fin
    · exact fin shape1 rfl rfl rfl rfl rfl
    · exact fin shape2 rfl rfl rfl rfl rfl
    · exact fin shape3 rfl rfl rfl rfl rfl
    · exact fin shape4 rfl rfl rfl rfl rfl
    · exact fin shape5 rfl rfl rfl rfl rfl
    · exact fin shape6 rfl rfl rfl rfl rfl
    · exact fin shape7 rfl rfl rfl rfl rfl
    · exact fin shape8 rfl rfl rfl rfl rfl
    · exact fin shape9 rfl rfl rfl rfl rfl
/-- Names in order of a Set that may be. -/
theorem good_names {a : api_Record} (h : GoodR a) (hk : a.Kind = 8) : NS a.List := by
  obtain ⟨_, _, _, _, _, _, h8⟩ := h
  obtain ⟨_, _, _, hi⟩ := h8 (by omega)
  have step : ∀ i, i + 1 < a.List.length → sLt ((a.List[i]?).getD default).Name ((a.List[i + 1]?).getD default).Name = true := by
    intro i hi1
    have := hi (i + 1) hi1
    unfold itemC at this
    rw [List.getElem?_eq_getElem hi1] at this
    simp only [Nat.add_sub_cancel] at this
    split at this
    · cases this
    · split at this
      · cases this
      · split at this
        · cases this
        · rename_i h3
          rw [List.getElem?_eq_getElem hi1]
          cases hq : sLt ((a.List[i]?).getD default).Name a.List[i + 1].Name
          · exact absurd ⟨by omega, hk, hq⟩ h3
          · exact hq
  have far : ∀ d i, i + d + 1 < a.List.length → sLt ((a.List[i]?).getD default).Name ((a.List[i + d + 1]?).getD default).Name = true := by
    intro d
    induction d with
    | zero => intro i h; exact step i h
    | succ d ih => intro i h; exact sLt_trans (ih i (by omega)) (step (i + d + 1) (by omega))
  refine List.pairwise_iff_getElem.2 fun i j hi hj hij => ?_
  have := far (j - i - 1) i (by omega)
  rw [show i + (j - i - 1) + 1 = j by omega, List.getElem?_eq_getElem hi, List.getElem?_eq_getElem hj] at this
  exact this
/-! ### floats -/
theorem word_lt {neg : Bool} {r : Nat} (h : r ≤ Ieee.double.infRung) : Ieee.double.word neg r < W64 := by
  have h1 : Ieee.double.infRung = 9218868437227405312 := by decide
  have h2 : Ieee.double.signWeight = 9223372036854775808 := by decide
  unfold Ieee.Format.word
  rw [h1] at h
  show _ < 18446744073709551616
  split
  · rw [h2]; omega
  · omega
theorem nearest_lt (neg : Bool) (mag : Nat) (place : Int) : Ieee.double.nearest neg mag place < W64 := by
  unfold Ieee.Format.nearest
  split
  · exact word_lt (Nat.zero_le _)
  · exact word_lt (Nat.min_le_right _ _)
theorem write_lt {d : Ieee.Datum} (h : ∀ n f, d ≠ .nan n f) : Ieee.double.write d < W64 := by
  cases d with
  | number n m p => exact nearest_lt n m p
  | infinity n => exact word_lt (Nat.le_refl _)
  | nan n f => exact absurd rfl (h n f)
theorem sum_nan {x y d : Ieee.Datum} (h : x.sum y = some d) : ∀ n f, d ≠ .nan n f := by
  intro n f e
  subst e
  cases x <;> cases y <;> simp [Ieee.Datum.sum] at h
theorem product_nan {x y d : Ieee.Datum} (h : x.product y = some d) : ∀ n f, d ≠ .nan n f := by
  intro n f e
  subst e
  cases x <;> cases y <;> simp [Ieee.Datum.product] at h
theorem fadd_lt (m n : Nat) : fadd m n < W64 := by
  unfold fadd Ieee.Format.add
  cases h : (Ieee.double.read m).sum (Ieee.double.read n) with
  | none => exact (by decide : 9221120237041090561 < W64)
  | some d => simpa using write_lt (sum_nan h)
theorem fmul_lt (m n : Nat) : fmul m n < W64 := by
  unfold fmul Ieee.Format.mul
  cases h : (Ieee.double.read m).product (Ieee.double.read n) with
  | none => exact (by decide : 9221120237041090561 < W64)
  | some d => simpa using write_lt (product_nan h)
theorem place_number {z : Nat} (hz : z < W64) : ∃ p, moietyref01_Place z = some p ∧ moietyref01_Number p = some (canon z) := by
  have hz' : z < 18446744073709551616 := hz
  unfold moietyref01_Place moietyref01_Number canon NANB
  rw [rnone_eq hz]
  simp only [Option.bind_some]
  by_cases hn : isn z
  · refine ⟨18444492273895866369, by simp [hn]; decide, ?_⟩
    rw [if_pos (by decide), if_pos hn]; decide
  · simp only [hn, decide_false, Bool.false_eq_true, if_false]
    by_cases ht : (9223372036854775808 : Int) ≤ z
    · rw [if_pos (by simpa using ht)]
      refine ⟨_, rfl, ?_⟩
      rw [wru (x := (9223372036854775808 : Int) - 1) (by decide) (by decide), wru (x := (z : Int) - 9223372036854775808) (by omega) (by omega), wru (by omega) (by omega)]
      rw [if_neg (by simp; omega)]
      rw [wru (x := (9223372036854775808 : Int) - 1 - _) (by omega) (by omega), wru (by omega) (by omega)]
      congr 1; omega
    · rw [if_neg (by simpa using ht)]
      refine ⟨_, rfl, ?_⟩
      rw [wru (by omega) (by omega), if_pos (by simp; omega), wru (by omega) (by omega)]
      congr 1; omega
theorem canon_canon {z : Nat} : canon (canon z) = canon z := by
  unfold canon
  by_cases h : isn z
  · rw [if_pos h, if_pos (show isn NANB by unfold isn rg INF NANB TOP; decide)]
  · rw [if_neg h, if_neg h]
theorem max_both {a b : Nat} (ha : a < W64) (hb : b < W64) (ca : a = canon a) (cb : b = canon b) : ∃ m, flo_Max a b = some m ∧ moietyref01_Max a b = some m ∧ (m = a ∨ m = b) := by
  unfold flo_Max moietyref01_Max
  rw [less_eq ha hb, rless_eq ha hb, canon_eq ha, canon_eq hb, ← ca, ← cb]
  by_cases h : keyf a < keyf b
  · exact ⟨b, by simp [h], by simp [h], .inr rfl⟩
  · exact ⟨a, by simp [h], by simp [h], .inl rfl⟩
theorem min_both {a b : Nat} (ha : a < W64) (hb : b < W64) (ca : a = canon a) (cb : b = canon b) : ∃ m, flo_Min a b = some m ∧ moietyref01_Min a b = some m ∧ (m = a ∨ m = b) := by
  unfold flo_Min moietyref01_Min
  rw [less_eq hb ha, rless_eq hb ha, canon_eq ha, canon_eq hb, ← ca, ← cb]
  by_cases h : keyf b < keyf a
  · exact ⟨b, by simp [h], by simp [h], .inr rfl⟩
  · exact ⟨a, by simp [h], by simp [h], .inl rfl⟩
end Go.CL

/- What acts do: rule.changes and moietyref05.do, kind by kind. -/
set_option linter.unusedVariables false
set_option linter.unusedSimpArgs false
namespace Go.CL
open Go

def I64 (x : Int) : Prop := -9223372036854775808 ≤ x ∧ x ≤ 9223372036854775807
structure RecW (r : api_Record) : Prop where
  ok : RecOk r
  num : I64 r.Num
  low : I64 r.Low
  high : I64 r.High
  kind : I64 r.Kind
  len : r.List.length ≤ 1000
structure ActW (a : api_Act) : Prop where
  ok : ActOk a
  n : I64 a.N
  mkr : RecW a.Make
  xc : a.X = canon a.X
  inout : (a.Kind = 10 ∨ a.Kind = 11) → 0 ≤ a.N ∧ a.N ≤ 2305843009213693952
  s64 : a.S.size ≤ 64
  s16 : ¬ (5 ≤ a.Kind ∧ a.Kind ≤ 6) → a.S.size ≤ 16
abbrev ans (c : Int) : api_Answer := { Code := c, Num := 0, Rec := default }
theorem ans0 : (default : api_Answer) = ans 0 := rfl
def Chg (r : api_Record) (a : api_Act) : Prop := ∃ c r' o, rule_change a.Kind r a (default : api_Answer) = some (c, r', o) ∧ moietyref05_do r a = some (if c = 0 then (r', o) else (r, ans c)) ∧ RecW r' ∧ RecW o.Rec ∧ (c = 0 → o.Code = 0 ∧ o.Num = 0)
theorem wrap_rng (x : Int) : I64 (IntKind.i64.wrap x) := by unfold I64; rw [IntKind.wrap_i64]; omega
theorem zrc_w : RecW (default : api_Record) := ⟨⟨by decide, by decide, fun e he => by cases he⟩, by unfold I64; decide, by unfold I64; decide, by unfold I64; decide, by unfold I64; decide, by decide⟩
theorem RecW.withNum {r : api_Record} (h : RecW r) {x : Int} (hx : I64 x) : RecW { r with Num := x } := ⟨⟨h.ok.real, h.ok.len, h.ok.sc⟩, hx, h.low, h.high, h.kind, h.len⟩
theorem RecW.withText {r : api_Record} (h : RecW r) (t : ByteArray) : RecW { r with Text := t } := ⟨⟨h.ok.real, h.ok.len, h.ok.sc⟩, h.num, h.low, h.high, h.kind, h.len⟩
theorem RecW.withReal {r : api_Record} (h : RecW r) {x : Nat} (hx : x < W64) : RecW { r with Real := x } := ⟨⟨hx, h.ok.len, h.ok.sc⟩, h.num, h.low, h.high, h.kind, h.len⟩
theorem RecW.withList {r : api_Record} (h : RecW r) {l : Items} (h1 : l.length ≤ 1000) (h2 : ∀ e ∈ l, e.Score < W64) : RecW { r with List := l } := ⟨⟨h.ok.real, by show l.length < _; omega, h2⟩, h.num, h.low, h.high, h.kind, h1⟩
theorem rclone_eq {r : api_Record} (h : r.List.length ≤ 1000) : rec_Clone r = some r := by
  unfold rec_Clone slices_Clone_api_Item_api_Item
  rw [if_pos (by omega)]; rfl
theorem copied_eq {r : api_Record} (h : r.List.length ≤ 1000) : moietyref05_copied r = some r := by
  unfold moietyref05_copied
  rw [if_pos (by simp; omega)]; rfl
variable {r : api_Record} {a : api_Act}
theorem chg_put (h : a.Kind = 5) (hr : RecW r) : Chg r a := by
  refine ⟨0, { r with Text := a.S }, ans 0, ?_, ?_, hr.withText _, zrc_w, fun _ => ⟨rfl, rfl⟩⟩
  · rw [h]; rfl
  · unfold moietyref05_do; rw [h]; rfl
theorem chg_swap (h : a.Kind = 6) (hr : RecW r) : Chg r a := by
  refine ⟨0, { r with Text := a.S }, { ans 0 with Rec := r }, ?_, ?_, hr.withText _, hr, fun _ => ⟨rfl, rfl⟩⟩
  · rw [h]
    show rule_changes_2 r a default = _
    unfold rule_changes_2
    rw [rclone_eq hr.len]; rfl
  · unfold moietyref05_do; rw [h, copied_eq hr.len]; rfl
theorem chg_add (h : a.Kind = 7) (hr : RecW r) : Chg r a := by
  refine ⟨0, { r with Num := IntKind.i64.wrap (r.Num + a.N) }, ans 0, ?_, ?_, hr.withNum (wrap_rng _), zrc_w, fun _ => ⟨rfl, rfl⟩⟩
  · rw [h]; rfl
  · unfold moietyref05_do; rw [h]; rfl
theorem plus_over (hr : I64 r.Num) (hn : I64 a.N) : (((decide ((0 : Int) < a.N)) && (decide ((IntKind.i64.wrap ((9223372036854775807 : Int) - a.N)) < r.Num))) || ((decide (a.N < (0 : Int))) && (decide (r.Num < (IntKind.i64.wrap ((-9223372036854775808 : Int) - a.N)))))) =
    ((((decide ((0 : Int) < r.Num)) && (decide ((0 : Int) < a.N))) && (decide ((IntKind.i64.wrap (r.Num + a.N)) < (0 : Int)))) || (((decide (r.Num < (0 : Int))) && (decide (a.N < (0 : Int)))) && (decide ((0 : Int) ≤ (IntKind.i64.wrap (r.Num + a.N)))))) := by
  unfold I64 at hr hn
  rw [Bool.eq_iff_iff]
  simp only [Bool.or_eq_true, Bool.and_eq_true, decide_eq_true_eq, IntKind.wrap_i64]
  omega
theorem chg_plus (h : a.Kind = 8) (hr : RecW r) (ha : ActW a) : Chg r a := by
  have e1 : rule_change a.Kind r a default = rule_plus r a default := by rw [h]; rfl
  have e2 : moietyref05_do r a = (moietyref05_over r.Num a.N).bind fun r7 => (if r7 then (moietyref05_do_j1 r (ans 9)) else (moietyref05_do_j1 { r with Num := IntKind.i64.wrap (r.Num + a.N) } (ans 0))) := by unfold moietyref05_do; rw [h]; rfl
  have hp := plus_over hr.num ha.n
  unfold Chg
  rw [e1, e2]
  unfold rule_plus moietyref05_over moietyref05_do_j1
  rw [hp]
  simp only [Option.bind_some]
  split
  · exact ⟨9, r, _, rfl, rfl, hr, zrc_w, fun h => by cases h⟩
  · exact ⟨0, _, _, rfl, rfl, hr.withNum (wrap_rng _), zrc_w, fun _ => ⟨rfl, rfl⟩⟩
theorem chg_reach (h : a.Kind = 9 ∨ a.Kind = 12) (hr : RecW r) : Chg r a := by
  have e1 : rule_change a.Kind r a default = rule_atLeast r a default := by rcases h with h | h <;> rw [h] <;> rfl
  have e2 : moietyref05_do r a = (if (decide (r.Num < a.N)) then (moietyref05_do_j1 r (ans 11)) else (moietyref05_do_j1 r (ans 0))) := by rcases h with h | h <;> unfold moietyref05_do moietyref05_do_j2 <;> rw [h] <;> rfl
  unfold Chg
  rw [e1, e2]
  unfold rule_atLeast moietyref05_do_j1
  split
  · exact ⟨11, r, _, rfl, rfl, hr, zrc_w, fun h => by cases h⟩
  · exact ⟨0, r, _, rfl, rfl, hr, zrc_w, fun _ => ⟨rfl, rfl⟩⟩
theorem purse (hg : GoodR r) (hk : r.Kind = 4) : -2305843009213693952 ≤ r.Low ∧ r.High ≤ 2305843009213693952 ∧ r.Low ≤ r.Num ∧ r.Num ≤ r.High := hg.2.2.2.2.1 hk
theorem chg_in (h : a.Kind = 10) (hr : RecW r) (hg : GoodR r) (hk : r.Kind = 4) (ha : ActW a) : Chg r a := by
  have e1 : rule_change a.Kind r a default = rule_changes_4 r a default := by rw [h]; rfl
  have e2 : moietyref05_do r a = (if (decide (r.High < IntKind.i64.wrap (r.Num + a.N))) then (moietyref05_do_j1 r (ans 9)) else (moietyref05_do_j1 { r with Num := IntKind.i64.wrap (r.Num + a.N) } (ans 0))) := by unfold moietyref05_do moietyref05_do_j2; rw [h]; rfl
  obtain ⟨p1, p2, p3, p4⟩ := purse hg hk
  obtain ⟨n1, n2⟩ := ha.inout (.inl h)
  have hd : decide (IntKind.i64.wrap (r.High - r.Num) < a.N) = decide (r.High < IntKind.i64.wrap (r.Num + a.N)) := by
    rw [wr (x := r.High - r.Num) (by omega) (by omega), wr (x := r.Num + a.N) (by omega) (by omega)]
    apply decide_eq_decide.2; omega
  unfold Chg
  rw [e1, e2]
  unfold rule_changes_4 moietyref05_do_j1
  rw [hd]
  split
  · exact ⟨9, r, _, rfl, rfl, hr, zrc_w, fun h => by cases h⟩
  · exact ⟨0, _, _, rfl, rfl, hr.withNum (wrap_rng _), zrc_w, fun _ => ⟨rfl, rfl⟩⟩
theorem chg_out (h : a.Kind = 11) (hr : RecW r) (hg : GoodR r) (hk : r.Kind = 4) (ha : ActW a) : Chg r a := by
  have e1 : rule_change a.Kind r a default = rule_changes_5 r a default := by rw [h]; rfl
  have e2 : moietyref05_do r a = (if (decide (IntKind.i64.wrap (r.Num - a.N) < r.Low)) then (moietyref05_do_j1 r (ans 10)) else (moietyref05_do_j1 { r with Num := IntKind.i64.wrap (r.Num - a.N) } (ans 0))) := by unfold moietyref05_do moietyref05_do_j2; rw [h]; rfl
  obtain ⟨p1, p2, p3, p4⟩ := purse hg hk
  obtain ⟨n1, n2⟩ := ha.inout (.inr h)
  have hd : decide (IntKind.i64.wrap (r.Num - r.Low) < a.N) = decide (IntKind.i64.wrap (r.Num - a.N) < r.Low) := by
    rw [wr (x := r.Num - r.Low) (by omega) (by omega), wr (x := r.Num - a.N) (by omega) (by omega)]
    apply decide_eq_decide.2; omega
  unfold Chg
  rw [e1, e2]
  unfold rule_changes_5 moietyref05_do_j1
  rw [hd]
  split
  · exact ⟨10, r, _, rfl, rfl, hr, zrc_w, fun h => by cases h⟩
  · exact ⟨0, _, _, rfl, rfl, hr.withNum (wrap_rng _), zrc_w, fun _ => ⟨rfl, rfl⟩⟩
theorem chg_real {m : Nat} {ψ : Nat → Nat → Option Nat} (h : rule_change a.Kind r a default = rule_real_1 ψ r a default) (h1 : ψ r.Real a.X = some m) (hm : m < W64) (h2 : moietyref05_do r a = some ({ r with Real := m }, ans 0)) (hr : RecW r) : Chg r a := by
  refine ⟨0, { r with Real := m }, ans 0, ?_, h2, hr.withReal hm, zrc_w, fun _ => ⟨rfl, rfl⟩⟩
  rw [h]
  unfold rule_real_1
  rw [h1]; rfl
theorem good_real (hg : GoodR r) : r.Real = canon r.Real := hg.2.2.2.2.2.1
theorem chg_raise (h : a.Kind = 13) (hr : RecW r) (hg : GoodR r) (ha : ActW a) : Chg r a := by
  obtain ⟨m, m1, m2, m3⟩ := max_both hr.ok.real ha.ok.2 (good_real hg) ha.xc
  refine chg_real (m := m) (ψ := fun x y => flo_Max x y) (by rw [h]; rfl) m1 (by rcases m3 with rfl | rfl; exact hr.ok.real; exact ha.ok.2) ?_ hr
  unfold moietyref05_do moietyref05_do_j2; rw [h, m2]; rfl
theorem chg_lower (h : a.Kind = 14) (hr : RecW r) (hg : GoodR r) (ha : ActW a) : Chg r a := by
  obtain ⟨m, m1, m2, m3⟩ := min_both hr.ok.real ha.ok.2 (good_real hg) ha.xc
  refine chg_real (m := m) (ψ := fun x y => flo_Min x y) (by rw [h]; rfl) m1 (by rcases m3 with rfl | rfl; exact hr.ok.real; exact ha.ok.2) ?_ hr
  unfold moietyref05_do moietyref05_do_j2; rw [h, m2]; rfl
theorem chg_shift (h : a.Kind = 15) (hr : RecW r) : Chg r a := by
  have hz := fadd_lt r.Real a.X
  obtain ⟨p, p1, p2⟩ := place_number hz
  refine chg_real (m := canon (fadd r.Real a.X)) (ψ := fun x y => flo_Plus x y) (by rw [h]; rfl) (by show flo_Plus r.Real a.X = _; unfold flo_Plus; rw [canon_eq hz]; rfl) (canon_lt hz) ?_ hr
  unfold moietyref05_do moietyref05_do_j2; rw [h, p1]
  show ((moietyref01_Number p).bind _) = _
  rw [p2]; rfl
theorem chg_scale (h : a.Kind = 16) (hr : RecW r) : Chg r a := by
  have hz := fmul_lt r.Real a.X
  obtain ⟨p, p1, p2⟩ := place_number hz
  refine chg_real (m := canon (fmul r.Real a.X)) (ψ := fun x y => flo_Times x y) (by rw [h]; rfl) (by show flo_Times r.Real a.X = _; unfold flo_Times; rw [canon_eq hz]; rfl) (canon_lt hz) ?_ hr
  unfold moietyref05_do moietyref05_do_j2; rw [h, p1]
  show ((moietyref01_Number p).bind _) = _
  rw [p2]; rfl
theorem chg_fix (h : a.Kind = 17) (hr : RecW r) (ha : ActW a) : Chg r a := by
  refine chg_real (m := a.X) (ψ := fun x y => rule_changes_6 x y) (by rw [h]; rfl) rfl ha.ok.2 ?_ hr
  unfold moietyref05_do moietyref05_do_j2; rw [h]; rfl
theorem good_list (hg : GoodR r) (hk : 8 ≤ r.Kind) : 1 ≤ r.Cap ∧ r.Cap ≤ 32 ∧ (r.List.length : Int) ≤ r.Cap := by
  obtain ⟨h1, h2, h3, _⟩ := hg.2.2.2.2.2.2 hk
  exact ⟨h1, h2, h3⟩
theorem chg_has (h : a.Kind = 20) (hr : RecW r) (hg : GoodR r) (hk : r.Kind = 8) : Chg r a := by
  have hs := good_names hg hk
  have hl := hr.len
  have e1 : rule_change a.Kind r a default = rule_changes_8 r a default := by rw [h]; rfl
  have e2 : moietyref05_do r a = (moietyref05_has r.List a.S).bind fun r59 => (if (!r59) then (moietyref05_do_j1 r (ans 11)) else (moietyref05_do_j1 r (ans 0))) := by unfold moietyref05_do moietyref05_do_j2; rw [h]; rfl
  unfold Chg
  rw [e1, e2]
  unfold rule_changes_8 moietyref05_do_j1
  rw [find_eq hs (by omega), has_eq (by omega), any_isAt hs]
  simp only [Option.bind_some]
  split
  · exact ⟨11, r, _, rfl, rfl, hr, zrc_w, fun h => by cases h⟩
  · exact ⟨0, r, _, rfl, rfl, hr, zrc_w, fun _ => ⟨rfl, rfl⟩⟩
theorem chg_join (h : a.Kind = 18) (hr : RecW r) (hg : GoodR r) (hk : r.Kind = 8) : Chg r a := by
  have hs := good_names hg hk
  have hl := hr.len
  obtain ⟨c1, c2, c3⟩ := good_list hg (by omega)
  have e1 : rule_change a.Kind r a default = rule_join r a default := by rw [h]; rfl
  have e2 : moietyref05_do r a = (moietyref05_has r.List a.S).bind fun r40 => (if ((!r40) && (decide (r.Cap ≤ (r.List.length : Int)))) then (moietyref05_do_j1 r (ans 8)) else ((moietyref05_Laid r.List ({ Score := (0 : Nat), Name := a.S } : api_Item) true).bind fun r43 => (moietyref05_do_j1 ({ r with List := r43 }) (ans 0)))) := by unfold moietyref05_do moietyref05_do_j2; rw [h]; rfl
  have hple := pre_le (fun e => sLt e.Name a.S) r.List
  unfold Chg
  rw [e1, e2]
  unfold rule_join moietyref05_do_j1
  rw [find_eq hs (by omega), has_eq (by omega), any_isAt hs, laid_eq (show (0 : Nat) < W64 by decide) hr.ok.sc (by omega), layL_isAt, clone_i (by omega)]
  simp only [Option.bind_some]
  by_cases hat : isAt a.S r.List = true
  · rw [hat]
    exact ⟨0, r, _, rfl, rfl, hr, zrc_w, fun _ => ⟨rfl, rfl⟩⟩
  · have hat' : isAt a.S r.List = false := by simpa using hat
    rw [hat']
    simp only [Bool.not_false, Bool.true_and, Bool.false_eq_true, if_false]
    by_cases hc : decide (r.Cap ≤ (r.List.length : Int)) = true
    · rw [if_pos hc, if_pos hc]
      exact ⟨8, r, _, rfl, rfl, hr, zrc_w, fun h => by cases h⟩
    · rw [if_neg hc, if_neg hc]
      unfold slices_Insert_api_Item_api_Item
      rw [if_pos ⟨by omega, by omega, by simp, by simp; omega⟩]
      refine ⟨0, _, _, rfl, rfl, hr.withList (by simp; omega) fun e he => ?_, zrc_w, fun _ => ⟨rfl, rfl⟩⟩
      simp only [List.mem_append, List.mem_singleton, Int.toNat_natCast] at he
      rcases he with (he | rfl) | he
      · exact hr.ok.sc e (List.mem_of_mem_take he)
      · exact (show (0 : Nat) < W64 by decide)
      · exact hr.ok.sc e (List.mem_of_mem_drop he)
theorem chg_leave (h : a.Kind = 19) (hr : RecW r) (hg : GoodR r) (hk : r.Kind = 8) : Chg r a := by
  have hs := good_names hg hk
  have hl := hr.len
  have e1 : rule_change a.Kind r a default = rule_changes_7 r a default := by rw [h]; rfl
  have e2 : moietyref05_do r a = (moietyref05_do_l1 r a (Int.toNat ((r.List.length : Int) - (0 : Int)) + 1) ([] : List api_Item) (0 : Int)).bind fun z57 => match z57 with | y56 => (moietyref05_do_j1 ({ r with List := y56 }) (ans 0)) := by unfold moietyref05_do moietyref05_do_j2; rw [h]; rfl
  have hple := pre_le (fun e => sLt e.Name a.S) r.List
  unfold Chg
  rw [e1, e2]
  unfold rule_changes_7 moietyref05_do_j1
  have hf := filt_loop (a := a) (a0 := r) (by omega) r.List.length 0 [] (by omega) (by simp)
  rw [show ((0 : Nat) : Int) = 0 from rfl] at hf
  rw [find_eq hs (by omega), show (Int.toNat ((r.List.length : Int) - (0 : Int)) + 1) = r.List.length + 1 by omega, hf, List.drop_zero, List.nil_append, filt_isAt hs, clone_i (by omega)]
  simp only [Option.bind_some]
  by_cases hat : isAt a.S r.List = true
  · have hp : pre (fun e => sLt e.Name a.S) r.List < r.List.length := by
      unfold isAt at hat
      cases hq : r.List[pre (fun e => sLt e.Name a.S) r.List]? with
      | none => rw [hq] at hat; cases hat
      | some e => exact (List.getElem?_eq_some_iff.1 hq).1
    rw [hat]
    simp only [if_true]
    unfold slices_Delete_api_Item_api_Item
    rw [wr1 (by omega), if_pos ⟨by omega, by omega, by omega, by omega, by omega⟩]
    refine ⟨0, _, _, rfl, rfl, hr.withList (by simp; omega) fun e he => ?_, zrc_w, fun _ => ⟨rfl, rfl⟩⟩
    simp only [List.mem_append, Int.toNat_natCast] at he
    rcases he with he | he
    · exact hr.ok.sc e (List.mem_of_mem_take he)
    · exact hr.ok.sc e (List.mem_of_mem_drop he)
  · have hat' : isAt a.S r.List = false := by simpa using hat
    rw [hat']
    exact ⟨0, r, _, rfl, rfl, hr, zrc_w, fun _ => ⟨rfl, rfl⟩⟩
end Go.CL

/- rule.Apply = moietyref05.Apply. -/
set_option linter.unusedVariables false
set_option linter.unusedSimpArgs false
namespace Go.CL
open Go

variable {r : api_Record} {a : api_Act}
theorem min_take {l : Items} {c : Int} (h1 : 1 ≤ c) (h2 : c ≤ 32) : cut l 0 (min (l.length : Int) c) = some (l.take c.toNat) := by
  unfold cut
  rw [if_pos (by omega)]
  simp only [Int.toNat_zero, List.drop_zero, Nat.sub_zero]
  congr 1
  rcases Int.le_total (l.length : Int) c with h | h
  · rw [Int.min_eq_left h, Int.toNat_natCast, List.take_of_length_le (Nat.le_refl _), List.take_of_length_le (by omega)]
  · rw [Int.min_eq_right h]
theorem chg_offer (h : a.Kind = 21) (hr : RecW r) (hg : GoodR r) (hk : r.Kind = 9) (ha : ActW a) : Chg r a := by
  have hl := hr.len
  obtain ⟨c1, c2, c3⟩ := good_list hg (by omega)
  have e1 : rule_change a.Kind r a default = rule_offer r a default := by rw [h]; rfl
  have e2 : moietyref05_do r a = (moietyref05_Laid r.List ({ Score := a.X, Name := a.S } : api_Item) false).bind fun r63 => (if (decide (r.Cap < (r63.length : Int))) then ((cut r63 (0 : Int) r.Cap).bind fun c66 => (moietyref05_do_j4 r c66)) else (moietyref05_do_j4 r r63)) := by unfold moietyref05_do moietyref05_do_j2; rw [h]; rfl
  have hx : ({ Score := a.X, Name := a.S } : api_Item).Score < W64 := ha.ok.2
  have hple := pre_le (aheadF { Score := a.X, Name := a.S } false) r.List
  unfold Chg
  rw [e1, e2]
  unfold rule_offer
  rw [offer_pre ha.ok.2 hr.ok.sc (by omega), laid_eq hx hr.ok.sc (by omega), clone_i (by omega)]
  simp only [Option.bind_some]
  -- an item more, and no more than there may be
  have fin : ∀ L : Items, L = r.List.take (pre (aheadF { Score := a.X, Name := a.S } false) r.List) ++ [{ Score := a.X, Name := a.S }] ++ r.List.drop (pre (aheadF { Score := a.X, Name := a.S } false) r.List) → layL { Score := a.X, Name := a.S } false r.List = L →
      ∃ c r' o, ((slices_Insert_api_Item_api_Item r.List ((pre (aheadF { Score := a.X, Name := a.S } false) r.List : Nat) : Int) ([({ Score := a.X, Name := a.S } : api_Item)] : List api_Item)).bind fun r16 => ((cut r16 (0 : Int) (min (r16.length : Int) r.Cap)).bind fun c18 => (some ((0 : Int), ({ r with List := c18 }), (default : api_Answer))))) = some (c, r', o) ∧
        (if (decide (r.Cap < ((layL { Score := a.X, Name := a.S } false r.List).length : Int))) = true then ((cut (layL { Score := a.X, Name := a.S } false r.List) (0 : Int) r.Cap).bind fun c66 => (moietyref05_do_j4 r c66)) else (moietyref05_do_j4 r (layL { Score := a.X, Name := a.S } false r.List))) = some (if c = 0 then (r', o) else (r, ans c)) ∧ RecW r' ∧ RecW o.Rec ∧ (c = 0 → o.Code = 0 ∧ o.Num = 0) := by
    intro L hL hlay
    have hLl : L.length = r.List.length + 1 := by rw [hL]; simp; omega
    have hLs : ∀ e ∈ L, e.Score < W64 := fun e he => by
      rw [hL] at he
      simp only [List.mem_append, List.mem_singleton] at he
      rcases he with (he | rfl) | he
      · exact hr.ok.sc e (List.mem_of_mem_take he)
      · exact hx
      · exact hr.ok.sc e (List.mem_of_mem_drop he)
    rw [hlay]
    unfold slices_Insert_api_Item_api_Item moietyref05_do_j4 moietyref05_do_j1
    rw [if_pos ⟨by omega, by omega, by simp, by simp; omega⟩]
    simp only [Option.bind_some, Int.toNat_natCast]
    rw [← hL, min_take c1 c2]
    refine ⟨0, { r with List := L.take r.Cap.toNat }, ans 0, rfl, ?_, hr.withList (by simp; omega) (fun e he => hLs e (List.mem_of_mem_take he)), zrc_w, fun _ => ⟨rfl, rfl⟩⟩
    by_cases hc : decide (r.Cap < (L.length : Int)) = true
    · rw [if_pos hc]
      have : r.Cap < (L.length : Int) := of_decide_eq_true hc
      unfold cut
      rw [if_pos (by omega)]
      simp
    · rw [if_neg hc]
      have : ¬ r.Cap < (L.length : Int) := fun h => hc (decide_eq_true h)
      rw [List.take_of_length_le (by omega)]; rfl
  by_cases hp : pre (aheadF { Score := a.X, Name := a.S } false) r.List < r.List.length
  · have hd : decide (((pre (aheadF { Score := a.X, Name := a.S } false) r.List : Nat) : Int) < (r.List.length : Int)) = true := by simpa using hp
    have hat := pre_at (List.getElem?_eq_getElem hp)
    have hb : betterB r.List[pre (aheadF { Score := a.X, Name := a.S } false) r.List] { Score := a.X, Name := a.S } = false := hat
    have hbs := better_same hb
    rw [hd, idx_lt hp]
    simp only [gd_t, Option.bind_some, Bool.true_and]
    rw [better_eq hx (hr.ok.sc _ (List.getElem_mem hp))]
    simp only [Option.bind_some]
    by_cases hs : (!betterB { Score := a.X, Name := a.S } r.List[pre (aheadF { Score := a.X, Name := a.S } false) r.List]) = true
    · rw [if_pos hs]
      have hlay : layL { Score := a.X, Name := a.S } false r.List = r.List := by
        unfold layL
        rw [List.getElem?_eq_getElem hp]
        simp only
        rw [if_pos (by rw [← hbs]; exact hs), List.append_nil, List.take_append_drop]
      rw [hlay, if_neg (by simp; omega)]
      exact ⟨0, r, _, rfl, rfl, hr, zrc_w, fun _ => ⟨rfl, rfl⟩⟩
    · rw [if_neg hs]
      refine fin _ rfl ?_
      unfold layL
      rw [List.getElem?_eq_getElem hp]
      simp only
      rw [if_neg (by rw [← hbs]; exact hs)]
  · have hd : decide (((pre (aheadF { Score := a.X, Name := a.S } false) r.List : Nat) : Int) < (r.List.length : Int)) = false := by simpa using hp
    rw [hd]
    simp only [gd_f, Option.bind_some, Bool.false_and, Bool.false_eq_true, if_false]
    refine fin _ rfl ?_
    unfold layL
    rw [List.getElem?_eq_none (by omega), List.take_of_length_le (by omega), List.drop_of_length_le (by omega), List.append_nil]
theorem on_both {k : Int} (h1 : 1 ≤ k) (h2 : k ≤ 21) : ∃ on, act_On k = some on ∧ moietyref04_On k = some on ∧ (k ≤ 4 → on = 0) ∧ (5 ≤ k → on ≠ 0) ∧ ((k = 10 ∨ k = 11) → on = 4) ∧ ((k = 18 ∨ k = 19 ∨ k = 20) → on = 8) ∧ (k = 21 → on = 9) ∧
    ((k = 5 ∨ k = 6) → on = 1) ∧ (k = 7 → on = 2) ∧ ((k = 8 ∨ k = 9) → on = 3) ∧ (k = 12 → on = 4) ∧ (k = 13 → on = 5) ∧ (k = 14 → on = 6) ∧ ((k = 15 ∨ k = 16 ∨ k = 17) → on = 7) := by
  have hk' : k = 1 ∨ k = 2 ∨ k = 3 ∨ k = 4 ∨ k = 5 ∨ k = 6 ∨ k = 7 ∨ k = 8 ∨ k = 9 ∨ k = 10 ∨ k = 11 ∨ k = 12 ∨ k = 13 ∨ k = 14 ∨ k = 15 ∨ k = 16 ∨ k = 17 ∨ k = 18 ∨ k = 19 ∨ k = 20 ∨ k = 21 := by omega
  rcases hk' with rfl | rfl | rfl | rfl | rfl | rfl | rfl | rfl | rfl | rfl | rfl | rfl | rfl | rfl | rfl | rfl | rfl | rfl | rfl | rfl | rfl
  all_goals first
    | exact ⟨0, by kernel_rfl, by kernel_rfl, by decide⟩
    | exact ⟨1, by kernel_rfl, by kernel_rfl, by decide⟩
    | exact ⟨2, by kernel_rfl, by kernel_rfl, by decide⟩
    | exact ⟨3, by kernel_rfl, by kernel_rfl, by decide⟩
    | exact ⟨4, by kernel_rfl, by kernel_rfl, by decide⟩
    | exact ⟨5, by kernel_rfl, by kernel_rfl, by decide⟩
    | exact ⟨6, by kernel_rfl, by kernel_rfl, by decide⟩
    | exact ⟨7, by kernel_rfl, by kernel_rfl, by decide⟩
    | exact ⟨8, by kernel_rfl, by kernel_rfl, by decide⟩
    | exact ⟨9, by kernel_rfl, by kernel_rfl, by decide⟩
theorem chg_all (h5 : 5 ≤ a.Kind) (h21 : a.Kind ≤ 21) (hr : RecW r) (hg : GoodR r) (hon : act_On a.Kind = some r.Kind) (ha : ActW a) : Chg r a := by
  obtain ⟨on, o1, _, _, _, k10, k18, k21, _⟩ := on_both (k := a.Kind) (by omega) h21
  rw [hon] at o1
  obtain rfl := Option.some.inj o1
  have hk' : a.Kind = 5 ∨ a.Kind = 6 ∨ a.Kind = 7 ∨ a.Kind = 8 ∨ a.Kind = 9 ∨ a.Kind = 10 ∨ a.Kind = 11 ∨ a.Kind = 12 ∨ a.Kind = 13 ∨ a.Kind = 14 ∨ a.Kind = 15 ∨ a.Kind = 16 ∨ a.Kind = 17 ∨ a.Kind = 18 ∨ a.Kind = 19 ∨ a.Kind = 20 ∨ a.Kind = 21 := by omega
  rcases hk' with h | h | h | h | h | h | h | h | h | h | h | h | h | h | h | h | h
  · exact chg_put h hr
  · exact chg_swap h hr
  · exact chg_add h hr
  · exact chg_plus h hr ha
  · exact chg_reach (.inl h) hr
  · exact chg_in h hr hg (k10 (.inl h)) ha
  · exact chg_out h hr hg (k10 (.inr h)) ha
  · exact chg_reach (.inr h) hr
  · exact chg_raise h hr hg ha
  · exact chg_lower h hr hg ha
  · exact chg_shift h hr
  · exact chg_scale h hr
  · exact chg_fix h hr ha
  · exact chg_join h hr hg (k18 (.inl h))
  · exact chg_leave h hr hg (k18 (.inr (.inl h)))
  · exact chg_has h hr hg (k18 (.inr (.inr h)))
  · exact chg_offer h hr hg (k21 h) ha
/-- An act as it may come in. -/
structure ActIn (a : api_Act) : Prop where
  ok : ActOk a
  n : I64 a.N
  mkr : RecW a.Make
theorem ActIn.w {a : api_Act} (h : ActIn a) {c : Int} (hc : 1 ≤ a.Kind ∧ a.Kind ≤ 21 ∧ a.X = canon a.X ∧ a.S.size ≤ 64 ∧ ((a.Kind = 10 ∨ a.Kind = 11) → 0 ≤ a.N ∧ a.N ≤ 2305843009213693952) ∧ (a.Kind = 1 → rec_Check a.Make = some 0) ∧ (¬ (5 ≤ a.Kind ∧ a.Kind ≤ 6) → a.S.size ≤ 16) ∧ sEq a.Key ⟨#[]⟩ = false ∧ a.Key.size ≤ 24) : ActW a :=
  ⟨h.ok, h.n, h.mkr, hc.2.2.1, hc.2.2.2.2.1, hc.2.2.2.1, hc.2.2.2.2.2.2.1⟩
theorem ref_err {there : Bool} {r : api_Record} {c : Int} (hc : c ≠ 0) {on : Int} (ho : moietyref04_On a.Kind = some on) : moietyref05_Apply_j2 there a r c = some (r, there, ans c) := by
  have h1 : (c == 0) = false := by simpa using hc
  have h2 : (c != 0) = true := by simpa using hc
  unfold moietyref05_Apply_j2
  simp only [h1, Bool.false_and, Bool.false_eq_true, if_false]
  unfold moietyref05_Apply_j3
  simp only [h1, Bool.false_and, Bool.false_eq_true, if_false]
  unfold moietyref05_Apply_j4
  rw [ho]
  simp only [h1, Bool.false_and, Bool.false_eq_true, if_false, Option.bind_some]
  unfold moietyref05_Apply_j5
  rw [if_pos h2]
theorem on_some (k : Int) : ∃ on, moietyref04_On k = some on := by
  by_cases h : k < 0 ∨ 21 < k
  · exact ⟨0, by unfold moietyref04_On; rw [if_pos (by simpa using h)]⟩
  · by_cases h0 : k = 0
    · exact ⟨0, by rw [h0]; kernel_rfl⟩
    · obtain ⟨on, _, h2, _⟩ := on_both (k := k) (by omega) (by omega)
      exact ⟨on, h2⟩
/-- **The program's Apply and the document's are the same.** -/
theorem apply_both {r : api_Record} {there : Bool} {a : api_Act} (hr : RecW r) (ha : ActIn a) : ∃ x is out, rule_Apply r there a = some (x, is, out) ∧ moietyref05_Apply r there a = some (x, is, out) ∧ RecW x ∧ RecW out.Rec := by
  suffices hs : ∀ r0 : api_Record, RecW r0 → ∃ x is out, rule_Apply_j1 there a r0 = some (x, is, out) ∧ moietyref05_Apply_j1 there a r0 = some (x, is, out) ∧ RecW x ∧ RecW out.Rec by
    unfold rule_Apply moietyref05_Apply
    cases there
    · exact hs _ zrc_w
    · exact hs r hr
  intro r0 hr0
  unfold rule_Apply_j1 moietyref05_Apply_j1
  rw [rclone_eq hr0.len, copied_eq hr0.len]
  obtain ⟨c, h1, h2, h3⟩ := check_act ha.ok
  obtain ⟨on, hon⟩ := on_some a.Kind
  rw [h1, h2]
  simp only [Option.bind_some]
  by_cases hc : c = 0
  · subst hc
    have hf := h3 rfl
    have hw := ha.w (c := 0) hf
    obtain ⟨on2, o1, o2, o3, o4, _⟩ := on_both hf.1 hf.2.1
    have main : (there = true → GoodR r0) → ∃ x is out, rule_Apply_j2 there a r0 = some (x, is, out) ∧ moietyref05_Apply_j2 there a r0 0 = some (x, is, out) ∧ RecW x ∧ RecW out.Rec := by
      intro hg
      unfold rule_Apply_j2 rule_Apply_1 moietyref05_Apply_j2 moietyref05_Apply_j3 moietyref05_Apply_j4
      rw [o1, o2, rclone_eq hr0.len, rclone_eq ha.mkr.len]
      unfold moietyref05_Apply_j5
      rw [copied_eq hr0.len, copied_eq ha.mkr.len]
      simp only [Option.bind_some]
      by_cases k1 : a.Kind = 1
      · rw [k1, o3 (by omega)]
        cases there
        · exact ⟨a.Make, true, ans 0, rfl, rfl, ha.mkr, zrc_w⟩
        · exact ⟨r0, true, ans 7, rfl, rfl, hr0, zrc_w⟩
      · by_cases k3 : a.Kind = 3
        · rw [k3, o3 (by omega)]
          cases there
          · exact ⟨r0, false, { ans 0 with Num := r0.Kind }, rfl, rfl, hr0, zrc_w⟩
          · exact ⟨r0, true, { ans 0 with Num := r0.Kind }, rfl, rfl, hr0, zrc_w⟩
        · by_cases k2 : a.Kind = 2
          · rw [k2, o3 (by omega)]
            cases there
            · exact ⟨r0, false, ans 6, rfl, rfl, hr0, zrc_w⟩
            · exact ⟨zrc, false, ans 0, rfl, rfl, zrc_w, zrc_w⟩
          · by_cases k4 : a.Kind = 4
            · rw [k4, o3 (by omega)]
              cases there
              · exact ⟨r0, false, ans 6, rfl, rfl, hr0, zrc_w⟩
              · exact ⟨r0, true, { ans 0 with Rec := r0 }, rfl, rfl, hr0, hr0⟩
            · have h5 : 5 ≤ a.Kind := by omega
              have b1 : (a.Kind == 1) = false := by simpa using k1
              have b2 : (a.Kind == 2) = false := by simpa using k2
              have b3 : (a.Kind == 3) = false := by simpa using k3
              have b4 : (a.Kind == 4) = false := by simpa using k4
              have b1' : (a.Kind != 1) = true := by simpa using k1
              have b3' : (a.Kind != 3) = true := by simpa using k3
              have bo : (on2 != 0) = true := by simpa using o4 h5
              simp only [b1, b2, b3, b4, b1', b3', bo, Bool.false_and, Bool.and_false, Bool.and_true, Bool.true_and, Bool.false_eq_true, if_false, beq_self_eq_true]
              cases there
              · exact ⟨r0, false, ans 6, rfl, rfl, hr0, zrc_w⟩
              · simp only [Bool.not_true, Bool.false_eq_true, if_false, Bool.and_false, Bool.false_and, beq_self_eq_true, Bool.true_and]
                by_cases hk : (on2 != r0.Kind) = true
                · rw [if_pos hk, if_pos hk]
                  exact ⟨r0, true, ans 5, rfl, rfl, hr0, zrc_w⟩
                · rw [if_neg hk, if_neg hk, if_pos ⟨h5, hf.2.1⟩]
                  have hk' : on2 = r0.Kind := by simpa using hk
                  obtain ⟨c, r', o, e1, e2, w1, w2, _⟩ := chg_all h5 hf.2.1 hr0 (hg rfl) (by rw [← hk']; exact o1) hw
                  rw [e1, e2]
                  simp only [Option.bind_some]
                  by_cases hc : c = 0
                  · subst hc
                    exact ⟨r', true, o, rfl, rfl, w1, w2⟩
                  · have hcn : (c != 0) = true := by simpa using hc
                    rw [if_pos hcn, if_neg hc]
                    exact ⟨r0, true, ans c, rfl, rfl, hr0, zrc_w⟩
    have z1 : ((0 : Int) != 0) = false := rfl
    have z2 : ((0 : Int) == 0) = true := rfl
    rw [z1, z2]
    simp only [Bool.false_eq_true, if_false, Bool.true_and]
    by_cases ht : there = true
    · rw [if_pos ht, if_pos ht]
      obtain ⟨c2, g1, g2⟩ := check_both hr0.ok
      rw [g1, g2]
      simp only [Option.bind_some]
      by_cases hc2 : c2 = 0
      · subst hc2
        rw [z1]
        exact main fun _ => (check_good hr0.ok).1 g1
      · have hcn : (c2 != 0) = true := by simpa using hc2
        rw [if_pos hcn, ref_err hc2 o2]
        exact ⟨r0, there, ans c2, rfl, rfl, hr0, zrc_w⟩
    · rw [if_neg ht, if_neg ht]
      exact main fun h => absurd h ht
  · have hcn : (c != 0) = true := by simpa using hc
    have hcz : (c == 0) = false := by simpa using hc
    rw [if_pos hcn, hcz]
    simp only [Bool.false_and, Bool.false_eq_true, if_false]
    rw [ref_err hc hon]
    exact ⟨r0, there, ans c, rfl, rfl, hr0, zrc_w⟩
end Go.CL

/- RuleApplies. -/
set_option linter.unusedVariables false
set_option linter.unusedSimpArgs false
namespace Go.CL
open Go

theorem recLenR {x : api_Record} (h : wf_api_Record x) : x.List.length ≤ 9223372036854775807 := by
  obtain ⟨_, _, _, _, _, _, _, h8, _⟩ := h
  simp only [maxLen] at h8; omega
theorem recW_of {x : api_Record} (h : wf_api_Record x) (hl : x.List.length ≤ 100) : RecW x := by
  obtain ⟨h1, h2, h3, h4, h5, _, _, h8, h9⟩ := h
  exact ⟨⟨h5, by omega, fun e he => (h9 e he).1⟩, h2, h3, h4, h1, by omega⟩
theorem eqLr : ∀ l : List api_Item, eqL l l = true
  | [] => rfl
  | x :: l => by simp [eqL, eqI, sEq_self, eqLr l]
theorem sameRr (a : api_Record) : sameR a a = true := by simp [sameR, sEq_self, eqLr]
theorem actIn_of {a : api_Act} (h : wf_api_Act a) (hl : a.Make.List.length ≤ 100) : ActIn a := by
  obtain ⟨_, _, h3, h4, _, h6, _⟩ := h
  exact ⟨⟨(recW_of h6 hl).ok, h4⟩, h3, recW_of h6 hl⟩
theorem big04 {a : api_Act} (h : wf_api_Act a) : ∃ c, moietylaw04_Big a = some c ∧ (c = 0 ∨ c = 1) ∧ (c = 0 → a.Make.List.length ≤ 100) := by
  obtain ⟨c, e1, e2, e3⟩ := big03 (recLenR h.2.2.2.2.2.1)
  unfold moietylaw04_Big
  rw [e1]
  by_cases hk : (decide ((200 : Int) < (a.Key.size : Int)) || decide ((1000 : Int) < (a.S.size : Int))) = true
  · rw [hk]; exact ⟨1, rfl, .inr rfl, fun h => by cases h⟩
  · have hk' := Bool.eq_false_iff.2 hk
    rw [hk']
    rcases e2 with rfl | rfl
    · exact ⟨0, rfl, .inl rfl, fun _ => e3 rfl⟩
    · exact ⟨1, rfl, .inr rfl, fun h => by cases h⟩
theorem big5_loop {l : List api_Act} (hl : l.length ≤ 30) (hw : ∀ o ∈ l, wf_api_Act o) : ∀ (n i : Nat), i + n = l.length → (moietylaw05_big_l1 l (n + 1) (i : Int) = some (.inl true)) ∨ (moietylaw05_big_l1 l (n + 1) (i : Int) = some (.inr ()) ∧ ∀ o ∈ l.drop i, o.Make.List.length ≤ 100)
  | 0, i, h => by
    right
    rw [moietylaw05_big_l1, if_neg (by simp; omega), List.drop_of_length_le (by omega)]
    exact ⟨rfl, fun o ho => by cases ho⟩
  | n + 1, i, h => by
    have h1 : i < l.length := by omega
    obtain ⟨c, e1, e2, e3⟩ := big04 (hw _ (List.getElem_mem h1))
    rw [moietylaw05_big_l1, if_pos (by simp; omega), idx_lt h1, wr1 (by omega)]
    simp only [Option.bind_some]
    rw [e1]
    rcases e2 with rfl | rfl
    · simp only [Int.lt_irrefl, decide_false, Bool.false_eq_true, if_false, Option.bind_some]
      rcases big5_loop hl hw n (i + 1) (by omega) with h2 | ⟨h2, h3⟩
      · exact .inl h2
      · right
        refine ⟨h2, fun o ho => ?_⟩
        rw [List.drop_eq_getElem_cons h1] at ho
        rcases List.mem_cons.1 ho with rfl | ho
        · exact e3 rfl
        · exact h3 o ho
    · left; rfl
theorem big5 {r : api_Record} {l : List api_Act} (hr : wf_api_Record r) (hw : ∀ o ∈ l, wf_api_Act o) : moietylaw05_big r l = some true ∨ (moietylaw05_big r l = some false ∧ RecW r ∧ l.length ≤ 30 ∧ ∀ o ∈ l, ActIn o) := by
  obtain ⟨c, e1, e2, e3⟩ := big03 (recLenR hr)
  unfold moietylaw05_big
  rw [e1]
  simp only [Option.bind_some]
  rcases e2 with rfl | rfl
  · by_cases h : (30 : Int) < l.length
    · left; simp [h]
    · rw [if_neg (by simp; omega), show (Int.toNat ((l.length : Int) - (0 : Int)) + 1) = l.length + 1 by omega]
      have := big5_loop (l := l) (by omega) hw l.length 0 (by omega)
      rw [show ((0 : Nat) : Int) = 0 from rfl] at this
      rcases this with h1 | ⟨h1, h2⟩
      · left; rw [h1]; rfl
      · right; rw [h1]; exact ⟨rfl, recW_of hr (e3 rfl), by omega, fun o ho => actIn_of (hw o ho) (h2 o ho)⟩
  · left; rfl
theorem rsameA {a b : api_Answer} (ha : RecW a.Rec) (hb : RecW b.Rec) : moietyref05_Same a b = some ((a.Code == b.Code) && (a.Num == b.Num) && sameR a.Rec b.Rec) := by
  unfold moietyref05_Same
  rw [rsame_rec ha.ok hb.ok]
  cases (a.Code == b.Code) && (a.Num == b.Num) <;> rfl
theorem sameA {a b : api_Answer} (ha : RecW a.Rec) (hb : RecW b.Rec) : rule_Same a b = some ((a.Code == b.Code) && (a.Num == b.Num) && sameR a.Rec b.Rec) := by
  unfold rule_Same
  rw [same_rec ha.ok hb.ok]
  cases (a.Code == b.Code) && (a.Num == b.Num) <;> rfl
theorem speaks5 : moietylaw05_speaks = some true := by kernel_rfl
/-- **RuleApplies.** -/
theorem RuleApplies_true (a0 : api_Record) (a1 : Bool) (a2 : api_Act) (ha0 : wf_api_Record a0) (ha1 : True) (ha2 : wf_api_Act a2) : moietylaw05_RuleApplies a0 a1 a2 = some true := by
  unfold moietylaw05_RuleApplies
  rw [speaks5]
  simp only [Option.bind_some, Bool.not_true, Bool.false_eq_true, if_false]
  rcases big5 (l := [a2]) ha0 (fun o ho => by rw [List.mem_singleton.1 ho]; exact ha2) with hb | ⟨hb, hr, _, hi⟩
  · rw [hb]; rfl
  · rw [hb]
    obtain ⟨x, is, out, e1, e2, w1, w2⟩ := apply_both (there := a1) hr (hi a2 (List.mem_singleton.2 rfl))
    rw [e1, e2]
    simp only [Option.bind_some, Bool.false_eq_true, if_false]
    rw [rsame_rec w1.ok w1.ok, rsameA w2 w2, sameA w2 w2]
    simp [sameRr, gd_t]
end Go.CL

/- RuleRows. -/
set_option linter.unusedVariables false
set_option linter.unusedSimpArgs false
namespace Go.CL
open Go

def runR : List api_Act → Bool → api_Record → Option (api_Record × Bool × List api_Answer)
  | [], t, r => some (r, t, [])
  | a :: l, t, r => (rule_Apply r t a).bind fun z => (runR l z.2.1 z.1).bind fun y => some (y.1, y.2.1, z.2.2 :: y.2.2)
theorem run_ok : ∀ {l : List api_Act} {t : Bool} {r : api_Record}, RecW r → (∀ a ∈ l, ActIn a) → ∃ x is outs, runR l t r = some (x, is, outs) ∧ RecW x ∧ outs.length = l.length ∧ ∀ o ∈ outs, RecW o.Rec
  | [], t, r, hr, _ => ⟨r, t, [], rfl, hr, rfl, fun o h => by cases h⟩
  | a :: l, t, r, hr, hl => by
    obtain ⟨x, is, out, e1, _, w1, w2⟩ := apply_both (there := t) hr (hl a (List.mem_cons_self ..))
    obtain ⟨y, js, outs, e2, w3, h4, h5⟩ := run_ok (l := l) (t := is) w1 fun a h => hl a (List.mem_cons_of_mem _ h)
    refine ⟨y, js, out :: outs, by rw [runR, e1]; simp only [Option.bind_some]; rw [e2]; rfl, w3, by simp [h4], fun o h => ?_⟩
    rcases List.mem_cons.1 h with rfl | h
    · exact w2
    · exact h5 o h
theorem run_cons {a : api_Act} {l : List api_Act} {t : Bool} {r x : api_Record} {is : Bool} {outs : List api_Answer} (h : runR (a :: l) t r = some (x, is, outs)) : ∃ r1 t1 o1 os, rule_Apply r t a = some (r1, t1, o1) ∧ runR l t1 r1 = some (x, is, os) ∧ outs = o1 :: os := by
  rw [runR] at h
  obtain ⟨⟨r1, t1, o1⟩, h1, h2⟩ := Option.bind_eq_some_iff.1 h
  obtain ⟨⟨x', is', os⟩, h3, h4⟩ := Option.bind_eq_some_iff.1 h2
  simp only [Option.some.injEq, Prod.mk.injEq] at h4
  obtain ⟨rfl, rfl, rfl⟩ := h4
  exact ⟨r1, t1, o1, os, h1, h3, rfl⟩
theorem row_loop {l : List api_Act} (hl : l.length ≤ 30) : ∀ (n i : Nat) {t : Bool} {r x : api_Record} {is : Bool} {outs acc : List api_Answer}, i + n = l.length → acc.length = i → runR (l.drop i) t r = some (x, is, outs) → rule_Row_l1 l (n + 1) t r acc (i : Int) = some (is, x, acc ++ outs)
  | 0, i, t, r, x, is, outs, acc, h, ha, hr => by
    rw [List.drop_of_length_le (by omega)] at hr
    simp only [runR, Option.some.injEq, Prod.mk.injEq] at hr
    obtain ⟨rfl, rfl, rfl⟩ := hr
    rw [rule_Row_l1, if_neg (by simp; omega), List.append_nil]
  | n + 1, i, t, r, x, is, outs, acc, h, ha, hr => by
    have h1 : i < l.length := by omega
    rw [List.drop_eq_getElem_cons h1] at hr
    obtain ⟨r1, t1, o1, os, e1, e2, rfl⟩ := run_cons hr
    rw [rule_Row_l1, if_pos (by simp; omega), idx_lt h1, wr1 (by omega)]
    simp only [Option.bind_some]
    rw [e1]
    simp only [Option.bind_some]
    rw [if_pos (by simp; omega), row_loop hl n (i + 1) (by omega) (by simp [ha]) e2]
    simp
theorem row_eq {l : List api_Act} (hl : l.length ≤ 30) {t : Bool} {r x : api_Record} {is : Bool} {outs : List api_Answer} (hr : RecW r) (h : runR l t r = some (x, is, outs)) : rule_Row_j1 t l r = some (x, is, outs) := by
  have := row_loop hl l.length 0 (t := t) (r := r) (acc := []) (by omega) rfl (by rw [List.drop_zero]; exact h)
  unfold rule_Row_j1
  rw [show ((0 : Nat) : Int) = 0 from rfl] at this
  rw [rclone_eq hr.len, show (Int.toNat ((l.length : Int) - (0 : Int)) + 1) = l.length + 1 by omega]
  simp only [Option.bind_some]
  rw [this]; rfl
theorem rrows_loop {l : List api_Act} {X : api_Record} {B : Bool} {all : List api_Answer} (hl : l.length ≤ 30) (hin : ∀ a ∈ l, ActIn a) : ∀ (n i : Nat) {t : Bool} {r x : api_Record} {is : Bool}, i + n = l.length → all.length = l.length → RecW r → runR (l.drop i) t r = some (x, is, all.drop i) → moietylaw05_RuleRows_l1 l (X, B, all) (n + 1) r t (i : Int) = some (.inr (x, is))
  | 0, i, t, r, x, is, h, ha, hw, hr => by
    rw [List.drop_of_length_le (by omega)] at hr
    simp only [runR, Option.some.injEq, Prod.mk.injEq] at hr
    obtain ⟨rfl, rfl, _⟩ := hr
    rw [moietylaw05_RuleRows_l1, if_neg (by simp; omega)]
  | n + 1, i, t, r, x, is, h, ha, hw, hr => by
    have h1 : i < l.length := by omega
    have h2 : i < all.length := by omega
    rw [List.drop_eq_getElem_cons h1, List.drop_eq_getElem_cons h2] at hr
    obtain ⟨r1, t1, o1, os, e1, e2, e3⟩ := run_cons hr
    obtain ⟨rfl, rfl⟩ := List.cons.inj e3
    obtain ⟨x', is', out, f1, f2, w1, w2⟩ := apply_both (there := t) hw (hin _ (List.getElem_mem h1))
    rw [f1] at e1
    simp only [Option.some.injEq, Prod.mk.injEq] at e1
    obtain ⟨rfl, rfl, rfl⟩ := e1
    rw [moietylaw05_RuleRows_l1, if_pos (by simp; omega), idx_lt h1, wr1 (by omega)]
    simp only [Option.bind_some]
    rw [f2, idx_lt h2]
    simp only [Option.bind_some]
    rw [rsameA w2 w2]
    simp only [sameRr, beq_self_eq_true, Bool.and_self, Option.bind_some, Bool.not_true, Bool.false_eq_true, if_false]
    exact rrows_loop hl hin n (i + 1) (by omega) ha w1 e2
/-- **RuleRows.** -/
theorem RuleRows_true (a0 : api_Record) (a1 : Bool) (a2 : List api_Act) (ha0 : wf_api_Record a0) (ha1 : True) (ha2 : a2.length ≤ maxLen ∧ ∀ e0 ∈ a2, wf_api_Act e0) : moietylaw05_RuleRows a0 a1 a2 = some true := by
  unfold moietylaw05_RuleRows
  rw [speaks5]
  simp only [Option.bind_some, Bool.not_true, Bool.false_eq_true, if_false]
  rcases big5 ha0 ha2.2 with hb | ⟨hb, hr, hl, hi⟩
  · rw [hb]; rfl
  · rw [hb]
    have main : ∀ r0 : api_Record, RecW r0 → ((rule_Row_j1 a1 a2 r0).bind fun r7 => moietylaw05_RuleRows_j1 a1 a2 r7 r0) = some true := by
      intro r0 h0
      obtain ⟨x, is, outs, e1, w1, hlen, hos⟩ := run_ok (t := a1) h0 hi
      rw [row_eq hl h0 e1]
      simp only [Option.bind_some]
      unfold moietylaw05_RuleRows_j1
      have := rrows_loop (X := x) (B := is) (all := outs) hl hi a2.length 0 (by omega) hlen h0 (by rw [List.drop_zero, List.drop_zero]; exact e1)
      rw [show ((0 : Nat) : Int) = 0 from rfl] at this
      rw [if_neg (by simp [hlen]), show (Int.toNat ((a2.length : Int) - (0 : Int)) + 1) = a2.length + 1 by omega, this]
      simp only [Option.bind_some]
      rw [rsame_rec w1.ok w1.ok]
      simp [sameRr]
    simp only [Option.bind_some, Bool.false_eq_true, if_false]
    unfold rule_Row
    cases a1
    · exact main _ zrc_w
    · exact main _ hr
end Go.CL

set_option linter.unusedVariables false
set_option linter.unusedSimpArgs false
set_option maxRecDepth 100000
namespace Go.CL
open Go Go.RowKit Go.Proofs Go.ChangeShapes Go.WideShapes Go.ChangeAt
theorem Tryd_own : ownKnob Tryd.prog.godebug = none := by kernel_rfl
theorem Tryd_laid : laidOutB Tryd.prog = true := by kernel_rfl
theorem op_3 : Opn Tryd.prog 3 (Kd.int .i64) (fun x => ((IntKind.i64).min ≤ x ∧ x ≤ (IntKind.i64).max)) := opn_int Tryd.underlying3 (by kernel_rfl)
theorem op_2 : Opn Tryd.prog 2 (Kd.int .i64) (fun x => ((IntKind.i64).min ≤ x ∧ x ≤ (IntKind.i64).max)) := opn_int Tryd.underlying2 (by kernel_rfl)
theorem op_22 : Opn Tryd.prog 22 Kd.flt (fun x => (x < 2 ^ 64)) := opn_flt Tryd.underlying22 (by kernel_rfl)
theorem op_9 : Opn Tryd.prog 9 Kd.str (fun x => (x.size ≤ maxLen)) := opn_str Tryd.underlying9 (by kernel_rfl)
theorem op_48 : Opn Tryd.prog 48 k_api_Item wf_api_Item := ⟨by kernel_rfl, fun hg h => by
  obtain ⟨hl, n, hf⟩ := opn_fields Tryd.underlying48 h
  obtain ⟨y0, h0⟩ := hf 0 _ rfl
  obtain ⟨v0, k0, w0⟩ := op_22.op hg h0
  obtain ⟨y1, h1⟩ := hf 1 _ rfl
  obtain ⟨v1, k1, w1⟩ := op_9.op hg h1
  refine ⟨⟨v0, v1⟩, ⟨hl.trans (by kernel_rfl), (List.forall_mem_cons.2 ⟨k0, (List.forall_mem_cons.2 ⟨k1, (fun _ h => by cases h)⟩)⟩)⟩, w0, w1⟩, fun h => fm_struct Tryd.underlying48 h⟩
theorem op_23 : Opn Tryd.prog 23 k_api_Item.sl (fun x => (x.length ≤ maxLen ∧ ∀ e0 ∈ x, (wf_api_Item e0))) := opn_sl Tryd.underlying23 (by kernel_rfl) op_48 (by decide)
theorem op_25 : Opn Tryd.prog 25 k_api_Record wf_api_Record := ⟨by kernel_rfl, fun hg h => by
  obtain ⟨hl, n, hf⟩ := opn_fields Tryd.underlying25 h
  obtain ⟨y0, h0⟩ := hf 0 _ rfl
  obtain ⟨v0, k0, w0⟩ := op_3.op hg h0
  obtain ⟨y1, h1⟩ := hf 1 _ rfl
  obtain ⟨v1, k1, w1⟩ := op_2.op hg h1
  obtain ⟨y2, h2⟩ := hf 2 _ rfl
  obtain ⟨v2, k2, w2⟩ := op_2.op hg h2
  obtain ⟨y3, h3⟩ := hf 3 _ rfl
  obtain ⟨v3, k3, w3⟩ := op_2.op hg h3
  obtain ⟨y4, h4⟩ := hf 4 _ rfl
  obtain ⟨v4, k4, w4⟩ := op_22.op hg h4
  obtain ⟨y5, h5⟩ := hf 5 _ rfl
  obtain ⟨v5, k5, w5⟩ := op_3.op hg h5
  obtain ⟨y6, h6⟩ := hf 6 _ rfl
  obtain ⟨v6, k6, w6⟩ := op_9.op hg h6
  obtain ⟨y7, h7⟩ := hf 7 _ rfl
  obtain ⟨v7, k7, w7⟩ := op_23.op hg h7
  refine ⟨⟨v0, v1, v2, v3, v4, v5, v6, v7⟩, ⟨hl.trans (by kernel_rfl), (List.forall_mem_cons.2 ⟨k0, (List.forall_mem_cons.2 ⟨k1, (List.forall_mem_cons.2 ⟨k2, (List.forall_mem_cons.2 ⟨k3, (List.forall_mem_cons.2 ⟨k4, (List.forall_mem_cons.2 ⟨k5, (List.forall_mem_cons.2 ⟨k6, (List.forall_mem_cons.2 ⟨k7, (fun _ h => by cases h)⟩)⟩)⟩)⟩)⟩)⟩)⟩)⟩)⟩, w0, w1, w2, w3, w4, w5, w6, w7⟩, fun h => fm_struct Tryd.underlying25 h⟩
theorem op_4 : Opn Tryd.prog 4 Kd.bool (fun x => True) := opn_bool Tryd.underlying4 (by kernel_rfl)
theorem op_27 : Opn Tryd.prog 27 k_api_Act wf_api_Act := ⟨by kernel_rfl, fun hg h => by
  obtain ⟨hl, n, hf⟩ := opn_fields Tryd.underlying27 h
  obtain ⟨y0, h0⟩ := hf 0 _ rfl
  obtain ⟨v0, k0, w0⟩ := op_3.op hg h0
  obtain ⟨y1, h1⟩ := hf 1 _ rfl
  obtain ⟨v1, k1, w1⟩ := op_9.op hg h1
  obtain ⟨y2, h2⟩ := hf 2 _ rfl
  obtain ⟨v2, k2, w2⟩ := op_2.op hg h2
  obtain ⟨y3, h3⟩ := hf 3 _ rfl
  obtain ⟨v3, k3, w3⟩ := op_22.op hg h3
  obtain ⟨y4, h4⟩ := hf 4 _ rfl
  obtain ⟨v4, k4, w4⟩ := op_9.op hg h4
  obtain ⟨y5, h5⟩ := hf 5 _ rfl
  obtain ⟨v5, k5, w5⟩ := op_25.op hg h5
  obtain ⟨y6, h6⟩ := hf 6 _ rfl
  obtain ⟨v6, k6, w6⟩ := op_4.op hg h6
  refine ⟨⟨v0, v1, v2, v3, v4, v5, v6⟩, ⟨hl.trans (by kernel_rfl), (List.forall_mem_cons.2 ⟨k0, (List.forall_mem_cons.2 ⟨k1, (List.forall_mem_cons.2 ⟨k2, (List.forall_mem_cons.2 ⟨k3, (List.forall_mem_cons.2 ⟨k4, (List.forall_mem_cons.2 ⟨k5, (List.forall_mem_cons.2 ⟨k6, (fun _ h => by cases h)⟩)⟩)⟩)⟩)⟩)⟩)⟩)⟩, w0, w1, w2, w3, w4, w5, w6⟩, fun h => fm_struct Tryd.underlying27 h⟩
theorem op_38 : Opn Tryd.prog 38 k_api_Act.sl (fun x => (x.length ≤ maxLen ∧ ∀ e0 ∈ x, (wf_api_Act e0))) := opn_sl Tryd.underlying38 (by kernel_rfl) op_27 (by decide)
theorem det_9 : Det Tryd.prog 9 := det_str Tryd.underlying9
theorem det_3 : Det Tryd.prog 3 := det_int Tryd.underlying3
theorem det_77 : Det Tryd.prog 77 := det_struct Tryd.underlying77 (fun i f h => match i, f, h with
  | 0, _, h => by obtain rfl := Option.some.inj h; exact det_9
  | 1, _, h => by obtain rfl := Option.some.inj h; exact det_3
  | 2, _, h => by obtain rfl := Option.some.inj h; exact det_9
  | _ + 3, _, h => by cases h) (by kernel_rfl)
theorem det_95 : Det Tryd.prog 95 := det_arr Tryd.underlying95 det_77 (by kernel_rfl)
theorem RuleRows_met (os : Os) (args : Array Value) : laidMetH Tryd.prog [("moiety/act.kinds", Go.Proofs.YtajghnodbhcnoaaDoor.Rows.laid_moiety_act_kinds)] ((World.doorLaid Tryd.prog 400 os).forCall (fun _ _ => 0) ⟨#[], args, []⟩).memory :=
  laidMetH_of_parts3 (fuel := 8) (laidMet_of_run' 8 (by kernel_rfl) (by kernel_rfl)) (by kernel_rfl) (by kernel_rfl)
theorem RuleRows_gl {W : World} (h : laidMetH Tryd.prog [("moiety/act.kinds", Go.Proofs.YtajghnodbhcnoaaDoor.Rows.laid_moiety_act_kinds)] W) : GLok W (fun b _ => b < W.heap.size) := by
  have g0 := laid_one (P := Tryd.prog) (nm := "moiety/act.kinds") (d := Go.Proofs.YtajghnodbhcnoaaDoor.Rows.laid_moiety_act_kinds) (g := 0) (t := 95) (W := W) (w0 := W) (cells := [.string ⟨#[]⟩, .int .i64 (0), .string ⟨#[]⟩, .string ⟨#[110, 101, 119]⟩, .int .i64 (0), .string ⟨#[109]⟩, .string ⟨#[100, 114, 111, 112]⟩, .int .i64 (0), .string ⟨#[]⟩, .string ⟨#[105, 115]⟩, .int .i64 (0), .string ⟨#[]⟩, .string ⟨#[108, 111, 111, 107]⟩, .int .i64 (0), .string ⟨#[]⟩, .string ⟨#[112, 117, 116]⟩, .int .i64 (1), .string ⟨#[115]⟩, .string ⟨#[115, 119, 97, 112]⟩, .int .i64 (1), .string ⟨#[115]⟩, .string ⟨#[97, 100, 100]⟩, .int .i64 (2), .string ⟨#[110]⟩, .string ⟨#[112, 108, 117, 115]⟩, .int .i64 (3), .string ⟨#[110]⟩, .string ⟨#[114, 101, 97, 99, 104]⟩, .int .i64 (3), .string ⟨#[110]⟩, .string ⟨#[105, 110]⟩, .int .i64 (4), .string ⟨#[110]⟩, .string ⟨#[111, 117, 116]⟩, .int .i64 (4), .string ⟨#[110]⟩, .string ⟨#[101, 110, 111, 117, 103, 104]⟩, .int .i64 (4), .string ⟨#[110]⟩, .string ⟨#[114, 97, 105, 115, 101]⟩, .int .i64 (5), .string ⟨#[120]⟩, .string ⟨#[108, 111, 119, 101, 114]⟩, .int .i64 (6), .string ⟨#[120]⟩, .string ⟨#[115, 104, 105, 102, 116]⟩, .int .i64 (7), .string ⟨#[120]⟩, .string ⟨#[115, 99, 97, 108, 101]⟩, .int .i64 (7), .string ⟨#[120]⟩, .string ⟨#[102, 105, 120]⟩, .int .i64 (7), .string ⟨#[120]⟩, .string ⟨#[106, 111, 105, 110]⟩, .int .i64 (8), .string ⟨#[115]⟩, .string ⟨#[108, 101, 97, 118, 101]⟩, .int .i64 (8), .string ⟨#[115]⟩, .string ⟨#[104, 97, 115]⟩, .int .i64 (8), .string ⟨#[115]⟩, .string ⟨#[111, 102, 102, 101, 114]⟩, .int .i64 (9), .string ⟨#[120, 115]⟩]) (fu := 8) (by kernel_rfl) (by kernel_rfl) det_95 (by kernel_rfl) (by kernel_rfl) h
  intro e he i v hv
  rcases List.mem_cons.1 he with rfl | he
  · exact ⟨(spot_none (g0 i v hv)).2, g0 i v hv⟩
  cases he
theorem RuleRows_ret (os : Os) (started : os.Started) (H : Type) (enc : TypeId × Value → H) :
    ReturnsInHanded {} Tryd.checked os 4 .any (fun w args => (Go.Proofs.YtajghnodbhcnoaaDoor.Rows.ruleRowsSpec.pre enc Tryd.prog Tryd.f4 [] false w args ∧ laidMetH Tryd.prog [("moiety/act.kinds", Go.Proofs.YtajghnodbhcnoaaDoor.Rows.laid_moiety_act_kinds)] w) ∧ sizedMet enc Tryd.prog Tryd.f4 (OpenSpec.ofChange Go.Proofs.YtajghnodbhcnoaaDoor.Rows.ruleRowsSpec) false w args) (Go.Proofs.YtajghnodbhcnoaaDoor.Rows.ruleRowsSpec.post enc Tryd.prog Tryd.f4 false true false false) := by
  refine returnsInHanded_of_change_and (C := Tryd.checked) (X := fun w _ => laidMetH Tryd.prog [("moiety/act.kinds", Go.Proofs.YtajghnodbhcnoaaDoor.Rows.laid_moiety_act_kinds)] w) (fun _ _ _ hh h => h.of_heap hh) Tryd_own started (by kernel_rfl) Tryd.func4
    (ChangeSpec.witness_shaped (enc := enc) (C := Tryd.checked) (os := os) (X := fun w _ => laidMetH Tryd.prog [("moiety/act.kinds", Go.Proofs.YtajghnodbhcnoaaDoor.Rows.laid_moiety_act_kinds)] w) false (World.doorLaid Tryd.prog 400 os) #[.agg #[.int .i64 0, .int .i64 0, .int .i64 0, .int .i64 0, .float .f64 0, .int .i64 0, .string ByteArray.empty, .slice none 0 0], .bool false, .slice none 0 0] 8 rfl (World.shaped_of_RefB (by kernel_rfl) (by kernel_rfl)) (by kernel_rfl) (by kernel_rfl) (by kernel_rfl) (RuleRows_met os _)) ?_
  intro W base args ds gs before hval0 hW hcnd _ hL _
  have hval : ∀ (j : Nat) t v, Tryd.f4.params[j]? = some t → args[j]? = some v → Value.okWide Tryd.prog W .any base t v := hval0
  have hW' := hW
  obtain ⟨p, q, hA0, hV, rfl, hfz, hnd⟩ := hW
  have hA : DataW.TrodAll enc Tryd.prog W 0 (fun _ => true) true Tryd.f4.params.toList args.toList ds p := hA0
  rw [Tryd.params4] at hA hval
  obtain ⟨v0, v1, v2, d0, d1, d2, p0, p1, p2, rfl, rfl, rfl, h0, h1, h2⟩ := trodAll_three hA
  obtain ⟨rfl, rfl⟩ := trodVars_none hV
  simp only [List.append_nil] at hW'
  have hg : GLok W (fun b _ => b < W.heap.size) := (RuleRows_gl hL)
  have hk0 := h0
  obtain ⟨a0, q0, w0⟩ := arg_of op_25 hg h0 (hval 0 25 v0 rfl rfl)
  have hk1 := h1
  obtain ⟨a1, q1, w1⟩ := arg_of op_4 hg h1 (hval 1 4 v1 rfl rfl)
  have hk2 := h2
  obtain ⟨a2, q2, w2⟩ := arg_of op_38 hg h2 (hval 2 38 v2 rfl rfl)
  refine (moietylaw05_RuleRows_ok a0 a1 a2 (RuleRows_true a0 a1 a2 w0 w1 w2) (GW W hg) [v0, v1, v2] (argsOk_cons q0 (argsOk_cons q1 (argsOk_cons q2 argsOk_nil)))).mono fun e W' ⟨g', v, he, hw, hs, hq⟩ => ?_
  subst he; subst hw
  rw [pBool_iff.1 hq]
  have hbel := below_of hs
  have hlt : ∀ x ∈ (p0 ++ p1 ++ p2), x.block < W.heap.size := fun x hx => by simpa using hW'.lt x hx
  exact ⟨_, rfl, post_of_below (pv := []) hW' hbel (trodAll_mk1 (shut_bool Tryd.underlying4 true)) (trodAll_mk3 (Below.trod Tryd_laid (by kernel_rfl) (of_decide_eq_true (by kernel_rfl)) hk0 hbel (fun x hx => hlt x (by simp [hx]))) (Below.trod Tryd_laid (by kernel_rfl) (of_decide_eq_true (by kernel_rfl)) hk1 hbel (fun x hx => hlt x (by simp [hx]))) (Below.trod Tryd_laid (by kernel_rfl) (of_decide_eq_true (by kernel_rfl)) hk2 hbel (fun x hx => hlt x (by simp [hx])))) rfl⟩
theorem RuleRows_holds : Go.Proofs.YtajghnodbhcnoaaDoor.Rows.RuleRowsSaid :=
  OpenClaim.holds_of_wide 4 Tryd.f4 rfl rfl rfl rfl rfl rfl rfl ⟨rfl, rfl, rfl, rfl, rfl⟩ rfl rfl rfl rfl rfl (by kernel_rfl) Tryd.func4 (by kernel_rfl)
    (of_decide_eq_true (by kernel_rfl)) (by unfold Func.isWrapper; first | (rw [if_pos (by decide +kernel)]; kernel_rfl) | (rw [if_neg (by decide +kernel)]; exact ⟨rfl, rfl⟩))
    (fun os started H enc _ => RuleRows_ret os started H enc)
theorem RuleRows_card : Go.Proofs.YtajghnodbhcnoaaDoor.Rows.RuleRowsCardSaid :=
  Claim7.holds_tied_plain_at .later [] [.data] true (true, "d53d6a7d9198ad883dc428b1854140353358626e00ef43ddb68ca71f2a693fba") false
    RuleRows_holds (fun _ h => by cases h) (by kernel_rfl) (fun _ h => by cases h) Go.Proofs.YtajghnodbhcnoaaDoor.ruleRows_row_tie rfl ⟨rfl, rfl⟩ (by kernel_rfl) rfl
    (fun f fn hf hfn => by
      obtain rfl : f = 4 := Option.some.inj ((show Tryd.prog.funcNamed "moiety/moietylaw05.RuleRows" = some 4 by kernel_rfl).symm.trans hf) |>.symm
      obtain rfl : fn = Tryd.f4 := (Option.some.inj (Tryd.func4.symm.trans hfn)).symm
      exact ⟨by kernel_rfl, fun j t ht => by
        rw [Tryd.params4] at ht
        have hm : t ∈ [25, 4, 38] := by simpa using Array.mem_of_getElem? ht
        have hall : (([25, 4, 38] : List TypeId).all fun u => !Tryd.prog.wantsStandIn u) = true := by kernel_rfl
        exact (show Tryd.prog.wantsStandIn t = false by simpa using List.all_eq_true.1 hall t hm)⟩)
    (by kernel_rfl)
end Go.CL
