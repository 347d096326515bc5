/- A part of the proof of RuleKeeps. -/
import Derived.Test.YtajghnodbhcnoaaDoorRuleKeepsC5
import Derived.Test.YtajghnodbhcnoaaDoorRows
import Derived.Test.YtajghnodbhcnoaaDoorCards
import Derived.Test.YtajghnodbhcnoaaDoorTie
import Derived.SevenTiedAt
/- What acts do: rule.changes and moietyref05.do, kind by kind. -/
set_option linter.unusedVariables false
set_option linter.unusedSimpArgs false
namespace Go.CL
open Go

def I64 (x : Int) : Prop := -9223372036854775808 ≤ x ∧ x ≤ 9223372036854775807
structure RecW (r : api_Record) : Prop where
  ok : RecOk r
  num : I64 r.Num
  low : I64 r.Low
  high : I64 r.High
  kind : I64 r.Kind
  len : r.List.length ≤ 1000
structure ActW (a : api_Act) : Prop where
  ok : ActOk a
  n : I64 a.N
  mkr : RecW a.Make
  xc : a.X = canon a.X
  inout : (a.Kind = 10 ∨ a.Kind = 11) → 0 ≤ a.N ∧ a.N ≤ 2305843009213693952
  s64 : a.S.size ≤ 64
  s16 : ¬ (5 ≤ a.Kind ∧ a.Kind ≤ 6) → a.S.size ≤ 16
abbrev ans (c : Int) : api_Answer := { Code := c, Num := 0, Rec := default }
theorem ans0 : (default : api_Answer) = ans 0 := rfl
def Chg (r : api_Record) (a : api_Act) : Prop := ∃ c r' o, rule_change a.Kind r a (default : api_Answer) = some (c, r', o) ∧ moietyref05_do r a = some (if c = 0 then (r', o) else (r, ans c)) ∧ RecW r' ∧ RecW o.Rec ∧ (c = 0 → o.Code = 0 ∧ o.Num = 0)
theorem wrap_rng (x : Int) : I64 (IntKind.i64.wrap x) := by unfold I64; rw [IntKind.wrap_i64]; omega
theorem zrc_w : RecW (default : api_Record) := ⟨⟨by decide, by decide, fun e he => by cases he⟩, by unfold I64; decide, by unfold I64; decide, by unfold I64; decide, by unfold I64; decide, by decide⟩
theorem RecW.withNum {r : api_Record} (h : RecW r) {x : Int} (hx : I64 x) : RecW { r with Num := x } := ⟨⟨h.ok.real, h.ok.len, h.ok.sc⟩, hx, h.low, h.high, h.kind, h.len⟩
theorem RecW.withText {r : api_Record} (h : RecW r) (t : ByteArray) : RecW { r with Text := t } := ⟨⟨h.ok.real, h.ok.len, h.ok.sc⟩, h.num, h.low, h.high, h.kind, h.len⟩
theorem RecW.withReal {r : api_Record} (h : RecW r) {x : Nat} (hx : x < W64) : RecW { r with Real := x } := ⟨⟨hx, h.ok.len, h.ok.sc⟩, h.num, h.low, h.high, h.kind, h.len⟩
theorem RecW.withList {r : api_Record} (h : RecW r) {l : Items} (h1 : l.length ≤ 1000) (h2 : ∀ e ∈ l, e.Score < W64) : RecW { r with List := l } := ⟨⟨h.ok.real, by show l.length < _; omega, h2⟩, h.num, h.low, h.high, h.kind, h1⟩
theorem rclone_eq {r : api_Record} (h : r.List.length ≤ 1000) : rec_Clone r = some r := by
  unfold rec_Clone slices_Clone_api_Item_api_Item
  rw [if_pos (by omega)]; rfl
theorem copied_eq {r : api_Record} (h : r.List.length ≤ 1000) : moietyref05_copied r = some r := by
  unfold moietyref05_copied
  rw [if_pos (by simp; omega)]; rfl
variable {r : api_Record} {a : api_Act}
theorem chg_put (h : a.Kind = 5) (hr : RecW r) : Chg r a := by
  refine ⟨0, { r with Text := a.S }, ans 0, ?_, ?_, hr.withText _, zrc_w, fun _ => ⟨rfl, rfl⟩⟩
  · rw [h]; rfl
  · unfold moietyref05_do; rw [h]; rfl
theorem chg_swap (h : a.Kind = 6) (hr : RecW r) : Chg r a := by
  refine ⟨0, { r with Text := a.S }, { ans 0 with Rec := r }, ?_, ?_, hr.withText _, hr, fun _ => ⟨rfl, rfl⟩⟩
  · rw [h]
    show rule_changes_2 r a default = _
    unfold rule_changes_2
    rw [rclone_eq hr.len]; rfl
  · unfold moietyref05_do; rw [h, copied_eq hr.len]; rfl
theorem chg_add (h : a.Kind = 7) (hr : RecW r) : Chg r a := by
  refine ⟨0, { r with Num := IntKind.i64.wrap (r.Num + a.N) }, ans 0, ?_, ?_, hr.withNum (wrap_rng _), zrc_w, fun _ => ⟨rfl, rfl⟩⟩
  · rw [h]; rfl
  · unfold moietyref05_do; rw [h]; rfl
theorem plus_over (hr : I64 r.Num) (hn : I64 a.N) : (((decide ((0 : Int) < a.N)) && (decide ((IntKind.i64.wrap ((9223372036854775807 : Int) - a.N)) < r.Num))) || ((decide (a.N < (0 : Int))) && (decide (r.Num < (IntKind.i64.wrap ((-9223372036854775808 : Int) - a.N)))))) =
    ((((decide ((0 : Int) < r.Num)) && (decide ((0 : Int) < a.N))) && (decide ((IntKind.i64.wrap (r.Num + a.N)) < (0 : Int)))) || (((decide (r.Num < (0 : Int))) && (decide (a.N < (0 : Int)))) && (decide ((0 : Int) ≤ (IntKind.i64.wrap (r.Num + a.N)))))) := by
  unfold I64 at hr hn
  rw [Bool.eq_iff_iff]
  simp only [Bool.or_eq_true, Bool.and_eq_true, decide_eq_true_eq, IntKind.wrap_i64]
  omega
theorem chg_plus (h : a.Kind = 8) (hr : RecW r) (ha : ActW a) : Chg r a := by
  have e1 : rule_change a.Kind r a default = rule_plus r a default := by rw [h]; rfl
  have e2 : moietyref05_do r a = (moietyref05_over r.Num a.N).bind fun r7 => (if r7 then (moietyref05_do_j1 r (ans 9)) else (moietyref05_do_j1 { r with Num := IntKind.i64.wrap (r.Num + a.N) } (ans 0))) := by unfold moietyref05_do; rw [h]; rfl
  have hp := plus_over hr.num ha.n
  unfold Chg
  rw [e1, e2]
  unfold rule_plus moietyref05_over moietyref05_do_j1
  rw [hp]
  simp only [Option.bind_some]
  split
  · exact ⟨9, r, _, rfl, rfl, hr, zrc_w, fun h => by cases h⟩
  · exact ⟨0, _, _, rfl, rfl, hr.withNum (wrap_rng _), zrc_w, fun _ => ⟨rfl, rfl⟩⟩
theorem chg_reach (h : a.Kind = 9 ∨ a.Kind = 12) (hr : RecW r) : Chg r a := by
  have e1 : rule_change a.Kind r a default = rule_atLeast r a default := by rcases h with h | h <;> rw [h] <;> rfl
  have e2 : moietyref05_do r a = (if (decide (r.Num < a.N)) then (moietyref05_do_j1 r (ans 11)) else (moietyref05_do_j1 r (ans 0))) := by rcases h with h | h <;> unfold moietyref05_do moietyref05_do_j2 <;> rw [h] <;> rfl
  unfold Chg
  rw [e1, e2]
  unfold rule_atLeast moietyref05_do_j1
  split
  · exact ⟨11, r, _, rfl, rfl, hr, zrc_w, fun h => by cases h⟩
  · exact ⟨0, r, _, rfl, rfl, hr, zrc_w, fun _ => ⟨rfl, rfl⟩⟩
theorem purse (hg : GoodR r) (hk : r.Kind = 4) : -2305843009213693952 ≤ r.Low ∧ r.High ≤ 2305843009213693952 ∧ r.Low ≤ r.Num ∧ r.Num ≤ r.High := hg.2.2.2.2.1 hk
theorem chg_in (h : a.Kind = 10) (hr : RecW r) (hg : GoodR r) (hk : r.Kind = 4) (ha : ActW a) : Chg r a := by
  have e1 : rule_change a.Kind r a default = rule_changes_4 r a default := by rw [h]; rfl
  have e2 : moietyref05_do r a = (if (decide (r.High < IntKind.i64.wrap (r.Num + a.N))) then (moietyref05_do_j1 r (ans 9)) else (moietyref05_do_j1 { r with Num := IntKind.i64.wrap (r.Num + a.N) } (ans 0))) := by unfold moietyref05_do moietyref05_do_j2; rw [h]; rfl
  obtain ⟨p1, p2, p3, p4⟩ := purse hg hk
  obtain ⟨n1, n2⟩ := ha.inout (.inl h)
  have hd : decide (IntKind.i64.wrap (r.High - r.Num) < a.N) = decide (r.High < IntKind.i64.wrap (r.Num + a.N)) := by
    rw [wr (x := r.High - r.Num) (by omega) (by omega), wr (x := r.Num + a.N) (by omega) (by omega)]
    apply decide_eq_decide.2; omega
  unfold Chg
  rw [e1, e2]
  unfold rule_changes_4 moietyref05_do_j1
  rw [hd]
  split
  · exact ⟨9, r, _, rfl, rfl, hr, zrc_w, fun h => by cases h⟩
  · exact ⟨0, _, _, rfl, rfl, hr.withNum (wrap_rng _), zrc_w, fun _ => ⟨rfl, rfl⟩⟩
theorem chg_out (h : a.Kind = 11) (hr : RecW r) (hg : GoodR r) (hk : r.Kind = 4) (ha : ActW a) : Chg r a := by
  have e1 : rule_change a.Kind r a default = rule_changes_5 r a default := by rw [h]; rfl
  have e2 : moietyref05_do r a = (if (decide (IntKind.i64.wrap (r.Num - a.N) < r.Low)) then (moietyref05_do_j1 r (ans 10)) else (moietyref05_do_j1 { r with Num := IntKind.i64.wrap (r.Num - a.N) } (ans 0))) := by unfold moietyref05_do moietyref05_do_j2; rw [h]; rfl
  obtain ⟨p1, p2, p3, p4⟩ := purse hg hk
  obtain ⟨n1, n2⟩ := ha.inout (.inr h)
  have hd : decide (IntKind.i64.wrap (r.Num - r.Low) < a.N) = decide (IntKind.i64.wrap (r.Num - a.N) < r.Low) := by
    rw [wr (x := r.Num - r.Low) (by omega) (by omega), wr (x := r.Num - a.N) (by omega) (by omega)]
    apply decide_eq_decide.2; omega
  unfold Chg
  rw [e1, e2]
  unfold rule_changes_5 moietyref05_do_j1
  rw [hd]
  split
  · exact ⟨10, r, _, rfl, rfl, hr, zrc_w, fun h => by cases h⟩
  · exact ⟨0, _, _, rfl, rfl, hr.withNum (wrap_rng _), zrc_w, fun _ => ⟨rfl, rfl⟩⟩
theorem chg_real {m : Nat} {ψ : Nat → Nat → Option Nat} (h : rule_change a.Kind r a default = rule_real_1 ψ r a default) (h1 : ψ r.Real a.X = some m) (hm : m < W64) (h2 : moietyref05_do r a = some ({ r with Real := m }, ans 0)) (hr : RecW r) : Chg r a := by
  refine ⟨0, { r with Real := m }, ans 0, ?_, h2, hr.withReal hm, zrc_w, fun _ => ⟨rfl, rfl⟩⟩
  rw [h]
  unfold rule_real_1
  rw [h1]; rfl
theorem good_real (hg : GoodR r) : r.Real = canon r.Real := hg.2.2.2.2.2.1
theorem chg_raise (h : a.Kind = 13) (hr : RecW r) (hg : GoodR r) (ha : ActW a) : Chg r a := by
  obtain ⟨m, m1, m2, m3⟩ := max_both hr.ok.real ha.ok.2 (good_real hg) ha.xc
  refine chg_real (m := m) (ψ := fun x y => flo_Max x y) (by rw [h]; rfl) m1 (by rcases m3 with rfl | rfl; exact hr.ok.real; exact ha.ok.2) ?_ hr
  unfold moietyref05_do moietyref05_do_j2; rw [h, m2]; rfl
theorem chg_lower (h : a.Kind = 14) (hr : RecW r) (hg : GoodR r) (ha : ActW a) : Chg r a := by
  obtain ⟨m, m1, m2, m3⟩ := min_both hr.ok.real ha.ok.2 (good_real hg) ha.xc
  refine chg_real (m := m) (ψ := fun x y => flo_Min x y) (by rw [h]; rfl) m1 (by rcases m3 with rfl | rfl; exact hr.ok.real; exact ha.ok.2) ?_ hr
  unfold moietyref05_do moietyref05_do_j2; rw [h, m2]; rfl
theorem chg_shift (h : a.Kind = 15) (hr : RecW r) : Chg r a := by
  have hz := fadd_lt r.Real a.X
  obtain ⟨p, p1, p2⟩ := place_number hz
  refine chg_real (m := canon (fadd r.Real a.X)) (ψ := fun x y => flo_Plus x y) (by rw [h]; rfl) (by show flo_Plus r.Real a.X = _; unfold flo_Plus; rw [canon_eq hz]; rfl) (canon_lt hz) ?_ hr
  unfold moietyref05_do moietyref05_do_j2; rw [h, p1]
  show ((moietyref01_Number p).bind _) = _
  rw [p2]; rfl
theorem chg_scale (h : a.Kind = 16) (hr : RecW r) : Chg r a := by
  have hz := fmul_lt r.Real a.X
  obtain ⟨p, p1, p2⟩ := place_number hz
  refine chg_real (m := canon (fmul r.Real a.X)) (ψ := fun x y => flo_Times x y) (by rw [h]; rfl) (by show flo_Times r.Real a.X = _; unfold flo_Times; rw [canon_eq hz]; rfl) (canon_lt hz) ?_ hr
  unfold moietyref05_do moietyref05_do_j2; rw [h, p1]
  show ((moietyref01_Number p).bind _) = _
  rw [p2]; rfl
theorem chg_fix (h : a.Kind = 17) (hr : RecW r) (ha : ActW a) : Chg r a := by
  refine chg_real (m := a.X) (ψ := fun x y => rule_changes_6 x y) (by rw [h]; rfl) rfl ha.ok.2 ?_ hr
  unfold moietyref05_do moietyref05_do_j2; rw [h]; rfl
theorem good_list (hg : GoodR r) (hk : 8 ≤ r.Kind) : 1 ≤ r.Cap ∧ r.Cap ≤ 32 ∧ (r.List.length : Int) ≤ r.Cap := by
  obtain ⟨h1, h2, h3, _⟩ := hg.2.2.2.2.2.2 hk
  exact ⟨h1, h2, h3⟩
theorem chg_has (h : a.Kind = 20) (hr : RecW r) (hg : GoodR r) (hk : r.Kind = 8) : Chg r a := by
  have hs := good_names hg hk
  have hl := hr.len
  have e1 : rule_change a.Kind r a default = rule_changes_8 r a default := by rw [h]; rfl
  have e2 : moietyref05_do r a = (moietyref05_has r.List a.S).bind fun r59 => (if (!r59) then (moietyref05_do_j1 r (ans 11)) else (moietyref05_do_j1 r (ans 0))) := by unfold moietyref05_do moietyref05_do_j2; rw [h]; rfl
  unfold Chg
  rw [e1, e2]
  unfold rule_changes_8 moietyref05_do_j1
  rw [find_eq hs (by omega), has_eq (by omega), any_isAt hs]
  simp only [Option.bind_some]
  split
  · exact ⟨11, r, _, rfl, rfl, hr, zrc_w, fun h => by cases h⟩
  · exact ⟨0, r, _, rfl, rfl, hr, zrc_w, fun _ => ⟨rfl, rfl⟩⟩
theorem chg_join (h : a.Kind = 18) (hr : RecW r) (hg : GoodR r) (hk : r.Kind = 8) : Chg r a := by
  have hs := good_names hg hk
  have hl := hr.len
  obtain ⟨c1, c2, c3⟩ := good_list hg (by omega)
  have e1 : rule_change a.Kind r a default = rule_join r a default := by rw [h]; rfl
  have e2 : moietyref05_do r a = (moietyref05_has r.List a.S).bind fun r40 => (if ((!r40) && (decide (r.Cap ≤ (r.List.length : Int)))) then (moietyref05_do_j1 r (ans 8)) else ((moietyref05_Laid r.List ({ Score := (0 : Nat), Name := a.S } : api_Item) true).bind fun r43 => (moietyref05_do_j1 ({ r with List := r43 }) (ans 0)))) := by unfold moietyref05_do moietyref05_do_j2; rw [h]; rfl
  have hple := pre_le (fun e => sLt e.Name a.S) r.List
  unfold Chg
  rw [e1, e2]
  unfold rule_join moietyref05_do_j1
  rw [find_eq hs (by omega), has_eq (by omega), any_isAt hs, laid_eq (show (0 : Nat) < W64 by decide) hr.ok.sc (by omega), layL_isAt, clone_i (by omega)]
  simp only [Option.bind_some]
  by_cases hat : isAt a.S r.List = true
  · rw [hat]
    exact ⟨0, r, _, rfl, rfl, hr, zrc_w, fun _ => ⟨rfl, rfl⟩⟩
  · have hat' : isAt a.S r.List = false := by simpa using hat
    rw [hat']
    simp only [Bool.not_false, Bool.true_and, Bool.false_eq_true, if_false]
    by_cases hc : decide (r.Cap ≤ (r.List.length : Int)) = true
    · rw [if_pos hc, if_pos hc]
      exact ⟨8, r, _, rfl, rfl, hr, zrc_w, fun h => by cases h⟩
    · rw [if_neg hc, if_neg hc]
      unfold slices_Insert_api_Item_api_Item
      rw [if_pos ⟨by omega, by omega, by simp, by simp; omega⟩]
      refine ⟨0, _, _, rfl, rfl, hr.withList (by simp; omega) fun e he => ?_, zrc_w, fun _ => ⟨rfl, rfl⟩⟩
      simp only [List.mem_append, List.mem_singleton, Int.toNat_natCast] at he
      rcases he with (he | rfl) | he
      · exact hr.ok.sc e (List.mem_of_mem_take he)
      · exact (show (0 : Nat) < W64 by decide)
      · exact hr.ok.sc e (List.mem_of_mem_drop he)
theorem chg_leave (h : a.Kind = 19) (hr : RecW r) (hg : GoodR r) (hk : r.Kind = 8) : Chg r a := by
  have hs := good_names hg hk
  have hl := hr.len
  have e1 : rule_change a.Kind r a default = rule_changes_7 r a default := by rw [h]; rfl
  have e2 : moietyref05_do r a = (moietyref05_do_l1 r a (Int.toNat ((r.List.length : Int) - (0 : Int)) + 1) ([] : List api_Item) (0 : Int)).bind fun z57 => match z57 with | y56 => (moietyref05_do_j1 ({ r with List := y56 }) (ans 0)) := by unfold moietyref05_do moietyref05_do_j2; rw [h]; rfl
  have hple := pre_le (fun e => sLt e.Name a.S) r.List
  unfold Chg
  rw [e1, e2]
  unfold rule_changes_7 moietyref05_do_j1
  have hf := filt_loop (a := a) (a0 := r) (by omega) r.List.length 0 [] (by omega) (by simp)
  rw [show ((0 : Nat) : Int) = 0 from rfl] at hf
  rw [find_eq hs (by omega), show (Int.toNat ((r.List.length : Int) - (0 : Int)) + 1) = r.List.length + 1 by omega, hf, List.drop_zero, List.nil_append, filt_isAt hs, clone_i (by omega)]
  simp only [Option.bind_some]
  by_cases hat : isAt a.S r.List = true
  · have hp : pre (fun e => sLt e.Name a.S) r.List < r.List.length := by
      unfold isAt at hat
      cases hq : r.List[pre (fun e => sLt e.Name a.S) r.List]? with
      | none => rw [hq] at hat; cases hat
      | some e => exact (List.getElem?_eq_some_iff.1 hq).1
    rw [hat]
    simp only [if_true]
    unfold slices_Delete_api_Item_api_Item
    rw [wr1 (by omega), if_pos ⟨by omega, by omega, by omega, by omega, by omega⟩]
    refine ⟨0, _, _, rfl, rfl, hr.withList (by simp; omega) fun e he => ?_, zrc_w, fun _ => ⟨rfl, rfl⟩⟩
    simp only [List.mem_append, Int.toNat_natCast] at he
    rcases he with he | he
    · exact hr.ok.sc e (List.mem_of_mem_take he)
    · exact hr.ok.sc e (List.mem_of_mem_drop he)
  · have hat' : isAt a.S r.List = false := by simpa using hat
    rw [hat']
    exact ⟨0, r, _, rfl, rfl, hr, zrc_w, fun _ => ⟨rfl, rfl⟩⟩
end Go.CL

/- rule.Apply = moietyref05.Apply. -/
set_option linter.unusedVariables false
set_option linter.unusedSimpArgs false
namespace Go.CL
open Go

variable {r : api_Record} {a : api_Act}
theorem min_take {l : Items} {c : Int} (h1 : 1 ≤ c) (h2 : c ≤ 32) : cut l 0 (min (l.length : Int) c) = some (l.take c.toNat) := by
  unfold cut
  rw [if_pos (by omega)]
  simp only [Int.toNat_zero, List.drop_zero, Nat.sub_zero]
  congr 1
  rcases Int.le_total (l.length : Int) c with h | h
  · rw [Int.min_eq_left h, Int.toNat_natCast, List.take_of_length_le (Nat.le_refl _), List.take_of_length_le (by omega)]
  · rw [Int.min_eq_right h]
theorem chg_offer (h : a.Kind = 21) (hr : RecW r) (hg : GoodR r) (hk : r.Kind = 9) (ha : ActW a) : Chg r a := by
  have hl := hr.len
  obtain ⟨c1, c2, c3⟩ := good_list hg (by omega)
  have e1 : rule_change a.Kind r a default = rule_offer r a default := by rw [h]; rfl
  have e2 : moietyref05_do r a = (moietyref05_Laid r.List ({ Score := a.X, Name := a.S } : api_Item) false).bind fun r63 => (if (decide (r.Cap < (r63.length : Int))) then ((cut r63 (0 : Int) r.Cap).bind fun c66 => (moietyref05_do_j4 r c66)) else (moietyref05_do_j4 r r63)) := by unfold moietyref05_do moietyref05_do_j2; rw [h]; rfl
  have hx : ({ Score := a.X, Name := a.S } : api_Item).Score < W64 := ha.ok.2
  have hple := pre_le (aheadF { Score := a.X, Name := a.S } false) r.List
  unfold Chg
  rw [e1, e2]
  unfold rule_offer
  rw [offer_pre ha.ok.2 hr.ok.sc (by omega), laid_eq hx hr.ok.sc (by omega), clone_i (by omega)]
  simp only [Option.bind_some]
  -- an item more, and no more than there may be
  have fin : ∀ L : Items, L = r.List.take (pre (aheadF { Score := a.X, Name := a.S } false) r.List) ++ [{ Score := a.X, Name := a.S }] ++ r.List.drop (pre (aheadF { Score := a.X, Name := a.S } false) r.List) → layL { Score := a.X, Name := a.S } false r.List = L →
      ∃ c r' o, ((slices_Insert_api_Item_api_Item r.List ((pre (aheadF { Score := a.X, Name := a.S } false) r.List : Nat) : Int) ([({ Score := a.X, Name := a.S } : api_Item)] : List api_Item)).bind fun r16 => ((cut r16 (0 : Int) (min (r16.length : Int) r.Cap)).bind fun c18 => (some ((0 : Int), ({ r with List := c18 }), (default : api_Answer))))) = some (c, r', o) ∧
        (if (decide (r.Cap < ((layL { Score := a.X, Name := a.S } false r.List).length : Int))) = true then ((cut (layL { Score := a.X, Name := a.S } false r.List) (0 : Int) r.Cap).bind fun c66 => (moietyref05_do_j4 r c66)) else (moietyref05_do_j4 r (layL { Score := a.X, Name := a.S } false r.List))) = some (if c = 0 then (r', o) else (r, ans c)) ∧ RecW r' ∧ RecW o.Rec ∧ (c = 0 → o.Code = 0 ∧ o.Num = 0) := by
    intro L hL hlay
    have hLl : L.length = r.List.length + 1 := by rw [hL]; simp; omega
    have hLs : ∀ e ∈ L, e.Score < W64 := fun e he => by
      rw [hL] at he
      simp only [List.mem_append, List.mem_singleton] at he
      rcases he with (he | rfl) | he
      · exact hr.ok.sc e (List.mem_of_mem_take he)
      · exact hx
      · exact hr.ok.sc e (List.mem_of_mem_drop he)
    rw [hlay]
    unfold slices_Insert_api_Item_api_Item moietyref05_do_j4 moietyref05_do_j1
    rw [if_pos ⟨by omega, by omega, by simp, by simp; omega⟩]
    simp only [Option.bind_some, Int.toNat_natCast]
    rw [← hL, min_take c1 c2]
    refine ⟨0, { r with List := L.take r.Cap.toNat }, ans 0, rfl, ?_, hr.withList (by simp; omega) (fun e he => hLs e (List.mem_of_mem_take he)), zrc_w, fun _ => ⟨rfl, rfl⟩⟩
    by_cases hc : decide (r.Cap < (L.length : Int)) = true
    · rw [if_pos hc]
      have : r.Cap < (L.length : Int) := of_decide_eq_true hc
      unfold cut
      rw [if_pos (by omega)]
      simp
    · rw [if_neg hc]
      have : ¬ r.Cap < (L.length : Int) := fun h => hc (decide_eq_true h)
      rw [List.take_of_length_le (by omega)]; rfl
  by_cases hp : pre (aheadF { Score := a.X, Name := a.S } false) r.List < r.List.length
  · have hd : decide (((pre (aheadF { Score := a.X, Name := a.S } false) r.List : Nat) : Int) < (r.List.length : Int)) = true := by simpa using hp
    have hat := pre_at (List.getElem?_eq_getElem hp)
    have hb : betterB r.List[pre (aheadF { Score := a.X, Name := a.S } false) r.List] { Score := a.X, Name := a.S } = false := hat
    have hbs := better_same hb
    rw [hd, idx_lt hp]
    simp only [gd_t, Option.bind_some, Bool.true_and]
    rw [better_eq hx (hr.ok.sc _ (List.getElem_mem hp))]
    simp only [Option.bind_some]
    by_cases hs : (!betterB { Score := a.X, Name := a.S } r.List[pre (aheadF { Score := a.X, Name := a.S } false) r.List]) = true
    · rw [if_pos hs]
      have hlay : layL { Score := a.X, Name := a.S } false r.List = r.List := by
        unfold layL
        rw [List.getElem?_eq_getElem hp]
        simp only
        rw [if_pos (by rw [← hbs]; exact hs), List.append_nil, List.take_append_drop]
      rw [hlay, if_neg (by simp; omega)]
      exact ⟨0, r, _, rfl, rfl, hr, zrc_w, fun _ => ⟨rfl, rfl⟩⟩
    · rw [if_neg hs]
      refine fin _ rfl ?_
      unfold layL
      rw [List.getElem?_eq_getElem hp]
      simp only
      rw [if_neg (by rw [← hbs]; exact hs)]
  · have hd : decide (((pre (aheadF { Score := a.X, Name := a.S } false) r.List : Nat) : Int) < (r.List.length : Int)) = false := by simpa using hp
    rw [hd]
    simp only [gd_f, Option.bind_some, Bool.false_and, Bool.false_eq_true, if_false]
    refine fin _ rfl ?_
    unfold layL
    rw [List.getElem?_eq_none (by omega), List.take_of_length_le (by omega), List.drop_of_length_le (by omega), List.append_nil]
theorem on_both {k : Int} (h1 : 1 ≤ k) (h2 : k ≤ 21) : ∃ on, act_On k = some on ∧ moietyref04_On k = some on ∧ (k ≤ 4 → on = 0) ∧ (5 ≤ k → on ≠ 0) ∧ ((k = 10 ∨ k = 11) → on = 4) ∧ ((k = 18 ∨ k = 19 ∨ k = 20) → on = 8) ∧ (k = 21 → on = 9) ∧
    ((k = 5 ∨ k = 6) → on = 1) ∧ (k = 7 → on = 2) ∧ ((k = 8 ∨ k = 9) → on = 3) ∧ (k = 12 → on = 4) ∧ (k = 13 → on = 5) ∧ (k = 14 → on = 6) ∧ ((k = 15 ∨ k = 16 ∨ k = 17) → on = 7) := by
  have hk' : k = 1 ∨ k = 2 ∨ k = 3 ∨ k = 4 ∨ k = 5 ∨ k = 6 ∨ k = 7 ∨ k = 8 ∨ k = 9 ∨ k = 10 ∨ k = 11 ∨ k = 12 ∨ k = 13 ∨ k = 14 ∨ k = 15 ∨ k = 16 ∨ k = 17 ∨ k = 18 ∨ k = 19 ∨ k = 20 ∨ k = 21 := by omega
  rcases hk' with rfl | rfl | rfl | rfl | rfl | rfl | rfl | rfl | rfl | rfl | rfl | rfl | rfl | rfl | rfl | rfl | rfl | rfl | rfl | rfl | rfl
  all_goals first
    | exact ⟨0, by kernel_rfl, by kernel_rfl, by decide⟩
    | exact ⟨1, by kernel_rfl, by kernel_rfl, by decide⟩
    | exact ⟨2, by kernel_rfl, by kernel_rfl, by decide⟩
    | exact ⟨3, by kernel_rfl, by kernel_rfl, by decide⟩
    | exact ⟨4, by kernel_rfl, by kernel_rfl, by decide⟩
    | exact ⟨5, by kernel_rfl, by kernel_rfl, by decide⟩
    | exact ⟨6, by kernel_rfl, by kernel_rfl, by decide⟩
    | exact ⟨7, by kernel_rfl, by kernel_rfl, by decide⟩
    | exact ⟨8, by kernel_rfl, by kernel_rfl, by decide⟩
    | exact ⟨9, by kernel_rfl, by kernel_rfl, by decide⟩
theorem chg_all (h5 : 5 ≤ a.Kind) (h21 : a.Kind ≤ 21) (hr : RecW r) (hg : GoodR r) (hon : act_On a.Kind = some r.Kind) (ha : ActW a) : Chg r a := by
  obtain ⟨on, o1, _, _, _, k10, k18, k21, _⟩ := on_both (k := a.Kind) (by omega) h21
  rw [hon] at o1
  obtain rfl := Option.some.inj o1
  have hk' : a.Kind = 5 ∨ a.Kind = 6 ∨ a.Kind = 7 ∨ a.Kind = 8 ∨ a.Kind = 9 ∨ a.Kind = 10 ∨ a.Kind = 11 ∨ a.Kind = 12 ∨ a.Kind = 13 ∨ a.Kind = 14 ∨ a.Kind = 15 ∨ a.Kind = 16 ∨ a.Kind = 17 ∨ a.Kind = 18 ∨ a.Kind = 19 ∨ a.Kind = 20 ∨ a.Kind = 21 := by omega
  rcases hk' with h | h | h | h | h | h | h | h | h | h | h | h | h | h | h | h | h
  · exact chg_put h hr
  · exact chg_swap h hr
  · exact chg_add h hr
  · exact chg_plus h hr ha
  · exact chg_reach (.inl h) hr
  · exact chg_in h hr hg (k10 (.inl h)) ha
  · exact chg_out h hr hg (k10 (.inr h)) ha
  · exact chg_reach (.inr h) hr
  · exact chg_raise h hr hg ha
  · exact chg_lower h hr hg ha
  · exact chg_shift h hr
  · exact chg_scale h hr
  · exact chg_fix h hr ha
  · exact chg_join h hr hg (k18 (.inl h))
  · exact chg_leave h hr hg (k18 (.inr (.inl h)))
  · exact chg_has h hr hg (k18 (.inr (.inr h)))
  · exact chg_offer h hr hg (k21 h) ha
/-- An act as it may come in. -/
structure ActIn (a : api_Act) : Prop where
  ok : ActOk a
  n : I64 a.N
  mkr : RecW a.Make
theorem ActIn.w {a : api_Act} (h : ActIn a) {c : Int} (hc : 1 ≤ a.Kind ∧ a.Kind ≤ 21 ∧ a.X = canon a.X ∧ a.S.size ≤ 64 ∧ ((a.Kind = 10 ∨ a.Kind = 11) → 0 ≤ a.N ∧ a.N ≤ 2305843009213693952) ∧ (a.Kind = 1 → rec_Check a.Make = some 0) ∧ (¬ (5 ≤ a.Kind ∧ a.Kind ≤ 6) → a.S.size ≤ 16) ∧ sEq a.Key ⟨#[]⟩ = false ∧ a.Key.size ≤ 24) : ActW a :=
  ⟨h.ok, h.n, h.mkr, hc.2.2.1, hc.2.2.2.2.1, hc.2.2.2.1, hc.2.2.2.2.2.2.1⟩
theorem ref_err {there : Bool} {r : api_Record} {c : Int} (hc : c ≠ 0) {on : Int} (ho : moietyref04_On a.Kind = some on) : moietyref05_Apply_j2 there a r c = some (r, there, ans c) := by
  have h1 : (c == 0) = false := by simpa using hc
  have h2 : (c != 0) = true := by simpa using hc
  unfold moietyref05_Apply_j2
  simp only [h1, Bool.false_and, Bool.false_eq_true, if_false]
  unfold moietyref05_Apply_j3
  simp only [h1, Bool.false_and, Bool.false_eq_true, if_false]
  unfold moietyref05_Apply_j4
  rw [ho]
  simp only [h1, Bool.false_and, Bool.false_eq_true, if_false, Option.bind_some]
  unfold moietyref05_Apply_j5
  rw [if_pos h2]
theorem on_some (k : Int) : ∃ on, moietyref04_On k = some on := by
  by_cases h : k < 0 ∨ 21 < k
  · exact ⟨0, by unfold moietyref04_On; rw [if_pos (by simpa using h)]⟩
  · by_cases h0 : k = 0
    · exact ⟨0, by rw [h0]; kernel_rfl⟩
    · obtain ⟨on, _, h2, _⟩ := on_both (k := k) (by omega) (by omega)
      exact ⟨on, h2⟩
/-- **The program's Apply and the document's are the same.** -/
theorem apply_both {r : api_Record} {there : Bool} {a : api_Act} (hr : RecW r) (ha : ActIn a) : ∃ x is out, rule_Apply r there a = some (x, is, out) ∧ moietyref05_Apply r there a = some (x, is, out) ∧ RecW x ∧ RecW out.Rec := by
  suffices hs : ∀ r0 : api_Record, RecW r0 → ∃ x is out, rule_Apply_j1 there a r0 = some (x, is, out) ∧ moietyref05_Apply_j1 there a r0 = some (x, is, out) ∧ RecW x ∧ RecW out.Rec by
    unfold rule_Apply moietyref05_Apply
    cases there
    · exact hs _ zrc_w
    · exact hs r hr
  intro r0 hr0
  unfold rule_Apply_j1 moietyref05_Apply_j1
  rw [rclone_eq hr0.len, copied_eq hr0.len]
  obtain ⟨c, h1, h2, h3⟩ := check_act ha.ok
  obtain ⟨on, hon⟩ := on_some a.Kind
  rw [h1, h2]
  simp only [Option.bind_some]
  by_cases hc : c = 0
  · subst hc
    have hf := h3 rfl
    have hw := ha.w (c := 0) hf
    obtain ⟨on2, o1, o2, o3, o4, _⟩ := on_both hf.1 hf.2.1
    have main : (there = true → GoodR r0) → ∃ x is out, rule_Apply_j2 there a r0 = some (x, is, out) ∧ moietyref05_Apply_j2 there a r0 0 = some (x, is, out) ∧ RecW x ∧ RecW out.Rec := by
      intro hg
      unfold rule_Apply_j2 rule_Apply_1 moietyref05_Apply_j2 moietyref05_Apply_j3 moietyref05_Apply_j4
      rw [o1, o2, rclone_eq hr0.len, rclone_eq ha.mkr.len]
      unfold moietyref05_Apply_j5
      rw [copied_eq hr0.len, copied_eq ha.mkr.len]
      simp only [Option.bind_some]
      by_cases k1 : a.Kind = 1
      · rw [k1, o3 (by omega)]
        cases there
        · exact ⟨a.Make, true, ans 0, rfl, rfl, ha.mkr, zrc_w⟩
        · exact ⟨r0, true, ans 7, rfl, rfl, hr0, zrc_w⟩
      · by_cases k3 : a.Kind = 3
        · rw [k3, o3 (by omega)]
          cases there
          · exact ⟨r0, false, { ans 0 with Num := r0.Kind }, rfl, rfl, hr0, zrc_w⟩
          · exact ⟨r0, true, { ans 0 with Num := r0.Kind }, rfl, rfl, hr0, zrc_w⟩
        · by_cases k2 : a.Kind = 2
          · rw [k2, o3 (by omega)]
            cases there
            · exact ⟨r0, false, ans 6, rfl, rfl, hr0, zrc_w⟩
            · exact ⟨zrc, false, ans 0, rfl, rfl, zrc_w, zrc_w⟩
          · by_cases k4 : a.Kind = 4
            · rw [k4, o3 (by omega)]
              cases there
              · exact ⟨r0, false, ans 6, rfl, rfl, hr0, zrc_w⟩
              · exact ⟨r0, true, { ans 0 with Rec := r0 }, rfl, rfl, hr0, hr0⟩
            · have h5 : 5 ≤ a.Kind := by omega
              have b1 : (a.Kind == 1) = false := by simpa using k1
              have b2 : (a.Kind == 2) = false := by simpa using k2
              have b3 : (a.Kind == 3) = false := by simpa using k3
              have b4 : (a.Kind == 4) = false := by simpa using k4
              have b1' : (a.Kind != 1) = true := by simpa using k1
              have b3' : (a.Kind != 3) = true := by simpa using k3
              have bo : (on2 != 0) = true := by simpa using o4 h5
              simp only [b1, b2, b3, b4, b1', b3', bo, Bool.false_and, Bool.and_false, Bool.and_true, Bool.true_and, Bool.false_eq_true, if_false, beq_self_eq_true]
              cases there
              · exact ⟨r0, false, ans 6, rfl, rfl, hr0, zrc_w⟩
              · simp only [Bool.not_true, Bool.false_eq_true, if_false, Bool.and_false, Bool.false_and, beq_self_eq_true, Bool.true_and]
                by_cases hk : (on2 != r0.Kind) = true
                · rw [if_pos hk, if_pos hk]
                  exact ⟨r0, true, ans 5, rfl, rfl, hr0, zrc_w⟩
                · rw [if_neg hk, if_neg hk, if_pos ⟨h5, hf.2.1⟩]
                  have hk' : on2 = r0.Kind := by simpa using hk
                  obtain ⟨c, r', o, e1, e2, w1, w2, _⟩ := chg_all h5 hf.2.1 hr0 (hg rfl) (by rw [← hk']; exact o1) hw
                  rw [e1, e2]
                  simp only [Option.bind_some]
                  by_cases hc : c = 0
                  · subst hc
                    exact ⟨r', true, o, rfl, rfl, w1, w2⟩
                  · have hcn : (c != 0) = true := by simpa using hc
                    rw [if_pos hcn, if_neg hc]
                    exact ⟨r0, true, ans c, rfl, rfl, hr0, zrc_w⟩
    have z1 : ((0 : Int) != 0) = false := rfl
    have z2 : ((0 : Int) == 0) = true := rfl
    rw [z1, z2]
    simp only [Bool.false_eq_true, if_false, Bool.true_and]
    by_cases ht : there = true
    · rw [if_pos ht, if_pos ht]
      obtain ⟨c2, g1, g2⟩ := check_both hr0.ok
      rw [g1, g2]
      simp only [Option.bind_some]
      by_cases hc2 : c2 = 0
      · subst hc2
        rw [z1]
        exact main fun _ => (check_good hr0.ok).1 g1
      · have hcn : (c2 != 0) = true := by simpa using hc2
        rw [if_pos hcn, ref_err hc2 o2]
        exact ⟨r0, there, ans c2, rfl, rfl, hr0, zrc_w⟩
    · rw [if_neg ht, if_neg ht]
      exact main fun h => absurd h ht
  · have hcn : (c != 0) = true := by simpa using hc
    have hcz : (c == 0) = false := by simpa using hc
    rw [if_pos hcn, hcz]
    simp only [Bool.false_and, Bool.false_eq_true, if_false]
    rw [ref_err hc hon]
    exact ⟨r0, there, ans c, rfl, rfl, hr0, zrc_w⟩
end Go.CL

/- RuleApplies. -/
set_option linter.unusedVariables false
set_option linter.unusedSimpArgs false
namespace Go.CL
open Go

theorem recLenR {x : api_Record} (h : wf_api_Record x) : x.List.length ≤ 9223372036854775807 := by
  obtain ⟨_, _, _, _, _, _, _, h8, _⟩ := h
  simp only [maxLen] at h8; omega
theorem recW_of {x : api_Record} (h : wf_api_Record x) (hl : x.List.length ≤ 100) : RecW x := by
  obtain ⟨h1, h2, h3, h4, h5, _, _, h8, h9⟩ := h
  exact ⟨⟨h5, by omega, fun e he => (h9 e he).1⟩, h2, h3, h4, h1, by omega⟩
theorem eqLr : ∀ l : List api_Item, eqL l l = true
  | [] => rfl
  | x :: l => by simp [eqL, eqI, sEq_self, eqLr l]
theorem sameRr (a : api_Record) : sameR a a = true := by simp [sameR, sEq_self, eqLr]
theorem actIn_of {a : api_Act} (h : wf_api_Act a) (hl : a.Make.List.length ≤ 100) : ActIn a := by
  obtain ⟨_, _, h3, h4, _, h6, _⟩ := h
  exact ⟨⟨(recW_of h6 hl).ok, h4⟩, h3, recW_of h6 hl⟩
theorem big04 {a : api_Act} (h : wf_api_Act a) : ∃ c, moietylaw04_Big a = some c ∧ (c = 0 ∨ c = 1) ∧ (c = 0 → a.Make.List.length ≤ 100) := by
  obtain ⟨c, e1, e2, e3⟩ := big03 (recLenR h.2.2.2.2.2.1)
  unfold moietylaw04_Big
  rw [e1]
  by_cases hk : (decide ((200 : Int) < (a.Key.size : Int)) || decide ((1000 : Int) < (a.S.size : Int))) = true
  · rw [hk]; exact ⟨1, rfl, .inr rfl, fun h => by cases h⟩
  · have hk' := Bool.eq_false_iff.2 hk
    rw [hk']
    rcases e2 with rfl | rfl
    · exact ⟨0, rfl, .inl rfl, fun _ => e3 rfl⟩
    · exact ⟨1, rfl, .inr rfl, fun h => by cases h⟩
theorem big5_loop {l : List api_Act} (hl : l.length ≤ 30) (hw : ∀ o ∈ l, wf_api_Act o) : ∀ (n i : Nat), i + n = l.length → (moietylaw05_big_l1 l (n + 1) (i : Int) = some (.inl true)) ∨ (moietylaw05_big_l1 l (n + 1) (i : Int) = some (.inr ()) ∧ ∀ o ∈ l.drop i, o.Make.List.length ≤ 100)
  | 0, i, h => by
    right
    rw [moietylaw05_big_l1, if_neg (by simp; omega), List.drop_of_length_le (by omega)]
    exact ⟨rfl, fun o ho => by cases ho⟩
  | n + 1, i, h => by
    have h1 : i < l.length := by omega
    obtain ⟨c, e1, e2, e3⟩ := big04 (hw _ (List.getElem_mem h1))
    rw [moietylaw05_big_l1, if_pos (by simp; omega), idx_lt h1, wr1 (by omega)]
    simp only [Option.bind_some]
    rw [e1]
    rcases e2 with rfl | rfl
    · simp only [Int.lt_irrefl, decide_false, Bool.false_eq_true, if_false, Option.bind_some]
      rcases big5_loop hl hw n (i + 1) (by omega) with h2 | ⟨h2, h3⟩
      · exact .inl h2
      · right
        refine ⟨h2, fun o ho => ?_⟩
        rw [List.drop_eq_getElem_cons h1] at ho
        rcases List.mem_cons.1 ho with rfl | ho
        · exact e3 rfl
        · exact h3 o ho
    · left; rfl
theorem big5 {r : api_Record} {l : List api_Act} (hr : wf_api_Record r) (hw : ∀ o ∈ l, wf_api_Act o) : moietylaw05_big r l = some true ∨ (moietylaw05_big r l = some false ∧ RecW r ∧ l.length ≤ 30 ∧ ∀ o ∈ l, ActIn o) := by
  obtain ⟨c, e1, e2, e3⟩ := big03 (recLenR hr)
  unfold moietylaw05_big
  rw [e1]
  simp only [Option.bind_some]
  rcases e2 with rfl | rfl
  · by_cases h : (30 : Int) < l.length
    · left; simp [h]
    · rw [if_neg (by simp; omega), show (Int.toNat ((l.length : Int) - (0 : Int)) + 1) = l.length + 1 by omega]
      have := big5_loop (l := l) (by omega) hw l.length 0 (by omega)
      rw [show ((0 : Nat) : Int) = 0 from rfl] at this
      rcases this with h1 | ⟨h1, h2⟩
      · left; rw [h1]; rfl
      · right; rw [h1]; exact ⟨rfl, recW_of hr (e3 rfl), by omega, fun o ho => actIn_of (hw o ho) (h2 o ho)⟩
  · left; rfl
theorem rsameA {a b : api_Answer} (ha : RecW a.Rec) (hb : RecW b.Rec) : moietyref05_Same a b = some ((a.Code == b.Code) && (a.Num == b.Num) && sameR a.Rec b.Rec) := by
  unfold moietyref05_Same
  rw [rsame_rec ha.ok hb.ok]
  cases (a.Code == b.Code) && (a.Num == b.Num) <;> rfl
theorem sameA {a b : api_Answer} (ha : RecW a.Rec) (hb : RecW b.Rec) : rule_Same a b = some ((a.Code == b.Code) && (a.Num == b.Num) && sameR a.Rec b.Rec) := by
  unfold rule_Same
  rw [same_rec ha.ok hb.ok]
  cases (a.Code == b.Code) && (a.Num == b.Num) <;> rfl
theorem speaks5 : moietylaw05_speaks = some true := by kernel_rfl
/-- **RuleApplies.** -/
theorem RuleApplies_true (a0 : api_Record) (a1 : Bool) (a2 : api_Act) (ha0 : wf_api_Record a0) (ha1 : True) (ha2 : wf_api_Act a2) : moietylaw05_RuleApplies a0 a1 a2 = some true := by
  unfold moietylaw05_RuleApplies
  rw [speaks5]
  simp only [Option.bind_some, Bool.not_true, Bool.false_eq_true, if_false]
  rcases big5 (l := [a2]) ha0 (fun o ho => by rw [List.mem_singleton.1 ho]; exact ha2) with hb | ⟨hb, hr, _, hi⟩
  · rw [hb]; rfl
  · rw [hb]
    obtain ⟨x, is, out, e1, e2, w1, w2⟩ := apply_both (there := a1) hr (hi a2 (List.mem_singleton.2 rfl))
    rw [e1, e2]
    simp only [Option.bind_some, Bool.false_eq_true, if_false]
    rw [rsame_rec w1.ok w1.ok, rsameA w2 w2, sameA w2 w2]
    simp [sameRr, gd_t]
end Go.CL

/- What Apply did: the shape of its answer. -/
set_option linter.unusedVariables false
set_option linter.unusedSimpArgs false
namespace Go.CL
open Go

def Shape (r0 : api_Record) (there : Bool) (a : api_Act) (z : api_Record × Bool × api_Answer) : Prop :=
  (∃ c, c ≠ 0 ∧ z = (r0, there, ans c)) ∨ (act_Check a = some 0 ∧ ActW a ∧ (there = true → GoodR r0) ∧
    ((a.Kind = 1 ∧ there = false ∧ GoodR a.Make ∧ z = (a.Make, true, ans 0)) ∨ (a.Kind = 2 ∧ there = true ∧ z = (zrc, false, ans 0)) ∨ (a.Kind = 3 ∧ z = (r0, there, { ans 0 with Num := r0.Kind })) ∨ (a.Kind = 4 ∧ there = true ∧ z = (r0, true, { ans 0 with Rec := r0 })) ∨
      (5 ≤ a.Kind ∧ a.Kind ≤ 21 ∧ there = true ∧ act_On a.Kind = some r0.Kind ∧ ∃ r' o, rule_change a.Kind r0 a default = some (0, r', o) ∧ o.Code = 0 ∧ o.Num = 0 ∧ RecW r' ∧ RecW o.Rec ∧ z = (r', true, o))))
theorem apply_shape {r : api_Record} {there : Bool} {a : api_Act} (hr : RecW r) (ha : ActIn a) : ∃ z, rule_Apply r there a = some z ∧ Shape (if there = true then r else zrc) there a z := by
  suffices hs : ∀ r0 : api_Record, RecW r0 → ∃ z, rule_Apply_j1 there a r0 = some z ∧ Shape r0 there a z by
    unfold rule_Apply
    cases there
    · exact hs _ zrc_w
    · exact hs r hr
  intro r0 hr0
  unfold rule_Apply_j1
  rw [rclone_eq hr0.len]
  obtain ⟨c, h1, h2, h3⟩ := check_act ha.ok
  rw [h1]
  simp only [Option.bind_some]
  by_cases hc : c = 0
  · subst hc
    have hf := h3 rfl
    have hw := ha.w (c := 0) hf
    obtain ⟨on2, o1, o2, o3, o4, _⟩ := on_both hf.1 hf.2.1
    have main : (there = true → GoodR r0) → ∃ z, rule_Apply_j2 there a r0 = some z ∧ Shape r0 there a z := by
      intro hg
      unfold rule_Apply_j2 rule_Apply_1
      rw [o1, rclone_eq hr0.len, rclone_eq ha.mkr.len]
      simp only [Option.bind_some]
      by_cases k1 : a.Kind = 1
      · have hm : GoodR a.Make := (check_good ha.mkr.ok).1 (hf.2.2.2.2.2.1 k1)
        rw [k1]
        cases there
        · exact ⟨_, rfl, .inr ⟨h1, hw, hg, .inl ⟨k1, rfl, hm, rfl⟩⟩⟩
        · exact ⟨_, rfl, .inl ⟨7, by decide, rfl⟩⟩
      · by_cases k3 : a.Kind = 3
        · rw [k3]
          exact ⟨_, rfl, .inr ⟨h1, hw, hg, .inr (.inr (.inl ⟨k3, rfl⟩))⟩⟩
        · by_cases k2 : a.Kind = 2
          · rw [k2]
            cases there
            · exact ⟨_, rfl, .inl ⟨6, by decide, rfl⟩⟩
            · exact ⟨_, rfl, .inr ⟨h1, hw, hg, .inr (.inl ⟨k2, rfl, rfl⟩)⟩⟩
          · by_cases k4 : a.Kind = 4
            · rw [k4]
              cases there
              · exact ⟨_, rfl, .inl ⟨6, by decide, rfl⟩⟩
              · exact ⟨_, rfl, .inr ⟨h1, hw, hg, .inr (.inr (.inr (.inl ⟨k4, rfl, rfl⟩)))⟩⟩
            · have h5 : 5 ≤ a.Kind := by omega
              have b1 : (a.Kind == 1) = false := by simpa using k1
              have b2 : (a.Kind == 2) = false := by simpa using k2
              have b3 : (a.Kind == 3) = false := by simpa using k3
              have b4 : (a.Kind == 4) = false := by simpa using k4
              simp only [b1, b2, b3, b4, Bool.false_and, Bool.false_eq_true, if_false]
              cases there
              · exact ⟨_, rfl, .inl ⟨6, by decide, rfl⟩⟩
              · simp only [Bool.not_true, Bool.false_eq_true, if_false]
                by_cases hk : (on2 != r0.Kind) = true
                · rw [if_pos hk]
                  exact ⟨_, rfl, .inl ⟨5, by decide, rfl⟩⟩
                · rw [if_neg hk, if_pos ⟨h5, hf.2.1⟩]
                  have hk' : on2 = r0.Kind := by simpa using hk
                  obtain ⟨c, r', o, e1, e2, w1, w2, w3⟩ := chg_all h5 hf.2.1 hr0 (hg rfl) (by rw [← hk']; exact o1) hw
                  rw [e1]
                  simp only [Option.bind_some]
                  by_cases hc : c = 0
                  · subst hc
                    exact ⟨(r', true, o), rfl, .inr ⟨h1, hw, hg, .inr (.inr (.inr (.inr ⟨h5, hf.2.1, rfl, by rw [← hk']; exact o1, r', o, e1, (w3 rfl).1, (w3 rfl).2, w1, w2, rfl⟩)))⟩⟩
                  · have hcn : (c != 0) = true := by simpa using hc
                    rw [if_pos hcn]
                    exact ⟨_, rfl, .inl ⟨c, hc, rfl⟩⟩
    have z1 : ((0 : Int) != 0) = false := rfl
    rw [z1]
    simp only [Bool.false_eq_true, if_false]
    by_cases ht : there = true
    · rw [if_pos ht]
      obtain ⟨c2, g1, g2⟩ := check_both hr0.ok
      rw [g1]
      simp only [Option.bind_some]
      by_cases hc2 : c2 = 0
      · subst hc2
        rw [z1]
        exact main fun _ => (check_good hr0.ok).1 g1
      · have hcn : (c2 != 0) = true := by simpa using hc2
        rw [if_pos hcn]
        exact ⟨_, rfl, .inl ⟨c2, hc2, rfl⟩⟩
    · rw [if_neg ht]
      exact main fun h => absurd h ht
  · have hcn : (c != 0) = true := by simpa using hc
    rw [if_pos hcn]
    exact ⟨_, rfl, .inl ⟨c, hc, rfl⟩⟩
/-- Of a record that is there, and a kind of change: what it answers. -/
theorem apply_chg {r : api_Record} {a : api_Act} (hr : RecW r) (ha : ActIn a) (h5 : 5 ≤ a.Kind) : ∃ z, rule_Apply r true a = some z ∧ ((∃ c, c ≠ 0 ∧ z = (r, true, ans c)) ∨ (act_Check a = some 0 ∧ ActW a ∧ GoodR r ∧ a.Kind ≤ 21 ∧ act_On a.Kind = some r.Kind ∧ ∃ r' o, rule_change a.Kind r a default = some (0, r', o) ∧ o.Code = 0 ∧ o.Num = 0 ∧ RecW r' ∧ RecW o.Rec ∧ z = (r', true, o))) := by
  obtain ⟨z, e, hs⟩ := apply_shape (there := true) hr ha
  rw [if_pos rfl] at hs
  refine ⟨z, e, ?_⟩
  rcases hs with h | ⟨h1, h2, h3, ⟨k, _⟩ | ⟨k, _⟩ | ⟨k, _⟩ | ⟨k, _⟩ | ⟨_, k2, _, k4, h⟩⟩
  · exact .inl h
  · omega
  · omega
  · omega
  · omega
  · exact .inr ⟨h1, h2, h3 rfl, k2, k4, h⟩
end Go.CL

/- RuleTwice. -/
set_option linter.unusedVariables false
set_option linter.unusedSimpArgs false
namespace Go.CL
open Go

theorem pre_app {f : api_Item → Bool} {x : api_Item} {B : Items} (hx : f x = false) : ∀ {A : Items}, (∀ y ∈ A, f y = true) → pre f (A ++ x :: B) = A.length
  | [], _ => by simp [pre, hx]
  | y :: A, h => by
    simp only [List.cons_append, pre, h y (List.mem_cons_self ..), if_true, List.length_cons]
    rw [pre_app hx fun z hz => h z (List.mem_cons_of_mem _ hz)]
theorem pre_take {f : api_Item → Bool} {l : Items} : ∀ y ∈ l.take (pre f l), f y = true := fun y hy => by
  obtain ⟨k, hk, rfl⟩ := List.getElem_of_mem hy
  rw [List.length_take] at hk
  obtain ⟨e, he, hf⟩ := pre_lt (f := f) (l := l) (k := k) (by omega)
  rw [List.getElem?_eq_getElem (by omega)] at he
  rw [List.getElem_take]
  obtain rfl := Option.some.inj he
  exact hf
theorem better_self (e : api_Item) : betterB e e = false := by
  unfold betterB; rw [if_pos rfl, sLt_irr]
variable {r r' r'' : api_Record} {a : api_Act} {o o' : api_Answer} {c : Int}
theorem idem_real {ψ : Nat → Nat → Option Nat} (hψ : ∀ m, ψ r.Real a.X = some m → ψ m a.X = some m) (hk : ∀ r, rule_change a.Kind r a default = rule_real_1 ψ r a default) (h1 : rule_change a.Kind r a default = some (c, r', o)) (h2 : rule_change a.Kind r' a default = some (0, r'', o')) : r'' = r' := by
  rw [hk] at h1 h2
  unfold rule_real_1 at h1 h2
  obtain ⟨m, m1, m2⟩ := Option.bind_eq_some_iff.1 h1
  simp only [Option.some.injEq, Prod.mk.injEq] at m2
  obtain ⟨_, rfl, _⟩ := m2
  obtain ⟨m', m3, m4⟩ := Option.bind_eq_some_iff.1 h2
  simp only [Option.some.injEq, Prod.mk.injEq] at m4
  obtain ⟨_, rfl, _⟩ := m4
  rw [hψ _ m1] at m3
  obtain rfl := Option.some.inj m3
  rfl
theorem less_some {x y : Nat} (hx : x < W64) (hy : y < W64) : ∃ b, flo_Less x y = some b := ⟨_, less_eq hx hy⟩
theorem max_again {x y m : Nat} (hx : x < W64) (hy : y < W64) (cx : x = canon x) (cy : y = canon y) (h : flo_Max x y = some m) : flo_Max m y = some m := by
  have h' := h
  obtain ⟨m', e1, _, e2⟩ := max_both hx hy cx cy
  rw [e1] at h
  obtain rfl := Option.some.inj h
  rcases e2 with rfl | rfl
  · exact h'
  · unfold flo_Max
    obtain ⟨b3, b4⟩ := less_some hy hy
    rw [b4, canon_eq hy, ← cy]; cases b3 <;> rfl
theorem min_again {x y m : Nat} (hx : x < W64) (hy : y < W64) (cx : x = canon x) (cy : y = canon y) (h : flo_Min x y = some m) : flo_Min m y = some m := by
  have h' := h
  obtain ⟨m', e1, _, e2⟩ := min_both hx hy cx cy
  rw [e1] at h
  obtain rfl := Option.some.inj h
  rcases e2 with rfl | rfl
  · exact h'
  · unfold flo_Min
    obtain ⟨b3, b4⟩ := less_some hy hy
    rw [b4, canon_eq hy, ← cy]; cases b3 <;> rfl
theorem idem_join (h : a.Kind = 18) (hg : GoodR r) (hk : r.Kind = 8) (hl : r.List.length ≤ 1000) (hg' : GoodR r') (hk' : r'.Kind = 8) (hl' : r'.List.length ≤ 1000) (h1 : rule_change a.Kind r a default = some (0, r', o)) (h2 : rule_change a.Kind r' a default = some (0, r'', o')) : r'' = r' := by
  have e : ∀ r, rule_change a.Kind r a default = rule_join r a default := fun r => by rw [h]; rfl
  rw [e] at h1 h2
  have g1 := h1
  unfold rule_join at h1
  rw [find_eq (good_names hg hk) (by omega), clone_i (by omega)] at h1
  simp only [Option.bind_some] at h1
  by_cases hat : isAt a.S r.List = true
  · rw [if_pos hat] at h1
    simp only [Option.some.injEq, Prod.mk.injEq, true_and] at h1
    obtain ⟨rfl, rfl⟩ := h1
    rw [g1] at h2
    simp only [Option.some.injEq, Prod.mk.injEq, true_and] at h2
    exact h2.1.symm
  · rw [if_neg hat] at h1
    by_cases hc : decide (r.Cap ≤ (r.List.length : Int)) = true
    · rw [if_pos hc] at h1; cases h1
    · rw [if_neg hc] at h1
      obtain ⟨L, e1, e2⟩ := Option.bind_eq_some_iff.1 h1
      simp only [Option.some.injEq, Prod.mk.injEq, true_and] at e2
      obtain ⟨rfl, rfl⟩ := e2
      unfold slices_Insert_api_Item_api_Item at e1
      split at e1
      · have hL := (Option.some.inj e1).symm
        have hany : isAt a.S L = true := by
          rw [← any_isAt (good_names hg' hk'), hL, List.any_append, List.any_append]
          simp [sEq_self]
        unfold rule_join at h2
        rw [find_eq (good_names hg' hk') (show L.length < _ by have : L.length ≤ 1000 := hl'; omega)] at h2
        simp only [Option.bind_some] at h2
        rw [if_pos hany] at h2
        simp only [Option.some.injEq, Prod.mk.injEq, true_and] at h2
        exact h2.1.symm
      · cases e1
theorem idem_leave (h : a.Kind = 19) (hr : RecW r) (hg : GoodR r) (hk : r.Kind = 8) (hg' : GoodR r') (hk' : r'.Kind = 8) (hl' : r'.List.length ≤ 1000) (h1 : rule_change a.Kind r a default = some (0, r', o)) (h2 : rule_change a.Kind r' a default = some (0, r'', o')) : r'' = r' := by
  have e : ∀ r, rule_change a.Kind r a default = rule_changes_7 r a default := fun r => by rw [h]; rfl
  have hl := hr.len
  obtain ⟨c, x, y, d1, d2, _⟩ := chg_leave h hr hg hk
  rw [h1] at d1
  simp only [Option.some.injEq, Prod.mk.injEq] at d1
  obtain ⟨rfl, rfl, rfl⟩ := d1
  have e2 : moietyref05_do r a = (moietyref05_do_l1 r a (Int.toNat ((r.List.length : Int) - (0 : Int)) + 1) ([] : List api_Item) (0 : Int)).bind fun z57 => match z57 with | y56 => (moietyref05_do_j1 ({ r with List := y56 }) (ans 0)) := by unfold moietyref05_do moietyref05_do_j2; rw [h]; rfl
  have hf := filt_loop (a := a) (a0 := r) (by omega) r.List.length 0 [] (by omega) (by simp)
  rw [show ((0 : Nat) : Int) = 0 from rfl] at hf
  rw [e2, show (Int.toNat ((r.List.length : Int) - (0 : Int)) + 1) = r.List.length + 1 by omega, hf, List.drop_zero, List.nil_append] at d2
  simp only [Option.bind_some, moietyref05_do_j1, if_true, Option.some.injEq, Prod.mk.injEq] at d2
  obtain ⟨rfl, _⟩ := d2
  have hany : isAt a.S (r.List.filter fun e => !sEq e.Name a.S) = false := by
    rw [← any_isAt (good_names hg' hk'), List.any_eq_false]
    intro e he
    have := (List.mem_filter.1 he).2
    simpa using this
  rw [e] at h2
  unfold rule_changes_7 at h2
  rw [find_eq (good_names hg' hk') (show (r.List.filter fun e => !sEq e.Name a.S).length < _ by have : (r.List.filter fun e => !sEq e.Name a.S).length ≤ 1000 := hl'; omega)] at h2
  simp only [Option.bind_some] at h2
  rw [if_neg (by rw [hany]; decide)] at h2
  simp only [rule_changes_7_j1, Option.some.injEq, Prod.mk.injEq, true_and] at h2
  exact h2.1.symm
theorem idem_offer (h : a.Kind = 21) (hr : RecW r) (hg : GoodR r) (hk : r.Kind = 9) (ha : ActW a) (hw' : RecW r') (h1 : rule_change a.Kind r a default = some (0, r', o)) (h2 : rule_change a.Kind r' a default = some (0, r'', o')) : r'' = r' := by
  have e : ∀ r, rule_change a.Kind r a default = rule_offer r a default := fun r => by rw [h]; rfl
  obtain ⟨c1, c2, c3⟩ := good_list hg (by omega)
  have hl := hr.len
  have hple := pre_le (aheadF { Score := a.X, Name := a.S } false) r.List
  rw [e] at h1 h2
  have g1 := h1
  -- no change: the second is the first
  have same : r' = r → r'' = r' := fun hrr => by
    subst hrr
    rw [g1] at h2
    simp only [Option.some.injEq, Prod.mk.injEq, true_and] at h2
    exact h2.1.symm
  unfold rule_offer at h1
  rw [offer_pre ha.ok.2 hr.ok.sc (by omega), clone_i (by omega)] at h1
  simp only [Option.bind_some] at h1
  obtain ⟨e9, _, h1⟩ := Option.bind_eq_some_iff.1 h1
  obtain ⟨r11, _, h1⟩ := Option.bind_eq_some_iff.1 h1
  split at h1
  · simp only [Option.some.injEq, Prod.mk.injEq, true_and] at h1
    exact same h1.1.symm
  · obtain ⟨L, hL, h1⟩ := Option.bind_eq_some_iff.1 h1
    unfold slices_Insert_api_Item_api_Item at hL
    rw [if_pos ⟨by omega, by omega, by simp, by simp; omega⟩] at hL
    have hL := (Option.some.inj hL).symm
    rw [min_take c1 c2] at h1
    simp only [Option.bind_some, Option.some.injEq, Prod.mk.injEq, true_and, Int.toNat_natCast] at h1 hL
    obtain ⟨rfl, _⟩ := h1
    have hAl : (r.List.take (pre (aheadF { Score := a.X, Name := a.S } false) r.List)).length = pre (aheadF { Score := a.X, Name := a.S } false) r.List := by rw [List.length_take]; omega
    by_cases hi : (pre (aheadF { Score := a.X, Name := a.S } false) r.List : Int) < r.Cap
    · have ht : L.take r.Cap.toNat = r.List.take (pre (aheadF { Score := a.X, Name := a.S } false) r.List) ++ { Score := a.X, Name := a.S } :: (r.List.drop (pre (aheadF { Score := a.X, Name := a.S } false) r.List)).take (r.Cap.toNat - pre (aheadF { Score := a.X, Name := a.S } false) r.List - 1) := by
        rw [hL, List.append_assoc, List.take_append, hAl, List.take_of_length_le (by rw [hAl]; omega)]
        congr 1
        rw [List.singleton_append, show r.Cap.toNat - pre (aheadF { Score := a.X, Name := a.S } false) r.List = (r.Cap.toNat - pre (aheadF { Score := a.X, Name := a.S } false) r.List - 1) + 1 by omega, List.take_succ_cons]
        simp
      have hself : aheadF { Score := a.X, Name := a.S } false { Score := a.X, Name := a.S } = false := better_self _
      have hp : pre (aheadF { Score := a.X, Name := a.S } false) (L.take r.Cap.toNat) = pre (aheadF { Score := a.X, Name := a.S } false) r.List := by
        rw [ht, pre_app hself pre_take, hAl]
      have hlen : (L.take r.Cap.toNat).length ≤ 1000 := hw'.len
      have hlt : pre (aheadF { Score := a.X, Name := a.S } false) r.List < (L.take r.Cap.toNat).length := by rw [ht]; simp only [List.length_append, List.length_cons, hAl]; omega
      have hget : (L.take r.Cap.toNat)[pre (aheadF { Score := a.X, Name := a.S } false) r.List]? = some { Score := a.X, Name := a.S } := by
        rw [ht, List.getElem?_append_right (by rw [hAl]; exact Nat.le_refl _), hAl, Nat.sub_self]; rfl
      unfold rule_offer at h2
      have ho := offer_pre (r := { r with List := L.take r.Cap.toNat }) (a := a) ha.ok.2 hw'.ok.sc (show (L.take r.Cap.toNat).length < _ by omega)
      rw [ho] at h2
      simp only [Option.bind_some, hp] at h2
      have hd : decide (((pre (aheadF { Score := a.X, Name := a.S } false) r.List : Nat) : Int) < ((L.take r.Cap.toNat).length : Int)) = true := by simpa using hlt
      rw [hd, idxn, hget] at h2
      simp only [gd_t, Option.bind_some, Bool.true_and] at h2
      rw [better_eq ha.ok.2 ha.ok.2, better_self] at h2
      simp only [Option.bind_some, Bool.not_false, if_true, Option.some.injEq, Prod.mk.injEq, true_and] at h2
      exact h2.1.symm
    · apply same
      have : L.take r.Cap.toNat = r.List := by
        rw [hL, List.append_assoc, List.take_append, hAl, show r.Cap.toNat - pre (aheadF { Score := a.X, Name := a.S } false) r.List = 0 by omega, List.take_zero, List.append_nil, List.take_of_length_le (by rw [hAl]; omega), List.take_of_length_le (by omega)]
      rw [this]
theorem on_of {k : Int} (h1 : 1 ≤ k) (h2 : k ≤ 21) {on : Int} (h : act_On k = some on) : (k = 10 ∨ k = 11 → on = 4) ∧ (k = 18 ∨ k = 19 ∨ k = 20 → on = 8) ∧ (k = 21 → on = 9) := by
  obtain ⟨on', o1, _, _, _, k10, k18, k21, _⟩ := on_both h1 h2
  rw [h] at o1
  obtain rfl := Option.some.inj o1
  exact ⟨k10, k18, k21⟩
/-- A change that is made twice. -/
theorem twice {k : Int} (hk : k = 5 ∨ k = 6 ∨ k = 13 ∨ k = 14 ∨ k = 17 ∨ k = 18 ∨ k = 19 ∨ k = 21) (h : a.Kind = k) (hr : RecW r) (ha : ActIn a) : ((rule_Apply r true a).bind fun r16 => ((rule_Apply r16.1 true a).bind fun r18 => ((gd r18.2.1 (rec_Same r16.1 r18.1)).bind fun r20 => (some (r18.2.1 && r20))))) = some true := by
  have fin : ∀ {x : api_Record}, RecW x → (gd true (rec_Same x x)).bind (fun r20 => some (true && r20)) = some true := fun {x} hx => by
    rw [gd_t, same_rec hx.ok hx.ok, sameRr]; rfl
  obtain ⟨z, e1, hz⟩ := apply_chg hr ha (by omega)
  rw [e1]
  simp only [Option.bind_some]
  rcases hz with ⟨c, _, rfl⟩ | ⟨k1, k2, k3, k4, k5, r', o, q1, q2, q3, q4, q5, rfl⟩
  · simp only []
    rw [e1]
    exact fin hr
  · simp only []
    obtain ⟨z2, f1, hz2⟩ := apply_chg q4 ha (by omega)
    rw [f1]
    simp only [Option.bind_some]
    rcases hz2 with ⟨c, _, rfl⟩ | ⟨_, _, p3, _, p5, r'', o', p6, _, _, p7, _, rfl⟩
    · exact fin q4
    · obtain ⟨_, o8, o9⟩ := on_of (by omega) k4 k5
      obtain ⟨_, o8', o9'⟩ := on_of (by omega) k4 p5
      have : r'' = r' := by
        rcases hk with rfl | rfl | rfl | rfl | rfl | rfl | rfl | rfl
        · have e : ∀ r, rule_change a.Kind r a default = rule_changes_1 r a default := fun r => by rw [h]; rfl
          rw [e] at q1 p6
          simp only [rule_changes_1, Option.some.injEq, Prod.mk.injEq, true_and] at q1 p6
          obtain ⟨rfl, _⟩ := q1
          exact p6.1.symm
        · have e : ∀ r, rule_change a.Kind r a default = rule_changes_2 r a default := fun r => by rw [h]; rfl
          rw [e] at q1 p6
          simp only [rule_changes_2, rclone_eq hr.len, rclone_eq q4.len, Option.bind_some, Option.some.injEq, Prod.mk.injEq, true_and] at q1 p6
          obtain ⟨rfl, _⟩ := q1
          exact p6.1.symm
        · exact idem_real (fun m => max_again hr.ok.real k2.ok.2 (good_real k3) k2.xc) (fun r => by rw [h]; rfl) q1 p6
        · exact idem_real (fun m => min_again hr.ok.real k2.ok.2 (good_real k3) k2.xc) (fun r => by rw [h]; rfl) q1 p6
        · exact idem_real (ψ := fun x y => rule_changes_6 x y) (fun m hm => by unfold rule_changes_6 at *; exact hm) (fun r => by rw [h]; rfl) q1 p6
        · exact idem_join h k3 (o8 (.inl h)) hr.len p3 (o8' (.inl h)) q4.len q1 p6
        · exact idem_leave h hr k3 (o8 (.inr (.inl h))) p3 (o8' (.inr (.inl h))) q4.len q1 p6
        · exact idem_offer h hr k3 (o9 h) k2 q4 q1 p6
      subst this
      exact fin q4
/-- **RuleTwice.** -/
theorem RuleTwice_true (a0 : api_Record) (a1 : api_Act) (ha0 : wf_api_Record a0) (ha1 : wf_api_Act a1) : moietylaw05_RuleTwice a0 a1 = some true := by
  unfold moietylaw05_RuleTwice
  rw [speaks5]
  simp only [Option.bind_some, Bool.not_true, Bool.false_eq_true, if_false]
  rcases big5 (l := [a1]) ha0 (fun o ho => by rw [List.mem_singleton.1 ho]; exact ha1) with hb | ⟨hb, hr, _, hi⟩
  · rw [hb]; rfl
  · rw [hb]
    have ha := hi a1 (List.mem_singleton.2 rfl)
    have key : ∀ k : Int, (k = 5 ∨ k = 6 ∨ k = 13 ∨ k = 14 ∨ k = 17 ∨ k = 18 ∨ k = 19 ∨ k = 21) → moietylaw05_RuleTwice_j1 a0 a1 (a1.Kind == k) = some true := fun k hk => by
      unfold moietylaw05_RuleTwice_j1
      split
      · rename_i h
        exact twice hk (by simpa using h) hr ha
      · rfl
    simp only [Option.bind_some, Bool.false_eq_true, if_false]
    rw [key 5 (by omega), key 6 (by omega), key 13 (by omega), key 14 (by omega), key 17 (by omega), key 18 (by omega), key 19 (by omega), key 21 (by omega)]
    simp
end Go.CL

/- RuleRows. -/
set_option linter.unusedVariables false
set_option linter.unusedSimpArgs false
namespace Go.CL
open Go

def runR : List api_Act → Bool → api_Record → Option (api_Record × Bool × List api_Answer)
  | [], t, r => some (r, t, [])
  | a :: l, t, r => (rule_Apply r t a).bind fun z => (runR l z.2.1 z.1).bind fun y => some (y.1, y.2.1, z.2.2 :: y.2.2)
theorem run_ok : ∀ {l : List api_Act} {t : Bool} {r : api_Record}, RecW r → (∀ a ∈ l, ActIn a) → ∃ x is outs, runR l t r = some (x, is, outs) ∧ RecW x ∧ outs.length = l.length ∧ ∀ o ∈ outs, RecW o.Rec
  | [], t, r, hr, _ => ⟨r, t, [], rfl, hr, rfl, fun o h => by cases h⟩
  | a :: l, t, r, hr, hl => by
    obtain ⟨x, is, out, e1, _, w1, w2⟩ := apply_both (there := t) hr (hl a (List.mem_cons_self ..))
    obtain ⟨y, js, outs, e2, w3, h4, h5⟩ := run_ok (l := l) (t := is) w1 fun a h => hl a (List.mem_cons_of_mem _ h)
    refine ⟨y, js, out :: outs, by rw [runR, e1]; simp only [Option.bind_some]; rw [e2]; rfl, w3, by simp [h4], fun o h => ?_⟩
    rcases List.mem_cons.1 h with rfl | h
    · exact w2
    · exact h5 o h
theorem run_cons {a : api_Act} {l : List api_Act} {t : Bool} {r x : api_Record} {is : Bool} {outs : List api_Answer} (h : runR (a :: l) t r = some (x, is, outs)) : ∃ r1 t1 o1 os, rule_Apply r t a = some (r1, t1, o1) ∧ runR l t1 r1 = some (x, is, os) ∧ outs = o1 :: os := by
  rw [runR] at h
  obtain ⟨⟨r1, t1, o1⟩, h1, h2⟩ := Option.bind_eq_some_iff.1 h
  obtain ⟨⟨x', is', os⟩, h3, h4⟩ := Option.bind_eq_some_iff.1 h2
  simp only [Option.some.injEq, Prod.mk.injEq] at h4
  obtain ⟨rfl, rfl, rfl⟩ := h4
  exact ⟨r1, t1, o1, os, h1, h3, rfl⟩
theorem row_loop {l : List api_Act} (hl : l.length ≤ 30) : ∀ (n i : Nat) {t : Bool} {r x : api_Record} {is : Bool} {outs acc : List api_Answer}, i + n = l.length → acc.length = i → runR (l.drop i) t r = some (x, is, outs) → rule_Row_l1 l (n + 1) t r acc (i : Int) = some (is, x, acc ++ outs)
  | 0, i, t, r, x, is, outs, acc, h, ha, hr => by
    rw [List.drop_of_length_le (by omega)] at hr
    simp only [runR, Option.some.injEq, Prod.mk.injEq] at hr
    obtain ⟨rfl, rfl, rfl⟩ := hr
    rw [rule_Row_l1, if_neg (by simp; omega), List.append_nil]
  | n + 1, i, t, r, x, is, outs, acc, h, ha, hr => by
    have h1 : i < l.length := by omega
    rw [List.drop_eq_getElem_cons h1] at hr
    obtain ⟨r1, t1, o1, os, e1, e2, rfl⟩ := run_cons hr
    rw [rule_Row_l1, if_pos (by simp; omega), idx_lt h1, wr1 (by omega)]
    simp only [Option.bind_some]
    rw [e1]
    simp only [Option.bind_some]
    rw [if_pos (by simp; omega), row_loop hl n (i + 1) (by omega) (by simp [ha]) e2]
    simp
theorem row_eq {l : List api_Act} (hl : l.length ≤ 30) {t : Bool} {r x : api_Record} {is : Bool} {outs : List api_Answer} (hr : RecW r) (h : runR l t r = some (x, is, outs)) : rule_Row_j1 t l r = some (x, is, outs) := by
  have := row_loop hl l.length 0 (t := t) (r := r) (acc := []) (by omega) rfl (by rw [List.drop_zero]; exact h)
  unfold rule_Row_j1
  rw [show ((0 : Nat) : Int) = 0 from rfl] at this
  rw [rclone_eq hr.len, show (Int.toNat ((l.length : Int) - (0 : Int)) + 1) = l.length + 1 by omega]
  simp only [Option.bind_some]
  rw [this]; rfl
theorem rrows_loop {l : List api_Act} {X : api_Record} {B : Bool} {all : List api_Answer} (hl : l.length ≤ 30) (hin : ∀ a ∈ l, ActIn a) : ∀ (n i : Nat) {t : Bool} {r x : api_Record} {is : Bool}, i + n = l.length → all.length = l.length → RecW r → runR (l.drop i) t r = some (x, is, all.drop i) → moietylaw05_RuleRows_l1 l (X, B, all) (n + 1) r t (i : Int) = some (.inr (x, is))
  | 0, i, t, r, x, is, h, ha, hw, hr => by
    rw [List.drop_of_length_le (by omega)] at hr
    simp only [runR, Option.some.injEq, Prod.mk.injEq] at hr
    obtain ⟨rfl, rfl, _⟩ := hr
    rw [moietylaw05_RuleRows_l1, if_neg (by simp; omega)]
  | n + 1, i, t, r, x, is, h, ha, hw, hr => by
    have h1 : i < l.length := by omega
    have h2 : i < all.length := by omega
    rw [List.drop_eq_getElem_cons h1, List.drop_eq_getElem_cons h2] at hr
    obtain ⟨r1, t1, o1, os, e1, e2, e3⟩ := run_cons hr
    obtain ⟨rfl, rfl⟩ := List.cons.inj e3
    obtain ⟨x', is', out, f1, f2, w1, w2⟩ := apply_both (there := t) hw (hin _ (List.getElem_mem h1))
    rw [f1] at e1
    simp only [Option.some.injEq, Prod.mk.injEq] at e1
    obtain ⟨rfl, rfl, rfl⟩ := e1
    rw [moietylaw05_RuleRows_l1, if_pos (by simp; omega), idx_lt h1, wr1 (by omega)]
    simp only [Option.bind_some]
    rw [f2, idx_lt h2]
    simp only [Option.bind_some]
    rw [rsameA w2 w2]
    simp only [sameRr, beq_self_eq_true, Bool.and_self, Option.bind_some, Bool.not_true, Bool.false_eq_true, if_false]
    exact rrows_loop hl hin n (i + 1) (by omega) ha w1 e2
/-- **RuleRows.** -/
theorem RuleRows_true (a0 : api_Record) (a1 : Bool) (a2 : List api_Act) (ha0 : wf_api_Record a0) (ha1 : True) (ha2 : a2.length ≤ maxLen ∧ ∀ e0 ∈ a2, wf_api_Act e0) : moietylaw05_RuleRows a0 a1 a2 = some true := by
  unfold moietylaw05_RuleRows
  rw [speaks5]
  simp only [Option.bind_some, Bool.not_true, Bool.false_eq_true, if_false]
  rcases big5 ha0 ha2.2 with hb | ⟨hb, hr, hl, hi⟩
  · rw [hb]; rfl
  · rw [hb]
    have main : ∀ r0 : api_Record, RecW r0 → ((rule_Row_j1 a1 a2 r0).bind fun r7 => moietylaw05_RuleRows_j1 a1 a2 r7 r0) = some true := by
      intro r0 h0
      obtain ⟨x, is, outs, e1, w1, hlen, hos⟩ := run_ok (t := a1) h0 hi
      rw [row_eq hl h0 e1]
      simp only [Option.bind_some]
      unfold moietylaw05_RuleRows_j1
      have := rrows_loop (X := x) (B := is) (all := outs) hl hi a2.length 0 (by omega) hlen h0 (by rw [List.drop_zero, List.drop_zero]; exact e1)
      rw [show ((0 : Nat) : Int) = 0 from rfl] at this
      rw [if_neg (by simp [hlen]), show (Int.toNat ((a2.length : Int) - (0 : Int)) + 1) = a2.length + 1 by omega, this]
      simp only [Option.bind_some]
      rw [rsame_rec w1.ok w1.ok]
      simp [sameRr]
    simp only [Option.bind_some, Bool.false_eq_true, if_false]
    unfold rule_Row
    cases a1
    · exact main _ zrc_w
    · exact main _ hr
end Go.CL

/- RuleBack. -/
set_option linter.unusedVariables false
set_option linter.unusedSimpArgs false
namespace Go.CL
open Go

/-- An act that is in order, on a record that is: it is done. -/
theorem apply_go {r x : api_Record} {a : api_Act} {o : api_Answer} (hr : RecW r) (hg : GoodR r) (hc : act_Check a = some 0) (h5 : 5 ≤ a.Kind) (h21 : a.Kind ≤ 21) (hon : act_On a.Kind = some r.Kind) (h : rule_change a.Kind r a default = some (0, x, o)) : rule_Apply r true a = some (x, true, o) := by
  show rule_Apply_j1 true a r = _
  unfold rule_Apply_j1
  have z1 : ((0 : Int) != 0) = false := rfl
  rw [rclone_eq hr.len, hc]
  simp only [Option.bind_some, z1, Bool.false_eq_true, if_false, if_true]
  rw [(check_good hr.ok).2 hg]
  simp only [Option.bind_some, z1, Bool.false_eq_true, if_false, if_true]
  unfold rule_Apply_j2
  have b1 : (a.Kind == 1) = false := by simp; omega
  have b2 : (a.Kind == 2) = false := by simp; omega
  have b3 : (a.Kind == 3) = false := by simp; omega
  have b4 : (a.Kind == 4) = false := by simp; omega
  have bk : (r.Kind != r.Kind) = false := by simp
  simp only [b1, b2, b3, b4, Bool.false_and, Bool.false_eq_true, if_false, Bool.not_true]
  rw [hon]
  simp only [Option.bind_some, bk, Bool.false_eq_true, if_false]
  rw [rclone_eq hr.len]
  simp only [Option.bind_some]
  rw [if_pos ⟨h5, h21⟩, h]
  rfl
theorem good_num {r : api_Record} {m : Int} (hg : GoodR r) (hk : 2 ≤ r.Kind ∧ r.Kind ≤ 4) (hb : r.Kind = 4 → r.Low ≤ m ∧ m ≤ r.High) : GoodR { r with Num := m } := by
  obtain ⟨g1, g2, g3, g4, g5, g6, g7⟩ := hg
  refine ⟨g1, g2, ?_, g4, fun h => ⟨(g5 h).1, (g5 h).2.1, (hb h).1, (hb h).2⟩, g6, g7⟩
  unfold onlyB at *
  have : decide (2 ≤ r.Kind ∧ r.Kind ≤ 4) = true := decide_eq_true hk
  simp only [this, Bool.true_or] at *
  exact g3
theorem chk7 {a : api_Act} (h : a.Kind = 7) (m : Int) : act_Check { a with N := m } = act_Check a := by
  obtain ⟨k, key, n, x, s, mk, mu⟩ := a
  obtain rfl : k = 7 := h
  rfl
theorem chk8 {a : api_Act} (h : a.Kind = 8) (m : Int) : act_Check { a with N := m } = act_Check a := by
  obtain ⟨k, key, n, x, s, mk, mu⟩ := a
  obtain rfl : k = 8 := h
  rfl
theorem chk10 {a : api_Act} (h : a.Kind = 10) : act_Check { a with Kind := 11 } = act_Check a := by
  obtain ⟨k, key, n, x, s, mk, mu⟩ := a
  obtain rfl : k = 10 := h
  kernel_rfl
theorem chk11 {a : api_Act} (h : a.Kind = 11) : act_Check { a with Kind := 10 } = act_Check a := by
  obtain ⟨k, key, n, x, s, mk, mu⟩ := a
  obtain rfl : k = 11 := h
  kernel_rfl
/-- There and back. -/
theorem back {r : api_Record} {a b : api_Act} (hr : RecW r) (ha : ActIn a) (hb : ActIn b) (h5 : 5 ≤ a.Kind) (h5' : 5 ≤ b.Kind)
    (h : ∀ r' o, ActW a → GoodR r → RecW r' → act_Check a = some 0 → act_On a.Kind = some r.Kind → rule_change a.Kind r a default = some (0, r', o) → ∃ o', rule_Apply r' true b = some (r, true, o') ∧ o'.Code = 0) : moietylaw05_RuleBack_j1 r a b = some true := by
  obtain ⟨z, e1, hz⟩ := apply_chg hr ha h5
  have hrow : ∀ {x y : api_Record} {o1 o2 : api_Answer}, rule_Apply r true a = some (x, true, o1) → rule_Apply x true b = some (y, true, o2) → rule_Row r true [a, b] = some (y, true, [o1, o2]) := fun {x y o1 o2} q1 q2 => by
    show rule_Row_j1 true [a, b] r = _
    refine row_eq (by simp) hr ?_
    rw [runR, q1]
    simp only [Option.bind_some]
    rw [runR, q2]
    rfl
  unfold moietylaw05_RuleBack_j1
  rcases hz with ⟨c, hc, rfl⟩ | ⟨k1, k2, k3, k4, k5, r', o, q1, q2, q3, q4, q5, rfl⟩
  · obtain ⟨z2, e2, hz2⟩ := apply_chg hr hb h5'
    have : ∃ y o2, z2 = (y, true, o2) := by
      rcases hz2 with ⟨c2, _, rfl⟩ | ⟨_, _, _, _, _, r', o, _, _, _, _, _, rfl⟩
      · exact ⟨_, _, rfl⟩
      · exact ⟨_, _, rfl⟩
    obtain ⟨y, o2, rfl⟩ := this
    rw [hrow e1 e2]
    have hcn : ((ans c).Code != 0) = true := by simpa using hc
    simp [idx, hcn, gd, hc]
  · obtain ⟨o', f1, f2⟩ := h r' o k2 k3 q4 k1 k5 q1
    rw [hrow e1 f1]
    simp [idx, gd, q2, f2, same_rec hr.ok hr.ok, sameRr]
theorem wrap_back {n k : Int} (h : I64 n) : IntKind.i64.wrap (IntKind.i64.wrap (n + k) + IntKind.i64.wrap (0 - k)) = n := by
  unfold I64 at h
  simp only [IntKind.wrap_i64]
  omega
theorem back7 {r : api_Record} {a : api_Act} (hr : RecW r) (ha : ActIn a) (h : a.Kind = 7) : moietylaw05_RuleBack_j1 r a { a with N := IntKind.i64.wrap (0 - a.N) } = some true := by
  refine back hr ha ⟨ha.ok, wrap_rng _, ha.mkr⟩ (by omega) (show 5 ≤ a.Kind by omega) fun r' o hw hg hw' hc hon h1 => ?_
  have e : ∀ r, rule_change a.Kind r a default = rule_changes_3 r a default := fun r => by rw [h]; rfl
  rw [e] at h1
  simp only [rule_changes_3, Option.some.injEq, Prod.mk.injEq, true_and] at h1
  obtain ⟨rfl, rfl⟩ := h1
  have hk : r.Kind = 2 := by
    rw [h, show act_On 7 = some 2 by kernel_rfl] at hon
    exact (Option.some.inj hon).symm
  refine ⟨default, apply_go hw' (good_num hg (by omega) (fun h => by omega)) ((chk7 h _).trans hc) (show 5 ≤ a.Kind by omega) (show a.Kind ≤ 21 by omega) hon ?_, rfl⟩
  show rule_change a.Kind _ { a with N := IntKind.i64.wrap (0 - a.N) } default = _
  rw [h]
  show rule_changes_3 _ _ _ = _
  unfold rule_changes_3
  simp only []
  rw [wrap_back hr.num]
theorem back8 {r : api_Record} {a : api_Act} (hr : RecW r) (ha : ActIn a) (h : a.Kind = 8) (hN : -9223372036854775808 < a.N) : moietylaw05_RuleBack_j1 r a { a with N := IntKind.i64.wrap (0 - a.N) } = some true := by
  refine back hr ha ⟨ha.ok, wrap_rng _, ha.mkr⟩ (by omega) (show 5 ≤ a.Kind by omega) fun r' o hw hg hw' hc hon h1 => ?_
  have e : ∀ r, rule_change a.Kind r a default = rule_plus r a default := fun r => by rw [h]; rfl
  rw [e] at h1
  unfold rule_plus at h1
  have n1 := hr.num
  have n2 := hw.n
  unfold I64 at n1 n2
  split at h1
  · cases h1
  · rename_i hcond
    simp only [Option.some.injEq, Prod.mk.injEq, true_and] at h1
    obtain ⟨rfl, rfl⟩ := h1
    simp only [Bool.or_eq_true, Bool.and_eq_true, decide_eq_true_eq, IntKind.wrap_i64] at hcond
    have hk : r.Kind = 3 := by
      rw [h, show act_On 8 = some 3 by kernel_rfl] at hon
      exact (Option.some.inj hon).symm
    have hsum : IntKind.i64.wrap (r.Num + a.N) = r.Num + a.N := wr (by omega) (by omega)
    have hneg : IntKind.i64.wrap (0 - a.N) = 0 - a.N := wr (by omega) (by omega)
    refine ⟨default, apply_go hw' (good_num hg (by omega) (fun h => by omega)) ((chk8 h _).trans hc) (show 5 ≤ a.Kind by omega) (show a.Kind ≤ 21 by omega) hon ?_, rfl⟩
    show rule_change a.Kind _ { a with N := IntKind.i64.wrap (0 - a.N) } default = _
    rw [h]
    show rule_plus _ _ _ = _
    unfold rule_plus
    simp only []
    rw [if_neg, wrap_back hr.num]
    rw [hsum, hneg]
    simp only [Bool.or_eq_true, Bool.and_eq_true, decide_eq_true_eq, IntKind.wrap_i64]
    omega
theorem back10 {r : api_Record} {a : api_Act} (hr : RecW r) (ha : ActIn a) (h : a.Kind = 10) : moietylaw05_RuleBack_j1 r a { a with Kind := 11 } = some true := by
  refine back hr ha ⟨ha.ok, ha.n, ha.mkr⟩ (by omega) (show (5 : Int) ≤ 11 by omega) fun r' o hw hg hw' hc hon h1 => ?_
  have e : ∀ r, rule_change a.Kind r a default = rule_changes_4 r a default := fun r => by rw [h]; rfl
  have hk : r.Kind = 4 := by
    rw [h, show act_On 10 = some 4 by kernel_rfl] at hon
    exact (Option.some.inj hon).symm
  obtain ⟨p1, p2, p3, p4⟩ := purse hg hk
  obtain ⟨q1, q2⟩ := hw.inout (.inl h)
  rw [e] at h1
  unfold rule_changes_4 at h1
  rw [wr (x := r.High - r.Num) (by omega) (by omega), wr (x := r.Num + a.N) (by omega) (by omega)] at h1
  split at h1
  · cases h1
  · rename_i hcond
    have hcond' : ¬ (r.High - r.Num < a.N) := by simpa using hcond
    simp only [Option.some.injEq, Prod.mk.injEq, true_and] at h1
    obtain ⟨rfl, rfl⟩ := h1
    refine ⟨default, apply_go hw' (good_num hg (by omega) (fun _ => by omega)) ((chk10 h).trans hc) (show (5 : Int) ≤ 11 by omega) (show (11 : Int) ≤ 21 by omega) ?_ ?_, rfl⟩
    · show act_On 11 = some r.Kind
      rw [hk]; kernel_rfl
    · show rule_changes_5 _ _ _ = _
      unfold rule_changes_5
      simp only []
      rw [wr (x := r.Num + a.N - r.Low) (by omega) (by omega), wr (x := r.Num + a.N - a.N) (by omega) (by omega), if_neg (by simp; omega), show r.Num + a.N - a.N = r.Num by omega]
theorem back11 {r : api_Record} {a : api_Act} (hr : RecW r) (ha : ActIn a) (h : a.Kind = 11) : moietylaw05_RuleBack_j1 r a { a with Kind := 10 } = some true := by
  refine back hr ha ⟨ha.ok, ha.n, ha.mkr⟩ (by omega) (show (5 : Int) ≤ 10 by omega) fun r' o hw hg hw' hc hon h1 => ?_
  have e : ∀ r, rule_change a.Kind r a default = rule_changes_5 r a default := fun r => by rw [h]; rfl
  have hk : r.Kind = 4 := by
    rw [h, show act_On 11 = some 4 by kernel_rfl] at hon
    exact (Option.some.inj hon).symm
  obtain ⟨p1, p2, p3, p4⟩ := purse hg hk
  obtain ⟨q1, q2⟩ := hw.inout (.inr h)
  rw [e] at h1
  unfold rule_changes_5 at h1
  rw [wr (x := r.Num - r.Low) (by omega) (by omega), wr (x := r.Num - a.N) (by omega) (by omega)] at h1
  split at h1
  · cases h1
  · rename_i hcond
    have hcond' : ¬ (r.Num - r.Low < a.N) := by simpa using hcond
    simp only [Option.some.injEq, Prod.mk.injEq, true_and] at h1
    obtain ⟨rfl, rfl⟩ := h1
    refine ⟨default, apply_go hw' (good_num hg (by omega) (fun _ => by omega)) ((chk11 h).trans hc) (show (5 : Int) ≤ 10 by omega) (show (10 : Int) ≤ 21 by omega) ?_ ?_, rfl⟩
    · show act_On 10 = some r.Kind
      rw [hk]; kernel_rfl
    · show rule_changes_4 _ _ _ = _
      unfold rule_changes_4
      simp only []
      rw [wr (x := r.High - (r.Num - a.N)) (by omega) (by omega), wr (x := r.Num - a.N + a.N) (by omega) (by omega), if_neg (by simp; omega), show r.Num - a.N + a.N = r.Num by omega]
/-- **RuleBack.** -/
theorem RuleBack_true (a0 : api_Record) (a1 : api_Act) (ha0 : wf_api_Record a0) (ha1 : wf_api_Act a1) : moietylaw05_RuleBack a0 a1 = some true := by
  unfold moietylaw05_RuleBack
  rw [speaks5]
  simp only [Option.bind_some, Bool.not_true, Bool.false_eq_true, if_false]
  rcases big5 (l := [a1]) ha0 (fun o ho => by rw [List.mem_singleton.1 ho]; exact ha1) with hb | ⟨hb, hr, _, hi⟩
  · rw [hb]; rfl
  · rw [hb]
    have ha := hi a1 (List.mem_singleton.2 rfl)
    obtain ⟨c1, _, g1⟩ := check_both hr.ok
    obtain ⟨c2, _, g2, _⟩ := check_act ha.ok
    simp only [Option.bind_some, Bool.not_false, gd_t, g1, Bool.false_or, g2, gd_some]
    have key : ∀ j : Bool, (j = true → a1.Kind = 7 ∨ (a1.Kind = 8 ∧ -9223372036854775808 < a1.N)) → moietylaw05_RuleBack_j2 a0 a1 j = some true := fun j hj => by
      unfold moietylaw05_RuleBack_j2
      split
      · rename_i h
        rcases hj h with h | ⟨h, h'⟩
        · exact back7 hr ha h
        · exact back8 hr ha h h'
      · split
        · rename_i h
          exact back10 hr ha (by simpa using h)
        · split
          · rename_i h
            exact back11 hr ha (by simpa using h)
          · rfl
    rw [key (a1.Kind == 7) (fun h => .inl (by simpa using h)), key (a1.Kind == 8 && decide (-9223372036854775808 < a1.N)) (fun h => .inr (by simpa using h))]
    simp
end Go.CL

/- RuleKeeps: what is in order stays so. -/
set_option linter.unusedVariables false
set_option linter.unusedSimpArgs false
namespace Go.CL
open Go

theorem better_trans {a b c : api_Item} (h : betterB a b = true) (k : betterB b c = true) : betterB a c = true := by
  unfold betterB at *
  by_cases h1 : keyf a.Score = keyf b.Score
  · rw [if_pos h1] at h
    by_cases h2 : keyf b.Score = keyf c.Score
    · rw [if_pos h2] at k
      rw [if_pos (h1.trans h2)]; exact sLt_trans h k
    · rw [if_neg h2] at k
      rw [if_neg (by rw [h1]; exact h2), h1]; exact k
  · rw [if_neg h1] at h
    have h' := of_decide_eq_true h
    by_cases h2 : keyf b.Score = keyf c.Score
    · rw [if_neg (by rw [← h2]; exact h1), ← h2]; exact h
    · rw [if_neg h2] at k
      have k' := of_decide_eq_true k
      rw [if_neg (by omega)]; exact decide_eq_true (by omega)
def BS (l : Items) : Prop := l.Pairwise fun p q => betterB p q = true
def ItemOk (k : Int) (e : api_Item) : Prop := e.Name.size ≤ 16 ∧ (k = 8 → keyf e.Score = keyf 0) ∧ e.Score = canon e.Score
theorem itemC_zero {k : Int} {l : Items} {i : Nat} {x : api_Item} (h : l[i]? = some x) : itemC k l i = 0 ↔ ItemOk k x ∧ (0 < i → k = 8 → sLt ((l[i - 1]?).getD default).Name x.Name = true) ∧ (0 < i → k = 9 → betterB ((l[i - 1]?).getD default) x = true) := by
  unfold itemC ItemOk
  rw [h]
  simp only []
  by_cases h1 : (16 : Int) < x.Name.size
  · rw [if_pos h1]; exact ⟨fun h => (by cases h), fun h => by omega⟩
  · rw [if_neg h1]
    by_cases h2 : (k = 8 ∧ keyf x.Score ≠ keyf 0) ∨ x.Score ≠ canon x.Score
    · rw [if_pos h2]
      refine ⟨fun h => (by cases h), fun h => ?_⟩
      rcases h2 with ⟨a, b⟩ | b
      · exact absurd (h.1.2.1 a) b
      · exact absurd h.1.2.2 b
    · rw [if_neg h2]
      have e1 : k = 8 → keyf x.Score = keyf 0 := fun hk => Classical.byContradiction fun hn => h2 (.inl ⟨hk, hn⟩)
      have e2 : x.Score = canon x.Score := Classical.byContradiction fun hn => h2 (.inr hn)
      by_cases h3 : 0 < i ∧ k = 8 ∧ sLt ((l[i - 1]?).getD default).Name x.Name = false
      · rw [if_pos h3]
        refine ⟨fun h => (by cases h), fun h => ?_⟩
        have := h.2.1 h3.1 h3.2.1
        rw [h3.2.2] at this; cases this
      · rw [if_neg h3]
        have e3 : 0 < i → k = 8 → sLt ((l[i - 1]?).getD default).Name x.Name = true := fun a b => by
          cases hq : sLt ((l[i - 1]?).getD default).Name x.Name
          · exact absurd ⟨a, b, hq⟩ h3
          · rfl
        by_cases h4 : 0 < i ∧ k = 9 ∧ betterB ((l[i - 1]?).getD default) x = false
        · rw [if_pos h4]
          refine ⟨fun h => (by cases h), fun h => ?_⟩
          have := h.2.2 h4.1 h4.2.1
          rw [h4.2.2] at this; cases this
        · rw [if_neg h4]
          refine ⟨fun _ => ⟨⟨by omega, e1, e2⟩, e3, fun a b => ?_⟩, fun _ => rfl⟩
          cases hq : betterB ((l[i - 1]?).getD default) x
          · exact absurd ⟨a, b, hq⟩ h4
          · rfl
theorem adj_pair {R : api_Item → api_Item → Prop} (ht : ∀ {a b c}, R a b → R b c → R a c) {l : Items} (step : ∀ i, i + 1 < l.length → R ((l[i]?).getD default) ((l[i + 1]?).getD default)) : l.Pairwise R := by
  have far : ∀ d i, i + d + 1 < l.length → R ((l[i]?).getD default) ((l[i + d + 1]?).getD default) := by
    intro d
    induction d with
    | zero => intro i h; exact step i h
    | succ d ih => intro i h; exact ht (ih i (by omega)) (step (i + d + 1) (by omega))
  refine List.pairwise_iff_getElem.2 fun i j hi hj hij => ?_
  have := far (j - i - 1) i (by omega)
  rw [show i + (j - i - 1) + 1 = j by omega, List.getElem?_eq_getElem hi, List.getElem?_eq_getElem hj] at this
  exact this
theorem pair_adj {R : api_Item → api_Item → Prop} {l : Items} (h : l.Pairwise R) {i : Nat} {x : api_Item} (hx : l[i]? = some x) (hi : 0 < i) : R ((l[i - 1]?).getD default) x := by
  obtain ⟨h1, rfl⟩ := List.getElem?_eq_some_iff.1 hx
  rw [List.getElem?_eq_getElem (by omega)]
  exact List.pairwise_iff_getElem.1 h _ _ (by omega) h1 (by omega)
theorem items_iff {k : Int} {l : Items} : (∀ i, i < l.length → itemC k l i = 0) ↔ (∀ e ∈ l, ItemOk k e) ∧ (k = 8 → NS l) ∧ (k = 9 → BS l) := by
  constructor
  · intro h
    refine ⟨fun e he => ?_, fun hk => ?_, fun hk => ?_⟩
    · obtain ⟨i, hi, rfl⟩ := List.getElem_of_mem he
      exact ((itemC_zero (List.getElem?_eq_getElem hi)).1 (h i hi)).1
    · refine adj_pair (R := fun p q => sLt p.Name q.Name = true) (fun a b => sLt_trans a b) fun i hi => ?_
      have := ((itemC_zero (List.getElem?_eq_getElem hi)).1 (h (i + 1) hi)).2.1 (by omega) hk
      rw [List.getElem?_eq_getElem hi]; exact this
    · refine adj_pair (R := fun p q => betterB p q = true) (fun a b => better_trans a b) fun i hi => ?_
      have := ((itemC_zero (List.getElem?_eq_getElem hi)).1 (h (i + 1) hi)).2.2 (by omega) hk
      rw [List.getElem?_eq_getElem hi]; exact this
  · intro ⟨h1, h2, h3⟩ i hi
    have hx := List.getElem?_eq_getElem hi
    exact (itemC_zero hx).2 ⟨h1 _ (List.getElem_mem hi), fun a b => pair_adj (R := fun p q => sLt p.Name q.Name = true) (h2 b) hx a, fun a b => pair_adj (R := fun p q => betterB p q = true) (h3 b) hx a⟩
theorem good_l {r : api_Record} (h : GoodR r) (hk : 8 ≤ r.Kind) : 1 ≤ r.Cap ∧ r.Cap ≤ 32 ∧ (r.List.length : Int) ≤ r.Cap ∧ (∀ e ∈ r.List, ItemOk r.Kind e) ∧ (r.Kind = 8 → NS r.List) ∧ (r.Kind = 9 → BS r.List) := by
  obtain ⟨a, b, c, d⟩ := h.2.2.2.2.2.2 hk
  exact ⟨a, b, c, items_iff.1 d⟩
theorem good_withList {r : api_Record} {l : Items} (h : GoodR r) (hk : 8 ≤ r.Kind) (h1 : (l.length : Int) ≤ r.Cap) (h2 : ∀ e ∈ l, ItemOk r.Kind e) (h3 : r.Kind = 8 → NS l) (h4 : r.Kind = 9 → BS l) : GoodR { r with List := l } := by
  obtain ⟨g1, g2, g3, g4, g5, g6, g7⟩ := h
  refine ⟨g1, g2, ?_, g4, g5, g6, fun hk => ⟨(g7 hk).1, (g7 hk).2.1, h1, items_iff.2 ⟨h2, h3, h4⟩⟩⟩
  unfold onlyB at *
  have : decide (8 ≤ r.Kind) = true := decide_eq_true hk
  simp only [this, Bool.true_or] at *
  exact g3
theorem good_withText {r : api_Record} {t : ByteArray} (h : GoodR r) (hk : r.Kind = 1) (h1 : t.size ≤ 64) : GoodR { r with Text := t } := by
  obtain ⟨g1, g2, g3, g4, g5, g6, g7⟩ := h
  refine ⟨g1, g2, ?_, h1, g5, g6, g7⟩
  unfold onlyB at *
  have : decide (r.Kind = 1) = true := decide_eq_true hk
  simp only [this, Bool.true_or, Bool.true_and] at *
  exact g3
theorem good_withReal {r : api_Record} {x : Nat} (h : GoodR r) (hk : 5 ≤ r.Kind ∧ r.Kind ≤ 7) (h1 : x = canon x) : GoodR { r with Real := x } := by
  obtain ⟨g1, g2, g3, g4, g5, g6, g7⟩ := h
  refine ⟨g1, g2, ?_, g4, g5, h1, g7⟩
  unfold onlyB at *
  have : decide (5 ≤ r.Kind ∧ r.Kind ≤ 7) = true := decide_eq_true hk
  simp only [this, Bool.true_or] at *
  exact g3
variable {r r' : api_Record} {a : api_Act} {o : api_Answer}
theorem keep_real {ψ : Nat → Nat → Option Nat} (hg : GoodR r) (hk : 5 ≤ r.Kind ∧ r.Kind ≤ 7) (hψ : ∀ m, ψ r.Real a.X = some m → m = canon m) (e : rule_change a.Kind r a default = rule_real_1 ψ r a default) (h1 : rule_change a.Kind r a default = some (0, r', o)) : GoodR r' := by
  rw [e] at h1
  unfold rule_real_1 at h1
  obtain ⟨m, m1, m2⟩ := Option.bind_eq_some_iff.1 h1
  simp only [Option.some.injEq, Prod.mk.injEq] at m2
  obtain ⟨_, rfl, _⟩ := m2
  exact good_withReal hg hk (hψ m m1)
theorem keep_join (h : a.Kind = 18) (hr : RecW r) (hg : GoodR r) (hk : r.Kind = 8) (ha : ActW a) (h1 : rule_change a.Kind r a default = some (0, r', o)) : GoodR r' := by
  have e : rule_change a.Kind r a default = rule_join r a default := by rw [h]; rfl
  obtain ⟨c1, c2, c3, c4, c5, _⟩ := good_l hg (by omega)
  have hs := c5 hk
  have hl := hr.len
  have hple := pre_le (fun e => sLt e.Name a.S) r.List
  rw [e] at h1
  unfold rule_join at h1
  rw [find_eq hs (by omega), clone_i (by omega)] at h1
  simp only [Option.bind_some] at h1
  by_cases hat : isAt a.S r.List = true
  · rw [if_pos hat] at h1
    simp only [Option.some.injEq, Prod.mk.injEq, true_and] at h1
    rw [← h1.1]; exact hg
  · rw [if_neg hat] at h1
    by_cases hc : decide (r.Cap ≤ (r.List.length : Int)) = true
    · rw [if_pos hc] at h1; cases h1
    · rw [if_neg hc] at h1
      have hc' : ¬ r.Cap ≤ (r.List.length : Int) := by simpa using hc
      unfold slices_Insert_api_Item_api_Item at h1
      rw [if_pos ⟨by omega, by omega, by simp, by simp; omega⟩] at h1
      simp only [Option.bind_some, Option.some.injEq, Prod.mk.injEq, true_and, Int.toNat_natCast] at h1
      obtain ⟨rfl, _⟩ := h1
      have hbehind : ∀ y ∈ r.List.drop (pre (fun e => sLt e.Name a.S) r.List), sLt a.S y.Name = true := fun y hy => by
        obtain ⟨k, hk, rfl⟩ := List.getElem_of_mem hy
        rw [List.length_drop] at hk
        rw [List.getElem_drop]
        have hm := pre_mono (s := a.S) hs (k := pre (fun e => sLt e.Name a.S) r.List + k) (by omega)
        rw [show decide (pre (fun e => sLt e.Name a.S) r.List + k < pre (fun e => sLt e.Name a.S) r.List) = false by simp] at hm
        refine sLt_tri hm fun hn => ?_
        have hany := any_isAt (s := a.S) hs
        rw [show isAt a.S r.List = false by simpa using hat, List.any_eq_false] at hany
        exact hany _ (List.getElem_mem _) (sEq_iff.2 hn)
      refine good_withList hg (by omega) (by simp; omega) (fun e he => ?_) (fun _ => ?_) (fun h => by omega)
      · simp only [List.mem_append, List.mem_singleton] at he
        rcases he with (he | rfl) | he
        · exact c4 e (List.mem_of_mem_take he)
        · exact ⟨ha.s16 (by omega), fun _ => rfl, by kernel_rfl⟩
        · exact c4 e (List.mem_of_mem_drop he)
      · unfold NS at *
        rw [List.append_assoc, List.pairwise_append]
        refine ⟨hs.sublist (List.take_sublist _ _), ?_, fun x hx y hy => ?_⟩
        · rw [List.singleton_append, List.pairwise_cons]
          exact ⟨hbehind, hs.sublist (List.drop_sublist _ _)⟩
        · have hxa : sLt x.Name a.S = true := pre_take (f := fun e => sLt e.Name a.S) x hx
          rcases List.mem_append.1 hy with hy | hy
          · rw [List.mem_singleton.1 hy]; exact hxa
          · exact sLt_trans hxa (hbehind y hy)
theorem keep_leave (h : a.Kind = 19) (hr : RecW r) (hg : GoodR r) (hk : r.Kind = 8) (h1 : rule_change a.Kind r a default = some (0, r', o)) : GoodR r' := by
  obtain ⟨c1, c2, c3, c4, c5, _⟩ := good_l hg (by omega)
  have hl := hr.len
  obtain ⟨c, x, y, d1, d2, _⟩ := chg_leave h hr hg hk
  rw [h1] at d1
  simp only [Option.some.injEq, Prod.mk.injEq] at d1
  obtain ⟨rfl, rfl, rfl⟩ := d1
  have e2 : moietyref05_do r a = (moietyref05_do_l1 r a (Int.toNat ((r.List.length : Int) - (0 : Int)) + 1) ([] : List api_Item) (0 : Int)).bind fun z57 => match z57 with | y56 => (moietyref05_do_j1 ({ r with List := y56 }) (ans 0)) := by unfold moietyref05_do moietyref05_do_j2; rw [h]; rfl
  have hf := filt_loop (a := a) (a0 := r) (by omega) r.List.length 0 [] (by omega) (by simp)
  rw [show ((0 : Nat) : Int) = 0 from rfl] at hf
  rw [e2, show (Int.toNat ((r.List.length : Int) - (0 : Int)) + 1) = r.List.length + 1 by omega, hf, List.drop_zero, List.nil_append] at d2
  simp only [Option.bind_some, moietyref05_do_j1, if_true, Option.some.injEq, Prod.mk.injEq] at d2
  obtain ⟨rfl, _⟩ := d2
  have hle := List.length_filter_le (fun e : api_Item => !sEq e.Name a.S) r.List
  exact good_withList hg (by omega) (by omega) (fun e he => c4 e (List.mem_filter.1 he).1) (fun _ => List.Pairwise.sublist List.filter_sublist (c5 hk)) (fun h => by omega)
theorem keep_offer (h : a.Kind = 21) (hr : RecW r) (hg : GoodR r) (hk : r.Kind = 9) (ha : ActW a) (h1 : rule_change a.Kind r a default = some (0, r', o)) : GoodR r' := by
  have e : rule_change a.Kind r a default = rule_offer r a default := by rw [h]; rfl
  obtain ⟨c1, c2, c3, c4, _, c6⟩ := good_l hg (by omega)
  have hs := c6 hk
  have hl := hr.len
  have hple := pre_le (aheadF { Score := a.X, Name := a.S } false) r.List
  rw [e] at h1
  unfold rule_offer at h1
  rw [offer_pre ha.ok.2 hr.ok.sc (by omega), clone_i (by omega)] at h1
  simp only [Option.bind_some] at h1
  obtain ⟨e9, g9, h1⟩ := Option.bind_eq_some_iff.1 h1
  obtain ⟨r11, g11, h1⟩ := Option.bind_eq_some_iff.1 h1
  split at h1
  · simp only [Option.some.injEq, Prod.mk.injEq, true_and] at h1
    rw [← h1.1]; exact hg
  · rename_i hcond
    unfold slices_Insert_api_Item_api_Item at h1
    rw [if_pos ⟨by omega, by omega, by simp, by simp; omega⟩] at h1
    simp only [Option.bind_some] at h1
    rw [min_take c1 c2] at h1
    simp only [Option.bind_some, Option.some.injEq, Prod.mk.injEq, true_and, Int.toNat_natCast] at h1
    obtain ⟨rfl, _⟩ := h1
    have hbehind : ∀ y ∈ r.List.drop (pre (aheadF { Score := a.X, Name := a.S } false) r.List), betterB { Score := a.X, Name := a.S } y = true := fun y hy => by
      have hp : pre (aheadF { Score := a.X, Name := a.S } false) r.List < r.List.length := by
        have := List.length_pos_of_mem hy
        rw [List.length_drop] at this; omega
      have hd : decide (((pre (aheadF { Score := a.X, Name := a.S } false) r.List : Nat) : Int) < (r.List.length : Int)) = true := by simpa using hp
      rw [hd, idx_lt hp] at g9
      simp only [gd_t, Option.some.injEq] at g9
      subst g9
      rw [hd] at g11 hcond
      simp only [gd_t] at g11
      rw [better_eq ha.ok.2 (hr.ok.sc _ (List.getElem_mem hp))] at g11
      have hb : betterB { Score := a.X, Name := a.S } r.List[pre (aheadF { Score := a.X, Name := a.S } false) r.List] = true := by
        have := Option.some.inj g11
        rw [← this] at hcond
        simpa using hcond
      rw [List.drop_eq_getElem_cons hp] at hy
      rcases List.mem_cons.1 hy with rfl | hy
      · exact hb
      · refine better_trans hb ?_
        have hpw : (r.List.drop (pre (aheadF { Score := a.X, Name := a.S } false) r.List)).Pairwise fun p q => betterB p q = true := List.Pairwise.sublist (List.drop_sublist _ _) hs
        rw [List.drop_eq_getElem_cons hp, List.pairwise_cons] at hpw
        exact hpw.1 y hy
    refine good_withList hg (by omega) (by rw [List.length_take]; omega) (fun e he => ?_) (fun h => by omega) (fun _ => ?_)
    · have he := List.mem_of_mem_take he
      simp only [List.mem_append, List.mem_singleton] at he
      rcases he with (he | rfl) | he
      · exact c4 e (List.mem_of_mem_take he)
      · exact ⟨ha.s16 (by omega), fun h => by omega, ha.xc⟩
      · exact c4 e (List.mem_of_mem_drop he)
    · refine List.Pairwise.sublist (List.take_sublist _ _) ?_
      rw [List.append_assoc, List.pairwise_append]
      refine ⟨List.Pairwise.sublist (List.take_sublist _ _) hs, ?_, fun x hx y hy => ?_⟩
      · rw [List.singleton_append, List.pairwise_cons]
        exact ⟨hbehind, List.Pairwise.sublist (List.drop_sublist _ _) hs⟩
      · have hxa : betterB x { Score := a.X, Name := a.S } = true := pre_take (f := aheadF { Score := a.X, Name := a.S } false) x hx
        rcases List.mem_append.1 hy with hy | hy
        · rw [List.mem_singleton.1 hy]; exact hxa
        · exact better_trans hxa (hbehind y hy)
theorem on_lit {k on : Int} {c : Int} (h : act_On k = some on) (e : act_On k = some c) : on = c := Option.some.inj (h.symm.trans e)
theorem keep_chg (h5 : 5 ≤ a.Kind) (h21 : a.Kind ≤ 21) (hon : act_On a.Kind = some r.Kind) (hr : RecW r) (hg : GoodR r) (ha : ActW a) (h1 : rule_change a.Kind r a default = some (0, r', o)) : GoodR r' := by
  have real : ∀ {m : Nat}, m = r.Real ∨ m = a.X → m = canon m := fun {m} h => by
    rcases h with rfl | rfl
    · exact good_real hg
    · exact ha.xc
  have hk' : a.Kind = 5 ∨ a.Kind = 6 ∨ a.Kind = 7 ∨ a.Kind = 8 ∨ a.Kind = 9 ∨ a.Kind = 10 ∨ a.Kind = 11 ∨ a.Kind = 12 ∨ a.Kind = 13 ∨ a.Kind = 14 ∨ a.Kind = 15 ∨ a.Kind = 16 ∨ a.Kind = 17 ∨ a.Kind = 18 ∨ a.Kind = 19 ∨ a.Kind = 20 ∨ a.Kind = 21 := by omega
  rcases hk' with h | h | h | h | h | h | h | h | h | h | h | h | h | h | h | h | h
  · have e : rule_change a.Kind r a default = rule_changes_1 r a default := by rw [h]; rfl
    rw [e] at h1
    simp only [rule_changes_1, Option.some.injEq, Prod.mk.injEq, true_and] at h1
    rw [← h1.1]
    exact good_withText hg (on_lit hon (by rw [h]; kernel_rfl)) ha.s64
  · have e : rule_change a.Kind r a default = rule_changes_2 r a default := by rw [h]; rfl
    rw [e] at h1
    simp only [rule_changes_2, rclone_eq hr.len, Option.bind_some, Option.some.injEq, Prod.mk.injEq, true_and] at h1
    rw [← h1.1]
    exact good_withText hg (on_lit hon (by rw [h]; kernel_rfl)) ha.s64
  · have e : rule_change a.Kind r a default = rule_changes_3 r a default := by rw [h]; rfl
    rw [e] at h1
    simp only [rule_changes_3, Option.some.injEq, Prod.mk.injEq, true_and] at h1
    rw [← h1.1]
    have hk : r.Kind = 2 := on_lit hon (by rw [h]; kernel_rfl)
    exact good_num hg (by omega) (fun h => by omega)
  · have e : rule_change a.Kind r a default = rule_plus r a default := by rw [h]; rfl
    rw [e] at h1
    unfold rule_plus at h1
    split at h1
    · cases h1
    · simp only [Option.some.injEq, Prod.mk.injEq, true_and] at h1
      rw [← h1.1]
      have hk : r.Kind = 3 := on_lit hon (by rw [h]; kernel_rfl)
      exact good_num hg (by omega) (fun h => by omega)
  · have e : rule_change a.Kind r a default = rule_atLeast r a default := by rw [h]; rfl
    rw [e] at h1
    unfold rule_atLeast at h1
    split at h1
    · cases h1
    · simp only [Option.some.injEq, Prod.mk.injEq, true_and] at h1
      rw [← h1.1]; exact hg
  · have e : rule_change a.Kind r a default = rule_changes_4 r a default := by rw [h]; rfl
    have hk : r.Kind = 4 := on_lit hon (by rw [h]; kernel_rfl)
    obtain ⟨p1, p2, p3, p4⟩ := purse hg hk
    obtain ⟨q1, q2⟩ := ha.inout (.inl h)
    rw [e] at h1
    unfold rule_changes_4 at h1
    rw [wr (x := r.High - r.Num) (by omega) (by omega), wr (x := r.Num + a.N) (by omega) (by omega)] at h1
    split at h1
    · cases h1
    · rename_i hcond
      have hcond' : ¬ (r.High - r.Num < a.N) := by simpa using hcond
      simp only [Option.some.injEq, Prod.mk.injEq, true_and] at h1
      rw [← h1.1]
      exact good_num hg (by omega) (fun _ => by omega)
  · have e : rule_change a.Kind r a default = rule_changes_5 r a default := by rw [h]; rfl
    have hk : r.Kind = 4 := on_lit hon (by rw [h]; kernel_rfl)
    obtain ⟨p1, p2, p3, p4⟩ := purse hg hk
    obtain ⟨q1, q2⟩ := ha.inout (.inr h)
    rw [e] at h1
    unfold rule_changes_5 at h1
    rw [wr (x := r.Num - r.Low) (by omega) (by omega), wr (x := r.Num - a.N) (by omega) (by omega)] at h1
    split at h1
    · cases h1
    · rename_i hcond
      have hcond' : ¬ (r.Num - r.Low < a.N) := by simpa using hcond
      simp only [Option.some.injEq, Prod.mk.injEq, true_and] at h1
      rw [← h1.1]
      exact good_num hg (by omega) (fun _ => by omega)
  · have e : rule_change a.Kind r a default = rule_atLeast r a default := by rw [h]; rfl
    rw [e] at h1
    unfold rule_atLeast at h1
    split at h1
    · cases h1
    · simp only [Option.some.injEq, Prod.mk.injEq, true_and] at h1
      rw [← h1.1]; exact hg
  · have hk : r.Kind = 5 := on_lit hon (by rw [h]; kernel_rfl)
    refine keep_real (ψ := fun x y => flo_Max x y) hg (by omega) (fun m hm => ?_) (by rw [h]; rfl) h1
    obtain ⟨m', e1, _, e2⟩ := max_both hr.ok.real ha.ok.2 (good_real hg) ha.xc
    have : m = m' := Option.some.inj (hm.symm.trans e1)
    exact real (this ▸ e2)
  · have hk : r.Kind = 6 := on_lit hon (by rw [h]; kernel_rfl)
    refine keep_real (ψ := fun x y => flo_Min x y) hg (by omega) (fun m hm => ?_) (by rw [h]; rfl) h1
    obtain ⟨m', e1, _, e2⟩ := min_both hr.ok.real ha.ok.2 (good_real hg) ha.xc
    have : m = m' := Option.some.inj (hm.symm.trans e1)
    exact real (this ▸ e2)
  · have hk : r.Kind = 7 := on_lit hon (by rw [h]; kernel_rfl)
    refine keep_real (ψ := fun x y => flo_Plus x y) hg (by omega) (fun m hm => ?_) (by rw [h]; rfl) h1
    have hz := fadd_lt r.Real a.X
    have : flo_Plus r.Real a.X = some (canon (fadd r.Real a.X)) := by unfold flo_Plus; rw [canon_eq hz]; rfl
    have : m = canon (fadd r.Real a.X) := Option.some.inj (hm.symm.trans this)
    rw [this, canon_canon]
  · have hk : r.Kind = 7 := on_lit hon (by rw [h]; kernel_rfl)
    refine keep_real (ψ := fun x y => flo_Times x y) hg (by omega) (fun m hm => ?_) (by rw [h]; rfl) h1
    have hz := fmul_lt r.Real a.X
    have : flo_Times r.Real a.X = some (canon (fmul r.Real a.X)) := by unfold flo_Times; rw [canon_eq hz]; rfl
    have : m = canon (fmul r.Real a.X) := Option.some.inj (hm.symm.trans this)
    rw [this, canon_canon]
  · have hk : r.Kind = 7 := on_lit hon (by rw [h]; kernel_rfl)
    refine keep_real (ψ := fun x y => rule_changes_6 x y) hg (by omega) (fun m hm => ?_) (by rw [h]; rfl) h1
    exact real (.inr (Option.some.inj hm).symm)
  · exact keep_join h hr hg (on_lit hon (by rw [h]; kernel_rfl)) ha h1
  · exact keep_leave h hr hg (on_lit hon (by rw [h]; kernel_rfl)) h1
  · have hk : r.Kind = 8 := on_lit hon (by rw [h]; kernel_rfl)
    have e : rule_change a.Kind r a default = rule_changes_8 r a default := by rw [h]; rfl
    have hl := hr.len
    rw [e] at h1
    unfold rule_changes_8 at h1
    rw [find_eq (good_names hg hk) (by omega)] at h1
    simp only [Option.bind_some] at h1
    split at h1
    · cases h1
    · simp only [Option.some.injEq, Prod.mk.injEq, true_and] at h1
      rw [← h1.1]; exact hg
  · exact keep_offer h hr hg (on_lit hon (by rw [h]; kernel_rfl)) ha h1
theorem reads_same (hk : a.Kind = 9 ∨ a.Kind = 12 ∨ a.Kind = 20) (hr : RecW r) (hg : GoodR r) (hon : act_On a.Kind = some r.Kind) (h1 : rule_change a.Kind r a default = some (0, r', o)) : r' = r := by
  rcases hk with h | h | h
  · have e : rule_change a.Kind r a default = rule_atLeast r a default := by rw [h]; rfl
    rw [e] at h1
    unfold rule_atLeast at h1
    split at h1
    · cases h1
    · simp only [Option.some.injEq, Prod.mk.injEq, true_and] at h1
      exact h1.1.symm
  · have e : rule_change a.Kind r a default = rule_atLeast r a default := by rw [h]; rfl
    rw [e] at h1
    unfold rule_atLeast at h1
    split at h1
    · cases h1
    · simp only [Option.some.injEq, Prod.mk.injEq, true_and] at h1
      exact h1.1.symm
  · have hk : r.Kind = 8 := on_lit hon (by rw [h]; kernel_rfl)
    have e : rule_change a.Kind r a default = rule_changes_8 r a default := by rw [h]; rfl
    have hl := hr.len
    rw [e] at h1
    unfold rule_changes_8 at h1
    rw [find_eq (good_names hg hk) (by omega)] at h1
    simp only [Option.bind_some] at h1
    split at h1
    · cases h1
    · simp only [Option.some.injEq, Prod.mk.injEq, true_and] at h1
      exact h1.1.symm
/-- What stands between two acts. -/
structure KeepInv (t : Bool) (r : api_Record) : Prop where
  w : RecW r
  good : t = true → GoodR r
  zero : t = false → r = zrc
def readsB (k : Int) : Bool := (((((k == (3 : Int)) || (k == (4 : Int))) || (k == (9 : Int))) || (k == (12 : Int))) || (k == (20 : Int)))
theorem keep_step {t : Bool} (hi : KeepInv t r) (ha : ActIn a) : ∃ x is out, rule_Apply r t a = some (x, is, out) ∧ KeepInv is x ∧ RecW out.Rec ∧ ((out.Code != 0 || readsB a.Kind) = true → is = t ∧ x = r) ∧ (out.Code ≠ 0 → out = ans out.Code) := by
  obtain ⟨z, e, hs⟩ := apply_shape (there := t) hi.w ha
  have hr0 : (if t = true then r else zrc) = r := by
    cases t
    · exact (hi.zero rfl).symm
    · rfl
  rw [hr0] at hs
  rw [e]
  rcases hs with ⟨c, hc, rfl⟩ | ⟨h1, h2, h3, ⟨k, k2, k3, rfl⟩ | ⟨k, k2, rfl⟩ | ⟨k, rfl⟩ | ⟨k, k2, rfl⟩ | ⟨k, k2, rfl, k4, r', o, q1, q2, q3, q4, q5, rfl⟩⟩
  · exact ⟨_, _, _, rfl, hi, zrc_w, fun _ => ⟨rfl, rfl⟩, fun _ => rfl⟩
  · refine ⟨_, _, _, rfl, ⟨ha.mkr, fun _ => k3, fun h => by cases h⟩, zrc_w, fun h => ?_, fun h => absurd rfl h⟩
    rw [k] at h; cases h
  · refine ⟨_, _, _, rfl, ⟨zrc_w, fun h => (by cases h), fun _ => rfl⟩, zrc_w, fun h => ?_, fun h => absurd rfl h⟩
    rw [k] at h; cases h
  · exact ⟨_, _, _, rfl, hi, zrc_w, fun _ => ⟨rfl, rfl⟩, fun h => absurd rfl h⟩
  · exact ⟨_, _, _, rfl, ⟨hi.w, fun _ => h3 k2, fun h => by cases h⟩, hi.w, fun _ => ⟨k2.symm, rfl⟩, fun h => absurd rfl h⟩
  · refine ⟨_, _, _, rfl, ⟨q4, fun _ => keep_chg k k2 k4 hi.w (h3 rfl) h2 q1, fun h => by cases h⟩, q5, fun h => ⟨rfl, ?_⟩, fun h => absurd q2 h⟩
    have h0 : (o.Code != 0) = false := by simp [q2]
    rw [h0] at h
    refine reads_same ?_ hi.w (h3 rfl) k4 q1
    unfold readsB at h
    simp only [Bool.false_or, Bool.or_eq_true, beq_iff_eq] at h
    omega
theorem keeps_loop {l : List api_Act} (hl : l.length ≤ 30) (hin : ∀ a ∈ l, ActIn a) : ∀ (n i : Nat) {t : Bool} {r : api_Record}, i + n = l.length → KeepInv t r → moietylaw05_RuleKeeps_l1 l (n + 1) t r (i : Int) = some (.inr ())
  | 0, i, t, r, h, hi => by
    rw [moietylaw05_RuleKeeps_l1, if_neg (by simp; omega)]
  | n + 1, i, t, r, h, hi => by
    have h1 : i < l.length := by omega
    obtain ⟨x, is, out, e, hv, ho, hs, hc⟩ := keep_step hi (hin _ (List.getElem_mem h1))
    have hz : RecW ({ Kind := (0 : Int), Num := (0 : Int), Low := (0 : Int), High := (0 : Int), Real := (0 : Nat), Cap := (0 : Int), Text := ByteArray.empty, List := ([] : List api_Item) } : api_Record) := zrc_w
    rw [moietylaw05_RuleKeeps_l1, if_pos (by simp; omega), idx_lt h1, wr1 (by omega)]
    simp only [Option.bind_some]
    rw [e]
    simp only [Option.bind_some]
    have c1 : gd is (rec_Check x) = some 0 := by
      cases is
      · rfl
      · rw [gd_t]; exact (check_good hv.w.ok).2 (hv.good rfl)
    rw [c1]
    have hrd : act_Reads l[i].Kind = some (readsB l[i].Kind) := rfl
    rw [hrd, same_rec hv.w.ok hz.ok, same_rec hv.w.ok hi.w.ok]
    have z0 : ((0 : Int) != 0) = false := rfl
    simp only [Option.bind_some, z0, Bool.and_false, Bool.not_false, Bool.true_and, Bool.false_or, gd_some]
    have c2 : (!is && !(if (!is) = true then sameR x { Kind := (0 : Int), Num := (0 : Int), Low := (0 : Int), High := (0 : Int), Real := (0 : Nat), Cap := (0 : Int), Text := ByteArray.empty, List := ([] : List api_Item) } else default)) = false := by
      cases is
      · have := hv.zero rfl
        subst this
        rw [show sameR zrc { Kind := (0 : Int), Num := (0 : Int), Low := (0 : Int), High := (0 : Int), Real := (0 : Nat), Cap := (0 : Int), Text := ByteArray.empty, List := ([] : List api_Item) } = true from sameRr zrc]
        rfl
      · rfl
    rw [c2]
    simp only [Bool.false_eq_true, if_false]
    have ra : rule_Same out { Code := out.Code, Num := (0 : Int), Rec := (default : api_Record) } = some ((out.Code == out.Code) && (out.Num == 0) && sameR out.Rec default) := sameA (b := ans out.Code) ho zrc_w
    rw [ra]
    simp only [gd_some, Option.bind_some]
    by_cases hcode : (out.Code != 0) = true
    · have hq := hs (by rw [hcode]; rfl)
      obtain ⟨rfl, rfl⟩ := hq
      have hout := hc (by simpa using hcode)
      have hn : out.Num = 0 := by rw [hout]
      have hrc : out.Rec = default := by rw [hout]
      rw [hn, hrc, hcode]
      simp [sameRr]
      exact keeps_loop hl hin n (i + 1) (by omega) hv
    · have hcode' : (out.Code != 0) = false := by simpa using hcode
      rw [hcode']
      by_cases hrb : readsB l[i].Kind = true
      · obtain ⟨rfl, rfl⟩ := hs (by rw [hrb]; simp)
        rw [hrb]
        simp [sameRr]
        exact keeps_loop hl hin n (i + 1) (by omega) hv
      · have hrb' : readsB l[i].Kind = false := by simpa using hrb
        rw [hrb']
        simp
        exact keeps_loop hl hin n (i + 1) (by omega) hv
/-- **RuleKeeps.** -/
theorem RuleKeeps_true (a0 : api_Record) (a1 : Bool) (a2 : List api_Act) (ha0 : wf_api_Record a0) (ha1 : True) (ha2 : a2.length ≤ maxLen ∧ ∀ e0 ∈ a2, wf_api_Act e0) : moietylaw05_RuleKeeps a0 a1 a2 = some true := by
  unfold moietylaw05_RuleKeeps
  rw [speaks5]
  simp only [Option.bind_some, Bool.not_true, Bool.false_eq_true, if_false]
  rcases big5 ha0 ha2.2 with hb | ⟨hb, hr, hl, hi⟩
  · rw [hb]; rfl
  · rw [hb]
    have main : ∀ {r0 : api_Record}, KeepInv a1 r0 → moietylaw05_RuleKeeps_j1 a1 a2 r0 = some true := fun {r0} h0 => by
      have := keeps_loop hl hi a2.length 0 (by omega) h0
      rw [show ((0 : Nat) : Int) = 0 from rfl] at this
      unfold moietylaw05_RuleKeeps_j1
      rw [show (Int.toNat ((a2.length : Int) - (0 : Int)) + 1) = a2.length + 1 by omega, this]
      rfl
    obtain ⟨c1, g0, g1⟩ := check_both hr.ok
    rw [g1]
    simp only [Option.bind_some, Bool.not_false, Bool.true_and, Bool.false_or, gd_some]
    cases a1
    · simp only [Bool.false_and, Bool.false_eq_true, if_false, Bool.not_false, if_true]
      exact main ⟨zrc_w, fun h => (by cases h), fun _ => rfl⟩
    · simp only [Bool.true_and, if_true, Bool.not_true, Bool.false_eq_true, if_false]
      by_cases hc : c1 = 0
      · subst hc
        exact main ⟨hr, fun _ => (check_good hr.ok).1 g0, fun h => (by cases h)⟩
      · rw [if_pos (by simpa using hc)]
end Go.CL

set_option linter.unusedVariables false
set_option linter.unusedSimpArgs false
set_option maxRecDepth 100000
namespace Go.CL
open Go Go.RowKit Go.Proofs Go.ChangeShapes Go.WideShapes Go.ChangeAt
theorem Tryd_own : ownKnob Tryd.prog.godebug = none := by kernel_rfl
theorem Tryd_laid : laidOutB Tryd.prog = true := by kernel_rfl
theorem op_3 : Opn Tryd.prog 3 (Kd.int .i64) (fun x => ((IntKind.i64).min ≤ x ∧ x ≤ (IntKind.i64).max)) := opn_int Tryd.underlying3 (by kernel_rfl)
theorem op_2 : Opn Tryd.prog 2 (Kd.int .i64) (fun x => ((IntKind.i64).min ≤ x ∧ x ≤ (IntKind.i64).max)) := opn_int Tryd.underlying2 (by kernel_rfl)
theorem op_22 : Opn Tryd.prog 22 Kd.flt (fun x => (x < 2 ^ 64)) := opn_flt Tryd.underlying22 (by kernel_rfl)
theorem op_9 : Opn Tryd.prog 9 Kd.str (fun x => (x.size ≤ maxLen)) := opn_str Tryd.underlying9 (by kernel_rfl)
theorem op_48 : Opn Tryd.prog 48 k_api_Item wf_api_Item := ⟨by kernel_rfl, fun hg h => by
  obtain ⟨hl, n, hf⟩ := opn_fields Tryd.underlying48 h
  obtain ⟨y0, h0⟩ := hf 0 _ rfl
  obtain ⟨v0, k0, w0⟩ := op_22.op hg h0
  obtain ⟨y1, h1⟩ := hf 1 _ rfl
  obtain ⟨v1, k1, w1⟩ := op_9.op hg h1
  refine ⟨⟨v0, v1⟩, ⟨hl.trans (by kernel_rfl), (List.forall_mem_cons.2 ⟨k0, (List.forall_mem_cons.2 ⟨k1, (fun _ h => by cases h)⟩)⟩)⟩, w0, w1⟩, fun h => fm_struct Tryd.underlying48 h⟩
theorem op_23 : Opn Tryd.prog 23 k_api_Item.sl (fun x => (x.length ≤ maxLen ∧ ∀ e0 ∈ x, (wf_api_Item e0))) := opn_sl Tryd.underlying23 (by kernel_rfl) op_48 (by decide)
theorem op_25 : Opn Tryd.prog 25 k_api_Record wf_api_Record := ⟨by kernel_rfl, fun hg h => by
  obtain ⟨hl, n, hf⟩ := opn_fields Tryd.underlying25 h
  obtain ⟨y0, h0⟩ := hf 0 _ rfl
  obtain ⟨v0, k0, w0⟩ := op_3.op hg h0
  obtain ⟨y1, h1⟩ := hf 1 _ rfl
  obtain ⟨v1, k1, w1⟩ := op_2.op hg h1
  obtain ⟨y2, h2⟩ := hf 2 _ rfl
  obtain ⟨v2, k2, w2⟩ := op_2.op hg h2
  obtain ⟨y3, h3⟩ := hf 3 _ rfl
  obtain ⟨v3, k3, w3⟩ := op_2.op hg h3
  obtain ⟨y4, h4⟩ := hf 4 _ rfl
  obtain ⟨v4, k4, w4⟩ := op_22.op hg h4
  obtain ⟨y5, h5⟩ := hf 5 _ rfl
  obtain ⟨v5, k5, w5⟩ := op_3.op hg h5
  obtain ⟨y6, h6⟩ := hf 6 _ rfl
  obtain ⟨v6, k6, w6⟩ := op_9.op hg h6
  obtain ⟨y7, h7⟩ := hf 7 _ rfl
  obtain ⟨v7, k7, w7⟩ := op_23.op hg h7
  refine ⟨⟨v0, v1, v2, v3, v4, v5, v6, v7⟩, ⟨hl.trans (by kernel_rfl), (List.forall_mem_cons.2 ⟨k0, (List.forall_mem_cons.2 ⟨k1, (List.forall_mem_cons.2 ⟨k2, (List.forall_mem_cons.2 ⟨k3, (List.forall_mem_cons.2 ⟨k4, (List.forall_mem_cons.2 ⟨k5, (List.forall_mem_cons.2 ⟨k6, (List.forall_mem_cons.2 ⟨k7, (fun _ h => by cases h)⟩)⟩)⟩)⟩)⟩)⟩)⟩)⟩)⟩, w0, w1, w2, w3, w4, w5, w6, w7⟩, fun h => fm_struct Tryd.underlying25 h⟩
theorem op_4 : Opn Tryd.prog 4 Kd.bool (fun x => True) := opn_bool Tryd.underlying4 (by kernel_rfl)
theorem op_27 : Opn Tryd.prog 27 k_api_Act wf_api_Act := ⟨by kernel_rfl, fun hg h => by
  obtain ⟨hl, n, hf⟩ := opn_fields Tryd.underlying27 h
  obtain ⟨y0, h0⟩ := hf 0 _ rfl
  obtain ⟨v0, k0, w0⟩ := op_3.op hg h0
  obtain ⟨y1, h1⟩ := hf 1 _ rfl
  obtain ⟨v1, k1, w1⟩ := op_9.op hg h1
  obtain ⟨y2, h2⟩ := hf 2 _ rfl
  obtain ⟨v2, k2, w2⟩ := op_2.op hg h2
  obtain ⟨y3, h3⟩ := hf 3 _ rfl
  obtain ⟨v3, k3, w3⟩ := op_22.op hg h3
  obtain ⟨y4, h4⟩ := hf 4 _ rfl
  obtain ⟨v4, k4, w4⟩ := op_9.op hg h4
  obtain ⟨y5, h5⟩ := hf 5 _ rfl
  obtain ⟨v5, k5, w5⟩ := op_25.op hg h5
  obtain ⟨y6, h6⟩ := hf 6 _ rfl
  obtain ⟨v6, k6, w6⟩ := op_4.op hg h6
  refine ⟨⟨v0, v1, v2, v3, v4, v5, v6⟩, ⟨hl.trans (by kernel_rfl), (List.forall_mem_cons.2 ⟨k0, (List.forall_mem_cons.2 ⟨k1, (List.forall_mem_cons.2 ⟨k2, (List.forall_mem_cons.2 ⟨k3, (List.forall_mem_cons.2 ⟨k4, (List.forall_mem_cons.2 ⟨k5, (List.forall_mem_cons.2 ⟨k6, (fun _ h => by cases h)⟩)⟩)⟩)⟩)⟩)⟩)⟩)⟩, w0, w1, w2, w3, w4, w5, w6⟩, fun h => fm_struct Tryd.underlying27 h⟩
theorem op_38 : Opn Tryd.prog 38 k_api_Act.sl (fun x => (x.length ≤ maxLen ∧ ∀ e0 ∈ x, (wf_api_Act e0))) := opn_sl Tryd.underlying38 (by kernel_rfl) op_27 (by decide)
theorem det_9 : Det Tryd.prog 9 := det_str Tryd.underlying9
theorem det_3 : Det Tryd.prog 3 := det_int Tryd.underlying3
theorem det_77 : Det Tryd.prog 77 := det_struct Tryd.underlying77 (fun i f h => match i, f, h with
  | 0, _, h => by obtain rfl := Option.some.inj h; exact det_9
  | 1, _, h => by obtain rfl := Option.some.inj h; exact det_3
  | 2, _, h => by obtain rfl := Option.some.inj h; exact det_9
  | _ + 3, _, h => by cases h) (by kernel_rfl)
theorem det_95 : Det Tryd.prog 95 := det_arr Tryd.underlying95 det_77 (by kernel_rfl)
theorem RuleKeeps_met (os : Os) (args : Array Value) : laidMetH Tryd.prog [("moiety/act.kinds", Go.Proofs.YtajghnodbhcnoaaDoor.Rows.laid_moiety_act_kinds)] ((World.doorLaid Tryd.prog 400 os).forCall (fun _ _ => 0) ⟨#[], args, []⟩).memory :=
  laidMetH_of_parts3 (fuel := 8) (laidMet_of_run' 8 (by kernel_rfl) (by kernel_rfl)) (by kernel_rfl) (by kernel_rfl)
theorem RuleKeeps_gl {W : World} (h : laidMetH Tryd.prog [("moiety/act.kinds", Go.Proofs.YtajghnodbhcnoaaDoor.Rows.laid_moiety_act_kinds)] W) : GLok W (fun b _ => b < W.heap.size) := by
  have g0 := laid_one (P := Tryd.prog) (nm := "moiety/act.kinds") (d := Go.Proofs.YtajghnodbhcnoaaDoor.Rows.laid_moiety_act_kinds) (g := 0) (t := 95) (W := W) (w0 := W) (cells := [.string ⟨#[]⟩, .int .i64 (0), .string ⟨#[]⟩, .string ⟨#[110, 101, 119]⟩, .int .i64 (0), .string ⟨#[109]⟩, .string ⟨#[100, 114, 111, 112]⟩, .int .i64 (0), .string ⟨#[]⟩, .string ⟨#[105, 115]⟩, .int .i64 (0), .string ⟨#[]⟩, .string ⟨#[108, 111, 111, 107]⟩, .int .i64 (0), .string ⟨#[]⟩, .string ⟨#[112, 117, 116]⟩, .int .i64 (1), .string ⟨#[115]⟩, .string ⟨#[115, 119, 97, 112]⟩, .int .i64 (1), .string ⟨#[115]⟩, .string ⟨#[97, 100, 100]⟩, .int .i64 (2), .string ⟨#[110]⟩, .string ⟨#[112, 108, 117, 115]⟩, .int .i64 (3), .string ⟨#[110]⟩, .string ⟨#[114, 101, 97, 99, 104]⟩, .int .i64 (3), .string ⟨#[110]⟩, .string ⟨#[105, 110]⟩, .int .i64 (4), .string ⟨#[110]⟩, .string ⟨#[111, 117, 116]⟩, .int .i64 (4), .string ⟨#[110]⟩, .string ⟨#[101, 110, 111, 117, 103, 104]⟩, .int .i64 (4), .string ⟨#[110]⟩, .string ⟨#[114, 97, 105, 115, 101]⟩, .int .i64 (5), .string ⟨#[120]⟩, .string ⟨#[108, 111, 119, 101, 114]⟩, .int .i64 (6), .string ⟨#[120]⟩, .string ⟨#[115, 104, 105, 102, 116]⟩, .int .i64 (7), .string ⟨#[120]⟩, .string ⟨#[115, 99, 97, 108, 101]⟩, .int .i64 (7), .string ⟨#[120]⟩, .string ⟨#[102, 105, 120]⟩, .int .i64 (7), .string ⟨#[120]⟩, .string ⟨#[106, 111, 105, 110]⟩, .int .i64 (8), .string ⟨#[115]⟩, .string ⟨#[108, 101, 97, 118, 101]⟩, .int .i64 (8), .string ⟨#[115]⟩, .string ⟨#[104, 97, 115]⟩, .int .i64 (8), .string ⟨#[115]⟩, .string ⟨#[111, 102, 102, 101, 114]⟩, .int .i64 (9), .string ⟨#[120, 115]⟩]) (fu := 8) (by kernel_rfl) (by kernel_rfl) det_95 (by kernel_rfl) (by kernel_rfl) h
  intro e he i v hv
  rcases List.mem_cons.1 he with rfl | he
  · exact ⟨(spot_none (g0 i v hv)).2, g0 i v hv⟩
  cases he
theorem RuleKeeps_ret (os : Os) (started : os.Started) (H : Type) (enc : TypeId × Value → H) :
    ReturnsInHanded {} Tryd.checked os 8 .any (fun w args => (Go.Proofs.YtajghnodbhcnoaaDoor.Rows.ruleKeepsSpec.pre enc Tryd.prog Tryd.f8 [] false w args ∧ laidMetH Tryd.prog [("moiety/act.kinds", Go.Proofs.YtajghnodbhcnoaaDoor.Rows.laid_moiety_act_kinds)] w) ∧ sizedMet enc Tryd.prog Tryd.f8 (OpenSpec.ofChange Go.Proofs.YtajghnodbhcnoaaDoor.Rows.ruleKeepsSpec) false w args) (Go.Proofs.YtajghnodbhcnoaaDoor.Rows.ruleKeepsSpec.post enc Tryd.prog Tryd.f8 false true false false) := by
  refine returnsInHanded_of_change_and (C := Tryd.checked) (X := fun w _ => laidMetH Tryd.prog [("moiety/act.kinds", Go.Proofs.YtajghnodbhcnoaaDoor.Rows.laid_moiety_act_kinds)] w) (fun _ _ _ hh h => h.of_heap hh) Tryd_own started (by kernel_rfl) Tryd.func8
    (ChangeSpec.witness_shaped (enc := enc) (C := Tryd.checked) (os := os) (X := fun w _ => laidMetH Tryd.prog [("moiety/act.kinds", Go.Proofs.YtajghnodbhcnoaaDoor.Rows.laid_moiety_act_kinds)] w) false (World.doorLaid Tryd.prog 400 os) #[.agg #[.int .i64 0, .int .i64 0, .int .i64 0, .int .i64 0, .float .f64 0, .int .i64 0, .string ByteArray.empty, .slice none 0 0], .bool false, .slice none 0 0] 8 rfl (World.shaped_of_RefB (by kernel_rfl) (by kernel_rfl)) (by kernel_rfl) (by kernel_rfl) (by kernel_rfl) (RuleKeeps_met os _)) ?_
  intro W base args ds gs before hval0 hW hcnd _ hL _
  have hval : ∀ (j : Nat) t v, Tryd.f8.params[j]? = some t → args[j]? = some v → Value.okWide Tryd.prog W .any base t v := hval0
  have hW' := hW
  obtain ⟨p, q, hA0, hV, rfl, hfz, hnd⟩ := hW
  have hA : DataW.TrodAll enc Tryd.prog W 0 (fun _ => true) true Tryd.f8.params.toList args.toList ds p := hA0
  rw [Tryd.params8] at hA hval
  obtain ⟨v0, v1, v2, d0, d1, d2, p0, p1, p2, rfl, rfl, rfl, h0, h1, h2⟩ := trodAll_three hA
  obtain ⟨rfl, rfl⟩ := trodVars_none hV
  simp only [List.append_nil] at hW'
  have hg : GLok W (fun b _ => b < W.heap.size) := (RuleKeeps_gl hL)
  have hk0 := h0
  obtain ⟨a0, q0, w0⟩ := arg_of op_25 hg h0 (hval 0 25 v0 rfl rfl)
  have hk1 := h1
  obtain ⟨a1, q1, w1⟩ := arg_of op_4 hg h1 (hval 1 4 v1 rfl rfl)
  have hk2 := h2
  obtain ⟨a2, q2, w2⟩ := arg_of op_38 hg h2 (hval 2 38 v2 rfl rfl)
  refine (moietylaw05_RuleKeeps_ok a0 a1 a2 (RuleKeeps_true a0 a1 a2 w0 w1 w2) (GW W hg) [v0, v1, v2] (argsOk_cons q0 (argsOk_cons q1 (argsOk_cons q2 argsOk_nil)))).mono fun e W' ⟨g', v, he, hw, hs, hq⟩ => ?_
  subst he; subst hw
  rw [pBool_iff.1 hq]
  have hbel := below_of hs
  have hlt : ∀ x ∈ (p0 ++ p1 ++ p2), x.block < W.heap.size := fun x hx => by simpa using hW'.lt x hx
  exact ⟨_, rfl, post_of_below (pv := []) hW' hbel (trodAll_mk1 (shut_bool Tryd.underlying4 true)) (trodAll_mk3 (Below.trod Tryd_laid (by kernel_rfl) (of_decide_eq_true (by kernel_rfl)) hk0 hbel (fun x hx => hlt x (by simp [hx]))) (Below.trod Tryd_laid (by kernel_rfl) (of_decide_eq_true (by kernel_rfl)) hk1 hbel (fun x hx => hlt x (by simp [hx]))) (Below.trod Tryd_laid (by kernel_rfl) (of_decide_eq_true (by kernel_rfl)) hk2 hbel (fun x hx => hlt x (by simp [hx])))) rfl⟩
theorem RuleKeeps_holds : Go.Proofs.YtajghnodbhcnoaaDoor.Rows.RuleKeepsSaid :=
  OpenClaim.holds_of_wide 8 Tryd.f8 rfl rfl rfl rfl rfl rfl rfl ⟨rfl, rfl, rfl, rfl, rfl⟩ rfl rfl rfl rfl rfl (by kernel_rfl) Tryd.func8 (by kernel_rfl)
    (of_decide_eq_true (by kernel_rfl)) (by unfold Func.isWrapper; first | (rw [if_pos (by decide +kernel)]; kernel_rfl) | (rw [if_neg (by decide +kernel)]; exact ⟨rfl, rfl⟩))
    (fun os started H enc _ => RuleKeeps_ret os started H enc)
theorem RuleKeeps_card : Go.Proofs.YtajghnodbhcnoaaDoor.Rows.RuleKeepsCardSaid :=
  Claim7.holds_tied_plain_at .later [] [.data] true (true, "d53d6a7d9198ad883dc428b1854140353358626e00ef43ddb68ca71f2a693fba") false
    RuleKeeps_holds (fun _ h => by cases h) (by kernel_rfl) (fun _ h => by cases h) Go.Proofs.YtajghnodbhcnoaaDoor.ruleKeeps_row_tie rfl ⟨rfl, rfl⟩ (by kernel_rfl) rfl
    (fun f fn hf hfn => by
      obtain rfl : f = 8 := Option.some.inj ((show Tryd.prog.funcNamed "moiety/moietylaw05.RuleKeeps" = some 8 by kernel_rfl).symm.trans hf) |>.symm
      obtain rfl : fn = Tryd.f8 := (Option.some.inj (Tryd.func8.symm.trans hfn)).symm
      exact ⟨by kernel_rfl, fun j t ht => by
        rw [Tryd.params8] at ht
        have hm : t ∈ [25, 4, 38] := by simpa using Array.mem_of_getElem? ht
        have hall : (([25, 4, 38] : List TypeId).all fun u => !Tryd.prog.wantsStandIn u) = true := by kernel_rfl
        exact (show Tryd.prog.wantsStandIn t = false by simpa using List.all_eq_true.1 hall t hm)⟩)
    (by kernel_rfl)
end Go.CL
