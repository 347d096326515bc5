/- A part of the proof of RuleRows. -/
import Derived.Test.YtajghnodbhcnoaaDoorRuleRowsC4
set_option linter.unusedVariables false
set_option linter.unusedSimpArgs false
set_option maxRecDepth 100000
namespace Go.CL
open Go Go.RowKit Go.Proofs
theorem moietyref01_none_ok (a0 : Nat) {r : Bool} (h : moietyref01_none a0 = some r) : FnOk Tryd.prog 78 [(pFlt a0)] (pBool r) := by
  have H0 := h
  unfold moietyref01_none at H0
  clear h
  refine fn_ok (N := 6) Tryd.func78 rfl rfl (Nat.le_of_ble_eq_true rfl) rfl rfl (fun a g0 hst hb => ?_)
  refine r_s (L := [(0, _)]) (T := [⟨[], _, [], [], [2]⟩]) (F := [.old 0]) hst hb follows
    (o_p rfl (ob_assign rfl rfl c_b) <|
     o_n) (by kernel_rfl) (fun a g hst hb => ?_)
  refine r_s (L := [(0, _)]) (T := [⟨[.old 0], _, [], [], [3]⟩, ⟨[.old 0], _, [], [], [4]⟩, ⟨[.op 0 0, .op 1 0], _, [], [0, 1], [5]⟩, ⟨[.op 2 0], _, [], [0, 1, 2], [2]⟩]) (F := [.op 3 0]) hst hb follows
    (o_p rfl (ob_move rfl rfl u_0) <|
     o_p rfl (ob_move rfl rfl u_0) <|
     o_p rfl (ob_fneq rfl rfl u_0 u_1) <|
     o_p rfl (ob_assign rfl rfl u_0) <|
     o_n) (by kernel_rfl) (fun a g hst hb => ?_)
  refine wp_ret ?_
  obtain rfl := Option.some.inj H0
  exact endR1 rfl hst hb (res_tmp (s := 2)) (hst.at 0 rfl)
end Go.CL

set_option linter.unusedVariables false
set_option linter.unusedSimpArgs false
set_option maxRecDepth 100000
namespace Go.CL
open Go Go.RowKit Go.Proofs
theorem moietyref01_below_ok (a0 : Nat) {r : Bool} (h : moietyref01_below a0 = some r) : FnOk Tryd.prog 91 [(pFlt a0)] (pBool r) := by
  have H0 := h
  unfold moietyref01_below at H0
  clear h
  refine fn_ok (N := 10) Tryd.func91 rfl rfl (Nat.le_of_ble_eq_true rfl) rfl rfl (fun a g0 hst hb => ?_)
  refine r_s (L := [(0, _)]) (T := [⟨[], _, [], [], [2]⟩]) (F := [.old 0]) hst hb follows
    (o_p rfl (ob_assign rfl rfl c_b) <|
     o_n) (by kernel_rfl) (fun a g hst hb => ?_)
  refine wp_seq ?_
  refine r_s (L := [(0, _)]) (T := [⟨[.old 0], _, [], [], [3]⟩, ⟨[.op 0 0], _, [], [0], [4]⟩]) (F := [.old 0, .op 1 0]) hst hb follows
    (o_p rfl (ob_move rfl rfl u_0) <|
     o_p rfl (ob_feql rfl rfl u_0 c_f) <|
     o_n) (by kernel_rfl) (fun a g hst hb => ?_)
  refine wp_cond_split (hst.bool 1 rfl) (fun hc1 => ?_) (fun hc1 => ?_)
  · replace H0 := ite_t hc1 H0
    obtain ⟨f2, h3, H0⟩ := of_bind H0
    refine r_s (L := [(0, _)]) (T := [⟨[.old 0], _, [], [], [5]⟩, ⟨[.op 0 0], _, [], [0], [6]⟩, ⟨[.op 1 0], _, [], [0, 1], [7]⟩, ⟨[.op 2 0], _, [], [0, 1, 2], [2]⟩]) (F := [.op 3 0]) (hst.pick [0] rfl) hb follows
      (o_p rfl (ob_move rfl rfl u_0) <|
       o_p rfl (ob_fquo rfl rfl c_f u_0 h3) <|
       o_p rfl (ob_flss rfl rfl u_0 c_f) <|
       o_p rfl (ob_assign rfl rfl u_0) <|
       o_n) (by kernel_rfl) (fun a g hst hb => ?_)
    refine wp_ret ?_
    refine then_r ?_
    obtain rfl := Option.some.inj H0
    exact endR1 rfl hst hb (res_tmp (s := 2)) (hst.at 0 rfl)
  · replace H0 := ite_f hc1 H0
    refine wp_skip ?_
    refine then_n ?_
    refine r_s (L := [(0, _)]) (T := [⟨[.old 0], _, [], [], [8]⟩, ⟨[.op 0 0], _, [], [0], [9]⟩, ⟨[.op 1 0], _, [], [0, 1], [2]⟩]) (F := [.op 2 0]) (hst.pick [0] rfl) hb follows
      (o_p rfl (ob_move rfl rfl u_0) <|
       o_p rfl (ob_flss rfl rfl u_0 c_f) <|
       o_p rfl (ob_assign rfl rfl u_0) <|
       o_n) (by kernel_rfl) (fun a g hst hb => ?_)
    refine wp_ret ?_
    obtain rfl := Option.some.inj H0
    exact endR1 rfl hst hb (res_tmp (s := 2)) (hst.at 0 rfl)
end Go.CL

set_option linter.unusedVariables false
set_option linter.unusedSimpArgs false
set_option maxRecDepth 100000
namespace Go.CL
open Go Go.RowKit Go.Proofs
theorem moietyref01_Less_ok (a0 : Nat) (a1 : Nat) {r : Bool} (h : moietyref01_Less a0 a1 = some r) : FnOk Tryd.prog 75 [(pFlt a0), (pFlt a1)] (pBool r) := by
  have H0 := h
  unfold moietyref01_Less at H0
  clear h
  refine fn_ok (N := 25) Tryd.func75 rfl rfl (Nat.le_of_ble_eq_true rfl) rfl rfl (fun a g0 hst hb => ?_)
  refine r_s (L := [(0, _), (1, _)]) (T := [⟨[], _, [], [], [4]⟩]) (F := [.old 0, .old 1]) hst hb follows
    (o_p rfl (ob_assign rfl rfl c_b) <|
     o_n) (by kernel_rfl) (fun a g hst hb => ?_)
  refine wp_seq ?_
  obtain ⟨r1, h2, H0⟩ := of_bind H0
  refine r_s (L := [(0, _), (1, _)]) (T := [⟨[.old 0], _, [], [], [5]⟩, ⟨[.op 0 0], _, [], [0], [6]⟩]) (F := [.old 0, .old 1, .op 1 0]) hst hb follows
    (o_p rfl (ob_move rfl rfl u_0) <|
     o_p rfl (ob_call en_78 (moietyref01_none_ok _ h2) rfl rfl (.cons u_0 .nil)) <|
     o_n) (by kernel_rfl) (fun a g hst hb => ?_)
  refine wp_cond_split (hst.bool 2 rfl) (fun hc3 => ?_) (fun hc3 => ?_)
  · replace H0 := ite_t hc3 H0
    refine r_s (L := []) (T := [⟨[], _, [], [], [4]⟩]) (F := [.op 0 0]) (hst.pick [] rfl) hb follows
      (o_p rfl (ob_assign rfl rfl c_b) <|
       o_n) (by kernel_rfl) (fun a g hst hb => ?_)
    refine wp_ret ?_
    refine then_r ?_
    obtain rfl := Option.some.inj H0
    exact endR1 rfl hst hb (res_tmp (s := 4)) (hst.at 0 rfl)
  · replace H0 := ite_f hc3 H0
    refine wp_skip ?_
    refine then_n ?_
    refine wp_seq ?_
    obtain ⟨r4, h5, H0⟩ := of_bind H0
    refine r_s (L := [(0, _), (1, _)]) (T := [⟨[.old 1], _, [], [], [7]⟩, ⟨[.op 0 0], _, [], [0], [8]⟩]) (F := [.old 0, .old 1, .op 1 0]) (hst.pick [0, 1] rfl) hb follows
      (o_p rfl (ob_move rfl rfl u_0) <|
       o_p rfl (ob_call en_78 (moietyref01_none_ok _ h5) rfl rfl (.cons u_0 .nil)) <|
       o_n) (by kernel_rfl) (fun a g hst hb => ?_)
    refine wp_cond_split (hst.bool 2 rfl) (fun hc6 => ?_) (fun hc6 => ?_)
    · replace H0 := ite_t hc6 H0
      refine r_s (L := []) (T := [⟨[], _, [], [], [4]⟩]) (F := [.op 0 0]) (hst.pick [] rfl) hb follows
        (o_p rfl (ob_assign rfl rfl c_b) <|
         o_n) (by kernel_rfl) (fun a g hst hb => ?_)
      refine wp_ret ?_
      refine then_r ?_
      obtain rfl := Option.some.inj H0
      exact endR1 rfl hst hb (res_tmp (s := 4)) (hst.at 0 rfl)
    · replace H0 := ite_f hc6 H0
      refine wp_skip ?_
      refine then_n ?_
      refine wp_seq ?_
      refine r_s (L := [(0, _), (1, _)]) (T := [⟨[.old 0], _, [], [], [9]⟩, ⟨[.op 0 0], _, [], [0], [10]⟩, ⟨[.op 1 0], _, [], [0, 1], [11]⟩, ⟨[.op 2 0, .old 1], _, [], [0, 1, 2], [12]⟩, ⟨[.op 2 0, .op 3 0], _, [], List.range 4, [13]⟩, ⟨[.op 2 0, .op 4 0], _, [], List.range 5, [14]⟩]) (F := [.old 0, .old 1, .op 5 0]) (hst.pick [0, 1] rfl) hb follows
        (o_p rfl (ob_move rfl rfl u_0) <|
         o_p rfl (ob_feql rfl rfl u_0 c_f) <|
         o_p rfl (ob_move rfl rfl u_0) <|
         o_g (g_t rfl rfl rfl (fun hG => ob_move rfl rfl u_0)) <|
         o_g (g_t rfl rfl rfl (fun hG => ob_feql rfl rfl (Opd.gd hG u_0) c_f)) <|
         o_p rfl (ob_pand rfl rfl u_0 (fun hz => (Opd.gd hz u_1))) <|
         o_n) (by kernel_rfl) (fun a g hst hb => ?_)
      refine wp_cond_split (hst.bool 2 rfl) (fun hc7 => ?_) (fun hc7 => ?_)
      · replace H0 := ite_t hc7 H0
        obtain ⟨r8, h9, H0⟩ := of_bind H0; obtain ⟨r10, h11, H0⟩ := of_bind H0
        refine r_s (L := [(0, _), (1, _)]) (T := [⟨[.old 0], _, [], [], [15]⟩, ⟨[.op 0 0], _, [], [0], [16]⟩, ⟨[.op 1 0], _, [], [0, 1], [17]⟩, ⟨[.op 2 0, .old 1], _, [], [0, 1, 2], [18]⟩, ⟨[.op 2 0, .op 3 0], _, [], List.range 4, [19]⟩, ⟨[.op 2 0, .op 4 0], _, [], List.range 5, [20]⟩, ⟨[.op 2 0, .op 5 0], _, [], List.range 6, [21]⟩, ⟨[.op 6 0], _, [], List.range 7, [4]⟩]) (F := [.op 7 0]) (hst.pick [0, 1] rfl) hb follows
          (o_p rfl (ob_move rfl rfl u_0) <|
           o_p rfl (ob_call en_91 (moietyref01_below_ok _ h9) rfl rfl (.cons u_0 .nil)) <|
           o_p rfl (ob_move rfl rfl u_0) <|
           o_g (g_t rfl rfl rfl (fun hG => ob_move rfl rfl u_0)) <|
           o_g (g_t rfl rfl rfl (fun hG => ob_call en_91 (moietyref01_below_ok _ (gd_true h11 hG)) rfl rfl (.cons (Opd.gd hG u_0) .nil))) <|
           o_g (g_t rfl rfl rfl (fun hG => ob_not rfl rfl (Opd.gd hG u_0))) <|
           o_p rfl (ob_pand rfl rfl u_0 (fun hz => (Opd.gd hz u_1))) <|
           o_p rfl (ob_assign rfl rfl u_0) <|
           o_n) (by kernel_rfl) (fun a g hst hb => ?_)
        refine wp_ret ?_
        refine then_r ?_
        obtain rfl := Option.some.inj H0
        exact endR1 rfl hst hb (res_tmp (s := 4)) (hst.at 0 rfl)
      · replace H0 := ite_f hc7 H0
        refine wp_skip ?_
        refine then_n ?_
        refine r_s (L := [(0, _), (1, _)]) (T := [⟨[.old 0], _, [], [], [22]⟩, ⟨[.old 1], _, [], [], [23]⟩, ⟨[.op 0 0, .op 1 0], _, [], [0, 1], [24]⟩, ⟨[.op 2 0], _, [], [0, 1, 2], [4]⟩]) (F := [.op 3 0]) (hst.pick [0, 1] rfl) hb follows
          (o_p rfl (ob_move rfl rfl u_0) <|
           o_p rfl (ob_move rfl rfl u_0) <|
           o_p rfl (ob_flss rfl rfl u_0 u_1) <|
           o_p rfl (ob_assign rfl rfl u_0) <|
           o_n) (by kernel_rfl) (fun a g hst hb => ?_)
        refine wp_ret ?_
        obtain rfl := Option.some.inj H0
        exact endR1 rfl hst hb (res_tmp (s := 4)) (hst.at 0 rfl)
end Go.CL

set_option linter.unusedVariables false
set_option linter.unusedSimpArgs false
set_option maxRecDepth 100000
namespace Go.CL
open Go Go.RowKit Go.Proofs
theorem moietyref01_Same_ok (a0 : Nat) (a1 : Nat) {r : Bool} (h : moietyref01_Same a0 a1 = some r) : FnOk Tryd.prog 32 [(pFlt a0), (pFlt a1)] (pBool r) := by
  have H0 := h
  unfold moietyref01_Same at H0
  clear h
  refine fn_ok (N := 15) Tryd.func32 rfl rfl (Nat.le_of_ble_eq_true rfl) rfl rfl (fun a g0 hst hb => ?_)
  refine r_s (L := [(0, _), (1, _)]) (T := [⟨[], _, [], [], [4]⟩]) (F := [.old 0, .old 1]) hst hb follows
    (o_p rfl (ob_assign rfl rfl c_b) <|
     o_n) (by kernel_rfl) (fun a g hst hb => ?_)
  obtain ⟨r1, h2, H0⟩ := of_bind H0; obtain ⟨r3, h4, H0⟩ := of_bind H0
  refine r_s (L := [(0, _), (1, _)]) (T := [⟨[.old 0], _, [], [], [5]⟩, ⟨[.old 1], _, [], [], [6]⟩, ⟨[.op 0 0, .op 1 0], _, [], [0, 1], [7]⟩, ⟨[.op 2 0], _, [], [0, 1, 2], [8]⟩, ⟨[.op 3 0], _, [], List.range 4, [9]⟩, ⟨[.op 4 0, .old 1], _, [], List.range 5, [10]⟩, ⟨[.op 4 0, .old 0], _, [], List.range 5, [11]⟩, ⟨[.op 4 0, .op 5 0, .op 6 0], _, [], List.range 7, [12]⟩, ⟨[.op 4 0, .op 7 0], _, [], List.range 8, [13]⟩, ⟨[.op 4 0, .op 8 0], _, [], List.range 9, [14]⟩, ⟨[.op 9 0], _, [], List.range 10, [4]⟩]) (F := [.op 10 0]) hst hb follows
    (o_p rfl (ob_move rfl rfl u_0) <|
     o_p rfl (ob_move rfl rfl u_0) <|
     o_p rfl (ob_call en_75 (moietyref01_Less_ok _ _ h2) rfl rfl (.cons u_0 (.cons u_1 .nil))) <|
     o_p rfl (ob_not rfl rfl u_0) <|
     o_p rfl (ob_move rfl rfl u_0) <|
     o_g (g_t rfl rfl rfl (fun hG => ob_move rfl rfl u_0)) <|
     o_g (g_t rfl rfl rfl (fun hG => ob_move rfl rfl u_0)) <|
     o_g (g_t rfl rfl rfl (fun hG => ob_call en_75 (moietyref01_Less_ok _ _ (gd_true h4 hG)) rfl rfl (.cons (Opd.gd hG u_0) (.cons (Opd.gd hG u_1) .nil)))) <|
     o_g (g_t rfl rfl rfl (fun hG => ob_not rfl rfl (Opd.gd hG u_0))) <|
     o_p rfl (ob_pand rfl rfl u_0 (fun hz => (Opd.gd hz u_1))) <|
     o_p rfl (ob_assign rfl rfl u_0) <|
     o_n) (by kernel_rfl) (fun a g hst hb => ?_)
  refine wp_ret ?_
  obtain rfl := Option.some.inj H0
  exact endR1 rfl hst hb (res_tmp (s := 4)) (hst.at 0 rfl)
end Go.CL

set_option linter.unusedVariables false
set_option linter.unusedSimpArgs false
set_option maxRecDepth 100000
namespace Go.CL
open Go Go.RowKit Go.Proofs
theorem moietyref03_zero_ok (a0 : Nat) {r : Bool} (h : moietyref03_zero a0 = some r) : FnOk Tryd.prog 77 [(pFlt a0)] (pBool r) := by
  have H0 := h
  unfold moietyref03_zero at H0
  clear h
  refine fn_ok (N := 5) Tryd.func77 rfl rfl (Nat.le_of_ble_eq_true rfl) rfl rfl (fun a g0 hst hb => ?_)
  refine r_s (L := [(0, _)]) (T := [⟨[], _, [], [], [2]⟩]) (F := [.old 0]) hst hb follows
    (o_p rfl (ob_assign rfl rfl c_b) <|
     o_n) (by kernel_rfl) (fun a g hst hb => ?_)
  obtain ⟨r1, h2, H0⟩ := of_bind H0
  refine r_s (L := [(0, _)]) (T := [⟨[.old 0], _, [], [], [3]⟩, ⟨[.op 0 0], _, [], [0], [4]⟩, ⟨[.op 1 0], _, [], [0, 1], [2]⟩]) (F := [.op 2 0]) hst hb follows
    (o_p rfl (ob_move rfl rfl u_0) <|
     o_p rfl (ob_call en_32 (moietyref01_Same_ok _ _ h2) rfl rfl (.cons u_0 (.cons c_f .nil))) <|
     o_p rfl (ob_assign rfl rfl u_0) <|
     o_n) (by kernel_rfl) (fun a g hst hb => ?_)
  refine wp_ret ?_
  obtain rfl := Option.some.inj H0
  exact endR1 rfl hst hb (res_tmp (s := 2)) (hst.at 0 rfl)
end Go.CL

set_option linter.unusedVariables false
set_option linter.unusedSimpArgs false
set_option maxRecDepth 100000
namespace Go.CL
open Go Go.RowKit Go.Proofs
theorem moietyref03_only_ok (a0 : api_Record) (a1 : ByteArray) {r : Bool} (h : moietyref03_only a0 a1 = some r) : FnOk Tryd.prog 36 [(k_api_Record.pd a0), (pStr a1)] (pBool r) := by
  have H0 := h
  unfold moietyref03_only at H0
  clear h
  refine fn_ok (N := 106) Tryd.func36 rfl rfl (Nat.le_of_ble_eq_true rfl) rfl rfl (fun a g0 hst hb => ?_)
  refine r_s (L := [(0, _), (1, _)]) (T := [⟨[.old 0], _, [], [], [2]⟩, ⟨[], _, [], [], [4]⟩]) (F := [.old 1, .op 0 0]) hst hb follows
    (o_p rfl (ob_box1 rfl rfl u_0) <|
     o_p rfl (ob_assign rfl rfl c_b) <|
     o_n) (by kernel_rfl) (fun a g hst hb => ?_)
  refine r_s (L := [(1, _), (2, _)]) (T := [⟨[], _, [], [], [5]⟩, ⟨[], _, [], [0], [6]⟩, ⟨[], _, [], [0, 1], [7]⟩, ⟨[], _, [], [0, 1, 2], [8]⟩, ⟨[], _, [], List.range 4, [9]⟩]) (F := [.old 0, .old 1, .op 0 0, .op 1 0, .op 2 0, .op 3 0, .op 4 0]) hst hb follows
    (o_p rfl (ob_assign rfl rfl c_b) <|
     o_p rfl (ob_assign rfl rfl c_b) <|
     o_p rfl (ob_assign rfl rfl c_b) <|
     o_p rfl (ob_assign rfl rfl c_b) <|
     o_p rfl (ob_assign rfl rfl c_b) <|
     o_n) (by kernel_rfl) (fun a g hst hb => ?_)
  refine wp_seq ?_
  refine r_s (L := [(1, _), (2, _), (5, _), (6, _), (7, _), (8, _), (9, _)]) (T := [⟨[], _, [], [], [10]⟩]) (F := [.old 0, .old 1, .old 2, .old 3, .old 4, .old 5, .old 6, .op 0 0]) hst hb follows
    (o_p rfl (ob_assign rfl rfl c_i) <|
     o_n) (by kernel_rfl) (fun a g hst hb => ?_)
  obtain ⟨z23, hz1, H0⟩ := of_bind H0
  refine wp_cut (fun a w => ∃ (y18 : Bool) (y19 : Bool) (y20 : Bool) (y21 : Bool) (y22 : Bool) (g : G), w = g.w ∧ St 106 [(2, (k_api_Record.ptr a0)), (5, (pBool y18)), (6, (pBool y19)), (7, (pBool y20)), (8, (pBool y21)), (9, (pBool y22))] a g ∧ Base g0 g ∧ (y18, y19, y20, y21, y22) = z23) ?_ ?_
  · rintro a w ⟨y18, y19, y20, y21, y22, g, rfl, hst, hb, rfl⟩
    refine then_n ?_
    refine wp_seq ?_
    refine r_s (L := [(2, _), (5, _), (6, _), (7, _), (8, _), (9, _)]) (T := ⟨[.old 1], _, [], [], [52]⟩ :: ⟨[.op 0 0], _, [], [0], [53]⟩ :: ⟨[.op 1 0], _, [], [0, 1], [54]⟩ :: ⟨[.op 2 0, .old 0], _, [], [0, 1, 2], [55]⟩ :: ⟨[.op 2 0, .op 3 0], _, [], List.range 4, [56]⟩ :: ⟨[.op 2 0, .op 4 0], _, [], List.range 5, [57]⟩ :: ⟨[.op 2 0, .op 5 0], _, [], List.range 6, [58]⟩ :: ⟨[.op 6 0], _, [], List.range 7, [59]⟩ :: ⟨[.op 7 0, .old 2], _, [], List.range 8, [60]⟩ :: ⟨[.op 7 0, .op 8 0], _, [], List.range 9, [61]⟩ :: ⟨[.op 7 0, .op 9 0], _, [], List.range 10, [62]⟩ :: ⟨[.op 10 0, .old 0], _, [], List.range 11, [63]⟩ :: ⟨[.op 10 0, .op 11 0], _, [], List.range 12, [64]⟩ :: ⟨[.op 10 0, .op 12 0], _, [], List.range 13, [65]⟩ :: ⟨[.op 7 0, .op 10 0, .op 13 0], _, [], List.range 14, [66]⟩ :: ⟨[.op 7 0, .op 14 0], _, [], List.range 15, [67]⟩ :: ⟨[.op 15 0], _, [], List.range 16, [68]⟩ :: ⟨[.op 16 0, .old 3], _, [], List.range 17, [69]⟩ :: ⟨[.op 16 0, .op 17 0], _, [], List.range 18, [70]⟩ :: ⟨[.op 16 0, .op 18 0], _, [], List.range 19, [71]⟩ :: ⟨[.op 19 0, .old 0], _, [], List.range 20, [72]⟩ :: ⟨[.op 19 0, .op 20 0], _, [], List.range 21, [73]⟩ :: ⟨[.op 19 0, .op 21 0], _, [], List.range 22, [74]⟩ :: ⟨[.op 16 0, .op 19 0, .op 22 0], _, [], List.range 23, [75]⟩ :: ⟨[.op 16 0, .op 23 0], _, [], List.range 24, [76]⟩ :: ⟨[.op 24 0], _, [], List.range 25, [77]⟩ :: ⟨[.op 25 0, .old 3], _, [], List.range 26, [78]⟩ :: ⟨[.op 25 0, .op 26 0], _, [], List.range 27, [79]⟩ :: ⟨[.op 25 0, .op 27 0], _, [], List.range 28, [80]⟩ :: ⟨[.op 28 0, .old 0], _, [], List.range 29, [81]⟩ :: ⟨[.op 28 0, .op 29 0], _, [], List.range 30, [82]⟩ :: ⟨[.op 28 0, .op 30 0], _, [], List.range 31, [83]⟩ :: ⟨[.op 25 0, .op 28 0, .op 31 0], _, [], List.range 32, [84]⟩ :: ⟨[.op 25 0, .op 32 0], _, [], List.range 33, [85]⟩ :: []) (F := [.old 0, .old 4, .old 5, .op 33 0]) hst hb follows
      (o_p rfl (ob_move rfl rfl u_0) <|
       o_p rfl (ob_not rfl rfl u_0) <|
       o_p rfl (ob_move rfl rfl u_0) <|
       o_g (g_t rfl rfl rfl (fun hG => ob_fieldAddr fl_25_6 rfl rfl u_0)) <|
       o_g (g_t rfl rfl rfl (fun hG => ob_load ty_9 rfl rfl (Opd.gd hG u_0))) <|
       o_g (g_t rfl rfl rfl (fun hG => ob_sne rfl rfl (Opd.gd hG u_0) c_s)) <|
       o_p rfl (ob_pand rfl rfl u_0 (fun hz => (Opd.gd hz u_1))) <|
       o_p rfl (ob_move rfl rfl u_0) <|
       o_g (g_f rfl rfl rfl (fun hG => ob_move rfl rfl u_0)) <|
       o_g (g_f rfl rfl rfl (fun hG => ob_not rfl rfl (Opd.gd hG u_0))) <|
       o_g (g_f rfl rfl rfl (fun hG => ob_move rfl rfl (Opd.gd hG u_0))) <|
       o_g (g_ti rfl rfl rfl (fun hG => ob_fieldAddr fl_25_1 rfl rfl u_0)) <|
       o_g (g_ti rfl rfl rfl (fun hG => ob_load ty_2 rfl rfl (Opd.gd hG u_0))) <|
       o_g (g_ti rfl rfl rfl (fun hG => ob_ne rfl rfl (Opd.gd hG u_0) c_i)) <|
       o_g (g_f rfl rfl rfl (fun hG => ob_pand rfl rfl (Opd.gd hG u_0) (fun hz => (Opd.gd (bA hG hz) u_1)))) <|
       o_p rfl (ob_por rfl rfl u_0 (fun hz => (Opd.gd (bNF hz) u_1))) <|
       o_p rfl (ob_move rfl rfl u_0) <|
       o_g (g_f rfl rfl rfl (fun hG => ob_move rfl rfl u_0)) <|
       o_g (g_f rfl rfl rfl (fun hG => ob_not rfl rfl (Opd.gd hG u_0))) <|
       o_g (g_f rfl rfl rfl (fun hG => ob_move rfl rfl (Opd.gd hG u_0))) <|
       o_g (g_ti rfl rfl rfl (fun hG => ob_fieldAddr fl_25_2 rfl rfl u_0)) <|
       o_g (g_ti rfl rfl rfl (fun hG => ob_load ty_2 rfl rfl (Opd.gd hG u_0))) <|
       o_g (g_ti rfl rfl rfl (fun hG => ob_ne rfl rfl (Opd.gd hG u_0) c_i)) <|
       o_g (g_f rfl rfl rfl (fun hG => ob_pand rfl rfl (Opd.gd hG u_0) (fun hz => (Opd.gd (bA hG hz) u_1)))) <|
       o_p rfl (ob_por rfl rfl u_0 (fun hz => (Opd.gd (bNF hz) u_1))) <|
       o_p rfl (ob_move rfl rfl u_0) <|
       o_g (g_f rfl rfl rfl (fun hG => ob_move rfl rfl u_0)) <|
       o_g (g_f rfl rfl rfl (fun hG => ob_not rfl rfl (Opd.gd hG u_0))) <|
       o_g (g_f rfl rfl rfl (fun hG => ob_move rfl rfl (Opd.gd hG u_0))) <|
       o_g (g_ti rfl rfl rfl (fun hG => ob_fieldAddr fl_25_3 rfl rfl u_0)) <|
       o_g (g_ti rfl rfl rfl (fun hG => ob_load ty_2 rfl rfl (Opd.gd hG u_0))) <|
       o_g (g_ti rfl rfl rfl (fun hG => ob_ne rfl rfl (Opd.gd hG u_0) c_i)) <|
       o_g (g_f rfl rfl rfl (fun hG => ob_pand rfl rfl (Opd.gd hG u_0) (fun hz => (Opd.gd (bA hG hz) u_1)))) <|
       o_p rfl (ob_por rfl rfl u_0 (fun hz => (Opd.gd (bNF hz) u_1))) <|
       o_n) (by kernel_rfl) (fun a g hst hb => ?_)
    refine wp_cond_split (hst.bool 3 rfl) (fun hc24 => ?_) (fun hc24 => ?_)
    · replace H0 := ite_t hc24 H0
      refine r_s (L := []) (T := [⟨[], _, [], [], [4]⟩]) (F := [.op 0 0]) (hst.pick [] rfl) hb follows
        (o_p rfl (ob_assign rfl rfl c_b) <|
         o_n) (by kernel_rfl) (fun a g hst hb => ?_)
      refine wp_ret ?_
      refine then_r ?_
      obtain rfl := Option.some.inj H0
      exact endR1 rfl hst hb (res_tmp (s := 4)) (hst.at 0 rfl)
    · replace H0 := ite_f hc24 H0
      refine wp_skip ?_
      refine then_n ?_
      obtain ⟨r25, h26, H0⟩ := of_bind H0
      refine r_s (L := [(2, _), (8, _), (9, _)]) (T := ⟨[.old 1], _, [], [], [86]⟩ :: ⟨[.op 0 0], _, [], [0], [87]⟩ :: ⟨[.op 1 0, .old 0], _, [], [0, 1], [88]⟩ :: ⟨[.op 1 0, .op 2 0], _, [], [0, 1, 2], [89]⟩ :: ⟨[.op 1 0, .op 3 0], _, [], List.range 4, [90]⟩ :: ⟨[.op 1 0, .op 4 0], _, [], List.range 5, [91]⟩ :: ⟨[.op 5 0], _, [], List.range 6, [92]⟩ :: ⟨[.op 6 0, .old 2], _, [], List.range 7, [93]⟩ :: ⟨[.op 6 0, .op 7 0], _, [], List.range 8, [94]⟩ :: ⟨[.op 8 0, .old 0], _, [], List.range 9, [95]⟩ :: ⟨[.op 8 0, .op 9 0], _, [], List.range 10, [96]⟩ :: ⟨[.op 8 0, .op 10 0], _, [], List.range 11, [97]⟩ :: ⟨[.op 8 0, .op 11 0], _, [], List.range 12, [98]⟩ :: ⟨[.op 12 0, .old 0], _, [], List.range 13, [99]⟩ :: ⟨[.op 12 0, .op 13 0], _, [], List.range 14, [100]⟩ :: ⟨[.op 12 0, .op 14 0], _, [], List.range 15, [101]⟩ :: ⟨[.op 12 0, .op 15 0], _, [], List.range 16, [102]⟩ :: ⟨[.op 8 0, .op 12 0, .op 16 0], _, [], List.range 17, [103]⟩ :: ⟨[.op 6 0, .op 8 0, .op 17 0], _, [], List.range 18, [104]⟩ :: ⟨[.op 6 0, .op 18 0], _, [], List.range 19, [105]⟩ :: ⟨[.op 19 0], _, [], List.range 20, [4]⟩ :: []) (F := [.op 20 0]) (hst.pick [0, 1, 2] rfl) hb follows
        (o_p rfl (ob_move rfl rfl u_0) <|
         o_p rfl (ob_move rfl rfl u_0) <|
         o_g (g_f rfl rfl rfl (fun hG => ob_fieldAddr fl_25_4 rfl rfl u_0)) <|
         o_g (g_f rfl rfl rfl (fun hG => ob_load ty_22 rfl rfl (Opd.gd hG u_0))) <|
         o_g (g_f rfl rfl rfl (fun hG => ob_call en_77 (moietyref03_zero_ok _ (gd_true h26 hG)) rfl rfl (.cons (Opd.gd hG u_0) .nil))) <|
         o_p rfl (ob_por rfl rfl u_0 (fun hz => (Opd.gd (bNF hz) u_1))) <|
         o_p rfl (ob_move rfl rfl u_0) <|
         o_g (g_t rfl rfl rfl (fun hG => ob_move rfl rfl u_0)) <|
         o_g (g_t rfl rfl rfl (fun hG => ob_move rfl rfl (Opd.gd hG u_0))) <|
         o_g (g_fi rfl rfl rfl (fun hG => ob_fieldAddr fl_25_5 rfl rfl u_0)) <|
         o_g (g_fi rfl rfl rfl (fun hG => ob_load ty_3 rfl rfl (Opd.gd hG u_0))) <|
         o_g (g_fi rfl rfl rfl (fun hG => ob_eq rfl rfl (Opd.gd hG u_0) c_i)) <|
         o_g (g_fi rfl rfl rfl (fun hG => ob_move rfl rfl (Opd.gd hG u_0))) <|
         o_g (g_ti rfl rfl rfl (fun hG => ob_fieldAddr fl_25_7 rfl rfl u_0)) <|
         o_g (g_ti rfl rfl rfl (fun hG => ob_load ty_23 rfl rfl (Opd.gd hG u_0))) <|
         o_g (g_ti rfl rfl rfl (fun hG => ob_lenL Tryd.underlying23 rfl rfl (Opd.gd hG u_0))) <|
         o_g (g_ti rfl rfl rfl (fun hG => ob_eq rfl rfl (Opd.gd hG u_0) c_i)) <|
         o_g (g_fi rfl rfl rfl (fun hG => ob_pand rfl rfl (Opd.gd hG u_0) (fun hz => (Opd.gd (bA hG hz) u_1)))) <|
         o_g (g_t rfl rfl rfl (fun hG => ob_por rfl rfl (Opd.gd hG u_0) (fun hz => (Opd.gd (bA hG (bNF hz)) u_1)))) <|
         o_p rfl (ob_pand rfl rfl u_0 (fun hz => (Opd.gd hz u_1))) <|
         o_p rfl (ob_assign rfl rfl u_0) <|
         o_n) (by kernel_rfl) (fun a g hst hb => ?_)
      refine wp_ret ?_
      obtain rfl := Option.some.inj H0
      exact endR1 rfl hst hb (res_tmp (s := 4)) (hst.at 0 rfl)
  · refine wp_block ?_
    refine wp_loop_ghost (fun n a w => ∃ (x1 : Bool) (x2 : Bool) (x3 : Bool) (x4 : Bool) (x5 : Bool) (x6 : Int) (g : G), w = g.w ∧ St 106 [(1, (pStr a1)), (2, (k_api_Record.ptr a0)), (5, (pBool x1)), (6, (pBool x2)), (7, (pBool x3)), (8, (pBool x4)), (9, (pBool x5)), (10, (pInt .i64 x6))] a g ∧ Base g0 g ∧ moietyref03_only_l1 a1 n x1 x2 x3 x4 x5 x6 = some z23) (Int.toNat ((a1.size : Int) - (0 : Int)) + 1) ⟨false, false, false, false, false, (0 : Int), g, rfl, (hst.pick [0, 1, 2, 3, 4, 5, 6, 7] rfl), hb, hz1⟩ (fun n a w hI => ?_)
    obtain ⟨x1, x2, x3, x4, x5, x6, g, rfl, hst, hb, H1⟩ := hI
    cases n with
    | zero => exact absurd H1 (by simp [moietyref03_only_l1])
    | succ n =>
      rw [moietyref03_only_l1] at H1
      refine wp_seq ?_
      refine r_s (L := [(1, _), (2, _), (5, _), (6, _), (7, _), (8, _), (9, _), (10, _)]) (T := [⟨[.old 7], _, [], [], [11]⟩, ⟨[.old 0], _, [], [], [12]⟩, ⟨[.op 1 0], _, [], [1], [13]⟩, ⟨[.op 0 0, .op 2 0], _, [], [0, 1, 2], [14]⟩]) (F := [.old 0, .old 1, .old 2, .old 3, .old 4, .old 5, .old 6, .old 7, .op 3 0]) hst hb follows
        (o_p rfl (ob_move rfl rfl u_0) <|
         o_p rfl (ob_move rfl rfl u_0) <|
         o_p rfl (ob_lenS Tryd.underlying9 rfl rfl u_0) <|
         o_p rfl (ob_lt rfl rfl u_0 u_1) <|
         o_n) (by kernel_rfl) (fun a g hst hb => ?_)
      refine wp_cond_split (hst.bool 8 rfl) (fun hc7 => ?_) (fun hc7 => ?_)
      · replace H1 := ite_t hc7 H1
        refine wp_skip ?_
        refine then_n ?_
        refine wp_seq ?_
        refine wp_block ?_
        obtain ⟨b8, h9, H1⟩ := of_bind H1
        refine r_s (L := [(1, _), (2, _), (5, _), (6, _), (7, _), (8, _), (9, _), (10, _)]) (T := [⟨[.old 2], _, [], [], [17]⟩, ⟨[.op 0 0], _, [], [0], [18]⟩, ⟨[.op 1 0, .old 0], _, [], [0, 1], [19]⟩, ⟨[.op 1 0, .old 7], _, [], [0, 1], [20]⟩, ⟨[.op 1 0, .op 2 0, .op 3 0], _, [], List.range 4, [21]⟩, ⟨[.op 1 0, .op 4 0], _, [], List.range 5, [22]⟩, ⟨[.op 1 0, .op 5 0], _, [], List.range 6, [23]⟩, ⟨[.op 6 0], _, [], List.range 7, [5]⟩]) (F := [.old 0, .old 1, .op 7 0, .old 3, .old 4, .old 5, .old 6, .old 7]) (hst.pick [0, 1, 2, 3, 4, 5, 6, 7] rfl) hb follows
          (o_p rfl (ob_move rfl rfl u_0) <|
           o_p rfl (ob_move rfl rfl u_0) <|
           o_g (g_f rfl rfl rfl (fun hG => ob_move rfl rfl u_0)) <|
           o_g (g_f rfl rfl rfl (fun hG => ob_move rfl rfl u_0)) <|
           o_g (g_f rfl rfl rfl (fun hG => ob_sidx Tryd.underlying9 rfl rfl (Opd.gd hG u_0) (Opd.gd hG u_1) (gd_true h9 hG))) <|
           o_g (g_f rfl rfl rfl (fun hG => ob_eq rfl rfl (Opd.gd hG u_0) c_i)) <|
           o_p rfl (ob_por rfl rfl u_0 (fun hz => (Opd.gd (bNF hz) u_1))) <|
           o_p rfl (ob_assign rfl rfl u_0) <|
           o_n) (by kernel_rfl) (fun a g hst hb => ?_)
        obtain ⟨b10, h11, H1⟩ := of_bind H1
        refine r_s (L := [(1, _), (2, _), (5, _), (6, _), (7, _), (8, _), (9, _), (10, _)]) (T := [⟨[.old 3], _, [], [], [24]⟩, ⟨[.op 0 0], _, [], [0], [25]⟩, ⟨[.op 1 0, .old 0], _, [], [0, 1], [26]⟩, ⟨[.op 1 0, .old 7], _, [], [0, 1], [27]⟩, ⟨[.op 1 0, .op 2 0, .op 3 0], _, [], List.range 4, [28]⟩, ⟨[.op 1 0, .op 4 0], _, [], List.range 5, [29]⟩, ⟨[.op 1 0, .op 5 0], _, [], List.range 6, [30]⟩, ⟨[.op 6 0], _, [], List.range 7, [6]⟩]) (F := [.old 0, .old 1, .old 2, .op 7 0, .old 4, .old 5, .old 6, .old 7]) hst hb follows
          (o_p rfl (ob_move rfl rfl u_0) <|
           o_p rfl (ob_move rfl rfl u_0) <|
           o_g (g_f rfl rfl rfl (fun hG => ob_move rfl rfl u_0)) <|
           o_g (g_f rfl rfl rfl (fun hG => ob_move rfl rfl u_0)) <|
           o_g (g_f rfl rfl rfl (fun hG => ob_sidx Tryd.underlying9 rfl rfl (Opd.gd hG u_0) (Opd.gd hG u_1) (gd_true h11 hG))) <|
           o_g (g_f rfl rfl rfl (fun hG => ob_eq rfl rfl (Opd.gd hG u_0) c_i)) <|
           o_p rfl (ob_por rfl rfl u_0 (fun hz => (Opd.gd (bNF hz) u_1))) <|
           o_p rfl (ob_assign rfl rfl u_0) <|
           o_n) (by kernel_rfl) (fun a g hst hb => ?_)
        obtain ⟨b12, h13, H1⟩ := of_bind H1
        refine r_s (L := [(1, _), (2, _), (5, _), (6, _), (7, _), (8, _), (9, _), (10, _)]) (T := [⟨[.old 4], _, [], [], [31]⟩, ⟨[.op 0 0], _, [], [0], [32]⟩, ⟨[.op 1 0, .old 0], _, [], [0, 1], [33]⟩, ⟨[.op 1 0, .old 7], _, [], [0, 1], [34]⟩, ⟨[.op 1 0, .op 2 0, .op 3 0], _, [], List.range 4, [35]⟩, ⟨[.op 1 0, .op 4 0], _, [], List.range 5, [36]⟩, ⟨[.op 1 0, .op 5 0], _, [], List.range 6, [37]⟩, ⟨[.op 6 0], _, [], List.range 7, [7]⟩]) (F := [.old 0, .old 1, .old 2, .old 3, .op 7 0, .old 5, .old 6, .old 7]) hst hb follows
          (o_p rfl (ob_move rfl rfl u_0) <|
           o_p rfl (ob_move rfl rfl u_0) <|
           o_g (g_f rfl rfl rfl (fun hG => ob_move rfl rfl u_0)) <|
           o_g (g_f rfl rfl rfl (fun hG => ob_move rfl rfl u_0)) <|
           o_g (g_f rfl rfl rfl (fun hG => ob_sidx Tryd.underlying9 rfl rfl (Opd.gd hG u_0) (Opd.gd hG u_1) (gd_true h13 hG))) <|
           o_g (g_f rfl rfl rfl (fun hG => ob_eq rfl rfl (Opd.gd hG u_0) c_i)) <|
           o_p rfl (ob_por rfl rfl u_0 (fun hz => (Opd.gd (bNF hz) u_1))) <|
           o_p rfl (ob_assign rfl rfl u_0) <|
           o_n) (by kernel_rfl) (fun a g hst hb => ?_)
        obtain ⟨b14, h15, H1⟩ := of_bind H1
        refine r_s (L := [(1, _), (2, _), (5, _), (6, _), (7, _), (8, _), (9, _), (10, _)]) (T := [⟨[.old 5], _, [], [], [38]⟩, ⟨[.op 0 0], _, [], [0], [39]⟩, ⟨[.op 1 0, .old 0], _, [], [0, 1], [40]⟩, ⟨[.op 1 0, .old 7], _, [], [0, 1], [41]⟩, ⟨[.op 1 0, .op 2 0, .op 3 0], _, [], List.range 4, [42]⟩, ⟨[.op 1 0, .op 4 0], _, [], List.range 5, [43]⟩, ⟨[.op 1 0, .op 5 0], _, [], List.range 6, [44]⟩, ⟨[.op 6 0], _, [], List.range 7, [8]⟩]) (F := [.old 0, .old 1, .old 2, .old 3, .old 4, .op 7 0, .old 6, .old 7]) hst hb follows
          (o_p rfl (ob_move rfl rfl u_0) <|
           o_p rfl (ob_move rfl rfl u_0) <|
           o_g (g_f rfl rfl rfl (fun hG => ob_move rfl rfl u_0)) <|
           o_g (g_f rfl rfl rfl (fun hG => ob_move rfl rfl u_0)) <|
           o_g (g_f rfl rfl rfl (fun hG => ob_sidx Tryd.underlying9 rfl rfl (Opd.gd hG u_0) (Opd.gd hG u_1) (gd_true h15 hG))) <|
           o_g (g_f rfl rfl rfl (fun hG => ob_eq rfl rfl (Opd.gd hG u_0) c_i)) <|
           o_p rfl (ob_por rfl rfl u_0 (fun hz => (Opd.gd (bNF hz) u_1))) <|
           o_p rfl (ob_assign rfl rfl u_0) <|
           o_n) (by kernel_rfl) (fun a g hst hb => ?_)
        obtain ⟨b16, h17, H1⟩ := of_bind H1
        refine r_g (L := [(1, _), (2, _), (5, _), (6, _), (7, _), (8, _), (9, _), (10, _)]) (T := [⟨[.old 6], _, [], [], [45]⟩, ⟨[.op 0 0], _, [], [0], [46]⟩, ⟨[.op 1 0, .old 0], _, [], [0, 1], [47]⟩, ⟨[.op 1 0, .old 7], _, [], [0, 1], [48]⟩, ⟨[.op 1 0, .op 2 0, .op 3 0], _, [], List.range 4, [49]⟩, ⟨[.op 1 0, .op 4 0], _, [], List.range 5, [50]⟩, ⟨[.op 1 0, .op 5 0], _, [], List.range 6, [51]⟩, ⟨[.op 6 0], _, [], List.range 7, [9]⟩]) (F := [.old 0, .old 1, .old 2, .old 3, .old 4, .old 5, .op 7 0, .old 7]) hst hb follows
          (o_p rfl (ob_move rfl rfl u_0) <|
           o_p rfl (ob_move rfl rfl u_0) <|
           o_g (g_f rfl rfl rfl (fun hG => ob_move rfl rfl u_0)) <|
           o_g (g_f rfl rfl rfl (fun hG => ob_move rfl rfl u_0)) <|
           o_g (g_f rfl rfl rfl (fun hG => ob_sidx Tryd.underlying9 rfl rfl (Opd.gd hG u_0) (Opd.gd hG u_1) (gd_true h17 hG))) <|
           o_g (g_f rfl rfl rfl (fun hG => ob_eq rfl rfl (Opd.gd hG u_0) c_i)) <|
           o_p rfl (ob_por rfl rfl u_0 (fun hz => (Opd.gd (bNF hz) u_1))) <|
           o_p rfl (ob_assign rfl rfl u_0) <|
           o_n) (by kernel_rfl) (fun a g hst hb => ?_)
        refine inBlock_n ?_
        refine then_n ?_
        refine r_g (L := [(1, _), (2, _), (5, _), (6, _), (7, _), (8, _), (9, _), (10, _)]) (T := [⟨[.old 7], _, [], [], [15]⟩, ⟨[.op 0 0], _, [], [0], [16]⟩, ⟨[.op 1 0], _, [], [0, 1], [10]⟩]) (F := [.old 0, .old 1, .old 2, .old 3, .old 4, .old 5, .old 6, .op 2 0]) hst hb follows
          (o_p rfl (ob_move rfl rfl u_0) <|
           o_p rfl (ob_add rfl rfl u_0 c_i rfl) <|
           o_p rfl (ob_assign rfl rfl u_0) <|
           o_n) (by kernel_rfl) (fun a g hst hb => ?_)
        exact ⟨n, Nat.lt_succ_self _, (x1 || (b8 == (116 : Int))), (x2 || (b10 == (110 : Int))), (x3 || (b12 == (98 : Int))), (x4 || (b14 == (114 : Int))), (x5 || (b16 == (108 : Int))), (IntKind.i64.wrap (x6 + (1 : Int))), g, rfl, (hst.pick [0, 1, 2, 3, 4, 5, 6, 7] rfl), hb, H1⟩
      · replace H1 := ite_f hc7 H1
        refine wp_exit ?_
        refine then_e ?_
        refine then_e ?_
        refine inBlock_e ?_
        exact ⟨x1, x2, x3, x4, x5, g, rfl, (hst.pick [1, 2, 3, 4, 5, 6] rfl), hb, Option.some.inj H1⟩
end Go.CL

set_option linter.unusedVariables false
set_option linter.unusedSimpArgs false
set_option maxRecDepth 100000
namespace Go.CL
open Go Go.RowKit Go.Proofs
theorem moietyref03_Fields_ok (a0 : Int) {r : ByteArray} (h : moietyref03_Fields a0 = some r) : FnOk Tryd.prog 37 [(pInt .i64 a0)] (pStr r) := by
  have H0 := h
  unfold moietyref03_Fields at H0
  clear h
  refine fn_ok (N := 15) Tryd.func37 rfl rfl (Nat.le_of_ble_eq_true rfl) rfl rfl (fun a g0 hst hb => ?_)
  refine r_s (L := [(0, _)]) (T := [⟨[], _, [], [], [2]⟩]) (F := [.old 0]) hst hb follows
    (o_p rfl (ob_assign rfl rfl c_s) <|
     o_n) (by kernel_rfl) (fun a g hst hb => ?_)
  refine r_s (L := [(0, _)]) (T := [⟨[], _, [], [], [4]⟩, ⟨[.op 0 0], _, [], [0], [3]⟩]) (F := [.old 0, .op 1 0]) hst hb follows
    (o_p rfl (ob_lit te_93 (xs := [.const (.string ⟨#[]⟩), .const (.string ⟨#[116]⟩), .const (.string ⟨#[110]⟩), .const (.string ⟨#[110]⟩), .const (.string ⟨#[110, 98]⟩), .const (.string ⟨#[114]⟩), .const (.string ⟨#[114]⟩), .const (.string ⟨#[114]⟩), .const (.string ⟨#[108]⟩), .const (.string ⟨#[108]⟩)]) (.cons c_s (.cons c_s (.cons c_s (.cons c_s (.cons c_s (.cons c_s (.cons c_s (.cons c_s (.cons c_s (.cons c_s .nil)))))))))) (by decide) rfl rfl) <|
     o_p rfl (ob_assign rfl rfl u_0) <|
     o_n) (by kernel_rfl) (fun a g hst hb => ?_)
  refine wp_seq ?_
  refine r_s (L := [(0, _), (3, _)]) (T := [⟨[.old 0], _, [], [], [5]⟩, ⟨[.op 0 0], _, [], [0], [6]⟩, ⟨[.op 1 0], _, [], [0, 1], [7]⟩, ⟨[.op 2 0, .old 0], _, [], [0, 1, 2], [8]⟩, ⟨[.op 2 0, .op 3 0], _, [], List.range 4, [9]⟩, ⟨[.op 2 0, .op 4 0], _, [], List.range 5, [10]⟩]) (F := [.old 0, .old 1, .op 5 0]) hst hb follows
    (o_p rfl (ob_move rfl rfl u_0) <|
     o_p rfl (ob_lt rfl rfl u_0 c_i) <|
     o_p rfl (ob_move rfl rfl u_0) <|
     o_g (g_f rfl rfl rfl (fun hG => ob_move rfl rfl u_0)) <|
     o_g (g_f rfl rfl rfl (fun hG => ob_gt rfl rfl (Opd.gd hG u_0) c_i)) <|
     o_p rfl (ob_por rfl rfl u_0 (fun hz => (Opd.gd (bNF hz) u_1))) <|
     o_n) (by kernel_rfl) (fun a g hst hb => ?_)
  refine wp_cond_split (hst.bool 2 rfl) (fun hc1 => ?_) (fun hc1 => ?_)
  · replace H0 := ite_t hc1 H0
    refine r_s (L := []) (T := [⟨[], _, [], [], [2]⟩]) (F := [.op 0 0]) (hst.pick [] rfl) hb follows
      (o_p rfl (ob_assign rfl rfl c_s) <|
       o_n) (by kernel_rfl) (fun a g hst hb => ?_)
    refine wp_ret ?_
    refine then_r ?_
    obtain rfl := Option.some.inj H0
    exact endR1 rfl hst hb (res_tmp (s := 2)) (hst.at 0 rfl)
  · replace H0 := ite_f hc1 H0
    refine wp_skip ?_
    refine then_n ?_
    obtain ⟨e2, h3, H0⟩ := of_bind H0
    refine r_s (L := [(0, _), (3, _)]) (T := [⟨[.old 1], _, [], [], [11]⟩, ⟨[.old 0], _, [], [], [12]⟩, ⟨[.op 0 0, .op 1 0], _, [], [0, 1], [13]⟩, ⟨[.op 2 0], _, [], [0, 1, 2], [14]⟩, ⟨[.op 3 0], _, [], List.range 4, [2]⟩]) (F := [.op 4 0]) (hst.pick [0, 1] rfl) hb follows
      (o_p rfl (ob_move rfl rfl u_0) <|
       o_p rfl (ob_move rfl rfl u_0) <|
       o_p rfl (ob_indexAddr Tryd.underlying93 sz_9 rfl rfl u_0 u_1 h3) <|
       o_p rfl (ob_load ty_9 rfl rfl u_0) <|
       o_p rfl (ob_assign rfl rfl u_0) <|
       o_n) (by kernel_rfl) (fun a g hst hb => ?_)
    refine wp_ret ?_
    obtain rfl := Option.some.inj H0
    exact endR1 rfl hst hb (res_tmp (s := 2)) (hst.at 0 rfl)
end Go.CL

set_option linter.unusedVariables false
set_option linter.unusedSimpArgs false
set_option maxRecDepth 100000
namespace Go.CL
open Go Go.RowKit Go.Proofs
theorem moietyref01_Proper_ok (a0 : Nat) {r : Bool} (h : moietyref01_Proper a0 = some r) : FnOk Tryd.prog 38 [(pFlt a0)] (pBool r) := by
  have H0 := h
  unfold moietyref01_Proper at H0
  clear h
  refine fn_ok (N := 11) Tryd.func38 rfl rfl (Nat.le_of_ble_eq_true rfl) rfl rfl (fun a g0 hst hb => ?_)
  refine r_s (L := [(0, _)]) (T := [⟨[], _, [], [], [2]⟩]) (F := [.old 0]) hst hb follows
    (o_p rfl (ob_assign rfl rfl c_b) <|
     o_n) (by kernel_rfl) (fun a g hst hb => ?_)
  obtain ⟨r1, h2, H0⟩ := of_bind H0
  refine r_s (L := [(0, _)]) (T := [⟨[.old 0], _, [], [], [3]⟩, ⟨[.op 0 0], _, [], [0], [4]⟩, ⟨[.op 1 0], _, [], [0, 1], [5]⟩, ⟨[.op 2 0], _, [], [0, 1, 2], [6]⟩, ⟨[.op 3 0, .old 0], _, [], List.range 4, [7]⟩, ⟨[.op 3 0, .op 4 0], _, [], List.range 5, [8]⟩, ⟨[.op 3 0, .op 5 0], _, [], List.range 6, [9]⟩, ⟨[.op 3 0, .op 6 0], _, [], List.range 7, [10]⟩, ⟨[.op 7 0], _, [], List.range 8, [2]⟩]) (F := [.op 8 0]) hst hb follows
    (o_p rfl (ob_move rfl rfl u_0) <|
     o_p rfl (ob_call en_78 (moietyref01_none_ok _ h2) rfl rfl (.cons u_0 .nil)) <|
     o_p rfl (ob_not rfl rfl u_0) <|
     o_p rfl (ob_move rfl rfl u_0) <|
     o_g (g_f rfl rfl rfl (fun hG => ob_move rfl rfl u_0)) <|
     o_g (g_f rfl rfl rfl (fun hG => ob_bits ex_79 rfl rfl (Opd.gd hG u_0))) <|
     o_g (g_f rfl rfl rfl (fun hG => ob_eq rfl rfl (Opd.gd hG u_0) c_i)) <|
     o_p rfl (ob_por rfl rfl u_0 (fun hz => (Opd.gd (bNF hz) u_1))) <|
     o_p rfl (ob_assign rfl rfl u_0) <|
     o_n) (by kernel_rfl) (fun a g hst hb => ?_)
  refine wp_ret ?_
  obtain rfl := Option.some.inj H0
  exact endR1 rfl hst hb (res_tmp (s := 2)) (hst.at 0 rfl)
end Go.CL

set_option linter.unusedVariables false
set_option linter.unusedSimpArgs false
set_option maxRecDepth 100000
namespace Go.CL
open Go Go.RowKit Go.Proofs
theorem moietyref03_Ahead_ok (a0 : api_Item) (a1 : api_Item) {r : Bool} (h : moietyref03_Ahead a0 a1 = some r) : FnOk Tryd.prog 80 [(k_api_Item.pd a0), (k_api_Item.pd a1)] (pBool r) := by
  have H0 := h
  unfold moietyref03_Ahead at H0
  clear h
  refine fn_ok (N := 22) Tryd.func80 rfl rfl (Nat.le_of_ble_eq_true rfl) rfl rfl (fun a g0 hst hb => ?_)
  refine r_s (L := [(0, _), (1, _)]) (T := [⟨[.old 0], _, [], [], [2]⟩, ⟨[.old 1], _, [], [], [3]⟩, ⟨[], _, [], [], [4]⟩]) (F := [.op 0 0, .op 1 0]) hst hb follows
    (o_p rfl (ob_box1 rfl rfl u_0) <|
     o_p rfl (ob_box1 rfl rfl u_0) <|
     o_p rfl (ob_assign rfl rfl c_b) <|
     o_n) (by kernel_rfl) (fun a g hst hb => ?_)
  refine wp_seq ?_
  obtain ⟨r1, h2, H0⟩ := of_bind H0
  refine r_s (L := [(2, _), (3, _)]) (T := [⟨[.old 1], _, [], [], [5]⟩, ⟨[.op 0 0], _, [], [0], [6]⟩, ⟨[.old 0], _, [], [], [7]⟩, ⟨[.op 2 0], _, [], [2], [8]⟩, ⟨[.op 1 0, .op 3 0], _, [], List.range 4, [9]⟩]) (F := [.old 0, .old 1, .op 4 0]) hst hb follows
    (o_p rfl (ob_fieldAddr fl_48_0 rfl rfl u_0) <|
     o_p rfl (ob_load ty_22 rfl rfl u_0) <|
     o_p rfl (ob_fieldAddr fl_48_0 rfl rfl u_0) <|
     o_p rfl (ob_load ty_22 rfl rfl u_0) <|
     o_p rfl (ob_call en_75 (moietyref01_Less_ok _ _ h2) rfl rfl (.cons u_0 (.cons u_1 .nil))) <|
     o_n) (by kernel_rfl) (fun a g hst hb => ?_)
  refine wp_cond_split (hst.bool 2 rfl) (fun hc3 => ?_) (fun hc3 => ?_)
  · replace H0 := ite_t hc3 H0
    refine r_s (L := []) (T := [⟨[], _, [], [], [4]⟩]) (F := [.op 0 0]) (hst.pick [] rfl) hb follows
      (o_p rfl (ob_assign rfl rfl c_b) <|
       o_n) (by kernel_rfl) (fun a g hst hb => ?_)
    refine wp_ret ?_
    refine then_r ?_
    obtain rfl := Option.some.inj H0
    exact endR1 rfl hst hb (res_tmp (s := 4)) (hst.at 0 rfl)
  · replace H0 := ite_f hc3 H0
    refine wp_skip ?_
    refine then_n ?_
    obtain ⟨r4, h5, H0⟩ := of_bind H0
    refine r_s (L := [(2, _), (3, _)]) (T := ⟨[.old 0], _, [], [], [10]⟩ :: ⟨[.op 0 0], _, [], [0], [11]⟩ :: ⟨[.old 1], _, [], [], [12]⟩ :: ⟨[.op 2 0], _, [], [2], [13]⟩ :: ⟨[.op 1 0, .op 3 0], _, [], List.range 4, [14]⟩ :: ⟨[.op 4 0], _, [], List.range 5, [15]⟩ :: ⟨[.op 5 0, .old 0], _, [], List.range 6, [16]⟩ :: ⟨[.op 5 0, .op 6 0], _, [], List.range 7, [17]⟩ :: ⟨[.op 5 0, .old 1], _, [], List.range 6, [18]⟩ :: ⟨[.op 5 0, .op 8 0], _, [], [0, 1, 2, 3, 4, 5, 8], [19]⟩ :: ⟨[.op 5 0, .op 7 0, .op 9 0], _, [], List.range 10, [20]⟩ :: ⟨[.op 5 0, .op 10 0], _, [], List.range 11, [21]⟩ :: ⟨[.op 11 0], _, [], List.range 12, [4]⟩ :: []) (F := [.op 12 0]) (hst.pick [0, 1] rfl) hb follows
      (o_p rfl (ob_fieldAddr fl_48_0 rfl rfl u_0) <|
       o_p rfl (ob_load ty_22 rfl rfl u_0) <|
       o_p rfl (ob_fieldAddr fl_48_0 rfl rfl u_0) <|
       o_p rfl (ob_load ty_22 rfl rfl u_0) <|
       o_p rfl (ob_call en_32 (moietyref01_Same_ok _ _ h5) rfl rfl (.cons u_0 (.cons u_1 .nil))) <|
       o_p rfl (ob_move rfl rfl u_0) <|
       o_g (g_t rfl rfl rfl (fun hG => ob_fieldAddr fl_48_1 rfl rfl u_0)) <|
       o_g (g_t rfl rfl rfl (fun hG => ob_load ty_9 rfl rfl (Opd.gd hG u_0))) <|
       o_g (g_t rfl rfl rfl (fun hG => ob_fieldAddr fl_48_1 rfl rfl u_0)) <|
       o_g (g_t rfl rfl rfl (fun hG => ob_load ty_9 rfl rfl (Opd.gd hG u_0))) <|
       o_g (g_t rfl rfl rfl (fun hG => ob_slt rfl rfl (Opd.gd hG u_0) (Opd.gd hG u_1))) <|
       o_p rfl (ob_pand rfl rfl u_0 (fun hz => (Opd.gd hz u_1))) <|
       o_p rfl (ob_assign rfl rfl u_0) <|
       o_n) (by kernel_rfl) (fun a g hst hb => ?_)
    refine wp_ret ?_
    obtain rfl := Option.some.inj H0
    exact endR1 rfl hst hb (res_tmp (s := 4)) (hst.at 0 rfl)
end Go.CL

set_option linter.unusedVariables false
set_option linter.unusedSimpArgs false
set_option maxRecDepth 100000
namespace Go.CL
open Go Go.RowKit Go.Proofs
theorem moietyref03_item_ok (a0 : Int) (a1 : List api_Item) (a2 : Int) {r : Int} (h : moietyref03_item a0 a1 a2 = some r) : FnOk Tryd.prog 39 [(pInt .i64 a0), (k_api_Item.sl.pd a1), (pInt .i64 a2)] (pInt .i64 r) := by
  have H0 := h
  unfold moietyref03_item at H0
  clear h
  refine fn_ok (N := 64) Tryd.func39 rfl rfl (Nat.le_of_ble_eq_true rfl) rfl rfl (fun a g0 hst hb => ?_)
  refine r_s (L := [(0, _), (1, _), (2, _)]) (T := [⟨[], _, [], [], [6]⟩]) (F := [.old 0, .old 1, .old 2]) hst hb follows
    (o_p rfl (ob_assign rfl rfl c_i) <|
     o_n) (by kernel_rfl) (fun a g hst hb => ?_)
  obtain ⟨e1, h2, H0⟩ := of_bind H0
  refine r_s (L := [(0, _), (1, _), (2, _)]) (T := [⟨[.old 1], _, [], [], [8]⟩, ⟨[.old 2], _, [], [], [9]⟩, ⟨[.op 0 0, .op 1 0], _, [], [0, 1], [10]⟩, ⟨[.op 2 0], _, [], [0, 1, 2], [11]⟩, ⟨[], [(7, (pBox k_api_Item 7 (default : api_Item)))], [8], [], [7]⟩, ⟨[.op 3 0, .op 4 0], _, [8], List.range 5, [7]⟩]) (F := [.old 0, .old 1, .old 2, .op 5 0]) hst hb follows
    (o_p rfl (ob_move rfl rfl u_0) <|
     o_p rfl (ob_move rfl rfl u_0) <|
     o_p rfl (ob_indexAddr Tryd.underlying23 sz_48 rfl rfl u_0 u_1 h2) <|
     o_p rfl (ob_load ty_48 rfl rfl u_0) <|
     o_p rfl (ob_alloc (zs := [.float .f64 0, .string ByteArray.empty]) (by kernel_rfl) (fun g => zk_api_Item g) rfl rfl) <|
     o_p rfl (ob_storeF ty_48 rfl rfl u_1 u_0) <|
     o_n) (by kernel_rfl) (fun a g hst hb => ?_)
  refine wp_seq ?_
  refine r_s (L := [(0, _), (1, _), (2, _), (7, _)]) (T := [⟨[.old 3], _, [], [], [12]⟩, ⟨[.op 0 0], _, [], [0], [13]⟩, ⟨[.op 1 0], _, [], [0, 1], [14]⟩, ⟨[.op 2 0], _, [], [0, 1, 2], [15]⟩]) (F := [.old 0, .old 1, .old 2, .old 3, .op 3 0]) hst hb follows
    (o_p rfl (ob_fieldAddr fl_48_1 rfl rfl u_0) <|
     o_p rfl (ob_load ty_9 rfl rfl u_0) <|
     o_p rfl (ob_lenS Tryd.underlying9 rfl rfl u_0) <|
     o_p rfl (ob_gt rfl rfl u_0 c_i) <|
     o_n) (by kernel_rfl) (fun a g hst hb => ?_)
  refine wp_cond_split (hst.bool 4 rfl) (fun hc3 => ?_) (fun hc3 => ?_)
  · replace H0 := ite_t hc3 H0
    refine r_s (L := []) (T := [⟨[], _, [], [], [6]⟩]) (F := [.op 0 0]) (hst.pick [] rfl) hb follows
      (o_p rfl (ob_assign rfl rfl c_i) <|
       o_n) (by kernel_rfl) (fun a g hst hb => ?_)
    refine wp_ret ?_
    refine then_r ?_
    obtain rfl := Option.some.inj H0
    exact endR1 rfl hst hb (res_tmp (s := 6)) (hst.at 0 rfl)
  · replace H0 := ite_f hc3 H0
    refine wp_skip ?_
    refine then_n ?_
    refine wp_seq ?_
    obtain ⟨r4, h5, H0⟩ := of_bind H0; obtain ⟨r6, h7, H0⟩ := of_bind H0
    refine r_s (L := [(0, _), (1, _), (2, _), (7, _)]) (T := ⟨[.old 0], _, [], [], [16]⟩ :: ⟨[.op 0 0], _, [], [0], [17]⟩ :: ⟨[.op 1 0], _, [], [0, 1], [18]⟩ :: ⟨[.op 2 0, .old 3], _, [], [0, 1, 2], [19]⟩ :: ⟨[.op 2 0, .op 3 0], _, [], List.range 4, [20]⟩ :: ⟨[.op 2 0, .op 4 0], _, [], List.range 5, [21]⟩ :: ⟨[.op 2 0, .op 5 0], _, [], List.range 6, [22]⟩ :: ⟨[.op 2 0, .op 6 0], _, [], List.range 7, [23]⟩ :: ⟨[.op 7 0], _, [], List.range 8, [24]⟩ :: ⟨[.op 8 0, .old 3], _, [], List.range 9, [25]⟩ :: ⟨[.op 8 0, .op 9 0], _, [], List.range 10, [26]⟩ :: ⟨[.op 8 0, .op 10 0], _, [], List.range 11, [27]⟩ :: ⟨[.op 8 0, .op 11 0], _, [], List.range 12, [28]⟩ :: ⟨[.op 8 0, .op 12 0], _, [], List.range 13, [29]⟩ :: []) (F := [.old 0, .old 1, .old 2, .old 3, .op 13 0]) (hst.pick [0, 1, 2, 3] rfl) hb follows
      (o_p rfl (ob_move rfl rfl u_0) <|
       o_p rfl (ob_eq rfl rfl u_0 c_i) <|
       o_p rfl (ob_move rfl rfl u_0) <|
       o_g (g_t rfl rfl rfl (fun hG => ob_fieldAddr fl_48_0 rfl rfl u_0)) <|
       o_g (g_t rfl rfl rfl (fun hG => ob_load ty_22 rfl rfl (Opd.gd hG u_0))) <|
       o_g (g_t rfl rfl rfl (fun hG => ob_call en_77 (moietyref03_zero_ok _ (gd_true h5 hG)) rfl rfl (.cons (Opd.gd hG u_0) .nil))) <|
       o_g (g_t rfl rfl rfl (fun hG => ob_not rfl rfl (Opd.gd hG u_0))) <|
       o_p rfl (ob_pand rfl rfl u_0 (fun hz => (Opd.gd hz u_1))) <|
       o_p rfl (ob_move rfl rfl u_0) <|
       o_g (g_f rfl rfl rfl (fun hG => ob_fieldAddr fl_48_0 rfl rfl u_0)) <|
       o_g (g_f rfl rfl rfl (fun hG => ob_load ty_22 rfl rfl (Opd.gd hG u_0))) <|
       o_g (g_f rfl rfl rfl (fun hG => ob_call en_38 (moietyref01_Proper_ok _ (gd_true h7 hG)) rfl rfl (.cons (Opd.gd hG u_0) .nil))) <|
       o_g (g_f rfl rfl rfl (fun hG => ob_not rfl rfl (Opd.gd hG u_0))) <|
       o_p rfl (ob_por rfl rfl u_0 (fun hz => (Opd.gd (bNF hz) u_1))) <|
       o_n) (by kernel_rfl) (fun a g hst hb => ?_)
    refine wp_cond_split (hst.bool 4 rfl) (fun hc8 => ?_) (fun hc8 => ?_)
    · replace H0 := ite_t hc8 H0
      refine r_s (L := []) (T := [⟨[], _, [], [], [6]⟩]) (F := [.op 0 0]) (hst.pick [] rfl) hb follows
        (o_p rfl (ob_assign rfl rfl c_i) <|
         o_n) (by kernel_rfl) (fun a g hst hb => ?_)
      refine wp_ret ?_
      refine then_r ?_
      obtain rfl := Option.some.inj H0
      exact endR1 rfl hst hb (res_tmp (s := 6)) (hst.at 0 rfl)
    · replace H0 := ite_f hc8 H0
      refine wp_skip ?_
      refine then_n ?_
      refine wp_seq ?_
      obtain ⟨e9, h10, H0⟩ := of_bind H0
      refine r_s (L := [(0, _), (1, _), (2, _), (7, _)]) (T := ⟨[.old 2], _, [], [], [30]⟩ :: ⟨[.op 0 0], _, [], [0], [31]⟩ :: ⟨[.op 1 0], _, [], [0, 1], [32]⟩ :: ⟨[.op 2 0, .old 0], _, [], [0, 1, 2], [33]⟩ :: ⟨[.op 2 0, .op 3 0], _, [], List.range 4, [34]⟩ :: ⟨[.op 2 0, .op 4 0], _, [], List.range 5, [35]⟩ :: ⟨[.op 5 0], _, [], List.range 6, [36]⟩ :: ⟨[.op 6 0, .old 1], _, [], List.range 7, [37]⟩ :: ⟨[.op 6 0, .old 2], _, [], List.range 7, [38]⟩ :: ⟨[.op 6 0, .op 8 0], _, [], [0, 1, 2, 3, 4, 5, 6, 8], [39]⟩ :: ⟨[.op 6 0, .op 7 0, .op 9 0], _, [], List.range 10, [40]⟩ :: ⟨[.op 6 0, .op 10 0], _, [], List.range 11, [41]⟩ :: ⟨[.op 6 0, .op 11 0], _, [], List.range 12, [42]⟩ :: ⟨[.op 6 0, .old 3], _, [], List.range 7, [43]⟩ :: ⟨[.op 6 0, .op 13 0], _, [], [0, 1, 2, 3, 4, 5, 6, 13], [44]⟩ :: ⟨[.op 6 0, .op 12 0, .op 14 0], _, [], List.range 15, [45]⟩ :: ⟨[.op 6 0, .op 15 0], _, [], List.range 16, [46]⟩ :: ⟨[.op 6 0, .op 16 0], _, [], List.range 17, [47]⟩ :: []) (F := [.old 0, .old 1, .old 2, .old 3, .op 17 0]) (hst.pick [0, 1, 2, 3] rfl) hb follows
        (o_p rfl (ob_move rfl rfl u_0) <|
         o_p rfl (ob_gt rfl rfl u_0 c_i) <|
         o_p rfl (ob_move rfl rfl u_0) <|
         o_g (g_t rfl rfl rfl (fun hG => ob_move rfl rfl u_0)) <|
         o_g (g_t rfl rfl rfl (fun hG => ob_eq rfl rfl (Opd.gd hG u_0) c_i)) <|
         o_p rfl (ob_pand rfl rfl u_0 (fun hz => (Opd.gd hz u_1))) <|
         o_p rfl (ob_move rfl rfl u_0) <|
         o_g (g_t rfl rfl rfl (fun hG => ob_move rfl rfl u_0)) <|
         o_g (g_t rfl rfl rfl (fun hG => ob_move rfl rfl u_0)) <|
         o_g (g_t rfl rfl rfl (fun hG => ob_sub rfl rfl (Opd.gd hG u_0) c_i rfl)) <|
         o_g (g_t rfl rfl rfl (fun hG => ob_indexAddr Tryd.underlying23 sz_48 rfl rfl (Opd.gd hG u_0) (Opd.gd hG u_1) (gd_true h10 hG))) <|
         o_g (g_t rfl rfl rfl (fun hG => ob_fieldAddr fl_48_1 rfl rfl (Opd.gd hG u_0))) <|
         o_g (g_t rfl rfl rfl (fun hG => ob_load ty_9 rfl rfl (Opd.gd hG u_0))) <|
         o_g (g_t rfl rfl rfl (fun hG => ob_fieldAddr fl_48_1 rfl rfl u_0)) <|
         o_g (g_t rfl rfl rfl (fun hG => ob_load ty_9 rfl rfl (Opd.gd hG u_0))) <|
         o_g (g_t rfl rfl rfl (fun hG => ob_slt rfl rfl (Opd.gd hG u_0) (Opd.gd hG u_1))) <|
         o_g (g_t rfl rfl rfl (fun hG => ob_not rfl rfl (Opd.gd hG u_0))) <|
         o_p rfl (ob_pand rfl rfl u_0 (fun hz => (Opd.gd hz u_1))) <|
         o_n) (by kernel_rfl) (fun a g hst hb => ?_)
      refine wp_cond_split (hst.bool 4 rfl) (fun hc11 => ?_) (fun hc11 => ?_)
      · replace H0 := ite_t hc11 H0
        refine r_s (L := []) (T := [⟨[], _, [], [], [6]⟩]) (F := [.op 0 0]) (hst.pick [] rfl) hb follows
          (o_p rfl (ob_assign rfl rfl c_i) <|
           o_n) (by kernel_rfl) (fun a g hst hb => ?_)
        refine wp_ret ?_
        refine then_r ?_
        obtain rfl := Option.some.inj H0
        exact endR1 rfl hst hb (res_tmp (s := 6)) (hst.at 0 rfl)
      · replace H0 := ite_f hc11 H0
        refine wp_skip ?_
        refine then_n ?_
        refine wp_seq ?_
        obtain ⟨e12, h13, H0⟩ := of_bind H0; obtain ⟨r14, h15, H0⟩ := of_bind H0
        refine r_s (L := [(0, _), (1, _), (2, _), (7, _)]) (T := ⟨[.old 2], _, [], [], [48]⟩ :: ⟨[.op 0 0], _, [], [0], [49]⟩ :: ⟨[.op 1 0], _, [], [0, 1], [50]⟩ :: ⟨[.op 2 0, .old 0], _, [], [0, 1, 2], [51]⟩ :: ⟨[.op 2 0, .op 3 0], _, [], List.range 4, [52]⟩ :: ⟨[.op 2 0, .op 4 0], _, [], List.range 5, [53]⟩ :: ⟨[.op 5 0], _, [], List.range 6, [54]⟩ :: ⟨[.op 6 0, .old 1], _, [], List.range 7, [55]⟩ :: ⟨[.op 6 0, .old 2], _, [], List.range 7, [56]⟩ :: ⟨[.op 6 0, .op 8 0], _, [], [0, 1, 2, 3, 4, 5, 6, 8], [57]⟩ :: ⟨[.op 6 0, .op 7 0, .op 9 0], _, [], List.range 10, [58]⟩ :: ⟨[.op 6 0, .op 10 0], _, [], List.range 11, [59]⟩ :: ⟨[.op 6 0, .old 3], _, [], List.range 7, [60]⟩ :: ⟨[.op 6 0, .op 11 0, .op 12 0], _, [], List.range 13, [61]⟩ :: ⟨[.op 6 0, .op 13 0], _, [], List.range 14, [62]⟩ :: ⟨[.op 6 0, .op 14 0], _, [], List.range 15, [63]⟩ :: []) (F := [.op 15 0]) (hst.pick [0, 1, 2, 3] rfl) hb follows
          (o_p rfl (ob_move rfl rfl u_0) <|
           o_p rfl (ob_gt rfl rfl u_0 c_i) <|
           o_p rfl (ob_move rfl rfl u_0) <|
           o_g (g_t rfl rfl rfl (fun hG => ob_move rfl rfl u_0)) <|
           o_g (g_t rfl rfl rfl (fun hG => ob_eq rfl rfl (Opd.gd hG u_0) c_i)) <|
           o_p rfl (ob_pand rfl rfl u_0 (fun hz => (Opd.gd hz u_1))) <|
           o_p rfl (ob_move rfl rfl u_0) <|
           o_g (g_t rfl rfl rfl (fun hG => ob_move rfl rfl u_0)) <|
           o_g (g_t rfl rfl rfl (fun hG => ob_move rfl rfl u_0)) <|
           o_g (g_t rfl rfl rfl (fun hG => ob_sub rfl rfl (Opd.gd hG u_0) c_i rfl)) <|
           o_g (g_t rfl rfl rfl (fun hG => ob_indexAddr Tryd.underlying23 sz_48 rfl rfl (Opd.gd hG u_0) (Opd.gd hG u_1) (gd_true h13 hG))) <|
           o_g (g_t rfl rfl rfl (fun hG => ob_load ty_48 rfl rfl (Opd.gd hG u_0))) <|
           o_g (g_t rfl rfl rfl (fun hG => ob_load ty_48 rfl rfl u_0)) <|
           o_g (g_t rfl rfl rfl (fun hG => ob_call en_80 (moietyref03_Ahead_ok _ _ (gd_true h15 hG)) rfl rfl (.cons (Opd.gd hG u_0) (.cons (Opd.gd hG u_1) .nil)))) <|
           o_g (g_t rfl rfl rfl (fun hG => ob_not rfl rfl (Opd.gd hG u_0))) <|
           o_p rfl (ob_pand rfl rfl u_0 (fun hz => (Opd.gd hz u_1))) <|
           o_n) (by kernel_rfl) (fun a g hst hb => ?_)
        refine wp_cond_split (hst.bool 0 rfl) (fun hc16 => ?_) (fun hc16 => ?_)
        · replace H0 := ite_t hc16 H0
          refine r_s (L := []) (T := [⟨[], _, [], [], [6]⟩]) (F := [.op 0 0]) (hst.pick [] rfl) hb follows
            (o_p rfl (ob_assign rfl rfl c_i) <|
             o_n) (by kernel_rfl) (fun a g hst hb => ?_)
          refine wp_ret ?_
          refine then_r ?_
          obtain rfl := Option.some.inj H0
          exact endR1 rfl hst hb (res_tmp (s := 6)) (hst.at 0 rfl)
        · replace H0 := ite_f hc16 H0
          refine wp_skip ?_
          refine then_n ?_
          refine r_s (L := []) (T := [⟨[], _, [], [], [6]⟩]) (F := [.op 0 0]) (hst.pick [] rfl) hb follows
            (o_p rfl (ob_assign rfl rfl c_i) <|
             o_n) (by kernel_rfl) (fun a g hst hb => ?_)
          refine wp_ret ?_
          obtain rfl := Option.some.inj H0
          exact endR1 rfl hst hb (res_tmp (s := 6)) (hst.at 0 rfl)
end Go.CL

set_option linter.unusedVariables false
set_option linter.unusedSimpArgs false
set_option maxRecDepth 100000
namespace Go.CL
open Go Go.RowKit Go.Proofs
theorem moietyref03_Check_ok (a0 : api_Record) {r : Int} (h : moietyref03_Check a0 = some r) : FnOk Tryd.prog 18 [(k_api_Record.pd a0)] (pInt .i64 r) := by
  have H0 := h
  unfold moietyref03_Check at H0
  clear h
  refine fn_ok (N := 96) Tryd.func18 rfl rfl (Nat.le_of_ble_eq_true rfl) rfl rfl (fun a g0 hst hb => ?_)
  refine r_s (L := [(0, _)]) (T := [⟨[.old 0], _, [], [], [1]⟩, ⟨[], _, [], [], [2]⟩]) (F := [.op 0 0]) hst hb follows
    (o_p rfl (ob_box1 rfl rfl u_0) <|
     o_p rfl (ob_assign rfl rfl c_i) <|
     o_n) (by kernel_rfl) (fun a g hst hb => ?_)
  refine wp_seq ?_
  refine r_s (L := [(1, _)]) (T := [⟨[.old 0], _, [], [], [6]⟩, ⟨[.op 0 0], _, [], [0], [7]⟩, ⟨[.op 1 0], _, [], [0, 1], [8]⟩, ⟨[.op 2 0], _, [], [0, 1, 2], [9]⟩, ⟨[.op 3 0, .old 0], _, [], List.range 4, [10]⟩, ⟨[.op 3 0, .op 4 0], _, [], List.range 5, [11]⟩, ⟨[.op 3 0, .op 5 0], _, [], List.range 6, [12]⟩, ⟨[.op 3 0, .op 6 0], _, [], List.range 7, [13]⟩]) (F := [.old 0, .op 7 0]) hst hb follows
    (o_p rfl (ob_fieldAddr fl_25_0 rfl rfl u_0) <|
     o_p rfl (ob_load ty_3 rfl rfl u_0) <|
     o_p rfl (ob_lt rfl rfl u_0 c_i) <|
     o_p rfl (ob_move rfl rfl u_0) <|
     o_g (g_f rfl rfl rfl (fun hG => ob_fieldAddr fl_25_0 rfl rfl u_0)) <|
     o_g (g_f rfl rfl rfl (fun hG => ob_load ty_3 rfl rfl (Opd.gd hG u_0))) <|
     o_g (g_f rfl rfl rfl (fun hG => ob_gt rfl rfl (Opd.gd hG u_0) c_i)) <|
     o_p rfl (ob_por rfl rfl u_0 (fun hz => (Opd.gd (bNF hz) u_1))) <|
     o_n) (by kernel_rfl) (fun a g hst hb => ?_)
  refine wp_cond_split (hst.bool 1 rfl) (fun hc1 => ?_) (fun hc1 => ?_)
  · replace H0 := ite_t hc1 H0
    refine r_s (L := []) (T := [⟨[], _, [], [], [2]⟩]) (F := [.op 0 0]) (hst.pick [] rfl) hb follows
      (o_p rfl (ob_assign rfl rfl c_i) <|
       o_n) (by kernel_rfl) (fun a g hst hb => ?_)
    refine wp_ret ?_
    refine then_r ?_
    obtain rfl := Option.some.inj H0
    exact endR1 rfl hst hb (res_tmp (s := 2)) (hst.at 0 rfl)
  · replace H0 := ite_f hc1 H0
    refine wp_skip ?_
    refine then_n ?_
    refine wp_seq ?_
    obtain ⟨r2, h3, H0⟩ := of_bind H0; obtain ⟨r4, h5, H0⟩ := of_bind H0
    refine r_s (L := [(1, _)]) (T := [⟨[.old 0], _, [], [], [14]⟩, ⟨[.old 0], _, [], [], [15]⟩, ⟨[.op 1 0], _, [], [1], [16]⟩, ⟨[.op 2 0], _, [], [1, 2], [17]⟩, ⟨[.op 0 0, .op 3 0], _, [], List.range 4, [18]⟩, ⟨[.op 4 0], _, [], List.range 5, [19]⟩]) (F := [.old 0, .op 5 0]) (hst.pick [0] rfl) hb follows
      (o_p rfl (ob_load ty_25 rfl rfl u_0) <|
       o_p rfl (ob_fieldAddr fl_25_0 rfl rfl u_0) <|
       o_p rfl (ob_load ty_3 rfl rfl u_0) <|
       o_p rfl (ob_call en_37 (moietyref03_Fields_ok _ h3) rfl rfl (.cons u_0 .nil)) <|
       o_p rfl (ob_call en_36 (moietyref03_only_ok _ _ h5) rfl rfl (.cons u_0 (.cons u_1 .nil))) <|
       o_p rfl (ob_not rfl rfl u_0) <|
       o_n) (by kernel_rfl) (fun a g hst hb => ?_)
    refine wp_cond_split (hst.bool 1 rfl) (fun hc6 => ?_) (fun hc6 => ?_)
    · replace H0 := ite_t hc6 H0
      refine r_s (L := []) (T := [⟨[], _, [], [], [2]⟩]) (F := [.op 0 0]) (hst.pick [] rfl) hb follows
        (o_p rfl (ob_assign rfl rfl c_i) <|
         o_n) (by kernel_rfl) (fun a g hst hb => ?_)
      refine wp_ret ?_
      refine then_r ?_
      obtain rfl := Option.some.inj H0
      exact endR1 rfl hst hb (res_tmp (s := 2)) (hst.at 0 rfl)
    · replace H0 := ite_f hc6 H0
      refine wp_skip ?_
      refine then_n ?_
      refine wp_seq ?_
      refine r_s (L := [(1, _)]) (T := [⟨[.old 0], _, [], [], [20]⟩, ⟨[.op 0 0], _, [], [0], [21]⟩, ⟨[.op 1 0], _, [], [0, 1], [22]⟩, ⟨[.op 2 0], _, [], [0, 1, 2], [23]⟩, ⟨[.op 3 0, .old 0], _, [], List.range 4, [24]⟩, ⟨[.op 3 0, .op 4 0], _, [], List.range 5, [25]⟩, ⟨[.op 3 0, .op 5 0], _, [], List.range 6, [26]⟩, ⟨[.op 3 0, .op 6 0], _, [], List.range 7, [27]⟩, ⟨[.op 3 0, .op 7 0], _, [], List.range 8, [28]⟩]) (F := [.old 0, .op 8 0]) (hst.pick [0] rfl) hb follows
        (o_p rfl (ob_fieldAddr fl_25_0 rfl rfl u_0) <|
         o_p rfl (ob_load ty_3 rfl rfl u_0) <|
         o_p rfl (ob_eq rfl rfl u_0 c_i) <|
         o_p rfl (ob_move rfl rfl u_0) <|
         o_g (g_t rfl rfl rfl (fun hG => ob_fieldAddr fl_25_6 rfl rfl u_0)) <|
         o_g (g_t rfl rfl rfl (fun hG => ob_load ty_9 rfl rfl (Opd.gd hG u_0))) <|
         o_g (g_t rfl rfl rfl (fun hG => ob_lenS Tryd.underlying9 rfl rfl (Opd.gd hG u_0))) <|
         o_g (g_t rfl rfl rfl (fun hG => ob_gt rfl rfl (Opd.gd hG u_0) c_i)) <|
         o_p rfl (ob_pand rfl rfl u_0 (fun hz => (Opd.gd hz u_1))) <|
         o_n) (by kernel_rfl) (fun a g hst hb => ?_)
      refine wp_cond_split (hst.bool 1 rfl) (fun hc7 => ?_) (fun hc7 => ?_)
      · replace H0 := ite_t hc7 H0
        refine r_s (L := []) (T := [⟨[], _, [], [], [2]⟩]) (F := [.op 0 0]) (hst.pick [] rfl) hb follows
          (o_p rfl (ob_assign rfl rfl c_i) <|
           o_n) (by kernel_rfl) (fun a g hst hb => ?_)
        refine wp_ret ?_
        refine then_r ?_
        obtain rfl := Option.some.inj H0
        exact endR1 rfl hst hb (res_tmp (s := 2)) (hst.at 0 rfl)
      · replace H0 := ite_f hc7 H0
        refine wp_skip ?_
        refine then_n ?_
        refine r_s (L := [(1, _)]) (T := [⟨[], _, [], [], [3]⟩]) (F := [.old 0, .op 0 0]) (hst.pick [0] rfl) hb follows
          (o_p rfl (ob_assign rfl rfl c_i) <|
           o_n) (by kernel_rfl) (fun a g hst hb => ?_)
        refine wp_seq ?_
        refine r_s (L := [(1, _), (3, _)]) (T := ⟨[.old 0], _, [], [], [29]⟩ :: ⟨[.op 0 0], _, [], [0], [30]⟩ :: ⟨[.op 1 0], _, [], [0, 1], [31]⟩ :: ⟨[.op 2 0], _, [], [0, 1, 2], [32]⟩ :: ⟨[.op 3 0, .old 0], _, [], List.range 4, [33]⟩ :: ⟨[.op 3 0, .op 4 0], _, [], List.range 5, [34]⟩ :: ⟨[.op 3 0, .old 1], _, [], List.range 4, [35]⟩ :: ⟨[.op 3 0, .op 6 0], _, [], [0, 1, 2, 3, 6], [36]⟩ :: ⟨[.op 3 0, .op 5 0, .op 7 0], _, [], List.range 8, [37]⟩ :: ⟨[.op 3 0, .op 8 0], _, [], List.range 9, [38]⟩ :: ⟨[.op 9 0, .old 0], _, [], List.range 10, [39]⟩ :: ⟨[.op 9 0, .op 10 0], _, [], List.range 11, [40]⟩ :: ⟨[.op 9 0, .old 1], _, [], List.range 10, [41]⟩ :: ⟨[.op 9 0, .op 11 0, .op 12 0], _, [], List.range 13, [42]⟩ :: ⟨[.op 3 0, .op 9 0, .op 13 0], _, [], List.range 14, [43]⟩ :: ⟨[.op 3 0, .op 14 0], _, [], List.range 15, [44]⟩ :: ⟨[.op 15 0, .old 0], _, [], List.range 16, [45]⟩ :: ⟨[.op 15 0, .op 16 0], _, [], List.range 17, [46]⟩ :: ⟨[.op 15 0, .old 0], _, [], List.range 16, [47]⟩ :: ⟨[.op 15 0, .op 18 0], _, [], 0 :: 1 :: 2 :: 3 :: 4 :: 5 :: 6 :: 7 :: 8 :: 9 :: 10 :: 11 :: 12 :: 13 :: 14 :: 15 :: 18 :: [], [48]⟩ :: ⟨[.op 15 0, .op 17 0, .op 19 0], _, [], List.range 20, [49]⟩ :: ⟨[.op 3 0, .op 15 0, .op 20 0], _, [], List.range 21, [50]⟩ :: ⟨[.op 3 0, .op 21 0], _, [], List.range 22, [51]⟩ :: ⟨[.op 22 0, .old 0], _, [], List.range 23, [52]⟩ :: ⟨[.op 22 0, .op 23 0], _, [], List.range 24, [53]⟩ :: ⟨[.op 22 0, .old 0], _, [], List.range 23, [54]⟩ :: ⟨[.op 22 0, .op 25 0], _, [], 0 :: 1 :: 2 :: 3 :: 4 :: 5 :: 6 :: 7 :: 8 :: 9 :: 10 :: 11 :: 12 :: 13 :: 14 :: 15 :: 16 :: 17 :: 18 :: 19 :: 20 :: 21 :: 22 :: 25 :: [], [55]⟩ :: ⟨[.op 22 0, .op 24 0, .op 26 0], _, [], List.range 27, [56]⟩ :: ⟨[.op 3 0, .op 22 0, .op 27 0], _, [], List.range 28, [57]⟩ :: ⟨[.op 3 0, .op 28 0], _, [], List.range 29, [58]⟩ :: []) (F := [.old 0, .op 29 0]) hst hb follows
          (o_p rfl (ob_fieldAddr fl_25_0 rfl rfl u_0) <|
           o_p rfl (ob_load ty_3 rfl rfl u_0) <|
           o_p rfl (ob_eq rfl rfl u_0 c_i) <|
           o_p rfl (ob_move rfl rfl u_0) <|
           o_g (g_t rfl rfl rfl (fun hG => ob_fieldAddr fl_25_2 rfl rfl u_0)) <|
           o_g (g_t rfl rfl rfl (fun hG => ob_load ty_2 rfl rfl (Opd.gd hG u_0))) <|
           o_g (g_t rfl rfl rfl (fun hG => ob_move rfl rfl u_0)) <|
           o_g (g_t rfl rfl rfl (fun hG => ob_neg rfl rfl (Opd.gd hG u_0) rfl)) <|
           o_g (g_t rfl rfl rfl (fun hG => ob_lt rfl rfl (Opd.gd hG u_0) (Opd.gd hG u_1))) <|
           o_g (g_t rfl rfl rfl (fun hG => ob_move rfl rfl (Opd.gd hG u_0))) <|
           o_g (g_fi rfl rfl rfl (fun hG => ob_fieldAddr fl_25_3 rfl rfl u_0)) <|
           o_g (g_fi rfl rfl rfl (fun hG => ob_load ty_2 rfl rfl (Opd.gd hG u_0))) <|
           o_g (g_fi rfl rfl rfl (fun hG => ob_move rfl rfl u_0)) <|
           o_g (g_fi rfl rfl rfl (fun hG => ob_gt rfl rfl (Opd.gd hG u_0) (Opd.gd hG u_1))) <|
           o_g (g_t rfl rfl rfl (fun hG => ob_por rfl rfl (Opd.gd hG u_0) (fun hz => (Opd.gd (bA hG (bNF hz)) u_1)))) <|
           o_g (g_t rfl rfl rfl (fun hG => ob_move rfl rfl (Opd.gd hG u_0))) <|
           o_g (g_fi rfl rfl rfl (fun hG => ob_fieldAddr fl_25_1 rfl rfl u_0)) <|
           o_g (g_fi rfl rfl rfl (fun hG => ob_load ty_2 rfl rfl (Opd.gd hG u_0))) <|
           o_g (g_fi rfl rfl rfl (fun hG => ob_fieldAddr fl_25_2 rfl rfl u_0)) <|
           o_g (g_fi rfl rfl rfl (fun hG => ob_load ty_2 rfl rfl (Opd.gd hG u_0))) <|
           o_g (g_fi rfl rfl rfl (fun hG => ob_lt rfl rfl (Opd.gd hG u_0) (Opd.gd hG u_1))) <|
           o_g (g_t rfl rfl rfl (fun hG => ob_por rfl rfl (Opd.gd hG u_0) (fun hz => (Opd.gd (bA hG (bNF hz)) u_1)))) <|
           o_g (g_t rfl rfl rfl (fun hG => ob_move rfl rfl (Opd.gd hG u_0))) <|
           o_g (g_fi rfl rfl rfl (fun hG => ob_fieldAddr fl_25_1 rfl rfl u_0)) <|
           o_g (g_fi rfl rfl rfl (fun hG => ob_load ty_2 rfl rfl (Opd.gd hG u_0))) <|
           o_g (g_fi rfl rfl rfl (fun hG => ob_fieldAddr fl_25_3 rfl rfl u_0)) <|
           o_g (g_fi rfl rfl rfl (fun hG => ob_load ty_2 rfl rfl (Opd.gd hG u_0))) <|
           o_g (g_fi rfl rfl rfl (fun hG => ob_gt rfl rfl (Opd.gd hG u_0) (Opd.gd hG u_1))) <|
           o_g (g_t rfl rfl rfl (fun hG => ob_por rfl rfl (Opd.gd hG u_0) (fun hz => (Opd.gd (bA hG (bNF hz)) u_1)))) <|
           o_p rfl (ob_pand rfl rfl u_0 (fun hz => (Opd.gd hz u_1))) <|
           o_n) (by kernel_rfl) (fun a g hst hb => ?_)
        refine wp_cond_split (hst.bool 1 rfl) (fun hc8 => ?_) (fun hc8 => ?_)
        · replace H0 := ite_t hc8 H0
          refine r_s (L := []) (T := [⟨[], _, [], [], [2]⟩]) (F := [.op 0 0]) (hst.pick [] rfl) hb follows
            (o_p rfl (ob_assign rfl rfl c_i) <|
             o_n) (by kernel_rfl) (fun a g hst hb => ?_)
          refine wp_ret ?_
          refine then_r ?_
          obtain rfl := Option.some.inj H0
          exact endR1 rfl hst hb (res_tmp (s := 2)) (hst.at 0 rfl)
        · replace H0 := ite_f hc8 H0
          refine wp_skip ?_
          refine then_n ?_
          refine wp_seq ?_
          obtain ⟨r9, h10, H0⟩ := of_bind H0
          refine r_s (L := [(1, _)]) (T := [⟨[.old 0], _, [], [], [59]⟩, ⟨[.op 0 0], _, [], [0], [60]⟩, ⟨[.op 1 0], _, [], [0, 1], [61]⟩, ⟨[.op 2 0], _, [], [0, 1, 2], [62]⟩]) (F := [.old 0, .op 3 0]) (hst.pick [0] rfl) hb follows
            (o_p rfl (ob_fieldAddr fl_25_4 rfl rfl u_0) <|
             o_p rfl (ob_load ty_22 rfl rfl u_0) <|
             o_p rfl (ob_call en_38 (moietyref01_Proper_ok _ h10) rfl rfl (.cons u_0 .nil)) <|
             o_p rfl (ob_not rfl rfl u_0) <|
             o_n) (by kernel_rfl) (fun a g hst hb => ?_)
          refine wp_cond_split (hst.bool 1 rfl) (fun hc11 => ?_) (fun hc11 => ?_)
          · replace H0 := ite_t hc11 H0
            refine r_s (L := []) (T := [⟨[], _, [], [], [2]⟩]) (F := [.op 0 0]) (hst.pick [] rfl) hb follows
              (o_p rfl (ob_assign rfl rfl c_i) <|
               o_n) (by kernel_rfl) (fun a g hst hb => ?_)
            refine wp_ret ?_
            refine then_r ?_
            obtain rfl := Option.some.inj H0
            exact endR1 rfl hst hb (res_tmp (s := 2)) (hst.at 0 rfl)
          · replace H0 := ite_f hc11 H0
            refine wp_skip ?_
            refine then_n ?_
            refine wp_seq ?_
            refine r_s (L := [(1, _)]) (T := [⟨[.old 0], _, [], [], [63]⟩, ⟨[.op 0 0], _, [], [0], [64]⟩, ⟨[.op 1 0], _, [], [0, 1], [65]⟩]) (F := [.old 0, .op 2 0]) (hst.pick [0] rfl) hb follows
              (o_p rfl (ob_fieldAddr fl_25_0 rfl rfl u_0) <|
               o_p rfl (ob_load ty_3 rfl rfl u_0) <|
               o_p rfl (ob_lt rfl rfl u_0 c_i) <|
               o_n) (by kernel_rfl) (fun a g hst hb => ?_)
            refine wp_cond_split (hst.bool 1 rfl) (fun hc12 => ?_) (fun hc12 => ?_)
            · replace H0 := ite_t hc12 H0
              refine r_s (L := []) (T := [⟨[], _, [], [], [2]⟩]) (F := [.op 0 0]) (hst.pick [] rfl) hb follows
                (o_p rfl (ob_assign rfl rfl c_i) <|
                 o_n) (by kernel_rfl) (fun a g hst hb => ?_)
              refine wp_ret ?_
              refine then_r ?_
              obtain rfl := Option.some.inj H0
              exact endR1 rfl hst hb (res_tmp (s := 2)) (hst.at 0 rfl)
            · replace H0 := ite_f hc12 H0
              refine wp_skip ?_
              refine then_n ?_
              refine wp_seq ?_
              refine r_s (L := [(1, _)]) (T := [⟨[.old 0], _, [], [], [66]⟩, ⟨[.op 0 0], _, [], [0], [67]⟩, ⟨[.op 1 0], _, [], [0, 1], [68]⟩, ⟨[.op 2 0], _, [], [0, 1, 2], [69]⟩, ⟨[.op 3 0, .old 0], _, [], List.range 4, [70]⟩, ⟨[.op 3 0, .op 4 0], _, [], List.range 5, [71]⟩, ⟨[.op 3 0, .op 5 0], _, [], List.range 6, [72]⟩, ⟨[.op 3 0, .op 6 0], _, [], List.range 7, [73]⟩]) (F := [.old 0, .op 7 0]) (hst.pick [0] rfl) hb follows
                (o_p rfl (ob_fieldAddr fl_25_5 rfl rfl u_0) <|
                 o_p rfl (ob_load ty_3 rfl rfl u_0) <|
                 o_p rfl (ob_lt rfl rfl u_0 c_i) <|
                 o_p rfl (ob_move rfl rfl u_0) <|
                 o_g (g_f rfl rfl rfl (fun hG => ob_fieldAddr fl_25_5 rfl rfl u_0)) <|
                 o_g (g_f rfl rfl rfl (fun hG => ob_load ty_3 rfl rfl (Opd.gd hG u_0))) <|
                 o_g (g_f rfl rfl rfl (fun hG => ob_gt rfl rfl (Opd.gd hG u_0) c_i)) <|
                 o_p rfl (ob_por rfl rfl u_0 (fun hz => (Opd.gd (bNF hz) u_1))) <|
                 o_n) (by kernel_rfl) (fun a g hst hb => ?_)
              refine wp_cond_split (hst.bool 1 rfl) (fun hc13 => ?_) (fun hc13 => ?_)
              · replace H0 := ite_t hc13 H0
                refine r_s (L := []) (T := [⟨[], _, [], [], [2]⟩]) (F := [.op 0 0]) (hst.pick [] rfl) hb follows
                  (o_p rfl (ob_assign rfl rfl c_i) <|
                   o_n) (by kernel_rfl) (fun a g hst hb => ?_)
                refine wp_ret ?_
                refine then_r ?_
                obtain rfl := Option.some.inj H0
                exact endR1 rfl hst hb (res_tmp (s := 2)) (hst.at 0 rfl)
              · replace H0 := ite_f hc13 H0
                refine wp_skip ?_
                refine then_n ?_
                refine wp_seq ?_
                refine r_s (L := [(1, _)]) (T := [⟨[.old 0], _, [], [], [74]⟩, ⟨[.op 0 0], _, [], [0], [75]⟩, ⟨[.op 1 0], _, [], [0, 1], [76]⟩, ⟨[.old 0], _, [], [], [77]⟩, ⟨[.op 3 0], _, [], [3], [78]⟩, ⟨[.op 2 0, .op 4 0], _, [], List.range 5, [79]⟩]) (F := [.old 0, .op 5 0]) (hst.pick [0] rfl) hb follows
                  (o_p rfl (ob_fieldAddr fl_25_7 rfl rfl u_0) <|
                   o_p rfl (ob_load ty_23 rfl rfl u_0) <|
                   o_p rfl (ob_lenL Tryd.underlying23 rfl rfl u_0) <|
                   o_p rfl (ob_fieldAddr fl_25_5 rfl rfl u_0) <|
                   o_p rfl (ob_load ty_3 rfl rfl u_0) <|
                   o_p rfl (ob_gt rfl rfl u_0 u_1) <|
                   o_n) (by kernel_rfl) (fun a g hst hb => ?_)
                refine wp_cond_split (hst.bool 1 rfl) (fun hc14 => ?_) (fun hc14 => ?_)
                · replace H0 := ite_t hc14 H0
                  refine r_s (L := []) (T := [⟨[], _, [], [], [2]⟩]) (F := [.op 0 0]) (hst.pick [] rfl) hb follows
                    (o_p rfl (ob_assign rfl rfl c_i) <|
                     o_n) (by kernel_rfl) (fun a g hst hb => ?_)
                  refine wp_ret ?_
                  refine then_r ?_
                  obtain rfl := Option.some.inj H0
                  exact endR1 rfl hst hb (res_tmp (s := 2)) (hst.at 0 rfl)
                · replace H0 := ite_f hc14 H0
                  refine wp_skip ?_
                  refine then_n ?_
                  refine wp_seq ?_
                  refine r_s (L := [(1, _)]) (T := [⟨[], _, [], [], [4]⟩]) (F := [.old 0, .op 0 0]) (hst.pick [0] rfl) hb follows
                    (o_p rfl (ob_assign rfl rfl c_i) <|
                     o_n) (by kernel_rfl) (fun a g hst hb => ?_)
                  obtain ⟨z20, hz1, H0⟩ := of_bind H0
                  refine wp_cut (fun a w => ∃ (g : G), w = g.w ∧ St 96 [] a g ∧ Base g0 g ∧ (.inr ()) = z20) ?_ ?_
                  · rintro a w ⟨g, rfl, hst, hb, rfl⟩
                    refine then_n ?_
                    refine r_s (L := []) (T := [⟨[], _, [], [], [2]⟩]) (F := [.op 0 0]) hst hb follows
                      (o_p rfl (ob_assign rfl rfl c_i) <|
                       o_n) (by kernel_rfl) (fun a g hst hb => ?_)
                    refine wp_ret ?_
                    obtain rfl := Option.some.inj H0
                    exact endR1 rfl hst hb (res_tmp (s := 2)) (hst.at 0 rfl)
                  · refine wp_block ?_
                    refine wp_loop_ghost (fun n a w => ∃ (x15 : Int) (g : G), w = g.w ∧ St 96 [(1, (k_api_Record.ptr a0)), (4, (pInt .i64 x15))] a g ∧ Base g0 g ∧ moietyref03_Check_l1 a0 n x15 = some z20) (Int.toNat ((a0.List.length : Int) - (0 : Int)) + 1) ⟨(0 : Int), g, rfl, (hst.pick [0, 1] rfl), hb, hz1⟩ (fun n a w hI => ?_)
                    obtain ⟨x15, g, rfl, hst, hb, H1⟩ := hI
                    cases n with
                    | zero => exact absurd H1 (by simp [moietyref03_Check_l1])
                    | succ n =>
                      rw [moietyref03_Check_l1] at H1
                      refine wp_seq ?_
                      refine r_s (L := [(1, _), (4, _)]) (T := [⟨[.old 1], _, [], [], [80]⟩, ⟨[.old 0], _, [], [], [81]⟩, ⟨[.op 1 0], _, [], [1], [82]⟩, ⟨[.op 2 0], _, [], [1, 2], [83]⟩, ⟨[.op 0 0, .op 3 0], _, [], List.range 4, [84]⟩]) (F := [.old 0, .old 1, .op 4 0]) hst hb follows
                        (o_p rfl (ob_move rfl rfl u_0) <|
                         o_p rfl (ob_fieldAddr fl_25_7 rfl rfl u_0) <|
                         o_p rfl (ob_load ty_23 rfl rfl u_0) <|
                         o_p rfl (ob_lenL Tryd.underlying23 rfl rfl u_0) <|
                         o_p rfl (ob_lt rfl rfl u_0 u_1) <|
                         o_n) (by kernel_rfl) (fun a g hst hb => ?_)
                      refine wp_cond_split (hst.bool 2 rfl) (fun hc16 => ?_) (fun hc16 => ?_)
                      · replace H1 := ite_t hc16 H1
                        refine wp_skip ?_
                        refine then_n ?_
                        refine wp_seq ?_
                        refine wp_block ?_
                        obtain ⟨r17, h18, H1⟩ := of_bind H1
                        refine r_s (L := [(1, _), (4, _)]) (T := [⟨[.old 0], _, [], [], [87]⟩, ⟨[.op 0 0], _, [], [0], [88]⟩, ⟨[.old 0], _, [], [], [89]⟩, ⟨[.op 2 0], _, [], [2], [90]⟩, ⟨[.old 1], _, [], [], [91]⟩, ⟨[.op 1 0, .op 3 0, .op 4 0], _, [], List.range 5, [92]⟩, ⟨[.op 5 0], _, [], List.range 6, [5]⟩]) (F := [.old 0, .old 1, .op 6 0]) (hst.pick [0, 1] rfl) hb follows
                          (o_p rfl (ob_fieldAddr fl_25_0 rfl rfl u_0) <|
                           o_p rfl (ob_load ty_3 rfl rfl u_0) <|
                           o_p rfl (ob_fieldAddr fl_25_7 rfl rfl u_0) <|
                           o_p rfl (ob_load ty_23 rfl rfl u_0) <|
                           o_p rfl (ob_move rfl rfl u_0) <|
                           o_p rfl (ob_call en_39 (moietyref03_item_ok _ _ _ h18) rfl rfl (.cons u_0 (.cons u_1 (.cons u_2 .nil)))) <|
                           o_p rfl (ob_assign rfl rfl u_0) <|
                           o_n) (by kernel_rfl) (fun a g hst hb => ?_)
                        refine r_s (L := [(1, _), (4, _), (5, _)]) (T := [⟨[.old 2], _, [], [], [93]⟩, ⟨[.op 0 0], _, [], [0], [94]⟩]) (F := [.old 0, .old 1, .old 2, .op 1 0]) hst hb follows
                          (o_p rfl (ob_move rfl rfl u_0) <|
                           o_p rfl (ob_ne rfl rfl u_0 c_i) <|
                           o_n) (by kernel_rfl) (fun a g hst hb => ?_)
                        refine wp_cond_split (hst.bool 3 rfl) (fun hc19 => ?_) (fun hc19 => ?_)
                        · replace H1 := ite_t hc19 H1
                          refine r_s (L := [(5, _)]) (T := [⟨[.old 0], _, [], [], [95]⟩, ⟨[.op 0 0], _, [], [0], [2]⟩]) (F := [.op 1 0]) (hst.pick [2] rfl) hb follows
                            (o_p rfl (ob_move rfl rfl u_0) <|
                             o_p rfl (ob_assign rfl rfl u_0) <|
                             o_n) (by kernel_rfl) (fun a g hst hb => ?_)
                          refine wp_ret ?_
                          refine inBlock_r ?_
                          refine then_r ?_
                          refine then_r ?_
                          refine inBlock_r ?_
                          refine then_r ?_
                          refine then_r ?_
                          obtain rfl := Option.some.inj H1
                          obtain rfl := Option.some.inj H0
                          exact endR1 rfl hst hb (res_tmp (s := 2)) (hst.at 0 rfl)
                        · replace H1 := ite_f hc19 H1
                          refine wp_skip ?_
                          refine inBlock_n ?_
                          refine then_n ?_
                          refine r_g (L := [(1, _), (4, _)]) (T := [⟨[.old 1], _, [], [], [85]⟩, ⟨[.op 0 0], _, [], [0], [86]⟩, ⟨[.op 1 0], _, [], [0, 1], [4]⟩]) (F := [.old 0, .op 2 0]) (hst.pick [0, 1] rfl) hb follows
                            (o_p rfl (ob_move rfl rfl u_0) <|
                             o_p rfl (ob_add rfl rfl u_0 c_i rfl) <|
                             o_p rfl (ob_assign rfl rfl u_0) <|
                             o_n) (by kernel_rfl) (fun a g hst hb => ?_)
                          exact ⟨n, Nat.lt_succ_self _, (IntKind.i64.wrap (x15 + (1 : Int))), g, rfl, (hst.pick [0, 1] rfl), hb, H1⟩
                      · replace H1 := ite_f hc16 H1
                        refine wp_exit ?_
                        refine then_e ?_
                        refine then_e ?_
                        refine inBlock_e ?_
                        exact ⟨g, rfl, (hst.pick [] rfl), hb, Option.some.inj H1⟩
end Go.CL

set_option linter.unusedVariables false
set_option linter.unusedSimpArgs false
set_option maxRecDepth 100000
namespace Go.CL
open Go Go.RowKit Go.Proofs
theorem moietyref03_Same_ok (a0 : api_Record) (a1 : api_Record) {r : Bool} (h : moietyref03_Same a0 a1 = some r) : FnOk Tryd.prog 13 [(k_api_Record.pd a0), (k_api_Record.pd a1)] (pBool r) := by
  have H0 := h
  unfold moietyref03_Same at H0
  clear h
  refine fn_ok (N := 97) Tryd.func13 rfl rfl (Nat.le_of_ble_eq_true rfl) rfl rfl (fun a g0 hst hb => ?_)
  refine r_s (L := [(0, _), (1, _)]) (T := [⟨[.old 0], _, [], [], [2]⟩, ⟨[.old 1], _, [], [], [3]⟩, ⟨[], _, [], [], [4]⟩]) (F := [.op 0 0, .op 1 0]) hst hb follows
    (o_p rfl (ob_box1 rfl rfl u_0) <|
     o_p rfl (ob_box1 rfl rfl u_0) <|
     o_p rfl (ob_assign rfl rfl c_b) <|
     o_n) (by kernel_rfl) (fun a g hst hb => ?_)
  refine wp_seq ?_
  refine r_s (L := [(2, _), (3, _)]) (T := ⟨[.old 0], _, [], [], [6]⟩ :: ⟨[.op 0 0], _, [], [0], [7]⟩ :: ⟨[.old 1], _, [], [], [8]⟩ :: ⟨[.op 2 0], _, [], [2], [9]⟩ :: ⟨[.op 1 0, .op 3 0], _, [], List.range 4, [10]⟩ :: ⟨[.op 4 0], _, [], List.range 5, [11]⟩ :: ⟨[.op 5 0, .old 0], _, [], List.range 6, [12]⟩ :: ⟨[.op 5 0, .op 6 0], _, [], List.range 7, [13]⟩ :: ⟨[.op 5 0, .old 1], _, [], List.range 6, [14]⟩ :: ⟨[.op 5 0, .op 8 0], _, [], [0, 1, 2, 3, 4, 5, 8], [15]⟩ :: ⟨[.op 5 0, .op 7 0, .op 9 0], _, [], List.range 10, [16]⟩ :: ⟨[.op 5 0, .op 10 0], _, [], List.range 11, [17]⟩ :: ⟨[.op 11 0], _, [], List.range 12, [18]⟩ :: ⟨[.op 12 0, .old 0], _, [], List.range 13, [19]⟩ :: ⟨[.op 12 0, .op 13 0], _, [], List.range 14, [20]⟩ :: ⟨[.op 12 0, .old 1], _, [], List.range 13, [21]⟩ :: ⟨[.op 12 0, .op 15 0], _, [], 0 :: 1 :: 2 :: 3 :: 4 :: 5 :: 6 :: 7 :: 8 :: 9 :: 10 :: 11 :: 12 :: 15 :: [], [22]⟩ :: ⟨[.op 12 0, .op 14 0, .op 16 0], _, [], List.range 17, [23]⟩ :: ⟨[.op 12 0, .op 17 0], _, [], List.range 18, [24]⟩ :: ⟨[.op 18 0], _, [], List.range 19, [25]⟩ :: ⟨[.op 19 0, .old 0], _, [], List.range 20, [26]⟩ :: ⟨[.op 19 0, .op 20 0], _, [], List.range 21, [27]⟩ :: ⟨[.op 19 0, .old 1], _, [], List.range 20, [28]⟩ :: ⟨[.op 19 0, .op 22 0], _, [], 0 :: 1 :: 2 :: 3 :: 4 :: 5 :: 6 :: 7 :: 8 :: 9 :: 10 :: 11 :: 12 :: 13 :: 14 :: 15 :: 16 :: 17 :: 18 :: 19 :: 22 :: [], [29]⟩ :: ⟨[.op 19 0, .op 21 0, .op 23 0], _, [], List.range 24, [30]⟩ :: ⟨[.op 19 0, .op 24 0], _, [], List.range 25, [31]⟩ :: ⟨[.op 25 0], _, [], List.range 26, [32]⟩ :: ⟨[.op 26 0, .old 0], _, [], List.range 27, [33]⟩ :: ⟨[.op 26 0, .op 27 0], _, [], List.range 28, [34]⟩ :: ⟨[.op 26 0, .old 1], _, [], List.range 27, [35]⟩ :: ⟨[.op 26 0, .op 29 0], _, [], 0 :: 1 :: 2 :: 3 :: 4 :: 5 :: 6 :: 7 :: 8 :: 9 :: 10 :: 11 :: 12 :: 13 :: 14 :: 15 :: 16 :: 17 :: 18 :: 19 :: 20 :: 21 :: 22 :: 23 :: 24 :: 25 :: 26 :: 29 :: [], [36]⟩ :: ⟨[.op 26 0, .op 28 0, .op 30 0], _, [], List.range 31, [37]⟩ :: ⟨[.op 26 0, .op 31 0], _, [], List.range 32, [38]⟩ :: ⟨[.op 32 0], _, [], List.range 33, [39]⟩ :: ⟨[.op 33 0, .old 0], _, [], List.range 34, [40]⟩ :: ⟨[.op 33 0, .op 34 0], _, [], List.range 35, [41]⟩ :: ⟨[.op 33 0, .old 1], _, [], List.range 34, [42]⟩ :: ⟨[.op 33 0, .op 36 0], _, [], 0 :: 1 :: 2 :: 3 :: 4 :: 5 :: 6 :: 7 :: 8 :: 9 :: 10 :: 11 :: 12 :: 13 :: 14 :: 15 :: 16 :: 17 :: 18 :: 19 :: 20 :: 21 :: 22 :: 23 :: 24 :: 25 :: 26 :: 27 :: 28 :: 29 :: 30 :: 31 :: 32 :: 33 :: 36 :: [], [43]⟩ :: ⟨[.op 33 0, .op 35 0, .op 37 0], _, [], List.range 38, [44]⟩ :: ⟨[.op 33 0, .op 38 0], _, [], List.range 39, [45]⟩ :: []) (F := [.old 0, .old 1, .op 39 0]) hst hb follows
    (o_p rfl (ob_fieldAddr fl_25_0 rfl rfl u_0) <|
     o_p rfl (ob_load ty_3 rfl rfl u_0) <|
     o_p rfl (ob_fieldAddr fl_25_0 rfl rfl u_0) <|
     o_p rfl (ob_load ty_3 rfl rfl u_0) <|
     o_p rfl (ob_ne rfl rfl u_0 u_1) <|
     o_p rfl (ob_move rfl rfl u_0) <|
     o_g (g_f rfl rfl rfl (fun hG => ob_fieldAddr fl_25_1 rfl rfl u_0)) <|
     o_g (g_f rfl rfl rfl (fun hG => ob_load ty_2 rfl rfl (Opd.gd hG u_0))) <|
     o_g (g_f rfl rfl rfl (fun hG => ob_fieldAddr fl_25_1 rfl rfl u_0)) <|
     o_g (g_f rfl rfl rfl (fun hG => ob_load ty_2 rfl rfl (Opd.gd hG u_0))) <|
     o_g (g_f rfl rfl rfl (fun hG => ob_ne rfl rfl (Opd.gd hG u_0) (Opd.gd hG u_1))) <|
     o_p rfl (ob_por rfl rfl u_0 (fun hz => (Opd.gd (bNF hz) u_1))) <|
     o_p rfl (ob_move rfl rfl u_0) <|
     o_g (g_f rfl rfl rfl (fun hG => ob_fieldAddr fl_25_2 rfl rfl u_0)) <|
     o_g (g_f rfl rfl rfl (fun hG => ob_load ty_2 rfl rfl (Opd.gd hG u_0))) <|
     o_g (g_f rfl rfl rfl (fun hG => ob_fieldAddr fl_25_2 rfl rfl u_0)) <|
     o_g (g_f rfl rfl rfl (fun hG => ob_load ty_2 rfl rfl (Opd.gd hG u_0))) <|
     o_g (g_f rfl rfl rfl (fun hG => ob_ne rfl rfl (Opd.gd hG u_0) (Opd.gd hG u_1))) <|
     o_p rfl (ob_por rfl rfl u_0 (fun hz => (Opd.gd (bNF hz) u_1))) <|
     o_p rfl (ob_move rfl rfl u_0) <|
     o_g (g_f rfl rfl rfl (fun hG => ob_fieldAddr fl_25_3 rfl rfl u_0)) <|
     o_g (g_f rfl rfl rfl (fun hG => ob_load ty_2 rfl rfl (Opd.gd hG u_0))) <|
     o_g (g_f rfl rfl rfl (fun hG => ob_fieldAddr fl_25_3 rfl rfl u_0)) <|
     o_g (g_f rfl rfl rfl (fun hG => ob_load ty_2 rfl rfl (Opd.gd hG u_0))) <|
     o_g (g_f rfl rfl rfl (fun hG => ob_ne rfl rfl (Opd.gd hG u_0) (Opd.gd hG u_1))) <|
     o_p rfl (ob_por rfl rfl u_0 (fun hz => (Opd.gd (bNF hz) u_1))) <|
     o_p rfl (ob_move rfl rfl u_0) <|
     o_g (g_f rfl rfl rfl (fun hG => ob_fieldAddr fl_25_5 rfl rfl u_0)) <|
     o_g (g_f rfl rfl rfl (fun hG => ob_load ty_3 rfl rfl (Opd.gd hG u_0))) <|
     o_g (g_f rfl rfl rfl (fun hG => ob_fieldAddr fl_25_5 rfl rfl u_0)) <|
     o_g (g_f rfl rfl rfl (fun hG => ob_load ty_3 rfl rfl (Opd.gd hG u_0))) <|
     o_g (g_f rfl rfl rfl (fun hG => ob_ne rfl rfl (Opd.gd hG u_0) (Opd.gd hG u_1))) <|
     o_p rfl (ob_por rfl rfl u_0 (fun hz => (Opd.gd (bNF hz) u_1))) <|
     o_p rfl (ob_move rfl rfl u_0) <|
     o_g (g_f rfl rfl rfl (fun hG => ob_fieldAddr fl_25_6 rfl rfl u_0)) <|
     o_g (g_f rfl rfl rfl (fun hG => ob_load ty_9 rfl rfl (Opd.gd hG u_0))) <|
     o_g (g_f rfl rfl rfl (fun hG => ob_fieldAddr fl_25_6 rfl rfl u_0)) <|
     o_g (g_f rfl rfl rfl (fun hG => ob_load ty_9 rfl rfl (Opd.gd hG u_0))) <|
     o_g (g_f rfl rfl rfl (fun hG => ob_sne rfl rfl (Opd.gd hG u_0) (Opd.gd hG u_1))) <|
     o_p rfl (ob_por rfl rfl u_0 (fun hz => (Opd.gd (bNF hz) u_1))) <|
     o_n) (by kernel_rfl) (fun a g hst hb => ?_)
  refine wp_cond_split (hst.bool 2 rfl) (fun hc1 => ?_) (fun hc1 => ?_)
  · replace H0 := ite_t hc1 H0
    refine r_s (L := []) (T := [⟨[], _, [], [], [4]⟩]) (F := [.op 0 0]) (hst.pick [] rfl) hb follows
      (o_p rfl (ob_assign rfl rfl c_b) <|
       o_n) (by kernel_rfl) (fun a g hst hb => ?_)
    refine wp_ret ?_
    refine then_r ?_
    obtain rfl := Option.some.inj H0
    exact endR1 rfl hst hb (res_tmp (s := 4)) (hst.at 0 rfl)
  · replace H0 := ite_f hc1 H0
    refine wp_skip ?_
    refine then_n ?_
    refine wp_seq ?_
    obtain ⟨r2, h3, H0⟩ := of_bind H0
    refine r_s (L := [(2, _), (3, _)]) (T := ⟨[.old 0], _, [], [], [46]⟩ :: ⟨[.op 0 0], _, [], [0], [47]⟩ :: ⟨[.old 1], _, [], [], [48]⟩ :: ⟨[.op 2 0], _, [], [2], [49]⟩ :: ⟨[.op 1 0, .op 3 0], _, [], List.range 4, [50]⟩ :: ⟨[.op 4 0], _, [], List.range 5, [51]⟩ :: ⟨[.op 5 0], _, [], List.range 6, [52]⟩ :: ⟨[.op 6 0, .old 0], _, [], List.range 7, [53]⟩ :: ⟨[.op 6 0, .op 7 0], _, [], List.range 8, [54]⟩ :: ⟨[.op 6 0, .op 8 0], _, [], List.range 9, [55]⟩ :: ⟨[.op 6 0, .old 1], _, [], List.range 7, [56]⟩ :: ⟨[.op 6 0, .op 10 0], _, [], [0, 1, 2, 3, 4, 5, 6, 10], [57]⟩ :: ⟨[.op 6 0, .op 11 0], _, [], [0, 1, 2, 3, 4, 5, 6, 10, 11], [58]⟩ :: ⟨[.op 6 0, .op 9 0, .op 12 0], _, [], List.range 13, [59]⟩ :: ⟨[.op 6 0, .op 13 0], _, [], List.range 14, [60]⟩ :: []) (F := [.old 0, .old 1, .op 14 0]) (hst.pick [0, 1] rfl) hb follows
      (o_p rfl (ob_fieldAddr fl_25_4 rfl rfl u_0) <|
       o_p rfl (ob_load ty_22 rfl rfl u_0) <|
       o_p rfl (ob_fieldAddr fl_25_4 rfl rfl u_0) <|
       o_p rfl (ob_load ty_22 rfl rfl u_0) <|
       o_p rfl (ob_call en_32 (moietyref01_Same_ok _ _ h3) rfl rfl (.cons u_0 (.cons u_1 .nil))) <|
       o_p rfl (ob_not rfl rfl u_0) <|
       o_p rfl (ob_move rfl rfl u_0) <|
       o_g (g_f rfl rfl rfl (fun hG => ob_fieldAddr fl_25_7 rfl rfl u_0)) <|
       o_g (g_f rfl rfl rfl (fun hG => ob_load ty_23 rfl rfl (Opd.gd hG u_0))) <|
       o_g (g_f rfl rfl rfl (fun hG => ob_lenL Tryd.underlying23 rfl rfl (Opd.gd hG u_0))) <|
       o_g (g_f rfl rfl rfl (fun hG => ob_fieldAddr fl_25_7 rfl rfl u_0)) <|
       o_g (g_f rfl rfl rfl (fun hG => ob_load ty_23 rfl rfl (Opd.gd hG u_0))) <|
       o_g (g_f rfl rfl rfl (fun hG => ob_lenL Tryd.underlying23 rfl rfl (Opd.gd hG u_0))) <|
       o_g (g_f rfl rfl rfl (fun hG => ob_ne rfl rfl (Opd.gd hG u_0) (Opd.gd hG u_1))) <|
       o_p rfl (ob_por rfl rfl u_0 (fun hz => (Opd.gd (bNF hz) u_1))) <|
       o_n) (by kernel_rfl) (fun a g hst hb => ?_)
    refine wp_cond_split (hst.bool 2 rfl) (fun hc4 => ?_) (fun hc4 => ?_)
    · replace H0 := ite_t hc4 H0
      refine r_s (L := []) (T := [⟨[], _, [], [], [4]⟩]) (F := [.op 0 0]) (hst.pick [] rfl) hb follows
        (o_p rfl (ob_assign rfl rfl c_b) <|
         o_n) (by kernel_rfl) (fun a g hst hb => ?_)
      refine wp_ret ?_
      refine then_r ?_
      obtain rfl := Option.some.inj H0
      exact endR1 rfl hst hb (res_tmp (s := 4)) (hst.at 0 rfl)
    · replace H0 := ite_f hc4 H0
      refine wp_skip ?_
      refine then_n ?_
      refine wp_seq ?_
      refine r_s (L := [(2, _), (3, _)]) (T := [⟨[], _, [], [], [5]⟩]) (F := [.old 0, .old 1, .op 0 0]) (hst.pick [0, 1] rfl) hb follows
        (o_p rfl (ob_assign rfl rfl c_i) <|
         o_n) (by kernel_rfl) (fun a g hst hb => ?_)
      obtain ⟨z18, hz1, H0⟩ := of_bind H0
      refine wp_cut (fun a w => ∃ (g : G), w = g.w ∧ St 97 [] a g ∧ Base g0 g ∧ (.inr ()) = z18) ?_ ?_
      · rintro a w ⟨g, rfl, hst, hb, rfl⟩
        refine then_n ?_
        refine r_s (L := []) (T := [⟨[], _, [], [], [4]⟩]) (F := [.op 0 0]) hst hb follows
          (o_p rfl (ob_assign rfl rfl c_b) <|
           o_n) (by kernel_rfl) (fun a g hst hb => ?_)
        refine wp_ret ?_
        obtain rfl := Option.some.inj H0
        exact endR1 rfl hst hb (res_tmp (s := 4)) (hst.at 0 rfl)
      · refine wp_block ?_
        refine wp_loop_ghost (fun n a w => ∃ (x5 : Int) (g : G), w = g.w ∧ St 97 [(2, (k_api_Record.ptr a0)), (3, (k_api_Record.ptr a1)), (5, (pInt .i64 x5))] a g ∧ Base g0 g ∧ moietyref03_Same_l1 a0 a1 n x5 = some z18) (Int.toNat ((a0.List.length : Int) - (0 : Int)) + 1) ⟨(0 : Int), g, rfl, (hst.pick [0, 1, 2] rfl), hb, hz1⟩ (fun n a w hI => ?_)
        obtain ⟨x5, g, rfl, hst, hb, H1⟩ := hI
        cases n with
        | zero => exact absurd H1 (by simp [moietyref03_Same_l1])
        | succ n =>
          rw [moietyref03_Same_l1] at H1
          refine wp_seq ?_
          refine r_s (L := [(2, _), (3, _), (5, _)]) (T := [⟨[.old 2], _, [], [], [61]⟩, ⟨[.old 0], _, [], [], [62]⟩, ⟨[.op 1 0], _, [], [1], [63]⟩, ⟨[.op 2 0], _, [], [1, 2], [64]⟩, ⟨[.op 0 0, .op 3 0], _, [], List.range 4, [65]⟩]) (F := [.old 0, .old 1, .old 2, .op 4 0]) hst hb follows
            (o_p rfl (ob_move rfl rfl u_0) <|
             o_p rfl (ob_fieldAddr fl_25_7 rfl rfl u_0) <|
             o_p rfl (ob_load ty_23 rfl rfl u_0) <|
             o_p rfl (ob_lenL Tryd.underlying23 rfl rfl u_0) <|
             o_p rfl (ob_lt rfl rfl u_0 u_1) <|
             o_n) (by kernel_rfl) (fun a g hst hb => ?_)
          refine wp_cond_split (hst.bool 3 rfl) (fun hc6 => ?_) (fun hc6 => ?_)
          · replace H1 := ite_t hc6 H1
            refine wp_skip ?_
            refine then_n ?_
            refine wp_seq ?_
            refine wp_block ?_
            obtain ⟨e7, h8, H1⟩ := of_bind H1; obtain ⟨e9, h10, H1⟩ := of_bind H1; obtain ⟨e11, h12, H1⟩ := of_bind H1; obtain ⟨e13, h14, H1⟩ := of_bind H1; obtain ⟨r15, h16, H1⟩ := of_bind H1
            refine r_s (L := [(2, _), (3, _), (5, _)]) (T := ⟨[.old 0], _, [], [], [68]⟩ :: ⟨[.op 0 0], _, [], [0], [69]⟩ :: ⟨[.old 2], _, [], [], [70]⟩ :: ⟨[.op 1 0, .op 2 0], _, [], [0, 1, 2], [71]⟩ :: ⟨[.op 3 0], _, [], List.range 4, [72]⟩ :: ⟨[.op 4 0], _, [], List.range 5, [73]⟩ :: ⟨[.old 1], _, [], [], [74]⟩ :: ⟨[.op 6 0], _, [], [6], [75]⟩ :: ⟨[.old 2], _, [], [], [76]⟩ :: ⟨[.op 7 0, .op 8 0], _, [], [6, 7, 8], [77]⟩ :: ⟨[.op 9 0], _, [], List.range' 6 4, [78]⟩ :: ⟨[.op 10 0], _, [], List.range' 6 5, [79]⟩ :: ⟨[.op 5 0, .op 11 0], _, [], List.range 12, [80]⟩ :: ⟨[.op 12 0], _, [], List.range 13, [81]⟩ :: ⟨[.op 13 0, .old 0], _, [], List.range 14, [82]⟩ :: ⟨[.op 13 0, .op 14 0], _, [], List.range 15, [83]⟩ :: ⟨[.op 13 0, .old 2], _, [], List.range 14, [84]⟩ :: ⟨[.op 13 0, .op 15 0, .op 16 0], _, [], List.range 17, [85]⟩ :: ⟨[.op 13 0, .op 17 0], _, [], List.range 18, [86]⟩ :: ⟨[.op 13 0, .op 18 0], _, [], List.range 19, [87]⟩ :: ⟨[.op 13 0, .old 1], _, [], List.range 14, [88]⟩ :: ⟨[.op 13 0, .op 20 0], _, [], 0 :: 1 :: 2 :: 3 :: 4 :: 5 :: 6 :: 7 :: 8 :: 9 :: 10 :: 11 :: 12 :: 13 :: 20 :: [], [89]⟩ :: ⟨[.op 13 0, .old 2], _, [], List.range 14, [90]⟩ :: ⟨[.op 13 0, .op 21 0, .op 22 0], _, [], 0 :: 1 :: 2 :: 3 :: 4 :: 5 :: 6 :: 7 :: 8 :: 9 :: 10 :: 11 :: 12 :: 13 :: 20 :: 21 :: 22 :: [], [91]⟩ :: ⟨[.op 13 0, .op 23 0], _, [], 0 :: 1 :: 2 :: 3 :: 4 :: 5 :: 6 :: 7 :: 8 :: 9 :: 10 :: 11 :: 12 :: 13 :: 20 :: 21 :: 22 :: 23 :: [], [92]⟩ :: ⟨[.op 13 0, .op 24 0], _, [], 0 :: 1 :: 2 :: 3 :: 4 :: 5 :: 6 :: 7 :: 8 :: 9 :: 10 :: 11 :: 12 :: 13 :: 20 :: 21 :: 22 :: 23 :: 24 :: [], [93]⟩ :: ⟨[.op 13 0, .op 19 0, .op 25 0], _, [], List.range 26, [94]⟩ :: ⟨[.op 13 0, .op 26 0], _, [], List.range 27, [95]⟩ :: ⟨[.op 13 0, .op 27 0], _, [], List.range 28, [96]⟩ :: []) (F := [.old 0, .old 1, .old 2, .op 28 0]) (hst.pick [0, 1, 2] rfl) hb follows
              (o_p rfl (ob_fieldAddr fl_25_7 rfl rfl u_0) <|
               o_p rfl (ob_load ty_23 rfl rfl u_0) <|
               o_p rfl (ob_move rfl rfl u_0) <|
               o_p rfl (ob_indexAddr Tryd.underlying23 sz_48 rfl rfl u_0 u_1 h8) <|
               o_p rfl (ob_fieldAddr fl_48_1 rfl rfl u_0) <|
               o_p rfl (ob_load ty_9 rfl rfl u_0) <|
               o_p rfl (ob_fieldAddr fl_25_7 rfl rfl u_0) <|
               o_p rfl (ob_load ty_23 rfl rfl u_0) <|
               o_p rfl (ob_move rfl rfl u_0) <|
               o_p rfl (ob_indexAddr Tryd.underlying23 sz_48 rfl rfl u_0 u_1 h10) <|
               o_p rfl (ob_fieldAddr fl_48_1 rfl rfl u_0) <|
               o_p rfl (ob_load ty_9 rfl rfl u_0) <|
               o_p rfl (ob_sne rfl rfl u_0 u_1) <|
               o_p rfl (ob_move rfl rfl u_0) <|
               o_g (g_f rfl rfl rfl (fun hG => ob_fieldAddr fl_25_7 rfl rfl u_0)) <|
               o_g (g_f rfl rfl rfl (fun hG => ob_load ty_23 rfl rfl (Opd.gd hG u_0))) <|
               o_g (g_f rfl rfl rfl (fun hG => ob_move rfl rfl u_0)) <|
               o_g (g_f rfl rfl rfl (fun hG => ob_indexAddr Tryd.underlying23 sz_48 rfl rfl (Opd.gd hG u_0) (Opd.gd hG u_1) (gd_true h12 hG))) <|
               o_g (g_f rfl rfl rfl (fun hG => ob_fieldAddr fl_48_0 rfl rfl (Opd.gd hG u_0))) <|
               o_g (g_f rfl rfl rfl (fun hG => ob_load ty_22 rfl rfl (Opd.gd hG u_0))) <|
               o_g (g_f rfl rfl rfl (fun hG => ob_fieldAddr fl_25_7 rfl rfl u_0)) <|
               o_g (g_f rfl rfl rfl (fun hG => ob_load ty_23 rfl rfl (Opd.gd hG u_0))) <|
               o_g (g_f rfl rfl rfl (fun hG => ob_move rfl rfl u_0)) <|
               o_g (g_f rfl rfl rfl (fun hG => ob_indexAddr Tryd.underlying23 sz_48 rfl rfl (Opd.gd hG u_0) (Opd.gd hG u_1) (gd_true h14 hG))) <|
               o_g (g_f rfl rfl rfl (fun hG => ob_fieldAddr fl_48_0 rfl rfl (Opd.gd hG u_0))) <|
               o_g (g_f rfl rfl rfl (fun hG => ob_load ty_22 rfl rfl (Opd.gd hG u_0))) <|
               o_g (g_f rfl rfl rfl (fun hG => ob_call en_32 (moietyref01_Same_ok _ _ (gd_true h16 hG)) rfl rfl (.cons (Opd.gd hG u_0) (.cons (Opd.gd hG u_1) .nil)))) <|
               o_g (g_f rfl rfl rfl (fun hG => ob_not rfl rfl (Opd.gd hG u_0))) <|
               o_p rfl (ob_por rfl rfl u_0 (fun hz => (Opd.gd (bNF hz) u_1))) <|
               o_n) (by kernel_rfl) (fun a g hst hb => ?_)
            refine wp_cond_split (hst.bool 3 rfl) (fun hc17 => ?_) (fun hc17 => ?_)
            · replace H1 := ite_t hc17 H1
              refine r_s (L := []) (T := [⟨[], _, [], [], [4]⟩]) (F := [.op 0 0]) (hst.pick [] rfl) hb follows
                (o_p rfl (ob_assign rfl rfl c_b) <|
                 o_n) (by kernel_rfl) (fun a g hst hb => ?_)
              refine wp_ret ?_
              refine inBlock_r ?_
              refine then_r ?_
              refine then_r ?_
              refine inBlock_r ?_
              refine then_r ?_
              refine then_r ?_
              obtain rfl := Option.some.inj H1
              obtain rfl := Option.some.inj H0
              exact endR1 rfl hst hb (res_tmp (s := 4)) (hst.at 0 rfl)
            · replace H1 := ite_f hc17 H1
              refine wp_skip ?_
              refine inBlock_n ?_
              refine then_n ?_
              refine r_g (L := [(2, _), (3, _), (5, _)]) (T := [⟨[.old 2], _, [], [], [66]⟩, ⟨[.op 0 0], _, [], [0], [67]⟩, ⟨[.op 1 0], _, [], [0, 1], [5]⟩]) (F := [.old 0, .old 1, .op 2 0]) (hst.pick [0, 1, 2] rfl) hb follows
                (o_p rfl (ob_move rfl rfl u_0) <|
                 o_p rfl (ob_add rfl rfl u_0 c_i rfl) <|
                 o_p rfl (ob_assign rfl rfl u_0) <|
                 o_n) (by kernel_rfl) (fun a g hst hb => ?_)
              exact ⟨n, Nat.lt_succ_self _, (IntKind.i64.wrap (x5 + (1 : Int))), g, rfl, (hst.pick [0, 1, 2] rfl), hb, H1⟩
          · replace H1 := ite_f hc6 H1
            refine wp_exit ?_
            refine then_e ?_
            refine then_e ?_
            refine inBlock_e ?_
            exact ⟨g, rfl, (hst.pick [] rfl), hb, Option.some.inj H1⟩
end Go.CL

set_option linter.unusedVariables false
set_option linter.unusedSimpArgs false
set_option maxRecDepth 100000
namespace Go.CL
open Go Go.RowKit Go.Proofs
theorem moietyref04_On_ok (a0 : Int) {r : Int} (h : moietyref04_On a0 = some r) : FnOk Tryd.prog 30 [(pInt .i64 a0)] (pInt .i64 r) := by
  have H0 := h
  unfold moietyref04_On at H0
  clear h
  refine fn_ok (N := 15) Tryd.func30 rfl rfl (Nat.le_of_ble_eq_true rfl) rfl rfl (fun a g0 hst hb => ?_)
  refine r_s (L := [(0, _)]) (T := [⟨[], _, [], [], [2]⟩]) (F := [.old 0]) hst hb follows
    (o_p rfl (ob_assign rfl rfl c_i) <|
     o_n) (by kernel_rfl) (fun a g hst hb => ?_)
  refine r_s (L := [(0, _)]) (T := [⟨[], _, [], [], [4]⟩, ⟨[.op 0 0], _, [], [0], [3]⟩]) (F := [.old 0, .op 1 0]) hst hb follows
    (o_p rfl (ob_lit te_86 (xs := [.const (.int .i64 0), .const (.int .i64 0), .const (.int .i64 0), .const (.int .i64 0), .const (.int .i64 0), .const (.int .i64 1), .const (.int .i64 1), .const (.int .i64 2), .const (.int .i64 3), .const (.int .i64 3), .const (.int .i64 4), .const (.int .i64 4), .const (.int .i64 4), .const (.int .i64 5), .const (.int .i64 6), .const (.int .i64 7), .const (.int .i64 7), .const (.int .i64 7), .const (.int .i64 8), .const (.int .i64 8), .const (.int .i64 8), .const (.int .i64 9)]) (.cons c_i (.cons c_i (.cons c_i (.cons c_i (.cons c_i (.cons c_i (.cons c_i (.cons c_i (.cons c_i (.cons c_i (.cons c_i (.cons c_i (.cons c_i (.cons c_i (.cons c_i (.cons c_i (.cons c_i (.cons c_i (.cons c_i (.cons c_i (.cons c_i (.cons c_i .nil)))))))))))))))))))))) (by decide) rfl rfl) <|
     o_p rfl (ob_assign rfl rfl u_0) <|
     o_n) (by kernel_rfl) (fun a g hst hb => ?_)
  refine wp_seq ?_
  refine r_s (L := [(0, _), (3, _)]) (T := [⟨[.old 0], _, [], [], [5]⟩, ⟨[.op 0 0], _, [], [0], [6]⟩, ⟨[.op 1 0], _, [], [0, 1], [7]⟩, ⟨[.op 2 0, .old 0], _, [], [0, 1, 2], [8]⟩, ⟨[.op 2 0, .op 3 0], _, [], List.range 4, [9]⟩, ⟨[.op 2 0, .op 4 0], _, [], List.range 5, [10]⟩]) (F := [.old 0, .old 1, .op 5 0]) hst hb follows
    (o_p rfl (ob_move rfl rfl u_0) <|
     o_p rfl (ob_lt rfl rfl u_0 c_i) <|
     o_p rfl (ob_move rfl rfl u_0) <|
     o_g (g_f rfl rfl rfl (fun hG => ob_move rfl rfl u_0)) <|
     o_g (g_f rfl rfl rfl (fun hG => ob_gt rfl rfl (Opd.gd hG u_0) c_i)) <|
     o_p rfl (ob_por rfl rfl u_0 (fun hz => (Opd.gd (bNF hz) u_1))) <|
     o_n) (by kernel_rfl) (fun a g hst hb => ?_)
  refine wp_cond_split (hst.bool 2 rfl) (fun hc1 => ?_) (fun hc1 => ?_)
  · replace H0 := ite_t hc1 H0
    refine r_s (L := []) (T := [⟨[], _, [], [], [2]⟩]) (F := [.op 0 0]) (hst.pick [] rfl) hb follows
      (o_p rfl (ob_assign rfl rfl c_i) <|
       o_n) (by kernel_rfl) (fun a g hst hb => ?_)
    refine wp_ret ?_
    refine then_r ?_
    obtain rfl := Option.some.inj H0
    exact endR1 rfl hst hb (res_tmp (s := 2)) (hst.at 0 rfl)
  · replace H0 := ite_f hc1 H0
    refine wp_skip ?_
    refine then_n ?_
    obtain ⟨e2, h3, H0⟩ := of_bind H0
    refine r_s (L := [(0, _), (3, _)]) (T := [⟨[.old 1], _, [], [], [11]⟩, ⟨[.old 0], _, [], [], [12]⟩, ⟨[.op 0 0, .op 1 0], _, [], [0, 1], [13]⟩, ⟨[.op 2 0], _, [], [0, 1, 2], [14]⟩, ⟨[.op 3 0], _, [], List.range 4, [2]⟩]) (F := [.op 4 0]) (hst.pick [0, 1] rfl) hb follows
      (o_p rfl (ob_move rfl rfl u_0) <|
       o_p rfl (ob_move rfl rfl u_0) <|
       o_p rfl (ob_indexAddr Tryd.underlying86 sz_3 rfl rfl u_0 u_1 h3) <|
       o_p rfl (ob_load ty_3 rfl rfl u_0) <|
       o_p rfl (ob_assign rfl rfl u_0) <|
       o_n) (by kernel_rfl) (fun a g hst hb => ?_)
    refine wp_ret ?_
    obtain rfl := Option.some.inj H0
    exact endR1 rfl hst hb (res_tmp (s := 2)) (hst.at 0 rfl)
end Go.CL

set_option linter.unusedVariables false
set_option linter.unusedSimpArgs false
set_option maxRecDepth 100000
namespace Go.CL
open Go Go.RowKit Go.Proofs
theorem moietyref04_Fields_ok (a0 : Int) {r : ByteArray} (h : moietyref04_Fields a0 = some r) : FnOk Tryd.prog 81 [(pInt .i64 a0)] (pStr r) := by
  have H0 := h
  unfold moietyref04_Fields at H0
  clear h
  refine fn_ok (N := 15) Tryd.func81 rfl rfl (Nat.le_of_ble_eq_true rfl) rfl rfl (fun a g0 hst hb => ?_)
  refine r_s (L := [(0, _)]) (T := [⟨[], _, [], [], [2]⟩]) (F := [.old 0]) hst hb follows
    (o_p rfl (ob_assign rfl rfl c_s) <|
     o_n) (by kernel_rfl) (fun a g hst hb => ?_)
  refine r_s (L := [(0, _)]) (T := [⟨[], _, [], [], [4]⟩, ⟨[.op 0 0], _, [], [0], [3]⟩]) (F := [.old 0, .op 1 0]) hst hb follows
    (o_p rfl (ob_lit te_93 (xs := [.const (.string ⟨#[]⟩), .const (.string ⟨#[109]⟩), .const (.string ⟨#[]⟩), .const (.string ⟨#[]⟩), .const (.string ⟨#[]⟩), .const (.string ⟨#[115]⟩), .const (.string ⟨#[115]⟩), .const (.string ⟨#[110]⟩), .const (.string ⟨#[110]⟩), .const (.string ⟨#[110]⟩), .const (.string ⟨#[110]⟩), .const (.string ⟨#[110]⟩), .const (.string ⟨#[110]⟩), .const (.string ⟨#[120]⟩), .const (.string ⟨#[120]⟩), .const (.string ⟨#[120]⟩), .const (.string ⟨#[120]⟩), .const (.string ⟨#[120]⟩), .const (.string ⟨#[115]⟩), .const (.string ⟨#[115]⟩), .const (.string ⟨#[115]⟩), .const (.string ⟨#[120, 115]⟩)]) (.cons c_s (.cons c_s (.cons c_s (.cons c_s (.cons c_s (.cons c_s (.cons c_s (.cons c_s (.cons c_s (.cons c_s (.cons c_s (.cons c_s (.cons c_s (.cons c_s (.cons c_s (.cons c_s (.cons c_s (.cons c_s (.cons c_s (.cons c_s (.cons c_s (.cons c_s .nil)))))))))))))))))))))) (by decide) rfl rfl) <|
     o_p rfl (ob_assign rfl rfl u_0) <|
     o_n) (by kernel_rfl) (fun a g hst hb => ?_)
  refine wp_seq ?_
  refine r_s (L := [(0, _), (3, _)]) (T := [⟨[.old 0], _, [], [], [5]⟩, ⟨[.op 0 0], _, [], [0], [6]⟩, ⟨[.op 1 0], _, [], [0, 1], [7]⟩, ⟨[.op 2 0, .old 0], _, [], [0, 1, 2], [8]⟩, ⟨[.op 2 0, .op 3 0], _, [], List.range 4, [9]⟩, ⟨[.op 2 0, .op 4 0], _, [], List.range 5, [10]⟩]) (F := [.old 0, .old 1, .op 5 0]) hst hb follows
    (o_p rfl (ob_move rfl rfl u_0) <|
     o_p rfl (ob_lt rfl rfl u_0 c_i) <|
     o_p rfl (ob_move rfl rfl u_0) <|
     o_g (g_f rfl rfl rfl (fun hG => ob_move rfl rfl u_0)) <|
     o_g (g_f rfl rfl rfl (fun hG => ob_gt rfl rfl (Opd.gd hG u_0) c_i)) <|
     o_p rfl (ob_por rfl rfl u_0 (fun hz => (Opd.gd (bNF hz) u_1))) <|
     o_n) (by kernel_rfl) (fun a g hst hb => ?_)
  refine wp_cond_split (hst.bool 2 rfl) (fun hc1 => ?_) (fun hc1 => ?_)
  · replace H0 := ite_t hc1 H0
    refine r_s (L := []) (T := [⟨[], _, [], [], [2]⟩]) (F := [.op 0 0]) (hst.pick [] rfl) hb follows
      (o_p rfl (ob_assign rfl rfl c_s) <|
       o_n) (by kernel_rfl) (fun a g hst hb => ?_)
    refine wp_ret ?_
    refine then_r ?_
    obtain rfl := Option.some.inj H0
    exact endR1 rfl hst hb (res_tmp (s := 2)) (hst.at 0 rfl)
  · replace H0 := ite_f hc1 H0
    refine wp_skip ?_
    refine then_n ?_
    obtain ⟨e2, h3, H0⟩ := of_bind H0
    refine r_s (L := [(0, _), (3, _)]) (T := [⟨[.old 1], _, [], [], [11]⟩, ⟨[.old 0], _, [], [], [12]⟩, ⟨[.op 0 0, .op 1 0], _, [], [0, 1], [13]⟩, ⟨[.op 2 0], _, [], [0, 1, 2], [14]⟩, ⟨[.op 3 0], _, [], List.range 4, [2]⟩]) (F := [.op 4 0]) (hst.pick [0, 1] rfl) hb follows
      (o_p rfl (ob_move rfl rfl u_0) <|
       o_p rfl (ob_move rfl rfl u_0) <|
       o_p rfl (ob_indexAddr Tryd.underlying93 sz_9 rfl rfl u_0 u_1 h3) <|
       o_p rfl (ob_load ty_9 rfl rfl u_0) <|
       o_p rfl (ob_assign rfl rfl u_0) <|
       o_n) (by kernel_rfl) (fun a g hst hb => ?_)
    refine wp_ret ?_
    obtain rfl := Option.some.inj H0
    exact endR1 rfl hst hb (res_tmp (s := 2)) (hst.at 0 rfl)
end Go.CL

set_option linter.unusedVariables false
set_option linter.unusedSimpArgs false
set_option maxRecDepth 100000
namespace Go.CL
open Go Go.RowKit Go.Proofs
theorem moietyref04_Has_ok (a0 : Int) (a1 : Int) {r : Bool} (h : moietyref04_Has a0 a1 = some r) : FnOk Tryd.prog 40 [(pInt .i64 a0), (pInt .u8 a1)] (pBool r) := by
  have H0 := h
  unfold moietyref04_Has at H0
  clear h
  refine fn_ok (N := 20) Tryd.func40 rfl rfl (Nat.le_of_ble_eq_true rfl) rfl rfl (fun a g0 hst hb => ?_)
  refine r_s (L := [(0, _), (1, _)]) (T := [⟨[], _, [], [], [4]⟩]) (F := [.old 0, .old 1]) hst hb follows
    (o_p rfl (ob_assign rfl rfl c_b) <|
     o_n) (by kernel_rfl) (fun a g hst hb => ?_)
  obtain ⟨r1, h2, H0⟩ := of_bind H0
  refine r_s (L := [(0, _), (1, _)]) (T := [⟨[.old 0], _, [], [], [7]⟩, ⟨[.op 0 0], _, [], [0], [8]⟩, ⟨[.op 1 0], _, [], [0, 1], [5]⟩]) (F := [.old 1, .op 2 0]) hst hb follows
    (o_p rfl (ob_move rfl rfl u_0) <|
     o_p rfl (ob_call en_81 (moietyref04_Fields_ok _ h2) rfl rfl (.cons u_0 .nil)) <|
     o_p rfl (ob_assign rfl rfl u_0) <|
     o_n) (by kernel_rfl) (fun a g hst hb => ?_)
  refine wp_seq ?_
  refine r_s (L := [(1, _), (5, _)]) (T := [⟨[], _, [], [], [6]⟩]) (F := [.old 0, .old 1, .op 0 0]) hst hb follows
    (o_p rfl (ob_assign rfl rfl c_i) <|
     o_n) (by kernel_rfl) (fun a g hst hb => ?_)
  obtain ⟨z8, hz1, H0⟩ := of_bind H0
  refine wp_cut (fun a w => ∃ (g : G), w = g.w ∧ St 20 [] a g ∧ Base g0 g ∧ (.inr ()) = z8) ?_ ?_
  · rintro a w ⟨g, rfl, hst, hb, rfl⟩
    refine then_n ?_
    refine r_s (L := []) (T := [⟨[], _, [], [], [4]⟩]) (F := [.op 0 0]) hst hb follows
      (o_p rfl (ob_assign rfl rfl c_b) <|
       o_n) (by kernel_rfl) (fun a g hst hb => ?_)
    refine wp_ret ?_
    obtain rfl := Option.some.inj H0
    exact endR1 rfl hst hb (res_tmp (s := 4)) (hst.at 0 rfl)
  · refine wp_block ?_
    refine wp_loop_ghost (fun n a w => ∃ (x3 : Int) (g : G), w = g.w ∧ St 20 [(1, (pInt .u8 a1)), (5, (pStr r1)), (6, (pInt .i64 x3))] a g ∧ Base g0 g ∧ moietyref04_Has_l1 a1 r1 n x3 = some z8) (Int.toNat ((r1.size : Int) - (0 : Int)) + 1) ⟨(0 : Int), g, rfl, (hst.pick [0, 1, 2] rfl), hb, hz1⟩ (fun n a w hI => ?_)
    obtain ⟨x3, g, rfl, hst, hb, H1⟩ := hI
    cases n with
    | zero => exact absurd H1 (by simp [moietyref04_Has_l1])
    | succ n =>
      rw [moietyref04_Has_l1] at H1
      refine wp_seq ?_
      refine r_s (L := [(1, _), (5, _), (6, _)]) (T := [⟨[.old 2], _, [], [], [9]⟩, ⟨[.old 1], _, [], [], [10]⟩, ⟨[.op 1 0], _, [], [1], [11]⟩, ⟨[.op 0 0, .op 2 0], _, [], [0, 1, 2], [12]⟩]) (F := [.old 0, .old 1, .old 2, .op 3 0]) hst hb follows
        (o_p rfl (ob_move rfl rfl u_0) <|
         o_p rfl (ob_move rfl rfl u_0) <|
         o_p rfl (ob_lenS Tryd.underlying9 rfl rfl u_0) <|
         o_p rfl (ob_lt rfl rfl u_0 u_1) <|
         o_n) (by kernel_rfl) (fun a g hst hb => ?_)
      refine wp_cond_split (hst.bool 3 rfl) (fun hc4 => ?_) (fun hc4 => ?_)
      · replace H1 := ite_t hc4 H1
        refine wp_skip ?_
        refine then_n ?_
        refine wp_seq ?_
        refine wp_block ?_
        obtain ⟨b5, h6, H1⟩ := of_bind H1
        refine r_s (L := [(1, _), (5, _), (6, _)]) (T := [⟨[.old 1], _, [], [], [15]⟩, ⟨[.old 2], _, [], [], [16]⟩, ⟨[.op 0 0, .op 1 0], _, [], [0, 1], [17]⟩, ⟨[.old 0], _, [], [], [18]⟩, ⟨[.op 2 0, .op 3 0], _, [], List.range 4, [19]⟩]) (F := [.old 0, .old 1, .old 2, .op 4 0]) (hst.pick [0, 1, 2] rfl) hb follows
          (o_p rfl (ob_move rfl rfl u_0) <|
           o_p rfl (ob_move rfl rfl u_0) <|
           o_p rfl (ob_sidx Tryd.underlying9 rfl rfl u_0 u_1 h6) <|
           o_p rfl (ob_move rfl rfl u_0) <|
           o_p rfl (ob_eq rfl rfl u_0 u_1) <|
           o_n) (by kernel_rfl) (fun a g hst hb => ?_)
        refine wp_cond_split (hst.bool 3 rfl) (fun hc7 => ?_) (fun hc7 => ?_)
        · replace H1 := ite_t hc7 H1
          refine r_s (L := []) (T := [⟨[], _, [], [], [4]⟩]) (F := [.op 0 0]) (hst.pick [] rfl) hb follows
            (o_p rfl (ob_assign rfl rfl c_b) <|
             o_n) (by kernel_rfl) (fun a g hst hb => ?_)
          refine wp_ret ?_
          refine inBlock_r ?_
          refine then_r ?_
          refine then_r ?_
          refine inBlock_r ?_
          refine then_r ?_
          refine then_r ?_
          obtain rfl := Option.some.inj H1
          obtain rfl := Option.some.inj H0
          exact endR1 rfl hst hb (res_tmp (s := 4)) (hst.at 0 rfl)
        · replace H1 := ite_f hc7 H1
          refine wp_skip ?_
          refine inBlock_n ?_
          refine then_n ?_
          refine r_g (L := [(1, _), (5, _), (6, _)]) (T := [⟨[.old 2], _, [], [], [13]⟩, ⟨[.op 0 0], _, [], [0], [14]⟩, ⟨[.op 1 0], _, [], [0, 1], [6]⟩]) (F := [.old 0, .old 1, .op 2 0]) (hst.pick [0, 1, 2] rfl) hb follows
            (o_p rfl (ob_move rfl rfl u_0) <|
             o_p rfl (ob_add rfl rfl u_0 c_i rfl) <|
             o_p rfl (ob_assign rfl rfl u_0) <|
             o_n) (by kernel_rfl) (fun a g hst hb => ?_)
          exact ⟨n, Nat.lt_succ_self _, (IntKind.i64.wrap (x3 + (1 : Int))), g, rfl, (hst.pick [0, 1, 2] rfl), hb, H1⟩
      · replace H1 := ite_f hc4 H1
        refine wp_exit ?_
        refine then_e ?_
        refine then_e ?_
        refine inBlock_e ?_
        exact ⟨g, rfl, (hst.pick [] rfl), hb, Option.some.inj H1⟩
end Go.CL

set_option linter.unusedVariables false
set_option linter.unusedSimpArgs false
set_option maxRecDepth 100000
namespace Go.CL
open Go Go.RowKit Go.Proofs
theorem moietyref04_Check_ok (a0 : api_Act) {r : Int} (h : moietyref04_Check a0 = some r) : FnOk Tryd.prog 19 [(k_api_Act.pd a0)] (pInt .i64 r) := by
  have H0 := h
  unfold moietyref04_Check at H0
  clear h
  refine fn_ok (N := 113) Tryd.func19 rfl rfl (Nat.le_of_ble_eq_true rfl) rfl rfl (fun a g0 hst hb => ?_)
  refine r_s (L := [(0, _)]) (T := [⟨[.old 0], _, [], [], [1]⟩, ⟨[], _, [], [], [2]⟩]) (F := [.op 0 0]) hst hb follows
    (o_p rfl (ob_box1 rfl rfl u_0) <|
     o_p rfl (ob_assign rfl rfl c_i) <|
     o_n) (by kernel_rfl) (fun a g hst hb => ?_)
  refine wp_seq ?_
  refine r_s (L := [(1, _)]) (T := [⟨[.old 0], _, [], [], [3]⟩, ⟨[.op 0 0], _, [], [0], [4]⟩, ⟨[.op 1 0], _, [], [0, 1], [5]⟩, ⟨[.op 2 0], _, [], [0, 1, 2], [6]⟩, ⟨[.op 3 0, .old 0], _, [], List.range 4, [7]⟩, ⟨[.op 3 0, .op 4 0], _, [], List.range 5, [8]⟩, ⟨[.op 3 0, .op 5 0], _, [], List.range 6, [9]⟩, ⟨[.op 3 0, .op 6 0], _, [], List.range 7, [10]⟩]) (F := [.old 0, .op 7 0]) hst hb follows
    (o_p rfl (ob_fieldAddr fl_27_0 rfl rfl u_0) <|
     o_p rfl (ob_load ty_3 rfl rfl u_0) <|
     o_p rfl (ob_lt rfl rfl u_0 c_i) <|
     o_p rfl (ob_move rfl rfl u_0) <|
     o_g (g_f rfl rfl rfl (fun hG => ob_fieldAddr fl_27_0 rfl rfl u_0)) <|
     o_g (g_f rfl rfl rfl (fun hG => ob_load ty_3 rfl rfl (Opd.gd hG u_0))) <|
     o_g (g_f rfl rfl rfl (fun hG => ob_gt rfl rfl (Opd.gd hG u_0) c_i)) <|
     o_p rfl (ob_por rfl rfl u_0 (fun hz => (Opd.gd (bNF hz) u_1))) <|
     o_n) (by kernel_rfl) (fun a g hst hb => ?_)
  refine wp_cond_split (hst.bool 1 rfl) (fun hc1 => ?_) (fun hc1 => ?_)
  · replace H0 := ite_t hc1 H0
    refine r_s (L := []) (T := [⟨[], _, [], [], [2]⟩]) (F := [.op 0 0]) (hst.pick [] rfl) hb follows
      (o_p rfl (ob_assign rfl rfl c_i) <|
       o_n) (by kernel_rfl) (fun a g hst hb => ?_)
    refine wp_ret ?_
    refine then_r ?_
    obtain rfl := Option.some.inj H0
    exact endR1 rfl hst hb (res_tmp (s := 2)) (hst.at 0 rfl)
  · replace H0 := ite_f hc1 H0
    refine wp_skip ?_
    refine then_n ?_
    refine wp_seq ?_
    refine r_s (L := [(1, _)]) (T := [⟨[.old 0], _, [], [], [11]⟩, ⟨[.op 0 0], _, [], [0], [12]⟩, ⟨[.op 1 0], _, [], [0, 1], [13]⟩, ⟨[.op 2 0], _, [], [0, 1, 2], [14]⟩, ⟨[.op 3 0], _, [], List.range 4, [15]⟩, ⟨[.op 4 0, .old 0], _, [], List.range 5, [16]⟩, ⟨[.op 4 0, .op 5 0], _, [], List.range 6, [17]⟩, ⟨[.op 4 0, .op 6 0], _, [], List.range 7, [18]⟩, ⟨[.op 4 0, .op 7 0], _, [], List.range 8, [19]⟩, ⟨[.op 4 0, .op 8 0], _, [], List.range 9, [20]⟩]) (F := [.old 0, .op 9 0]) (hst.pick [0] rfl) hb follows
      (o_p rfl (ob_fieldAddr fl_27_1 rfl rfl u_0) <|
       o_p rfl (ob_load ty_9 rfl rfl u_0) <|
       o_p rfl (ob_lenS Tryd.underlying9 rfl rfl u_0) <|
       o_p rfl (ob_lt rfl rfl u_0 c_i) <|
       o_p rfl (ob_move rfl rfl u_0) <|
       o_g (g_f rfl rfl rfl (fun hG => ob_fieldAddr fl_27_1 rfl rfl u_0)) <|
       o_g (g_f rfl rfl rfl (fun hG => ob_load ty_9 rfl rfl (Opd.gd hG u_0))) <|
       o_g (g_f rfl rfl rfl (fun hG => ob_lenS Tryd.underlying9 rfl rfl (Opd.gd hG u_0))) <|
       o_g (g_f rfl rfl rfl (fun hG => ob_gt rfl rfl (Opd.gd hG u_0) c_i)) <|
       o_p rfl (ob_por rfl rfl u_0 (fun hz => (Opd.gd (bNF hz) u_1))) <|
       o_n) (by kernel_rfl) (fun a g hst hb => ?_)
    refine wp_cond_split (hst.bool 1 rfl) (fun hc2 => ?_) (fun hc2 => ?_)
    · replace H0 := ite_t hc2 H0
      refine r_s (L := []) (T := [⟨[], _, [], [], [2]⟩]) (F := [.op 0 0]) (hst.pick [] rfl) hb follows
        (o_p rfl (ob_assign rfl rfl c_i) <|
         o_n) (by kernel_rfl) (fun a g hst hb => ?_)
      refine wp_ret ?_
      refine then_r ?_
      obtain rfl := Option.some.inj H0
      exact endR1 rfl hst hb (res_tmp (s := 2)) (hst.at 0 rfl)
    · replace H0 := ite_f hc2 H0
      refine wp_skip ?_
      refine then_n ?_
      refine wp_seq ?_
      obtain ⟨r3, h4, H0⟩ := of_bind H0; obtain ⟨r5, h6, H0⟩ := of_bind H0; obtain ⟨r7, h8, H0⟩ := of_bind H0; obtain ⟨r9, h10, H0⟩ := of_bind H0
      refine r_s (L := [(1, _)]) (T := ⟨[.old 0], _, [], [], [21]⟩ :: ⟨[.op 0 0], _, [], [0], [22]⟩ :: ⟨[.op 1 0], _, [], [0, 1], [23]⟩ :: ⟨[.op 2 0], _, [], [0, 1, 2], [24]⟩ :: ⟨[.op 3 0], _, [], List.range 4, [25]⟩ :: ⟨[.op 4 0, .old 0], _, [], List.range 5, [26]⟩ :: ⟨[.op 4 0, .op 5 0], _, [], List.range 6, [27]⟩ :: ⟨[.op 4 0, .op 6 0], _, [], List.range 7, [28]⟩ :: ⟨[.op 4 0, .op 7 0], _, [], List.range 8, [29]⟩ :: ⟨[.op 8 0], _, [], List.range 9, [30]⟩ :: ⟨[.op 9 0, .old 0], _, [], List.range 10, [31]⟩ :: ⟨[.op 9 0, .op 10 0], _, [], List.range 11, [32]⟩ :: ⟨[.op 9 0, .op 11 0], _, [], List.range 12, [33]⟩ :: ⟨[.op 9 0, .op 12 0], _, [], List.range 13, [34]⟩ :: ⟨[.op 9 0, .op 13 0], _, [], List.range 14, [35]⟩ :: ⟨[.op 14 0, .old 0], _, [], List.range 15, [36]⟩ :: ⟨[.op 14 0, .op 15 0], _, [], List.range 16, [37]⟩ :: ⟨[.op 14 0, .op 16 0], _, [], List.range 17, [38]⟩ :: ⟨[.op 14 0, .op 17 0], _, [], List.range 18, [39]⟩ :: ⟨[.op 9 0, .op 14 0, .op 18 0], _, [], List.range 19, [40]⟩ :: ⟨[.op 9 0, .op 19 0], _, [], List.range 20, [41]⟩ :: ⟨[.op 20 0], _, [], List.range 21, [42]⟩ :: ⟨[.op 21 0, .old 0], _, [], List.range 22, [43]⟩ :: ⟨[.op 21 0, .op 22 0], _, [], List.range 23, [44]⟩ :: ⟨[.op 21 0, .op 23 0], _, [], List.range 24, [45]⟩ :: ⟨[.op 21 0, .op 24 0], _, [], List.range 25, [46]⟩ :: ⟨[.op 21 0, .op 25 0], _, [], List.range 26, [47]⟩ :: ⟨[.op 26 0, .old 0], _, [], List.range 27, [48]⟩ :: ⟨[.op 26 0, .op 27 0], _, [], List.range 28, [49]⟩ :: ⟨[.op 26 0, .op 28 0], _, [], List.range 29, [50]⟩ :: ⟨[.op 21 0, .op 26 0, .op 29 0], _, [], List.range 30, [51]⟩ :: ⟨[.op 21 0, .op 30 0], _, [], List.range 31, [52]⟩ :: []) (F := [.old 0, .op 31 0]) (hst.pick [0] rfl) hb follows
        (o_p rfl (ob_fieldAddr fl_27_0 rfl rfl u_0) <|
         o_p rfl (ob_load ty_3 rfl rfl u_0) <|
         o_p rfl (ob_call en_40 (moietyref04_Has_ok _ _ h4) rfl rfl (.cons u_0 (.cons c_i .nil))) <|
         o_p rfl (ob_not rfl rfl u_0) <|
         o_p rfl (ob_move rfl rfl u_0) <|
         o_g (g_t rfl rfl rfl (fun hG => ob_fieldAddr fl_27_2 rfl rfl u_0)) <|
         o_g (g_t rfl rfl rfl (fun hG => ob_load ty_2 rfl rfl (Opd.gd hG u_0))) <|
         o_g (g_t rfl rfl rfl (fun hG => ob_ne rfl rfl (Opd.gd hG u_0) c_i)) <|
         o_p rfl (ob_pand rfl rfl u_0 (fun hz => (Opd.gd hz u_1))) <|
         o_p rfl (ob_move rfl rfl u_0) <|
         o_g (g_f rfl rfl rfl (fun hG => ob_fieldAddr fl_27_0 rfl rfl u_0)) <|
         o_g (g_f rfl rfl rfl (fun hG => ob_load ty_3 rfl rfl (Opd.gd hG u_0))) <|
         o_g (g_f rfl rfl rfl (fun hG => ob_call en_40 (moietyref04_Has_ok _ _ (gd_true h6 hG)) rfl rfl (.cons (Opd.gd hG u_0) (.cons c_i .nil)))) <|
         o_g (g_f rfl rfl rfl (fun hG => ob_not rfl rfl (Opd.gd hG u_0))) <|
         o_g (g_f rfl rfl rfl (fun hG => ob_move rfl rfl (Opd.gd hG u_0))) <|
         o_g (g_ti rfl rfl rfl (fun hG => ob_fieldAddr fl_27_3 rfl rfl u_0)) <|
         o_g (g_ti rfl rfl rfl (fun hG => ob_load ty_22 rfl rfl (Opd.gd hG u_0))) <|
         o_g (g_ti rfl rfl rfl (fun hG => ob_call en_32 (moietyref01_Same_ok _ _ (gd_true h8 hG)) rfl rfl (.cons (Opd.gd hG u_0) (.cons c_f .nil)))) <|
         o_g (g_ti rfl rfl rfl (fun hG => ob_not rfl rfl (Opd.gd hG u_0))) <|
         o_g (g_f rfl rfl rfl (fun hG => ob_pand rfl rfl (Opd.gd hG u_0) (fun hz => (Opd.gd (bA hG hz) u_1)))) <|
         o_p rfl (ob_por rfl rfl u_0 (fun hz => (Opd.gd (bNF hz) u_1))) <|
         o_p rfl (ob_move rfl rfl u_0) <|
         o_g (g_f rfl rfl rfl (fun hG => ob_fieldAddr fl_27_0 rfl rfl u_0)) <|
         o_g (g_f rfl rfl rfl (fun hG => ob_load ty_3 rfl rfl (Opd.gd hG u_0))) <|
         o_g (g_f rfl rfl rfl (fun hG => ob_call en_40 (moietyref04_Has_ok _ _ (gd_true h10 hG)) rfl rfl (.cons (Opd.gd hG u_0) (.cons c_i .nil)))) <|
         o_g (g_f rfl rfl rfl (fun hG => ob_not rfl rfl (Opd.gd hG u_0))) <|
         o_g (g_f rfl rfl rfl (fun hG => ob_move rfl rfl (Opd.gd hG u_0))) <|
         o_g (g_ti rfl rfl rfl (fun hG => ob_fieldAddr fl_27_4 rfl rfl u_0)) <|
         o_g (g_ti rfl rfl rfl (fun hG => ob_load ty_9 rfl rfl (Opd.gd hG u_0))) <|
         o_g (g_ti rfl rfl rfl (fun hG => ob_sne rfl rfl (Opd.gd hG u_0) c_s)) <|
         o_g (g_f rfl rfl rfl (fun hG => ob_pand rfl rfl (Opd.gd hG u_0) (fun hz => (Opd.gd (bA hG hz) u_1)))) <|
         o_p rfl (ob_por rfl rfl u_0 (fun hz => (Opd.gd (bNF hz) u_1))) <|
         o_n) (by kernel_rfl) (fun a g hst hb => ?_)
      refine wp_cond_split (hst.bool 1 rfl) (fun hc11 => ?_) (fun hc11 => ?_)
      · replace H0 := ite_t hc11 H0
        refine r_s (L := []) (T := [⟨[], _, [], [], [2]⟩]) (F := [.op 0 0]) (hst.pick [] rfl) hb follows
          (o_p rfl (ob_assign rfl rfl c_i) <|
           o_n) (by kernel_rfl) (fun a g hst hb => ?_)
        refine wp_ret ?_
        refine then_r ?_
        obtain rfl := Option.some.inj H0
        exact endR1 rfl hst hb (res_tmp (s := 2)) (hst.at 0 rfl)
      · replace H0 := ite_f hc11 H0
        refine wp_skip ?_
        refine then_n ?_
        refine wp_seq ?_
        obtain ⟨r12, h13, H0⟩ := of_bind H0
        refine r_s (L := [(1, _)]) (T := [⟨[.old 0], _, [], [], [53]⟩, ⟨[.op 0 0], _, [], [0], [54]⟩, ⟨[.op 1 0], _, [], [0, 1], [55]⟩, ⟨[.op 2 0], _, [], [0, 1, 2], [56]⟩, ⟨[.op 3 0, .old 0], _, [], List.range 4, [57]⟩, ⟨[.op 3 0, .op 4 0], _, [], List.range 5, [58]⟩, ⟨[.op 3 0], _, [], List.range 4, [59]⟩, ⟨[.op 3 0, .op 5 0, .op 6 0], _, [], List.range 7, [60]⟩, ⟨[.op 3 0, .op 7 0], _, [], List.range 8, [61]⟩, ⟨[.op 3 0, .op 8 0], _, [], List.range 9, [62]⟩]) (F := [.old 0, .op 9 0]) (hst.pick [0] rfl) hb follows
          (o_p rfl (ob_fieldAddr fl_27_0 rfl rfl u_0) <|
           o_p rfl (ob_load ty_3 rfl rfl u_0) <|
           o_p rfl (ob_ne rfl rfl u_0 c_i) <|
           o_p rfl (ob_move rfl rfl u_0) <|
           o_g (g_t rfl rfl rfl (fun hG => ob_fieldAddr fl_27_5 rfl rfl u_0)) <|
           o_g (g_t rfl rfl rfl (fun hG => ob_load ty_25 rfl rfl (Opd.gd hG u_0))) <|
           o_g (g_t rfl rfl rfl (fun hG => bd_25_ rfl rfl )) <|
           o_g (g_t rfl rfl rfl (fun hG => ob_call en_13 (moietyref03_Same_ok _ _ (gd_true h13 hG)) rfl rfl (.cons (Opd.gd hG u_0) (.cons (Opd.gd hG u_1) .nil)))) <|
           o_g (g_t rfl rfl rfl (fun hG => ob_not rfl rfl (Opd.gd hG u_0))) <|
           o_p rfl (ob_pand rfl rfl u_0 (fun hz => (Opd.gd hz u_1))) <|
           o_n) (by kernel_rfl) (fun a g hst hb => ?_)
        refine wp_cond_split (hst.bool 1 rfl) (fun hc14 => ?_) (fun hc14 => ?_)
        · replace H0 := ite_t hc14 H0
          refine r_s (L := []) (T := [⟨[], _, [], [], [2]⟩]) (F := [.op 0 0]) (hst.pick [] rfl) hb follows
            (o_p rfl (ob_assign rfl rfl c_i) <|
             o_n) (by kernel_rfl) (fun a g hst hb => ?_)
          refine wp_ret ?_
          refine then_r ?_
          obtain rfl := Option.some.inj H0
          exact endR1 rfl hst hb (res_tmp (s := 2)) (hst.at 0 rfl)
        · replace H0 := ite_f hc14 H0
          refine wp_skip ?_
          refine then_n ?_
          refine wp_seq ?_
          obtain ⟨r15, h16, H0⟩ := of_bind H0; obtain ⟨r17, h18, H0⟩ := of_bind H0
          refine r_s (L := [(1, _)]) (T := ⟨[.old 0], _, [], [], [63]⟩ :: ⟨[.op 0 0], _, [], [0], [64]⟩ :: ⟨[.op 1 0], _, [], [0, 1], [65]⟩ :: ⟨[.op 2 0], _, [], [0, 1, 2], [66]⟩ :: ⟨[.op 3 0], _, [], List.range 4, [67]⟩ :: ⟨[.op 4 0, .old 0], _, [], List.range 5, [68]⟩ :: ⟨[.op 4 0, .op 5 0], _, [], List.range 6, [69]⟩ :: ⟨[.op 4 0, .op 6 0], _, [], List.range 7, [70]⟩ :: ⟨[.op 4 0, .op 7 0], _, [], List.range 8, [71]⟩ :: ⟨[.op 4 0, .op 8 0], _, [], List.range 9, [72]⟩ :: ⟨[.op 9 0], _, [], List.range 10, [73]⟩ :: ⟨[.op 10 0, .old 0], _, [], List.range 11, [74]⟩ :: ⟨[.op 10 0, .op 11 0], _, [], List.range 12, [75]⟩ :: ⟨[.op 10 0, .op 12 0], _, [], List.range 13, [76]⟩ :: ⟨[.op 10 0, .op 13 0], _, [], List.range 14, [77]⟩ :: ⟨[.op 10 0, .op 14 0], _, [], List.range 15, [78]⟩ :: ⟨[.op 15 0, .old 0], _, [], List.range 16, [79]⟩ :: ⟨[.op 15 0, .op 16 0], _, [], List.range 17, [80]⟩ :: ⟨[.op 15 0, .op 17 0], _, [], List.range 18, [81]⟩ :: ⟨[.op 15 0, .op 18 0], _, [], List.range 19, [82]⟩ :: ⟨[.op 10 0, .op 15 0, .op 19 0], _, [], List.range 20, [83]⟩ :: ⟨[.op 10 0, .op 20 0], _, [], List.range 21, [84]⟩ :: []) (F := [.old 0, .op 21 0]) (hst.pick [0] rfl) hb follows
            (o_p rfl (ob_fieldAddr fl_27_0 rfl rfl u_0) <|
             o_p rfl (ob_load ty_3 rfl rfl u_0) <|
             o_p rfl (ob_call en_30 (moietyref04_On_ok _ h16) rfl rfl (.cons u_0 .nil)) <|
             o_p rfl (ob_eq rfl rfl u_0 c_i) <|
             o_p rfl (ob_move rfl rfl u_0) <|
             o_g (g_t rfl rfl rfl (fun hG => ob_fieldAddr fl_27_4 rfl rfl u_0)) <|
             o_g (g_t rfl rfl rfl (fun hG => ob_load ty_9 rfl rfl (Opd.gd hG u_0))) <|
             o_g (g_t rfl rfl rfl (fun hG => ob_lenS Tryd.underlying9 rfl rfl (Opd.gd hG u_0))) <|
             o_g (g_t rfl rfl rfl (fun hG => ob_gt rfl rfl (Opd.gd hG u_0) c_i)) <|
             o_p rfl (ob_pand rfl rfl u_0 (fun hz => (Opd.gd hz u_1))) <|
             o_p rfl (ob_move rfl rfl u_0) <|
             o_g (g_f rfl rfl rfl (fun hG => ob_fieldAddr fl_27_0 rfl rfl u_0)) <|
             o_g (g_f rfl rfl rfl (fun hG => ob_load ty_3 rfl rfl (Opd.gd hG u_0))) <|
             o_g (g_f rfl rfl rfl (fun hG => ob_call en_30 (moietyref04_On_ok _ (gd_true h18 hG)) rfl rfl (.cons (Opd.gd hG u_0) .nil))) <|
             o_g (g_f rfl rfl rfl (fun hG => ob_ne rfl rfl (Opd.gd hG u_0) c_i)) <|
             o_g (g_f rfl rfl rfl (fun hG => ob_move rfl rfl (Opd.gd hG u_0))) <|
             o_g (g_ti rfl rfl rfl (fun hG => ob_fieldAddr fl_27_4 rfl rfl u_0)) <|
             o_g (g_ti rfl rfl rfl (fun hG => ob_load ty_9 rfl rfl (Opd.gd hG u_0))) <|
             o_g (g_ti rfl rfl rfl (fun hG => ob_lenS Tryd.underlying9 rfl rfl (Opd.gd hG u_0))) <|
             o_g (g_ti rfl rfl rfl (fun hG => ob_gt rfl rfl (Opd.gd hG u_0) c_i)) <|
             o_g (g_f rfl rfl rfl (fun hG => ob_pand rfl rfl (Opd.gd hG u_0) (fun hz => (Opd.gd (bA hG hz) u_1)))) <|
             o_p rfl (ob_por rfl rfl u_0 (fun hz => (Opd.gd (bNF hz) u_1))) <|
             o_n) (by kernel_rfl) (fun a g hst hb => ?_)
          refine wp_cond_split (hst.bool 1 rfl) (fun hc19 => ?_) (fun hc19 => ?_)
          · replace H0 := ite_t hc19 H0
            refine r_s (L := []) (T := [⟨[], _, [], [], [2]⟩]) (F := [.op 0 0]) (hst.pick [] rfl) hb follows
              (o_p rfl (ob_assign rfl rfl c_i) <|
               o_n) (by kernel_rfl) (fun a g hst hb => ?_)
            refine wp_ret ?_
            refine then_r ?_
            obtain rfl := Option.some.inj H0
            exact endR1 rfl hst hb (res_tmp (s := 2)) (hst.at 0 rfl)
          · replace H0 := ite_f hc19 H0
            refine wp_skip ?_
            refine then_n ?_
            refine wp_seq ?_
            refine r_s (L := [(1, _)]) (T := ⟨[.old 0], _, [], [], [85]⟩ :: ⟨[.op 0 0], _, [], [0], [86]⟩ :: ⟨[.op 1 0], _, [], [0, 1], [87]⟩ :: ⟨[.op 2 0], _, [], [0, 1, 2], [88]⟩ :: ⟨[.op 3 0, .old 0], _, [], List.range 4, [89]⟩ :: ⟨[.op 3 0, .op 4 0], _, [], List.range 5, [90]⟩ :: ⟨[.op 3 0, .op 5 0], _, [], List.range 6, [91]⟩ :: ⟨[.op 3 0, .op 6 0], _, [], List.range 7, [92]⟩ :: ⟨[.op 7 0], _, [], List.range 8, [93]⟩ :: ⟨[.op 8 0, .old 0], _, [], List.range 9, [94]⟩ :: ⟨[.op 8 0, .op 9 0], _, [], List.range 10, [95]⟩ :: ⟨[.op 8 0, .op 10 0], _, [], List.range 11, [96]⟩ :: ⟨[.op 8 0, .op 11 0], _, [], List.range 12, [97]⟩ :: ⟨[.op 12 0, .old 0], _, [], List.range 13, [98]⟩ :: ⟨[.op 12 0, .op 13 0], _, [], List.range 14, [99]⟩ :: ⟨[.op 12 0, .op 14 0], _, [], List.range 15, [100]⟩ :: ⟨[.op 8 0, .op 12 0, .op 15 0], _, [], List.range 16, [101]⟩ :: ⟨[.op 8 0, .op 16 0], _, [], List.range 17, [102]⟩ :: []) (F := [.old 0, .op 17 0]) (hst.pick [0] rfl) hb follows
              (o_p rfl (ob_fieldAddr fl_27_0 rfl rfl u_0) <|
               o_p rfl (ob_load ty_3 rfl rfl u_0) <|
               o_p rfl (ob_eq rfl rfl u_0 c_i) <|
               o_p rfl (ob_move rfl rfl u_0) <|
               o_g (g_f rfl rfl rfl (fun hG => ob_fieldAddr fl_27_0 rfl rfl u_0)) <|
               o_g (g_f rfl rfl rfl (fun hG => ob_load ty_3 rfl rfl (Opd.gd hG u_0))) <|
               o_g (g_f rfl rfl rfl (fun hG => ob_eq rfl rfl (Opd.gd hG u_0) c_i)) <|
               o_p rfl (ob_por rfl rfl u_0 (fun hz => (Opd.gd (bNF hz) u_1))) <|
               o_p rfl (ob_move rfl rfl u_0) <|
               o_g (g_t rfl rfl rfl (fun hG => ob_fieldAddr fl_27_2 rfl rfl u_0)) <|
               o_g (g_t rfl rfl rfl (fun hG => ob_load ty_2 rfl rfl (Opd.gd hG u_0))) <|
               o_g (g_t rfl rfl rfl (fun hG => ob_lt rfl rfl (Opd.gd hG u_0) c_i)) <|
               o_g (g_t rfl rfl rfl (fun hG => ob_move rfl rfl (Opd.gd hG u_0))) <|
               o_g (g_fi rfl rfl rfl (fun hG => ob_fieldAddr fl_27_2 rfl rfl u_0)) <|
               o_g (g_fi rfl rfl rfl (fun hG => ob_load ty_2 rfl rfl (Opd.gd hG u_0))) <|
               o_g (g_fi rfl rfl rfl (fun hG => ob_gt rfl rfl (Opd.gd hG u_0) c_i)) <|
               o_g (g_t rfl rfl rfl (fun hG => ob_por rfl rfl (Opd.gd hG u_0) (fun hz => (Opd.gd (bA hG (bNF hz)) u_1)))) <|
               o_p rfl (ob_pand rfl rfl u_0 (fun hz => (Opd.gd hz u_1))) <|
               o_n) (by kernel_rfl) (fun a g hst hb => ?_)
            refine wp_cond_split (hst.bool 1 rfl) (fun hc20 => ?_) (fun hc20 => ?_)
            · replace H0 := ite_t hc20 H0
              refine r_s (L := []) (T := [⟨[], _, [], [], [2]⟩]) (F := [.op 0 0]) (hst.pick [] rfl) hb follows
                (o_p rfl (ob_assign rfl rfl c_i) <|
                 o_n) (by kernel_rfl) (fun a g hst hb => ?_)
              refine wp_ret ?_
              refine then_r ?_
              obtain rfl := Option.some.inj H0
              exact endR1 rfl hst hb (res_tmp (s := 2)) (hst.at 0 rfl)
            · replace H0 := ite_f hc20 H0
              refine wp_skip ?_
              refine then_n ?_
              refine wp_seq ?_
              obtain ⟨r21, h22, H0⟩ := of_bind H0
              refine r_s (L := [(1, _)]) (T := [⟨[.old 0], _, [], [], [103]⟩, ⟨[.op 0 0], _, [], [0], [104]⟩, ⟨[.op 1 0], _, [], [0, 1], [105]⟩, ⟨[.op 2 0], _, [], [0, 1, 2], [106]⟩]) (F := [.old 0, .op 3 0]) (hst.pick [0] rfl) hb follows
                (o_p rfl (ob_fieldAddr fl_27_3 rfl rfl u_0) <|
                 o_p rfl (ob_load ty_22 rfl rfl u_0) <|
                 o_p rfl (ob_call en_38 (moietyref01_Proper_ok _ h22) rfl rfl (.cons u_0 .nil)) <|
                 o_p rfl (ob_not rfl rfl u_0) <|
                 o_n) (by kernel_rfl) (fun a g hst hb => ?_)
              refine wp_cond_split (hst.bool 1 rfl) (fun hc23 => ?_) (fun hc23 => ?_)
              · replace H0 := ite_t hc23 H0
                refine r_s (L := []) (T := [⟨[], _, [], [], [2]⟩]) (F := [.op 0 0]) (hst.pick [] rfl) hb follows
                  (o_p rfl (ob_assign rfl rfl c_i) <|
                   o_n) (by kernel_rfl) (fun a g hst hb => ?_)
                refine wp_ret ?_
                refine then_r ?_
                obtain rfl := Option.some.inj H0
                exact endR1 rfl hst hb (res_tmp (s := 2)) (hst.at 0 rfl)
              · replace H0 := ite_f hc23 H0
                refine wp_skip ?_
                refine then_n ?_
                refine wp_seq ?_
                refine r_s (L := [(1, _)]) (T := [⟨[.old 0], _, [], [], [107]⟩, ⟨[.op 0 0], _, [], [0], [108]⟩, ⟨[.op 1 0], _, [], [0, 1], [109]⟩]) (F := [.old 0, .op 2 0]) (hst.pick [0] rfl) hb follows
                  (o_p rfl (ob_fieldAddr fl_27_0 rfl rfl u_0) <|
                   o_p rfl (ob_load ty_3 rfl rfl u_0) <|
                   o_p rfl (ob_eq rfl rfl u_0 c_i) <|
                   o_n) (by kernel_rfl) (fun a g hst hb => ?_)
                refine wp_cond_split (hst.bool 1 rfl) (fun hc24 => ?_) (fun hc24 => ?_)
                · replace H0 := ite_t hc24 H0
                  obtain ⟨r25, h26, H0⟩ := of_bind H0
                  refine r_s (L := [(1, _)]) (T := [⟨[.old 0], _, [], [], [110]⟩, ⟨[.op 0 0], _, [], [0], [111]⟩, ⟨[.op 1 0], _, [], [0, 1], [112]⟩, ⟨[.op 2 0], _, [], [0, 1, 2], [2]⟩]) (F := [.op 3 0]) (hst.pick [0] rfl) hb follows
                    (o_p rfl (ob_fieldAddr fl_27_5 rfl rfl u_0) <|
                     o_p rfl (ob_load ty_25 rfl rfl u_0) <|
                     o_p rfl (ob_call en_18 (moietyref03_Check_ok _ h26) rfl rfl (.cons u_0 .nil)) <|
                     o_p rfl (ob_assign rfl rfl u_0) <|
                     o_n) (by kernel_rfl) (fun a g hst hb => ?_)
                  refine wp_ret ?_
                  refine then_r ?_
                  obtain rfl := Option.some.inj H0
                  exact endR1 rfl hst hb (res_tmp (s := 2)) (hst.at 0 rfl)
                · replace H0 := ite_f hc24 H0
                  refine wp_skip ?_
                  refine then_n ?_
                  refine r_s (L := []) (T := [⟨[], _, [], [], [2]⟩]) (F := [.op 0 0]) (hst.pick [] rfl) hb follows
                    (o_p rfl (ob_assign rfl rfl c_i) <|
                     o_n) (by kernel_rfl) (fun a g hst hb => ?_)
                  refine wp_ret ?_
                  obtain rfl := Option.some.inj H0
                  exact endR1 rfl hst hb (res_tmp (s := 2)) (hst.at 0 rfl)
end Go.CL

set_option linter.unusedVariables false
set_option linter.unusedSimpArgs false
set_option maxRecDepth 100000
namespace Go.CL
open Go Go.RowKit Go.Proofs
theorem moietyref05_copied_ok (a0 : api_Record) {r : api_Record} (h : moietyref05_copied a0 = some r) : FnOk Tryd.prog 29 [(k_api_Record.pd a0)] (k_api_Record.pd r) := by
  have H0 := h
  unfold moietyref05_copied at H0
  clear h
  refine fn_ok (N := 9) Tryd.func29 rfl rfl (Nat.le_of_ble_eq_true rfl) rfl rfl (fun a g0 hst hb => ?_)
  refine r_s (L := [(0, _)]) (T := [⟨[.old 0], _, [2], [], [1]⟩, ⟨[], [(2, (pBox k_api_Record 2 (default : api_Record)))], [3], [], [2]⟩]) (F := [.op 0 0, .op 1 0]) hst hb follows
    (o_p rfl (ob_boxM rfl rfl u_0) <|
     o_p rfl (ob_alloc (zs := [.int .i64 0, .int .i64 0, .int .i64 0, .int .i64 0, .float .f64 0, .int .i64 0, .string ByteArray.empty, .slice none 0 0]) (by kernel_rfl) (fun g => zk_api_Record g) rfl rfl) <|
     o_n) (by kernel_rfl) (fun a g hst hb => ?_)
  obtain ⟨h1, H0⟩ := of_ite H0
  refine r_s (L := [(1, _), (2, _)]) (T := [⟨[], _, [4], [], [3]⟩, ⟨[.old 0], _, [], [], [4]⟩, ⟨[.op 1 0], _, [], [1], [5]⟩, ⟨[.op 0 0, .op 2 0], _, [4], [0, 1, 2], [3, 6]⟩, ⟨[.old 0], _, [], List.range 4, [7]⟩, ⟨[.op 3 0, .op 4 0, .old 0], _, [2], List.range 5, [1, 4, 7]⟩]) (F := [.op 5 0, .old 1]) hst hb follows
    (o_p rfl (ob_litRow 3 te_23 (xs := []) .nil (by decide) rfl rfl) <|
     o_p rfl (ob_fieldAddrM fl_25_7 (off := 7) (by kernel_rfl) rfl rfl u_0) <|
     o_p rfl (ob_loadP ty_23 rfl rfl u_0) <|
     o_p rfl (ob_append te_23 rfl rfl u_0 u_1 h1) <|
     o_p rfl (ob_fieldAddrM fl_25_7 (off := 7) (by kernel_rfl) rfl rfl u_0) <|
     o_p rfl (wi_25_7 ty_23 rfl rfl u_2 u_1 (Opd.imp u_0 (fun _ _ h => pRow_read h))) <|
     o_n) (by kernel_rfl) (fun a g hst hb => ?_)
  refine r_s (L := [(1, _), (2, _)]) (T := [⟨[.old 0], _, [], [], [8]⟩, ⟨[.op 0 0, .old 1], _, [3], [0], [2]⟩]) (F := [.op 1 0]) hst hb follows
    (o_p rfl (ob_loadM ty_25 rfl rfl u_0) <|
     o_p rfl (ob_store ty_25 rfl rfl u_1 u_0) <|
     o_n) (by kernel_rfl) (fun a g hst hb => ?_)
  refine wp_ret ?_
  obtain rfl := Option.some.inj H0
  obtain ⟨u0, hu0, hq0⟩ := res_box (P := Tryd.prog) ty_25 (hst.at 0 rfl)
  exact endR1 rfl hst hb hu0 hq0
end Go.CL

set_option linter.unusedVariables false
set_option linter.unusedSimpArgs false
set_option maxRecDepth 100000
namespace Go.CL
open Go Go.RowKit Go.Proofs
theorem moietyref05_over_ok (a0 : Int) (a1 : Int) {r : Bool} (h : moietyref05_over a0 a1 = some r) : FnOk Tryd.prog 68 [(pInt .i64 a0), (pInt .i64 a1)] (pBool r) := by
  have H0 := h
  unfold moietyref05_over at H0
  clear h
  refine fn_ok (N := 31) Tryd.func68 rfl rfl (Nat.le_of_ble_eq_true rfl) rfl rfl (fun a g0 hst hb => ?_)
  refine r_s (L := [(0, _), (1, _)]) (T := [⟨[], _, [], [], [4]⟩]) (F := [.old 0, .old 1]) hst hb follows
    (o_p rfl (ob_assign rfl rfl c_b) <|
     o_n) (by kernel_rfl) (fun a g hst hb => ?_)
  refine r_s (L := [(0, _), (1, _)]) (T := [⟨[.old 0], _, [], [], [6]⟩, ⟨[.old 1], _, [], [], [7]⟩, ⟨[.op 0 0, .op 1 0], _, [], [0, 1], [8]⟩, ⟨[.op 2 0], _, [], [0, 1, 2], [5]⟩]) (F := [.old 0, .old 1, .op 3 0]) hst hb follows
    (o_p rfl (ob_move rfl rfl u_0) <|
     o_p rfl (ob_move rfl rfl u_0) <|
     o_p rfl (ob_add rfl rfl u_0 u_1 rfl) <|
     o_p rfl (ob_assign rfl rfl u_0) <|
     o_n) (by kernel_rfl) (fun a g hst hb => ?_)
  refine r_s (L := [(0, _), (1, _), (5, _)]) (T := ⟨[.old 0], _, [], [], [9]⟩ :: ⟨[.op 0 0], _, [], [0], [10]⟩ :: ⟨[.op 1 0], _, [], [0, 1], [11]⟩ :: ⟨[.op 2 0, .old 1], _, [], [0, 1, 2], [12]⟩ :: ⟨[.op 2 0, .op 3 0], _, [], List.range 4, [13]⟩ :: ⟨[.op 2 0, .op 4 0], _, [], List.range 5, [14]⟩ :: ⟨[.op 5 0], _, [], List.range 6, [15]⟩ :: ⟨[.op 6 0, .old 2], _, [], List.range 7, [16]⟩ :: ⟨[.op 6 0, .op 7 0], _, [], List.range 8, [17]⟩ :: ⟨[.op 6 0, .op 8 0], _, [], List.range 9, [18]⟩ :: ⟨[.op 9 0], _, [], List.range 10, [19]⟩ :: ⟨[.op 10 0, .old 0], _, [], List.range 11, [20]⟩ :: ⟨[.op 10 0, .op 11 0], _, [], List.range 12, [21]⟩ :: ⟨[.op 10 0, .op 12 0], _, [], List.range 13, [22]⟩ :: ⟨[.op 13 0, .old 1], _, [], List.range 14, [23]⟩ :: ⟨[.op 13 0, .op 14 0], _, [], List.range 15, [24]⟩ :: ⟨[.op 10 0, .op 13 0, .op 15 0], _, [], List.range 16, [25]⟩ :: ⟨[.op 10 0, .op 16 0], _, [], List.range 17, [26]⟩ :: ⟨[.op 17 0, .old 2], _, [], List.range 18, [27]⟩ :: ⟨[.op 17 0, .op 18 0], _, [], List.range 19, [28]⟩ :: ⟨[.op 10 0, .op 17 0, .op 19 0], _, [], List.range 20, [29]⟩ :: ⟨[.op 10 0, .op 20 0], _, [], List.range 21, [30]⟩ :: ⟨[.op 21 0], _, [], List.range 22, [4]⟩ :: []) (F := [.op 22 0]) hst hb follows
    (o_p rfl (ob_move rfl rfl u_0) <|
     o_p rfl (ob_gt rfl rfl u_0 c_i) <|
     o_p rfl (ob_move rfl rfl u_0) <|
     o_g (g_t rfl rfl rfl (fun hG => ob_move rfl rfl u_0)) <|
     o_g (g_t rfl rfl rfl (fun hG => ob_gt rfl rfl (Opd.gd hG u_0) c_i)) <|
     o_p rfl (ob_pand rfl rfl u_0 (fun hz => (Opd.gd hz u_1))) <|
     o_p rfl (ob_move rfl rfl u_0) <|
     o_g (g_t rfl rfl rfl (fun hG => ob_move rfl rfl u_0)) <|
     o_g (g_t rfl rfl rfl (fun hG => ob_lt rfl rfl (Opd.gd hG u_0) c_i)) <|
     o_p rfl (ob_pand rfl rfl u_0 (fun hz => (Opd.gd hz u_1))) <|
     o_p rfl (ob_move rfl rfl u_0) <|
     o_g (g_f rfl rfl rfl (fun hG => ob_move rfl rfl u_0)) <|
     o_g (g_f rfl rfl rfl (fun hG => ob_lt rfl rfl (Opd.gd hG u_0) c_i)) <|
     o_g (g_f rfl rfl rfl (fun hG => ob_move rfl rfl (Opd.gd hG u_0))) <|
     o_g (g_ti rfl rfl rfl (fun hG => ob_move rfl rfl u_0)) <|
     o_g (g_ti rfl rfl rfl (fun hG => ob_lt rfl rfl (Opd.gd hG u_0) c_i)) <|
     o_g (g_f rfl rfl rfl (fun hG => ob_pand rfl rfl (Opd.gd hG u_0) (fun hz => (Opd.gd (bA hG hz) u_1)))) <|
     o_g (g_f rfl rfl rfl (fun hG => ob_move rfl rfl (Opd.gd hG u_0))) <|
     o_g (g_ti rfl rfl rfl (fun hG => ob_move rfl rfl u_0)) <|
     o_g (g_ti rfl rfl rfl (fun hG => ob_ge rfl rfl (Opd.gd hG u_0) c_i)) <|
     o_g (g_f rfl rfl rfl (fun hG => ob_pand rfl rfl (Opd.gd hG u_0) (fun hz => (Opd.gd (bA hG hz) u_1)))) <|
     o_p rfl (ob_por rfl rfl u_0 (fun hz => (Opd.gd (bNF hz) u_1))) <|
     o_p rfl (ob_assign rfl rfl u_0) <|
     o_n) (by kernel_rfl) (fun a g hst hb => ?_)
  refine wp_ret ?_
  obtain rfl := Option.some.inj H0
  exact endR1 rfl hst hb (res_tmp (s := 4)) (hst.at 0 rfl)
end Go.CL

set_option linter.unusedVariables false
set_option linter.unusedSimpArgs false
set_option maxRecDepth 100000
namespace Go.CL
open Go Go.RowKit Go.Proofs
theorem moietyref01_Max_ok (a0 : Nat) (a1 : Nat) {r : Nat} (h : moietyref01_Max a0 a1 = some r) : FnOk Tryd.prog 69 [(pFlt a0), (pFlt a1)] (pFlt r) := by
  have H0 := h
  unfold moietyref01_Max at H0
  clear h
  refine fn_ok (N := 10) Tryd.func69 rfl rfl (Nat.le_of_ble_eq_true rfl) rfl rfl (fun a g0 hst hb => ?_)
  refine r_s (L := [(0, _), (1, _)]) (T := [⟨[], _, [], [], [4]⟩]) (F := [.old 0, .old 1]) hst hb follows
    (o_p rfl (ob_assign rfl rfl c_f) <|
     o_n) (by kernel_rfl) (fun a g hst hb => ?_)
  refine wp_seq ?_
  obtain ⟨r1, h2, H0⟩ := of_bind H0
  refine r_s (L := [(0, _), (1, _)]) (T := [⟨[.old 0], _, [], [], [5]⟩, ⟨[.old 1], _, [], [], [6]⟩, ⟨[.op 0 0, .op 1 0], _, [], [0, 1], [7]⟩]) (F := [.old 0, .old 1, .op 2 0]) hst hb follows
    (o_p rfl (ob_move rfl rfl u_0) <|
     o_p rfl (ob_move rfl rfl u_0) <|
     o_p rfl (ob_call en_75 (moietyref01_Less_ok _ _ h2) rfl rfl (.cons u_0 (.cons u_1 .nil))) <|
     o_n) (by kernel_rfl) (fun a g hst hb => ?_)
  refine wp_cond_split (hst.bool 2 rfl) (fun hc3 => ?_) (fun hc3 => ?_)
  · replace H0 := ite_t hc3 H0
    refine r_s (L := [(1, _)]) (T := [⟨[.old 0], _, [], [], [8]⟩, ⟨[.op 0 0], _, [], [0], [4]⟩]) (F := [.op 1 0]) (hst.pick [1] rfl) hb follows
      (o_p rfl (ob_move rfl rfl u_0) <|
       o_p rfl (ob_assign rfl rfl u_0) <|
       o_n) (by kernel_rfl) (fun a g hst hb => ?_)
    refine wp_ret ?_
    refine then_r ?_
    obtain rfl := Option.some.inj H0
    exact endR1 rfl hst hb (res_tmp (s := 4)) (hst.at 0 rfl)
  · replace H0 := ite_f hc3 H0
    refine wp_skip ?_
    refine then_n ?_
    refine r_s (L := [(0, _)]) (T := [⟨[.old 0], _, [], [], [9]⟩, ⟨[.op 0 0], _, [], [0], [4]⟩]) (F := [.op 1 0]) (hst.pick [0] rfl) hb follows
      (o_p rfl (ob_move rfl rfl u_0) <|
       o_p rfl (ob_assign rfl rfl u_0) <|
       o_n) (by kernel_rfl) (fun a g hst hb => ?_)
    refine wp_ret ?_
    obtain rfl := Option.some.inj H0
    exact endR1 rfl hst hb (res_tmp (s := 4)) (hst.at 0 rfl)
end Go.CL

set_option linter.unusedVariables false
set_option linter.unusedSimpArgs false
set_option maxRecDepth 100000
namespace Go.CL
open Go Go.RowKit Go.Proofs
theorem moietyref01_Min_ok (a0 : Nat) (a1 : Nat) {r : Nat} (h : moietyref01_Min a0 a1 = some r) : FnOk Tryd.prog 70 [(pFlt a0), (pFlt a1)] (pFlt r) := by
  have H0 := h
  unfold moietyref01_Min at H0
  clear h
  refine fn_ok (N := 10) Tryd.func70 rfl rfl (Nat.le_of_ble_eq_true rfl) rfl rfl (fun a g0 hst hb => ?_)
  refine r_s (L := [(0, _), (1, _)]) (T := [⟨[], _, [], [], [4]⟩]) (F := [.old 0, .old 1]) hst hb follows
    (o_p rfl (ob_assign rfl rfl c_f) <|
     o_n) (by kernel_rfl) (fun a g hst hb => ?_)
  refine wp_seq ?_
  obtain ⟨r1, h2, H0⟩ := of_bind H0
  refine r_s (L := [(0, _), (1, _)]) (T := [⟨[.old 1], _, [], [], [5]⟩, ⟨[.old 0], _, [], [], [6]⟩, ⟨[.op 0 0, .op 1 0], _, [], [0, 1], [7]⟩]) (F := [.old 0, .old 1, .op 2 0]) hst hb follows
    (o_p rfl (ob_move rfl rfl u_0) <|
     o_p rfl (ob_move rfl rfl u_0) <|
     o_p rfl (ob_call en_75 (moietyref01_Less_ok _ _ h2) rfl rfl (.cons u_0 (.cons u_1 .nil))) <|
     o_n) (by kernel_rfl) (fun a g hst hb => ?_)
  refine wp_cond_split (hst.bool 2 rfl) (fun hc3 => ?_) (fun hc3 => ?_)
  · replace H0 := ite_t hc3 H0
    refine r_s (L := [(1, _)]) (T := [⟨[.old 0], _, [], [], [8]⟩, ⟨[.op 0 0], _, [], [0], [4]⟩]) (F := [.op 1 0]) (hst.pick [1] rfl) hb follows
      (o_p rfl (ob_move rfl rfl u_0) <|
       o_p rfl (ob_assign rfl rfl u_0) <|
       o_n) (by kernel_rfl) (fun a g hst hb => ?_)
    refine wp_ret ?_
    refine then_r ?_
    obtain rfl := Option.some.inj H0
    exact endR1 rfl hst hb (res_tmp (s := 4)) (hst.at 0 rfl)
  · replace H0 := ite_f hc3 H0
    refine wp_skip ?_
    refine then_n ?_
    refine r_s (L := [(0, _)]) (T := [⟨[.old 0], _, [], [], [9]⟩, ⟨[.op 0 0], _, [], [0], [4]⟩]) (F := [.op 1 0]) (hst.pick [0] rfl) hb follows
      (o_p rfl (ob_move rfl rfl u_0) <|
       o_p rfl (ob_assign rfl rfl u_0) <|
       o_n) (by kernel_rfl) (fun a g hst hb => ?_)
    refine wp_ret ?_
    obtain rfl := Option.some.inj H0
    exact endR1 rfl hst hb (res_tmp (s := 4)) (hst.at 0 rfl)
end Go.CL

set_option linter.unusedVariables false
set_option linter.unusedSimpArgs false
set_option maxRecDepth 100000
namespace Go.CL
open Go Go.RowKit Go.Proofs
theorem moietyref01_Number_ok (a0 : Int) {r : Nat} (h : moietyref01_Number a0 = some r) : FnOk Tryd.prog 71 [(pInt .u64 a0)] (pFlt r) := by
  have H0 := h
  unfold moietyref01_Number at H0
  clear h
  refine fn_ok (N := 18) Tryd.func71 rfl rfl (Nat.le_of_ble_eq_true rfl) rfl rfl (fun a g0 hst hb => ?_)
  refine r_s (L := [(0, _)]) (T := [⟨[], _, [], [], [2]⟩]) (F := [.old 0]) hst hb follows
    (o_p rfl (ob_assign rfl rfl c_f) <|
     o_n) (by kernel_rfl) (fun a g hst hb => ?_)
  refine r_s (L := [(0, _)]) (T := [⟨[], _, [], [], [3]⟩]) (F := [.old 0, .op 0 0]) hst hb follows
    (o_p rfl (ob_assign rfl rfl c_i) <|
     o_n) (by kernel_rfl) (fun a g hst hb => ?_)
  refine wp_seq ?_
  refine r_s (L := [(0, _), (3, _)]) (T := [⟨[.old 0], _, [], [], [4]⟩, ⟨[.old 1], _, [], [], [5]⟩, ⟨[.op 0 0, .op 1 0], _, [], [0, 1], [6]⟩]) (F := [.old 0, .old 1, .op 2 0]) hst hb follows
    (o_p rfl (ob_move rfl rfl u_0) <|
     o_p rfl (ob_move rfl rfl u_0) <|
     o_p rfl (ob_ge rfl rfl u_0 u_1) <|
     o_n) (by kernel_rfl) (fun a g hst hb => ?_)
  refine wp_cond_split (hst.bool 2 rfl) (fun hc1 => ?_) (fun hc1 => ?_)
  · replace H0 := ite_t hc1 H0
    refine r_s (L := [(0, _), (3, _)]) (T := [⟨[.old 0], _, [], [], [7]⟩, ⟨[.old 1], _, [], [], [8]⟩, ⟨[.op 0 0, .op 1 0], _, [], [0, 1], [9]⟩, ⟨[.op 2 0], _, [], [0, 1, 2], [10]⟩, ⟨[.op 3 0], _, [], List.range 4, [2]⟩]) (F := [.op 4 0]) (hst.pick [0, 1] rfl) hb follows
      (o_p rfl (ob_move rfl rfl u_0) <|
       o_p rfl (ob_move rfl rfl u_0) <|
       o_p rfl (ob_sub rfl rfl u_0 u_1 rfl) <|
       o_p rfl (ob_frombits ex_90 rfl rfl u_0) <|
       o_p rfl (ob_assign rfl rfl u_0) <|
       o_n) (by kernel_rfl) (fun a g hst hb => ?_)
    refine wp_ret ?_
    refine then_r ?_
    obtain rfl := Option.some.inj H0
    exact endR1 rfl hst hb (res_tmp (s := 2)) (hst.at 0 rfl)
  · replace H0 := ite_f hc1 H0
    refine wp_skip ?_
    refine then_n ?_
    refine r_s (L := [(0, _), (3, _)]) (T := [⟨[.old 1], _, [], [], [11]⟩, ⟨[.old 1], _, [], [], [12]⟩, ⟨[.op 1 0], _, [], [1], [13]⟩, ⟨[.old 0], _, [], [], [14]⟩, ⟨[.op 2 0, .op 3 0], _, [], [1, 2, 3], [15]⟩, ⟨[.op 0 0, .op 4 0], _, [], List.range 5, [16]⟩, ⟨[.op 5 0], _, [], List.range 6, [17]⟩, ⟨[.op 6 0], _, [], List.range 7, [2]⟩]) (F := [.op 7 0]) (hst.pick [0, 1] rfl) hb follows
      (o_p rfl (ob_move rfl rfl u_0) <|
       o_p rfl (ob_move rfl rfl u_0) <|
       o_p rfl (ob_sub rfl rfl u_0 c_i rfl) <|
       o_p rfl (ob_move rfl rfl u_0) <|
       o_p rfl (ob_sub rfl rfl u_0 u_1 rfl) <|
       o_p rfl (ob_add rfl rfl u_0 u_1 rfl) <|
       o_p rfl (ob_frombits ex_90 rfl rfl u_0) <|
       o_p rfl (ob_assign rfl rfl u_0) <|
       o_n) (by kernel_rfl) (fun a g hst hb => ?_)
    refine wp_ret ?_
    obtain rfl := Option.some.inj H0
    exact endR1 rfl hst hb (res_tmp (s := 2)) (hst.at 0 rfl)
end Go.CL

set_option linter.unusedVariables false
set_option linter.unusedSimpArgs false
set_option maxRecDepth 100000
namespace Go.CL
open Go Go.RowKit Go.Proofs
theorem moietyref01_Place_ok (a0 : Nat) {r : Int} (h : moietyref01_Place a0 = some r) : FnOk Tryd.prog 72 [(pFlt a0)] (pInt .u64 r) := by
  have H0 := h
  unfold moietyref01_Place at H0
  clear h
  refine fn_ok (N := 23) Tryd.func72 rfl rfl (Nat.le_of_ble_eq_true rfl) rfl rfl (fun a g0 hst hb => ?_)
  refine r_s (L := [(0, _)]) (T := [⟨[], _, [], [], [2]⟩]) (F := [.old 0]) hst hb follows
    (o_p rfl (ob_assign rfl rfl c_i) <|
     o_n) (by kernel_rfl) (fun a g hst hb => ?_)
  refine r_s (L := [(0, _)]) (T := [⟨[], _, [], [], [3]⟩]) (F := [.old 0, .op 0 0]) hst hb follows
    (o_p rfl (ob_assign rfl rfl c_i) <|
     o_n) (by kernel_rfl) (fun a g hst hb => ?_)
  refine wp_seq ?_
  obtain ⟨r1, h2, H0⟩ := of_bind H0
  refine r_s (L := [(0, _), (3, _)]) (T := [⟨[.old 0], _, [], [], [5]⟩, ⟨[.op 0 0], _, [], [0], [6]⟩]) (F := [.old 0, .old 1, .op 1 0]) hst hb follows
    (o_p rfl (ob_move rfl rfl u_0) <|
     o_p rfl (ob_call en_78 (moietyref01_none_ok _ h2) rfl rfl (.cons u_0 .nil)) <|
     o_n) (by kernel_rfl) (fun a g hst hb => ?_)
  refine wp_cond_split (hst.bool 2 rfl) (fun hc3 => ?_) (fun hc3 => ?_)
  · replace H0 := ite_t hc3 H0
    refine r_s (L := [(3, _)]) (T := [⟨[.old 0], _, [], [], [7]⟩, ⟨[.op 0 0], _, [], [0], [8]⟩, ⟨[.op 1 0], _, [], [0, 1], [2]⟩]) (F := [.op 2 0]) (hst.pick [1] rfl) hb follows
      (o_p rfl (ob_move rfl rfl u_0) <|
       o_p rfl (ob_add rfl rfl u_0 c_i rfl) <|
       o_p rfl (ob_assign rfl rfl u_0) <|
       o_n) (by kernel_rfl) (fun a g hst hb => ?_)
    refine wp_ret ?_
    refine then_r ?_
    obtain rfl := Option.some.inj H0
    exact endR1 rfl hst hb (res_tmp (s := 2)) (hst.at 0 rfl)
  · replace H0 := ite_f hc3 H0
    refine wp_skip ?_
    refine then_n ?_
    refine r_s (L := [(0, _), (3, _)]) (T := [⟨[.old 0], _, [], [], [9]⟩, ⟨[.op 0 0], _, [], [0], [10]⟩, ⟨[.op 1 0], _, [], [0, 1], [4]⟩]) (F := [.old 1, .op 2 0]) (hst.pick [0, 1] rfl) hb follows
      (o_p rfl (ob_move rfl rfl u_0) <|
       o_p rfl (ob_bits ex_79 rfl rfl u_0) <|
       o_p rfl (ob_assign rfl rfl u_0) <|
       o_n) (by kernel_rfl) (fun a g hst hb => ?_)
    refine wp_seq ?_
    refine r_s (L := [(3, _), (4, _)]) (T := [⟨[.old 1], _, [], [], [11]⟩, ⟨[.old 0], _, [], [], [12]⟩, ⟨[.op 0 0, .op 1 0], _, [], [0, 1], [13]⟩]) (F := [.old 0, .old 1, .op 2 0]) hst hb follows
      (o_p rfl (ob_move rfl rfl u_0) <|
       o_p rfl (ob_move rfl rfl u_0) <|
       o_p rfl (ob_ge rfl rfl u_0 u_1) <|
       o_n) (by kernel_rfl) (fun a g hst hb => ?_)
    refine wp_cond_split (hst.bool 2 rfl) (fun hc4 => ?_) (fun hc4 => ?_)
    · replace H0 := ite_t hc4 H0
      refine r_s (L := [(3, _), (4, _)]) (T := [⟨[.old 0], _, [], [], [14]⟩, ⟨[.op 0 0], _, [], [0], [15]⟩, ⟨[.old 1], _, [], [], [16]⟩, ⟨[.old 0], _, [], [], [17]⟩, ⟨[.op 2 0, .op 3 0], _, [], [2, 3], [18]⟩, ⟨[.op 1 0, .op 4 0], _, [], List.range 5, [19]⟩, ⟨[.op 5 0], _, [], List.range 6, [2]⟩]) (F := [.op 6 0]) (hst.pick [0, 1] rfl) hb follows
        (o_p rfl (ob_move rfl rfl u_0) <|
         o_p rfl (ob_sub rfl rfl u_0 c_i rfl) <|
         o_p rfl (ob_move rfl rfl u_0) <|
         o_p rfl (ob_move rfl rfl u_0) <|
         o_p rfl (ob_sub rfl rfl u_0 u_1 rfl) <|
         o_p rfl (ob_sub rfl rfl u_0 u_1 rfl) <|
         o_p rfl (ob_assign rfl rfl u_0) <|
         o_n) (by kernel_rfl) (fun a g hst hb => ?_)
      refine wp_ret ?_
      refine then_r ?_
      obtain rfl := Option.some.inj H0
      exact endR1 rfl hst hb (res_tmp (s := 2)) (hst.at 0 rfl)
    · replace H0 := ite_f hc4 H0
      refine wp_skip ?_
      refine then_n ?_
      refine r_s (L := [(3, _), (4, _)]) (T := [⟨[.old 0], _, [], [], [20]⟩, ⟨[.old 1], _, [], [], [21]⟩, ⟨[.op 0 0, .op 1 0], _, [], [0, 1], [22]⟩, ⟨[.op 2 0], _, [], [0, 1, 2], [2]⟩]) (F := [.op 3 0]) (hst.pick [0, 1] rfl) hb follows
        (o_p rfl (ob_move rfl rfl u_0) <|
         o_p rfl (ob_move rfl rfl u_0) <|
         o_p rfl (ob_add rfl rfl u_0 u_1 rfl) <|
         o_p rfl (ob_assign rfl rfl u_0) <|
         o_n) (by kernel_rfl) (fun a g hst hb => ?_)
      refine wp_ret ?_
      obtain rfl := Option.some.inj H0
      exact endR1 rfl hst hb (res_tmp (s := 2)) (hst.at 0 rfl)
end Go.CL

set_option linter.unusedVariables false
set_option linter.unusedSimpArgs false
set_option maxRecDepth 100000
namespace Go.CL
open Go Go.RowKit Go.Proofs
theorem moietyref05_has_ok (a0 : List api_Item) (a1 : ByteArray) {r : Bool} (h : moietyref05_has a0 a1 = some r) : FnOk Tryd.prog 73 [(k_api_Item.sl.pd a0), (pStr a1)] (pBool r) := by
  have H0 := h
  unfold moietyref05_has at H0
  clear h
  refine fn_ok (N := 19) Tryd.func73 rfl rfl (Nat.le_of_ble_eq_true rfl) rfl rfl (fun a g0 hst hb => ?_)
  refine r_s (L := [(0, _), (1, _)]) (T := [⟨[], _, [], [], [4]⟩]) (F := [.old 0, .old 1]) hst hb follows
    (o_p rfl (ob_assign rfl rfl c_b) <|
     o_n) (by kernel_rfl) (fun a g hst hb => ?_)
  refine wp_seq ?_
  refine r_s (L := [(0, _), (1, _)]) (T := [⟨[], _, [], [], [5]⟩]) (F := [.old 0, .old 1, .op 0 0]) hst hb follows
    (o_p rfl (ob_assign rfl rfl c_i) <|
     o_n) (by kernel_rfl) (fun a g hst hb => ?_)
  obtain ⟨z6, hz1, H0⟩ := of_bind H0
  refine wp_cut (fun a w => ∃ (g : G), w = g.w ∧ St 19 [] a g ∧ Base g0 g ∧ (.inr ()) = z6) ?_ ?_
  · rintro a w ⟨g, rfl, hst, hb, rfl⟩
    refine then_n ?_
    refine r_s (L := []) (T := [⟨[], _, [], [], [4]⟩]) (F := [.op 0 0]) hst hb follows
      (o_p rfl (ob_assign rfl rfl c_b) <|
       o_n) (by kernel_rfl) (fun a g hst hb => ?_)
    refine wp_ret ?_
    obtain rfl := Option.some.inj H0
    exact endR1 rfl hst hb (res_tmp (s := 4)) (hst.at 0 rfl)
  · refine wp_block ?_
    refine wp_loop_ghost (fun n a w => ∃ (x1 : Int) (g : G), w = g.w ∧ St 19 [(0, (k_api_Item.sl.pd a0)), (1, (pStr a1)), (5, (pInt .i64 x1))] a g ∧ Base g0 g ∧ moietyref05_has_l1 a0 a1 n x1 = some z6) (Int.toNat ((a0.length : Int) - (0 : Int)) + 1) ⟨(0 : Int), g, rfl, (hst.pick [0, 1, 2] rfl), hb, hz1⟩ (fun n a w hI => ?_)
    obtain ⟨x1, g, rfl, hst, hb, H1⟩ := hI
    cases n with
    | zero => exact absurd H1 (by simp [moietyref05_has_l1])
    | succ n =>
      rw [moietyref05_has_l1] at H1
      refine wp_seq ?_
      refine r_s (L := [(0, _), (1, _), (5, _)]) (T := [⟨[.old 2], _, [], [], [6]⟩, ⟨[.old 0], _, [], [], [7]⟩, ⟨[.op 1 0], _, [], [1], [8]⟩, ⟨[.op 0 0, .op 2 0], _, [], [0, 1, 2], [9]⟩]) (F := [.old 0, .old 1, .old 2, .op 3 0]) hst hb follows
        (o_p rfl (ob_move rfl rfl u_0) <|
         o_p rfl (ob_move rfl rfl u_0) <|
         o_p rfl (ob_lenL Tryd.underlying23 rfl rfl u_0) <|
         o_p rfl (ob_lt rfl rfl u_0 u_1) <|
         o_n) (by kernel_rfl) (fun a g hst hb => ?_)
      refine wp_cond_split (hst.bool 3 rfl) (fun hc2 => ?_) (fun hc2 => ?_)
      · replace H1 := ite_t hc2 H1
        refine wp_skip ?_
        refine then_n ?_
        refine wp_seq ?_
        refine wp_block ?_
        obtain ⟨e3, h4, H1⟩ := of_bind H1
        refine r_s (L := [(0, _), (1, _), (5, _)]) (T := [⟨[.old 0], _, [], [], [12]⟩, ⟨[.old 2], _, [], [], [13]⟩, ⟨[.op 0 0, .op 1 0], _, [], [0, 1], [14]⟩, ⟨[.op 2 0], _, [], [0, 1, 2], [15]⟩, ⟨[.op 3 0], _, [], List.range 4, [16]⟩, ⟨[.old 1], _, [], [], [17]⟩, ⟨[.op 4 0, .op 5 0], _, [], List.range 6, [18]⟩]) (F := [.old 0, .old 1, .old 2, .op 6 0]) (hst.pick [0, 1, 2] rfl) hb follows
          (o_p rfl (ob_move rfl rfl u_0) <|
           o_p rfl (ob_move rfl rfl u_0) <|
           o_p rfl (ob_indexAddr Tryd.underlying23 sz_48 rfl rfl u_0 u_1 h4) <|
           o_p rfl (ob_fieldAddr fl_48_1 rfl rfl u_0) <|
           o_p rfl (ob_load ty_9 rfl rfl u_0) <|
           o_p rfl (ob_move rfl rfl u_0) <|
           o_p rfl (ob_seq rfl rfl u_0 u_1) <|
           o_n) (by kernel_rfl) (fun a g hst hb => ?_)
        refine wp_cond_split (hst.bool 3 rfl) (fun hc5 => ?_) (fun hc5 => ?_)
        · replace H1 := ite_t hc5 H1
          refine r_s (L := []) (T := [⟨[], _, [], [], [4]⟩]) (F := [.op 0 0]) (hst.pick [] rfl) hb follows
            (o_p rfl (ob_assign rfl rfl c_b) <|
             o_n) (by kernel_rfl) (fun a g hst hb => ?_)
          refine wp_ret ?_
          refine inBlock_r ?_
          refine then_r ?_
          refine then_r ?_
          refine inBlock_r ?_
          refine then_r ?_
          refine then_r ?_
          obtain rfl := Option.some.inj H1
          obtain rfl := Option.some.inj H0
          exact endR1 rfl hst hb (res_tmp (s := 4)) (hst.at 0 rfl)
        · replace H1 := ite_f hc5 H1
          refine wp_skip ?_
          refine inBlock_n ?_
          refine then_n ?_
          refine r_g (L := [(0, _), (1, _), (5, _)]) (T := [⟨[.old 2], _, [], [], [10]⟩, ⟨[.op 0 0], _, [], [0], [11]⟩, ⟨[.op 1 0], _, [], [0, 1], [5]⟩]) (F := [.old 0, .old 1, .op 2 0]) (hst.pick [0, 1, 2] rfl) hb follows
            (o_p rfl (ob_move rfl rfl u_0) <|
             o_p rfl (ob_add rfl rfl u_0 c_i rfl) <|
             o_p rfl (ob_assign rfl rfl u_0) <|
             o_n) (by kernel_rfl) (fun a g hst hb => ?_)
          exact ⟨n, Nat.lt_succ_self _, (IntKind.i64.wrap (x1 + (1 : Int))), g, rfl, (hst.pick [0, 1, 2] rfl), hb, H1⟩
      · replace H1 := ite_f hc2 H1
        refine wp_exit ?_
        refine then_e ?_
        refine then_e ?_
        refine inBlock_e ?_
        exact ⟨g, rfl, (hst.pick [] rfl), hb, Option.some.inj H1⟩
end Go.CL

set_option linter.unusedVariables false
set_option linter.unusedSimpArgs false
set_option maxRecDepth 100000
namespace Go.CL
open Go Go.RowKit Go.Proofs
theorem moietyref05_Laid_ok (a0 : List api_Item) (a1 : api_Item) (a2 : Bool) {r : List api_Item} (h : moietyref05_Laid a0 a1 a2 = some r) : FnOk Tryd.prog 74 [(k_api_Item.sl.pd a0), (k_api_Item.pd a1), (pBool a2)] (k_api_Item.sl.pd r) := by
  have H0 := h
  unfold moietyref05_Laid at H0
  clear h
  refine fn_ok (N := 89) Tryd.func74 rfl rfl (Nat.le_of_ble_eq_true rfl) rfl rfl (fun a g0 hst hb => ?_)
  refine r_s (L := [(0, _), (1, _), (2, _)]) (T := [⟨[.old 1], _, [], [], [4]⟩, ⟨[], [(6, (k_api_Item.sl.pd ([] : List api_Item)))], [], [], [6]⟩]) (F := [.old 0, .old 2, .op 0 0]) hst hb follows
    (o_p rfl (ob_box1 rfl rfl u_0) <|
     o_p rfl (ob_assign rfl rfl (Opd.c (fun g => sl_nil_q g))) <|
     o_n) (by kernel_rfl) (fun a g hst hb => ?_)
  refine r_s (L := [(0, _), (2, _), (4, _)]) (T := [⟨[], _, [13], [], [12]⟩, ⟨[.op 0 0], _, [], [0], [7]⟩, ⟨[], _, [], [0, 1], [8]⟩]) (F := [.old 0, .old 1, .old 2, .op 1 0, .op 2 0]) hst hb follows
    (o_p rfl (ob_litRow 12 te_23 (xs := []) .nil (by decide) rfl rfl) <|
     o_p rfl (ob_assign rfl rfl u_0) <|
     o_p rfl (ob_assign rfl rfl c_b) <|
     o_n) (by kernel_rfl) (fun a g hst hb => ?_)
  refine wp_seq ?_
  refine r_s (L := [(0, _), (2, _), (4, _), (7, _), (8, _)]) (T := [⟨[], _, [], [], [9]⟩]) (F := [.old 0, .old 1, .old 2, .old 3, .old 4, .op 0 0]) hst hb follows
    (o_p rfl (ob_assign rfl rfl c_i) <|
     o_n) (by kernel_rfl) (fun a g hst hb => ?_)
  obtain ⟨z27, hz1, H0⟩ := of_bind H0
  refine wp_cut (fun a w => ∃ (y25 : List api_Item) (y26 : Bool) (g : G), w = g.w ∧ St 89 [(4, (k_api_Item.ptr a1)), (7, (pRow k_api_Item 48 12 y25)), (8, (pBool y26))] a g ∧ Base g0 g ∧ (y25, y26) = z27) ?_ ?_
  · rintro a w ⟨y25, y26, g, rfl, hst, hb, rfl⟩
    refine then_n ?_
    refine wp_seq ?_
    refine r_s (L := [(4, _), (7, _), (8, _)]) (T := [⟨[.old 2], _, [], [], [82]⟩, ⟨[.op 0 0], _, [], [0], [83]⟩]) (F := [.old 0, .old 1, .op 1 0]) hst hb follows
      (o_p rfl (ob_move rfl rfl u_0) <|
       o_p rfl (ob_not rfl rfl u_0) <|
       o_n) (by kernel_rfl) (fun a g hst hb => ?_)
    refine wp_cut (fun a w => ∃ (j30 : List api_Item) (g : G), w = g.w ∧ St 89 [(7, (pRow k_api_Item 48 12 j30))] a g ∧ Base g0 g ∧ moietyref05_Laid_j2 j30 = some r) ?_ ?_
    · rintro a w ⟨j30, g, rfl, hst, hb, H0⟩
      unfold moietyref05_Laid_j2 at H0
      refine then_n ?_
      refine r_s (L := [(7, _)]) (T := [⟨[.old 0], _, [], [], [88]⟩, ⟨[.op 0 0], _, [], [0], [6]⟩]) (F := [.op 1 0]) hst hb follows
        (o_p rfl (ob_move rfl rfl u_0) <|
         o_p rfl (ob_assign rfl rfl u_0) <|
         o_n) (by kernel_rfl) (fun a g hst hb => ?_)
      refine wp_ret ?_
      obtain rfl := Option.some.inj H0
      exact endR1 rfl hst hb (res_tmp (s := 6)) (pRow_read (hst.at 0 rfl))
    · refine wp_cond_split (hst.bool 2 rfl) (fun hc28 => ?_) (fun hc28 => ?_)
      · replace H0 := ite_t hc28 H0
        obtain ⟨h29, H0⟩ := of_ite H0
        refine r_g (L := [(4, _), (7, _)]) (T := [⟨[.old 1], _, [], [], [84]⟩, ⟨[.old 0], _, [], [], [85]⟩, ⟨[.op 1 0], _, [], [1], [86]⟩, ⟨[.op 0 0, .op 2 0], _, [13], [0, 1, 2], [7, 84, 87]⟩, ⟨[.op 3 0], _, [], List.range 4, [7]⟩]) (F := [.op 4 0]) (hst.pick [0, 1] rfl) hb follows
          (o_p rfl (ob_move rfl rfl u_0) <|
           o_p rfl (ob_load ty_48 rfl rfl u_0) <|
           o_p rfl (ob_lit te_23 (xs := [.tmp 85]) (.cons u_0 .nil) (by decide) rfl rfl) <|
           o_p rfl (ob_append te_23 rfl rfl u_0 u_1 h29) <|
           o_p rfl (ob_assign rfl rfl u_0) <|
           o_n) (by kernel_rfl) (fun a g hst hb => ?_)
        exact ⟨(y25 ++ ([a1] : List api_Item)), g, rfl, (hst.pick [0] rfl), hb, H0⟩
      · replace H0 := ite_f hc28 H0
        refine wp_skip ?_
        exact ⟨y25, g, rfl, (hst.pick [1] rfl), hb, H0⟩
  · refine wp_block ?_
    refine wp_loop_ghost (fun n a w => ∃ (x1 : List api_Item) (x2 : Bool) (x3 : Int) (g : G), w = g.w ∧ St 89 [(0, (k_api_Item.sl.pd a0)), (2, (pBool a2)), (4, (k_api_Item.ptr a1)), (7, (pRow k_api_Item 48 12 x1)), (8, (pBool x2)), (9, (pInt .i64 x3))] a g ∧ Base g0 g ∧ moietyref05_Laid_l1 a0 a1 a2 n x1 x2 x3 = some z27) (Int.toNat ((a0.length : Int) - (0 : Int)) + 1) ⟨([] : List api_Item), false, (0 : Int), g, rfl, (hst.pick [0, 1, 2, 3, 4, 5] rfl), hb, hz1⟩ (fun n a w hI => ?_)
    obtain ⟨x1, x2, x3, g, rfl, hst, hb, H1⟩ := hI
    cases n with
    | zero => exact absurd H1 (by simp [moietyref05_Laid_l1])
    | succ n =>
      rw [moietyref05_Laid_l1] at H1
      refine wp_seq ?_
      refine r_s (L := [(0, _), (2, _), (4, _), (7, _), (8, _), (9, _)]) (T := [⟨[.old 5], _, [], [], [13]⟩, ⟨[.old 0], _, [], [], [14]⟩, ⟨[.op 1 0], _, [], [1], [15]⟩, ⟨[.op 0 0, .op 2 0], _, [], [0, 1, 2], [16]⟩]) (F := [.old 0, .old 1, .old 2, .old 3, .old 4, .old 5, .op 3 0]) hst hb follows
        (o_p rfl (ob_move rfl rfl u_0) <|
         o_p rfl (ob_move rfl rfl u_0) <|
         o_p rfl (ob_lenL Tryd.underlying23 rfl rfl u_0) <|
         o_p rfl (ob_lt rfl rfl u_0 u_1) <|
         o_n) (by kernel_rfl) (fun a g hst hb => ?_)
      refine wp_cond_split (hst.bool 6 rfl) (fun hc4 => ?_) (fun hc4 => ?_)
      · replace H1 := ite_t hc4 H1
        refine wp_skip ?_
        refine then_n ?_
        refine wp_seq ?_
        refine wp_block ?_
        obtain ⟨e5, h6, H1⟩ := of_bind H1; obtain ⟨r7, h8, H1⟩ := of_bind H1; obtain ⟨e9, h10, H1⟩ := of_bind H1
        refine r_s (L := [(0, _), (2, _), (4, _), (7, _), (8, _), (9, _)]) (T := ⟨[.old 1], _, [], [], [19]⟩ :: ⟨[.op 0 0], _, [], [0], [20]⟩ :: ⟨[.op 1 0], _, [], [0, 1], [21]⟩ :: ⟨[.op 2 0, .old 0], _, [], [0, 1, 2], [22]⟩ :: ⟨[.op 2 0, .old 5], _, [], [0, 1, 2], [23]⟩ :: ⟨[.op 2 0, .op 3 0, .op 4 0], _, [], List.range 5, [24]⟩ :: ⟨[.op 2 0, .op 5 0], _, [], List.range 6, [25]⟩ :: ⟨[.op 2 0, .old 2], _, [], [0, 1, 2], [26]⟩ :: ⟨[.op 2 0, .op 6 0, .op 7 0], _, [], List.range 8, [27]⟩ :: ⟨[.op 2 0, .op 8 0], _, [], List.range 9, [28]⟩ :: ⟨[.op 9 0], _, [], List.range 10, [29]⟩ :: ⟨[.op 10 0, .old 1], _, [], List.range 11, [30]⟩ :: ⟨[.op 10 0, .op 11 0], _, [], List.range 12, [31]⟩ :: ⟨[.op 12 0, .old 0], _, [], List.range 13, [32]⟩ :: ⟨[.op 12 0, .old 5], _, [], List.range 13, [33]⟩ :: ⟨[.op 12 0, .op 13 0, .op 14 0], _, [], List.range 15, [34]⟩ :: ⟨[.op 12 0, .op 15 0], _, [], List.range 16, [35]⟩ :: ⟨[.op 12 0, .op 16 0], _, [], List.range 17, [36]⟩ :: ⟨[.op 12 0, .old 2], _, [], List.range 13, [37]⟩ :: ⟨[.op 12 0, .op 18 0], _, [], 0 :: 1 :: 2 :: 3 :: 4 :: 5 :: 6 :: 7 :: 8 :: 9 :: 10 :: 11 :: 12 :: 18 :: [], [38]⟩ :: ⟨[.op 12 0, .op 17 0, .op 19 0], _, [], List.range 20, [39]⟩ :: ⟨[.op 10 0, .op 12 0, .op 20 0], _, [], List.range 21, [40]⟩ :: ⟨[.op 10 0, .op 21 0], _, [], List.range 22, [41]⟩ :: ⟨[.op 22 0], _, [], List.range 23, [10]⟩ :: []) (F := [.old 0, .old 1, .old 2, .old 3, .old 4, .old 5, .op 23 0]) (hst.pick [0, 1, 2, 3, 4, 5] rfl) hb follows
          (o_p rfl (ob_move rfl rfl u_0) <|
           o_p rfl (ob_not rfl rfl u_0) <|
           o_p rfl (ob_move rfl rfl u_0) <|
           o_g (g_t rfl rfl rfl (fun hG => ob_move rfl rfl u_0)) <|
           o_g (g_t rfl rfl rfl (fun hG => ob_move rfl rfl u_0)) <|
           o_g (g_t rfl rfl rfl (fun hG => ob_indexAddr Tryd.underlying23 sz_48 rfl rfl (Opd.gd hG u_0) (Opd.gd hG u_1) (gd_true h6 hG))) <|
           o_g (g_t rfl rfl rfl (fun hG => ob_load ty_48 rfl rfl (Opd.gd hG u_0))) <|
           o_g (g_t rfl rfl rfl (fun hG => ob_load ty_48 rfl rfl u_0)) <|
           o_g (g_t rfl rfl rfl (fun hG => ob_call en_80 (moietyref03_Ahead_ok _ _ (gd_true h8 hG)) rfl rfl (.cons (Opd.gd hG u_0) (.cons (Opd.gd hG u_1) .nil)))) <|
           o_p rfl (ob_pand rfl rfl u_0 (fun hz => (Opd.gd hz u_1))) <|
           o_p rfl (ob_move rfl rfl u_0) <|
           o_g (g_f rfl rfl rfl (fun hG => ob_move rfl rfl u_0)) <|
           o_g (g_f rfl rfl rfl (fun hG => ob_move rfl rfl (Opd.gd hG u_0))) <|
           o_g (g_ti rfl rfl rfl (fun hG => ob_move rfl rfl u_0)) <|
           o_g (g_ti rfl rfl rfl (fun hG => ob_move rfl rfl u_0)) <|
           o_g (g_ti rfl rfl rfl (fun hG => ob_indexAddr Tryd.underlying23 sz_48 rfl rfl (Opd.gd hG u_0) (Opd.gd hG u_1) (gd_true h10 hG))) <|
           o_g (g_ti rfl rfl rfl (fun hG => ob_fieldAddr fl_48_1 rfl rfl (Opd.gd hG u_0))) <|
           o_g (g_ti rfl rfl rfl (fun hG => ob_load ty_9 rfl rfl (Opd.gd hG u_0))) <|
           o_g (g_ti rfl rfl rfl (fun hG => ob_fieldAddr fl_48_1 rfl rfl u_0)) <|
           o_g (g_ti rfl rfl rfl (fun hG => ob_load ty_9 rfl rfl (Opd.gd hG u_0))) <|
           o_g (g_ti rfl rfl rfl (fun hG => ob_slt rfl rfl (Opd.gd hG u_0) (Opd.gd hG u_1))) <|
           o_g (g_f rfl rfl rfl (fun hG => ob_pand rfl rfl (Opd.gd hG u_0) (fun hz => (Opd.gd (bA hG hz) u_1)))) <|
           o_p rfl (ob_por rfl rfl u_0 (fun hz => (Opd.gd (bNF hz) u_1))) <|
           o_p rfl (ob_assign rfl rfl u_0) <|
           o_n) (by kernel_rfl) (fun a g hst hb => ?_)
        obtain ⟨e11, h12, H1⟩ := of_bind H1; obtain ⟨e13, h14, H1⟩ := of_bind H1; obtain ⟨r15, h16, H1⟩ := of_bind H1
        refine r_s (L := [(0, _), (2, _), (4, _), (7, _), (8, _), (9, _), (10, _)]) (T := ⟨[.old 0], _, [], [], [42]⟩ :: ⟨[.old 5], _, [], [], [43]⟩ :: ⟨[.op 0 0, .op 1 0], _, [], [0, 1], [44]⟩ :: ⟨[.op 2 0], _, [], [0, 1, 2], [45]⟩ :: ⟨[.op 3 0], _, [], List.range 4, [46]⟩ :: ⟨[.old 2], _, [], [], [47]⟩ :: ⟨[.op 5 0], _, [], [5], [48]⟩ :: ⟨[.op 4 0, .op 6 0], _, [], List.range 7, [49]⟩ :: ⟨[.op 7 0], _, [], List.range 8, [50]⟩ :: ⟨[.op 8 0, .old 1], _, [], List.range 9, [51]⟩ :: ⟨[.op 8 0, .op 9 0], _, [], List.range 10, [52]⟩ :: ⟨[.op 10 0, .old 0], _, [], List.range 11, [53]⟩ :: ⟨[.op 10 0, .old 5], _, [], List.range 11, [54]⟩ :: ⟨[.op 10 0, .op 11 0, .op 12 0], _, [], List.range 13, [55]⟩ :: ⟨[.op 10 0, .op 13 0], _, [], List.range 14, [56]⟩ :: ⟨[.op 10 0, .op 14 0], _, [], List.range 15, [57]⟩ :: ⟨[.op 10 0, .old 2], _, [], List.range 11, [58]⟩ :: ⟨[.op 10 0, .op 16 0], _, [], 0 :: 1 :: 2 :: 3 :: 4 :: 5 :: 6 :: 7 :: 8 :: 9 :: 10 :: 16 :: [], [59]⟩ :: ⟨[.op 10 0, .op 15 0, .op 17 0], _, [], List.range 18, [60]⟩ :: ⟨[.op 8 0, .op 10 0, .op 18 0], _, [], List.range 19, [61]⟩ :: ⟨[.op 8 0, .op 19 0], _, [], List.range 20, [62]⟩ :: ⟨[.op 20 0], _, [], List.range 21, [11]⟩ :: []) (F := [.old 0, .old 1, .old 2, .old 3, .old 4, .old 5, .old 6, .op 21 0]) hst hb follows
          (o_p rfl (ob_move rfl rfl u_0) <|
           o_p rfl (ob_move rfl rfl u_0) <|
           o_p rfl (ob_indexAddr Tryd.underlying23 sz_48 rfl rfl u_0 u_1 h12) <|
           o_p rfl (ob_fieldAddr fl_48_1 rfl rfl u_0) <|
           o_p rfl (ob_load ty_9 rfl rfl u_0) <|
           o_p rfl (ob_fieldAddr fl_48_1 rfl rfl u_0) <|
           o_p rfl (ob_load ty_9 rfl rfl u_0) <|
           o_p rfl (ob_seq rfl rfl u_0 u_1) <|
           o_p rfl (ob_move rfl rfl u_0) <|
           o_g (g_t rfl rfl rfl (fun hG => ob_move rfl rfl u_0)) <|
           o_g (g_t rfl rfl rfl (fun hG => ob_move rfl rfl (Opd.gd hG u_0))) <|
           o_g (g_fi rfl rfl rfl (fun hG => ob_move rfl rfl u_0)) <|
           o_g (g_fi rfl rfl rfl (fun hG => ob_move rfl rfl u_0)) <|
           o_g (g_fi rfl rfl rfl (fun hG => ob_indexAddr Tryd.underlying23 sz_48 rfl rfl (Opd.gd hG u_0) (Opd.gd hG u_1) (gd_true h14 hG))) <|
           o_g (g_fi rfl rfl rfl (fun hG => ob_fieldAddr fl_48_0 rfl rfl (Opd.gd hG u_0))) <|
           o_g (g_fi rfl rfl rfl (fun hG => ob_load ty_22 rfl rfl (Opd.gd hG u_0))) <|
           o_g (g_fi rfl rfl rfl (fun hG => ob_fieldAddr fl_48_0 rfl rfl u_0)) <|
           o_g (g_fi rfl rfl rfl (fun hG => ob_load ty_22 rfl rfl (Opd.gd hG u_0))) <|
           o_g (g_fi rfl rfl rfl (fun hG => ob_call en_32 (moietyref01_Same_ok _ _ (gd_true h16 hG)) rfl rfl (.cons (Opd.gd hG u_0) (.cons (Opd.gd hG u_1) .nil)))) <|
           o_g (g_t rfl rfl rfl (fun hG => ob_por rfl rfl (Opd.gd hG u_0) (fun hz => (Opd.gd (bA hG (bNF hz)) u_1)))) <|
           o_p rfl (ob_pand rfl rfl u_0 (fun hz => (Opd.gd hz u_1))) <|
           o_p rfl (ob_assign rfl rfl u_0) <|
           o_n) (by kernel_rfl) (fun a g hst hb => ?_)
        refine wp_seq ?_
        refine r_s (L := [(0, _), (2, _), (4, _), (7, _), (8, _), (9, _), (10, _), (11, _)]) (T := [⟨[.old 4], _, [], [], [63]⟩, ⟨[.op 0 0], _, [], [0], [64]⟩, ⟨[.op 1 0], _, [], [0, 1], [65]⟩, ⟨[.op 2 0, .old 6], _, [], [0, 1, 2], [66]⟩, ⟨[.op 2 0, .op 3 0], _, [], List.range 4, [67]⟩, ⟨[.op 2 0, .op 4 0], _, [], List.range 5, [68]⟩]) (F := [.old 0, .old 1, .old 2, .old 3, .old 4, .old 5, .old 7, .op 5 0]) hst hb follows
          (o_p rfl (ob_move rfl rfl u_0) <|
           o_p rfl (ob_not rfl rfl u_0) <|
           o_p rfl (ob_move rfl rfl u_0) <|
           o_g (g_t rfl rfl rfl (fun hG => ob_move rfl rfl u_0)) <|
           o_g (g_t rfl rfl rfl (fun hG => ob_not rfl rfl (Opd.gd hG u_0))) <|
           o_p rfl (ob_pand rfl rfl u_0 (fun hz => (Opd.gd hz u_1))) <|
           o_n) (by kernel_rfl) (fun a g hst hb => ?_)
        refine wp_cut (fun a w => ∃ (j20 : List api_Item) (j21 : Bool) (g : G), w = g.w ∧ St 89 [(0, (k_api_Item.sl.pd a0)), (2, (pBool a2)), (4, (k_api_Item.ptr a1)), (7, (pRow k_api_Item 48 12 j20)), (8, (pBool j21)), (9, (pInt .i64 x3))] a g ∧ Base g0 g ∧ moietyref05_Laid_j1 a0 x3 (moietyref05_Laid_l1 a0 a1 a2 n) j20 j21 = some z27) ?_ ?_
        · rintro a w ⟨j20, j21, g, rfl, hst, hb, H1⟩
          unfold moietyref05_Laid_j1 at H1
          refine then_n ?_
          obtain ⟨e22, h23, H1⟩ := of_bind H1; obtain ⟨h24, H1⟩ := of_ite H1
          refine r_g (L := [(0, _), (2, _), (4, _), (7, _), (8, _), (9, _)]) (T := [⟨[.old 3], _, [], [], [75]⟩, ⟨[.old 0], _, [], [], [76]⟩, ⟨[.old 5], _, [], [], [77]⟩, ⟨[.op 1 0, .op 2 0], _, [], [1, 2], [78]⟩, ⟨[.op 3 0], _, [], [1, 2, 3], [79]⟩, ⟨[.op 4 0], _, [], List.range' 1 4, [80]⟩, ⟨[.op 0 0, .op 5 0], _, [13], List.range 6, [7, 75, 81]⟩, ⟨[.op 6 0], _, [], List.range 7, [7]⟩]) (F := [.old 0, .old 1, .old 2, .op 7 0, .old 4, .old 5]) hst hb follows
            (o_p rfl (ob_move rfl rfl u_0) <|
             o_p rfl (ob_move rfl rfl u_0) <|
             o_p rfl (ob_move rfl rfl u_0) <|
             o_p rfl (ob_indexAddr Tryd.underlying23 sz_48 rfl rfl u_0 u_1 h23) <|
             o_p rfl (ob_load ty_48 rfl rfl u_0) <|
             o_p rfl (ob_lit te_23 (xs := [.tmp 79]) (.cons u_0 .nil) (by decide) rfl rfl) <|
             o_p rfl (ob_append te_23 rfl rfl u_0 u_1 h24) <|
             o_p rfl (ob_assign rfl rfl u_0) <|
             o_n) (by kernel_rfl) (fun a g hst hb => ?_)
          refine inBlock_n ?_
          refine then_n ?_
          refine r_g (L := [(0, _), (2, _), (4, _), (7, _), (8, _), (9, _)]) (T := [⟨[.old 5], _, [], [], [17]⟩, ⟨[.op 0 0], _, [], [0], [18]⟩, ⟨[.op 1 0], _, [], [0, 1], [9]⟩]) (F := [.old 0, .old 1, .old 2, .old 3, .old 4, .op 2 0]) hst hb follows
            (o_p rfl (ob_move rfl rfl u_0) <|
             o_p rfl (ob_add rfl rfl u_0 c_i rfl) <|
             o_p rfl (ob_assign rfl rfl u_0) <|
             o_n) (by kernel_rfl) (fun a g hst hb => ?_)
          exact ⟨n, Nat.lt_succ_self _, (j20 ++ ([e22] : List api_Item)), j21, (IntKind.i64.wrap (x3 + (1 : Int))), g, rfl, (hst.pick [0, 1, 2, 3, 4, 5] rfl), hb, H1⟩
        · refine wp_cond_split (hst.bool 7 rfl) (fun hc17 => ?_) (fun hc17 => ?_)
          · replace H1 := ite_t hc17 H1
            refine r_s (L := [(0, _), (2, _), (4, _), (7, _), (9, _), (11, _)]) (T := [⟨[], _, [], [], [8]⟩]) (F := [.old 0, .old 1, .old 2, .old 3, .op 0 0, .old 4, .old 5]) (hst.pick [0, 1, 2, 3, 5, 6] rfl) hb follows
              (o_p rfl (ob_assign rfl rfl c_b) <|
               o_n) (by kernel_rfl) (fun a g hst hb => ?_)
            refine r_s (L := [(0, _), (2, _), (4, _), (7, _), (8, _), (9, _), (11, _)]) (T := [⟨[.old 6], _, [], [], [69]⟩, ⟨[.op 0 0], _, [], [0], [70]⟩]) (F := [.old 0, .old 1, .old 2, .old 3, .old 4, .old 5, .op 1 0]) hst hb follows
              (o_p rfl (ob_move rfl rfl u_0) <|
               o_p rfl (ob_not rfl rfl u_0) <|
               o_n) (by kernel_rfl) (fun a g hst hb => ?_)
            refine wp_cond_split (hst.bool 6 rfl) (fun hc18 => ?_) (fun hc18 => ?_)
            · replace H1 := ite_t hc18 H1
              obtain ⟨h19, H1⟩ := of_ite H1
              refine r_g (L := [(0, _), (2, _), (4, _), (7, _), (8, _), (9, _)]) (T := [⟨[.old 3], _, [], [], [71]⟩, ⟨[.old 2], _, [], [], [72]⟩, ⟨[.op 1 0], _, [], [1], [73]⟩, ⟨[.op 0 0, .op 2 0], _, [13], [0, 1, 2], [7, 71, 74]⟩, ⟨[.op 3 0], _, [], List.range 4, [7]⟩]) (F := [.old 0, .old 1, .old 2, .op 4 0, .old 4, .old 5]) (hst.pick [0, 1, 2, 3, 4, 5] rfl) hb follows
                (o_p rfl (ob_move rfl rfl u_0) <|
                 o_p rfl (ob_load ty_48 rfl rfl u_0) <|
                 o_p rfl (ob_lit te_23 (xs := [.tmp 72]) (.cons u_0 .nil) (by decide) rfl rfl) <|
                 o_p rfl (ob_append te_23 rfl rfl u_0 u_1 h19) <|
                 o_p rfl (ob_assign rfl rfl u_0) <|
                 o_n) (by kernel_rfl) (fun a g hst hb => ?_)
              exact ⟨(x1 ++ ([a1] : List api_Item)), true, g, rfl, (hst.pick [0, 1, 2, 3, 4, 5] rfl), hb, H1⟩
            · replace H1 := ite_f hc18 H1
              refine wp_skip ?_
              exact ⟨x1, true, g, rfl, (hst.pick [0, 1, 2, 3, 4, 5] rfl), hb, H1⟩
          · replace H1 := ite_f hc17 H1
            refine wp_skip ?_
            exact ⟨x1, x2, g, rfl, (hst.pick [0, 1, 2, 3, 4, 5] rfl), hb, H1⟩
      · replace H1 := ite_f hc4 H1
        refine wp_exit ?_
        refine then_e ?_
        refine then_e ?_
        refine inBlock_e ?_
        exact ⟨x1, x2, g, rfl, (hst.pick [2, 3, 4] rfl), hb, Option.some.inj H1⟩
end Go.CL
