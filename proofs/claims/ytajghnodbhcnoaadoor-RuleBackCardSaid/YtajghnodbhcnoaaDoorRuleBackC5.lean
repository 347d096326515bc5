/- A part of the proof of RuleBack. -/
import Derived.Test.YtajghnodbhcnoaaDoorRuleBackC4
import Derived.KernelRfl
import Derived.Laws.Strings
set_option linter.unusedVariables false
set_option linter.unusedSimpArgs false
set_option maxRecDepth 100000
namespace Go.CL
open Go Go.RowKit Go.Proofs
theorem moietyref01_none_ok (a0 : Nat) {r : Bool} (h : moietyref01_none a0 = some r) : FnOk Tryd.prog 78 [(pFlt a0)] (pBool r) := by
  have H0 := h
  unfold moietyref01_none at H0
  clear h
  refine fn_ok (N := 6) Tryd.func78 rfl rfl (Nat.le_of_ble_eq_true rfl) rfl rfl (fun a g0 hst hb => ?_)
  refine r_s (L := [(0, _)]) (T := [⟨[], _, [], [], [2]⟩]) (F := [.old 0]) hst hb follows
    (o_p rfl (ob_assign rfl rfl c_b) <|
     o_n) (by kernel_rfl) (fun a g hst hb => ?_)
  refine r_s (L := [(0, _)]) (T := [⟨[.old 0], _, [], [], [3]⟩, ⟨[.old 0], _, [], [], [4]⟩, ⟨[.op 0 0, .op 1 0], _, [], [0, 1], [5]⟩, ⟨[.op 2 0], _, [], [0, 1, 2], [2]⟩]) (F := [.op 3 0]) hst hb follows
    (o_p rfl (ob_move rfl rfl u_0) <|
     o_p rfl (ob_move rfl rfl u_0) <|
     o_p rfl (ob_fneq rfl rfl u_0 u_1) <|
     o_p rfl (ob_assign rfl rfl u_0) <|
     o_n) (by kernel_rfl) (fun a g hst hb => ?_)
  refine wp_ret ?_
  obtain rfl := Option.some.inj H0
  exact endR1 rfl hst hb (res_tmp (s := 2)) (hst.at 0 rfl)
end Go.CL

set_option linter.unusedVariables false
set_option linter.unusedSimpArgs false
set_option maxRecDepth 100000
namespace Go.CL
open Go Go.RowKit Go.Proofs
theorem moietyref01_below_ok (a0 : Nat) {r : Bool} (h : moietyref01_below a0 = some r) : FnOk Tryd.prog 91 [(pFlt a0)] (pBool r) := by
  have H0 := h
  unfold moietyref01_below at H0
  clear h
  refine fn_ok (N := 10) Tryd.func91 rfl rfl (Nat.le_of_ble_eq_true rfl) rfl rfl (fun a g0 hst hb => ?_)
  refine r_s (L := [(0, _)]) (T := [⟨[], _, [], [], [2]⟩]) (F := [.old 0]) hst hb follows
    (o_p rfl (ob_assign rfl rfl c_b) <|
     o_n) (by kernel_rfl) (fun a g hst hb => ?_)
  refine wp_seq ?_
  refine r_s (L := [(0, _)]) (T := [⟨[.old 0], _, [], [], [3]⟩, ⟨[.op 0 0], _, [], [0], [4]⟩]) (F := [.old 0, .op 1 0]) hst hb follows
    (o_p rfl (ob_move rfl rfl u_0) <|
     o_p rfl (ob_feql rfl rfl u_0 c_f) <|
     o_n) (by kernel_rfl) (fun a g hst hb => ?_)
  refine wp_cond_split (hst.bool 1 rfl) (fun hc1 => ?_) (fun hc1 => ?_)
  · replace H0 := ite_t hc1 H0
    obtain ⟨f2, h3, H0⟩ := of_bind H0
    refine r_s (L := [(0, _)]) (T := [⟨[.old 0], _, [], [], [5]⟩, ⟨[.op 0 0], _, [], [0], [6]⟩, ⟨[.op 1 0], _, [], [0, 1], [7]⟩, ⟨[.op 2 0], _, [], [0, 1, 2], [2]⟩]) (F := [.op 3 0]) (hst.pick [0] rfl) hb follows
      (o_p rfl (ob_move rfl rfl u_0) <|
       o_p rfl (ob_fquo rfl rfl c_f u_0 h3) <|
       o_p rfl (ob_flss rfl rfl u_0 c_f) <|
       o_p rfl (ob_assign rfl rfl u_0) <|
       o_n) (by kernel_rfl) (fun a g hst hb => ?_)
    refine wp_ret ?_
    refine then_r ?_
    obtain rfl := Option.some.inj H0
    exact endR1 rfl hst hb (res_tmp (s := 2)) (hst.at 0 rfl)
  · replace H0 := ite_f hc1 H0
    refine wp_skip ?_
    refine then_n ?_
    refine r_s (L := [(0, _)]) (T := [⟨[.old 0], _, [], [], [8]⟩, ⟨[.op 0 0], _, [], [0], [9]⟩, ⟨[.op 1 0], _, [], [0, 1], [2]⟩]) (F := [.op 2 0]) (hst.pick [0] rfl) hb follows
      (o_p rfl (ob_move rfl rfl u_0) <|
       o_p rfl (ob_flss rfl rfl u_0 c_f) <|
       o_p rfl (ob_assign rfl rfl u_0) <|
       o_n) (by kernel_rfl) (fun a g hst hb => ?_)
    refine wp_ret ?_
    obtain rfl := Option.some.inj H0
    exact endR1 rfl hst hb (res_tmp (s := 2)) (hst.at 0 rfl)
end Go.CL

set_option linter.unusedVariables false
set_option linter.unusedSimpArgs false
set_option maxRecDepth 100000
namespace Go.CL
open Go Go.RowKit Go.Proofs
theorem moietyref01_Less_ok (a0 : Nat) (a1 : Nat) {r : Bool} (h : moietyref01_Less a0 a1 = some r) : FnOk Tryd.prog 75 [(pFlt a0), (pFlt a1)] (pBool r) := by
  have H0 := h
  unfold moietyref01_Less at H0
  clear h
  refine fn_ok (N := 25) Tryd.func75 rfl rfl (Nat.le_of_ble_eq_true rfl) rfl rfl (fun a g0 hst hb => ?_)
  refine r_s (L := [(0, _), (1, _)]) (T := [⟨[], _, [], [], [4]⟩]) (F := [.old 0, .old 1]) hst hb follows
    (o_p rfl (ob_assign rfl rfl c_b) <|
     o_n) (by kernel_rfl) (fun a g hst hb => ?_)
  refine wp_seq ?_
  obtain ⟨r1, h2, H0⟩ := of_bind H0
  refine r_s (L := [(0, _), (1, _)]) (T := [⟨[.old 0], _, [], [], [5]⟩, ⟨[.op 0 0], _, [], [0], [6]⟩]) (F := [.old 0, .old 1, .op 1 0]) hst hb follows
    (o_p rfl (ob_move rfl rfl u_0) <|
     o_p rfl (ob_call en_78 (moietyref01_none_ok _ h2) rfl rfl (.cons u_0 .nil)) <|
     o_n) (by kernel_rfl) (fun a g hst hb => ?_)
  refine wp_cond_split (hst.bool 2 rfl) (fun hc3 => ?_) (fun hc3 => ?_)
  · replace H0 := ite_t hc3 H0
    refine r_s (L := []) (T := [⟨[], _, [], [], [4]⟩]) (F := [.op 0 0]) (hst.pick [] rfl) hb follows
      (o_p rfl (ob_assign rfl rfl c_b) <|
       o_n) (by kernel_rfl) (fun a g hst hb => ?_)
    refine wp_ret ?_
    refine then_r ?_
    obtain rfl := Option.some.inj H0
    exact endR1 rfl hst hb (res_tmp (s := 4)) (hst.at 0 rfl)
  · replace H0 := ite_f hc3 H0
    refine wp_skip ?_
    refine then_n ?_
    refine wp_seq ?_
    obtain ⟨r4, h5, H0⟩ := of_bind H0
    refine r_s (L := [(0, _), (1, _)]) (T := [⟨[.old 1], _, [], [], [7]⟩, ⟨[.op 0 0], _, [], [0], [8]⟩]) (F := [.old 0, .old 1, .op 1 0]) (hst.pick [0, 1] rfl) hb follows
      (o_p rfl (ob_move rfl rfl u_0) <|
       o_p rfl (ob_call en_78 (moietyref01_none_ok _ h5) rfl rfl (.cons u_0 .nil)) <|
       o_n) (by kernel_rfl) (fun a g hst hb => ?_)
    refine wp_cond_split (hst.bool 2 rfl) (fun hc6 => ?_) (fun hc6 => ?_)
    · replace H0 := ite_t hc6 H0
      refine r_s (L := []) (T := [⟨[], _, [], [], [4]⟩]) (F := [.op 0 0]) (hst.pick [] rfl) hb follows
        (o_p rfl (ob_assign rfl rfl c_b) <|
         o_n) (by kernel_rfl) (fun a g hst hb => ?_)
      refine wp_ret ?_
      refine then_r ?_
      obtain rfl := Option.some.inj H0
      exact endR1 rfl hst hb (res_tmp (s := 4)) (hst.at 0 rfl)
    · replace H0 := ite_f hc6 H0
      refine wp_skip ?_
      refine then_n ?_
      refine wp_seq ?_
      refine r_s (L := [(0, _), (1, _)]) (T := [⟨[.old 0], _, [], [], [9]⟩, ⟨[.op 0 0], _, [], [0], [10]⟩, ⟨[.op 1 0], _, [], [0, 1], [11]⟩, ⟨[.op 2 0, .old 1], _, [], [0, 1, 2], [12]⟩, ⟨[.op 2 0, .op 3 0], _, [], List.range 4, [13]⟩, ⟨[.op 2 0, .op 4 0], _, [], List.range 5, [14]⟩]) (F := [.old 0, .old 1, .op 5 0]) (hst.pick [0, 1] rfl) hb follows
        (o_p rfl (ob_move rfl rfl u_0) <|
         o_p rfl (ob_feql rfl rfl u_0 c_f) <|
         o_p rfl (ob_move rfl rfl u_0) <|
         o_g (g_t rfl rfl rfl (fun hG => ob_move rfl rfl u_0)) <|
         o_g (g_t rfl rfl rfl (fun hG => ob_feql rfl rfl (Opd.gd hG u_0) c_f)) <|
         o_p rfl (ob_pand rfl rfl u_0 (fun hz => (Opd.gd hz u_1))) <|
         o_n) (by kernel_rfl) (fun a g hst hb => ?_)
      refine wp_cond_split (hst.bool 2 rfl) (fun hc7 => ?_) (fun hc7 => ?_)
      · replace H0 := ite_t hc7 H0
        obtain ⟨r8, h9, H0⟩ := of_bind H0; obtain ⟨r10, h11, H0⟩ := of_bind H0
        refine r_s (L := [(0, _), (1, _)]) (T := [⟨[.old 0], _, [], [], [15]⟩, ⟨[.op 0 0], _, [], [0], [16]⟩, ⟨[.op 1 0], _, [], [0, 1], [17]⟩, ⟨[.op 2 0, .old 1], _, [], [0, 1, 2], [18]⟩, ⟨[.op 2 0, .op 3 0], _, [], List.range 4, [19]⟩, ⟨[.op 2 0, .op 4 0], _, [], List.range 5, [20]⟩, ⟨[.op 2 0, .op 5 0], _, [], List.range 6, [21]⟩, ⟨[.op 6 0], _, [], List.range 7, [4]⟩]) (F := [.op 7 0]) (hst.pick [0, 1] rfl) hb follows
          (o_p rfl (ob_move rfl rfl u_0) <|
           o_p rfl (ob_call en_91 (moietyref01_below_ok _ h9) rfl rfl (.cons u_0 .nil)) <|
           o_p rfl (ob_move rfl rfl u_0) <|
           o_g (g_t rfl rfl rfl (fun hG => ob_move rfl rfl u_0)) <|
           o_g (g_t rfl rfl rfl (fun hG => ob_call en_91 (moietyref01_below_ok _ (gd_true h11 hG)) rfl rfl (.cons (Opd.gd hG u_0) .nil))) <|
           o_g (g_t rfl rfl rfl (fun hG => ob_not rfl rfl (Opd.gd hG u_0))) <|
           o_p rfl (ob_pand rfl rfl u_0 (fun hz => (Opd.gd hz u_1))) <|
           o_p rfl (ob_assign rfl rfl u_0) <|
           o_n) (by kernel_rfl) (fun a g hst hb => ?_)
        refine wp_ret ?_
        refine then_r ?_
        obtain rfl := Option.some.inj H0
        exact endR1 rfl hst hb (res_tmp (s := 4)) (hst.at 0 rfl)
      · replace H0 := ite_f hc7 H0
        refine wp_skip ?_
        refine then_n ?_
        refine r_s (L := [(0, _), (1, _)]) (T := [⟨[.old 0], _, [], [], [22]⟩, ⟨[.old 1], _, [], [], [23]⟩, ⟨[.op 0 0, .op 1 0], _, [], [0, 1], [24]⟩, ⟨[.op 2 0], _, [], [0, 1, 2], [4]⟩]) (F := [.op 3 0]) (hst.pick [0, 1] rfl) hb follows
          (o_p rfl (ob_move rfl rfl u_0) <|
           o_p rfl (ob_move rfl rfl u_0) <|
           o_p rfl (ob_flss rfl rfl u_0 u_1) <|
           o_p rfl (ob_assign rfl rfl u_0) <|
           o_n) (by kernel_rfl) (fun a g hst hb => ?_)
        refine wp_ret ?_
        obtain rfl := Option.some.inj H0
        exact endR1 rfl hst hb (res_tmp (s := 4)) (hst.at 0 rfl)
end Go.CL

set_option linter.unusedVariables false
set_option linter.unusedSimpArgs false
set_option maxRecDepth 100000
namespace Go.CL
open Go Go.RowKit Go.Proofs
theorem moietyref01_Same_ok (a0 : Nat) (a1 : Nat) {r : Bool} (h : moietyref01_Same a0 a1 = some r) : FnOk Tryd.prog 32 [(pFlt a0), (pFlt a1)] (pBool r) := by
  have H0 := h
  unfold moietyref01_Same at H0
  clear h
  refine fn_ok (N := 15) Tryd.func32 rfl rfl (Nat.le_of_ble_eq_true rfl) rfl rfl (fun a g0 hst hb => ?_)
  refine r_s (L := [(0, _), (1, _)]) (T := [⟨[], _, [], [], [4]⟩]) (F := [.old 0, .old 1]) hst hb follows
    (o_p rfl (ob_assign rfl rfl c_b) <|
     o_n) (by kernel_rfl) (fun a g hst hb => ?_)
  obtain ⟨r1, h2, H0⟩ := of_bind H0; obtain ⟨r3, h4, H0⟩ := of_bind H0
  refine r_s (L := [(0, _), (1, _)]) (T := [⟨[.old 0], _, [], [], [5]⟩, ⟨[.old 1], _, [], [], [6]⟩, ⟨[.op 0 0, .op 1 0], _, [], [0, 1], [7]⟩, ⟨[.op 2 0], _, [], [0, 1, 2], [8]⟩, ⟨[.op 3 0], _, [], List.range 4, [9]⟩, ⟨[.op 4 0, .old 1], _, [], List.range 5, [10]⟩, ⟨[.op 4 0, .old 0], _, [], List.range 5, [11]⟩, ⟨[.op 4 0, .op 5 0, .op 6 0], _, [], List.range 7, [12]⟩, ⟨[.op 4 0, .op 7 0], _, [], List.range 8, [13]⟩, ⟨[.op 4 0, .op 8 0], _, [], List.range 9, [14]⟩, ⟨[.op 9 0], _, [], List.range 10, [4]⟩]) (F := [.op 10 0]) hst hb follows
    (o_p rfl (ob_move rfl rfl u_0) <|
     o_p rfl (ob_move rfl rfl u_0) <|
     o_p rfl (ob_call en_75 (moietyref01_Less_ok _ _ h2) rfl rfl (.cons u_0 (.cons u_1 .nil))) <|
     o_p rfl (ob_not rfl rfl u_0) <|
     o_p rfl (ob_move rfl rfl u_0) <|
     o_g (g_t rfl rfl rfl (fun hG => ob_move rfl rfl u_0)) <|
     o_g (g_t rfl rfl rfl (fun hG => ob_move rfl rfl u_0)) <|
     o_g (g_t rfl rfl rfl (fun hG => ob_call en_75 (moietyref01_Less_ok _ _ (gd_true h4 hG)) rfl rfl (.cons (Opd.gd hG u_0) (.cons (Opd.gd hG u_1) .nil)))) <|
     o_g (g_t rfl rfl rfl (fun hG => ob_not rfl rfl (Opd.gd hG u_0))) <|
     o_p rfl (ob_pand rfl rfl u_0 (fun hz => (Opd.gd hz u_1))) <|
     o_p rfl (ob_assign rfl rfl u_0) <|
     o_n) (by kernel_rfl) (fun a g hst hb => ?_)
  refine wp_ret ?_
  obtain rfl := Option.some.inj H0
  exact endR1 rfl hst hb (res_tmp (s := 4)) (hst.at 0 rfl)
end Go.CL

set_option linter.unusedVariables false
set_option linter.unusedSimpArgs false
set_option maxRecDepth 100000
namespace Go.CL
open Go Go.RowKit Go.Proofs
theorem moietyref03_zero_ok (a0 : Nat) {r : Bool} (h : moietyref03_zero a0 = some r) : FnOk Tryd.prog 77 [(pFlt a0)] (pBool r) := by
  have H0 := h
  unfold moietyref03_zero at H0
  clear h
  refine fn_ok (N := 5) Tryd.func77 rfl rfl (Nat.le_of_ble_eq_true rfl) rfl rfl (fun a g0 hst hb => ?_)
  refine r_s (L := [(0, _)]) (T := [⟨[], _, [], [], [2]⟩]) (F := [.old 0]) hst hb follows
    (o_p rfl (ob_assign rfl rfl c_b) <|
     o_n) (by kernel_rfl) (fun a g hst hb => ?_)
  obtain ⟨r1, h2, H0⟩ := of_bind H0
  refine r_s (L := [(0, _)]) (T := [⟨[.old 0], _, [], [], [3]⟩, ⟨[.op 0 0], _, [], [0], [4]⟩, ⟨[.op 1 0], _, [], [0, 1], [2]⟩]) (F := [.op 2 0]) hst hb follows
    (o_p rfl (ob_move rfl rfl u_0) <|
     o_p rfl (ob_call en_32 (moietyref01_Same_ok _ _ h2) rfl rfl (.cons u_0 (.cons c_f .nil))) <|
     o_p rfl (ob_assign rfl rfl u_0) <|
     o_n) (by kernel_rfl) (fun a g hst hb => ?_)
  refine wp_ret ?_
  obtain rfl := Option.some.inj H0
  exact endR1 rfl hst hb (res_tmp (s := 2)) (hst.at 0 rfl)
end Go.CL

set_option linter.unusedVariables false
set_option linter.unusedSimpArgs false
set_option maxRecDepth 100000
namespace Go.CL
open Go Go.RowKit Go.Proofs
theorem moietyref03_only_ok (a0 : api_Record) (a1 : ByteArray) {r : Bool} (h : moietyref03_only a0 a1 = some r) : FnOk Tryd.prog 36 [(k_api_Record.pd a0), (pStr a1)] (pBool r) := by
  have H0 := h
  unfold moietyref03_only at H0
  clear h
  refine fn_ok (N := 106) Tryd.func36 rfl rfl (Nat.le_of_ble_eq_true rfl) rfl rfl (fun a g0 hst hb => ?_)
  refine r_s (L := [(0, _), (1, _)]) (T := [⟨[.old 0], _, [], [], [2]⟩, ⟨[], _, [], [], [4]⟩]) (F := [.old 1, .op 0 0]) hst hb follows
    (o_p rfl (ob_box1 rfl rfl u_0) <|
     o_p rfl (ob_assign rfl rfl c_b) <|
     o_n) (by kernel_rfl) (fun a g hst hb => ?_)
  refine r_s (L := [(1, _), (2, _)]) (T := [⟨[], _, [], [], [5]⟩, ⟨[], _, [], [0], [6]⟩, ⟨[], _, [], [0, 1], [7]⟩, ⟨[], _, [], [0, 1, 2], [8]⟩, ⟨[], _, [], List.range 4, [9]⟩]) (F := [.old 0, .old 1, .op 0 0, .op 1 0, .op 2 0, .op 3 0, .op 4 0]) hst hb follows
    (o_p rfl (ob_assign rfl rfl c_b) <|
     o_p rfl (ob_assign rfl rfl c_b) <|
     o_p rfl (ob_assign rfl rfl c_b) <|
     o_p rfl (ob_assign rfl rfl c_b) <|
     o_p rfl (ob_assign rfl rfl c_b) <|
     o_n) (by kernel_rfl) (fun a g hst hb => ?_)
  refine wp_seq ?_
  refine r_s (L := [(1, _), (2, _), (5, _), (6, _), (7, _), (8, _), (9, _)]) (T := [⟨[], _, [], [], [10]⟩]) (F := [.old 0, .old 1, .old 2, .old 3, .old 4, .old 5, .old 6, .op 0 0]) hst hb follows
    (o_p rfl (ob_assign rfl rfl c_i) <|
     o_n) (by kernel_rfl) (fun a g hst hb => ?_)
  obtain ⟨z23, hz1, H0⟩ := of_bind H0
  refine wp_cut (fun a w => ∃ (y18 : Bool) (y19 : Bool) (y20 : Bool) (y21 : Bool) (y22 : Bool) (g : G), w = g.w ∧ St 106 [(2, (k_api_Record.ptr a0)), (5, (pBool y18)), (6, (pBool y19)), (7, (pBool y20)), (8, (pBool y21)), (9, (pBool y22))] a g ∧ Base g0 g ∧ (y18, y19, y20, y21, y22) = z23) ?_ ?_
  · rintro a w ⟨y18, y19, y20, y21, y22, g, rfl, hst, hb, rfl⟩
    refine then_n ?_
    refine wp_seq ?_
    refine r_s (L := [(2, _), (5, _), (6, _), (7, _), (8, _), (9, _)]) (T := ⟨[.old 1], _, [], [], [52]⟩ :: ⟨[.op 0 0], _, [], [0], [53]⟩ :: ⟨[.op 1 0], _, [], [0, 1], [54]⟩ :: ⟨[.op 2 0, .old 0], _, [], [0, 1, 2], [55]⟩ :: ⟨[.op 2 0, .op 3 0], _, [], List.range 4, [56]⟩ :: ⟨[.op 2 0, .op 4 0], _, [], List.range 5, [57]⟩ :: ⟨[.op 2 0, .op 5 0], _, [], List.range 6, [58]⟩ :: ⟨[.op 6 0], _, [], List.range 7, [59]⟩ :: ⟨[.op 7 0, .old 2], _, [], List.range 8, [60]⟩ :: ⟨[.op 7 0, .op 8 0], _, [], List.range 9, [61]⟩ :: ⟨[.op 7 0, .op 9 0], _, [], List.range 10, [62]⟩ :: ⟨[.op 10 0, .old 0], _, [], List.range 11, [63]⟩ :: ⟨[.op 10 0, .op 11 0], _, [], List.range 12, [64]⟩ :: ⟨[.op 10 0, .op 12 0], _, [], List.range 13, [65]⟩ :: ⟨[.op 7 0, .op 10 0, .op 13 0], _, [], List.range 14, [66]⟩ :: ⟨[.op 7 0, .op 14 0], _, [], List.range 15, [67]⟩ :: ⟨[.op 15 0], _, [], List.range 16, [68]⟩ :: ⟨[.op 16 0, .old 3], _, [], List.range 17, [69]⟩ :: ⟨[.op 16 0, .op 17 0], _, [], List.range 18, [70]⟩ :: ⟨[.op 16 0, .op 18 0], _, [], List.range 19, [71]⟩ :: ⟨[.op 19 0, .old 0], _, [], List.range 20, [72]⟩ :: ⟨[.op 19 0, .op 20 0], _, [], List.range 21, [73]⟩ :: ⟨[.op 19 0, .op 21 0], _, [], List.range 22, [74]⟩ :: ⟨[.op 16 0, .op 19 0, .op 22 0], _, [], List.range 23, [75]⟩ :: ⟨[.op 16 0, .op 23 0], _, [], List.range 24, [76]⟩ :: ⟨[.op 24 0], _, [], List.range 25, [77]⟩ :: ⟨[.op 25 0, .old 3], _, [], List.range 26, [78]⟩ :: ⟨[.op 25 0, .op 26 0], _, [], List.range 27, [79]⟩ :: ⟨[.op 25 0, .op 27 0], _, [], List.range 28, [80]⟩ :: ⟨[.op 28 0, .old 0], _, [], List.range 29, [81]⟩ :: ⟨[.op 28 0, .op 29 0], _, [], List.range 30, [82]⟩ :: ⟨[.op 28 0, .op 30 0], _, [], List.range 31, [83]⟩ :: ⟨[.op 25 0, .op 28 0, .op 31 0], _, [], List.range 32, [84]⟩ :: ⟨[.op 25 0, .op 32 0], _, [], List.range 33, [85]⟩ :: []) (F := [.old 0, .old 4, .old 5, .op 33 0]) hst hb follows
      (o_p rfl (ob_move rfl rfl u_0) <|
       o_p rfl (ob_not rfl rfl u_0) <|
       o_p rfl (ob_move rfl rfl u_0) <|
       o_g (g_t rfl rfl rfl (fun hG => ob_fieldAddr fl_25_6 rfl rfl u_0)) <|
       o_g (g_t rfl rfl rfl (fun hG => ob_load ty_9 rfl rfl (Opd.gd hG u_0))) <|
       o_g (g_t rfl rfl rfl (fun hG => ob_sne rfl rfl (Opd.gd hG u_0) c_s)) <|
       o_p rfl (ob_pand rfl rfl u_0 (fun hz => (Opd.gd hz u_1))) <|
       o_p rfl (ob_move rfl rfl u_0) <|
       o_g (g_f rfl rfl rfl (fun hG => ob_move rfl rfl u_0)) <|
       o_g (g_f rfl rfl rfl (fun hG => ob_not rfl rfl (Opd.gd hG u_0))) <|
       o_g (g_f rfl rfl rfl (fun hG => ob_move rfl rfl (Opd.gd hG u_0))) <|
       o_g (g_ti rfl rfl rfl (fun hG => ob_fieldAddr fl_25_1 rfl rfl u_0)) <|
       o_g (g_ti rfl rfl rfl (fun hG => ob_load ty_2 rfl rfl (Opd.gd hG u_0))) <|
       o_g (g_ti rfl rfl rfl (fun hG => ob_ne rfl rfl (Opd.gd hG u_0) c_i)) <|
       o_g (g_f rfl rfl rfl (fun hG => ob_pand rfl rfl (Opd.gd hG u_0) (fun hz => (Opd.gd (bA hG hz) u_1)))) <|
       o_p rfl (ob_por rfl rfl u_0 (fun hz => (Opd.gd (bNF hz) u_1))) <|
       o_p rfl (ob_move rfl rfl u_0) <|
       o_g (g_f rfl rfl rfl (fun hG => ob_move rfl rfl u_0)) <|
       o_g (g_f rfl rfl rfl (fun hG => ob_not rfl rfl (Opd.gd hG u_0))) <|
       o_g (g_f rfl rfl rfl (fun hG => ob_move rfl rfl (Opd.gd hG u_0))) <|
       o_g (g_ti rfl rfl rfl (fun hG => ob_fieldAddr fl_25_2 rfl rfl u_0)) <|
       o_g (g_ti rfl rfl rfl (fun hG => ob_load ty_2 rfl rfl (Opd.gd hG u_0))) <|
       o_g (g_ti rfl rfl rfl (fun hG => ob_ne rfl rfl (Opd.gd hG u_0) c_i)) <|
       o_g (g_f rfl rfl rfl (fun hG => ob_pand rfl rfl (Opd.gd hG u_0) (fun hz => (Opd.gd (bA hG hz) u_1)))) <|
       o_p rfl (ob_por rfl rfl u_0 (fun hz => (Opd.gd (bNF hz) u_1))) <|
       o_p rfl (ob_move rfl rfl u_0) <|
       o_g (g_f rfl rfl rfl (fun hG => ob_move rfl rfl u_0)) <|
       o_g (g_f rfl rfl rfl (fun hG => ob_not rfl rfl (Opd.gd hG u_0))) <|
       o_g (g_f rfl rfl rfl (fun hG => ob_move rfl rfl (Opd.gd hG u_0))) <|
       o_g (g_ti rfl rfl rfl (fun hG => ob_fieldAddr fl_25_3 rfl rfl u_0)) <|
       o_g (g_ti rfl rfl rfl (fun hG => ob_load ty_2 rfl rfl (Opd.gd hG u_0))) <|
       o_g (g_ti rfl rfl rfl (fun hG => ob_ne rfl rfl (Opd.gd hG u_0) c_i)) <|
       o_g (g_f rfl rfl rfl (fun hG => ob_pand rfl rfl (Opd.gd hG u_0) (fun hz => (Opd.gd (bA hG hz) u_1)))) <|
       o_p rfl (ob_por rfl rfl u_0 (fun hz => (Opd.gd (bNF hz) u_1))) <|
       o_n) (by kernel_rfl) (fun a g hst hb => ?_)
    refine wp_cond_split (hst.bool 3 rfl) (fun hc24 => ?_) (fun hc24 => ?_)
    · replace H0 := ite_t hc24 H0
      refine r_s (L := []) (T := [⟨[], _, [], [], [4]⟩]) (F := [.op 0 0]) (hst.pick [] rfl) hb follows
        (o_p rfl (ob_assign rfl rfl c_b) <|
         o_n) (by kernel_rfl) (fun a g hst hb => ?_)
      refine wp_ret ?_
      refine then_r ?_
      obtain rfl := Option.some.inj H0
      exact endR1 rfl hst hb (res_tmp (s := 4)) (hst.at 0 rfl)
    · replace H0 := ite_f hc24 H0
      refine wp_skip ?_
      refine then_n ?_
      obtain ⟨r25, h26, H0⟩ := of_bind H0
      refine r_s (L := [(2, _), (8, _), (9, _)]) (T := ⟨[.old 1], _, [], [], [86]⟩ :: ⟨[.op 0 0], _, [], [0], [87]⟩ :: ⟨[.op 1 0, .old 0], _, [], [0, 1], [88]⟩ :: ⟨[.op 1 0, .op 2 0], _, [], [0, 1, 2], [89]⟩ :: ⟨[.op 1 0, .op 3 0], _, [], List.range 4, [90]⟩ :: ⟨[.op 1 0, .op 4 0], _, [], List.range 5, [91]⟩ :: ⟨[.op 5 0], _, [], List.range 6, [92]⟩ :: ⟨[.op 6 0, .old 2], _, [], List.range 7, [93]⟩ :: ⟨[.op 6 0, .op 7 0], _, [], List.range 8, [94]⟩ :: ⟨[.op 8 0, .old 0], _, [], List.range 9, [95]⟩ :: ⟨[.op 8 0, .op 9 0], _, [], List.range 10, [96]⟩ :: ⟨[.op 8 0, .op 10 0], _, [], List.range 11, [97]⟩ :: ⟨[.op 8 0, .op 11 0], _, [], List.range 12, [98]⟩ :: ⟨[.op 12 0, .old 0], _, [], List.range 13, [99]⟩ :: ⟨[.op 12 0, .op 13 0], _, [], List.range 14, [100]⟩ :: ⟨[.op 12 0, .op 14 0], _, [], List.range 15, [101]⟩ :: ⟨[.op 12 0, .op 15 0], _, [], List.range 16, [102]⟩ :: ⟨[.op 8 0, .op 12 0, .op 16 0], _, [], List.range 17, [103]⟩ :: ⟨[.op 6 0, .op 8 0, .op 17 0], _, [], List.range 18, [104]⟩ :: ⟨[.op 6 0, .op 18 0], _, [], List.range 19, [105]⟩ :: ⟨[.op 19 0], _, [], List.range 20, [4]⟩ :: []) (F := [.op 20 0]) (hst.pick [0, 1, 2] rfl) hb follows
        (o_p rfl (ob_move rfl rfl u_0) <|
         o_p rfl (ob_move rfl rfl u_0) <|
         o_g (g_f rfl rfl rfl (fun hG => ob_fieldAddr fl_25_4 rfl rfl u_0)) <|
         o_g (g_f rfl rfl rfl (fun hG => ob_load ty_22 rfl rfl (Opd.gd hG u_0))) <|
         o_g (g_f rfl rfl rfl (fun hG => ob_call en_77 (moietyref03_zero_ok _ (gd_true h26 hG)) rfl rfl (.cons (Opd.gd hG u_0) .nil))) <|
         o_p rfl (ob_por rfl rfl u_0 (fun hz => (Opd.gd (bNF hz) u_1))) <|
         o_p rfl (ob_move rfl rfl u_0) <|
         o_g (g_t rfl rfl rfl (fun hG => ob_move rfl rfl u_0)) <|
         o_g (g_t rfl rfl rfl (fun hG => ob_move rfl rfl (Opd.gd hG u_0))) <|
         o_g (g_fi rfl rfl rfl (fun hG => ob_fieldAddr fl_25_5 rfl rfl u_0)) <|
         o_g (g_fi rfl rfl rfl (fun hG => ob_load ty_3 rfl rfl (Opd.gd hG u_0))) <|
         o_g (g_fi rfl rfl rfl (fun hG => ob_eq rfl rfl (Opd.gd hG u_0) c_i)) <|
         o_g (g_fi rfl rfl rfl (fun hG => ob_move rfl rfl (Opd.gd hG u_0))) <|
         o_g (g_ti rfl rfl rfl (fun hG => ob_fieldAddr fl_25_7 rfl rfl u_0)) <|
         o_g (g_ti rfl rfl rfl (fun hG => ob_load ty_23 rfl rfl (Opd.gd hG u_0))) <|
         o_g (g_ti rfl rfl rfl (fun hG => ob_lenL Tryd.underlying23 rfl rfl (Opd.gd hG u_0))) <|
         o_g (g_ti rfl rfl rfl (fun hG => ob_eq rfl rfl (Opd.gd hG u_0) c_i)) <|
         o_g (g_fi rfl rfl rfl (fun hG => ob_pand rfl rfl (Opd.gd hG u_0) (fun hz => (Opd.gd (bA hG hz) u_1)))) <|
         o_g (g_t rfl rfl rfl (fun hG => ob_por rfl rfl (Opd.gd hG u_0) (fun hz => (Opd.gd (bA hG (bNF hz)) u_1)))) <|
         o_p rfl (ob_pand rfl rfl u_0 (fun hz => (Opd.gd hz u_1))) <|
         o_p rfl (ob_assign rfl rfl u_0) <|
         o_n) (by kernel_rfl) (fun a g hst hb => ?_)
      refine wp_ret ?_
      obtain rfl := Option.some.inj H0
      exact endR1 rfl hst hb (res_tmp (s := 4)) (hst.at 0 rfl)
  · refine wp_block ?_
    refine wp_loop_ghost (fun n a w => ∃ (x1 : Bool) (x2 : Bool) (x3 : Bool) (x4 : Bool) (x5 : Bool) (x6 : Int) (g : G), w = g.w ∧ St 106 [(1, (pStr a1)), (2, (k_api_Record.ptr a0)), (5, (pBool x1)), (6, (pBool x2)), (7, (pBool x3)), (8, (pBool x4)), (9, (pBool x5)), (10, (pInt .i64 x6))] a g ∧ Base g0 g ∧ moietyref03_only_l1 a1 n x1 x2 x3 x4 x5 x6 = some z23) (Int.toNat ((a1.size : Int) - (0 : Int)) + 1) ⟨false, false, false, false, false, (0 : Int), g, rfl, (hst.pick [0, 1, 2, 3, 4, 5, 6, 7] rfl), hb, hz1⟩ (fun n a w hI => ?_)
    obtain ⟨x1, x2, x3, x4, x5, x6, g, rfl, hst, hb, H1⟩ := hI
    cases n with
    | zero => exact absurd H1 (by simp [moietyref03_only_l1])
    | succ n =>
      rw [moietyref03_only_l1] at H1
      refine wp_seq ?_
      refine r_s (L := [(1, _), (2, _), (5, _), (6, _), (7, _), (8, _), (9, _), (10, _)]) (T := [⟨[.old 7], _, [], [], [11]⟩, ⟨[.old 0], _, [], [], [12]⟩, ⟨[.op 1 0], _, [], [1], [13]⟩, ⟨[.op 0 0, .op 2 0], _, [], [0, 1, 2], [14]⟩]) (F := [.old 0, .old 1, .old 2, .old 3, .old 4, .old 5, .old 6, .old 7, .op 3 0]) hst hb follows
        (o_p rfl (ob_move rfl rfl u_0) <|
         o_p rfl (ob_move rfl rfl u_0) <|
         o_p rfl (ob_lenS Tryd.underlying9 rfl rfl u_0) <|
         o_p rfl (ob_lt rfl rfl u_0 u_1) <|
         o_n) (by kernel_rfl) (fun a g hst hb => ?_)
      refine wp_cond_split (hst.bool 8 rfl) (fun hc7 => ?_) (fun hc7 => ?_)
      · replace H1 := ite_t hc7 H1
        refine wp_skip ?_
        refine then_n ?_
        refine wp_seq ?_
        refine wp_block ?_
        obtain ⟨b8, h9, H1⟩ := of_bind H1
        refine r_s (L := [(1, _), (2, _), (5, _), (6, _), (7, _), (8, _), (9, _), (10, _)]) (T := [⟨[.old 2], _, [], [], [17]⟩, ⟨[.op 0 0], _, [], [0], [18]⟩, ⟨[.op 1 0, .old 0], _, [], [0, 1], [19]⟩, ⟨[.op 1 0, .old 7], _, [], [0, 1], [20]⟩, ⟨[.op 1 0, .op 2 0, .op 3 0], _, [], List.range 4, [21]⟩, ⟨[.op 1 0, .op 4 0], _, [], List.range 5, [22]⟩, ⟨[.op 1 0, .op 5 0], _, [], List.range 6, [23]⟩, ⟨[.op 6 0], _, [], List.range 7, [5]⟩]) (F := [.old 0, .old 1, .op 7 0, .old 3, .old 4, .old 5, .old 6, .old 7]) (hst.pick [0, 1, 2, 3, 4, 5, 6, 7] rfl) hb follows
          (o_p rfl (ob_move rfl rfl u_0) <|
           o_p rfl (ob_move rfl rfl u_0) <|
           o_g (g_f rfl rfl rfl (fun hG => ob_move rfl rfl u_0)) <|
           o_g (g_f rfl rfl rfl (fun hG => ob_move rfl rfl u_0)) <|
           o_g (g_f rfl rfl rfl (fun hG => ob_sidx Tryd.underlying9 rfl rfl (Opd.gd hG u_0) (Opd.gd hG u_1) (gd_true h9 hG))) <|
           o_g (g_f rfl rfl rfl (fun hG => ob_eq rfl rfl (Opd.gd hG u_0) c_i)) <|
           o_p rfl (ob_por rfl rfl u_0 (fun hz => (Opd.gd (bNF hz) u_1))) <|
           o_p rfl (ob_assign rfl rfl u_0) <|
           o_n) (by kernel_rfl) (fun a g hst hb => ?_)
        obtain ⟨b10, h11, H1⟩ := of_bind H1
        refine r_s (L := [(1, _), (2, _), (5, _), (6, _), (7, _), (8, _), (9, _), (10, _)]) (T := [⟨[.old 3], _, [], [], [24]⟩, ⟨[.op 0 0], _, [], [0], [25]⟩, ⟨[.op 1 0, .old 0], _, [], [0, 1], [26]⟩, ⟨[.op 1 0, .old 7], _, [], [0, 1], [27]⟩, ⟨[.op 1 0, .op 2 0, .op 3 0], _, [], List.range 4, [28]⟩, ⟨[.op 1 0, .op 4 0], _, [], List.range 5, [29]⟩, ⟨[.op 1 0, .op 5 0], _, [], List.range 6, [30]⟩, ⟨[.op 6 0], _, [], List.range 7, [6]⟩]) (F := [.old 0, .old 1, .old 2, .op 7 0, .old 4, .old 5, .old 6, .old 7]) hst hb follows
          (o_p rfl (ob_move rfl rfl u_0) <|
           o_p rfl (ob_move rfl rfl u_0) <|
           o_g (g_f rfl rfl rfl (fun hG => ob_move rfl rfl u_0)) <|
           o_g (g_f rfl rfl rfl (fun hG => ob_move rfl rfl u_0)) <|
           o_g (g_f rfl rfl rfl (fun hG => ob_sidx Tryd.underlying9 rfl rfl (Opd.gd hG u_0) (Opd.gd hG u_1) (gd_true h11 hG))) <|
           o_g (g_f rfl rfl rfl (fun hG => ob_eq rfl rfl (Opd.gd hG u_0) c_i)) <|
           o_p rfl (ob_por rfl rfl u_0 (fun hz => (Opd.gd (bNF hz) u_1))) <|
           o_p rfl (ob_assign rfl rfl u_0) <|
           o_n) (by kernel_rfl) (fun a g hst hb => ?_)
        obtain ⟨b12, h13, H1⟩ := of_bind H1
        refine r_s (L := [(1, _), (2, _), (5, _), (6, _), (7, _), (8, _), (9, _), (10, _)]) (T := [⟨[.old 4], _, [], [], [31]⟩, ⟨[.op 0 0], _, [], [0], [32]⟩, ⟨[.op 1 0, .old 0], _, [], [0, 1], [33]⟩, ⟨[.op 1 0, .old 7], _, [], [0, 1], [34]⟩, ⟨[.op 1 0, .op 2 0, .op 3 0], _, [], List.range 4, [35]⟩, ⟨[.op 1 0, .op 4 0], _, [], List.range 5, [36]⟩, ⟨[.op 1 0, .op 5 0], _, [], List.range 6, [37]⟩, ⟨[.op 6 0], _, [], List.range 7, [7]⟩]) (F := [.old 0, .old 1, .old 2, .old 3, .op 7 0, .old 5, .old 6, .old 7]) hst hb follows
          (o_p rfl (ob_move rfl rfl u_0) <|
           o_p rfl (ob_move rfl rfl u_0) <|
           o_g (g_f rfl rfl rfl (fun hG => ob_move rfl rfl u_0)) <|
           o_g (g_f rfl rfl rfl (fun hG => ob_move rfl rfl u_0)) <|
           o_g (g_f rfl rfl rfl (fun hG => ob_sidx Tryd.underlying9 rfl rfl (Opd.gd hG u_0) (Opd.gd hG u_1) (gd_true h13 hG))) <|
           o_g (g_f rfl rfl rfl (fun hG => ob_eq rfl rfl (Opd.gd hG u_0) c_i)) <|
           o_p rfl (ob_por rfl rfl u_0 (fun hz => (Opd.gd (bNF hz) u_1))) <|
           o_p rfl (ob_assign rfl rfl u_0) <|
           o_n) (by kernel_rfl) (fun a g hst hb => ?_)
        obtain ⟨b14, h15, H1⟩ := of_bind H1
        refine r_s (L := [(1, _), (2, _), (5, _), (6, _), (7, _), (8, _), (9, _), (10, _)]) (T := [⟨[.old 5], _, [], [], [38]⟩, ⟨[.op 0 0], _, [], [0], [39]⟩, ⟨[.op 1 0, .old 0], _, [], [0, 1], [40]⟩, ⟨[.op 1 0, .old 7], _, [], [0, 1], [41]⟩, ⟨[.op 1 0, .op 2 0, .op 3 0], _, [], List.range 4, [42]⟩, ⟨[.op 1 0, .op 4 0], _, [], List.range 5, [43]⟩, ⟨[.op 1 0, .op 5 0], _, [], List.range 6, [44]⟩, ⟨[.op 6 0], _, [], List.range 7, [8]⟩]) (F := [.old 0, .old 1, .old 2, .old 3, .old 4, .op 7 0, .old 6, .old 7]) hst hb follows
          (o_p rfl (ob_move rfl rfl u_0) <|
           o_p rfl (ob_move rfl rfl u_0) <|
           o_g (g_f rfl rfl rfl (fun hG => ob_move rfl rfl u_0)) <|
           o_g (g_f rfl rfl rfl (fun hG => ob_move rfl rfl u_0)) <|
           o_g (g_f rfl rfl rfl (fun hG => ob_sidx Tryd.underlying9 rfl rfl (Opd.gd hG u_0) (Opd.gd hG u_1) (gd_true h15 hG))) <|
           o_g (g_f rfl rfl rfl (fun hG => ob_eq rfl rfl (Opd.gd hG u_0) c_i)) <|
           o_p rfl (ob_por rfl rfl u_0 (fun hz => (Opd.gd (bNF hz) u_1))) <|
           o_p rfl (ob_assign rfl rfl u_0) <|
           o_n) (by kernel_rfl) (fun a g hst hb => ?_)
        obtain ⟨b16, h17, H1⟩ := of_bind H1
        refine r_g (L := [(1, _), (2, _), (5, _), (6, _), (7, _), (8, _), (9, _), (10, _)]) (T := [⟨[.old 6], _, [], [], [45]⟩, ⟨[.op 0 0], _, [], [0], [46]⟩, ⟨[.op 1 0, .old 0], _, [], [0, 1], [47]⟩, ⟨[.op 1 0, .old 7], _, [], [0, 1], [48]⟩, ⟨[.op 1 0, .op 2 0, .op 3 0], _, [], List.range 4, [49]⟩, ⟨[.op 1 0, .op 4 0], _, [], List.range 5, [50]⟩, ⟨[.op 1 0, .op 5 0], _, [], List.range 6, [51]⟩, ⟨[.op 6 0], _, [], List.range 7, [9]⟩]) (F := [.old 0, .old 1, .old 2, .old 3, .old 4, .old 5, .op 7 0, .old 7]) hst hb follows
          (o_p rfl (ob_move rfl rfl u_0) <|
           o_p rfl (ob_move rfl rfl u_0) <|
           o_g (g_f rfl rfl rfl (fun hG => ob_move rfl rfl u_0)) <|
           o_g (g_f rfl rfl rfl (fun hG => ob_move rfl rfl u_0)) <|
           o_g (g_f rfl rfl rfl (fun hG => ob_sidx Tryd.underlying9 rfl rfl (Opd.gd hG u_0) (Opd.gd hG u_1) (gd_true h17 hG))) <|
           o_g (g_f rfl rfl rfl (fun hG => ob_eq rfl rfl (Opd.gd hG u_0) c_i)) <|
           o_p rfl (ob_por rfl rfl u_0 (fun hz => (Opd.gd (bNF hz) u_1))) <|
           o_p rfl (ob_assign rfl rfl u_0) <|
           o_n) (by kernel_rfl) (fun a g hst hb => ?_)
        refine inBlock_n ?_
        refine then_n ?_
        refine r_g (L := [(1, _), (2, _), (5, _), (6, _), (7, _), (8, _), (9, _), (10, _)]) (T := [⟨[.old 7], _, [], [], [15]⟩, ⟨[.op 0 0], _, [], [0], [16]⟩, ⟨[.op 1 0], _, [], [0, 1], [10]⟩]) (F := [.old 0, .old 1, .old 2, .old 3, .old 4, .old 5, .old 6, .op 2 0]) hst hb follows
          (o_p rfl (ob_move rfl rfl u_0) <|
           o_p rfl (ob_add rfl rfl u_0 c_i rfl) <|
           o_p rfl (ob_assign rfl rfl u_0) <|
           o_n) (by kernel_rfl) (fun a g hst hb => ?_)
        exact ⟨n, Nat.lt_succ_self _, (x1 || (b8 == (116 : Int))), (x2 || (b10 == (110 : Int))), (x3 || (b12 == (98 : Int))), (x4 || (b14 == (114 : Int))), (x5 || (b16 == (108 : Int))), (IntKind.i64.wrap (x6 + (1 : Int))), g, rfl, (hst.pick [0, 1, 2, 3, 4, 5, 6, 7] rfl), hb, H1⟩
      · replace H1 := ite_f hc7 H1
        refine wp_exit ?_
        refine then_e ?_
        refine then_e ?_
        refine inBlock_e ?_
        exact ⟨x1, x2, x3, x4, x5, g, rfl, (hst.pick [1, 2, 3, 4, 5, 6] rfl), hb, Option.some.inj H1⟩
end Go.CL

set_option linter.unusedVariables false
set_option linter.unusedSimpArgs false
set_option maxRecDepth 100000
namespace Go.CL
open Go Go.RowKit Go.Proofs
theorem moietyref03_Fields_ok (a0 : Int) {r : ByteArray} (h : moietyref03_Fields a0 = some r) : FnOk Tryd.prog 37 [(pInt .i64 a0)] (pStr r) := by
  have H0 := h
  unfold moietyref03_Fields at H0
  clear h
  refine fn_ok (N := 15) Tryd.func37 rfl rfl (Nat.le_of_ble_eq_true rfl) rfl rfl (fun a g0 hst hb => ?_)
  refine r_s (L := [(0, _)]) (T := [⟨[], _, [], [], [2]⟩]) (F := [.old 0]) hst hb follows
    (o_p rfl (ob_assign rfl rfl c_s) <|
     o_n) (by kernel_rfl) (fun a g hst hb => ?_)
  refine r_s (L := [(0, _)]) (T := [⟨[], _, [], [], [4]⟩, ⟨[.op 0 0], _, [], [0], [3]⟩]) (F := [.old 0, .op 1 0]) hst hb follows
    (o_p rfl (ob_lit te_93 (xs := [.const (.string ⟨#[]⟩), .const (.string ⟨#[116]⟩), .const (.string ⟨#[110]⟩), .const (.string ⟨#[110]⟩), .const (.string ⟨#[110, 98]⟩), .const (.string ⟨#[114]⟩), .const (.string ⟨#[114]⟩), .const (.string ⟨#[114]⟩), .const (.string ⟨#[108]⟩), .const (.string ⟨#[108]⟩)]) (.cons c_s (.cons c_s (.cons c_s (.cons c_s (.cons c_s (.cons c_s (.cons c_s (.cons c_s (.cons c_s (.cons c_s .nil)))))))))) (by decide) rfl rfl) <|
     o_p rfl (ob_assign rfl rfl u_0) <|
     o_n) (by kernel_rfl) (fun a g hst hb => ?_)
  refine wp_seq ?_
  refine r_s (L := [(0, _), (3, _)]) (T := [⟨[.old 0], _, [], [], [5]⟩, ⟨[.op 0 0], _, [], [0], [6]⟩, ⟨[.op 1 0], _, [], [0, 1], [7]⟩, ⟨[.op 2 0, .old 0], _, [], [0, 1, 2], [8]⟩, ⟨[.op 2 0, .op 3 0], _, [], List.range 4, [9]⟩, ⟨[.op 2 0, .op 4 0], _, [], List.range 5, [10]⟩]) (F := [.old 0, .old 1, .op 5 0]) hst hb follows
    (o_p rfl (ob_move rfl rfl u_0) <|
     o_p rfl (ob_lt rfl rfl u_0 c_i) <|
     o_p rfl (ob_move rfl rfl u_0) <|
     o_g (g_f rfl rfl rfl (fun hG => ob_move rfl rfl u_0)) <|
     o_g (g_f rfl rfl rfl (fun hG => ob_gt rfl rfl (Opd.gd hG u_0) c_i)) <|
     o_p rfl (ob_por rfl rfl u_0 (fun hz => (Opd.gd (bNF hz) u_1))) <|
     o_n) (by kernel_rfl) (fun a g hst hb => ?_)
  refine wp_cond_split (hst.bool 2 rfl) (fun hc1 => ?_) (fun hc1 => ?_)
  · replace H0 := ite_t hc1 H0
    refine r_s (L := []) (T := [⟨[], _, [], [], [2]⟩]) (F := [.op 0 0]) (hst.pick [] rfl) hb follows
      (o_p rfl (ob_assign rfl rfl c_s) <|
       o_n) (by kernel_rfl) (fun a g hst hb => ?_)
    refine wp_ret ?_
    refine then_r ?_
    obtain rfl := Option.some.inj H0
    exact endR1 rfl hst hb (res_tmp (s := 2)) (hst.at 0 rfl)
  · replace H0 := ite_f hc1 H0
    refine wp_skip ?_
    refine then_n ?_
    obtain ⟨e2, h3, H0⟩ := of_bind H0
    refine r_s (L := [(0, _), (3, _)]) (T := [⟨[.old 1], _, [], [], [11]⟩, ⟨[.old 0], _, [], [], [12]⟩, ⟨[.op 0 0, .op 1 0], _, [], [0, 1], [13]⟩, ⟨[.op 2 0], _, [], [0, 1, 2], [14]⟩, ⟨[.op 3 0], _, [], List.range 4, [2]⟩]) (F := [.op 4 0]) (hst.pick [0, 1] rfl) hb follows
      (o_p rfl (ob_move rfl rfl u_0) <|
       o_p rfl (ob_move rfl rfl u_0) <|
       o_p rfl (ob_indexAddr Tryd.underlying93 sz_9 rfl rfl u_0 u_1 h3) <|
       o_p rfl (ob_load ty_9 rfl rfl u_0) <|
       o_p rfl (ob_assign rfl rfl u_0) <|
       o_n) (by kernel_rfl) (fun a g hst hb => ?_)
    refine wp_ret ?_
    obtain rfl := Option.some.inj H0
    exact endR1 rfl hst hb (res_tmp (s := 2)) (hst.at 0 rfl)
end Go.CL

set_option linter.unusedVariables false
set_option linter.unusedSimpArgs false
set_option maxRecDepth 100000
namespace Go.CL
open Go Go.RowKit Go.Proofs
theorem moietyref01_Proper_ok (a0 : Nat) {r : Bool} (h : moietyref01_Proper a0 = some r) : FnOk Tryd.prog 38 [(pFlt a0)] (pBool r) := by
  have H0 := h
  unfold moietyref01_Proper at H0
  clear h
  refine fn_ok (N := 11) Tryd.func38 rfl rfl (Nat.le_of_ble_eq_true rfl) rfl rfl (fun a g0 hst hb => ?_)
  refine r_s (L := [(0, _)]) (T := [⟨[], _, [], [], [2]⟩]) (F := [.old 0]) hst hb follows
    (o_p rfl (ob_assign rfl rfl c_b) <|
     o_n) (by kernel_rfl) (fun a g hst hb => ?_)
  obtain ⟨r1, h2, H0⟩ := of_bind H0
  refine r_s (L := [(0, _)]) (T := [⟨[.old 0], _, [], [], [3]⟩, ⟨[.op 0 0], _, [], [0], [4]⟩, ⟨[.op 1 0], _, [], [0, 1], [5]⟩, ⟨[.op 2 0], _, [], [0, 1, 2], [6]⟩, ⟨[.op 3 0, .old 0], _, [], List.range 4, [7]⟩, ⟨[.op 3 0, .op 4 0], _, [], List.range 5, [8]⟩, ⟨[.op 3 0, .op 5 0], _, [], List.range 6, [9]⟩, ⟨[.op 3 0, .op 6 0], _, [], List.range 7, [10]⟩, ⟨[.op 7 0], _, [], List.range 8, [2]⟩]) (F := [.op 8 0]) hst hb follows
    (o_p rfl (ob_move rfl rfl u_0) <|
     o_p rfl (ob_call en_78 (moietyref01_none_ok _ h2) rfl rfl (.cons u_0 .nil)) <|
     o_p rfl (ob_not rfl rfl u_0) <|
     o_p rfl (ob_move rfl rfl u_0) <|
     o_g (g_f rfl rfl rfl (fun hG => ob_move rfl rfl u_0)) <|
     o_g (g_f rfl rfl rfl (fun hG => ob_bits ex_79 rfl rfl (Opd.gd hG u_0))) <|
     o_g (g_f rfl rfl rfl (fun hG => ob_eq rfl rfl (Opd.gd hG u_0) c_i)) <|
     o_p rfl (ob_por rfl rfl u_0 (fun hz => (Opd.gd (bNF hz) u_1))) <|
     o_p rfl (ob_assign rfl rfl u_0) <|
     o_n) (by kernel_rfl) (fun a g hst hb => ?_)
  refine wp_ret ?_
  obtain rfl := Option.some.inj H0
  exact endR1 rfl hst hb (res_tmp (s := 2)) (hst.at 0 rfl)
end Go.CL

set_option linter.unusedVariables false
set_option linter.unusedSimpArgs false
set_option maxRecDepth 100000
namespace Go.CL
open Go Go.RowKit Go.Proofs
theorem moietyref03_Ahead_ok (a0 : api_Item) (a1 : api_Item) {r : Bool} (h : moietyref03_Ahead a0 a1 = some r) : FnOk Tryd.prog 80 [(k_api_Item.pd a0), (k_api_Item.pd a1)] (pBool r) := by
  have H0 := h
  unfold moietyref03_Ahead at H0
  clear h
  refine fn_ok (N := 22) Tryd.func80 rfl rfl (Nat.le_of_ble_eq_true rfl) rfl rfl (fun a g0 hst hb => ?_)
  refine r_s (L := [(0, _), (1, _)]) (T := [⟨[.old 0], _, [], [], [2]⟩, ⟨[.old 1], _, [], [], [3]⟩, ⟨[], _, [], [], [4]⟩]) (F := [.op 0 0, .op 1 0]) hst hb follows
    (o_p rfl (ob_box1 rfl rfl u_0) <|
     o_p rfl (ob_box1 rfl rfl u_0) <|
     o_p rfl (ob_assign rfl rfl c_b) <|
     o_n) (by kernel_rfl) (fun a g hst hb => ?_)
  refine wp_seq ?_
  obtain ⟨r1, h2, H0⟩ := of_bind H0
  refine r_s (L := [(2, _), (3, _)]) (T := [⟨[.old 1], _, [], [], [5]⟩, ⟨[.op 0 0], _, [], [0], [6]⟩, ⟨[.old 0], _, [], [], [7]⟩, ⟨[.op 2 0], _, [], [2], [8]⟩, ⟨[.op 1 0, .op 3 0], _, [], List.range 4, [9]⟩]) (F := [.old 0, .old 1, .op 4 0]) hst hb follows
    (o_p rfl (ob_fieldAddr fl_48_0 rfl rfl u_0) <|
     o_p rfl (ob_load ty_22 rfl rfl u_0) <|
     o_p rfl (ob_fieldAddr fl_48_0 rfl rfl u_0) <|
     o_p rfl (ob_load ty_22 rfl rfl u_0) <|
     o_p rfl (ob_call en_75 (moietyref01_Less_ok _ _ h2) rfl rfl (.cons u_0 (.cons u_1 .nil))) <|
     o_n) (by kernel_rfl) (fun a g hst hb => ?_)
  refine wp_cond_split (hst.bool 2 rfl) (fun hc3 => ?_) (fun hc3 => ?_)
  · replace H0 := ite_t hc3 H0
    refine r_s (L := []) (T := [⟨[], _, [], [], [4]⟩]) (F := [.op 0 0]) (hst.pick [] rfl) hb follows
      (o_p rfl (ob_assign rfl rfl c_b) <|
       o_n) (by kernel_rfl) (fun a g hst hb => ?_)
    refine wp_ret ?_
    refine then_r ?_
    obtain rfl := Option.some.inj H0
    exact endR1 rfl hst hb (res_tmp (s := 4)) (hst.at 0 rfl)
  · replace H0 := ite_f hc3 H0
    refine wp_skip ?_
    refine then_n ?_
    obtain ⟨r4, h5, H0⟩ := of_bind H0
    refine r_s (L := [(2, _), (3, _)]) (T := ⟨[.old 0], _, [], [], [10]⟩ :: ⟨[.op 0 0], _, [], [0], [11]⟩ :: ⟨[.old 1], _, [], [], [12]⟩ :: ⟨[.op 2 0], _, [], [2], [13]⟩ :: ⟨[.op 1 0, .op 3 0], _, [], List.range 4, [14]⟩ :: ⟨[.op 4 0], _, [], List.range 5, [15]⟩ :: ⟨[.op 5 0, .old 0], _, [], List.range 6, [16]⟩ :: ⟨[.op 5 0, .op 6 0], _, [], List.range 7, [17]⟩ :: ⟨[.op 5 0, .old 1], _, [], List.range 6, [18]⟩ :: ⟨[.op 5 0, .op 8 0], _, [], [0, 1, 2, 3, 4, 5, 8], [19]⟩ :: ⟨[.op 5 0, .op 7 0, .op 9 0], _, [], List.range 10, [20]⟩ :: ⟨[.op 5 0, .op 10 0], _, [], List.range 11, [21]⟩ :: ⟨[.op 11 0], _, [], List.range 12, [4]⟩ :: []) (F := [.op 12 0]) (hst.pick [0, 1] rfl) hb follows
      (o_p rfl (ob_fieldAddr fl_48_0 rfl rfl u_0) <|
       o_p rfl (ob_load ty_22 rfl rfl u_0) <|
       o_p rfl (ob_fieldAddr fl_48_0 rfl rfl u_0) <|
       o_p rfl (ob_load ty_22 rfl rfl u_0) <|
       o_p rfl (ob_call en_32 (moietyref01_Same_ok _ _ h5) rfl rfl (.cons u_0 (.cons u_1 .nil))) <|
       o_p rfl (ob_move rfl rfl u_0) <|
       o_g (g_t rfl rfl rfl (fun hG => ob_fieldAddr fl_48_1 rfl rfl u_0)) <|
       o_g (g_t rfl rfl rfl (fun hG => ob_load ty_9 rfl rfl (Opd.gd hG u_0))) <|
       o_g (g_t rfl rfl rfl (fun hG => ob_fieldAddr fl_48_1 rfl rfl u_0)) <|
       o_g (g_t rfl rfl rfl (fun hG => ob_load ty_9 rfl rfl (Opd.gd hG u_0))) <|
       o_g (g_t rfl rfl rfl (fun hG => ob_slt rfl rfl (Opd.gd hG u_0) (Opd.gd hG u_1))) <|
       o_p rfl (ob_pand rfl rfl u_0 (fun hz => (Opd.gd hz u_1))) <|
       o_p rfl (ob_assign rfl rfl u_0) <|
       o_n) (by kernel_rfl) (fun a g hst hb => ?_)
    refine wp_ret ?_
    obtain rfl := Option.some.inj H0
    exact endR1 rfl hst hb (res_tmp (s := 4)) (hst.at 0 rfl)
end Go.CL

set_option linter.unusedVariables false
set_option linter.unusedSimpArgs false
set_option maxRecDepth 100000
namespace Go.CL
open Go Go.RowKit Go.Proofs
theorem moietyref03_item_ok (a0 : Int) (a1 : List api_Item) (a2 : Int) {r : Int} (h : moietyref03_item a0 a1 a2 = some r) : FnOk Tryd.prog 39 [(pInt .i64 a0), (k_api_Item.sl.pd a1), (pInt .i64 a2)] (pInt .i64 r) := by
  have H0 := h
  unfold moietyref03_item at H0
  clear h
  refine fn_ok (N := 64) Tryd.func39 rfl rfl (Nat.le_of_ble_eq_true rfl) rfl rfl (fun a g0 hst hb => ?_)
  refine r_s (L := [(0, _), (1, _), (2, _)]) (T := [⟨[], _, [], [], [6]⟩]) (F := [.old 0, .old 1, .old 2]) hst hb follows
    (o_p rfl (ob_assign rfl rfl c_i) <|
     o_n) (by kernel_rfl) (fun a g hst hb => ?_)
  obtain ⟨e1, h2, H0⟩ := of_bind H0
  refine r_s (L := [(0, _), (1, _), (2, _)]) (T := [⟨[.old 1], _, [], [], [8]⟩, ⟨[.old 2], _, [], [], [9]⟩, ⟨[.op 0 0, .op 1 0], _, [], [0, 1], [10]⟩, ⟨[.op 2 0], _, [], [0, 1, 2], [11]⟩, ⟨[], [(7, (pBox k_api_Item 7 (default : api_Item)))], [8], [], [7]⟩, ⟨[.op 3 0, .op 4 0], _, [8], List.range 5, [7]⟩]) (F := [.old 0, .old 1, .old 2, .op 5 0]) hst hb follows
    (o_p rfl (ob_move rfl rfl u_0) <|
     o_p rfl (ob_move rfl rfl u_0) <|
     o_p rfl (ob_indexAddr Tryd.underlying23 sz_48 rfl rfl u_0 u_1 h2) <|
     o_p rfl (ob_load ty_48 rfl rfl u_0) <|
     o_p rfl (ob_alloc (zs := [.float .f64 0, .string ByteArray.empty]) (by kernel_rfl) (fun g => zk_api_Item g) rfl rfl) <|
     o_p rfl (ob_storeF ty_48 rfl rfl u_1 u_0) <|
     o_n) (by kernel_rfl) (fun a g hst hb => ?_)
  refine wp_seq ?_
  refine r_s (L := [(0, _), (1, _), (2, _), (7, _)]) (T := [⟨[.old 3], _, [], [], [12]⟩, ⟨[.op 0 0], _, [], [0], [13]⟩, ⟨[.op 1 0], _, [], [0, 1], [14]⟩, ⟨[.op 2 0], _, [], [0, 1, 2], [15]⟩]) (F := [.old 0, .old 1, .old 2, .old 3, .op 3 0]) hst hb follows
    (o_p rfl (ob_fieldAddr fl_48_1 rfl rfl u_0) <|
     o_p rfl (ob_load ty_9 rfl rfl u_0) <|
     o_p rfl (ob_lenS Tryd.underlying9 rfl rfl u_0) <|
     o_p rfl (ob_gt rfl rfl u_0 c_i) <|
     o_n) (by kernel_rfl) (fun a g hst hb => ?_)
  refine wp_cond_split (hst.bool 4 rfl) (fun hc3 => ?_) (fun hc3 => ?_)
  · replace H0 := ite_t hc3 H0
    refine r_s (L := []) (T := [⟨[], _, [], [], [6]⟩]) (F := [.op 0 0]) (hst.pick [] rfl) hb follows
      (o_p rfl (ob_assign rfl rfl c_i) <|
       o_n) (by kernel_rfl) (fun a g hst hb => ?_)
    refine wp_ret ?_
    refine then_r ?_
    obtain rfl := Option.some.inj H0
    exact endR1 rfl hst hb (res_tmp (s := 6)) (hst.at 0 rfl)
  · replace H0 := ite_f hc3 H0
    refine wp_skip ?_
    refine then_n ?_
    refine wp_seq ?_
    obtain ⟨r4, h5, H0⟩ := of_bind H0; obtain ⟨r6, h7, H0⟩ := of_bind H0
    refine r_s (L := [(0, _), (1, _), (2, _), (7, _)]) (T := ⟨[.old 0], _, [], [], [16]⟩ :: ⟨[.op 0 0], _, [], [0], [17]⟩ :: ⟨[.op 1 0], _, [], [0, 1], [18]⟩ :: ⟨[.op 2 0, .old 3], _, [], [0, 1, 2], [19]⟩ :: ⟨[.op 2 0, .op 3 0], _, [], List.range 4, [20]⟩ :: ⟨[.op 2 0, .op 4 0], _, [], List.range 5, [21]⟩ :: ⟨[.op 2 0, .op 5 0], _, [], List.range 6, [22]⟩ :: ⟨[.op 2 0, .op 6 0], _, [], List.range 7, [23]⟩ :: ⟨[.op 7 0], _, [], List.range 8, [24]⟩ :: ⟨[.op 8 0, .old 3], _, [], List.range 9, [25]⟩ :: ⟨[.op 8 0, .op 9 0], _, [], List.range 10, [26]⟩ :: ⟨[.op 8 0, .op 10 0], _, [], List.range 11, [27]⟩ :: ⟨[.op 8 0, .op 11 0], _, [], List.range 12, [28]⟩ :: ⟨[.op 8 0, .op 12 0], _, [], List.range 13, [29]⟩ :: []) (F := [.old 0, .old 1, .old 2, .old 3, .op 13 0]) (hst.pick [0, 1, 2, 3] rfl) hb follows
      (o_p rfl (ob_move rfl rfl u_0) <|
       o_p rfl (ob_eq rfl rfl u_0 c_i) <|
       o_p rfl (ob_move rfl rfl u_0) <|
       o_g (g_t rfl rfl rfl (fun hG => ob_fieldAddr fl_48_0 rfl rfl u_0)) <|
       o_g (g_t rfl rfl rfl (fun hG => ob_load ty_22 rfl rfl (Opd.gd hG u_0))) <|
       o_g (g_t rfl rfl rfl (fun hG => ob_call en_77 (moietyref03_zero_ok _ (gd_true h5 hG)) rfl rfl (.cons (Opd.gd hG u_0) .nil))) <|
       o_g (g_t rfl rfl rfl (fun hG => ob_not rfl rfl (Opd.gd hG u_0))) <|
       o_p rfl (ob_pand rfl rfl u_0 (fun hz => (Opd.gd hz u_1))) <|
       o_p rfl (ob_move rfl rfl u_0) <|
       o_g (g_f rfl rfl rfl (fun hG => ob_fieldAddr fl_48_0 rfl rfl u_0)) <|
       o_g (g_f rfl rfl rfl (fun hG => ob_load ty_22 rfl rfl (Opd.gd hG u_0))) <|
       o_g (g_f rfl rfl rfl (fun hG => ob_call en_38 (moietyref01_Proper_ok _ (gd_true h7 hG)) rfl rfl (.cons (Opd.gd hG u_0) .nil))) <|
       o_g (g_f rfl rfl rfl (fun hG => ob_not rfl rfl (Opd.gd hG u_0))) <|
       o_p rfl (ob_por rfl rfl u_0 (fun hz => (Opd.gd (bNF hz) u_1))) <|
       o_n) (by kernel_rfl) (fun a g hst hb => ?_)
    refine wp_cond_split (hst.bool 4 rfl) (fun hc8 => ?_) (fun hc8 => ?_)
    · replace H0 := ite_t hc8 H0
      refine r_s (L := []) (T := [⟨[], _, [], [], [6]⟩]) (F := [.op 0 0]) (hst.pick [] rfl) hb follows
        (o_p rfl (ob_assign rfl rfl c_i) <|
         o_n) (by kernel_rfl) (fun a g hst hb => ?_)
      refine wp_ret ?_
      refine then_r ?_
      obtain rfl := Option.some.inj H0
      exact endR1 rfl hst hb (res_tmp (s := 6)) (hst.at 0 rfl)
    · replace H0 := ite_f hc8 H0
      refine wp_skip ?_
      refine then_n ?_
      refine wp_seq ?_
      obtain ⟨e9, h10, H0⟩ := of_bind H0
      refine r_s (L := [(0, _), (1, _), (2, _), (7, _)]) (T := ⟨[.old 2], _, [], [], [30]⟩ :: ⟨[.op 0 0], _, [], [0], [31]⟩ :: ⟨[.op 1 0], _, [], [0, 1], [32]⟩ :: ⟨[.op 2 0, .old 0], _, [], [0, 1, 2], [33]⟩ :: ⟨[.op 2 0, .op 3 0], _, [], List.range 4, [34]⟩ :: ⟨[.op 2 0, .op 4 0], _, [], List.range 5, [35]⟩ :: ⟨[.op 5 0], _, [], List.range 6, [36]⟩ :: ⟨[.op 6 0, .old 1], _, [], List.range 7, [37]⟩ :: ⟨[.op 6 0, .old 2], _, [], List.range 7, [38]⟩ :: ⟨[.op 6 0, .op 8 0], _, [], [0, 1, 2, 3, 4, 5, 6, 8], [39]⟩ :: ⟨[.op 6 0, .op 7 0, .op 9 0], _, [], List.range 10, [40]⟩ :: ⟨[.op 6 0, .op 10 0], _, [], List.range 11, [41]⟩ :: ⟨[.op 6 0, .op 11 0], _, [], List.range 12, [42]⟩ :: ⟨[.op 6 0, .old 3], _, [], List.range 7, [43]⟩ :: ⟨[.op 6 0, .op 13 0], _, [], [0, 1, 2, 3, 4, 5, 6, 13], [44]⟩ :: ⟨[.op 6 0, .op 12 0, .op 14 0], _, [], List.range 15, [45]⟩ :: ⟨[.op 6 0, .op 15 0], _, [], List.range 16, [46]⟩ :: ⟨[.op 6 0, .op 16 0], _, [], List.range 17, [47]⟩ :: []) (F := [.old 0, .old 1, .old 2, .old 3, .op 17 0]) (hst.pick [0, 1, 2, 3] rfl) hb follows
        (o_p rfl (ob_move rfl rfl u_0) <|
         o_p rfl (ob_gt rfl rfl u_0 c_i) <|
         o_p rfl (ob_move rfl rfl u_0) <|
         o_g (g_t rfl rfl rfl (fun hG => ob_move rfl rfl u_0)) <|
         o_g (g_t rfl rfl rfl (fun hG => ob_eq rfl rfl (Opd.gd hG u_0) c_i)) <|
         o_p rfl (ob_pand rfl rfl u_0 (fun hz => (Opd.gd hz u_1))) <|
         o_p rfl (ob_move rfl rfl u_0) <|
         o_g (g_t rfl rfl rfl (fun hG => ob_move rfl rfl u_0)) <|
         o_g (g_t rfl rfl rfl (fun hG => ob_move rfl rfl u_0)) <|
         o_g (g_t rfl rfl rfl (fun hG => ob_sub rfl rfl (Opd.gd hG u_0) c_i rfl)) <|
         o_g (g_t rfl rfl rfl (fun hG => ob_indexAddr Tryd.underlying23 sz_48 rfl rfl (Opd.gd hG u_0) (Opd.gd hG u_1) (gd_true h10 hG))) <|
         o_g (g_t rfl rfl rfl (fun hG => ob_fieldAddr fl_48_1 rfl rfl (Opd.gd hG u_0))) <|
         o_g (g_t rfl rfl rfl (fun hG => ob_load ty_9 rfl rfl (Opd.gd hG u_0))) <|
         o_g (g_t rfl rfl rfl (fun hG => ob_fieldAddr fl_48_1 rfl rfl u_0)) <|
         o_g (g_t rfl rfl rfl (fun hG => ob_load ty_9 rfl rfl (Opd.gd hG u_0))) <|
         o_g (g_t rfl rfl rfl (fun hG => ob_slt rfl rfl (Opd.gd hG u_0) (Opd.gd hG u_1))) <|
         o_g (g_t rfl rfl rfl (fun hG => ob_not rfl rfl (Opd.gd hG u_0))) <|
         o_p rfl (ob_pand rfl rfl u_0 (fun hz => (Opd.gd hz u_1))) <|
         o_n) (by kernel_rfl) (fun a g hst hb => ?_)
      refine wp_cond_split (hst.bool 4 rfl) (fun hc11 => ?_) (fun hc11 => ?_)
      · replace H0 := ite_t hc11 H0
        refine r_s (L := []) (T := [⟨[], _, [], [], [6]⟩]) (F := [.op 0 0]) (hst.pick [] rfl) hb follows
          (o_p rfl (ob_assign rfl rfl c_i) <|
           o_n) (by kernel_rfl) (fun a g hst hb => ?_)
        refine wp_ret ?_
        refine then_r ?_
        obtain rfl := Option.some.inj H0
        exact endR1 rfl hst hb (res_tmp (s := 6)) (hst.at 0 rfl)
      · replace H0 := ite_f hc11 H0
        refine wp_skip ?_
        refine then_n ?_
        refine wp_seq ?_
        obtain ⟨e12, h13, H0⟩ := of_bind H0; obtain ⟨r14, h15, H0⟩ := of_bind H0
        refine r_s (L := [(0, _), (1, _), (2, _), (7, _)]) (T := ⟨[.old 2], _, [], [], [48]⟩ :: ⟨[.op 0 0], _, [], [0], [49]⟩ :: ⟨[.op 1 0], _, [], [0, 1], [50]⟩ :: ⟨[.op 2 0, .old 0], _, [], [0, 1, 2], [51]⟩ :: ⟨[.op 2 0, .op 3 0], _, [], List.range 4, [52]⟩ :: ⟨[.op 2 0, .op 4 0], _, [], List.range 5, [53]⟩ :: ⟨[.op 5 0], _, [], List.range 6, [54]⟩ :: ⟨[.op 6 0, .old 1], _, [], List.range 7, [55]⟩ :: ⟨[.op 6 0, .old 2], _, [], List.range 7, [56]⟩ :: ⟨[.op 6 0, .op 8 0], _, [], [0, 1, 2, 3, 4, 5, 6, 8], [57]⟩ :: ⟨[.op 6 0, .op 7 0, .op 9 0], _, [], List.range 10, [58]⟩ :: ⟨[.op 6 0, .op 10 0], _, [], List.range 11, [59]⟩ :: ⟨[.op 6 0, .old 3], _, [], List.range 7, [60]⟩ :: ⟨[.op 6 0, .op 11 0, .op 12 0], _, [], List.range 13, [61]⟩ :: ⟨[.op 6 0, .op 13 0], _, [], List.range 14, [62]⟩ :: ⟨[.op 6 0, .op 14 0], _, [], List.range 15, [63]⟩ :: []) (F := [.op 15 0]) (hst.pick [0, 1, 2, 3] rfl) hb follows
          (o_p rfl (ob_move rfl rfl u_0) <|
           o_p rfl (ob_gt rfl rfl u_0 c_i) <|
           o_p rfl (ob_move rfl rfl u_0) <|
           o_g (g_t rfl rfl rfl (fun hG => ob_move rfl rfl u_0)) <|
           o_g (g_t rfl rfl rfl (fun hG => ob_eq rfl rfl (Opd.gd hG u_0) c_i)) <|
           o_p rfl (ob_pand rfl rfl u_0 (fun hz => (Opd.gd hz u_1))) <|
           o_p rfl (ob_move rfl rfl u_0) <|
           o_g (g_t rfl rfl rfl (fun hG => ob_move rfl rfl u_0)) <|
           o_g (g_t rfl rfl rfl (fun hG => ob_move rfl rfl u_0)) <|
           o_g (g_t rfl rfl rfl (fun hG => ob_sub rfl rfl (Opd.gd hG u_0) c_i rfl)) <|
           o_g (g_t rfl rfl rfl (fun hG => ob_indexAddr Tryd.underlying23 sz_48 rfl rfl (Opd.gd hG u_0) (Opd.gd hG u_1) (gd_true h13 hG))) <|
           o_g (g_t rfl rfl rfl (fun hG => ob_load ty_48 rfl rfl (Opd.gd hG u_0))) <|
           o_g (g_t rfl rfl rfl (fun hG => ob_load ty_48 rfl rfl u_0)) <|
           o_g (g_t rfl rfl rfl (fun hG => ob_call en_80 (moietyref03_Ahead_ok _ _ (gd_true h15 hG)) rfl rfl (.cons (Opd.gd hG u_0) (.cons (Opd.gd hG u_1) .nil)))) <|
           o_g (g_t rfl rfl rfl (fun hG => ob_not rfl rfl (Opd.gd hG u_0))) <|
           o_p rfl (ob_pand rfl rfl u_0 (fun hz => (Opd.gd hz u_1))) <|
           o_n) (by kernel_rfl) (fun a g hst hb => ?_)
        refine wp_cond_split (hst.bool 0 rfl) (fun hc16 => ?_) (fun hc16 => ?_)
        · replace H0 := ite_t hc16 H0
          refine r_s (L := []) (T := [⟨[], _, [], [], [6]⟩]) (F := [.op 0 0]) (hst.pick [] rfl) hb follows
            (o_p rfl (ob_assign rfl rfl c_i) <|
             o_n) (by kernel_rfl) (fun a g hst hb => ?_)
          refine wp_ret ?_
          refine then_r ?_
          obtain rfl := Option.some.inj H0
          exact endR1 rfl hst hb (res_tmp (s := 6)) (hst.at 0 rfl)
        · replace H0 := ite_f hc16 H0
          refine wp_skip ?_
          refine then_n ?_
          refine r_s (L := []) (T := [⟨[], _, [], [], [6]⟩]) (F := [.op 0 0]) (hst.pick [] rfl) hb follows
            (o_p rfl (ob_assign rfl rfl c_i) <|
             o_n) (by kernel_rfl) (fun a g hst hb => ?_)
          refine wp_ret ?_
          obtain rfl := Option.some.inj H0
          exact endR1 rfl hst hb (res_tmp (s := 6)) (hst.at 0 rfl)
end Go.CL

set_option linter.unusedVariables false
set_option linter.unusedSimpArgs false
set_option maxRecDepth 100000
namespace Go.CL
open Go Go.RowKit Go.Proofs
theorem moietyref03_Check_ok (a0 : api_Record) {r : Int} (h : moietyref03_Check a0 = some r) : FnOk Tryd.prog 18 [(k_api_Record.pd a0)] (pInt .i64 r) := by
  have H0 := h
  unfold moietyref03_Check at H0
  clear h
  refine fn_ok (N := 96) Tryd.func18 rfl rfl (Nat.le_of_ble_eq_true rfl) rfl rfl (fun a g0 hst hb => ?_)
  refine r_s (L := [(0, _)]) (T := [⟨[.old 0], _, [], [], [1]⟩, ⟨[], _, [], [], [2]⟩]) (F := [.op 0 0]) hst hb follows
    (o_p rfl (ob_box1 rfl rfl u_0) <|
     o_p rfl (ob_assign rfl rfl c_i) <|
     o_n) (by kernel_rfl) (fun a g hst hb => ?_)
  refine wp_seq ?_
  refine r_s (L := [(1, _)]) (T := [⟨[.old 0], _, [], [], [6]⟩, ⟨[.op 0 0], _, [], [0], [7]⟩, ⟨[.op 1 0], _, [], [0, 1], [8]⟩, ⟨[.op 2 0], _, [], [0, 1, 2], [9]⟩, ⟨[.op 3 0, .old 0], _, [], List.range 4, [10]⟩, ⟨[.op 3 0, .op 4 0], _, [], List.range 5, [11]⟩, ⟨[.op 3 0, .op 5 0], _, [], List.range 6, [12]⟩, ⟨[.op 3 0, .op 6 0], _, [], List.range 7, [13]⟩]) (F := [.old 0, .op 7 0]) hst hb follows
    (o_p rfl (ob_fieldAddr fl_25_0 rfl rfl u_0) <|
     o_p rfl (ob_load ty_3 rfl rfl u_0) <|
     o_p rfl (ob_lt rfl rfl u_0 c_i) <|
     o_p rfl (ob_move rfl rfl u_0) <|
     o_g (g_f rfl rfl rfl (fun hG => ob_fieldAddr fl_25_0 rfl rfl u_0)) <|
     o_g (g_f rfl rfl rfl (fun hG => ob_load ty_3 rfl rfl (Opd.gd hG u_0))) <|
     o_g (g_f rfl rfl rfl (fun hG => ob_gt rfl rfl (Opd.gd hG u_0) c_i)) <|
     o_p rfl (ob_por rfl rfl u_0 (fun hz => (Opd.gd (bNF hz) u_1))) <|
     o_n) (by kernel_rfl) (fun a g hst hb => ?_)
  refine wp_cond_split (hst.bool 1 rfl) (fun hc1 => ?_) (fun hc1 => ?_)
  · replace H0 := ite_t hc1 H0
    refine r_s (L := []) (T := [⟨[], _, [], [], [2]⟩]) (F := [.op 0 0]) (hst.pick [] rfl) hb follows
      (o_p rfl (ob_assign rfl rfl c_i) <|
       o_n) (by kernel_rfl) (fun a g hst hb => ?_)
    refine wp_ret ?_
    refine then_r ?_
    obtain rfl := Option.some.inj H0
    exact endR1 rfl hst hb (res_tmp (s := 2)) (hst.at 0 rfl)
  · replace H0 := ite_f hc1 H0
    refine wp_skip ?_
    refine then_n ?_
    refine wp_seq ?_
    obtain ⟨r2, h3, H0⟩ := of_bind H0; obtain ⟨r4, h5, H0⟩ := of_bind H0
    refine r_s (L := [(1, _)]) (T := [⟨[.old 0], _, [], [], [14]⟩, ⟨[.old 0], _, [], [], [15]⟩, ⟨[.op 1 0], _, [], [1], [16]⟩, ⟨[.op 2 0], _, [], [1, 2], [17]⟩, ⟨[.op 0 0, .op 3 0], _, [], List.range 4, [18]⟩, ⟨[.op 4 0], _, [], List.range 5, [19]⟩]) (F := [.old 0, .op 5 0]) (hst.pick [0] rfl) hb follows
      (o_p rfl (ob_load ty_25 rfl rfl u_0) <|
       o_p rfl (ob_fieldAddr fl_25_0 rfl rfl u_0) <|
       o_p rfl (ob_load ty_3 rfl rfl u_0) <|
       o_p rfl (ob_call en_37 (moietyref03_Fields_ok _ h3) rfl rfl (.cons u_0 .nil)) <|
       o_p rfl (ob_call en_36 (moietyref03_only_ok _ _ h5) rfl rfl (.cons u_0 (.cons u_1 .nil))) <|
       o_p rfl (ob_not rfl rfl u_0) <|
       o_n) (by kernel_rfl) (fun a g hst hb => ?_)
    refine wp_cond_split (hst.bool 1 rfl) (fun hc6 => ?_) (fun hc6 => ?_)
    · replace H0 := ite_t hc6 H0
      refine r_s (L := []) (T := [⟨[], _, [], [], [2]⟩]) (F := [.op 0 0]) (hst.pick [] rfl) hb follows
        (o_p rfl (ob_assign rfl rfl c_i) <|
         o_n) (by kernel_rfl) (fun a g hst hb => ?_)
      refine wp_ret ?_
      refine then_r ?_
      obtain rfl := Option.some.inj H0
      exact endR1 rfl hst hb (res_tmp (s := 2)) (hst.at 0 rfl)
    · replace H0 := ite_f hc6 H0
      refine wp_skip ?_
      refine then_n ?_
      refine wp_seq ?_
      refine r_s (L := [(1, _)]) (T := [⟨[.old 0], _, [], [], [20]⟩, ⟨[.op 0 0], _, [], [0], [21]⟩, ⟨[.op 1 0], _, [], [0, 1], [22]⟩, ⟨[.op 2 0], _, [], [0, 1, 2], [23]⟩, ⟨[.op 3 0, .old 0], _, [], List.range 4, [24]⟩, ⟨[.op 3 0, .op 4 0], _, [], List.range 5, [25]⟩, ⟨[.op 3 0, .op 5 0], _, [], List.range 6, [26]⟩, ⟨[.op 3 0, .op 6 0], _, [], List.range 7, [27]⟩, ⟨[.op 3 0, .op 7 0], _, [], List.range 8, [28]⟩]) (F := [.old 0, .op 8 0]) (hst.pick [0] rfl) hb follows
        (o_p rfl (ob_fieldAddr fl_25_0 rfl rfl u_0) <|
         o_p rfl (ob_load ty_3 rfl rfl u_0) <|
         o_p rfl (ob_eq rfl rfl u_0 c_i) <|
         o_p rfl (ob_move rfl rfl u_0) <|
         o_g (g_t rfl rfl rfl (fun hG => ob_fieldAddr fl_25_6 rfl rfl u_0)) <|
         o_g (g_t rfl rfl rfl (fun hG => ob_load ty_9 rfl rfl (Opd.gd hG u_0))) <|
         o_g (g_t rfl rfl rfl (fun hG => ob_lenS Tryd.underlying9 rfl rfl (Opd.gd hG u_0))) <|
         o_g (g_t rfl rfl rfl (fun hG => ob_gt rfl rfl (Opd.gd hG u_0) c_i)) <|
         o_p rfl (ob_pand rfl rfl u_0 (fun hz => (Opd.gd hz u_1))) <|
         o_n) (by kernel_rfl) (fun a g hst hb => ?_)
      refine wp_cond_split (hst.bool 1 rfl) (fun hc7 => ?_) (fun hc7 => ?_)
      · replace H0 := ite_t hc7 H0
        refine r_s (L := []) (T := [⟨[], _, [], [], [2]⟩]) (F := [.op 0 0]) (hst.pick [] rfl) hb follows
          (o_p rfl (ob_assign rfl rfl c_i) <|
           o_n) (by kernel_rfl) (fun a g hst hb => ?_)
        refine wp_ret ?_
        refine then_r ?_
        obtain rfl := Option.some.inj H0
        exact endR1 rfl hst hb (res_tmp (s := 2)) (hst.at 0 rfl)
      · replace H0 := ite_f hc7 H0
        refine wp_skip ?_
        refine then_n ?_
        refine r_s (L := [(1, _)]) (T := [⟨[], _, [], [], [3]⟩]) (F := [.old 0, .op 0 0]) (hst.pick [0] rfl) hb follows
          (o_p rfl (ob_assign rfl rfl c_i) <|
           o_n) (by kernel_rfl) (fun a g hst hb => ?_)
        refine wp_seq ?_
        refine r_s (L := [(1, _), (3, _)]) (T := ⟨[.old 0], _, [], [], [29]⟩ :: ⟨[.op 0 0], _, [], [0], [30]⟩ :: ⟨[.op 1 0], _, [], [0, 1], [31]⟩ :: ⟨[.op 2 0], _, [], [0, 1, 2], [32]⟩ :: ⟨[.op 3 0, .old 0], _, [], List.range 4, [33]⟩ :: ⟨[.op 3 0, .op 4 0], _, [], List.range 5, [34]⟩ :: ⟨[.op 3 0, .old 1], _, [], List.range 4, [35]⟩ :: ⟨[.op 3 0, .op 6 0], _, [], [0, 1, 2, 3, 6], [36]⟩ :: ⟨[.op 3 0, .op 5 0, .op 7 0], _, [], List.range 8, [37]⟩ :: ⟨[.op 3 0, .op 8 0], _, [], List.range 9, [38]⟩ :: ⟨[.op 9 0, .old 0], _, [], List.range 10, [39]⟩ :: ⟨[.op 9 0, .op 10 0], _, [], List.range 11, [40]⟩ :: ⟨[.op 9 0, .old 1], _, [], List.range 10, [41]⟩ :: ⟨[.op 9 0, .op 11 0, .op 12 0], _, [], List.range 13, [42]⟩ :: ⟨[.op 3 0, .op 9 0, .op 13 0], _, [], List.range 14, [43]⟩ :: ⟨[.op 3 0, .op 14 0], _, [], List.range 15, [44]⟩ :: ⟨[.op 15 0, .old 0], _, [], List.range 16, [45]⟩ :: ⟨[.op 15 0, .op 16 0], _, [], List.range 17, [46]⟩ :: ⟨[.op 15 0, .old 0], _, [], List.range 16, [47]⟩ :: ⟨[.op 15 0, .op 18 0], _, [], 0 :: 1 :: 2 :: 3 :: 4 :: 5 :: 6 :: 7 :: 8 :: 9 :: 10 :: 11 :: 12 :: 13 :: 14 :: 15 :: 18 :: [], [48]⟩ :: ⟨[.op 15 0, .op 17 0, .op 19 0], _, [], List.range 20, [49]⟩ :: ⟨[.op 3 0, .op 15 0, .op 20 0], _, [], List.range 21, [50]⟩ :: ⟨[.op 3 0, .op 21 0], _, [], List.range 22, [51]⟩ :: ⟨[.op 22 0, .old 0], _, [], List.range 23, [52]⟩ :: ⟨[.op 22 0, .op 23 0], _, [], List.range 24, [53]⟩ :: ⟨[.op 22 0, .old 0], _, [], List.range 23, [54]⟩ :: ⟨[.op 22 0, .op 25 0], _, [], 0 :: 1 :: 2 :: 3 :: 4 :: 5 :: 6 :: 7 :: 8 :: 9 :: 10 :: 11 :: 12 :: 13 :: 14 :: 15 :: 16 :: 17 :: 18 :: 19 :: 20 :: 21 :: 22 :: 25 :: [], [55]⟩ :: ⟨[.op 22 0, .op 24 0, .op 26 0], _, [], List.range 27, [56]⟩ :: ⟨[.op 3 0, .op 22 0, .op 27 0], _, [], List.range 28, [57]⟩ :: ⟨[.op 3 0, .op 28 0], _, [], List.range 29, [58]⟩ :: []) (F := [.old 0, .op 29 0]) hst hb follows
          (o_p rfl (ob_fieldAddr fl_25_0 rfl rfl u_0) <|
           o_p rfl (ob_load ty_3 rfl rfl u_0) <|
           o_p rfl (ob_eq rfl rfl u_0 c_i) <|
           o_p rfl (ob_move rfl rfl u_0) <|
           o_g (g_t rfl rfl rfl (fun hG => ob_fieldAddr fl_25_2 rfl rfl u_0)) <|
           o_g (g_t rfl rfl rfl (fun hG => ob_load ty_2 rfl rfl (Opd.gd hG u_0))) <|
           o_g (g_t rfl rfl rfl (fun hG => ob_move rfl rfl u_0)) <|
           o_g (g_t rfl rfl rfl (fun hG => ob_neg rfl rfl (Opd.gd hG u_0) rfl)) <|
           o_g (g_t rfl rfl rfl (fun hG => ob_lt rfl rfl (Opd.gd hG u_0) (Opd.gd hG u_1))) <|
           o_g (g_t rfl rfl rfl (fun hG => ob_move rfl rfl (Opd.gd hG u_0))) <|
           o_g (g_fi rfl rfl rfl (fun hG => ob_fieldAddr fl_25_3 rfl rfl u_0)) <|
           o_g (g_fi rfl rfl rfl (fun hG => ob_load ty_2 rfl rfl (Opd.gd hG u_0))) <|
           o_g (g_fi rfl rfl rfl (fun hG => ob_move rfl rfl u_0)) <|
           o_g (g_fi rfl rfl rfl (fun hG => ob_gt rfl rfl (Opd.gd hG u_0) (Opd.gd hG u_1))) <|
           o_g (g_t rfl rfl rfl (fun hG => ob_por rfl rfl (Opd.gd hG u_0) (fun hz => (Opd.gd (bA hG (bNF hz)) u_1)))) <|
           o_g (g_t rfl rfl rfl (fun hG => ob_move rfl rfl (Opd.gd hG u_0))) <|
           o_g (g_fi rfl rfl rfl (fun hG => ob_fieldAddr fl_25_1 rfl rfl u_0)) <|
           o_g (g_fi rfl rfl rfl (fun hG => ob_load ty_2 rfl rfl (Opd.gd hG u_0))) <|
           o_g (g_fi rfl rfl rfl (fun hG => ob_fieldAddr fl_25_2 rfl rfl u_0)) <|
           o_g (g_fi rfl rfl rfl (fun hG => ob_load ty_2 rfl rfl (Opd.gd hG u_0))) <|
           o_g (g_fi rfl rfl rfl (fun hG => ob_lt rfl rfl (Opd.gd hG u_0) (Opd.gd hG u_1))) <|
           o_g (g_t rfl rfl rfl (fun hG => ob_por rfl rfl (Opd.gd hG u_0) (fun hz => (Opd.gd (bA hG (bNF hz)) u_1)))) <|
           o_g (g_t rfl rfl rfl (fun hG => ob_move rfl rfl (Opd.gd hG u_0))) <|
           o_g (g_fi rfl rfl rfl (fun hG => ob_fieldAddr fl_25_1 rfl rfl u_0)) <|
           o_g (g_fi rfl rfl rfl (fun hG => ob_load ty_2 rfl rfl (Opd.gd hG u_0))) <|
           o_g (g_fi rfl rfl rfl (fun hG => ob_fieldAddr fl_25_3 rfl rfl u_0)) <|
           o_g (g_fi rfl rfl rfl (fun hG => ob_load ty_2 rfl rfl (Opd.gd hG u_0))) <|
           o_g (g_fi rfl rfl rfl (fun hG => ob_gt rfl rfl (Opd.gd hG u_0) (Opd.gd hG u_1))) <|
           o_g (g_t rfl rfl rfl (fun hG => ob_por rfl rfl (Opd.gd hG u_0) (fun hz => (Opd.gd (bA hG (bNF hz)) u_1)))) <|
           o_p rfl (ob_pand rfl rfl u_0 (fun hz => (Opd.gd hz u_1))) <|
           o_n) (by kernel_rfl) (fun a g hst hb => ?_)
        refine wp_cond_split (hst.bool 1 rfl) (fun hc8 => ?_) (fun hc8 => ?_)
        · replace H0 := ite_t hc8 H0
          refine r_s (L := []) (T := [⟨[], _, [], [], [2]⟩]) (F := [.op 0 0]) (hst.pick [] rfl) hb follows
            (o_p rfl (ob_assign rfl rfl c_i) <|
             o_n) (by kernel_rfl) (fun a g hst hb => ?_)
          refine wp_ret ?_
          refine then_r ?_
          obtain rfl := Option.some.inj H0
          exact endR1 rfl hst hb (res_tmp (s := 2)) (hst.at 0 rfl)
        · replace H0 := ite_f hc8 H0
          refine wp_skip ?_
          refine then_n ?_
          refine wp_seq ?_
          obtain ⟨r9, h10, H0⟩ := of_bind H0
          refine r_s (L := [(1, _)]) (T := [⟨[.old 0], _, [], [], [59]⟩, ⟨[.op 0 0], _, [], [0], [60]⟩, ⟨[.op 1 0], _, [], [0, 1], [61]⟩, ⟨[.op 2 0], _, [], [0, 1, 2], [62]⟩]) (F := [.old 0, .op 3 0]) (hst.pick [0] rfl) hb follows
            (o_p rfl (ob_fieldAddr fl_25_4 rfl rfl u_0) <|
             o_p rfl (ob_load ty_22 rfl rfl u_0) <|
             o_p rfl (ob_call en_38 (moietyref01_Proper_ok _ h10) rfl rfl (.cons u_0 .nil)) <|
             o_p rfl (ob_not rfl rfl u_0) <|
             o_n) (by kernel_rfl) (fun a g hst hb => ?_)
          refine wp_cond_split (hst.bool 1 rfl) (fun hc11 => ?_) (fun hc11 => ?_)
          · replace H0 := ite_t hc11 H0
            refine r_s (L := []) (T := [⟨[], _, [], [], [2]⟩]) (F := [.op 0 0]) (hst.pick [] rfl) hb follows
              (o_p rfl (ob_assign rfl rfl c_i) <|
               o_n) (by kernel_rfl) (fun a g hst hb => ?_)
            refine wp_ret ?_
            refine then_r ?_
            obtain rfl := Option.some.inj H0
            exact endR1 rfl hst hb (res_tmp (s := 2)) (hst.at 0 rfl)
          · replace H0 := ite_f hc11 H0
            refine wp_skip ?_
            refine then_n ?_
            refine wp_seq ?_
            refine r_s (L := [(1, _)]) (T := [⟨[.old 0], _, [], [], [63]⟩, ⟨[.op 0 0], _, [], [0], [64]⟩, ⟨[.op 1 0], _, [], [0, 1], [65]⟩]) (F := [.old 0, .op 2 0]) (hst.pick [0] rfl) hb follows
              (o_p rfl (ob_fieldAddr fl_25_0 rfl rfl u_0) <|
               o_p rfl (ob_load ty_3 rfl rfl u_0) <|
               o_p rfl (ob_lt rfl rfl u_0 c_i) <|
               o_n) (by kernel_rfl) (fun a g hst hb => ?_)
            refine wp_cond_split (hst.bool 1 rfl) (fun hc12 => ?_) (fun hc12 => ?_)
            · replace H0 := ite_t hc12 H0
              refine r_s (L := []) (T := [⟨[], _, [], [], [2]⟩]) (F := [.op 0 0]) (hst.pick [] rfl) hb follows
                (o_p rfl (ob_assign rfl rfl c_i) <|
                 o_n) (by kernel_rfl) (fun a g hst hb => ?_)
              refine wp_ret ?_
              refine then_r ?_
              obtain rfl := Option.some.inj H0
              exact endR1 rfl hst hb (res_tmp (s := 2)) (hst.at 0 rfl)
            · replace H0 := ite_f hc12 H0
              refine wp_skip ?_
              refine then_n ?_
              refine wp_seq ?_
              refine r_s (L := [(1, _)]) (T := [⟨[.old 0], _, [], [], [66]⟩, ⟨[.op 0 0], _, [], [0], [67]⟩, ⟨[.op 1 0], _, [], [0, 1], [68]⟩, ⟨[.op 2 0], _, [], [0, 1, 2], [69]⟩, ⟨[.op 3 0, .old 0], _, [], List.range 4, [70]⟩, ⟨[.op 3 0, .op 4 0], _, [], List.range 5, [71]⟩, ⟨[.op 3 0, .op 5 0], _, [], List.range 6, [72]⟩, ⟨[.op 3 0, .op 6 0], _, [], List.range 7, [73]⟩]) (F := [.old 0, .op 7 0]) (hst.pick [0] rfl) hb follows
                (o_p rfl (ob_fieldAddr fl_25_5 rfl rfl u_0) <|
                 o_p rfl (ob_load ty_3 rfl rfl u_0) <|
                 o_p rfl (ob_lt rfl rfl u_0 c_i) <|
                 o_p rfl (ob_move rfl rfl u_0) <|
                 o_g (g_f rfl rfl rfl (fun hG => ob_fieldAddr fl_25_5 rfl rfl u_0)) <|
                 o_g (g_f rfl rfl rfl (fun hG => ob_load ty_3 rfl rfl (Opd.gd hG u_0))) <|
                 o_g (g_f rfl rfl rfl (fun hG => ob_gt rfl rfl (Opd.gd hG u_0) c_i)) <|
                 o_p rfl (ob_por rfl rfl u_0 (fun hz => (Opd.gd (bNF hz) u_1))) <|
                 o_n) (by kernel_rfl) (fun a g hst hb => ?_)
              refine wp_cond_split (hst.bool 1 rfl) (fun hc13 => ?_) (fun hc13 => ?_)
              · replace H0 := ite_t hc13 H0
                refine r_s (L := []) (T := [⟨[], _, [], [], [2]⟩]) (F := [.op 0 0]) (hst.pick [] rfl) hb follows
                  (o_p rfl (ob_assign rfl rfl c_i) <|
                   o_n) (by kernel_rfl) (fun a g hst hb => ?_)
                refine wp_ret ?_
                refine then_r ?_
                obtain rfl := Option.some.inj H0
                exact endR1 rfl hst hb (res_tmp (s := 2)) (hst.at 0 rfl)
              · replace H0 := ite_f hc13 H0
                refine wp_skip ?_
                refine then_n ?_
                refine wp_seq ?_
                refine r_s (L := [(1, _)]) (T := [⟨[.old 0], _, [], [], [74]⟩, ⟨[.op 0 0], _, [], [0], [75]⟩, ⟨[.op 1 0], _, [], [0, 1], [76]⟩, ⟨[.old 0], _, [], [], [77]⟩, ⟨[.op 3 0], _, [], [3], [78]⟩, ⟨[.op 2 0, .op 4 0], _, [], List.range 5, [79]⟩]) (F := [.old 0, .op 5 0]) (hst.pick [0] rfl) hb follows
                  (o_p rfl (ob_fieldAddr fl_25_7 rfl rfl u_0) <|
                   o_p rfl (ob_load ty_23 rfl rfl u_0) <|
                   o_p rfl (ob_lenL Tryd.underlying23 rfl rfl u_0) <|
                   o_p rfl (ob_fieldAddr fl_25_5 rfl rfl u_0) <|
                   o_p rfl (ob_load ty_3 rfl rfl u_0) <|
                   o_p rfl (ob_gt rfl rfl u_0 u_1) <|
                   o_n) (by kernel_rfl) (fun a g hst hb => ?_)
                refine wp_cond_split (hst.bool 1 rfl) (fun hc14 => ?_) (fun hc14 => ?_)
                · replace H0 := ite_t hc14 H0
                  refine r_s (L := []) (T := [⟨[], _, [], [], [2]⟩]) (F := [.op 0 0]) (hst.pick [] rfl) hb follows
                    (o_p rfl (ob_assign rfl rfl c_i) <|
                     o_n) (by kernel_rfl) (fun a g hst hb => ?_)
                  refine wp_ret ?_
                  refine then_r ?_
                  obtain rfl := Option.some.inj H0
                  exact endR1 rfl hst hb (res_tmp (s := 2)) (hst.at 0 rfl)
                · replace H0 := ite_f hc14 H0
                  refine wp_skip ?_
                  refine then_n ?_
                  refine wp_seq ?_
                  refine r_s (L := [(1, _)]) (T := [⟨[], _, [], [], [4]⟩]) (F := [.old 0, .op 0 0]) (hst.pick [0] rfl) hb follows
                    (o_p rfl (ob_assign rfl rfl c_i) <|
                     o_n) (by kernel_rfl) (fun a g hst hb => ?_)
                  obtain ⟨z20, hz1, H0⟩ := of_bind H0
                  refine wp_cut (fun a w => ∃ (g : G), w = g.w ∧ St 96 [] a g ∧ Base g0 g ∧ (.inr ()) = z20) ?_ ?_
                  · rintro a w ⟨g, rfl, hst, hb, rfl⟩
                    refine then_n ?_
                    refine r_s (L := []) (T := [⟨[], _, [], [], [2]⟩]) (F := [.op 0 0]) hst hb follows
                      (o_p rfl (ob_assign rfl rfl c_i) <|
                       o_n) (by kernel_rfl) (fun a g hst hb => ?_)
                    refine wp_ret ?_
                    obtain rfl := Option.some.inj H0
                    exact endR1 rfl hst hb (res_tmp (s := 2)) (hst.at 0 rfl)
                  · refine wp_block ?_
                    refine wp_loop_ghost (fun n a w => ∃ (x15 : Int) (g : G), w = g.w ∧ St 96 [(1, (k_api_Record.ptr a0)), (4, (pInt .i64 x15))] a g ∧ Base g0 g ∧ moietyref03_Check_l1 a0 n x15 = some z20) (Int.toNat ((a0.List.length : Int) - (0 : Int)) + 1) ⟨(0 : Int), g, rfl, (hst.pick [0, 1] rfl), hb, hz1⟩ (fun n a w hI => ?_)
                    obtain ⟨x15, g, rfl, hst, hb, H1⟩ := hI
                    cases n with
                    | zero => exact absurd H1 (by simp [moietyref03_Check_l1])
                    | succ n =>
                      rw [moietyref03_Check_l1] at H1
                      refine wp_seq ?_
                      refine r_s (L := [(1, _), (4, _)]) (T := [⟨[.old 1], _, [], [], [80]⟩, ⟨[.old 0], _, [], [], [81]⟩, ⟨[.op 1 0], _, [], [1], [82]⟩, ⟨[.op 2 0], _, [], [1, 2], [83]⟩, ⟨[.op 0 0, .op 3 0], _, [], List.range 4, [84]⟩]) (F := [.old 0, .old 1, .op 4 0]) hst hb follows
                        (o_p rfl (ob_move rfl rfl u_0) <|
                         o_p rfl (ob_fieldAddr fl_25_7 rfl rfl u_0) <|
                         o_p rfl (ob_load ty_23 rfl rfl u_0) <|
                         o_p rfl (ob_lenL Tryd.underlying23 rfl rfl u_0) <|
                         o_p rfl (ob_lt rfl rfl u_0 u_1) <|
                         o_n) (by kernel_rfl) (fun a g hst hb => ?_)
                      refine wp_cond_split (hst.bool 2 rfl) (fun hc16 => ?_) (fun hc16 => ?_)
                      · replace H1 := ite_t hc16 H1
                        refine wp_skip ?_
                        refine then_n ?_
                        refine wp_seq ?_
                        refine wp_block ?_
                        obtain ⟨r17, h18, H1⟩ := of_bind H1
                        refine r_s (L := [(1, _), (4, _)]) (T := [⟨[.old 0], _, [], [], [87]⟩, ⟨[.op 0 0], _, [], [0], [88]⟩, ⟨[.old 0], _, [], [], [89]⟩, ⟨[.op 2 0], _, [], [2], [90]⟩, ⟨[.old 1], _, [], [], [91]⟩, ⟨[.op 1 0, .op 3 0, .op 4 0], _, [], List.range 5, [92]⟩, ⟨[.op 5 0], _, [], List.range 6, [5]⟩]) (F := [.old 0, .old 1, .op 6 0]) (hst.pick [0, 1] rfl) hb follows
                          (o_p rfl (ob_fieldAddr fl_25_0 rfl rfl u_0) <|
                           o_p rfl (ob_load ty_3 rfl rfl u_0) <|
                           o_p rfl (ob_fieldAddr fl_25_7 rfl rfl u_0) <|
                           o_p rfl (ob_load ty_23 rfl rfl u_0) <|
                           o_p rfl (ob_move rfl rfl u_0) <|
                           o_p rfl (ob_call en_39 (moietyref03_item_ok _ _ _ h18) rfl rfl (.cons u_0 (.cons u_1 (.cons u_2 .nil)))) <|
                           o_p rfl (ob_assign rfl rfl u_0) <|
                           o_n) (by kernel_rfl) (fun a g hst hb => ?_)
                        refine r_s (L := [(1, _), (4, _), (5, _)]) (T := [⟨[.old 2], _, [], [], [93]⟩, ⟨[.op 0 0], _, [], [0], [94]⟩]) (F := [.old 0, .old 1, .old 2, .op 1 0]) hst hb follows
                          (o_p rfl (ob_move rfl rfl u_0) <|
                           o_p rfl (ob_ne rfl rfl u_0 c_i) <|
                           o_n) (by kernel_rfl) (fun a g hst hb => ?_)
                        refine wp_cond_split (hst.bool 3 rfl) (fun hc19 => ?_) (fun hc19 => ?_)
                        · replace H1 := ite_t hc19 H1
                          refine r_s (L := [(5, _)]) (T := [⟨[.old 0], _, [], [], [95]⟩, ⟨[.op 0 0], _, [], [0], [2]⟩]) (F := [.op 1 0]) (hst.pick [2] rfl) hb follows
                            (o_p rfl (ob_move rfl rfl u_0) <|
                             o_p rfl (ob_assign rfl rfl u_0) <|
                             o_n) (by kernel_rfl) (fun a g hst hb => ?_)
                          refine wp_ret ?_
                          refine inBlock_r ?_
                          refine then_r ?_
                          refine then_r ?_
                          refine inBlock_r ?_
                          refine then_r ?_
                          refine then_r ?_
                          obtain rfl := Option.some.inj H1
                          obtain rfl := Option.some.inj H0
                          exact endR1 rfl hst hb (res_tmp (s := 2)) (hst.at 0 rfl)
                        · replace H1 := ite_f hc19 H1
                          refine wp_skip ?_
                          refine inBlock_n ?_
                          refine then_n ?_
                          refine r_g (L := [(1, _), (4, _)]) (T := [⟨[.old 1], _, [], [], [85]⟩, ⟨[.op 0 0], _, [], [0], [86]⟩, ⟨[.op 1 0], _, [], [0, 1], [4]⟩]) (F := [.old 0, .op 2 0]) (hst.pick [0, 1] rfl) hb follows
                            (o_p rfl (ob_move rfl rfl u_0) <|
                             o_p rfl (ob_add rfl rfl u_0 c_i rfl) <|
                             o_p rfl (ob_assign rfl rfl u_0) <|
                             o_n) (by kernel_rfl) (fun a g hst hb => ?_)
                          exact ⟨n, Nat.lt_succ_self _, (IntKind.i64.wrap (x15 + (1 : Int))), g, rfl, (hst.pick [0, 1] rfl), hb, H1⟩
                      · replace H1 := ite_f hc16 H1
                        refine wp_exit ?_
                        refine then_e ?_
                        refine then_e ?_
                        refine inBlock_e ?_
                        exact ⟨g, rfl, (hst.pick [] rfl), hb, Option.some.inj H1⟩
end Go.CL

set_option linter.unusedVariables false
set_option linter.unusedSimpArgs false
set_option maxRecDepth 100000
namespace Go.CL
open Go Go.RowKit Go.Proofs
theorem moietyref03_Same_ok (a0 : api_Record) (a1 : api_Record) {r : Bool} (h : moietyref03_Same a0 a1 = some r) : FnOk Tryd.prog 13 [(k_api_Record.pd a0), (k_api_Record.pd a1)] (pBool r) := by
  have H0 := h
  unfold moietyref03_Same at H0
  clear h
  refine fn_ok (N := 97) Tryd.func13 rfl rfl (Nat.le_of_ble_eq_true rfl) rfl rfl (fun a g0 hst hb => ?_)
  refine r_s (L := [(0, _), (1, _)]) (T := [⟨[.old 0], _, [], [], [2]⟩, ⟨[.old 1], _, [], [], [3]⟩, ⟨[], _, [], [], [4]⟩]) (F := [.op 0 0, .op 1 0]) hst hb follows
    (o_p rfl (ob_box1 rfl rfl u_0) <|
     o_p rfl (ob_box1 rfl rfl u_0) <|
     o_p rfl (ob_assign rfl rfl c_b) <|
     o_n) (by kernel_rfl) (fun a g hst hb => ?_)
  refine wp_seq ?_
  refine r_s (L := [(2, _), (3, _)]) (T := ⟨[.old 0], _, [], [], [6]⟩ :: ⟨[.op 0 0], _, [], [0], [7]⟩ :: ⟨[.old 1], _, [], [], [8]⟩ :: ⟨[.op 2 0], _, [], [2], [9]⟩ :: ⟨[.op 1 0, .op 3 0], _, [], List.range 4, [10]⟩ :: ⟨[.op 4 0], _, [], List.range 5, [11]⟩ :: ⟨[.op 5 0, .old 0], _, [], List.range 6, [12]⟩ :: ⟨[.op 5 0, .op 6 0], _, [], List.range 7, [13]⟩ :: ⟨[.op 5 0, .old 1], _, [], List.range 6, [14]⟩ :: ⟨[.op 5 0, .op 8 0], _, [], [0, 1, 2, 3, 4, 5, 8], [15]⟩ :: ⟨[.op 5 0, .op 7 0, .op 9 0], _, [], List.range 10, [16]⟩ :: ⟨[.op 5 0, .op 10 0], _, [], List.range 11, [17]⟩ :: ⟨[.op 11 0], _, [], List.range 12, [18]⟩ :: ⟨[.op 12 0, .old 0], _, [], List.range 13, [19]⟩ :: ⟨[.op 12 0, .op 13 0], _, [], List.range 14, [20]⟩ :: ⟨[.op 12 0, .old 1], _, [], List.range 13, [21]⟩ :: ⟨[.op 12 0, .op 15 0], _, [], 0 :: 1 :: 2 :: 3 :: 4 :: 5 :: 6 :: 7 :: 8 :: 9 :: 10 :: 11 :: 12 :: 15 :: [], [22]⟩ :: ⟨[.op 12 0, .op 14 0, .op 16 0], _, [], List.range 17, [23]⟩ :: ⟨[.op 12 0, .op 17 0], _, [], List.range 18, [24]⟩ :: ⟨[.op 18 0], _, [], List.range 19, [25]⟩ :: ⟨[.op 19 0, .old 0], _, [], List.range 20, [26]⟩ :: ⟨[.op 19 0, .op 20 0], _, [], List.range 21, [27]⟩ :: ⟨[.op 19 0, .old 1], _, [], List.range 20, [28]⟩ :: ⟨[.op 19 0, .op 22 0], _, [], 0 :: 1 :: 2 :: 3 :: 4 :: 5 :: 6 :: 7 :: 8 :: 9 :: 10 :: 11 :: 12 :: 13 :: 14 :: 15 :: 16 :: 17 :: 18 :: 19 :: 22 :: [], [29]⟩ :: ⟨[.op 19 0, .op 21 0, .op 23 0], _, [], List.range 24, [30]⟩ :: ⟨[.op 19 0, .op 24 0], _, [], List.range 25, [31]⟩ :: ⟨[.op 25 0], _, [], List.range 26, [32]⟩ :: ⟨[.op 26 0, .old 0], _, [], List.range 27, [33]⟩ :: ⟨[.op 26 0, .op 27 0], _, [], List.range 28, [34]⟩ :: ⟨[.op 26 0, .old 1], _, [], List.range 27, [35]⟩ :: ⟨[.op 26 0, .op 29 0], _, [], 0 :: 1 :: 2 :: 3 :: 4 :: 5 :: 6 :: 7 :: 8 :: 9 :: 10 :: 11 :: 12 :: 13 :: 14 :: 15 :: 16 :: 17 :: 18 :: 19 :: 20 :: 21 :: 22 :: 23 :: 24 :: 25 :: 26 :: 29 :: [], [36]⟩ :: ⟨[.op 26 0, .op 28 0, .op 30 0], _, [], List.range 31, [37]⟩ :: ⟨[.op 26 0, .op 31 0], _, [], List.range 32, [38]⟩ :: ⟨[.op 32 0], _, [], List.range 33, [39]⟩ :: ⟨[.op 33 0, .old 0], _, [], List.range 34, [40]⟩ :: ⟨[.op 33 0, .op 34 0], _, [], List.range 35, [41]⟩ :: ⟨[.op 33 0, .old 1], _, [], List.range 34, [42]⟩ :: ⟨[.op 33 0, .op 36 0], _, [], 0 :: 1 :: 2 :: 3 :: 4 :: 5 :: 6 :: 7 :: 8 :: 9 :: 10 :: 11 :: 12 :: 13 :: 14 :: 15 :: 16 :: 17 :: 18 :: 19 :: 20 :: 21 :: 22 :: 23 :: 24 :: 25 :: 26 :: 27 :: 28 :: 29 :: 30 :: 31 :: 32 :: 33 :: 36 :: [], [43]⟩ :: ⟨[.op 33 0, .op 35 0, .op 37 0], _, [], List.range 38, [44]⟩ :: ⟨[.op 33 0, .op 38 0], _, [], List.range 39, [45]⟩ :: []) (F := [.old 0, .old 1, .op 39 0]) hst hb follows
    (o_p rfl (ob_fieldAddr fl_25_0 rfl rfl u_0) <|
     o_p rfl (ob_load ty_3 rfl rfl u_0) <|
     o_p rfl (ob_fieldAddr fl_25_0 rfl rfl u_0) <|
     o_p rfl (ob_load ty_3 rfl rfl u_0) <|
     o_p rfl (ob_ne rfl rfl u_0 u_1) <|
     o_p rfl (ob_move rfl rfl u_0) <|
     o_g (g_f rfl rfl rfl (fun hG => ob_fieldAddr fl_25_1 rfl rfl u_0)) <|
     o_g (g_f rfl rfl rfl (fun hG => ob_load ty_2 rfl rfl (Opd.gd hG u_0))) <|
     o_g (g_f rfl rfl rfl (fun hG => ob_fieldAddr fl_25_1 rfl rfl u_0)) <|
     o_g (g_f rfl rfl rfl (fun hG => ob_load ty_2 rfl rfl (Opd.gd hG u_0))) <|
     o_g (g_f rfl rfl rfl (fun hG => ob_ne rfl rfl (Opd.gd hG u_0) (Opd.gd hG u_1))) <|
     o_p rfl (ob_por rfl rfl u_0 (fun hz => (Opd.gd (bNF hz) u_1))) <|
     o_p rfl (ob_move rfl rfl u_0) <|
     o_g (g_f rfl rfl rfl (fun hG => ob_fieldAddr fl_25_2 rfl rfl u_0)) <|
     o_g (g_f rfl rfl rfl (fun hG => ob_load ty_2 rfl rfl (Opd.gd hG u_0))) <|
     o_g (g_f rfl rfl rfl (fun hG => ob_fieldAddr fl_25_2 rfl rfl u_0)) <|
     o_g (g_f rfl rfl rfl (fun hG => ob_load ty_2 rfl rfl (Opd.gd hG u_0))) <|
     o_g (g_f rfl rfl rfl (fun hG => ob_ne rfl rfl (Opd.gd hG u_0) (Opd.gd hG u_1))) <|
     o_p rfl (ob_por rfl rfl u_0 (fun hz => (Opd.gd (bNF hz) u_1))) <|
     o_p rfl (ob_move rfl rfl u_0) <|
     o_g (g_f rfl rfl rfl (fun hG => ob_fieldAddr fl_25_3 rfl rfl u_0)) <|
     o_g (g_f rfl rfl rfl (fun hG => ob_load ty_2 rfl rfl (Opd.gd hG u_0))) <|
     o_g (g_f rfl rfl rfl (fun hG => ob_fieldAddr fl_25_3 rfl rfl u_0)) <|
     o_g (g_f rfl rfl rfl (fun hG => ob_load ty_2 rfl rfl (Opd.gd hG u_0))) <|
     o_g (g_f rfl rfl rfl (fun hG => ob_ne rfl rfl (Opd.gd hG u_0) (Opd.gd hG u_1))) <|
     o_p rfl (ob_por rfl rfl u_0 (fun hz => (Opd.gd (bNF hz) u_1))) <|
     o_p rfl (ob_move rfl rfl u_0) <|
     o_g (g_f rfl rfl rfl (fun hG => ob_fieldAddr fl_25_5 rfl rfl u_0)) <|
     o_g (g_f rfl rfl rfl (fun hG => ob_load ty_3 rfl rfl (Opd.gd hG u_0))) <|
     o_g (g_f rfl rfl rfl (fun hG => ob_fieldAddr fl_25_5 rfl rfl u_0)) <|
     o_g (g_f rfl rfl rfl (fun hG => ob_load ty_3 rfl rfl (Opd.gd hG u_0))) <|
     o_g (g_f rfl rfl rfl (fun hG => ob_ne rfl rfl (Opd.gd hG u_0) (Opd.gd hG u_1))) <|
     o_p rfl (ob_por rfl rfl u_0 (fun hz => (Opd.gd (bNF hz) u_1))) <|
     o_p rfl (ob_move rfl rfl u_0) <|
     o_g (g_f rfl rfl rfl (fun hG => ob_fieldAddr fl_25_6 rfl rfl u_0)) <|
     o_g (g_f rfl rfl rfl (fun hG => ob_load ty_9 rfl rfl (Opd.gd hG u_0))) <|
     o_g (g_f rfl rfl rfl (fun hG => ob_fieldAddr fl_25_6 rfl rfl u_0)) <|
     o_g (g_f rfl rfl rfl (fun hG => ob_load ty_9 rfl rfl (Opd.gd hG u_0))) <|
     o_g (g_f rfl rfl rfl (fun hG => ob_sne rfl rfl (Opd.gd hG u_0) (Opd.gd hG u_1))) <|
     o_p rfl (ob_por rfl rfl u_0 (fun hz => (Opd.gd (bNF hz) u_1))) <|
     o_n) (by kernel_rfl) (fun a g hst hb => ?_)
  refine wp_cond_split (hst.bool 2 rfl) (fun hc1 => ?_) (fun hc1 => ?_)
  · replace H0 := ite_t hc1 H0
    refine r_s (L := []) (T := [⟨[], _, [], [], [4]⟩]) (F := [.op 0 0]) (hst.pick [] rfl) hb follows
      (o_p rfl (ob_assign rfl rfl c_b) <|
       o_n) (by kernel_rfl) (fun a g hst hb => ?_)
    refine wp_ret ?_
    refine then_r ?_
    obtain rfl := Option.some.inj H0
    exact endR1 rfl hst hb (res_tmp (s := 4)) (hst.at 0 rfl)
  · replace H0 := ite_f hc1 H0
    refine wp_skip ?_
    refine then_n ?_
    refine wp_seq ?_
    obtain ⟨r2, h3, H0⟩ := of_bind H0
    refine r_s (L := [(2, _), (3, _)]) (T := ⟨[.old 0], _, [], [], [46]⟩ :: ⟨[.op 0 0], _, [], [0], [47]⟩ :: ⟨[.old 1], _, [], [], [48]⟩ :: ⟨[.op 2 0], _, [], [2], [49]⟩ :: ⟨[.op 1 0, .op 3 0], _, [], List.range 4, [50]⟩ :: ⟨[.op 4 0], _, [], List.range 5, [51]⟩ :: ⟨[.op 5 0], _, [], List.range 6, [52]⟩ :: ⟨[.op 6 0, .old 0], _, [], List.range 7, [53]⟩ :: ⟨[.op 6 0, .op 7 0], _, [], List.range 8, [54]⟩ :: ⟨[.op 6 0, .op 8 0], _, [], List.range 9, [55]⟩ :: ⟨[.op 6 0, .old 1], _, [], List.range 7, [56]⟩ :: ⟨[.op 6 0, .op 10 0], _, [], [0, 1, 2, 3, 4, 5, 6, 10], [57]⟩ :: ⟨[.op 6 0, .op 11 0], _, [], [0, 1, 2, 3, 4, 5, 6, 10, 11], [58]⟩ :: ⟨[.op 6 0, .op 9 0, .op 12 0], _, [], List.range 13, [59]⟩ :: ⟨[.op 6 0, .op 13 0], _, [], List.range 14, [60]⟩ :: []) (F := [.old 0, .old 1, .op 14 0]) (hst.pick [0, 1] rfl) hb follows
      (o_p rfl (ob_fieldAddr fl_25_4 rfl rfl u_0) <|
       o_p rfl (ob_load ty_22 rfl rfl u_0) <|
       o_p rfl (ob_fieldAddr fl_25_4 rfl rfl u_0) <|
       o_p rfl (ob_load ty_22 rfl rfl u_0) <|
       o_p rfl (ob_call en_32 (moietyref01_Same_ok _ _ h3) rfl rfl (.cons u_0 (.cons u_1 .nil))) <|
       o_p rfl (ob_not rfl rfl u_0) <|
       o_p rfl (ob_move rfl rfl u_0) <|
       o_g (g_f rfl rfl rfl (fun hG => ob_fieldAddr fl_25_7 rfl rfl u_0)) <|
       o_g (g_f rfl rfl rfl (fun hG => ob_load ty_23 rfl rfl (Opd.gd hG u_0))) <|
       o_g (g_f rfl rfl rfl (fun hG => ob_lenL Tryd.underlying23 rfl rfl (Opd.gd hG u_0))) <|
       o_g (g_f rfl rfl rfl (fun hG => ob_fieldAddr fl_25_7 rfl rfl u_0)) <|
       o_g (g_f rfl rfl rfl (fun hG => ob_load ty_23 rfl rfl (Opd.gd hG u_0))) <|
       o_g (g_f rfl rfl rfl (fun hG => ob_lenL Tryd.underlying23 rfl rfl (Opd.gd hG u_0))) <|
       o_g (g_f rfl rfl rfl (fun hG => ob_ne rfl rfl (Opd.gd hG u_0) (Opd.gd hG u_1))) <|
       o_p rfl (ob_por rfl rfl u_0 (fun hz => (Opd.gd (bNF hz) u_1))) <|
       o_n) (by kernel_rfl) (fun a g hst hb => ?_)
    refine wp_cond_split (hst.bool 2 rfl) (fun hc4 => ?_) (fun hc4 => ?_)
    · replace H0 := ite_t hc4 H0
      refine r_s (L := []) (T := [⟨[], _, [], [], [4]⟩]) (F := [.op 0 0]) (hst.pick [] rfl) hb follows
        (o_p rfl (ob_assign rfl rfl c_b) <|
         o_n) (by kernel_rfl) (fun a g hst hb => ?_)
      refine wp_ret ?_
      refine then_r ?_
      obtain rfl := Option.some.inj H0
      exact endR1 rfl hst hb (res_tmp (s := 4)) (hst.at 0 rfl)
    · replace H0 := ite_f hc4 H0
      refine wp_skip ?_
      refine then_n ?_
      refine wp_seq ?_
      refine r_s (L := [(2, _), (3, _)]) (T := [⟨[], _, [], [], [5]⟩]) (F := [.old 0, .old 1, .op 0 0]) (hst.pick [0, 1] rfl) hb follows
        (o_p rfl (ob_assign rfl rfl c_i) <|
         o_n) (by kernel_rfl) (fun a g hst hb => ?_)
      obtain ⟨z18, hz1, H0⟩ := of_bind H0
      refine wp_cut (fun a w => ∃ (g : G), w = g.w ∧ St 97 [] a g ∧ Base g0 g ∧ (.inr ()) = z18) ?_ ?_
      · rintro a w ⟨g, rfl, hst, hb, rfl⟩
        refine then_n ?_
        refine r_s (L := []) (T := [⟨[], _, [], [], [4]⟩]) (F := [.op 0 0]) hst hb follows
          (o_p rfl (ob_assign rfl rfl c_b) <|
           o_n) (by kernel_rfl) (fun a g hst hb => ?_)
        refine wp_ret ?_
        obtain rfl := Option.some.inj H0
        exact endR1 rfl hst hb (res_tmp (s := 4)) (hst.at 0 rfl)
      · refine wp_block ?_
        refine wp_loop_ghost (fun n a w => ∃ (x5 : Int) (g : G), w = g.w ∧ St 97 [(2, (k_api_Record.ptr a0)), (3, (k_api_Record.ptr a1)), (5, (pInt .i64 x5))] a g ∧ Base g0 g ∧ moietyref03_Same_l1 a0 a1 n x5 = some z18) (Int.toNat ((a0.List.length : Int) - (0 : Int)) + 1) ⟨(0 : Int), g, rfl, (hst.pick [0, 1, 2] rfl), hb, hz1⟩ (fun n a w hI => ?_)
        obtain ⟨x5, g, rfl, hst, hb, H1⟩ := hI
        cases n with
        | zero => exact absurd H1 (by simp [moietyref03_Same_l1])
        | succ n =>
          rw [moietyref03_Same_l1] at H1
          refine wp_seq ?_
          refine r_s (L := [(2, _), (3, _), (5, _)]) (T := [⟨[.old 2], _, [], [], [61]⟩, ⟨[.old 0], _, [], [], [62]⟩, ⟨[.op 1 0], _, [], [1], [63]⟩, ⟨[.op 2 0], _, [], [1, 2], [64]⟩, ⟨[.op 0 0, .op 3 0], _, [], List.range 4, [65]⟩]) (F := [.old 0, .old 1, .old 2, .op 4 0]) hst hb follows
            (o_p rfl (ob_move rfl rfl u_0) <|
             o_p rfl (ob_fieldAddr fl_25_7 rfl rfl u_0) <|
             o_p rfl (ob_load ty_23 rfl rfl u_0) <|
             o_p rfl (ob_lenL Tryd.underlying23 rfl rfl u_0) <|
             o_p rfl (ob_lt rfl rfl u_0 u_1) <|
             o_n) (by kernel_rfl) (fun a g hst hb => ?_)
          refine wp_cond_split (hst.bool 3 rfl) (fun hc6 => ?_) (fun hc6 => ?_)
          · replace H1 := ite_t hc6 H1
            refine wp_skip ?_
            refine then_n ?_
            refine wp_seq ?_
            refine wp_block ?_
            obtain ⟨e7, h8, H1⟩ := of_bind H1; obtain ⟨e9, h10, H1⟩ := of_bind H1; obtain ⟨e11, h12, H1⟩ := of_bind H1; obtain ⟨e13, h14, H1⟩ := of_bind H1; obtain ⟨r15, h16, H1⟩ := of_bind H1
            refine r_s (L := [(2, _), (3, _), (5, _)]) (T := ⟨[.old 0], _, [], [], [68]⟩ :: ⟨[.op 0 0], _, [], [0], [69]⟩ :: ⟨[.old 2], _, [], [], [70]⟩ :: ⟨[.op 1 0, .op 2 0], _, [], [0, 1, 2], [71]⟩ :: ⟨[.op 3 0], _, [], List.range 4, [72]⟩ :: ⟨[.op 4 0], _, [], List.range 5, [73]⟩ :: ⟨[.old 1], _, [], [], [74]⟩ :: ⟨[.op 6 0], _, [], [6], [75]⟩ :: ⟨[.old 2], _, [], [], [76]⟩ :: ⟨[.op 7 0, .op 8 0], _, [], [6, 7, 8], [77]⟩ :: ⟨[.op 9 0], _, [], List.range' 6 4, [78]⟩ :: ⟨[.op 10 0], _, [], List.range' 6 5, [79]⟩ :: ⟨[.op 5 0, .op 11 0], _, [], List.range 12, [80]⟩ :: ⟨[.op 12 0], _, [], List.range 13, [81]⟩ :: ⟨[.op 13 0, .old 0], _, [], List.range 14, [82]⟩ :: ⟨[.op 13 0, .op 14 0], _, [], List.range 15, [83]⟩ :: ⟨[.op 13 0, .old 2], _, [], List.range 14, [84]⟩ :: ⟨[.op 13 0, .op 15 0, .op 16 0], _, [], List.range 17, [85]⟩ :: ⟨[.op 13 0, .op 17 0], _, [], List.range 18, [86]⟩ :: ⟨[.op 13 0, .op 18 0], _, [], List.range 19, [87]⟩ :: ⟨[.op 13 0, .old 1], _, [], List.range 14, [88]⟩ :: ⟨[.op 13 0, .op 20 0], _, [], 0 :: 1 :: 2 :: 3 :: 4 :: 5 :: 6 :: 7 :: 8 :: 9 :: 10 :: 11 :: 12 :: 13 :: 20 :: [], [89]⟩ :: ⟨[.op 13 0, .old 2], _, [], List.range 14, [90]⟩ :: ⟨[.op 13 0, .op 21 0, .op 22 0], _, [], 0 :: 1 :: 2 :: 3 :: 4 :: 5 :: 6 :: 7 :: 8 :: 9 :: 10 :: 11 :: 12 :: 13 :: 20 :: 21 :: 22 :: [], [91]⟩ :: ⟨[.op 13 0, .op 23 0], _, [], 0 :: 1 :: 2 :: 3 :: 4 :: 5 :: 6 :: 7 :: 8 :: 9 :: 10 :: 11 :: 12 :: 13 :: 20 :: 21 :: 22 :: 23 :: [], [92]⟩ :: ⟨[.op 13 0, .op 24 0], _, [], 0 :: 1 :: 2 :: 3 :: 4 :: 5 :: 6 :: 7 :: 8 :: 9 :: 10 :: 11 :: 12 :: 13 :: 20 :: 21 :: 22 :: 23 :: 24 :: [], [93]⟩ :: ⟨[.op 13 0, .op 19 0, .op 25 0], _, [], List.range 26, [94]⟩ :: ⟨[.op 13 0, .op 26 0], _, [], List.range 27, [95]⟩ :: ⟨[.op 13 0, .op 27 0], _, [], List.range 28, [96]⟩ :: []) (F := [.old 0, .old 1, .old 2, .op 28 0]) (hst.pick [0, 1, 2] rfl) hb follows
              (o_p rfl (ob_fieldAddr fl_25_7 rfl rfl u_0) <|
               o_p rfl (ob_load ty_23 rfl rfl u_0) <|
               o_p rfl (ob_move rfl rfl u_0) <|
               o_p rfl (ob_indexAddr Tryd.underlying23 sz_48 rfl rfl u_0 u_1 h8) <|
               o_p rfl (ob_fieldAddr fl_48_1 rfl rfl u_0) <|
               o_p rfl (ob_load ty_9 rfl rfl u_0) <|
               o_p rfl (ob_fieldAddr fl_25_7 rfl rfl u_0) <|
               o_p rfl (ob_load ty_23 rfl rfl u_0) <|
               o_p rfl (ob_move rfl rfl u_0) <|
               o_p rfl (ob_indexAddr Tryd.underlying23 sz_48 rfl rfl u_0 u_1 h10) <|
               o_p rfl (ob_fieldAddr fl_48_1 rfl rfl u_0) <|
               o_p rfl (ob_load ty_9 rfl rfl u_0) <|
               o_p rfl (ob_sne rfl rfl u_0 u_1) <|
               o_p rfl (ob_move rfl rfl u_0) <|
               o_g (g_f rfl rfl rfl (fun hG => ob_fieldAddr fl_25_7 rfl rfl u_0)) <|
               o_g (g_f rfl rfl rfl (fun hG => ob_load ty_23 rfl rfl (Opd.gd hG u_0))) <|
               o_g (g_f rfl rfl rfl (fun hG => ob_move rfl rfl u_0)) <|
               o_g (g_f rfl rfl rfl (fun hG => ob_indexAddr Tryd.underlying23 sz_48 rfl rfl (Opd.gd hG u_0) (Opd.gd hG u_1) (gd_true h12 hG))) <|
               o_g (g_f rfl rfl rfl (fun hG => ob_fieldAddr fl_48_0 rfl rfl (Opd.gd hG u_0))) <|
               o_g (g_f rfl rfl rfl (fun hG => ob_load ty_22 rfl rfl (Opd.gd hG u_0))) <|
               o_g (g_f rfl rfl rfl (fun hG => ob_fieldAddr fl_25_7 rfl rfl u_0)) <|
               o_g (g_f rfl rfl rfl (fun hG => ob_load ty_23 rfl rfl (Opd.gd hG u_0))) <|
               o_g (g_f rfl rfl rfl (fun hG => ob_move rfl rfl u_0)) <|
               o_g (g_f rfl rfl rfl (fun hG => ob_indexAddr Tryd.underlying23 sz_48 rfl rfl (Opd.gd hG u_0) (Opd.gd hG u_1) (gd_true h14 hG))) <|
               o_g (g_f rfl rfl rfl (fun hG => ob_fieldAddr fl_48_0 rfl rfl (Opd.gd hG u_0))) <|
               o_g (g_f rfl rfl rfl (fun hG => ob_load ty_22 rfl rfl (Opd.gd hG u_0))) <|
               o_g (g_f rfl rfl rfl (fun hG => ob_call en_32 (moietyref01_Same_ok _ _ (gd_true h16 hG)) rfl rfl (.cons (Opd.gd hG u_0) (.cons (Opd.gd hG u_1) .nil)))) <|
               o_g (g_f rfl rfl rfl (fun hG => ob_not rfl rfl (Opd.gd hG u_0))) <|
               o_p rfl (ob_por rfl rfl u_0 (fun hz => (Opd.gd (bNF hz) u_1))) <|
               o_n) (by kernel_rfl) (fun a g hst hb => ?_)
            refine wp_cond_split (hst.bool 3 rfl) (fun hc17 => ?_) (fun hc17 => ?_)
            · replace H1 := ite_t hc17 H1
              refine r_s (L := []) (T := [⟨[], _, [], [], [4]⟩]) (F := [.op 0 0]) (hst.pick [] rfl) hb follows
                (o_p rfl (ob_assign rfl rfl c_b) <|
                 o_n) (by kernel_rfl) (fun a g hst hb => ?_)
              refine wp_ret ?_
              refine inBlock_r ?_
              refine then_r ?_
              refine then_r ?_
              refine inBlock_r ?_
              refine then_r ?_
              refine then_r ?_
              obtain rfl := Option.some.inj H1
              obtain rfl := Option.some.inj H0
              exact endR1 rfl hst hb (res_tmp (s := 4)) (hst.at 0 rfl)
            · replace H1 := ite_f hc17 H1
              refine wp_skip ?_
              refine inBlock_n ?_
              refine then_n ?_
              refine r_g (L := [(2, _), (3, _), (5, _)]) (T := [⟨[.old 2], _, [], [], [66]⟩, ⟨[.op 0 0], _, [], [0], [67]⟩, ⟨[.op 1 0], _, [], [0, 1], [5]⟩]) (F := [.old 0, .old 1, .op 2 0]) (hst.pick [0, 1, 2] rfl) hb follows
                (o_p rfl (ob_move rfl rfl u_0) <|
                 o_p rfl (ob_add rfl rfl u_0 c_i rfl) <|
                 o_p rfl (ob_assign rfl rfl u_0) <|
                 o_n) (by kernel_rfl) (fun a g hst hb => ?_)
              exact ⟨n, Nat.lt_succ_self _, (IntKind.i64.wrap (x5 + (1 : Int))), g, rfl, (hst.pick [0, 1, 2] rfl), hb, H1⟩
          · replace H1 := ite_f hc6 H1
            refine wp_exit ?_
            refine then_e ?_
            refine then_e ?_
            refine inBlock_e ?_
            exact ⟨g, rfl, (hst.pick [] rfl), hb, Option.some.inj H1⟩
end Go.CL

set_option linter.unusedVariables false
set_option linter.unusedSimpArgs false
set_option maxRecDepth 100000
namespace Go.CL
open Go Go.RowKit Go.Proofs
theorem moietyref04_On_ok (a0 : Int) {r : Int} (h : moietyref04_On a0 = some r) : FnOk Tryd.prog 30 [(pInt .i64 a0)] (pInt .i64 r) := by
  have H0 := h
  unfold moietyref04_On at H0
  clear h
  refine fn_ok (N := 15) Tryd.func30 rfl rfl (Nat.le_of_ble_eq_true rfl) rfl rfl (fun a g0 hst hb => ?_)
  refine r_s (L := [(0, _)]) (T := [⟨[], _, [], [], [2]⟩]) (F := [.old 0]) hst hb follows
    (o_p rfl (ob_assign rfl rfl c_i) <|
     o_n) (by kernel_rfl) (fun a g hst hb => ?_)
  refine r_s (L := [(0, _)]) (T := [⟨[], _, [], [], [4]⟩, ⟨[.op 0 0], _, [], [0], [3]⟩]) (F := [.old 0, .op 1 0]) hst hb follows
    (o_p rfl (ob_lit te_86 (xs := [.const (.int .i64 0), .const (.int .i64 0), .const (.int .i64 0), .const (.int .i64 0), .const (.int .i64 0), .const (.int .i64 1), .const (.int .i64 1), .const (.int .i64 2), .const (.int .i64 3), .const (.int .i64 3), .const (.int .i64 4), .const (.int .i64 4), .const (.int .i64 4), .const (.int .i64 5), .const (.int .i64 6), .const (.int .i64 7), .const (.int .i64 7), .const (.int .i64 7), .const (.int .i64 8), .const (.int .i64 8), .const (.int .i64 8), .const (.int .i64 9)]) (.cons c_i (.cons c_i (.cons c_i (.cons c_i (.cons c_i (.cons c_i (.cons c_i (.cons c_i (.cons c_i (.cons c_i (.cons c_i (.cons c_i (.cons c_i (.cons c_i (.cons c_i (.cons c_i (.cons c_i (.cons c_i (.cons c_i (.cons c_i (.cons c_i (.cons c_i .nil)))))))))))))))))))))) (by decide) rfl rfl) <|
     o_p rfl (ob_assign rfl rfl u_0) <|
     o_n) (by kernel_rfl) (fun a g hst hb => ?_)
  refine wp_seq ?_
  refine r_s (L := [(0, _), (3, _)]) (T := [⟨[.old 0], _, [], [], [5]⟩, ⟨[.op 0 0], _, [], [0], [6]⟩, ⟨[.op 1 0], _, [], [0, 1], [7]⟩, ⟨[.op 2 0, .old 0], _, [], [0, 1, 2], [8]⟩, ⟨[.op 2 0, .op 3 0], _, [], List.range 4, [9]⟩, ⟨[.op 2 0, .op 4 0], _, [], List.range 5, [10]⟩]) (F := [.old 0, .old 1, .op 5 0]) hst hb follows
    (o_p rfl (ob_move rfl rfl u_0) <|
     o_p rfl (ob_lt rfl rfl u_0 c_i) <|
     o_p rfl (ob_move rfl rfl u_0) <|
     o_g (g_f rfl rfl rfl (fun hG => ob_move rfl rfl u_0)) <|
     o_g (g_f rfl rfl rfl (fun hG => ob_gt rfl rfl (Opd.gd hG u_0) c_i)) <|
     o_p rfl (ob_por rfl rfl u_0 (fun hz => (Opd.gd (bNF hz) u_1))) <|
     o_n) (by kernel_rfl) (fun a g hst hb => ?_)
  refine wp_cond_split (hst.bool 2 rfl) (fun hc1 => ?_) (fun hc1 => ?_)
  · replace H0 := ite_t hc1 H0
    refine r_s (L := []) (T := [⟨[], _, [], [], [2]⟩]) (F := [.op 0 0]) (hst.pick [] rfl) hb follows
      (o_p rfl (ob_assign rfl rfl c_i) <|
       o_n) (by kernel_rfl) (fun a g hst hb => ?_)
    refine wp_ret ?_
    refine then_r ?_
    obtain rfl := Option.some.inj H0
    exact endR1 rfl hst hb (res_tmp (s := 2)) (hst.at 0 rfl)
  · replace H0 := ite_f hc1 H0
    refine wp_skip ?_
    refine then_n ?_
    obtain ⟨e2, h3, H0⟩ := of_bind H0
    refine r_s (L := [(0, _), (3, _)]) (T := [⟨[.old 1], _, [], [], [11]⟩, ⟨[.old 0], _, [], [], [12]⟩, ⟨[.op 0 0, .op 1 0], _, [], [0, 1], [13]⟩, ⟨[.op 2 0], _, [], [0, 1, 2], [14]⟩, ⟨[.op 3 0], _, [], List.range 4, [2]⟩]) (F := [.op 4 0]) (hst.pick [0, 1] rfl) hb follows
      (o_p rfl (ob_move rfl rfl u_0) <|
       o_p rfl (ob_move rfl rfl u_0) <|
       o_p rfl (ob_indexAddr Tryd.underlying86 sz_3 rfl rfl u_0 u_1 h3) <|
       o_p rfl (ob_load ty_3 rfl rfl u_0) <|
       o_p rfl (ob_assign rfl rfl u_0) <|
       o_n) (by kernel_rfl) (fun a g hst hb => ?_)
    refine wp_ret ?_
    obtain rfl := Option.some.inj H0
    exact endR1 rfl hst hb (res_tmp (s := 2)) (hst.at 0 rfl)
end Go.CL

set_option linter.unusedVariables false
set_option linter.unusedSimpArgs false
set_option maxRecDepth 100000
namespace Go.CL
open Go Go.RowKit Go.Proofs
theorem moietyref04_Fields_ok (a0 : Int) {r : ByteArray} (h : moietyref04_Fields a0 = some r) : FnOk Tryd.prog 81 [(pInt .i64 a0)] (pStr r) := by
  have H0 := h
  unfold moietyref04_Fields at H0
  clear h
  refine fn_ok (N := 15) Tryd.func81 rfl rfl (Nat.le_of_ble_eq_true rfl) rfl rfl (fun a g0 hst hb => ?_)
  refine r_s (L := [(0, _)]) (T := [⟨[], _, [], [], [2]⟩]) (F := [.old 0]) hst hb follows
    (o_p rfl (ob_assign rfl rfl c_s) <|
     o_n) (by kernel_rfl) (fun a g hst hb => ?_)
  refine r_s (L := [(0, _)]) (T := [⟨[], _, [], [], [4]⟩, ⟨[.op 0 0], _, [], [0], [3]⟩]) (F := [.old 0, .op 1 0]) hst hb follows
    (o_p rfl (ob_lit te_93 (xs := [.const (.string ⟨#[]⟩), .const (.string ⟨#[109]⟩), .const (.string ⟨#[]⟩), .const (.string ⟨#[]⟩), .const (.string ⟨#[]⟩), .const (.string ⟨#[115]⟩), .const (.string ⟨#[115]⟩), .const (.string ⟨#[110]⟩), .const (.string ⟨#[110]⟩), .const (.string ⟨#[110]⟩), .const (.string ⟨#[110]⟩), .const (.string ⟨#[110]⟩), .const (.string ⟨#[110]⟩), .const (.string ⟨#[120]⟩), .const (.string ⟨#[120]⟩), .const (.string ⟨#[120]⟩), .const (.string ⟨#[120]⟩), .const (.string ⟨#[120]⟩), .const (.string ⟨#[115]⟩), .const (.string ⟨#[115]⟩), .const (.string ⟨#[115]⟩), .const (.string ⟨#[120, 115]⟩)]) (.cons c_s (.cons c_s (.cons c_s (.cons c_s (.cons c_s (.cons c_s (.cons c_s (.cons c_s (.cons c_s (.cons c_s (.cons c_s (.cons c_s (.cons c_s (.cons c_s (.cons c_s (.cons c_s (.cons c_s (.cons c_s (.cons c_s (.cons c_s (.cons c_s (.cons c_s .nil)))))))))))))))))))))) (by decide) rfl rfl) <|
     o_p rfl (ob_assign rfl rfl u_0) <|
     o_n) (by kernel_rfl) (fun a g hst hb => ?_)
  refine wp_seq ?_
  refine r_s (L := [(0, _), (3, _)]) (T := [⟨[.old 0], _, [], [], [5]⟩, ⟨[.op 0 0], _, [], [0], [6]⟩, ⟨[.op 1 0], _, [], [0, 1], [7]⟩, ⟨[.op 2 0, .old 0], _, [], [0, 1, 2], [8]⟩, ⟨[.op 2 0, .op 3 0], _, [], List.range 4, [9]⟩, ⟨[.op 2 0, .op 4 0], _, [], List.range 5, [10]⟩]) (F := [.old 0, .old 1, .op 5 0]) hst hb follows
    (o_p rfl (ob_move rfl rfl u_0) <|
     o_p rfl (ob_lt rfl rfl u_0 c_i) <|
     o_p rfl (ob_move rfl rfl u_0) <|
     o_g (g_f rfl rfl rfl (fun hG => ob_move rfl rfl u_0)) <|
     o_g (g_f rfl rfl rfl (fun hG => ob_gt rfl rfl (Opd.gd hG u_0) c_i)) <|
     o_p rfl (ob_por rfl rfl u_0 (fun hz => (Opd.gd (bNF hz) u_1))) <|
     o_n) (by kernel_rfl) (fun a g hst hb => ?_)
  refine wp_cond_split (hst.bool 2 rfl) (fun hc1 => ?_) (fun hc1 => ?_)
  · replace H0 := ite_t hc1 H0
    refine r_s (L := []) (T := [⟨[], _, [], [], [2]⟩]) (F := [.op 0 0]) (hst.pick [] rfl) hb follows
      (o_p rfl (ob_assign rfl rfl c_s) <|
       o_n) (by kernel_rfl) (fun a g hst hb => ?_)
    refine wp_ret ?_
    refine then_r ?_
    obtain rfl := Option.some.inj H0
    exact endR1 rfl hst hb (res_tmp (s := 2)) (hst.at 0 rfl)
  · replace H0 := ite_f hc1 H0
    refine wp_skip ?_
    refine then_n ?_
    obtain ⟨e2, h3, H0⟩ := of_bind H0
    refine r_s (L := [(0, _), (3, _)]) (T := [⟨[.old 1], _, [], [], [11]⟩, ⟨[.old 0], _, [], [], [12]⟩, ⟨[.op 0 0, .op 1 0], _, [], [0, 1], [13]⟩, ⟨[.op 2 0], _, [], [0, 1, 2], [14]⟩, ⟨[.op 3 0], _, [], List.range 4, [2]⟩]) (F := [.op 4 0]) (hst.pick [0, 1] rfl) hb follows
      (o_p rfl (ob_move rfl rfl u_0) <|
       o_p rfl (ob_move rfl rfl u_0) <|
       o_p rfl (ob_indexAddr Tryd.underlying93 sz_9 rfl rfl u_0 u_1 h3) <|
       o_p rfl (ob_load ty_9 rfl rfl u_0) <|
       o_p rfl (ob_assign rfl rfl u_0) <|
       o_n) (by kernel_rfl) (fun a g hst hb => ?_)
    refine wp_ret ?_
    obtain rfl := Option.some.inj H0
    exact endR1 rfl hst hb (res_tmp (s := 2)) (hst.at 0 rfl)
end Go.CL

set_option linter.unusedVariables false
set_option linter.unusedSimpArgs false
set_option maxRecDepth 100000
namespace Go.CL
open Go Go.RowKit Go.Proofs
theorem moietyref04_Has_ok (a0 : Int) (a1 : Int) {r : Bool} (h : moietyref04_Has a0 a1 = some r) : FnOk Tryd.prog 40 [(pInt .i64 a0), (pInt .u8 a1)] (pBool r) := by
  have H0 := h
  unfold moietyref04_Has at H0
  clear h
  refine fn_ok (N := 20) Tryd.func40 rfl rfl (Nat.le_of_ble_eq_true rfl) rfl rfl (fun a g0 hst hb => ?_)
  refine r_s (L := [(0, _), (1, _)]) (T := [⟨[], _, [], [], [4]⟩]) (F := [.old 0, .old 1]) hst hb follows
    (o_p rfl (ob_assign rfl rfl c_b) <|
     o_n) (by kernel_rfl) (fun a g hst hb => ?_)
  obtain ⟨r1, h2, H0⟩ := of_bind H0
  refine r_s (L := [(0, _), (1, _)]) (T := [⟨[.old 0], _, [], [], [7]⟩, ⟨[.op 0 0], _, [], [0], [8]⟩, ⟨[.op 1 0], _, [], [0, 1], [5]⟩]) (F := [.old 1, .op 2 0]) hst hb follows
    (o_p rfl (ob_move rfl rfl u_0) <|
     o_p rfl (ob_call en_81 (moietyref04_Fields_ok _ h2) rfl rfl (.cons u_0 .nil)) <|
     o_p rfl (ob_assign rfl rfl u_0) <|
     o_n) (by kernel_rfl) (fun a g hst hb => ?_)
  refine wp_seq ?_
  refine r_s (L := [(1, _), (5, _)]) (T := [⟨[], _, [], [], [6]⟩]) (F := [.old 0, .old 1, .op 0 0]) hst hb follows
    (o_p rfl (ob_assign rfl rfl c_i) <|
     o_n) (by kernel_rfl) (fun a g hst hb => ?_)
  obtain ⟨z8, hz1, H0⟩ := of_bind H0
  refine wp_cut (fun a w => ∃ (g : G), w = g.w ∧ St 20 [] a g ∧ Base g0 g ∧ (.inr ()) = z8) ?_ ?_
  · rintro a w ⟨g, rfl, hst, hb, rfl⟩
    refine then_n ?_
    refine r_s (L := []) (T := [⟨[], _, [], [], [4]⟩]) (F := [.op 0 0]) hst hb follows
      (o_p rfl (ob_assign rfl rfl c_b) <|
       o_n) (by kernel_rfl) (fun a g hst hb => ?_)
    refine wp_ret ?_
    obtain rfl := Option.some.inj H0
    exact endR1 rfl hst hb (res_tmp (s := 4)) (hst.at 0 rfl)
  · refine wp_block ?_
    refine wp_loop_ghost (fun n a w => ∃ (x3 : Int) (g : G), w = g.w ∧ St 20 [(1, (pInt .u8 a1)), (5, (pStr r1)), (6, (pInt .i64 x3))] a g ∧ Base g0 g ∧ moietyref04_Has_l1 a1 r1 n x3 = some z8) (Int.toNat ((r1.size : Int) - (0 : Int)) + 1) ⟨(0 : Int), g, rfl, (hst.pick [0, 1, 2] rfl), hb, hz1⟩ (fun n a w hI => ?_)
    obtain ⟨x3, g, rfl, hst, hb, H1⟩ := hI
    cases n with
    | zero => exact absurd H1 (by simp [moietyref04_Has_l1])
    | succ n =>
      rw [moietyref04_Has_l1] at H1
      refine wp_seq ?_
      refine r_s (L := [(1, _), (5, _), (6, _)]) (T := [⟨[.old 2], _, [], [], [9]⟩, ⟨[.old 1], _, [], [], [10]⟩, ⟨[.op 1 0], _, [], [1], [11]⟩, ⟨[.op 0 0, .op 2 0], _, [], [0, 1, 2], [12]⟩]) (F := [.old 0, .old 1, .old 2, .op 3 0]) hst hb follows
        (o_p rfl (ob_move rfl rfl u_0) <|
         o_p rfl (ob_move rfl rfl u_0) <|
         o_p rfl (ob_lenS Tryd.underlying9 rfl rfl u_0) <|
         o_p rfl (ob_lt rfl rfl u_0 u_1) <|
         o_n) (by kernel_rfl) (fun a g hst hb => ?_)
      refine wp_cond_split (hst.bool 3 rfl) (fun hc4 => ?_) (fun hc4 => ?_)
      · replace H1 := ite_t hc4 H1
        refine wp_skip ?_
        refine then_n ?_
        refine wp_seq ?_
        refine wp_block ?_
        obtain ⟨b5, h6, H1⟩ := of_bind H1
        refine r_s (L := [(1, _), (5, _), (6, _)]) (T := [⟨[.old 1], _, [], [], [15]⟩, ⟨[.old 2], _, [], [], [16]⟩, ⟨[.op 0 0, .op 1 0], _, [], [0, 1], [17]⟩, ⟨[.old 0], _, [], [], [18]⟩, ⟨[.op 2 0, .op 3 0], _, [], List.range 4, [19]⟩]) (F := [.old 0, .old 1, .old 2, .op 4 0]) (hst.pick [0, 1, 2] rfl) hb follows
          (o_p rfl (ob_move rfl rfl u_0) <|
           o_p rfl (ob_move rfl rfl u_0) <|
           o_p rfl (ob_sidx Tryd.underlying9 rfl rfl u_0 u_1 h6) <|
           o_p rfl (ob_move rfl rfl u_0) <|
           o_p rfl (ob_eq rfl rfl u_0 u_1) <|
           o_n) (by kernel_rfl) (fun a g hst hb => ?_)
        refine wp_cond_split (hst.bool 3 rfl) (fun hc7 => ?_) (fun hc7 => ?_)
        · replace H1 := ite_t hc7 H1
          refine r_s (L := []) (T := [⟨[], _, [], [], [4]⟩]) (F := [.op 0 0]) (hst.pick [] rfl) hb follows
            (o_p rfl (ob_assign rfl rfl c_b) <|
             o_n) (by kernel_rfl) (fun a g hst hb => ?_)
          refine wp_ret ?_
          refine inBlock_r ?_
          refine then_r ?_
          refine then_r ?_
          refine inBlock_r ?_
          refine then_r ?_
          refine then_r ?_
          obtain rfl := Option.some.inj H1
          obtain rfl := Option.some.inj H0
          exact endR1 rfl hst hb (res_tmp (s := 4)) (hst.at 0 rfl)
        · replace H1 := ite_f hc7 H1
          refine wp_skip ?_
          refine inBlock_n ?_
          refine then_n ?_
          refine r_g (L := [(1, _), (5, _), (6, _)]) (T := [⟨[.old 2], _, [], [], [13]⟩, ⟨[.op 0 0], _, [], [0], [14]⟩, ⟨[.op 1 0], _, [], [0, 1], [6]⟩]) (F := [.old 0, .old 1, .op 2 0]) (hst.pick [0, 1, 2] rfl) hb follows
            (o_p rfl (ob_move rfl rfl u_0) <|
             o_p rfl (ob_add rfl rfl u_0 c_i rfl) <|
             o_p rfl (ob_assign rfl rfl u_0) <|
             o_n) (by kernel_rfl) (fun a g hst hb => ?_)
          exact ⟨n, Nat.lt_succ_self _, (IntKind.i64.wrap (x3 + (1 : Int))), g, rfl, (hst.pick [0, 1, 2] rfl), hb, H1⟩
      · replace H1 := ite_f hc4 H1
        refine wp_exit ?_
        refine then_e ?_
        refine then_e ?_
        refine inBlock_e ?_
        exact ⟨g, rfl, (hst.pick [] rfl), hb, Option.some.inj H1⟩
end Go.CL

set_option linter.unusedVariables false
set_option linter.unusedSimpArgs false
set_option maxRecDepth 100000
namespace Go.CL
open Go Go.RowKit Go.Proofs
theorem moietyref04_Check_ok (a0 : api_Act) {r : Int} (h : moietyref04_Check a0 = some r) : FnOk Tryd.prog 19 [(k_api_Act.pd a0)] (pInt .i64 r) := by
  have H0 := h
  unfold moietyref04_Check at H0
  clear h
  refine fn_ok (N := 113) Tryd.func19 rfl rfl (Nat.le_of_ble_eq_true rfl) rfl rfl (fun a g0 hst hb => ?_)
  refine r_s (L := [(0, _)]) (T := [⟨[.old 0], _, [], [], [1]⟩, ⟨[], _, [], [], [2]⟩]) (F := [.op 0 0]) hst hb follows
    (o_p rfl (ob_box1 rfl rfl u_0) <|
     o_p rfl (ob_assign rfl rfl c_i) <|
     o_n) (by kernel_rfl) (fun a g hst hb => ?_)
  refine wp_seq ?_
  refine r_s (L := [(1, _)]) (T := [⟨[.old 0], _, [], [], [3]⟩, ⟨[.op 0 0], _, [], [0], [4]⟩, ⟨[.op 1 0], _, [], [0, 1], [5]⟩, ⟨[.op 2 0], _, [], [0, 1, 2], [6]⟩, ⟨[.op 3 0, .old 0], _, [], List.range 4, [7]⟩, ⟨[.op 3 0, .op 4 0], _, [], List.range 5, [8]⟩, ⟨[.op 3 0, .op 5 0], _, [], List.range 6, [9]⟩, ⟨[.op 3 0, .op 6 0], _, [], List.range 7, [10]⟩]) (F := [.old 0, .op 7 0]) hst hb follows
    (o_p rfl (ob_fieldAddr fl_27_0 rfl rfl u_0) <|
     o_p rfl (ob_load ty_3 rfl rfl u_0) <|
     o_p rfl (ob_lt rfl rfl u_0 c_i) <|
     o_p rfl (ob_move rfl rfl u_0) <|
     o_g (g_f rfl rfl rfl (fun hG => ob_fieldAddr fl_27_0 rfl rfl u_0)) <|
     o_g (g_f rfl rfl rfl (fun hG => ob_load ty_3 rfl rfl (Opd.gd hG u_0))) <|
     o_g (g_f rfl rfl rfl (fun hG => ob_gt rfl rfl (Opd.gd hG u_0) c_i)) <|
     o_p rfl (ob_por rfl rfl u_0 (fun hz => (Opd.gd (bNF hz) u_1))) <|
     o_n) (by kernel_rfl) (fun a g hst hb => ?_)
  refine wp_cond_split (hst.bool 1 rfl) (fun hc1 => ?_) (fun hc1 => ?_)
  · replace H0 := ite_t hc1 H0
    refine r_s (L := []) (T := [⟨[], _, [], [], [2]⟩]) (F := [.op 0 0]) (hst.pick [] rfl) hb follows
      (o_p rfl (ob_assign rfl rfl c_i) <|
       o_n) (by kernel_rfl) (fun a g hst hb => ?_)
    refine wp_ret ?_
    refine then_r ?_
    obtain rfl := Option.some.inj H0
    exact endR1 rfl hst hb (res_tmp (s := 2)) (hst.at 0 rfl)
  · replace H0 := ite_f hc1 H0
    refine wp_skip ?_
    refine then_n ?_
    refine wp_seq ?_
    refine r_s (L := [(1, _)]) (T := [⟨[.old 0], _, [], [], [11]⟩, ⟨[.op 0 0], _, [], [0], [12]⟩, ⟨[.op 1 0], _, [], [0, 1], [13]⟩, ⟨[.op 2 0], _, [], [0, 1, 2], [14]⟩, ⟨[.op 3 0], _, [], List.range 4, [15]⟩, ⟨[.op 4 0, .old 0], _, [], List.range 5, [16]⟩, ⟨[.op 4 0, .op 5 0], _, [], List.range 6, [17]⟩, ⟨[.op 4 0, .op 6 0], _, [], List.range 7, [18]⟩, ⟨[.op 4 0, .op 7 0], _, [], List.range 8, [19]⟩, ⟨[.op 4 0, .op 8 0], _, [], List.range 9, [20]⟩]) (F := [.old 0, .op 9 0]) (hst.pick [0] rfl) hb follows
      (o_p rfl (ob_fieldAddr fl_27_1 rfl rfl u_0) <|
       o_p rfl (ob_load ty_9 rfl rfl u_0) <|
       o_p rfl (ob_lenS Tryd.underlying9 rfl rfl u_0) <|
       o_p rfl (ob_lt rfl rfl u_0 c_i) <|
       o_p rfl (ob_move rfl rfl u_0) <|
       o_g (g_f rfl rfl rfl (fun hG => ob_fieldAddr fl_27_1 rfl rfl u_0)) <|
       o_g (g_f rfl rfl rfl (fun hG => ob_load ty_9 rfl rfl (Opd.gd hG u_0))) <|
       o_g (g_f rfl rfl rfl (fun hG => ob_lenS Tryd.underlying9 rfl rfl (Opd.gd hG u_0))) <|
       o_g (g_f rfl rfl rfl (fun hG => ob_gt rfl rfl (Opd.gd hG u_0) c_i)) <|
       o_p rfl (ob_por rfl rfl u_0 (fun hz => (Opd.gd (bNF hz) u_1))) <|
       o_n) (by kernel_rfl) (fun a g hst hb => ?_)
    refine wp_cond_split (hst.bool 1 rfl) (fun hc2 => ?_) (fun hc2 => ?_)
    · replace H0 := ite_t hc2 H0
      refine r_s (L := []) (T := [⟨[], _, [], [], [2]⟩]) (F := [.op 0 0]) (hst.pick [] rfl) hb follows
        (o_p rfl (ob_assign rfl rfl c_i) <|
         o_n) (by kernel_rfl) (fun a g hst hb => ?_)
      refine wp_ret ?_
      refine then_r ?_
      obtain rfl := Option.some.inj H0
      exact endR1 rfl hst hb (res_tmp (s := 2)) (hst.at 0 rfl)
    · replace H0 := ite_f hc2 H0
      refine wp_skip ?_
      refine then_n ?_
      refine wp_seq ?_
      obtain ⟨r3, h4, H0⟩ := of_bind H0; obtain ⟨r5, h6, H0⟩ := of_bind H0; obtain ⟨r7, h8, H0⟩ := of_bind H0; obtain ⟨r9, h10, H0⟩ := of_bind H0
      refine r_s (L := [(1, _)]) (T := ⟨[.old 0], _, [], [], [21]⟩ :: ⟨[.op 0 0], _, [], [0], [22]⟩ :: ⟨[.op 1 0], _, [], [0, 1], [23]⟩ :: ⟨[.op 2 0], _, [], [0, 1, 2], [24]⟩ :: ⟨[.op 3 0], _, [], List.range 4, [25]⟩ :: ⟨[.op 4 0, .old 0], _, [], List.range 5, [26]⟩ :: ⟨[.op 4 0, .op 5 0], _, [], List.range 6, [27]⟩ :: ⟨[.op 4 0, .op 6 0], _, [], List.range 7, [28]⟩ :: ⟨[.op 4 0, .op 7 0], _, [], List.range 8, [29]⟩ :: ⟨[.op 8 0], _, [], List.range 9, [30]⟩ :: ⟨[.op 9 0, .old 0], _, [], List.range 10, [31]⟩ :: ⟨[.op 9 0, .op 10 0], _, [], List.range 11, [32]⟩ :: ⟨[.op 9 0, .op 11 0], _, [], List.range 12, [33]⟩ :: ⟨[.op 9 0, .op 12 0], _, [], List.range 13, [34]⟩ :: ⟨[.op 9 0, .op 13 0], _, [], List.range 14, [35]⟩ :: ⟨[.op 14 0, .old 0], _, [], List.range 15, [36]⟩ :: ⟨[.op 14 0, .op 15 0], _, [], List.range 16, [37]⟩ :: ⟨[.op 14 0, .op 16 0], _, [], List.range 17, [38]⟩ :: ⟨[.op 14 0, .op 17 0], _, [], List.range 18, [39]⟩ :: ⟨[.op 9 0, .op 14 0, .op 18 0], _, [], List.range 19, [40]⟩ :: ⟨[.op 9 0, .op 19 0], _, [], List.range 20, [41]⟩ :: ⟨[.op 20 0], _, [], List.range 21, [42]⟩ :: ⟨[.op 21 0, .old 0], _, [], List.range 22, [43]⟩ :: ⟨[.op 21 0, .op 22 0], _, [], List.range 23, [44]⟩ :: ⟨[.op 21 0, .op 23 0], _, [], List.range 24, [45]⟩ :: ⟨[.op 21 0, .op 24 0], _, [], List.range 25, [46]⟩ :: ⟨[.op 21 0, .op 25 0], _, [], List.range 26, [47]⟩ :: ⟨[.op 26 0, .old 0], _, [], List.range 27, [48]⟩ :: ⟨[.op 26 0, .op 27 0], _, [], List.range 28, [49]⟩ :: ⟨[.op 26 0, .op 28 0], _, [], List.range 29, [50]⟩ :: ⟨[.op 21 0, .op 26 0, .op 29 0], _, [], List.range 30, [51]⟩ :: ⟨[.op 21 0, .op 30 0], _, [], List.range 31, [52]⟩ :: []) (F := [.old 0, .op 31 0]) (hst.pick [0] rfl) hb follows
        (o_p rfl (ob_fieldAddr fl_27_0 rfl rfl u_0) <|
         o_p rfl (ob_load ty_3 rfl rfl u_0) <|
         o_p rfl (ob_call en_40 (moietyref04_Has_ok _ _ h4) rfl rfl (.cons u_0 (.cons c_i .nil))) <|
         o_p rfl (ob_not rfl rfl u_0) <|
         o_p rfl (ob_move rfl rfl u_0) <|
         o_g (g_t rfl rfl rfl (fun hG => ob_fieldAddr fl_27_2 rfl rfl u_0)) <|
         o_g (g_t rfl rfl rfl (fun hG => ob_load ty_2 rfl rfl (Opd.gd hG u_0))) <|
         o_g (g_t rfl rfl rfl (fun hG => ob_ne rfl rfl (Opd.gd hG u_0) c_i)) <|
         o_p rfl (ob_pand rfl rfl u_0 (fun hz => (Opd.gd hz u_1))) <|
         o_p rfl (ob_move rfl rfl u_0) <|
         o_g (g_f rfl rfl rfl (fun hG => ob_fieldAddr fl_27_0 rfl rfl u_0)) <|
         o_g (g_f rfl rfl rfl (fun hG => ob_load ty_3 rfl rfl (Opd.gd hG u_0))) <|
         o_g (g_f rfl rfl rfl (fun hG => ob_call en_40 (moietyref04_Has_ok _ _ (gd_true h6 hG)) rfl rfl (.cons (Opd.gd hG u_0) (.cons c_i .nil)))) <|
         o_g (g_f rfl rfl rfl (fun hG => ob_not rfl rfl (Opd.gd hG u_0))) <|
         o_g (g_f rfl rfl rfl (fun hG => ob_move rfl rfl (Opd.gd hG u_0))) <|
         o_g (g_ti rfl rfl rfl (fun hG => ob_fieldAddr fl_27_3 rfl rfl u_0)) <|
         o_g (g_ti rfl rfl rfl (fun hG => ob_load ty_22 rfl rfl (Opd.gd hG u_0))) <|
         o_g (g_ti rfl rfl rfl (fun hG => ob_call en_32 (moietyref01_Same_ok _ _ (gd_true h8 hG)) rfl rfl (.cons (Opd.gd hG u_0) (.cons c_f .nil)))) <|
         o_g (g_ti rfl rfl rfl (fun hG => ob_not rfl rfl (Opd.gd hG u_0))) <|
         o_g (g_f rfl rfl rfl (fun hG => ob_pand rfl rfl (Opd.gd hG u_0) (fun hz => (Opd.gd (bA hG hz) u_1)))) <|
         o_p rfl (ob_por rfl rfl u_0 (fun hz => (Opd.gd (bNF hz) u_1))) <|
         o_p rfl (ob_move rfl rfl u_0) <|
         o_g (g_f rfl rfl rfl (fun hG => ob_fieldAddr fl_27_0 rfl rfl u_0)) <|
         o_g (g_f rfl rfl rfl (fun hG => ob_load ty_3 rfl rfl (Opd.gd hG u_0))) <|
         o_g (g_f rfl rfl rfl (fun hG => ob_call en_40 (moietyref04_Has_ok _ _ (gd_true h10 hG)) rfl rfl (.cons (Opd.gd hG u_0) (.cons c_i .nil)))) <|
         o_g (g_f rfl rfl rfl (fun hG => ob_not rfl rfl (Opd.gd hG u_0))) <|
         o_g (g_f rfl rfl rfl (fun hG => ob_move rfl rfl (Opd.gd hG u_0))) <|
         o_g (g_ti rfl rfl rfl (fun hG => ob_fieldAddr fl_27_4 rfl rfl u_0)) <|
         o_g (g_ti rfl rfl rfl (fun hG => ob_load ty_9 rfl rfl (Opd.gd hG u_0))) <|
         o_g (g_ti rfl rfl rfl (fun hG => ob_sne rfl rfl (Opd.gd hG u_0) c_s)) <|
         o_g (g_f rfl rfl rfl (fun hG => ob_pand rfl rfl (Opd.gd hG u_0) (fun hz => (Opd.gd (bA hG hz) u_1)))) <|
         o_p rfl (ob_por rfl rfl u_0 (fun hz => (Opd.gd (bNF hz) u_1))) <|
         o_n) (by kernel_rfl) (fun a g hst hb => ?_)
      refine wp_cond_split (hst.bool 1 rfl) (fun hc11 => ?_) (fun hc11 => ?_)
      · replace H0 := ite_t hc11 H0
        refine r_s (L := []) (T := [⟨[], _, [], [], [2]⟩]) (F := [.op 0 0]) (hst.pick [] rfl) hb follows
          (o_p rfl (ob_assign rfl rfl c_i) <|
           o_n) (by kernel_rfl) (fun a g hst hb => ?_)
        refine wp_ret ?_
        refine then_r ?_
        obtain rfl := Option.some.inj H0
        exact endR1 rfl hst hb (res_tmp (s := 2)) (hst.at 0 rfl)
      · replace H0 := ite_f hc11 H0
        refine wp_skip ?_
        refine then_n ?_
        refine wp_seq ?_
        obtain ⟨r12, h13, H0⟩ := of_bind H0
        refine r_s (L := [(1, _)]) (T := [⟨[.old 0], _, [], [], [53]⟩, ⟨[.op 0 0], _, [], [0], [54]⟩, ⟨[.op 1 0], _, [], [0, 1], [55]⟩, ⟨[.op 2 0], _, [], [0, 1, 2], [56]⟩, ⟨[.op 3 0, .old 0], _, [], List.range 4, [57]⟩, ⟨[.op 3 0, .op 4 0], _, [], List.range 5, [58]⟩, ⟨[.op 3 0], _, [], List.range 4, [59]⟩, ⟨[.op 3 0, .op 5 0, .op 6 0], _, [], List.range 7, [60]⟩, ⟨[.op 3 0, .op 7 0], _, [], List.range 8, [61]⟩, ⟨[.op 3 0, .op 8 0], _, [], List.range 9, [62]⟩]) (F := [.old 0, .op 9 0]) (hst.pick [0] rfl) hb follows
          (o_p rfl (ob_fieldAddr fl_27_0 rfl rfl u_0) <|
           o_p rfl (ob_load ty_3 rfl rfl u_0) <|
           o_p rfl (ob_ne rfl rfl u_0 c_i) <|
           o_p rfl (ob_move rfl rfl u_0) <|
           o_g (g_t rfl rfl rfl (fun hG => ob_fieldAddr fl_27_5 rfl rfl u_0)) <|
           o_g (g_t rfl rfl rfl (fun hG => ob_load ty_25 rfl rfl (Opd.gd hG u_0))) <|
           o_g (g_t rfl rfl rfl (fun hG => bd_25_ rfl rfl )) <|
           o_g (g_t rfl rfl rfl (fun hG => ob_call en_13 (moietyref03_Same_ok _ _ (gd_true h13 hG)) rfl rfl (.cons (Opd.gd hG u_0) (.cons (Opd.gd hG u_1) .nil)))) <|
           o_g (g_t rfl rfl rfl (fun hG => ob_not rfl rfl (Opd.gd hG u_0))) <|
           o_p rfl (ob_pand rfl rfl u_0 (fun hz => (Opd.gd hz u_1))) <|
           o_n) (by kernel_rfl) (fun a g hst hb => ?_)
        refine wp_cond_split (hst.bool 1 rfl) (fun hc14 => ?_) (fun hc14 => ?_)
        · replace H0 := ite_t hc14 H0
          refine r_s (L := []) (T := [⟨[], _, [], [], [2]⟩]) (F := [.op 0 0]) (hst.pick [] rfl) hb follows
            (o_p rfl (ob_assign rfl rfl c_i) <|
             o_n) (by kernel_rfl) (fun a g hst hb => ?_)
          refine wp_ret ?_
          refine then_r ?_
          obtain rfl := Option.some.inj H0
          exact endR1 rfl hst hb (res_tmp (s := 2)) (hst.at 0 rfl)
        · replace H0 := ite_f hc14 H0
          refine wp_skip ?_
          refine then_n ?_
          refine wp_seq ?_
          obtain ⟨r15, h16, H0⟩ := of_bind H0; obtain ⟨r17, h18, H0⟩ := of_bind H0
          refine r_s (L := [(1, _)]) (T := ⟨[.old 0], _, [], [], [63]⟩ :: ⟨[.op 0 0], _, [], [0], [64]⟩ :: ⟨[.op 1 0], _, [], [0, 1], [65]⟩ :: ⟨[.op 2 0], _, [], [0, 1, 2], [66]⟩ :: ⟨[.op 3 0], _, [], List.range 4, [67]⟩ :: ⟨[.op 4 0, .old 0], _, [], List.range 5, [68]⟩ :: ⟨[.op 4 0, .op 5 0], _, [], List.range 6, [69]⟩ :: ⟨[.op 4 0, .op 6 0], _, [], List.range 7, [70]⟩ :: ⟨[.op 4 0, .op 7 0], _, [], List.range 8, [71]⟩ :: ⟨[.op 4 0, .op 8 0], _, [], List.range 9, [72]⟩ :: ⟨[.op 9 0], _, [], List.range 10, [73]⟩ :: ⟨[.op 10 0, .old 0], _, [], List.range 11, [74]⟩ :: ⟨[.op 10 0, .op 11 0], _, [], List.range 12, [75]⟩ :: ⟨[.op 10 0, .op 12 0], _, [], List.range 13, [76]⟩ :: ⟨[.op 10 0, .op 13 0], _, [], List.range 14, [77]⟩ :: ⟨[.op 10 0, .op 14 0], _, [], List.range 15, [78]⟩ :: ⟨[.op 15 0, .old 0], _, [], List.range 16, [79]⟩ :: ⟨[.op 15 0, .op 16 0], _, [], List.range 17, [80]⟩ :: ⟨[.op 15 0, .op 17 0], _, [], List.range 18, [81]⟩ :: ⟨[.op 15 0, .op 18 0], _, [], List.range 19, [82]⟩ :: ⟨[.op 10 0, .op 15 0, .op 19 0], _, [], List.range 20, [83]⟩ :: ⟨[.op 10 0, .op 20 0], _, [], List.range 21, [84]⟩ :: []) (F := [.old 0, .op 21 0]) (hst.pick [0] rfl) hb follows
            (o_p rfl (ob_fieldAddr fl_27_0 rfl rfl u_0) <|
             o_p rfl (ob_load ty_3 rfl rfl u_0) <|
             o_p rfl (ob_call en_30 (moietyref04_On_ok _ h16) rfl rfl (.cons u_0 .nil)) <|
             o_p rfl (ob_eq rfl rfl u_0 c_i) <|
             o_p rfl (ob_move rfl rfl u_0) <|
             o_g (g_t rfl rfl rfl (fun hG => ob_fieldAddr fl_27_4 rfl rfl u_0)) <|
             o_g (g_t rfl rfl rfl (fun hG => ob_load ty_9 rfl rfl (Opd.gd hG u_0))) <|
             o_g (g_t rfl rfl rfl (fun hG => ob_lenS Tryd.underlying9 rfl rfl (Opd.gd hG u_0))) <|
             o_g (g_t rfl rfl rfl (fun hG => ob_gt rfl rfl (Opd.gd hG u_0) c_i)) <|
             o_p rfl (ob_pand rfl rfl u_0 (fun hz => (Opd.gd hz u_1))) <|
             o_p rfl (ob_move rfl rfl u_0) <|
             o_g (g_f rfl rfl rfl (fun hG => ob_fieldAddr fl_27_0 rfl rfl u_0)) <|
             o_g (g_f rfl rfl rfl (fun hG => ob_load ty_3 rfl rfl (Opd.gd hG u_0))) <|
             o_g (g_f rfl rfl rfl (fun hG => ob_call en_30 (moietyref04_On_ok _ (gd_true h18 hG)) rfl rfl (.cons (Opd.gd hG u_0) .nil))) <|
             o_g (g_f rfl rfl rfl (fun hG => ob_ne rfl rfl (Opd.gd hG u_0) c_i)) <|
             o_g (g_f rfl rfl rfl (fun hG => ob_move rfl rfl (Opd.gd hG u_0))) <|
             o_g (g_ti rfl rfl rfl (fun hG => ob_fieldAddr fl_27_4 rfl rfl u_0)) <|
             o_g (g_ti rfl rfl rfl (fun hG => ob_load ty_9 rfl rfl (Opd.gd hG u_0))) <|
             o_g (g_ti rfl rfl rfl (fun hG => ob_lenS Tryd.underlying9 rfl rfl (Opd.gd hG u_0))) <|
             o_g (g_ti rfl rfl rfl (fun hG => ob_gt rfl rfl (Opd.gd hG u_0) c_i)) <|
             o_g (g_f rfl rfl rfl (fun hG => ob_pand rfl rfl (Opd.gd hG u_0) (fun hz => (Opd.gd (bA hG hz) u_1)))) <|
             o_p rfl (ob_por rfl rfl u_0 (fun hz => (Opd.gd (bNF hz) u_1))) <|
             o_n) (by kernel_rfl) (fun a g hst hb => ?_)
          refine wp_cond_split (hst.bool 1 rfl) (fun hc19 => ?_) (fun hc19 => ?_)
          · replace H0 := ite_t hc19 H0
            refine r_s (L := []) (T := [⟨[], _, [], [], [2]⟩]) (F := [.op 0 0]) (hst.pick [] rfl) hb follows
              (o_p rfl (ob_assign rfl rfl c_i) <|
               o_n) (by kernel_rfl) (fun a g hst hb => ?_)
            refine wp_ret ?_
            refine then_r ?_
            obtain rfl := Option.some.inj H0
            exact endR1 rfl hst hb (res_tmp (s := 2)) (hst.at 0 rfl)
          · replace H0 := ite_f hc19 H0
            refine wp_skip ?_
            refine then_n ?_
            refine wp_seq ?_
            refine r_s (L := [(1, _)]) (T := ⟨[.old 0], _, [], [], [85]⟩ :: ⟨[.op 0 0], _, [], [0], [86]⟩ :: ⟨[.op 1 0], _, [], [0, 1], [87]⟩ :: ⟨[.op 2 0], _, [], [0, 1, 2], [88]⟩ :: ⟨[.op 3 0, .old 0], _, [], List.range 4, [89]⟩ :: ⟨[.op 3 0, .op 4 0], _, [], List.range 5, [90]⟩ :: ⟨[.op 3 0, .op 5 0], _, [], List.range 6, [91]⟩ :: ⟨[.op 3 0, .op 6 0], _, [], List.range 7, [92]⟩ :: ⟨[.op 7 0], _, [], List.range 8, [93]⟩ :: ⟨[.op 8 0, .old 0], _, [], List.range 9, [94]⟩ :: ⟨[.op 8 0, .op 9 0], _, [], List.range 10, [95]⟩ :: ⟨[.op 8 0, .op 10 0], _, [], List.range 11, [96]⟩ :: ⟨[.op 8 0, .op 11 0], _, [], List.range 12, [97]⟩ :: ⟨[.op 12 0, .old 0], _, [], List.range 13, [98]⟩ :: ⟨[.op 12 0, .op 13 0], _, [], List.range 14, [99]⟩ :: ⟨[.op 12 0, .op 14 0], _, [], List.range 15, [100]⟩ :: ⟨[.op 8 0, .op 12 0, .op 15 0], _, [], List.range 16, [101]⟩ :: ⟨[.op 8 0, .op 16 0], _, [], List.range 17, [102]⟩ :: []) (F := [.old 0, .op 17 0]) (hst.pick [0] rfl) hb follows
              (o_p rfl (ob_fieldAddr fl_27_0 rfl rfl u_0) <|
               o_p rfl (ob_load ty_3 rfl rfl u_0) <|
               o_p rfl (ob_eq rfl rfl u_0 c_i) <|
               o_p rfl (ob_move rfl rfl u_0) <|
               o_g (g_f rfl rfl rfl (fun hG => ob_fieldAddr fl_27_0 rfl rfl u_0)) <|
               o_g (g_f rfl rfl rfl (fun hG => ob_load ty_3 rfl rfl (Opd.gd hG u_0))) <|
               o_g (g_f rfl rfl rfl (fun hG => ob_eq rfl rfl (Opd.gd hG u_0) c_i)) <|
               o_p rfl (ob_por rfl rfl u_0 (fun hz => (Opd.gd (bNF hz) u_1))) <|
               o_p rfl (ob_move rfl rfl u_0) <|
               o_g (g_t rfl rfl rfl (fun hG => ob_fieldAddr fl_27_2 rfl rfl u_0)) <|
               o_g (g_t rfl rfl rfl (fun hG => ob_load ty_2 rfl rfl (Opd.gd hG u_0))) <|
               o_g (g_t rfl rfl rfl (fun hG => ob_lt rfl rfl (Opd.gd hG u_0) c_i)) <|
               o_g (g_t rfl rfl rfl (fun hG => ob_move rfl rfl (Opd.gd hG u_0))) <|
               o_g (g_fi rfl rfl rfl (fun hG => ob_fieldAddr fl_27_2 rfl rfl u_0)) <|
               o_g (g_fi rfl rfl rfl (fun hG => ob_load ty_2 rfl rfl (Opd.gd hG u_0))) <|
               o_g (g_fi rfl rfl rfl (fun hG => ob_gt rfl rfl (Opd.gd hG u_0) c_i)) <|
               o_g (g_t rfl rfl rfl (fun hG => ob_por rfl rfl (Opd.gd hG u_0) (fun hz => (Opd.gd (bA hG (bNF hz)) u_1)))) <|
               o_p rfl (ob_pand rfl rfl u_0 (fun hz => (Opd.gd hz u_1))) <|
               o_n) (by kernel_rfl) (fun a g hst hb => ?_)
            refine wp_cond_split (hst.bool 1 rfl) (fun hc20 => ?_) (fun hc20 => ?_)
            · replace H0 := ite_t hc20 H0
              refine r_s (L := []) (T := [⟨[], _, [], [], [2]⟩]) (F := [.op 0 0]) (hst.pick [] rfl) hb follows
                (o_p rfl (ob_assign rfl rfl c_i) <|
                 o_n) (by kernel_rfl) (fun a g hst hb => ?_)
              refine wp_ret ?_
              refine then_r ?_
              obtain rfl := Option.some.inj H0
              exact endR1 rfl hst hb (res_tmp (s := 2)) (hst.at 0 rfl)
            · replace H0 := ite_f hc20 H0
              refine wp_skip ?_
              refine then_n ?_
              refine wp_seq ?_
              obtain ⟨r21, h22, H0⟩ := of_bind H0
              refine r_s (L := [(1, _)]) (T := [⟨[.old 0], _, [], [], [103]⟩, ⟨[.op 0 0], _, [], [0], [104]⟩, ⟨[.op 1 0], _, [], [0, 1], [105]⟩, ⟨[.op 2 0], _, [], [0, 1, 2], [106]⟩]) (F := [.old 0, .op 3 0]) (hst.pick [0] rfl) hb follows
                (o_p rfl (ob_fieldAddr fl_27_3 rfl rfl u_0) <|
                 o_p rfl (ob_load ty_22 rfl rfl u_0) <|
                 o_p rfl (ob_call en_38 (moietyref01_Proper_ok _ h22) rfl rfl (.cons u_0 .nil)) <|
                 o_p rfl (ob_not rfl rfl u_0) <|
                 o_n) (by kernel_rfl) (fun a g hst hb => ?_)
              refine wp_cond_split (hst.bool 1 rfl) (fun hc23 => ?_) (fun hc23 => ?_)
              · replace H0 := ite_t hc23 H0
                refine r_s (L := []) (T := [⟨[], _, [], [], [2]⟩]) (F := [.op 0 0]) (hst.pick [] rfl) hb follows
                  (o_p rfl (ob_assign rfl rfl c_i) <|
                   o_n) (by kernel_rfl) (fun a g hst hb => ?_)
                refine wp_ret ?_
                refine then_r ?_
                obtain rfl := Option.some.inj H0
                exact endR1 rfl hst hb (res_tmp (s := 2)) (hst.at 0 rfl)
              · replace H0 := ite_f hc23 H0
                refine wp_skip ?_
                refine then_n ?_
                refine wp_seq ?_
                refine r_s (L := [(1, _)]) (T := [⟨[.old 0], _, [], [], [107]⟩, ⟨[.op 0 0], _, [], [0], [108]⟩, ⟨[.op 1 0], _, [], [0, 1], [109]⟩]) (F := [.old 0, .op 2 0]) (hst.pick [0] rfl) hb follows
                  (o_p rfl (ob_fieldAddr fl_27_0 rfl rfl u_0) <|
                   o_p rfl (ob_load ty_3 rfl rfl u_0) <|
                   o_p rfl (ob_eq rfl rfl u_0 c_i) <|
                   o_n) (by kernel_rfl) (fun a g hst hb => ?_)
                refine wp_cond_split (hst.bool 1 rfl) (fun hc24 => ?_) (fun hc24 => ?_)
                · replace H0 := ite_t hc24 H0
                  obtain ⟨r25, h26, H0⟩ := of_bind H0
                  refine r_s (L := [(1, _)]) (T := [⟨[.old 0], _, [], [], [110]⟩, ⟨[.op 0 0], _, [], [0], [111]⟩, ⟨[.op 1 0], _, [], [0, 1], [112]⟩, ⟨[.op 2 0], _, [], [0, 1, 2], [2]⟩]) (F := [.op 3 0]) (hst.pick [0] rfl) hb follows
                    (o_p rfl (ob_fieldAddr fl_27_5 rfl rfl u_0) <|
                     o_p rfl (ob_load ty_25 rfl rfl u_0) <|
                     o_p rfl (ob_call en_18 (moietyref03_Check_ok _ h26) rfl rfl (.cons u_0 .nil)) <|
                     o_p rfl (ob_assign rfl rfl u_0) <|
                     o_n) (by kernel_rfl) (fun a g hst hb => ?_)
                  refine wp_ret ?_
                  refine then_r ?_
                  obtain rfl := Option.some.inj H0
                  exact endR1 rfl hst hb (res_tmp (s := 2)) (hst.at 0 rfl)
                · replace H0 := ite_f hc24 H0
                  refine wp_skip ?_
                  refine then_n ?_
                  refine r_s (L := []) (T := [⟨[], _, [], [], [2]⟩]) (F := [.op 0 0]) (hst.pick [] rfl) hb follows
                    (o_p rfl (ob_assign rfl rfl c_i) <|
                     o_n) (by kernel_rfl) (fun a g hst hb => ?_)
                  refine wp_ret ?_
                  obtain rfl := Option.some.inj H0
                  exact endR1 rfl hst hb (res_tmp (s := 2)) (hst.at 0 rfl)
end Go.CL

set_option linter.unusedVariables false
set_option linter.unusedSimpArgs false
set_option maxRecDepth 100000
namespace Go.CL
open Go Go.RowKit Go.Proofs
theorem moietylaw05_RuleBack_ok (a0 : api_Record) (a1 : api_Act) {r : Bool} (h : moietylaw05_RuleBack a0 a1 = some r) : FnOk Tryd.prog 6 [(k_api_Record.pd a0), (k_api_Act.pd a1)] (pBool r) := by
  have H0 := h
  unfold moietylaw05_RuleBack at H0
  clear h
  refine fn_ok (N := 85) Tryd.func6 rfl rfl (Nat.le_of_ble_eq_true rfl) rfl rfl (fun a g0 hst hb => ?_)
  refine r_s (L := [(0, _), (1, _)]) (T := [⟨[.old 0], _, [], [], [2]⟩, ⟨[.old 1], _, [], [], [3]⟩, ⟨[], _, [], [], [4]⟩]) (F := [.op 0 0, .op 1 0]) hst hb follows
    (o_p rfl (ob_box1 rfl rfl u_0) <|
     o_p rfl (ob_box1 rfl rfl u_0) <|
     o_p rfl (ob_assign rfl rfl c_b) <|
     o_n) (by kernel_rfl) (fun a g hst hb => ?_)
  refine wp_seq ?_
  obtain ⟨r1, h2, H0⟩ := of_bind H0
  refine r_s (L := [(2, _), (3, _)]) (T := [⟨[], _, [], [], [9]⟩, ⟨[.op 0 0], _, [], [0], [10]⟩]) (F := [.old 0, .old 1, .op 1 0]) hst hb follows
    (o_p rfl (ob_call en_9 (moietylaw05_speaks_ok h2) rfl rfl .nil) <|
     o_p rfl (ob_not rfl rfl u_0) <|
     o_n) (by kernel_rfl) (fun a g hst hb => ?_)
  refine wp_cond_split (hst.bool 2 rfl) (fun hc3 => ?_) (fun hc3 => ?_)
  · replace H0 := ite_t hc3 H0
    refine r_s (L := []) (T := [⟨[], _, [], [], [4]⟩]) (F := [.op 0 0]) (hst.pick [] rfl) hb follows
      (o_p rfl (ob_assign rfl rfl c_b) <|
       o_n) (by kernel_rfl) (fun a g hst hb => ?_)
    refine wp_ret ?_
    refine then_r ?_
    obtain rfl := Option.some.inj H0
    exact endR1 rfl hst hb (res_tmp (s := 4)) (hst.at 0 rfl)
  · replace H0 := ite_f hc3 H0
    refine wp_skip ?_
    refine then_n ?_
    refine wp_seq ?_
    obtain ⟨r4, h5, H0⟩ := of_bind H0; obtain ⟨r6, h7, H0⟩ := of_bind H0; obtain ⟨r8, h9, H0⟩ := of_bind H0
    refine r_s (L := [(2, _), (3, _)]) (T := ⟨[.old 0], _, [], [], [11]⟩ :: ⟨[.old 1], _, [], [], [12]⟩ :: ⟨[.op 1 0], _, [], [1], [13]⟩ :: ⟨[.op 0 0, .op 2 0], _, [], [0, 1, 2], [14]⟩ :: ⟨[.op 3 0], _, [], List.range 4, [15]⟩ :: ⟨[.op 4 0, .old 0], _, [], List.range 5, [16]⟩ :: ⟨[.op 4 0, .op 5 0], _, [], List.range 6, [17]⟩ :: ⟨[.op 4 0, .op 6 0], _, [], List.range 7, [18]⟩ :: ⟨[.op 4 0, .op 7 0], _, [], List.range 8, [19]⟩ :: ⟨[.op 8 0], _, [], List.range 9, [20]⟩ :: ⟨[.op 9 0, .old 1], _, [], List.range 10, [21]⟩ :: ⟨[.op 9 0, .op 10 0], _, [], List.range 11, [22]⟩ :: ⟨[.op 9 0, .op 11 0], _, [], List.range 12, [23]⟩ :: ⟨[.op 9 0, .op 12 0], _, [], List.range 13, [24]⟩ :: []) (F := [.old 0, .old 1, .op 13 0]) (hst.pick [0, 1] rfl) hb follows
      (o_p rfl (ob_load ty_25 rfl rfl u_0) <|
       o_p rfl (ob_load ty_27 rfl rfl u_0) <|
       o_p rfl (ob_lit te_38 (xs := [.tmp 12]) (.cons u_0 .nil) (by decide) rfl rfl) <|
       o_p rfl (ob_call en_10 (moietylaw05_big_ok _ _ h5) rfl rfl (.cons u_0 (.cons u_1 .nil))) <|
       o_p rfl (ob_move rfl rfl u_0) <|
       o_g (g_f rfl rfl rfl (fun hG => ob_load ty_25 rfl rfl u_0)) <|
       o_g (g_f rfl rfl rfl (fun hG => ob_call en_18 (moietyref03_Check_ok _ (gd_true h7 hG)) rfl rfl (.cons (Opd.gd hG u_0) .nil))) <|
       o_g (g_f rfl rfl rfl (fun hG => ob_ne rfl rfl (Opd.gd hG u_0) c_i)) <|
       o_p rfl (ob_por rfl rfl u_0 (fun hz => (Opd.gd (bNF hz) u_1))) <|
       o_p rfl (ob_move rfl rfl u_0) <|
       o_g (g_f rfl rfl rfl (fun hG => ob_load ty_27 rfl rfl u_0)) <|
       o_g (g_f rfl rfl rfl (fun hG => ob_call en_19 (moietyref04_Check_ok _ (gd_true h9 hG)) rfl rfl (.cons (Opd.gd hG u_0) .nil))) <|
       o_g (g_f rfl rfl rfl (fun hG => ob_ne rfl rfl (Opd.gd hG u_0) c_i)) <|
       o_p rfl (ob_por rfl rfl u_0 (fun hz => (Opd.gd (bNF hz) u_1))) <|
       o_n) (by kernel_rfl) (fun a g hst hb => ?_)
    refine wp_cond_split (hst.bool 2 rfl) (fun hc10 => ?_) (fun hc10 => ?_)
    · replace H0 := ite_t hc10 H0
      refine r_s (L := []) (T := [⟨[], _, [], [], [4]⟩]) (F := [.op 0 0]) (hst.pick [] rfl) hb follows
        (o_p rfl (ob_assign rfl rfl c_b) <|
         o_n) (by kernel_rfl) (fun a g hst hb => ?_)
      refine wp_ret ?_
      refine then_r ?_
      obtain rfl := Option.some.inj H0
      exact endR1 rfl hst hb (res_tmp (s := 4)) (hst.at 0 rfl)
    · replace H0 := ite_f hc10 H0
      refine wp_skip ?_
      refine then_n ?_
      refine r_s (L := [(2, _), (3, _)]) (T := [⟨[.old 1], _, [], [], [25]⟩, ⟨[], [(5, (pBox k_api_Act 5 (default : api_Act)))], [6], [], [5]⟩, ⟨[.op 0 0, .op 1 0], _, [6], [0, 1], [5]⟩]) (F := [.old 0, .old 1, .op 2 0]) (hst.pick [0, 1] rfl) hb follows
        (o_p rfl (ob_load ty_27 rfl rfl u_0) <|
         o_p rfl (ob_alloc (zs := [.int .i64 0, .string ByteArray.empty, .int .i64 0, .float .f64 0, .string ByteArray.empty, .int .i64 0, .int .i64 0, .int .i64 0, .int .i64 0, .float .f64 0, .int .i64 0, .string ByteArray.empty, .slice none 0 0, .bool false]) (by kernel_rfl) (fun g => zk_api_Act g) rfl rfl) <|
         o_p rfl (ob_store ty_27 rfl rfl u_1 u_0) <|
         o_n) (by kernel_rfl) (fun a g hst hb => ?_)
      refine wp_seq ?_
      refine wp_cut (fun a w => ∃ (j16 : api_Act) (g : G), w = g.w ∧ St 85 [(2, (k_api_Record.ptr a0)), (3, (k_api_Act.ptr a1)), (5, (pBox k_api_Act 5 j16))] a g ∧ Base g0 g ∧ moietylaw05_RuleBack_j1 a0 a1 j16 = some r) ?_ ?_
      · rintro a w ⟨j16, g, rfl, hst, hb, H0⟩
        unfold moietylaw05_RuleBack_j1 at H0
        refine then_n ?_
        obtain ⟨r17, h18, H0⟩ := of_bind H0
        refine r_s (L := [(2, _), (3, _), (5, _)]) (T := ⟨[.old 0], _, [], [], [53]⟩ :: ⟨[.old 1], _, [], [], [54]⟩ :: ⟨[.old 2], _, [], [], [55]⟩ :: ⟨[.op 1 0, .op 2 0], _, [], [1, 2], [56]⟩ :: ⟨[.op 0 0, .op 3 0], _, [], List.range 4, [57]⟩ :: ⟨[.op 4 0], _, [], List.range 5, [52]⟩ :: ⟨[.op 5 0], _, [], List.range 6, [58]⟩ :: ⟨[.op 5 0], _, [], List.range 6, [59]⟩ :: ⟨[.op 5 0], _, [], List.range 6, [60]⟩ :: ⟨[], [(6, (pBox k_api_Record 6 (default : api_Record)))], [7], [], [6]⟩ :: ⟨[.op 6 0, .op 9 0], _, [7], [0, 1, 2, 3, 4, 5, 6, 9], [6]⟩ :: ⟨[.op 7 0], _, [], [0, 1, 2, 3, 4, 5, 6, 7, 9, 10], [7]⟩ :: ⟨[.op 8 0], _, [], List.range 12, [8]⟩ :: []) (F := [.old 0, .op 10 0, .op 11 0, .op 12 0]) hst hb follows
          (o_p rfl (ob_load ty_25 rfl rfl u_0) <|
           o_p rfl (ob_load ty_27 rfl rfl u_0) <|
           o_p rfl (ob_loadM ty_27 rfl rfl u_0) <|
           o_p rfl (ob_lit te_38 (xs := [.tmp 54, .tmp 55]) (.cons u_0 (.cons u_1 .nil)) (by decide) rfl rfl) <|
           o_p rfl (ob_call en_16 (rule_Row_ok _ _ _ h18) rfl rfl (.cons u_0 (.cons c_b (.cons u_1 .nil)))) <|
           o_p rfl (ob_move rfl rfl u_0) <|
           o_p rfl (ob_extract rfl rfl u_0 rfl) <|
           o_p rfl (ob_extract rfl rfl u_0 rfl) <|
           o_p rfl (ob_extract rfl rfl u_0 rfl) <|
           o_p rfl (ob_alloc (zs := [.int .i64 0, .int .i64 0, .int .i64 0, .int .i64 0, .float .f64 0, .int .i64 0, .string ByteArray.empty, .slice none 0 0]) (by kernel_rfl) (fun g => zk_api_Record g) rfl rfl) <|
           o_p rfl (ob_storeF ty_25 rfl rfl u_1 u_0) <|
           o_p rfl (ob_assign rfl rfl u_0) <|
           o_p rfl (ob_assign rfl rfl u_0) <|
           o_n) (by kernel_rfl) (fun a g hst hb => ?_)
        refine wp_seq ?_
        refine r_s (L := [(2, _), (6, _), (7, _), (8, _)]) (T := [⟨[.old 3], _, [], [], [61]⟩, ⟨[.op 0 0], _, [], [0], [62]⟩, ⟨[.op 1 0], _, [], [0, 1], [63]⟩, ⟨[.op 2 0], _, [], [0, 1, 2], [64]⟩, ⟨[.op 3 0, .old 2], _, [], List.range 4, [65]⟩, ⟨[.op 3 0, .op 4 0], _, [], List.range 5, [66]⟩, ⟨[.op 3 0, .op 5 0], _, [], List.range 6, [67]⟩]) (F := [.old 0, .old 1, .old 3, .op 6 0]) hst hb follows
          (o_p rfl (ob_move rfl rfl u_0) <|
           o_p rfl (ob_lenL Tryd.underlying39 rfl rfl u_0) <|
           o_p rfl (ob_ne rfl rfl u_0 c_i) <|
           o_p rfl (ob_move rfl rfl u_0) <|
           o_g (g_f rfl rfl rfl (fun hG => ob_move rfl rfl u_0)) <|
           o_g (g_f rfl rfl rfl (fun hG => ob_not rfl rfl (Opd.gd hG u_0))) <|
           o_p rfl (ob_por rfl rfl u_0 (fun hz => (Opd.gd (bNF hz) u_1))) <|
           o_n) (by kernel_rfl) (fun a g hst hb => ?_)
        refine wp_cond_split (hst.bool 3 rfl) (fun hc19 => ?_) (fun hc19 => ?_)
        · replace H0 := ite_t hc19 H0
          refine r_s (L := []) (T := [⟨[], _, [], [], [4]⟩]) (F := [.op 0 0]) (hst.pick [] rfl) hb follows
            (o_p rfl (ob_assign rfl rfl c_b) <|
             o_n) (by kernel_rfl) (fun a g hst hb => ?_)
          refine wp_ret ?_
          refine then_r ?_
          obtain rfl := Option.some.inj H0
          exact endR1 rfl hst hb (res_tmp (s := 4)) (hst.at 0 rfl)
        · replace H0 := ite_f hc19 H0
          refine wp_skip ?_
          refine then_n ?_
          obtain ⟨e20, h21, H0⟩ := of_bind H0; obtain ⟨e22, h23, H0⟩ := of_bind H0; obtain ⟨r24, h25, H0⟩ := of_bind H0
          refine r_s (L := [(2, _), (6, _), (8, _)]) (T := ⟨[.old 2], _, [], [], [68]⟩ :: ⟨[.op 0 0], _, [], [0], [69]⟩ :: ⟨[.op 1 0], _, [], [0, 1], [70]⟩ :: ⟨[.op 2 0], _, [], [0, 1, 2], [71]⟩ :: ⟨[.op 3 0], _, [], List.range 4, [72]⟩ :: ⟨[.op 4 0], _, [], List.range 5, [73]⟩ :: ⟨[.op 5 0, .old 2], _, [], List.range 6, [74]⟩ :: ⟨[.op 5 0, .op 6 0], _, [], List.range 7, [75]⟩ :: ⟨[.op 5 0, .op 7 0], _, [], List.range 8, [76]⟩ :: ⟨[.op 5 0, .op 8 0], _, [], List.range 9, [77]⟩ :: ⟨[.op 5 0, .op 9 0], _, [], List.range 10, [78]⟩ :: ⟨[.op 5 0, .op 10 0], _, [], List.range 11, [79]⟩ :: ⟨[.op 11 0, .old 1], _, [], List.range 12, [80]⟩ :: ⟨[.op 11 0, .old 0], _, [], List.range 12, [81]⟩ :: ⟨[.op 11 0, .op 12 0, .op 13 0], _, [], List.range 14, [82]⟩ :: ⟨[.op 5 0, .op 11 0, .op 14 0], _, [], List.range 15, [83]⟩ :: ⟨[.op 5 0, .op 15 0], _, [], List.range 16, [84]⟩ :: ⟨[.op 16 0], _, [], List.range 17, [4]⟩ :: []) (F := [.op 17 0]) (hst.pick [0, 1, 2] rfl) hb follows
            (o_p rfl (ob_move rfl rfl u_0) <|
             o_p rfl (ob_indexAddr Tryd.underlying39 sz_32 rfl rfl u_0 c_i h21) <|
             o_p rfl (ob_fieldAddr fl_32_0 rfl rfl u_0) <|
             o_p rfl (ob_load ty_30 rfl rfl u_0) <|
             o_p rfl (ob_ne rfl rfl u_0 c_i) <|
             o_p rfl (ob_move rfl rfl u_0) <|
             o_g (g_f rfl rfl rfl (fun hG => ob_move rfl rfl u_0)) <|
             o_g (g_f rfl rfl rfl (fun hG => ob_indexAddr Tryd.underlying39 sz_32 rfl rfl (Opd.gd hG u_0) c_i (gd_true h23 hG))) <|
             o_g (g_f rfl rfl rfl (fun hG => ob_fieldAddr fl_32_0 rfl rfl (Opd.gd hG u_0))) <|
             o_g (g_f rfl rfl rfl (fun hG => ob_load ty_30 rfl rfl (Opd.gd hG u_0))) <|
             o_g (g_f rfl rfl rfl (fun hG => ob_eq rfl rfl (Opd.gd hG u_0) c_i)) <|
             o_g (g_f rfl rfl rfl (fun hG => ob_move rfl rfl (Opd.gd hG u_0))) <|
             o_g (g_ti rfl rfl rfl (fun hG => ob_load ty_25 rfl rfl u_0)) <|
             o_g (g_ti rfl rfl rfl (fun hG => ob_load ty_25 rfl rfl u_0)) <|
             o_g (g_ti rfl rfl rfl (fun hG => ob_call en_17 (rec_Same_ok _ _ (gd_true h25 hG)) rfl rfl (.cons (Opd.gd hG u_0) (.cons (Opd.gd hG u_1) .nil)))) <|
             o_g (g_f rfl rfl rfl (fun hG => ob_pand rfl rfl (Opd.gd hG u_0) (fun hz => (Opd.gd (bA hG hz) u_1)))) <|
             o_p rfl (ob_por rfl rfl u_0 (fun hz => (Opd.gd (bNF hz) u_1))) <|
             o_p rfl (ob_assign rfl rfl u_0) <|
             o_n) (by kernel_rfl) (fun a g hst hb => ?_)
          refine wp_ret ?_
          obtain rfl := Option.some.inj H0
          exact endR1 rfl hst hb (res_tmp (s := 4)) (hst.at 0 rfl)
      · refine wp_block ?_
        refine wp_seq ?_
        refine r_s (L := [(2, _), (3, _), (5, _)]) (T := [⟨[.old 1], _, [], [], [27]⟩, ⟨[.op 0 0], _, [], [0], [28]⟩, ⟨[.op 1 0], _, [], [0, 1], [29]⟩, ⟨[.op 2 0], _, [], [0, 1, 2], [26]⟩]) (F := [.old 0, .old 1, .old 2, .op 3 0]) hst hb follows
          (o_p rfl (ob_fieldAddr fl_27_0 rfl rfl u_0) <|
           o_p rfl (ob_load ty_3 rfl rfl u_0) <|
           o_p rfl (ob_eq rfl rfl u_0 c_i) <|
           o_p rfl (ob_assign rfl rfl u_0) <|
           o_n) (by kernel_rfl) (fun a g hst hb => ?_)
        refine wp_cut (fun a w => ∃ (j12 : Bool) (g : G), w = g.w ∧ St 85 [(2, (k_api_Record.ptr a0)), (3, (k_api_Act.ptr a1)), (5, (pBox k_api_Act 5 a1)), (26, (pBool j12))] a g ∧ Base g0 g ∧ moietylaw05_RuleBack_j2 a0 a1 j12 = some r) ?_ ?_
        · rintro a w ⟨j12, g, rfl, hst, hb, H0⟩
          unfold moietylaw05_RuleBack_j2 at H0
          refine then_n ?_
          refine wp_cond_split (hst.bool 3 rfl) (fun hc13 => ?_) (fun hc13 => ?_)
          · replace H0 := ite_t hc13 H0
            refine r_g (L := [(2, _), (3, _), (5, _)]) (T := [⟨[.old 1], _, [], [], [38]⟩, ⟨[.op 0 0], _, [], [0], [39]⟩, ⟨[.op 1 0], _, [], [0, 1], [40]⟩, ⟨[.old 2], _, [], [0, 1, 2], [41]⟩, ⟨[.op 2 0, .op 3 0, .old 2], _, [6], List.range 4, [5, 41]⟩]) (F := [.old 0, .old 1, .op 4 0]) (hst.pick [0, 1, 2] rfl) hb follows
              (o_p rfl (ob_fieldAddr fl_27_2 rfl rfl u_0) <|
               o_p rfl (ob_load ty_2 rfl rfl u_0) <|
               o_p rfl (ob_neg rfl rfl u_0 rfl) <|
               o_p rfl (ob_fieldAddrM fl_27_2 (off := 2) (by kernel_rfl) rfl rfl u_0) <|
               o_p rfl (wi_27_2 ty_2 rfl rfl u_2 u_1 u_0) <|
               o_n) (by kernel_rfl) (fun a g hst hb => ?_)
            refine inBlock_n ?_
            exact ⟨({ a1 with N := (IntKind.i64.wrap (0 - a1.N)) }), g, rfl, (hst.pick [0, 1, 2] rfl), hb, H0⟩
          · replace H0 := ite_f hc13 H0
            refine r_s (L := [(2, _), (3, _), (5, _)]) (T := [⟨[.old 1], _, [], [], [43]⟩, ⟨[.op 0 0], _, [], [0], [44]⟩, ⟨[.op 1 0], _, [], [0, 1], [45]⟩, ⟨[.op 2 0], _, [], [0, 1, 2], [42]⟩]) (F := [.old 0, .old 1, .old 2, .op 3 0]) (hst.pick [0, 1, 2] rfl) hb follows
              (o_p rfl (ob_fieldAddr fl_27_0 rfl rfl u_0) <|
               o_p rfl (ob_load ty_3 rfl rfl u_0) <|
               o_p rfl (ob_eq rfl rfl u_0 c_i) <|
               o_p rfl (ob_assign rfl rfl u_0) <|
               o_n) (by kernel_rfl) (fun a g hst hb => ?_)
            refine wp_cond_split (hst.bool 3 rfl) (fun hc14 => ?_) (fun hc14 => ?_)
            · replace H0 := ite_t hc14 H0
              refine r_g (L := [(2, _), (3, _), (5, _)]) (T := [⟨[.old 2], _, [], [], [46]⟩, ⟨[.op 0 0, .old 2], _, [6], [0], [5, 46]⟩]) (F := [.old 0, .old 1, .op 1 0]) (hst.pick [0, 1, 2] rfl) hb follows
                (o_p rfl (ob_fieldAddrM fl_27_0 (off := 0) (by kernel_rfl) rfl rfl u_0) <|
                 o_p rfl (wi_27_0 ty_3 rfl rfl u_1 u_0 c_i) <|
                 o_n) (by kernel_rfl) (fun a g hst hb => ?_)
              refine inBlock_n ?_
              exact ⟨({ a1 with Kind := (11 : Int) }), g, rfl, (hst.pick [0, 1, 2] rfl), hb, H0⟩
            · replace H0 := ite_f hc14 H0
              refine r_s (L := [(2, _), (3, _), (5, _)]) (T := [⟨[.old 1], _, [], [], [48]⟩, ⟨[.op 0 0], _, [], [0], [49]⟩, ⟨[.op 1 0], _, [], [0, 1], [50]⟩, ⟨[.op 2 0], _, [], [0, 1, 2], [47]⟩]) (F := [.old 0, .old 1, .old 2, .op 3 0]) (hst.pick [0, 1, 2] rfl) hb follows
                (o_p rfl (ob_fieldAddr fl_27_0 rfl rfl u_0) <|
                 o_p rfl (ob_load ty_3 rfl rfl u_0) <|
                 o_p rfl (ob_eq rfl rfl u_0 c_i) <|
                 o_p rfl (ob_assign rfl rfl u_0) <|
                 o_n) (by kernel_rfl) (fun a g hst hb => ?_)
              refine wp_cond_split (hst.bool 3 rfl) (fun hc15 => ?_) (fun hc15 => ?_)
              · replace H0 := ite_t hc15 H0
                refine r_g (L := [(2, _), (3, _), (5, _)]) (T := [⟨[.old 2], _, [], [], [51]⟩, ⟨[.op 0 0, .old 2], _, [6], [0], [5, 51]⟩]) (F := [.old 0, .old 1, .op 1 0]) (hst.pick [0, 1, 2] rfl) hb follows
                  (o_p rfl (ob_fieldAddrM fl_27_0 (off := 0) (by kernel_rfl) rfl rfl u_0) <|
                   o_p rfl (wi_27_0 ty_3 rfl rfl u_1 u_0 c_i) <|
                   o_n) (by kernel_rfl) (fun a g hst hb => ?_)
                refine inBlock_n ?_
                exact ⟨({ a1 with Kind := (10 : Int) }), g, rfl, (hst.pick [0, 1, 2] rfl), hb, H0⟩
              · replace H0 := ite_f hc15 H0
                refine r_s (L := []) (T := [⟨[], _, [], [], [4]⟩]) (F := [.op 0 0]) (hst.pick [] rfl) hb follows
                  (o_p rfl (ob_assign rfl rfl c_b) <|
                   o_n) (by kernel_rfl) (fun a g hst hb => ?_)
                refine wp_ret ?_
                refine inBlock_r ?_
                refine then_r ?_
                refine then_r ?_
                obtain rfl := Option.some.inj H0
                exact endR1 rfl hst hb (res_tmp (s := 4)) (hst.at 0 rfl)
        · refine wp_cond_split (hst.bool 3 rfl) (fun hc11 => ?_) (fun hc11 => ?_)
          · replace H0 := ite_t hc11 H0
            refine wp_skip ?_
            exact ⟨(a1.Kind == (7 : Int)), g, rfl, (hst.pick [0, 1, 2, 3] rfl), hb, H0⟩
          · replace H0 := ite_f hc11 H0
            refine r_g (L := [(2, _), (3, _), (5, _)]) (T := [⟨[.old 1], _, [], [], [30]⟩, ⟨[.op 0 0], _, [], [0], [31]⟩, ⟨[.op 1 0], _, [], [0, 1], [32]⟩, ⟨[.op 2 0], _, [], [0, 1, 2], [33]⟩, ⟨[.op 3 0, .old 1], _, [], List.range 4, [34]⟩, ⟨[.op 3 0, .op 4 0], _, [], List.range 5, [35]⟩, ⟨[.op 3 0, .op 5 0], _, [], List.range 6, [36]⟩, ⟨[.op 3 0, .op 6 0], _, [], List.range 7, [37]⟩, ⟨[.op 7 0], _, [], List.range 8, [26]⟩]) (F := [.old 0, .old 1, .old 2, .op 8 0]) (hst.pick [0, 1, 2] rfl) hb follows
              (o_p rfl (ob_fieldAddr fl_27_0 rfl rfl u_0) <|
               o_p rfl (ob_load ty_3 rfl rfl u_0) <|
               o_p rfl (ob_eq rfl rfl u_0 c_i) <|
               o_p rfl (ob_move rfl rfl u_0) <|
               o_g (g_t rfl rfl rfl (fun hG => ob_fieldAddr fl_27_2 rfl rfl u_0)) <|
               o_g (g_t rfl rfl rfl (fun hG => ob_load ty_2 rfl rfl (Opd.gd hG u_0))) <|
               o_g (g_t rfl rfl rfl (fun hG => ob_gt rfl rfl (Opd.gd hG u_0) c_i)) <|
               o_p rfl (ob_pand rfl rfl u_0 (fun hz => (Opd.gd hz u_1))) <|
               o_p rfl (ob_assign rfl rfl u_0) <|
               o_n) (by kernel_rfl) (fun a g hst hb => ?_)
            exact ⟨((a1.Kind == (8 : Int)) && (decide ((-9223372036854775808 : Int) < a1.N))), g, rfl, (hst.pick [0, 1, 2, 3] rfl), hb, H0⟩
end Go.CL

/- flo (the program's) and moietyref01 (the document's): floats in one order. -/
set_option linter.unusedVariables false
set_option linter.unusedSimpArgs false
namespace Go.CL
open Go

def NANB : Nat := 9221120237041090561
/-- A number's place in the order. -/
def keyf (b : Nat) : Int := if isn b then 18444492273895866369 else if TOP ≤ b then 18446744073709551615 - b else b + 9223372036854775808
def canon (b : Nat) : Nat := if isn b then NANB else b
theorem fneq_self {b : Nat} (hb : b < 18446744073709551616) : fneq b b = decide (isn b) := by
  unfold fneq
  show (Ieee.double.order b b != some .eq) = _
  by_cases h : isn b
  · rw [order_nan (.inl h)]; simp [h]
  · obtain ⟨o, ho, _, he⟩ := order_spec hb hb h h
    rw [ho, he.2 rfl]; simp [h]
theorem canon_eq {b : Nat} (hb : b < 18446744073709551616) : flo_Canon b = some (canon b) := by
  unfold flo_Canon canon
  rw [fneq_self hb]
  by_cases h : isn b
  · simp [h, math_NaN, NANB]
  · simp [h]
theorem and_top {b : Nat} (hb : b < 18446744073709551616) : (bAnd .u64 (b : Int) 9223372036854775808 != 0) = decide (TOP ≤ b) := by
  have h1 : (BitVec.ofInt 64 (b : Int) &&& BitVec.ofInt 64 9223372036854775808).toNat = b &&& 9223372036854775808 := by
    rw [BitVec.toNat_and]
    have e1 : (BitVec.ofInt 64 (b : Int)).toNat = b := by
      rw [show BitVec.ofInt 64 (b : Int) = BitVec.ofNat 64 b from rfl]
      simp; omega
    rw [e1]; rfl
  have h2 : b &&& 9223372036854775808 = (b.testBit 63).toNat * 9223372036854775808 := by
    apply Nat.eq_of_testBit_eq
    intro i
    rw [Nat.testBit_and, show (9223372036854775808 : Nat) = 2 ^ 63 from rfl, Nat.testBit_two_pow]
    by_cases hi : 63 = i
    · subst hi
      cases b.testBit 63
      · simp
      · rw [Bool.toNat_true, Nat.one_mul, Nat.testBit_two_pow]; simp
    · cases b.testBit 63
      · simp [hi]
      · rw [Bool.toNat_true, Nat.one_mul, Nat.testBit_two_pow]; simp [hi]
  have h3 : b.testBit 63 = decide (TOP ≤ b) := by
    rw [Nat.testBit_eq_decide_div_mod_eq]
    unfold TOP
    by_cases h : 9223372036854775808 ≤ b
    · have : b / 2 ^ 63 % 2 = 1 := by omega
      simp [this, h]
    · have : b / 2 ^ 63 % 2 = 0 := by omega
      simp [this, h]
  unfold bAnd
  show (IntKind.wrap .u64 ((BitVec.ofInt 64 (b : Int) &&& BitVec.ofInt 64 9223372036854775808).toNat : Int) != 0) = _
  rw [h1, h2, h3]
  by_cases h : TOP ≤ b
  · simp only [h, decide_true, Bool.toNat_true, Nat.one_mul]
    rfl
  · simp only [h, decide_false, Bool.toNat_false, Nat.zero_mul]
    rfl
theorem xor_top {b : Nat} (hb : b < 18446744073709551616) : bXor .u64 IntKind.u64.max (b : Int) = 18446744073709551615 - b := by
  have h1 : (BitVec.ofInt 64 18446744073709551615 ^^^ BitVec.ofInt 64 (b : Int)).toNat = 18446744073709551615 - b := by
    have e1 : BitVec.ofInt 64 18446744073709551615 = BitVec.allOnes 64 := by decide
    rw [e1, BitVec.allOnes_xor, BitVec.toNat_not]
    have e2 : (BitVec.ofInt 64 (b : Int)).toNat = b := by
      rw [show BitVec.ofInt 64 (b : Int) = BitVec.ofNat 64 b from rfl]
      simp; omega
    rw [e2]
  unfold bXor
  show IntKind.wrap .u64 ((BitVec.ofInt 64 18446744073709551615 ^^^ BitVec.ofInt 64 (b : Int)).toNat : Int) = _
  rw [h1]
  simp [IntKind.wrap, IntKind.signed, IntKind.bits]
  omega
theorem or_top {b : Nat} (hb : b < 9223372036854775808) : bOr .u64 (b : Int) 9223372036854775808 = b + 9223372036854775808 := by
  have h1 : (BitVec.ofInt 64 (b : Int) ||| BitVec.ofInt 64 9223372036854775808).toNat = b + 9223372036854775808 := by
    rw [BitVec.toNat_or]
    have e1 : (BitVec.ofInt 64 (b : Int)).toNat = b := by
      rw [show BitVec.ofInt 64 (b : Int) = BitVec.ofNat 64 b from rfl]
      simp; omega
    rw [e1, show (BitVec.ofInt 64 9223372036854775808).toNat = 2 ^ 63 * 1 from rfl, Nat.or_comm]
    rw [← Nat.two_pow_add_eq_or_of_lt (by simpa using hb)]
    omega
  unfold bOr
  show IntKind.wrap .u64 ((BitVec.ofInt 64 (b : Int) ||| BitVec.ofInt 64 9223372036854775808).toNat : Int) = _
  rw [h1]
  simp [IntKind.wrap, IntKind.signed, IntKind.bits]
  omega
theorem canon_lt {b : Nat} (hb : b < 18446744073709551616) : canon b < 18446744073709551616 := by
  unfold canon NANB; split <;> omega
theorem key_eq {b : Nat} (hb : b < 18446744073709551616) : flo_Key b = some (keyf b) := by
  unfold flo_Key
  rw [canon_eq hb]
  simp only [Option.bind_some]
  rw [and_top (canon_lt hb)]
  unfold keyf canon
  by_cases h : isn b
  · simp only [h, if_true]
    rfl
  · simp only [h, if_false]
    by_cases ht : TOP ≤ b
    · simp only [ht, decide_true, if_true]
      rw [xor_top hb]
    · simp only [ht, decide_false, if_false, Bool.false_eq_true]
      rw [or_top (by unfold TOP at ht; omega)]
theorem same_eq {a b : Nat} (ha : a < 18446744073709551616) (hb : b < 18446744073709551616) : flo_Same a b = some (decide (keyf a = keyf b)) := by
  unfold flo_Same
  rw [key_eq ha, key_eq hb]
  simp [BEq.beq]
theorem less_eq {a b : Nat} (ha : a < 18446744073709551616) (hb : b < 18446744073709551616) : flo_Less a b = some (decide (keyf a < keyf b)) := by
  unfold flo_Less
  rw [key_eq ha, key_eq hb]
  simp
theorem proper_eq {a : Nat} (ha : a < 18446744073709551616) : flo_Proper a = some (decide (a = canon a)) := by
  unfold flo_Proper
  rw [canon_eq ha]
  congr 1
  by_cases h : a = canon a
  · simp [← h]
  · have : (a : Int) ≠ (canon a : Int) := by omega
    simp [h, this]
/-! ### the document's -/
theorem keyf_lt {a b : Nat} (ha : a < 18446744073709551616) (hb : b < 18446744073709551616) (na : ¬ isn a) (nb : ¬ isn b) : keyf a < keyf b ↔ (sg a < sg b ∨ (a = TOP ∧ b = 0)) := by
  unfold keyf
  rw [if_neg na, if_neg nb]
  unfold sg isn rg INF TOP at *
  split <;> split <;> omega
theorem feql_eq {a b : Nat} (ha : a < 18446744073709551616) (hb : b < 18446744073709551616) (na : ¬ isn a) (nb : ¬ isn b) : feql a b = decide (sg a = sg b) := by
  unfold feql
  show (Ieee.double.order a b == some .eq) = _
  obtain ⟨o, ho, _, he⟩ := order_spec ha hb na nb
  rw [ho]
  by_cases h : sg a = sg b
  · rw [he.2 h]; simp [h]
  · have : o ≠ .eq := fun h' => h (he.1 h')
    simp [h, this]
theorem flss_eq {a b : Nat} (ha : a < 18446744073709551616) (hb : b < 18446744073709551616) (na : ¬ isn a) (nb : ¬ isn b) : flss a b = decide (sg a < sg b) := by
  unfold flss
  show (Ieee.double.order a b == some .lt) = _
  obtain ⟨o, ho, hl, _⟩ := order_spec ha hb na nb
  rw [ho]
  by_cases h : sg a < sg b
  · rw [hl.2 h]; simp [h]
  · have : o ≠ .lt := fun h' => h (hl.1 h')
    simp [h, this]
theorem below0 : moietyref01_below 0 = some false := by kernel_rfl
theorem belowT : moietyref01_below TOP = some true := by kernel_rfl
theorem nan0 : ¬ isn 0 := by decide
theorem sg_zero {a : Nat} (ha : a < 18446744073709551616) : sg a = sg 0 ↔ a = 0 ∨ a = TOP := by
  unfold sg TOP
  split <;> simp <;> omega
theorem rnone_eq {a : Nat} (ha : a < 18446744073709551616) : moietyref01_none a = some (decide (isn a)) := by
  unfold moietyref01_none; rw [fneq_self ha]
theorem rless_eq {a b : Nat} (ha : a < 18446744073709551616) (hb : b < 18446744073709551616) : moietyref01_Less a b = some (decide (keyf a < keyf b)) := by
  unfold moietyref01_Less
  rw [rnone_eq ha, rnone_eq hb]
  simp only [Option.bind_some]
  have kb : ∀ x, x < 18446744073709551616 → ¬ isn x → keyf x < 18444492273895866369 := by
    intro x hx nx
    unfold keyf
    rw [if_neg nx]
    unfold isn rg INF TOP at *
    split <;> omega
  have kn : ∀ x, isn x → keyf x = 18444492273895866369 := fun x h => by unfold keyf; rw [if_pos h]
  by_cases na : isn a
  · simp only [na, decide_true, if_true]
    by_cases nb : isn b
    · rw [kn a na, kn b nb]; simp
    · have := kb b hb nb
      rw [kn a na]; simp; omega
  · simp only [na, decide_false, Bool.false_eq_true, if_false]
    by_cases nb : isn b
    · have := kb a ha na
      rw [kn b nb]; simp [nb, this]
    · simp only [nb, decide_false, Bool.false_eq_true, if_false]
      rw [feql_eq ha (by decide) na nan0, feql_eq hb (by decide) nb nan0, flss_eq ha hb na nb]
      by_cases hz : sg a = sg 0 ∧ sg b = sg 0
      · rw [if_pos (by simp [hz])]
        have hk := keyf_lt ha hb na nb
        have h0T : (0 : Nat) ≠ TOP := by decide
        rcases (sg_zero ha).1 hz.1 with rfl | rfl <;> rcases (sg_zero hb).1 hz.2 with rfl | rfl <;> simp only [below0, belowT, gd, Option.bind_some, if_true, if_false, Bool.false_eq_true, Option.some.injEq] <;> decide
      · rw [if_neg (by simpa using hz)]
        have hk := keyf_lt ha hb na nb
        congr 1
        apply decide_eq_decide.2
        rw [hk]
        constructor
        · intro h; exact .inl h
        · rintro (h | ⟨rfl, rfl⟩)
          · exact h
          · exact absurd ⟨rfl, rfl⟩ hz
theorem rsame_eq {a b : Nat} (ha : a < 18446744073709551616) (hb : b < 18446744073709551616) : moietyref01_Same a b = some (decide (keyf a = keyf b)) := by
  unfold moietyref01_Same
  rw [rless_eq ha hb, rless_eq hb ha]
  simp only [Option.bind_some, gd]
  by_cases h1 : keyf a < keyf b
  · have : keyf a ≠ keyf b := by omega
    simp [h1, this]
  · by_cases h2 : keyf b < keyf a
    · have : keyf a ≠ keyf b := by omega
      simp [h1, h2, this]
    · have : keyf a = keyf b := by omega
      simp [this]
theorem rproper_eq {a : Nat} (ha : a < 18446744073709551616) : moietyref01_Proper a = some (decide (a = canon a)) := by
  unfold moietyref01_Proper
  rw [rnone_eq ha]
  unfold canon NANB
  by_cases h : isn a
  · by_cases h2 : a = 9221120237041090561
    · simp [h, h2]
    · have : (a : Int) ≠ 9221120237041090561 := by omega
      simp [h, h2, this]
  · simp [h]
end Go.CL

/- Small things that all plain laws use. -/
set_option linter.unusedVariables false
set_option linter.unusedSimpArgs false
namespace Go.CL
open Go

theorem wr {x : Int} (h1 : -9223372036854775808 ≤ x) (h2 : x ≤ 9223372036854775807) : IntKind.i64.wrap x = x := by
  rw [IntKind.wrap_i64]; omega
theorem wr1 {i : Nat} (h : i < 9223372036854775807) : IntKind.i64.wrap ((i : Int) + 1) = ((i + 1 : Nat) : Int) := by
  rw [wr (by omega) (by omega)]; omega
theorem wrapu (n : Int) : IntKind.u64.wrap n = n % 18446744073709551616 := by simp [IntKind.wrap, IntKind.bits, IntKind.signed]
theorem wru {x : Int} (h1 : 0 ≤ x) (h2 : x < 18446744073709551616) : IntKind.u64.wrap x = x := by rw [wrapu]; omega
theorem wrm {i : Nat} (h : i < 9223372036854775807) (h0 : 0 < i) : IntKind.i64.wrap ((i : Int) - 1) = ((i - 1 : Nat) : Int) := by
  rw [wr (by omega) (by omega)]; omega
theorem idxn {α : Type} (xs : List α) (i : Nat) : idx xs (i : Int) = xs[i]? := by
  unfold idx
  rw [if_pos (by omega)]
  simp
theorem idx_lt {α : Type} {xs : List α} {i : Nat} (h : i < xs.length) : idx xs (i : Int) = some xs[i] := by
  rw [idxn, List.getElem?_eq_getElem h]
theorem gd_t {β : Type} [Inhabited β] (x : Option β) : gd true x = x := rfl
theorem gd_f {β : Type} [Inhabited β] (x : Option β) : gd false x = some default := rfl
theorem cut_some {α : Type} {xs : List α} {l h : Nat} (h1 : l ≤ h) (h2 : h ≤ xs.length) : cut xs (l : Int) (h : Int) = some ((xs.drop l).take (h - l)) := by
  unfold cut
  rw [if_pos (by omega)]
  simp
/-! ### texts -/
theorem toList_inj {a b : ByteArray} (h : a.toList = b.toList) : a = b := by
  rw [_root_.Go.ByteArray.toList_eq, _root_.Go.ByteArray.toList_eq] at h
  exact ByteArray.ext (Array.toList_inj.1 h)
theorem sEq_iff {a b : ByteArray} : sEq a b = true ↔ a = b := by
  unfold sEq
  constructor
  · intro h; exact toList_inj (by simpa using h)
  · rintro rfl; simp
theorem sEq_self (a : ByteArray) : sEq a a = true := sEq_iff.2 rfl
theorem sEq_ne {a b : ByteArray} : sEq a b = false ↔ a ≠ b := by
  cases h : sEq a b
  · simp; intro e; rw [sEq_iff.2 e] at h; cases h
  · simp; exact sEq_iff.1 h
theorem bl_irr : ∀ l : List UInt8, Op.bytesLess l l = false
  | [] => rfl
  | x :: l => by simp [Op.bytesLess, bl_irr l]
theorem bl_trans : ∀ {a b c : List UInt8}, Op.bytesLess a b = true → Op.bytesLess b c = true → Op.bytesLess a c = true
  | [], [], c, h, _ => by simp [Op.bytesLess] at h
  | [], y :: b, [], _, k => by simp [Op.bytesLess] at k
  | [], y :: b, z :: c, _, _ => rfl
  | x :: a, [], c, h, _ => by simp [Op.bytesLess] at h
  | x :: a, y :: b, [], _, k => by simp [Op.bytesLess] at k
  | x :: a, y :: b, z :: c, h, k => by
    simp only [Op.bytesLess, Bool.or_eq_true, Bool.and_eq_true, decide_eq_true_eq, beq_iff_eq] at h k ⊢
    rcases h with h | ⟨h1, h2⟩ <;> rcases k with k | ⟨k1, k2⟩
    · exact .inl (UInt8.lt_trans h k)
    · subst k1; exact .inl h
    · subst h1; exact .inl k
    · subst h1; subst k1; exact .inr ⟨rfl, bl_trans h2 k2⟩
theorem bl_tri : ∀ (a b : List UInt8), Op.bytesLess a b = false → a ≠ b → Op.bytesLess b a = true
  | [], [], _, h => absurd rfl h
  | [], y :: b, h, _ => by simp [Op.bytesLess] at h
  | x :: a, [], _, _ => rfl
  | x :: a, y :: b, h, hn => by
    simp only [Op.bytesLess, Bool.or_eq_false_iff, decide_eq_false_iff_not, Bool.and_eq_false_iff] at h
    simp only [Op.bytesLess, Bool.or_eq_true, Bool.and_eq_true, decide_eq_true_eq, beq_iff_eq]
    by_cases e : x = y
    · subst e
      right
      refine ⟨rfl, bl_tri a b ?_ (fun h' => hn (by rw [h']))⟩
      rcases h.2 with h | h
      · simp at h
      · exact h
    · left
      rcases UInt8.lt_or_lt_of_ne e with h' | h'
      · exact absurd h' h.1
      · exact h'
theorem sLt_irr (a : ByteArray) : sLt a a = false := bl_irr _
theorem sLt_trans {a b c : ByteArray} (h : sLt a b = true) (k : sLt b c = true) : sLt a c = true := bl_trans h k
theorem sLt_tri {a b : ByteArray} (h : sLt a b = false) (hn : a ≠ b) : sLt b a = true := bl_tri _ _ h (fun e => hn (toList_inj e))
theorem sLt_asym {a b : ByteArray} (h : sLt a b = true) : sLt b a = false := by
  cases k : sLt b a
  · rfl
  · have := sLt_trans h k
    rw [sLt_irr] at this; cases this
theorem sLt_ne {a b : ByteArray} (h : sLt a b = true) : a ≠ b := fun e => by subst e; rw [sLt_irr] at h; cases h
end Go.CL

/- rec (the program's) and moietyref03 (the document's): records that may be; the same records. -/
set_option linter.unusedVariables false
set_option linter.unusedSimpArgs false
namespace Go.CL
open Go

abbrev W64 : Nat := 18446744073709551616
/-- A record as it may come in: its floats are words; its list is no longer than memory. -/
structure RecOk (a : api_Record) : Prop where
  real : a.Real < W64
  len : a.List.length < 4611686018427387904
  sc : ∀ e ∈ a.List, e.Score < W64

def betterB (a b : api_Item) : Bool := if keyf a.Score = keyf b.Score then sLt a.Name b.Name else decide (keyf b.Score < keyf a.Score)
theorem better_eq {a b : api_Item} (ha : a.Score < W64) (hb : b.Score < W64) : rec_Better a b = some (betterB a b) := by
  unfold rec_Better betterB
  rw [same_eq ha hb, less_eq hb ha]
  by_cases h : keyf a.Score = keyf b.Score <;> simp [h]
theorem ahead_eq {a b : api_Item} (ha : a.Score < W64) (hb : b.Score < W64) : moietyref03_Ahead a b = some (betterB a b) := by
  unfold moietyref03_Ahead betterB
  rw [rless_eq hb ha, rsame_eq ha hb]
  by_cases h : keyf a.Score = keyf b.Score
  · simp [h]
  · by_cases h2 : keyf b.Score < keyf a.Score <;> simp [h, h2]
theorem zero_eq {a : Nat} (ha : a < W64) : moietyref03_zero a = some (decide (keyf a = keyf 0)) := by
  unfold moietyref03_zero
  rw [rsame_eq ha (by decide)]
  rfl
/-- What an item at a place is told: 0, or an error. -/
def itemC (k : Int) (l : List api_Item) (i : Nat) : Int :=
  match l[i]? with
  | none => 0
  | some x =>
    let p := (l[i - 1]?).getD default
    if (16 : Int) < x.Name.size then 3
    else if (k = 8 ∧ keyf x.Score ≠ keyf 0) ∨ x.Score ≠ canon x.Score then 4
    else if 0 < i ∧ k = 8 ∧ sLt p.Name x.Name = false then 4
    else if 0 < i ∧ k = 9 ∧ betterB p x = false then 4
    else 0
theorem item_step {k : Int} {l : List api_Item} {i n : Nat} (hi : i < l.length) (hl : l.length < 4611686018427387904) (hs : ∀ e ∈ l, e.Score < W64) :
    rec_items_l1 k l (n + 1) (i : Int) = if itemC k l i = 0 then rec_items_l1 k l n ((i + 1 : Nat) : Int) else some (.inl (itemC k l i)) := by
  have hx : l[i].Score < W64 := hs _ (List.getElem_mem hi)
  rw [rec_items_l1, if_pos (by simp; omega), idx_lt hi, wr1 (by omega)]
  simp only [Option.bind_some]
  rw [same_eq hx (by decide), proper_eq hx]
  simp only [itemC, List.getElem?_eq_getElem hi]
  by_cases h1 : (16 : Int) < l[i].Name.size
  · simp [h1]
  · simp only [h1, decide_false, if_false, Bool.false_eq_true]
    have hz : ((0 : Nat) : Int) = 0 := rfl
    by_cases h0 : 0 < i
    · have hp : i - 1 < l.length := by omega
      have hps : l[i - 1].Score < W64 := hs _ (List.getElem_mem hp)
      have hd : (decide ((0 : Int) < (i : Int))) = true := by simp; omega
      rw [hd, wrm (by omega) h0, idx_lt hp]
      simp only [List.getElem?_eq_getElem hp, Option.getD_some, h0, true_and, Bool.true_and]
      by_cases h8 : k = 8
      · subst h8
        simp only [beq_self_eq_true, gd_t, Option.bind_some, true_and, Bool.true_and]
        by_cases hk : keyf l[i].Score = keyf 0
        · by_cases hc : l[i].Score = canon l[i].Score
          · simp [hk, ← hc, gd]
            cases sLt l[i - 1].Name l[i].Name <;> simp
          · simp [hk, hc, gd]
        · simp [hk, gd]
      · have h8' : (k == 8) = false := by simpa using h8
        simp only [h8', h8, gd_f, gd_t, Option.bind_some, false_and, false_or, Bool.false_and, Bool.not_false, Bool.false_or]
        by_cases hc : l[i].Score = canon l[i].Score
        · by_cases h9 : k = 9
          · subst h9
            simp [← hc, gd, better_eq hps hx]
            cases betterB l[i - 1] l[i] <;> simp
          · simp [← hc, gd, h9]
        · simp [hc]
    · have h00 : i = 0 := by omega
      subst h00
      simp only [Nat.lt_irrefl, false_and, if_false, Int.ofNat_zero, Int.lt_irrefl, decide_false, Bool.false_and, gd_f, Option.bind_some, Int.natCast_zero]
      by_cases h8 : k = 8
      · subst h8
        simp only [beq_self_eq_true, gd_t, Option.bind_some, true_and, Bool.true_and]
        by_cases hk : keyf l[0].Score = keyf 0
        · by_cases hc : l[0].Score = canon l[0].Score
          · simp [hk, ← hc, gd]
          · simp [hk, hc, gd]
        · simp [hk, gd]
      · have h8' : (k == 8) = false := by simpa using h8
        simp only [h8', h8, gd_f, gd_t, Option.bind_some, false_and, false_or, Bool.false_and, Bool.not_false, Bool.false_or]
        by_cases hc : l[0].Score = canon l[0].Score
        · simp [← hc, gd]
        · simp [hc]
theorem ritem_eq {k : Int} {l : List api_Item} {i : Nat} (hi : i < l.length) (hl : l.length < 4611686018427387904) (hs : ∀ e ∈ l, e.Score < W64) : moietyref03_item k l (i : Int) = some (itemC k l i) := by
  have hx : l[i].Score < W64 := hs _ (List.getElem_mem hi)
  unfold moietyref03_item
  rw [idx_lt hi]
  simp only [Option.bind_some]
  rw [zero_eq hx, rproper_eq hx]
  simp only [itemC, List.getElem?_eq_getElem hi]
  by_cases h1 : (16 : Int) < l[i].Name.size
  · simp [h1]
  · simp only [h1, decide_false, if_false, Bool.false_eq_true]
    by_cases h0 : 0 < i
    · have hp : i - 1 < l.length := by omega
      have hps : l[i - 1].Score < W64 := hs _ (List.getElem_mem hp)
      have hd : (decide ((0 : Int) < (i : Int))) = true := by simp; omega
      rw [hd, wrm (by omega) h0, idx_lt hp]
      simp only [List.getElem?_eq_getElem hp, Option.getD_some, h0, true_and, Bool.true_and]
      by_cases h8 : k = 8
      · subst h8
        simp only [beq_self_eq_true, gd_t, Option.bind_some, true_and, Bool.true_and]
        by_cases hk : keyf l[i].Score = keyf 0
        · by_cases hc : l[i].Score = canon l[i].Score
          · simp [hk, ← hc, gd]
            cases sLt l[i - 1].Name l[i].Name <;> simp
          · simp [hk, hc, gd]
        · simp [hk, gd]
      · have h8' : (k == 8) = false := by simpa using h8
        simp only [h8', h8, gd_f, gd_t, Option.bind_some, false_and, false_or, Bool.false_and, Bool.not_false, Bool.false_or]
        by_cases hc : l[i].Score = canon l[i].Score
        · by_cases h9 : k = 9
          · subst h9
            simp [← hc, gd, ahead_eq hps hx]
            cases betterB l[i - 1] l[i] <;> simp
          · simp [← hc, gd, h9]
        · simp [hc]
    · have h00 : i = 0 := by omega
      subst h00
      simp only [Nat.lt_irrefl, false_and, if_false, Int.ofNat_zero, Int.lt_irrefl, decide_false, Bool.false_and, gd_f, Option.bind_some, Int.natCast_zero]
      by_cases h8 : k = 8
      · subst h8
        simp only [beq_self_eq_true, gd_t, Option.bind_some, true_and, Bool.true_and]
        by_cases hk : keyf l[0].Score = keyf 0
        · by_cases hc : l[0].Score = canon l[0].Score
          · simp [hk, ← hc, gd]
          · simp [hk, hc, gd]
        · simp [hk, gd]
      · have h8' : (k == 8) = false := by simpa using h8
        simp only [h8', h8, gd_f, gd_t, Option.bind_some, false_and, false_or, Bool.false_and, Bool.not_false, Bool.false_or]
        by_cases hc : l[0].Score = canon l[0].Score
        · simp [← hc, gd]
        · simp [hc]
end Go.CL

/- rec.Check = moietyref03.Check; rec.Same = moietyref03.Same; which records are too big to be looked at. -/
set_option linter.unusedVariables false
set_option linter.unusedSimpArgs false
namespace Go.CL
open Go

def firstC (k : Int) (l : List api_Item) : Nat → Nat → Int
  | _, 0 => 0
  | i, n + 1 => if itemC k l i = 0 then firstC k l (i + 1) n else itemC k l i
def endC (c : Int) : Int ⊕ Unit := if c = 0 then .inr () else .inl c
theorem firstC_z {k : Int} {l : List api_Item} {i n : Nat} (h : itemC k l i = 0) : firstC k l i (n + 1) = firstC k l (i + 1) n := by simp [firstC, h]
theorem firstC_e {k : Int} {l : List api_Item} {i n : Nat} (h : ¬ itemC k l i = 0) : firstC k l i (n + 1) = itemC k l i := by simp [firstC, h]
theorem endC_e {c : Int} (h : ¬ c = 0) : endC c = .inl c := if_neg h
theorem items_loop {k : Int} {l : List api_Item} (hl : l.length < 4611686018427387904) (hs : ∀ e ∈ l, e.Score < W64) : ∀ (n i : Nat), i + n = l.length →
    rec_items_l1 k l (n + 1) (i : Int) = some (endC (firstC k l i n))
  | 0, i, h => by
    rw [rec_items_l1, if_neg (by simp; omega)]
    rfl
  | n + 1, i, h => by
    rw [item_step (by omega) hl hs]
    by_cases hc : itemC k l i = 0
    · rw [if_pos hc, firstC_z hc, items_loop hl hs n (i + 1) (by omega)]
    · rw [if_neg hc, firstC_e hc, endC_e hc]
theorem items_eq {k : Int} {l : List api_Item} (hl : l.length < 4611686018427387904) (hs : ∀ e ∈ l, e.Score < W64) : rec_items k l = some (firstC k l 0 l.length) := by
  unfold rec_items
  rw [show (Int.toNat ((l.length : Int) - (0 : Int)) + 1) = l.length + 1 by omega, show (0 : Int) = ((0 : Nat) : Int) from rfl, items_loop hl hs l.length 0 (by omega)]
  unfold endC
  by_cases h : firstC k l 0 l.length = 0 <;> simp [h]
theorem ritems_loop {a : api_Record} (ha : RecOk a) : ∀ (n i : Nat), i + n = a.List.length →
    moietyref03_Check_l1 a (n + 1) (i : Int) = some (endC (firstC a.Kind a.List i n))
  | 0, i, h => by
    rw [moietyref03_Check_l1, if_neg (by simp; omega)]
    rfl
  | n + 1, i, h => by
    have hl := ha.len
    rw [moietyref03_Check_l1, if_pos (by simp; omega), ritem_eq (by omega) hl ha.sc, wr1 (by omega)]
    simp only [Option.bind_some]
    by_cases hc : itemC a.Kind a.List i = 0
    · rw [if_neg (by simp [hc]), firstC_z hc, ritems_loop ha n (i + 1) (by omega)]
    · rw [if_pos (by simp [hc]), firstC_e hc, endC_e hc]
def onlyB (t n b r l : Bool) (a : api_Record) : Bool := (t || sEq a.Text ⟨#[]⟩) && (n || a.Num == 0) && (b || (a.Low == 0 && a.High == 0)) && (r || decide (keyf a.Real = keyf 0)) && (l || (a.Cap == 0 && (a.List.length : Int) == 0))
theorem bare_eq {a : api_Record} (ha : RecOk a) (t n b r l : Bool) : rec_bare a ⟨t, n, b, r, l⟩ = some (onlyB t n b r l a) := by
  unfold rec_bare onlyB
  rw [same_eq ha.real (by decide)]
  simp only
  generalize sEq a.Text ⟨#[]⟩ = x1
  generalize (a.Num == 0) = x2
  generalize (a.Low == 0) = x3
  generalize (a.High == 0) = x4
  generalize decide (keyf a.Real = keyf 0) = x5
  generalize (a.Cap == 0) = x6
  generalize ((a.List.length : Int) == 0) = x7
  revert t n b r l x1 x2 x3 x4 x5 x6 x7
  decide
theorem only_eq {a : api_Record} (ha : RecOk a) {s : ByteArray} {t n b r l : Bool} (h : moietyref03_only_l1 s (Int.toNat ((s.size : Int) - (0 : Int)) + 1) false false false false false 0 = some (t, n, b, r, l)) : moietyref03_only a s = some (onlyB t n b r l a) := by
  unfold moietyref03_only onlyB
  rw [h, zero_eq ha.real]
  simp only [Option.bind_some, bne]
  generalize sEq a.Text ⟨#[]⟩ = x1
  generalize (a.Num == 0) = x2
  generalize (a.Low == 0) = x3
  generalize (a.High == 0) = x4
  generalize decide (keyf a.Real = keyf 0) = x5
  generalize (a.Cap == 0) = x6
  generalize ((a.List.length : Int) == 0) = x7
  clear h
  revert t n b r l x1 x2 x3 x4 x5 x6 x7
  decide
theorem onl_t : moietyref03_only_l1 ⟨#[116]⟩ (Int.toNat (((⟨#[116]⟩ : ByteArray).size : Int) - (0 : Int)) + 1) false false false false false 0 = some (true, false, false, false, false) := by kernel_rfl
theorem onl_n : moietyref03_only_l1 ⟨#[110]⟩ (Int.toNat (((⟨#[110]⟩ : ByteArray).size : Int) - (0 : Int)) + 1) false false false false false 0 = some (false, true, false, false, false) := by kernel_rfl
theorem onl_nb : moietyref03_only_l1 ⟨#[110, 98]⟩ (Int.toNat (((⟨#[110, 98]⟩ : ByteArray).size : Int) - (0 : Int)) + 1) false false false false false 0 = some (false, true, true, false, false) := by kernel_rfl
theorem onl_r : moietyref03_only_l1 ⟨#[114]⟩ (Int.toNat (((⟨#[114]⟩ : ByteArray).size : Int) - (0 : Int)) + 1) false false false false false 0 = some (false, false, false, true, false) := by kernel_rfl
theorem onl_l : moietyref03_only_l1 ⟨#[108]⟩ (Int.toNat (((⟨#[108]⟩ : ByteArray).size : Int) - (0 : Int)) + 1) false false false false false 0 = some (false, false, false, false, true) := by kernel_rfl
def checkD (t n b r l : Bool) (a : api_Record) : Int :=
  if onlyB t n b r l a = false then 4
  else if (64 : Int) < a.Text.size then 3
  else if b = true ∧ (a.Low < -2305843009213693952 ∨ 2305843009213693952 < a.High ∨ a.Num < a.Low ∨ a.High < a.Num) then 1
  else if a.Real ≠ canon a.Real then 4
  else if l = false then 0
  else if a.Cap < 1 ∨ 32 < a.Cap then 1
  else if a.Cap < a.List.length then 8
  else firstC a.Kind a.List 0 a.List.length
theorem check_shape {a : api_Record} (ha : RecOk a) {t n b r l : Bool} (hk : ¬ (a.Kind ≤ 0 ∨ 10 ≤ a.Kind)) (hs : rec_shaped a.Kind = some ⟨t, n, b, r, l⟩) : rec_Check a = some (checkD t n b r l a) := by
  unfold rec_Check checkD
  rw [hs]
  simp only [Option.bind_some]
  rw [bare_eq ha, proper_eq ha.real, items_eq ha.len ha.sc]
  simp only [Option.bind_some]
  rw [if_neg (by simpa using hk)]
  by_cases h1 : onlyB t n b r l a = false
  · rw [if_pos h1, if_pos (by simp [h1])]
  · rw [if_neg h1, if_neg (by simpa using h1)]
    by_cases h2 : (64 : Int) < a.Text.size
    · rw [if_pos h2, if_pos (by simpa using h2)]
    · rw [if_neg h2, if_neg (by simpa using h2)]
      by_cases h3 : b = true ∧ (a.Low < -2305843009213693952 ∨ 2305843009213693952 < a.High ∨ a.Num < a.Low ∨ a.High < a.Num)
      · rw [if_pos h3, if_pos (by simpa [or_assoc] using h3)]
      · rw [if_neg h3, if_neg (by simpa [or_assoc] using h3)]
        by_cases h4 : a.Real = canon a.Real
        · rw [if_neg (show ¬ (a.Real ≠ canon a.Real) from fun h => h h4), decide_eq_true h4]
          simp only [Bool.not_true, Bool.false_eq_true, if_false]
          cases l
          · simp
          · simp only [Bool.not_true, Bool.false_eq_true, if_false, Bool.true_eq_false]
            by_cases h5 : a.Cap < 1 ∨ 32 < a.Cap
            · rw [if_pos h5, if_pos (by simpa using h5)]
            · rw [if_neg h5, if_neg (by simpa using h5)]
              by_cases h6 : a.Cap < a.List.length
              · rw [if_pos h6, if_pos (by simpa using h6)]
              · rw [if_neg h6, if_neg (by simpa using h6)]
        · rw [if_pos (show a.Real ≠ canon a.Real from h4), decide_eq_false h4]
          rfl
theorem shape1 : rec_shaped 1 = some ⟨true, false, false, false, false⟩ := by kernel_rfl
theorem shape2 : rec_shaped 2 = some ⟨false, true, false, false, false⟩ := by kernel_rfl
theorem shape3 : rec_shaped 3 = some ⟨false, true, false, false, false⟩ := by kernel_rfl
theorem shape4 : rec_shaped 4 = some ⟨false, true, true, false, false⟩ := by kernel_rfl
theorem shape5 : rec_shaped 5 = some ⟨false, false, false, true, false⟩ := by kernel_rfl
theorem shape6 : rec_shaped 6 = some ⟨false, false, false, true, false⟩ := by kernel_rfl
theorem shape7 : rec_shaped 7 = some ⟨false, false, false, true, false⟩ := by kernel_rfl
theorem shape8 : rec_shaped 8 = some ⟨false, false, false, false, true⟩ := by kernel_rfl
theorem shape9 : rec_shaped 9 = some ⟨false, false, false, false, true⟩ := by kernel_rfl
/-- .. and the document's. -/
def rcheckD (t n b r l : Bool) (k : Int) (a : api_Record) : Int :=
  if onlyB t n b r l a = false then 4
  else if k = 1 ∧ (64 : Int) < a.Text.size then 3
  else if k = 4 ∧ (a.Low < -2305843009213693952 ∨ 2305843009213693952 < a.High ∨ a.Num < a.Low ∨ a.High < a.Num) then 1
  else if a.Real ≠ canon a.Real then 4
  else if k < 8 then 0
  else if a.Cap < 1 ∨ 32 < a.Cap then 1
  else if a.Cap < a.List.length then 8
  else firstC a.Kind a.List 0 a.List.length
theorem rcheck_shape {a : api_Record} (ha : RecOk a) {t n b r l : Bool} {s : ByteArray} (hk : ¬ (a.Kind < 1 ∨ 9 < a.Kind)) (hf : moietyref03_Fields a.Kind = some s)
    (ho : moietyref03_only_l1 s (Int.toNat ((s.size : Int) - (0 : Int)) + 1) false false false false false 0 = some (t, n, b, r, l)) : moietyref03_Check a = some (rcheckD t n b r l a.Kind a) := by
  unfold moietyref03_Check rcheckD
  have hw : IntKind.i64.wrap (0 - (2305843009213693952 : Int)) = -2305843009213693952 := by decide
  rw [hf, rproper_eq ha.real, hw, show (Int.toNat ((a.List.length : Int) - (0 : Int)) + 1) = a.List.length + 1 by omega]
  have hloop := ritems_loop ha a.List.length 0 (by omega)
  rw [show ((0 : Nat) : Int) = 0 from rfl] at hloop
  rw [hloop]
  simp only [Option.bind_some]
  rw [if_neg (by simpa using hk), only_eq ha ho]
  simp only [Option.bind_some]
  by_cases h1 : onlyB t n b r l a = false
  · rw [if_pos h1, if_pos (by simp [h1])]
  · rw [if_neg h1, if_neg (by simpa using h1)]
    by_cases h2 : a.Kind = 1 ∧ (64 : Int) < a.Text.size
    · rw [if_pos h2, if_pos (by simpa using h2)]
    · rw [if_neg h2, if_neg (by simpa using h2)]
      by_cases h3 : a.Kind = 4 ∧ (a.Low < -2305843009213693952 ∨ 2305843009213693952 < a.High ∨ a.Num < a.Low ∨ a.High < a.Num)
      · rw [if_pos h3, if_pos (by simpa [or_assoc] using h3)]
      · rw [if_neg h3, if_neg (by simpa [or_assoc] using h3)]
        by_cases h4 : a.Real = canon a.Real
        · rw [if_neg (show ¬ (a.Real ≠ canon a.Real) from fun h => h h4), decide_eq_true h4]
          simp only [Bool.not_true, Bool.false_eq_true, if_false]
          by_cases h7 : a.Kind < 8
          · rw [if_pos h7, if_pos (by simpa using h7)]
          · rw [if_neg h7, if_neg (by simpa using h7)]
            by_cases h5 : a.Cap < 1 ∨ 32 < a.Cap
            · rw [if_pos h5, if_pos (by simpa using h5)]
            · rw [if_neg h5, if_neg (by simpa using h5)]
              by_cases h6 : a.Cap < a.List.length
              · rw [if_pos h6, if_pos (by simpa using h6)]
              · rw [if_neg h6, if_neg (by simpa using h6)]
                unfold endC
                by_cases h : firstC a.Kind a.List 0 a.List.length = 0 <;> simp [h]
        · rw [if_pos (show a.Real ≠ canon a.Real from h4), decide_eq_false h4]
          rfl
theorem text_of {t n b r l : Bool} {a : api_Record} (h : ¬ onlyB t n b r l a = false) (ht : t = false) : a.Text.size = 0 := by
  subst ht
  have : onlyB false n b r l a = true := by simpa using h
  unfold onlyB at this
  simp only [Bool.false_or, Bool.and_eq_true] at this
  have := sEq_iff.1 this.1.1.1.1
  rw [this]; rfl
theorem D_eq (t n b r l : Bool) (k : Int) (a : api_Record) (ht : t = true ↔ k = 1) (hb : b = true ↔ k = 4) (hl : l = false ↔ k < 8) : rcheckD t n b r l k a = checkD t n b r l a := by
  unfold rcheckD checkD
  by_cases h1 : onlyB t n b r l a = false
  · rw [if_pos h1, if_pos h1]
  · rw [if_neg h1, if_neg h1]
    have e2 : (k = 1 ∧ (64 : Int) < a.Text.size) ↔ (64 : Int) < a.Text.size := by
      constructor
      · exact fun h => h.2
      · intro h
        refine ⟨ht.1 ?_, h⟩
        cases t
        · have := text_of h1 rfl; omega
        · rfl
    simp only [e2, hb, hl]
/-- **May a record be: the program says what the document says.** -/
theorem check_both {a : api_Record} (ha : RecOk a) : ∃ c, rec_Check a = some c ∧ moietyref03_Check a = some c := by
  by_cases hk : a.Kind ≤ 0 ∨ 10 ≤ a.Kind
  · refine ⟨5, ?_, ?_⟩
    · unfold rec_Check
      have hs : ∃ s, rec_shaped a.Kind = some s := by
        have h1 : ¬ a.Kind = 1 := by omega
        have h2 : ¬ a.Kind = 2 := by omega
        have h3 : ¬ a.Kind = 3 := by omega
        have h4 : ¬ a.Kind = 4 := by omega
        have h5 : ¬ a.Kind = 5 := by omega
        have h6 : ¬ a.Kind = 6 := by omega
        have h7 : ¬ a.Kind = 7 := by omega
        have h8 : ¬ a.Kind = 8 := by omega
        have h9 : ¬ a.Kind = 9 := by omega
        exact ⟨⟨false, false, false, false, false⟩, by simp [rec_shaped, rec_shaped_j1, rec_shaped_j2, rec_shaped_j3, h1, h2, h3, h4, h5, h6, h7, h8, h9]⟩
      obtain ⟨s, hs⟩ := hs
      rw [hs]
      simp only [Option.bind_some]
      rw [if_pos (by simpa using hk)]
    · unfold moietyref03_Check
      rw [if_pos (by simp; omega)]
  · have hk2 : ¬ (a.Kind < 1 ∨ 9 < a.Kind) := by omega
    have hk' : a.Kind = 1 ∨ a.Kind = 2 ∨ a.Kind = 3 ∨ a.Kind = 4 ∨ a.Kind = 5 ∨ a.Kind = 6 ∨ a.Kind = 7 ∨ a.Kind = 8 ∨ a.Kind = 9 := by omega
    rcases hk' with h | h | h | h | h | h | h | h | h
    · exact ⟨_, check_shape ha hk (by rw [h]; exact shape1), by rw [rcheck_shape ha hk2 (by rw [h]; kernel_rfl) onl_t, D_eq _ _ _ _ _ _ _ (by simp [h]) (by simp [h]) (by simp [h])]⟩
    · exact ⟨_, check_shape ha hk (by rw [h]; exact shape2), by rw [rcheck_shape ha hk2 (by rw [h]; kernel_rfl) onl_n, D_eq _ _ _ _ _ _ _ (by simp [h]) (by simp [h]) (by simp [h])]⟩
    · exact ⟨_, check_shape ha hk (by rw [h]; exact shape3), by rw [rcheck_shape ha hk2 (by rw [h]; kernel_rfl) onl_n, D_eq _ _ _ _ _ _ _ (by simp [h]) (by simp [h]) (by simp [h])]⟩
    · exact ⟨_, check_shape ha hk (by rw [h]; exact shape4), by rw [rcheck_shape ha hk2 (by rw [h]; kernel_rfl) onl_nb, D_eq _ _ _ _ _ _ _ (by simp [h]) (by simp [h]) (by simp [h])]⟩
    · exact ⟨_, check_shape ha hk (by rw [h]; exact shape5), by rw [rcheck_shape ha hk2 (by rw [h]; kernel_rfl) onl_r, D_eq _ _ _ _ _ _ _ (by simp [h]) (by simp [h]) (by simp [h])]⟩
    · exact ⟨_, check_shape ha hk (by rw [h]; exact shape6), by rw [rcheck_shape ha hk2 (by rw [h]; kernel_rfl) onl_r, D_eq _ _ _ _ _ _ _ (by simp [h]) (by simp [h]) (by simp [h])]⟩
    · exact ⟨_, check_shape ha hk (by rw [h]; exact shape7), by rw [rcheck_shape ha hk2 (by rw [h]; kernel_rfl) onl_r, D_eq _ _ _ _ _ _ _ (by simp [h]) (by simp [h]) (by simp [h])]⟩
    · exact ⟨_, check_shape ha hk (by rw [h]; exact shape8), by rw [rcheck_shape ha hk2 (by rw [h]; kernel_rfl) onl_l, D_eq _ _ _ _ _ _ _ (by simp [h]) (by simp [h]) (by simp [h])]⟩
    · exact ⟨_, check_shape ha hk (by rw [h]; exact shape9), by rw [rcheck_shape ha hk2 (by rw [h]; kernel_rfl) onl_l, D_eq _ _ _ _ _ _ _ (by simp [h]) (by simp [h]) (by simp [h])]⟩
end Go.CL

/- The same records: rec.Same = moietyref03.Same; what is too big. -/
set_option linter.unusedVariables false
set_option linter.unusedSimpArgs false
namespace Go.CL
open Go

def endB : Bool → Bool ⊕ Unit
  | true => .inr ()
  | false => .inl false
def eqI (x y : api_Item) : Bool := sEq x.Name y.Name && decide (keyf x.Score = keyf y.Score)
def eqL : List api_Item → List api_Item → Bool
  | [], [] => true
  | x :: xs, y :: ys => eqI x y && eqL xs ys
  | _, _ => false
def sameR (a b : api_Record) : Bool := (a.Kind == b.Kind) && (a.Num == b.Num) && (a.Low == b.Low) && (a.High == b.High) && decide (keyf a.Real = keyf b.Real) && (a.Cap == b.Cap) && sEq a.Text b.Text && eqL a.List b.List
theorem eqL_len : ∀ {a b : List api_Item}, eqL a b = true → a.length = b.length
  | [], [], _ => rfl
  | x :: xs, y :: ys, h => by
    simp only [eqL, Bool.and_eq_true] at h
    simp [eqL_len h.2]
  | [], _ :: _, h => by simp [eqL] at h
  | _ :: _, [], h => by simp [eqL] at h
theorem same1_eq {x y : api_Item} (hx : x.Score < W64) (hy : y.Score < W64) : rec_Same_1 x y = some (eqI x y) := by
  unfold rec_Same_1 eqI
  rw [same_eq hx hy]
  cases sEq x.Name y.Name <;> simp [gd]
theorem eqf_loop {a b : List api_Item} (ha : ∀ e ∈ a, e.Score < W64) (hb : ∀ e ∈ b, e.Score < W64) (hl : a.length < 4611686018427387904) (he : a.length = b.length) : ∀ (n i : Nat), i + n = a.length →
    slices_EqualFunc_api_Item_api_Item_api_Item_api_Item_l1 a b (fun y0 y1 => rec_Same_1 y0 y1) (n + 1) (i : Int) = some (endB (eqL (a.drop i) (b.drop i)))
  | 0, i, h => by
    rw [slices_EqualFunc_api_Item_api_Item_api_Item_api_Item_l1, if_neg (by simp; omega), List.drop_of_length_le (by omega), List.drop_of_length_le (by omega)]
    rfl
  | n + 1, i, h => by
    have h1 : i < a.length := by omega
    have h2 : i < b.length := by omega
    rw [slices_EqualFunc_api_Item_api_Item_api_Item_api_Item_l1, if_pos (by simp; omega), idx_lt h1, idx_lt h2, wr1 (by omega)]
    simp only [Option.bind_some]
    rw [same1_eq (ha _ (List.getElem_mem h1)) (hb _ (List.getElem_mem h2)), List.drop_eq_getElem_cons h1, List.drop_eq_getElem_cons h2]
    simp only [Option.bind_some, eqL]
    cases hq : eqI a[i] b[i]
    · simp [endB]
    · simp only [Bool.not_true, Bool.false_eq_true, if_false, Bool.true_and]
      exact eqf_loop ha hb hl he n (i + 1) (by omega)
theorem eqf_eq {a b : List api_Item} (ha : ∀ e ∈ a, e.Score < W64) (hb : ∀ e ∈ b, e.Score < W64) (hl : a.length < 4611686018427387904) : slices_EqualFunc_api_Item_api_Item_api_Item_api_Item a b (fun y0 y1 => rec_Same_1 y0 y1) = some (eqL a b) := by
  unfold slices_EqualFunc_api_Item_api_Item_api_Item_api_Item
  by_cases he : a.length = b.length
  · rw [if_neg (by simp; omega), show (Int.toNat ((a.length : Int) - (0 : Int)) + 1) = a.length + 1 by omega]
    have := eqf_loop ha hb hl he a.length 0 (by omega)
    rw [show ((0 : Nat) : Int) = 0 from rfl] at this
    rw [this]
    simp only [List.drop_zero]
    cases eqL a b <;> simp [endB]
  · rw [if_pos (by simp; omega)]
    cases h : eqL a b
    · rfl
    · exact absurd (eqL_len h) he
theorem same_rec {a b : api_Record} (ha : RecOk a) (hb : RecOk b) : rec_Same a b = some (sameR a b) := by
  unfold rec_Same sameR
  rw [same_eq ha.real hb.real, eqf_eq ha.sc hb.sc ha.len]
  generalize (a.Kind == b.Kind) = x1
  generalize (a.Num == b.Num) = x2
  generalize (a.Low == b.Low) = x3
  generalize (a.High == b.High) = x4
  generalize decide (keyf a.Real = keyf b.Real) = x5
  generalize (a.Cap == b.Cap) = x6
  generalize sEq a.Text b.Text = x7
  generalize eqL a.List b.List = x8
  revert x1 x2 x3 x4 x5 x6 x7 x8
  decide
theorem rsame_loop {a b : api_Record} (ha : RecOk a) (hb : RecOk b) (he : a.List.length = b.List.length) : ∀ (n i : Nat), i + n = a.List.length →
    moietyref03_Same_l1 a b (n + 1) (i : Int) = some (endB (eqL (a.List.drop i) (b.List.drop i)))
  | 0, i, h => by
    rw [moietyref03_Same_l1, if_neg (by simp; omega), List.drop_of_length_le (by omega), List.drop_of_length_le (by omega)]
    rfl
  | n + 1, i, h => by
    have h1 : i < a.List.length := by omega
    have h2 : i < b.List.length := by omega
    have hl := ha.len
    have hs1 := ha.sc _ (List.getElem_mem h1)
    have hs2 := hb.sc _ (List.getElem_mem h2)
    rw [moietyref03_Same_l1, if_pos (by simp; omega), idx_lt h1, idx_lt h2, wr1 (by omega), List.drop_eq_getElem_cons h1, List.drop_eq_getElem_cons h2]
    simp only [Option.bind_some, eqL, eqI]
    cases hn : sEq a.List[i].Name b.List[i].Name
    · simp [gd, endB]
    · simp only [Bool.not_true, Bool.not_false, gd_t, Option.bind_some]
      rw [rsame_eq hs1 hs2]
      simp only [Option.bind_some, Bool.false_or, Bool.true_and]
      by_cases hk : keyf a.List[i].Score = keyf b.List[i].Score
      · simp only [hk, decide_true, Bool.not_true, Bool.false_eq_true, if_false, Bool.true_and]
        exact rsame_loop ha hb he n (i + 1) (by omega)
      · simp [hk, endB]
theorem rsame_rec {a b : api_Record} (ha : RecOk a) (hb : RecOk b) : moietyref03_Same a b = some (sameR a b) := by
  unfold moietyref03_Same sameR
  rw [rsame_eq ha.real hb.real]
  by_cases he : a.List.length = b.List.length
  · have := rsame_loop ha hb he a.List.length 0 (by omega)
    rw [show ((0 : Nat) : Int) = 0 from rfl] at this
    rw [show (Int.toNat ((a.List.length : Int) - (0 : Int)) + 1) = a.List.length + 1 by omega, this]
    have hn : ((a.List.length : Int) != (b.List.length : Int)) = false := by simp; omega
    rw [hn]
    simp only [List.drop_zero, bne]
    generalize (a.Kind == b.Kind) = x1
    generalize (a.Num == b.Num) = x2
    generalize (a.Low == b.Low) = x3
    generalize (a.High == b.High) = x4
    generalize decide (keyf a.Real = keyf b.Real) = x5
    generalize (a.Cap == b.Cap) = x6
    generalize sEq a.Text b.Text = x7
    generalize eqL a.List b.List = x8
    clear this hn he
    revert x1 x2 x3 x4 x5 x6 x7 x8
    decide
  · have h8 : eqL a.List b.List = false := by
      cases h : eqL a.List b.List
      · rfl
      · exact absurd (eqL_len h) he
    have hn : ((a.List.length : Int) != (b.List.length : Int)) = true := by simp; omega
    rw [hn, h8]
    simp only [bne, Bool.or_true, Option.bind_some, if_true, Bool.and_false, ite_self]
/-! ### too big -/
theorem big03_loop {a : api_Record} (hl : a.List.length ≤ 9223372036854775807) : ∀ (n i : Nat), i + n = a.List.length → ∃ z, moietylaw03_Big_l1 a (n + 1) (i : Int) = some z ∧ (z = .inl 1 ∨ z = .inr ())
  | 0, i, h => by
    rw [moietylaw03_Big_l1, if_neg (by simp; omega)]
    exact ⟨_, rfl, .inr rfl⟩
  | n + 1, i, h => by
    rw [moietylaw03_Big_l1, if_pos (by simp; omega), idx_lt (by omega), wr1 (by omega)]
    simp only [Option.bind_some]
    split
    · exact ⟨_, rfl, .inl rfl⟩
    · exact big03_loop hl n (i + 1) (by omega)
/-- Of a record that isn't too big: its list has no more than 100 items. -/
theorem big03 {a : api_Record} (hl : a.List.length ≤ 9223372036854775807) : ∃ c, moietylaw03_Big a = some c ∧ (c = 0 ∨ c = 1) ∧ (c = 0 → a.List.length ≤ 100) := by
  unfold moietylaw03_Big
  by_cases h : (100 : Int) < a.List.length ∨ (1000 : Int) < a.Text.size
  · rw [if_pos (by simpa using h)]
    exact ⟨1, rfl, .inr rfl, fun h => by cases h⟩
  · rw [if_neg (by simpa using h), show (Int.toNat ((a.List.length : Int) - (0 : Int)) + 1) = a.List.length + 1 by omega]
    obtain ⟨z, hz, hc⟩ := big03_loop hl a.List.length 0 (by omega)
    rw [show ((0 : Nat) : Int) = 0 from rfl] at hz
    rw [hz]
    rcases hc with rfl | rfl
    · exact ⟨1, rfl, .inr rfl, fun h => by cases h⟩
    · exact ⟨0, rfl, .inl rfl, fun _ => by omega⟩
end Go.CL
