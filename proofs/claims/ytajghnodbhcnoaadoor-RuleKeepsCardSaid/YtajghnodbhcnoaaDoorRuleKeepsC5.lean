/- A part of the proof of RuleKeeps. -/
import Derived.Test.YtajghnodbhcnoaaDoorRuleKeepsC4
import Derived.KernelRfl
import Derived.Laws.Strings
set_option linter.unusedVariables false
set_option linter.unusedSimpArgs false
set_option maxRecDepth 100000
namespace Go.CL
open Go Go.RowKit Go.Proofs
theorem moietyref01_none_ok (a0 : Nat) {r : Bool} (h : moietyref01_none a0 = some r) : FnOk Tryd.prog 78 [(pFlt a0)] (pBool r) := by
  have H0 := h
  unfold moietyref01_none at H0
  clear h
  refine fn_ok (N := 6) Tryd.func78 rfl rfl (Nat.le_of_ble_eq_true rfl) rfl rfl (fun a g0 hst hb => ?_)
  refine r_s (L := [(0, _)]) (T := [⟨[], _, [], [], [2]⟩]) (F := [.old 0]) hst hb follows
    (o_p rfl (ob_assign rfl rfl c_b) <|
     o_n) (by kernel_rfl) (fun a g hst hb => ?_)
  refine r_s (L := [(0, _)]) (T := [⟨[.old 0], _, [], [], [3]⟩, ⟨[.old 0], _, [], [], [4]⟩, ⟨[.op 0 0, .op 1 0], _, [], [0, 1], [5]⟩, ⟨[.op 2 0], _, [], [0, 1, 2], [2]⟩]) (F := [.op 3 0]) hst hb follows
    (o_p rfl (ob_move rfl rfl u_0) <|
     o_p rfl (ob_move rfl rfl u_0) <|
     o_p rfl (ob_fneq rfl rfl u_0 u_1) <|
     o_p rfl (ob_assign rfl rfl u_0) <|
     o_n) (by kernel_rfl) (fun a g hst hb => ?_)
  refine wp_ret ?_
  obtain rfl := Option.some.inj H0
  exact endR1 rfl hst hb (res_tmp (s := 2)) (hst.at 0 rfl)
end Go.CL

set_option linter.unusedVariables false
set_option linter.unusedSimpArgs false
set_option maxRecDepth 100000
namespace Go.CL
open Go Go.RowKit Go.Proofs
theorem moietyref01_below_ok (a0 : Nat) {r : Bool} (h : moietyref01_below a0 = some r) : FnOk Tryd.prog 91 [(pFlt a0)] (pBool r) := by
  have H0 := h
  unfold moietyref01_below at H0
  clear h
  refine fn_ok (N := 10) Tryd.func91 rfl rfl (Nat.le_of_ble_eq_true rfl) rfl rfl (fun a g0 hst hb => ?_)
  refine r_s (L := [(0, _)]) (T := [⟨[], _, [], [], [2]⟩]) (F := [.old 0]) hst hb follows
    (o_p rfl (ob_assign rfl rfl c_b) <|
     o_n) (by kernel_rfl) (fun a g hst hb => ?_)
  refine wp_seq ?_
  refine r_s (L := [(0, _)]) (T := [⟨[.old 0], _, [], [], [3]⟩, ⟨[.op 0 0], _, [], [0], [4]⟩]) (F := [.old 0, .op 1 0]) hst hb follows
    (o_p rfl (ob_move rfl rfl u_0) <|
     o_p rfl (ob_feql rfl rfl u_0 c_f) <|
     o_n) (by kernel_rfl) (fun a g hst hb => ?_)
  refine wp_cond_split (hst.bool 1 rfl) (fun hc1 => ?_) (fun hc1 => ?_)
  · replace H0 := ite_t hc1 H0
    obtain ⟨f2, h3, H0⟩ := of_bind H0
    refine r_s (L := [(0, _)]) (T := [⟨[.old 0], _, [], [], [5]⟩, ⟨[.op 0 0], _, [], [0], [6]⟩, ⟨[.op 1 0], _, [], [0, 1], [7]⟩, ⟨[.op 2 0], _, [], [0, 1, 2], [2]⟩]) (F := [.op 3 0]) (hst.pick [0] rfl) hb follows
      (o_p rfl (ob_move rfl rfl u_0) <|
       o_p rfl (ob_fquo rfl rfl c_f u_0 h3) <|
       o_p rfl (ob_flss rfl rfl u_0 c_f) <|
       o_p rfl (ob_assign rfl rfl u_0) <|
       o_n) (by kernel_rfl) (fun a g hst hb => ?_)
    refine wp_ret ?_
    refine then_r ?_
    obtain rfl := Option.some.inj H0
    exact endR1 rfl hst hb (res_tmp (s := 2)) (hst.at 0 rfl)
  · replace H0 := ite_f hc1 H0
    refine wp_skip ?_
    refine then_n ?_
    refine r_s (L := [(0, _)]) (T := [⟨[.old 0], _, [], [], [8]⟩, ⟨[.op 0 0], _, [], [0], [9]⟩, ⟨[.op 1 0], _, [], [0, 1], [2]⟩]) (F := [.op 2 0]) (hst.pick [0] rfl) hb follows
      (o_p rfl (ob_move rfl rfl u_0) <|
       o_p rfl (ob_flss rfl rfl u_0 c_f) <|
       o_p rfl (ob_assign rfl rfl u_0) <|
       o_n) (by kernel_rfl) (fun a g hst hb => ?_)
    refine wp_ret ?_
    obtain rfl := Option.some.inj H0
    exact endR1 rfl hst hb (res_tmp (s := 2)) (hst.at 0 rfl)
end Go.CL

set_option linter.unusedVariables false
set_option linter.unusedSimpArgs false
set_option maxRecDepth 100000
namespace Go.CL
open Go Go.RowKit Go.Proofs
theorem moietyref01_Less_ok (a0 : Nat) (a1 : Nat) {r : Bool} (h : moietyref01_Less a0 a1 = some r) : FnOk Tryd.prog 75 [(pFlt a0), (pFlt a1)] (pBool r) := by
  have H0 := h
  unfold moietyref01_Less at H0
  clear h
  refine fn_ok (N := 25) Tryd.func75 rfl rfl (Nat.le_of_ble_eq_true rfl) rfl rfl (fun a g0 hst hb => ?_)
  refine r_s (L := [(0, _), (1, _)]) (T := [⟨[], _, [], [], [4]⟩]) (F := [.old 0, .old 1]) hst hb follows
    (o_p rfl (ob_assign rfl rfl c_b) <|
     o_n) (by kernel_rfl) (fun a g hst hb => ?_)
  refine wp_seq ?_
  obtain ⟨r1, h2, H0⟩ := of_bind H0
  refine r_s (L := [(0, _), (1, _)]) (T := [⟨[.old 0], _, [], [], [5]⟩, ⟨[.op 0 0], _, [], [0], [6]⟩]) (F := [.old 0, .old 1, .op 1 0]) hst hb follows
    (o_p rfl (ob_move rfl rfl u_0) <|
     o_p rfl (ob_call en_78 (moietyref01_none_ok _ h2) rfl rfl (.cons u_0 .nil)) <|
     o_n) (by kernel_rfl) (fun a g hst hb => ?_)
  refine wp_cond_split (hst.bool 2 rfl) (fun hc3 => ?_) (fun hc3 => ?_)
  · replace H0 := ite_t hc3 H0
    refine r_s (L := []) (T := [⟨[], _, [], [], [4]⟩]) (F := [.op 0 0]) (hst.pick [] rfl) hb follows
      (o_p rfl (ob_assign rfl rfl c_b) <|
       o_n) (by kernel_rfl) (fun a g hst hb => ?_)
    refine wp_ret ?_
    refine then_r ?_
    obtain rfl := Option.some.inj H0
    exact endR1 rfl hst hb (res_tmp (s := 4)) (hst.at 0 rfl)
  · replace H0 := ite_f hc3 H0
    refine wp_skip ?_
    refine then_n ?_
    refine wp_seq ?_
    obtain ⟨r4, h5, H0⟩ := of_bind H0
    refine r_s (L := [(0, _), (1, _)]) (T := [⟨[.old 1], _, [], [], [7]⟩, ⟨[.op 0 0], _, [], [0], [8]⟩]) (F := [.old 0, .old 1, .op 1 0]) (hst.pick [0, 1] rfl) hb follows
      (o_p rfl (ob_move rfl rfl u_0) <|
       o_p rfl (ob_call en_78 (moietyref01_none_ok _ h5) rfl rfl (.cons u_0 .nil)) <|
       o_n) (by kernel_rfl) (fun a g hst hb => ?_)
    refine wp_cond_split (hst.bool 2 rfl) (fun hc6 => ?_) (fun hc6 => ?_)
    · replace H0 := ite_t hc6 H0
      refine r_s (L := []) (T := [⟨[], _, [], [], [4]⟩]) (F := [.op 0 0]) (hst.pick [] rfl) hb follows
        (o_p rfl (ob_assign rfl rfl c_b) <|
         o_n) (by kernel_rfl) (fun a g hst hb => ?_)
      refine wp_ret ?_
      refine then_r ?_
      obtain rfl := Option.some.inj H0
      exact endR1 rfl hst hb (res_tmp (s := 4)) (hst.at 0 rfl)
    · replace H0 := ite_f hc6 H0
      refine wp_skip ?_
      refine then_n ?_
      refine wp_seq ?_
      refine r_s (L := [(0, _), (1, _)]) (T := [⟨[.old 0], _, [], [], [9]⟩, ⟨[.op 0 0], _, [], [0], [10]⟩, ⟨[.op 1 0], _, [], [0, 1], [11]⟩, ⟨[.op 2 0, .old 1], _, [], [0, 1, 2], [12]⟩, ⟨[.op 2 0, .op 3 0], _, [], List.range 4, [13]⟩, ⟨[.op 2 0, .op 4 0], _, [], List.range 5, [14]⟩]) (F := [.old 0, .old 1, .op 5 0]) (hst.pick [0, 1] rfl) hb follows
        (o_p rfl (ob_move rfl rfl u_0) <|
         o_p rfl (ob_feql rfl rfl u_0 c_f) <|
         o_p rfl (ob_move rfl rfl u_0) <|
         o_g (g_t rfl rfl rfl (fun hG => ob_move rfl rfl u_0)) <|
         o_g (g_t rfl rfl rfl (fun hG => ob_feql rfl rfl (Opd.gd hG u_0) c_f)) <|
         o_p rfl (ob_pand rfl rfl u_0 (fun hz => (Opd.gd hz u_1))) <|
         o_n) (by kernel_rfl) (fun a g hst hb => ?_)
      refine wp_cond_split (hst.bool 2 rfl) (fun hc7 => ?_) (fun hc7 => ?_)
      · replace H0 := ite_t hc7 H0
        obtain ⟨r8, h9, H0⟩ := of_bind H0; obtain ⟨r10, h11, H0⟩ := of_bind H0
        refine r_s (L := [(0, _), (1, _)]) (T := [⟨[.old 0], _, [], [], [15]⟩, ⟨[.op 0 0], _, [], [0], [16]⟩, ⟨[.op 1 0], _, [], [0, 1], [17]⟩, ⟨[.op 2 0, .old 1], _, [], [0, 1, 2], [18]⟩, ⟨[.op 2 0, .op 3 0], _, [], List.range 4, [19]⟩, ⟨[.op 2 0, .op 4 0], _, [], List.range 5, [20]⟩, ⟨[.op 2 0, .op 5 0], _, [], List.range 6, [21]⟩, ⟨[.op 6 0], _, [], List.range 7, [4]⟩]) (F := [.op 7 0]) (hst.pick [0, 1] rfl) hb follows
          (o_p rfl (ob_move rfl rfl u_0) <|
           o_p rfl (ob_call en_91 (moietyref01_below_ok _ h9) rfl rfl (.cons u_0 .nil)) <|
           o_p rfl (ob_move rfl rfl u_0) <|
           o_g (g_t rfl rfl rfl (fun hG => ob_move rfl rfl u_0)) <|
           o_g (g_t rfl rfl rfl (fun hG => ob_call en_91 (moietyref01_below_ok _ (gd_true h11 hG)) rfl rfl (.cons (Opd.gd hG u_0) .nil))) <|
           o_g (g_t rfl rfl rfl (fun hG => ob_not rfl rfl (Opd.gd hG u_0))) <|
           o_p rfl (ob_pand rfl rfl u_0 (fun hz => (Opd.gd hz u_1))) <|
           o_p rfl (ob_assign rfl rfl u_0) <|
           o_n) (by kernel_rfl) (fun a g hst hb => ?_)
        refine wp_ret ?_
        refine then_r ?_
        obtain rfl := Option.some.inj H0
        exact endR1 rfl hst hb (res_tmp (s := 4)) (hst.at 0 rfl)
      · replace H0 := ite_f hc7 H0
        refine wp_skip ?_
        refine then_n ?_
        refine r_s (L := [(0, _), (1, _)]) (T := [⟨[.old 0], _, [], [], [22]⟩, ⟨[.old 1], _, [], [], [23]⟩, ⟨[.op 0 0, .op 1 0], _, [], [0, 1], [24]⟩, ⟨[.op 2 0], _, [], [0, 1, 2], [4]⟩]) (F := [.op 3 0]) (hst.pick [0, 1] rfl) hb follows
          (o_p rfl (ob_move rfl rfl u_0) <|
           o_p rfl (ob_move rfl rfl u_0) <|
           o_p rfl (ob_flss rfl rfl u_0 u_1) <|
           o_p rfl (ob_assign rfl rfl u_0) <|
           o_n) (by kernel_rfl) (fun a g hst hb => ?_)
        refine wp_ret ?_
        obtain rfl := Option.some.inj H0
        exact endR1 rfl hst hb (res_tmp (s := 4)) (hst.at 0 rfl)
end Go.CL

set_option linter.unusedVariables false
set_option linter.unusedSimpArgs false
set_option maxRecDepth 100000
namespace Go.CL
open Go Go.RowKit Go.Proofs
theorem moietyref01_Same_ok (a0 : Nat) (a1 : Nat) {r : Bool} (h : moietyref01_Same a0 a1 = some r) : FnOk Tryd.prog 32 [(pFlt a0), (pFlt a1)] (pBool r) := by
  have H0 := h
  unfold moietyref01_Same at H0
  clear h
  refine fn_ok (N := 15) Tryd.func32 rfl rfl (Nat.le_of_ble_eq_true rfl) rfl rfl (fun a g0 hst hb => ?_)
  refine r_s (L := [(0, _), (1, _)]) (T := [⟨[], _, [], [], [4]⟩]) (F := [.old 0, .old 1]) hst hb follows
    (o_p rfl (ob_assign rfl rfl c_b) <|
     o_n) (by kernel_rfl) (fun a g hst hb => ?_)
  obtain ⟨r1, h2, H0⟩ := of_bind H0; obtain ⟨r3, h4, H0⟩ := of_bind H0
  refine r_s (L := [(0, _), (1, _)]) (T := [⟨[.old 0], _, [], [], [5]⟩, ⟨[.old 1], _, [], [], [6]⟩, ⟨[.op 0 0, .op 1 0], _, [], [0, 1], [7]⟩, ⟨[.op 2 0], _, [], [0, 1, 2], [8]⟩, ⟨[.op 3 0], _, [], List.range 4, [9]⟩, ⟨[.op 4 0, .old 1], _, [], List.range 5, [10]⟩, ⟨[.op 4 0, .old 0], _, [], List.range 5, [11]⟩, ⟨[.op 4 0, .op 5 0, .op 6 0], _, [], List.range 7, [12]⟩, ⟨[.op 4 0, .op 7 0], _, [], List.range 8, [13]⟩, ⟨[.op 4 0, .op 8 0], _, [], List.range 9, [14]⟩, ⟨[.op 9 0], _, [], List.range 10, [4]⟩]) (F := [.op 10 0]) hst hb follows
    (o_p rfl (ob_move rfl rfl u_0) <|
     o_p rfl (ob_move rfl rfl u_0) <|
     o_p rfl (ob_call en_75 (moietyref01_Less_ok _ _ h2) rfl rfl (.cons u_0 (.cons u_1 .nil))) <|
     o_p rfl (ob_not rfl rfl u_0) <|
     o_p rfl (ob_move rfl rfl u_0) <|
     o_g (g_t rfl rfl rfl (fun hG => ob_move rfl rfl u_0)) <|
     o_g (g_t rfl rfl rfl (fun hG => ob_move rfl rfl u_0)) <|
     o_g (g_t rfl rfl rfl (fun hG => ob_call en_75 (moietyref01_Less_ok _ _ (gd_true h4 hG)) rfl rfl (.cons (Opd.gd hG u_0) (.cons (Opd.gd hG u_1) .nil)))) <|
     o_g (g_t rfl rfl rfl (fun hG => ob_not rfl rfl (Opd.gd hG u_0))) <|
     o_p rfl (ob_pand rfl rfl u_0 (fun hz => (Opd.gd hz u_1))) <|
     o_p rfl (ob_assign rfl rfl u_0) <|
     o_n) (by kernel_rfl) (fun a g hst hb => ?_)
  refine wp_ret ?_
  obtain rfl := Option.some.inj H0
  exact endR1 rfl hst hb (res_tmp (s := 4)) (hst.at 0 rfl)
end Go.CL

set_option linter.unusedVariables false
set_option linter.unusedSimpArgs false
set_option maxRecDepth 100000
namespace Go.CL
open Go Go.RowKit Go.Proofs
theorem moietyref03_zero_ok (a0 : Nat) {r : Bool} (h : moietyref03_zero a0 = some r) : FnOk Tryd.prog 77 [(pFlt a0)] (pBool r) := by
  have H0 := h
  unfold moietyref03_zero at H0
  clear h
  refine fn_ok (N := 5) Tryd.func77 rfl rfl (Nat.le_of_ble_eq_true rfl) rfl rfl (fun a g0 hst hb => ?_)
  refine r_s (L := [(0, _)]) (T := [⟨[], _, [], [], [2]⟩]) (F := [.old 0]) hst hb follows
    (o_p rfl (ob_assign rfl rfl c_b) <|
     o_n) (by kernel_rfl) (fun a g hst hb => ?_)
  obtain ⟨r1, h2, H0⟩ := of_bind H0
  refine r_s (L := [(0, _)]) (T := [⟨[.old 0], _, [], [], [3]⟩, ⟨[.op 0 0], _, [], [0], [4]⟩, ⟨[.op 1 0], _, [], [0, 1], [2]⟩]) (F := [.op 2 0]) hst hb follows
    (o_p rfl (ob_move rfl rfl u_0) <|
     o_p rfl (ob_call en_32 (moietyref01_Same_ok _ _ h2) rfl rfl (.cons u_0 (.cons c_f .nil))) <|
     o_p rfl (ob_assign rfl rfl u_0) <|
     o_n) (by kernel_rfl) (fun a g hst hb => ?_)
  refine wp_ret ?_
  obtain rfl := Option.some.inj H0
  exact endR1 rfl hst hb (res_tmp (s := 2)) (hst.at 0 rfl)
end Go.CL

set_option linter.unusedVariables false
set_option linter.unusedSimpArgs false
set_option maxRecDepth 100000
namespace Go.CL
open Go Go.RowKit Go.Proofs
theorem moietyref03_only_ok (a0 : api_Record) (a1 : ByteArray) {r : Bool} (h : moietyref03_only a0 a1 = some r) : FnOk Tryd.prog 36 [(k_api_Record.pd a0), (pStr a1)] (pBool r) := by
  have H0 := h
  unfold moietyref03_only at H0
  clear h
  refine fn_ok (N := 106) Tryd.func36 rfl rfl (Nat.le_of_ble_eq_true rfl) rfl rfl (fun a g0 hst hb => ?_)
  refine r_s (L := [(0, _), (1, _)]) (T := [⟨[.old 0], _, [], [], [2]⟩, ⟨[], _, [], [], [4]⟩]) (F := [.old 1, .op 0 0]) hst hb follows
    (o_p rfl (ob_box1 rfl rfl u_0) <|
     o_p rfl (ob_assign rfl rfl c_b) <|
     o_n) (by kernel_rfl) (fun a g hst hb => ?_)
  refine r_s (L := [(1, _), (2, _)]) (T := [⟨[], _, [], [], [5]⟩, ⟨[], _, [], [0], [6]⟩, ⟨[], _, [], [0, 1], [7]⟩, ⟨[], _, [], [0, 1, 2], [8]⟩, ⟨[], _, [], List.range 4, [9]⟩]) (F := [.old 0, .old 1, .op 0 0, .op 1 0, .op 2 0, .op 3 0, .op 4 0]) hst hb follows
    (o_p rfl (ob_assign rfl rfl c_b) <|
     o_p rfl (ob_assign rfl rfl c_b) <|
     o_p rfl (ob_assign rfl rfl c_b) <|
     o_p rfl (ob_assign rfl rfl c_b) <|
     o_p rfl (ob_assign rfl rfl c_b) <|
     o_n) (by kernel_rfl) (fun a g hst hb => ?_)
  refine wp_seq ?_
  refine r_s (L := [(1, _), (2, _), (5, _), (6, _), (7, _), (8, _), (9, _)]) (T := [⟨[], _, [], [], [10]⟩]) (F := [.old 0, .old 1, .old 2, .old 3, .old 4, .old 5, .old 6, .op 0 0]) hst hb follows
    (o_p rfl (ob_assign rfl rfl c_i) <|
     o_n) (by kernel_rfl) (fun a g hst hb => ?_)
  obtain ⟨z23, hz1, H0⟩ := of_bind H0
  refine wp_cut (fun a w => ∃ (y18 : Bool) (y19 : Bool) (y20 : Bool) (y21 : Bool) (y22 : Bool) (g : G), w = g.w ∧ St 106 [(2, (k_api_Record.ptr a0)), (5, (pBool y18)), (6, (pBool y19)), (7, (pBool y20)), (8, (pBool y21)), (9, (pBool y22))] a g ∧ Base g0 g ∧ (y18, y19, y20, y21, y22) = z23) ?_ ?_
  · rintro a w ⟨y18, y19, y20, y21, y22, g, rfl, hst, hb, rfl⟩
    refine then_n ?_
    refine wp_seq ?_
    refine r_s (L := [(2, _), (5, _), (6, _), (7, _), (8, _), (9, _)]) (T := ⟨[.old 1], _, [], [], [52]⟩ :: ⟨[.op 0 0], _, [], [0], [53]⟩ :: ⟨[.op 1 0], _, [], [0, 1], [54]⟩ :: ⟨[.op 2 0, .old 0], _, [], [0, 1, 2], [55]⟩ :: ⟨[.op 2 0, .op 3 0], _, [], List.range 4, [56]⟩ :: ⟨[.op 2 0, .op 4 0], _, [], List.range 5, [57]⟩ :: ⟨[.op 2 0, .op 5 0], _, [], List.range 6, [58]⟩ :: ⟨[.op 6 0], _, [], List.range 7, [59]⟩ :: ⟨[.op 7 0, .old 2], _, [], List.range 8, [60]⟩ :: ⟨[.op 7 0, .op 8 0], _, [], List.range 9, [61]⟩ :: ⟨[.op 7 0, .op 9 0], _, [], List.range 10, [62]⟩ :: ⟨[.op 10 0, .old 0], _, [], List.range 11, [63]⟩ :: ⟨[.op 10 0, .op 11 0], _, [], List.range 12, [64]⟩ :: ⟨[.op 10 0, .op 12 0], _, [], List.range 13, [65]⟩ :: ⟨[.op 7 0, .op 10 0, .op 13 0], _, [], List.range 14, [66]⟩ :: ⟨[.op 7 0, .op 14 0], _, [], List.range 15, [67]⟩ :: ⟨[.op 15 0], _, [], List.range 16, [68]⟩ :: ⟨[.op 16 0, .old 3], _, [], List.range 17, [69]⟩ :: ⟨[.op 16 0, .op 17 0], _, [], List.range 18, [70]⟩ :: ⟨[.op 16 0, .op 18 0], _, [], List.range 19, [71]⟩ :: ⟨[.op 19 0, .old 0], _, [], List.range 20, [72]⟩ :: ⟨[.op 19 0, .op 20 0], _, [], List.range 21, [73]⟩ :: ⟨[.op 19 0, .op 21 0], _, [], List.range 22, [74]⟩ :: ⟨[.op 16 0, .op 19 0, .op 22 0], _, [], List.range 23, [75]⟩ :: ⟨[.op 16 0, .op 23 0], _, [], List.range 24, [76]⟩ :: ⟨[.op 24 0], _, [], List.range 25, [77]⟩ :: ⟨[.op 25 0, .old 3], _, [], List.range 26, [78]⟩ :: ⟨[.op 25 0, .op 26 0], _, [], List.range 27, [79]⟩ :: ⟨[.op 25 0, .op 27 0], _, [], List.range 28, [80]⟩ :: ⟨[.op 28 0, .old 0], _, [], List.range 29, [81]⟩ :: ⟨[.op 28 0, .op 29 0], _, [], List.range 30, [82]⟩ :: ⟨[.op 28 0, .op 30 0], _, [], List.range 31, [83]⟩ :: ⟨[.op 25 0, .op 28 0, .op 31 0], _, [], List.range 32, [84]⟩ :: ⟨[.op 25 0, .op 32 0], _, [], List.range 33, [85]⟩ :: []) (F := [.old 0, .old 4, .old 5, .op 33 0]) hst hb follows
      (o_p rfl (ob_move rfl rfl u_0) <|
       o_p rfl (ob_not rfl rfl u_0) <|
       o_p rfl (ob_move rfl rfl u_0) <|
       o_g (g_t rfl rfl rfl (fun hG => ob_fieldAddr fl_25_6 rfl rfl u_0)) <|
       o_g (g_t rfl rfl rfl (fun hG => ob_load ty_9 rfl rfl (Opd.gd hG u_0))) <|
       o_g (g_t rfl rfl rfl (fun hG => ob_sne rfl rfl (Opd.gd hG u_0) c_s)) <|
       o_p rfl (ob_pand rfl rfl u_0 (fun hz => (Opd.gd hz u_1))) <|
       o_p rfl (ob_move rfl rfl u_0) <|
       o_g (g_f rfl rfl rfl (fun hG => ob_move rfl rfl u_0)) <|
       o_g (g_f rfl rfl rfl (fun hG => ob_not rfl rfl (Opd.gd hG u_0))) <|
       o_g (g_f rfl rfl rfl (fun hG => ob_move rfl rfl (Opd.gd hG u_0))) <|
       o_g (g_ti rfl rfl rfl (fun hG => ob_fieldAddr fl_25_1 rfl rfl u_0)) <|
       o_g (g_ti rfl rfl rfl (fun hG => ob_load ty_2 rfl rfl (Opd.gd hG u_0))) <|
       o_g (g_ti rfl rfl rfl (fun hG => ob_ne rfl rfl (Opd.gd hG u_0) c_i)) <|
       o_g (g_f rfl rfl rfl (fun hG => ob_pand rfl rfl (Opd.gd hG u_0) (fun hz => (Opd.gd (bA hG hz) u_1)))) <|
       o_p rfl (ob_por rfl rfl u_0 (fun hz => (Opd.gd (bNF hz) u_1))) <|
       o_p rfl (ob_move rfl rfl u_0) <|
       o_g (g_f rfl rfl rfl (fun hG => ob_move rfl rfl u_0)) <|
       o_g (g_f rfl rfl rfl (fun hG => ob_not rfl rfl (Opd.gd hG u_0))) <|
       o_g (g_f rfl rfl rfl (fun hG => ob_move rfl rfl (Opd.gd hG u_0))) <|
       o_g (g_ti rfl rfl rfl (fun hG => ob_fieldAddr fl_25_2 rfl rfl u_0)) <|
       o_g (g_ti rfl rfl rfl (fun hG => ob_load ty_2 rfl rfl (Opd.gd hG u_0))) <|
       o_g (g_ti rfl rfl rfl (fun hG => ob_ne rfl rfl (Opd.gd hG u_0) c_i)) <|
       o_g (g_f rfl rfl rfl (fun hG => ob_pand rfl rfl (Opd.gd hG u_0) (fun hz => (Opd.gd (bA hG hz) u_1)))) <|
       o_p rfl (ob_por rfl rfl u_0 (fun hz => (Opd.gd (bNF hz) u_1))) <|
       o_p rfl (ob_move rfl rfl u_0) <|
       o_g (g_f rfl rfl rfl (fun hG => ob_move rfl rfl u_0)) <|
       o_g (g_f rfl rfl rfl (fun hG => ob_not rfl rfl (Opd.gd hG u_0))) <|
       o_g (g_f rfl rfl rfl (fun hG => ob_move rfl rfl (Opd.gd hG u_0))) <|
       o_g (g_ti rfl rfl rfl (fun hG => ob_fieldAddr fl_25_3 rfl rfl u_0)) <|
       o_g (g_ti rfl rfl rfl (fun hG => ob_load ty_2 rfl rfl (Opd.gd hG u_0))) <|
       o_g (g_ti rfl rfl rfl (fun hG => ob_ne rfl rfl (Opd.gd hG u_0) c_i)) <|
       o_g (g_f rfl rfl rfl (fun hG => ob_pand rfl rfl (Opd.gd hG u_0) (fun hz => (Opd.gd (bA hG hz) u_1)))) <|
       o_p rfl (ob_por rfl rfl u_0 (fun hz => (Opd.gd (bNF hz) u_1))) <|
       o_n) (by kernel_rfl) (fun a g hst hb => ?_)
    refine wp_cond_split (hst.bool 3 rfl) (fun hc24 => ?_) (fun hc24 => ?_)
    · replace H0 := ite_t hc24 H0
      refine r_s (L := []) (T := [⟨[], _, [], [], [4]⟩]) (F := [.op 0 0]) (hst.pick [] rfl) hb follows
        (o_p rfl (ob_assign rfl rfl c_b) <|
         o_n) (by kernel_rfl) (fun a g hst hb => ?_)
      refine wp_ret ?_
      refine then_r ?_
      obtain rfl := Option.some.inj H0
      exact endR1 rfl hst hb (res_tmp (s := 4)) (hst.at 0 rfl)
    · replace H0 := ite_f hc24 H0
      refine wp_skip ?_
      refine then_n ?_
      obtain ⟨r25, h26, H0⟩ := of_bind H0
      refine r_s (L := [(2, _), (8, _), (9, _)]) (T := ⟨[.old 1], _, [], [], [86]⟩ :: ⟨[.op 0 0], _, [], [0], [87]⟩ :: ⟨[.op 1 0, .old 0], _, [], [0, 1], [88]⟩ :: ⟨[.op 1 0, .op 2 0], _, [], [0, 1, 2], [89]⟩ :: ⟨[.op 1 0, .op 3 0], _, [], List.range 4, [90]⟩ :: ⟨[.op 1 0, .op 4 0], _, [], List.range 5, [91]⟩ :: ⟨[.op 5 0], _, [], List.range 6, [92]⟩ :: ⟨[.op 6 0, .old 2], _, [], List.range 7, [93]⟩ :: ⟨[.op 6 0, .op 7 0], _, [], List.range 8, [94]⟩ :: ⟨[.op 8 0, .old 0], _, [], List.range 9, [95]⟩ :: ⟨[.op 8 0, .op 9 0], _, [], List.range 10, [96]⟩ :: ⟨[.op 8 0, .op 10 0], _, [], List.range 11, [97]⟩ :: ⟨[.op 8 0, .op 11 0], _, [], List.range 12, [98]⟩ :: ⟨[.op 12 0, .old 0], _, [], List.range 13, [99]⟩ :: ⟨[.op 12 0, .op 13 0], _, [], List.range 14, [100]⟩ :: ⟨[.op 12 0, .op 14 0], _, [], List.range 15, [101]⟩ :: ⟨[.op 12 0, .op 15 0], _, [], List.range 16, [102]⟩ :: ⟨[.op 8 0, .op 12 0, .op 16 0], _, [], List.range 17, [103]⟩ :: ⟨[.op 6 0, .op 8 0, .op 17 0], _, [], List.range 18, [104]⟩ :: ⟨[.op 6 0, .op 18 0], _, [], List.range 19, [105]⟩ :: ⟨[.op 19 0], _, [], List.range 20, [4]⟩ :: []) (F := [.op 20 0]) (hst.pick [0, 1, 2] rfl) hb follows
        (o_p rfl (ob_move rfl rfl u_0) <|
         o_p rfl (ob_move rfl rfl u_0) <|
         o_g (g_f rfl rfl rfl (fun hG => ob_fieldAddr fl_25_4 rfl rfl u_0)) <|
         o_g (g_f rfl rfl rfl (fun hG => ob_load ty_22 rfl rfl (Opd.gd hG u_0))) <|
         o_g (g_f rfl rfl rfl (fun hG => ob_call en_77 (moietyref03_zero_ok _ (gd_true h26 hG)) rfl rfl (.cons (Opd.gd hG u_0) .nil))) <|
         o_p rfl (ob_por rfl rfl u_0 (fun hz => (Opd.gd (bNF hz) u_1))) <|
         o_p rfl (ob_move rfl rfl u_0) <|
         o_g (g_t rfl rfl rfl (fun hG => ob_move rfl rfl u_0)) <|
         o_g (g_t rfl rfl rfl (fun hG => ob_move rfl rfl (Opd.gd hG u_0))) <|
         o_g (g_fi rfl rfl rfl (fun hG => ob_fieldAddr fl_25_5 rfl rfl u_0)) <|
         o_g (g_fi rfl rfl rfl (fun hG => ob_load ty_3 rfl rfl (Opd.gd hG u_0))) <|
         o_g (g_fi rfl rfl rfl (fun hG => ob_eq rfl rfl (Opd.gd hG u_0) c_i)) <|
         o_g (g_fi rfl rfl rfl (fun hG => ob_move rfl rfl (Opd.gd hG u_0))) <|
         o_g (g_ti rfl rfl rfl (fun hG => ob_fieldAddr fl_25_7 rfl rfl u_0)) <|
         o_g (g_ti rfl rfl rfl (fun hG => ob_load ty_23 rfl rfl (Opd.gd hG u_0))) <|
         o_g (g_ti rfl rfl rfl (fun hG => ob_lenL Tryd.underlying23 rfl rfl (Opd.gd hG u_0))) <|
         o_g (g_ti rfl rfl rfl (fun hG => ob_eq rfl rfl (Opd.gd hG u_0) c_i)) <|
         o_g (g_fi rfl rfl rfl (fun hG => ob_pand rfl rfl (Opd.gd hG u_0) (fun hz => (Opd.gd (bA hG hz) u_1)))) <|
         o_g (g_t rfl rfl rfl (fun hG => ob_por rfl rfl (Opd.gd hG u_0) (fun hz => (Opd.gd (bA hG (bNF hz)) u_1)))) <|
         o_p rfl (ob_pand rfl rfl u_0 (fun hz => (Opd.gd hz u_1))) <|
         o_p rfl (ob_assign rfl rfl u_0) <|
         o_n) (by kernel_rfl) (fun a g hst hb => ?_)
      refine wp_ret ?_
      obtain rfl := Option.some.inj H0
      exact endR1 rfl hst hb (res_tmp (s := 4)) (hst.at 0 rfl)
  · refine wp_block ?_
    refine wp_loop_ghost (fun n a w => ∃ (x1 : Bool) (x2 : Bool) (x3 : Bool) (x4 : Bool) (x5 : Bool) (x6 : Int) (g : G), w = g.w ∧ St 106 [(1, (pStr a1)), (2, (k_api_Record.ptr a0)), (5, (pBool x1)), (6, (pBool x2)), (7, (pBool x3)), (8, (pBool x4)), (9, (pBool x5)), (10, (pInt .i64 x6))] a g ∧ Base g0 g ∧ moietyref03_only_l1 a1 n x1 x2 x3 x4 x5 x6 = some z23) (Int.toNat ((a1.size : Int) - (0 : Int)) + 1) ⟨false, false, false, false, false, (0 : Int), g, rfl, (hst.pick [0, 1, 2, 3, 4, 5, 6, 7] rfl), hb, hz1⟩ (fun n a w hI => ?_)
    obtain ⟨x1, x2, x3, x4, x5, x6, g, rfl, hst, hb, H1⟩ := hI
    cases n with
    | zero => exact absurd H1 (by simp [moietyref03_only_l1])
    | succ n =>
      rw [moietyref03_only_l1] at H1
      refine wp_seq ?_
      refine r_s (L := [(1, _), (2, _), (5, _), (6, _), (7, _), (8, _), (9, _), (10, _)]) (T := [⟨[.old 7], _, [], [], [11]⟩, ⟨[.old 0], _, [], [], [12]⟩, ⟨[.op 1 0], _, [], [1], [13]⟩, ⟨[.op 0 0, .op 2 0], _, [], [0, 1, 2], [14]⟩]) (F := [.old 0, .old 1, .old 2, .old 3, .old 4, .old 5, .old 6, .old 7, .op 3 0]) hst hb follows
        (o_p rfl (ob_move rfl rfl u_0) <|
         o_p rfl (ob_move rfl rfl u_0) <|
         o_p rfl (ob_lenS Tryd.underlying9 rfl rfl u_0) <|
         o_p rfl (ob_lt rfl rfl u_0 u_1) <|
         o_n) (by kernel_rfl) (fun a g hst hb => ?_)
      refine wp_cond_split (hst.bool 8 rfl) (fun hc7 => ?_) (fun hc7 => ?_)
      · replace H1 := ite_t hc7 H1
        refine wp_skip ?_
        refine then_n ?_
        refine wp_seq ?_
        refine wp_block ?_
        obtain ⟨b8, h9, H1⟩ := of_bind H1
        refine r_s (L := [(1, _), (2, _), (5, _), (6, _), (7, _), (8, _), (9, _), (10, _)]) (T := [⟨[.old 2], _, [], [], [17]⟩, ⟨[.op 0 0], _, [], [0], [18]⟩, ⟨[.op 1 0, .old 0], _, [], [0, 1], [19]⟩, ⟨[.op 1 0, .old 7], _, [], [0, 1], [20]⟩, ⟨[.op 1 0, .op 2 0, .op 3 0], _, [], List.range 4, [21]⟩, ⟨[.op 1 0, .op 4 0], _, [], List.range 5, [22]⟩, ⟨[.op 1 0, .op 5 0], _, [], List.range 6, [23]⟩, ⟨[.op 6 0], _, [], List.range 7, [5]⟩]) (F := [.old 0, .old 1, .op 7 0, .old 3, .old 4, .old 5, .old 6, .old 7]) (hst.pick [0, 1, 2, 3, 4, 5, 6, 7] rfl) hb follows
          (o_p rfl (ob_move rfl rfl u_0) <|
           o_p rfl (ob_move rfl rfl u_0) <|
           o_g (g_f rfl rfl rfl (fun hG => ob_move rfl rfl u_0)) <|
           o_g (g_f rfl rfl rfl (fun hG => ob_move rfl rfl u_0)) <|
           o_g (g_f rfl rfl rfl (fun hG => ob_sidx Tryd.underlying9 rfl rfl (Opd.gd hG u_0) (Opd.gd hG u_1) (gd_true h9 hG))) <|
           o_g (g_f rfl rfl rfl (fun hG => ob_eq rfl rfl (Opd.gd hG u_0) c_i)) <|
           o_p rfl (ob_por rfl rfl u_0 (fun hz => (Opd.gd (bNF hz) u_1))) <|
           o_p rfl (ob_assign rfl rfl u_0) <|
           o_n) (by kernel_rfl) (fun a g hst hb => ?_)
        obtain ⟨b10, h11, H1⟩ := of_bind H1
        refine r_s (L := [(1, _), (2, _), (5, _), (6, _), (7, _), (8, _), (9, _), (10, _)]) (T := [⟨[.old 3], _, [], [], [24]⟩, ⟨[.op 0 0], _, [], [0], [25]⟩, ⟨[.op 1 0, .old 0], _, [], [0, 1], [26]⟩, ⟨[.op 1 0, .old 7], _, [], [0, 1], [27]⟩, ⟨[.op 1 0, .op 2 0, .op 3 0], _, [], List.range 4, [28]⟩, ⟨[.op 1 0, .op 4 0], _, [], List.range 5, [29]⟩, ⟨[.op 1 0, .op 5 0], _, [], List.range 6, [30]⟩, ⟨[.op 6 0], _, [], List.range 7, [6]⟩]) (F := [.old 0, .old 1, .old 2, .op 7 0, .old 4, .old 5, .old 6, .old 7]) hst hb follows
          (o_p rfl (ob_move rfl rfl u_0) <|
           o_p rfl (ob_move rfl rfl u_0) <|
           o_g (g_f rfl rfl rfl (fun hG => ob_move rfl rfl u_0)) <|
           o_g (g_f rfl rfl rfl (fun hG => ob_move rfl rfl u_0)) <|
           o_g (g_f rfl rfl rfl (fun hG => ob_sidx Tryd.underlying9 rfl rfl (Opd.gd hG u_0) (Opd.gd hG u_1) (gd_true h11 hG))) <|
           o_g (g_f rfl rfl rfl (fun hG => ob_eq rfl rfl (Opd.gd hG u_0) c_i)) <|
           o_p rfl (ob_por rfl rfl u_0 (fun hz => (Opd.gd (bNF hz) u_1))) <|
           o_p rfl (ob_assign rfl rfl u_0) <|
           o_n) (by kernel_rfl) (fun a g hst hb => ?_)
        obtain ⟨b12, h13, H1⟩ := of_bind H1
        refine r_s (L := [(1, _), (2, _), (5, _), (6, _), (7, _), (8, _), (9, _), (10, _)]) (T := [⟨[.old 4], _, [], [], [31]⟩, ⟨[.op 0 0], _, [], [0], [32]⟩, ⟨[.op 1 0, .old 0], _, [], [0, 1], [33]⟩, ⟨[.op 1 0, .old 7], _, [], [0, 1], [34]⟩, ⟨[.op 1 0, .op 2 0, .op 3 0], _, [], List.range 4, [35]⟩, ⟨[.op 1 0, .op 4 0], _, [], List.range 5, [36]⟩, ⟨[.op 1 0, .op 5 0], _, [], List.range 6, [37]⟩, ⟨[.op 6 0], _, [], List.range 7, [7]⟩]) (F := [.old 0, .old 1, .old 2, .old 3, .op 7 0, .old 5, .old 6, .old 7]) hst hb follows
          (o_p rfl (ob_move rfl rfl u_0) <|
           o_p rfl (ob_move rfl rfl u_0) <|
           o_g (g_f rfl rfl rfl (fun hG => ob_move rfl rfl u_0)) <|
           o_g (g_f rfl rfl rfl (fun hG => ob_move rfl rfl u_0)) <|
           o_g (g_f rfl rfl rfl (fun hG => ob_sidx Tryd.underlying9 rfl rfl (Opd.gd hG u_0) (Opd.gd hG u_1) (gd_true h13 hG))) <|
           o_g (g_f rfl rfl rfl (fun hG => ob_eq rfl rfl (Opd.gd hG u_0) c_i)) <|
           o_p rfl (ob_por rfl rfl u_0 (fun hz => (Opd.gd (bNF hz) u_1))) <|
           o_p rfl (ob_assign rfl rfl u_0) <|
           o_n) (by kernel_rfl) (fun a g hst hb => ?_)
        obtain ⟨b14, h15, H1⟩ := of_bind H1
        refine r_s (L := [(1, _), (2, _), (5, _), (6, _), (7, _), (8, _), (9, _), (10, _)]) (T := [⟨[.old 5], _, [], [], [38]⟩, ⟨[.op 0 0], _, [], [0], [39]⟩, ⟨[.op 1 0, .old 0], _, [], [0, 1], [40]⟩, ⟨[.op 1 0, .old 7], _, [], [0, 1], [41]⟩, ⟨[.op 1 0, .op 2 0, .op 3 0], _, [], List.range 4, [42]⟩, ⟨[.op 1 0, .op 4 0], _, [], List.range 5, [43]⟩, ⟨[.op 1 0, .op 5 0], _, [], List.range 6, [44]⟩, ⟨[.op 6 0], _, [], List.range 7, [8]⟩]) (F := [.old 0, .old 1, .old 2, .old 3, .old 4, .op 7 0, .old 6, .old 7]) hst hb follows
          (o_p rfl (ob_move rfl rfl u_0) <|
           o_p rfl (ob_move rfl rfl u_0) <|
           o_g (g_f rfl rfl rfl (fun hG => ob_move rfl rfl u_0)) <|
           o_g (g_f rfl rfl rfl (fun hG => ob_move rfl rfl u_0)) <|
           o_g (g_f rfl rfl rfl (fun hG => ob_sidx Tryd.underlying9 rfl rfl (Opd.gd hG u_0) (Opd.gd hG u_1) (gd_true h15 hG))) <|
           o_g (g_f rfl rfl rfl (fun hG => ob_eq rfl rfl (Opd.gd hG u_0) c_i)) <|
           o_p rfl (ob_por rfl rfl u_0 (fun hz => (Opd.gd (bNF hz) u_1))) <|
           o_p rfl (ob_assign rfl rfl u_0) <|
           o_n) (by kernel_rfl) (fun a g hst hb => ?_)
        obtain ⟨b16, h17, H1⟩ := of_bind H1
        refine r_g (L := [(1, _), (2, _), (5, _), (6, _), (7, _), (8, _), (9, _), (10, _)]) (T := [⟨[.old 6], _, [], [], [45]⟩, ⟨[.op 0 0], _, [], [0], [46]⟩, ⟨[.op 1 0, .old 0], _, [], [0, 1], [47]⟩, ⟨[.op 1 0, .old 7], _, [], [0, 1], [48]⟩, ⟨[.op 1 0, .op 2 0, .op 3 0], _, [], List.range 4, [49]⟩, ⟨[.op 1 0, .op 4 0], _, [], List.range 5, [50]⟩, ⟨[.op 1 0, .op 5 0], _, [], List.range 6, [51]⟩, ⟨[.op 6 0], _, [], List.range 7, [9]⟩]) (F := [.old 0, .old 1, .old 2, .old 3, .old 4, .old 5, .op 7 0, .old 7]) hst hb follows
          (o_p rfl (ob_move rfl rfl u_0) <|
           o_p rfl (ob_move rfl rfl u_0) <|
           o_g (g_f rfl rfl rfl (fun hG => ob_move rfl rfl u_0)) <|
           o_g (g_f rfl rfl rfl (fun hG => ob_move rfl rfl u_0)) <|
           o_g (g_f rfl rfl rfl (fun hG => ob_sidx Tryd.underlying9 rfl rfl (Opd.gd hG u_0) (Opd.gd hG u_1) (gd_true h17 hG))) <|
           o_g (g_f rfl rfl rfl (fun hG => ob_eq rfl rfl (Opd.gd hG u_0) c_i)) <|
           o_p rfl (ob_por rfl rfl u_0 (fun hz => (Opd.gd (bNF hz) u_1))) <|
           o_p rfl (ob_assign rfl rfl u_0) <|
           o_n) (by kernel_rfl) (fun a g hst hb => ?_)
        refine inBlock_n ?_
        refine then_n ?_
        refine r_g (L := [(1, _), (2, _), (5, _), (6, _), (7, _), (8, _), (9, _), (10, _)]) (T := [⟨[.old 7], _, [], [], [15]⟩, ⟨[.op 0 0], _, [], [0], [16]⟩, ⟨[.op 1 0], _, [], [0, 1], [10]⟩]) (F := [.old 0, .old 1, .old 2, .old 3, .old 4, .old 5, .old 6, .op 2 0]) hst hb follows
          (o_p rfl (ob_move rfl rfl u_0) <|
           o_p rfl (ob_add rfl rfl u_0 c_i rfl) <|
           o_p rfl (ob_assign rfl rfl u_0) <|
           o_n) (by kernel_rfl) (fun a g hst hb => ?_)
        exact ⟨n, Nat.lt_succ_self _, (x1 || (b8 == (116 : Int))), (x2 || (b10 == (110 : Int))), (x3 || (b12 == (98 : Int))), (x4 || (b14 == (114 : Int))), (x5 || (b16 == (108 : Int))), (IntKind.i64.wrap (x6 + (1 : Int))), g, rfl, (hst.pick [0, 1, 2, 3, 4, 5, 6, 7] rfl), hb, H1⟩
      · replace H1 := ite_f hc7 H1
        refine wp_exit ?_
        refine then_e ?_
        refine then_e ?_
        refine inBlock_e ?_
        exact ⟨x1, x2, x3, x4, x5, g, rfl, (hst.pick [1, 2, 3, 4, 5, 6] rfl), hb, Option.some.inj H1⟩
end Go.CL

set_option linter.unusedVariables false
set_option linter.unusedSimpArgs false
set_option maxRecDepth 100000
namespace Go.CL
open Go Go.RowKit Go.Proofs
theorem moietyref03_Fields_ok (a0 : Int) {r : ByteArray} (h : moietyref03_Fields a0 = some r) : FnOk Tryd.prog 37 [(pInt .i64 a0)] (pStr r) := by
  have H0 := h
  unfold moietyref03_Fields at H0
  clear h
  refine fn_ok (N := 15) Tryd.func37 rfl rfl (Nat.le_of_ble_eq_true rfl) rfl rfl (fun a g0 hst hb => ?_)
  refine r_s (L := [(0, _)]) (T := [⟨[], _, [], [], [2]⟩]) (F := [.old 0]) hst hb follows
    (o_p rfl (ob_assign rfl rfl c_s) <|
     o_n) (by kernel_rfl) (fun a g hst hb => ?_)
  refine r_s (L := [(0, _)]) (T := [⟨[], _, [], [], [4]⟩, ⟨[.op 0 0], _, [], [0], [3]⟩]) (F := [.old 0, .op 1 0]) hst hb follows
    (o_p rfl (ob_lit te_93 (xs := [.const (.string ⟨#[]⟩), .const (.string ⟨#[116]⟩), .const (.string ⟨#[110]⟩), .const (.string ⟨#[110]⟩), .const (.string ⟨#[110, 98]⟩), .const (.string ⟨#[114]⟩), .const (.string ⟨#[114]⟩), .const (.string ⟨#[114]⟩), .const (.string ⟨#[108]⟩), .const (.string ⟨#[108]⟩)]) (.cons c_s (.cons c_s (.cons c_s (.cons c_s (.cons c_s (.cons c_s (.cons c_s (.cons c_s (.cons c_s (.cons c_s .nil)))))))))) (by decide) rfl rfl) <|
     o_p rfl (ob_assign rfl rfl u_0) <|
     o_n) (by kernel_rfl) (fun a g hst hb => ?_)
  refine wp_seq ?_
  refine r_s (L := [(0, _), (3, _)]) (T := [⟨[.old 0], _, [], [], [5]⟩, ⟨[.op 0 0], _, [], [0], [6]⟩, ⟨[.op 1 0], _, [], [0, 1], [7]⟩, ⟨[.op 2 0, .old 0], _, [], [0, 1, 2], [8]⟩, ⟨[.op 2 0, .op 3 0], _, [], List.range 4, [9]⟩, ⟨[.op 2 0, .op 4 0], _, [], List.range 5, [10]⟩]) (F := [.old 0, .old 1, .op 5 0]) hst hb follows
    (o_p rfl (ob_move rfl rfl u_0) <|
     o_p rfl (ob_lt rfl rfl u_0 c_i) <|
     o_p rfl (ob_move rfl rfl u_0) <|
     o_g (g_f rfl rfl rfl (fun hG => ob_move rfl rfl u_0)) <|
     o_g (g_f rfl rfl rfl (fun hG => ob_gt rfl rfl (Opd.gd hG u_0) c_i)) <|
     o_p rfl (ob_por rfl rfl u_0 (fun hz => (Opd.gd (bNF hz) u_1))) <|
     o_n) (by kernel_rfl) (fun a g hst hb => ?_)
  refine wp_cond_split (hst.bool 2 rfl) (fun hc1 => ?_) (fun hc1 => ?_)
  · replace H0 := ite_t hc1 H0
    refine r_s (L := []) (T := [⟨[], _, [], [], [2]⟩]) (F := [.op 0 0]) (hst.pick [] rfl) hb follows
      (o_p rfl (ob_assign rfl rfl c_s) <|
       o_n) (by kernel_rfl) (fun a g hst hb => ?_)
    refine wp_ret ?_
    refine then_r ?_
    obtain rfl := Option.some.inj H0
    exact endR1 rfl hst hb (res_tmp (s := 2)) (hst.at 0 rfl)
  · replace H0 := ite_f hc1 H0
    refine wp_skip ?_
    refine then_n ?_
    obtain ⟨e2, h3, H0⟩ := of_bind H0
    refine r_s (L := [(0, _), (3, _)]) (T := [⟨[.old 1], _, [], [], [11]⟩, ⟨[.old 0], _, [], [], [12]⟩, ⟨[.op 0 0, .op 1 0], _, [], [0, 1], [13]⟩, ⟨[.op 2 0], _, [], [0, 1, 2], [14]⟩, ⟨[.op 3 0], _, [], List.range 4, [2]⟩]) (F := [.op 4 0]) (hst.pick [0, 1] rfl) hb follows
      (o_p rfl (ob_move rfl rfl u_0) <|
       o_p rfl (ob_move rfl rfl u_0) <|
       o_p rfl (ob_indexAddr Tryd.underlying93 sz_9 rfl rfl u_0 u_1 h3) <|
       o_p rfl (ob_load ty_9 rfl rfl u_0) <|
       o_p rfl (ob_assign rfl rfl u_0) <|
       o_n) (by kernel_rfl) (fun a g hst hb => ?_)
    refine wp_ret ?_
    obtain rfl := Option.some.inj H0
    exact endR1 rfl hst hb (res_tmp (s := 2)) (hst.at 0 rfl)
end Go.CL

set_option linter.unusedVariables false
set_option linter.unusedSimpArgs false
set_option maxRecDepth 100000
namespace Go.CL
open Go Go.RowKit Go.Proofs
theorem moietyref01_Proper_ok (a0 : Nat) {r : Bool} (h : moietyref01_Proper a0 = some r) : FnOk Tryd.prog 38 [(pFlt a0)] (pBool r) := by
  have H0 := h
  unfold moietyref01_Proper at H0
  clear h
  refine fn_ok (N := 11) Tryd.func38 rfl rfl (Nat.le_of_ble_eq_true rfl) rfl rfl (fun a g0 hst hb => ?_)
  refine r_s (L := [(0, _)]) (T := [⟨[], _, [], [], [2]⟩]) (F := [.old 0]) hst hb follows
    (o_p rfl (ob_assign rfl rfl c_b) <|
     o_n) (by kernel_rfl) (fun a g hst hb => ?_)
  obtain ⟨r1, h2, H0⟩ := of_bind H0
  refine r_s (L := [(0, _)]) (T := [⟨[.old 0], _, [], [], [3]⟩, ⟨[.op 0 0], _, [], [0], [4]⟩, ⟨[.op 1 0], _, [], [0, 1], [5]⟩, ⟨[.op 2 0], _, [], [0, 1, 2], [6]⟩, ⟨[.op 3 0, .old 0], _, [], List.range 4, [7]⟩, ⟨[.op 3 0, .op 4 0], _, [], List.range 5, [8]⟩, ⟨[.op 3 0, .op 5 0], _, [], List.range 6, [9]⟩, ⟨[.op 3 0, .op 6 0], _, [], List.range 7, [10]⟩, ⟨[.op 7 0], _, [], List.range 8, [2]⟩]) (F := [.op 8 0]) hst hb follows
    (o_p rfl (ob_move rfl rfl u_0) <|
     o_p rfl (ob_call en_78 (moietyref01_none_ok _ h2) rfl rfl (.cons u_0 .nil)) <|
     o_p rfl (ob_not rfl rfl u_0) <|
     o_p rfl (ob_move rfl rfl u_0) <|
     o_g (g_f rfl rfl rfl (fun hG => ob_move rfl rfl u_0)) <|
     o_g (g_f rfl rfl rfl (fun hG => ob_bits ex_79 rfl rfl (Opd.gd hG u_0))) <|
     o_g (g_f rfl rfl rfl (fun hG => ob_eq rfl rfl (Opd.gd hG u_0) c_i)) <|
     o_p rfl (ob_por rfl rfl u_0 (fun hz => (Opd.gd (bNF hz) u_1))) <|
     o_p rfl (ob_assign rfl rfl u_0) <|
     o_n) (by kernel_rfl) (fun a g hst hb => ?_)
  refine wp_ret ?_
  obtain rfl := Option.some.inj H0
  exact endR1 rfl hst hb (res_tmp (s := 2)) (hst.at 0 rfl)
end Go.CL

set_option linter.unusedVariables false
set_option linter.unusedSimpArgs false
set_option maxRecDepth 100000
namespace Go.CL
open Go Go.RowKit Go.Proofs
theorem moietyref03_Ahead_ok (a0 : api_Item) (a1 : api_Item) {r : Bool} (h : moietyref03_Ahead a0 a1 = some r) : FnOk Tryd.prog 80 [(k_api_Item.pd a0), (k_api_Item.pd a1)] (pBool r) := by
  have H0 := h
  unfold moietyref03_Ahead at H0
  clear h
  refine fn_ok (N := 22) Tryd.func80 rfl rfl (Nat.le_of_ble_eq_true rfl) rfl rfl (fun a g0 hst hb => ?_)
  refine r_s (L := [(0, _), (1, _)]) (T := [⟨[.old 0], _, [], [], [2]⟩, ⟨[.old 1], _, [], [], [3]⟩, ⟨[], _, [], [], [4]⟩]) (F := [.op 0 0, .op 1 0]) hst hb follows
    (o_p rfl (ob_box1 rfl rfl u_0) <|
     o_p rfl (ob_box1 rfl rfl u_0) <|
     o_p rfl (ob_assign rfl rfl c_b) <|
     o_n) (by kernel_rfl) (fun a g hst hb => ?_)
  refine wp_seq ?_
  obtain ⟨r1, h2, H0⟩ := of_bind H0
  refine r_s (L := [(2, _), (3, _)]) (T := [⟨[.old 1], _, [], [], [5]⟩, ⟨[.op 0 0], _, [], [0], [6]⟩, ⟨[.old 0], _, [], [], [7]⟩, ⟨[.op 2 0], _, [], [2], [8]⟩, ⟨[.op 1 0, .op 3 0], _, [], List.range 4, [9]⟩]) (F := [.old 0, .old 1, .op 4 0]) hst hb follows
    (o_p rfl (ob_fieldAddr fl_48_0 rfl rfl u_0) <|
     o_p rfl (ob_load ty_22 rfl rfl u_0) <|
     o_p rfl (ob_fieldAddr fl_48_0 rfl rfl u_0) <|
     o_p rfl (ob_load ty_22 rfl rfl u_0) <|
     o_p rfl (ob_call en_75 (moietyref01_Less_ok _ _ h2) rfl rfl (.cons u_0 (.cons u_1 .nil))) <|
     o_n) (by kernel_rfl) (fun a g hst hb => ?_)
  refine wp_cond_split (hst.bool 2 rfl) (fun hc3 => ?_) (fun hc3 => ?_)
  · replace H0 := ite_t hc3 H0
    refine r_s (L := []) (T := [⟨[], _, [], [], [4]⟩]) (F := [.op 0 0]) (hst.pick [] rfl) hb follows
      (o_p rfl (ob_assign rfl rfl c_b) <|
       o_n) (by kernel_rfl) (fun a g hst hb => ?_)
    refine wp_ret ?_
    refine then_r ?_
    obtain rfl := Option.some.inj H0
    exact endR1 rfl hst hb (res_tmp (s := 4)) (hst.at 0 rfl)
  · replace H0 := ite_f hc3 H0
    refine wp_skip ?_
    refine then_n ?_
    obtain ⟨r4, h5, H0⟩ := of_bind H0
    refine r_s (L := [(2, _), (3, _)]) (T := ⟨[.old 0], _, [], [], [10]⟩ :: ⟨[.op 0 0], _, [], [0], [11]⟩ :: ⟨[.old 1], _, [], [], [12]⟩ :: ⟨[.op 2 0], _, [], [2], [13]⟩ :: ⟨[.op 1 0, .op 3 0], _, [], List.range 4, [14]⟩ :: ⟨[.op 4 0], _, [], List.range 5, [15]⟩ :: ⟨[.op 5 0, .old 0], _, [], List.range 6, [16]⟩ :: ⟨[.op 5 0, .op 6 0], _, [], List.range 7, [17]⟩ :: ⟨[.op 5 0, .old 1], _, [], List.range 6, [18]⟩ :: ⟨[.op 5 0, .op 8 0], _, [], [0, 1, 2, 3, 4, 5, 8], [19]⟩ :: ⟨[.op 5 0, .op 7 0, .op 9 0], _, [], List.range 10, [20]⟩ :: ⟨[.op 5 0, .op 10 0], _, [], List.range 11, [21]⟩ :: ⟨[.op 11 0], _, [], List.range 12, [4]⟩ :: []) (F := [.op 12 0]) (hst.pick [0, 1] rfl) hb follows
      (o_p rfl (ob_fieldAddr fl_48_0 rfl rfl u_0) <|
       o_p rfl (ob_load ty_22 rfl rfl u_0) <|
       o_p rfl (ob_fieldAddr fl_48_0 rfl rfl u_0) <|
       o_p rfl (ob_load ty_22 rfl rfl u_0) <|
       o_p rfl (ob_call en_32 (moietyref01_Same_ok _ _ h5) rfl rfl (.cons u_0 (.cons u_1 .nil))) <|
       o_p rfl (ob_move rfl rfl u_0) <|
       o_g (g_t rfl rfl rfl (fun hG => ob_fieldAddr fl_48_1 rfl rfl u_0)) <|
       o_g (g_t rfl rfl rfl (fun hG => ob_load ty_9 rfl rfl (Opd.gd hG u_0))) <|
       o_g (g_t rfl rfl rfl (fun hG => ob_fieldAddr fl_48_1 rfl rfl u_0)) <|
       o_g (g_t rfl rfl rfl (fun hG => ob_load ty_9 rfl rfl (Opd.gd hG u_0))) <|
       o_g (g_t rfl rfl rfl (fun hG => ob_slt rfl rfl (Opd.gd hG u_0) (Opd.gd hG u_1))) <|
       o_p rfl (ob_pand rfl rfl u_0 (fun hz => (Opd.gd hz u_1))) <|
       o_p rfl (ob_assign rfl rfl u_0) <|
       o_n) (by kernel_rfl) (fun a g hst hb => ?_)
    refine wp_ret ?_
    obtain rfl := Option.some.inj H0
    exact endR1 rfl hst hb (res_tmp (s := 4)) (hst.at 0 rfl)
end Go.CL

set_option linter.unusedVariables false
set_option linter.unusedSimpArgs false
set_option maxRecDepth 100000
namespace Go.CL
open Go Go.RowKit Go.Proofs
theorem moietyref03_item_ok (a0 : Int) (a1 : List api_Item) (a2 : Int) {r : Int} (h : moietyref03_item a0 a1 a2 = some r) : FnOk Tryd.prog 39 [(pInt .i64 a0), (k_api_Item.sl.pd a1), (pInt .i64 a2)] (pInt .i64 r) := by
  have H0 := h
  unfold moietyref03_item at H0
  clear h
  refine fn_ok (N := 64) Tryd.func39 rfl rfl (Nat.le_of_ble_eq_true rfl) rfl rfl (fun a g0 hst hb => ?_)
  refine r_s (L := [(0, _), (1, _), (2, _)]) (T := [⟨[], _, [], [], [6]⟩]) (F := [.old 0, .old 1, .old 2]) hst hb follows
    (o_p rfl (ob_assign rfl rfl c_i) <|
     o_n) (by kernel_rfl) (fun a g hst hb => ?_)
  obtain ⟨e1, h2, H0⟩ := of_bind H0
  refine r_s (L := [(0, _), (1, _), (2, _)]) (T := [⟨[.old 1], _, [], [], [8]⟩, ⟨[.old 2], _, [], [], [9]⟩, ⟨[.op 0 0, .op 1 0], _, [], [0, 1], [10]⟩, ⟨[.op 2 0], _, [], [0, 1, 2], [11]⟩, ⟨[], [(7, (pBox k_api_Item 7 (default : api_Item)))], [8], [], [7]⟩, ⟨[.op 3 0, .op 4 0], _, [8], List.range 5, [7]⟩]) (F := [.old 0, .old 1, .old 2, .op 5 0]) hst hb follows
    (o_p rfl (ob_move rfl rfl u_0) <|
     o_p rfl (ob_move rfl rfl u_0) <|
     o_p rfl (ob_indexAddr Tryd.underlying23 sz_48 rfl rfl u_0 u_1 h2) <|
     o_p rfl (ob_load ty_48 rfl rfl u_0) <|
     o_p rfl (ob_alloc (zs := [.float .f64 0, .string ByteArray.empty]) (by kernel_rfl) (fun g => zk_api_Item g) rfl rfl) <|
     o_p rfl (ob_storeF ty_48 rfl rfl u_1 u_0) <|
     o_n) (by kernel_rfl) (fun a g hst hb => ?_)
  refine wp_seq ?_
  refine r_s (L := [(0, _), (1, _), (2, _), (7, _)]) (T := [⟨[.old 3], _, [], [], [12]⟩, ⟨[.op 0 0], _, [], [0], [13]⟩, ⟨[.op 1 0], _, [], [0, 1], [14]⟩, ⟨[.op 2 0], _, [], [0, 1, 2], [15]⟩]) (F := [.old 0, .old 1, .old 2, .old 3, .op 3 0]) hst hb follows
    (o_p rfl (ob_fieldAddr fl_48_1 rfl rfl u_0) <|
     o_p rfl (ob_load ty_9 rfl rfl u_0) <|
     o_p rfl (ob_lenS Tryd.underlying9 rfl rfl u_0) <|
     o_p rfl (ob_gt rfl rfl u_0 c_i) <|
     o_n) (by kernel_rfl) (fun a g hst hb => ?_)
  refine wp_cond_split (hst.bool 4 rfl) (fun hc3 => ?_) (fun hc3 => ?_)
  · replace H0 := ite_t hc3 H0
    refine r_s (L := []) (T := [⟨[], _, [], [], [6]⟩]) (F := [.op 0 0]) (hst.pick [] rfl) hb follows
      (o_p rfl (ob_assign rfl rfl c_i) <|
       o_n) (by kernel_rfl) (fun a g hst hb => ?_)
    refine wp_ret ?_
    refine then_r ?_
    obtain rfl := Option.some.inj H0
    exact endR1 rfl hst hb (res_tmp (s := 6)) (hst.at 0 rfl)
  · replace H0 := ite_f hc3 H0
    refine wp_skip ?_
    refine then_n ?_
    refine wp_seq ?_
    obtain ⟨r4, h5, H0⟩ := of_bind H0; obtain ⟨r6, h7, H0⟩ := of_bind H0
    refine r_s (L := [(0, _), (1, _), (2, _), (7, _)]) (T := ⟨[.old 0], _, [], [], [16]⟩ :: ⟨[.op 0 0], _, [], [0], [17]⟩ :: ⟨[.op 1 0], _, [], [0, 1], [18]⟩ :: ⟨[.op 2 0, .old 3], _, [], [0, 1, 2], [19]⟩ :: ⟨[.op 2 0, .op 3 0], _, [], List.range 4, [20]⟩ :: ⟨[.op 2 0, .op 4 0], _, [], List.range 5, [21]⟩ :: ⟨[.op 2 0, .op 5 0], _, [], List.range 6, [22]⟩ :: ⟨[.op 2 0, .op 6 0], _, [], List.range 7, [23]⟩ :: ⟨[.op 7 0], _, [], List.range 8, [24]⟩ :: ⟨[.op 8 0, .old 3], _, [], List.range 9, [25]⟩ :: ⟨[.op 8 0, .op 9 0], _, [], List.range 10, [26]⟩ :: ⟨[.op 8 0, .op 10 0], _, [], List.range 11, [27]⟩ :: ⟨[.op 8 0, .op 11 0], _, [], List.range 12, [28]⟩ :: ⟨[.op 8 0, .op 12 0], _, [], List.range 13, [29]⟩ :: []) (F := [.old 0, .old 1, .old 2, .old 3, .op 13 0]) (hst.pick [0, 1, 2, 3] rfl) hb follows
      (o_p rfl (ob_move rfl rfl u_0) <|
       o_p rfl (ob_eq rfl rfl u_0 c_i) <|
       o_p rfl (ob_move rfl rfl u_0) <|
       o_g (g_t rfl rfl rfl (fun hG => ob_fieldAddr fl_48_0 rfl rfl u_0)) <|
       o_g (g_t rfl rfl rfl (fun hG => ob_load ty_22 rfl rfl (Opd.gd hG u_0))) <|
       o_g (g_t rfl rfl rfl (fun hG => ob_call en_77 (moietyref03_zero_ok _ (gd_true h5 hG)) rfl rfl (.cons (Opd.gd hG u_0) .nil))) <|
       o_g (g_t rfl rfl rfl (fun hG => ob_not rfl rfl (Opd.gd hG u_0))) <|
       o_p rfl (ob_pand rfl rfl u_0 (fun hz => (Opd.gd hz u_1))) <|
       o_p rfl (ob_move rfl rfl u_0) <|
       o_g (g_f rfl rfl rfl (fun hG => ob_fieldAddr fl_48_0 rfl rfl u_0)) <|
       o_g (g_f rfl rfl rfl (fun hG => ob_load ty_22 rfl rfl (Opd.gd hG u_0))) <|
       o_g (g_f rfl rfl rfl (fun hG => ob_call en_38 (moietyref01_Proper_ok _ (gd_true h7 hG)) rfl rfl (.cons (Opd.gd hG u_0) .nil))) <|
       o_g (g_f rfl rfl rfl (fun hG => ob_not rfl rfl (Opd.gd hG u_0))) <|
       o_p rfl (ob_por rfl rfl u_0 (fun hz => (Opd.gd (bNF hz) u_1))) <|
       o_n) (by kernel_rfl) (fun a g hst hb => ?_)
    refine wp_cond_split (hst.bool 4 rfl) (fun hc8 => ?_) (fun hc8 => ?_)
    · replace H0 := ite_t hc8 H0
      refine r_s (L := []) (T := [⟨[], _, [], [], [6]⟩]) (F := [.op 0 0]) (hst.pick [] rfl) hb follows
        (o_p rfl (ob_assign rfl rfl c_i) <|
         o_n) (by kernel_rfl) (fun a g hst hb => ?_)
      refine wp_ret ?_
      refine then_r ?_
      obtain rfl := Option.some.inj H0
      exact endR1 rfl hst hb (res_tmp (s := 6)) (hst.at 0 rfl)
    · replace H0 := ite_f hc8 H0
      refine wp_skip ?_
      refine then_n ?_
      refine wp_seq ?_
      obtain ⟨e9, h10, H0⟩ := of_bind H0
      refine r_s (L := [(0, _), (1, _), (2, _), (7, _)]) (T := ⟨[.old 2], _, [], [], [30]⟩ :: ⟨[.op 0 0], _, [], [0], [31]⟩ :: ⟨[.op 1 0], _, [], [0, 1], [32]⟩ :: ⟨[.op 2 0, .old 0], _, [], [0, 1, 2], [33]⟩ :: ⟨[.op 2 0, .op 3 0], _, [], List.range 4, [34]⟩ :: ⟨[.op 2 0, .op 4 0], _, [], List.range 5, [35]⟩ :: ⟨[.op 5 0], _, [], List.range 6, [36]⟩ :: ⟨[.op 6 0, .old 1], _, [], List.range 7, [37]⟩ :: ⟨[.op 6 0, .old 2], _, [], List.range 7, [38]⟩ :: ⟨[.op 6 0, .op 8 0], _, [], [0, 1, 2, 3, 4, 5, 6, 8], [39]⟩ :: ⟨[.op 6 0, .op 7 0, .op 9 0], _, [], List.range 10, [40]⟩ :: ⟨[.op 6 0, .op 10 0], _, [], List.range 11, [41]⟩ :: ⟨[.op 6 0, .op 11 0], _, [], List.range 12, [42]⟩ :: ⟨[.op 6 0, .old 3], _, [], List.range 7, [43]⟩ :: ⟨[.op 6 0, .op 13 0], _, [], [0, 1, 2, 3, 4, 5, 6, 13], [44]⟩ :: ⟨[.op 6 0, .op 12 0, .op 14 0], _, [], List.range 15, [45]⟩ :: ⟨[.op 6 0, .op 15 0], _, [], List.range 16, [46]⟩ :: ⟨[.op 6 0, .op 16 0], _, [], List.range 17, [47]⟩ :: []) (F := [.old 0, .old 1, .old 2, .old 3, .op 17 0]) (hst.pick [0, 1, 2, 3] rfl) hb follows
        (o_p rfl (ob_move rfl rfl u_0) <|
         o_p rfl (ob_gt rfl rfl u_0 c_i) <|
         o_p rfl (ob_move rfl rfl u_0) <|
         o_g (g_t rfl rfl rfl (fun hG => ob_move rfl rfl u_0)) <|
         o_g (g_t rfl rfl rfl (fun hG => ob_eq rfl rfl (Opd.gd hG u_0) c_i)) <|
         o_p rfl (ob_pand rfl rfl u_0 (fun hz => (Opd.gd hz u_1))) <|
         o_p rfl (ob_move rfl rfl u_0) <|
         o_g (g_t rfl rfl rfl (fun hG => ob_move rfl rfl u_0)) <|
         o_g (g_t rfl rfl rfl (fun hG => ob_move rfl rfl u_0)) <|
         o_g (g_t rfl rfl rfl (fun hG => ob_sub rfl rfl (Opd.gd hG u_0) c_i rfl)) <|
         o_g (g_t rfl rfl rfl (fun hG => ob_indexAddr Tryd.underlying23 sz_48 rfl rfl (Opd.gd hG u_0) (Opd.gd hG u_1) (gd_true h10 hG))) <|
         o_g (g_t rfl rfl rfl (fun hG => ob_fieldAddr fl_48_1 rfl rfl (Opd.gd hG u_0))) <|
         o_g (g_t rfl rfl rfl (fun hG => ob_load ty_9 rfl rfl (Opd.gd hG u_0))) <|
         o_g (g_t rfl rfl rfl (fun hG => ob_fieldAddr fl_48_1 rfl rfl u_0)) <|
         o_g (g_t rfl rfl rfl (fun hG => ob_load ty_9 rfl rfl (Opd.gd hG u_0))) <|
         o_g (g_t rfl rfl rfl (fun hG => ob_slt rfl rfl (Opd.gd hG u_0) (Opd.gd hG u_1))) <|
         o_g (g_t rfl rfl rfl (fun hG => ob_not rfl rfl (Opd.gd hG u_0))) <|
         o_p rfl (ob_pand rfl rfl u_0 (fun hz => (Opd.gd hz u_1))) <|
         o_n) (by kernel_rfl) (fun a g hst hb => ?_)
      refine wp_cond_split (hst.bool 4 rfl) (fun hc11 => ?_) (fun hc11 => ?_)
      · replace H0 := ite_t hc11 H0
        refine r_s (L := []) (T := [⟨[], _, [], [], [6]⟩]) (F := [.op 0 0]) (hst.pick [] rfl) hb follows
          (o_p rfl (ob_assign rfl rfl c_i) <|
           o_n) (by kernel_rfl) (fun a g hst hb => ?_)
        refine wp_ret ?_
        refine then_r ?_
        obtain rfl := Option.some.inj H0
        exact endR1 rfl hst hb (res_tmp (s := 6)) (hst.at 0 rfl)
      · replace H0 := ite_f hc11 H0
        refine wp_skip ?_
        refine then_n ?_
        refine wp_seq ?_
        obtain ⟨e12, h13, H0⟩ := of_bind H0; obtain ⟨r14, h15, H0⟩ := of_bind H0
        refine r_s (L := [(0, _), (1, _), (2, _), (7, _)]) (T := ⟨[.old 2], _, [], [], [48]⟩ :: ⟨[.op 0 0], _, [], [0], [49]⟩ :: ⟨[.op 1 0], _, [], [0, 1], [50]⟩ :: ⟨[.op 2 0, .old 0], _, [], [0, 1, 2], [51]⟩ :: ⟨[.op 2 0, .op 3 0], _, [], List.range 4, [52]⟩ :: ⟨[.op 2 0, .op 4 0], _, [], List.range 5, [53]⟩ :: ⟨[.op 5 0], _, [], List.range 6, [54]⟩ :: ⟨[.op 6 0, .old 1], _, [], List.range 7, [55]⟩ :: ⟨[.op 6 0, .old 2], _, [], List.range 7, [56]⟩ :: ⟨[.op 6 0, .op 8 0], _, [], [0, 1, 2, 3, 4, 5, 6, 8], [57]⟩ :: ⟨[.op 6 0, .op 7 0, .op 9 0], _, [], List.range 10, [58]⟩ :: ⟨[.op 6 0, .op 10 0], _, [], List.range 11, [59]⟩ :: ⟨[.op 6 0, .old 3], _, [], List.range 7, [60]⟩ :: ⟨[.op 6 0, .op 11 0, .op 12 0], _, [], List.range 13, [61]⟩ :: ⟨[.op 6 0, .op 13 0], _, [], List.range 14, [62]⟩ :: ⟨[.op 6 0, .op 14 0], _, [], List.range 15, [63]⟩ :: []) (F := [.op 15 0]) (hst.pick [0, 1, 2, 3] rfl) hb follows
          (o_p rfl (ob_move rfl rfl u_0) <|
           o_p rfl (ob_gt rfl rfl u_0 c_i) <|
           o_p rfl (ob_move rfl rfl u_0) <|
           o_g (g_t rfl rfl rfl (fun hG => ob_move rfl rfl u_0)) <|
           o_g (g_t rfl rfl rfl (fun hG => ob_eq rfl rfl (Opd.gd hG u_0) c_i)) <|
           o_p rfl (ob_pand rfl rfl u_0 (fun hz => (Opd.gd hz u_1))) <|
           o_p rfl (ob_move rfl rfl u_0) <|
           o_g (g_t rfl rfl rfl (fun hG => ob_move rfl rfl u_0)) <|
           o_g (g_t rfl rfl rfl (fun hG => ob_move rfl rfl u_0)) <|
           o_g (g_t rfl rfl rfl (fun hG => ob_sub rfl rfl (Opd.gd hG u_0) c_i rfl)) <|
           o_g (g_t rfl rfl rfl (fun hG => ob_indexAddr Tryd.underlying23 sz_48 rfl rfl (Opd.gd hG u_0) (Opd.gd hG u_1) (gd_true h13 hG))) <|
           o_g (g_t rfl rfl rfl (fun hG => ob_load ty_48 rfl rfl (Opd.gd hG u_0))) <|
           o_g (g_t rfl rfl rfl (fun hG => ob_load ty_48 rfl rfl u_0)) <|
           o_g (g_t rfl rfl rfl (fun hG => ob_call en_80 (moietyref03_Ahead_ok _ _ (gd_true h15 hG)) rfl rfl (.cons (Opd.gd hG u_0) (.cons (Opd.gd hG u_1) .nil)))) <|
           o_g (g_t rfl rfl rfl (fun hG => ob_not rfl rfl (Opd.gd hG u_0))) <|
           o_p rfl (ob_pand rfl rfl u_0 (fun hz => (Opd.gd hz u_1))) <|
           o_n) (by kernel_rfl) (fun a g hst hb => ?_)
        refine wp_cond_split (hst.bool 0 rfl) (fun hc16 => ?_) (fun hc16 => ?_)
        · replace H0 := ite_t hc16 H0
          refine r_s (L := []) (T := [⟨[], _, [], [], [6]⟩]) (F := [.op 0 0]) (hst.pick [] rfl) hb follows
            (o_p rfl (ob_assign rfl rfl c_i) <|
             o_n) (by kernel_rfl) (fun a g hst hb => ?_)
          refine wp_ret ?_
          refine then_r ?_
          obtain rfl := Option.some.inj H0
          exact endR1 rfl hst hb (res_tmp (s := 6)) (hst.at 0 rfl)
        · replace H0 := ite_f hc16 H0
          refine wp_skip ?_
          refine then_n ?_
          refine r_s (L := []) (T := [⟨[], _, [], [], [6]⟩]) (F := [.op 0 0]) (hst.pick [] rfl) hb follows
            (o_p rfl (ob_assign rfl rfl c_i) <|
             o_n) (by kernel_rfl) (fun a g hst hb => ?_)
          refine wp_ret ?_
          obtain rfl := Option.some.inj H0
          exact endR1 rfl hst hb (res_tmp (s := 6)) (hst.at 0 rfl)
end Go.CL

set_option linter.unusedVariables false
set_option linter.unusedSimpArgs false
set_option maxRecDepth 100000
namespace Go.CL
open Go Go.RowKit Go.Proofs
theorem moietyref03_Check_ok (a0 : api_Record) {r : Int} (h : moietyref03_Check a0 = some r) : FnOk Tryd.prog 18 [(k_api_Record.pd a0)] (pInt .i64 r) := by
  have H0 := h
  unfold moietyref03_Check at H0
  clear h
  refine fn_ok (N := 96) Tryd.func18 rfl rfl (Nat.le_of_ble_eq_true rfl) rfl rfl (fun a g0 hst hb => ?_)
  refine r_s (L := [(0, _)]) (T := [⟨[.old 0], _, [], [], [1]⟩, ⟨[], _, [], [], [2]⟩]) (F := [.op 0 0]) hst hb follows
    (o_p rfl (ob_box1 rfl rfl u_0) <|
     o_p rfl (ob_assign rfl rfl c_i) <|
     o_n) (by kernel_rfl) (fun a g hst hb => ?_)
  refine wp_seq ?_
  refine r_s (L := [(1, _)]) (T := [⟨[.old 0], _, [], [], [6]⟩, ⟨[.op 0 0], _, [], [0], [7]⟩, ⟨[.op 1 0], _, [], [0, 1], [8]⟩, ⟨[.op 2 0], _, [], [0, 1, 2], [9]⟩, ⟨[.op 3 0, .old 0], _, [], List.range 4, [10]⟩, ⟨[.op 3 0, .op 4 0], _, [], List.range 5, [11]⟩, ⟨[.op 3 0, .op 5 0], _, [], List.range 6, [12]⟩, ⟨[.op 3 0, .op 6 0], _, [], List.range 7, [13]⟩]) (F := [.old 0, .op 7 0]) hst hb follows
    (o_p rfl (ob_fieldAddr fl_25_0 rfl rfl u_0) <|
     o_p rfl (ob_load ty_3 rfl rfl u_0) <|
     o_p rfl (ob_lt rfl rfl u_0 c_i) <|
     o_p rfl (ob_move rfl rfl u_0) <|
     o_g (g_f rfl rfl rfl (fun hG => ob_fieldAddr fl_25_0 rfl rfl u_0)) <|
     o_g (g_f rfl rfl rfl (fun hG => ob_load ty_3 rfl rfl (Opd.gd hG u_0))) <|
     o_g (g_f rfl rfl rfl (fun hG => ob_gt rfl rfl (Opd.gd hG u_0) c_i)) <|
     o_p rfl (ob_por rfl rfl u_0 (fun hz => (Opd.gd (bNF hz) u_1))) <|
     o_n) (by kernel_rfl) (fun a g hst hb => ?_)
  refine wp_cond_split (hst.bool 1 rfl) (fun hc1 => ?_) (fun hc1 => ?_)
  · replace H0 := ite_t hc1 H0
    refine r_s (L := []) (T := [⟨[], _, [], [], [2]⟩]) (F := [.op 0 0]) (hst.pick [] rfl) hb follows
      (o_p rfl (ob_assign rfl rfl c_i) <|
       o_n) (by kernel_rfl) (fun a g hst hb => ?_)
    refine wp_ret ?_
    refine then_r ?_
    obtain rfl := Option.some.inj H0
    exact endR1 rfl hst hb (res_tmp (s := 2)) (hst.at 0 rfl)
  · replace H0 := ite_f hc1 H0
    refine wp_skip ?_
    refine then_n ?_
    refine wp_seq ?_
    obtain ⟨r2, h3, H0⟩ := of_bind H0; obtain ⟨r4, h5, H0⟩ := of_bind H0
    refine r_s (L := [(1, _)]) (T := [⟨[.old 0], _, [], [], [14]⟩, ⟨[.old 0], _, [], [], [15]⟩, ⟨[.op 1 0], _, [], [1], [16]⟩, ⟨[.op 2 0], _, [], [1, 2], [17]⟩, ⟨[.op 0 0, .op 3 0], _, [], List.range 4, [18]⟩, ⟨[.op 4 0], _, [], List.range 5, [19]⟩]) (F := [.old 0, .op 5 0]) (hst.pick [0] rfl) hb follows
      (o_p rfl (ob_load ty_25 rfl rfl u_0) <|
       o_p rfl (ob_fieldAddr fl_25_0 rfl rfl u_0) <|
       o_p rfl (ob_load ty_3 rfl rfl u_0) <|
       o_p rfl (ob_call en_37 (moietyref03_Fields_ok _ h3) rfl rfl (.cons u_0 .nil)) <|
       o_p rfl (ob_call en_36 (moietyref03_only_ok _ _ h5) rfl rfl (.cons u_0 (.cons u_1 .nil))) <|
       o_p rfl (ob_not rfl rfl u_0) <|
       o_n) (by kernel_rfl) (fun a g hst hb => ?_)
    refine wp_cond_split (hst.bool 1 rfl) (fun hc6 => ?_) (fun hc6 => ?_)
    · replace H0 := ite_t hc6 H0
      refine r_s (L := []) (T := [⟨[], _, [], [], [2]⟩]) (F := [.op 0 0]) (hst.pick [] rfl) hb follows
        (o_p rfl (ob_assign rfl rfl c_i) <|
         o_n) (by kernel_rfl) (fun a g hst hb => ?_)
      refine wp_ret ?_
      refine then_r ?_
      obtain rfl := Option.some.inj H0
      exact endR1 rfl hst hb (res_tmp (s := 2)) (hst.at 0 rfl)
    · replace H0 := ite_f hc6 H0
      refine wp_skip ?_
      refine then_n ?_
      refine wp_seq ?_
      refine r_s (L := [(1, _)]) (T := [⟨[.old 0], _, [], [], [20]⟩, ⟨[.op 0 0], _, [], [0], [21]⟩, ⟨[.op 1 0], _, [], [0, 1], [22]⟩, ⟨[.op 2 0], _, [], [0, 1, 2], [23]⟩, ⟨[.op 3 0, .old 0], _, [], List.range 4, [24]⟩, ⟨[.op 3 0, .op 4 0], _, [], List.range 5, [25]⟩, ⟨[.op 3 0, .op 5 0], _, [], List.range 6, [26]⟩, ⟨[.op 3 0, .op 6 0], _, [], List.range 7, [27]⟩, ⟨[.op 3 0, .op 7 0], _, [], List.range 8, [28]⟩]) (F := [.old 0, .op 8 0]) (hst.pick [0] rfl) hb follows
        (o_p rfl (ob_fieldAddr fl_25_0 rfl rfl u_0) <|
         o_p rfl (ob_load ty_3 rfl rfl u_0) <|
         o_p rfl (ob_eq rfl rfl u_0 c_i) <|
         o_p rfl (ob_move rfl rfl u_0) <|
         o_g (g_t rfl rfl rfl (fun hG => ob_fieldAddr fl_25_6 rfl rfl u_0)) <|
         o_g (g_t rfl rfl rfl (fun hG => ob_load ty_9 rfl rfl (Opd.gd hG u_0))) <|
         o_g (g_t rfl rfl rfl (fun hG => ob_lenS Tryd.underlying9 rfl rfl (Opd.gd hG u_0))) <|
         o_g (g_t rfl rfl rfl (fun hG => ob_gt rfl rfl (Opd.gd hG u_0) c_i)) <|
         o_p rfl (ob_pand rfl rfl u_0 (fun hz => (Opd.gd hz u_1))) <|
         o_n) (by kernel_rfl) (fun a g hst hb => ?_)
      refine wp_cond_split (hst.bool 1 rfl) (fun hc7 => ?_) (fun hc7 => ?_)
      · replace H0 := ite_t hc7 H0
        refine r_s (L := []) (T := [⟨[], _, [], [], [2]⟩]) (F := [.op 0 0]) (hst.pick [] rfl) hb follows
          (o_p rfl (ob_assign rfl rfl c_i) <|
           o_n) (by kernel_rfl) (fun a g hst hb => ?_)
        refine wp_ret ?_
        refine then_r ?_
        obtain rfl := Option.some.inj H0
        exact endR1 rfl hst hb (res_tmp (s := 2)) (hst.at 0 rfl)
      · replace H0 := ite_f hc7 H0
        refine wp_skip ?_
        refine then_n ?_
        refine r_s (L := [(1, _)]) (T := [⟨[], _, [], [], [3]⟩]) (F := [.old 0, .op 0 0]) (hst.pick [0] rfl) hb follows
          (o_p rfl (ob_assign rfl rfl c_i) <|
           o_n) (by kernel_rfl) (fun a g hst hb => ?_)
        refine wp_seq ?_
        refine r_s (L := [(1, _), (3, _)]) (T := ⟨[.old 0], _, [], [], [29]⟩ :: ⟨[.op 0 0], _, [], [0], [30]⟩ :: ⟨[.op 1 0], _, [], [0, 1], [31]⟩ :: ⟨[.op 2 0], _, [], [0, 1, 2], [32]⟩ :: ⟨[.op 3 0, .old 0], _, [], List.range 4, [33]⟩ :: ⟨[.op 3 0, .op 4 0], _, [], List.range 5, [34]⟩ :: ⟨[.op 3 0, .old 1], _, [], List.range 4, [35]⟩ :: ⟨[.op 3 0, .op 6 0], _, [], [0, 1, 2, 3, 6], [36]⟩ :: ⟨[.op 3 0, .op 5 0, .op 7 0], _, [], List.range 8, [37]⟩ :: ⟨[.op 3 0, .op 8 0], _, [], List.range 9, [38]⟩ :: ⟨[.op 9 0, .old 0], _, [], List.range 10, [39]⟩ :: ⟨[.op 9 0, .op 10 0], _, [], List.range 11, [40]⟩ :: ⟨[.op 9 0, .old 1], _, [], List.range 10, [41]⟩ :: ⟨[.op 9 0, .op 11 0, .op 12 0], _, [], List.range 13, [42]⟩ :: ⟨[.op 3 0, .op 9 0, .op 13 0], _, [], List.range 14, [43]⟩ :: ⟨[.op 3 0, .op 14 0], _, [], List.range 15, [44]⟩ :: ⟨[.op 15 0, .old 0], _, [], List.range 16, [45]⟩ :: ⟨[.op 15 0, .op 16 0], _, [], List.range 17, [46]⟩ :: ⟨[.op 15 0, .old 0], _, [], List.range 16, [47]⟩ :: ⟨[.op 15 0, .op 18 0], _, [], 0 :: 1 :: 2 :: 3 :: 4 :: 5 :: 6 :: 7 :: 8 :: 9 :: 10 :: 11 :: 12 :: 13 :: 14 :: 15 :: 18 :: [], [48]⟩ :: ⟨[.op 15 0, .op 17 0, .op 19 0], _, [], List.range 20, [49]⟩ :: ⟨[.op 3 0, .op 15 0, .op 20 0], _, [], List.range 21, [50]⟩ :: ⟨[.op 3 0, .op 21 0], _, [], List.range 22, [51]⟩ :: ⟨[.op 22 0, .old 0], _, [], List.range 23, [52]⟩ :: ⟨[.op 22 0, .op 23 0], _, [], List.range 24, [53]⟩ :: ⟨[.op 22 0, .old 0], _, [], List.range 23, [54]⟩ :: ⟨[.op 22 0, .op 25 0], _, [], 0 :: 1 :: 2 :: 3 :: 4 :: 5 :: 6 :: 7 :: 8 :: 9 :: 10 :: 11 :: 12 :: 13 :: 14 :: 15 :: 16 :: 17 :: 18 :: 19 :: 20 :: 21 :: 22 :: 25 :: [], [55]⟩ :: ⟨[.op 22 0, .op 24 0, .op 26 0], _, [], List.range 27, [56]⟩ :: ⟨[.op 3 0, .op 22 0, .op 27 0], _, [], List.range 28, [57]⟩ :: ⟨[.op 3 0, .op 28 0], _, [], List.range 29, [58]⟩ :: []) (F := [.old 0, .op 29 0]) hst hb follows
          (o_p rfl (ob_fieldAddr fl_25_0 rfl rfl u_0) <|
           o_p rfl (ob_load ty_3 rfl rfl u_0) <|
           o_p rfl (ob_eq rfl rfl u_0 c_i) <|
           o_p rfl (ob_move rfl rfl u_0) <|
           o_g (g_t rfl rfl rfl (fun hG => ob_fieldAddr fl_25_2 rfl rfl u_0)) <|
           o_g (g_t rfl rfl rfl (fun hG => ob_load ty_2 rfl rfl (Opd.gd hG u_0))) <|
           o_g (g_t rfl rfl rfl (fun hG => ob_move rfl rfl u_0)) <|
           o_g (g_t rfl rfl rfl (fun hG => ob_neg rfl rfl (Opd.gd hG u_0) rfl)) <|
           o_g (g_t rfl rfl rfl (fun hG => ob_lt rfl rfl (Opd.gd hG u_0) (Opd.gd hG u_1))) <|
           o_g (g_t rfl rfl rfl (fun hG => ob_move rfl rfl (Opd.gd hG u_0))) <|
           o_g (g_fi rfl rfl rfl (fun hG => ob_fieldAddr fl_25_3 rfl rfl u_0)) <|
           o_g (g_fi rfl rfl rfl (fun hG => ob_load ty_2 rfl rfl (Opd.gd hG u_0))) <|
           o_g (g_fi rfl rfl rfl (fun hG => ob_move rfl rfl u_0)) <|
           o_g (g_fi rfl rfl rfl (fun hG => ob_gt rfl rfl (Opd.gd hG u_0) (Opd.gd hG u_1))) <|
           o_g (g_t rfl rfl rfl (fun hG => ob_por rfl rfl (Opd.gd hG u_0) (fun hz => (Opd.gd (bA hG (bNF hz)) u_1)))) <|
           o_g (g_t rfl rfl rfl (fun hG => ob_move rfl rfl (Opd.gd hG u_0))) <|
           o_g (g_fi rfl rfl rfl (fun hG => ob_fieldAddr fl_25_1 rfl rfl u_0)) <|
           o_g (g_fi rfl rfl rfl (fun hG => ob_load ty_2 rfl rfl (Opd.gd hG u_0))) <|
           o_g (g_fi rfl rfl rfl (fun hG => ob_fieldAddr fl_25_2 rfl rfl u_0)) <|
           o_g (g_fi rfl rfl rfl (fun hG => ob_load ty_2 rfl rfl (Opd.gd hG u_0))) <|
           o_g (g_fi rfl rfl rfl (fun hG => ob_lt rfl rfl (Opd.gd hG u_0) (Opd.gd hG u_1))) <|
           o_g (g_t rfl rfl rfl (fun hG => ob_por rfl rfl (Opd.gd hG u_0) (fun hz => (Opd.gd (bA hG (bNF hz)) u_1)))) <|
           o_g (g_t rfl rfl rfl (fun hG => ob_move rfl rfl (Opd.gd hG u_0))) <|
           o_g (g_fi rfl rfl rfl (fun hG => ob_fieldAddr fl_25_1 rfl rfl u_0)) <|
           o_g (g_fi rfl rfl rfl (fun hG => ob_load ty_2 rfl rfl (Opd.gd hG u_0))) <|
           o_g (g_fi rfl rfl rfl (fun hG => ob_fieldAddr fl_25_3 rfl rfl u_0)) <|
           o_g (g_fi rfl rfl rfl (fun hG => ob_load ty_2 rfl rfl (Opd.gd hG u_0))) <|
           o_g (g_fi rfl rfl rfl (fun hG => ob_gt rfl rfl (Opd.gd hG u_0) (Opd.gd hG u_1))) <|
           o_g (g_t rfl rfl rfl (fun hG => ob_por rfl rfl (Opd.gd hG u_0) (fun hz => (Opd.gd (bA hG (bNF hz)) u_1)))) <|
           o_p rfl (ob_pand rfl rfl u_0 (fun hz => (Opd.gd hz u_1))) <|
           o_n) (by kernel_rfl) (fun a g hst hb => ?_)
        refine wp_cond_split (hst.bool 1 rfl) (fun hc8 => ?_) (fun hc8 => ?_)
        · replace H0 := ite_t hc8 H0
          refine r_s (L := []) (T := [⟨[], _, [], [], [2]⟩]) (F := [.op 0 0]) (hst.pick [] rfl) hb follows
            (o_p rfl (ob_assign rfl rfl c_i) <|
             o_n) (by kernel_rfl) (fun a g hst hb => ?_)
          refine wp_ret ?_
          refine then_r ?_
          obtain rfl := Option.some.inj H0
          exact endR1 rfl hst hb (res_tmp (s := 2)) (hst.at 0 rfl)
        · replace H0 := ite_f hc8 H0
          refine wp_skip ?_
          refine then_n ?_
          refine wp_seq ?_
          obtain ⟨r9, h10, H0⟩ := of_bind H0
          refine r_s (L := [(1, _)]) (T := [⟨[.old 0], _, [], [], [59]⟩, ⟨[.op 0 0], _, [], [0], [60]⟩, ⟨[.op 1 0], _, [], [0, 1], [61]⟩, ⟨[.op 2 0], _, [], [0, 1, 2], [62]⟩]) (F := [.old 0, .op 3 0]) (hst.pick [0] rfl) hb follows
            (o_p rfl (ob_fieldAddr fl_25_4 rfl rfl u_0) <|
             o_p rfl (ob_load ty_22 rfl rfl u_0) <|
             o_p rfl (ob_call en_38 (moietyref01_Proper_ok _ h10) rfl rfl (.cons u_0 .nil)) <|
             o_p rfl (ob_not rfl rfl u_0) <|
             o_n) (by kernel_rfl) (fun a g hst hb => ?_)
          refine wp_cond_split (hst.bool 1 rfl) (fun hc11 => ?_) (fun hc11 => ?_)
          · replace H0 := ite_t hc11 H0
            refine r_s (L := []) (T := [⟨[], _, [], [], [2]⟩]) (F := [.op 0 0]) (hst.pick [] rfl) hb follows
              (o_p rfl (ob_assign rfl rfl c_i) <|
               o_n) (by kernel_rfl) (fun a g hst hb => ?_)
            refine wp_ret ?_
            refine then_r ?_
            obtain rfl := Option.some.inj H0
            exact endR1 rfl hst hb (res_tmp (s := 2)) (hst.at 0 rfl)
          · replace H0 := ite_f hc11 H0
            refine wp_skip ?_
            refine then_n ?_
            refine wp_seq ?_
            refine r_s (L := [(1, _)]) (T := [⟨[.old 0], _, [], [], [63]⟩, ⟨[.op 0 0], _, [], [0], [64]⟩, ⟨[.op 1 0], _, [], [0, 1], [65]⟩]) (F := [.old 0, .op 2 0]) (hst.pick [0] rfl) hb follows
              (o_p rfl (ob_fieldAddr fl_25_0 rfl rfl u_0) <|
               o_p rfl (ob_load ty_3 rfl rfl u_0) <|
               o_p rfl (ob_lt rfl rfl u_0 c_i) <|
               o_n) (by kernel_rfl) (fun a g hst hb => ?_)
            refine wp_cond_split (hst.bool 1 rfl) (fun hc12 => ?_) (fun hc12 => ?_)
            · replace H0 := ite_t hc12 H0
              refine r_s (L := []) (T := [⟨[], _, [], [], [2]⟩]) (F := [.op 0 0]) (hst.pick [] rfl) hb follows
                (o_p rfl (ob_assign rfl rfl c_i) <|
                 o_n) (by kernel_rfl) (fun a g hst hb => ?_)
              refine wp_ret ?_
              refine then_r ?_
              obtain rfl := Option.some.inj H0
              exact endR1 rfl hst hb (res_tmp (s := 2)) (hst.at 0 rfl)
            · replace H0 := ite_f hc12 H0
              refine wp_skip ?_
              refine then_n ?_
              refine wp_seq ?_
              refine r_s (L := [(1, _)]) (T := [⟨[.old 0], _, [], [], [66]⟩, ⟨[.op 0 0], _, [], [0], [67]⟩, ⟨[.op 1 0], _, [], [0, 1], [68]⟩, ⟨[.op 2 0], _, [], [0, 1, 2], [69]⟩, ⟨[.op 3 0, .old 0], _, [], List.range 4, [70]⟩, ⟨[.op 3 0, .op 4 0], _, [], List.range 5, [71]⟩, ⟨[.op 3 0, .op 5 0], _, [], List.range 6, [72]⟩, ⟨[.op 3 0, .op 6 0], _, [], List.range 7, [73]⟩]) (F := [.old 0, .op 7 0]) (hst.pick [0] rfl) hb follows
                (o_p rfl (ob_fieldAddr fl_25_5 rfl rfl u_0) <|
                 o_p rfl (ob_load ty_3 rfl rfl u_0) <|
                 o_p rfl (ob_lt rfl rfl u_0 c_i) <|
                 o_p rfl (ob_move rfl rfl u_0) <|
                 o_g (g_f rfl rfl rfl (fun hG => ob_fieldAddr fl_25_5 rfl rfl u_0)) <|
                 o_g (g_f rfl rfl rfl (fun hG => ob_load ty_3 rfl rfl (Opd.gd hG u_0))) <|
                 o_g (g_f rfl rfl rfl (fun hG => ob_gt rfl rfl (Opd.gd hG u_0) c_i)) <|
                 o_p rfl (ob_por rfl rfl u_0 (fun hz => (Opd.gd (bNF hz) u_1))) <|
                 o_n) (by kernel_rfl) (fun a g hst hb => ?_)
              refine wp_cond_split (hst.bool 1 rfl) (fun hc13 => ?_) (fun hc13 => ?_)
              · replace H0 := ite_t hc13 H0
                refine r_s (L := []) (T := [⟨[], _, [], [], [2]⟩]) (F := [.op 0 0]) (hst.pick [] rfl) hb follows
                  (o_p rfl (ob_assign rfl rfl c_i) <|
                   o_n) (by kernel_rfl) (fun a g hst hb => ?_)
                refine wp_ret ?_
                refine then_r ?_
                obtain rfl := Option.some.inj H0
                exact endR1 rfl hst hb (res_tmp (s := 2)) (hst.at 0 rfl)
              · replace H0 := ite_f hc13 H0
                refine wp_skip ?_
                refine then_n ?_
                refine wp_seq ?_
                refine r_s (L := [(1, _)]) (T := [⟨[.old 0], _, [], [], [74]⟩, ⟨[.op 0 0], _, [], [0], [75]⟩, ⟨[.op 1 0], _, [], [0, 1], [76]⟩, ⟨[.old 0], _, [], [], [77]⟩, ⟨[.op 3 0], _, [], [3], [78]⟩, ⟨[.op 2 0, .op 4 0], _, [], List.range 5, [79]⟩]) (F := [.old 0, .op 5 0]) (hst.pick [0] rfl) hb follows
                  (o_p rfl (ob_fieldAddr fl_25_7 rfl rfl u_0) <|
                   o_p rfl (ob_load ty_23 rfl rfl u_0) <|
                   o_p rfl (ob_lenL Tryd.underlying23 rfl rfl u_0) <|
                   o_p rfl (ob_fieldAddr fl_25_5 rfl rfl u_0) <|
                   o_p rfl (ob_load ty_3 rfl rfl u_0) <|
                   o_p rfl (ob_gt rfl rfl u_0 u_1) <|
                   o_n) (by kernel_rfl) (fun a g hst hb => ?_)
                refine wp_cond_split (hst.bool 1 rfl) (fun hc14 => ?_) (fun hc14 => ?_)
                · replace H0 := ite_t hc14 H0
                  refine r_s (L := []) (T := [⟨[], _, [], [], [2]⟩]) (F := [.op 0 0]) (hst.pick [] rfl) hb follows
                    (o_p rfl (ob_assign rfl rfl c_i) <|
                     o_n) (by kernel_rfl) (fun a g hst hb => ?_)
                  refine wp_ret ?_
                  refine then_r ?_
                  obtain rfl := Option.some.inj H0
                  exact endR1 rfl hst hb (res_tmp (s := 2)) (hst.at 0 rfl)
                · replace H0 := ite_f hc14 H0
                  refine wp_skip ?_
                  refine then_n ?_
                  refine wp_seq ?_
                  refine r_s (L := [(1, _)]) (T := [⟨[], _, [], [], [4]⟩]) (F := [.old 0, .op 0 0]) (hst.pick [0] rfl) hb follows
                    (o_p rfl (ob_assign rfl rfl c_i) <|
                     o_n) (by kernel_rfl) (fun a g hst hb => ?_)
                  obtain ⟨z20, hz1, H0⟩ := of_bind H0
                  refine wp_cut (fun a w => ∃ (g : G), w = g.w ∧ St 96 [] a g ∧ Base g0 g ∧ (.inr ()) = z20) ?_ ?_
                  · rintro a w ⟨g, rfl, hst, hb, rfl⟩
                    refine then_n ?_
                    refine r_s (L := []) (T := [⟨[], _, [], [], [2]⟩]) (F := [.op 0 0]) hst hb follows
                      (o_p rfl (ob_assign rfl rfl c_i) <|
                       o_n) (by kernel_rfl) (fun a g hst hb => ?_)
                    refine wp_ret ?_
                    obtain rfl := Option.some.inj H0
                    exact endR1 rfl hst hb (res_tmp (s := 2)) (hst.at 0 rfl)
                  · refine wp_block ?_
                    refine wp_loop_ghost (fun n a w => ∃ (x15 : Int) (g : G), w = g.w ∧ St 96 [(1, (k_api_Record.ptr a0)), (4, (pInt .i64 x15))] a g ∧ Base g0 g ∧ moietyref03_Check_l1 a0 n x15 = some z20) (Int.toNat ((a0.List.length : Int) - (0 : Int)) + 1) ⟨(0 : Int), g, rfl, (hst.pick [0, 1] rfl), hb, hz1⟩ (fun n a w hI => ?_)
                    obtain ⟨x15, g, rfl, hst, hb, H1⟩ := hI
                    cases n with
                    | zero => exact absurd H1 (by simp [moietyref03_Check_l1])
                    | succ n =>
                      rw [moietyref03_Check_l1] at H1
                      refine wp_seq ?_
                      refine r_s (L := [(1, _), (4, _)]) (T := [⟨[.old 1], _, [], [], [80]⟩, ⟨[.old 0], _, [], [], [81]⟩, ⟨[.op 1 0], _, [], [1], [82]⟩, ⟨[.op 2 0], _, [], [1, 2], [83]⟩, ⟨[.op 0 0, .op 3 0], _, [], List.range 4, [84]⟩]) (F := [.old 0, .old 1, .op 4 0]) hst hb follows
                        (o_p rfl (ob_move rfl rfl u_0) <|
                         o_p rfl (ob_fieldAddr fl_25_7 rfl rfl u_0) <|
                         o_p rfl (ob_load ty_23 rfl rfl u_0) <|
                         o_p rfl (ob_lenL Tryd.underlying23 rfl rfl u_0) <|
                         o_p rfl (ob_lt rfl rfl u_0 u_1) <|
                         o_n) (by kernel_rfl) (fun a g hst hb => ?_)
                      refine wp_cond_split (hst.bool 2 rfl) (fun hc16 => ?_) (fun hc16 => ?_)
                      · replace H1 := ite_t hc16 H1
                        refine wp_skip ?_
                        refine then_n ?_
                        refine wp_seq ?_
                        refine wp_block ?_
                        obtain ⟨r17, h18, H1⟩ := of_bind H1
                        refine r_s (L := [(1, _), (4, _)]) (T := [⟨[.old 0], _, [], [], [87]⟩, ⟨[.op 0 0], _, [], [0], [88]⟩, ⟨[.old 0], _, [], [], [89]⟩, ⟨[.op 2 0], _, [], [2], [90]⟩, ⟨[.old 1], _, [], [], [91]⟩, ⟨[.op 1 0, .op 3 0, .op 4 0], _, [], List.range 5, [92]⟩, ⟨[.op 5 0], _, [], List.range 6, [5]⟩]) (F := [.old 0, .old 1, .op 6 0]) (hst.pick [0, 1] rfl) hb follows
                          (o_p rfl (ob_fieldAddr fl_25_0 rfl rfl u_0) <|
                           o_p rfl (ob_load ty_3 rfl rfl u_0) <|
                           o_p rfl (ob_fieldAddr fl_25_7 rfl rfl u_0) <|
                           o_p rfl (ob_load ty_23 rfl rfl u_0) <|
                           o_p rfl (ob_move rfl rfl u_0) <|
                           o_p rfl (ob_call en_39 (moietyref03_item_ok _ _ _ h18) rfl rfl (.cons u_0 (.cons u_1 (.cons u_2 .nil)))) <|
                           o_p rfl (ob_assign rfl rfl u_0) <|
                           o_n) (by kernel_rfl) (fun a g hst hb => ?_)
                        refine r_s (L := [(1, _), (4, _), (5, _)]) (T := [⟨[.old 2], _, [], [], [93]⟩, ⟨[.op 0 0], _, [], [0], [94]⟩]) (F := [.old 0, .old 1, .old 2, .op 1 0]) hst hb follows
                          (o_p rfl (ob_move rfl rfl u_0) <|
                           o_p rfl (ob_ne rfl rfl u_0 c_i) <|
                           o_n) (by kernel_rfl) (fun a g hst hb => ?_)
                        refine wp_cond_split (hst.bool 3 rfl) (fun hc19 => ?_) (fun hc19 => ?_)
                        · replace H1 := ite_t hc19 H1
                          refine r_s (L := [(5, _)]) (T := [⟨[.old 0], _, [], [], [95]⟩, ⟨[.op 0 0], _, [], [0], [2]⟩]) (F := [.op 1 0]) (hst.pick [2] rfl) hb follows
                            (o_p rfl (ob_move rfl rfl u_0) <|
                             o_p rfl (ob_assign rfl rfl u_0) <|
                             o_n) (by kernel_rfl) (fun a g hst hb => ?_)
                          refine wp_ret ?_
                          refine inBlock_r ?_
                          refine then_r ?_
                          refine then_r ?_
                          refine inBlock_r ?_
                          refine then_r ?_
                          refine then_r ?_
                          obtain rfl := Option.some.inj H1
                          obtain rfl := Option.some.inj H0
                          exact endR1 rfl hst hb (res_tmp (s := 2)) (hst.at 0 rfl)
                        · replace H1 := ite_f hc19 H1
                          refine wp_skip ?_
                          refine inBlock_n ?_
                          refine then_n ?_
                          refine r_g (L := [(1, _), (4, _)]) (T := [⟨[.old 1], _, [], [], [85]⟩, ⟨[.op 0 0], _, [], [0], [86]⟩, ⟨[.op 1 0], _, [], [0, 1], [4]⟩]) (F := [.old 0, .op 2 0]) (hst.pick [0, 1] rfl) hb follows
                            (o_p rfl (ob_move rfl rfl u_0) <|
                             o_p rfl (ob_add rfl rfl u_0 c_i rfl) <|
                             o_p rfl (ob_assign rfl rfl u_0) <|
                             o_n) (by kernel_rfl) (fun a g hst hb => ?_)
                          exact ⟨n, Nat.lt_succ_self _, (IntKind.i64.wrap (x15 + (1 : Int))), g, rfl, (hst.pick [0, 1] rfl), hb, H1⟩
                      · replace H1 := ite_f hc16 H1
                        refine wp_exit ?_
                        refine then_e ?_
                        refine then_e ?_
                        refine inBlock_e ?_
                        exact ⟨g, rfl, (hst.pick [] rfl), hb, Option.some.inj H1⟩
end Go.CL

set_option linter.unusedVariables false
set_option linter.unusedSimpArgs false
set_option maxRecDepth 100000
namespace Go.CL
open Go Go.RowKit Go.Proofs
theorem act_Reads_ok (a0 : Int) {r : Bool} (h : act_Reads a0 = some r) : FnOk Tryd.prog 22 [(pInt .i64 a0)] (pBool r) := by
  have H0 := h
  unfold act_Reads at H0
  clear h
  refine fn_ok (N := 21) Tryd.func22 rfl rfl (Nat.le_of_ble_eq_true rfl) rfl rfl (fun a g0 hst hb => ?_)
  refine r_s (L := [(0, _)]) (T := [⟨[], _, [], [], [2]⟩]) (F := [.old 0]) hst hb follows
    (o_p rfl (ob_assign rfl rfl c_b) <|
     o_n) (by kernel_rfl) (fun a g hst hb => ?_)
  refine r_s (L := [(0, _)]) (T := ⟨[.old 0], _, [], [], [3]⟩ :: ⟨[.op 0 0], _, [], [0], [4]⟩ :: ⟨[.op 1 0], _, [], [0, 1], [5]⟩ :: ⟨[.op 2 0, .old 0], _, [], [0, 1, 2], [6]⟩ :: ⟨[.op 2 0, .op 3 0], _, [], List.range 4, [7]⟩ :: ⟨[.op 2 0, .op 4 0], _, [], List.range 5, [8]⟩ :: ⟨[.op 5 0], _, [], List.range 6, [9]⟩ :: ⟨[.op 6 0, .old 0], _, [], List.range 7, [10]⟩ :: ⟨[.op 6 0, .op 7 0], _, [], List.range 8, [11]⟩ :: ⟨[.op 6 0, .op 8 0], _, [], List.range 9, [12]⟩ :: ⟨[.op 9 0], _, [], List.range 10, [13]⟩ :: ⟨[.op 10 0, .old 0], _, [], List.range 11, [14]⟩ :: ⟨[.op 10 0, .op 11 0], _, [], List.range 12, [15]⟩ :: ⟨[.op 10 0, .op 12 0], _, [], List.range 13, [16]⟩ :: ⟨[.op 13 0], _, [], List.range 14, [17]⟩ :: ⟨[.op 14 0, .old 0], _, [], List.range 15, [18]⟩ :: ⟨[.op 14 0, .op 15 0], _, [], List.range 16, [19]⟩ :: ⟨[.op 14 0, .op 16 0], _, [], List.range 17, [20]⟩ :: ⟨[.op 17 0], _, [], List.range 18, [2]⟩ :: []) (F := [.op 18 0]) hst hb follows
    (o_p rfl (ob_move rfl rfl u_0) <|
     o_p rfl (ob_eq rfl rfl u_0 c_i) <|
     o_p rfl (ob_move rfl rfl u_0) <|
     o_g (g_f rfl rfl rfl (fun hG => ob_move rfl rfl u_0)) <|
     o_g (g_f rfl rfl rfl (fun hG => ob_eq rfl rfl (Opd.gd hG u_0) c_i)) <|
     o_p rfl (ob_por rfl rfl u_0 (fun hz => (Opd.gd (bNF hz) u_1))) <|
     o_p rfl (ob_move rfl rfl u_0) <|
     o_g (g_f rfl rfl rfl (fun hG => ob_move rfl rfl u_0)) <|
     o_g (g_f rfl rfl rfl (fun hG => ob_eq rfl rfl (Opd.gd hG u_0) c_i)) <|
     o_p rfl (ob_por rfl rfl u_0 (fun hz => (Opd.gd (bNF hz) u_1))) <|
     o_p rfl (ob_move rfl rfl u_0) <|
     o_g (g_f rfl rfl rfl (fun hG => ob_move rfl rfl u_0)) <|
     o_g (g_f rfl rfl rfl (fun hG => ob_eq rfl rfl (Opd.gd hG u_0) c_i)) <|
     o_p rfl (ob_por rfl rfl u_0 (fun hz => (Opd.gd (bNF hz) u_1))) <|
     o_p rfl (ob_move rfl rfl u_0) <|
     o_g (g_f rfl rfl rfl (fun hG => ob_move rfl rfl u_0)) <|
     o_g (g_f rfl rfl rfl (fun hG => ob_eq rfl rfl (Opd.gd hG u_0) c_i)) <|
     o_p rfl (ob_por rfl rfl u_0 (fun hz => (Opd.gd (bNF hz) u_1))) <|
     o_p rfl (ob_assign rfl rfl u_0) <|
     o_n) (by kernel_rfl) (fun a g hst hb => ?_)
  refine wp_ret ?_
  obtain rfl := Option.some.inj H0
  exact endR1 rfl hst hb (res_tmp (s := 2)) (hst.at 0 rfl)
end Go.CL

set_option linter.unusedVariables false
set_option linter.unusedSimpArgs false
set_option maxRecDepth 100000
namespace Go.CL
open Go Go.RowKit Go.Proofs
theorem moietylaw05_RuleKeeps_ok (a0 : api_Record) (a1 : Bool) (a2 : List api_Act) {r : Bool} (h : moietylaw05_RuleKeeps a0 a1 a2 = some r) : FnOk Tryd.prog 8 [(k_api_Record.pd a0), (pBool a1), (k_api_Act.sl.pd a2)] (pBool r) := by
  have H0 := h
  unfold moietylaw05_RuleKeeps at H0
  clear h
  refine fn_ok (N := 91) Tryd.func8 rfl rfl (Nat.le_of_ble_eq_true rfl) rfl rfl (fun a g0 hst hb => ?_)
  refine r_s (L := [(0, _), (1, _), (2, _)]) (T := [⟨[.old 0], _, [4], [], [3]⟩, ⟨[], _, [], [], [6]⟩]) (F := [.old 1, .old 2, .op 0 0]) hst hb follows
    (o_p rfl (ob_boxM rfl rfl u_0) <|
     o_p rfl (ob_assign rfl rfl c_b) <|
     o_n) (by kernel_rfl) (fun a g hst hb => ?_)
  refine wp_seq ?_
  obtain ⟨r1, h2, H0⟩ := of_bind H0
  refine r_s (L := [(1, _), (2, _), (3, _)]) (T := [⟨[], _, [], [], [12]⟩, ⟨[.op 0 0], _, [], [0], [13]⟩]) (F := [.old 0, .old 1, .old 2, .op 1 0]) hst hb follows
    (o_p rfl (ob_call en_9 (moietylaw05_speaks_ok h2) rfl rfl .nil) <|
     o_p rfl (ob_not rfl rfl u_0) <|
     o_n) (by kernel_rfl) (fun a g hst hb => ?_)
  refine wp_cond_split (hst.bool 3 rfl) (fun hc3 => ?_) (fun hc3 => ?_)
  · replace H0 := ite_t hc3 H0
    refine r_s (L := []) (T := [⟨[], _, [], [], [6]⟩]) (F := [.op 0 0]) (hst.pick [] rfl) hb follows
      (o_p rfl (ob_assign rfl rfl c_b) <|
       o_n) (by kernel_rfl) (fun a g hst hb => ?_)
    refine wp_ret ?_
    refine then_r ?_
    obtain rfl := Option.some.inj H0
    exact endR1 rfl hst hb (res_tmp (s := 6)) (hst.at 0 rfl)
  · replace H0 := ite_f hc3 H0
    refine wp_skip ?_
    refine then_n ?_
    refine wp_seq ?_
    obtain ⟨r4, h5, H0⟩ := of_bind H0; obtain ⟨r6, h7, H0⟩ := of_bind H0
    refine r_s (L := [(1, _), (2, _), (3, _)]) (T := [⟨[.old 2], _, [], [], [14]⟩, ⟨[.old 1], _, [], [], [15]⟩, ⟨[.op 0 0, .op 1 0], _, [], [0, 1], [16]⟩, ⟨[.op 2 0], _, [], [0, 1, 2], [17]⟩, ⟨[.op 3 0, .old 0], _, [], List.range 4, [18]⟩, ⟨[.op 3 0, .op 4 0], _, [], List.range 5, [19]⟩, ⟨[.op 5 0, .old 2], _, [], List.range 6, [20]⟩, ⟨[.op 5 0, .op 6 0], _, [], List.range 7, [21]⟩, ⟨[.op 5 0, .op 7 0], _, [], List.range 8, [22]⟩, ⟨[.op 3 0, .op 5 0, .op 8 0], _, [], List.range 9, [23]⟩, ⟨[.op 3 0, .op 9 0], _, [], List.range 10, [24]⟩]) (F := [.old 0, .old 1, .old 2, .op 10 0]) (hst.pick [0, 1, 2] rfl) hb follows
      (o_p rfl (ob_loadM ty_25 rfl rfl u_0) <|
       o_p rfl (ob_move rfl rfl u_0) <|
       o_p rfl (ob_call en_10 (moietylaw05_big_ok _ _ h5) rfl rfl (.cons u_0 (.cons u_1 .nil))) <|
       o_p rfl (ob_move rfl rfl u_0) <|
       o_g (g_f rfl rfl rfl (fun hG => ob_move rfl rfl u_0)) <|
       o_g (g_f rfl rfl rfl (fun hG => ob_move rfl rfl (Opd.gd hG u_0))) <|
       o_g (g_ti rfl rfl rfl (fun hG => ob_loadM ty_25 rfl rfl u_0)) <|
       o_g (g_ti rfl rfl rfl (fun hG => ob_call en_18 (moietyref03_Check_ok _ (gd_true h7 hG)) rfl rfl (.cons (Opd.gd hG u_0) .nil))) <|
       o_g (g_ti rfl rfl rfl (fun hG => ob_ne rfl rfl (Opd.gd hG u_0) c_i)) <|
       o_g (g_f rfl rfl rfl (fun hG => ob_pand rfl rfl (Opd.gd hG u_0) (fun hz => (Opd.gd (bA hG hz) u_1)))) <|
       o_p rfl (ob_por rfl rfl u_0 (fun hz => (Opd.gd (bNF hz) u_1))) <|
       o_n) (by kernel_rfl) (fun a g hst hb => ?_)
    refine wp_cond_split (hst.bool 3 rfl) (fun hc8 => ?_) (fun hc8 => ?_)
    · replace H0 := ite_t hc8 H0
      refine r_s (L := []) (T := [⟨[], _, [], [], [6]⟩]) (F := [.op 0 0]) (hst.pick [] rfl) hb follows
        (o_p rfl (ob_assign rfl rfl c_b) <|
         o_n) (by kernel_rfl) (fun a g hst hb => ?_)
      refine wp_ret ?_
      refine then_r ?_
      obtain rfl := Option.some.inj H0
      exact endR1 rfl hst hb (res_tmp (s := 6)) (hst.at 0 rfl)
    · replace H0 := ite_f hc8 H0
      refine wp_skip ?_
      refine then_n ?_
      refine wp_seq ?_
      refine r_s (L := [(1, _), (2, _), (3, _)]) (T := [⟨[.old 0], _, [], [], [25]⟩, ⟨[.op 0 0], _, [], [0], [26]⟩]) (F := [.old 0, .old 1, .old 2, .op 1 0]) (hst.pick [0, 1, 2] rfl) hb follows
        (o_p rfl (ob_move rfl rfl u_0) <|
         o_p rfl (ob_not rfl rfl u_0) <|
         o_n) (by kernel_rfl) (fun a g hst hb => ?_)
      refine wp_cut (fun a w => ∃ (j10 : api_Record) (g : G), w = g.w ∧ St 91 [(1, (pBool a1)), (2, (k_api_Act.sl.pd a2)), (3, (pBox k_api_Record 3 j10))] a g ∧ Base g0 g ∧ moietylaw05_RuleKeeps_j1 a1 a2 j10 = some r) ?_ ?_
      · rintro a w ⟨j10, g, rfl, hst, hb, H0⟩
        unfold moietylaw05_RuleKeeps_j1 at H0
        refine then_n ?_
        refine wp_seq ?_
        refine r_s (L := [(1, _), (2, _), (3, _)]) (T := [⟨[.old 1], _, [], [], [28]⟩, ⟨[.op 0 0], _, [], [0], [29]⟩, ⟨[], _, [], [], [30]⟩]) (F := [.old 0, .old 2, .op 0 0, .op 1 0, .op 2 0]) hst hb follows
          (o_p rfl (ob_move rfl rfl u_0) <|
           o_p rfl (ob_lenL Tryd.underlying38 rfl rfl u_0) <|
           o_p rfl (ob_move rfl rfl c_i) <|
           o_n) (by kernel_rfl) (fun a g hst hb => ?_)
        obtain ⟨z32, hz1, H0⟩ := of_bind H0
        refine wp_cut (fun a w => ∃ (g : G), w = g.w ∧ St 91 [] a g ∧ Base g0 g ∧ (.inr ()) = z32) ?_ ?_
        · rintro a w ⟨g, rfl, hst, hb, rfl⟩
          refine then_n ?_
          refine r_s (L := []) (T := [⟨[], _, [], [], [6]⟩]) (F := [.op 0 0]) hst hb follows
            (o_p rfl (ob_assign rfl rfl c_b) <|
             o_n) (by kernel_rfl) (fun a g hst hb => ?_)
          refine wp_ret ?_
          obtain rfl := Option.some.inj H0
          exact endR1 rfl hst hb (res_tmp (s := 6)) (hst.at 0 rfl)
        · refine wp_block ?_
          refine wp_loop_ghost (fun n a w => ∃ (x11 : Bool) (x12 : api_Record) (x13 : Int) (g : G), w = g.w ∧ St 91 [(1, (pBool x11)), (3, (pBox k_api_Record 3 x12)), (28, (k_api_Act.sl.pd a2)), (29, (pInt .i64 (a2.length : Int))), (30, (pInt .i64 x13))] a g ∧ Base g0 g ∧ moietylaw05_RuleKeeps_l1 a2 n x11 x12 x13 = some z32) (Int.toNat ((a2.length : Int) - (0 : Int)) + 1) ⟨a1, j10, (0 : Int), g, rfl, (hst.pick [0, 1, 2, 3, 4] rfl), hb, hz1⟩ (fun n a w hI => ?_)
          obtain ⟨x11, x12, x13, g, rfl, hst, hb, H1⟩ := hI
          cases n with
          | zero => exact absurd H1 (by simp [moietylaw05_RuleKeeps_l1])
          | succ n =>
            rw [moietylaw05_RuleKeeps_l1] at H1
            refine r_s (L := [(1, _), (3, _), (28, _), (29, _), (30, _)]) (T := [⟨[.old 4, .old 3], _, [], [], [31]⟩]) (F := [.old 0, .old 1, .old 2, .old 3, .old 4, .op 0 0]) hst hb follows
              (o_p rfl (ob_lt rfl rfl u_0 u_1) <|
               o_n) (by kernel_rfl) (fun a g hst hb => ?_)
            refine wp_seq ?_
            refine wp_cond_split (hst.bool 5 rfl) (fun hc14 => ?_) (fun hc14 => ?_)
            · replace H1 := ite_t hc14 H1
              refine wp_skip ?_
              refine then_n ?_
              refine wp_seq ?_
              refine wp_block ?_
              obtain ⟨e15, h16, H1⟩ := of_bind H1
              refine r_s (L := [(1, _), (3, _), (28, _), (29, _), (30, _)]) (T := [⟨[.old 2, .old 4], _, [], [], [32]⟩, ⟨[.op 0 0], _, [], [0], [33]⟩, ⟨[], [(8, (pBox k_api_Act 8 (default : api_Act)))], [9], [], [8]⟩, ⟨[.op 1 0, .op 2 0], _, [9], [0, 1, 2], [8]⟩]) (F := [.old 0, .old 1, .op 3 0, .old 2, .old 3, .old 4]) (hst.pick [0, 1, 2, 3, 4] rfl) hb follows
                (o_p rfl (ob_indexAddr Tryd.underlying38 sz_27 rfl rfl u_0 u_1 h16) <|
                 o_p rfl (ob_load ty_27 rfl rfl u_0) <|
                 o_p rfl (ob_alloc (zs := [.int .i64 0, .string ByteArray.empty, .int .i64 0, .float .f64 0, .string ByteArray.empty, .int .i64 0, .int .i64 0, .int .i64 0, .int .i64 0, .float .f64 0, .int .i64 0, .string ByteArray.empty, .slice none 0 0, .bool false]) (by kernel_rfl) (fun g => zk_api_Act g) rfl rfl) <|
                 o_p rfl (ob_storeF ty_27 rfl rfl u_1 u_0) <|
                 o_n) (by kernel_rfl) (fun a g hst hb => ?_)
              obtain ⟨r17, h18, H1⟩ := of_bind H1
              refine r_s (L := [(1, _), (3, _), (8, _), (28, _), (29, _), (30, _)]) (T := ⟨[.old 1], _, [], [], [35]⟩ :: ⟨[.old 0], _, [], [], [36]⟩ :: ⟨[.old 2], _, [], [], [37]⟩ :: ⟨[.op 0 0, .op 1 0, .op 2 0], _, [], [0, 1, 2], [38]⟩ :: ⟨[.op 3 0], _, [], List.range 4, [34]⟩ :: ⟨[.op 4 0], _, [], List.range 5, [39]⟩ :: ⟨[.op 4 0], _, [], List.range 5, [40]⟩ :: ⟨[.op 4 0], _, [], List.range 5, [41]⟩ :: ⟨[], [(9, (pBox k_api_Record 9 (default : api_Record)))], [10], [], [9]⟩ :: ⟨[], [(11, (pBox k_api_Answer 11 (default : api_Answer)))], [12], [], [11]⟩ :: ⟨[.op 5 0, .op 8 0], _, [10], [0, 1, 2, 3, 4, 5, 8, 9], [9]⟩ :: ⟨[.op 6 0], _, [], [0, 1, 2, 3, 4, 5, 6, 8, 9, 10], [10]⟩ :: ⟨[.op 7 0, .op 9 0], _, [12], List.range 12, [11]⟩ :: []) (F := [.old 0, .old 1, .old 2, .op 10 0, .op 11 0, .op 12 0, .old 3, .old 4, .old 5]) hst hb follows
                (o_p rfl (ob_loadM ty_25 rfl rfl u_0) <|
                 o_p rfl (ob_move rfl rfl u_0) <|
                 o_p rfl (ob_load ty_27 rfl rfl u_0) <|
                 o_p rfl (ob_call en_11 (rule_Apply_ok _ _ _ h18) rfl rfl (.cons u_0 (.cons u_1 (.cons u_2 .nil)))) <|
                 o_p rfl (ob_move rfl rfl u_0) <|
                 o_p rfl (ob_extract rfl rfl u_0 rfl) <|
                 o_p rfl (ob_extract rfl rfl u_0 rfl) <|
                 o_p rfl (ob_extract rfl rfl u_0 rfl) <|
                 o_p rfl (ob_alloc (zs := [.int .i64 0, .int .i64 0, .int .i64 0, .int .i64 0, .float .f64 0, .int .i64 0, .string ByteArray.empty, .slice none 0 0]) (by kernel_rfl) (fun g => zk_api_Record g) rfl rfl) <|
                 o_p rfl (ob_alloc (zs := [.int .i64 0, .int .i64 0, .int .i64 0, .int .i64 0, .int .i64 0, .int .i64 0, .float .f64 0, .int .i64 0, .string ByteArray.empty, .slice none 0 0]) (by kernel_rfl) (fun g => zk_api_Answer g) rfl rfl) <|
                 o_p rfl (ob_storeF ty_25 rfl rfl u_1 u_0) <|
                 o_p rfl (ob_assign rfl rfl u_0) <|
                 o_p rfl (ob_storeF ty_32 rfl rfl u_1 u_0) <|
                 o_n) (by kernel_rfl) (fun a g hst hb => ?_)
              refine wp_seq ?_
              obtain ⟨r19, h20, H1⟩ := of_bind H1; obtain ⟨r21, h22, H1⟩ := of_bind H1
              refine r_s (L := [(1, _), (3, _), (8, _), (9, _), (10, _), (11, _), (28, _), (29, _), (30, _)]) (T := ⟨[.old 4], _, [], [], [42]⟩ :: ⟨[.op 0 0], _, [], [0], [43]⟩ :: ⟨[.op 1 0, .old 3], _, [], [0, 1], [44]⟩ :: ⟨[.op 1 0, .op 2 0], _, [], [0, 1, 2], [45]⟩ :: ⟨[.op 1 0, .op 3 0], _, [], List.range 4, [46]⟩ :: ⟨[.op 1 0, .op 4 0], _, [], List.range 5, [47]⟩ :: ⟨[.op 5 0], _, [], List.range 6, [48]⟩ :: ⟨[.op 6 0, .old 4], _, [], List.range 7, [49]⟩ :: ⟨[.op 6 0, .op 7 0], _, [], List.range 8, [50]⟩ :: ⟨[.op 6 0, .op 8 0], _, [], List.range 9, [51]⟩ :: ⟨[.op 9 0, .old 3], _, [], List.range 10, [52]⟩ :: ⟨[.op 9 0], _, [], List.range 10, [53]⟩ :: ⟨[.op 9 0, .op 10 0, .op 11 0], _, [], List.range 12, [54]⟩ :: ⟨[.op 9 0, .op 12 0], _, [], List.range 13, [55]⟩ :: ⟨[.op 6 0, .op 9 0, .op 13 0], _, [], List.range 14, [56]⟩ :: ⟨[.op 6 0, .op 14 0], _, [], List.range 15, [57]⟩ :: []) (F := [.old 0, .old 1, .old 2, .old 3, .old 4, .old 5, .old 6, .old 7, .old 8, .op 15 0]) hst hb follows
                (o_p rfl (ob_move rfl rfl u_0) <|
                 o_p rfl (ob_move rfl rfl u_0) <|
                 o_g (g_t rfl rfl rfl (fun hG => ob_load ty_25 rfl rfl u_0)) <|
                 o_g (g_t rfl rfl rfl (fun hG => ob_call en_21 (rec_Check_ok _ (gd_true h20 hG)) rfl rfl (.cons (Opd.gd hG u_0) .nil))) <|
                 o_g (g_t rfl rfl rfl (fun hG => ob_ne rfl rfl (Opd.gd hG u_0) c_i)) <|
                 o_p rfl (ob_pand rfl rfl u_0 (fun hz => (Opd.gd hz u_1))) <|
                 o_p rfl (ob_move rfl rfl u_0) <|
                 o_g (g_f rfl rfl rfl (fun hG => ob_move rfl rfl u_0)) <|
                 o_g (g_f rfl rfl rfl (fun hG => ob_not rfl rfl (Opd.gd hG u_0))) <|
                 o_g (g_f rfl rfl rfl (fun hG => ob_move rfl rfl (Opd.gd hG u_0))) <|
                 o_g (g_ti rfl rfl rfl (fun hG => ob_load ty_25 rfl rfl u_0)) <|
                 o_g (g_ti rfl rfl rfl (fun hG => bd_25_ rfl rfl )) <|
                 o_g (g_ti rfl rfl rfl (fun hG => ob_call en_17 (rec_Same_ok _ _ (gd_true h22 hG)) rfl rfl (.cons (Opd.gd hG u_0) (.cons (Opd.gd hG u_1) .nil)))) <|
                 o_g (g_ti rfl rfl rfl (fun hG => ob_not rfl rfl (Opd.gd hG u_0))) <|
                 o_g (g_f rfl rfl rfl (fun hG => ob_pand rfl rfl (Opd.gd hG u_0) (fun hz => (Opd.gd (bA hG hz) u_1)))) <|
                 o_p rfl (ob_por rfl rfl u_0 (fun hz => (Opd.gd (bNF hz) u_1))) <|
                 o_n) (by kernel_rfl) (fun a g hst hb => ?_)
              refine wp_cond_split (hst.bool 9 rfl) (fun hc23 => ?_) (fun hc23 => ?_)
              · replace H1 := ite_t hc23 H1
                refine r_s (L := []) (T := [⟨[], _, [], [], [6]⟩]) (F := [.op 0 0]) (hst.pick [] rfl) hb follows
                  (o_p rfl (ob_assign rfl rfl c_b) <|
                   o_n) (by kernel_rfl) (fun a g hst hb => ?_)
                refine wp_ret ?_
                refine then_r ?_
                refine inBlock_r ?_
                refine then_r ?_
                refine then_r ?_
                refine inBlock_r ?_
                refine then_r ?_
                refine then_r ?_
                obtain rfl := Option.some.inj H1
                obtain rfl := Option.some.inj H0
                exact endR1 rfl hst hb (res_tmp (s := 6)) (hst.at 0 rfl)
              · replace H1 := ite_f hc23 H1
                refine wp_skip ?_
                refine then_n ?_
                refine wp_seq ?_
                obtain ⟨r24, h25, H1⟩ := of_bind H1; obtain ⟨r26, h27, H1⟩ := of_bind H1
                refine r_s (L := [(1, _), (3, _), (8, _), (9, _), (10, _), (11, _), (28, _), (29, _), (30, _)]) (T := ⟨[.old 5], _, [], [], [58]⟩ :: ⟨[.op 0 0], _, [], [0], [59]⟩ :: ⟨[.op 1 0], _, [], [0, 1], [60]⟩ :: ⟨[.op 2 0], _, [], [0, 1, 2], [61]⟩ :: ⟨[.op 3 0, .old 2], _, [], List.range 4, [62]⟩ :: ⟨[.op 3 0, .op 4 0], _, [], List.range 5, [63]⟩ :: ⟨[.op 3 0, .op 5 0], _, [], List.range 6, [64]⟩ :: ⟨[.op 3 0, .op 6 0], _, [], List.range 7, [65]⟩ :: ⟨[.op 7 0], _, [], List.range 8, [66]⟩ :: ⟨[.op 8 0, .old 4], _, [], List.range 9, [67]⟩ :: ⟨[.op 8 0, .old 0], _, [], List.range 9, [68]⟩ :: ⟨[.op 8 0, .op 9 0, .op 10 0], _, [], List.range 11, [69]⟩ :: ⟨[.op 8 0, .op 11 0], _, [], List.range 12, [70]⟩ :: ⟨[.op 12 0, .old 3], _, [], List.range 13, [71]⟩ :: ⟨[.op 12 0, .old 1], _, [], List.range 13, [72]⟩ :: ⟨[.op 12 0, .op 13 0, .op 14 0], _, [], List.range 15, [73]⟩ :: ⟨[.op 12 0, .op 15 0], _, [], List.range 16, [74]⟩ :: ⟨[.op 8 0, .op 12 0, .op 16 0], _, [], List.range 17, [75]⟩ :: ⟨[.op 8 0, .op 17 0], _, [], List.range 18, [76]⟩ :: []) (F := [.old 1, .old 3, .old 4, .old 5, .old 6, .old 7, .old 8, .op 18 0]) (hst.pick [0, 1, 2, 3, 4, 5, 6, 7, 8] rfl) hb follows
                  (o_p rfl (ob_fieldAddr fl_32_0 rfl rfl u_0) <|
                   o_p rfl (ob_load ty_30 rfl rfl u_0) <|
                   o_p rfl (ob_ne rfl rfl u_0 c_i) <|
                   o_p rfl (ob_move rfl rfl u_0) <|
                   o_g (g_f rfl rfl rfl (fun hG => ob_fieldAddr fl_27_0 rfl rfl u_0)) <|
                   o_g (g_f rfl rfl rfl (fun hG => ob_load ty_3 rfl rfl (Opd.gd hG u_0))) <|
                   o_g (g_f rfl rfl rfl (fun hG => ob_call en_22 (act_Reads_ok _ (gd_true h25 hG)) rfl rfl (.cons (Opd.gd hG u_0) .nil))) <|
                   o_p rfl (ob_por rfl rfl u_0 (fun hz => (Opd.gd (bNF hz) u_1))) <|
                   o_p rfl (ob_move rfl rfl u_0) <|
                   o_g (g_t rfl rfl rfl (fun hG => ob_move rfl rfl u_0)) <|
                   o_g (g_t rfl rfl rfl (fun hG => ob_move rfl rfl u_0)) <|
                   o_g (g_t rfl rfl rfl (fun hG => ob_bneq Tryd.underlying4 rfl rfl (Opd.gd hG u_0) (Opd.gd hG u_1))) <|
                   o_g (g_t rfl rfl rfl (fun hG => ob_move rfl rfl (Opd.gd hG u_0))) <|
                   o_g (g_fi rfl rfl rfl (fun hG => ob_load ty_25 rfl rfl u_0)) <|
                   o_g (g_fi rfl rfl rfl (fun hG => ob_loadM ty_25 rfl rfl u_0)) <|
                   o_g (g_fi rfl rfl rfl (fun hG => ob_call en_17 (rec_Same_ok _ _ (gd_true h27 hG)) rfl rfl (.cons (Opd.gd hG u_0) (.cons (Opd.gd hG u_1) .nil)))) <|
                   o_g (g_fi rfl rfl rfl (fun hG => ob_not rfl rfl (Opd.gd hG u_0))) <|
                   o_g (g_t rfl rfl rfl (fun hG => ob_por rfl rfl (Opd.gd hG u_0) (fun hz => (Opd.gd (bA hG (bNF hz)) u_1)))) <|
                   o_p rfl (ob_pand rfl rfl u_0 (fun hz => (Opd.gd hz u_1))) <|
                   o_n) (by kernel_rfl) (fun a g hst hb => ?_)
                refine wp_cond_split (hst.bool 7 rfl) (fun hc28 => ?_) (fun hc28 => ?_)
                · replace H1 := ite_t hc28 H1
                  refine r_s (L := []) (T := [⟨[], _, [], [], [6]⟩]) (F := [.op 0 0]) (hst.pick [] rfl) hb follows
                    (o_p rfl (ob_assign rfl rfl c_b) <|
                     o_n) (by kernel_rfl) (fun a g hst hb => ?_)
                  refine wp_ret ?_
                  refine then_r ?_
                  refine inBlock_r ?_
                  refine then_r ?_
                  refine then_r ?_
                  refine inBlock_r ?_
                  refine then_r ?_
                  refine then_r ?_
                  obtain rfl := Option.some.inj H1
                  obtain rfl := Option.some.inj H0
                  exact endR1 rfl hst hb (res_tmp (s := 6)) (hst.at 0 rfl)
                · replace H1 := ite_f hc28 H1
                  refine wp_skip ?_
                  refine then_n ?_
                  refine wp_seq ?_
                  obtain ⟨r29, h30, H1⟩ := of_bind H1
                  refine r_s (L := [(3, _), (9, _), (10, _), (11, _), (28, _), (29, _), (30, _)]) (T := [⟨[.old 3], _, [], [], [77]⟩, ⟨[.op 0 0], _, [], [0], [78]⟩, ⟨[.op 1 0], _, [], [0, 1], [79]⟩, ⟨[.op 2 0], _, [], [0, 1, 2], [80]⟩, ⟨[.op 3 0, .old 3], _, [], List.range 4, [81]⟩, ⟨[.op 3 0, .old 3], _, [], List.range 4, [82]⟩, ⟨[.op 3 0, .op 5 0], _, [], [0, 1, 2, 3, 5], [83]⟩, ⟨[.op 3 0, .op 6 0], _, [], [0, 1, 2, 3, 5, 6], [84]⟩, ⟨[.op 3 0, .op 4 0, .op 7 0], _, [], List.range 8, [85]⟩, ⟨[.op 3 0, .op 8 0], _, [], List.range 9, [86]⟩, ⟨[.op 3 0, .op 9 0], _, [], List.range 10, [87]⟩]) (F := [.old 0, .old 1, .old 2, .old 4, .old 5, .old 6, .op 10 0]) (hst.pick [0, 1, 2, 3, 4, 5, 6] rfl) hb follows
                    (o_p rfl (ob_fieldAddr fl_32_0 rfl rfl u_0) <|
                     o_p rfl (ob_load ty_30 rfl rfl u_0) <|
                     o_p rfl (ob_ne rfl rfl u_0 c_i) <|
                     o_p rfl (ob_move rfl rfl u_0) <|
                     o_g (g_t rfl rfl rfl (fun hG => ob_load ty_32 rfl rfl u_0)) <|
                     o_g (g_t rfl rfl rfl (fun hG => ob_fieldAddr fl_32_0 rfl rfl u_0)) <|
                     o_g (g_t rfl rfl rfl (fun hG => ob_load ty_30 rfl rfl (Opd.gd hG u_0))) <|
                     o_g (g_t rfl rfl rfl (fun hG => bd_32_0 rfl rfl (Opd.gd hG u_0))) <|
                     o_g (g_t rfl rfl rfl (fun hG => ob_call en_15 (rule_Same_ok _ _ (gd_true h30 hG)) rfl rfl (.cons (Opd.gd hG u_0) (.cons (Opd.gd hG u_1) .nil)))) <|
                     o_g (g_t rfl rfl rfl (fun hG => ob_not rfl rfl (Opd.gd hG u_0))) <|
                     o_p rfl (ob_pand rfl rfl u_0 (fun hz => (Opd.gd hz u_1))) <|
                     o_n) (by kernel_rfl) (fun a g hst hb => ?_)
                  refine wp_cond_split (hst.bool 6 rfl) (fun hc31 => ?_) (fun hc31 => ?_)
                  · replace H1 := ite_t hc31 H1
                    refine r_s (L := []) (T := [⟨[], _, [], [], [6]⟩]) (F := [.op 0 0]) (hst.pick [] rfl) hb follows
                      (o_p rfl (ob_assign rfl rfl c_b) <|
                       o_n) (by kernel_rfl) (fun a g hst hb => ?_)
                    refine wp_ret ?_
                    refine then_r ?_
                    refine inBlock_r ?_
                    refine then_r ?_
                    refine then_r ?_
                    refine inBlock_r ?_
                    refine then_r ?_
                    refine then_r ?_
                    obtain rfl := Option.some.inj H1
                    obtain rfl := Option.some.inj H0
                    exact endR1 rfl hst hb (res_tmp (s := 6)) (hst.at 0 rfl)
                  · replace H1 := ite_f hc31 H1
                    refine wp_skip ?_
                    refine then_n ?_
                    refine r_g (L := [(3, _), (9, _), (10, _), (28, _), (29, _), (30, _)]) (T := [⟨[.old 1], _, [], [], [88]⟩, ⟨[.old 2], _, [], [], [89]⟩, ⟨[.op 0 0, .old 0], _, [4], [0], [3]⟩, ⟨[.op 1 0], _, [], [0, 1, 2], [1]⟩]) (F := [.op 3 0, .op 2 0, .old 3, .old 4, .old 5]) (hst.pick [0, 1, 2, 3, 4, 5] rfl) hb follows
                      (o_p rfl (ob_load ty_25 rfl rfl u_0) <|
                       o_p rfl (ob_move rfl rfl u_0) <|
                       o_p rfl (ob_store ty_25 rfl rfl u_1 u_0) <|
                       o_p rfl (ob_assign rfl rfl u_0) <|
                       o_n) (by kernel_rfl) (fun a g hst hb => ?_)
                    refine inBlock_n ?_
                    refine then_n ?_
                    refine r_g (L := [(1, _), (3, _), (28, _), (29, _), (30, _)]) (T := [⟨[.old 4], _, [], [], [90]⟩, ⟨[.op 0 0], _, [], [0], [30]⟩]) (F := [.old 0, .old 1, .old 2, .old 3, .op 1 0]) hst hb follows
                      (o_p rfl (ob_add rfl rfl u_0 c_i rfl) <|
                       o_p rfl (ob_move rfl rfl u_0) <|
                       o_n) (by kernel_rfl) (fun a g hst hb => ?_)
                    exact ⟨n, Nat.lt_succ_self _, r17.2.1, r17.1, (IntKind.i64.wrap (x13 + (1 : Int))), g, rfl, (hst.pick [0, 1, 2, 3, 4] rfl), hb, H1⟩
            · replace H1 := ite_f hc14 H1
              refine wp_exit ?_
              refine then_e ?_
              refine then_e ?_
              refine inBlock_e ?_
              exact ⟨g, rfl, (hst.pick [] rfl), hb, Option.some.inj H1⟩
      · refine wp_cond_split (hst.bool 3 rfl) (fun hc9 => ?_) (fun hc9 => ?_)
        · replace H0 := ite_t hc9 H0
          refine r_g (L := [(1, _), (2, _), (3, _)]) (T := [⟨[], _, [], [], [27]⟩, ⟨[.op 0 0, .old 2], _, [4], [0], [3]⟩]) (F := [.old 0, .old 1, .op 1 0]) (hst.pick [0, 1, 2] rfl) hb follows
            (o_p rfl (bd_25_ rfl rfl ) <|
             o_p rfl (ob_store ty_25 rfl rfl u_1 u_0) <|
             o_n) (by kernel_rfl) (fun a g hst hb => ?_)
          exact ⟨({ Kind := (0 : Int), Num := (0 : Int), Low := (0 : Int), High := (0 : Int), Real := (0 : Nat), Cap := (0 : Int), Text := ByteArray.empty, List := ([] : List api_Item) } : api_Record), g, rfl, (hst.pick [0, 1, 2] rfl), hb, H0⟩
        · replace H0 := ite_f hc9 H0
          refine wp_skip ?_
          exact ⟨a0, g, rfl, (hst.pick [0, 1, 2] rfl), hb, H0⟩
end Go.CL

/- flo (the program's) and moietyref01 (the document's): floats in one order. -/
set_option linter.unusedVariables false
set_option linter.unusedSimpArgs false
namespace Go.CL
open Go

def NANB : Nat := 9221120237041090561
/-- A number's place in the order. -/
def keyf (b : Nat) : Int := if isn b then 18444492273895866369 else if TOP ≤ b then 18446744073709551615 - b else b + 9223372036854775808
def canon (b : Nat) : Nat := if isn b then NANB else b
theorem fneq_self {b : Nat} (hb : b < 18446744073709551616) : fneq b b = decide (isn b) := by
  unfold fneq
  show (Ieee.double.order b b != some .eq) = _
  by_cases h : isn b
  · rw [order_nan (.inl h)]; simp [h]
  · obtain ⟨o, ho, _, he⟩ := order_spec hb hb h h
    rw [ho, he.2 rfl]; simp [h]
theorem canon_eq {b : Nat} (hb : b < 18446744073709551616) : flo_Canon b = some (canon b) := by
  unfold flo_Canon canon
  rw [fneq_self hb]
  by_cases h : isn b
  · simp [h, math_NaN, NANB]
  · simp [h]
theorem and_top {b : Nat} (hb : b < 18446744073709551616) : (bAnd .u64 (b : Int) 9223372036854775808 != 0) = decide (TOP ≤ b) := by
  have h1 : (BitVec.ofInt 64 (b : Int) &&& BitVec.ofInt 64 9223372036854775808).toNat = b &&& 9223372036854775808 := by
    rw [BitVec.toNat_and]
    have e1 : (BitVec.ofInt 64 (b : Int)).toNat = b := by
      rw [show BitVec.ofInt 64 (b : Int) = BitVec.ofNat 64 b from rfl]
      simp; omega
    rw [e1]; rfl
  have h2 : b &&& 9223372036854775808 = (b.testBit 63).toNat * 9223372036854775808 := by
    apply Nat.eq_of_testBit_eq
    intro i
    rw [Nat.testBit_and, show (9223372036854775808 : Nat) = 2 ^ 63 from rfl, Nat.testBit_two_pow]
    by_cases hi : 63 = i
    · subst hi
      cases b.testBit 63
      · simp
      · rw [Bool.toNat_true, Nat.one_mul, Nat.testBit_two_pow]; simp
    · cases b.testBit 63
      · simp [hi]
      · rw [Bool.toNat_true, Nat.one_mul, Nat.testBit_two_pow]; simp [hi]
  have h3 : b.testBit 63 = decide (TOP ≤ b) := by
    rw [Nat.testBit_eq_decide_div_mod_eq]
    unfold TOP
    by_cases h : 9223372036854775808 ≤ b
    · have : b / 2 ^ 63 % 2 = 1 := by omega
      simp [this, h]
    · have : b / 2 ^ 63 % 2 = 0 := by omega
      simp [this, h]
  unfold bAnd
  show (IntKind.wrap .u64 ((BitVec.ofInt 64 (b : Int) &&& BitVec.ofInt 64 9223372036854775808).toNat : Int) != 0) = _
  rw [h1, h2, h3]
  by_cases h : TOP ≤ b
  · simp only [h, decide_true, Bool.toNat_true, Nat.one_mul]
    rfl
  · simp only [h, decide_false, Bool.toNat_false, Nat.zero_mul]
    rfl
theorem xor_top {b : Nat} (hb : b < 18446744073709551616) : bXor .u64 IntKind.u64.max (b : Int) = 18446744073709551615 - b := by
  have h1 : (BitVec.ofInt 64 18446744073709551615 ^^^ BitVec.ofInt 64 (b : Int)).toNat = 18446744073709551615 - b := by
    have e1 : BitVec.ofInt 64 18446744073709551615 = BitVec.allOnes 64 := by decide
    rw [e1, BitVec.allOnes_xor, BitVec.toNat_not]
    have e2 : (BitVec.ofInt 64 (b : Int)).toNat = b := by
      rw [show BitVec.ofInt 64 (b : Int) = BitVec.ofNat 64 b from rfl]
      simp; omega
    rw [e2]
  unfold bXor
  show IntKind.wrap .u64 ((BitVec.ofInt 64 18446744073709551615 ^^^ BitVec.ofInt 64 (b : Int)).toNat : Int) = _
  rw [h1]
  simp [IntKind.wrap, IntKind.signed, IntKind.bits]
  omega
theorem or_top {b : Nat} (hb : b < 9223372036854775808) : bOr .u64 (b : Int) 9223372036854775808 = b + 9223372036854775808 := by
  have h1 : (BitVec.ofInt 64 (b : Int) ||| BitVec.ofInt 64 9223372036854775808).toNat = b + 9223372036854775808 := by
    rw [BitVec.toNat_or]
    have e1 : (BitVec.ofInt 64 (b : Int)).toNat = b := by
      rw [show BitVec.ofInt 64 (b : Int) = BitVec.ofNat 64 b from rfl]
      simp; omega
    rw [e1, show (BitVec.ofInt 64 9223372036854775808).toNat = 2 ^ 63 * 1 from rfl, Nat.or_comm]
    rw [← Nat.two_pow_add_eq_or_of_lt (by simpa using hb)]
    omega
  unfold bOr
  show IntKind.wrap .u64 ((BitVec.ofInt 64 (b : Int) ||| BitVec.ofInt 64 9223372036854775808).toNat : Int) = _
  rw [h1]
  simp [IntKind.wrap, IntKind.signed, IntKind.bits]
  omega
theorem canon_lt {b : Nat} (hb : b < 18446744073709551616) : canon b < 18446744073709551616 := by
  unfold canon NANB; split <;> omega
theorem key_eq {b : Nat} (hb : b < 18446744073709551616) : flo_Key b = some (keyf b) := by
  unfold flo_Key
  rw [canon_eq hb]
  simp only [Option.bind_some]
  rw [and_top (canon_lt hb)]
  unfold keyf canon
  by_cases h : isn b
  · simp only [h, if_true]
    rfl
  · simp only [h, if_false]
    by_cases ht : TOP ≤ b
    · simp only [ht, decide_true, if_true]
      rw [xor_top hb]
    · simp only [ht, decide_false, if_false, Bool.false_eq_true]
      rw [or_top (by unfold TOP at ht; omega)]
theorem same_eq {a b : Nat} (ha : a < 18446744073709551616) (hb : b < 18446744073709551616) : flo_Same a b = some (decide (keyf a = keyf b)) := by
  unfold flo_Same
  rw [key_eq ha, key_eq hb]
  simp [BEq.beq]
theorem less_eq {a b : Nat} (ha : a < 18446744073709551616) (hb : b < 18446744073709551616) : flo_Less a b = some (decide (keyf a < keyf b)) := by
  unfold flo_Less
  rw [key_eq ha, key_eq hb]
  simp
theorem proper_eq {a : Nat} (ha : a < 18446744073709551616) : flo_Proper a = some (decide (a = canon a)) := by
  unfold flo_Proper
  rw [canon_eq ha]
  congr 1
  by_cases h : a = canon a
  · simp [← h]
  · have : (a : Int) ≠ (canon a : Int) := by omega
    simp [h, this]
/-! ### the document's -/
theorem keyf_lt {a b : Nat} (ha : a < 18446744073709551616) (hb : b < 18446744073709551616) (na : ¬ isn a) (nb : ¬ isn b) : keyf a < keyf b ↔ (sg a < sg b ∨ (a = TOP ∧ b = 0)) := by
  unfold keyf
  rw [if_neg na, if_neg nb]
  unfold sg isn rg INF TOP at *
  split <;> split <;> omega
theorem feql_eq {a b : Nat} (ha : a < 18446744073709551616) (hb : b < 18446744073709551616) (na : ¬ isn a) (nb : ¬ isn b) : feql a b = decide (sg a = sg b) := by
  unfold feql
  show (Ieee.double.order a b == some .eq) = _
  obtain ⟨o, ho, _, he⟩ := order_spec ha hb na nb
  rw [ho]
  by_cases h : sg a = sg b
  · rw [he.2 h]; simp [h]
  · have : o ≠ .eq := fun h' => h (he.1 h')
    simp [h, this]
theorem flss_eq {a b : Nat} (ha : a < 18446744073709551616) (hb : b < 18446744073709551616) (na : ¬ isn a) (nb : ¬ isn b) : flss a b = decide (sg a < sg b) := by
  unfold flss
  show (Ieee.double.order a b == some .lt) = _
  obtain ⟨o, ho, hl, _⟩ := order_spec ha hb na nb
  rw [ho]
  by_cases h : sg a < sg b
  · rw [hl.2 h]; simp [h]
  · have : o ≠ .lt := fun h' => h (hl.1 h')
    simp [h, this]
theorem below0 : moietyref01_below 0 = some false := by kernel_rfl
theorem belowT : moietyref01_below TOP = some true := by kernel_rfl
theorem nan0 : ¬ isn 0 := by decide
theorem sg_zero {a : Nat} (ha : a < 18446744073709551616) : sg a = sg 0 ↔ a = 0 ∨ a = TOP := by
  unfold sg TOP
  split <;> simp <;> omega
theorem rnone_eq {a : Nat} (ha : a < 18446744073709551616) : moietyref01_none a = some (decide (isn a)) := by
  unfold moietyref01_none; rw [fneq_self ha]
theorem rless_eq {a b : Nat} (ha : a < 18446744073709551616) (hb : b < 18446744073709551616) : moietyref01_Less a b = some (decide (keyf a < keyf b)) := by
  unfold moietyref01_Less
  rw [rnone_eq ha, rnone_eq hb]
  simp only [Option.bind_some]
  have kb : ∀ x, x < 18446744073709551616 → ¬ isn x → keyf x < 18444492273895866369 := by
    intro x hx nx
    unfold keyf
    rw [if_neg nx]
    unfold isn rg INF TOP at *
    split <;> omega
  have kn : ∀ x, isn x → keyf x = 18444492273895866369 := fun x h => by unfold keyf; rw [if_pos h]
  by_cases na : isn a
  · simp only [na, decide_true, if_true]
    by_cases nb : isn b
    · rw [kn a na, kn b nb]; simp
    · have := kb b hb nb
      rw [kn a na]; simp; omega
  · simp only [na, decide_false, Bool.false_eq_true, if_false]
    by_cases nb : isn b
    · have := kb a ha na
      rw [kn b nb]; simp [nb, this]
    · simp only [nb, decide_false, Bool.false_eq_true, if_false]
      rw [feql_eq ha (by decide) na nan0, feql_eq hb (by decide) nb nan0, flss_eq ha hb na nb]
      by_cases hz : sg a = sg 0 ∧ sg b = sg 0
      · rw [if_pos (by simp [hz])]
        have hk := keyf_lt ha hb na nb
        have h0T : (0 : Nat) ≠ TOP := by decide
        rcases (sg_zero ha).1 hz.1 with rfl | rfl <;> rcases (sg_zero hb).1 hz.2 with rfl | rfl <;> simp only [below0, belowT, gd, Option.bind_some, if_true, if_false, Bool.false_eq_true, Option.some.injEq] <;> decide
      · rw [if_neg (by simpa using hz)]
        have hk := keyf_lt ha hb na nb
        congr 1
        apply decide_eq_decide.2
        rw [hk]
        constructor
        · intro h; exact .inl h
        · rintro (h | ⟨rfl, rfl⟩)
          · exact h
          · exact absurd ⟨rfl, rfl⟩ hz
theorem rsame_eq {a b : Nat} (ha : a < 18446744073709551616) (hb : b < 18446744073709551616) : moietyref01_Same a b = some (decide (keyf a = keyf b)) := by
  unfold moietyref01_Same
  rw [rless_eq ha hb, rless_eq hb ha]
  simp only [Option.bind_some, gd]
  by_cases h1 : keyf a < keyf b
  · have : keyf a ≠ keyf b := by omega
    simp [h1, this]
  · by_cases h2 : keyf b < keyf a
    · have : keyf a ≠ keyf b := by omega
      simp [h1, h2, this]
    · have : keyf a = keyf b := by omega
      simp [this]
theorem rproper_eq {a : Nat} (ha : a < 18446744073709551616) : moietyref01_Proper a = some (decide (a = canon a)) := by
  unfold moietyref01_Proper
  rw [rnone_eq ha]
  unfold canon NANB
  by_cases h : isn a
  · by_cases h2 : a = 9221120237041090561
    · simp [h, h2]
    · have : (a : Int) ≠ 9221120237041090561 := by omega
      simp [h, h2, this]
  · simp [h]
end Go.CL

/- Small things that all plain laws use. -/
set_option linter.unusedVariables false
set_option linter.unusedSimpArgs false
namespace Go.CL
open Go

theorem wr {x : Int} (h1 : -9223372036854775808 ≤ x) (h2 : x ≤ 9223372036854775807) : IntKind.i64.wrap x = x := by
  rw [IntKind.wrap_i64]; omega
theorem wr1 {i : Nat} (h : i < 9223372036854775807) : IntKind.i64.wrap ((i : Int) + 1) = ((i + 1 : Nat) : Int) := by
  rw [wr (by omega) (by omega)]; omega
theorem wrapu (n : Int) : IntKind.u64.wrap n = n % 18446744073709551616 := by simp [IntKind.wrap, IntKind.bits, IntKind.signed]
theorem wru {x : Int} (h1 : 0 ≤ x) (h2 : x < 18446744073709551616) : IntKind.u64.wrap x = x := by rw [wrapu]; omega
theorem wrm {i : Nat} (h : i < 9223372036854775807) (h0 : 0 < i) : IntKind.i64.wrap ((i : Int) - 1) = ((i - 1 : Nat) : Int) := by
  rw [wr (by omega) (by omega)]; omega
theorem idxn {α : Type} (xs : List α) (i : Nat) : idx xs (i : Int) = xs[i]? := by
  unfold idx
  rw [if_pos (by omega)]
  simp
theorem idx_lt {α : Type} {xs : List α} {i : Nat} (h : i < xs.length) : idx xs (i : Int) = some xs[i] := by
  rw [idxn, List.getElem?_eq_getElem h]
theorem gd_t {β : Type} [Inhabited β] (x : Option β) : gd true x = x := rfl
theorem gd_f {β : Type} [Inhabited β] (x : Option β) : gd false x = some default := rfl
theorem cut_some {α : Type} {xs : List α} {l h : Nat} (h1 : l ≤ h) (h2 : h ≤ xs.length) : cut xs (l : Int) (h : Int) = some ((xs.drop l).take (h - l)) := by
  unfold cut
  rw [if_pos (by omega)]
  simp
/-! ### texts -/
theorem toList_inj {a b : ByteArray} (h : a.toList = b.toList) : a = b := by
  rw [_root_.Go.ByteArray.toList_eq, _root_.Go.ByteArray.toList_eq] at h
  exact ByteArray.ext (Array.toList_inj.1 h)
theorem sEq_iff {a b : ByteArray} : sEq a b = true ↔ a = b := by
  unfold sEq
  constructor
  · intro h; exact toList_inj (by simpa using h)
  · rintro rfl; simp
theorem sEq_self (a : ByteArray) : sEq a a = true := sEq_iff.2 rfl
theorem sEq_ne {a b : ByteArray} : sEq a b = false ↔ a ≠ b := by
  cases h : sEq a b
  · simp; intro e; rw [sEq_iff.2 e] at h; cases h
  · simp; exact sEq_iff.1 h
theorem bl_irr : ∀ l : List UInt8, Op.bytesLess l l = false
  | [] => rfl
  | x :: l => by simp [Op.bytesLess, bl_irr l]
theorem bl_trans : ∀ {a b c : List UInt8}, Op.bytesLess a b = true → Op.bytesLess b c = true → Op.bytesLess a c = true
  | [], [], c, h, _ => by simp [Op.bytesLess] at h
  | [], y :: b, [], _, k => by simp [Op.bytesLess] at k
  | [], y :: b, z :: c, _, _ => rfl
  | x :: a, [], c, h, _ => by simp [Op.bytesLess] at h
  | x :: a, y :: b, [], _, k => by simp [Op.bytesLess] at k
  | x :: a, y :: b, z :: c, h, k => by
    simp only [Op.bytesLess, Bool.or_eq_true, Bool.and_eq_true, decide_eq_true_eq, beq_iff_eq] at h k ⊢
    rcases h with h | ⟨h1, h2⟩ <;> rcases k with k | ⟨k1, k2⟩
    · exact .inl (UInt8.lt_trans h k)
    · subst k1; exact .inl h
    · subst h1; exact .inl k
    · subst h1; subst k1; exact .inr ⟨rfl, bl_trans h2 k2⟩
theorem bl_tri : ∀ (a b : List UInt8), Op.bytesLess a b = false → a ≠ b → Op.bytesLess b a = true
  | [], [], _, h => absurd rfl h
  | [], y :: b, h, _ => by simp [Op.bytesLess] at h
  | x :: a, [], _, _ => rfl
  | x :: a, y :: b, h, hn => by
    simp only [Op.bytesLess, Bool.or_eq_false_iff, decide_eq_false_iff_not, Bool.and_eq_false_iff] at h
    simp only [Op.bytesLess, Bool.or_eq_true, Bool.and_eq_true, decide_eq_true_eq, beq_iff_eq]
    by_cases e : x = y
    · subst e
      right
      refine ⟨rfl, bl_tri a b ?_ (fun h' => hn (by rw [h']))⟩
      rcases h.2 with h | h
      · simp at h
      · exact h
    · left
      rcases UInt8.lt_or_lt_of_ne e with h' | h'
      · exact absurd h' h.1
      · exact h'
theorem sLt_irr (a : ByteArray) : sLt a a = false := bl_irr _
theorem sLt_trans {a b c : ByteArray} (h : sLt a b = true) (k : sLt b c = true) : sLt a c = true := bl_trans h k
theorem sLt_tri {a b : ByteArray} (h : sLt a b = false) (hn : a ≠ b) : sLt b a = true := bl_tri _ _ h (fun e => hn (toList_inj e))
theorem sLt_asym {a b : ByteArray} (h : sLt a b = true) : sLt b a = false := by
  cases k : sLt b a
  · rfl
  · have := sLt_trans h k
    rw [sLt_irr] at this; cases this
theorem sLt_ne {a b : ByteArray} (h : sLt a b = true) : a ≠ b := fun e => by subst e; rw [sLt_irr] at h; cases h
end Go.CL

/- rec (the program's) and moietyref03 (the document's): records that may be; the same records. -/
set_option linter.unusedVariables false
set_option linter.unusedSimpArgs false
namespace Go.CL
open Go

abbrev W64 : Nat := 18446744073709551616
/-- A record as it may come in: its floats are words; its list is no longer than memory. -/
structure RecOk (a : api_Record) : Prop where
  real : a.Real < W64
  len : a.List.length < 4611686018427387904
  sc : ∀ e ∈ a.List, e.Score < W64

def betterB (a b : api_Item) : Bool := if keyf a.Score = keyf b.Score then sLt a.Name b.Name else decide (keyf b.Score < keyf a.Score)
theorem better_eq {a b : api_Item} (ha : a.Score < W64) (hb : b.Score < W64) : rec_Better a b = some (betterB a b) := by
  unfold rec_Better betterB
  rw [same_eq ha hb, less_eq hb ha]
  by_cases h : keyf a.Score = keyf b.Score <;> simp [h]
theorem ahead_eq {a b : api_Item} (ha : a.Score < W64) (hb : b.Score < W64) : moietyref03_Ahead a b = some (betterB a b) := by
  unfold moietyref03_Ahead betterB
  rw [rless_eq hb ha, rsame_eq ha hb]
  by_cases h : keyf a.Score = keyf b.Score
  · simp [h]
  · by_cases h2 : keyf b.Score < keyf a.Score <;> simp [h, h2]
theorem zero_eq {a : Nat} (ha : a < W64) : moietyref03_zero a = some (decide (keyf a = keyf 0)) := by
  unfold moietyref03_zero
  rw [rsame_eq ha (by decide)]
  rfl
/-- What an item at a place is told: 0, or an error. -/
def itemC (k : Int) (l : List api_Item) (i : Nat) : Int :=
  match l[i]? with
  | none => 0
  | some x =>
    let p := (l[i - 1]?).getD default
    if (16 : Int) < x.Name.size then 3
    else if (k = 8 ∧ keyf x.Score ≠ keyf 0) ∨ x.Score ≠ canon x.Score then 4
    else if 0 < i ∧ k = 8 ∧ sLt p.Name x.Name = false then 4
    else if 0 < i ∧ k = 9 ∧ betterB p x = false then 4
    else 0
theorem item_step {k : Int} {l : List api_Item} {i n : Nat} (hi : i < l.length) (hl : l.length < 4611686018427387904) (hs : ∀ e ∈ l, e.Score < W64) :
    rec_items_l1 k l (n + 1) (i : Int) = if itemC k l i = 0 then rec_items_l1 k l n ((i + 1 : Nat) : Int) else some (.inl (itemC k l i)) := by
  have hx : l[i].Score < W64 := hs _ (List.getElem_mem hi)
  rw [rec_items_l1, if_pos (by simp; omega), idx_lt hi, wr1 (by omega)]
  simp only [Option.bind_some]
  rw [same_eq hx (by decide), proper_eq hx]
  simp only [itemC, List.getElem?_eq_getElem hi]
  by_cases h1 : (16 : Int) < l[i].Name.size
  · simp [h1]
  · simp only [h1, decide_false, if_false, Bool.false_eq_true]
    have hz : ((0 : Nat) : Int) = 0 := rfl
    by_cases h0 : 0 < i
    · have hp : i - 1 < l.length := by omega
      have hps : l[i - 1].Score < W64 := hs _ (List.getElem_mem hp)
      have hd : (decide ((0 : Int) < (i : Int))) = true := by simp; omega
      rw [hd, wrm (by omega) h0, idx_lt hp]
      simp only [List.getElem?_eq_getElem hp, Option.getD_some, h0, true_and, Bool.true_and]
      by_cases h8 : k = 8
      · subst h8
        simp only [beq_self_eq_true, gd_t, Option.bind_some, true_and, Bool.true_and]
        by_cases hk : keyf l[i].Score = keyf 0
        · by_cases hc : l[i].Score = canon l[i].Score
          · simp [hk, ← hc, gd]
            cases sLt l[i - 1].Name l[i].Name <;> simp
          · simp [hk, hc, gd]
        · simp [hk, gd]
      · have h8' : (k == 8) = false := by simpa using h8
        simp only [h8', h8, gd_f, gd_t, Option.bind_some, false_and, false_or, Bool.false_and, Bool.not_false, Bool.false_or]
        by_cases hc : l[i].Score = canon l[i].Score
        · by_cases h9 : k = 9
          · subst h9
            simp [← hc, gd, better_eq hps hx]
            cases betterB l[i - 1] l[i] <;> simp
          · simp [← hc, gd, h9]
        · simp [hc]
    · have h00 : i = 0 := by omega
      subst h00
      simp only [Nat.lt_irrefl, false_and, if_false, Int.ofNat_zero, Int.lt_irrefl, decide_false, Bool.false_and, gd_f, Option.bind_some, Int.natCast_zero]
      by_cases h8 : k = 8
      · subst h8
        simp only [beq_self_eq_true, gd_t, Option.bind_some, true_and, Bool.true_and]
        by_cases hk : keyf l[0].Score = keyf 0
        · by_cases hc : l[0].Score = canon l[0].Score
          · simp [hk, ← hc, gd]
          · simp [hk, hc, gd]
        · simp [hk, gd]
      · have h8' : (k == 8) = false := by simpa using h8
        simp only [h8', h8, gd_f, gd_t, Option.bind_some, false_and, false_or, Bool.false_and, Bool.not_false, Bool.false_or]
        by_cases hc : l[0].Score = canon l[0].Score
        · simp [← hc, gd]
        · simp [hc]
theorem ritem_eq {k : Int} {l : List api_Item} {i : Nat} (hi : i < l.length) (hl : l.length < 4611686018427387904) (hs : ∀ e ∈ l, e.Score < W64) : moietyref03_item k l (i : Int) = some (itemC k l i) := by
  have hx : l[i].Score < W64 := hs _ (List.getElem_mem hi)
  unfold moietyref03_item
  rw [idx_lt hi]
  simp only [Option.bind_some]
  rw [zero_eq hx, rproper_eq hx]
  simp only [itemC, List.getElem?_eq_getElem hi]
  by_cases h1 : (16 : Int) < l[i].Name.size
  · simp [h1]
  · simp only [h1, decide_false, if_false, Bool.false_eq_true]
    by_cases h0 : 0 < i
    · have hp : i - 1 < l.length := by omega
      have hps : l[i - 1].Score < W64 := hs _ (List.getElem_mem hp)
      have hd : (decide ((0 : Int) < (i : Int))) = true := by simp; omega
      rw [hd, wrm (by omega) h0, idx_lt hp]
      simp only [List.getElem?_eq_getElem hp, Option.getD_some, h0, true_and, Bool.true_and]
      by_cases h8 : k = 8
      · subst h8
        simp only [beq_self_eq_true, gd_t, Option.bind_some, true_and, Bool.true_and]
        by_cases hk : keyf l[i].Score = keyf 0
        · by_cases hc : l[i].Score = canon l[i].Score
          · simp [hk, ← hc, gd]
            cases sLt l[i - 1].Name l[i].Name <;> simp
          · simp [hk, hc, gd]
        · simp [hk, gd]
      · have h8' : (k == 8) = false := by simpa using h8
        simp only [h8', h8, gd_f, gd_t, Option.bind_some, false_and, false_or, Bool.false_and, Bool.not_false, Bool.false_or]
        by_cases hc : l[i].Score = canon l[i].Score
        · by_cases h9 : k = 9
          · subst h9
            simp [← hc, gd, ahead_eq hps hx]
            cases betterB l[i - 1] l[i] <;> simp
          · simp [← hc, gd, h9]
        · simp [hc]
    · have h00 : i = 0 := by omega
      subst h00
      simp only [Nat.lt_irrefl, false_and, if_false, Int.ofNat_zero, Int.lt_irrefl, decide_false, Bool.false_and, gd_f, Option.bind_some, Int.natCast_zero]
      by_cases h8 : k = 8
      · subst h8
        simp only [beq_self_eq_true, gd_t, Option.bind_some, true_and, Bool.true_and]
        by_cases hk : keyf l[0].Score = keyf 0
        · by_cases hc : l[0].Score = canon l[0].Score
          · simp [hk, ← hc, gd]
          · simp [hk, hc, gd]
        · simp [hk, gd]
      · have h8' : (k == 8) = false := by simpa using h8
        simp only [h8', h8, gd_f, gd_t, Option.bind_some, false_and, false_or, Bool.false_and, Bool.not_false, Bool.false_or]
        by_cases hc : l[0].Score = canon l[0].Score
        · simp [← hc, gd]
        · simp [hc]
end Go.CL

/- rec.Check = moietyref03.Check; rec.Same = moietyref03.Same; which records are too big to be looked at. -/
set_option linter.unusedVariables false
set_option linter.unusedSimpArgs false
namespace Go.CL
open Go

def firstC (k : Int) (l : List api_Item) : Nat → Nat → Int
  | _, 0 => 0
  | i, n + 1 => if itemC k l i = 0 then firstC k l (i + 1) n else itemC k l i
def endC (c : Int) : Int ⊕ Unit := if c = 0 then .inr () else .inl c
theorem firstC_z {k : Int} {l : List api_Item} {i n : Nat} (h : itemC k l i = 0) : firstC k l i (n + 1) = firstC k l (i + 1) n := by simp [firstC, h]
theorem firstC_e {k : Int} {l : List api_Item} {i n : Nat} (h : ¬ itemC k l i = 0) : firstC k l i (n + 1) = itemC k l i := by simp [firstC, h]
theorem endC_e {c : Int} (h : ¬ c = 0) : endC c = .inl c := if_neg h
theorem items_loop {k : Int} {l : List api_Item} (hl : l.length < 4611686018427387904) (hs : ∀ e ∈ l, e.Score < W64) : ∀ (n i : Nat), i + n = l.length →
    rec_items_l1 k l (n + 1) (i : Int) = some (endC (firstC k l i n))
  | 0, i, h => by
    rw [rec_items_l1, if_neg (by simp; omega)]
    rfl
  | n + 1, i, h => by
    rw [item_step (by omega) hl hs]
    by_cases hc : itemC k l i = 0
    · rw [if_pos hc, firstC_z hc, items_loop hl hs n (i + 1) (by omega)]
    · rw [if_neg hc, firstC_e hc, endC_e hc]
theorem items_eq {k : Int} {l : List api_Item} (hl : l.length < 4611686018427387904) (hs : ∀ e ∈ l, e.Score < W64) : rec_items k l = some (firstC k l 0 l.length) := by
  unfold rec_items
  rw [show (Int.toNat ((l.length : Int) - (0 : Int)) + 1) = l.length + 1 by omega, show (0 : Int) = ((0 : Nat) : Int) from rfl, items_loop hl hs l.length 0 (by omega)]
  unfold endC
  by_cases h : firstC k l 0 l.length = 0 <;> simp [h]
theorem ritems_loop {a : api_Record} (ha : RecOk a) : ∀ (n i : Nat), i + n = a.List.length →
    moietyref03_Check_l1 a (n + 1) (i : Int) = some (endC (firstC a.Kind a.List i n))
  | 0, i, h => by
    rw [moietyref03_Check_l1, if_neg (by simp; omega)]
    rfl
  | n + 1, i, h => by
    have hl := ha.len
    rw [moietyref03_Check_l1, if_pos (by simp; omega), ritem_eq (by omega) hl ha.sc, wr1 (by omega)]
    simp only [Option.bind_some]
    by_cases hc : itemC a.Kind a.List i = 0
    · rw [if_neg (by simp [hc]), firstC_z hc, ritems_loop ha n (i + 1) (by omega)]
    · rw [if_pos (by simp [hc]), firstC_e hc, endC_e hc]
def onlyB (t n b r l : Bool) (a : api_Record) : Bool := (t || sEq a.Text ⟨#[]⟩) && (n || a.Num == 0) && (b || (a.Low == 0 && a.High == 0)) && (r || decide (keyf a.Real = keyf 0)) && (l || (a.Cap == 0 && (a.List.length : Int) == 0))
theorem bare_eq {a : api_Record} (ha : RecOk a) (t n b r l : Bool) : rec_bare a ⟨t, n, b, r, l⟩ = some (onlyB t n b r l a) := by
  unfold rec_bare onlyB
  rw [same_eq ha.real (by decide)]
  simp only
  generalize sEq a.Text ⟨#[]⟩ = x1
  generalize (a.Num == 0) = x2
  generalize (a.Low == 0) = x3
  generalize (a.High == 0) = x4
  generalize decide (keyf a.Real = keyf 0) = x5
  generalize (a.Cap == 0) = x6
  generalize ((a.List.length : Int) == 0) = x7
  revert t n b r l x1 x2 x3 x4 x5 x6 x7
  decide
theorem only_eq {a : api_Record} (ha : RecOk a) {s : ByteArray} {t n b r l : Bool} (h : moietyref03_only_l1 s (Int.toNat ((s.size : Int) - (0 : Int)) + 1) false false false false false 0 = some (t, n, b, r, l)) : moietyref03_only a s = some (onlyB t n b r l a) := by
  unfold moietyref03_only onlyB
  rw [h, zero_eq ha.real]
  simp only [Option.bind_some, bne]
  generalize sEq a.Text ⟨#[]⟩ = x1
  generalize (a.Num == 0) = x2
  generalize (a.Low == 0) = x3
  generalize (a.High == 0) = x4
  generalize decide (keyf a.Real = keyf 0) = x5
  generalize (a.Cap == 0) = x6
  generalize ((a.List.length : Int) == 0) = x7
  clear h
  revert t n b r l x1 x2 x3 x4 x5 x6 x7
  decide
theorem onl_t : moietyref03_only_l1 ⟨#[116]⟩ (Int.toNat (((⟨#[116]⟩ : ByteArray).size : Int) - (0 : Int)) + 1) false false false false false 0 = some (true, false, false, false, false) := by kernel_rfl
theorem onl_n : moietyref03_only_l1 ⟨#[110]⟩ (Int.toNat (((⟨#[110]⟩ : ByteArray).size : Int) - (0 : Int)) + 1) false false false false false 0 = some (false, true, false, false, false) := by kernel_rfl
theorem onl_nb : moietyref03_only_l1 ⟨#[110, 98]⟩ (Int.toNat (((⟨#[110, 98]⟩ : ByteArray).size : Int) - (0 : Int)) + 1) false false false false false 0 = some (false, true, true, false, false) := by kernel_rfl
theorem onl_r : moietyref03_only_l1 ⟨#[114]⟩ (Int.toNat (((⟨#[114]⟩ : ByteArray).size : Int) - (0 : Int)) + 1) false false false false false 0 = some (false, false, false, true, false) := by kernel_rfl
theorem onl_l : moietyref03_only_l1 ⟨#[108]⟩ (Int.toNat (((⟨#[108]⟩ : ByteArray).size : Int) - (0 : Int)) + 1) false false false false false 0 = some (false, false, false, false, true) := by kernel_rfl
def checkD (t n b r l : Bool) (a : api_Record) : Int :=
  if onlyB t n b r l a = false then 4
  else if (64 : Int) < a.Text.size then 3
  else if b = true ∧ (a.Low < -2305843009213693952 ∨ 2305843009213693952 < a.High ∨ a.Num < a.Low ∨ a.High < a.Num) then 1
  else if a.Real ≠ canon a.Real then 4
  else if l = false then 0
  else if a.Cap < 1 ∨ 32 < a.Cap then 1
  else if a.Cap < a.List.length then 8
  else firstC a.Kind a.List 0 a.List.length
theorem check_shape {a : api_Record} (ha : RecOk a) {t n b r l : Bool} (hk : ¬ (a.Kind ≤ 0 ∨ 10 ≤ a.Kind)) (hs : rec_shaped a.Kind = some ⟨t, n, b, r, l⟩) : rec_Check a = some (checkD t n b r l a) := by
  unfold rec_Check checkD
  rw [hs]
  simp only [Option.bind_some]
  rw [bare_eq ha, proper_eq ha.real, items_eq ha.len ha.sc]
  simp only [Option.bind_some]
  rw [if_neg (by simpa using hk)]
  by_cases h1 : onlyB t n b r l a = false
  · rw [if_pos h1, if_pos (by simp [h1])]
  · rw [if_neg h1, if_neg (by simpa using h1)]
    by_cases h2 : (64 : Int) < a.Text.size
    · rw [if_pos h2, if_pos (by simpa using h2)]
    · rw [if_neg h2, if_neg (by simpa using h2)]
      by_cases h3 : b = true ∧ (a.Low < -2305843009213693952 ∨ 2305843009213693952 < a.High ∨ a.Num < a.Low ∨ a.High < a.Num)
      · rw [if_pos h3, if_pos (by simpa [or_assoc] using h3)]
      · rw [if_neg h3, if_neg (by simpa [or_assoc] using h3)]
        by_cases h4 : a.Real = canon a.Real
        · rw [if_neg (show ¬ (a.Real ≠ canon a.Real) from fun h => h h4), decide_eq_true h4]
          simp only [Bool.not_true, Bool.false_eq_true, if_false]
          cases l
          · simp
          · simp only [Bool.not_true, Bool.false_eq_true, if_false, Bool.true_eq_false]
            by_cases h5 : a.Cap < 1 ∨ 32 < a.Cap
            · rw [if_pos h5, if_pos (by simpa using h5)]
            · rw [if_neg h5, if_neg (by simpa using h5)]
              by_cases h6 : a.Cap < a.List.length
              · rw [if_pos h6, if_pos (by simpa using h6)]
              · rw [if_neg h6, if_neg (by simpa using h6)]
        · rw [if_pos (show a.Real ≠ canon a.Real from h4), decide_eq_false h4]
          rfl
theorem shape1 : rec_shaped 1 = some ⟨true, false, false, false, false⟩ := by kernel_rfl
theorem shape2 : rec_shaped 2 = some ⟨false, true, false, false, false⟩ := by kernel_rfl
theorem shape3 : rec_shaped 3 = some ⟨false, true, false, false, false⟩ := by kernel_rfl
theorem shape4 : rec_shaped 4 = some ⟨false, true, true, false, false⟩ := by kernel_rfl
theorem shape5 : rec_shaped 5 = some ⟨false, false, false, true, false⟩ := by kernel_rfl
theorem shape6 : rec_shaped 6 = some ⟨false, false, false, true, false⟩ := by kernel_rfl
theorem shape7 : rec_shaped 7 = some ⟨false, false, false, true, false⟩ := by kernel_rfl
theorem shape8 : rec_shaped 8 = some ⟨false, false, false, false, true⟩ := by kernel_rfl
theorem shape9 : rec_shaped 9 = some ⟨false, false, false, false, true⟩ := by kernel_rfl
/-- .. and the document's. -/
def rcheckD (t n b r l : Bool) (k : Int) (a : api_Record) : Int :=
  if onlyB t n b r l a = false then 4
  else if k = 1 ∧ (64 : Int) < a.Text.size then 3
  else if k = 4 ∧ (a.Low < -2305843009213693952 ∨ 2305843009213693952 < a.High ∨ a.Num < a.Low ∨ a.High < a.Num) then 1
  else if a.Real ≠ canon a.Real then 4
  else if k < 8 then 0
  else if a.Cap < 1 ∨ 32 < a.Cap then 1
  else if a.Cap < a.List.length then 8
  else firstC a.Kind a.List 0 a.List.length
theorem rcheck_shape {a : api_Record} (ha : RecOk a) {t n b r l : Bool} {s : ByteArray} (hk : ¬ (a.Kind < 1 ∨ 9 < a.Kind)) (hf : moietyref03_Fields a.Kind = some s)
    (ho : moietyref03_only_l1 s (Int.toNat ((s.size : Int) - (0 : Int)) + 1) false false false false false 0 = some (t, n, b, r, l)) : moietyref03_Check a = some (rcheckD t n b r l a.Kind a) := by
  unfold moietyref03_Check rcheckD
  have hw : IntKind.i64.wrap (0 - (2305843009213693952 : Int)) = -2305843009213693952 := by decide
  rw [hf, rproper_eq ha.real, hw, show (Int.toNat ((a.List.length : Int) - (0 : Int)) + 1) = a.List.length + 1 by omega]
  have hloop := ritems_loop ha a.List.length 0 (by omega)
  rw [show ((0 : Nat) : Int) = 0 from rfl] at hloop
  rw [hloop]
  simp only [Option.bind_some]
  rw [if_neg (by simpa using hk), only_eq ha ho]
  simp only [Option.bind_some]
  by_cases h1 : onlyB t n b r l a = false
  · rw [if_pos h1, if_pos (by simp [h1])]
  · rw [if_neg h1, if_neg (by simpa using h1)]
    by_cases h2 : a.Kind = 1 ∧ (64 : Int) < a.Text.size
    · rw [if_pos h2, if_pos (by simpa using h2)]
    · rw [if_neg h2, if_neg (by simpa using h2)]
      by_cases h3 : a.Kind = 4 ∧ (a.Low < -2305843009213693952 ∨ 2305843009213693952 < a.High ∨ a.Num < a.Low ∨ a.High < a.Num)
      · rw [if_pos h3, if_pos (by simpa [or_assoc] using h3)]
      · rw [if_neg h3, if_neg (by simpa [or_assoc] using h3)]
        by_cases h4 : a.Real = canon a.Real
        · rw [if_neg (show ¬ (a.Real ≠ canon a.Real) from fun h => h h4), decide_eq_true h4]
          simp only [Bool.not_true, Bool.false_eq_true, if_false]
          by_cases h7 : a.Kind < 8
          · rw [if_pos h7, if_pos (by simpa using h7)]
          · rw [if_neg h7, if_neg (by simpa using h7)]
            by_cases h5 : a.Cap < 1 ∨ 32 < a.Cap
            · rw [if_pos h5, if_pos (by simpa using h5)]
            · rw [if_neg h5, if_neg (by simpa using h5)]
              by_cases h6 : a.Cap < a.List.length
              · rw [if_pos h6, if_pos (by simpa using h6)]
              · rw [if_neg h6, if_neg (by simpa using h6)]
                unfold endC
                by_cases h : firstC a.Kind a.List 0 a.List.length = 0 <;> simp [h]
        · rw [if_pos (show a.Real ≠ canon a.Real from h4), decide_eq_false h4]
          rfl
theorem text_of {t n b r l : Bool} {a : api_Record} (h : ¬ onlyB t n b r l a = false) (ht : t = false) : a.Text.size = 0 := by
  subst ht
  have : onlyB false n b r l a = true := by simpa using h
  unfold onlyB at this
  simp only [Bool.false_or, Bool.and_eq_true] at this
  have := sEq_iff.1 this.1.1.1.1
  rw [this]; rfl
theorem D_eq (t n b r l : Bool) (k : Int) (a : api_Record) (ht : t = true ↔ k = 1) (hb : b = true ↔ k = 4) (hl : l = false ↔ k < 8) : rcheckD t n b r l k a = checkD t n b r l a := by
  unfold rcheckD checkD
  by_cases h1 : onlyB t n b r l a = false
  · rw [if_pos h1, if_pos h1]
  · rw [if_neg h1, if_neg h1]
    have e2 : (k = 1 ∧ (64 : Int) < a.Text.size) ↔ (64 : Int) < a.Text.size := by
      constructor
      · exact fun h => h.2
      · intro h
        refine ⟨ht.1 ?_, h⟩
        cases t
        · have := text_of h1 rfl; omega
        · rfl
    simp only [e2, hb, hl]
/-- **May a record be: the program says what the document says.** -/
theorem check_both {a : api_Record} (ha : RecOk a) : ∃ c, rec_Check a = some c ∧ moietyref03_Check a = some c := by
  by_cases hk : a.Kind ≤ 0 ∨ 10 ≤ a.Kind
  · refine ⟨5, ?_, ?_⟩
    · unfold rec_Check
      have hs : ∃ s, rec_shaped a.Kind = some s := by
        have h1 : ¬ a.Kind = 1 := by omega
        have h2 : ¬ a.Kind = 2 := by omega
        have h3 : ¬ a.Kind = 3 := by omega
        have h4 : ¬ a.Kind = 4 := by omega
        have h5 : ¬ a.Kind = 5 := by omega
        have h6 : ¬ a.Kind = 6 := by omega
        have h7 : ¬ a.Kind = 7 := by omega
        have h8 : ¬ a.Kind = 8 := by omega
        have h9 : ¬ a.Kind = 9 := by omega
        exact ⟨⟨false, false, false, false, false⟩, by simp [rec_shaped, rec_shaped_j1, rec_shaped_j2, rec_shaped_j3, h1, h2, h3, h4, h5, h6, h7, h8, h9]⟩
      obtain ⟨s, hs⟩ := hs
      rw [hs]
      simp only [Option.bind_some]
      rw [if_pos (by simpa using hk)]
    · unfold moietyref03_Check
      rw [if_pos (by simp; omega)]
  · have hk2 : ¬ (a.Kind < 1 ∨ 9 < a.Kind) := by omega
    have hk' : a.Kind = 1 ∨ a.Kind = 2 ∨ a.Kind = 3 ∨ a.Kind = 4 ∨ a.Kind = 5 ∨ a.Kind = 6 ∨ a.Kind = 7 ∨ a.Kind = 8 ∨ a.Kind = 9 := by omega
    rcases hk' with h | h | h | h | h | h | h | h | h
    · exact ⟨_, check_shape ha hk (by rw [h]; exact shape1), by rw [rcheck_shape ha hk2 (by rw [h]; kernel_rfl) onl_t, D_eq _ _ _ _ _ _ _ (by simp [h]) (by simp [h]) (by simp [h])]⟩
    · exact ⟨_, check_shape ha hk (by rw [h]; exact shape2), by rw [rcheck_shape ha hk2 (by rw [h]; kernel_rfl) onl_n, D_eq _ _ _ _ _ _ _ (by simp [h]) (by simp [h]) (by simp [h])]⟩
    · exact ⟨_, check_shape ha hk (by rw [h]; exact shape3), by rw [rcheck_shape ha hk2 (by rw [h]; kernel_rfl) onl_n, D_eq _ _ _ _ _ _ _ (by simp [h]) (by simp [h]) (by simp [h])]⟩
    · exact ⟨_, check_shape ha hk (by rw [h]; exact shape4), by rw [rcheck_shape ha hk2 (by rw [h]; kernel_rfl) onl_nb, D_eq _ _ _ _ _ _ _ (by simp [h]) (by simp [h]) (by simp [h])]⟩
    · exact ⟨_, check_shape ha hk (by rw [h]; exact shape5), by rw [rcheck_shape ha hk2 (by rw [h]; kernel_rfl) onl_r, D_eq _ _ _ _ _ _ _ (by simp [h]) (by simp [h]) (by simp [h])]⟩
    · exact ⟨_, check_shape ha hk (by rw [h]; exact shape6), by rw [rcheck_shape ha hk2 (by rw [h]; kernel_rfl) onl_r, D_eq _ _ _ _ _ _ _ (by simp [h]) (by simp [h]) (by simp [h])]⟩
    · exact ⟨_, check_shape ha hk (by rw [h]; exact shape7), by rw [rcheck_shape ha hk2 (by rw [h]; kernel_rfl) onl_r, D_eq _ _ _ _ _ _ _ (by simp [h]) (by simp [h]) (by simp [h])]⟩
    · exact ⟨_, check_shape ha hk (by rw [h]; exact shape8), by rw [rcheck_shape ha hk2 (by rw [h]; kernel_rfl) onl_l, D_eq _ _ _ _ _ _ _ (by simp [h]) (by simp [h]) (by simp [h])]⟩
    · exact ⟨_, check_shape ha hk (by rw [h]; exact shape9), by rw [rcheck_shape ha hk2 (by rw [h]; kernel_rfl) onl_l, D_eq _ _ _ _ _ _ _ (by simp [h]) (by simp [h]) (by simp [h])]⟩
end Go.CL

/- The same records: rec.Same = moietyref03.Same; what is too big. -/
set_option linter.unusedVariables false
set_option linter.unusedSimpArgs false
namespace Go.CL
open Go

def endB : Bool → Bool ⊕ Unit
  | true => .inr ()
  | false => .inl false
def eqI (x y : api_Item) : Bool := sEq x.Name y.Name && decide (keyf x.Score = keyf y.Score)
def eqL : List api_Item → List api_Item → Bool
  | [], [] => true
  | x :: xs, y :: ys => eqI x y && eqL xs ys
  | _, _ => false
def sameR (a b : api_Record) : Bool := (a.Kind == b.Kind) && (a.Num == b.Num) && (a.Low == b.Low) && (a.High == b.High) && decide (keyf a.Real = keyf b.Real) && (a.Cap == b.Cap) && sEq a.Text b.Text && eqL a.List b.List
theorem eqL_len : ∀ {a b : List api_Item}, eqL a b = true → a.length = b.length
  | [], [], _ => rfl
  | x :: xs, y :: ys, h => by
    simp only [eqL, Bool.and_eq_true] at h
    simp [eqL_len h.2]
  | [], _ :: _, h => by simp [eqL] at h
  | _ :: _, [], h => by simp [eqL] at h
theorem same1_eq {x y : api_Item} (hx : x.Score < W64) (hy : y.Score < W64) : rec_Same_1 x y = some (eqI x y) := by
  unfold rec_Same_1 eqI
  rw [same_eq hx hy]
  cases sEq x.Name y.Name <;> simp [gd]
theorem eqf_loop {a b : List api_Item} (ha : ∀ e ∈ a, e.Score < W64) (hb : ∀ e ∈ b, e.Score < W64) (hl : a.length < 4611686018427387904) (he : a.length = b.length) : ∀ (n i : Nat), i + n = a.length →
    slices_EqualFunc_api_Item_api_Item_api_Item_api_Item_l1 a b (fun y0 y1 => rec_Same_1 y0 y1) (n + 1) (i : Int) = some (endB (eqL (a.drop i) (b.drop i)))
  | 0, i, h => by
    rw [slices_EqualFunc_api_Item_api_Item_api_Item_api_Item_l1, if_neg (by simp; omega), List.drop_of_length_le (by omega), List.drop_of_length_le (by omega)]
    rfl
  | n + 1, i, h => by
    have h1 : i < a.length := by omega
    have h2 : i < b.length := by omega
    rw [slices_EqualFunc_api_Item_api_Item_api_Item_api_Item_l1, if_pos (by simp; omega), idx_lt h1, idx_lt h2, wr1 (by omega)]
    simp only [Option.bind_some]
    rw [same1_eq (ha _ (List.getElem_mem h1)) (hb _ (List.getElem_mem h2)), List.drop_eq_getElem_cons h1, List.drop_eq_getElem_cons h2]
    simp only [Option.bind_some, eqL]
    cases hq : eqI a[i] b[i]
    · simp [endB]
    · simp only [Bool.not_true, Bool.false_eq_true, if_false, Bool.true_and]
      exact eqf_loop ha hb hl he n (i + 1) (by omega)
theorem eqf_eq {a b : List api_Item} (ha : ∀ e ∈ a, e.Score < W64) (hb : ∀ e ∈ b, e.Score < W64) (hl : a.length < 4611686018427387904) : slices_EqualFunc_api_Item_api_Item_api_Item_api_Item a b (fun y0 y1 => rec_Same_1 y0 y1) = some (eqL a b) := by
  unfold slices_EqualFunc_api_Item_api_Item_api_Item_api_Item
  by_cases he : a.length = b.length
  · rw [if_neg (by simp; omega), show (Int.toNat ((a.length : Int) - (0 : Int)) + 1) = a.length + 1 by omega]
    have := eqf_loop ha hb hl he a.length 0 (by omega)
    rw [show ((0 : Nat) : Int) = 0 from rfl] at this
    rw [this]
    simp only [List.drop_zero]
    cases eqL a b <;> simp [endB]
  · rw [if_pos (by simp; omega)]
    cases h : eqL a b
    · rfl
    · exact absurd (eqL_len h) he
theorem same_rec {a b : api_Record} (ha : RecOk a) (hb : RecOk b) : rec_Same a b = some (sameR a b) := by
  unfold rec_Same sameR
  rw [same_eq ha.real hb.real, eqf_eq ha.sc hb.sc ha.len]
  generalize (a.Kind == b.Kind) = x1
  generalize (a.Num == b.Num) = x2
  generalize (a.Low == b.Low) = x3
  generalize (a.High == b.High) = x4
  generalize decide (keyf a.Real = keyf b.Real) = x5
  generalize (a.Cap == b.Cap) = x6
  generalize sEq a.Text b.Text = x7
  generalize eqL a.List b.List = x8
  revert x1 x2 x3 x4 x5 x6 x7 x8
  decide
theorem rsame_loop {a b : api_Record} (ha : RecOk a) (hb : RecOk b) (he : a.List.length = b.List.length) : ∀ (n i : Nat), i + n = a.List.length →
    moietyref03_Same_l1 a b (n + 1) (i : Int) = some (endB (eqL (a.List.drop i) (b.List.drop i)))
  | 0, i, h => by
    rw [moietyref03_Same_l1, if_neg (by simp; omega), List.drop_of_length_le (by omega), List.drop_of_length_le (by omega)]
    rfl
  | n + 1, i, h => by
    have h1 : i < a.List.length := by omega
    have h2 : i < b.List.length := by omega
    have hl := ha.len
    have hs1 := ha.sc _ (List.getElem_mem h1)
    have hs2 := hb.sc _ (List.getElem_mem h2)
    rw [moietyref03_Same_l1, if_pos (by simp; omega), idx_lt h1, idx_lt h2, wr1 (by omega), List.drop_eq_getElem_cons h1, List.drop_eq_getElem_cons h2]
    simp only [Option.bind_some, eqL, eqI]
    cases hn : sEq a.List[i].Name b.List[i].Name
    · simp [gd, endB]
    · simp only [Bool.not_true, Bool.not_false, gd_t, Option.bind_some]
      rw [rsame_eq hs1 hs2]
      simp only [Option.bind_some, Bool.false_or, Bool.true_and]
      by_cases hk : keyf a.List[i].Score = keyf b.List[i].Score
      · simp only [hk, decide_true, Bool.not_true, Bool.false_eq_true, if_false, Bool.true_and]
        exact rsame_loop ha hb he n (i + 1) (by omega)
      · simp [hk, endB]
theorem rsame_rec {a b : api_Record} (ha : RecOk a) (hb : RecOk b) : moietyref03_Same a b = some (sameR a b) := by
  unfold moietyref03_Same sameR
  rw [rsame_eq ha.real hb.real]
  by_cases he : a.List.length = b.List.length
  · have := rsame_loop ha hb he a.List.length 0 (by omega)
    rw [show ((0 : Nat) : Int) = 0 from rfl] at this
    rw [show (Int.toNat ((a.List.length : Int) - (0 : Int)) + 1) = a.List.length + 1 by omega, this]
    have hn : ((a.List.length : Int) != (b.List.length : Int)) = false := by simp; omega
    rw [hn]
    simp only [List.drop_zero, bne]
    generalize (a.Kind == b.Kind) = x1
    generalize (a.Num == b.Num) = x2
    generalize (a.Low == b.Low) = x3
    generalize (a.High == b.High) = x4
    generalize decide (keyf a.Real = keyf b.Real) = x5
    generalize (a.Cap == b.Cap) = x6
    generalize sEq a.Text b.Text = x7
    generalize eqL a.List b.List = x8
    clear this hn he
    revert x1 x2 x3 x4 x5 x6 x7 x8
    decide
  · have h8 : eqL a.List b.List = false := by
      cases h : eqL a.List b.List
      · rfl
      · exact absurd (eqL_len h) he
    have hn : ((a.List.length : Int) != (b.List.length : Int)) = true := by simp; omega
    rw [hn, h8]
    simp only [bne, Bool.or_true, Option.bind_some, if_true, Bool.and_false, ite_self]
/-! ### too big -/
theorem big03_loop {a : api_Record} (hl : a.List.length ≤ 9223372036854775807) : ∀ (n i : Nat), i + n = a.List.length → ∃ z, moietylaw03_Big_l1 a (n + 1) (i : Int) = some z ∧ (z = .inl 1 ∨ z = .inr ())
  | 0, i, h => by
    rw [moietylaw03_Big_l1, if_neg (by simp; omega)]
    exact ⟨_, rfl, .inr rfl⟩
  | n + 1, i, h => by
    rw [moietylaw03_Big_l1, if_pos (by simp; omega), idx_lt (by omega), wr1 (by omega)]
    simp only [Option.bind_some]
    split
    · exact ⟨_, rfl, .inl rfl⟩
    · exact big03_loop hl n (i + 1) (by omega)
/-- Of a record that isn't too big: its list has no more than 100 items. -/
theorem big03 {a : api_Record} (hl : a.List.length ≤ 9223372036854775807) : ∃ c, moietylaw03_Big a = some c ∧ (c = 0 ∨ c = 1) ∧ (c = 0 → a.List.length ≤ 100) := by
  unfold moietylaw03_Big
  by_cases h : (100 : Int) < a.List.length ∨ (1000 : Int) < a.Text.size
  · rw [if_pos (by simpa using h)]
    exact ⟨1, rfl, .inr rfl, fun h => by cases h⟩
  · rw [if_neg (by simpa using h), show (Int.toNat ((a.List.length : Int) - (0 : Int)) + 1) = a.List.length + 1 by omega]
    obtain ⟨z, hz, hc⟩ := big03_loop hl a.List.length 0 (by omega)
    rw [show ((0 : Nat) : Int) = 0 from rfl] at hz
    rw [hz]
    rcases hc with rfl | rfl
    · exact ⟨1, rfl, .inr rfl, fun h => by cases h⟩
    · exact ⟨0, rfl, .inl rfl, fun _ => by omega⟩
end Go.CL

/- act.Check = moietyref04.Check. -/
set_option linter.unusedVariables false
set_option linter.unusedSimpArgs false
namespace Go.CL
open Go

theorem gd_some {β : Type} [Inhabited β] (c : Bool) (v : β) : gd c (some v) = some (if c then v else default) := by cases c <;> rfl
def ActOk (a : api_Act) : Prop := RecOk a.Make ∧ a.X < W64
abbrev zrc : api_Record := { Kind := 0, Num := 0, Low := 0, High := 0, Real := 0, Cap := 0, Text := ByteArray.empty, List := [] }
theorem zrc_ok : RecOk zrc := ⟨by decide, by decide, fun e he => by cases he⟩
/-- What both say of an act of a kind. -/
def actD (n x s m o1 k1 k2 : Bool) (c : Int) (a : api_Act) : Int :=
  if (sEq a.Key ⟨#[]⟩ || decide ((24 : Int) < a.Key.size)) = true then 1
  else if (!(((n || a.N == 0) && (x || decide (keyf a.X = keyf 0))) && (s || sEq a.S ⟨#[]⟩) && (m || sameR a.Make zrc))) = true then 4
  else if decide ((if o1 = true then (64 : Int) else 16) < a.S.size) = true then 3
  else if (k2 && (decide (a.N < 0) || decide (2305843009213693952 < a.N))) = true then 1
  else if (!decide (a.X = canon a.X)) = true then 4
  else if k1 = true then c else 0
theorem emp_iff (k : ByteArray) : (decide ((k.size : Int) < 1)) = sEq k ⟨#[]⟩ := by
  by_cases h : k = ⟨#[]⟩
  · subst h; rw [sEq_self]; decide
  · rw [sEq_ne.2 h]
    have : k.size ≠ 0 := fun e => h (by
      apply ByteArray.ext
      exact Array.size_eq_zero_iff.1 e)
    simp; omega
theorem act_shape {a : api_Act} (ha : ActOk a) {w has : ByteArray} {on c : Int} {n x s m : Bool} (hc : rec_Check a.Make = some c) (h1 : act_of a.Kind = some ⟨w, on, has⟩) (hw : sEq w ⟨#[]⟩ = false)
    (fn : act_kind_field ⟨w, on, has⟩ 110 = some n) (fx : act_kind_field ⟨w, on, has⟩ 120 = some x) (fs : act_kind_field ⟨w, on, has⟩ 115 = some s) (fm : act_kind_field ⟨w, on, has⟩ 109 = some m) :
    act_Check a = some (actD n x s m (on == 1) (a.Kind == 1) (a.Kind == 10 || a.Kind == 11) c a) := by
  have h0 : (0 : Nat) < W64 := by decide
  unfold act_Check act_bare act_most
  rw [h1]
  simp only [Option.bind_some, hw, Bool.false_eq_true, if_false, fn, fx, fs, fm, gd_some]
  rw [same_eq ha.2 h0, same_rec ha.1 zrc_ok, proper_eq ha.2, hc]
  simp only [Option.bind_some, gd_some]
  unfold actD
  generalize (sEq a.Key ⟨#[]⟩ || decide ((24 : Int) < a.Key.size)) = b1
  generalize (a.N == 0) = b2
  generalize decide (keyf a.X = keyf 0) = b3
  generalize sEq a.S ⟨#[]⟩ = b4
  generalize sameR a.Make zrc = b5
  generalize (a.Kind == 10 || a.Kind == 11) = b6
  generalize (a.Kind == 1) = b7
  generalize (decide (a.N < 0) || decide (2305843009213693952 < a.N)) = b8
  generalize decide (a.X = canon a.X) = b9
  have e1 : decide ((64 : Int) < a.S.size) = decide ((if true = true then (64 : Int) else 16) < a.S.size) := rfl
  cases b1
  · have hm : ∀ (z : Bool), ((if z = true then some (64 : Int) else some 16).bind fun r8 => (if decide (r8 < (a.S.size : Int)) = true then some (3 : Int) else if (b6 && b8) = true then some 1 else if (!b9) = true then some 4 else if b7 = true then some c else some 0)) = some (if decide ((if z = true then (64 : Int) else 16) < a.S.size) = true then 3 else if (b6 && b8) = true then 1 else if (!b9) = true then 4 else if b7 = true then c else 0) := by
      intro z
      cases z <;> simp only [Bool.false_eq_true, if_false, if_true, Option.bind_some] <;> (repeat' split) <;> rfl
    rw [hm]
    cases n <;> cases x <;> cases s <;> cases m <;> cases b2 <;> cases b3 <;> cases b4 <;> cases b5 <;> rfl
  · rfl
theorem ract_shape {a : api_Act} (ha : ActOk a) {on c : Int} {n x s m : Bool} (hc : moietyref03_Check a.Make = some c) (hk : ¬ (a.Kind < 1 ∨ 21 < a.Kind)) (ro : moietyref04_On a.Kind = some on)
    (fn : moietyref04_Has a.Kind 110 = some n) (fx : moietyref04_Has a.Kind 120 = some x) (fs : moietyref04_Has a.Kind 115 = some s) (fm : m = (a.Kind == 1)) :
    moietyref04_Check a = some (actD n x s m (on == 1) (a.Kind == 1) (a.Kind == 10 || a.Kind == 11) c a) := by
  have h0 : (0 : Nat) < W64 := by decide
  unfold moietyref04_Check
  rw [if_neg (by simpa using hk), fn, fx, fs, ro]
  simp only [Option.bind_some, gd_some, emp_iff]
  rw [rsame_eq ha.2 h0, rsame_rec ha.1 zrc_ok, rproper_eq ha.2, hc]
  simp only [Option.bind_some, gd_some]
  unfold actD
  subst fm
  have hmid : ((on == 1 && decide ((64 : Int) < a.S.size)) || ((if (!(on == 1 && decide ((64 : Int) < a.S.size))) = true then on else default) != 1 && decide ((16 : Int) < a.S.size))) = decide ((if (on == 1) = true then (64 : Int) else 16) < a.S.size) := by
    by_cases ho : on = 1
    · subst ho
      by_cases h64 : (64 : Int) < a.S.size <;> simp [h64]
    · have hb1 : (on == 1) = false := by simpa using ho
      have hb2 : (on != 1) = true := by simpa using ho
      simp [hb1, hb2]
  rw [hmid, show (a.N != 0) = !(a.N == 0) from rfl, show (a.Kind != 1) = !(a.Kind == 1) from rfl]
  generalize decide ((if (on == 1) = true then (64 : Int) else 16) < a.S.size) = b10
  generalize (sEq a.Key ⟨#[]⟩ || decide ((24 : Int) < a.Key.size)) = b1
  generalize (a.N == 0) = b2
  generalize decide (keyf a.X = keyf 0) = b3
  generalize sEq a.S ⟨#[]⟩ = b4
  generalize sameR a.Make zrc = b5
  generalize (a.Kind == 10 || a.Kind == 11) = b6
  generalize (a.Kind == 1) = b7
  generalize (decide (a.N < 0) || decide (2305843009213693952 < a.N)) = b8
  generalize decide (a.X = canon a.X) = b9
  have htail : (if b10 = true then some (3 : Int) else if (b6 && b8) = true then some 1 else if (!b9) = true then some 4 else if b7 = true then some c else some 0) = some (if b10 = true then 3 else if (b6 && b8) = true then 1 else if (!b9) = true then 4 else if b7 = true then c else 0) := by
    (repeat' split) <;> rfl
  rw [htail]
  cases b1
  · cases n <;> cases x <;> cases s <;> cases b7 <;> cases b2 <;> cases b3 <;> cases b4 <;> cases b5 <;> rfl
  · rfl
theorem actD_zero {n x s m o1 k1 k2 : Bool} {c : Int} {a : api_Act} (h : actD n x s m o1 k1 k2 c a = 0) : (sEq a.Key ⟨#[]⟩ || decide ((24 : Int) < a.Key.size)) = false ∧ decide ((if o1 = true then (64 : Int) else 16) < a.S.size) = false ∧ (k2 && (decide (a.N < 0) || decide (2305843009213693952 < a.N))) = false ∧ decide (a.X = canon a.X) = true ∧ (k1 = true → c = 0) := by
  unfold actD at h
  revert h
  generalize (sEq a.Key ⟨#[]⟩ || decide ((24 : Int) < a.Key.size)) = b1
  generalize decide ((if o1 = true then (64 : Int) else 16) < a.S.size) = b3
  generalize (k2 && (decide (a.N < 0) || decide (2305843009213693952 < a.N))) = b4
  generalize decide (a.X = canon a.X) = b5
  generalize (!(((n || a.N == 0) && (x || decide (keyf a.X = keyf 0))) && (s || sEq a.S ⟨#[]⟩) && (m || sameR a.Make zrc))) = b2
  cases b1 <;> cases b2 <;> cases b3 <;> cases b4 <;> cases b5 <;> cases k1 <;> simp
/-- **May an act be: the program says what the document says.** -/
theorem check_act {a : api_Act} (ha : ActOk a) : ∃ c, act_Check a = some c ∧ moietyref04_Check a = some c ∧ (c = 0 → 1 ≤ a.Kind ∧ a.Kind ≤ 21 ∧ a.X = canon a.X ∧ a.S.size ≤ 64 ∧ ((a.Kind = 10 ∨ a.Kind = 11) → 0 ≤ a.N ∧ a.N ≤ 2305843009213693952) ∧ (a.Kind = 1 → rec_Check a.Make = some 0) ∧ (¬ (5 ≤ a.Kind ∧ a.Kind ≤ 6) → a.S.size ≤ 16) ∧ sEq a.Key ⟨#[]⟩ = false ∧ a.Key.size ≤ 24) := by
  by_cases hk : a.Kind < 1 ∨ 21 < a.Kind
  · refine ⟨5, ?_, ?_, fun h => by cases h⟩
    · unfold act_Check act_of
      rw [if_pos (by simp; omega)]
      simp only [Option.bind_some]
      rw [if_pos (show sEq ByteArray.empty ⟨#[]⟩ = true by kernel_rfl)]
    · unfold moietyref04_Check
      rw [if_pos (by simpa using hk)]
  · obtain ⟨c, hc1, hc2⟩ := check_both ha.1
    have fin : ∀ {w has : ByteArray} {on : Int} {n x s m : Bool}, act_of a.Kind = some ⟨w, on, has⟩ → sEq w ⟨#[]⟩ = false → act_kind_field ⟨w, on, has⟩ 110 = some n → act_kind_field ⟨w, on, has⟩ 120 = some x → act_kind_field ⟨w, on, has⟩ 115 = some s → act_kind_field ⟨w, on, has⟩ 109 = some m →
        moietyref04_On a.Kind = some on → moietyref04_Has a.Kind 110 = some n → moietyref04_Has a.Kind 120 = some x → moietyref04_Has a.Kind 115 = some s → m = (a.Kind == 1) → ((on == 1) = true → 5 ≤ a.Kind ∧ a.Kind ≤ 6) →
        ∃ c, act_Check a = some c ∧ moietyref04_Check a = some c ∧ (c = 0 → 1 ≤ a.Kind ∧ a.Kind ≤ 21 ∧ a.X = canon a.X ∧ a.S.size ≤ 64 ∧ ((a.Kind = 10 ∨ a.Kind = 11) → 0 ≤ a.N ∧ a.N ≤ 2305843009213693952) ∧ (a.Kind = 1 → rec_Check a.Make = some 0) ∧ (¬ (5 ≤ a.Kind ∧ a.Kind ≤ 6) → a.S.size ≤ 16) ∧ sEq a.Key ⟨#[]⟩ = false ∧ a.Key.size ≤ 24) := by
      intro w has on n x s m h1 hw fn fx fs fm ro rn rx rs hm hon
      refine ⟨_, act_shape ha hc1 h1 hw fn fx fs fm, by rw [hm]; exact ract_shape ha hc2 hk ro rn rx rs rfl, fun h0 => ?_⟩
      obtain ⟨g1, g3, g4, g5, g6⟩ := actD_zero h0
      simp only [Bool.or_eq_false_iff, decide_eq_false_iff_not] at g1
      have g3' : ¬ (if (on == 1) = true then (64 : Int) else 16) < a.S.size := of_decide_eq_false g3
      refine ⟨by omega, by omega, of_decide_eq_true g5, ?_, fun h => ?_, fun h => ?_, fun h => ?_, g1.1, by omega⟩
      · split at g3' <;> omega
      · have h11 : (a.Kind == 10 || a.Kind == 11) = true := by simpa using h
        rw [h11] at g4
        simp only [Bool.true_and, Bool.or_eq_false_iff, decide_eq_false_iff_not] at g4
        omega
      · rw [hc1, g6 (by simp [h])]
      · rw [if_neg (fun h2 => h (hon h2))] at g3'
        omega
    have hk' : a.Kind = 1 ∨ a.Kind = 2 ∨ a.Kind = 3 ∨ a.Kind = 4 ∨ a.Kind = 5 ∨ a.Kind = 6 ∨ a.Kind = 7 ∨ a.Kind = 8 ∨ a.Kind = 9 ∨ a.Kind = 10 ∨ a.Kind = 11 ∨ a.Kind = 12 ∨ a.Kind = 13 ∨ a.Kind = 14 ∨ a.Kind = 15 ∨ a.Kind = 16 ∨ a.Kind = 17 ∨ a.Kind = 18 ∨ a.Kind = 19 ∨ a.Kind = 20 ∨ a.Kind = 21 := by omega
    rcases hk' with h | h | h | h | h | h | h | h | h | h | h | h | h | h | h | h | h | h | h | h | h <;> rw [h] at fin ⊢
    · exact fin (w := ⟨#[110, 101, 119]⟩) (on := 0) (has := ⟨#[109]⟩) (n := false) (x := false) (s := false) (m := true) (by kernel_rfl) (by kernel_rfl) (by kernel_rfl) (by kernel_rfl) (by kernel_rfl) (by kernel_rfl) (by kernel_rfl) (by kernel_rfl) (by kernel_rfl) (by kernel_rfl) (by decide) (by decide)
    · exact fin (w := ⟨#[100, 114, 111, 112]⟩) (on := 0) (has := ⟨#[]⟩) (n := false) (x := false) (s := false) (m := false) (by kernel_rfl) (by kernel_rfl) (by kernel_rfl) (by kernel_rfl) (by kernel_rfl) (by kernel_rfl) (by kernel_rfl) (by kernel_rfl) (by kernel_rfl) (by kernel_rfl) (by decide) (by decide)
    · exact fin (w := ⟨#[105, 115]⟩) (on := 0) (has := ⟨#[]⟩) (n := false) (x := false) (s := false) (m := false) (by kernel_rfl) (by kernel_rfl) (by kernel_rfl) (by kernel_rfl) (by kernel_rfl) (by kernel_rfl) (by kernel_rfl) (by kernel_rfl) (by kernel_rfl) (by kernel_rfl) (by decide) (by decide)
    · exact fin (w := ⟨#[108, 111, 111, 107]⟩) (on := 0) (has := ⟨#[]⟩) (n := false) (x := false) (s := false) (m := false) (by kernel_rfl) (by kernel_rfl) (by kernel_rfl) (by kernel_rfl) (by kernel_rfl) (by kernel_rfl) (by kernel_rfl) (by kernel_rfl) (by kernel_rfl) (by kernel_rfl) (by decide) (by decide)
    · exact fin (w := ⟨#[112, 117, 116]⟩) (on := 1) (has := ⟨#[115]⟩) (n := false) (x := false) (s := true) (m := false) (by kernel_rfl) (by kernel_rfl) (by kernel_rfl) (by kernel_rfl) (by kernel_rfl) (by kernel_rfl) (by kernel_rfl) (by kernel_rfl) (by kernel_rfl) (by kernel_rfl) (by decide) (by decide)
    · exact fin (w := ⟨#[115, 119, 97, 112]⟩) (on := 1) (has := ⟨#[115]⟩) (n := false) (x := false) (s := true) (m := false) (by kernel_rfl) (by kernel_rfl) (by kernel_rfl) (by kernel_rfl) (by kernel_rfl) (by kernel_rfl) (by kernel_rfl) (by kernel_rfl) (by kernel_rfl) (by kernel_rfl) (by decide) (by decide)
    · exact fin (w := ⟨#[97, 100, 100]⟩) (on := 2) (has := ⟨#[110]⟩) (n := true) (x := false) (s := false) (m := false) (by kernel_rfl) (by kernel_rfl) (by kernel_rfl) (by kernel_rfl) (by kernel_rfl) (by kernel_rfl) (by kernel_rfl) (by kernel_rfl) (by kernel_rfl) (by kernel_rfl) (by decide) (by decide)
    · exact fin (w := ⟨#[112, 108, 117, 115]⟩) (on := 3) (has := ⟨#[110]⟩) (n := true) (x := false) (s := false) (m := false) (by kernel_rfl) (by kernel_rfl) (by kernel_rfl) (by kernel_rfl) (by kernel_rfl) (by kernel_rfl) (by kernel_rfl) (by kernel_rfl) (by kernel_rfl) (by kernel_rfl) (by decide) (by decide)
    · exact fin (w := ⟨#[114, 101, 97, 99, 104]⟩) (on := 3) (has := ⟨#[110]⟩) (n := true) (x := false) (s := false) (m := false) (by kernel_rfl) (by kernel_rfl) (by kernel_rfl) (by kernel_rfl) (by kernel_rfl) (by kernel_rfl) (by kernel_rfl) (by kernel_rfl) (by kernel_rfl) (by kernel_rfl) (by decide) (by decide)
    · exact fin (w := ⟨#[105, 110]⟩) (on := 4) (has := ⟨#[110]⟩) (n := true) (x := false) (s := false) (m := false) (by kernel_rfl) (by kernel_rfl) (by kernel_rfl) (by kernel_rfl) (by kernel_rfl) (by kernel_rfl) (by kernel_rfl) (by kernel_rfl) (by kernel_rfl) (by kernel_rfl) (by decide) (by decide)
    · exact fin (w := ⟨#[111, 117, 116]⟩) (on := 4) (has := ⟨#[110]⟩) (n := true) (x := false) (s := false) (m := false) (by kernel_rfl) (by kernel_rfl) (by kernel_rfl) (by kernel_rfl) (by kernel_rfl) (by kernel_rfl) (by kernel_rfl) (by kernel_rfl) (by kernel_rfl) (by kernel_rfl) (by decide) (by decide)
    · exact fin (w := ⟨#[101, 110, 111, 117, 103, 104]⟩) (on := 4) (has := ⟨#[110]⟩) (n := true) (x := false) (s := false) (m := false) (by kernel_rfl) (by kernel_rfl) (by kernel_rfl) (by kernel_rfl) (by kernel_rfl) (by kernel_rfl) (by kernel_rfl) (by kernel_rfl) (by kernel_rfl) (by kernel_rfl) (by decide) (by decide)
    · exact fin (w := ⟨#[114, 97, 105, 115, 101]⟩) (on := 5) (has := ⟨#[120]⟩) (n := false) (x := true) (s := false) (m := false) (by kernel_rfl) (by kernel_rfl) (by kernel_rfl) (by kernel_rfl) (by kernel_rfl) (by kernel_rfl) (by kernel_rfl) (by kernel_rfl) (by kernel_rfl) (by kernel_rfl) (by decide) (by decide)
    · exact fin (w := ⟨#[108, 111, 119, 101, 114]⟩) (on := 6) (has := ⟨#[120]⟩) (n := false) (x := true) (s := false) (m := false) (by kernel_rfl) (by kernel_rfl) (by kernel_rfl) (by kernel_rfl) (by kernel_rfl) (by kernel_rfl) (by kernel_rfl) (by kernel_rfl) (by kernel_rfl) (by kernel_rfl) (by decide) (by decide)
    · exact fin (w := ⟨#[115, 104, 105, 102, 116]⟩) (on := 7) (has := ⟨#[120]⟩) (n := false) (x := true) (s := false) (m := false) (by kernel_rfl) (by kernel_rfl) (by kernel_rfl) (by kernel_rfl) (by kernel_rfl) (by kernel_rfl) (by kernel_rfl) (by kernel_rfl) (by kernel_rfl) (by kernel_rfl) (by decide) (by decide)
    · exact fin (w := ⟨#[115, 99, 97, 108, 101]⟩) (on := 7) (has := ⟨#[120]⟩) (n := false) (x := true) (s := false) (m := false) (by kernel_rfl) (by kernel_rfl) (by kernel_rfl) (by kernel_rfl) (by kernel_rfl) (by kernel_rfl) (by kernel_rfl) (by kernel_rfl) (by kernel_rfl) (by kernel_rfl) (by decide) (by decide)
    · exact fin (w := ⟨#[102, 105, 120]⟩) (on := 7) (has := ⟨#[120]⟩) (n := false) (x := true) (s := false) (m := false) (by kernel_rfl) (by kernel_rfl) (by kernel_rfl) (by kernel_rfl) (by kernel_rfl) (by kernel_rfl) (by kernel_rfl) (by kernel_rfl) (by kernel_rfl) (by kernel_rfl) (by decide) (by decide)
    · exact fin (w := ⟨#[106, 111, 105, 110]⟩) (on := 8) (has := ⟨#[115]⟩) (n := false) (x := false) (s := true) (m := false) (by kernel_rfl) (by kernel_rfl) (by kernel_rfl) (by kernel_rfl) (by kernel_rfl) (by kernel_rfl) (by kernel_rfl) (by kernel_rfl) (by kernel_rfl) (by kernel_rfl) (by decide) (by decide)
    · exact fin (w := ⟨#[108, 101, 97, 118, 101]⟩) (on := 8) (has := ⟨#[115]⟩) (n := false) (x := false) (s := true) (m := false) (by kernel_rfl) (by kernel_rfl) (by kernel_rfl) (by kernel_rfl) (by kernel_rfl) (by kernel_rfl) (by kernel_rfl) (by kernel_rfl) (by kernel_rfl) (by kernel_rfl) (by decide) (by decide)
    · exact fin (w := ⟨#[104, 97, 115]⟩) (on := 8) (has := ⟨#[115]⟩) (n := false) (x := false) (s := true) (m := false) (by kernel_rfl) (by kernel_rfl) (by kernel_rfl) (by kernel_rfl) (by kernel_rfl) (by kernel_rfl) (by kernel_rfl) (by kernel_rfl) (by kernel_rfl) (by kernel_rfl) (by decide) (by decide)
    · exact fin (w := ⟨#[111, 102, 102, 101, 114]⟩) (on := 9) (has := ⟨#[120, 115]⟩) (n := false) (x := true) (s := true) (m := false) (by kernel_rfl) (by kernel_rfl) (by kernel_rfl) (by kernel_rfl) (by kernel_rfl) (by kernel_rfl) (by kernel_rfl) (by kernel_rfl) (by kernel_rfl) (by kernel_rfl) (by decide) (by decide)
end Go.CL

/- Names in order, and the best in order: find, join, leave, has, offer; the document's Laid. -/
set_option linter.unusedVariables false
set_option linter.unusedSimpArgs false
namespace Go.CL
open Go

abbrev Items := List api_Item
def NS (l : Items) : Prop := l.Pairwise fun p q => sLt p.Name q.Name = true
/-- How many stand ahead. -/
def pre (f : api_Item → Bool) : Items → Nat
  | [] => 0
  | e :: r => if f e then pre f r + 1 else 0
theorem pre_le (f : api_Item → Bool) : ∀ l : Items, pre f l ≤ l.length
  | [] => Nat.le_refl _
  | e :: r => by
    have := pre_le f r
    simp only [pre]
    split <;> simp <;> omega
theorem pre_lt {f : api_Item → Bool} : ∀ {l : Items} {k : Nat} (h : k < pre f l), ∃ e, l[k]? = some e ∧ f e = true
  | [], k, h => by simp [pre] at h
  | e :: r, k, h => by
    simp only [pre] at h
    split at h
    · rename_i hf
      cases k with
      | zero => exact ⟨e, rfl, hf⟩
      | succ k => exact pre_lt (l := r) (by omega)
    · omega
theorem pre_at {f : api_Item → Bool} : ∀ {l : Items} {e : api_Item}, l[pre f l]? = some e → f e = false
  | [], e, h => by simp [pre] at h
  | x :: r, e, h => by
    simp only [pre] at h
    split at h
    · exact pre_at (l := r) (by simpa using h)
    · rename_i hf
      simp at h; subst h; simpa using hf
theorem pre_mono {s : ByteArray} {l : Items} (hs : NS l) {k : Nat} (hk : k < l.length) : sLt (l[k]).Name s = decide (k < pre (fun e => sLt e.Name s) l) := by
  by_cases h : k < pre (fun e => sLt e.Name s) l
  · obtain ⟨e, he, hf⟩ := pre_lt h
    rw [List.getElem?_eq_getElem hk] at he
    obtain rfl := Option.some.inj he
    simp only [h, decide_true]; exact hf
  · simp only [h, decide_false]
    have hp : pre (fun e => sLt e.Name s) l < l.length := by omega
    have h1 := pre_at (List.getElem?_eq_getElem hp)
    rcases Nat.lt_or_eq_of_le (Nat.le_of_not_lt h) with hlt | heq
    · have h2 := List.pairwise_iff_getElem.1 hs _ _ hp hk hlt
      cases h3 : sLt (l[k]).Name s
      · rfl
      · rw [sLt_trans h2 h3] at h1; cases h1
    · have : l[k] = l[pre (fun e => sLt e.Name s) l] := by congr 1; exact heq.symm
      rw [this]; exact h1
theorem half {i j : Nat} (h : i + j < 4611686018427387904) : IntKind.i64.wrap (Int.fdiv (IntKind.u64.wrap (IntKind.i64.wrap ((i : Int) + (j : Int)))) (2 ^ 1)) = (((i + j) / 2 : Nat) : Int) := by
  rw [wr (x := (i : Int) + j) (by omega) (by omega), wru (by omega) (by omega)]
  have : Int.fdiv ((i : Int) + j) (2 ^ 1) = (((i + j) / 2 : Nat) : Int) := by
    rw [Int.fdiv_eq_ediv_of_nonneg _ (by decide)]; omega
  rw [this, wr (by omega) (by omega)]
theorem find1 (e : api_Item) (s : ByteArray) : ∃ c : Int, rule_find_1 e s = some c ∧ decide (c < 0) = sLt e.Name s ∧ (c == 0) = sEq e.Name s := by
  unfold rule_find_1
  by_cases h : sLt e.Name s = true
  · exact ⟨-1, by rw [if_pos h], by rw [h]; rfl, by rw [sEq_ne.2 (sLt_ne h)]; rfl⟩
  · have h' : sLt e.Name s = false := by simpa using h
    by_cases h2 : e.Name = s
    · exact ⟨0, by rw [if_neg h, h', sEq_iff.2 h2]; rfl, by rw [h']; rfl, by rw [sEq_iff.2 h2]; rfl⟩
    · exact ⟨1, by rw [if_neg h, h', sEq_ne.2 h2]; rfl, by rw [h']; rfl, by rw [sEq_ne.2 h2]; rfl⟩
theorem bs_loop {l : Items} {s : ByteArray} (hs : NS l) (hl : l.length < 2305843009213693952) : ∀ (n i j : Nat), j - i < n → i ≤ pre (fun e => sLt e.Name s) l → pre (fun e => sLt e.Name s) l ≤ j → j ≤ l.length →
    slices_BinarySearchFunc_api_Item_api_Item_string_l1 l s (fun y0 y1 => rule_find_1 y0 y1) n (i : Int) (j : Int) = some ((pre (fun e => sLt e.Name s) l : Nat) : Int)
  | 0, i, j, h, _, _, _ => by omega
  | n + 1, i, j, h, h1, h2, h3 => by
    rw [slices_BinarySearchFunc_api_Item_api_Item_string_l1]
    by_cases hij : i < j
    · rw [if_pos (by simpa using hij), half (by omega)]
      have hm : (i + j) / 2 < l.length := by omega
      rw [idx_lt hm]
      obtain ⟨c, hc, hc1, _⟩ := find1 l[(i + j) / 2] s
      simp only [Option.bind_some, hc]
      rw [hc1, pre_mono hs hm]
      unfold slices_BinarySearchFunc_api_Item_api_Item_string_j1
      by_cases hp : (i + j) / 2 < pre (fun e => sLt e.Name s) l
      · rw [if_pos (by simpa using hp), wr1 (by omega)]
        exact bs_loop hs hl n ((i + j) / 2 + 1) j (by omega) (by omega) h2 h3
      · rw [if_neg (by simpa using hp)]
        exact bs_loop hs hl n i ((i + j) / 2) (by omega) h1 (by omega) (by omega)
    · rw [if_neg (by simpa using hij)]
      congr 2; omega
def isAt (s : ByteArray) (l : Items) : Bool := match l[pre (fun e => sLt e.Name s) l]? with
  | some e => sEq e.Name s
  | none => false
theorem find_eq {l : Items} {s : ByteArray} (hs : NS l) (hl : l.length < 2305843009213693952) : rule_find l s = some (((pre (fun e => sLt e.Name s) l : Nat) : Int), isAt s l) := by
  unfold rule_find slices_BinarySearchFunc_api_Item_api_Item_string
  have := bs_loop (s := s) hs hl (l.length + 1) 0 l.length (by omega) (Nat.zero_le _) (pre_le _ _) (Nat.le_refl _)
  rw [show ((0 : Nat) : Int) = 0 from rfl] at this
  rw [show (Int.toNat ((l.length : Int) - (0 : Int)) + 1) = l.length + 1 by omega, this]
  simp only [Option.bind_some]
  unfold isAt
  by_cases hp : pre (fun e => sLt e.Name s) l < l.length
  · have hd : decide (((pre (fun e => sLt e.Name s) l : Nat) : Int) < (l.length : Int)) = true := by simpa using hp
    rw [hd, idx_lt hp, List.getElem?_eq_getElem hp]
    obtain ⟨c, hc, _, hc2⟩ := find1 l[pre (fun e => sLt e.Name s) l] s
    simp only [gd_t, Option.bind_some, hc, Bool.true_and, hc2]
  · have hd : decide (((pre (fun e => sLt e.Name s) l : Nat) : Int) < (l.length : Int)) = false := by simpa using hp
    rw [hd, List.getElem?_eq_none (by omega)]
    rfl
/-! ### the document's -/
def goL (f g : api_Item → Bool) (x : api_Item) : Items → Bool → Items × Bool
  | [], d => ([], d)
  | e :: r, d => if (!d && !f e) = true then ((if g e then [] else [x]) ++ e :: (goL f g x r true).1, (goL f g x r true).2) else (e :: (goL f g x r d).1, (goL f g x r d).2)
theorem goL_t (f g : api_Item → Bool) (x : api_Item) : ∀ l : Items, goL f g x l true = (l, true)
  | [] => rfl
  | e :: r => by simp [goL, goL_t f g x r]
theorem goL_f (f g : api_Item → Bool) (x : api_Item) : ∀ l : Items, goL f g x l false = match l[pre f l]? with
    | some e => (l.take (pre f l) ++ (if g e then [] else [x]) ++ l.drop (pre f l), true)
    | none => (l, false)
  | [] => rfl
  | e :: r => by
    simp only [goL, pre]
    by_cases hf : f e = true
    · simp only [hf, Bool.not_true, Bool.and_false, Bool.false_eq_true, if_false, if_true]
      rw [goL_f f g x r]
      simp only [List.getElem?_cons_succ]
      cases r[pre f r]? <;> simp
    · have hf' : f e = false := by simpa using hf
      simp only [hf', Bool.not_false, Bool.and_self, if_true, Bool.false_eq_true, if_false, goL_t, List.getElem?_cons_zero, List.take_zero, List.nil_append, List.drop_zero]
def aheadF (x : api_Item) (nm : Bool) (e : api_Item) : Bool := if nm then sLt e.Name x.Name else betterB e x
def sameF (x : api_Item) (nm : Bool) (e : api_Item) : Bool := sEq e.Name x.Name && (nm || decide (keyf e.Score = keyf x.Score))
theorem goL_len (f g : api_Item → Bool) (x : api_Item) : ∀ (l : Items) (d : Bool), (goL f g x l d).1.length ≤ l.length + 1 ∧ (d = true → (goL f g x l d).1.length = l.length)
  | l, true => by rw [goL_t]; simp
  | l, false => by
    rw [goL_f]
    cases h : l[pre f l]? with
    | none => simp
    | some e =>
      refine ⟨?_, fun h => by cases h⟩
      have := (List.getElem?_eq_some_iff.1 h).1
      simp only []
      split <;> simp <;> omega
theorem laid_step {l : Items} {x : api_Item} {nm : Bool} (hx : x.Score < W64) (hsc : ∀ e ∈ l, e.Score < W64) {n i : Nat} {out : Items} {d : Bool} (h1 : i < l.length) :
    moietyref05_Laid_l1 l x nm (n + 1) out d (i : Int) = (if (!d && !aheadF x nm l[i]) = true then (if (!sameF x nm l[i]) = true then (if (out.length + ([x] : List api_Item).length) * 24 ≤ 140737488355328 then moietyref05_Laid_j1 l (i : Int) (moietyref05_Laid_l1 l x nm n) (out ++ [x]) true else none) else moietyref05_Laid_j1 l (i : Int) (moietyref05_Laid_l1 l x nm n) out true) else moietyref05_Laid_j1 l (i : Int) (moietyref05_Laid_l1 l x nm n) out d) := by
  have hm := hsc _ (List.getElem_mem h1)
  have ha : moietyref03_Ahead l[i] x = some (betterB l[i] x) := ahead_eq hm hx
  have hs : moietyref01_Same l[i].Score x.Score = some (decide (keyf l[i].Score = keyf x.Score)) := rsame_eq hm hx
  rw [moietyref05_Laid_l1, if_pos (by simp; omega), idx_lt h1]
  cases nm
  · simp only [Bool.not_false, gd_t, Option.bind_some, Bool.true_and, ha, Bool.and_false, gd_f, Bool.false_and, Bool.or_false, Bool.and_true, Bool.false_or, aheadF, sameF, Bool.false_eq_true, if_false]
    cases hq : sEq l[i].Name x.Name
    · simp only [gd_f, Option.bind_some, Bool.false_and]
    · simp only [gd_t, Option.bind_some, Bool.true_and, hs]
  · simp only [Bool.not_true, gd_f, Option.bind_some, Bool.false_and, Bool.not_false, Bool.true_and, gd_t, Bool.false_or, Bool.true_or, Bool.and_false, Bool.and_true, aheadF, sameF, if_true]
theorem laid_loop {l : Items} {x : api_Item} {nm : Bool} (hx : x.Score < W64) (hsc : ∀ e ∈ l, e.Score < W64) (hl : l.length < 1000000) : ∀ (n i : Nat) (out : Items) (d : Bool), i + n = l.length → out.length + (if d = true then 0 else 1) ≤ i + 1 →
    moietyref05_Laid_l1 l x nm (n + 1) out d (i : Int) = some (out ++ (goL (aheadF x nm) (sameF x nm) x (l.drop i) d).1, (goL (aheadF x nm) (sameF x nm) x (l.drop i) d).2)
  | 0, i, out, d, h, _ => by
    rw [moietyref05_Laid_l1, if_neg (by simp; omega), List.drop_of_length_le (by omega)]
    simp [goL]
  | n + 1, i, out, d, h, ho => by
    have h1 : i < l.length := by omega
    rw [laid_step hx hsc h1, List.drop_eq_getElem_cons h1]
    simp only [moietyref05_Laid_j1, idx_lt h1, wr1 (show i < 9223372036854775807 by omega), Option.bind_some, goL]
    by_cases hc : (!d && !aheadF x nm l[i]) = true
    · rw [if_pos hc, if_pos hc]
      have hd : d = false := by cases d <;> simp_all
      subst hd
      simp only [Bool.false_eq_true, if_false] at ho
      by_cases hs : (!sameF x nm l[i]) = true
      · rw [if_pos hs, if_pos (by simp; omega), if_pos (by simp; omega), laid_loop hx hsc hl n (i + 1) _ true (by omega) (by simp; omega)]
        have : sameF x nm l[i] = false := by simpa using hs
        simp [this]
      · rw [if_neg hs, if_pos (by simp; omega), laid_loop hx hsc hl n (i + 1) _ true (by omega) (by simp; omega)]
        have : sameF x nm l[i] = true := by simpa using hs
        simp [this]
    · rw [if_neg hc, if_neg hc, if_pos (by simp; omega), laid_loop hx hsc hl n (i + 1) _ d (by omega) (by simp; omega)]
      simp
/-- A list with an item more. -/
def layL (x : api_Item) (nm : Bool) (l : Items) : Items := match l[pre (aheadF x nm) l]? with
  | some e => l.take (pre (aheadF x nm) l) ++ (if sameF x nm e then [] else [x]) ++ l.drop (pre (aheadF x nm) l)
  | none => l ++ [x]
theorem laid_eq {l : Items} {x : api_Item} {nm : Bool} (hx : x.Score < W64) (hsc : ∀ e ∈ l, e.Score < W64) (hl : l.length < 1000000) : moietyref05_Laid l x nm = some (layL x nm l) := by
  unfold moietyref05_Laid
  have := laid_loop (nm := nm) hx hsc hl l.length 0 [] false (by omega) (by simp)
  rw [show ((0 : Nat) : Int) = 0 from rfl] at this
  rw [show (Int.toNat ((l.length : Int) - (0 : Int)) + 1) = l.length + 1 by omega, this]
  simp only [Option.bind_some, List.nil_append, List.drop_zero]
  rw [goL_f]
  unfold layL
  cases h : l[pre (aheadF x nm) l]? with
  | none =>
    simp only [Bool.not_false, if_true, moietyref05_Laid_j2]
    rw [if_pos (by simp; omega)]
  | some e => simp only [Bool.not_true, Bool.false_eq_true, if_false, moietyref05_Laid_j2]
theorem has_loop {l : Items} {s : ByteArray} (hl : l.length < 1000000) : ∀ (n i : Nat), i + n = l.length → moietyref05_has_l1 l s (n + 1) (i : Int) = some (cond ((l.drop i).any (fun e => sEq e.Name s)) (.inl true) (.inr ()))
  | 0, i, h => by
    rw [moietyref05_has_l1, if_neg (by simp; omega), List.drop_of_length_le (by omega)]; rfl
  | n + 1, i, h => by
    have h1 : i < l.length := by omega
    rw [moietyref05_has_l1, if_pos (by simp; omega), idx_lt h1, List.drop_eq_getElem_cons h1, List.any_cons]
    simp only [Option.bind_some]
    by_cases hq : sEq l[i].Name s = true
    · rw [if_pos hq, hq]; rfl
    · have hq' : sEq l[i].Name s = false := by simpa using hq
      rw [if_neg hq, wr1 (by omega), has_loop hl n (i + 1) (by omega), hq', Bool.false_or]
theorem has_eq {l : Items} {s : ByteArray} (hl : l.length < 1000000) : moietyref05_has l s = some (l.any (fun e => sEq e.Name s)) := by
  unfold moietyref05_has
  have := has_loop (s := s) hl l.length 0 (by omega)
  rw [show ((0 : Nat) : Int) = 0 from rfl] at this
  rw [show (Int.toNat ((l.length : Int) - (0 : Int)) + 1) = l.length + 1 by omega, this]
  simp only [List.drop_zero]
  cases h : l.any (fun e => sEq e.Name s) <;> rfl
theorem filt_loop {a0 : api_Record} {a : api_Act} (hl : a0.List.length < 1000000) : ∀ (n i : Nat) (out : Items), i + n = a0.List.length → out.length ≤ i → moietyref05_do_l1 a0 a (n + 1) out (i : Int) = some (out ++ (a0.List.drop i).filter (fun e => !sEq e.Name a.S))
  | 0, i, out, h, _ => by
    rw [moietyref05_do_l1, if_neg (by simp; omega), List.drop_of_length_le (by omega)]; simp
  | n + 1, i, out, h, ho => by
    have h1 : i < a0.List.length := by omega
    rw [moietyref05_do_l1, if_pos (by simp; omega), idx_lt h1, List.drop_eq_getElem_cons h1]
    simp only [Option.bind_some, moietyref05_do_j3, wr1 (show i < 9223372036854775807 by omega)]
    rw [List.filter_cons]
    by_cases hq : (!sEq a0.List[i].Name a.S) = true
    · rw [if_pos hq, if_pos hq, if_pos (by simp; omega), filt_loop hl n (i + 1) _ (by omega) (by simp; omega), List.append_assoc]; rfl
    · rw [if_neg hq, if_neg hq, filt_loop hl n (i + 1) _ (by omega) (by omega)]
/-! ### both -/
/-- Names in order: which stand ahead, at, and behind. -/
theorem names_split {l : Items} {s : ByteArray} (hs : NS l) : (∀ e ∈ l.take (pre (fun e => sLt e.Name s) l), sEq e.Name s = false) ∧ (∀ e ∈ l.drop (pre (fun e => sLt e.Name s) l + 1), sEq e.Name s = false) := by
  constructor
  · intro e he
    obtain ⟨k, hk, rfl⟩ := List.getElem_of_mem he
    rw [List.length_take] at hk
    rw [List.getElem_take]
    have := pre_mono (s := s) hs (k := k) (by omega)
    rw [show decide (k < pre (fun e => sLt e.Name s) l) = true by simp; omega] at this
    exact sEq_ne.2 (sLt_ne this)
  · intro e he
    obtain ⟨k, hk, rfl⟩ := List.getElem_of_mem he
    rw [List.length_drop] at hk
    rw [List.getElem_drop]
    refine sEq_ne.2 fun h => ?_
    have hp : pre (fun e => sLt e.Name s) l < l.length := by omega
    have h1 := List.pairwise_iff_getElem.1 hs _ _ hp (show pre (fun e => sLt e.Name s) l + 1 + k < l.length by omega) (by omega)
    rw [h] at h1
    have := pre_at (List.getElem?_eq_getElem hp)
    rw [h1] at this; cases this
theorem split_at (l : Items) (k : Nat) (h : k < l.length) : l = l.take k ++ l[k] :: l.drop (k + 1) := by
  rw [← List.drop_eq_getElem_cons h, List.take_append_drop]
theorem any_isAt {l : Items} {s : ByteArray} (hs : NS l) : l.any (fun e => sEq e.Name s) = isAt s l := by
  obtain ⟨h1, h2⟩ := names_split (s := s) hs
  unfold isAt
  by_cases hp : pre (fun e => sLt e.Name s) l < l.length
  · rw [List.getElem?_eq_getElem hp]
    conv => lhs; rw [split_at l _ hp]
    have a1 : (l.take (pre (fun e => sLt e.Name s) l)).any (fun e => sEq e.Name s) = false := by
      rw [List.any_eq_false]; intro e he; rw [h1 e he]; decide
    have a2 : (l.drop (pre (fun e => sLt e.Name s) l + 1)).any (fun e => sEq e.Name s) = false := by
      rw [List.any_eq_false]; intro e he; rw [h2 e he]; decide
    rw [List.any_append, List.any_cons, a1, a2]; simp
  · rw [List.getElem?_eq_none (by omega)]
    have : l.take (pre (fun e => sLt e.Name s) l) = l := List.take_of_length_le (by omega)
    rw [this] at h1
    rw [List.any_eq_false]; intro e he; rw [h1 e he]; decide
theorem filt_isAt {l : Items} {s : ByteArray} (hs : NS l) : l.filter (fun e => !sEq e.Name s) = if isAt s l = true then l.take (pre (fun e => sLt e.Name s) l) ++ l.drop (pre (fun e => sLt e.Name s) l + 1) else l := by
  obtain ⟨h1, h2⟩ := names_split (s := s) hs
  unfold isAt
  by_cases hp : pre (fun e => sLt e.Name s) l < l.length
  · rw [List.getElem?_eq_getElem hp]
    conv => lhs; rw [split_at l _ hp]
    have a1 : (l.take (pre (fun e => sLt e.Name s) l)).filter (fun e => !sEq e.Name s) = l.take (pre (fun e => sLt e.Name s) l) := List.filter_eq_self.2 fun e he => by rw [h1 e he]; rfl
    have a2 : (l.drop (pre (fun e => sLt e.Name s) l + 1)).filter (fun e => !sEq e.Name s) = l.drop (pre (fun e => sLt e.Name s) l + 1) := List.filter_eq_self.2 fun e he => by rw [h2 e he]; rfl
    rw [List.filter_append, List.filter_cons, a1, a2]
    by_cases hq : sEq (l[pre (fun e => sLt e.Name s) l]).Name s = true
    · rw [if_pos hq, if_neg (by rw [hq]; decide)]
    · rw [if_neg hq, if_pos (by simpa using hq)]
      exact (split_at l _ hp).symm
  · rw [List.getElem?_eq_none (by omega)]
    have : l.take (pre (fun e => sLt e.Name s) l) = l := List.take_of_length_le (by omega)
    rw [this] at h1
    rw [if_neg (by simp)]
    exact List.filter_eq_self.2 fun e he => by rw [h1 e he]; rfl
theorem layL_isAt {l : Items} {s : ByteArray} : layL { Score := 0, Name := s } true l = if isAt s l = true then l else l.take (pre (fun e => sLt e.Name s) l) ++ [{ Score := 0, Name := s }] ++ l.drop (pre (fun e => sLt e.Name s) l) := by
  have hf : aheadF { Score := 0, Name := s } true = fun e => sLt e.Name s := rfl
  unfold layL isAt
  rw [hf]
  cases h : l[pre (fun e => sLt e.Name s) l]? with
  | none =>
    have hp := List.getElem?_eq_none_iff.1 h
    rw [if_neg (by simp), List.take_of_length_le hp, List.drop_of_length_le hp, List.append_nil]
  | some e =>
    simp only [sameF, Bool.true_or, Bool.and_true]
    by_cases hq : sEq e.Name s = true
    · rw [if_pos hq, if_pos hq, List.append_nil, List.take_append_drop]
    · rw [if_neg hq, if_neg hq]
theorem clone_i {l : Items} (h : l.length < 1000000) : slices_Clone_api_Item_api_Item l = some l := by
  unfold slices_Clone_api_Item_api_Item
  rw [if_pos (by omega)]
theorem offer_loop {r : api_Record} {a : api_Act} (ha : a.X < W64) (hsc : ∀ e ∈ r.List, e.Score < W64) (hl : r.List.length < 1000000) : ∀ (n i : Nat), i + n = r.List.length →
    rule_offer_l1 r a (n + 1) (i : Int) = some ((i + pre (aheadF { Score := a.X, Name := a.S } false) (r.List.drop i) : Nat) : Int)
  | 0, i, h => by
    have hd : decide ((i : Int) < (r.List.length : Int)) = false := by simp; omega
    rw [rule_offer_l1, hd, List.drop_of_length_le (by omega)]
    simp [gd, pre]
  | n + 1, i, h => by
    have h1 : i < r.List.length := by omega
    have hd : decide ((i : Int) < (r.List.length : Int)) = true := by simp; omega
    rw [rule_offer_l1, hd, idx_lt h1, List.drop_eq_getElem_cons h1]
    simp only [gd_t, Option.bind_some, Bool.true_and]
    rw [better_eq (hsc _ (List.getElem_mem h1)) ha]
    simp only [Option.bind_some, pre, aheadF, Bool.false_eq_true, if_false, wr1 (show i < 9223372036854775807 by omega)]
    by_cases hb : betterB r.List[i] { Score := a.X, Name := a.S } = true
    · rw [if_pos hb, if_pos hb, offer_loop ha hsc hl n (i + 1) (by omega)]
      congr 2; omega
    · rw [if_neg hb, if_neg hb]; simp
theorem offer_pre {r : api_Record} {a : api_Act} (ha : a.X < W64) (hsc : ∀ e ∈ r.List, e.Score < W64) (hl : r.List.length < 1000000) : rule_offer_l1 r a (Int.toNat ((r.List.length : Int) - (0 : Int)) + 1) (0 : Int) = some ((pre (aheadF { Score := a.X, Name := a.S } false) r.List : Nat) : Int) := by
  have := offer_loop (a := a) ha hsc hl r.List.length 0 (by omega)
  rw [show ((0 : Nat) : Int) = 0 from rfl] at this
  rw [show (Int.toNat ((r.List.length : Int) - (0 : Int)) + 1) = r.List.length + 1 by omega, this]
  simp
/-- Neither stands ahead of the other: they are the same. -/
theorem better_same {e x : api_Item} (h1 : betterB e x = false) : (!betterB x e) = sameF x false e := by
  unfold betterB sameF at *
  by_cases hk : keyf e.Score = keyf x.Score
  · rw [if_pos hk] at h1
    rw [if_pos hk.symm, hk]
    simp only [Bool.false_or, decide_true, Bool.and_true]
    by_cases hn : e.Name = x.Name
    · rw [hn, sLt_irr, sEq_self]; rfl
    · rw [sLt_tri h1 hn, sEq_ne.2 hn]; rfl
  · rw [if_neg hk] at h1
    rw [if_neg (fun h => hk h.symm)]
    have := of_decide_eq_false h1
    have h3 : keyf e.Score < keyf x.Score := by omega
    simp [h3, hk]
end Go.CL

/- Records that may be; sums of floats. -/
set_option linter.unusedVariables false
set_option linter.unusedSimpArgs false
namespace Go.CL
open Go

theorem firstC_zero {k : Int} {l : Items} : ∀ (n i : Nat), firstC k l i n = 0 ↔ ∀ j, i ≤ j → j < i + n → itemC k l j = 0
  | 0, i => ⟨fun _ j h1 h2 => by omega, fun _ => rfl⟩
  | n + 1, i => by
    by_cases h : itemC k l i = 0
    · rw [firstC_z h, firstC_zero n (i + 1)]
      constructor
      · intro hh j h1 h2
        by_cases e : j = i
        · rw [e]; exact h
        · exact hh j (by omega) (by omega)
      · intro hh j h1 h2; exact hh j (by omega) (by omega)
    · rw [firstC_e h]
      exact ⟨fun e => absurd e h, fun hh => absurd (hh i (Nat.le_refl _) (by omega)) h⟩
theorem checkD_zero {t n b r l : Bool} {a : api_Record} : checkD t n b r l a = 0 ↔ onlyB t n b r l a = true ∧ a.Text.size ≤ 64 ∧ (b = true → -2305843009213693952 ≤ a.Low ∧ a.High ≤ 2305843009213693952 ∧ a.Low ≤ a.Num ∧ a.Num ≤ a.High) ∧ a.Real = canon a.Real ∧ (l = true → 1 ≤ a.Cap ∧ a.Cap ≤ 32 ∧ (a.List.length : Int) ≤ a.Cap ∧ ∀ i, i < a.List.length → itemC a.Kind a.List i = 0) := by
  unfold checkD
  by_cases h1 : onlyB t n b r l a = false
  · rw [if_pos h1, h1]; simp
  · have h1' : onlyB t n b r l a = true := by simpa using h1
    rw [if_neg h1, h1']
    by_cases h2 : (64 : Int) < a.Text.size
    · rw [if_pos h2]; exact ⟨fun h => absurd h (by decide), fun h => by omega⟩
    · rw [if_neg h2]
      by_cases h3 : b = true ∧ (a.Low < -2305843009213693952 ∨ 2305843009213693952 < a.High ∨ a.Num < a.Low ∨ a.High < a.Num)
      · rw [if_pos h3]; exact ⟨fun h => absurd h (by decide), fun h => by have := h.2.2.1 h3.1; omega⟩
      · rw [if_neg h3]
        by_cases h4 : a.Real = canon a.Real
        · rw [if_neg (fun h => h h4)]
          cases l
          · rw [if_pos rfl]
            refine ⟨fun _ => ⟨rfl, by omega, fun hb => ?_, h4, fun h => absurd h (by decide)⟩, fun _ => rfl⟩
            have : ¬ (a.Low < -2305843009213693952 ∨ 2305843009213693952 < a.High ∨ a.Num < a.Low ∨ a.High < a.Num) := fun h => h3 ⟨hb, h⟩
            omega
          · rw [if_neg (by decide)]
            by_cases h5 : a.Cap < 1 ∨ 32 < a.Cap
            · rw [if_pos h5]; exact ⟨fun h => absurd h (by decide), fun h => by have := h.2.2.2.2 rfl; omega⟩
            · rw [if_neg h5]
              by_cases h6 : a.Cap < a.List.length
              · rw [if_pos h6]; exact ⟨fun h => absurd h (by decide), fun h => by have := h.2.2.2.2 rfl; omega⟩
              · rw [if_neg h6, firstC_zero]
                constructor
                · intro h
                  refine ⟨rfl, by omega, fun hb => ?_, h4, fun _ => ⟨by omega, by omega, by omega, fun i hi => h i (Nat.zero_le _) (by omega)⟩⟩
                  have : ¬ (a.Low < -2305843009213693952 ∨ 2305843009213693952 < a.High ∨ a.Num < a.Low ∨ a.High < a.Num) := fun h => h3 ⟨hb, h⟩
                  omega
                · intro h j _ hj
                  exact (h.2.2.2.2 rfl).2.2.2 j (by omega)
        · rw [if_pos h4]; exact ⟨fun h => absurd h (by decide), fun h => absurd h.2.2.2.1 h4⟩
def GoodR (a : api_Record) : Prop := 1 ≤ a.Kind ∧ a.Kind ≤ 9 ∧ onlyB (decide (a.Kind = 1)) (decide (2 ≤ a.Kind ∧ a.Kind ≤ 4)) (decide (a.Kind = 4)) (decide (5 ≤ a.Kind ∧ a.Kind ≤ 7)) (decide (8 ≤ a.Kind)) a = true ∧ a.Text.size ≤ 64 ∧ (a.Kind = 4 → -2305843009213693952 ≤ a.Low ∧ a.High ≤ 2305843009213693952 ∧ a.Low ≤ a.Num ∧ a.Num ≤ a.High) ∧ a.Real = canon a.Real ∧
  (8 ≤ a.Kind → 1 ≤ a.Cap ∧ a.Cap ≤ 32 ∧ (a.List.length : Int) ≤ a.Cap ∧ ∀ i, i < a.List.length → itemC a.Kind a.List i = 0)
theorem check_good {a : api_Record} (ha : RecOk a) : rec_Check a = some 0 ↔ GoodR a := by
  by_cases hk : a.Kind ≤ 0 ∨ 10 ≤ a.Kind
  · have : rec_Check a ≠ some 0 := by
      obtain ⟨c, hc, hc2⟩ := check_both ha
      unfold moietyref03_Check at hc2
      rw [if_pos (by simp; omega)] at hc2
      rw [hc, ← hc2]; decide
    exact ⟨fun h => absurd h this, fun h => by obtain ⟨h1, h2, _⟩ := h; omega⟩
  · have fin : ∀ {t n b r l : Bool}, rec_shaped a.Kind = some ⟨t, n, b, r, l⟩ → t = decide (a.Kind = 1) → n = decide (2 ≤ a.Kind ∧ a.Kind ≤ 4) → b = decide (a.Kind = 4) → r = decide (5 ≤ a.Kind ∧ a.Kind ≤ 7) → l = decide (8 ≤ a.Kind) → (rec_Check a = some 0 ↔ GoodR a) := by
      intro t n b r l hs h1 h2 h3 h4 h5
      rw [check_shape ha hk hs]
      constructor
      · intro h
        obtain ⟨g1, g2, g3, g4, g5⟩ := checkD_zero.1 (Option.some.inj h)
        refine ⟨by omega, by omega, by rw [← h1, ← h2, ← h3, ← h4, ← h5]; exact g1, g2, fun hk4 => g3 (by rw [h3]; simpa using hk4), g4, fun hk8 => g5 (by rw [h5]; simpa using hk8)⟩
      · rintro ⟨_, _, g1, g2, g3, g4, g5⟩
        congr 1
        exact checkD_zero.2 ⟨by rw [h1, h2, h3, h4, h5]; exact g1, g2, fun hb => g3 (by rw [h3] at hb; simpa using hb), g4, fun hb => g5 (by rw [h5] at hb; simpa using hb)⟩
    have hk' : a.Kind = 1 ∨ a.Kind = 2 ∨ a.Kind = 3 ∨ a.Kind = 4 ∨ a.Kind = 5 ∨ a.Kind = 6 ∨ a.Kind = 7 ∨ a.Kind = 8 ∨ a.Kind = 9 := by omega
    rcases hk' with h | h | h | h | h | h | h | h | h <;> rw [h] at fin
    · exact fin shape1 rfl rfl rfl rfl rfl
    · exact fin shape2 rfl rfl rfl rfl rfl
    · exact fin shape3 rfl rfl rfl rfl rfl
    · exact fin shape4 rfl rfl rfl rfl rfl
    · exact fin shape5 rfl rfl rfl rfl rfl
    · exact fin shape6 rfl rfl rfl rfl rfl
    · exact fin shape7 rfl rfl rfl rfl rfl
    · exact fin shape8 rfl rfl rfl rfl rfl
    · exact fin shape9 rfl rfl rfl rfl rfl
/-- Names in order of a Set that may be. -/
theorem good_names {a : api_Record} (h : GoodR a) (hk : a.Kind = 8) : NS a.List := by
  obtain ⟨_, _, _, _, _, _, h8⟩ := h
  obtain ⟨_, _, _, hi⟩ := h8 (by omega)
  have step : ∀ i, i + 1 < a.List.length → sLt ((a.List[i]?).getD default).Name ((a.List[i + 1]?).getD default).Name = true := by
    intro i hi1
    have := hi (i + 1) hi1
    unfold itemC at this
    rw [List.getElem?_eq_getElem hi1] at this
    simp only [Nat.add_sub_cancel] at this
    split at this
    · cases this
    · split at this
      · cases this
      · split at this
        · cases this
        · rename_i h3
          rw [List.getElem?_eq_getElem hi1]
          cases hq : sLt ((a.List[i]?).getD default).Name a.List[i + 1].Name
          · exact absurd ⟨by omega, hk, hq⟩ h3
          · exact hq
  have far : ∀ d i, i + d + 1 < a.List.length → sLt ((a.List[i]?).getD default).Name ((a.List[i + d + 1]?).getD default).Name = true := by
    intro d
    induction d with
    | zero => intro i h; exact step i h
    | succ d ih => intro i h; exact sLt_trans (ih i (by omega)) (step (i + d + 1) (by omega))
  refine List.pairwise_iff_getElem.2 fun i j hi hj hij => ?_
  have := far (j - i - 1) i (by omega)
  rw [show i + (j - i - 1) + 1 = j by omega, List.getElem?_eq_getElem hi, List.getElem?_eq_getElem hj] at this
  exact this
/-! ### floats -/
theorem word_lt {neg : Bool} {r : Nat} (h : r ≤ Ieee.double.infRung) : Ieee.double.word neg r < W64 := by
  have h1 : Ieee.double.infRung = 9218868437227405312 := by decide
  have h2 : Ieee.double.signWeight = 9223372036854775808 := by decide
  unfold Ieee.Format.word
  rw [h1] at h
  show _ < 18446744073709551616
  split
  · rw [h2]; omega
  · omega
theorem nearest_lt (neg : Bool) (mag : Nat) (place : Int) : Ieee.double.nearest neg mag place < W64 := by
  unfold Ieee.Format.nearest
  split
  · exact word_lt (Nat.zero_le _)
  · exact word_lt (Nat.min_le_right _ _)
theorem write_lt {d : Ieee.Datum} (h : ∀ n f, d ≠ .nan n f) : Ieee.double.write d < W64 := by
  cases d with
  | number n m p => exact nearest_lt n m p
  | infinity n => exact word_lt (Nat.le_refl _)
  | nan n f => exact absurd rfl (h n f)
theorem sum_nan {x y d : Ieee.Datum} (h : x.sum y = some d) : ∀ n f, d ≠ .nan n f := by
  intro n f e
  subst e
  cases x <;> cases y <;> simp [Ieee.Datum.sum] at h
theorem product_nan {x y d : Ieee.Datum} (h : x.product y = some d) : ∀ n f, d ≠ .nan n f := by
  intro n f e
  subst e
  cases x <;> cases y <;> simp [Ieee.Datum.product] at h
theorem fadd_lt (m n : Nat) : fadd m n < W64 := by
  unfold fadd Ieee.Format.add
  cases h : (Ieee.double.read m).sum (Ieee.double.read n) with
  | none => exact (by decide : 9221120237041090561 < W64)
  | some d => simpa using write_lt (sum_nan h)
theorem fmul_lt (m n : Nat) : fmul m n < W64 := by
  unfold fmul Ieee.Format.mul
  cases h : (Ieee.double.read m).product (Ieee.double.read n) with
  | none => exact (by decide : 9221120237041090561 < W64)
  | some d => simpa using write_lt (product_nan h)
theorem place_number {z : Nat} (hz : z < W64) : ∃ p, moietyref01_Place z = some p ∧ moietyref01_Number p = some (canon z) := by
  have hz' : z < 18446744073709551616 := hz
  unfold moietyref01_Place moietyref01_Number canon NANB
  rw [rnone_eq hz]
  simp only [Option.bind_some]
  by_cases hn : isn z
  · refine ⟨18444492273895866369, by simp [hn]; decide, ?_⟩
    rw [if_pos (by decide), if_pos hn]; decide
  · simp only [hn, decide_false, Bool.false_eq_true, if_false]
    by_cases ht : (9223372036854775808 : Int) ≤ z
    · rw [if_pos (by simpa using ht)]
      refine ⟨_, rfl, ?_⟩
      rw [wru (x := (9223372036854775808 : Int) - 1) (by decide) (by decide), wru (x := (z : Int) - 9223372036854775808) (by omega) (by omega), wru (by omega) (by omega)]
      rw [if_neg (by simp; omega)]
      rw [wru (x := (9223372036854775808 : Int) - 1 - _) (by omega) (by omega), wru (by omega) (by omega)]
      congr 1; omega
    · rw [if_neg (by simpa using ht)]
      refine ⟨_, rfl, ?_⟩
      rw [wru (by omega) (by omega), if_pos (by simp; omega), wru (by omega) (by omega)]
      congr 1; omega
theorem canon_canon {z : Nat} : canon (canon z) = canon z := by
  unfold canon
  by_cases h : isn z
  · rw [if_pos h, if_pos (show isn NANB by unfold isn rg INF NANB TOP; decide)]
  · rw [if_neg h, if_neg h]
theorem max_both {a b : Nat} (ha : a < W64) (hb : b < W64) (ca : a = canon a) (cb : b = canon b) : ∃ m, flo_Max a b = some m ∧ moietyref01_Max a b = some m ∧ (m = a ∨ m = b) := by
  unfold flo_Max moietyref01_Max
  rw [less_eq ha hb, rless_eq ha hb, canon_eq ha, canon_eq hb, ← ca, ← cb]
  by_cases h : keyf a < keyf b
  · exact ⟨b, by simp [h], by simp [h], .inr rfl⟩
  · exact ⟨a, by simp [h], by simp [h], .inl rfl⟩
theorem min_both {a b : Nat} (ha : a < W64) (hb : b < W64) (ca : a = canon a) (cb : b = canon b) : ∃ m, flo_Min a b = some m ∧ moietyref01_Min a b = some m ∧ (m = a ∨ m = b) := by
  unfold flo_Min moietyref01_Min
  rw [less_eq hb ha, rless_eq hb ha, canon_eq ha, canon_eq hb, ← ca, ← cb]
  by_cases h : keyf b < keyf a
  · exact ⟨b, by simp [h], by simp [h], .inr rfl⟩
  · exact ⟨a, by simp [h], by simp [h], .inl rfl⟩
end Go.CL
