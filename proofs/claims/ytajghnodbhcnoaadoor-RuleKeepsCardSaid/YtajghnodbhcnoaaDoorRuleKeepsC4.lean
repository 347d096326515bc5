/- A part of the proof of RuleKeeps. -/
import Derived.Test.YtajghnodbhcnoaaDoorRuleKeepsC3
set_option linter.unusedVariables false
set_option linter.unusedSimpArgs false
set_option maxRecDepth 100000
namespace Go.CL
open Go Go.RowKit Go.Proofs
theorem rule_plus_ok (a0 : api_Record) (a1 : api_Act) (a2 : api_Answer) {r : Int × api_Record × api_Answer} (h : rule_plus a0 a1 a2 = some r) : FnB Tryd.prog 52 [.box k_api_Record a0 r.2.1, .val (k_api_Act.pd a1), .box k_api_Answer a2 r.2.2] (pInt .i64 r.1) := by
  have H0 := h
  unfold rule_plus at H0
  clear h
  refine fnB_ok (N := 44) Tryd.func52 rfl rfl (Nat.le_of_ble_eq_true rfl) rfl rfl (fun a g0 bs hbs hst hb => ?_)
  obtain ⟨b0, b2, rfl⟩ := len_2 hbs
  replace hst : St 44 [(0, (pBoxC (some b0) k_api_Record 0 a0)), (1, (k_api_Act.pd a1)), (2, (pBoxC (some b2) k_api_Answer 2 a2))] _ _ := hst
  refine r_s (L := [(0, _), (1, _), (2, _)]) (T := [⟨[.old 1], _, [], [], [4]⟩, ⟨[], _, [], [], [6]⟩]) (F := [.old 0, .old 2, .op 0 0]) hst hb follows
    (o_p rfl (ob_box1 rfl rfl u_0) <|
     o_p rfl (ob_assign rfl rfl c_i) <|
     o_n) (by kernel_rfl) (fun a g hst hb => ?_)
  refine wp_seq ?_
  refine r_s (L := [(0, _), (2, _), (4, _)]) (T := ⟨[.old 2], _, [], [], [7]⟩ :: ⟨[.op 0 0], _, [], [0], [8]⟩ :: ⟨[.op 1 0], _, [], [0, 1], [9]⟩ :: ⟨[.op 2 0], _, [], [0, 1, 2], [10]⟩ :: ⟨[.op 3 0, .old 0], _, [], List.range 4, [11]⟩ :: ⟨[.op 3 0, .op 4 0], _, [], List.range 5, [12]⟩ :: ⟨[.op 3 0, .op 5 0], _, [], List.range 6, [13]⟩ :: ⟨[.op 3 0, .op 6 0], _, [], List.range 7, [14]⟩ :: ⟨[.op 3 0, .old 2], _, [], List.range 4, [15]⟩ :: ⟨[.op 3 0, .op 8 0], _, [], [0, 1, 2, 3, 8], [16]⟩ :: ⟨[.op 3 0, .op 9 0], _, [], [0, 1, 2, 3, 8, 9], [17]⟩ :: ⟨[.op 3 0, .op 7 0, .op 10 0], _, [], List.range 11, [18]⟩ :: ⟨[.op 3 0, .op 11 0], _, [], List.range 12, [19]⟩ :: ⟨[.op 12 0], _, [], List.range 13, [20]⟩ :: ⟨[.op 13 0, .old 2], _, [], List.range 14, [21]⟩ :: ⟨[.op 13 0, .op 14 0], _, [], List.range 15, [22]⟩ :: ⟨[.op 13 0, .op 15 0], _, [], List.range 16, [23]⟩ :: ⟨[.op 13 0, .op 16 0], _, [], List.range 17, [24]⟩ :: ⟨[.op 17 0, .old 0], _, [], List.range 18, [25]⟩ :: ⟨[.op 17 0, .op 18 0], _, [], List.range 19, [26]⟩ :: ⟨[.op 17 0, .op 19 0], _, [], List.range 20, [27]⟩ :: ⟨[.op 17 0, .op 20 0], _, [], List.range 21, [28]⟩ :: ⟨[.op 17 0, .old 2], _, [], List.range 18, [29]⟩ :: ⟨[.op 17 0, .op 22 0], _, [], 0 :: 1 :: 2 :: 3 :: 4 :: 5 :: 6 :: 7 :: 8 :: 9 :: 10 :: 11 :: 12 :: 13 :: 14 :: 15 :: 16 :: 17 :: 22 :: [], [30]⟩ :: ⟨[.op 17 0, .op 23 0], _, [], 0 :: 1 :: 2 :: 3 :: 4 :: 5 :: 6 :: 7 :: 8 :: 9 :: 10 :: 11 :: 12 :: 13 :: 14 :: 15 :: 16 :: 17 :: 22 :: 23 :: [], [31]⟩ :: ⟨[.op 17 0, .op 21 0, .op 24 0], _, [], List.range 25, [32]⟩ :: ⟨[.op 13 0, .op 17 0, .op 25 0], _, [], List.range 26, [33]⟩ :: ⟨[.op 13 0, .op 26 0], _, [], List.range 27, [34]⟩ :: []) (F := [.old 0, .old 1, .old 2, .op 27 0]) hst hb follows
    (o_p rfl (ob_fieldAddr fl_27_2 rfl rfl u_0) <|
     o_p rfl (ob_load ty_2 rfl rfl u_0) <|
     o_p rfl (ob_gt rfl rfl u_0 c_i) <|
     o_p rfl (ob_move rfl rfl u_0) <|
     o_g (g_t rfl rfl rfl (fun hG => ob_move rfl rfl u_0)) <|
     o_g (g_t rfl rfl rfl (fun hG => ob_nilCheck rfl rfl (Opd.gd hG u_0) (fun _ _ ⟨_, _, _, e, _⟩ => ⟨_, e⟩))) <|
     o_g (g_t rfl rfl rfl (fun hG => ob_fieldAddrM fl_25_1 (off := 1) (by kernel_rfl) rfl rfl (Opd.gd hG u_0))) <|
     o_g (g_t rfl rfl rfl (fun hG => ob_loadP ty_2 rfl rfl (Opd.gd hG u_0))) <|
     o_g (g_t rfl rfl rfl (fun hG => ob_fieldAddr fl_27_2 rfl rfl u_0)) <|
     o_g (g_t rfl rfl rfl (fun hG => ob_load ty_2 rfl rfl (Opd.gd hG u_0))) <|
     o_g (g_t rfl rfl rfl (fun hG => ob_sub rfl rfl c_i (Opd.gd hG u_0) rfl)) <|
     o_g (g_t rfl rfl rfl (fun hG => ob_gt rfl rfl (Opd.gd hG u_0) (Opd.gd hG u_1))) <|
     o_p rfl (ob_pand rfl rfl u_0 (fun hz => (Opd.gd hz u_1))) <|
     o_p rfl (ob_move rfl rfl u_0) <|
     o_g (g_f rfl rfl rfl (fun hG => ob_fieldAddr fl_27_2 rfl rfl u_0)) <|
     o_g (g_f rfl rfl rfl (fun hG => ob_load ty_2 rfl rfl (Opd.gd hG u_0))) <|
     o_g (g_f rfl rfl rfl (fun hG => ob_lt rfl rfl (Opd.gd hG u_0) c_i)) <|
     o_g (g_f rfl rfl rfl (fun hG => ob_move rfl rfl (Opd.gd hG u_0))) <|
     o_g (g_ti rfl rfl rfl (fun hG => ob_move rfl rfl u_0)) <|
     o_g (g_ti rfl rfl rfl (fun hG => ob_nilCheck rfl rfl (Opd.gd hG u_0) (fun _ _ ⟨_, _, _, e, _⟩ => ⟨_, e⟩))) <|
     o_g (g_ti rfl rfl rfl (fun hG => ob_fieldAddrM fl_25_1 (off := 1) (by kernel_rfl) rfl rfl (Opd.gd hG u_0))) <|
     o_g (g_ti rfl rfl rfl (fun hG => ob_loadP ty_2 rfl rfl (Opd.gd hG u_0))) <|
     o_g (g_ti rfl rfl rfl (fun hG => ob_fieldAddr fl_27_2 rfl rfl u_0)) <|
     o_g (g_ti rfl rfl rfl (fun hG => ob_load ty_2 rfl rfl (Opd.gd hG u_0))) <|
     o_g (g_ti rfl rfl rfl (fun hG => ob_sub rfl rfl c_i (Opd.gd hG u_0) rfl)) <|
     o_g (g_ti rfl rfl rfl (fun hG => ob_lt rfl rfl (Opd.gd hG u_0) (Opd.gd hG u_1))) <|
     o_g (g_f rfl rfl rfl (fun hG => ob_pand rfl rfl (Opd.gd hG u_0) (fun hz => (Opd.gd (bA hG hz) u_1)))) <|
     o_p rfl (ob_por rfl rfl u_0 (fun hz => (Opd.gd (bNF hz) u_1))) <|
     o_n) (by kernel_rfl) (fun a g hst hb => ?_)
  refine wp_cond_split (hst.bool 3 rfl) (fun hc1 => ?_) (fun hc1 => ?_)
  · replace H0 := ite_t hc1 H0
    refine r_s (L := [(0, _), (2, _)]) (T := [⟨[], _, [], [], [6]⟩]) (F := [.old 0, .old 1, .op 0 0]) (hst.pick [0, 1] rfl) hb follows
      (o_p rfl (ob_assign rfl rfl c_i) <|
       o_n) (by kernel_rfl) (fun a g hst hb => ?_)
    refine wp_ret ?_
    refine then_r ?_
    obtain rfl := Option.some.inj H0
    exact endB1 rfl hst hb (res_tmp (s := 6)) (hst.at 2 rfl) ⟨box_of (hst.at 0 rfl), box_of (hst.at 1 rfl), trivial⟩
  · replace H0 := ite_f hc1 H0
    refine wp_skip ?_
    refine then_n ?_
    refine r_s (L := [(0, _), (2, _), (4, _)]) (T := [⟨[.old 0], _, [], [], [35]⟩, ⟨[.op 0 0], _, [], [0], [36]⟩, ⟨[.op 1 0], _, [], [0, 1], [37]⟩, ⟨[.op 2 0], _, [], [0, 1, 2], [38]⟩, ⟨[.old 2], _, [], [], [39]⟩, ⟨[.op 4 0], _, [], [4], [40]⟩, ⟨[.op 3 0, .op 5 0], _, [], List.range 6, [41]⟩, ⟨[.op 0 0], _, [], List.range 7, [42]⟩, ⟨[.op 7 0], _, [], List.range 8, [43]⟩, ⟨[.op 6 0, .op 8 0, .old 0], _, [1], List.range 9, [0, 35, 36, 37, 42, 43]⟩]) (F := [.op 9 0, .old 1]) (hst.pick [0, 1, 2] rfl) hb follows
      (o_p rfl (ob_move rfl rfl u_0) <|
       o_p rfl (ob_nilCheck rfl rfl u_0 (fun _ _ ⟨_, _, _, e, _⟩ => ⟨_, e⟩)) <|
       o_p rfl (ob_fieldAddrM fl_25_1 (off := 1) (by kernel_rfl) rfl rfl u_0) <|
       o_p rfl (ob_loadP ty_2 rfl rfl u_0) <|
       o_p rfl (ob_fieldAddr fl_27_2 rfl rfl u_0) <|
       o_p rfl (ob_load ty_2 rfl rfl u_0) <|
       o_p rfl (ob_add rfl rfl u_0 u_1 rfl) <|
       o_p rfl (ob_nilCheck rfl rfl u_0 (fun _ _ ⟨_, _, _, e, _⟩ => ⟨_, e⟩)) <|
       o_p rfl (ob_fieldAddrM fl_25_1 (off := 1) (by kernel_rfl) rfl rfl u_0) <|
       o_p rfl (wi_25_1 ty_2 rfl rfl u_2 u_1 u_0) <|
       o_n) (by kernel_rfl) (fun a g hst hb => ?_)
    refine r_s (L := [(0, _), (2, _)]) (T := [⟨[], _, [], [], [6]⟩]) (F := [.old 0, .old 1, .op 0 0]) hst hb follows
      (o_p rfl (ob_assign rfl rfl c_i) <|
       o_n) (by kernel_rfl) (fun a g hst hb => ?_)
    refine wp_ret ?_
    obtain rfl := Option.some.inj H0
    exact endB1 rfl hst hb (res_tmp (s := 6)) (hst.at 2 rfl) ⟨box_of (hst.at 0 rfl), box_of (hst.at 1 rfl), trivial⟩
end Go.CL

set_option linter.unusedVariables false
set_option linter.unusedSimpArgs false
set_option maxRecDepth 100000
namespace Go.CL
open Go Go.RowKit Go.Proofs
theorem rule_atLeast_ok (a0 : api_Record) (a1 : api_Act) (a2 : api_Answer) {r : Int × api_Record × api_Answer} (h : rule_atLeast a0 a1 a2 = some r) : FnB Tryd.prog 53 [.box k_api_Record a0 r.2.1, .val (k_api_Act.pd a1), .box k_api_Answer a2 r.2.2] (pInt .i64 r.1) := by
  have H0 := h
  unfold rule_atLeast at H0
  clear h
  refine fnB_ok (N := 14) Tryd.func53 rfl rfl (Nat.le_of_ble_eq_true rfl) rfl rfl (fun a g0 bs hbs hst hb => ?_)
  obtain ⟨b0, b2, rfl⟩ := len_2 hbs
  replace hst : St 14 [(0, (pBoxC (some b0) k_api_Record 0 a0)), (1, (k_api_Act.pd a1)), (2, (pBoxC (some b2) k_api_Answer 2 a2))] _ _ := hst
  refine r_s (L := [(0, _), (1, _), (2, _)]) (T := [⟨[.old 1], _, [], [], [4]⟩, ⟨[], _, [], [], [6]⟩]) (F := [.old 0, .old 2, .op 0 0]) hst hb follows
    (o_p rfl (ob_box1 rfl rfl u_0) <|
     o_p rfl (ob_assign rfl rfl c_i) <|
     o_n) (by kernel_rfl) (fun a g hst hb => ?_)
  refine wp_seq ?_
  refine r_s (L := [(0, _), (2, _), (4, _)]) (T := [⟨[.old 0], _, [], [], [7]⟩, ⟨[.op 0 0], _, [], [0], [8]⟩, ⟨[.op 1 0], _, [], [0, 1], [9]⟩, ⟨[.op 2 0], _, [], [0, 1, 2], [10]⟩, ⟨[.old 2], _, [], [], [11]⟩, ⟨[.op 4 0], _, [], [4], [12]⟩, ⟨[.op 3 0, .op 5 0], _, [], List.range 6, [13]⟩]) (F := [.old 0, .old 1, .op 6 0]) hst hb follows
    (o_p rfl (ob_move rfl rfl u_0) <|
     o_p rfl (ob_nilCheck rfl rfl u_0 (fun _ _ ⟨_, _, _, e, _⟩ => ⟨_, e⟩)) <|
     o_p rfl (ob_fieldAddrM fl_25_1 (off := 1) (by kernel_rfl) rfl rfl u_0) <|
     o_p rfl (ob_loadP ty_2 rfl rfl u_0) <|
     o_p rfl (ob_fieldAddr fl_27_2 rfl rfl u_0) <|
     o_p rfl (ob_load ty_2 rfl rfl u_0) <|
     o_p rfl (ob_lt rfl rfl u_0 u_1) <|
     o_n) (by kernel_rfl) (fun a g hst hb => ?_)
  refine wp_cond_split (hst.bool 2 rfl) (fun hc1 => ?_) (fun hc1 => ?_)
  · replace H0 := ite_t hc1 H0
    refine r_s (L := [(0, _), (2, _)]) (T := [⟨[], _, [], [], [6]⟩]) (F := [.old 0, .old 1, .op 0 0]) (hst.pick [0, 1] rfl) hb follows
      (o_p rfl (ob_assign rfl rfl c_i) <|
       o_n) (by kernel_rfl) (fun a g hst hb => ?_)
    refine wp_ret ?_
    refine then_r ?_
    obtain rfl := Option.some.inj H0
    exact endB1 rfl hst hb (res_tmp (s := 6)) (hst.at 2 rfl) ⟨box_of (hst.at 0 rfl), box_of (hst.at 1 rfl), trivial⟩
  · replace H0 := ite_f hc1 H0
    refine wp_skip ?_
    refine then_n ?_
    refine r_s (L := [(0, _), (2, _)]) (T := [⟨[], _, [], [], [6]⟩]) (F := [.old 0, .old 1, .op 0 0]) (hst.pick [0, 1] rfl) hb follows
      (o_p rfl (ob_assign rfl rfl c_i) <|
       o_n) (by kernel_rfl) (fun a g hst hb => ?_)
    refine wp_ret ?_
    obtain rfl := Option.some.inj H0
    exact endB1 rfl hst hb (res_tmp (s := 6)) (hst.at 2 rfl) ⟨box_of (hst.at 0 rfl), box_of (hst.at 1 rfl), trivial⟩
end Go.CL

set_option linter.unusedVariables false
set_option linter.unusedSimpArgs false
set_option maxRecDepth 100000
namespace Go.CL
open Go Go.RowKit Go.Proofs
theorem rule_changes_4_ok (a0 : api_Record) (a1 : api_Act) (a2 : api_Answer) {r : Int × api_Record × api_Answer} (h : rule_changes_4 a0 a1 a2 = some r) : FnB Tryd.prog 54 [.box k_api_Record a0 r.2.1, .val (k_api_Act.pd a1), .box k_api_Answer a2 r.2.2] (pInt .i64 r.1) := by
  have H0 := h
  unfold rule_changes_4 at H0
  clear h
  refine fnB_ok (N := 28) Tryd.func54 rfl rfl (Nat.le_of_ble_eq_true rfl) rfl rfl (fun a g0 bs hbs hst hb => ?_)
  obtain ⟨b0, b2, rfl⟩ := len_2 hbs
  replace hst : St 28 [(0, (pBoxC (some b0) k_api_Record 0 a0)), (1, (k_api_Act.pd a1)), (2, (pBoxC (some b2) k_api_Answer 2 a2))] _ _ := hst
  refine r_s (L := [(0, _), (1, _), (2, _)]) (T := [⟨[.old 1], _, [], [], [4]⟩, ⟨[], _, [], [], [6]⟩]) (F := [.old 0, .old 2, .op 0 0]) hst hb follows
    (o_p rfl (ob_box1 rfl rfl u_0) <|
     o_p rfl (ob_assign rfl rfl c_i) <|
     o_n) (by kernel_rfl) (fun a g hst hb => ?_)
  refine wp_seq ?_
  refine r_s (L := [(0, _), (2, _), (4, _)]) (T := ⟨[.old 2], _, [], [], [7]⟩ :: ⟨[.op 0 0], _, [], [0], [8]⟩ :: ⟨[.old 0], _, [], [], [9]⟩ :: ⟨[.op 2 0], _, [], [2], [10]⟩ :: ⟨[.op 3 0], _, [], [2, 3], [11]⟩ :: ⟨[.op 4 0], _, [], [2, 3, 4], [12]⟩ :: ⟨[.old 0], _, [], [], [13]⟩ :: ⟨[.op 6 0], _, [], [6], [14]⟩ :: ⟨[.op 7 0], _, [], [6, 7], [15]⟩ :: ⟨[.op 8 0], _, [], [6, 7, 8], [16]⟩ :: ⟨[.op 5 0, .op 9 0], _, [], List.range' 2 8, [17]⟩ :: ⟨[.op 1 0, .op 10 0], _, [], List.range 11, [18]⟩ :: []) (F := [.old 0, .old 1, .old 2, .op 11 0]) hst hb follows
    (o_p rfl (ob_fieldAddr fl_27_2 rfl rfl u_0) <|
     o_p rfl (ob_load ty_2 rfl rfl u_0) <|
     o_p rfl (ob_move rfl rfl u_0) <|
     o_p rfl (ob_nilCheck rfl rfl u_0 (fun _ _ ⟨_, _, _, e, _⟩ => ⟨_, e⟩)) <|
     o_p rfl (ob_fieldAddrM fl_25_3 (off := 3) (by kernel_rfl) rfl rfl u_0) <|
     o_p rfl (ob_loadP ty_2 rfl rfl u_0) <|
     o_p rfl (ob_move rfl rfl u_0) <|
     o_p rfl (ob_nilCheck rfl rfl u_0 (fun _ _ ⟨_, _, _, e, _⟩ => ⟨_, e⟩)) <|
     o_p rfl (ob_fieldAddrM fl_25_1 (off := 1) (by kernel_rfl) rfl rfl u_0) <|
     o_p rfl (ob_loadP ty_2 rfl rfl u_0) <|
     o_p rfl (ob_sub rfl rfl u_0 u_1 rfl) <|
     o_p rfl (ob_gt rfl rfl u_0 u_1) <|
     o_n) (by kernel_rfl) (fun a g hst hb => ?_)
  refine wp_cond_split (hst.bool 3 rfl) (fun hc1 => ?_) (fun hc1 => ?_)
  · replace H0 := ite_t hc1 H0
    refine r_s (L := [(0, _), (2, _)]) (T := [⟨[], _, [], [], [6]⟩]) (F := [.old 0, .old 1, .op 0 0]) (hst.pick [0, 1] rfl) hb follows
      (o_p rfl (ob_assign rfl rfl c_i) <|
       o_n) (by kernel_rfl) (fun a g hst hb => ?_)
    refine wp_ret ?_
    refine then_r ?_
    obtain rfl := Option.some.inj H0
    exact endB1 rfl hst hb (res_tmp (s := 6)) (hst.at 2 rfl) ⟨box_of (hst.at 0 rfl), box_of (hst.at 1 rfl), trivial⟩
  · replace H0 := ite_f hc1 H0
    refine wp_skip ?_
    refine then_n ?_
    refine r_s (L := [(0, _), (2, _), (4, _)]) (T := [⟨[.old 0], _, [], [], [19]⟩, ⟨[.op 0 0], _, [], [0], [20]⟩, ⟨[.op 1 0], _, [], [0, 1], [21]⟩, ⟨[.op 2 0], _, [], [0, 1, 2], [22]⟩, ⟨[.old 2], _, [], [], [23]⟩, ⟨[.op 4 0], _, [], [4], [24]⟩, ⟨[.op 3 0, .op 5 0], _, [], List.range 6, [25]⟩, ⟨[.op 0 0], _, [], List.range 7, [26]⟩, ⟨[.op 7 0], _, [], List.range 8, [27]⟩, ⟨[.op 6 0, .op 8 0, .old 0], _, [1], List.range 9, [0, 19, 20, 21, 26, 27]⟩]) (F := [.op 9 0, .old 1]) (hst.pick [0, 1, 2] rfl) hb follows
      (o_p rfl (ob_move rfl rfl u_0) <|
       o_p rfl (ob_nilCheck rfl rfl u_0 (fun _ _ ⟨_, _, _, e, _⟩ => ⟨_, e⟩)) <|
       o_p rfl (ob_fieldAddrM fl_25_1 (off := 1) (by kernel_rfl) rfl rfl u_0) <|
       o_p rfl (ob_loadP ty_2 rfl rfl u_0) <|
       o_p rfl (ob_fieldAddr fl_27_2 rfl rfl u_0) <|
       o_p rfl (ob_load ty_2 rfl rfl u_0) <|
       o_p rfl (ob_add rfl rfl u_0 u_1 rfl) <|
       o_p rfl (ob_nilCheck rfl rfl u_0 (fun _ _ ⟨_, _, _, e, _⟩ => ⟨_, e⟩)) <|
       o_p rfl (ob_fieldAddrM fl_25_1 (off := 1) (by kernel_rfl) rfl rfl u_0) <|
       o_p rfl (wi_25_1 ty_2 rfl rfl u_2 u_1 u_0) <|
       o_n) (by kernel_rfl) (fun a g hst hb => ?_)
    refine r_s (L := [(0, _), (2, _)]) (T := [⟨[], _, [], [], [6]⟩]) (F := [.old 0, .old 1, .op 0 0]) hst hb follows
      (o_p rfl (ob_assign rfl rfl c_i) <|
       o_n) (by kernel_rfl) (fun a g hst hb => ?_)
    refine wp_ret ?_
    obtain rfl := Option.some.inj H0
    exact endB1 rfl hst hb (res_tmp (s := 6)) (hst.at 2 rfl) ⟨box_of (hst.at 0 rfl), box_of (hst.at 1 rfl), trivial⟩
end Go.CL

set_option linter.unusedVariables false
set_option linter.unusedSimpArgs false
set_option maxRecDepth 100000
namespace Go.CL
open Go Go.RowKit Go.Proofs
theorem rule_changes_5_ok (a0 : api_Record) (a1 : api_Act) (a2 : api_Answer) {r : Int × api_Record × api_Answer} (h : rule_changes_5 a0 a1 a2 = some r) : FnB Tryd.prog 55 [.box k_api_Record a0 r.2.1, .val (k_api_Act.pd a1), .box k_api_Answer a2 r.2.2] (pInt .i64 r.1) := by
  have H0 := h
  unfold rule_changes_5 at H0
  clear h
  refine fnB_ok (N := 28) Tryd.func55 rfl rfl (Nat.le_of_ble_eq_true rfl) rfl rfl (fun a g0 bs hbs hst hb => ?_)
  obtain ⟨b0, b2, rfl⟩ := len_2 hbs
  replace hst : St 28 [(0, (pBoxC (some b0) k_api_Record 0 a0)), (1, (k_api_Act.pd a1)), (2, (pBoxC (some b2) k_api_Answer 2 a2))] _ _ := hst
  refine r_s (L := [(0, _), (1, _), (2, _)]) (T := [⟨[.old 1], _, [], [], [4]⟩, ⟨[], _, [], [], [6]⟩]) (F := [.old 0, .old 2, .op 0 0]) hst hb follows
    (o_p rfl (ob_box1 rfl rfl u_0) <|
     o_p rfl (ob_assign rfl rfl c_i) <|
     o_n) (by kernel_rfl) (fun a g hst hb => ?_)
  refine wp_seq ?_
  refine r_s (L := [(0, _), (2, _), (4, _)]) (T := ⟨[.old 2], _, [], [], [7]⟩ :: ⟨[.op 0 0], _, [], [0], [8]⟩ :: ⟨[.old 0], _, [], [], [9]⟩ :: ⟨[.op 2 0], _, [], [2], [10]⟩ :: ⟨[.op 3 0], _, [], [2, 3], [11]⟩ :: ⟨[.op 4 0], _, [], [2, 3, 4], [12]⟩ :: ⟨[.old 0], _, [], [], [13]⟩ :: ⟨[.op 6 0], _, [], [6], [14]⟩ :: ⟨[.op 7 0], _, [], [6, 7], [15]⟩ :: ⟨[.op 8 0], _, [], [6, 7, 8], [16]⟩ :: ⟨[.op 5 0, .op 9 0], _, [], List.range' 2 8, [17]⟩ :: ⟨[.op 1 0, .op 10 0], _, [], List.range 11, [18]⟩ :: []) (F := [.old 0, .old 1, .old 2, .op 11 0]) hst hb follows
    (o_p rfl (ob_fieldAddr fl_27_2 rfl rfl u_0) <|
     o_p rfl (ob_load ty_2 rfl rfl u_0) <|
     o_p rfl (ob_move rfl rfl u_0) <|
     o_p rfl (ob_nilCheck rfl rfl u_0 (fun _ _ ⟨_, _, _, e, _⟩ => ⟨_, e⟩)) <|
     o_p rfl (ob_fieldAddrM fl_25_1 (off := 1) (by kernel_rfl) rfl rfl u_0) <|
     o_p rfl (ob_loadP ty_2 rfl rfl u_0) <|
     o_p rfl (ob_move rfl rfl u_0) <|
     o_p rfl (ob_nilCheck rfl rfl u_0 (fun _ _ ⟨_, _, _, e, _⟩ => ⟨_, e⟩)) <|
     o_p rfl (ob_fieldAddrM fl_25_2 (off := 2) (by kernel_rfl) rfl rfl u_0) <|
     o_p rfl (ob_loadP ty_2 rfl rfl u_0) <|
     o_p rfl (ob_sub rfl rfl u_0 u_1 rfl) <|
     o_p rfl (ob_gt rfl rfl u_0 u_1) <|
     o_n) (by kernel_rfl) (fun a g hst hb => ?_)
  refine wp_cond_split (hst.bool 3 rfl) (fun hc1 => ?_) (fun hc1 => ?_)
  · replace H0 := ite_t hc1 H0
    refine r_s (L := [(0, _), (2, _)]) (T := [⟨[], _, [], [], [6]⟩]) (F := [.old 0, .old 1, .op 0 0]) (hst.pick [0, 1] rfl) hb follows
      (o_p rfl (ob_assign rfl rfl c_i) <|
       o_n) (by kernel_rfl) (fun a g hst hb => ?_)
    refine wp_ret ?_
    refine then_r ?_
    obtain rfl := Option.some.inj H0
    exact endB1 rfl hst hb (res_tmp (s := 6)) (hst.at 2 rfl) ⟨box_of (hst.at 0 rfl), box_of (hst.at 1 rfl), trivial⟩
  · replace H0 := ite_f hc1 H0
    refine wp_skip ?_
    refine then_n ?_
    refine r_s (L := [(0, _), (2, _), (4, _)]) (T := [⟨[.old 0], _, [], [], [19]⟩, ⟨[.op 0 0], _, [], [0], [20]⟩, ⟨[.op 1 0], _, [], [0, 1], [21]⟩, ⟨[.op 2 0], _, [], [0, 1, 2], [22]⟩, ⟨[.old 2], _, [], [], [23]⟩, ⟨[.op 4 0], _, [], [4], [24]⟩, ⟨[.op 3 0, .op 5 0], _, [], List.range 6, [25]⟩, ⟨[.op 0 0], _, [], List.range 7, [26]⟩, ⟨[.op 7 0], _, [], List.range 8, [27]⟩, ⟨[.op 6 0, .op 8 0, .old 0], _, [1], List.range 9, [0, 19, 20, 21, 26, 27]⟩]) (F := [.op 9 0, .old 1]) (hst.pick [0, 1, 2] rfl) hb follows
      (o_p rfl (ob_move rfl rfl u_0) <|
       o_p rfl (ob_nilCheck rfl rfl u_0 (fun _ _ ⟨_, _, _, e, _⟩ => ⟨_, e⟩)) <|
       o_p rfl (ob_fieldAddrM fl_25_1 (off := 1) (by kernel_rfl) rfl rfl u_0) <|
       o_p rfl (ob_loadP ty_2 rfl rfl u_0) <|
       o_p rfl (ob_fieldAddr fl_27_2 rfl rfl u_0) <|
       o_p rfl (ob_load ty_2 rfl rfl u_0) <|
       o_p rfl (ob_sub rfl rfl u_0 u_1 rfl) <|
       o_p rfl (ob_nilCheck rfl rfl u_0 (fun _ _ ⟨_, _, _, e, _⟩ => ⟨_, e⟩)) <|
       o_p rfl (ob_fieldAddrM fl_25_1 (off := 1) (by kernel_rfl) rfl rfl u_0) <|
       o_p rfl (wi_25_1 ty_2 rfl rfl u_2 u_1 u_0) <|
       o_n) (by kernel_rfl) (fun a g hst hb => ?_)
    refine r_s (L := [(0, _), (2, _)]) (T := [⟨[], _, [], [], [6]⟩]) (F := [.old 0, .old 1, .op 0 0]) hst hb follows
      (o_p rfl (ob_assign rfl rfl c_i) <|
       o_n) (by kernel_rfl) (fun a g hst hb => ?_)
    refine wp_ret ?_
    obtain rfl := Option.some.inj H0
    exact endB1 rfl hst hb (res_tmp (s := 6)) (hst.at 2 rfl) ⟨box_of (hst.at 0 rfl), box_of (hst.at 1 rfl), trivial⟩
end Go.CL

set_option linter.unusedVariables false
set_option linter.unusedSimpArgs false
set_option maxRecDepth 100000
namespace Go.CL
open Go Go.RowKit Go.Proofs
theorem rule_real_1_ok (h : Nat) (he : Enters Tryd.prog h) (ψ : Nat → Nat → Option Nat) (hψ : ∀ x y z, ψ x y = some z → FnOk Tryd.prog h [pFlt x, pFlt y] (pFlt z)) (a0 : api_Record) (a1 : api_Act) (a2 : api_Answer) {z : Nat} (hz : ψ a0.Real a1.X = some z) : FnB Tryd.prog 85 [.box k_api_Record a0 { a0 with Real := z }, .val (k_api_Act.pd a1), .box k_api_Answer a2 a2, .val (Kd.fnc.ptr h)] (pInt .i64 0) := by
  refine fnB_ok (N := 19) Tryd.func85 rfl rfl (Nat.le_of_ble_eq_true rfl) rfl rfl (fun a g0 bs hbs hst hb => ?_)
  obtain ⟨b0, b2, rfl⟩ := len_2 hbs
  replace hst : St 19 [(0, (pBoxC (some b0) k_api_Record 0 a0)), (1, (k_api_Act.pd a1)), (2, (pBoxC (some b2) k_api_Answer 2 a2)), (3, (Kd.fnc.ptr h))] _ _ := hst
  refine r_s (L := [(0, _), (1, _), (2, _), (3, _)]) (T := [⟨[.old 1], _, [], [], [5]⟩, ⟨[], _, [], [], [7]⟩]) (F := [.old 0, .old 2, .old 3, .op 0 0]) hst hb follows
    (o_p rfl (ob_box1 rfl rfl u_0) <|
     o_p rfl (ob_assign rfl rfl c_i) <|
     o_n) (by kernel_rfl) (fun a g hst hb => ?_)
  refine r_s (L := [(0, _), (2, _), (3, _), (5, _)]) (T := [⟨[.old 0], _, [], [], [8]⟩, ⟨[.old 2], _, [], [], [9]⟩, ⟨[.old 0], _, [], [], [10]⟩, ⟨[.op 2 0], _, [], [2], [11]⟩, ⟨[.op 3 0], _, [], [2, 3], [12]⟩, ⟨[.op 4 0], _, [], [2, 3, 4], [13]⟩, ⟨[.old 3], _, [], [], [14]⟩, ⟨[.op 6 0], _, [], [6], [15]⟩, ⟨[.op 1 0, .op 5 0, .op 7 0], [(16, (pFlt z))], [], [1, 2, 3, 4, 5, 6, 7], [16]⟩, ⟨[.op 0 0], _, [], [0, 1, 2, 3, 4, 5, 6, 7, 8], [17]⟩, ⟨[.op 9 0], _, [], [0, 1, 2, 3, 4, 5, 6, 7, 8, 9], [18]⟩, ⟨[.op 8 0, .op 10 0, .old 0], _, [1], [0, 1, 2, 3, 4, 5, 6, 7, 8, 9, 10], [0, 8, 10, 11, 12, 17, 18]⟩]) (F := [.op 11 0, .old 1]) hst hb follows
    (o_p rfl (ob_move rfl rfl u_0) <|
     o_p rfl (ob_load ty_f82 rfl rfl u_0) <|
     o_p rfl (ob_move rfl rfl u_0) <|
     o_p rfl (ob_nilCheck rfl rfl u_0 (fun _ _ ⟨_, _, _, e, _⟩ => ⟨_, e⟩)) <|
     o_p rfl (ob_fieldAddrM fl_25_4 (off := 4) (by kernel_rfl) rfl rfl u_0) <|
     o_p rfl (ob_loadP ty_22 rfl rfl u_0) <|
     o_p rfl (ob_fieldAddr fl_27_3 rfl rfl u_0) <|
     o_p rfl (ob_load ty_22 rfl rfl u_0) <|
     o_p rfl (ob_callV (C := []) (hC := rfl) he (hψ _ _ _ hz) rfl rfl (Opd.imp u_0 (fun _ _ h => fnc_clo h)) (.cons u_1 (.cons u_2 .nil))) <|
     o_p rfl (ob_nilCheck rfl rfl u_0 (fun _ _ ⟨_, _, _, e, _⟩ => ⟨_, e⟩)) <|
     o_p rfl (ob_fieldAddrM fl_25_4 (off := 4) (by kernel_rfl) rfl rfl u_0) <|
     o_p rfl (wi_25_4 ty_22 rfl rfl u_2 u_1 u_0) <|
     o_n) (by kernel_rfl) (fun a g hst hb => ?_)
  refine r_s (L := [(0, _), (2, _)]) (T := [⟨[], _, [], [], [7]⟩]) (F := [.old 0, .old 1, .op 0 0]) hst hb follows
    (o_p rfl (ob_assign rfl rfl c_i) <|
     o_n) (by kernel_rfl) (fun a g hst hb => ?_)
  refine wp_ret ?_
  exact endB1 rfl hst hb (res_tmp (s := 7)) (hst.at 2 rfl) ⟨box_of (hst.at 0 rfl), box_of (hst.at 1 rfl), trivial⟩
theorem rule_real_ok (h : Nat) : FnOk Tryd.prog 56 [(Kd.fnc.pd h)] (pClo 85 [(Kd.fnc.ptr h)] rfl) := by
  refine fn_ok (N := 4) Tryd.func56 rfl rfl (Nat.le_of_ble_eq_true rfl) rfl rfl (fun a g0 hst hb => ?_)
  refine r_s (L := [(0, _)]) (T := [⟨[.old 0], _, [], [], [1]⟩, ⟨[], [], [], [], [2]⟩]) (F := [.op 0 0]) hst hb follows
    (o_p rfl (ob_box1 rfl rfl u_0) <|
     o_p rfl (ob_move0 (.inr rfl)) <|
     o_n) (by kernel_rfl) (fun a g hst hb => ?_)
  refine r_s (L := [(1, _)]) (T := [⟨[.old 0], [(3, (pClo 85 [(Kd.fnc.ptr h)] rfl))], [], [], [3]⟩, ⟨[.op 0 0], _, [], [0], [2]⟩]) (F := [.op 1 0]) hst hb follows
    (o_p rfl (ob_makeFunc rfl rfl (.cons u_0 .nil)) <|
     o_p rfl (ob_assign rfl rfl u_0) <|
     o_n) (by kernel_rfl) (fun a g hst hb => ?_)
  refine wp_ret ?_
  exact endR1 rfl hst hb (res_tmp (s := 2)) (hst.at 0 rfl)
end Go.CL

set_option linter.unusedVariables false
set_option linter.unusedSimpArgs false
set_option maxRecDepth 100000
namespace Go.CL
open Go Go.RowKit Go.Proofs
theorem flo_Max_ok (a0 : Nat) (a1 : Nat) {r : Nat} (h : flo_Max a0 a1 = some r) : FnOk Tryd.prog 57 [(pFlt a0), (pFlt a1)] (pFlt r) := by
  have H0 := h
  unfold flo_Max at H0
  clear h
  refine fn_ok (N := 12) Tryd.func57 rfl rfl (Nat.le_of_ble_eq_true rfl) rfl rfl (fun a g0 hst hb => ?_)
  refine r_s (L := [(0, _), (1, _)]) (T := [⟨[], _, [], [], [4]⟩]) (F := [.old 0, .old 1]) hst hb follows
    (o_p rfl (ob_assign rfl rfl c_f) <|
     o_n) (by kernel_rfl) (fun a g hst hb => ?_)
  refine wp_seq ?_
  obtain ⟨r1, h2, H0⟩ := of_bind H0
  refine r_s (L := [(0, _), (1, _)]) (T := [⟨[.old 0], _, [], [], [5]⟩, ⟨[.old 1], _, [], [], [6]⟩, ⟨[.op 0 0, .op 1 0], _, [], [0, 1], [7]⟩]) (F := [.old 0, .old 1, .op 2 0]) hst hb follows
    (o_p rfl (ob_move rfl rfl u_0) <|
     o_p rfl (ob_move rfl rfl u_0) <|
     o_p rfl (ob_call en_86 (flo_Less_ok _ _ h2) rfl rfl (.cons u_0 (.cons u_1 .nil))) <|
     o_n) (by kernel_rfl) (fun a g hst hb => ?_)
  refine wp_cond_split (hst.bool 2 rfl) (fun hc3 => ?_) (fun hc3 => ?_)
  · replace H0 := ite_t hc3 H0
    obtain ⟨r4, h5, H0⟩ := of_bind H0
    refine r_s (L := [(1, _)]) (T := [⟨[.old 0], _, [], [], [8]⟩, ⟨[.op 0 0], _, [], [0], [9]⟩, ⟨[.op 1 0], _, [], [0, 1], [4]⟩]) (F := [.op 2 0]) (hst.pick [1] rfl) hb follows
      (o_p rfl (ob_move rfl rfl u_0) <|
       o_p rfl (ob_call en_82 (flo_Canon_ok _ h5) rfl rfl (.cons u_0 .nil)) <|
       o_p rfl (ob_assign rfl rfl u_0) <|
       o_n) (by kernel_rfl) (fun a g hst hb => ?_)
    refine wp_ret ?_
    refine then_r ?_
    obtain rfl := Option.some.inj H0
    exact endR1 rfl hst hb (res_tmp (s := 4)) (hst.at 0 rfl)
  · replace H0 := ite_f hc3 H0
    refine wp_skip ?_
    refine then_n ?_
    obtain ⟨r6, h7, H0⟩ := of_bind H0
    refine r_s (L := [(0, _)]) (T := [⟨[.old 0], _, [], [], [10]⟩, ⟨[.op 0 0], _, [], [0], [11]⟩, ⟨[.op 1 0], _, [], [0, 1], [4]⟩]) (F := [.op 2 0]) (hst.pick [0] rfl) hb follows
      (o_p rfl (ob_move rfl rfl u_0) <|
       o_p rfl (ob_call en_82 (flo_Canon_ok _ h7) rfl rfl (.cons u_0 .nil)) <|
       o_p rfl (ob_assign rfl rfl u_0) <|
       o_n) (by kernel_rfl) (fun a g hst hb => ?_)
    refine wp_ret ?_
    obtain rfl := Option.some.inj H0
    exact endR1 rfl hst hb (res_tmp (s := 4)) (hst.at 0 rfl)
end Go.CL

set_option linter.unusedVariables false
set_option linter.unusedSimpArgs false
set_option maxRecDepth 100000
namespace Go.CL
open Go Go.RowKit Go.Proofs
theorem flo_Min_ok (a0 : Nat) (a1 : Nat) {r : Nat} (h : flo_Min a0 a1 = some r) : FnOk Tryd.prog 58 [(pFlt a0), (pFlt a1)] (pFlt r) := by
  have H0 := h
  unfold flo_Min at H0
  clear h
  refine fn_ok (N := 12) Tryd.func58 rfl rfl (Nat.le_of_ble_eq_true rfl) rfl rfl (fun a g0 hst hb => ?_)
  refine r_s (L := [(0, _), (1, _)]) (T := [⟨[], _, [], [], [4]⟩]) (F := [.old 0, .old 1]) hst hb follows
    (o_p rfl (ob_assign rfl rfl c_f) <|
     o_n) (by kernel_rfl) (fun a g hst hb => ?_)
  refine wp_seq ?_
  obtain ⟨r1, h2, H0⟩ := of_bind H0
  refine r_s (L := [(0, _), (1, _)]) (T := [⟨[.old 1], _, [], [], [5]⟩, ⟨[.old 0], _, [], [], [6]⟩, ⟨[.op 0 0, .op 1 0], _, [], [0, 1], [7]⟩]) (F := [.old 0, .old 1, .op 2 0]) hst hb follows
    (o_p rfl (ob_move rfl rfl u_0) <|
     o_p rfl (ob_move rfl rfl u_0) <|
     o_p rfl (ob_call en_86 (flo_Less_ok _ _ h2) rfl rfl (.cons u_0 (.cons u_1 .nil))) <|
     o_n) (by kernel_rfl) (fun a g hst hb => ?_)
  refine wp_cond_split (hst.bool 2 rfl) (fun hc3 => ?_) (fun hc3 => ?_)
  · replace H0 := ite_t hc3 H0
    obtain ⟨r4, h5, H0⟩ := of_bind H0
    refine r_s (L := [(1, _)]) (T := [⟨[.old 0], _, [], [], [8]⟩, ⟨[.op 0 0], _, [], [0], [9]⟩, ⟨[.op 1 0], _, [], [0, 1], [4]⟩]) (F := [.op 2 0]) (hst.pick [1] rfl) hb follows
      (o_p rfl (ob_move rfl rfl u_0) <|
       o_p rfl (ob_call en_82 (flo_Canon_ok _ h5) rfl rfl (.cons u_0 .nil)) <|
       o_p rfl (ob_assign rfl rfl u_0) <|
       o_n) (by kernel_rfl) (fun a g hst hb => ?_)
    refine wp_ret ?_
    refine then_r ?_
    obtain rfl := Option.some.inj H0
    exact endR1 rfl hst hb (res_tmp (s := 4)) (hst.at 0 rfl)
  · replace H0 := ite_f hc3 H0
    refine wp_skip ?_
    refine then_n ?_
    obtain ⟨r6, h7, H0⟩ := of_bind H0
    refine r_s (L := [(0, _)]) (T := [⟨[.old 0], _, [], [], [10]⟩, ⟨[.op 0 0], _, [], [0], [11]⟩, ⟨[.op 1 0], _, [], [0, 1], [4]⟩]) (F := [.op 2 0]) (hst.pick [0] rfl) hb follows
      (o_p rfl (ob_move rfl rfl u_0) <|
       o_p rfl (ob_call en_82 (flo_Canon_ok _ h7) rfl rfl (.cons u_0 .nil)) <|
       o_p rfl (ob_assign rfl rfl u_0) <|
       o_n) (by kernel_rfl) (fun a g hst hb => ?_)
    refine wp_ret ?_
    obtain rfl := Option.some.inj H0
    exact endR1 rfl hst hb (res_tmp (s := 4)) (hst.at 0 rfl)
end Go.CL

set_option linter.unusedVariables false
set_option linter.unusedSimpArgs false
set_option maxRecDepth 100000
namespace Go.CL
open Go Go.RowKit Go.Proofs
theorem flo_Plus_ok (a0 : Nat) (a1 : Nat) {r : Nat} (h : flo_Plus a0 a1 = some r) : FnOk Tryd.prog 59 [(pFlt a0), (pFlt a1)] (pFlt r) := by
  have H0 := h
  unfold flo_Plus at H0
  clear h
  refine fn_ok (N := 9) Tryd.func59 rfl rfl (Nat.le_of_ble_eq_true rfl) rfl rfl (fun a g0 hst hb => ?_)
  refine r_s (L := [(0, _), (1, _)]) (T := [⟨[], _, [], [], [4]⟩]) (F := [.old 0, .old 1]) hst hb follows
    (o_p rfl (ob_assign rfl rfl c_f) <|
     o_n) (by kernel_rfl) (fun a g hst hb => ?_)
  obtain ⟨r1, h2, H0⟩ := of_bind H0
  refine r_s (L := [(0, _), (1, _)]) (T := [⟨[.old 0], _, [], [], [5]⟩, ⟨[.old 1], _, [], [], [6]⟩, ⟨[.op 0 0, .op 1 0], _, [], [0, 1], [7]⟩, ⟨[.op 2 0], _, [], [0, 1, 2], [8]⟩, ⟨[.op 3 0], _, [], List.range 4, [4]⟩]) (F := [.op 4 0]) hst hb follows
    (o_p rfl (ob_move rfl rfl u_0) <|
     o_p rfl (ob_move rfl rfl u_0) <|
     o_p rfl (ob_faddA rfl rfl u_0 u_1) <|
     o_p rfl (ob_call en_82 (fnOk_nan (fun r z hr hz => by simp only [flo_Canon, hr, hz, Option.bind_some, if_true]) (fun z r h => flo_Canon_ok z h) h2) rfl rfl (.cons u_0 .nil)) <|
     o_p rfl (ob_assign rfl rfl u_0) <|
     o_n) (by kernel_rfl) (fun a g hst hb => ?_)
  refine wp_ret ?_
  obtain rfl := Option.some.inj H0
  exact endR1 rfl hst hb (res_tmp (s := 4)) (hst.at 0 rfl)
end Go.CL

set_option linter.unusedVariables false
set_option linter.unusedSimpArgs false
set_option maxRecDepth 100000
namespace Go.CL
open Go Go.RowKit Go.Proofs
theorem flo_Times_ok (a0 : Nat) (a1 : Nat) {r : Nat} (h : flo_Times a0 a1 = some r) : FnOk Tryd.prog 60 [(pFlt a0), (pFlt a1)] (pFlt r) := by
  have H0 := h
  unfold flo_Times at H0
  clear h
  refine fn_ok (N := 9) Tryd.func60 rfl rfl (Nat.le_of_ble_eq_true rfl) rfl rfl (fun a g0 hst hb => ?_)
  refine r_s (L := [(0, _), (1, _)]) (T := [⟨[], _, [], [], [4]⟩]) (F := [.old 0, .old 1]) hst hb follows
    (o_p rfl (ob_assign rfl rfl c_f) <|
     o_n) (by kernel_rfl) (fun a g hst hb => ?_)
  obtain ⟨r1, h2, H0⟩ := of_bind H0
  refine r_s (L := [(0, _), (1, _)]) (T := [⟨[.old 0], _, [], [], [5]⟩, ⟨[.old 1], _, [], [], [6]⟩, ⟨[.op 0 0, .op 1 0], _, [], [0, 1], [7]⟩, ⟨[.op 2 0], _, [], [0, 1, 2], [8]⟩, ⟨[.op 3 0], _, [], List.range 4, [4]⟩]) (F := [.op 4 0]) hst hb follows
    (o_p rfl (ob_move rfl rfl u_0) <|
     o_p rfl (ob_move rfl rfl u_0) <|
     o_p rfl (ob_fmulA rfl rfl u_0 u_1) <|
     o_p rfl (ob_call en_82 (fnOk_nan (fun r z hr hz => by simp only [flo_Canon, hr, hz, Option.bind_some, if_true]) (fun z r h => flo_Canon_ok z h) h2) rfl rfl (.cons u_0 .nil)) <|
     o_p rfl (ob_assign rfl rfl u_0) <|
     o_n) (by kernel_rfl) (fun a g hst hb => ?_)
  refine wp_ret ?_
  obtain rfl := Option.some.inj H0
  exact endR1 rfl hst hb (res_tmp (s := 4)) (hst.at 0 rfl)
end Go.CL

set_option linter.unusedVariables false
set_option linter.unusedSimpArgs false
set_option maxRecDepth 100000
namespace Go.CL
open Go Go.RowKit Go.Proofs
theorem rule_changes_6_ok (a0 : Nat) (a1 : Nat) {r : Nat} (h : rule_changes_6 a0 a1 = some r) : FnOk Tryd.prog 61 [(pFlt a0), (pFlt a1)] (pFlt r) := by
  have H0 := h
  unfold rule_changes_6 at H0
  clear h
  refine fn_ok (N := 6) Tryd.func61 rfl rfl (Nat.le_of_ble_eq_true rfl) rfl rfl (fun a g0 hst hb => ?_)
  refine r_s (L := [(1, _)]) (T := [⟨[], _, [], [], [4]⟩]) (F := [.old 0]) (hst.pick [1] rfl) hb follows
    (o_p rfl (ob_assign rfl rfl c_f) <|
     o_n) (by kernel_rfl) (fun a g hst hb => ?_)
  refine r_s (L := [(1, _)]) (T := [⟨[.old 0], _, [], [], [5]⟩, ⟨[.op 0 0], _, [], [0], [4]⟩]) (F := [.op 1 0]) hst hb follows
    (o_p rfl (ob_move rfl rfl u_0) <|
     o_p rfl (ob_assign rfl rfl u_0) <|
     o_n) (by kernel_rfl) (fun a g hst hb => ?_)
  refine wp_ret ?_
  obtain rfl := Option.some.inj H0
  exact endR1 rfl hst hb (res_tmp (s := 4)) (hst.at 0 rfl)
end Go.CL

set_option linter.unusedVariables false
set_option linter.unusedSimpArgs false
set_option maxRecDepth 100000
namespace Go.CL
open Go Go.RowKit Go.Proofs
theorem slices_BinarySearchFunc_api_Item_api_Item_string_ok (f2 : Nat) (C2 : List Pd) (hC2 : Free C2) (e2_ : Enters Tryd.prog f2) (φ2 : api_Item → ByteArray → Option Int) (hφ2 : ∀ (y0 : api_Item) (y1 : ByteArray) (r : Int), φ2 y0 y1 = some r → FnOk Tryd.prog f2 ([(k_api_Item.pd y0), (pStr y1)] ++ C2) (pInt .i64 r)) (a0 : List api_Item) (a1 : ByteArray) {r : Int × Bool} (h : slices_BinarySearchFunc_api_Item_api_Item_string a0 a1 φ2 = some r) : FnOk Tryd.prog 88 [(k_api_Item.sl.pd a0), (pStr a1), (pClo f2 C2 hC2)] (pTup [(pInt .i64 r.1), (pBool r.2)]) := by
  have H0 := h
  unfold slices_BinarySearchFunc_api_Item_api_Item_string at H0
  clear h
  refine fn_ok (N := 49) Tryd.func88 rfl rfl (Nat.le_of_ble_eq_true rfl) rfl rfl (fun a g0 hst hb => ?_)
  refine r_s (L := [(0, _), (1, _), (2, _)]) (T := [⟨[], _, [], [], [6]⟩, ⟨[], _, [], [0], [7]⟩]) (F := [.old 0, .old 1, .old 2]) hst hb follows
    (o_p rfl (ob_assign rfl rfl c_i) <|
     o_p rfl (ob_assign rfl rfl c_b) <|
     o_n) (by kernel_rfl) (fun a g hst hb => ?_)
  refine r_s (L := [(0, _), (1, _), (2, _)]) (T := [⟨[.old 0], _, [], [], [12]⟩, ⟨[.op 0 0], _, [], [0], [13]⟩, ⟨[.op 1 0], _, [], [0, 1], [8]⟩]) (F := [.old 0, .old 1, .old 2, .op 2 0, .op 0 0]) hst hb follows
    (o_p rfl (ob_move rfl rfl u_0) <|
     o_p rfl (ob_lenL Tryd.underlying23 rfl rfl u_0) <|
     o_p rfl (ob_assign rfl rfl u_0) <|
     o_n) (by kernel_rfl) (fun a g hst hb => ?_)
  refine r_s (L := [(0, _), (1, _), (2, _), (8, _), (12, _)]) (T := [⟨[.old 3], _, [], [], [14]⟩, ⟨[], _, [], [], [9]⟩, ⟨[.op 0 0], _, [], [0, 1], [10]⟩]) (F := [.old 0, .old 1, .old 2, .old 3, .op 1 0, .op 2 0, .old 4]) hst hb follows
    (o_p rfl (ob_move rfl rfl u_0) <|
     o_p rfl (ob_assign rfl rfl c_i) <|
     o_p rfl (ob_assign rfl rfl u_0) <|
     o_n) (by kernel_rfl) (fun a g hst hb => ?_)
  obtain ⟨z12, hz1, H0⟩ := of_bind H0
  refine wp_seq ?_
  refine wp_cut (fun a w => ∃ (y11 : Int) (g : G), w = g.w ∧ St 49 [(0, (k_api_Item.sl.pd a0)), (1, (pStr a1)), (2, (pClo f2 C2 hC2)), (8, (pInt .i64 (a0.length : Int))), (9, (pInt .i64 y11))] a g ∧ Base g0 g ∧ y11 = z12) ?_ ?_
  · rintro a w ⟨y11, g, rfl, hst, hb, rfl⟩
    refine then_n ?_
    obtain ⟨e13, h14, H0⟩ := of_bind H0; obtain ⟨r15, h16, H0⟩ := of_bind H0
    refine r_s (L := [(0, _), (1, _), (2, _), (8, _), (9, _)]) (T := ⟨[.old 4], _, [], [], [35]⟩ :: ⟨[.old 4], _, [], [], [36]⟩ :: ⟨[.old 3], _, [], [], [37]⟩ :: ⟨[.op 1 0, .op 2 0], _, [], [1, 2], [38]⟩ :: ⟨[.op 3 0], _, [], [1, 2, 3], [39]⟩ :: ⟨[.op 4 0, .old 2], _, [], List.range' 1 4, [40]⟩ :: ⟨[.op 4 0, .old 0], _, [], List.range' 1 4, [41]⟩ :: ⟨[.op 4 0, .old 4], _, [], List.range' 1 4, [42]⟩ :: ⟨[.op 4 0, .op 6 0, .op 7 0], _, [], [1, 2, 3, 4, 6, 7], [43]⟩ :: ⟨[.op 4 0, .op 8 0], _, [], [1, 2, 3, 4, 6, 7, 8], [44]⟩ :: ⟨[.op 4 0, .old 1], _, [], List.range' 1 4, [45]⟩ :: ⟨[.op 4 0, .op 5 0, .op 9 0, .op 10 0], _, [], List.range' 1 10, [46]⟩ :: ⟨[.op 4 0, .op 11 0], _, [], List.range' 1 11, [47]⟩ :: ⟨[.op 4 0, .op 12 0], _, [], List.range' 1 12, [48]⟩ :: ⟨[.op 0 0], _, [], List.range 12, [6]⟩ :: ⟨[.op 13 0], _, [], List.range 15, [7]⟩ :: []) (F := [.op 14 0, .op 15 0]) hst hb follows
      (o_p rfl (ob_move rfl rfl u_0) <|
       o_p rfl (ob_move rfl rfl u_0) <|
       o_p rfl (ob_move rfl rfl u_0) <|
       o_p rfl (ob_lt rfl rfl u_0 u_1) <|
       o_p rfl (ob_move rfl rfl u_0) <|
       o_g (g_t rfl rfl rfl (fun hG => ob_move rfl rfl u_0)) <|
       o_g (g_t rfl rfl rfl (fun hG => ob_move rfl rfl u_0)) <|
       o_g (g_t rfl rfl rfl (fun hG => ob_move rfl rfl u_0)) <|
       o_g (g_t rfl rfl rfl (fun hG => ob_indexAddr Tryd.underlying23 sz_48 rfl rfl (Opd.gd hG u_0) (Opd.gd hG u_1) (gd_true h14 hG))) <|
       o_g (g_t rfl rfl rfl (fun hG => ob_load ty_48 rfl rfl (Opd.gd hG u_0))) <|
       o_g (g_t rfl rfl rfl (fun hG => ob_move rfl rfl u_0)) <|
       o_g (g_t rfl rfl rfl (fun hG => ob_callV e2_ (hφ2 _ _ _ (gd_true h16 hG)) rfl rfl (Opd.gd hG u_0) (.cons (Opd.gd hG u_1) (.cons (Opd.gd hG u_2) .nil)))) <|
       o_g (g_t rfl rfl rfl (fun hG => ob_eq rfl rfl (Opd.gd hG u_0) c_i)) <|
       o_p rfl (ob_pand rfl rfl u_0 (fun hz => (Opd.gd hz u_1))) <|
       o_p rfl (ob_assign rfl rfl u_0) <|
       o_p rfl (ob_assign rfl rfl u_0) <|
       o_n) (by kernel_rfl) (fun a g hst hb => ?_)
    refine wp_ret ?_
    obtain rfl := Option.some.inj H0
    exact endR2 rfl hst hb (res_tmp (s := 6)) (res_tmp (s := 7)) (pTup_2 (hst.at 0 rfl) (hst.at 1 rfl))
  · refine wp_block ?_
    refine wp_loop_ghost (fun n a w => ∃ (x1 : Int) (x2 : Int) (g : G), w = g.w ∧ St 49 [(0, (k_api_Item.sl.pd a0)), (1, (pStr a1)), (2, (pClo f2 C2 hC2)), (8, (pInt .i64 (a0.length : Int))), (9, (pInt .i64 x1)), (10, (pInt .i64 x2)), (12, (k_api_Item.sl.pd a0))] a g ∧ Base g0 g ∧ slices_BinarySearchFunc_api_Item_api_Item_string_l1 a0 a1 φ2 n x1 x2 = some z12) (Int.toNat ((a0.length : Int) - (0 : Int)) + 1) ⟨(0 : Int), (a0.length : Int), g, rfl, (hst.pick [0, 1, 2, 3, 4, 5, 6] rfl), hb, hz1⟩ (fun n a w hI => ?_)
    obtain ⟨x1, x2, g, rfl, hst, hb, H1⟩ := hI
    cases n with
    | zero => exact absurd H1 (by simp [slices_BinarySearchFunc_api_Item_api_Item_string_l1])
    | succ n =>
      rw [slices_BinarySearchFunc_api_Item_api_Item_string_l1] at H1
      refine wp_seq ?_
      refine r_s (L := [(0, _), (1, _), (2, _), (8, _), (9, _), (10, _), (12, _)]) (T := [⟨[.old 4], _, [], [], [15]⟩, ⟨[.old 5], _, [], [], [16]⟩, ⟨[.op 0 0, .op 1 0], _, [], [0, 1], [17]⟩]) (F := [.old 0, .old 1, .old 2, .old 3, .old 4, .old 5, .old 6, .op 2 0]) hst hb follows
        (o_p rfl (ob_move rfl rfl u_0) <|
         o_p rfl (ob_move rfl rfl u_0) <|
         o_p rfl (ob_lt rfl rfl u_0 u_1) <|
         o_n) (by kernel_rfl) (fun a g hst hb => ?_)
      refine wp_cond_split (hst.bool 7 rfl) (fun hc3 => ?_) (fun hc3 => ?_)
      · replace H1 := ite_t hc3 H1
        refine wp_skip ?_
        refine then_n ?_
        refine wp_cut (fun a w => ∃ (j9 : Int) (j10 : Int) (g : G), w = g.w ∧ St 49 [(0, (k_api_Item.sl.pd a0)), (1, (pStr a1)), (2, (pClo f2 C2 hC2)), (8, (pInt .i64 (a0.length : Int))), (9, (pInt .i64 j9)), (10, (pInt .i64 j10)), (12, (k_api_Item.sl.pd a0))] a g ∧ Base g0 g ∧ slices_BinarySearchFunc_api_Item_api_Item_string_j1 (slices_BinarySearchFunc_api_Item_api_Item_string_l1 a0 a1 φ2 n) j9 j10 = some z12) ?_ ?_
        · rintro a w ⟨j9, j10, g, rfl, hst, hb, H1⟩
          unfold slices_BinarySearchFunc_api_Item_api_Item_string_j1 at H1
          exact ⟨n, Nat.lt_succ_self _, j9, j10, g, rfl, (hst.pick [0, 1, 2, 3, 4, 5, 6] rfl), hb, H1⟩
        · refine wp_block ?_
          refine r_s (L := [(0, _), (1, _), (2, _), (8, _), (9, _), (10, _), (12, _)]) (T := [⟨[.old 4], _, [], [], [18]⟩, ⟨[.old 5], _, [], [], [19]⟩, ⟨[.op 0 0, .op 1 0], _, [], [0, 1], [20]⟩, ⟨[.op 2 0], _, [], [0, 1, 2], [21]⟩, ⟨[.op 3 0], _, [], List.range 4, [22]⟩, ⟨[.op 4 0], _, [], List.range 5, [23]⟩, ⟨[.op 5 0], _, [], List.range 6, [11]⟩]) (F := [.old 0, .old 1, .old 2, .old 3, .old 4, .old 5, .op 6 0, .old 6]) (hst.pick [0, 1, 2, 3, 4, 5, 6] rfl) hb follows
            (o_p rfl (ob_move rfl rfl u_0) <|
             o_p rfl (ob_move rfl rfl u_0) <|
             o_p rfl (ob_add rfl rfl u_0 u_1 rfl) <|
             o_p rfl (ob_conv Tryd.underlying3 Tryd.underlying103 rfl rfl u_0 rfl) <|
             o_p rfl (ob_shr rfl rfl u_0 c_i (by decide) rfl) <|
             o_p rfl (ob_conv Tryd.underlying103 Tryd.underlying3 rfl rfl u_0 rfl) <|
             o_p rfl (ob_assign rfl rfl u_0) <|
             o_n) (by kernel_rfl) (fun a g hst hb => ?_)
          obtain ⟨e4, h5, H1⟩ := of_bind H1; obtain ⟨r6, h7, H1⟩ := of_bind H1
          refine r_s (L := [(0, _), (1, _), (2, _), (8, _), (9, _), (10, _), (11, _), (12, _)]) (T := [⟨[.old 2], _, [], [], [24]⟩, ⟨[.old 0], _, [], [], [25]⟩, ⟨[.old 6], _, [], [], [26]⟩, ⟨[.op 1 0, .op 2 0], _, [], [1, 2], [27]⟩, ⟨[.op 3 0], _, [], [1, 2, 3], [28]⟩, ⟨[.old 1], _, [], [], [29]⟩, ⟨[.op 0 0, .op 4 0, .op 5 0], _, [], List.range 6, [30]⟩, ⟨[.op 6 0], _, [], List.range 7, [31]⟩]) (F := [.old 0, .old 1, .old 2, .old 3, .old 4, .old 5, .old 6, .old 7, .op 7 0]) hst hb follows
            (o_p rfl (ob_move rfl rfl u_0) <|
             o_p rfl (ob_move rfl rfl u_0) <|
             o_p rfl (ob_move rfl rfl u_0) <|
             o_p rfl (ob_indexAddr Tryd.underlying23 sz_48 rfl rfl u_0 u_1 h5) <|
             o_p rfl (ob_load ty_48 rfl rfl u_0) <|
             o_p rfl (ob_move rfl rfl u_0) <|
             o_p rfl (ob_callV e2_ (hφ2 _ _ _ h7) rfl rfl u_0 (.cons u_1 (.cons u_2 .nil))) <|
             o_p rfl (ob_lt rfl rfl u_0 c_i) <|
             o_n) (by kernel_rfl) (fun a g hst hb => ?_)
          refine wp_cond_split (hst.bool 8 rfl) (fun hc8 => ?_) (fun hc8 => ?_)
          · replace H1 := ite_t hc8 H1
            refine r_g (L := [(0, _), (1, _), (2, _), (8, _), (10, _), (11, _), (12, _)]) (T := [⟨[.old 5], _, [], [], [32]⟩, ⟨[.op 0 0], _, [], [0], [33]⟩, ⟨[.op 1 0], _, [], [0, 1], [9]⟩]) (F := [.old 0, .old 1, .old 2, .old 3, .op 2 0, .old 4, .old 6]) (hst.pick [0, 1, 2, 3, 5, 6, 7] rfl) hb follows
              (o_p rfl (ob_move rfl rfl u_0) <|
               o_p rfl (ob_add rfl rfl u_0 c_i rfl) <|
               o_p rfl (ob_assign rfl rfl u_0) <|
               o_n) (by kernel_rfl) (fun a g hst hb => ?_)
            refine inBlock_n ?_
            exact ⟨(IntKind.i64.wrap ((IntKind.i64.wrap (Int.fdiv (IntKind.u64.wrap (IntKind.i64.wrap (x1 + x2))) (2 ^ 1))) + (1 : Int))), x2, g, rfl, (hst.pick [0, 1, 2, 3, 4, 5, 6] rfl), hb, H1⟩
          · replace H1 := ite_f hc8 H1
            refine r_g (L := [(0, _), (1, _), (2, _), (8, _), (9, _), (11, _), (12, _)]) (T := [⟨[.old 5], _, [], [], [34]⟩, ⟨[.op 0 0], _, [], [0], [10]⟩]) (F := [.old 0, .old 1, .old 2, .old 3, .old 4, .op 1 0, .old 6]) (hst.pick [0, 1, 2, 3, 4, 6, 7] rfl) hb follows
              (o_p rfl (ob_move rfl rfl u_0) <|
               o_p rfl (ob_assign rfl rfl u_0) <|
               o_n) (by kernel_rfl) (fun a g hst hb => ?_)
            refine inBlock_n ?_
            exact ⟨x1, (IntKind.i64.wrap (Int.fdiv (IntKind.u64.wrap (IntKind.i64.wrap (x1 + x2))) (2 ^ 1))), g, rfl, (hst.pick [0, 1, 2, 3, 4, 5, 6] rfl), hb, H1⟩
      · replace H1 := ite_f hc3 H1
        refine wp_exit ?_
        refine then_e ?_
        refine then_e ?_
        refine inBlock_e ?_
        exact ⟨x1, g, rfl, (hst.pick [0, 1, 2, 3, 4] rfl), hb, Option.some.inj H1⟩
end Go.CL

set_option linter.unusedVariables false
set_option linter.unusedSimpArgs false
set_option maxRecDepth 100000
namespace Go.CL
open Go Go.RowKit Go.Proofs
theorem rule_find_1_ok (a0 : api_Item) (a1 : ByteArray) {r : Int} (h : rule_find_1 a0 a1 = some r) : FnOk Tryd.prog 89 [(k_api_Item.pd a0), (pStr a1)] (pInt .i64 r) := by
  have H0 := h
  unfold rule_find_1 at H0
  clear h
  refine fn_ok (N := 15) Tryd.func89 rfl rfl (Nat.le_of_ble_eq_true rfl) rfl rfl (fun a g0 hst hb => ?_)
  refine r_s (L := [(0, _), (1, _)]) (T := [⟨[.old 0], _, [], [], [2]⟩, ⟨[], _, [], [], [4]⟩]) (F := [.old 1, .op 0 0]) hst hb follows
    (o_p rfl (ob_box1 rfl rfl u_0) <|
     o_p rfl (ob_assign rfl rfl c_i) <|
     o_n) (by kernel_rfl) (fun a g hst hb => ?_)
  refine wp_seq ?_
  refine wp_block ?_
  refine r_s (L := [(1, _), (2, _)]) (T := [⟨[.old 1], _, [], [], [6]⟩, ⟨[.op 0 0], _, [], [0], [7]⟩, ⟨[.old 0], _, [], [], [8]⟩, ⟨[.op 1 0, .op 2 0], _, [], [0, 1, 2], [9]⟩, ⟨[.op 3 0], _, [], List.range 4, [5]⟩]) (F := [.old 0, .old 1, .op 4 0]) hst hb follows
    (o_p rfl (ob_fieldAddr fl_48_1 rfl rfl u_0) <|
     o_p rfl (ob_load ty_9 rfl rfl u_0) <|
     o_p rfl (ob_move rfl rfl u_0) <|
     o_p rfl (ob_slt rfl rfl u_0 u_1) <|
     o_p rfl (ob_assign rfl rfl u_0) <|
     o_n) (by kernel_rfl) (fun a g hst hb => ?_)
  refine wp_cond_split (hst.bool 2 rfl) (fun hc1 => ?_) (fun hc1 => ?_)
  · replace H0 := ite_t hc1 H0
    refine r_s (L := []) (T := [⟨[], _, [], [], [4]⟩]) (F := [.op 0 0]) (hst.pick [] rfl) hb follows
      (o_p rfl (ob_assign rfl rfl c_i) <|
       o_n) (by kernel_rfl) (fun a g hst hb => ?_)
    refine wp_ret ?_
    refine inBlock_r ?_
    refine then_r ?_
    obtain rfl := Option.some.inj H0
    exact endR1 rfl hst hb (res_tmp (s := 4)) (hst.at 0 rfl)
  · replace H0 := ite_f hc1 H0
    refine r_s (L := [(1, _), (2, _)]) (T := [⟨[.old 1], _, [], [], [11]⟩, ⟨[.op 0 0], _, [], [0], [12]⟩, ⟨[.old 0], _, [], [], [13]⟩, ⟨[.op 1 0, .op 2 0], _, [], [0, 1, 2], [14]⟩, ⟨[.op 3 0], _, [], List.range 4, [10]⟩]) (F := [.op 4 0]) (hst.pick [0, 1] rfl) hb follows
      (o_p rfl (ob_fieldAddr fl_48_1 rfl rfl u_0) <|
       o_p rfl (ob_load ty_9 rfl rfl u_0) <|
       o_p rfl (ob_move rfl rfl u_0) <|
       o_p rfl (ob_sgt rfl rfl u_0 u_1) <|
       o_p rfl (ob_assign rfl rfl u_0) <|
       o_n) (by kernel_rfl) (fun a g hst hb => ?_)
    refine wp_cond_split (hst.bool 0 rfl) (fun hc2 => ?_) (fun hc2 => ?_)
    · replace H0 := ite_t hc2 H0
      refine r_s (L := []) (T := [⟨[], _, [], [], [4]⟩]) (F := [.op 0 0]) (hst.pick [] rfl) hb follows
        (o_p rfl (ob_assign rfl rfl c_i) <|
         o_n) (by kernel_rfl) (fun a g hst hb => ?_)
      refine wp_ret ?_
      refine inBlock_r ?_
      refine then_r ?_
      obtain rfl := Option.some.inj H0
      exact endR1 rfl hst hb (res_tmp (s := 4)) (hst.at 0 rfl)
    · replace H0 := ite_f hc2 H0
      refine wp_skip ?_
      refine inBlock_n ?_
      refine then_n ?_
      refine r_s (L := []) (T := [⟨[], _, [], [], [4]⟩]) (F := [.op 0 0]) (hst.pick [] rfl) hb follows
        (o_p rfl (ob_assign rfl rfl c_i) <|
         o_n) (by kernel_rfl) (fun a g hst hb => ?_)
      refine wp_ret ?_
      obtain rfl := Option.some.inj H0
      exact endR1 rfl hst hb (res_tmp (s := 4)) (hst.at 0 rfl)
end Go.CL

set_option linter.unusedVariables false
set_option linter.unusedSimpArgs false
set_option maxRecDepth 100000
namespace Go.CL
open Go Go.RowKit Go.Proofs
theorem rule_find_ok (a0 : List api_Item) (a1 : ByteArray) {r : Int × Bool} (h : rule_find a0 a1 = some r) : FnOk Tryd.prog 64 [(k_api_Item.sl.pd a0), (pStr a1)] (pTup [(pInt .i64 r.1), (pBool r.2)]) := by
  have H0 := h
  unfold rule_find at H0
  clear h
  refine fn_ok (N := 11) Tryd.func64 rfl rfl (Nat.le_of_ble_eq_true rfl) rfl rfl (fun a g0 hst hb => ?_)
  refine r_s (L := [(0, _), (1, _)]) (T := [⟨[], _, [], [], [4]⟩, ⟨[], _, [], [0], [5]⟩]) (F := [.old 0, .old 1]) hst hb follows
    (o_p rfl (ob_assign rfl rfl c_i) <|
     o_p rfl (ob_assign rfl rfl c_b) <|
     o_n) (by kernel_rfl) (fun a g hst hb => ?_)
  obtain ⟨r1, h2, H0⟩ := of_bind H0
  refine r_s (L := [(0, _), (1, _)]) (T := [⟨[.old 0], _, [], [], [6]⟩, ⟨[.old 1], _, [], [], [7]⟩, ⟨[.op 0 0, .op 1 0], _, [], [0, 1], [8]⟩, ⟨[.op 2 0], _, [], [0, 1, 2], [9]⟩, ⟨[.op 2 0], _, [], [0, 1, 2], [10]⟩, ⟨[.op 3 0], _, [], List.range 5, [4]⟩, ⟨[.op 4 0], _, [], List.range 6, [5]⟩]) (F := [.op 5 0, .op 6 0]) hst hb follows
    (o_p rfl (ob_move rfl rfl u_0) <|
     o_p rfl (ob_move rfl rfl u_0) <|
     o_p rfl (ob_call en_88 (slices_BinarySearchFunc_api_Item_api_Item_string_ok 89 [] rfl en_89 (fun y0 y1 => rule_find_1 y0 y1) (fun y0 y1 r h => rule_find_1_ok y0 y1 h) _ _ h2) rfl rfl (.cons u_0 (.cons u_1 (.cons Opd.fnc .nil)))) <|
     o_p rfl (ob_extract rfl rfl u_0 rfl) <|
     o_p rfl (ob_extract rfl rfl u_0 rfl) <|
     o_p rfl (ob_assign rfl rfl u_0) <|
     o_p rfl (ob_assign rfl rfl u_0) <|
     o_n) (by kernel_rfl) (fun a g hst hb => ?_)
  refine wp_ret ?_
  obtain rfl := Option.some.inj H0
  exact endR2 rfl hst hb (res_tmp (s := 4)) (res_tmp (s := 5)) (pTup_2 (hst.at 0 rfl) (hst.at 1 rfl))
end Go.CL

set_option linter.unusedVariables false
set_option linter.unusedSimpArgs false
set_option maxRecDepth 100000
namespace Go.CL
open Go Go.RowKit Go.Proofs
theorem slices_Insert_api_Item_api_Item_ok (a0 : List api_Item) (a1 : Int) (a2 : List api_Item) {r : List api_Item} (h : slices_Insert_api_Item_api_Item a0 a1 a2 = some r) : FnEat Tryd.prog 87 k_api_Item 48 a0 [(pInt .i64 a1), (k_api_Item.sl.pd a2)] (k_api_Item.sl.pd r) := by
  unfold slices_Insert_api_Item_api_Item at h
  obtain ⟨⟨hi0, hi1, hm, hsz⟩, H0⟩ := of_ite h
  obtain rfl := Option.some.inj H0
  obtain ⟨k, rfl⟩ := Int.eq_ofNat_of_zero_le hi0
  have hk : k ≤ a0.length := by omega
  have hb0 : (a0.length + a2.length) ≤ 140737488355328 := Nat.le_trans (Nat.le_mul_of_pos_right _ (by decide)) hsz
  simp only [Int.toNat_natCast]
  refine fnEat_ok (N := 95) Tryd.func87 rfl rfl (Nat.le_of_ble_eq_true rfl) rfl (fun hx a g A0 hst hb => ?_) (fun a g cap hcap hmax hst hb => ?_)
  · subst hx
    obtain rfl : k = 0 := by simpa using hk
    refine r_s (L := [(0, _), (1, _), (2, _)]) (T := [⟨[], [(6, (k_api_Item.sl.pd []))], [], [], [6]⟩]) (F := [.old 0, .old 1, .old 2]) hst hb follows
      (o_p rfl (ob_assign rfl rfl (Opd.c (fun g => sl_nil_q g))) <|
       o_n) (by kernel_rfl) (fun a g hst hb => ?_)
    refine r_s (L := [(0, _), (1, _), (2, _)]) (T := [⟨[.old 0], _, [], [], [10]⟩, ⟨[.old 1], _, [], [], [11]⟩, ⟨[.op 0 0, .op 1 0], _, [], [0, 1], [12]⟩]) (F := [.old 0, .old 1, .old 2]) hst hb follows
      (o_p rfl (ob_move rfl rfl u_0) <|
       o_p rfl (ob_move rfl rfl u_0) <|
       o_p rfl (ob_sliceE te_23 rfl u_0 u_1) <|
       o_n) (by kernel_rfl) (fun a g hst hb => ?_)
    refine r_s (L := [(0, _), (1, _), (2, _)]) (T := [⟨[.old 2], _, [], [], [13]⟩, ⟨[.op 0 0], _, [], [0], [14]⟩, ⟨[.op 1 0], _, [], [0, 1], [7]⟩]) (F := [.old 0, .old 1, .old 2, .op 2 0]) hst hb follows
      (o_p rfl (ob_move rfl rfl u_0) <|
       o_p rfl (ob_lenL Tryd.underlying23 rfl rfl u_0) <|
       o_p rfl (ob_assign rfl rfl u_0) <|
       o_n) (by kernel_rfl) (fun a g hst hb => ?_)
    refine wp_seq ?_
    refine r_s (L := [(0, _), (1, _), (2, _), (7, _)]) (T := [⟨[.old 3], _, [], [], [15]⟩, ⟨[.op 0 0], _, [], [0], [16]⟩]) (F := [.old 0, .old 1, .old 2, .old 3, .op 1 0]) hst hb follows
      (o_p rfl (ob_move rfl rfl u_0) <|
       o_p rfl (ob_eq rfl rfl u_0 c_i) <|
       o_n) (by kernel_rfl) (fun a g hst hb => ?_)
    refine wp_cond_split (hst.bool 4 rfl) (fun hc => ?_) (fun hc => ?_)
    · exact absurd (beq_iff_eq.1 hc) (by omega)
    · refine wp_skip ?_
      refine then_n ?_
      refine r_s (L := [(0, _), (1, _), (2, _), (7, _)]) (T := [⟨[.old 0], _, [], [], [18]⟩, ⟨[.op 0 0], _, [], [0], [19]⟩, ⟨[.op 1 0], _, [], [0, 1], [8]⟩]) (F := [.old 0, .old 1, .old 2, .old 3, .op 2 0]) (hst.pick [0, 1, 2, 3] rfl) hb follows
        (o_p rfl (ob_move rfl rfl u_0) <|
         o_p rfl (ob_lenE Tryd.underlying23 rfl rfl u_0) <|
         o_p rfl (ob_assign rfl rfl u_0) <|
         o_n) (by kernel_rfl) (fun a g hst hb => ?_)
      refine wp_seq ?_
      refine r_s (L := [(0, _), (1, _), (2, _), (7, _), (8, _)]) (T := [⟨[.old 1], _, [], [], [20]⟩, ⟨[.old 4], _, [], [], [21]⟩, ⟨[.op 0 0, .op 1 0], _, [], [0, 1], [22]⟩]) (F := [.old 0, .old 1, .old 2, .old 3, .old 4, .op 2 0]) hst hb follows
        (o_p rfl (ob_move rfl rfl u_0) <|
         o_p rfl (ob_move rfl rfl u_0) <|
         o_p rfl (ob_eq rfl rfl u_0 u_1) <|
         o_n) (by kernel_rfl) (fun a g hst hb => ?_)
      refine wp_cond_split (hst.bool 5 rfl) (fun hc => ?_) (fun hc => ?_)
      · refine r_s (L := [(0, _), (2, _)]) (T := [⟨[.old 0], _, [], [], [23]⟩, ⟨[.old 1], _, [], [], [24]⟩, ⟨[.op 0 0, .op 1 0], [(25, (pOwn k_api_Item 48 25 none (a2.map some)))], [26], [0, 1], [25]⟩, ⟨[.op 2 0], _, [], [0, 1, 2], [6]⟩]) (F := [.op 3 0]) (hst.pick [0, 2] rfl) hb follows
          (o_p rfl (ob_move rfl rfl u_0) <|
           o_p rfl (ob_move rfl rfl u_0) <|
           o_p rfl (ob_appendE te_23 rfl rfl u_0 u_1 hm (by simpa using hsz)) <|
           o_p rfl (ob_assign rfl rfl u_0) <|
           o_n) (by kernel_rfl) (fun a g hst hb => ?_)
        refine wp_ret ?_
        refine then_r ?_
        have hq := hst.at 0 rfl
        have he : ([] : List api_Item).take 0 ++ a2 ++ ([] : List api_Item).drop 0 = a2 := by simp
        rw [he]
        exact endEat rfl hst hb (res_tmp (s := 6)) hq
      · exact absurd hc (by simp)
  · refine r_s (L := [(0, _), (1, _), (2, _)]) (T := [⟨[], [(6, (k_api_Item.sl.pd []))], [], [], [6]⟩]) (F := [.old 0, .old 1, .old 2]) hst hb follows
      (o_p rfl (ob_assign rfl rfl (Opd.c (fun g => sl_nil_q g))) <|
       o_n) (by kernel_rfl) (fun a g hst hb => ?_)
    refine r_s (L := [(0, _), (1, _), (2, _)]) (T := [⟨[.old 0], _, [], [], [10]⟩, ⟨[.old 1], _, [], [], [11]⟩, ⟨[.op 0 0, .op 1 0], _, [], [0, 1], [12]⟩]) (F := [.old 0, .old 1, .old 2]) hst hb follows
      (o_p rfl (ob_move rfl rfl u_0) <|
       o_p rfl (ob_move rfl rfl u_0) <|
       o_p rfl (ob_sliceLow te_23 (by simpa using hk) rfl rfl u_0 u_1) <|
       o_n) (by kernel_rfl) (fun a g hst hb => ?_)
    refine r_s (L := [(0, _), (1, _), (2, _)]) (T := [⟨[.old 2], _, [], [], [13]⟩, ⟨[.op 0 0], _, [], [0], [14]⟩, ⟨[.op 1 0], _, [], [0, 1], [7]⟩]) (F := [.old 0, .old 1, .old 2, .op 2 0]) hst hb follows
      (o_p rfl (ob_move rfl rfl u_0) <|
       o_p rfl (ob_lenL Tryd.underlying23 rfl rfl u_0) <|
       o_p rfl (ob_assign rfl rfl u_0) <|
       o_n) (by kernel_rfl) (fun a g hst hb => ?_)
    refine wp_seq ?_
    refine r_s (L := [(0, _), (1, _), (2, _), (7, _)]) (T := [⟨[.old 3], _, [], [], [15]⟩, ⟨[.op 0 0], _, [], [0], [16]⟩]) (F := [.old 0, .old 1, .old 2, .old 3, .op 1 0]) hst hb follows
      (o_p rfl (ob_move rfl rfl u_0) <|
       o_p rfl (ob_eq rfl rfl u_0 c_i) <|
       o_n) (by kernel_rfl) (fun a g hst hb => ?_)
    refine wp_cond_split (hst.bool 4 rfl) (fun hc => ?_) (fun hc => ?_)
    · exact absurd (beq_iff_eq.1 hc) (by omega)
    · refine wp_skip ?_
      refine then_n ?_
      refine r_s (L := [(0, _), (1, _), (2, _), (7, _)]) (T := [⟨[.old 0], _, [], [], [18]⟩, ⟨[.op 0 0], _, [], [0], [19]⟩, ⟨[.op 1 0], _, [], [0, 1], [8]⟩]) (F := [.old 0, .old 1, .old 2, .old 3, .op 2 0]) (hst.pick [0, 1, 2, 3] rfl) hb follows
        (o_p rfl (ob_move rfl rfl u_0) <|
         o_p rfl (ob_lenO Tryd.underlying23 rfl rfl u_0) <|
         o_p rfl (ob_assign rfl rfl u_0) <|
         o_n) (by kernel_rfl) (fun a g hst hb => ?_)
      refine wp_seq ?_
      refine r_s (L := [(0, _), (1, _), (2, _), (7, _), (8, _)]) (T := [⟨[.old 1], _, [], [], [20]⟩, ⟨[.old 4], _, [], [], [21]⟩, ⟨[.op 0 0, .op 1 0], _, [], [0, 1], [22]⟩]) (F := [.old 0, .old 1, .old 2, .old 3, .old 4, .op 2 0]) hst hb follows
        (o_p rfl (ob_move rfl rfl u_0) <|
         o_p rfl (ob_move rfl rfl u_0) <|
         o_p rfl (ob_eq rfl rfl u_0 u_1) <|
         o_n) (by kernel_rfl) (fun a g hst hb => ?_)
      refine wp_cond_split (hst.bool 5 rfl) (fun hc => ?_) (fun hc => ?_)
      · refine r_s (L := [(0, _), (2, _)]) (T := [⟨[.old 0], _, [], [], [23]⟩, ⟨[.old 1], _, [], [], [24]⟩, ⟨[.op 0 0, .op 1 0], _, [1], [0, 1], [25, 0, 23]⟩, ⟨[.op 2 0], _, [], [0, 1, 2], [6]⟩]) (F := [.op 3 0]) (hst.pick [0, 2] rfl) hb follows
          (o_p rfl (ob_move rfl rfl u_0) <|
           o_p rfl (ob_move rfl rfl u_0) <|
           o_p rfl (ob_appendO te_23 rfl rfl u_0 u_1 hsz) <|
           o_p rfl (ob_assign rfl rfl u_0) <|
           o_n) (by kernel_rfl) (fun a g hst hb => ?_)
        refine wp_ret ?_
        refine then_r ?_
        have hq := hst.at 0 rfl
        have hkn := beq_iff_eq.1 hc
        simp only [List.length_map] at hkn
        have hkn : k = a0.length := by omega
        have he : a0.take k ++ a2 ++ a0.drop k = a0 ++ a2 := by simp [hkn]
        rw [he]
        exact endEat rfl hst hb (res_tmp (s := 6)) hq
      · have hkn : k ≠ a0.length := fun h => (beq_eq_false_iff_ne.1 hc) (by simp only [List.length_map]; omega)
        refine wp_skip ?_
        refine then_n ?_
        refine wp_seq ?_
        refine r_s (L := [(0, _), (1, _), (2, _), (7, _), (8, _)]) (T := [⟨[.old 4], _, [], [], [26]⟩, ⟨[.old 3], _, [], [], [27]⟩, ⟨[.op 0 0, .op 1 0], _, [], [0, 1], [28]⟩, ⟨[.old 0], _, [], [], [29]⟩, ⟨[.op 3 0], _, [], [3], [30]⟩, ⟨[.op 2 0, .op 4 0], _, [], [0, 1, 2, 3, 4], [31]⟩]) (F := [.old 0, .old 1, .old 2, .old 3, .old 4, .op 5 0]) (hst.pick [0, 1, 2, 3, 4] rfl) hb follows
          (o_p rfl (ob_move rfl rfl u_0) <|
           o_p rfl (ob_move rfl rfl u_0) <|
           o_p rfl (ob_add rfl rfl u_0 u_1 (wr_nn (by simp only [List.length_map]; omega))) <|
           o_p rfl (ob_move rfl rfl u_0) <|
           o_p rfl (ob_capO Tryd.underlying23 rfl rfl u_0) <|
           o_p rfl (ob_gt rfl rfl u_0 u_1) <|
           o_n) (by kernel_rfl) (fun a g hst hb => ?_)
        refine wp_cond_split (hst.bool 5 rfl) (fun hc2 => ?_) (fun hc2 => ?_)
        · have hgr : cap < k + (a0.length + a2.length - k) := by have := of_decide_eq_true hc2; simp only [List.length_map] at this; omega
          refine r_s (L := [(0, _), (1, _), (2, _), (7, _), (8, _)]) (T := [⟨[.old 0], _, [], [], [32]⟩, ⟨[.old 1], _, [], [], [33]⟩, ⟨[.op 0 0, .op 1 0], _, [], [0, 1], [34]⟩, ⟨[.old 4], _, [], [], [35]⟩, ⟨[.old 3], _, [], [], [36]⟩, ⟨[.op 3 0, .op 4 0], _, [], [3, 4], [37]⟩, ⟨[.old 1], _, [], [], [38]⟩, ⟨[.op 5 0, .op 6 0], _, [], [3, 4, 5, 6], [39]⟩, ⟨[.op 2 0, .op 7 0, .old 0], [(40, (pOwn k_api_Item 48 40 none ((a0.take k).map some ++ List.replicate (a0.length + a2.length - k) none)))], [41], [0, 1, 2, 3, 4, 5, 6, 7], [40]⟩, ⟨[.op 8 0], _, [], [0, 1, 2, 3, 4, 5, 6, 7, 8], [9]⟩]) (F := [.old 0, .old 1, .old 2, .old 3, .op 9 0]) (hst.pick [0, 1, 2, 3, 4] rfl) hb follows
            (o_p rfl (ob_move rfl rfl u_0) <|
             o_p rfl (ob_move rfl rfl u_0) <|
             o_p rfl (ob_sliceHigh te_23 (by simpa using hk) rfl rfl u_0 u_1) <|
             o_p rfl (ob_move rfl rfl u_0) <|
             o_p rfl (ob_move rfl rfl u_0) <|
             o_p rfl (ob_add rfl rfl u_0 u_1 (wr_nn (by simp only [List.length_map]; omega))) <|
             o_p rfl (ob_move rfl rfl u_0) <|
             o_p rfl (ob_sub rfl rfl u_0 u_1 (wr_sub (n := a0.length + a2.length) (by simp only [List.length_map]) (by omega) (by omega))) <|
             o_p rfl (ob_appendZ (s := 0) (d2 := 40) (xs := a0.take k) te_23 Tryd.underlying3 (by simp; omega) (by simp; omega) (by omega) hgr (by rw [show k + (a0.length + a2.length - k) = a0.length + a2.length by omega]; exact hsz) (take_known a0 k) rfl rfl u_0 u_1 u_2) <|
             o_p rfl (ob_assign rfl rfl u_0) <|
             o_n) (by kernel_rfl) (fun a g hst hb => ?_)
          have hl1 : (((a0.take k).map some ++ List.replicate (a0.length + a2.length - k) none) : List (Option api_Item)).length = a0.length + a2.length := by simp; omega
          refine r_s (L := [(0, _), (1, _), (2, _), (7, _), (9, _)]) (T := [⟨[.old 4], _, [], [], [41]⟩, ⟨[.old 1], _, [], [], [42]⟩, ⟨[.op 0 0, .op 1 0], _, [], [0, 1], [43]⟩, ⟨[.old 2], _, [], [], [44]⟩, ⟨[.op 2 0, .op 3 0, .old 4], _, [41], [0, 1, 2, 3], [45, 9, 41, 43]⟩]) (F := [.old 0, .old 1, .old 2, .old 3, .op 4 1]) hst hb follows
            (o_p rfl (ob_move rfl rfl u_0) <|
             o_p rfl (ob_move rfl rfl u_0) <|
             o_p rfl (ob_sliceLow te_23 (by rw [hl1]; omega) rfl rfl u_0 u_1) <|
             o_p rfl (ob_move rfl rfl u_0) <|
             o_p rfl (ob_copyV (s := 9) te_23 (by rw [hl1]; omega) (by rw [hl1]; omega) rfl rfl (by decide) u_0 u_1 u_2) <|
             o_n) (by kernel_rfl) (fun a g hst hb => ?_)
          have hl2 : (over (((a0.take k).map some ++ List.replicate (a0.length + a2.length - k) none) : List (Option api_Item)) k a2).length = a0.length + a2.length := by rw [over_len (by rw [hl1]; omega), hl1]
          refine r_s (L := [(0, _), (1, _), (2, _), (7, _), (9, _)]) (T := [⟨[.old 4], _, [], [], [46]⟩, ⟨[.old 1], _, [], [], [47]⟩, ⟨[.old 3], _, [], [], [48]⟩, ⟨[.op 1 0, .op 2 0], _, [], [1, 2], [49]⟩, ⟨[.op 0 0, .op 3 0], _, [], [0, 1, 2, 3], [50]⟩, ⟨[.old 0], _, [], [], [51]⟩, ⟨[.old 1], _, [], [], [52]⟩, ⟨[.op 5 0, .op 6 0], _, [], [5, 6], [53]⟩, ⟨[.op 4 0, .op 7 0, .old 4, .old 0], _, [41], [0, 1, 2, 3, 4, 5, 6, 7], [54, 9, 46, 50]⟩]) (F := [.op 8 1]) hst hb follows
            (o_p rfl (ob_move rfl rfl u_0) <|
             o_p rfl (ob_move rfl rfl u_0) <|
             o_p rfl (ob_move rfl rfl u_0) <|
             o_p rfl (ob_add rfl rfl u_0 u_1 (wr_nn (by omega))) <|
             o_p rfl (ob_sliceLow te_23 (by rw [hl2]; omega) rfl rfl u_0 u_1) <|
             o_p rfl (ob_move rfl rfl u_0) <|
             o_p rfl (ob_move rfl rfl u_0) <|
             o_p rfl (ob_sliceLow te_23 (by simpa using hk) rfl rfl u_0 u_1) <|
             o_p rfl (ob_copyW (s := 9) (s2 := 0) (ws := a0.drop k) te_23 (by rw [hl2]; omega) (by simp; omega) (by rw [hl2, List.length_map, List.length_drop]; exact (Nat.min_eq_left (by omega)).symm) (fun i x hx => by rw [List.getElem?_drop] at hx; rw [List.getElem?_map, hx]; rfl) rfl rfl (by decide) u_0 u_1 u_2 u_3) <|
             o_n) (by kernel_rfl) (fun a g hst hb => ?_)
          refine r_s (L := [(9, _)]) (T := [⟨[.old 0], _, [], [], [55]⟩, ⟨[.op 0 0], _, [], [0], [6]⟩]) (F := [.op 1 0]) hst hb follows
            (o_p rfl (ob_move rfl rfl u_0) <|
             o_p rfl (ob_assign rfl rfl u_0) <|
             o_n) (by kernel_rfl) (fun a g hst hb => ?_)
          refine wp_ret ?_
          refine then_r ?_
          have hq := hst.at 0 rfl
          rw [ins1 hk] at hq
          exact endEat rfl hst hb (res_tmp (s := 6)) hq
        · have hroom : a0.length + a2.length ≤ cap := by have := of_decide_eq_false hc2; simp only [List.length_map] at this; omega
          refine wp_skip ?_
          refine then_n ?_
          refine r_s (L := [(0, _), (1, _), (2, _), (7, _), (8, _)]) (T := [⟨[.old 0], _, [], [], [56]⟩, ⟨[.old 4], _, [], [], [57]⟩, ⟨[.old 3], _, [], [], [58]⟩, ⟨[.op 1 0, .op 2 0], _, [], [1, 2], [59]⟩, ⟨[.op 0 0, .op 3 0], [(60, (pOwn k_api_Item 48 0 (some cap) (a0.map some ++ List.replicate (a0.length + a2.length - (a0.map some).length) none)))], [], [0, 1, 2, 3], [60]⟩, ⟨[.op 4 0], _, [], [0, 1, 2, 3, 4], [0]⟩]) (F := [.op 5 0, .old 1, .old 2, .old 3]) (hst.pick [0, 1, 2, 3, 4] rfl) hb follows
            (o_p rfl (ob_move rfl rfl u_0) <|
             o_p rfl (ob_move rfl rfl u_0) <|
             o_p rfl (ob_move rfl rfl u_0) <|
             o_p rfl (ob_add rfl rfl u_0 u_1 (wr_nn (by simp only [List.length_map]; omega))) <|
             o_p rfl (ob_sliceExt (h := a0.length + a2.length) te_23 (by simp) hroom rfl rfl u_0 (Opd.to u_1 (by simp))) <|
             o_p rfl (ob_assign rfl rfl u_0) <|
             o_n) (by kernel_rfl) (fun a g hst hb => ?_)
          have hl1 : ((a0.map some ++ List.replicate (a0.length + a2.length - (a0.map some).length) none) : List (Option api_Item)).length = a0.length + a2.length := by simp
          refine wp_seq ?_
          refine r_s (L := [(0, _), (1, _), (2, _), (7, _)]) (T := [⟨[.old 2], _, [], [], [61]⟩, ⟨[.old 0], _, [], [], [62]⟩, ⟨[.old 1], _, [], [], [63]⟩, ⟨[.old 3], _, [], [], [64]⟩, ⟨[.op 2 0, .op 3 0], _, [], [2, 3], [65]⟩, ⟨[.op 1 0, .op 4 0], _, [], [1, 2, 3, 4], [66]⟩, ⟨[.op 0 0, .op 5 0, .old 0], _, [], [0, 1, 2, 3, 4, 5], [67]⟩, ⟨[.op 6 0], _, [], [0, 1, 2, 3, 4, 5, 6], [68]⟩]) (F := [.old 0, .old 1, .old 2, .old 3, .op 7 0]) hst hb follows
            (o_p rfl (ob_move rfl rfl u_0) <|
             o_p rfl (ob_move rfl rfl u_0) <|
             o_p rfl (ob_move rfl rfl u_0) <|
             o_p rfl (ob_move rfl rfl u_0) <|
             o_p rfl (ob_add rfl rfl u_0 u_1 (wr_nn (by omega))) <|
             o_p rfl (ob_sliceLow te_23 (by rw [hl1]; omega) rfl rfl u_0 u_1) <|
             o_p rfl (ob_overlaps (s := 0) te_23 rfl ov_93 (by rw [hl1]; omega) rfl rfl u_0 u_1 u_2) <|
             o_p rfl (ob_not rfl rfl u_0) <|
             o_n) (by kernel_rfl) (fun a g hst hb => ?_)
          refine wp_cond_split (hst.bool 4 rfl) (fun hc3 => ?_) (fun hc3 => absurd hc3 (by simp))
          refine r_s (L := [(0, _), (1, _), (2, _), (7, _)]) (T := [⟨[.old 0], _, [], [], [69]⟩, ⟨[.old 1], _, [], [], [70]⟩, ⟨[.old 3], _, [], [], [71]⟩, ⟨[.op 1 0, .op 2 0], _, [], [1, 2], [72]⟩, ⟨[.op 0 0, .op 3 0], _, [], [0, 1, 2, 3], [73]⟩, ⟨[.old 0], _, [], [], [74]⟩, ⟨[.old 1], _, [], [], [75]⟩, ⟨[.op 5 0, .op 6 0], _, [], [5, 6], [76]⟩, ⟨[.op 4 0, .op 7 0, .old 0, .old 0], _, [1], [0, 1, 2, 3, 4, 5, 6, 7], [77, 0, 69, 73, 74, 76]⟩]) (F := [.op 8 1, .old 1, .old 2, .old 3]) (hst.pick [0, 1, 2, 3] rfl) hb follows
            (o_p rfl (ob_move rfl rfl u_0) <|
             o_p rfl (ob_move rfl rfl u_0) <|
             o_p rfl (ob_move rfl rfl u_0) <|
             o_p rfl (ob_add rfl rfl u_0 u_1 (wr_nn (by omega))) <|
             o_p rfl (ob_sliceLow te_23 (by rw [hl1]; omega) rfl rfl u_0 u_1) <|
             o_p rfl (ob_move rfl rfl u_0) <|
             o_p rfl (ob_move rfl rfl u_0) <|
             o_p rfl (ob_sliceLow te_23 (by rw [hl1]; omega) rfl rfl u_0 u_1) <|
             o_p rfl (ob_copyW (s := 0) (s2 := 0) (ws := a0.drop k) te_23 (by rw [hl1]; omega) (by rw [hl1]; omega) (by rw [hl1, List.length_drop]; have hm1 : Nat.min (a0.length + a2.length - k) (a0.length + a2.length - (k + a2.length)) = a0.length + a2.length - (k + a2.length) := Nat.min_eq_right (by omega); rw [hm1]; omega) (fun i x hx => by have hi := (List.getElem?_eq_some_iff.1 hx).1; rw [List.length_drop] at hi; rw [List.getElem?_drop] at hx; rw [List.getElem?_append_left (by simp; omega), List.getElem?_map, hx]; rfl) rfl rfl (by decide) u_0 u_1 u_2 u_3) <|
             o_n) (by kernel_rfl) (fun a g hst hb => ?_)
          have hl2 : (over ((a0.map some ++ List.replicate (a0.length + a2.length - (a0.map some).length) none) : List (Option api_Item)) (k + a2.length) (a0.drop k)).length = a0.length + a2.length := by rw [over_len (by rw [hl1, List.length_drop]; omega), hl1]
          refine r_s (L := [(0, _), (1, _), (2, _), (7, _)]) (T := [⟨[.old 0], _, [], [], [78]⟩, ⟨[.old 1], _, [], [], [79]⟩, ⟨[.op 0 0, .op 1 0], _, [], [0, 1], [80]⟩, ⟨[.old 2], _, [], [], [81]⟩, ⟨[.op 2 0, .op 3 0, .old 0], _, [1], [0, 1, 2, 3], [82, 0, 78, 80]⟩]) (F := [.op 4 1]) hst hb follows
            (o_p rfl (ob_move rfl rfl u_0) <|
             o_p rfl (ob_move rfl rfl u_0) <|
             o_p rfl (ob_sliceLow te_23 (by rw [hl2]; omega) rfl rfl u_0 u_1) <|
             o_p rfl (ob_move rfl rfl u_0) <|
             o_p rfl (ob_copyV (s := 0) te_23 (by rw [hl2]; omega) (by rw [hl2]; omega) rfl rfl (by decide) u_0 u_1 u_2) <|
             o_n) (by kernel_rfl) (fun a g hst hb => ?_)
          refine r_s (L := [(0, _)]) (T := [⟨[.old 0], _, [], [], [83]⟩, ⟨[.op 0 0], _, [], [0], [6]⟩]) (F := [.op 1 0]) hst hb follows
            (o_p rfl (ob_move rfl rfl u_0) <|
             o_p rfl (ob_assign rfl rfl u_0) <|
             o_n) (by kernel_rfl) (fun a g hst hb => ?_)
          refine wp_ret ?_
          refine then_r ?_
          have hq := hst.at 0 rfl
          rw [ins2 hk] at hq
          exact endEat rfl hst hb (res_tmp (s := 6)) hq
end Go.CL

set_option linter.unusedVariables false
set_option linter.unusedSimpArgs false
set_option maxRecDepth 100000
namespace Go.CL
open Go Go.RowKit Go.Proofs
theorem rule_join_ok (a0 : api_Record) (a1 : api_Act) (a2 : api_Answer) {r : Int × api_Record × api_Answer} (h : rule_join a0 a1 a2 = some r) : FnB Tryd.prog 62 [.box k_api_Record a0 r.2.1, .val (k_api_Act.pd a1), .box k_api_Answer a2 r.2.2] (pInt .i64 r.1) := by
  have H0 := h
  unfold rule_join at H0
  clear h
  refine fnB_ok (N := 46) Tryd.func62 rfl rfl (Nat.le_of_ble_eq_true rfl) rfl rfl (fun a g0 bs hbs hst hb => ?_)
  obtain ⟨b0, b2, rfl⟩ := len_2 hbs
  replace hst : St 46 [(0, (pBoxC (some b0) k_api_Record 0 a0)), (1, (k_api_Act.pd a1)), (2, (pBoxC (some b2) k_api_Answer 2 a2))] _ _ := hst
  refine r_s (L := [(0, _), (1, _), (2, _)]) (T := [⟨[.old 1], _, [], [], [4]⟩, ⟨[], _, [], [], [6]⟩]) (F := [.old 0, .old 2, .op 0 0]) hst hb follows
    (o_p rfl (ob_box1 rfl rfl u_0) <|
     o_p rfl (ob_assign rfl rfl c_i) <|
     o_n) (by kernel_rfl) (fun a g hst hb => ?_)
  obtain ⟨r1, h2, H0⟩ := of_bind H0
  refine r_s (L := [(0, _), (2, _), (4, _)]) (T := ⟨[.old 0], _, [], [], [10]⟩ :: ⟨[.op 0 0], _, [], [0], [11]⟩ :: ⟨[.op 1 0], _, [], [0, 1], [12]⟩ :: ⟨[.op 2 0], _, [], [0, 1, 2], [13]⟩ :: ⟨[.old 2], _, [], [], [14]⟩ :: ⟨[.op 4 0], _, [], [4], [15]⟩ :: ⟨[.op 3 0, .op 5 0], _, [], List.range 6, [16]⟩ :: ⟨[.op 6 0], _, [], List.range 7, [9]⟩ :: ⟨[.op 7 0], _, [], List.range 8, [17]⟩ :: ⟨[.op 7 0], _, [], List.range 8, [18]⟩ :: ⟨[.op 8 0], _, [], List.range 9, [7]⟩ :: ⟨[.op 9 0], _, [], List.range 11, [8]⟩ :: []) (F := [.old 0, .old 1, .old 2, .op 10 0, .op 11 0]) hst hb follows
    (o_p rfl (ob_move rfl rfl u_0) <|
     o_p rfl (ob_nilCheck rfl rfl u_0 (fun _ _ ⟨_, _, _, e, _⟩ => ⟨_, e⟩)) <|
     o_p rfl (ob_fieldAddrM fl_25_7 (off := 7) (by kernel_rfl) rfl rfl u_0) <|
     o_p rfl (ob_loadP ty_23 rfl rfl u_0) <|
     o_p rfl (ob_fieldAddr fl_27_4 rfl rfl u_0) <|
     o_p rfl (ob_load ty_9 rfl rfl u_0) <|
     o_p rfl (ob_call en_64 (rule_find_ok _ _ h2) rfl rfl (.cons u_0 (.cons u_1 .nil))) <|
     o_p rfl (ob_move rfl rfl u_0) <|
     o_p rfl (ob_extract rfl rfl u_0 rfl) <|
     o_p rfl (ob_extract rfl rfl u_0 rfl) <|
     o_p rfl (ob_assign rfl rfl u_0) <|
     o_p rfl (ob_assign rfl rfl u_0) <|
     o_n) (by kernel_rfl) (fun a g hst hb => ?_)
  refine wp_seq ?_
  refine wp_block ?_
  refine r_s (L := [(0, _), (2, _), (4, _), (7, _), (8, _)]) (T := [⟨[.old 4], _, [], [], [20]⟩, ⟨[.op 0 0], _, [], [0], [19]⟩]) (F := [.old 0, .old 1, .old 2, .old 3, .op 1 0]) hst hb follows
    (o_p rfl (ob_move rfl rfl u_0) <|
     o_p rfl (ob_assign rfl rfl u_0) <|
     o_n) (by kernel_rfl) (fun a g hst hb => ?_)
  refine wp_cond_split (hst.bool 4 rfl) (fun hc3 => ?_) (fun hc3 => ?_)
  · replace H0 := ite_t hc3 H0
    refine r_s (L := [(0, _), (2, _)]) (T := [⟨[], _, [], [], [6]⟩]) (F := [.old 0, .old 1, .op 0 0]) (hst.pick [0, 1] rfl) hb follows
      (o_p rfl (ob_assign rfl rfl c_i) <|
       o_n) (by kernel_rfl) (fun a g hst hb => ?_)
    refine wp_ret ?_
    refine inBlock_r ?_
    refine then_r ?_
    obtain rfl := Option.some.inj H0
    exact endB1 rfl hst hb (res_tmp (s := 6)) (hst.at 2 rfl) ⟨box_of (hst.at 0 rfl), box_of (hst.at 1 rfl), trivial⟩
  · replace H0 := ite_f hc3 H0
    refine r_s (L := [(0, _), (2, _), (4, _), (7, _)]) (T := [⟨[.old 0], _, [], [], [22]⟩, ⟨[.op 0 0], _, [], [0], [23]⟩, ⟨[.op 1 0], _, [], [0, 1], [24]⟩, ⟨[.op 2 0], _, [], [0, 1, 2], [25]⟩, ⟨[.op 3 0], _, [], List.range 4, [26]⟩, ⟨[.old 0], _, [], [], [27]⟩, ⟨[.op 5 0], _, [], [5], [28]⟩, ⟨[.op 6 0], _, [], [5, 6], [29]⟩, ⟨[.op 7 0], _, [], [5, 6, 7], [30]⟩, ⟨[.op 4 0, .op 8 0], _, [], List.range 9, [31]⟩, ⟨[.op 9 0], _, [], List.range 10, [21]⟩]) (F := [.old 0, .old 1, .old 2, .old 3, .op 10 0]) (hst.pick [0, 1, 2, 3] rfl) hb follows
      (o_p rfl (ob_move rfl rfl u_0) <|
       o_p rfl (ob_nilCheck rfl rfl u_0 (fun _ _ ⟨_, _, _, e, _⟩ => ⟨_, e⟩)) <|
       o_p rfl (ob_fieldAddrM fl_25_7 (off := 7) (by kernel_rfl) rfl rfl u_0) <|
       o_p rfl (ob_loadP ty_23 rfl rfl u_0) <|
       o_p rfl (ob_lenL Tryd.underlying23 rfl rfl u_0) <|
       o_p rfl (ob_move rfl rfl u_0) <|
       o_p rfl (ob_nilCheck rfl rfl u_0 (fun _ _ ⟨_, _, _, e, _⟩ => ⟨_, e⟩)) <|
       o_p rfl (ob_fieldAddrM fl_25_5 (off := 5) (by kernel_rfl) rfl rfl u_0) <|
       o_p rfl (ob_loadP ty_3 rfl rfl u_0) <|
       o_p rfl (ob_ge rfl rfl u_0 u_1) <|
       o_p rfl (ob_assign rfl rfl u_0) <|
       o_n) (by kernel_rfl) (fun a g hst hb => ?_)
    refine wp_cond_split (hst.bool 4 rfl) (fun hc4 => ?_) (fun hc4 => ?_)
    · replace H0 := ite_t hc4 H0
      refine r_s (L := [(0, _), (2, _)]) (T := [⟨[], _, [], [], [6]⟩]) (F := [.old 0, .old 1, .op 0 0]) (hst.pick [0, 1] rfl) hb follows
        (o_p rfl (ob_assign rfl rfl c_i) <|
         o_n) (by kernel_rfl) (fun a g hst hb => ?_)
      refine wp_ret ?_
      refine inBlock_r ?_
      refine then_r ?_
      obtain rfl := Option.some.inj H0
      exact endB1 rfl hst hb (res_tmp (s := 6)) (hst.at 2 rfl) ⟨box_of (hst.at 0 rfl), box_of (hst.at 1 rfl), trivial⟩
    · replace H0 := ite_f hc4 H0
      refine wp_skip ?_
      refine inBlock_n ?_
      refine then_n ?_
      obtain ⟨r5, h6, H0⟩ := of_bind H0; obtain ⟨r7, h8, H0⟩ := of_bind H0
      refine r_s (L := [(0, _), (2, _), (4, _), (7, _)]) (T := ⟨[.old 0], _, [], [], [32]⟩ :: ⟨[.old 0], _, [], [], [33]⟩ :: ⟨[.op 1 0], _, [], [1], [34]⟩ :: ⟨[.op 2 0], _, [], [1, 2], [35]⟩ :: ⟨[.op 3 0], _, [], [1, 2, 3], [36]⟩ :: ⟨[.op 4 0], _, [38], List.range' 1 4, [37]⟩ :: ⟨[.old 3], _, [], [], [38]⟩ :: ⟨[.old 2], _, [], [], [39]⟩ :: ⟨[.op 7 0], _, [], [7], [40]⟩ :: ⟨[.op 8 0], _, [], [7, 8], [41]⟩ :: ⟨[.op 9 0], _, [], [7, 8, 9], [42]⟩ :: ⟨[.op 5 0, .op 6 0, .op 10 0], _, [38], List.range' 1 10, [37, 43]⟩ :: ⟨[.op 0 0], _, [], List.range 12, [44]⟩ :: ⟨[.op 12 0], _, [], List.range 13, [45]⟩ :: ⟨[.op 11 0, .op 13 0, .old 0], _, [1], List.range 14, [0, 32, 33, 34, 35, 44, 45]⟩ :: []) (F := [.op 14 0, .old 1]) (hst.pick [0, 1, 2, 3] rfl) hb follows
        (o_p rfl (ob_move rfl rfl u_0) <|
         o_p rfl (ob_move rfl rfl u_0) <|
         o_p rfl (ob_nilCheck rfl rfl u_0 (fun _ _ ⟨_, _, _, e, _⟩ => ⟨_, e⟩)) <|
         o_p rfl (ob_fieldAddrM fl_25_7 (off := 7) (by kernel_rfl) rfl rfl u_0) <|
         o_p rfl (ob_loadP ty_23 rfl rfl u_0) <|
         o_p rfl (ob_callFresh (j := 37) en_41 (slices_Clone_api_Item_api_Item_fresh _ h6) rfl rfl (.cons u_0 .nil)) <|
         o_p rfl (ob_move rfl rfl u_0) <|
         o_p rfl (ob_fieldAddr fl_27_4 rfl rfl u_0) <|
         o_p rfl (ob_load ty_9 rfl rfl u_0) <|
         o_p rfl (bd_48_1 rfl rfl u_0) <|
         o_p rfl (ob_lit te_23 (xs := [.tmp 41]) (.cons u_0 .nil) (by decide) rfl rfl) <|
         o_p rfl (ob_callEat en_87 (slices_Insert_api_Item_api_Item_ok _ _ _ h8) rfl rfl rfl u_0 (.cons u_1 (.cons u_2 .nil))) <|
         o_p rfl (ob_nilCheck rfl rfl u_0 (fun _ _ ⟨_, _, _, e, _⟩ => ⟨_, e⟩)) <|
         o_p rfl (ob_fieldAddrM fl_25_7 (off := 7) (by kernel_rfl) rfl rfl u_0) <|
         o_p rfl (wi_25_7 ty_23 rfl rfl u_2 u_1 u_0) <|
         o_n) (by kernel_rfl) (fun a g hst hb => ?_)
      refine r_s (L := [(0, _), (2, _)]) (T := [⟨[], _, [], [], [6]⟩]) (F := [.old 0, .old 1, .op 0 0]) hst hb follows
        (o_p rfl (ob_assign rfl rfl c_i) <|
         o_n) (by kernel_rfl) (fun a g hst hb => ?_)
      refine wp_ret ?_
      obtain rfl := Option.some.inj H0
      exact endB1 rfl hst hb (res_tmp (s := 6)) (hst.at 2 rfl) ⟨box_of (hst.at 0 rfl), box_of (hst.at 1 rfl), trivial⟩
end Go.CL

set_option linter.unusedVariables false
set_option linter.unusedSimpArgs false
set_option maxRecDepth 100000
namespace Go.CL
open Go Go.RowKit Go.Proofs
theorem slices_Delete_api_Item_api_Item_ok (a0 : List api_Item) (a1 a2 : Int) {r : List api_Item} (h : slices_Delete_api_Item_api_Item a0 a1 a2 = some r) : FnEat Tryd.prog 65 k_api_Item 48 a0 [(pInt .i64 a1), (pInt .i64 a2)] (k_api_Item.sl.pd r) := by
  unfold slices_Delete_api_Item_api_Item at h
  obtain ⟨⟨hpos, hi0, hij, hj, hsz⟩, H0⟩ := of_ite h
  obtain rfl := Option.some.inj H0
  obtain ⟨k, rfl⟩ := Int.eq_ofNat_of_zero_le hi0
  obtain ⟨l, rfl⟩ := Int.eq_ofNat_of_zero_le (Int.le_trans hi0 hij)
  have hkl : k ≤ l := by omega
  have hl : l ≤ a0.length := by omega
  simp only [Int.toNat_natCast]
  refine fnEat_ok (N := 33) Tryd.func65 rfl rfl (Nat.le_of_ble_eq_true rfl) rfl (fun hx a g A0 hst hb => ?_) (fun a g cap hcap hmax hst hb => ?_)
  · rw [hx] at hpos; cases hpos
  · refine r_s (L := [(0, _), (1, _), (2, _)]) (T := [⟨[], [(6, (k_api_Item.sl.pd []))], [], [], [6]⟩]) (F := [.old 0, .old 1, .old 2]) hst hb follows
      (o_p rfl (ob_assign rfl rfl (Opd.c (fun g => sl_nil_q g))) <|
       o_n) (by kernel_rfl) (fun a g hst hb => ?_)
    refine r_s (L := [(0, _), (1, _), (2, _)]) (T := [⟨[.old 0], _, [], [], [8]⟩, ⟨[.old 1], _, [], [], [9]⟩, ⟨[.old 2], _, [], [], [10]⟩, ⟨[.old 0], _, [], [], [11]⟩, ⟨[.op 3 0], _, [], [3], [12]⟩, ⟨[.op 0 0, .op 1 0, .op 2 0, .op 4 0], [], [], [0, 1, 2, 3, 4], [13]⟩]) (F := [.old 0, .old 1, .old 2]) hst hb follows
      (o_p rfl (ob_move rfl rfl u_0) <|
       o_p rfl (ob_move rfl rfl u_0) <|
       o_p rfl (ob_move rfl rfl u_0) <|
       o_p rfl (ob_move rfl rfl u_0) <|
       o_p rfl (ob_lenO Tryd.underlying23 rfl rfl u_0) <|
       o_p rfl (ob_slice3 te_23 hkl (by simpa using hl) (Nat.le_refl _) rfl u_0 u_1 u_2 u_3) <|
       o_n) (by kernel_rfl) (fun a g hst hb => ?_)
    refine wp_seq ?_
    refine r_s (L := [(0, _), (1, _), (2, _)]) (T := [⟨[.old 1], _, [], [], [14]⟩, ⟨[.old 2], _, [], [], [15]⟩, ⟨[.op 0 0, .op 1 0], _, [], [0, 1], [16]⟩]) (F := [.old 0, .old 1, .old 2, .op 2 0]) hst hb follows
      (o_p rfl (ob_move rfl rfl u_0) <|
       o_p rfl (ob_move rfl rfl u_0) <|
       o_p rfl (ob_eq rfl rfl u_0 u_1) <|
       o_n) (by kernel_rfl) (fun a g hst hb => ?_)
    refine wp_cond_split (hst.bool 3 rfl) (fun hc => ?_) (fun hc => ?_)
    · refine r_s (L := [(0, _)]) (T := [⟨[.old 0], _, [], [], [17]⟩, ⟨[.op 0 0], _, [], [0], [6]⟩]) (F := [.op 1 0]) (hst.pick [0] rfl) hb follows
        (o_p rfl (ob_move rfl rfl u_0) <|
         o_p rfl (ob_assign rfl rfl u_0) <|
         o_n) (by kernel_rfl) (fun a g hst hb => ?_)
      refine wp_ret ?_
      refine then_r ?_
      have hq := hst.at 0 rfl
      have hkl2 := beq_iff_eq.1 hc
      have he : a0.take k ++ a0.drop l = a0 := by rw [show l = k by omega, List.take_append_drop]
      rw [he]
      exact endEat rfl hst hb (res_tmp (s := 6)) hq
    · refine wp_skip ?_
      refine then_n ?_
      refine r_s (L := [(0, _), (1, _), (2, _)]) (T := [⟨[.old 0], _, [], [], [18]⟩, ⟨[.op 0 0], _, [], [0], [19]⟩, ⟨[.op 1 0], _, [], [0, 1], [7]⟩]) (F := [.old 0, .old 1, .old 2, .op 2 0]) (hst.pick [0, 1, 2] rfl) hb follows
        (o_p rfl (ob_move rfl rfl u_0) <|
         o_p rfl (ob_lenO Tryd.underlying23 rfl rfl u_0) <|
         o_p rfl (ob_assign rfl rfl u_0) <|
         o_n) (by kernel_rfl) (fun a g hst hb => ?_)
      refine r_s (L := [(0, _), (1, _), (2, _), (7, _)]) (T := [⟨[.old 0], _, [], [], [20]⟩, ⟨[.old 1], _, [], [], [21]⟩, ⟨[.op 0 0, .op 1 0], _, [], [0, 1], [22]⟩, ⟨[.old 0], _, [], [], [23]⟩, ⟨[.old 2], _, [], [], [24]⟩, ⟨[.op 3 0, .op 4 0], _, [], [3, 4], [25]⟩, ⟨[.op 2 0, .op 5 0, .old 0], [(26, (pOwn k_api_Item 48 0 (some cap) ((a0.take k ++ a0.drop l).map some)))], [1], [0, 1, 2, 3, 4, 5], [26, 0, 20, 22, 23, 25]⟩, ⟨[.op 6 0], _, [], [0, 1, 2, 3, 4, 5, 6], [0]⟩]) (F := [.op 7 0, .old 3]) hst hb follows
        (o_p rfl (ob_move rfl rfl u_0) <|
         o_p rfl (ob_move rfl rfl u_0) <|
         o_p rfl (ob_sliceHigh te_23 (by simp; omega) rfl rfl u_0 u_1) <|
         o_p rfl (ob_move rfl rfl u_0) <|
         o_p rfl (ob_move rfl rfl u_0) <|
         o_p rfl (ob_sliceLow te_23 (by simpa using hl) rfl rfl u_0 u_1) <|
         o_p rfl (ob_appendW (s := 0) (k := cap) (xs := a0.take k) (ws := a0.drop l) te_23 (by simp; omega) (by simp; omega) (by simp; omega) (by simp) (take_known a0 k) (drop_known a0 l) rfl rfl u_0 u_1 u_2) <|
         o_p rfl (ob_assign rfl rfl u_0) <|
         o_n) (by kernel_rfl) (fun a g hst hb => ?_)
      have hl2 : ((a0.take k ++ a0.drop l).map some).length = k + (a0.length - l) := by simp; omega
      refine r_s (L := [(0, _), (7, _)]) (T := [⟨[.old 0], _, [], [], [27]⟩, ⟨[.old 0], _, [], [], [28]⟩, ⟨[.op 1 0], _, [], [1], [29]⟩, ⟨[.old 1], _, [], [], [30]⟩, ⟨[.op 0 0, .op 2 0, .op 3 0], _, [], [0, 1, 2, 3], [31]⟩, ⟨[.op 4 0, .old 0], _, [1], [0, 1, 2, 3, 4], [0, 27, 28, 31]⟩]) (F := [.op 5 0]) hst hb follows
        (o_p rfl (ob_move rfl rfl u_0) <|
         o_p rfl (ob_move rfl rfl u_0) <|
         o_p rfl (ob_lenO Tryd.underlying23 rfl rfl u_0) <|
         o_p rfl (ob_move rfl rfl u_0) <|
         o_p rfl (ob_slice2 (k := cap) te_23 (by rw [hl2, List.length_map]; omega) (by rw [List.length_map]; omega) rfl rfl u_0 u_1 u_2) <|
         o_p rfl (ob_clearW (s := 0) (k := cap) te_23 (by kernel_rfl) (Nat.le_refl _) (by rw [hl2, List.length_map]; omega) rfl rfl u_0 u_1) <|
         o_n) (by kernel_rfl) (fun a g hst hb => ?_)
      refine r_s (L := [(0, _)]) (T := [⟨[.old 0], _, [], [], [32]⟩, ⟨[.op 0 0], _, [], [0], [6]⟩]) (F := [.op 1 0]) hst hb follows
        (o_p rfl (ob_move rfl rfl u_0) <|
         o_p rfl (ob_assign rfl rfl u_0) <|
         o_n) (by kernel_rfl) (fun a g hst hb => ?_)
      refine wp_ret ?_
      exact endEat rfl hst hb (res_tmp (s := 6)) (hst.at 0 rfl)
end Go.CL

set_option linter.unusedVariables false
set_option linter.unusedSimpArgs false
set_option maxRecDepth 100000
namespace Go.CL
open Go Go.RowKit Go.Proofs
theorem rule_changes_7_ok (a0 : api_Record) (a1 : api_Act) (a2 : api_Answer) {r : Int × api_Record × api_Answer} (h : rule_changes_7 a0 a1 a2 = some r) : FnB Tryd.prog 63 [.box k_api_Record a0 r.2.1, .val (k_api_Act.pd a1), .box k_api_Answer a2 r.2.2] (pInt .i64 r.1) := by
  have H0 := h
  unfold rule_changes_7 at H0
  clear h
  refine fnB_ok (N := 32) Tryd.func63 rfl rfl (Nat.le_of_ble_eq_true rfl) rfl rfl (fun a g0 bs hbs hst hb => ?_)
  obtain ⟨b0, b2, rfl⟩ := len_2 hbs
  replace hst : St 32 [(0, (pBoxC (some b0) k_api_Record 0 a0)), (1, (k_api_Act.pd a1)), (2, (pBoxC (some b2) k_api_Answer 2 a2))] _ _ := hst
  refine r_s (L := [(0, _), (1, _), (2, _)]) (T := [⟨[.old 1], _, [], [], [4]⟩, ⟨[], _, [], [], [6]⟩]) (F := [.old 0, .old 2, .op 0 0]) hst hb follows
    (o_p rfl (ob_box1 rfl rfl u_0) <|
     o_p rfl (ob_assign rfl rfl c_i) <|
     o_n) (by kernel_rfl) (fun a g hst hb => ?_)
  refine wp_seq ?_
  obtain ⟨r1, h2, H0⟩ := of_bind H0
  refine r_s (L := [(0, _), (2, _), (4, _)]) (T := ⟨[.old 0], _, [], [], [10]⟩ :: ⟨[.op 0 0], _, [], [0], [11]⟩ :: ⟨[.op 1 0], _, [], [0, 1], [12]⟩ :: ⟨[.op 2 0], _, [], [0, 1, 2], [13]⟩ :: ⟨[.old 2], _, [], [], [14]⟩ :: ⟨[.op 4 0], _, [], [4], [15]⟩ :: ⟨[.op 3 0, .op 5 0], _, [], List.range 6, [16]⟩ :: ⟨[.op 6 0], _, [], List.range 7, [9]⟩ :: ⟨[.op 7 0], _, [], List.range 8, [17]⟩ :: ⟨[.op 7 0], _, [], List.range 8, [18]⟩ :: ⟨[.op 8 0], _, [], List.range 9, [7]⟩ :: ⟨[.op 9 0], _, [], List.range 11, [8]⟩ :: []) (F := [.old 0, .old 1, .op 10 0, .op 11 0]) hst hb follows
    (o_p rfl (ob_move rfl rfl u_0) <|
     o_p rfl (ob_nilCheck rfl rfl u_0 (fun _ _ ⟨_, _, _, e, _⟩ => ⟨_, e⟩)) <|
     o_p rfl (ob_fieldAddrM fl_25_7 (off := 7) (by kernel_rfl) rfl rfl u_0) <|
     o_p rfl (ob_loadP ty_23 rfl rfl u_0) <|
     o_p rfl (ob_fieldAddr fl_27_4 rfl rfl u_0) <|
     o_p rfl (ob_load ty_9 rfl rfl u_0) <|
     o_p rfl (ob_call en_64 (rule_find_ok _ _ h2) rfl rfl (.cons u_0 (.cons u_1 .nil))) <|
     o_p rfl (ob_move rfl rfl u_0) <|
     o_p rfl (ob_extract rfl rfl u_0 rfl) <|
     o_p rfl (ob_extract rfl rfl u_0 rfl) <|
     o_p rfl (ob_assign rfl rfl u_0) <|
     o_p rfl (ob_assign rfl rfl u_0) <|
     o_n) (by kernel_rfl) (fun a g hst hb => ?_)
  refine r_s (L := [(0, _), (2, _), (7, _), (8, _)]) (T := [⟨[.old 3], _, [], [], [19]⟩]) (F := [.old 0, .old 1, .old 2, .op 0 0]) hst hb follows
    (o_p rfl (ob_move rfl rfl u_0) <|
     o_n) (by kernel_rfl) (fun a g hst hb => ?_)
  refine wp_cut (fun a w => ∃ (j8 : api_Record) (g : G), w = g.w ∧ St 32 [(0, (pBoxC (some b0) k_api_Record 0 j8)), (2, (pBoxC (some b2) k_api_Answer 2 a2))] a g ∧ Base g0 g ∧ rule_changes_7_j1 a2 j8 = some r) ?_ ?_
  · rintro a w ⟨j8, g, rfl, hst, hb, H0⟩
    unfold rule_changes_7_j1 at H0
    refine then_n ?_
    refine r_s (L := [(0, _), (2, _)]) (T := [⟨[], _, [], [], [6]⟩]) (F := [.old 0, .old 1, .op 0 0]) hst hb follows
      (o_p rfl (ob_assign rfl rfl c_i) <|
       o_n) (by kernel_rfl) (fun a g hst hb => ?_)
    refine wp_ret ?_
    obtain rfl := Option.some.inj H0
    exact endB1 rfl hst hb (res_tmp (s := 6)) (hst.at 2 rfl) ⟨box_of (hst.at 0 rfl), box_of (hst.at 1 rfl), trivial⟩
  · refine wp_cond_split (hst.bool 3 rfl) (fun hc3 => ?_) (fun hc3 => ?_)
    · replace H0 := ite_t hc3 H0
      obtain ⟨r4, h5, H0⟩ := of_bind H0; obtain ⟨r6, h7, H0⟩ := of_bind H0
      refine r_g (L := [(0, _), (2, _), (7, _)]) (T := ⟨[.old 0], _, [], [], [20]⟩ :: ⟨[.old 0], _, [], [], [21]⟩ :: ⟨[.op 1 0], _, [], [1], [22]⟩ :: ⟨[.op 2 0], _, [], [1, 2], [23]⟩ :: ⟨[.op 3 0], _, [], [1, 2, 3], [24]⟩ :: ⟨[.op 4 0], _, [26], List.range' 1 4, [25]⟩ :: ⟨[.old 2], _, [], [], [26]⟩ :: ⟨[.old 2], _, [], [], [27]⟩ :: ⟨[.op 7 0], _, [], [7], [28]⟩ :: ⟨[.op 5 0, .op 6 0, .op 8 0], _, [26], List.range' 1 8, [25, 29]⟩ :: ⟨[.op 0 0], _, [], List.range 10, [30]⟩ :: ⟨[.op 10 0], _, [], List.range 11, [31]⟩ :: ⟨[.op 9 0, .op 11 0, .old 0], _, [1], List.range 12, [0, 20, 21, 22, 23, 30, 31]⟩ :: []) (F := [.op 12 0, .old 1]) (hst.pick [0, 1, 2] rfl) hb follows
        (o_p rfl (ob_move rfl rfl u_0) <|
         o_p rfl (ob_move rfl rfl u_0) <|
         o_p rfl (ob_nilCheck rfl rfl u_0 (fun _ _ ⟨_, _, _, e, _⟩ => ⟨_, e⟩)) <|
         o_p rfl (ob_fieldAddrM fl_25_7 (off := 7) (by kernel_rfl) rfl rfl u_0) <|
         o_p rfl (ob_loadP ty_23 rfl rfl u_0) <|
         o_p rfl (ob_callFresh (j := 25) en_41 (slices_Clone_api_Item_api_Item_fresh _ h5) rfl rfl (.cons u_0 .nil)) <|
         o_p rfl (ob_move rfl rfl u_0) <|
         o_p rfl (ob_move rfl rfl u_0) <|
         o_p rfl (ob_add rfl rfl u_0 c_i rfl) <|
         o_p rfl (ob_callEat en_65 (slices_Delete_api_Item_api_Item_ok _ _ _ h7) rfl rfl rfl u_0 (.cons u_1 (.cons u_2 .nil))) <|
         o_p rfl (ob_nilCheck rfl rfl u_0 (fun _ _ ⟨_, _, _, e, _⟩ => ⟨_, e⟩)) <|
         o_p rfl (ob_fieldAddrM fl_25_7 (off := 7) (by kernel_rfl) rfl rfl u_0) <|
         o_p rfl (wi_25_7 ty_23 rfl rfl u_2 u_1 u_0) <|
         o_n) (by kernel_rfl) (fun a g hst hb => ?_)
      exact ⟨({ a0 with List := r6 }), g, rfl, (hst.pick [0, 1] rfl), hb, H0⟩
    · replace H0 := ite_f hc3 H0
      refine wp_skip ?_
      exact ⟨a0, g, rfl, (hst.pick [0, 1] rfl), hb, H0⟩
end Go.CL

set_option linter.unusedVariables false
set_option linter.unusedSimpArgs false
set_option maxRecDepth 100000
namespace Go.CL
open Go Go.RowKit Go.Proofs
theorem rule_changes_8_ok (a0 : api_Record) (a1 : api_Act) (a2 : api_Answer) {r : Int × api_Record × api_Answer} (h : rule_changes_8 a0 a1 a2 = some r) : FnB Tryd.prog 66 [.box k_api_Record a0 r.2.1, .val (k_api_Act.pd a1), .box k_api_Answer a2 r.2.2] (pInt .i64 r.1) := by
  have H0 := h
  unfold rule_changes_8 at H0
  clear h
  refine fnB_ok (N := 21) Tryd.func66 rfl rfl (Nat.le_of_ble_eq_true rfl) rfl rfl (fun a g0 bs hbs hst hb => ?_)
  obtain ⟨b0, b2, rfl⟩ := len_2 hbs
  replace hst : St 21 [(0, (pBoxC (some b0) k_api_Record 0 a0)), (1, (k_api_Act.pd a1)), (2, (pBoxC (some b2) k_api_Answer 2 a2))] _ _ := hst
  refine r_s (L := [(0, _), (1, _), (2, _)]) (T := [⟨[.old 1], _, [], [], [4]⟩, ⟨[], _, [], [], [6]⟩]) (F := [.old 0, .old 2, .op 0 0]) hst hb follows
    (o_p rfl (ob_box1 rfl rfl u_0) <|
     o_p rfl (ob_assign rfl rfl c_i) <|
     o_n) (by kernel_rfl) (fun a g hst hb => ?_)
  refine wp_seq ?_
  obtain ⟨r1, h2, H0⟩ := of_bind H0
  refine r_s (L := [(0, _), (2, _), (4, _)]) (T := ⟨[.old 0], _, [], [], [10]⟩ :: ⟨[.op 0 0], _, [], [0], [11]⟩ :: ⟨[.op 1 0], _, [], [0, 1], [12]⟩ :: ⟨[.op 2 0], _, [], [0, 1, 2], [13]⟩ :: ⟨[.old 2], _, [], [], [14]⟩ :: ⟨[.op 4 0], _, [], [4], [15]⟩ :: ⟨[.op 3 0, .op 5 0], _, [], List.range 6, [16]⟩ :: ⟨[.op 6 0], _, [], List.range 7, [9]⟩ :: ⟨[.op 7 0], _, [], List.range 8, [17]⟩ :: ⟨[.op 7 0], _, [], List.range 8, [18]⟩ :: ⟨[.op 8 0], _, [], List.range 9, [7]⟩ :: ⟨[.op 9 0], _, [], List.range 11, [8]⟩ :: []) (F := [.old 0, .old 1, .op 11 0]) hst hb follows
    (o_p rfl (ob_move rfl rfl u_0) <|
     o_p rfl (ob_nilCheck rfl rfl u_0 (fun _ _ ⟨_, _, _, e, _⟩ => ⟨_, e⟩)) <|
     o_p rfl (ob_fieldAddrM fl_25_7 (off := 7) (by kernel_rfl) rfl rfl u_0) <|
     o_p rfl (ob_loadP ty_23 rfl rfl u_0) <|
     o_p rfl (ob_fieldAddr fl_27_4 rfl rfl u_0) <|
     o_p rfl (ob_load ty_9 rfl rfl u_0) <|
     o_p rfl (ob_call en_64 (rule_find_ok _ _ h2) rfl rfl (.cons u_0 (.cons u_1 .nil))) <|
     o_p rfl (ob_move rfl rfl u_0) <|
     o_p rfl (ob_extract rfl rfl u_0 rfl) <|
     o_p rfl (ob_extract rfl rfl u_0 rfl) <|
     o_p rfl (ob_assign rfl rfl u_0) <|
     o_p rfl (ob_assign rfl rfl u_0) <|
     o_n) (by kernel_rfl) (fun a g hst hb => ?_)
  refine r_s (L := [(0, _), (2, _), (8, _)]) (T := [⟨[.old 2], _, [], [], [19]⟩, ⟨[.op 0 0], _, [], [0], [20]⟩]) (F := [.old 0, .old 1, .op 1 0]) hst hb follows
    (o_p rfl (ob_move rfl rfl u_0) <|
     o_p rfl (ob_not rfl rfl u_0) <|
     o_n) (by kernel_rfl) (fun a g hst hb => ?_)
  refine wp_cond_split (hst.bool 2 rfl) (fun hc3 => ?_) (fun hc3 => ?_)
  · replace H0 := ite_t hc3 H0
    refine r_s (L := [(0, _), (2, _)]) (T := [⟨[], _, [], [], [6]⟩]) (F := [.old 0, .old 1, .op 0 0]) (hst.pick [0, 1] rfl) hb follows
      (o_p rfl (ob_assign rfl rfl c_i) <|
       o_n) (by kernel_rfl) (fun a g hst hb => ?_)
    refine wp_ret ?_
    refine then_r ?_
    obtain rfl := Option.some.inj H0
    exact endB1 rfl hst hb (res_tmp (s := 6)) (hst.at 2 rfl) ⟨box_of (hst.at 0 rfl), box_of (hst.at 1 rfl), trivial⟩
  · replace H0 := ite_f hc3 H0
    refine wp_skip ?_
    refine then_n ?_
    refine r_s (L := [(0, _), (2, _)]) (T := [⟨[], _, [], [], [6]⟩]) (F := [.old 0, .old 1, .op 0 0]) (hst.pick [0, 1] rfl) hb follows
      (o_p rfl (ob_assign rfl rfl c_i) <|
       o_n) (by kernel_rfl) (fun a g hst hb => ?_)
    refine wp_ret ?_
    obtain rfl := Option.some.inj H0
    exact endB1 rfl hst hb (res_tmp (s := 6)) (hst.at 2 rfl) ⟨box_of (hst.at 0 rfl), box_of (hst.at 1 rfl), trivial⟩
end Go.CL

set_option linter.unusedVariables false
set_option linter.unusedSimpArgs false
set_option maxRecDepth 100000
namespace Go.CL
open Go Go.RowKit Go.Proofs
theorem rule_offer_ok (a0 : api_Record) (a1 : api_Act) (a2 : api_Answer) {r : Int × api_Record × api_Answer} (h : rule_offer a0 a1 a2 = some r) : FnB Tryd.prog 67 [.box k_api_Record a0 r.2.1, .val (k_api_Act.pd a1), .box k_api_Answer a2 r.2.2] (pInt .i64 r.1) := by
  have H0 := h
  unfold rule_offer at H0
  clear h
  refine fnB_ok (N := 75) Tryd.func67 rfl rfl (Nat.le_of_ble_eq_true rfl) rfl rfl (fun a g0 bs hbs hst hb => ?_)
  obtain ⟨b0, b2, rfl⟩ := len_2 hbs
  replace hst : St 75 [(0, (pBoxC (some b0) k_api_Record 0 a0)), (1, (k_api_Act.pd a1)), (2, (pBoxC (some b2) k_api_Answer 2 a2))] _ _ := hst
  refine r_s (L := [(0, _), (1, _), (2, _)]) (T := [⟨[.old 1], _, [], [], [4]⟩, ⟨[], _, [], [], [6]⟩]) (F := [.old 0, .old 2, .op 0 0]) hst hb follows
    (o_p rfl (ob_box1 rfl rfl u_0) <|
     o_p rfl (ob_assign rfl rfl c_i) <|
     o_n) (by kernel_rfl) (fun a g hst hb => ?_)
  refine r_s (L := [(0, _), (2, _), (4, _)]) (T := [⟨[.old 2], _, [], [], [10]⟩, ⟨[.op 0 0], _, [], [0], [11]⟩, ⟨[.old 2], _, [], [], [12]⟩, ⟨[.op 2 0], _, [], [2], [13]⟩, ⟨[.op 1 0, .op 3 0], _, [], List.range 4, [14]⟩, ⟨[], [(7, (pBox k_api_Item 7 (default : api_Item)))], [8], [], [7]⟩, ⟨[.op 4 0, .op 5 0], _, [8], List.range 6, [7]⟩]) (F := [.old 0, .old 1, .op 6 0]) hst hb follows
    (o_p rfl (ob_fieldAddr fl_27_3 rfl rfl u_0) <|
     o_p rfl (ob_load ty_22 rfl rfl u_0) <|
     o_p rfl (ob_fieldAddr fl_27_4 rfl rfl u_0) <|
     o_p rfl (ob_load ty_9 rfl rfl u_0) <|
     o_p rfl (bd_48_0_1 rfl rfl u_0 u_1) <|
     o_p rfl (ob_alloc (zs := [.float .f64 0, .string ByteArray.empty]) (by kernel_rfl) (fun g => zk_api_Item g) rfl rfl) <|
     o_p rfl (ob_storeF ty_48 rfl rfl u_1 u_0) <|
     o_n) (by kernel_rfl) (fun a g hst hb => ?_)
  refine r_s (L := [(0, _), (2, _), (7, _)]) (T := [⟨[], _, [], [], [8]⟩]) (F := [.old 0, .old 1, .old 2, .op 0 0]) hst hb follows
    (o_p rfl (ob_assign rfl rfl c_i) <|
     o_n) (by kernel_rfl) (fun a g hst hb => ?_)
  obtain ⟨z8, hz1, H0⟩ := of_bind H0
  refine wp_seq ?_
  refine wp_cut (fun a w => ∃ (y7 : Int) (g : G), w = g.w ∧ St 75 [(0, (pBoxC (some b0) k_api_Record 0 a0)), (2, (pBoxC (some b2) k_api_Answer 2 a2)), (7, (k_api_Item.ptr ({ Score := a1.X, Name := a1.S } : api_Item))), (8, (pInt .i64 y7))] a g ∧ Base g0 g ∧ y7 = z8) ?_ ?_
  · rintro a w ⟨y7, g, rfl, hst, hb, rfl⟩
    refine then_n ?_
    refine wp_seq ?_
    obtain ⟨e9, h10, H0⟩ := of_bind H0; obtain ⟨r11, h12, H0⟩ := of_bind H0
    refine r_s (L := [(0, _), (2, _), (7, _), (8, _)]) (T := ⟨[.old 3], _, [], [], [35]⟩ :: ⟨[.old 0], _, [], [], [36]⟩ :: ⟨[.op 1 0], _, [], [1], [37]⟩ :: ⟨[.op 2 0], _, [], [1, 2], [38]⟩ :: ⟨[.op 3 0], _, [], [1, 2, 3], [39]⟩ :: ⟨[.op 4 0], _, [], List.range' 1 4, [40]⟩ :: ⟨[.op 0 0, .op 5 0], _, [], List.range 6, [41]⟩ :: ⟨[.op 6 0], _, [], List.range 7, [42]⟩ :: ⟨[.op 7 0, .old 2], _, [], List.range 8, [43]⟩ :: ⟨[.op 7 0, .old 0], _, [], List.range 8, [44]⟩ :: ⟨[.op 7 0, .op 9 0], _, [], [0, 1, 2, 3, 4, 5, 6, 7, 9], [45]⟩ :: ⟨[.op 7 0, .op 10 0], _, [], [0, 1, 2, 3, 4, 5, 6, 7, 9, 10], [46]⟩ :: ⟨[.op 7 0, .op 11 0], _, [], [0, 1, 2, 3, 4, 5, 6, 7, 9, 10, 11], [47]⟩ :: ⟨[.op 7 0, .old 3], _, [], List.range 8, [48]⟩ :: ⟨[.op 7 0, .op 12 0, .op 13 0], _, [], 0 :: 1 :: 2 :: 3 :: 4 :: 5 :: 6 :: 7 :: 9 :: 10 :: 11 :: 12 :: 13 :: [], [49]⟩ :: ⟨[.op 7 0, .op 14 0], _, [], 0 :: 1 :: 2 :: 3 :: 4 :: 5 :: 6 :: 7 :: 9 :: 10 :: 11 :: 12 :: 13 :: 14 :: [], [50]⟩ :: ⟨[.op 7 0, .op 8 0, .op 15 0], _, [], List.range 16, [51]⟩ :: ⟨[.op 7 0, .op 16 0], _, [], List.range 17, [52]⟩ :: ⟨[.op 7 0, .op 17 0], _, [], List.range 18, [53]⟩ :: []) (F := [.old 0, .old 1, .old 2, .old 3, .op 18 0]) hst hb follows
      (o_p rfl (ob_move rfl rfl u_0) <|
       o_p rfl (ob_move rfl rfl u_0) <|
       o_p rfl (ob_nilCheck rfl rfl u_0 (fun _ _ ⟨_, _, _, e, _⟩ => ⟨_, e⟩)) <|
       o_p rfl (ob_fieldAddrM fl_25_7 (off := 7) (by kernel_rfl) rfl rfl u_0) <|
       o_p rfl (ob_loadP ty_23 rfl rfl u_0) <|
       o_p rfl (ob_lenL Tryd.underlying23 rfl rfl u_0) <|
       o_p rfl (ob_lt rfl rfl u_0 u_1) <|
       o_p rfl (ob_move rfl rfl u_0) <|
       o_g (g_t rfl rfl rfl (fun hG => ob_load ty_48 rfl rfl u_0)) <|
       o_g (g_t rfl rfl rfl (fun hG => ob_move rfl rfl u_0)) <|
       o_g (g_t rfl rfl rfl (fun hG => ob_nilCheck rfl rfl (Opd.gd hG u_0) (fun _ _ ⟨_, _, _, e, _⟩ => ⟨_, e⟩))) <|
       o_g (g_t rfl rfl rfl (fun hG => ob_fieldAddrM fl_25_7 (off := 7) (by kernel_rfl) rfl rfl (Opd.gd hG u_0))) <|
       o_g (g_t rfl rfl rfl (fun hG => ob_loadP ty_23 rfl rfl (Opd.gd hG u_0))) <|
       o_g (g_t rfl rfl rfl (fun hG => ob_move rfl rfl u_0)) <|
       o_g (g_t rfl rfl rfl (fun hG => ob_indexAddr Tryd.underlying23 sz_48 rfl rfl (Opd.gd hG u_0) (Opd.gd hG u_1) (gd_true h10 hG))) <|
       o_g (g_t rfl rfl rfl (fun hG => ob_load ty_48 rfl rfl (Opd.gd hG u_0))) <|
       o_g (g_t rfl rfl rfl (fun hG => ob_call en_83 (rec_Better_ok _ _ (gd_true h12 hG)) rfl rfl (.cons (Opd.gd hG u_0) (.cons (Opd.gd hG u_1) .nil)))) <|
       o_g (g_t rfl rfl rfl (fun hG => ob_not rfl rfl (Opd.gd hG u_0))) <|
       o_p rfl (ob_pand rfl rfl u_0 (fun hz => (Opd.gd hz u_1))) <|
       o_n) (by kernel_rfl) (fun a g hst hb => ?_)
    refine wp_cond_split (hst.bool 4 rfl) (fun hc13 => ?_) (fun hc13 => ?_)
    · replace H0 := ite_t hc13 H0
      refine r_s (L := [(0, _), (2, _)]) (T := [⟨[], _, [], [], [6]⟩]) (F := [.old 0, .old 1, .op 0 0]) (hst.pick [0, 1] rfl) hb follows
        (o_p rfl (ob_assign rfl rfl c_i) <|
         o_n) (by kernel_rfl) (fun a g hst hb => ?_)
      refine wp_ret ?_
      refine then_r ?_
      obtain rfl := Option.some.inj H0
      exact endB1 rfl hst hb (res_tmp (s := 6)) (hst.at 2 rfl) ⟨box_of (hst.at 0 rfl), box_of (hst.at 1 rfl), trivial⟩
    · replace H0 := ite_f hc13 H0
      refine wp_skip ?_
      refine then_n ?_
      obtain ⟨r14, h15, H0⟩ := of_bind H0; obtain ⟨r16, h17, H0⟩ := of_bind H0
      refine r_s (L := [(0, _), (2, _), (7, _), (8, _)]) (T := [⟨[.old 0], _, [], [], [54]⟩, ⟨[.op 0 0], _, [], [0], [55]⟩, ⟨[.op 1 0], _, [], [0, 1], [56]⟩, ⟨[.op 2 0], _, [], [0, 1, 2], [57]⟩, ⟨[.op 3 0], _, [59], List.range 4, [58]⟩, ⟨[.old 3], _, [], [], [59]⟩, ⟨[.old 2], _, [], [], [60]⟩, ⟨[.op 6 0], _, [], [6], [61]⟩, ⟨[.op 4 0, .op 5 0, .op 7 0], _, [59], List.range 8, [58, 62]⟩, ⟨[.op 8 0], _, [], List.range 9, [9]⟩]) (F := [.old 0, .old 1, .op 9 0]) (hst.pick [0, 1, 2, 3] rfl) hb follows
        (o_p rfl (ob_move rfl rfl u_0) <|
         o_p rfl (ob_nilCheck rfl rfl u_0 (fun _ _ ⟨_, _, _, e, _⟩ => ⟨_, e⟩)) <|
         o_p rfl (ob_fieldAddrM fl_25_7 (off := 7) (by kernel_rfl) rfl rfl u_0) <|
         o_p rfl (ob_loadP ty_23 rfl rfl u_0) <|
         o_p rfl (ob_callFresh (j := 58) en_41 (slices_Clone_api_Item_api_Item_fresh _ h15) rfl rfl (.cons u_0 .nil)) <|
         o_p rfl (ob_move rfl rfl u_0) <|
         o_p rfl (ob_load ty_48 rfl rfl u_0) <|
         o_p rfl (ob_lit te_23 (xs := [.tmp 60]) (.cons u_0 .nil) (by decide) rfl rfl) <|
         o_p rfl (ob_callEat en_87 (slices_Insert_api_Item_api_Item_ok _ _ _ h17) rfl rfl rfl u_0 (.cons u_1 (.cons u_2 .nil))) <|
         o_p rfl (ob_assign rfl rfl u_0) <|
         o_n) (by kernel_rfl) (fun a g hst hb => ?_)
      obtain ⟨c18, h19, H0⟩ := of_bind H0
      refine r_s (L := [(0, _), (2, _), (9, _)]) (T := ⟨[.old 0], _, [], [], [63]⟩ :: ⟨[.old 2], _, [], [], [64]⟩ :: ⟨[.old 2], _, [], [], [65]⟩ :: ⟨[.op 2 0], _, [], [2], [66]⟩ :: ⟨[.old 0], _, [], [], [67]⟩ :: ⟨[.op 4 0], _, [], [4], [68]⟩ :: ⟨[.op 5 0], _, [], [4, 5], [69]⟩ :: ⟨[.op 6 0], _, [], [4, 5, 6], [70]⟩ :: ⟨[.op 3 0, .op 7 0], _, [], List.range' 2 6, [71]⟩ :: ⟨[.op 1 0, .op 8 0], _, [], List.range' 1 8, [72]⟩ :: ⟨[.op 0 0], _, [], List.range 10, [73]⟩ :: ⟨[.op 10 0], _, [], List.range 11, [74]⟩ :: ⟨[.op 9 0, .op 11 0, .old 0], _, [1], List.range 12, [0, 63, 67, 68, 69, 73, 74]⟩ :: []) (F := [.op 12 0, .old 1]) hst hb follows
        (o_p rfl (ob_move rfl rfl u_0) <|
         o_p rfl (ob_move rfl rfl u_0) <|
         o_p rfl (ob_move rfl rfl u_0) <|
         o_p rfl (ob_lenL Tryd.underlying23 rfl rfl u_0) <|
         o_p rfl (ob_move rfl rfl u_0) <|
         o_p rfl (ob_nilCheck rfl rfl u_0 (fun _ _ ⟨_, _, _, e, _⟩ => ⟨_, e⟩)) <|
         o_p rfl (ob_fieldAddrM fl_25_5 (off := 5) (by kernel_rfl) rfl rfl u_0) <|
         o_p rfl (ob_loadP ty_3 rfl rfl u_0) <|
         o_p rfl (ob_min rfl rfl u_0 u_1) <|
         o_p rfl (ob_cutH Tryd.underlying23 sz_48 rfl rfl u_0 u_1 h19) <|
         o_p rfl (ob_nilCheck rfl rfl u_0 (fun _ _ ⟨_, _, _, e, _⟩ => ⟨_, e⟩)) <|
         o_p rfl (ob_fieldAddrM fl_25_7 (off := 7) (by kernel_rfl) rfl rfl u_0) <|
         o_p rfl (wi_25_7 ty_23 rfl rfl u_2 u_1 u_0) <|
         o_n) (by kernel_rfl) (fun a g hst hb => ?_)
      refine r_s (L := [(0, _), (2, _)]) (T := [⟨[], _, [], [], [6]⟩]) (F := [.old 0, .old 1, .op 0 0]) hst hb follows
        (o_p rfl (ob_assign rfl rfl c_i) <|
         o_n) (by kernel_rfl) (fun a g hst hb => ?_)
      refine wp_ret ?_
      obtain rfl := Option.some.inj H0
      exact endB1 rfl hst hb (res_tmp (s := 6)) (hst.at 2 rfl) ⟨box_of (hst.at 0 rfl), box_of (hst.at 1 rfl), trivial⟩
  · refine wp_block ?_
    refine wp_loop_ghost (fun n a w => ∃ (x1 : Int) (g : G), w = g.w ∧ St 75 [(0, (pBoxC (some b0) k_api_Record 0 a0)), (2, (pBoxC (some b2) k_api_Answer 2 a2)), (7, (k_api_Item.ptr ({ Score := a1.X, Name := a1.S } : api_Item))), (8, (pInt .i64 x1))] a g ∧ Base g0 g ∧ rule_offer_l1 a0 a1 n x1 = some z8) (Int.toNat ((a0.List.length : Int) - (0 : Int)) + 1) ⟨(0 : Int), g, rfl, (hst.pick [0, 1, 2, 3] rfl), hb, hz1⟩ (fun n a w hI => ?_)
    obtain ⟨x1, g, rfl, hst, hb, H1⟩ := hI
    cases n with
    | zero => exact absurd H1 (by simp [rule_offer_l1])
    | succ n =>
      rw [rule_offer_l1] at H1
      refine wp_seq ?_
      obtain ⟨e2, h3, H1⟩ := of_bind H1; obtain ⟨r4, h5, H1⟩ := of_bind H1
      refine r_s (L := [(0, _), (2, _), (7, _), (8, _)]) (T := ⟨[.old 3], _, [], [], [15]⟩ :: ⟨[.old 0], _, [], [], [16]⟩ :: ⟨[.op 1 0], _, [], [1], [17]⟩ :: ⟨[.op 2 0], _, [], [1, 2], [18]⟩ :: ⟨[.op 3 0], _, [], [1, 2, 3], [19]⟩ :: ⟨[.op 4 0], _, [], List.range' 1 4, [20]⟩ :: ⟨[.op 0 0, .op 5 0], _, [], List.range 6, [21]⟩ :: ⟨[.op 6 0], _, [], List.range 7, [22]⟩ :: ⟨[.op 7 0, .old 0], _, [], List.range 8, [23]⟩ :: ⟨[.op 7 0, .op 8 0], _, [], List.range 9, [24]⟩ :: ⟨[.op 7 0, .op 9 0], _, [], List.range 10, [25]⟩ :: ⟨[.op 7 0, .op 10 0], _, [], List.range 11, [26]⟩ :: ⟨[.op 7 0, .old 3], _, [], List.range 8, [27]⟩ :: ⟨[.op 7 0, .op 11 0, .op 12 0], _, [], List.range 13, [28]⟩ :: ⟨[.op 7 0, .op 13 0], _, [], List.range 14, [29]⟩ :: ⟨[.op 7 0, .old 2], _, [], List.range 8, [30]⟩ :: ⟨[.op 7 0, .op 14 0, .op 15 0], _, [], List.range 16, [31]⟩ :: ⟨[.op 7 0, .op 16 0], _, [], List.range 17, [32]⟩ :: []) (F := [.old 0, .old 1, .old 2, .old 3, .op 17 0]) hst hb follows
        (o_p rfl (ob_move rfl rfl u_0) <|
         o_p rfl (ob_move rfl rfl u_0) <|
         o_p rfl (ob_nilCheck rfl rfl u_0 (fun _ _ ⟨_, _, _, e, _⟩ => ⟨_, e⟩)) <|
         o_p rfl (ob_fieldAddrM fl_25_7 (off := 7) (by kernel_rfl) rfl rfl u_0) <|
         o_p rfl (ob_loadP ty_23 rfl rfl u_0) <|
         o_p rfl (ob_lenL Tryd.underlying23 rfl rfl u_0) <|
         o_p rfl (ob_lt rfl rfl u_0 u_1) <|
         o_p rfl (ob_move rfl rfl u_0) <|
         o_g (g_t rfl rfl rfl (fun hG => ob_move rfl rfl u_0)) <|
         o_g (g_t rfl rfl rfl (fun hG => ob_nilCheck rfl rfl (Opd.gd hG u_0) (fun _ _ ⟨_, _, _, e, _⟩ => ⟨_, e⟩))) <|
         o_g (g_t rfl rfl rfl (fun hG => ob_fieldAddrM fl_25_7 (off := 7) (by kernel_rfl) rfl rfl (Opd.gd hG u_0))) <|
         o_g (g_t rfl rfl rfl (fun hG => ob_loadP ty_23 rfl rfl (Opd.gd hG u_0))) <|
         o_g (g_t rfl rfl rfl (fun hG => ob_move rfl rfl u_0)) <|
         o_g (g_t rfl rfl rfl (fun hG => ob_indexAddr Tryd.underlying23 sz_48 rfl rfl (Opd.gd hG u_0) (Opd.gd hG u_1) (gd_true h3 hG))) <|
         o_g (g_t rfl rfl rfl (fun hG => ob_load ty_48 rfl rfl (Opd.gd hG u_0))) <|
         o_g (g_t rfl rfl rfl (fun hG => ob_load ty_48 rfl rfl u_0)) <|
         o_g (g_t rfl rfl rfl (fun hG => ob_call en_83 (rec_Better_ok _ _ (gd_true h5 hG)) rfl rfl (.cons (Opd.gd hG u_0) (.cons (Opd.gd hG u_1) .nil)))) <|
         o_p rfl (ob_pand rfl rfl u_0 (fun hz => (Opd.gd hz u_1))) <|
         o_n) (by kernel_rfl) (fun a g hst hb => ?_)
      refine wp_cond_split (hst.bool 4 rfl) (fun hc6 => ?_) (fun hc6 => ?_)
      · replace H1 := ite_t hc6 H1
        refine wp_skip ?_
        refine then_n ?_
        refine wp_block ?_
        refine r_g (L := [(0, _), (2, _), (7, _), (8, _)]) (T := [⟨[.old 3], _, [], [], [33]⟩, ⟨[.op 0 0], _, [], [0], [34]⟩, ⟨[.op 1 0], _, [], [0, 1], [8]⟩]) (F := [.old 0, .old 1, .old 2, .op 2 0]) (hst.pick [0, 1, 2, 3] rfl) hb follows
          (o_p rfl (ob_move rfl rfl u_0) <|
           o_p rfl (ob_add rfl rfl u_0 c_i rfl) <|
           o_p rfl (ob_assign rfl rfl u_0) <|
           o_n) (by kernel_rfl) (fun a g hst hb => ?_)
        refine inBlock_n ?_
        exact ⟨n, Nat.lt_succ_self _, (IntKind.i64.wrap (x1 + (1 : Int))), g, rfl, (hst.pick [0, 1, 2, 3] rfl), hb, H1⟩
      · replace H1 := ite_f hc6 H1
        refine wp_exit ?_
        refine then_e ?_
        refine then_e ?_
        refine inBlock_e ?_
        exact ⟨x1, g, rfl, (hst.pick [0, 1, 2, 3] rfl), hb, Option.some.inj H1⟩
end Go.CL

set_option linter.unusedVariables false
set_option linter.unusedSimpArgs false
set_option maxRecDepth 100000
namespace Go.CL
open Go Go.RowKit Go.Proofs
def Phi (k : Int) (f : FuncId) (C : List Pd) : Prop := ∀ (x0 x1 : api_Record) (a : api_Act) (y0 y1 : api_Answer) (c : Int), rule_change k x0 a y0 = some (c, x1, y1) → FnB Tryd.prog f ([.box k_api_Record x0 x1, .val (k_api_Act.pd a), .box k_api_Answer y0 y1] ++ C.map .val) (pInt .i64 c)
theorem phi_use {k : Int} {x0 : api_Record} {a : api_Act} {y0 : api_Answer} {r : Int × api_Record × api_Answer} (h : rule_change k x0 a y0 = some r) : ∀ f C, Phi k f C → FnB Tryd.prog f ([.box k_api_Record x0 r.2.1, .val (k_api_Act.pd a), .box k_api_Answer y0 r.2.2] ++ C.map .val) (pInt .i64 r.1) := fun f C hΦ => hΦ _ _ _ _ _ _ h
def tabT : TabT := fun k => if 5 ≤ k ∧ k ≤ 21 then some (Phi k) else none
theorem tab_at {i : Int} (h : 5 ≤ i ∧ i ≤ 21) : tabT i.toNat = some (Phi i) := by
  unfold tabT
  rw [if_pos (by omega), show ((i.toNat : Nat) : Int) = i by omega]
theorem phi_5 : Phi 5 49 [] := fun x0 x1 a y0 y1 c h => rule_changes_1_ok x0 a y0 (r := (c, x1, y1)) (by simpa [rule_change] using h)
theorem phi_6 : Phi 6 50 [] := fun x0 x1 a y0 y1 c h => rule_changes_2_ok x0 a y0 (r := (c, x1, y1)) (by simpa [rule_change] using h)
theorem phi_7 : Phi 7 51 [] := fun x0 x1 a y0 y1 c h => rule_changes_3_ok x0 a y0 (r := (c, x1, y1)) (by simpa [rule_change] using h)
theorem phi_8 : Phi 8 52 [] := fun x0 x1 a y0 y1 c h => rule_plus_ok x0 a y0 (r := (c, x1, y1)) (by simpa [rule_change] using h)
theorem phi_9 : Phi 9 53 [] := fun x0 x1 a y0 y1 c h => rule_atLeast_ok x0 a y0 (r := (c, x1, y1)) (by simpa [rule_change] using h)
theorem phi_10 : Phi 10 54 [] := fun x0 x1 a y0 y1 c h => rule_changes_4_ok x0 a y0 (r := (c, x1, y1)) (by simpa [rule_change] using h)
theorem phi_11 : Phi 11 55 [] := fun x0 x1 a y0 y1 c h => rule_changes_5_ok x0 a y0 (r := (c, x1, y1)) (by simpa [rule_change] using h)
theorem phi_12 : Phi 12 53 [] := fun x0 x1 a y0 y1 c h => rule_atLeast_ok x0 a y0 (r := (c, x1, y1)) (by simpa [rule_change] using h)
theorem phi_13 : Phi 13 85 [(Kd.fnc.ptr 57)] := fun x0 x1 a y0 y1 c h => by
  have h' : rule_real_1 (fun x y => flo_Max x y) x0 a y0 = some (c, x1, y1) := by simpa [rule_change] using h
  obtain ⟨z, hz, h2⟩ := of_bind h'
  injection h2 with h2
  simp only [Prod.mk.injEq] at h2
  obtain ⟨rfl, rfl, rfl⟩ := h2
  exact rule_real_1_ok 57 en_57 (fun x y => flo_Max x y) (fun x y z h => flo_Max_ok x y h) x0 a y0 hz
theorem phi_14 : Phi 14 85 [(Kd.fnc.ptr 58)] := fun x0 x1 a y0 y1 c h => by
  have h' : rule_real_1 (fun x y => flo_Min x y) x0 a y0 = some (c, x1, y1) := by simpa [rule_change] using h
  obtain ⟨z, hz, h2⟩ := of_bind h'
  injection h2 with h2
  simp only [Prod.mk.injEq] at h2
  obtain ⟨rfl, rfl, rfl⟩ := h2
  exact rule_real_1_ok 58 en_58 (fun x y => flo_Min x y) (fun x y z h => flo_Min_ok x y h) x0 a y0 hz
theorem phi_15 : Phi 15 85 [(Kd.fnc.ptr 59)] := fun x0 x1 a y0 y1 c h => by
  have h' : rule_real_1 (fun x y => flo_Plus x y) x0 a y0 = some (c, x1, y1) := by simpa [rule_change] using h
  obtain ⟨z, hz, h2⟩ := of_bind h'
  injection h2 with h2
  simp only [Prod.mk.injEq] at h2
  obtain ⟨rfl, rfl, rfl⟩ := h2
  exact rule_real_1_ok 59 en_59 (fun x y => flo_Plus x y) (fun x y z h => flo_Plus_ok x y h) x0 a y0 hz
theorem phi_16 : Phi 16 85 [(Kd.fnc.ptr 60)] := fun x0 x1 a y0 y1 c h => by
  have h' : rule_real_1 (fun x y => flo_Times x y) x0 a y0 = some (c, x1, y1) := by simpa [rule_change] using h
  obtain ⟨z, hz, h2⟩ := of_bind h'
  injection h2 with h2
  simp only [Prod.mk.injEq] at h2
  obtain ⟨rfl, rfl, rfl⟩ := h2
  exact rule_real_1_ok 60 en_60 (fun x y => flo_Times x y) (fun x y z h => flo_Times_ok x y h) x0 a y0 hz
theorem phi_17 : Phi 17 85 [(Kd.fnc.ptr 61)] := fun x0 x1 a y0 y1 c h => by
  have h' : rule_real_1 (fun x y => rule_changes_6 x y) x0 a y0 = some (c, x1, y1) := by simpa [rule_change] using h
  obtain ⟨z, hz, h2⟩ := of_bind h'
  injection h2 with h2
  simp only [Prod.mk.injEq] at h2
  obtain ⟨rfl, rfl, rfl⟩ := h2
  exact rule_real_1_ok 61 en_61 (fun x y => rule_changes_6 x y) (fun x y z h => rule_changes_6_ok x y h) x0 a y0 hz
theorem phi_18 : Phi 18 62 [] := fun x0 x1 a y0 y1 c h => rule_join_ok x0 a y0 (r := (c, x1, y1)) (by simpa [rule_change] using h)
theorem phi_19 : Phi 19 63 [] := fun x0 x1 a y0 y1 c h => rule_changes_7_ok x0 a y0 (r := (c, x1, y1)) (by simpa [rule_change] using h)
theorem phi_20 : Phi 20 66 [] := fun x0 x1 a y0 y1 c h => rule_changes_8_ok x0 a y0 (r := (c, x1, y1)) (by simpa [rule_change] using h)
theorem phi_21 : Phi 21 67 [] := fun x0 x1 a y0 y1 c h => rule_offer_ok x0 a y0 (r := (c, x1, y1)) (by simpa [rule_change] using h)
theorem ob_buildTab {N d : Nat} {o : Oper} {uses : Slots} (hop : o.op = .build 56 #[(5, .func 49), (6, .func 50), (7, .func 51), (8, .func 52), (9, .func 53), (12, .func 53), (10, .func 54), (11, .func 55), (13, .tmp 1), (14, .tmp 2), (15, .tmp 3), (16, .tmp 4), (17, .tmp 5), (18, .func 62), (19, .func 63), (20, .func 66), (21, .func 67)]) (hd : o.dst = some d) (h1 : Opd uses (.tmp 1) (pClo 85 [(Kd.fnc.ptr 57)] rfl)) (h2 : Opd uses (.tmp 2) (pClo 85 [(Kd.fnc.ptr 58)] rfl)) (h3 : Opd uses (.tmp 3) (pClo 85 [(Kd.fnc.ptr 59)] rfl)) (h4 : Opd uses (.tmp 4) (pClo 85 [(Kd.fnc.ptr 60)] rfl)) (h5 : Opd uses (.tmp 5) (pClo 85 [(Kd.fnc.ptr 61)] rfl)) : OB Tryd.prog N o uses [(d, ((Kd.tab Tryd.prog 22 (by decide)).pd tabT))] [] :=
  ob_val hd fun a g hh => by
    obtain ⟨c1, e1, k1⟩ := h1 a g hh
    obtain ⟨c2, e2, k2⟩ := h2 a g hh
    obtain ⟨c3, e3, k3⟩ := h3 a g hh
    obtain ⟨c4, e4, k4⟩ := h4 a g hh
    obtain ⟨c5, e5, k5⟩ := h5 a g hh
    refine ⟨.agg #[.nilFunc, .nilFunc, .nilFunc, .nilFunc, .nilFunc, .func (.func 49) #[] #[], .func (.func 50) #[] #[], .func (.func 51) #[] #[], .func (.func 52) #[] #[], .func (.func 53) #[] #[], .func (.func 54) #[] #[], .func (.func 55) #[] #[], .func (.func 53) #[] #[], .func (.func 85) #[] c1.toArray, .func (.func 85) #[] c2.toArray, .func (.func 85) #[] c3.toArray, .func (.func 85) #[] c4.toArray, .func (.func 85) #[] c5.toArray, .func (.func 62) #[] #[], .func (.func 63) #[] #[], .func (.func 66) #[] #[], .func (.func 67) #[] #[]], ?_, [.nilFunc, .nilFunc, .nilFunc, .nilFunc, .nilFunc, .func (.func 49) #[] #[], .func (.func 50) #[] #[], .func (.func 51) #[] #[], .func (.func 52) #[] #[], .func (.func 53) #[] #[], .func (.func 54) #[] #[], .func (.func 55) #[] #[], .func (.func 53) #[] #[], .func (.func 85) #[] c1.toArray, .func (.func 85) #[] c2.toArray, .func (.func 85) #[] c3.toArray, .func (.func 85) #[] c4.toArray, .func (.func 85) #[] c5.toArray, .func (.func 62) #[] #[], .func (.func 63) #[] #[], .func (.func 66) #[] #[], .func (.func 67) #[] #[]], ⟨rfl, ?_, ?_⟩, rfl⟩
    · simp only [execOp, hop, Sem.run_bind, Sem.run_pure, Result.andThen_ok, List.map_toArray, List.map_cons, List.map_nil, e1, e2, e3, e4, e5]
      rw [run_buildArr Tryd.underlying56 (zero := .agg #[.nilFunc, .nilFunc, .nilFunc, .nilFunc, .nilFunc, .nilFunc, .nilFunc, .nilFunc, .nilFunc, .nilFunc, .nilFunc, .nilFunc, .nilFunc, .nilFunc, .nilFunc, .nilFunc, .nilFunc, .nilFunc, .nilFunc, .nilFunc, .nilFunc, .nilFunc]) (by kernel_rfl) (by kernel_rfl) (cells := #[.nilFunc, .nilFunc, .nilFunc, .nilFunc, .nilFunc, .func (.func 49) #[] #[], .func (.func 50) #[] #[], .func (.func 51) #[] #[], .func (.func 52) #[] #[], .func (.func 53) #[] #[], .func (.func 54) #[] #[], .func (.func 55) #[] #[], .func (.func 53) #[] #[], .func (.func 85) #[] c1.toArray, .func (.func 85) #[] c2.toArray, .func (.func 85) #[] c3.toArray, .func (.func 85) #[] c4.toArray, .func (.func 85) #[] c5.toArray, .func (.func 62) #[] #[], .func (.func 63) #[] #[], .func (.func 66) #[] #[], .func (.func 67) #[] #[]]) (by kernel_rfl) g.w]
      rfl
    · intro u hu
      simp only [List.mem_cons, List.not_mem_nil, or_false] at hu
      rcases hu with rfl | rfl | rfl | rfl | rfl | rfl | rfl | rfl | rfl | rfl | rfl | rfl | rfl | rfl | rfl | rfl | rfl | rfl | rfl | rfl | rfl | rfl <;> rfl
    · intro k F u hF hu
      unfold tabT at hF
      split at hF
      · rename_i hk
        obtain rfl := Option.some.inj hF
        obtain ⟨hk1, hk2⟩ := hk
        have hk : k = 5 ∨ k = 6 ∨ k = 7 ∨ k = 8 ∨ k = 9 ∨ k = 10 ∨ k = 11 ∨ k = 12 ∨ k = 13 ∨ k = 14 ∨ k = 15 ∨ k = 16 ∨ k = 17 ∨ k = 18 ∨ k = 19 ∨ k = 20 ∨ k = 21 := by omega
        rcases hk with rfl | rfl | rfl | rfl | rfl | rfl | rfl | rfl | rfl | rfl | rfl | rfl | rfl | rfl | rfl | rfl | rfl
        · obtain rfl := Option.some.inj hu; exact ⟨49, [], [], rfl, en_49, rfl, phi_5, argsOk_nil, fun q hq => by cases hq⟩
        · obtain rfl := Option.some.inj hu; exact ⟨50, [], [], rfl, en_50, rfl, phi_6, argsOk_nil, fun q hq => by cases hq⟩
        · obtain rfl := Option.some.inj hu; exact ⟨51, [], [], rfl, en_51, rfl, phi_7, argsOk_nil, fun q hq => by cases hq⟩
        · obtain rfl := Option.some.inj hu; exact ⟨52, [], [], rfl, en_52, rfl, phi_8, argsOk_nil, fun q hq => by cases hq⟩
        · obtain rfl := Option.some.inj hu; exact ⟨53, [], [], rfl, en_53, rfl, phi_9, argsOk_nil, fun q hq => by cases hq⟩
        · obtain rfl := Option.some.inj hu; exact ⟨54, [], [], rfl, en_54, rfl, phi_10, argsOk_nil, fun q hq => by cases hq⟩
        · obtain rfl := Option.some.inj hu; exact ⟨55, [], [], rfl, en_55, rfl, phi_11, argsOk_nil, fun q hq => by cases hq⟩
        · obtain rfl := Option.some.inj hu; exact ⟨53, [], [], rfl, en_53, rfl, phi_12, argsOk_nil, fun q hq => by cases hq⟩
        · obtain rfl := Option.some.inj hu; exact ⟨85, _, c1, rfl, en_85, rfl, phi_13, k1, fnc_ptr_mono⟩
        · obtain rfl := Option.some.inj hu; exact ⟨85, _, c2, rfl, en_85, rfl, phi_14, k2, fnc_ptr_mono⟩
        · obtain rfl := Option.some.inj hu; exact ⟨85, _, c3, rfl, en_85, rfl, phi_15, k3, fnc_ptr_mono⟩
        · obtain rfl := Option.some.inj hu; exact ⟨85, _, c4, rfl, en_85, rfl, phi_16, k4, fnc_ptr_mono⟩
        · obtain rfl := Option.some.inj hu; exact ⟨85, _, c5, rfl, en_85, rfl, phi_17, k5, fnc_ptr_mono⟩
        · obtain rfl := Option.some.inj hu; exact ⟨62, [], [], rfl, en_62, rfl, phi_18, argsOk_nil, fun q hq => by cases hq⟩
        · obtain rfl := Option.some.inj hu; exact ⟨63, [], [], rfl, en_63, rfl, phi_19, argsOk_nil, fun q hq => by cases hq⟩
        · obtain rfl := Option.some.inj hu; exact ⟨66, [], [], rfl, en_66, rfl, phi_20, argsOk_nil, fun q hq => by cases hq⟩
        · obtain rfl := Option.some.inj hu; exact ⟨67, [], [], rfl, en_67, rfl, phi_21, argsOk_nil, fun q hq => by cases hq⟩
      · cases hF
theorem ty_tab : Ty Tryd.prog 56 (Kd.tab Tryd.prog 22 (by decide)) := ⟨by kernel_rfl, by kernel_rfl⟩
theorem rule_changes_ok : FnOk Tryd.prog 28 [] (pTab Tryd.prog 22 tabT) := by
  refine fn_ok (N := 7) Tryd.func28 rfl rfl (Nat.le_of_ble_eq_true rfl) rfl rfl (fun a g0 hst hb => ?_)
  refine r_s (L := []) (T := [⟨[], [(0, (pBox (Kd.tab Tryd.prog 22 (by decide)) 0 (fun _ => none)))], [1], [], [0]⟩]) (F := [.op 0 0]) hst hb follows
    (o_p rfl (ob_alloc (zs := [.nilFunc, .nilFunc, .nilFunc, .nilFunc, .nilFunc, .nilFunc, .nilFunc, .nilFunc, .nilFunc, .nilFunc, .nilFunc, .nilFunc, .nilFunc, .nilFunc, .nilFunc, .nilFunc, .nilFunc, .nilFunc, .nilFunc, .nilFunc, .nilFunc, .nilFunc]) (by kernel_rfl) (fun g => ⟨rfl, by decide, fun k F u h => by cases h⟩) rfl rfl) <|
     o_n) (by kernel_rfl) (fun a g hst hb => ?_)
  refine r_s (L := [(0, _)]) (T := [⟨[], _, [], [], [1]⟩, ⟨[], _, [], [0], [2]⟩, ⟨[], _, [], [0, 1], [3]⟩, ⟨[], _, [], [0, 1, 2], [4]⟩, ⟨[], _, [], [0, 1, 2, 3], [5]⟩, ⟨[.op 0 0, .op 1 0, .op 2 0, .op 3 0, .op 4 0], _, [], [0, 1, 2, 3, 4], [6]⟩, ⟨[.op 5 0, .old 0], [(0, (pBox (Kd.tab Tryd.prog 22 (by decide)) 0 tabT))], [1], [0, 1, 2, 3, 4, 5], [0]⟩]) (F := [.op 6 0]) hst hb follows
    (o_p rfl (ob_call en_56 (rule_real_ok 57) rfl rfl (.cons Opd.fncv .nil)) <|
     o_p rfl (ob_call en_56 (rule_real_ok 58) rfl rfl (.cons Opd.fncv .nil)) <|
     o_p rfl (ob_call en_56 (rule_real_ok 59) rfl rfl (.cons Opd.fncv .nil)) <|
     o_p rfl (ob_call en_56 (rule_real_ok 60) rfl rfl (.cons Opd.fncv .nil)) <|
     o_p rfl (ob_call en_56 (rule_real_ok 61) rfl rfl (.cons Opd.fncv .nil)) <|
     o_p rfl (ob_buildTab rfl rfl u_0 u_1 u_2 u_3 u_4) <|
     o_p rfl (ob_store ty_tab rfl rfl u_1 u_0) <|
     o_n) (by kernel_rfl) (fun a g hst hb => ?_)
  refine wp_ret ?_
  obtain ⟨u0, hu0, hq0⟩ := res_box (P := Tryd.prog) ty_tab (hst.at 0 rfl)
  exact endR1 rfl hst hb hu0 (tab_pTab hq0)
end Go.CL

set_option linter.unusedVariables false
set_option linter.unusedSimpArgs false
set_option maxRecDepth 100000
namespace Go.CL
open Go Go.RowKit Go.Proofs
theorem rule_Apply_ok (a0 : api_Record) (a1 : Bool) (a2 : api_Act) {r : api_Record × Bool × api_Answer} (h : rule_Apply a0 a1 a2 = some r) : FnOk Tryd.prog 11 [(k_api_Record.pd a0), (pBool a1), (k_api_Act.pd a2)] (pTup [(k_api_Record.pd r.1), (pBool r.2.1), (k_api_Answer.pd r.2.2)]) := by
  have H0 := h
  unfold rule_Apply at H0
  clear h
  refine fn_ok (N := 123) Tryd.func11 rfl rfl (Nat.le_of_ble_eq_true rfl) rfl rfl (fun a g0 hst hb => ?_)
  refine r_s (L := [(0, _), (1, _), (2, _)]) (T := [⟨[.old 0], _, [4], [], [3]⟩, ⟨[.old 1], _, [], [], [4]⟩, ⟨[.old 2], _, [], [], [5]⟩, ⟨[], [(6, (pBox k_api_Record 6 (default : api_Record)))], [7], [], [6]⟩, ⟨[], _, [], [], [7]⟩, ⟨[], [(8, (pBox k_api_Answer 8 (default : api_Answer)))], [9], [], [8]⟩]) (F := [.op 0 0, .op 1 0, .op 2 0, .op 3 0, .op 5 0]) hst hb follows
    (o_p rfl (ob_boxM rfl rfl u_0) <|
     o_p rfl (ob_box1 rfl rfl u_0) <|
     o_p rfl (ob_box1 rfl rfl u_0) <|
     o_p rfl (ob_alloc (zs := [.int .i64 0, .int .i64 0, .int .i64 0, .int .i64 0, .float .f64 0, .int .i64 0, .string ByteArray.empty, .slice none 0 0]) (by kernel_rfl) (fun g => zk_api_Record g) rfl rfl) <|
     o_p rfl (ob_assign rfl rfl c_b) <|
     o_p rfl (ob_alloc (zs := [.int .i64 0, .int .i64 0, .int .i64 0, .int .i64 0, .int .i64 0, .int .i64 0, .float .f64 0, .int .i64 0, .string ByteArray.empty, .slice none 0 0]) (by kernel_rfl) (fun g => zk_api_Answer g) rfl rfl) <|
     o_n) (by kernel_rfl) (fun a g hst hb => ?_)
  refine wp_seq ?_
  refine r_s (L := [(3, _), (4, _), (5, _), (6, _), (8, _)]) (T := [⟨[.old 1], _, [], [], [15]⟩, ⟨[.op 0 0], _, [], [0], [16]⟩]) (F := [.old 0, .old 1, .old 2, .old 3, .old 4, .op 1 0]) hst hb follows
    (o_p rfl (ob_load ty_4 rfl rfl u_0) <|
     o_p rfl (ob_not rfl rfl u_0) <|
     o_n) (by kernel_rfl) (fun a g hst hb => ?_)
  refine wp_cut (fun a w => ∃ (j2 : api_Record) (g : G), w = g.w ∧ St 123 [(3, (pBox k_api_Record 3 j2)), (4, (Kd.bool.ptr a1)), (5, (k_api_Act.ptr a2)), (6, (pBox k_api_Record 6 (default : api_Record))), (8, (pBox k_api_Answer 8 (default : api_Answer)))] a g ∧ Base g0 g ∧ rule_Apply_j1 a1 a2 j2 = some r) ?_ ?_
  · rintro a w ⟨j2, g, rfl, hst, hb, H0⟩
    unfold rule_Apply_j1 at H0
    refine then_n ?_
    obtain ⟨r3, h4, H0⟩ := of_bind H0
    refine r_s (L := [(3, _), (4, _), (5, _), (6, _), (8, _)]) (T := [⟨[.old 0], _, [], [], [18]⟩, ⟨[.op 0 0], _, [], [0], [19]⟩, ⟨[.op 1 0, .old 0], _, [4], [0, 1], [3]⟩]) (F := [.op 2 0, .old 1, .old 2, .old 3, .old 4]) hst hb follows
      (o_p rfl (ob_loadM ty_25 rfl rfl u_0) <|
       o_p rfl (ob_call en_20 (rec_Clone_ok _ h4) rfl rfl (.cons u_0 .nil)) <|
       o_p rfl (ob_store ty_25 rfl rfl u_1 u_0) <|
       o_n) (by kernel_rfl) (fun a g hst hb => ?_)
    refine r_s (L := [(3, _), (4, _), (5, _), (6, _), (8, _)]) (T := [⟨[.old 0, .old 1], _, [], [], [20]⟩, ⟨[.op 0 0], _, [], [0], [9]⟩]) (F := [.old 0, .old 1, .old 2, .old 3, .old 4, .op 1 0]) hst hb follows
      (o_p rfl (ob_makeFuncB rfl rfl (.cons u_0 (.cons u_1 .nil))) <|
       o_p rfl (ob_assign rfl rfl u_0) <|
       o_n) (by kernel_rfl) (fun a g hst hb => ?_)
    refine wp_seq ?_
    obtain ⟨r5, h6, H0⟩ := of_bind H0
    refine r_s (L := [(3, _), (4, _), (5, _), (6, _), (8, _), (9, _)]) (T := [⟨[.old 2], _, [], [], [21]⟩, ⟨[.op 0 0], _, [], [0], [22]⟩, ⟨[.op 1 0], _, [], [0, 1], [10]⟩]) (F := [.old 0, .old 1, .old 2, .old 3, .old 4, .old 5, .op 2 0]) hst hb follows
      (o_p rfl (ob_load ty_27 rfl rfl u_0) <|
       o_p rfl (ob_call en_26 (act_Check_ok _ h6) rfl rfl (.cons u_0 .nil)) <|
       o_p rfl (ob_assign rfl rfl u_0) <|
       o_n) (by kernel_rfl) (fun a g hst hb => ?_)
    refine r_s (L := [(3, _), (4, _), (5, _), (6, _), (8, _), (9, _), (10, _)]) (T := [⟨[.old 6], _, [], [], [23]⟩, ⟨[.op 0 0], _, [], [0], [24]⟩]) (F := [.old 0, .old 1, .old 2, .old 3, .old 4, .old 5, .old 6, .op 1 0]) hst hb follows
      (o_p rfl (ob_move rfl rfl u_0) <|
       o_p rfl (ob_ne rfl rfl u_0 c_i) <|
       o_n) (by kernel_rfl) (fun a g hst hb => ?_)
    refine wp_cond_split (hst.bool 7 rfl) (fun hc7 => ?_) (fun hc7 => ?_)
    · replace H0 := ite_t hc7 H0
      obtain ⟨r8, h9, H0⟩ := of_bind H0
      refine r_s (L := [(3, _), (4, _), (6, _), (8, _), (9, _), (10, _)]) (T := [⟨[.old 4], _, [], [], [25]⟩, ⟨[.old 5], _, [], [], [26]⟩, ⟨[.op 0 0, .op 1 0, .old 0], [(27, (pTup [(k_api_Record.pd r8.1), (pBool r8.2.1), (k_api_Answer.pd r8.2.2.1)])), (3, (pBox k_api_Record 3 r8.2.2.2))], [4], [0, 1], [3, 9, 25, 27]⟩, ⟨[.op 2 0], _, [], [0, 1, 2], [28]⟩, ⟨[.op 2 0], _, [], [0, 1, 2], [29]⟩, ⟨[.op 2 0], _, [], [0, 1, 2], [30]⟩, ⟨[.op 3 0, .old 2], _, [7], List.range 6, [6]⟩, ⟨[.op 4 0], _, [], List.range 7, [7]⟩, ⟨[.op 5 0, .old 3], _, [9], List.range 8, [8]⟩]) (F := [.op 2 1, .old 1, .op 6 0, .op 7 0, .op 8 0]) (hst.pick [0, 1, 3, 4, 5, 6] rfl) hb follows
        (o_p rfl (ob_move rfl rfl u_0) <|
         o_p rfl (ob_move rfl rfl u_0) <|
         o_p rfl (ob_callCB2 (Ps := [.val (pInt .i64 r5)]) (hs := []) (ks := [(3, none, 3)]) en_25 (rule_Apply_1_ok _ _ _ h9) rfl rfl rfl u_0 (.val u_1 .nil) (.box u_2 rfl (.val .nil)) rfl rfl rfl rfl) <|
         o_p rfl (ob_extract rfl rfl u_0 rfl) <|
         o_p rfl (ob_extract rfl rfl u_0 rfl) <|
         o_p rfl (ob_extract rfl rfl u_0 rfl) <|
         o_p rfl (ob_store ty_25 rfl rfl u_1 u_0) <|
         o_p rfl (ob_assign rfl rfl u_0) <|
         o_p rfl (ob_store ty_32 rfl rfl u_1 u_0) <|
         o_n) (by kernel_rfl) (fun a g hst hb => ?_)
      refine wp_ret ?_
      refine then_r ?_
      obtain rfl := Option.some.inj H0
      obtain ⟨u0, hu0, hq0⟩ := res_box (P := Tryd.prog) ty_25 (hst.at 2 rfl)
      obtain ⟨u2, hu2, hq2⟩ := res_box (P := Tryd.prog) ty_32 (hst.at 4 rfl)
      exact endR3 rfl hst hb hu0 (res_tmp (s := 7)) hu2 (pTup_3 hq0 (hst.at 3 rfl) hq2)
    · replace H0 := ite_f hc7 H0
      refine wp_skip ?_
      refine then_n ?_
      refine wp_seq ?_
      refine r_s (L := [(3, _), (4, _), (5, _), (6, _), (8, _), (9, _)]) (T := [⟨[.old 1], _, [], [], [31]⟩]) (F := [.old 0, .old 1, .old 2, .old 3, .old 4, .old 5, .op 0 0]) (hst.pick [0, 1, 2, 3, 4, 5] rfl) hb follows
        (o_p rfl (ob_load ty_4 rfl rfl u_0) <|
         o_n) (by kernel_rfl) (fun a g hst hb => ?_)
      refine wp_cut (fun a w => ∃ (g : G), w = g.w ∧ St 123 [(3, (pBox k_api_Record 3 r3)), (4, (Kd.bool.ptr a1)), (5, (k_api_Act.ptr a2)), (6, (pBox k_api_Record 6 (default : api_Record))), (8, (pBox k_api_Answer 8 (default : api_Answer))), (9, (pCloB 25 [(pBox k_api_Record 3 r3), (Kd.bool.ptr a1)]))] a g ∧ Base g0 g ∧ rule_Apply_j2 a1 a2 r3 = some r) ?_ ?_
      · rintro a w ⟨g, rfl, hst, hb, H0⟩
        unfold rule_Apply_j2 at H0
        refine then_n ?_
        refine wp_seq ?_
        refine wp_block ?_
        refine r_s (L := [(3, _), (4, _), (5, _), (6, _), (8, _), (9, _)]) (T := [⟨[.old 2], _, [], [], [43]⟩, ⟨[.op 0 0], _, [], [0], [44]⟩, ⟨[.op 1 0], _, [], [0, 1], [45]⟩, ⟨[.op 2 0], _, [], [0, 1, 2], [46]⟩, ⟨[.op 3 0, .old 1], _, [], List.range 4, [47]⟩, ⟨[.op 3 0, .op 4 0], _, [], List.range 5, [48]⟩, ⟨[.op 5 0], _, [], List.range 6, [42]⟩]) (F := [.old 0, .old 1, .old 2, .old 3, .old 4, .old 5, .op 6 0]) hst hb follows
          (o_p rfl (ob_fieldAddr fl_27_0 rfl rfl u_0) <|
           o_p rfl (ob_load ty_3 rfl rfl u_0) <|
           o_p rfl (ob_eq rfl rfl u_0 c_i) <|
           o_p rfl (ob_move rfl rfl u_0) <|
           o_g (g_t rfl rfl rfl (fun hG => ob_load ty_4 rfl rfl u_0)) <|
           o_p rfl (ob_pand rfl rfl u_0 (fun hz => (Opd.gd hz u_1))) <|
           o_p rfl (ob_assign rfl rfl u_0) <|
           o_n) (by kernel_rfl) (fun a g hst hb => ?_)
        refine wp_cond_split (hst.bool 6 rfl) (fun hc16 => ?_) (fun hc16 => ?_)
        · replace H0 := ite_t hc16 H0
          obtain ⟨r17, h18, H0⟩ := of_bind H0
          refine r_s (L := [(3, _), (4, _), (6, _), (8, _), (9, _)]) (T := [⟨[.old 4], _, [], [], [49]⟩, ⟨[.op 0 0, .old 0], [(50, (pTup [(k_api_Record.pd r17.1), (pBool r17.2.1), (k_api_Answer.pd r17.2.2.1)])), (3, (pBox k_api_Record 3 r17.2.2.2))], [4], [0], [3, 9, 49, 50]⟩, ⟨[.op 1 0], _, [], [0, 1], [51]⟩, ⟨[.op 1 0], _, [], [0, 1], [52]⟩, ⟨[.op 1 0], _, [], [0, 1], [53]⟩, ⟨[.op 2 0, .old 2], _, [7], List.range 5, [6]⟩, ⟨[.op 3 0], _, [], List.range 6, [7]⟩, ⟨[.op 4 0, .old 3], _, [9], List.range 7, [8]⟩]) (F := [.op 1 1, .old 1, .op 5 0, .op 6 0, .op 7 0]) (hst.pick [0, 1, 3, 4, 5] rfl) hb follows
            (o_p rfl (ob_move rfl rfl u_0) <|
             o_p rfl (ob_callCB2 (Ps := [.val (pInt .i64 (7 : Int))]) (hs := []) (ks := [(3, none, 3)]) en_25 (rule_Apply_1_ok _ _ _ h18) rfl rfl rfl u_0 (.val c_i .nil) (.box u_1 rfl (.val .nil)) rfl rfl rfl rfl) <|
             o_p rfl (ob_extract rfl rfl u_0 rfl) <|
             o_p rfl (ob_extract rfl rfl u_0 rfl) <|
             o_p rfl (ob_extract rfl rfl u_0 rfl) <|
             o_p rfl (ob_store ty_25 rfl rfl u_1 u_0) <|
             o_p rfl (ob_assign rfl rfl u_0) <|
             o_p rfl (ob_store ty_32 rfl rfl u_1 u_0) <|
             o_n) (by kernel_rfl) (fun a g hst hb => ?_)
          refine wp_ret ?_
          refine inBlock_r ?_
          refine then_r ?_
          obtain rfl := Option.some.inj H0
          obtain ⟨u0, hu0, hq0⟩ := res_box (P := Tryd.prog) ty_25 (hst.at 2 rfl)
          obtain ⟨u2, hu2, hq2⟩ := res_box (P := Tryd.prog) ty_32 (hst.at 4 rfl)
          exact endR3 rfl hst hb hu0 (res_tmp (s := 7)) hu2 (pTup_3 hq0 (hst.at 3 rfl) hq2)
        · replace H0 := ite_f hc16 H0
          refine r_s (L := [(3, _), (4, _), (5, _), (6, _), (8, _), (9, _)]) (T := [⟨[.old 2], _, [], [], [55]⟩, ⟨[.op 0 0], _, [], [0], [56]⟩, ⟨[.op 1 0], _, [], [0, 1], [57]⟩, ⟨[.op 2 0], _, [], [0, 1, 2], [54]⟩]) (F := [.old 0, .old 1, .old 2, .old 3, .old 4, .old 5, .op 3 0]) (hst.pick [0, 1, 2, 3, 4, 5] rfl) hb follows
            (o_p rfl (ob_fieldAddr fl_27_0 rfl rfl u_0) <|
             o_p rfl (ob_load ty_3 rfl rfl u_0) <|
             o_p rfl (ob_eq rfl rfl u_0 c_i) <|
             o_p rfl (ob_assign rfl rfl u_0) <|
             o_n) (by kernel_rfl) (fun a g hst hb => ?_)
          refine wp_cond_split (hst.bool 6 rfl) (fun hc19 => ?_) (fun hc19 => ?_)
          · replace H0 := ite_t hc19 H0
            obtain ⟨r20, h21, H0⟩ := of_bind H0
            refine r_s (L := [(3, _), (4, _), (5, _), (6, _), (8, _)]) (T := [⟨[.old 2], _, [], [], [58]⟩, ⟨[.op 0 0], _, [], [0], [59]⟩, ⟨[.op 1 0], _, [], [0, 1], [60]⟩, ⟨[], _, [], [], [61]⟩, ⟨[.op 2 0, .old 3], _, [7], [0, 1, 2], [6]⟩, ⟨[], _, [], [0, 1, 2, 4], [7]⟩, ⟨[.op 3 0, .old 4], _, [9], List.range 6, [8]⟩]) (F := [.old 0, .old 1, .op 4 0, .op 5 0, .op 6 0]) (hst.pick [0, 1, 2, 3, 4] rfl) hb follows
              (o_p rfl (ob_fieldAddr fl_27_5 rfl rfl u_0) <|
               o_p rfl (ob_load ty_25 rfl rfl u_0) <|
               o_p rfl (ob_call en_20 (rec_Clone_ok _ h21) rfl rfl (.cons u_0 .nil)) <|
               o_p rfl (bd_32_ rfl rfl ) <|
               o_p rfl (ob_store ty_25 rfl rfl u_1 u_0) <|
               o_p rfl (ob_assign rfl rfl c_b) <|
               o_p rfl (ob_store ty_32 rfl rfl u_1 u_0) <|
               o_n) (by kernel_rfl) (fun a g hst hb => ?_)
            refine wp_ret ?_
            refine inBlock_r ?_
            refine then_r ?_
            obtain rfl := Option.some.inj H0
            obtain ⟨u0, hu0, hq0⟩ := res_box (P := Tryd.prog) ty_25 (hst.at 2 rfl)
            obtain ⟨u2, hu2, hq2⟩ := res_box (P := Tryd.prog) ty_32 (hst.at 4 rfl)
            exact endR3 rfl hst hb hu0 (res_tmp (s := 7)) hu2 (pTup_3 hq0 (hst.at 3 rfl) hq2)
          · replace H0 := ite_f hc19 H0
            refine r_s (L := [(3, _), (4, _), (5, _), (6, _), (8, _), (9, _)]) (T := [⟨[.old 2], _, [], [], [63]⟩, ⟨[.op 0 0], _, [], [0], [64]⟩, ⟨[.op 1 0], _, [], [0, 1], [65]⟩, ⟨[.op 2 0], _, [], [0, 1, 2], [62]⟩]) (F := [.old 0, .old 1, .old 2, .old 3, .old 4, .old 5, .op 3 0]) (hst.pick [0, 1, 2, 3, 4, 5] rfl) hb follows
              (o_p rfl (ob_fieldAddr fl_27_0 rfl rfl u_0) <|
               o_p rfl (ob_load ty_3 rfl rfl u_0) <|
               o_p rfl (ob_eq rfl rfl u_0 c_i) <|
               o_p rfl (ob_assign rfl rfl u_0) <|
               o_n) (by kernel_rfl) (fun a g hst hb => ?_)
            refine wp_cond_split (hst.bool 6 rfl) (fun hc22 => ?_) (fun hc22 => ?_)
            · replace H0 := ite_t hc22 H0
              refine r_s (L := [(3, _), (4, _), (6, _), (8, _)]) (T := [⟨[.old 0], _, [], [], [66]⟩, ⟨[.old 1], _, [], [], [67]⟩, ⟨[.old 0], _, [], [], [68]⟩, ⟨[.op 2 0], _, [], [2], [69]⟩, ⟨[.op 3 0], _, [], [2, 3], [70]⟩, ⟨[.op 0 0, .old 2], _, [7], [0], [6]⟩, ⟨[.op 1 0], _, [], [0, 1, 5], [7]⟩, ⟨[.op 4 0, .old 3], _, [9], List.range 7, [8]⟩]) (F := [.old 0, .old 1, .op 5 0, .op 6 0, .op 7 0]) (hst.pick [0, 1, 3, 4] rfl) hb follows
                (o_p rfl (ob_loadM ty_25 rfl rfl u_0) <|
                 o_p rfl (ob_load ty_4 rfl rfl u_0) <|
                 o_p rfl (ob_fieldAddrM fl_25_0 (off := 0) (by kernel_rfl) rfl rfl u_0) <|
                 o_p rfl (ob_loadP ty_3 rfl rfl u_0) <|
                 o_p rfl (bd_32_1 rfl rfl u_0) <|
                 o_p rfl (ob_store ty_25 rfl rfl u_1 u_0) <|
                 o_p rfl (ob_assign rfl rfl u_0) <|
                 o_p rfl (ob_store ty_32 rfl rfl u_1 u_0) <|
                 o_n) (by kernel_rfl) (fun a g hst hb => ?_)
              refine wp_ret ?_
              refine inBlock_r ?_
              refine then_r ?_
              obtain rfl := Option.some.inj H0
              obtain ⟨u0, hu0, hq0⟩ := res_box (P := Tryd.prog) ty_25 (hst.at 2 rfl)
              obtain ⟨u2, hu2, hq2⟩ := res_box (P := Tryd.prog) ty_32 (hst.at 4 rfl)
              exact endR3 rfl hst hb hu0 (res_tmp (s := 7)) hu2 (pTup_3 hq0 (hst.at 3 rfl) hq2)
            · replace H0 := ite_f hc22 H0
              refine r_s (L := [(3, _), (4, _), (5, _), (6, _), (8, _), (9, _)]) (T := [⟨[.old 1], _, [], [], [72]⟩, ⟨[.op 0 0], _, [], [0], [73]⟩, ⟨[.op 1 0], _, [], [0, 1], [71]⟩]) (F := [.old 0, .old 1, .old 2, .old 3, .old 4, .old 5, .op 2 0]) (hst.pick [0, 1, 2, 3, 4, 5] rfl) hb follows
                (o_p rfl (ob_load ty_4 rfl rfl u_0) <|
                 o_p rfl (ob_not rfl rfl u_0) <|
                 o_p rfl (ob_assign rfl rfl u_0) <|
                 o_n) (by kernel_rfl) (fun a g hst hb => ?_)
              refine wp_cond_split (hst.bool 6 rfl) (fun hc23 => ?_) (fun hc23 => ?_)
              · replace H0 := ite_t hc23 H0
                obtain ⟨r24, h25, H0⟩ := of_bind H0
                refine r_s (L := [(3, _), (4, _), (6, _), (8, _), (9, _)]) (T := [⟨[.old 4], _, [], [], [74]⟩, ⟨[.op 0 0, .old 0], [(75, (pTup [(k_api_Record.pd r24.1), (pBool r24.2.1), (k_api_Answer.pd r24.2.2.1)])), (3, (pBox k_api_Record 3 r24.2.2.2))], [4], [0], [3, 9, 74, 75]⟩, ⟨[.op 1 0], _, [], [0, 1], [76]⟩, ⟨[.op 1 0], _, [], [0, 1], [77]⟩, ⟨[.op 1 0], _, [], [0, 1], [78]⟩, ⟨[.op 2 0, .old 2], _, [7], List.range 5, [6]⟩, ⟨[.op 3 0], _, [], List.range 6, [7]⟩, ⟨[.op 4 0, .old 3], _, [9], List.range 7, [8]⟩]) (F := [.op 1 1, .old 1, .op 5 0, .op 6 0, .op 7 0]) (hst.pick [0, 1, 3, 4, 5] rfl) hb follows
                  (o_p rfl (ob_move rfl rfl u_0) <|
                   o_p rfl (ob_callCB2 (Ps := [.val (pInt .i64 (6 : Int))]) (hs := []) (ks := [(3, none, 3)]) en_25 (rule_Apply_1_ok _ _ _ h25) rfl rfl rfl u_0 (.val c_i .nil) (.box u_1 rfl (.val .nil)) rfl rfl rfl rfl) <|
                   o_p rfl (ob_extract rfl rfl u_0 rfl) <|
                   o_p rfl (ob_extract rfl rfl u_0 rfl) <|
                   o_p rfl (ob_extract rfl rfl u_0 rfl) <|
                   o_p rfl (ob_store ty_25 rfl rfl u_1 u_0) <|
                   o_p rfl (ob_assign rfl rfl u_0) <|
                   o_p rfl (ob_store ty_32 rfl rfl u_1 u_0) <|
                   o_n) (by kernel_rfl) (fun a g hst hb => ?_)
                refine wp_ret ?_
                refine inBlock_r ?_
                refine then_r ?_
                obtain rfl := Option.some.inj H0
                obtain ⟨u0, hu0, hq0⟩ := res_box (P := Tryd.prog) ty_25 (hst.at 2 rfl)
                obtain ⟨u2, hu2, hq2⟩ := res_box (P := Tryd.prog) ty_32 (hst.at 4 rfl)
                exact endR3 rfl hst hb hu0 (res_tmp (s := 7)) hu2 (pTup_3 hq0 (hst.at 3 rfl) hq2)
              · replace H0 := ite_f hc23 H0
                refine r_s (L := [(3, _), (4, _), (5, _), (6, _), (8, _), (9, _)]) (T := [⟨[.old 2], _, [], [], [80]⟩, ⟨[.op 0 0], _, [], [0], [81]⟩, ⟨[.op 1 0], _, [], [0, 1], [82]⟩, ⟨[.op 2 0], _, [], [0, 1, 2], [79]⟩]) (F := [.old 0, .old 1, .old 2, .old 3, .old 4, .old 5, .op 3 0]) (hst.pick [0, 1, 2, 3, 4, 5] rfl) hb follows
                  (o_p rfl (ob_fieldAddr fl_27_0 rfl rfl u_0) <|
                   o_p rfl (ob_load ty_3 rfl rfl u_0) <|
                   o_p rfl (ob_eq rfl rfl u_0 c_i) <|
                   o_p rfl (ob_assign rfl rfl u_0) <|
                   o_n) (by kernel_rfl) (fun a g hst hb => ?_)
                refine wp_cond_split (hst.bool 6 rfl) (fun hc26 => ?_) (fun hc26 => ?_)
                · replace H0 := ite_t hc26 H0
                  refine r_s (L := [(3, _), (4, _), (6, _), (8, _)]) (T := [⟨[], _, [], [], [83]⟩, ⟨[], _, [], [], [84]⟩, ⟨[.op 0 0, .old 2], _, [7], [0], [6]⟩, ⟨[], _, [], [0, 2], [7]⟩, ⟨[.op 1 0, .old 3], _, [9], List.range 4, [8]⟩]) (F := [.old 0, .old 1, .op 2 0, .op 3 0, .op 4 0]) (hst.pick [0, 1, 3, 4] rfl) hb follows
                    (o_p rfl (bd_25_ rfl rfl ) <|
                     o_p rfl (bd_32_ rfl rfl ) <|
                     o_p rfl (ob_store ty_25 rfl rfl u_1 u_0) <|
                     o_p rfl (ob_assign rfl rfl c_b) <|
                     o_p rfl (ob_store ty_32 rfl rfl u_1 u_0) <|
                     o_n) (by kernel_rfl) (fun a g hst hb => ?_)
                  refine wp_ret ?_
                  refine inBlock_r ?_
                  refine then_r ?_
                  obtain rfl := Option.some.inj H0
                  obtain ⟨u0, hu0, hq0⟩ := res_box (P := Tryd.prog) ty_25 (hst.at 2 rfl)
                  obtain ⟨u2, hu2, hq2⟩ := res_box (P := Tryd.prog) ty_32 (hst.at 4 rfl)
                  exact endR3 rfl hst hb hu0 (res_tmp (s := 7)) hu2 (pTup_3 hq0 (hst.at 3 rfl) hq2)
                · replace H0 := ite_f hc26 H0
                  refine r_s (L := [(3, _), (4, _), (5, _), (6, _), (8, _), (9, _)]) (T := [⟨[.old 2], _, [], [], [86]⟩, ⟨[.op 0 0], _, [], [0], [87]⟩, ⟨[.op 1 0], _, [], [0, 1], [88]⟩, ⟨[.op 2 0], _, [], [0, 1, 2], [85]⟩]) (F := [.old 0, .old 1, .old 2, .old 3, .old 4, .old 5, .op 3 0]) (hst.pick [0, 1, 2, 3, 4, 5] rfl) hb follows
                    (o_p rfl (ob_fieldAddr fl_27_0 rfl rfl u_0) <|
                     o_p rfl (ob_load ty_3 rfl rfl u_0) <|
                     o_p rfl (ob_eq rfl rfl u_0 c_i) <|
                     o_p rfl (ob_assign rfl rfl u_0) <|
                     o_n) (by kernel_rfl) (fun a g hst hb => ?_)
                  refine wp_cond_split (hst.bool 6 rfl) (fun hc27 => ?_) (fun hc27 => ?_)
                  · replace H0 := ite_t hc27 H0
                    obtain ⟨r28, h29, H0⟩ := of_bind H0
                    refine r_s (L := [(3, _), (4, _), (6, _), (8, _)]) (T := [⟨[.old 0], _, [], [], [89]⟩, ⟨[.old 1], _, [], [], [90]⟩, ⟨[.old 0], _, [], [], [91]⟩, ⟨[.op 2 0], _, [], [2], [92]⟩, ⟨[.op 3 0], _, [], [2, 3], [93]⟩, ⟨[.op 0 0, .old 2], _, [7], [0, 2, 3], [6]⟩, ⟨[.op 1 0], _, [], [0, 1, 2, 3, 5], [7]⟩, ⟨[.op 4 0, .old 3], _, [9], List.range 7, [8]⟩]) (F := [.old 0, .old 1, .op 5 0, .op 6 0, .op 7 0]) (hst.pick [0, 1, 3, 4] rfl) hb follows
                      (o_p rfl (ob_loadM ty_25 rfl rfl u_0) <|
                       o_p rfl (ob_load ty_4 rfl rfl u_0) <|
                       o_p rfl (ob_loadM ty_25 rfl rfl u_0) <|
                       o_p rfl (ob_call en_20 (rec_Clone_ok _ h29) rfl rfl (.cons u_0 .nil)) <|
                       o_p rfl (bd_32_2 rfl rfl u_0) <|
                       o_p rfl (ob_store ty_25 rfl rfl u_1 u_0) <|
                       o_p rfl (ob_assign rfl rfl u_0) <|
                       o_p rfl (ob_store ty_32 rfl rfl u_1 u_0) <|
                       o_n) (by kernel_rfl) (fun a g hst hb => ?_)
                    refine wp_ret ?_
                    refine inBlock_r ?_
                    refine then_r ?_
                    obtain rfl := Option.some.inj H0
                    obtain ⟨u0, hu0, hq0⟩ := res_box (P := Tryd.prog) ty_25 (hst.at 2 rfl)
                    obtain ⟨u2, hu2, hq2⟩ := res_box (P := Tryd.prog) ty_32 (hst.at 4 rfl)
                    exact endR3 rfl hst hb hu0 (res_tmp (s := 7)) hu2 (pTup_3 hq0 (hst.at 3 rfl) hq2)
                  · replace H0 := ite_f hc27 H0
                    obtain ⟨r30, h31, H0⟩ := of_bind H0
                    refine r_s (L := [(3, _), (4, _), (5, _), (6, _), (8, _), (9, _)]) (T := [⟨[.old 2], _, [], [], [95]⟩, ⟨[.op 0 0], _, [], [0], [96]⟩, ⟨[.op 1 0], _, [], [0, 1], [97]⟩, ⟨[.old 0], _, [], [], [98]⟩, ⟨[.op 3 0], _, [], [3], [99]⟩, ⟨[.op 2 0, .op 4 0], _, [], List.range 5, [100]⟩, ⟨[.op 5 0], _, [], List.range 6, [94]⟩]) (F := [.old 0, .old 1, .old 2, .old 3, .old 4, .old 5, .op 6 0]) (hst.pick [0, 1, 2, 3, 4, 5] rfl) hb follows
                      (o_p rfl (ob_fieldAddr fl_27_0 rfl rfl u_0) <|
                       o_p rfl (ob_load ty_3 rfl rfl u_0) <|
                       o_p rfl (ob_call en_27 (act_On_ok _ h31) rfl rfl (.cons u_0 .nil)) <|
                       o_p rfl (ob_fieldAddrM fl_25_0 (off := 0) (by kernel_rfl) rfl rfl u_0) <|
                       o_p rfl (ob_loadP ty_3 rfl rfl u_0) <|
                       o_p rfl (ob_ne rfl rfl u_0 u_1) <|
                       o_p rfl (ob_assign rfl rfl u_0) <|
                       o_n) (by kernel_rfl) (fun a g hst hb => ?_)
                    refine wp_cond_split (hst.bool 6 rfl) (fun hc32 => ?_) (fun hc32 => ?_)
                    · replace H0 := ite_t hc32 H0
                      obtain ⟨r33, h34, H0⟩ := of_bind H0
                      refine r_s (L := [(3, _), (4, _), (6, _), (8, _), (9, _)]) (T := [⟨[.old 4], _, [], [], [101]⟩, ⟨[.op 0 0, .old 0], [(102, (pTup [(k_api_Record.pd r33.1), (pBool r33.2.1), (k_api_Answer.pd r33.2.2.1)])), (3, (pBox k_api_Record 3 r33.2.2.2))], [4], [0], [3, 9, 101, 102]⟩, ⟨[.op 1 0], _, [], [0, 1], [103]⟩, ⟨[.op 1 0], _, [], [0, 1], [104]⟩, ⟨[.op 1 0], _, [], [0, 1], [105]⟩, ⟨[.op 2 0, .old 2], _, [7], List.range 5, [6]⟩, ⟨[.op 3 0], _, [], List.range 6, [7]⟩, ⟨[.op 4 0, .old 3], _, [9], List.range 7, [8]⟩]) (F := [.op 1 1, .old 1, .op 5 0, .op 6 0, .op 7 0]) (hst.pick [0, 1, 3, 4, 5] rfl) hb follows
                        (o_p rfl (ob_move rfl rfl u_0) <|
                         o_p rfl (ob_callCB2 (Ps := [.val (pInt .i64 (5 : Int))]) (hs := []) (ks := [(3, none, 3)]) en_25 (rule_Apply_1_ok _ _ _ h34) rfl rfl rfl u_0 (.val c_i .nil) (.box u_1 rfl (.val .nil)) rfl rfl rfl rfl) <|
                         o_p rfl (ob_extract rfl rfl u_0 rfl) <|
                         o_p rfl (ob_extract rfl rfl u_0 rfl) <|
                         o_p rfl (ob_extract rfl rfl u_0 rfl) <|
                         o_p rfl (ob_store ty_25 rfl rfl u_1 u_0) <|
                         o_p rfl (ob_assign rfl rfl u_0) <|
                         o_p rfl (ob_store ty_32 rfl rfl u_1 u_0) <|
                         o_n) (by kernel_rfl) (fun a g hst hb => ?_)
                      refine wp_ret ?_
                      refine inBlock_r ?_
                      refine then_r ?_
                      obtain rfl := Option.some.inj H0
                      obtain ⟨u0, hu0, hq0⟩ := res_box (P := Tryd.prog) ty_25 (hst.at 2 rfl)
                      obtain ⟨u2, hu2, hq2⟩ := res_box (P := Tryd.prog) ty_32 (hst.at 4 rfl)
                      exact endR3 rfl hst hb hu0 (res_tmp (s := 7)) hu2 (pTup_3 hq0 (hst.at 3 rfl) hq2)
                    · replace H0 := ite_f hc32 H0
                      refine wp_skip ?_
                      refine inBlock_n ?_
                      refine then_n ?_
                      obtain ⟨r35, h36, H0⟩ := of_bind H0
                      refine r_s (L := [(3, _), (4, _), (5, _), (6, _), (8, _)]) (T := [⟨[.old 0], _, [], [], [106]⟩, ⟨[.op 0 0], _, [], [0], [107]⟩, ⟨[], [(12, (pBox k_api_Record 12 (default : api_Record)))], [13], [], [12]⟩, ⟨[.op 1 0, .op 2 0], _, [13], [0, 1, 2], [12]⟩]) (F := [.old 0, .old 1, .old 2, .old 3, .old 4, .op 3 0]) (hst.pick [0, 1, 2, 3, 4] rfl) hb follows
                        (o_p rfl (ob_loadM ty_25 rfl rfl u_0) <|
                         o_p rfl (ob_call en_20 (rec_Clone_ok _ h36) rfl rfl (.cons u_0 .nil)) <|
                         o_p rfl (ob_alloc (zs := [.int .i64 0, .int .i64 0, .int .i64 0, .int .i64 0, .float .f64 0, .int .i64 0, .string ByteArray.empty, .slice none 0 0]) (by kernel_rfl) (fun g => zk_api_Record g) rfl rfl) <|
                         o_p rfl (ob_storeF ty_25 rfl rfl u_1 u_0) <|
                         o_n) (by kernel_rfl) (fun a g hst hb => ?_)
                      refine r_s (L := [(3, _), (4, _), (5, _), (6, _), (8, _), (12, _)]) (T := [⟨[], [(13, (pBox k_api_Answer 13 (default : api_Answer)))], [14], [], [13]⟩]) (F := [.old 0, .old 1, .old 2, .old 3, .old 4, .old 5, .op 0 0]) hst hb follows
                        (o_p rfl (ob_alloc (zs := [.int .i64 0, .int .i64 0, .int .i64 0, .int .i64 0, .int .i64 0, .int .i64 0, .float .f64 0, .int .i64 0, .string ByteArray.empty, .slice none 0 0]) (by kernel_rfl) (fun g => zk_api_Answer g) rfl rfl) <|
                         o_n) (by kernel_rfl) (fun a g hst hb => ?_)
                      refine wp_seq ?_
                      obtain ⟨h37, H0⟩ := of_ite H0; obtain ⟨r38, h39, H0⟩ := of_bind H0
                      refine r_s (L := [(3, _), (4, _), (5, _), (6, _), (8, _), (12, _), (13, _)]) (T := [⟨[], _, [], [], [108]⟩, ⟨[.old 2], _, [], [], [109]⟩, ⟨[.op 1 0], _, [], [1], [110]⟩, ⟨[.op 0 0, .op 2 0], [(111, (pFun Tryd.prog (Phi a2.Kind)))], [], [0, 1, 2], [111]⟩, ⟨[.old 2], _, [], [], [112]⟩, ⟨[.op 3 0, .old 0, .op 4 0, .old 6], [(113, (pInt .i64 r38.1)), (3, (pBox k_api_Record 3 r38.2.1)), (13, (pBox k_api_Answer 13 r38.2.2))], [4, 14], List.range 5, [3, 13, 113]⟩, ⟨[.op 5 0], _, [], List.range 6, [14]⟩]) (F := [.op 5 1, .old 1, .old 3, .old 4, .old 5, .op 5 2, .op 6 0]) hst hb follows
                        (o_p rfl (ob_call en_28 rule_changes_ok rfl rfl .nil) <|
                         o_p rfl (ob_fieldAddr fl_27_0 rfl rfl u_0) <|
                         o_p rfl (ob_load ty_3 rfl rfl u_0) <|
                         o_p rfl (ob_tabIndex Tryd.underlying56 (by kernel_rfl) ⟨_, Tryd.underlying55, rfl⟩ (by have := h37; omega) (tab_at h37) (by have := h37; omega) rfl rfl u_0 u_1) <|
                         o_p rfl (ob_load ty_27 rfl rfl u_0) <|
                         o_p rfl (ob_callFun (hs := [(3, none, 3), (13, none, 13)]) (phi_use h39) rfl rfl rfl u_0 (.box u_1 u_1 rfl (.val u_2 (.box u_3 u_3 rfl .nil))) rfl rfl rfl) <|
                         o_p rfl (ob_assign rfl rfl u_0) <|
                         o_n) (by kernel_rfl) (fun a g hst hb => ?_)
                      refine r_s (L := [(3, _), (4, _), (6, _), (8, _), (12, _), (13, _), (14, _)]) (T := [⟨[.old 6], _, [], [], [114]⟩, ⟨[.op 0 0], _, [], [0], [115]⟩]) (F := [.old 0, .old 1, .old 2, .old 3, .old 4, .old 5, .old 6, .op 1 0]) hst hb follows
                        (o_p rfl (ob_move rfl rfl u_0) <|
                         o_p rfl (ob_ne rfl rfl u_0 c_i) <|
                         o_n) (by kernel_rfl) (fun a g hst hb => ?_)
                      refine wp_cond_split (hst.bool 7 rfl) (fun hc40 => ?_) (fun hc40 => ?_)
                      · replace H0 := ite_t hc40 H0
                        refine r_s (L := [(3, _), (4, _), (6, _), (8, _), (12, _), (14, _)]) (T := [⟨[.old 4], _, [], [], [116]⟩, ⟨[.old 1], _, [], [], [117]⟩, ⟨[.old 5], _, [], [], [118]⟩, ⟨[.op 2 0], _, [], [2], [119]⟩, ⟨[.op 0 0, .old 2], _, [7], [0], [6]⟩, ⟨[.op 1 0], _, [], [0, 1, 4], [7]⟩, ⟨[.op 3 0, .old 3], _, [9], List.range 6, [8]⟩]) (F := [.old 0, .old 1, .op 4 0, .op 5 0, .op 6 0]) (hst.pick [0, 1, 2, 3, 4, 6] rfl) hb follows
                          (o_p rfl (ob_load ty_25 rfl rfl u_0) <|
                           o_p rfl (ob_load ty_4 rfl rfl u_0) <|
                           o_p rfl (ob_move rfl rfl u_0) <|
                           o_p rfl (bd_32_0 rfl rfl u_0) <|
                           o_p rfl (ob_store ty_25 rfl rfl u_1 u_0) <|
                           o_p rfl (ob_assign rfl rfl u_0) <|
                           o_p rfl (ob_store ty_32 rfl rfl u_1 u_0) <|
                           o_n) (by kernel_rfl) (fun a g hst hb => ?_)
                        refine wp_ret ?_
                        refine then_r ?_
                        obtain rfl := Option.some.inj H0
                        obtain ⟨u0, hu0, hq0⟩ := res_box (P := Tryd.prog) ty_25 (hst.at 2 rfl)
                        obtain ⟨u2, hu2, hq2⟩ := res_box (P := Tryd.prog) ty_32 (hst.at 4 rfl)
                        exact endR3 rfl hst hb hu0 (res_tmp (s := 7)) hu2 (pTup_3 hq0 (hst.at 3 rfl) hq2)
                      · replace H0 := ite_f hc40 H0
                        refine wp_skip ?_
                        refine then_n ?_
                        refine r_s (L := [(3, _), (4, _), (6, _), (8, _), (13, _)]) (T := [⟨[.old 0], _, [], [], [120]⟩, ⟨[.old 1], _, [], [], [121]⟩, ⟨[.old 4], _, [], [], [122]⟩, ⟨[.op 0 0, .old 2], _, [7], [0], [6]⟩, ⟨[.op 1 0], _, [], [0, 1, 3], [7]⟩, ⟨[.op 2 0, .old 3], _, [9], List.range 5, [8]⟩]) (F := [.old 0, .old 1, .op 3 0, .op 4 0, .op 5 0]) (hst.pick [0, 1, 2, 3, 5] rfl) hb follows
                          (o_p rfl (ob_loadM ty_25 rfl rfl u_0) <|
                           o_p rfl (ob_load ty_4 rfl rfl u_0) <|
                           o_p rfl (ob_loadM ty_32 rfl rfl u_0) <|
                           o_p rfl (ob_store ty_25 rfl rfl u_1 u_0) <|
                           o_p rfl (ob_assign rfl rfl u_0) <|
                           o_p rfl (ob_store ty_32 rfl rfl u_1 u_0) <|
                           o_n) (by kernel_rfl) (fun a g hst hb => ?_)
                        refine wp_ret ?_
                        obtain rfl := Option.some.inj H0
                        obtain ⟨u0, hu0, hq0⟩ := res_box (P := Tryd.prog) ty_25 (hst.at 2 rfl)
                        obtain ⟨u2, hu2, hq2⟩ := res_box (P := Tryd.prog) ty_32 (hst.at 4 rfl)
                        exact endR3 rfl hst hb hu0 (res_tmp (s := 7)) hu2 (pTup_3 hq0 (hst.at 3 rfl) hq2)
      · refine wp_cond_split (hst.bool 6 rfl) (fun hc10 => ?_) (fun hc10 => ?_)
        · replace H0 := ite_t hc10 H0
          obtain ⟨r11, h12, H0⟩ := of_bind H0
          refine r_s (L := [(3, _), (4, _), (5, _), (6, _), (8, _), (9, _)]) (T := [⟨[.old 0], _, [], [], [32]⟩, ⟨[.op 0 0], _, [], [0], [33]⟩, ⟨[.op 1 0], _, [], [0, 1], [11]⟩]) (F := [.old 0, .old 1, .old 2, .old 3, .old 4, .old 5, .op 2 0]) (hst.pick [0, 1, 2, 3, 4, 5] rfl) hb follows
            (o_p rfl (ob_loadM ty_25 rfl rfl u_0) <|
             o_p rfl (ob_call en_21 (rec_Check_ok _ h12) rfl rfl (.cons u_0 .nil)) <|
             o_p rfl (ob_assign rfl rfl u_0) <|
             o_n) (by kernel_rfl) (fun a g hst hb => ?_)
          refine r_s (L := [(3, _), (4, _), (5, _), (6, _), (8, _), (9, _), (11, _)]) (T := [⟨[.old 6], _, [], [], [34]⟩, ⟨[.op 0 0], _, [], [0], [35]⟩]) (F := [.old 0, .old 1, .old 2, .old 3, .old 4, .old 5, .old 6, .op 1 0]) hst hb follows
            (o_p rfl (ob_move rfl rfl u_0) <|
             o_p rfl (ob_ne rfl rfl u_0 c_i) <|
             o_n) (by kernel_rfl) (fun a g hst hb => ?_)
          refine wp_cond_split (hst.bool 7 rfl) (fun hc13 => ?_) (fun hc13 => ?_)
          · replace H0 := ite_t hc13 H0
            obtain ⟨r14, h15, H0⟩ := of_bind H0
            refine r_s (L := [(3, _), (4, _), (6, _), (8, _), (9, _), (11, _)]) (T := [⟨[.old 4], _, [], [], [36]⟩, ⟨[.old 5], _, [], [], [37]⟩, ⟨[.op 0 0, .op 1 0, .old 0], [(38, (pTup [(k_api_Record.pd r14.1), (pBool r14.2.1), (k_api_Answer.pd r14.2.2.1)])), (3, (pBox k_api_Record 3 r14.2.2.2))], [4], [0, 1], [3, 9, 36, 38]⟩, ⟨[.op 2 0], _, [], [0, 1, 2], [39]⟩, ⟨[.op 2 0], _, [], [0, 1, 2], [40]⟩, ⟨[.op 2 0], _, [], [0, 1, 2], [41]⟩, ⟨[.op 3 0, .old 2], _, [7], List.range 6, [6]⟩, ⟨[.op 4 0], _, [], List.range 7, [7]⟩, ⟨[.op 5 0, .old 3], _, [9], List.range 8, [8]⟩]) (F := [.op 2 1, .old 1, .op 6 0, .op 7 0, .op 8 0]) (hst.pick [0, 1, 3, 4, 5, 6] rfl) hb follows
              (o_p rfl (ob_move rfl rfl u_0) <|
               o_p rfl (ob_move rfl rfl u_0) <|
               o_p rfl (ob_callCB2 (Ps := [.val (pInt .i64 r11)]) (hs := []) (ks := [(3, none, 3)]) en_25 (rule_Apply_1_ok _ _ _ h15) rfl rfl rfl u_0 (.val u_1 .nil) (.box u_2 rfl (.val .nil)) rfl rfl rfl rfl) <|
               o_p rfl (ob_extract rfl rfl u_0 rfl) <|
               o_p rfl (ob_extract rfl rfl u_0 rfl) <|
               o_p rfl (ob_extract rfl rfl u_0 rfl) <|
               o_p rfl (ob_store ty_25 rfl rfl u_1 u_0) <|
               o_p rfl (ob_assign rfl rfl u_0) <|
               o_p rfl (ob_store ty_32 rfl rfl u_1 u_0) <|
               o_n) (by kernel_rfl) (fun a g hst hb => ?_)
            refine wp_ret ?_
            refine then_r ?_
            refine then_r ?_
            obtain rfl := Option.some.inj H0
            obtain ⟨u0, hu0, hq0⟩ := res_box (P := Tryd.prog) ty_25 (hst.at 2 rfl)
            obtain ⟨u2, hu2, hq2⟩ := res_box (P := Tryd.prog) ty_32 (hst.at 4 rfl)
            exact endR3 rfl hst hb hu0 (res_tmp (s := 7)) hu2 (pTup_3 hq0 (hst.at 3 rfl) hq2)
          · replace H0 := ite_f hc13 H0
            refine wp_skip ?_
            exact ⟨g, rfl, (hst.pick [0, 1, 2, 3, 4, 5] rfl), hb, H0⟩
        · replace H0 := ite_f hc10 H0
          refine wp_skip ?_
          exact ⟨g, rfl, (hst.pick [0, 1, 2, 3, 4, 5] rfl), hb, H0⟩
  · refine wp_cond_split (hst.bool 5 rfl) (fun hc1 => ?_) (fun hc1 => ?_)
    · replace H0 := ite_t hc1 H0
      refine r_g (L := [(3, _), (4, _), (5, _), (6, _), (8, _)]) (T := [⟨[], _, [], [], [17]⟩, ⟨[.op 0 0, .old 0], _, [4], [0], [3]⟩]) (F := [.op 1 0, .old 1, .old 2, .old 3, .old 4]) (hst.pick [0, 1, 2, 3, 4] rfl) hb follows
        (o_p rfl (bd_25_ rfl rfl ) <|
         o_p rfl (ob_store ty_25 rfl rfl u_1 u_0) <|
         o_n) (by kernel_rfl) (fun a g hst hb => ?_)
      exact ⟨({ Kind := (0 : Int), Num := (0 : Int), Low := (0 : Int), High := (0 : Int), Real := (0 : Nat), Cap := (0 : Int), Text := ByteArray.empty, List := ([] : List api_Item) } : api_Record), g, rfl, (hst.pick [0, 1, 2, 3, 4] rfl), hb, H0⟩
    · replace H0 := ite_f hc1 H0
      refine wp_skip ?_
      exact ⟨a0, g, rfl, (hst.pick [0, 1, 2, 3, 4] rfl), hb, H0⟩
end Go.CL

set_option linter.unusedVariables false
set_option linter.unusedSimpArgs false
set_option maxRecDepth 100000
namespace Go.CL
open Go Go.RowKit Go.Proofs
theorem rule_Same_ok (a0 : api_Answer) (a1 : api_Answer) {r : Bool} (h : rule_Same a0 a1 = some r) : FnOk Tryd.prog 15 [(k_api_Answer.pd a0), (k_api_Answer.pd a1)] (pBool r) := by
  have H0 := h
  unfold rule_Same at H0
  clear h
  refine fn_ok (N := 24) Tryd.func15 rfl rfl (Nat.le_of_ble_eq_true rfl) rfl rfl (fun a g0 hst hb => ?_)
  refine r_s (L := [(0, _), (1, _)]) (T := [⟨[.old 0], _, [], [], [2]⟩, ⟨[.old 1], _, [], [], [3]⟩, ⟨[], _, [], [], [4]⟩]) (F := [.op 0 0, .op 1 0]) hst hb follows
    (o_p rfl (ob_box1 rfl rfl u_0) <|
     o_p rfl (ob_box1 rfl rfl u_0) <|
     o_p rfl (ob_assign rfl rfl c_b) <|
     o_n) (by kernel_rfl) (fun a g hst hb => ?_)
  obtain ⟨r1, h2, H0⟩ := of_bind H0
  refine r_s (L := [(2, _), (3, _)]) (T := ⟨[.old 0], _, [], [], [5]⟩ :: ⟨[.op 0 0], _, [], [0], [6]⟩ :: ⟨[.old 1], _, [], [], [7]⟩ :: ⟨[.op 2 0], _, [], [2], [8]⟩ :: ⟨[.op 1 0, .op 3 0], _, [], List.range 4, [9]⟩ :: ⟨[.op 4 0], _, [], List.range 5, [10]⟩ :: ⟨[.op 5 0, .old 0], _, [], List.range 6, [11]⟩ :: ⟨[.op 5 0, .op 6 0], _, [], List.range 7, [12]⟩ :: ⟨[.op 5 0, .old 1], _, [], List.range 6, [13]⟩ :: ⟨[.op 5 0, .op 8 0], _, [], [0, 1, 2, 3, 4, 5, 8], [14]⟩ :: ⟨[.op 5 0, .op 7 0, .op 9 0], _, [], List.range 10, [15]⟩ :: ⟨[.op 5 0, .op 10 0], _, [], List.range 11, [16]⟩ :: ⟨[.op 11 0], _, [], List.range 12, [17]⟩ :: ⟨[.op 12 0, .old 0], _, [], List.range 13, [18]⟩ :: ⟨[.op 12 0, .op 13 0], _, [], List.range 14, [19]⟩ :: ⟨[.op 12 0, .old 1], _, [], List.range 13, [20]⟩ :: ⟨[.op 12 0, .op 15 0], _, [], 0 :: 1 :: 2 :: 3 :: 4 :: 5 :: 6 :: 7 :: 8 :: 9 :: 10 :: 11 :: 12 :: 15 :: [], [21]⟩ :: ⟨[.op 12 0, .op 14 0, .op 16 0], _, [], List.range 17, [22]⟩ :: ⟨[.op 12 0, .op 17 0], _, [], List.range 18, [23]⟩ :: ⟨[.op 18 0], _, [], List.range 19, [4]⟩ :: []) (F := [.op 19 0]) hst hb follows
    (o_p rfl (ob_fieldAddr fl_32_0 rfl rfl u_0) <|
     o_p rfl (ob_load ty_30 rfl rfl u_0) <|
     o_p rfl (ob_fieldAddr fl_32_0 rfl rfl u_0) <|
     o_p rfl (ob_load ty_30 rfl rfl u_0) <|
     o_p rfl (ob_eq rfl rfl u_0 u_1) <|
     o_p rfl (ob_move rfl rfl u_0) <|
     o_g (g_t rfl rfl rfl (fun hG => ob_fieldAddr fl_32_1 rfl rfl u_0)) <|
     o_g (g_t rfl rfl rfl (fun hG => ob_load ty_2 rfl rfl (Opd.gd hG u_0))) <|
     o_g (g_t rfl rfl rfl (fun hG => ob_fieldAddr fl_32_1 rfl rfl u_0)) <|
     o_g (g_t rfl rfl rfl (fun hG => ob_load ty_2 rfl rfl (Opd.gd hG u_0))) <|
     o_g (g_t rfl rfl rfl (fun hG => ob_eq rfl rfl (Opd.gd hG u_0) (Opd.gd hG u_1))) <|
     o_p rfl (ob_pand rfl rfl u_0 (fun hz => (Opd.gd hz u_1))) <|
     o_p rfl (ob_move rfl rfl u_0) <|
     o_g (g_t rfl rfl rfl (fun hG => ob_fieldAddr fl_32_2 rfl rfl u_0)) <|
     o_g (g_t rfl rfl rfl (fun hG => ob_load ty_25 rfl rfl (Opd.gd hG u_0))) <|
     o_g (g_t rfl rfl rfl (fun hG => ob_fieldAddr fl_32_2 rfl rfl u_0)) <|
     o_g (g_t rfl rfl rfl (fun hG => ob_load ty_25 rfl rfl (Opd.gd hG u_0))) <|
     o_g (g_t rfl rfl rfl (fun hG => ob_call en_17 (rec_Same_ok _ _ (gd_true h2 hG)) rfl rfl (.cons (Opd.gd hG u_0) (.cons (Opd.gd hG u_1) .nil)))) <|
     o_p rfl (ob_pand rfl rfl u_0 (fun hz => (Opd.gd hz u_1))) <|
     o_p rfl (ob_assign rfl rfl u_0) <|
     o_n) (by kernel_rfl) (fun a g hst hb => ?_)
  refine wp_ret ?_
  obtain rfl := Option.some.inj H0
  exact endR1 rfl hst hb (res_tmp (s := 4)) (hst.at 0 rfl)
end Go.CL

set_option linter.unusedVariables false
set_option linter.unusedSimpArgs false
set_option maxRecDepth 100000
namespace Go.CL
open Go Go.RowKit Go.Proofs
theorem rule_Row_ok (a0 : api_Record) (a1 : Bool) (a2 : List api_Act) {r : api_Record × Bool × (List api_Answer)} (h : rule_Row a0 a1 a2 = some r) : FnOk Tryd.prog 16 [(k_api_Record.pd a0), (pBool a1), (k_api_Act.sl.pd a2)] (pTup [(k_api_Record.pd r.1), (pBool r.2.1), (k_api_Answer.sl.pd r.2.2)]) := by
  have H0 := h
  unfold rule_Row at H0
  clear h
  refine fn_ok (N := 40) Tryd.func16 rfl rfl (Nat.le_of_ble_eq_true rfl) rfl rfl (fun a g0 hst hb => ?_)
  refine r_s (L := [(0, _), (1, _), (2, _)]) (T := [⟨[.old 0], _, [4], [], [3]⟩, ⟨[], [(6, (pBox k_api_Record 6 (default : api_Record)))], [7], [], [6]⟩, ⟨[], _, [], [], [7]⟩, ⟨[], [(8, (k_api_Answer.sl.pd ([] : List api_Answer)))], [], [2], [8]⟩]) (F := [.old 1, .old 2, .op 0 0, .op 1 0]) hst hb follows
    (o_p rfl (ob_boxM rfl rfl u_0) <|
     o_p rfl (ob_alloc (zs := [.int .i64 0, .int .i64 0, .int .i64 0, .int .i64 0, .float .f64 0, .int .i64 0, .string ByteArray.empty, .slice none 0 0]) (by kernel_rfl) (fun g => zk_api_Record g) rfl rfl) <|
     o_p rfl (ob_assign rfl rfl c_b) <|
     o_p rfl (ob_assign rfl rfl (Opd.c (fun g => sl_nil_q g))) <|
     o_n) (by kernel_rfl) (fun a g hst hb => ?_)
  refine wp_seq ?_
  refine r_s (L := [(1, _), (2, _), (3, _), (6, _)]) (T := [⟨[.old 0], _, [], [], [13]⟩, ⟨[.op 0 0], _, [], [0], [14]⟩]) (F := [.old 0, .old 1, .old 2, .old 3, .op 1 0]) hst hb follows
    (o_p rfl (ob_move rfl rfl u_0) <|
     o_p rfl (ob_not rfl rfl u_0) <|
     o_n) (by kernel_rfl) (fun a g hst hb => ?_)
  refine wp_cut (fun a w => ∃ (j2 : api_Record) (g : G), w = g.w ∧ St 40 [(1, (pBool a1)), (2, (k_api_Act.sl.pd a2)), (3, (pBox k_api_Record 3 j2)), (6, (pBox k_api_Record 6 (default : api_Record)))] a g ∧ Base g0 g ∧ rule_Row_j1 a1 a2 j2 = some r) ?_ ?_
  · rintro a w ⟨j2, g, rfl, hst, hb, H0⟩
    unfold rule_Row_j1 at H0
    refine then_n ?_
    obtain ⟨r3, h4, H0⟩ := of_bind H0
    refine r_s (L := [(1, _), (2, _), (3, _), (6, _)]) (T := [⟨[.old 2], _, [], [], [16]⟩, ⟨[.op 0 0], _, [], [0], [17]⟩, ⟨[.op 1 0, .old 2], _, [4], [0, 1], [3]⟩]) (F := [.old 0, .old 1, .op 2 0, .old 3]) hst hb follows
      (o_p rfl (ob_loadM ty_25 rfl rfl u_0) <|
       o_p rfl (ob_call en_20 (rec_Clone_ok _ h4) rfl rfl (.cons u_0 .nil)) <|
       o_p rfl (ob_store ty_25 rfl rfl u_1 u_0) <|
       o_n) (by kernel_rfl) (fun a g hst hb => ?_)
    refine r_s (L := [(1, _), (2, _), (3, _), (6, _)]) (T := [⟨[], [(9, (pRow k_api_Answer 32 9 ([] : List api_Answer)))], [], [], [9]⟩]) (F := [.old 0, .old 1, .old 2, .old 3, .op 0 0]) hst hb follows
      (o_p rfl (ob_assign rfl rfl (Opd.c (fun g => pRow_nil 9 g))) <|
       o_n) (by kernel_rfl) (fun a g hst hb => ?_)
    refine wp_seq ?_
    refine r_s (L := [(1, _), (2, _), (3, _), (6, _), (9, _)]) (T := [⟨[.old 1], _, [], [], [18]⟩, ⟨[.op 0 0], _, [], [0], [19]⟩, ⟨[], _, [], [], [20]⟩]) (F := [.old 0, .old 2, .old 3, .old 4, .op 0 0, .op 1 0, .op 2 0]) hst hb follows
      (o_p rfl (ob_move rfl rfl u_0) <|
       o_p rfl (ob_lenL Tryd.underlying38 rfl rfl u_0) <|
       o_p rfl (ob_move rfl rfl c_i) <|
       o_n) (by kernel_rfl) (fun a g hst hb => ?_)
    obtain ⟨z18, hz1, H0⟩ := of_bind H0
    refine wp_cut (fun a w => ∃ (y15 : Bool) (y16 : api_Record) (y17 : List api_Answer) (g : G), w = g.w ∧ St 40 [(1, (pBool y15)), (3, (pBox k_api_Record 3 y16)), (6, (pBox k_api_Record 6 (default : api_Record))), (9, (pRow k_api_Answer 32 9 y17))] a g ∧ Base g0 g ∧ (y15, y16, y17) = z18) ?_ ?_
    · rintro a w ⟨y15, y16, y17, g, rfl, hst, hb, rfl⟩
      refine then_n ?_
      refine r_s (L := [(1, _), (3, _), (6, _), (9, _)]) (T := [⟨[.old 1], _, [], [], [37]⟩, ⟨[.old 0], _, [], [], [38]⟩, ⟨[.old 3], _, [], [], [39]⟩, ⟨[.op 0 0, .old 2], _, [7], [0], [6]⟩, ⟨[.op 1 0], _, [], [0, 1, 3], [7]⟩, ⟨[.op 2 0], _, [], List.range 5, [8]⟩]) (F := [.op 3 0, .op 4 0, .op 5 0]) hst hb follows
        (o_p rfl (ob_loadM ty_25 rfl rfl u_0) <|
         o_p rfl (ob_move rfl rfl u_0) <|
         o_p rfl (ob_move rfl rfl u_0) <|
         o_p rfl (ob_store ty_25 rfl rfl u_1 u_0) <|
         o_p rfl (ob_assign rfl rfl u_0) <|
         o_p rfl (ob_assign rfl rfl u_0) <|
         o_n) (by kernel_rfl) (fun a g hst hb => ?_)
      refine wp_ret ?_
      obtain rfl := Option.some.inj H0
      obtain ⟨u0, hu0, hq0⟩ := res_box (P := Tryd.prog) ty_25 (hst.at 0 rfl)
      exact endR3 rfl hst hb hu0 (res_tmp (s := 7)) (res_tmp (s := 8)) (pTup_3 hq0 (hst.at 1 rfl) (pRow_read (hst.at 2 rfl)))
    · refine wp_block ?_
      refine wp_loop_ghost (fun n a w => ∃ (x5 : Bool) (x6 : api_Record) (x7 : List api_Answer) (x8 : Int) (g : G), w = g.w ∧ St 40 [(1, (pBool x5)), (3, (pBox k_api_Record 3 x6)), (6, (pBox k_api_Record 6 (default : api_Record))), (9, (pRow k_api_Answer 32 9 x7)), (18, (k_api_Act.sl.pd a2)), (19, (pInt .i64 (a2.length : Int))), (20, (pInt .i64 x8))] a g ∧ Base g0 g ∧ rule_Row_l1 a2 n x5 x6 x7 x8 = some z18) (Int.toNat ((a2.length : Int) - (0 : Int)) + 1) ⟨a1, r3, ([] : List api_Answer), (0 : Int), g, rfl, (hst.pick [0, 1, 2, 3, 4, 5, 6] rfl), hb, hz1⟩ (fun n a w hI => ?_)
      obtain ⟨x5, x6, x7, x8, g, rfl, hst, hb, H1⟩ := hI
      cases n with
      | zero => exact absurd H1 (by simp [rule_Row_l1])
      | succ n =>
        rw [rule_Row_l1] at H1
        refine r_s (L := [(1, _), (3, _), (6, _), (9, _), (18, _), (19, _), (20, _)]) (T := [⟨[.old 6, .old 5], _, [], [], [21]⟩]) (F := [.old 0, .old 1, .old 2, .old 3, .old 4, .old 5, .old 6, .op 0 0]) hst hb follows
          (o_p rfl (ob_lt rfl rfl u_0 u_1) <|
           o_n) (by kernel_rfl) (fun a g hst hb => ?_)
        refine wp_seq ?_
        refine wp_cond_split (hst.bool 7 rfl) (fun hc9 => ?_) (fun hc9 => ?_)
        · replace H1 := ite_t hc9 H1
          refine wp_skip ?_
          refine then_n ?_
          refine wp_seq ?_
          refine wp_block ?_
          obtain ⟨e10, h11, H1⟩ := of_bind H1
          refine r_s (L := [(1, _), (3, _), (6, _), (9, _), (18, _), (19, _), (20, _)]) (T := [⟨[.old 4, .old 6], _, [], [], [22]⟩, ⟨[.op 0 0], _, [], [0], [23]⟩, ⟨[], [(11, (pBox k_api_Act 11 (default : api_Act)))], [12], [], [11]⟩, ⟨[.op 1 0, .op 2 0], _, [12], [0, 1, 2], [11]⟩]) (F := [.old 0, .old 1, .old 2, .old 3, .op 3 0, .old 4, .old 5, .old 6]) (hst.pick [0, 1, 2, 3, 4, 5, 6] rfl) hb follows
            (o_p rfl (ob_indexAddr Tryd.underlying38 sz_27 rfl rfl u_0 u_1 h11) <|
             o_p rfl (ob_load ty_27 rfl rfl u_0) <|
             o_p rfl (ob_alloc (zs := [.int .i64 0, .string ByteArray.empty, .int .i64 0, .float .f64 0, .string ByteArray.empty, .int .i64 0, .int .i64 0, .int .i64 0, .int .i64 0, .float .f64 0, .int .i64 0, .string ByteArray.empty, .slice none 0 0, .bool false]) (by kernel_rfl) (fun g => zk_api_Act g) rfl rfl) <|
             o_p rfl (ob_storeF ty_27 rfl rfl u_1 u_0) <|
             o_n) (by kernel_rfl) (fun a g hst hb => ?_)
          refine r_s (L := [(1, _), (3, _), (6, _), (9, _), (11, _), (18, _), (19, _), (20, _)]) (T := [⟨[], [(12, (pBox k_api_Answer 12 (default : api_Answer)))], [13], [], [12]⟩]) (F := [.old 0, .old 1, .old 2, .old 3, .old 4, .op 0 0, .old 5, .old 6, .old 7]) hst hb follows
            (o_p rfl (ob_alloc (zs := [.int .i64 0, .int .i64 0, .int .i64 0, .int .i64 0, .int .i64 0, .int .i64 0, .float .f64 0, .int .i64 0, .string ByteArray.empty, .slice none 0 0]) (by kernel_rfl) (fun g => zk_api_Answer g) rfl rfl) <|
             o_n) (by kernel_rfl) (fun a g hst hb => ?_)
          obtain ⟨r12, h13, H1⟩ := of_bind H1
          refine r_s (L := [(1, _), (3, _), (6, _), (9, _), (11, _), (12, _), (18, _), (19, _), (20, _)]) (T := [⟨[.old 1], _, [], [], [25]⟩, ⟨[.old 0], _, [], [], [26]⟩, ⟨[.old 4], _, [], [], [27]⟩, ⟨[.op 0 0, .op 1 0, .op 2 0], _, [], [0, 1, 2], [28]⟩, ⟨[.op 3 0], _, [], List.range 4, [24]⟩, ⟨[.op 4 0], _, [], List.range 5, [29]⟩, ⟨[.op 4 0], _, [], List.range 5, [30]⟩, ⟨[.op 4 0], _, [], List.range 5, [31]⟩, ⟨[.op 5 0, .old 1], _, [4], List.range 6, [3]⟩, ⟨[.op 6 0], _, [], [0, 1, 2, 3, 4, 5, 6, 8], [1]⟩, ⟨[.op 7 0, .old 5], _, [13], List.range 10, [12]⟩]) (F := [.op 9 0, .op 8 0, .old 2, .old 3, .op 10 0, .old 6, .old 7, .old 8]) hst hb follows
            (o_p rfl (ob_loadM ty_25 rfl rfl u_0) <|
             o_p rfl (ob_move rfl rfl u_0) <|
             o_p rfl (ob_load ty_27 rfl rfl u_0) <|
             o_p rfl (ob_call en_11 (rule_Apply_ok _ _ _ h13) rfl rfl (.cons u_0 (.cons u_1 (.cons u_2 .nil)))) <|
             o_p rfl (ob_move rfl rfl u_0) <|
             o_p rfl (ob_extract rfl rfl u_0 rfl) <|
             o_p rfl (ob_extract rfl rfl u_0 rfl) <|
             o_p rfl (ob_extract rfl rfl u_0 rfl) <|
             o_p rfl (ob_store ty_25 rfl rfl u_1 u_0) <|
             o_p rfl (ob_assign rfl rfl u_0) <|
             o_p rfl (ob_store ty_32 rfl rfl u_1 u_0) <|
             o_n) (by kernel_rfl) (fun a g hst hb => ?_)
          obtain ⟨h14, H1⟩ := of_ite H1
          refine r_g (L := [(1, _), (3, _), (6, _), (9, _), (12, _), (18, _), (19, _), (20, _)]) (T := [⟨[.old 3], _, [], [], [32]⟩, ⟨[.old 4], _, [], [], [33]⟩, ⟨[.op 1 0], _, [], [1], [34]⟩, ⟨[.op 0 0, .op 2 0], _, [10], [0, 1, 2], [9, 32, 35]⟩, ⟨[.op 3 0], _, [], List.range 4, [9]⟩]) (F := [.old 0, .old 1, .old 2, .op 4 0, .old 5, .old 6, .old 7]) hst hb follows
            (o_p rfl (ob_move rfl rfl u_0) <|
             o_p rfl (ob_loadM ty_32 rfl rfl u_0) <|
             o_p rfl (ob_lit te_39 (xs := [.tmp 33]) (.cons u_0 .nil) (by decide) rfl rfl) <|
             o_p rfl (ob_append te_39 rfl rfl u_0 u_1 h14) <|
             o_p rfl (ob_assign rfl rfl u_0) <|
             o_n) (by kernel_rfl) (fun a g hst hb => ?_)
          refine inBlock_n ?_
          refine then_n ?_
          refine r_g (L := [(1, _), (3, _), (6, _), (9, _), (18, _), (19, _), (20, _)]) (T := [⟨[.old 6], _, [], [], [36]⟩, ⟨[.op 0 0], _, [], [0], [20]⟩]) (F := [.old 0, .old 1, .old 2, .old 3, .old 4, .old 5, .op 1 0]) hst hb follows
            (o_p rfl (ob_add rfl rfl u_0 c_i rfl) <|
             o_p rfl (ob_move rfl rfl u_0) <|
             o_n) (by kernel_rfl) (fun a g hst hb => ?_)
          exact ⟨n, Nat.lt_succ_self _, r12.2.1, r12.1, (x7 ++ ([r12.2.2] : List api_Answer)), (IntKind.i64.wrap (x8 + (1 : Int))), g, rfl, (hst.pick [0, 1, 2, 3, 4, 5, 6] rfl), hb, H1⟩
        · replace H1 := ite_f hc9 H1
          refine wp_exit ?_
          refine then_e ?_
          refine then_e ?_
          refine inBlock_e ?_
          exact ⟨x5, x6, x7, g, rfl, (hst.pick [0, 1, 2, 3] rfl), hb, Option.some.inj H1⟩
  · refine wp_cond_split (hst.bool 4 rfl) (fun hc1 => ?_) (fun hc1 => ?_)
    · replace H0 := ite_t hc1 H0
      refine r_g (L := [(1, _), (2, _), (3, _), (6, _)]) (T := [⟨[], _, [], [], [15]⟩, ⟨[.op 0 0, .old 2], _, [4], [0], [3]⟩]) (F := [.old 0, .old 1, .op 1 0, .old 3]) (hst.pick [0, 1, 2, 3] rfl) hb follows
        (o_p rfl (bd_25_ rfl rfl ) <|
         o_p rfl (ob_store ty_25 rfl rfl u_1 u_0) <|
         o_n) (by kernel_rfl) (fun a g hst hb => ?_)
      exact ⟨({ Kind := (0 : Int), Num := (0 : Int), Low := (0 : Int), High := (0 : Int), Real := (0 : Nat), Cap := (0 : Int), Text := ByteArray.empty, List := ([] : List api_Item) } : api_Record), g, rfl, (hst.pick [0, 1, 2, 3] rfl), hb, H0⟩
    · replace H0 := ite_f hc1 H0
      refine wp_skip ?_
      exact ⟨a0, g, rfl, (hst.pick [0, 1, 2, 3] rfl), hb, H0⟩
end Go.CL

set_option linter.unusedVariables false
set_option linter.unusedSimpArgs false
set_option maxRecDepth 100000
namespace Go.CL
open Go Go.RowKit Go.Proofs
theorem moietylaw05_speaks_ok {r : Bool} (h : moietylaw05_speaks = some r) : FnOk Tryd.prog 9 [] (pBool r) := by
  have H0 := h
  unfold moietylaw05_speaks at H0
  clear h
  refine fn_ok (N := 59) Tryd.func9 rfl rfl (Nat.le_of_ble_eq_true rfl) rfl rfl (fun a g0 hst hb => ?_)
  refine r_s (L := []) (T := [⟨[], _, [], [], [0]⟩]) (F := []) hst hb follows
    (o_p rfl (ob_assign rfl rfl c_b) <|
     o_n) (by kernel_rfl) (fun a g hst hb => ?_)
  obtain ⟨r1, h2, H0⟩ := of_bind H0
  refine r_s (L := []) (T := ⟨[], _, [], [], [6]⟩ :: ⟨[], _, [], [], [7]⟩ :: ⟨[.op 0 0, .op 1 0], _, [], [0, 1], [8]⟩ :: ⟨[.op 2 0], _, [], [0, 1, 2], [5]⟩ :: ⟨[.op 3 0], _, [], List.range 4, [9]⟩ :: ⟨[.op 3 0], _, [], List.range 4, [10]⟩ :: ⟨[.op 3 0], _, [], List.range 4, [11]⟩ :: ⟨[], [(1, (pBox k_api_Record 1 (default : api_Record)))], [2], [], [1]⟩ :: ⟨[], [(3, (pBox k_api_Answer 3 (default : api_Answer)))], [4], [], [3]⟩ :: ⟨[.op 4 0, .op 7 0], _, [2], [0, 1, 2, 3, 4, 7, 8], [1]⟩ :: ⟨[.op 5 0], _, [], [0, 1, 2, 3, 4, 5, 7, 8, 9], [2]⟩ :: ⟨[.op 6 0, .op 8 0], _, [4], List.range 11, [3]⟩ :: []) (F := [.op 9 0, .op 10 0, .op 11 0]) hst hb follows
    (o_p rfl (bd_25_0_3_1 rfl rfl c_i c_i c_i) <|
     o_p rfl (bd_27_0_1_2 rfl rfl c_i c_s c_i) <|
     o_p rfl (ob_call en_11 (rule_Apply_ok _ _ _ h2) rfl rfl (.cons u_0 (.cons c_b (.cons u_1 .nil)))) <|
     o_p rfl (ob_move rfl rfl u_0) <|
     o_p rfl (ob_extract rfl rfl u_0 rfl) <|
     o_p rfl (ob_extract rfl rfl u_0 rfl) <|
     o_p rfl (ob_extract rfl rfl u_0 rfl) <|
     o_p rfl (ob_alloc (zs := [.int .i64 0, .int .i64 0, .int .i64 0, .int .i64 0, .float .f64 0, .int .i64 0, .string ByteArray.empty, .slice none 0 0]) (by kernel_rfl) (fun g => zk_api_Record g) rfl rfl) <|
     o_p rfl (ob_alloc (zs := [.int .i64 0, .int .i64 0, .int .i64 0, .int .i64 0, .int .i64 0, .int .i64 0, .float .f64 0, .int .i64 0, .string ByteArray.empty, .slice none 0 0]) (by kernel_rfl) (fun g => zk_api_Answer g) rfl rfl) <|
     o_p rfl (ob_store ty_25 rfl rfl u_1 u_0) <|
     o_p rfl (ob_assign rfl rfl u_0) <|
     o_p rfl (ob_storeF ty_32 rfl rfl u_1 u_0) <|
     o_n) (by kernel_rfl) (fun a g hst hb => ?_)
  refine wp_seq ?_
  refine r_s (L := [(1, _), (2, _), (3, _)]) (T := ⟨[.old 0], _, [], [], [12]⟩ :: ⟨[.op 0 0], _, [], [0], [13]⟩ :: ⟨[.op 1 0], _, [], [0, 1], [14]⟩ :: ⟨[.op 2 0], _, [], [0, 1, 2], [15]⟩ :: ⟨[.op 3 0, .old 1], _, [], List.range 4, [16]⟩ :: ⟨[.op 3 0, .op 4 0], _, [], List.range 5, [17]⟩ :: ⟨[.op 3 0, .op 5 0], _, [], List.range 6, [18]⟩ :: ⟨[.op 6 0], _, [], List.range 7, [19]⟩ :: ⟨[.op 7 0, .old 2], _, [], List.range 8, [20]⟩ :: ⟨[.op 7 0, .op 8 0], _, [], List.range 9, [21]⟩ :: ⟨[.op 7 0, .op 9 0], _, [], List.range 10, [22]⟩ :: ⟨[.op 7 0, .op 10 0], _, [], List.range 11, [23]⟩ :: []) (F := [.old 0, .op 11 0]) hst hb follows
    (o_p rfl (ob_fieldAddrM fl_25_1 (off := 1) (by kernel_rfl) rfl rfl u_0) <|
     o_p rfl (ob_loadP ty_2 rfl rfl u_0) <|
     o_p rfl (ob_ne rfl rfl u_0 c_i) <|
     o_p rfl (ob_move rfl rfl u_0) <|
     o_g (g_f rfl rfl rfl (fun hG => ob_move rfl rfl u_0)) <|
     o_g (g_f rfl rfl rfl (fun hG => ob_not rfl rfl (Opd.gd hG u_0))) <|
     o_p rfl (ob_por rfl rfl u_0 (fun hz => (Opd.gd (bNF hz) u_1))) <|
     o_p rfl (ob_move rfl rfl u_0) <|
     o_g (g_f rfl rfl rfl (fun hG => ob_fieldAddr fl_32_0 rfl rfl u_0)) <|
     o_g (g_f rfl rfl rfl (fun hG => ob_load ty_30 rfl rfl (Opd.gd hG u_0))) <|
     o_g (g_f rfl rfl rfl (fun hG => ob_ne rfl rfl (Opd.gd hG u_0) c_i)) <|
     o_p rfl (ob_por rfl rfl u_0 (fun hz => (Opd.gd (bNF hz) u_1))) <|
     o_n) (by kernel_rfl) (fun a g hst hb => ?_)
  refine wp_cond_split (hst.bool 1 rfl) (fun hc3 => ?_) (fun hc3 => ?_)
  · replace H0 := ite_t hc3 H0
    refine r_s (L := []) (T := [⟨[], _, [], [], [0]⟩]) (F := [.op 0 0]) (hst.pick [] rfl) hb follows
      (o_p rfl (ob_assign rfl rfl c_b) <|
       o_n) (by kernel_rfl) (fun a g hst hb => ?_)
    refine wp_ret ?_
    refine then_r ?_
    obtain rfl := Option.some.inj H0
    exact endR1 rfl hst hb (res_tmp (s := 0)) (hst.at 0 rfl)
  · replace H0 := ite_f hc3 H0
    refine wp_skip ?_
    refine then_n ?_
    obtain ⟨r4, h5, H0⟩ := of_bind H0
    refine r_s (L := [(1, _)]) (T := ⟨[], _, [], [], [25]⟩ :: ⟨[], _, [], [], [26]⟩ :: ⟨[.op 1 0], _, [], [1], [27]⟩ :: ⟨[], _, [], [], [28]⟩ :: ⟨[.op 2 0, .op 3 0], _, [], [1, 2, 3], [29]⟩ :: ⟨[.op 0 0, .op 4 0], _, [], List.range 5, [30]⟩ :: ⟨[.op 5 0], _, [], List.range 6, [24]⟩ :: ⟨[.op 6 0], _, [], List.range 7, [31]⟩ :: ⟨[.op 6 0], _, [], List.range 7, [32]⟩ :: ⟨[.op 6 0], _, [], List.range 7, [33]⟩ :: ⟨[.op 7 0, .old 0], _, [2], List.range 8, [1]⟩ :: ⟨[.op 8 0], _, [], [0, 1, 2, 3, 4, 5, 6, 7, 8, 10], [2]⟩ :: ⟨[.op 9 0], _, [], List.range 12, [4]⟩ :: []) (F := [.op 10 0, .op 11 0, .op 12 0]) (hst.pick [0] rfl) hb follows
      (o_p rfl (bd_25_ rfl rfl ) <|
       o_p rfl (bd_25_0_1 rfl rfl c_i c_i) <|
       o_p rfl (bd_27_0_1_5 rfl rfl c_i c_s u_0) <|
       o_p rfl (bd_27_0_1_2 rfl rfl c_i c_s c_i) <|
       o_p rfl (ob_lit te_38 (xs := [.tmp 27, .tmp 28]) (.cons u_0 (.cons u_1 .nil)) (by decide) rfl rfl) <|
       o_p rfl (ob_call en_16 (rule_Row_ok _ _ _ h5) rfl rfl (.cons u_0 (.cons c_b (.cons u_1 .nil)))) <|
       o_p rfl (ob_move rfl rfl u_0) <|
       o_p rfl (ob_extract rfl rfl u_0 rfl) <|
       o_p rfl (ob_extract rfl rfl u_0 rfl) <|
       o_p rfl (ob_extract rfl rfl u_0 rfl) <|
       o_p rfl (ob_store ty_25 rfl rfl u_1 u_0) <|
       o_p rfl (ob_assign rfl rfl u_0) <|
       o_p rfl (ob_assign rfl rfl u_0) <|
       o_n) (by kernel_rfl) (fun a g hst hb => ?_)
    obtain ⟨e6, h7, H0⟩ := of_bind H0; obtain ⟨r8, h9, H0⟩ := of_bind H0; obtain ⟨e10, h11, H0⟩ := of_bind H0
    refine r_s (L := [(1, _), (2, _), (4, _)]) (T := ⟨[.old 0], _, [], [], [34]⟩ :: ⟨[.op 0 0], _, [], [0], [35]⟩ :: ⟨[.op 1 0], _, [], [0, 1], [36]⟩ :: ⟨[.op 2 0], _, [], [0, 1, 2], [37]⟩ :: ⟨[.op 3 0, .old 1], _, [], List.range 4, [38]⟩ :: ⟨[.op 3 0, .op 4 0], _, [], List.range 5, [39]⟩ :: ⟨[.op 5 0], _, [], List.range 6, [40]⟩ :: ⟨[.op 6 0, .old 2], _, [], List.range 7, [41]⟩ :: ⟨[.op 6 0, .op 7 0], _, [], List.range 8, [42]⟩ :: ⟨[.op 6 0, .op 8 0], _, [], List.range 9, [43]⟩ :: ⟨[.op 6 0, .op 9 0], _, [], List.range 10, [44]⟩ :: ⟨[.op 10 0], _, [], List.range 11, [45]⟩ :: ⟨[.op 11 0, .old 2], _, [], List.range 12, [46]⟩ :: ⟨[.op 11 0, .op 12 0], _, [], List.range 13, [47]⟩ :: ⟨[.op 11 0, .op 13 0], _, [], List.range 14, [48]⟩ :: ⟨[.op 11 0], _, [], List.range 12, [49]⟩ :: ⟨[.op 11 0, .op 14 0, .op 15 0], _, [], List.range 16, [50]⟩ :: ⟨[.op 11 0, .op 16 0], _, [], List.range 17, [51]⟩ :: ⟨[.op 17 0], _, [], List.range 18, [52]⟩ :: ⟨[.op 18 0, .old 2], _, [], List.range 19, [53]⟩ :: ⟨[.op 18 0, .op 19 0], _, [], List.range 20, [54]⟩ :: ⟨[.op 18 0, .op 20 0], _, [], List.range 21, [55]⟩ :: ⟨[.op 18 0, .op 21 0], _, [], List.range 22, [56]⟩ :: ⟨[.op 18 0, .op 22 0], _, [], List.range 23, [57]⟩ :: ⟨[.op 18 0, .op 23 0], _, [], List.range 24, [58]⟩ :: ⟨[.op 24 0], _, [], List.range 25, [0]⟩ :: []) (F := [.op 25 0]) hst hb follows
      (o_p rfl (ob_fieldAddrM fl_25_1 (off := 1) (by kernel_rfl) rfl rfl u_0) <|
       o_p rfl (ob_loadP ty_2 rfl rfl u_0) <|
       o_p rfl (ob_eq rfl rfl u_0 c_i) <|
       o_p rfl (ob_move rfl rfl u_0) <|
       o_g (g_t rfl rfl rfl (fun hG => ob_move rfl rfl u_0)) <|
       o_p rfl (ob_pand rfl rfl u_0 (fun hz => (Opd.gd hz u_1))) <|
       o_p rfl (ob_move rfl rfl u_0) <|
       o_g (g_t rfl rfl rfl (fun hG => ob_move rfl rfl u_0)) <|
       o_g (g_t rfl rfl rfl (fun hG => ob_lenL Tryd.underlying39 rfl rfl (Opd.gd hG u_0))) <|
       o_g (g_t rfl rfl rfl (fun hG => ob_eq rfl rfl (Opd.gd hG u_0) c_i)) <|
       o_p rfl (ob_pand rfl rfl u_0 (fun hz => (Opd.gd hz u_1))) <|
       o_p rfl (ob_move rfl rfl u_0) <|
       o_g (g_t rfl rfl rfl (fun hG => ob_move rfl rfl u_0)) <|
       o_g (g_t rfl rfl rfl (fun hG => ob_indexAddr Tryd.underlying39 sz_32 rfl rfl (Opd.gd hG u_0) c_i (gd_true h7 hG))) <|
       o_g (g_t rfl rfl rfl (fun hG => ob_load ty_32 rfl rfl (Opd.gd hG u_0))) <|
       o_g (g_t rfl rfl rfl (fun hG => bd_32_ rfl rfl )) <|
       o_g (g_t rfl rfl rfl (fun hG => ob_call en_15 (rule_Same_ok _ _ (gd_true h9 hG)) rfl rfl (.cons (Opd.gd hG u_0) (.cons (Opd.gd hG u_1) .nil)))) <|
       o_p rfl (ob_pand rfl rfl u_0 (fun hz => (Opd.gd hz u_1))) <|
       o_p rfl (ob_move rfl rfl u_0) <|
       o_g (g_t rfl rfl rfl (fun hG => ob_move rfl rfl u_0)) <|
       o_g (g_t rfl rfl rfl (fun hG => ob_indexAddr Tryd.underlying39 sz_32 rfl rfl (Opd.gd hG u_0) c_i (gd_true h11 hG))) <|
       o_g (g_t rfl rfl rfl (fun hG => ob_fieldAddr fl_32_0 rfl rfl (Opd.gd hG u_0))) <|
       o_g (g_t rfl rfl rfl (fun hG => ob_load ty_30 rfl rfl (Opd.gd hG u_0))) <|
       o_g (g_t rfl rfl rfl (fun hG => ob_eq rfl rfl (Opd.gd hG u_0) c_i)) <|
       o_p rfl (ob_pand rfl rfl u_0 (fun hz => (Opd.gd hz u_1))) <|
       o_p rfl (ob_assign rfl rfl u_0) <|
       o_n) (by kernel_rfl) (fun a g hst hb => ?_)
    refine wp_ret ?_
    obtain rfl := Option.some.inj H0
    exact endR1 rfl hst hb (res_tmp (s := 0)) (hst.at 0 rfl)
end Go.CL

set_option linter.unusedVariables false
set_option linter.unusedSimpArgs false
set_option maxRecDepth 100000
namespace Go.CL
open Go Go.RowKit Go.Proofs
theorem moietylaw03_Big_ok (a0 : api_Record) {r : Int} (h : moietylaw03_Big a0 = some r) : FnOk Tryd.prog 23 [(k_api_Record.pd a0)] (pInt .i64 r) := by
  have H0 := h
  unfold moietylaw03_Big at H0
  clear h
  refine fn_ok (N := 27) Tryd.func23 rfl rfl (Nat.le_of_ble_eq_true rfl) rfl rfl (fun a g0 hst hb => ?_)
  refine r_s (L := [(0, _)]) (T := [⟨[.old 0], _, [], [], [1]⟩, ⟨[], _, [], [], [2]⟩]) (F := [.op 0 0]) hst hb follows
    (o_p rfl (ob_box1 rfl rfl u_0) <|
     o_p rfl (ob_assign rfl rfl c_i) <|
     o_n) (by kernel_rfl) (fun a g hst hb => ?_)
  refine wp_seq ?_
  refine r_s (L := [(1, _)]) (T := [⟨[.old 0], _, [], [], [5]⟩, ⟨[.op 0 0], _, [], [0], [6]⟩, ⟨[.op 1 0], _, [], [0, 1], [7]⟩, ⟨[.op 2 0], _, [], [0, 1, 2], [8]⟩, ⟨[.op 3 0], _, [], List.range 4, [9]⟩, ⟨[.op 4 0, .old 0], _, [], List.range 5, [10]⟩, ⟨[.op 4 0, .op 5 0], _, [], List.range 6, [11]⟩, ⟨[.op 4 0, .op 6 0], _, [], List.range 7, [12]⟩, ⟨[.op 4 0, .op 7 0], _, [], List.range 8, [13]⟩, ⟨[.op 4 0, .op 8 0], _, [], List.range 9, [14]⟩]) (F := [.old 0, .op 9 0]) hst hb follows
    (o_p rfl (ob_fieldAddr fl_25_7 rfl rfl u_0) <|
     o_p rfl (ob_load ty_23 rfl rfl u_0) <|
     o_p rfl (ob_lenL Tryd.underlying23 rfl rfl u_0) <|
     o_p rfl (ob_gt rfl rfl u_0 c_i) <|
     o_p rfl (ob_move rfl rfl u_0) <|
     o_g (g_f rfl rfl rfl (fun hG => ob_fieldAddr fl_25_6 rfl rfl u_0)) <|
     o_g (g_f rfl rfl rfl (fun hG => ob_load ty_9 rfl rfl (Opd.gd hG u_0))) <|
     o_g (g_f rfl rfl rfl (fun hG => ob_lenS Tryd.underlying9 rfl rfl (Opd.gd hG u_0))) <|
     o_g (g_f rfl rfl rfl (fun hG => ob_gt rfl rfl (Opd.gd hG u_0) c_i)) <|
     o_p rfl (ob_por rfl rfl u_0 (fun hz => (Opd.gd (bNF hz) u_1))) <|
     o_n) (by kernel_rfl) (fun a g hst hb => ?_)
  refine wp_cond_split (hst.bool 1 rfl) (fun hc1 => ?_) (fun hc1 => ?_)
  · replace H0 := ite_t hc1 H0
    refine r_s (L := []) (T := [⟨[], _, [], [], [2]⟩]) (F := [.op 0 0]) (hst.pick [] rfl) hb follows
      (o_p rfl (ob_assign rfl rfl c_i) <|
       o_n) (by kernel_rfl) (fun a g hst hb => ?_)
    refine wp_ret ?_
    refine then_r ?_
    obtain rfl := Option.some.inj H0
    exact endR1 rfl hst hb (res_tmp (s := 2)) (hst.at 0 rfl)
  · replace H0 := ite_f hc1 H0
    refine wp_skip ?_
    refine then_n ?_
    refine wp_seq ?_
    refine r_s (L := [(1, _)]) (T := [⟨[.old 0], _, [], [], [15]⟩, ⟨[.op 0 0], _, [], [0], [16]⟩, ⟨[.op 1 0], _, [], [0, 1], [17]⟩, ⟨[], _, [], [], [18]⟩]) (F := [.op 1 0, .op 2 0, .op 3 0]) (hst.pick [0] rfl) hb follows
      (o_p rfl (ob_fieldAddr fl_25_7 rfl rfl u_0) <|
       o_p rfl (ob_load ty_23 rfl rfl u_0) <|
       o_p rfl (ob_lenL Tryd.underlying23 rfl rfl u_0) <|
       o_p rfl (ob_move rfl rfl c_i) <|
       o_n) (by kernel_rfl) (fun a g hst hb => ?_)
    obtain ⟨z7, hz1, H0⟩ := of_bind H0
    refine wp_cut (fun a w => ∃ (g : G), w = g.w ∧ St 27 [] a g ∧ Base g0 g ∧ (.inr ()) = z7) ?_ ?_
    · rintro a w ⟨g, rfl, hst, hb, rfl⟩
      refine then_n ?_
      refine r_s (L := []) (T := [⟨[], _, [], [], [2]⟩]) (F := [.op 0 0]) hst hb follows
        (o_p rfl (ob_assign rfl rfl c_i) <|
         o_n) (by kernel_rfl) (fun a g hst hb => ?_)
      refine wp_ret ?_
      obtain rfl := Option.some.inj H0
      exact endR1 rfl hst hb (res_tmp (s := 2)) (hst.at 0 rfl)
    · refine wp_block ?_
      refine wp_loop_ghost (fun n a w => ∃ (x2 : Int) (g : G), w = g.w ∧ St 27 [(16, (k_api_Item.sl.pd a0.List)), (17, (pInt .i64 (a0.List.length : Int))), (18, (pInt .i64 x2))] a g ∧ Base g0 g ∧ moietylaw03_Big_l1 a0 n x2 = some z7) (Int.toNat ((a0.List.length : Int) - (0 : Int)) + 1) ⟨(0 : Int), g, rfl, (hst.pick [0, 1, 2] rfl), hb, hz1⟩ (fun n a w hI => ?_)
      obtain ⟨x2, g, rfl, hst, hb, H1⟩ := hI
      cases n with
      | zero => exact absurd H1 (by simp [moietylaw03_Big_l1])
      | succ n =>
        rw [moietylaw03_Big_l1] at H1
        refine r_s (L := [(16, _), (17, _), (18, _)]) (T := [⟨[.old 2, .old 1], _, [], [], [19]⟩]) (F := [.old 0, .old 1, .old 2, .op 0 0]) hst hb follows
          (o_p rfl (ob_lt rfl rfl u_0 u_1) <|
           o_n) (by kernel_rfl) (fun a g hst hb => ?_)
        refine wp_seq ?_
        refine wp_cond_split (hst.bool 3 rfl) (fun hc3 => ?_) (fun hc3 => ?_)
        · replace H1 := ite_t hc3 H1
          refine wp_skip ?_
          refine then_n ?_
          refine wp_seq ?_
          refine wp_block ?_
          obtain ⟨e4, h5, H1⟩ := of_bind H1
          refine r_s (L := [(16, _), (17, _), (18, _)]) (T := [⟨[.old 0, .old 2], _, [], [], [20]⟩, ⟨[.op 0 0], _, [], [0], [21]⟩, ⟨[], [(4, (pBox k_api_Item 4 (default : api_Item)))], [5], [], [4]⟩, ⟨[.op 1 0, .op 2 0], _, [5], [0, 1, 2], [4]⟩]) (F := [.op 3 0, .old 0, .old 1, .old 2]) (hst.pick [0, 1, 2] rfl) hb follows
            (o_p rfl (ob_indexAddr Tryd.underlying23 sz_48 rfl rfl u_0 u_1 h5) <|
             o_p rfl (ob_load ty_48 rfl rfl u_0) <|
             o_p rfl (ob_alloc (zs := [.float .f64 0, .string ByteArray.empty]) (by kernel_rfl) (fun g => zk_api_Item g) rfl rfl) <|
             o_p rfl (ob_storeF ty_48 rfl rfl u_1 u_0) <|
             o_n) (by kernel_rfl) (fun a g hst hb => ?_)
          refine r_s (L := [(4, _), (16, _), (17, _), (18, _)]) (T := [⟨[.old 0], _, [], [], [22]⟩, ⟨[.op 0 0], _, [], [0], [23]⟩, ⟨[.op 1 0], _, [], [0, 1], [24]⟩, ⟨[.op 2 0], _, [], [0, 1, 2], [25]⟩]) (F := [.old 1, .old 2, .old 3, .op 3 0]) hst hb follows
            (o_p rfl (ob_fieldAddr fl_48_1 rfl rfl u_0) <|
             o_p rfl (ob_load ty_9 rfl rfl u_0) <|
             o_p rfl (ob_lenS Tryd.underlying9 rfl rfl u_0) <|
             o_p rfl (ob_gt rfl rfl u_0 c_i) <|
             o_n) (by kernel_rfl) (fun a g hst hb => ?_)
          refine wp_cond_split (hst.bool 3 rfl) (fun hc6 => ?_) (fun hc6 => ?_)
          · replace H1 := ite_t hc6 H1
            refine r_s (L := []) (T := [⟨[], _, [], [], [2]⟩]) (F := [.op 0 0]) (hst.pick [] rfl) hb follows
              (o_p rfl (ob_assign rfl rfl c_i) <|
               o_n) (by kernel_rfl) (fun a g hst hb => ?_)
            refine wp_ret ?_
            refine inBlock_r ?_
            refine then_r ?_
            refine then_r ?_
            refine inBlock_r ?_
            refine then_r ?_
            refine then_r ?_
            obtain rfl := Option.some.inj H1
            obtain rfl := Option.some.inj H0
            exact endR1 rfl hst hb (res_tmp (s := 2)) (hst.at 0 rfl)
          · replace H1 := ite_f hc6 H1
            refine wp_skip ?_
            refine inBlock_n ?_
            refine then_n ?_
            refine r_g (L := [(16, _), (17, _), (18, _)]) (T := [⟨[.old 2], _, [], [], [26]⟩, ⟨[.op 0 0], _, [], [0], [18]⟩]) (F := [.old 0, .old 1, .op 1 0]) (hst.pick [0, 1, 2] rfl) hb follows
              (o_p rfl (ob_add rfl rfl u_0 c_i rfl) <|
               o_p rfl (ob_move rfl rfl u_0) <|
               o_n) (by kernel_rfl) (fun a g hst hb => ?_)
            exact ⟨n, Nat.lt_succ_self _, (IntKind.i64.wrap (x2 + (1 : Int))), g, rfl, (hst.pick [0, 1, 2] rfl), hb, H1⟩
        · replace H1 := ite_f hc3 H1
          refine wp_exit ?_
          refine then_e ?_
          refine then_e ?_
          refine inBlock_e ?_
          exact ⟨g, rfl, (hst.pick [] rfl), hb, Option.some.inj H1⟩
end Go.CL

set_option linter.unusedVariables false
set_option linter.unusedSimpArgs false
set_option maxRecDepth 100000
namespace Go.CL
open Go Go.RowKit Go.Proofs
theorem moietylaw04_Big_ok (a0 : api_Act) {r : Int} (h : moietylaw04_Big a0 = some r) : FnOk Tryd.prog 24 [(k_api_Act.pd a0)] (pInt .i64 r) := by
  have H0 := h
  unfold moietylaw04_Big at H0
  clear h
  refine fn_ok (N := 19) Tryd.func24 rfl rfl (Nat.le_of_ble_eq_true rfl) rfl rfl (fun a g0 hst hb => ?_)
  refine r_s (L := [(0, _)]) (T := [⟨[.old 0], _, [], [], [1]⟩, ⟨[], _, [], [], [2]⟩]) (F := [.op 0 0]) hst hb follows
    (o_p rfl (ob_box1 rfl rfl u_0) <|
     o_p rfl (ob_assign rfl rfl c_i) <|
     o_n) (by kernel_rfl) (fun a g hst hb => ?_)
  refine wp_seq ?_
  obtain ⟨r1, h2, H0⟩ := of_bind H0
  refine r_s (L := [(1, _)]) (T := ⟨[.old 0], _, [], [], [3]⟩ :: ⟨[.op 0 0], _, [], [0], [4]⟩ :: ⟨[.op 1 0], _, [], [0, 1], [5]⟩ :: ⟨[.op 2 0], _, [], [0, 1, 2], [6]⟩ :: ⟨[.op 3 0], _, [], List.range 4, [7]⟩ :: ⟨[.op 4 0, .old 0], _, [], List.range 5, [8]⟩ :: ⟨[.op 4 0, .op 5 0], _, [], List.range 6, [9]⟩ :: ⟨[.op 4 0, .op 6 0], _, [], List.range 7, [10]⟩ :: ⟨[.op 4 0, .op 7 0], _, [], List.range 8, [11]⟩ :: ⟨[.op 4 0, .op 8 0], _, [], List.range 9, [12]⟩ :: ⟨[.op 9 0], _, [], List.range 10, [13]⟩ :: ⟨[.op 10 0, .old 0], _, [], List.range 11, [14]⟩ :: ⟨[.op 10 0, .op 11 0], _, [], List.range 12, [15]⟩ :: ⟨[.op 10 0, .op 12 0], _, [], List.range 13, [16]⟩ :: ⟨[.op 10 0, .op 13 0], _, [], List.range 14, [17]⟩ :: ⟨[.op 10 0, .op 14 0], _, [], List.range 15, [18]⟩ :: []) (F := [.op 15 0]) hst hb follows
    (o_p rfl (ob_fieldAddr fl_27_1 rfl rfl u_0) <|
     o_p rfl (ob_load ty_9 rfl rfl u_0) <|
     o_p rfl (ob_lenS Tryd.underlying9 rfl rfl u_0) <|
     o_p rfl (ob_gt rfl rfl u_0 c_i) <|
     o_p rfl (ob_move rfl rfl u_0) <|
     o_g (g_f rfl rfl rfl (fun hG => ob_fieldAddr fl_27_4 rfl rfl u_0)) <|
     o_g (g_f rfl rfl rfl (fun hG => ob_load ty_9 rfl rfl (Opd.gd hG u_0))) <|
     o_g (g_f rfl rfl rfl (fun hG => ob_lenS Tryd.underlying9 rfl rfl (Opd.gd hG u_0))) <|
     o_g (g_f rfl rfl rfl (fun hG => ob_gt rfl rfl (Opd.gd hG u_0) c_i)) <|
     o_p rfl (ob_por rfl rfl u_0 (fun hz => (Opd.gd (bNF hz) u_1))) <|
     o_p rfl (ob_move rfl rfl u_0) <|
     o_g (g_f rfl rfl rfl (fun hG => ob_fieldAddr fl_27_5 rfl rfl u_0)) <|
     o_g (g_f rfl rfl rfl (fun hG => ob_load ty_25 rfl rfl (Opd.gd hG u_0))) <|
     o_g (g_f rfl rfl rfl (fun hG => ob_call en_23 (moietylaw03_Big_ok _ (gd_true h2 hG)) rfl rfl (.cons (Opd.gd hG u_0) .nil))) <|
     o_g (g_f rfl rfl rfl (fun hG => ob_gt rfl rfl (Opd.gd hG u_0) c_i)) <|
     o_p rfl (ob_por rfl rfl u_0 (fun hz => (Opd.gd (bNF hz) u_1))) <|
     o_n) (by kernel_rfl) (fun a g hst hb => ?_)
  refine wp_cond_split (hst.bool 0 rfl) (fun hc3 => ?_) (fun hc3 => ?_)
  · replace H0 := ite_t hc3 H0
    refine r_s (L := []) (T := [⟨[], _, [], [], [2]⟩]) (F := [.op 0 0]) (hst.pick [] rfl) hb follows
      (o_p rfl (ob_assign rfl rfl c_i) <|
       o_n) (by kernel_rfl) (fun a g hst hb => ?_)
    refine wp_ret ?_
    refine then_r ?_
    obtain rfl := Option.some.inj H0
    exact endR1 rfl hst hb (res_tmp (s := 2)) (hst.at 0 rfl)
  · replace H0 := ite_f hc3 H0
    refine wp_skip ?_
    refine then_n ?_
    refine r_s (L := []) (T := [⟨[], _, [], [], [2]⟩]) (F := [.op 0 0]) (hst.pick [] rfl) hb follows
      (o_p rfl (ob_assign rfl rfl c_i) <|
       o_n) (by kernel_rfl) (fun a g hst hb => ?_)
    refine wp_ret ?_
    obtain rfl := Option.some.inj H0
    exact endR1 rfl hst hb (res_tmp (s := 2)) (hst.at 0 rfl)
end Go.CL

set_option linter.unusedVariables false
set_option linter.unusedSimpArgs false
set_option maxRecDepth 100000
namespace Go.CL
open Go Go.RowKit Go.Proofs
theorem moietylaw05_big_ok (a0 : api_Record) (a1 : List api_Act) {r : Bool} (h : moietylaw05_big a0 a1 = some r) : FnOk Tryd.prog 10 [(k_api_Record.pd a0), (k_api_Act.sl.pd a1)] (pBool r) := by
  have H0 := h
  unfold moietylaw05_big at H0
  clear h
  refine fn_ok (N := 25) Tryd.func10 rfl rfl (Nat.le_of_ble_eq_true rfl) rfl rfl (fun a g0 hst hb => ?_)
  refine r_s (L := [(0, _), (1, _)]) (T := [⟨[.old 0], _, [], [], [2]⟩, ⟨[], _, [], [], [4]⟩]) (F := [.old 1, .op 0 0]) hst hb follows
    (o_p rfl (ob_box1 rfl rfl u_0) <|
     o_p rfl (ob_assign rfl rfl c_b) <|
     o_n) (by kernel_rfl) (fun a g hst hb => ?_)
  refine wp_seq ?_
  obtain ⟨r1, h2, H0⟩ := of_bind H0
  refine r_s (L := [(1, _), (2, _)]) (T := [⟨[.old 1], _, [], [], [7]⟩, ⟨[.op 0 0], _, [], [0], [8]⟩, ⟨[.op 1 0], _, [], [0, 1], [9]⟩, ⟨[.op 2 0], _, [], [0, 1, 2], [10]⟩, ⟨[.op 3 0, .old 0], _, [], List.range 4, [11]⟩, ⟨[.op 3 0, .op 4 0], _, [], List.range 5, [12]⟩, ⟨[.op 3 0, .op 5 0], _, [], List.range 6, [13]⟩, ⟨[.op 3 0, .op 6 0], _, [], List.range 7, [14]⟩]) (F := [.old 0, .op 7 0]) hst hb follows
    (o_p rfl (ob_load ty_25 rfl rfl u_0) <|
     o_p rfl (ob_call en_23 (moietylaw03_Big_ok _ h2) rfl rfl (.cons u_0 .nil)) <|
     o_p rfl (ob_gt rfl rfl u_0 c_i) <|
     o_p rfl (ob_move rfl rfl u_0) <|
     o_g (g_f rfl rfl rfl (fun hG => ob_move rfl rfl u_0)) <|
     o_g (g_f rfl rfl rfl (fun hG => ob_lenL Tryd.underlying38 rfl rfl (Opd.gd hG u_0))) <|
     o_g (g_f rfl rfl rfl (fun hG => ob_gt rfl rfl (Opd.gd hG u_0) c_i)) <|
     o_p rfl (ob_por rfl rfl u_0 (fun hz => (Opd.gd (bNF hz) u_1))) <|
     o_n) (by kernel_rfl) (fun a g hst hb => ?_)
  refine wp_cond_split (hst.bool 1 rfl) (fun hc3 => ?_) (fun hc3 => ?_)
  · replace H0 := ite_t hc3 H0
    refine r_s (L := []) (T := [⟨[], _, [], [], [4]⟩]) (F := [.op 0 0]) (hst.pick [] rfl) hb follows
      (o_p rfl (ob_assign rfl rfl c_b) <|
       o_n) (by kernel_rfl) (fun a g hst hb => ?_)
    refine wp_ret ?_
    refine then_r ?_
    obtain rfl := Option.some.inj H0
    exact endR1 rfl hst hb (res_tmp (s := 4)) (hst.at 0 rfl)
  · replace H0 := ite_f hc3 H0
    refine wp_skip ?_
    refine then_n ?_
    refine wp_seq ?_
    refine r_s (L := [(1, _)]) (T := [⟨[.old 0], _, [], [], [15]⟩, ⟨[.op 0 0], _, [], [0], [16]⟩, ⟨[], _, [], [], [17]⟩]) (F := [.op 0 0, .op 1 0, .op 2 0]) (hst.pick [0] rfl) hb follows
      (o_p rfl (ob_move rfl rfl u_0) <|
       o_p rfl (ob_lenL Tryd.underlying38 rfl rfl u_0) <|
       o_p rfl (ob_move rfl rfl c_i) <|
       o_n) (by kernel_rfl) (fun a g hst hb => ?_)
    obtain ⟨z11, hz1, H0⟩ := of_bind H0
    refine wp_cut (fun a w => ∃ (g : G), w = g.w ∧ St 25 [] a g ∧ Base g0 g ∧ (.inr ()) = z11) ?_ ?_
    · rintro a w ⟨g, rfl, hst, hb, rfl⟩
      refine then_n ?_
      refine r_s (L := []) (T := [⟨[], _, [], [], [4]⟩]) (F := [.op 0 0]) hst hb follows
        (o_p rfl (ob_assign rfl rfl c_b) <|
         o_n) (by kernel_rfl) (fun a g hst hb => ?_)
      refine wp_ret ?_
      obtain rfl := Option.some.inj H0
      exact endR1 rfl hst hb (res_tmp (s := 4)) (hst.at 0 rfl)
    · refine wp_block ?_
      refine wp_loop_ghost (fun n a w => ∃ (x4 : Int) (g : G), w = g.w ∧ St 25 [(15, (k_api_Act.sl.pd a1)), (16, (pInt .i64 (a1.length : Int))), (17, (pInt .i64 x4))] a g ∧ Base g0 g ∧ moietylaw05_big_l1 a1 n x4 = some z11) (Int.toNat ((a1.length : Int) - (0 : Int)) + 1) ⟨(0 : Int), g, rfl, (hst.pick [0, 1, 2] rfl), hb, hz1⟩ (fun n a w hI => ?_)
      obtain ⟨x4, g, rfl, hst, hb, H1⟩ := hI
      cases n with
      | zero => exact absurd H1 (by simp [moietylaw05_big_l1])
      | succ n =>
        rw [moietylaw05_big_l1] at H1
        refine r_s (L := [(15, _), (16, _), (17, _)]) (T := [⟨[.old 2, .old 1], _, [], [], [18]⟩]) (F := [.old 0, .old 1, .old 2, .op 0 0]) hst hb follows
          (o_p rfl (ob_lt rfl rfl u_0 u_1) <|
           o_n) (by kernel_rfl) (fun a g hst hb => ?_)
        refine wp_seq ?_
        refine wp_cond_split (hst.bool 3 rfl) (fun hc5 => ?_) (fun hc5 => ?_)
        · replace H1 := ite_t hc5 H1
          refine wp_skip ?_
          refine then_n ?_
          refine wp_seq ?_
          refine wp_block ?_
          obtain ⟨e6, h7, H1⟩ := of_bind H1
          refine r_s (L := [(15, _), (16, _), (17, _)]) (T := [⟨[.old 0, .old 2], _, [], [], [19]⟩, ⟨[.op 0 0], _, [], [0], [20]⟩, ⟨[], [(6, (pBox k_api_Act 6 (default : api_Act)))], [7], [], [6]⟩, ⟨[.op 1 0, .op 2 0], _, [7], [0, 1, 2], [6]⟩]) (F := [.op 3 0, .old 0, .old 1, .old 2]) (hst.pick [0, 1, 2] rfl) hb follows
            (o_p rfl (ob_indexAddr Tryd.underlying38 sz_27 rfl rfl u_0 u_1 h7) <|
             o_p rfl (ob_load ty_27 rfl rfl u_0) <|
             o_p rfl (ob_alloc (zs := [.int .i64 0, .string ByteArray.empty, .int .i64 0, .float .f64 0, .string ByteArray.empty, .int .i64 0, .int .i64 0, .int .i64 0, .int .i64 0, .float .f64 0, .int .i64 0, .string ByteArray.empty, .slice none 0 0, .bool false]) (by kernel_rfl) (fun g => zk_api_Act g) rfl rfl) <|
             o_p rfl (ob_storeF ty_27 rfl rfl u_1 u_0) <|
             o_n) (by kernel_rfl) (fun a g hst hb => ?_)
          obtain ⟨r8, h9, H1⟩ := of_bind H1
          refine r_s (L := [(6, _), (15, _), (16, _), (17, _)]) (T := [⟨[.old 0], _, [], [], [21]⟩, ⟨[.op 0 0], _, [], [0], [22]⟩, ⟨[.op 1 0], _, [], [0, 1], [23]⟩]) (F := [.old 1, .old 2, .old 3, .op 2 0]) hst hb follows
            (o_p rfl (ob_load ty_27 rfl rfl u_0) <|
             o_p rfl (ob_call en_24 (moietylaw04_Big_ok _ h9) rfl rfl (.cons u_0 .nil)) <|
             o_p rfl (ob_gt rfl rfl u_0 c_i) <|
             o_n) (by kernel_rfl) (fun a g hst hb => ?_)
          refine wp_cond_split (hst.bool 3 rfl) (fun hc10 => ?_) (fun hc10 => ?_)
          · replace H1 := ite_t hc10 H1
            refine r_s (L := []) (T := [⟨[], _, [], [], [4]⟩]) (F := [.op 0 0]) (hst.pick [] rfl) hb follows
              (o_p rfl (ob_assign rfl rfl c_b) <|
               o_n) (by kernel_rfl) (fun a g hst hb => ?_)
            refine wp_ret ?_
            refine inBlock_r ?_
            refine then_r ?_
            refine then_r ?_
            refine inBlock_r ?_
            refine then_r ?_
            refine then_r ?_
            obtain rfl := Option.some.inj H1
            obtain rfl := Option.some.inj H0
            exact endR1 rfl hst hb (res_tmp (s := 4)) (hst.at 0 rfl)
          · replace H1 := ite_f hc10 H1
            refine wp_skip ?_
            refine inBlock_n ?_
            refine then_n ?_
            refine r_g (L := [(15, _), (16, _), (17, _)]) (T := [⟨[.old 2], _, [], [], [24]⟩, ⟨[.op 0 0], _, [], [0], [17]⟩]) (F := [.old 0, .old 1, .op 1 0]) (hst.pick [0, 1, 2] rfl) hb follows
              (o_p rfl (ob_add rfl rfl u_0 c_i rfl) <|
               o_p rfl (ob_move rfl rfl u_0) <|
               o_n) (by kernel_rfl) (fun a g hst hb => ?_)
            exact ⟨n, Nat.lt_succ_self _, (IntKind.i64.wrap (x4 + (1 : Int))), g, rfl, (hst.pick [0, 1, 2] rfl), hb, H1⟩
        · replace H1 := ite_f hc5 H1
          refine wp_exit ?_
          refine then_e ?_
          refine then_e ?_
          refine inBlock_e ?_
          exact ⟨g, rfl, (hst.pick [] rfl), hb, Option.some.inj H1⟩
end Go.CL
