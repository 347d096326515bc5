/- A part of the proof of ShelfStays. -/
import Derived.Test.YtlphnpmegolfmaaShelfStaysC4
import Derived.KernelRfl
import Derived.Laws.Strings
set_option linter.unusedVariables false
set_option linter.unusedSimpArgs false
set_option maxRecDepth 100000
namespace Go.CL
open Go Go.RowKit Go.Proofs
theorem moietyref09_Shelf_Set_ok (a0 : moietyref09_Shelf) (a1 : ByteArray) (a2 : api_Record) {r : moietyref09_Shelf × Int} (h : moietyref09_Shelf_Set a0 a1 a2 = some r) : FnOk Try.prog 32 [(k_moietyref09_Shelf.pd a0), (pStr a1), (k_api_Record.pd a2)] (pTup [(k_moietyref09_Shelf.pd r.1), (pInt .i64 r.2)]) := by
  have H0 := h
  unfold moietyref09_Shelf_Set at H0
  clear h
  refine fn_ok (N := 80) Try.func32 rfl rfl (Nat.le_of_ble_eq_true rfl) rfl rfl (fun a g0 hst hb => ?_)
  refine r_s (L := [(0, _), (1, _), (2, _)]) (T := [⟨[.old 0], _, [], [], [3]⟩, ⟨[.old 2], _, [], [], [5]⟩, ⟨[], [(6, (pBox k_moietyref09_Shelf 6 (default : moietyref09_Shelf)))], [7], [], [6]⟩, ⟨[], _, [], [], [7]⟩]) (F := [.old 1, .op 0 0, .op 1 0, .op 2 0]) hst hb follows
    (o_p rfl (ob_box1 rfl rfl u_0) <|
     o_p rfl (ob_box1 rfl rfl u_0) <|
     o_p rfl (ob_alloc (zs := [.slice none 0 0, .int .i64 0]) (by kernel_rfl) (fun g => zk_moietyref09_Shelf g) rfl rfl) <|
     o_p rfl (ob_assign rfl rfl c_i) <|
     o_n) (by kernel_rfl) (fun a g hst hb => ?_)
  refine wp_seq ?_
  refine r_s (L := [(1, _), (3, _), (5, _), (6, _)]) (T := [⟨[.old 0], _, [], [], [12]⟩, ⟨[.op 0 0], _, [], [0], [13]⟩, ⟨[.op 1 0], _, [], [0, 1], [14]⟩, ⟨[.op 2 0], _, [], [0, 1, 2], [15]⟩, ⟨[.op 3 0, .old 0], _, [], List.range 4, [16]⟩, ⟨[.op 3 0, .op 4 0], _, [], List.range 5, [17]⟩, ⟨[.op 3 0, .op 5 0], _, [], List.range 6, [18]⟩, ⟨[.op 3 0, .op 6 0], _, [], List.range 7, [19]⟩]) (F := [.old 0, .old 1, .old 2, .old 3, .op 7 0]) hst hb follows
    (o_p rfl (ob_move rfl rfl u_0) <|
     o_p rfl (ob_lenS Try.underlying9 rfl rfl u_0) <|
     o_p rfl (ob_lt rfl rfl u_0 c_i) <|
     o_p rfl (ob_move rfl rfl u_0) <|
     o_g (g_f rfl rfl rfl (fun hG => ob_move rfl rfl u_0)) <|
     o_g (g_f rfl rfl rfl (fun hG => ob_lenS Try.underlying9 rfl rfl (Opd.gd hG u_0))) <|
     o_g (g_f rfl rfl rfl (fun hG => ob_gt rfl rfl (Opd.gd hG u_0) c_i)) <|
     o_p rfl (ob_por rfl rfl u_0 (fun hz => (Opd.gd (bNF hz) u_1))) <|
     o_n) (by kernel_rfl) (fun a g hst hb => ?_)
  refine wp_cond_split (hst.bool 4 rfl) (fun hc1 => ?_) (fun hc1 => ?_)
  · replace H0 := ite_t hc1 H0
    refine r_s (L := [(3, _), (6, _)]) (T := [⟨[.old 0], _, [], [], [20]⟩, ⟨[.op 0 0, .old 1], _, [7], [0], [6]⟩, ⟨[], _, [], [0, 1], [7]⟩]) (F := [.op 1 0, .op 2 0]) (hst.pick [1, 3] rfl) hb follows
      (o_p rfl (ob_load ty_34 rfl rfl u_0) <|
       o_p rfl (ob_store ty_34 rfl rfl u_1 u_0) <|
       o_p rfl (ob_assign rfl rfl c_i) <|
       o_n) (by kernel_rfl) (fun a g hst hb => ?_)
    refine wp_ret ?_
    refine then_r ?_
    obtain rfl := Option.some.inj H0
    obtain ⟨u0, hu0, hq0⟩ := res_box (P := Try.prog) ty_34 (hst.at 0 rfl)
    exact endR2 rfl hst hb hu0 (res_tmp (s := 7)) (pTup_2 hq0 (hst.at 1 rfl))
  · replace H0 := ite_f hc1 H0
    refine wp_skip ?_
    refine then_n ?_
    obtain ⟨r2, h3, H0⟩ := of_bind H0
    refine r_s (L := [(1, _), (3, _), (5, _), (6, _)]) (T := [⟨[.old 2], _, [], [], [21]⟩, ⟨[.op 0 0], _, [], [0], [22]⟩, ⟨[.op 1 0], _, [], [0, 1], [8]⟩]) (F := [.old 0, .old 1, .old 2, .old 3, .op 2 0]) (hst.pick [0, 1, 2, 3] rfl) hb follows
      (o_p rfl (ob_load ty_38 rfl rfl u_0) <|
       o_p rfl (ob_call en_45 (moietyref03_Check_ok _ h3) rfl rfl (.cons u_0 .nil)) <|
       o_p rfl (ob_assign rfl rfl u_0) <|
       o_n) (by kernel_rfl) (fun a g hst hb => ?_)
    refine wp_seq ?_
    refine r_s (L := [(1, _), (3, _), (5, _), (6, _), (8, _)]) (T := [⟨[.old 4], _, [], [], [23]⟩, ⟨[.op 0 0], _, [], [0], [24]⟩]) (F := [.old 0, .old 1, .old 2, .old 3, .old 4, .op 1 0]) hst hb follows
      (o_p rfl (ob_move rfl rfl u_0) <|
       o_p rfl (ob_ne rfl rfl u_0 c_i) <|
       o_n) (by kernel_rfl) (fun a g hst hb => ?_)
    refine wp_cond_split (hst.bool 5 rfl) (fun hc4 => ?_) (fun hc4 => ?_)
    · replace H0 := ite_t hc4 H0
      refine r_s (L := [(3, _), (6, _), (8, _)]) (T := [⟨[.old 0], _, [], [], [25]⟩, ⟨[.old 2], _, [], [], [26]⟩, ⟨[.op 0 0, .old 1], _, [7], [0], [6]⟩, ⟨[.op 1 0], _, [], [0, 1, 2], [7]⟩]) (F := [.op 2 0, .op 3 0]) (hst.pick [1, 3, 4] rfl) hb follows
        (o_p rfl (ob_load ty_34 rfl rfl u_0) <|
         o_p rfl (ob_move rfl rfl u_0) <|
         o_p rfl (ob_store ty_34 rfl rfl u_1 u_0) <|
         o_p rfl (ob_assign rfl rfl u_0) <|
         o_n) (by kernel_rfl) (fun a g hst hb => ?_)
      refine wp_ret ?_
      refine then_r ?_
      obtain rfl := Option.some.inj H0
      obtain ⟨u0, hu0, hq0⟩ := res_box (P := Try.prog) ty_34 (hst.at 0 rfl)
      exact endR2 rfl hst hb hu0 (res_tmp (s := 7)) (pTup_2 hq0 (hst.at 1 rfl))
    · replace H0 := ite_f hc4 H0
      refine wp_skip ?_
      refine then_n ?_
      obtain ⟨r5, h6, H0⟩ := of_bind H0
      refine r_s (L := [(1, _), (3, _), (5, _), (6, _)]) (T := [⟨[.old 1], _, [], [], [27]⟩, ⟨[.old 0], _, [], [], [28]⟩, ⟨[.op 0 0, .op 1 0], _, [], [0, 1], [29]⟩, ⟨[.op 2 0], _, [], [0, 1, 2], [9]⟩]) (F := [.old 0, .old 1, .old 2, .old 3, .op 3 0]) (hst.pick [0, 1, 2, 3] rfl) hb follows
        (o_p rfl (ob_load ty_34 rfl rfl u_0) <|
         o_p rfl (ob_move rfl rfl u_0) <|
         o_p rfl (ob_call en_15 (moietyref09_Shelf_Find_ok _ _ h6) rfl rfl (.cons u_0 (.cons u_1 .nil))) <|
         o_p rfl (ob_assign rfl rfl u_0) <|
         o_n) (by kernel_rfl) (fun a g hst hb => ?_)
      obtain ⟨e7, h8, H0⟩ := of_bind H0
      refine r_s (L := [(1, _), (3, _), (5, _), (6, _), (9, _)]) (T := ⟨[.old 4], _, [], [], [30]⟩ :: ⟨[.old 1], _, [], [], [31]⟩ :: ⟨[.op 1 0], _, [], [1], [32]⟩ :: ⟨[.op 2 0], _, [], [1, 2], [33]⟩ :: ⟨[.op 0 0, .op 3 0], _, [], List.range 4, [34]⟩ :: ⟨[.op 4 0], _, [], List.range 5, [35]⟩ :: ⟨[.op 5 0, .old 1], _, [], List.range 6, [36]⟩ :: ⟨[.op 5 0, .op 6 0], _, [], List.range 7, [37]⟩ :: ⟨[.op 5 0, .old 4], _, [], List.range 6, [38]⟩ :: ⟨[.op 5 0, .op 7 0, .op 8 0], _, [], List.range 9, [39]⟩ :: ⟨[.op 5 0, .op 9 0], _, [], List.range 10, [40]⟩ :: ⟨[.op 5 0, .op 10 0], _, [], List.range 11, [41]⟩ :: ⟨[.op 5 0, .old 0], _, [], List.range 6, [42]⟩ :: ⟨[.op 5 0, .op 11 0, .op 12 0], _, [], List.range 13, [43]⟩ :: ⟨[.op 5 0, .op 13 0], _, [], List.range 14, [44]⟩ :: ⟨[.op 14 0], _, [], List.range 15, [10]⟩ :: []) (F := [.old 0, .old 1, .old 2, .old 3, .old 4, .op 15 0]) hst hb follows
        (o_p rfl (ob_move rfl rfl u_0) <|
         o_p rfl (ob_fieldAddr fl_34_0 rfl rfl u_0) <|
         o_p rfl (ob_load ty_32 rfl rfl u_0) <|
         o_p rfl (ob_lenL Try.underlying32 rfl rfl u_0) <|
         o_p rfl (ob_lt rfl rfl u_0 u_1) <|
         o_p rfl (ob_move rfl rfl u_0) <|
         o_g (g_t rfl rfl rfl (fun hG => ob_fieldAddr fl_34_0 rfl rfl u_0)) <|
         o_g (g_t rfl rfl rfl (fun hG => ob_load ty_32 rfl rfl (Opd.gd hG u_0))) <|
         o_g (g_t rfl rfl rfl (fun hG => ob_move rfl rfl u_0)) <|
         o_g (g_t rfl rfl rfl (fun hG => ob_indexAddr Try.underlying32 sz_54 rfl rfl (Opd.gd hG u_0) (Opd.gd hG u_1) (gd_true h8 hG))) <|
         o_g (g_t rfl rfl rfl (fun hG => ob_fieldAddr fl_54_0 rfl rfl (Opd.gd hG u_0))) <|
         o_g (g_t rfl rfl rfl (fun hG => ob_load ty_9 rfl rfl (Opd.gd hG u_0))) <|
         o_g (g_t rfl rfl rfl (fun hG => ob_move rfl rfl u_0)) <|
         o_g (g_t rfl rfl rfl (fun hG => ob_seq rfl rfl (Opd.gd hG u_0) (Opd.gd hG u_1))) <|
         o_p rfl (ob_pand rfl rfl u_0 (fun hz => (Opd.gd hz u_1))) <|
         o_p rfl (ob_assign rfl rfl u_0) <|
         o_n) (by kernel_rfl) (fun a g hst hb => ?_)
      refine wp_seq ?_
      refine r_s (L := [(1, _), (3, _), (5, _), (6, _), (9, _), (10, _)]) (T := [⟨[.old 5], _, [], [], [45]⟩, ⟨[.op 0 0], _, [], [0], [46]⟩, ⟨[.op 1 0], _, [], [0, 1], [47]⟩, ⟨[.op 2 0, .old 1], _, [], [0, 1, 2], [48]⟩, ⟨[.op 2 0, .op 3 0], _, [], List.range 4, [49]⟩, ⟨[.op 2 0, .op 4 0], _, [], List.range 5, [50]⟩, ⟨[.op 2 0, .old 1], _, [], [0, 1, 2], [51]⟩, ⟨[.op 2 0, .op 6 0], _, [], [0, 1, 2, 6], [52]⟩, ⟨[.op 2 0, .op 5 0, .op 7 0], _, [], List.range 8, [53]⟩, ⟨[.op 2 0, .op 8 0], _, [], List.range 9, [54]⟩]) (F := [.old 0, .old 1, .old 2, .old 3, .old 4, .old 5, .op 9 0]) hst hb follows
        (o_p rfl (ob_move rfl rfl u_0) <|
         o_p rfl (ob_not rfl rfl u_0) <|
         o_p rfl (ob_move rfl rfl u_0) <|
         o_g (g_t rfl rfl rfl (fun hG => ob_fieldAddr fl_34_0 rfl rfl u_0)) <|
         o_g (g_t rfl rfl rfl (fun hG => ob_load ty_32 rfl rfl (Opd.gd hG u_0))) <|
         o_g (g_t rfl rfl rfl (fun hG => ob_lenL Try.underlying32 rfl rfl (Opd.gd hG u_0))) <|
         o_g (g_t rfl rfl rfl (fun hG => ob_fieldAddr fl_34_1 rfl rfl u_0)) <|
         o_g (g_t rfl rfl rfl (fun hG => ob_load ty_3 rfl rfl (Opd.gd hG u_0))) <|
         o_g (g_t rfl rfl rfl (fun hG => ob_ge rfl rfl (Opd.gd hG u_0) (Opd.gd hG u_1))) <|
         o_p rfl (ob_pand rfl rfl u_0 (fun hz => (Opd.gd hz u_1))) <|
         o_n) (by kernel_rfl) (fun a g hst hb => ?_)
      refine wp_cond_split (hst.bool 6 rfl) (fun hc9 => ?_) (fun hc9 => ?_)
      · replace H0 := ite_t hc9 H0
        refine r_s (L := [(3, _), (6, _)]) (T := [⟨[.old 0], _, [], [], [55]⟩, ⟨[.op 0 0, .old 1], _, [7], [0], [6]⟩, ⟨[], _, [], [0, 1], [7]⟩]) (F := [.op 1 0, .op 2 0]) (hst.pick [1, 3] rfl) hb follows
          (o_p rfl (ob_load ty_34 rfl rfl u_0) <|
           o_p rfl (ob_store ty_34 rfl rfl u_1 u_0) <|
           o_p rfl (ob_assign rfl rfl c_i) <|
           o_n) (by kernel_rfl) (fun a g hst hb => ?_)
        refine wp_ret ?_
        refine then_r ?_
        obtain rfl := Option.some.inj H0
        obtain ⟨u0, hu0, hq0⟩ := res_box (P := Try.prog) ty_34 (hst.at 0 rfl)
        exact endR2 rfl hst hb hu0 (res_tmp (s := 7)) (pTup_2 hq0 (hst.at 1 rfl))
      · replace H0 := ite_f hc9 H0
        refine wp_skip ?_
        refine then_n ?_
        obtain ⟨c10, h11, H0⟩ := of_bind H0; obtain ⟨h12, H0⟩ := of_ite H0
        refine r_s (L := [(1, _), (3, _), (5, _), (6, _), (9, _), (10, _)]) (T := [⟨[], _, [57], [], [56]⟩, ⟨[.old 1], _, [], [], [57]⟩, ⟨[.op 1 0], _, [], [1], [58]⟩, ⟨[.old 4], _, [], [], [59]⟩, ⟨[.op 2 0, .op 3 0], _, [], [1, 2, 3], [60]⟩, ⟨[.op 0 0, .op 4 0], _, [57], List.range 5, [56, 61]⟩, ⟨[.op 5 0], _, [], List.range 6, [11]⟩]) (F := [.old 0, .old 1, .old 2, .old 3, .old 4, .old 5, .op 6 0]) (hst.pick [0, 1, 2, 3, 4, 5] rfl) hb follows
          (o_p rfl (ob_litRow 56 te_32 (xs := []) .nil (by decide) rfl rfl) <|
           o_p rfl (ob_fieldAddr fl_34_0 rfl rfl u_0) <|
           o_p rfl (ob_load ty_32 rfl rfl u_0) <|
           o_p rfl (ob_move rfl rfl u_0) <|
           o_p rfl (ob_cutH Try.underlying32 sz_54 rfl rfl u_0 u_1 h11) <|
           o_p rfl (ob_append te_32 rfl rfl u_0 u_1 h12) <|
           o_p rfl (ob_assign rfl rfl u_0) <|
           o_n) (by kernel_rfl) (fun a g hst hb => ?_)
        obtain ⟨h13, H0⟩ := of_ite H0
        refine r_s (L := [(1, _), (3, _), (5, _), (6, _), (9, _), (10, _), (11, _)]) (T := [⟨[.old 6], _, [], [], [62]⟩, ⟨[.old 0], _, [], [], [63]⟩, ⟨[.old 2], _, [], [], [64]⟩, ⟨[.op 1 0, .op 2 0], _, [], [1, 2], [65]⟩, ⟨[.op 3 0], _, [], [1, 2, 3], [66]⟩, ⟨[.op 0 0, .op 4 0], _, [57], List.range 5, [11, 62, 67]⟩, ⟨[.op 5 0], _, [], List.range 6, [11]⟩]) (F := [.old 1, .old 3, .old 4, .old 5, .op 6 0]) hst hb follows
          (o_p rfl (ob_move rfl rfl u_0) <|
           o_p rfl (ob_move rfl rfl u_0) <|
           o_p rfl (ob_load ty_38 rfl rfl u_0) <|
           o_p rfl (bd_54_0_1 rfl rfl u_0 u_1) <|
           o_p rfl (ob_lit te_32 (xs := [.tmp 65]) (.cons u_0 .nil) (by decide) rfl rfl) <|
           o_p rfl (ob_append te_32 rfl rfl u_0 u_1 h13) <|
           o_p rfl (ob_assign rfl rfl u_0) <|
           o_n) (by kernel_rfl) (fun a g hst hb => ?_)
        refine wp_seq ?_
        refine r_s (L := [(3, _), (6, _), (9, _), (10, _), (11, _)]) (T := [⟨[.old 3], _, [], [], [68]⟩]) (F := [.old 0, .old 1, .old 2, .old 4, .op 0 0]) hst hb follows
          (o_p rfl (ob_move rfl rfl u_0) <|
           o_n) (by kernel_rfl) (fun a g hst hb => ?_)
        refine wp_cut (fun a w => ∃ (j15 : Int) (g : G), w = g.w ∧ St 80 [(3, (k_moietyref09_Shelf.ptr a0)), (6, (pBox k_moietyref09_Shelf 6 (default : moietyref09_Shelf))), (9, (pInt .i64 j15)), (11, (pRow k_moietyref09_Pair 54 56 ((([] : List moietyref09_Pair) ++ c10) ++ ([({ Key := a1, Rec := a2 } : moietyref09_Pair)] : List moietyref09_Pair))))] a g ∧ Base g0 g ∧ moietyref09_Shelf_Set_j1 a0 a1 a2 c10 j15 = some r) ?_ ?_
        · rintro a w ⟨j15, g, rfl, hst, hb, H0⟩
          unfold moietyref09_Shelf_Set_j1 at H0
          refine then_n ?_
          obtain ⟨c16, h17, H0⟩ := of_bind H0; obtain ⟨h18, H0⟩ := of_ite H0
          refine r_s (L := [(3, _), (6, _), (9, _), (11, _)]) (T := [⟨[.old 3], _, [], [], [71]⟩, ⟨[.old 0], _, [], [], [72]⟩, ⟨[.op 1 0], _, [], [1], [73]⟩, ⟨[.old 2], _, [], [], [74]⟩, ⟨[.op 2 0, .op 3 0], _, [], [1, 2, 3], [75]⟩, ⟨[.op 0 0, .op 4 0], _, [57], List.range 5, [11, 71, 76]⟩, ⟨[.old 0], _, [], [], [77]⟩, ⟨[.op 6 0], _, [], [6], [78]⟩, ⟨[.op 5 0, .op 7 0], _, [], List.range 8, [79]⟩, ⟨[.op 8 0, .old 1], _, [7], List.range 9, [6]⟩, ⟨[], _, [], List.range 10, [7]⟩]) (F := [.op 9 0, .op 10 0]) hst hb follows
            (o_p rfl (ob_move rfl rfl u_0) <|
             o_p rfl (ob_fieldAddr fl_34_0 rfl rfl u_0) <|
             o_p rfl (ob_load ty_32 rfl rfl u_0) <|
             o_p rfl (ob_move rfl rfl u_0) <|
             o_p rfl (ob_cutL Try.underlying32 sz_54 rfl rfl u_0 u_1 h17) <|
             o_p rfl (ob_append te_32 rfl rfl u_0 u_1 h18) <|
             o_p rfl (ob_fieldAddr fl_34_1 rfl rfl u_0) <|
             o_p rfl (ob_load ty_3 rfl rfl u_0) <|
             o_p rfl (bd_34_0_1 rfl rfl (Opd.imp u_0 (fun _ _ h => pRow_read h)) u_1) <|
             o_p rfl (ob_store ty_34 rfl rfl u_1 u_0) <|
             o_p rfl (ob_assign rfl rfl c_i) <|
             o_n) (by kernel_rfl) (fun a g hst hb => ?_)
          refine wp_ret ?_
          obtain rfl := Option.some.inj H0
          obtain ⟨u0, hu0, hq0⟩ := res_box (P := Try.prog) ty_34 (hst.at 0 rfl)
          exact endR2 rfl hst hb hu0 (res_tmp (s := 7)) (pTup_2 hq0 (hst.at 1 rfl))
        · refine wp_cond_split (hst.bool 4 rfl) (fun hc14 => ?_) (fun hc14 => ?_)
          · replace H0 := ite_t hc14 H0
            refine r_g (L := [(3, _), (6, _), (9, _), (11, _)]) (T := [⟨[.old 2], _, [], [], [69]⟩, ⟨[.op 0 0], _, [], [0], [70]⟩, ⟨[.op 1 0], _, [], [0, 1], [9]⟩]) (F := [.old 0, .old 1, .op 2 0, .old 3]) (hst.pick [0, 1, 2, 3] rfl) hb follows
              (o_p rfl (ob_move rfl rfl u_0) <|
               o_p rfl (ob_add rfl rfl u_0 c_i rfl) <|
               o_p rfl (ob_assign rfl rfl u_0) <|
               o_n) (by kernel_rfl) (fun a g hst hb => ?_)
            exact ⟨(IntKind.i64.wrap (r5 + (1 : Int))), g, rfl, (hst.pick [0, 1, 2, 3] rfl), hb, H0⟩
          · replace H0 := ite_f hc14 H0
            refine wp_skip ?_
            exact ⟨r5, g, rfl, (hst.pick [0, 1, 2, 3] rfl), hb, H0⟩
end Go.CL

set_option linter.unusedVariables false
set_option linter.unusedSimpArgs false
set_option maxRecDepth 100000
namespace Go.CL
open Go Go.RowKit Go.Proofs
theorem moietylaw09_do_ok (a0 : shelf_Shelf) (a1 : moietyref09_Shelf) (a2 : moietylaw09_Op) {r : shelf_Shelf × moietyref09_Shelf × Bool} (h : moietylaw09_do a0 a1 a2 = some r) : FnOk Try.prog 11 [(k_shelf_Shelf.pd a0), (k_moietyref09_Shelf.pd a1), (k_moietylaw09_Op.pd a2)] (pTup [(k_shelf_Shelf.pd r.1), (k_moietyref09_Shelf.pd r.2.1), (pBool r.2.2)]) := by
  have H0 := h
  unfold moietylaw09_do at H0
  clear h
  refine fn_ok (N := 61) Try.func11 rfl rfl (Nat.le_of_ble_eq_true rfl) rfl rfl (fun a g0 hst hb => ?_)
  refine r_s (L := [(0, _), (1, _), (2, _)]) (T := [⟨[.old 0], _, [], [], [3]⟩, ⟨[.old 1], _, [], [], [4]⟩, ⟨[.old 2], _, [], [], [5]⟩, ⟨[], [(6, (pBox k_shelf_Shelf 6 (default : shelf_Shelf)))], [7], [], [6]⟩, ⟨[], [(7, (pBox k_moietyref09_Shelf 7 (default : moietyref09_Shelf)))], [8], [], [7]⟩, ⟨[], _, [], [], [8]⟩]) (F := [.op 0 0, .op 1 0, .op 2 0, .op 3 0, .op 4 0]) hst hb follows
    (o_p rfl (ob_box1 rfl rfl u_0) <|
     o_p rfl (ob_box1 rfl rfl u_0) <|
     o_p rfl (ob_box1 rfl rfl u_0) <|
     o_p rfl (ob_alloc (zs := [.pointer none, .int .i64 0]) (by kernel_rfl) (fun g => zk_shelf_Shelf g) rfl rfl) <|
     o_p rfl (ob_alloc (zs := [.slice none 0 0, .int .i64 0]) (by kernel_rfl) (fun g => zk_moietyref09_Shelf g) rfl rfl) <|
     o_p rfl (ob_assign rfl rfl c_b) <|
     o_n) (by kernel_rfl) (fun a g hst hb => ?_)
  refine wp_seq ?_
  refine r_s (L := [(3, _), (4, _), (5, _), (6, _), (7, _)]) (T := [⟨[.old 2], _, [], [], [17]⟩, ⟨[.op 0 0], _, [], [0], [18]⟩]) (F := [.old 0, .old 1, .old 2, .old 3, .old 4, .op 1 0]) hst hb follows
    (o_p rfl (ob_fieldAddr fl_40_0 rfl rfl u_0) <|
     o_p rfl (ob_load ty_4 rfl rfl u_0) <|
     o_n) (by kernel_rfl) (fun a g hst hb => ?_)
  refine wp_cond_split (hst.bool 5 rfl) (fun hc1 => ?_) (fun hc1 => ?_)
  · replace H0 := ite_t hc1 H0
    obtain ⟨r2, h3, H0⟩ := of_bind H0
    refine r_s (L := [(3, _), (4, _), (5, _), (6, _), (7, _)]) (T := [⟨[.old 0], _, [], [], [20]⟩, ⟨[.old 2], _, [], [], [21]⟩, ⟨[.op 1 0], _, [], [1], [22]⟩, ⟨[.op 0 0, .op 2 0], _, [], [0, 1, 2], [23]⟩, ⟨[.op 3 0], _, [], List.range 4, [19]⟩, ⟨[.op 4 0], _, [], List.range 5, [24]⟩, ⟨[.op 4 0], _, [], List.range 5, [25]⟩, ⟨[], [(9, (pBox k_shelf_Shelf 9 (default : shelf_Shelf)))], [10], [], [9]⟩, ⟨[.op 5 0, .op 7 0], _, [10], [0, 1, 2, 3, 4, 5, 7], [9]⟩, ⟨[.op 6 0], _, [], List.range 9, [10]⟩]) (F := [.old 1, .old 2, .old 3, .old 4, .op 8 0, .op 9 0]) (hst.pick [0, 1, 2, 3, 4] rfl) hb follows
      (o_p rfl (ob_load ty_28 rfl rfl u_0) <|
       o_p rfl (ob_fieldAddr fl_40_1 rfl rfl u_0) <|
       o_p rfl (ob_load ty_9 rfl rfl u_0) <|
       o_p rfl (ob_call en_26 (shelf_Shelf_Cut_ok _ _ h3) rfl rfl (.cons u_0 (.cons u_1 .nil))) <|
       o_p rfl (ob_move rfl rfl u_0) <|
       o_p rfl (ob_extract rfl rfl u_0 rfl) <|
       o_p rfl (ob_extract rfl rfl u_0 rfl) <|
       o_p rfl (ob_alloc (zs := [.pointer none, .int .i64 0]) (by kernel_rfl) (fun g => zk_shelf_Shelf g) rfl rfl) <|
       o_p rfl (ob_storeF ty_28 rfl rfl u_1 u_0) <|
       o_p rfl (ob_assign rfl rfl u_0) <|
       o_n) (by kernel_rfl) (fun a g hst hb => ?_)
    obtain ⟨r4, h5, H0⟩ := of_bind H0
    refine r_s (L := [(4, _), (5, _), (6, _), (7, _), (9, _), (10, _)]) (T := [⟨[.old 0], _, [], [], [27]⟩, ⟨[.old 1], _, [], [], [28]⟩, ⟨[.op 1 0], _, [], [1], [29]⟩, ⟨[.op 0 0, .op 2 0], _, [], [0, 1, 2], [30]⟩, ⟨[.op 3 0], _, [], List.range 4, [26]⟩, ⟨[.op 4 0], _, [], List.range 5, [31]⟩, ⟨[.op 4 0], _, [], List.range 5, [32]⟩, ⟨[], [(11, (pBox k_moietyref09_Shelf 11 (default : moietyref09_Shelf)))], [12], [], [11]⟩, ⟨[.op 5 0, .op 7 0], _, [12], [0, 1, 2, 3, 4, 5, 7], [11]⟩, ⟨[.op 6 0], _, [], List.range 9, [12]⟩]) (F := [.old 2, .old 3, .old 4, .old 5, .op 8 0, .op 9 0]) hst hb follows
      (o_p rfl (ob_load ty_34 rfl rfl u_0) <|
       o_p rfl (ob_fieldAddr fl_40_1 rfl rfl u_0) <|
       o_p rfl (ob_load ty_9 rfl rfl u_0) <|
       o_p rfl (ob_call en_31 (moietyref09_Shelf_Cut_ok _ _ h5) rfl rfl (.cons u_0 (.cons u_1 .nil))) <|
       o_p rfl (ob_move rfl rfl u_0) <|
       o_p rfl (ob_extract rfl rfl u_0 rfl) <|
       o_p rfl (ob_extract rfl rfl u_0 rfl) <|
       o_p rfl (ob_alloc (zs := [.slice none 0 0, .int .i64 0]) (by kernel_rfl) (fun g => zk_moietyref09_Shelf g) rfl rfl) <|
       o_p rfl (ob_storeF ty_34 rfl rfl u_1 u_0) <|
       o_p rfl (ob_assign rfl rfl u_0) <|
       o_n) (by kernel_rfl) (fun a g hst hb => ?_)
    refine r_s (L := [(6, _), (7, _), (9, _), (10, _), (11, _), (12, _)]) (T := [⟨[.old 2], _, [], [], [33]⟩, ⟨[.old 4], _, [], [], [34]⟩, ⟨[.old 3], _, [], [], [35]⟩, ⟨[.old 5], _, [], [], [36]⟩, ⟨[.op 2 0, .op 3 0], _, [], [2, 3], [37]⟩, ⟨[.op 0 0, .old 0], _, [7], [0], [6]⟩, ⟨[.op 1 0, .old 1], _, [8], [0, 1, 5], [7]⟩, ⟨[.op 4 0], _, [], List.range 7, [8]⟩]) (F := [.op 5 0, .op 6 0, .op 7 0]) hst hb follows
      (o_p rfl (ob_load ty_28 rfl rfl u_0) <|
       o_p rfl (ob_load ty_34 rfl rfl u_0) <|
       o_p rfl (ob_move rfl rfl u_0) <|
       o_p rfl (ob_move rfl rfl u_0) <|
       o_p rfl (ob_beql Try.underlying4 rfl rfl u_0 u_1) <|
       o_p rfl (ob_store ty_28 rfl rfl u_1 u_0) <|
       o_p rfl (ob_store ty_34 rfl rfl u_1 u_0) <|
       o_p rfl (ob_assign rfl rfl u_0) <|
       o_n) (by kernel_rfl) (fun a g hst hb => ?_)
    refine wp_ret ?_
    refine then_r ?_
    obtain rfl := Option.some.inj H0
    obtain ⟨u0, hu0, hq0⟩ := res_box (P := Try.prog) ty_28 (hst.at 0 rfl)
    obtain ⟨u1, hu1, hq1⟩ := res_box (P := Try.prog) ty_34 (hst.at 1 rfl)
    exact endR3 rfl hst hb hu0 hu1 (res_tmp (s := 8)) (pTup_3 hq0 hq1 (hst.at 2 rfl))
  · replace H0 := ite_f hc1 H0
    refine wp_skip ?_
    refine then_n ?_
    obtain ⟨r6, h7, H0⟩ := of_bind H0
    refine r_s (L := [(3, _), (4, _), (5, _), (6, _), (7, _)]) (T := ⟨[.old 0], _, [], [], [39]⟩ :: ⟨[.old 2], _, [], [], [40]⟩ :: ⟨[.op 1 0], _, [], [1], [41]⟩ :: ⟨[.old 2], _, [], [], [42]⟩ :: ⟨[.op 3 0], _, [], [3], [43]⟩ :: ⟨[.op 0 0, .op 2 0, .op 4 0], _, [], List.range 5, [44]⟩ :: ⟨[.op 5 0], _, [], List.range 6, [38]⟩ :: ⟨[.op 6 0], _, [], List.range 7, [45]⟩ :: ⟨[.op 6 0], _, [], List.range 7, [46]⟩ :: ⟨[], [(13, (pBox k_shelf_Shelf 13 (default : shelf_Shelf)))], [14], [], [13]⟩ :: ⟨[.op 7 0, .op 9 0], _, [14], [0, 1, 2, 3, 4, 5, 6, 7, 9], [13]⟩ :: ⟨[.op 8 0], _, [], List.range 11, [14]⟩ :: []) (F := [.old 1, .old 2, .old 3, .old 4, .op 10 0, .op 11 0]) (hst.pick [0, 1, 2, 3, 4] rfl) hb follows
      (o_p rfl (ob_load ty_28 rfl rfl u_0) <|
       o_p rfl (ob_fieldAddr fl_40_1 rfl rfl u_0) <|
       o_p rfl (ob_load ty_9 rfl rfl u_0) <|
       o_p rfl (ob_fieldAddr fl_40_2 rfl rfl u_0) <|
       o_p rfl (ob_load ty_38 rfl rfl u_0) <|
       o_p rfl (ob_call en_20 (shelf_Shelf_Set_ok _ _ _ h7) rfl rfl (.cons u_0 (.cons u_1 (.cons u_2 .nil)))) <|
       o_p rfl (ob_move rfl rfl u_0) <|
       o_p rfl (ob_extract rfl rfl u_0 rfl) <|
       o_p rfl (ob_extract rfl rfl u_0 rfl) <|
       o_p rfl (ob_alloc (zs := [.pointer none, .int .i64 0]) (by kernel_rfl) (fun g => zk_shelf_Shelf g) rfl rfl) <|
       o_p rfl (ob_storeF ty_28 rfl rfl u_1 u_0) <|
       o_p rfl (ob_assign rfl rfl u_0) <|
       o_n) (by kernel_rfl) (fun a g hst hb => ?_)
    obtain ⟨r8, h9, H0⟩ := of_bind H0
    refine r_s (L := [(4, _), (5, _), (6, _), (7, _), (13, _), (14, _)]) (T := ⟨[.old 0], _, [], [], [48]⟩ :: ⟨[.old 1], _, [], [], [49]⟩ :: ⟨[.op 1 0], _, [], [1], [50]⟩ :: ⟨[.old 1], _, [], [], [51]⟩ :: ⟨[.op 3 0], _, [], [3], [52]⟩ :: ⟨[.op 0 0, .op 2 0, .op 4 0], _, [], List.range 5, [53]⟩ :: ⟨[.op 5 0], _, [], List.range 6, [47]⟩ :: ⟨[.op 6 0], _, [], List.range 7, [54]⟩ :: ⟨[.op 6 0], _, [], List.range 7, [55]⟩ :: ⟨[], [(15, (pBox k_moietyref09_Shelf 15 (default : moietyref09_Shelf)))], [16], [], [15]⟩ :: ⟨[.op 7 0, .op 9 0], _, [16], [0, 1, 2, 3, 4, 5, 6, 7, 9], [15]⟩ :: ⟨[.op 8 0], _, [], List.range 11, [16]⟩ :: []) (F := [.old 2, .old 3, .old 4, .old 5, .op 10 0, .op 11 0]) hst hb follows
      (o_p rfl (ob_load ty_34 rfl rfl u_0) <|
       o_p rfl (ob_fieldAddr fl_40_1 rfl rfl u_0) <|
       o_p rfl (ob_load ty_9 rfl rfl u_0) <|
       o_p rfl (ob_fieldAddr fl_40_2 rfl rfl u_0) <|
       o_p rfl (ob_load ty_38 rfl rfl u_0) <|
       o_p rfl (ob_call en_32 (moietyref09_Shelf_Set_ok _ _ _ h9) rfl rfl (.cons u_0 (.cons u_1 (.cons u_2 .nil)))) <|
       o_p rfl (ob_move rfl rfl u_0) <|
       o_p rfl (ob_extract rfl rfl u_0 rfl) <|
       o_p rfl (ob_extract rfl rfl u_0 rfl) <|
       o_p rfl (ob_alloc (zs := [.slice none 0 0, .int .i64 0]) (by kernel_rfl) (fun g => zk_moietyref09_Shelf g) rfl rfl) <|
       o_p rfl (ob_storeF ty_34 rfl rfl u_1 u_0) <|
       o_p rfl (ob_assign rfl rfl u_0) <|
       o_n) (by kernel_rfl) (fun a g hst hb => ?_)
    refine r_s (L := [(6, _), (7, _), (13, _), (14, _), (15, _), (16, _)]) (T := [⟨[.old 2], _, [], [], [56]⟩, ⟨[.old 4], _, [], [], [57]⟩, ⟨[.old 3], _, [], [], [58]⟩, ⟨[.old 5], _, [], [], [59]⟩, ⟨[.op 2 0, .op 3 0], _, [], [2, 3], [60]⟩, ⟨[.op 0 0, .old 0], _, [7], [0], [6]⟩, ⟨[.op 1 0, .old 1], _, [8], [0, 1, 5], [7]⟩, ⟨[.op 4 0], _, [], List.range 7, [8]⟩]) (F := [.op 5 0, .op 6 0, .op 7 0]) hst hb follows
      (o_p rfl (ob_load ty_28 rfl rfl u_0) <|
       o_p rfl (ob_load ty_34 rfl rfl u_0) <|
       o_p rfl (ob_move rfl rfl u_0) <|
       o_p rfl (ob_move rfl rfl u_0) <|
       o_p rfl (ob_eq rfl rfl u_0 u_1) <|
       o_p rfl (ob_store ty_28 rfl rfl u_1 u_0) <|
       o_p rfl (ob_store ty_34 rfl rfl u_1 u_0) <|
       o_p rfl (ob_assign rfl rfl u_0) <|
       o_n) (by kernel_rfl) (fun a g hst hb => ?_)
    refine wp_ret ?_
    obtain rfl := Option.some.inj H0
    obtain ⟨u0, hu0, hq0⟩ := res_box (P := Try.prog) ty_28 (hst.at 0 rfl)
    obtain ⟨u1, hu1, hq1⟩ := res_box (P := Try.prog) ty_34 (hst.at 1 rfl)
    exact endR3 rfl hst hb hu0 hu1 (res_tmp (s := 8)) (pTup_3 hq0 hq1 (hst.at 2 rfl))
end Go.CL

set_option linter.unusedVariables false
set_option linter.unusedSimpArgs false
set_option maxRecDepth 100000
namespace Go.CL
open Go Go.RowKit Go.Proofs
theorem shelf_Shelf_Room_ok (a0 : shelf_Shelf) {r : Int} (h : shelf_Shelf_Room a0 = some r) : FnOk Try.prog 21 [(k_shelf_Shelf.pd a0)] (pInt .i64 r) := by
  have H0 := h
  unfold shelf_Shelf_Room at H0
  clear h
  refine fn_ok (N := 5) Try.func21 rfl rfl (Nat.le_of_ble_eq_true rfl) rfl rfl (fun a g0 hst hb => ?_)
  refine r_s (L := [(0, _)]) (T := [⟨[.old 0], _, [], [], [1]⟩, ⟨[], _, [], [], [2]⟩]) (F := [.op 0 0]) hst hb follows
    (o_p rfl (ob_box1 rfl rfl u_0) <|
     o_p rfl (ob_assign rfl rfl c_i) <|
     o_n) (by kernel_rfl) (fun a g hst hb => ?_)
  refine r_s (L := [(1, _)]) (T := [⟨[.old 0], _, [], [], [3]⟩, ⟨[.op 0 0], _, [], [0], [4]⟩, ⟨[.op 1 0], _, [], [0, 1], [2]⟩]) (F := [.op 2 0]) hst hb follows
    (o_p rfl (ob_fieldAddr fl_28_1 rfl rfl u_0) <|
     o_p rfl (ob_load ty_3 rfl rfl u_0) <|
     o_p rfl (ob_assign rfl rfl u_0) <|
     o_n) (by kernel_rfl) (fun a g hst hb => ?_)
  refine wp_ret ?_
  obtain rfl := Option.some.inj H0
  exact endR1 rfl hst hb (res_tmp (s := 2)) (hst.at 0 rfl)
end Go.CL

set_option linter.unusedVariables false
set_option linter.unusedSimpArgs false
set_option maxRecDepth 100000
namespace Go.CL
open Go Go.RowKit Go.Proofs
theorem moietyref03_Same_ok (a0 : api_Record) (a1 : api_Record) {r : Bool} (h : moietyref03_Same a0 a1 = some r) : FnOk Try.prog 25 [(k_api_Record.pd a0), (k_api_Record.pd a1)] (pBool r) := by
  have H0 := h
  unfold moietyref03_Same at H0
  clear h
  refine fn_ok (N := 97) Try.func25 rfl rfl (Nat.le_of_ble_eq_true rfl) rfl rfl (fun a g0 hst hb => ?_)
  refine r_s (L := [(0, _), (1, _)]) (T := [⟨[.old 0], _, [], [], [2]⟩, ⟨[.old 1], _, [], [], [3]⟩, ⟨[], _, [], [], [4]⟩]) (F := [.op 0 0, .op 1 0]) hst hb follows
    (o_p rfl (ob_box1 rfl rfl u_0) <|
     o_p rfl (ob_box1 rfl rfl u_0) <|
     o_p rfl (ob_assign rfl rfl c_b) <|
     o_n) (by kernel_rfl) (fun a g hst hb => ?_)
  refine wp_seq ?_
  refine r_s (L := [(2, _), (3, _)]) (T := ⟨[.old 0], _, [], [], [6]⟩ :: ⟨[.op 0 0], _, [], [0], [7]⟩ :: ⟨[.old 1], _, [], [], [8]⟩ :: ⟨[.op 2 0], _, [], [2], [9]⟩ :: ⟨[.op 1 0, .op 3 0], _, [], List.range 4, [10]⟩ :: ⟨[.op 4 0], _, [], List.range 5, [11]⟩ :: ⟨[.op 5 0, .old 0], _, [], List.range 6, [12]⟩ :: ⟨[.op 5 0, .op 6 0], _, [], List.range 7, [13]⟩ :: ⟨[.op 5 0, .old 1], _, [], List.range 6, [14]⟩ :: ⟨[.op 5 0, .op 8 0], _, [], [0, 1, 2, 3, 4, 5, 8], [15]⟩ :: ⟨[.op 5 0, .op 7 0, .op 9 0], _, [], List.range 10, [16]⟩ :: ⟨[.op 5 0, .op 10 0], _, [], List.range 11, [17]⟩ :: ⟨[.op 11 0], _, [], List.range 12, [18]⟩ :: ⟨[.op 12 0, .old 0], _, [], List.range 13, [19]⟩ :: ⟨[.op 12 0, .op 13 0], _, [], List.range 14, [20]⟩ :: ⟨[.op 12 0, .old 1], _, [], List.range 13, [21]⟩ :: ⟨[.op 12 0, .op 15 0], _, [], 0 :: 1 :: 2 :: 3 :: 4 :: 5 :: 6 :: 7 :: 8 :: 9 :: 10 :: 11 :: 12 :: 15 :: [], [22]⟩ :: ⟨[.op 12 0, .op 14 0, .op 16 0], _, [], List.range 17, [23]⟩ :: ⟨[.op 12 0, .op 17 0], _, [], List.range 18, [24]⟩ :: ⟨[.op 18 0], _, [], List.range 19, [25]⟩ :: ⟨[.op 19 0, .old 0], _, [], List.range 20, [26]⟩ :: ⟨[.op 19 0, .op 20 0], _, [], List.range 21, [27]⟩ :: ⟨[.op 19 0, .old 1], _, [], List.range 20, [28]⟩ :: ⟨[.op 19 0, .op 22 0], _, [], 0 :: 1 :: 2 :: 3 :: 4 :: 5 :: 6 :: 7 :: 8 :: 9 :: 10 :: 11 :: 12 :: 13 :: 14 :: 15 :: 16 :: 17 :: 18 :: 19 :: 22 :: [], [29]⟩ :: ⟨[.op 19 0, .op 21 0, .op 23 0], _, [], List.range 24, [30]⟩ :: ⟨[.op 19 0, .op 24 0], _, [], List.range 25, [31]⟩ :: ⟨[.op 25 0], _, [], List.range 26, [32]⟩ :: ⟨[.op 26 0, .old 0], _, [], List.range 27, [33]⟩ :: ⟨[.op 26 0, .op 27 0], _, [], List.range 28, [34]⟩ :: ⟨[.op 26 0, .old 1], _, [], List.range 27, [35]⟩ :: ⟨[.op 26 0, .op 29 0], _, [], 0 :: 1 :: 2 :: 3 :: 4 :: 5 :: 6 :: 7 :: 8 :: 9 :: 10 :: 11 :: 12 :: 13 :: 14 :: 15 :: 16 :: 17 :: 18 :: 19 :: 20 :: 21 :: 22 :: 23 :: 24 :: 25 :: 26 :: 29 :: [], [36]⟩ :: ⟨[.op 26 0, .op 28 0, .op 30 0], _, [], List.range 31, [37]⟩ :: ⟨[.op 26 0, .op 31 0], _, [], List.range 32, [38]⟩ :: ⟨[.op 32 0], _, [], List.range 33, [39]⟩ :: ⟨[.op 33 0, .old 0], _, [], List.range 34, [40]⟩ :: ⟨[.op 33 0, .op 34 0], _, [], List.range 35, [41]⟩ :: ⟨[.op 33 0, .old 1], _, [], List.range 34, [42]⟩ :: ⟨[.op 33 0, .op 36 0], _, [], 0 :: 1 :: 2 :: 3 :: 4 :: 5 :: 6 :: 7 :: 8 :: 9 :: 10 :: 11 :: 12 :: 13 :: 14 :: 15 :: 16 :: 17 :: 18 :: 19 :: 20 :: 21 :: 22 :: 23 :: 24 :: 25 :: 26 :: 27 :: 28 :: 29 :: 30 :: 31 :: 32 :: 33 :: 36 :: [], [43]⟩ :: ⟨[.op 33 0, .op 35 0, .op 37 0], _, [], List.range 38, [44]⟩ :: ⟨[.op 33 0, .op 38 0], _, [], List.range 39, [45]⟩ :: []) (F := [.old 0, .old 1, .op 39 0]) hst hb follows
    (o_p rfl (ob_fieldAddr fl_38_0 rfl rfl u_0) <|
     o_p rfl (ob_load ty_3 rfl rfl u_0) <|
     o_p rfl (ob_fieldAddr fl_38_0 rfl rfl u_0) <|
     o_p rfl (ob_load ty_3 rfl rfl u_0) <|
     o_p rfl (ob_ne rfl rfl u_0 u_1) <|
     o_p rfl (ob_move rfl rfl u_0) <|
     o_g (g_f rfl rfl rfl (fun hG => ob_fieldAddr fl_38_1 rfl rfl u_0)) <|
     o_g (g_f rfl rfl rfl (fun hG => ob_load ty_2 rfl rfl (Opd.gd hG u_0))) <|
     o_g (g_f rfl rfl rfl (fun hG => ob_fieldAddr fl_38_1 rfl rfl u_0)) <|
     o_g (g_f rfl rfl rfl (fun hG => ob_load ty_2 rfl rfl (Opd.gd hG u_0))) <|
     o_g (g_f rfl rfl rfl (fun hG => ob_ne rfl rfl (Opd.gd hG u_0) (Opd.gd hG u_1))) <|
     o_p rfl (ob_por rfl rfl u_0 (fun hz => (Opd.gd (bNF hz) u_1))) <|
     o_p rfl (ob_move rfl rfl u_0) <|
     o_g (g_f rfl rfl rfl (fun hG => ob_fieldAddr fl_38_2 rfl rfl u_0)) <|
     o_g (g_f rfl rfl rfl (fun hG => ob_load ty_2 rfl rfl (Opd.gd hG u_0))) <|
     o_g (g_f rfl rfl rfl (fun hG => ob_fieldAddr fl_38_2 rfl rfl u_0)) <|
     o_g (g_f rfl rfl rfl (fun hG => ob_load ty_2 rfl rfl (Opd.gd hG u_0))) <|
     o_g (g_f rfl rfl rfl (fun hG => ob_ne rfl rfl (Opd.gd hG u_0) (Opd.gd hG u_1))) <|
     o_p rfl (ob_por rfl rfl u_0 (fun hz => (Opd.gd (bNF hz) u_1))) <|
     o_p rfl (ob_move rfl rfl u_0) <|
     o_g (g_f rfl rfl rfl (fun hG => ob_fieldAddr fl_38_3 rfl rfl u_0)) <|
     o_g (g_f rfl rfl rfl (fun hG => ob_load ty_2 rfl rfl (Opd.gd hG u_0))) <|
     o_g (g_f rfl rfl rfl (fun hG => ob_fieldAddr fl_38_3 rfl rfl u_0)) <|
     o_g (g_f rfl rfl rfl (fun hG => ob_load ty_2 rfl rfl (Opd.gd hG u_0))) <|
     o_g (g_f rfl rfl rfl (fun hG => ob_ne rfl rfl (Opd.gd hG u_0) (Opd.gd hG u_1))) <|
     o_p rfl (ob_por rfl rfl u_0 (fun hz => (Opd.gd (bNF hz) u_1))) <|
     o_p rfl (ob_move rfl rfl u_0) <|
     o_g (g_f rfl rfl rfl (fun hG => ob_fieldAddr fl_38_5 rfl rfl u_0)) <|
     o_g (g_f rfl rfl rfl (fun hG => ob_load ty_3 rfl rfl (Opd.gd hG u_0))) <|
     o_g (g_f rfl rfl rfl (fun hG => ob_fieldAddr fl_38_5 rfl rfl u_0)) <|
     o_g (g_f rfl rfl rfl (fun hG => ob_load ty_3 rfl rfl (Opd.gd hG u_0))) <|
     o_g (g_f rfl rfl rfl (fun hG => ob_ne rfl rfl (Opd.gd hG u_0) (Opd.gd hG u_1))) <|
     o_p rfl (ob_por rfl rfl u_0 (fun hz => (Opd.gd (bNF hz) u_1))) <|
     o_p rfl (ob_move rfl rfl u_0) <|
     o_g (g_f rfl rfl rfl (fun hG => ob_fieldAddr fl_38_6 rfl rfl u_0)) <|
     o_g (g_f rfl rfl rfl (fun hG => ob_load ty_9 rfl rfl (Opd.gd hG u_0))) <|
     o_g (g_f rfl rfl rfl (fun hG => ob_fieldAddr fl_38_6 rfl rfl u_0)) <|
     o_g (g_f rfl rfl rfl (fun hG => ob_load ty_9 rfl rfl (Opd.gd hG u_0))) <|
     o_g (g_f rfl rfl rfl (fun hG => ob_sne rfl rfl (Opd.gd hG u_0) (Opd.gd hG u_1))) <|
     o_p rfl (ob_por rfl rfl u_0 (fun hz => (Opd.gd (bNF hz) u_1))) <|
     o_n) (by kernel_rfl) (fun a g hst hb => ?_)
  refine wp_cond_split (hst.bool 2 rfl) (fun hc1 => ?_) (fun hc1 => ?_)
  · replace H0 := ite_t hc1 H0
    refine r_s (L := []) (T := [⟨[], _, [], [], [4]⟩]) (F := [.op 0 0]) (hst.pick [] rfl) hb follows
      (o_p rfl (ob_assign rfl rfl c_b) <|
       o_n) (by kernel_rfl) (fun a g hst hb => ?_)
    refine wp_ret ?_
    refine then_r ?_
    obtain rfl := Option.some.inj H0
    exact endR1 rfl hst hb (res_tmp (s := 4)) (hst.at 0 rfl)
  · replace H0 := ite_f hc1 H0
    refine wp_skip ?_
    refine then_n ?_
    refine wp_seq ?_
    obtain ⟨r2, h3, H0⟩ := of_bind H0
    refine r_s (L := [(2, _), (3, _)]) (T := ⟨[.old 0], _, [], [], [46]⟩ :: ⟨[.op 0 0], _, [], [0], [47]⟩ :: ⟨[.old 1], _, [], [], [48]⟩ :: ⟨[.op 2 0], _, [], [2], [49]⟩ :: ⟨[.op 1 0, .op 3 0], _, [], List.range 4, [50]⟩ :: ⟨[.op 4 0], _, [], List.range 5, [51]⟩ :: ⟨[.op 5 0], _, [], List.range 6, [52]⟩ :: ⟨[.op 6 0, .old 0], _, [], List.range 7, [53]⟩ :: ⟨[.op 6 0, .op 7 0], _, [], List.range 8, [54]⟩ :: ⟨[.op 6 0, .op 8 0], _, [], List.range 9, [55]⟩ :: ⟨[.op 6 0, .old 1], _, [], List.range 7, [56]⟩ :: ⟨[.op 6 0, .op 10 0], _, [], [0, 1, 2, 3, 4, 5, 6, 10], [57]⟩ :: ⟨[.op 6 0, .op 11 0], _, [], [0, 1, 2, 3, 4, 5, 6, 10, 11], [58]⟩ :: ⟨[.op 6 0, .op 9 0, .op 12 0], _, [], List.range 13, [59]⟩ :: ⟨[.op 6 0, .op 13 0], _, [], List.range 14, [60]⟩ :: []) (F := [.old 0, .old 1, .op 14 0]) (hst.pick [0, 1] rfl) hb follows
      (o_p rfl (ob_fieldAddr fl_38_4 rfl rfl u_0) <|
       o_p rfl (ob_load ty_35 rfl rfl u_0) <|
       o_p rfl (ob_fieldAddr fl_38_4 rfl rfl u_0) <|
       o_p rfl (ob_load ty_35 rfl rfl u_0) <|
       o_p rfl (ob_call en_37 (moietyref01_Same_ok _ _ h3) rfl rfl (.cons u_0 (.cons u_1 .nil))) <|
       o_p rfl (ob_not rfl rfl u_0) <|
       o_p rfl (ob_move rfl rfl u_0) <|
       o_g (g_f rfl rfl rfl (fun hG => ob_fieldAddr fl_38_7 rfl rfl u_0)) <|
       o_g (g_f rfl rfl rfl (fun hG => ob_load ty_36 rfl rfl (Opd.gd hG u_0))) <|
       o_g (g_f rfl rfl rfl (fun hG => ob_lenL Try.underlying36 rfl rfl (Opd.gd hG u_0))) <|
       o_g (g_f rfl rfl rfl (fun hG => ob_fieldAddr fl_38_7 rfl rfl u_0)) <|
       o_g (g_f rfl rfl rfl (fun hG => ob_load ty_36 rfl rfl (Opd.gd hG u_0))) <|
       o_g (g_f rfl rfl rfl (fun hG => ob_lenL Try.underlying36 rfl rfl (Opd.gd hG u_0))) <|
       o_g (g_f rfl rfl rfl (fun hG => ob_ne rfl rfl (Opd.gd hG u_0) (Opd.gd hG u_1))) <|
       o_p rfl (ob_por rfl rfl u_0 (fun hz => (Opd.gd (bNF hz) u_1))) <|
       o_n) (by kernel_rfl) (fun a g hst hb => ?_)
    refine wp_cond_split (hst.bool 2 rfl) (fun hc4 => ?_) (fun hc4 => ?_)
    · replace H0 := ite_t hc4 H0
      refine r_s (L := []) (T := [⟨[], _, [], [], [4]⟩]) (F := [.op 0 0]) (hst.pick [] rfl) hb follows
        (o_p rfl (ob_assign rfl rfl c_b) <|
         o_n) (by kernel_rfl) (fun a g hst hb => ?_)
      refine wp_ret ?_
      refine then_r ?_
      obtain rfl := Option.some.inj H0
      exact endR1 rfl hst hb (res_tmp (s := 4)) (hst.at 0 rfl)
    · replace H0 := ite_f hc4 H0
      refine wp_skip ?_
      refine then_n ?_
      refine wp_seq ?_
      refine r_s (L := [(2, _), (3, _)]) (T := [⟨[], _, [], [], [5]⟩]) (F := [.old 0, .old 1, .op 0 0]) (hst.pick [0, 1] rfl) hb follows
        (o_p rfl (ob_assign rfl rfl c_i) <|
         o_n) (by kernel_rfl) (fun a g hst hb => ?_)
      obtain ⟨z18, hz1, H0⟩ := of_bind H0
      refine wp_cut (fun a w => ∃ (g : G), w = g.w ∧ St 97 [] a g ∧ Base g0 g ∧ (.inr ()) = z18) ?_ ?_
      · rintro a w ⟨g, rfl, hst, hb, rfl⟩
        refine then_n ?_
        refine r_s (L := []) (T := [⟨[], _, [], [], [4]⟩]) (F := [.op 0 0]) hst hb follows
          (o_p rfl (ob_assign rfl rfl c_b) <|
           o_n) (by kernel_rfl) (fun a g hst hb => ?_)
        refine wp_ret ?_
        obtain rfl := Option.some.inj H0
        exact endR1 rfl hst hb (res_tmp (s := 4)) (hst.at 0 rfl)
      · refine wp_block ?_
        refine wp_loop_ghost (fun n a w => ∃ (x5 : Int) (g : G), w = g.w ∧ St 97 [(2, (k_api_Record.ptr a0)), (3, (k_api_Record.ptr a1)), (5, (pInt .i64 x5))] a g ∧ Base g0 g ∧ moietyref03_Same_l1 a0 a1 n x5 = some z18) (Int.toNat ((a0.List.length : Int) - (0 : Int)) + 1) ⟨(0 : Int), g, rfl, (hst.pick [0, 1, 2] rfl), hb, hz1⟩ (fun n a w hI => ?_)
        obtain ⟨x5, g, rfl, hst, hb, H1⟩ := hI
        cases n with
        | zero => exact absurd H1 (by simp [moietyref03_Same_l1])
        | succ n =>
          rw [moietyref03_Same_l1] at H1
          refine wp_seq ?_
          refine r_s (L := [(2, _), (3, _), (5, _)]) (T := [⟨[.old 2], _, [], [], [61]⟩, ⟨[.old 0], _, [], [], [62]⟩, ⟨[.op 1 0], _, [], [1], [63]⟩, ⟨[.op 2 0], _, [], [1, 2], [64]⟩, ⟨[.op 0 0, .op 3 0], _, [], List.range 4, [65]⟩]) (F := [.old 0, .old 1, .old 2, .op 4 0]) hst hb follows
            (o_p rfl (ob_move rfl rfl u_0) <|
             o_p rfl (ob_fieldAddr fl_38_7 rfl rfl u_0) <|
             o_p rfl (ob_load ty_36 rfl rfl u_0) <|
             o_p rfl (ob_lenL Try.underlying36 rfl rfl u_0) <|
             o_p rfl (ob_lt rfl rfl u_0 u_1) <|
             o_n) (by kernel_rfl) (fun a g hst hb => ?_)
          refine wp_cond_split (hst.bool 3 rfl) (fun hc6 => ?_) (fun hc6 => ?_)
          · replace H1 := ite_t hc6 H1
            refine wp_skip ?_
            refine then_n ?_
            refine wp_seq ?_
            refine wp_block ?_
            obtain ⟨e7, h8, H1⟩ := of_bind H1; obtain ⟨e9, h10, H1⟩ := of_bind H1; obtain ⟨e11, h12, H1⟩ := of_bind H1; obtain ⟨e13, h14, H1⟩ := of_bind H1; obtain ⟨r15, h16, H1⟩ := of_bind H1
            refine r_s (L := [(2, _), (3, _), (5, _)]) (T := ⟨[.old 0], _, [], [], [68]⟩ :: ⟨[.op 0 0], _, [], [0], [69]⟩ :: ⟨[.old 2], _, [], [], [70]⟩ :: ⟨[.op 1 0, .op 2 0], _, [], [0, 1, 2], [71]⟩ :: ⟨[.op 3 0], _, [], List.range 4, [72]⟩ :: ⟨[.op 4 0], _, [], List.range 5, [73]⟩ :: ⟨[.old 1], _, [], [], [74]⟩ :: ⟨[.op 6 0], _, [], [6], [75]⟩ :: ⟨[.old 2], _, [], [], [76]⟩ :: ⟨[.op 7 0, .op 8 0], _, [], [6, 7, 8], [77]⟩ :: ⟨[.op 9 0], _, [], List.range' 6 4, [78]⟩ :: ⟨[.op 10 0], _, [], List.range' 6 5, [79]⟩ :: ⟨[.op 5 0, .op 11 0], _, [], List.range 12, [80]⟩ :: ⟨[.op 12 0], _, [], List.range 13, [81]⟩ :: ⟨[.op 13 0, .old 0], _, [], List.range 14, [82]⟩ :: ⟨[.op 13 0, .op 14 0], _, [], List.range 15, [83]⟩ :: ⟨[.op 13 0, .old 2], _, [], List.range 14, [84]⟩ :: ⟨[.op 13 0, .op 15 0, .op 16 0], _, [], List.range 17, [85]⟩ :: ⟨[.op 13 0, .op 17 0], _, [], List.range 18, [86]⟩ :: ⟨[.op 13 0, .op 18 0], _, [], List.range 19, [87]⟩ :: ⟨[.op 13 0, .old 1], _, [], List.range 14, [88]⟩ :: ⟨[.op 13 0, .op 20 0], _, [], 0 :: 1 :: 2 :: 3 :: 4 :: 5 :: 6 :: 7 :: 8 :: 9 :: 10 :: 11 :: 12 :: 13 :: 20 :: [], [89]⟩ :: ⟨[.op 13 0, .old 2], _, [], List.range 14, [90]⟩ :: ⟨[.op 13 0, .op 21 0, .op 22 0], _, [], 0 :: 1 :: 2 :: 3 :: 4 :: 5 :: 6 :: 7 :: 8 :: 9 :: 10 :: 11 :: 12 :: 13 :: 20 :: 21 :: 22 :: [], [91]⟩ :: ⟨[.op 13 0, .op 23 0], _, [], 0 :: 1 :: 2 :: 3 :: 4 :: 5 :: 6 :: 7 :: 8 :: 9 :: 10 :: 11 :: 12 :: 13 :: 20 :: 21 :: 22 :: 23 :: [], [92]⟩ :: ⟨[.op 13 0, .op 24 0], _, [], 0 :: 1 :: 2 :: 3 :: 4 :: 5 :: 6 :: 7 :: 8 :: 9 :: 10 :: 11 :: 12 :: 13 :: 20 :: 21 :: 22 :: 23 :: 24 :: [], [93]⟩ :: ⟨[.op 13 0, .op 19 0, .op 25 0], _, [], List.range 26, [94]⟩ :: ⟨[.op 13 0, .op 26 0], _, [], List.range 27, [95]⟩ :: ⟨[.op 13 0, .op 27 0], _, [], List.range 28, [96]⟩ :: []) (F := [.old 0, .old 1, .old 2, .op 28 0]) (hst.pick [0, 1, 2] rfl) hb follows
              (o_p rfl (ob_fieldAddr fl_38_7 rfl rfl u_0) <|
               o_p rfl (ob_load ty_36 rfl rfl u_0) <|
               o_p rfl (ob_move rfl rfl u_0) <|
               o_p rfl (ob_indexAddr Try.underlying36 sz_64 rfl rfl u_0 u_1 h8) <|
               o_p rfl (ob_fieldAddr fl_64_1 rfl rfl u_0) <|
               o_p rfl (ob_load ty_9 rfl rfl u_0) <|
               o_p rfl (ob_fieldAddr fl_38_7 rfl rfl u_0) <|
               o_p rfl (ob_load ty_36 rfl rfl u_0) <|
               o_p rfl (ob_move rfl rfl u_0) <|
               o_p rfl (ob_indexAddr Try.underlying36 sz_64 rfl rfl u_0 u_1 h10) <|
               o_p rfl (ob_fieldAddr fl_64_1 rfl rfl u_0) <|
               o_p rfl (ob_load ty_9 rfl rfl u_0) <|
               o_p rfl (ob_sne rfl rfl u_0 u_1) <|
               o_p rfl (ob_move rfl rfl u_0) <|
               o_g (g_f rfl rfl rfl (fun hG => ob_fieldAddr fl_38_7 rfl rfl u_0)) <|
               o_g (g_f rfl rfl rfl (fun hG => ob_load ty_36 rfl rfl (Opd.gd hG u_0))) <|
               o_g (g_f rfl rfl rfl (fun hG => ob_move rfl rfl u_0)) <|
               o_g (g_f rfl rfl rfl (fun hG => ob_indexAddr Try.underlying36 sz_64 rfl rfl (Opd.gd hG u_0) (Opd.gd hG u_1) (gd_true h12 hG))) <|
               o_g (g_f rfl rfl rfl (fun hG => ob_fieldAddr fl_64_0 rfl rfl (Opd.gd hG u_0))) <|
               o_g (g_f rfl rfl rfl (fun hG => ob_load ty_35 rfl rfl (Opd.gd hG u_0))) <|
               o_g (g_f rfl rfl rfl (fun hG => ob_fieldAddr fl_38_7 rfl rfl u_0)) <|
               o_g (g_f rfl rfl rfl (fun hG => ob_load ty_36 rfl rfl (Opd.gd hG u_0))) <|
               o_g (g_f rfl rfl rfl (fun hG => ob_move rfl rfl u_0)) <|
               o_g (g_f rfl rfl rfl (fun hG => ob_indexAddr Try.underlying36 sz_64 rfl rfl (Opd.gd hG u_0) (Opd.gd hG u_1) (gd_true h14 hG))) <|
               o_g (g_f rfl rfl rfl (fun hG => ob_fieldAddr fl_64_0 rfl rfl (Opd.gd hG u_0))) <|
               o_g (g_f rfl rfl rfl (fun hG => ob_load ty_35 rfl rfl (Opd.gd hG u_0))) <|
               o_g (g_f rfl rfl rfl (fun hG => ob_call en_37 (moietyref01_Same_ok _ _ (gd_true h16 hG)) rfl rfl (.cons (Opd.gd hG u_0) (.cons (Opd.gd hG u_1) .nil)))) <|
               o_g (g_f rfl rfl rfl (fun hG => ob_not rfl rfl (Opd.gd hG u_0))) <|
               o_p rfl (ob_por rfl rfl u_0 (fun hz => (Opd.gd (bNF hz) u_1))) <|
               o_n) (by kernel_rfl) (fun a g hst hb => ?_)
            refine wp_cond_split (hst.bool 3 rfl) (fun hc17 => ?_) (fun hc17 => ?_)
            · replace H1 := ite_t hc17 H1
              refine r_s (L := []) (T := [⟨[], _, [], [], [4]⟩]) (F := [.op 0 0]) (hst.pick [] rfl) hb follows
                (o_p rfl (ob_assign rfl rfl c_b) <|
                 o_n) (by kernel_rfl) (fun a g hst hb => ?_)
              refine wp_ret ?_
              refine inBlock_r ?_
              refine then_r ?_
              refine then_r ?_
              refine inBlock_r ?_
              refine then_r ?_
              refine then_r ?_
              obtain rfl := Option.some.inj H1
              obtain rfl := Option.some.inj H0
              exact endR1 rfl hst hb (res_tmp (s := 4)) (hst.at 0 rfl)
            · replace H1 := ite_f hc17 H1
              refine wp_skip ?_
              refine inBlock_n ?_
              refine then_n ?_
              refine r_g (L := [(2, _), (3, _), (5, _)]) (T := [⟨[.old 2], _, [], [], [66]⟩, ⟨[.op 0 0], _, [], [0], [67]⟩, ⟨[.op 1 0], _, [], [0, 1], [5]⟩]) (F := [.old 0, .old 1, .op 2 0]) (hst.pick [0, 1, 2] rfl) hb follows
                (o_p rfl (ob_move rfl rfl u_0) <|
                 o_p rfl (ob_add rfl rfl u_0 c_i rfl) <|
                 o_p rfl (ob_assign rfl rfl u_0) <|
                 o_n) (by kernel_rfl) (fun a g hst hb => ?_)
              exact ⟨n, Nat.lt_succ_self _, (IntKind.i64.wrap (x5 + (1 : Int))), g, rfl, (hst.pick [0, 1, 2] rfl), hb, H1⟩
          · replace H1 := ite_f hc6 H1
            refine wp_exit ?_
            refine then_e ?_
            refine then_e ?_
            refine inBlock_e ?_
            exact ⟨g, rfl, (hst.pick [] rfl), hb, Option.some.inj H1⟩
end Go.CL

set_option linter.unusedVariables false
set_option linter.unusedSimpArgs false
set_option maxRecDepth 100000
namespace Go.CL
open Go Go.RowKit Go.Proofs
theorem moietylaw09_Is_ok (a0 : shelf_Shelf) (a1 : moietyref09_Shelf) {r : Int} (h : moietylaw09_Is a0 a1 = some r) : FnOk Try.prog 24 [(k_shelf_Shelf.pd a0), (k_moietyref09_Shelf.pd a1)] (pInt .i64 r) := by
  have H0 := h
  unfold moietylaw09_Is at H0
  clear h
  refine fn_ok (N := 54) Try.func24 rfl rfl (Nat.le_of_ble_eq_true rfl) rfl rfl (fun a g0 hst hb => ?_)
  refine r_s (L := [(0, _), (1, _)]) (T := [⟨[.old 0], _, [], [], [2]⟩, ⟨[.old 1], _, [], [], [3]⟩, ⟨[], _, [], [], [4]⟩]) (F := [.op 0 0, .op 1 0]) hst hb follows
    (o_p rfl (ob_box1 rfl rfl u_0) <|
     o_p rfl (ob_box1 rfl rfl u_0) <|
     o_p rfl (ob_assign rfl rfl c_i) <|
     o_n) (by kernel_rfl) (fun a g hst hb => ?_)
  refine wp_seq ?_
  obtain ⟨r1, h2, H0⟩ := of_bind H0; obtain ⟨r3, h4, H0⟩ := of_bind H0
  refine r_s (L := [(2, _), (3, _)]) (T := ⟨[.old 0], _, [], [], [10]⟩ :: ⟨[.op 0 0], _, [], [0], [11]⟩ :: ⟨[.old 1], _, [], [], [12]⟩ :: ⟨[.op 2 0], _, [], [2], [13]⟩ :: ⟨[.op 3 0], _, [], [2, 3], [14]⟩ :: ⟨[.op 1 0, .op 4 0], _, [], List.range 5, [15]⟩ :: ⟨[.op 5 0], _, [], List.range 6, [16]⟩ :: ⟨[.op 6 0, .old 0], _, [], List.range 7, [17]⟩ :: ⟨[.op 6 0, .op 7 0], _, [], List.range 8, [18]⟩ :: ⟨[.op 6 0, .old 1], _, [], List.range 7, [19]⟩ :: ⟨[.op 6 0, .op 9 0], _, [], [0, 1, 2, 3, 4, 5, 6, 9], [20]⟩ :: ⟨[.op 6 0, .op 8 0, .op 10 0], _, [], List.range 11, [21]⟩ :: ⟨[.op 6 0, .op 11 0], _, [], List.range 12, [22]⟩ :: []) (F := [.old 0, .old 1, .op 12 0]) hst hb follows
    (o_p rfl (ob_load ty_28 rfl rfl u_0) <|
     o_p rfl (ob_call en_17 (shelf_Shelf_Len_ok _ h2) rfl rfl (.cons u_0 .nil)) <|
     o_p rfl (ob_fieldAddr fl_34_0 rfl rfl u_0) <|
     o_p rfl (ob_load ty_32 rfl rfl u_0) <|
     o_p rfl (ob_lenL Try.underlying32 rfl rfl u_0) <|
     o_p rfl (ob_ne rfl rfl u_0 u_1) <|
     o_p rfl (ob_move rfl rfl u_0) <|
     o_g (g_f rfl rfl rfl (fun hG => ob_load ty_28 rfl rfl u_0)) <|
     o_g (g_f rfl rfl rfl (fun hG => ob_call en_21 (shelf_Shelf_Room_ok _ (gd_true h4 hG)) rfl rfl (.cons (Opd.gd hG u_0) .nil))) <|
     o_g (g_f rfl rfl rfl (fun hG => ob_fieldAddr fl_34_1 rfl rfl u_0)) <|
     o_g (g_f rfl rfl rfl (fun hG => ob_load ty_3 rfl rfl (Opd.gd hG u_0))) <|
     o_g (g_f rfl rfl rfl (fun hG => ob_ne rfl rfl (Opd.gd hG u_0) (Opd.gd hG u_1))) <|
     o_p rfl (ob_por rfl rfl u_0 (fun hz => (Opd.gd (bNF hz) u_1))) <|
     o_n) (by kernel_rfl) (fun a g hst hb => ?_)
  refine wp_cond_split (hst.bool 2 rfl) (fun hc5 => ?_) (fun hc5 => ?_)
  · replace H0 := ite_t hc5 H0
    refine r_s (L := []) (T := [⟨[], _, [], [], [4]⟩]) (F := [.op 0 0]) (hst.pick [] rfl) hb follows
      (o_p rfl (ob_assign rfl rfl c_i) <|
       o_n) (by kernel_rfl) (fun a g hst hb => ?_)
    refine wp_ret ?_
    refine then_r ?_
    obtain rfl := Option.some.inj H0
    exact endR1 rfl hst hb (res_tmp (s := 4)) (hst.at 0 rfl)
  · replace H0 := ite_f hc5 H0
    refine wp_skip ?_
    refine then_n ?_
    refine wp_seq ?_
    refine r_s (L := [(2, _), (3, _)]) (T := [⟨[.old 1], _, [], [], [23]⟩, ⟨[.op 0 0], _, [], [0], [24]⟩, ⟨[.op 1 0], _, [], [0, 1], [25]⟩, ⟨[], _, [], [], [26]⟩]) (F := [.old 0, .op 1 0, .op 2 0, .op 3 0]) (hst.pick [0, 1] rfl) hb follows
      (o_p rfl (ob_fieldAddr fl_34_0 rfl rfl u_0) <|
       o_p rfl (ob_load ty_32 rfl rfl u_0) <|
       o_p rfl (ob_lenL Try.underlying32 rfl rfl u_0) <|
       o_p rfl (ob_move rfl rfl c_i) <|
       o_n) (by kernel_rfl) (fun a g hst hb => ?_)
    obtain ⟨z15, hz1, H0⟩ := of_bind H0
    refine wp_cut (fun a w => ∃ (g : G), w = g.w ∧ St 54 [] a g ∧ Base g0 g ∧ (.inr ()) = z15) ?_ ?_
    · rintro a w ⟨g, rfl, hst, hb, rfl⟩
      refine then_n ?_
      refine r_s (L := []) (T := [⟨[], _, [], [], [4]⟩]) (F := [.op 0 0]) hst hb follows
        (o_p rfl (ob_assign rfl rfl c_i) <|
         o_n) (by kernel_rfl) (fun a g hst hb => ?_)
      refine wp_ret ?_
      obtain rfl := Option.some.inj H0
      exact endR1 rfl hst hb (res_tmp (s := 4)) (hst.at 0 rfl)
    · refine wp_block ?_
      refine wp_loop_ghost (fun n a w => ∃ (x6 : Int) (g : G), w = g.w ∧ St 54 [(2, (k_shelf_Shelf.ptr a0)), (24, (k_moietyref09_Pair.sl.pd a1.L)), (25, (pInt .i64 (a1.L.length : Int))), (26, (pInt .i64 x6))] a g ∧ Base g0 g ∧ moietylaw09_Is_l1 a0 a1 n x6 = some z15) (Int.toNat ((a1.L.length : Int) - (0 : Int)) + 1) ⟨(0 : Int), g, rfl, (hst.pick [0, 1, 2, 3] rfl), hb, hz1⟩ (fun n a w hI => ?_)
      obtain ⟨x6, g, rfl, hst, hb, H1⟩ := hI
      cases n with
      | zero => exact absurd H1 (by simp [moietylaw09_Is_l1])
      | succ n =>
        rw [moietylaw09_Is_l1] at H1
        refine r_s (L := [(2, _), (24, _), (25, _), (26, _)]) (T := [⟨[.old 3, .old 2], _, [], [], [27]⟩]) (F := [.old 0, .old 1, .old 2, .old 3, .op 0 0]) hst hb follows
          (o_p rfl (ob_lt rfl rfl u_0 u_1) <|
           o_n) (by kernel_rfl) (fun a g hst hb => ?_)
        refine wp_seq ?_
        refine wp_cond_split (hst.bool 4 rfl) (fun hc7 => ?_) (fun hc7 => ?_)
        · replace H1 := ite_t hc7 H1
          refine wp_skip ?_
          refine then_n ?_
          refine wp_seq ?_
          refine wp_block ?_
          obtain ⟨e8, h9, H1⟩ := of_bind H1
          refine r_s (L := [(2, _), (24, _), (25, _), (26, _)]) (T := [⟨[.old 3], _, [], [], [28]⟩, ⟨[.old 1, .old 3], _, [], [], [29]⟩, ⟨[.op 1 0], _, [], [1], [30]⟩, ⟨[], [(6, (pBox k_moietyref09_Pair 6 (default : moietyref09_Pair)))], [7], [], [6]⟩, ⟨[.op 0 0], _, [], List.range 4, [5]⟩, ⟨[.op 2 0, .op 3 0], _, [7], List.range 5, [6]⟩]) (F := [.old 0, .op 4 0, .op 5 0, .old 1, .old 2, .old 3]) (hst.pick [0, 1, 2, 3] rfl) hb follows
            (o_p rfl (ob_move rfl rfl u_0) <|
             o_p rfl (ob_indexAddr Try.underlying32 sz_54 rfl rfl u_0 u_1 h9) <|
             o_p rfl (ob_load ty_54 rfl rfl u_0) <|
             o_p rfl (ob_alloc (zs := [.string ByteArray.empty, .int .i64 0, .int .i64 0, .int .i64 0, .int .i64 0, .float .f64 0, .int .i64 0, .string ByteArray.empty, .slice none 0 0]) (by kernel_rfl) (fun g => zk_moietyref09_Pair g) rfl rfl) <|
             o_p rfl (ob_assign rfl rfl u_0) <|
             o_p rfl (ob_storeF ty_54 rfl rfl u_1 u_0) <|
             o_n) (by kernel_rfl) (fun a g hst hb => ?_)
          obtain ⟨r10, h11, H1⟩ := of_bind H1
          refine r_s (L := [(2, _), (5, _), (6, _), (24, _), (25, _), (26, _)]) (T := [⟨[.old 0], _, [], [], [32]⟩, ⟨[.old 1], _, [], [], [33]⟩, ⟨[.op 0 0, .op 1 0], _, [], [0, 1], [34]⟩, ⟨[.op 2 0], _, [], [0, 1, 2], [31]⟩, ⟨[.op 3 0], _, [], List.range 4, [35]⟩, ⟨[.op 3 0], _, [], List.range 4, [36]⟩, ⟨[.op 3 0], _, [], List.range 4, [37]⟩, ⟨[], [(8, (pBox k_api_Record 8 (default : api_Record)))], [9], [], [8]⟩, ⟨[.op 4 0], _, [], [0, 1, 2, 3, 4, 7], [7]⟩, ⟨[.op 5 0, .op 7 0], _, [9], [0, 1, 2, 3, 4, 5, 7, 8], [8]⟩, ⟨[.op 6 0], _, [], List.range 10, [9]⟩]) (F := [.old 0, .old 2, .op 8 0, .op 9 0, .op 10 0, .old 3, .old 4, .old 5]) hst hb follows
            (o_p rfl (ob_load ty_28 rfl rfl u_0) <|
             o_p rfl (ob_move rfl rfl u_0) <|
             o_p rfl (ob_call en_16 (shelf_Shelf_At_ok _ _ h11) rfl rfl (.cons u_0 (.cons u_1 .nil))) <|
             o_p rfl (ob_move rfl rfl u_0) <|
             o_p rfl (ob_extract rfl rfl u_0 rfl) <|
             o_p rfl (ob_extract rfl rfl u_0 rfl) <|
             o_p rfl (ob_extract rfl rfl u_0 rfl) <|
             o_p rfl (ob_alloc (zs := [.int .i64 0, .int .i64 0, .int .i64 0, .int .i64 0, .float .f64 0, .int .i64 0, .string ByteArray.empty, .slice none 0 0]) (by kernel_rfl) (fun g => zk_api_Record g) rfl rfl) <|
             o_p rfl (ob_assign rfl rfl u_0) <|
             o_p rfl (ob_storeF ty_38 rfl rfl u_1 u_0) <|
             o_p rfl (ob_assign rfl rfl u_0) <|
             o_n) (by kernel_rfl) (fun a g hst hb => ?_)
          obtain ⟨r12, h13, H1⟩ := of_bind H1
          refine r_s (L := [(2, _), (6, _), (7, _), (8, _), (9, _), (24, _), (25, _), (26, _)]) (T := ⟨[.old 4], _, [], [], [38]⟩ :: ⟨[.op 0 0], _, [], [0], [39]⟩ :: ⟨[.op 1 0], _, [], [0, 1], [40]⟩ :: ⟨[.op 2 0, .old 2], _, [], [0, 1, 2], [41]⟩ :: ⟨[.op 2 0, .old 1], _, [], [0, 1, 2], [42]⟩ :: ⟨[.op 2 0, .op 4 0], _, [], [0, 1, 2, 4], [43]⟩ :: ⟨[.op 2 0, .op 3 0, .op 5 0], _, [], List.range 6, [44]⟩ :: ⟨[.op 2 0, .op 6 0], _, [], List.range 7, [45]⟩ :: ⟨[.op 7 0], _, [], List.range 8, [46]⟩ :: ⟨[.op 8 0, .old 3], _, [], List.range 9, [47]⟩ :: ⟨[.op 8 0, .old 1], _, [], List.range 9, [48]⟩ :: ⟨[.op 8 0, .op 10 0], _, [], [0, 1, 2, 3, 4, 5, 6, 7, 8, 10], [49]⟩ :: ⟨[.op 8 0, .op 9 0, .op 11 0], _, [], List.range 12, [50]⟩ :: ⟨[.op 8 0, .op 12 0], _, [], List.range 13, [51]⟩ :: ⟨[.op 8 0, .op 13 0], _, [], List.range 14, [52]⟩ :: []) (F := [.old 0, .old 5, .old 6, .old 7, .op 14 0]) hst hb follows
            (o_p rfl (ob_move rfl rfl u_0) <|
             o_p rfl (ob_not rfl rfl u_0) <|
             o_p rfl (ob_move rfl rfl u_0) <|
             o_g (g_f rfl rfl rfl (fun hG => ob_move rfl rfl u_0)) <|
             o_g (g_f rfl rfl rfl (fun hG => ob_fieldAddr fl_54_0 rfl rfl u_0)) <|
             o_g (g_f rfl rfl rfl (fun hG => ob_load ty_9 rfl rfl (Opd.gd hG u_0))) <|
             o_g (g_f rfl rfl rfl (fun hG => ob_sne rfl rfl (Opd.gd hG u_0) (Opd.gd hG u_1))) <|
             o_p rfl (ob_por rfl rfl u_0 (fun hz => (Opd.gd (bNF hz) u_1))) <|
             o_p rfl (ob_move rfl rfl u_0) <|
             o_g (g_f rfl rfl rfl (fun hG => ob_load ty_38 rfl rfl u_0)) <|
             o_g (g_f rfl rfl rfl (fun hG => ob_fieldAddr fl_54_1 rfl rfl u_0)) <|
             o_g (g_f rfl rfl rfl (fun hG => ob_load ty_38 rfl rfl (Opd.gd hG u_0))) <|
             o_g (g_f rfl rfl rfl (fun hG => ob_call en_25 (moietyref03_Same_ok _ _ (gd_true h13 hG)) rfl rfl (.cons (Opd.gd hG u_0) (.cons (Opd.gd hG u_1) .nil)))) <|
             o_g (g_f rfl rfl rfl (fun hG => ob_not rfl rfl (Opd.gd hG u_0))) <|
             o_p rfl (ob_por rfl rfl u_0 (fun hz => (Opd.gd (bNF hz) u_1))) <|
             o_n) (by kernel_rfl) (fun a g hst hb => ?_)
          refine wp_cond_split (hst.bool 4 rfl) (fun hc14 => ?_) (fun hc14 => ?_)
          · replace H1 := ite_t hc14 H1
            refine r_s (L := []) (T := [⟨[], _, [], [], [4]⟩]) (F := [.op 0 0]) (hst.pick [] rfl) hb follows
              (o_p rfl (ob_assign rfl rfl c_i) <|
               o_n) (by kernel_rfl) (fun a g hst hb => ?_)
            refine wp_ret ?_
            refine inBlock_r ?_
            refine then_r ?_
            refine then_r ?_
            refine inBlock_r ?_
            refine then_r ?_
            refine then_r ?_
            obtain rfl := Option.some.inj H1
            obtain rfl := Option.some.inj H0
            exact endR1 rfl hst hb (res_tmp (s := 4)) (hst.at 0 rfl)
          · replace H1 := ite_f hc14 H1
            refine wp_skip ?_
            refine inBlock_n ?_
            refine then_n ?_
            refine r_g (L := [(2, _), (24, _), (25, _), (26, _)]) (T := [⟨[.old 3], _, [], [], [53]⟩, ⟨[.op 0 0], _, [], [0], [26]⟩]) (F := [.old 0, .old 1, .old 2, .op 1 0]) (hst.pick [0, 1, 2, 3] rfl) hb follows
              (o_p rfl (ob_add rfl rfl u_0 c_i rfl) <|
               o_p rfl (ob_move rfl rfl u_0) <|
               o_n) (by kernel_rfl) (fun a g hst hb => ?_)
            exact ⟨n, Nat.lt_succ_self _, (IntKind.i64.wrap (x6 + (1 : Int))), g, rfl, (hst.pick [0, 1, 2, 3] rfl), hb, H1⟩
        · replace H1 := ite_f hc7 H1
          refine wp_exit ?_
          refine then_e ?_
          refine then_e ?_
          refine inBlock_e ?_
          exact ⟨g, rfl, (hst.pick [] rfl), hb, Option.some.inj H1⟩
end Go.CL

/- Elements of a list of my own, written one by one. -/
set_option linter.unusedVariables false
set_option linter.unusedSimpArgs false
namespace Go.CL
open Go Go.RowKit

section
variable {P : Program} {N : Nat} {o : Oper} {uses : Slots} {d : Nat} {q : Pd} {x y z : Operand} {α β γ : Type} {dk : Kd α} {di : Kd β} {dj : Kd γ} {t e : TypeId} {bytes j : Nat}

theorem seg_seg' {cs : List Value} {a n b m : Nat} (h : b + m ≤ n) : seg (seg cs a n) b m = seg cs (a + b) m := by
  simp only [seg, List.drop_take, List.drop_drop, List.take_take]
  congr 1
  omega
theorem splice_in {cs ys : List Value} {a n b : Nat} (h : b + ys.length ≤ n) (hn : a + n ≤ cs.length) : splice cs a (splice (seg cs a n) b ys) = splice cs (a + b) ys := by
  have hl : (seg cs a n).length = n := by simp [seg]; omega
  have hs : (splice (seg cs a n) b ys).length = n := by simp [splice, hl]; omega
  apply List.ext_getElem?
  intro i
  simp only [splice, seg, List.append_assoc, List.getElem?_append, List.length_take, List.length_drop, List.length_append, List.getElem?_take, List.getElem?_drop]
  repeat' split
  all_goals (try omega)
  all_goals (first | rfl | (congr 1; omega))
/-- A place in an element of a list of my own. -/
def pEl (dk : Kd α) (e : TypeId) (j : Nat) (xs : List α) (i off : Nat) (di : Kd β) (u : β) : Pd := ⟨fun g v => ∃ b cap cur, v = .pointer (some ⟨b, i * dk.sz + off, none⟩) ∧ OwnAt dk e (j + 1) (xs.map some) g b cap cur ∧ i < xs.length ∧ off + di.sz ≤ dk.sz ∧ di.K g u (seg cur.toList (i * dk.sz + off) di.sz), [j + 1],
  fun s hd ⟨b, cap, cur, e, h, h1, h2, h3⟩ => ⟨b, cap, cur, e, h.st s (hd _ (by simp)) (by omega), h1, h2, di.mono s.le h3⟩⟩
theorem ob_indexO {k : IntKind} {xs : List α} {n : Int} {u : α} {ix : Operand} (ht : P.underlying t = some (.slice e)) (hs : (P.info? e).map (·.size) = some dk.sz) (hop : o.op = .indexAddr t x ix) (hd : o.dst = some d) (hx : Opd uses x (pArr dk e j xs)) (hi : Opd uses ix (pInt k n)) (h : idx xs n = some u) : OB P N o uses [(d, pEl dk e j xs n.toNat 0 dk u)] [] :=
  ob_val hd fun a g hh => by
    have hn := pInt_iff.1 (hi a g hh)
    unfold idx at h
    split at h
    · rename_i h0
      have hlt := (List.getElem?_eq_some_iff.1 h).1
      rcases hx a g hh with ⟨rfl, _⟩ | ⟨b, cap, cur, hv, hO⟩
      · simp at h
      · have hb : 0 ≤ n ∧ n < (xs.length : Int) := ⟨h0, by omega⟩
        refine ⟨.pointer (some ⟨b, n.toNat * dk.sz, none⟩), by simp [execOp, hop, hv, hn, Instr.indexAt, asIntOf, run_underlying ht, hb, sizeOf_run hs, add_none], b, cap, cur, rfl, hO, hlt, by omega, hO.known _ _ (by simp [h])⟩
    · cases h
theorem ob_elField {s i k off off2 : Nat} {xs : List α} {u : β} {proj : β → γ} (hF : Fld P s k di dj proj) (ho : (match P.underlying s with | some (.struct F) => (F[k]?).map (·.offset) | _ => none) = some off2) (hfit : off2 + dj.sz ≤ di.sz) (hop : o.op = .fieldAddr s x k) (hd : o.dst = some d) (hx : Opd uses x (pEl dk e j xs i off di u)) : OB P N o uses [(d, pEl dk e j xs i (off + off2) dj (proj u))] [] :=
  ob_val hd fun a g hh => by
    obtain ⟨b, cap, cur, hv, hO, h1, h2, h3⟩ := hx a g hh
    obtain ⟨fs, f, hu, hi, hsz, hag, h0, hK, _⟩ := hF.look
    have : f.offset = off2 := by simpa [hu, hi] using ho
    subst this
    refine ⟨.pointer (some ⟨b, i * dk.sz + off + f.offset, none⟩), by simp [execOp, hop, hv, Instr.fieldAt, Instr.sureAddr, run_underlying hu, hi, fieldPlace_run hsz h0], b, cap, cur, by rw [Nat.add_assoc], hO, h1, by omega, ?_⟩
    have := hK g u _ h3
    rw [seg_seg' hfit] at this
    rw [← Nat.add_assoc]; exact this
theorem own_cell {fs : List (Option α)} {g : G} {b cap : Nat} {cur : Array Value} (h : OwnAt dk e j fs g b cap cur) (i : Nat) (u : Value) (hu : cur.toList[i]? = some u) : g.w.cell? ⟨b, i, none⟩ = some u := by
  simp only [World.cell?, h.heap]
  simpa using hu
theorem ob_elLoad {i off : Nat} {xs : List α} {u : β} (hT : Ty P t di) (hop : o.op = .load t x) (hd : o.dst = some d) (hx : Opd uses x (pEl dk e j xs i off di u)) : OB P N o uses [(d, di.pd u)] [] :=
  ob_val hd fun a g hh => by
    obtain ⟨b, cap, cur, hv, hO, h1, h2, hk⟩ := hx a g hh
    refine ⟨mkV di.ag (seg cur.toList (i * dk.sz + off) di.sz), ?_, _, hk, rfl⟩
    have := loadVar_run (b := b) (of := i * dk.sz + off) hT hk (fun k u hu => by
      refine own_cell hO (i * dk.sz + off + k) u ?_
      simp only [seg, List.getElem?_take, List.getElem?_drop] at hu
      split at hu
      · exact hu
      · cases hu)
    simp [execOp, hop, hv, Instr.loadAt, Instr.sureAddr, this]
/-- The world behind a store. -/
theorem own_set {g : G} {b cap i off : Nat} {xs : List α} {cur : Array Value} {u u' : α} {ys : List Value} (hO : OwnAt dk e (j + 1) (xs.map some) g b cap cur) (hi : xs[i]? = some u) (hfit : off + ys.length ≤ dk.sz) (hk : dk.K g u' (splice (seg cur.toList (i * dk.sz) dk.sz) off ys)) :
    ∃ g' : G, g'.w = g.w.setRow b (splice cur.toList (i * dk.sz + off) ys).toArray ∧ Step [j + 1] g g' ∧ OwnAt dk e (j + 1) ((xs.set i u').map some) g' b cap (splice cur.toList (i * dk.sz + off) ys).toArray := by
  have hlt := (List.getElem?_eq_some_iff.1 hi).1
  have hcl : cur.toList.length = cap * dk.sz := by simpa using hO.sz
  have hlen : xs.length ≤ cap := by simpa using hO.len
  have hin : i * dk.sz + dk.sz ≤ cap * dk.sz := seg_in (by omega)
  have hl := dk.len hk
  obtain ⟨g', e1, e2, e3⟩ := own_wr (ws := [u']) (off := i) (news := splice (seg cur.toList (i * dk.sz) dk.sz) off ys) hO (by rw [hl]; simp) (by simp; omega) (fun k x hx => by
    cases k with
    | zero =>
      simp at hx; subst hx
      rw [Nat.zero_mul]
      have : seg (splice (seg cur.toList (i * dk.sz) dk.sz) off ys) 0 dk.sz = splice (seg cur.toList (i * dk.sz) dk.sz) off ys := by
        simp only [seg, List.drop_zero]
        rw [List.take_of_length_le]
        simp only [seg] at hl
        omega
      rw [this]; exact hk
    | succ k => simp at hx)
  rw [splice_in hfit (by omega)] at e1 e3
  refine ⟨g', e1, e2, ⟨e3.lt, e3.own, e3.uniq, e3.heap, by simpa using hO.len, e3.max, e3.sz, fun k x hx => e3.known k x ?_, e3.npr⟩⟩
  rw [over_get (by simp; omega)]
  simp only [List.getElem?_map, List.getElem?_set, List.length_singleton] at hx ⊢
  by_cases h1 : k < i
  · rw [if_pos h1]
    rw [if_neg (by omega)] at hx
    exact hx
  · rw [if_neg h1]
    by_cases h2 : k < i + 1
    · have : k = i := by omega
      subst this
      rw [if_pos h2]
      simp only [if_pos hlt, if_true] at hx
      simpa using hx
    · rw [if_neg h2]
      rw [if_neg (by omega)] at hx
      exact hx
/-- A store into an element. -/
theorem run_elStore {i off : Nat} {xs : List α} {u : α} {v1 v2 : β} {u' : α} {g : G} {pv w : Value} (hT : Ty P t di) (hx : (pEl dk e j xs i off di v1).p g pv) (hz : (di.pd v2).p g w) (hi : xs[i]? = some u) (hw : ∀ g cs ys, dk.K g u cs → di.K g v2 ys → off + ys.length ≤ cs.length → dk.K g u' (splice cs off ys)) :
    ∃ (b cap : Nat) (cur cur' : Array Value) (g' : G), pv = .pointer (some ⟨b, i * dk.sz + off, none⟩) ∧ OwnAt dk e (j + 1) (xs.map some) g b cap cur ∧ (storeVar t ⟨b, i * dk.sz + off, none⟩ w).run P g.w = .ok () g'.w ∧ Step [j + 1] g g' ∧ OwnAt dk e (j + 1) ((xs.set i u').map some) g' b cap cur' := by
  obtain ⟨b, cap, cur, rfl, hO, h1, h2, h3⟩ := hx
  obtain ⟨ys, hk, rfl⟩ := hz
  have hyl := di.len hk
  have hcl : cur.toList.length = cap * dk.sz := by simpa using hO.sz
  have hlen : xs.length ≤ cap := by simpa using hO.len
  have hin : i * dk.sz + dk.sz ≤ cap * dk.sz := seg_in (by omega)
  have hku := hO.known i u (by simp [hi])
  obtain ⟨g', e1, e2, e3⟩ := own_set (u' := u') (ys := ys) (off := off) hO hi (by omega) (hw g _ _ hku hk (by rw [dk.len hku]; omega))
  have hst := run_storeVar_mine (off := i * dk.sz + off) hT hO.heap hk (by rw [hO.sz]; omega)
  exact ⟨b, cap, cur, _, g', rfl, hO, by rw [e1]; simpa [splice] using hst, e2, e3⟩
theorem ob_elStore {s i off : Nat} {xs : List α} {u : α} {v1 v2 : β} {u' : α} (hT : Ty P t di) (hop : o.op = .store t x z) (hd : o.dst = none) (hs : Opd uses (.tmp s) (pArr dk e j xs)) (hx : Opd uses x (pEl dk e j xs i off di v1)) (hz : Opd uses z (di.pd v2)) (hi : xs[i]? = some u) (h0 : 0 < dk.sz)
    (hw : ∀ g cs ys, dk.K g u cs → di.K g v2 ys → off + ys.length ≤ cs.length → dk.K g u' (splice cs off ys)) : OB P N o uses [(s, pArr dk e j (xs.set i u'))] [j + 1] :=
  ob_skip hd fun a g hh => by
    obtain ⟨b, cap, cur, cur', g', hv, hO, hr, hst, hO'⟩ := run_elStore hT (hx a g hh) (hz a g hh) hi hw
    refine ⟨g', by simp [execOp, hop, hv, Instr.storeAt, Instr.sureAddr, hr], hst, fun e he => ?_⟩
    rw [List.mem_singleton.1 he]
    rcases hs a g hh with ⟨rfl, _⟩ | ⟨b2, cap2, cur2, hv2, hO2⟩
    · simp at hi
    · obtain ⟨rfl, rfl, rfl⟩ := hO.same hO2 h0
      exact .inr ⟨b2, cap2, cur', by rw [List.length_set]; exact hv2, hO'⟩
end
end Go.CL

/- Structs that bear a list of my own: as a value, in a box. -/
set_option linter.unusedVariables false
set_option linter.unusedSimpArgs false
namespace Go.CL
open Go Go.RowKit

section
variable {P : Program} {N : Nat} {o : Oper} {uses outs : Slots} {S : List Nat} {d : Nat} {q : Pd} {x y z : Operand}
/-- What is told may be opened first. -/
theorem OB.at (h : ∀ (a : Act) g, Holds uses a g → ∃ uses' : Slots, Holds uses' a g ∧ OB P N o uses' outs S) : OB P N o uses outs S :=
  fun a g K Q hN hdN hu hK => let ⟨_, h1, h2⟩ := h a g hu; h2 a g K Q hN hdN h1 hK
/-- What the operation does not touch stays told. -/
theorem OB.frame {n : Nat} (h : OB P N o uses outs S) (hq : ∀ j ∈ q.fp, j ∉ S) (hn : o.dst ≠ some n) : OB P N o ((n, q) :: uses) ((n, q) :: outs) S := by
  intro a g K Q hN hdN hu hK
  refine h a g K Q hN hdN (fun e he => hu e (List.mem_cons_of_mem _ he)) fun v g' hs ho => hK v g' hs fun e he => ?_
  rcases List.mem_cons.1 he with rfl | he
  · have := hu (n, q) (List.mem_cons_self ..)
    have h2 := q.st hs hq this
    show q.p g' (Act.at (a.put o.dst v) n)
    rw [at_put_ne v hn]; exact h2
  · exact ho e he
/-- A fact of a value that is no slot's. -/
def pAt (v : Value) (q : Pd) : Pd := ⟨fun g _ => q.p g v, q.fp, fun s hd h => q.st s hd h⟩

abbrev SlV := Option Addr × Nat × Nat
def slv (s : SlV) : Value := .slice s.1 s.2.1 s.2.2
/-- A slice's cell, whatever it leads to. -/
def Kd.raw : Kd SlV := Kd.scalar slv fun _ => rfl
theorem raw_pd {s : SlV} {g : G} {v : Value} : (Kd.raw.pd s).p g v ↔ v = slv s := Kd.scalar_V

variable {α β γ δ ε : Type} {kV : Kd γ} {raw : α → SlV → γ} {lst : α → List β} {dk : Kd β} {di : Kd δ} {dj : Kd ε} {t e j jl : Nat} {xv : α}
/-- A struct's value, its list mine. -/
def pStO (kV : Kd γ) (raw : α → SlV → γ) (lst : α → List β) (dk : Kd β) (e jl : Nat) (x : α) : Pd := ⟨fun g v => ∃ s, (kV.pd (raw x s)).p g v ∧ (pArr dk e jl (lst x)).p g (slv s), [jl + 1], fun st hd ⟨s, h1, h2⟩ => ⟨s, (kV.pd (raw x s)).st st (fun _ h => by cases h) h1, (pArr dk e jl (lst x)).st st hd h2⟩⟩
/-- .. in a variable of mine. -/
def pBxO (kV : Kd γ) (raw : α → SlV → γ) (lst : α → List β) (dk : Kd β) (e j jl : Nat) (x : α) : Pd := ⟨fun g v => ∃ s, (pBox kV j (raw x s)).p g v ∧ (pArr dk e jl (lst x)).p g (slv s), [j + 1, jl + 1], fun st hd ⟨s, h1, h2⟩ => ⟨s, (pBox kV j (raw x s)).st st (fun k hk => hd k (List.mem_cons.2 (.inl (List.mem_singleton.1 hk)))) h1, (pArr dk e jl (lst x)).st st (fun k hk => hd k (List.mem_cons_of_mem _ hk)) h2⟩⟩
/-- .. its list not told. -/
def pBxN (kV : Kd γ) (raw : α → SlV → γ) (j : Nat) (x : α) : Pd := ⟨fun g v => ∃ s, (pBox kV j (raw x s)).p g v, [j + 1], fun st hd ⟨s, h1⟩ => ⟨s, (pBox kV j (raw x s)).st st hd h1⟩⟩
/-- A place in a variable of mine, and what lies there. -/
def pPX (kV : Kd γ) (j off : Nat) (di : Kd δ) (u : δ) : Pd := ⟨fun g v => ∃ w, (pPart kV j w off di u).p g v, [j + 1], fun st hd ⟨w, h⟩ => ⟨w, (pPart kV j w off di u).st st hd h⟩⟩
/-- The place of the list. -/
def pPL (kV : Kd γ) (dk : Kd β) (e j jl off : Nat) (l : List β) : Pd := ⟨fun g v => ∃ w s, (pPart kV j w off Kd.raw s).p g v ∧ (pArr dk e jl l).p g (slv s), [j + 1, jl + 1], fun st hd ⟨w, s, h1, h2⟩ => ⟨w, s, (pPart kV j w off Kd.raw s).st st (fun k hk => hd k (List.mem_cons.2 (.inl (List.mem_singleton.1 hk)))) h1, (pArr dk e jl l).st st (fun k hk => hd k (List.mem_cons_of_mem _ hk)) h2⟩⟩
theorem bxO_N {g : G} {v : Value} (h : (pBxO kV raw lst dk e j jl xv).p g v) : (pBxN kV raw j xv).p g v := let ⟨s, h1, _⟩ := h; ⟨s, h1⟩
theorem pArr_nil {g : G} : (pArr dk e jl []).p g (slv (none, 0, 0)) := .inl ⟨rfl, none, rfl⟩
theorem ob_allocO {zs : List Value} (hz : (P.info? t).bind (·.zero) = some (mkV kV.ag zs)) (hk : ∀ g, kV.K g (raw xv (none, 0, 0)) zs) (hl : lst xv = []) (hop : o.op = .alloc t) (hd : o.dst = some d) : OB P N o uses [(d, pBxO kV raw lst dk e j jl xv)] [j + 1] :=
  (ob_alloc hz hk hop hd).weak fun g a h en he => by
    rw [List.mem_singleton.1 he]
    exact ⟨_, h (d, pBox kV j (raw xv (none, 0, 0))) (List.mem_singleton.2 rfl), by rw [hl]; exact pArr_nil⟩
theorem ob_boxN {zt : Nat} {k : Kd α} (hc : ∀ g cs, k.K g xv cs → ∃ s, kV.K g (raw xv s) cs) (hag : kV.ag = k.ag) (hop : o.op = .box t (.tmp zt)) (hd : o.dst = some d) (hx : Opd uses (.tmp zt) (k.pd xv)) : OB P N o uses [(d, pBxN kV raw j xv)] [j + 1] :=
  OB.at fun a g hh => by
    obtain ⟨cs, h1, h2⟩ := hx a g hh
    obtain ⟨s, h3⟩ := hc g cs h1
    refine ⟨[(zt, kV.pd (raw xv s))], fun en he => by rw [List.mem_singleton.1 he]; exact ⟨cs, h3, by rw [hag]; exact h2⟩, (ob_boxM hop hd .t0).weak fun g' a' h en he => ?_⟩
    rw [List.mem_singleton.1 he]
    exact ⟨s, h (d, pBox kV j (raw xv s)) (List.mem_singleton.2 rfl)⟩
theorem ob_loadO {pt : Nat} (hT : Ty P t kV) (hop : o.op = .load t (.tmp pt)) (hd : o.dst = some d) (hpd : d ≠ pt) (hx : Opd uses (.tmp pt) (pBxO kV raw lst dk e j jl xv)) : OB P N o uses [(d, pStO kV raw lst dk e jl xv)] [] :=
  OB.at fun a g hh => by
    obtain ⟨s, h1, h2⟩ := hx a g hh
    refine ⟨[(N, pAt (slv s) (pArr dk e jl (lst xv))), (pt, pBox kV j (raw xv s))], fun en he => ?_, ?_⟩
    · rcases List.mem_cons.1 he with rfl | he
      · exact h2
      · rw [List.mem_singleton.1 he]; exact h1
    · intro a' g' K Q hN hdN hu hK
      have hdl := hdN d hd
      refine (OB.frame (n := N) (q := pAt (slv s) (pArr dk e jl (lst xv))) (ob_loadM (c := none) hT hop hd .t0) (fun _ _ h => by cases h) (by rw [hd]; intro h; exact absurd (Option.some.inj h) (Nat.ne_of_lt hdl))).weak (fun g2 a2 h en he => ?_) a' g' K Q hN hdN hu hK
      rw [List.mem_singleton.1 he]
      exact ⟨s, h (d, kV.pd (raw xv s)) (by simp), h (N, pAt (slv s) (pArr dk e jl (lst xv))) (by simp)⟩
theorem ob_storeO {pt zt : Nat} {x0 : α} (hT : Ty P t kV) (hop : o.op = .store t (.tmp pt) (.tmp zt)) (hd : o.dst = none) (hj : jl ≠ j) (hx : Opd uses (.tmp pt) (pBxN kV raw j x0)) (hz : Opd uses (.tmp zt) (pStO kV raw lst dk e jl xv)) : OB P N o uses [(pt, pBxO kV raw lst dk e j jl xv)] [j + 1] :=
  OB.at fun a g hh => by
    obtain ⟨s0, h0⟩ := hx a g hh
    obtain ⟨s, h1, h2⟩ := hz a g hh
    refine ⟨[(N, pAt (slv s) (pArr dk e jl (lst xv))), (pt, pBox kV j (raw x0 s0)), (zt, kV.pd (raw xv s))], fun en he => ?_, ?_⟩
    · rcases List.mem_cons.1 he with rfl | he
      · exact h2
      · rcases List.mem_cons.1 he with rfl | he
        · exact h0
        · rw [List.mem_singleton.1 he]; exact h1
    · refine (OB.frame (n := N) (q := pAt (slv s) (pArr dk e jl (lst xv))) (ob_store (c := none) hT hop hd .t0 (.tl .t0)) (fun k hk hS => ?_) (by rw [hd]; simp)).weak (fun g2 a2 h en he => ?_)
      · have a1 : k = jl + 1 := List.mem_singleton.1 hk
        have a2 : k = j + 1 := List.mem_singleton.1 hS
        omega
      · rw [List.mem_singleton.1 he]
        exact ⟨s, h (pt, pBox kV j (raw xv s)) (by simp), h (N, pAt (slv s) (pArr dk e jl (lst xv))) (by simp)⟩
/-- A field that is only read. -/
theorem ob_fieldX {s i off : Nat} {pt : Nat} {proj : γ → δ} {u : δ} (hF : Fld P s i kV di proj) (ho : (match P.underlying s with | some (.struct F) => (F[i]?).map (·.offset) | _ => none) = some off) (hu : ∀ sv, proj (raw xv sv) = u) (hop : o.op = .fieldAddr s (.tmp pt) i) (hd : o.dst = some d) (hx : Opd uses (.tmp pt) (pBxN kV raw j xv)) : OB P N o uses [(d, pPX kV j off di u)] [] :=
  OB.at fun a g hh => by
    obtain ⟨s0, h0⟩ := hx a g hh
    refine ⟨[(pt, pBox kV j (raw xv s0))], fun en he => by rw [List.mem_singleton.1 he]; exact h0, (ob_fieldAddrM (c := none) hF ho hop hd .t0).weak fun g2 a2 h en he => ?_⟩
    rw [List.mem_singleton.1 he]
    have := h (d, pPart kV j (raw xv s0) off di (proj (raw xv s0))) (List.mem_singleton.2 rfl)
    rw [hu] at this
    exact ⟨_, this⟩
theorem ob_loadX {off pt : Nat} {u : δ} (hT : Ty P t di) (hop : o.op = .load t (.tmp pt)) (hd : o.dst = some d) (hx : Opd uses (.tmp pt) (pPX kV j off di u)) : OB P N o uses [(d, di.pd u)] [] :=
  OB.at fun a g hh => by
    obtain ⟨w, h0⟩ := hx a g hh
    exact ⟨[(pt, pPart kV j w off di u)], fun en he => by rw [List.mem_singleton.1 he]; exact h0, ob_loadP hT hop hd .t0⟩
/-- A field of a field. -/
theorem ob_fieldPX {s k off off2 : Nat} {u : δ} {proj : δ → ε} (hF : Fld P s k di dj proj) (ho : (match P.underlying s with | some (.struct F) => (F[k]?).map (·.offset) | _ => none) = some off2) (hfit : off2 + dj.sz ≤ di.sz) (hop : o.op = .fieldAddr s x k) (hd : o.dst = some d) (hx : Opd uses x (pPX kV j off di u)) : OB P N o uses [(d, pPX kV j (off + off2) dj (proj u))] [] :=
  ob_val hd fun a g hh => by
    obtain ⟨w, b, cs, t', hv, hm, h3⟩ := hx a g hh
    obtain ⟨fs, f, hu, hi, hsz, hag, h0, hK, _⟩ := hF.look
    have : f.offset = off2 := by simpa [hu, hi] using ho
    subst this
    refine ⟨.pointer (some ⟨b, off + f.offset, none⟩), by simp [execOp, hop, hv, Instr.fieldAt, Instr.sureAddr, run_underlying hu, hi, fieldPlace_run hsz h0], w, b, cs, t', rfl, hm, ?_⟩
    have := hK g u _ h3
    rwa [seg_seg' hfit] at this
/-- The list's field. -/
theorem ob_fieldL {s i off : Nat} {pt : Nat} {proj : γ → SlV} (hF : Fld P s i kV Kd.raw proj) (ho : (match P.underlying s with | some (.struct F) => (F[i]?).map (·.offset) | _ => none) = some off) (hu : ∀ sv, proj (raw xv sv) = sv) (hop : o.op = .fieldAddr s (.tmp pt) i) (hd : o.dst = some d) (hx : Opd uses (.tmp pt) (pBxO kV raw lst dk e j jl xv)) : OB P N o uses [(d, pPL kV dk e j jl off (lst xv))] [] :=
  OB.at fun a g hh => by
    obtain ⟨s0, h0, h2⟩ := hx a g hh
    refine ⟨[(N, pAt (slv s0) (pArr dk e jl (lst xv))), (pt, pBox kV j (raw xv s0))], fun en he => ?_, ?_⟩
    · rcases List.mem_cons.1 he with rfl | he
      · exact h2
      · rw [List.mem_singleton.1 he]; exact h0
    · intro a' g' K Q hN hdN hu' hK
      have hdl := hdN d hd
      refine (OB.frame (n := N) (q := pAt (slv s0) (pArr dk e jl (lst xv))) (ob_fieldAddrM (c := none) hF ho hop hd .t0) (fun _ _ h => by cases h) (by rw [hd]; intro h; exact absurd (Option.some.inj h) (Nat.ne_of_lt hdl))).weak (fun g2 a2 h en he => ?_) a' g' K Q hN hdN hu' hK
      rw [List.mem_singleton.1 he]
      have := h (d, pPart kV j (raw xv s0) off Kd.raw (proj (raw xv s0))) (by simp)
      rw [hu] at this
      exact ⟨_, s0, this, h (N, pAt (slv s0) (pArr dk e jl (lst xv))) (by simp)⟩
theorem ob_loadL {off pt : Nat} {l : List β} (hT : Ty P t Kd.raw) (hop : o.op = .load t (.tmp pt)) (hd : o.dst = some d) (hx : Opd uses (.tmp pt) (pPL kV dk e j jl off l)) : OB P N o uses [(d, pArr dk e jl l)] [] :=
  OB.at fun a g hh => by
    obtain ⟨w, s0, h0, h2⟩ := hx a g hh
    refine ⟨[(N, pAt (slv s0) (pArr dk e jl l)), (pt, pPart kV j w off Kd.raw s0)], fun en he => ?_, ?_⟩
    · rcases List.mem_cons.1 he with rfl | he
      · exact h2
      · rw [List.mem_singleton.1 he]; exact h0
    · intro a' g' K Q hN hdN hu' hK
      have hdl := hdN d hd
      refine (OB.frame (n := N) (q := pAt (slv s0) (pArr dk e jl l)) (ob_loadP hT hop hd .t0) (fun _ _ h => by cases h) (by rw [hd]; intro h; exact absurd (Option.some.inj h) (Nat.ne_of_lt hdl))).weak (fun g2 a2 h en he => ?_) a' g' K Q hN hdN hu' hK
      rw [List.mem_singleton.1 he]
      have h3 := raw_pd.1 (h (d, Kd.raw.pd s0) (by simp))
      show (pArr dk e jl l).p g2 (Act.at a2 d)
      rw [h3]
      exact h (N, pAt (slv s0) (pArr dk e jl l)) (by simp)
/-- A list of mine is put into it. -/
theorem ob_storeL {off s pt zt : Nat} {x' : α} {w0 : SlV} {l0 : SlV → Prop} (hT : Ty P t Kd.raw) (hop : o.op = .store t (.tmp pt) (.tmp zt)) (hd : o.dst = none) (hj : jl ≠ j) (hs : Opd uses (.tmp s) (pBxN kV raw j xv)) (hx : ∀ (a : Act) g, Holds uses a g → ∃ w s1, (pPart kV j w off Kd.raw s1).p g (Act.at a pt)) (hz : Opd uses (.tmp zt) (pArr dk e jl (lst x')))
    (hw : ∀ g cs s0 s1 ys, kV.K g (raw xv s0) cs → Kd.raw.K g s1 ys → off + ys.length ≤ cs.length ∧ kV.K g (raw x' s1) (splice cs off ys)) : OB P N o uses [(s, pBxO kV raw lst dk e j jl x')] [j + 1] :=
  OB.at fun a g hh => by
    obtain ⟨s0, h0⟩ := hs a g hh
    obtain ⟨w, s1, h1⟩ := hx a g hh
    have h2 := hz a g hh
    have hsl : ∃ s2 : SlV, Act.at a zt = slv s2 := by
      rcases h2 with ⟨_, A, hv⟩ | ⟨b, cap, cur, hv, _⟩
      · exact ⟨(A, 0, 0), hv⟩
      · exact ⟨(_, _, _), hv⟩
    obtain ⟨s2, hv2⟩ := hsl
    refine ⟨[(N, pAt (slv s2) (pArr dk e jl (lst x'))), (s, pBox kV j (raw xv s0)), (pt, pPart kV j w off Kd.raw s1), (zt, Kd.raw.pd s2)], fun en he => ?_, ?_⟩
    · rcases List.mem_cons.1 he with rfl | he
      · show (pArr dk e jl (lst x')).p g (slv s2)
        rw [← hv2]; exact h2
      · rcases List.mem_cons.1 he with rfl | he
        · exact h0
        · rcases List.mem_cons.1 he with rfl | he
          · exact h1
          · rw [List.mem_singleton.1 he]; exact raw_pd.2 hv2
    · refine (OB.frame (n := N) (q := pAt (slv s2) (pArr dk e jl (lst x'))) (ob_storeP (c := none) (v' := raw x' s2) hT hop hd .t0 (.tl .t0) (.tl (.tl .t0)) (fun g cs ys h k => hw g cs s0 s2 ys h k)) (fun k hk hS => ?_) (by rw [hd]; simp)).weak (fun g2 a2 h en he => ?_)
      · have a1 : k = jl + 1 := List.mem_singleton.1 hk
        have a2 : k = j + 1 := List.mem_singleton.1 hS
        omega
      · rw [List.mem_singleton.1 he]
        exact ⟨s2, h (s, pBox kV j (raw x' s2)) (by simp), h (N, pAt (slv s2) (pArr dk e jl (lst x'))) (by simp)⟩
end
end Go.CL

/- Calls whose result has a list that is the caller's own from then on. -/
set_option linter.unusedVariables false
set_option linter.unusedSimpArgs false
namespace Go.CL
open Go Go.RowKit

section
variable {P : Program} {N : Nat} {o : Oper} {uses outs : Slots} {S : List Nat} {d : Nat} {q : Pd} {x y z : Operand}
/-- What q speaks of is new (its owner: k + 1). -/
def FnOwn (P : Program) (f : FuncId) (A : List Pd) (q : Pd) : Prop := ∀ (g : G) (args : List Value), ArgsOk A g args →
  Calls P f args.toArray g.w (fun en w' => ∃ g' v, en = .returned v ∧ w' = g'.w ∧ StepB (fun _ => False) g g' ∧ (∀ b, b < g.w.heap.size → g'.own b = 0) ∧ q.p g' v)
theorem fnOwn_ok {f : FuncId} {fn : Func} {cd : Code} {A : List Pd} (hf : P.funcs[f]? = some fn) (hb : fn.body = some cd) (hn : fn.ntmps = N) (hAN : A.length ≤ N) (hA : Free A)
    (h : ∀ (a : Act) (g : G), St N (args0 A 0) a g → Base g g → cd.wp P (bodyPost P fn (Fin g q)) a g.w) : FnOwn P f A q := by
  intro g args hargs
  let g0 : G := ⟨g.w, g.pr, fun _ => 0, g.hpr, g.gl⟩
  have hle : g.le g0 := ⟨Nat.le_refl _, fun _ _ h => h, fun _ _ _ => rfl⟩
  have hst : St N (args0 A 0) { tmps := args.toArray ++ Array.replicate (fn.ntmps - args.toArray.size) undef, defers := [] } g0 := by
    refine ⟨?_, rfl, ?_⟩
    · have := hargs.1
      simp [hn]; omega
    · intro e he
      obtain ⟨i, h1, h2⟩ := args0_at he
      have hi : i < args.length := by rw [hargs.1]; exact (List.getElem?_eq_some_iff.1 h2).1
      have hv : Act.at { tmps := args.toArray ++ Array.replicate (fn.ntmps - args.toArray.size) undef, defers := [] } e.1 = args[i] := by
        rw [h1, Nat.zero_add]
        simp only [Act.at, Array.getD_eq_getD_getElem?]
        rw [Array.getElem?_append, if_pos (by simpa using hi)]
        simp [hi]
      rw [hv]
      exact Pd.le (hA.at h2) hle rfl rfl rfl (hargs.2 i e.2 _ h2 (List.getElem?_eq_getElem hi))
  have hbase : Base g0 g0 := ⟨.refl _, rfl, rfl, rfl, fun _ _ _ => ⟨rfl, rfl, rfl⟩⟩
  refine Calls.mono (calls_of_wp hf hb (h _ g0 hst hbase)) ?_
  rintro en w' ⟨g1, v, rfl, rfl, hB, hv⟩
  exact ⟨g1, v, rfl, rfl, ⟨⟨hB.le.size, hB.le.pr, hB.le.cell⟩, hB.os, hB.tape, hB.output, fun b hb _ => ⟨(hB.same b hb rfl).1, (hB.same b hb rfl).2.1⟩⟩, fun b hb => (hB.same b hb rfl).2.2, hv⟩
theorem ob_callOwn {f : FuncId} {k : Nat} {xo : List Operand} {A : List Pd} {ty : Array TypeId} (he : Enters P f) (hok : FnOwn P f A q) (hq : ∀ j ∈ q.fp, j = k + 1) (hop : o.op = .call { callee := .value (.func f), args := xo.toArray, argTypes := ty }) (hd : o.dst = some d) (hargs : OpdL uses xo A) : OB P N o uses [(d, q)] [k + 1] := by
  intro a g K Q hN hdN hu hK
  have hr : (execOp a.eval o).run P g.w = .ok (.enter f (xo.map a.eval).toArray) g.w := by
    simp [execOp, hop, resolve, Act.eval, Deferred.ofValue, invoke, enter_run he]
  unfold Oper.wp
  rw [hr]
  show Calls P f _ g.w _
  refine Calls.mono (hok g _ (hargs.ok hu)) ?_
  rintro en w' ⟨g', v, rfl, rfl, hS, hz, hA⟩
  let o1 : Nat → Nat := fun b => if b < g.w.heap.size then (if g.own b = k + 1 then 0 else g.own b) else if g'.own b = k + 1 then k + 1 else 0
  have h1 : ∀ b, b < g.w.heap.size → o1 b = if g.own b = k + 1 then 0 else g.own b := fun b hb => if_pos hb
  have h2 : ∀ b, g.w.heap.size ≤ b → o1 b = if g'.own b = k + 1 then k + 1 else 0 := fun b hb => if_neg (by omega)
  let g2 : G := ⟨g'.w, g'.pr, o1, g'.hpr, g'.gl⟩
  have hst : Step [k + 1] g g2 :=
    ⟨⟨hS.le.size, hS.le.pr, hS.le.cell⟩, hS.os, hS.tape, hS.output, fun b hb hn => ⟨(hS.same b hb id).1, (hS.same b hb id).2, by show o1 b = _; rw [h1 b hb, if_neg (by simpa using hn)]⟩,
      fun b k1 k2 => by
        show o1 b = 0 ∨ o1 b ∈ _
        rw [h2 b k1]; split <;> simp,
      fun b hb hn => .inl (by show o1 b = 0; rw [h1 b hb, if_pos (by simpa using hn)])⟩
  refine hK v g2 hst fun e' he' => ?_
  rw [List.mem_singleton.1 he', hd, at_put_same _ (by rw [hN]; exact hdN d hd)]
  let T : List Nat := ((List.range g'.w.heap.size).map g'.own ++ (List.range g'.w.heap.size).map o1).filter (fun n => n != k + 1)
  have hT : ∀ b, b < g'.w.heap.size → g'.own b ≠ k + 1 → g'.own b ∈ T := fun b hb hn => List.mem_filter.2 ⟨List.mem_append_left _ (List.mem_map.2 ⟨b, List.mem_range.2 hb, rfl⟩), by simpa using hn⟩
  have hT2 : ∀ b, b < g'.w.heap.size → o1 b ≠ k + 1 → o1 b ∈ T := fun b hb hn => List.mem_filter.2 ⟨List.mem_append_right _ (List.mem_map.2 ⟨b, List.mem_range.2 hb, rfl⟩), by simpa using hn⟩
  have hiff : ∀ b, b < g'.w.heap.size → (g'.own b = k + 1 ↔ o1 b = k + 1) := fun b hb => by
    by_cases hlt : b < g.w.heap.size
    · rw [h1 b hlt, hz b hlt]
      constructor
      · intro h; omega
      · intro h
        split at h
        · omega
        · rename_i hne; exact absurd h hne
    · rw [h2 b (by omega)]
      constructor
      · intro h; rw [if_pos h]
      · intro h
        split at h
        · assumption
        · omega
  refine q.st (S := T) (g := g') (g' := g2) ⟨⟨Nat.le_refl _, fun _ _ h => h, fun _ _ _ => rfl⟩, rfl, rfl, rfl, fun b hb hn => ⟨rfl, rfl, ?_⟩, fun b k1 k2 => absurd (Nat.lt_of_lt_of_le k2 k1) (Nat.lt_irrefl _), fun b hb hn => .inr (hT2 b hb fun h => ?_)⟩ (fun j hj hn => ?_) hA
  · show o1 b = g'.own b
    have hk : g'.own b = k + 1 := Classical.byContradiction fun h => hn (hT b hb h)
    rw [hk]; exact (hiff b hb).1 hk
  · have := (hiff b hb).2 h
    rw [this] at hn
    have := (List.mem_filter.1 hn).2
    simp at this
  · rw [hq j hj] at hn
    have := (List.mem_filter.1 hn).2
    simp at this

variable {α β γ δ ε : Type} {kV : Kd γ} {raw : α → SlV → γ} {lst : α → List β} {dk : Kd β} {di : Kd δ} {t e j jl : Nat} {xv : α}
theorem box_N {k : Kd α} (hc : ∀ g x cs, k.K g x cs → ∃ s, kV.K g (raw x s) cs) {g : G} {v : Value} (h : (pBox k j xv).p g v) : (pBxN kV raw j xv).p g v := by
  obtain ⟨b, cs, t, e, ⟨h1, h2, h3, h4, h5, h6⟩, h7⟩ := h
  obtain ⟨s, hs⟩ := hc g xv cs h5
  exact ⟨s, b, cs, t, e, ⟨h1, h2, h3, h4, hs, h6⟩, h7⟩
theorem part_raw {k : Kd α} (hc : ∀ g x cs, k.K g x cs → ∃ s, kV.K g (raw x s) cs) {off : Nat} {l : List β} {g : G} {v : Value} (h : (pPart k j xv off dk.sl l).p g v) : ∃ w s1, (pPart kV j w off Kd.raw s1).p g v := by
  obtain ⟨b, cs, t, e, ⟨h1, h2, h3, h4, h5, h6⟩, h7⟩ := h
  obtain ⟨s, hs⟩ := hc g xv cs h5
  obtain ⟨A, c, hv, _⟩ := h7
  exact ⟨_, (A, l.length, c), b, cs, t, e, ⟨h1, h2, h3, h4, hs, h6⟩, hv⟩
theorem res_boxO {a : Act} {g : G} {s t : Nat} (hT : Ty P t kV) (h : (pBxO kV raw lst dk e j jl xv).p g (Act.at a s)) : ∃ u, ResOk P a g (.cell s t) u ∧ (pStO kV raw lst dk e jl xv).p g u := by
  obtain ⟨sv, h1, h2⟩ := h
  obtain ⟨u, h3, h4⟩ := res_box hT h1
  exact ⟨u, h3, sv, h4, h2⟩
/-- Its struct's variable is filled at once, and its list is looked at through it. -/
theorem ob_storeOP {pt zt : Nat} {x0 : α} (hT : Ty P t kV) (hop : o.op = .store t (.tmp pt) (.tmp zt)) (hd : o.dst = none) (hj : jl ≠ j) (hx : Opd uses (.tmp pt) (pBxO kV raw lst dk e j jl x0)) (hz : Opd uses (.tmp zt) (pStO kV raw lst dk e jl xv)) : OB P N o uses [(pt, pBxO kV raw lst dk e j jl xv)] [j + 1] :=
  ob_storeO hT hop hd hj (fun a g hh => bxO_N (hx a g hh)) hz
theorem ob_lenA {xs : List β} (ht : P.underlying t = some (.slice e)) (hop : o.op = .call { callee := .builtin .len, args := #[x], argTypes := #[t] }) (hd : o.dst = some d) (hx : Opd uses x (pArr dk e jl xs)) : OB P N o uses [(d, pInt .i64 (xs.length : Int))] [] :=
  ob_val hd fun a g hh => by
    rcases hx a g hh with ⟨rfl, A, hv⟩ | ⟨b, cap, cur, hv, _⟩
    · exact ⟨.int .i64 0, by simp [execOp, hop, resolve, invoke, builtin, hv, Builtin.len_, run_underlying ht, goInt], int_q _ _ g⟩
    · exact ⟨.int .i64 xs.length, by simp [execOp, hop, resolve, invoke, builtin, hv, Builtin.len_, run_underlying ht, goInt], int_q _ _ g⟩
theorem idx_get {xs : List β} {n : Int} {u : β} (h : idx xs n = some u) : xs[n.toNat]? = some u := by
  unfold idx at h
  split at h
  · exact h
  · cases h
/-- A store into an element of the struct's list. -/
theorem ob_elStoreO {s i off : Nat} {u u' : β} {v1 v2 : δ} {x' : α} (hT : Ty P t di) (hop : o.op = .store t x z) (hd : o.dst = none) (hj : j ≠ jl) (hs : Opd uses (.tmp s) (pBxO kV raw lst dk e j jl xv)) (hx : Opd uses x (pEl dk e jl (lst xv) i off di v1)) (hz : Opd uses z (di.pd v2)) (hi : (lst xv)[i]? = some u) (h0 : 0 < dk.sz)
    (hl : lst x' = (lst xv).set i u') (hr : ∀ s, raw x' s = raw xv s) (hw : ∀ g cs ys, dk.K g u cs → di.K g v2 ys → off + ys.length ≤ cs.length → dk.K g u' (splice cs off ys)) : OB P N o uses [(s, pBxO kV raw lst dk e j jl x')] [jl + 1] :=
  ob_skip hd fun a g hh => by
    obtain ⟨b, cap, cur, cur', g', hv, hO, hrun, hst, hO'⟩ := run_elStore hT (hx a g hh) (hz a g hh) hi hw
    refine ⟨g', by simp [execOp, hop, hv, Instr.storeAt, Instr.sureAddr, hrun], hst, fun en he => ?_⟩
    rw [List.mem_singleton.1 he]
    obtain ⟨sv, hb, ha⟩ := hs a g hh
    refine ⟨sv, ?_, ?_⟩
    · rw [hr]
      refine (pBox kV j (raw xv sv)).st hst (fun k hk hS => ?_) hb
      have a1 : k = j + 1 := List.mem_singleton.1 hk
      have a2 : k = jl + 1 := List.mem_singleton.1 hS
      omega
    · rcases ha with ⟨hn, _⟩ | ⟨b2, cap2, cur2, hv2, hO2⟩
      · rw [hn] at hi; simp at hi
      · obtain ⟨rfl, rfl, rfl⟩ := hO.same hO2 h0
        rw [hl]
        exact .inr ⟨b2, cap2, cur', by rw [List.length_set]; exact hv2, hO'⟩
end
end Go.CL

/- The shelf's At: its record's list is the caller's own. -/
set_option linter.unusedVariables false
set_option linter.unusedSimpArgs false
set_option maxRecDepth 100000
namespace Go.CL
open Go Go.RowKit Go.Proofs
structure api_RecordV where
  Kind : Int
  Num : Int
  Low : Int
  High : Int
  Real : Nat
  Cap : Int
  Text : ByteArray
  List : SlV
def fs_api_RecordV : List (Kd.FK api_RecordV) := [⟨_, (Kd.int .i64), 0, fun x : api_RecordV => x.Kind⟩,
  ⟨_, (Kd.int .i64), 1, fun x : api_RecordV => x.Num⟩,
  ⟨_, (Kd.int .i64), 2, fun x : api_RecordV => x.Low⟩,
  ⟨_, (Kd.int .i64), 3, fun x : api_RecordV => x.High⟩,
  ⟨_, Kd.flt, 4, fun x : api_RecordV => x.Real⟩,
  ⟨_, (Kd.int .i64), 5, fun x : api_RecordV => x.Cap⟩,
  ⟨_, Kd.str, 6, fun x : api_RecordV => x.Text⟩,
  ⟨_, Kd.raw, 7, fun x : api_RecordV => x.List⟩]
def k_api_RecordV : Kd api_RecordV := Kd.struct 8 fs_api_RecordV (by rfl)
def rawR : api_Record → SlV → api_RecordV := fun x s => ({ Kind := x.Kind, Num := x.Num, Low := x.Low, High := x.High, Real := x.Real, Cap := x.Cap, Text := x.Text, List := s } : api_RecordV)
def lstR : api_Record → List api_Item := fun x => x.List
theorem zk_api_RecordV : ∀ g, k_api_RecordV.K g (rawR (default : api_Record) (none, 0, 0)) [.int .i64 0, .int .i64 0, .int .i64 0, .int .i64 0, .float .f64 0, .int .i64 0, .string ByteArray.empty, .slice none 0 0] := fun g => ⟨rfl, (List.forall_mem_cons.2 ⟨(rfl), (List.forall_mem_cons.2 ⟨(rfl), (List.forall_mem_cons.2 ⟨(rfl), (List.forall_mem_cons.2 ⟨(rfl), (List.forall_mem_cons.2 ⟨(rfl), (List.forall_mem_cons.2 ⟨(rfl), (List.forall_mem_cons.2 ⟨(rfl), (List.forall_mem_cons.2 ⟨(rfl), (fun _ h => by cases h)⟩)⟩)⟩)⟩)⟩)⟩)⟩)⟩)⟩
theorem ty_38V : Ty Try.prog 38 k_api_RecordV := ⟨by kernel_rfl, by kernel_rfl⟩
theorem ty_36V : Ty Try.prog 36 Kd.raw := ⟨by kernel_rfl, by kernel_rfl⟩
theorem fl_38_7V : Fld Try.prog 38 7 k_api_RecordV Kd.raw (fun x : api_RecordV => x.List) := Fld.of ⟨_, Kd.raw, 7, fun x : api_RecordV => x.List⟩ (List.mem_of_getElem? (i := 7) rfl) 7 rfl (by kernel_rfl) (by decide)
theorem recV : ∀ g (x : api_Record) cs, k_api_Record.K g x cs → ∃ s, k_api_RecordV.K g (rawR x s) cs := fun g x cs h => by
  obtain ⟨A, c, hv, _⟩ := h.2 _ (List.mem_of_getElem? (i := 7) rfl)
  exact ⟨(A, x.List.length, c), h.1, (List.forall_mem_cons.2 ⟨(by exact h.2 _ (List.mem_of_getElem? (i := 0) rfl)), (List.forall_mem_cons.2 ⟨(by exact h.2 _ (List.mem_of_getElem? (i := 1) rfl)), (List.forall_mem_cons.2 ⟨(by exact h.2 _ (List.mem_of_getElem? (i := 2) rfl)), (List.forall_mem_cons.2 ⟨(by exact h.2 _ (List.mem_of_getElem? (i := 3) rfl)), (List.forall_mem_cons.2 ⟨(by exact h.2 _ (List.mem_of_getElem? (i := 4) rfl)), (List.forall_mem_cons.2 ⟨(by exact h.2 _ (List.mem_of_getElem? (i := 5) rfl)), (List.forall_mem_cons.2 ⟨(by exact h.2 _ (List.mem_of_getElem? (i := 6) rfl)), (List.forall_mem_cons.2 ⟨(hv), (fun _ h => by cases h)⟩)⟩)⟩)⟩)⟩)⟩)⟩)⟩)⟩
theorem setV (x : api_Record) (l : List api_Item) : ∀ g cs s0 s1 ys, k_api_RecordV.K g (rawR x s0) cs → Kd.raw.K g s1 ys → 7 + ys.length ≤ cs.length ∧ k_api_RecordV.K g (rawR { x with List := l } s1) (splice cs 7 ys) := fun g cs s0 s1 ys hk hy => by
  have hc : cs.length = 8 := hk.1
  have hl : ys.length = 1 := Kd.raw.len hy
  exact ⟨by omega, (splice_length (by omega)).trans hc, (List.forall_mem_cons.2 ⟨(by show (Kd.int .i64).K g x.Kind (seg (splice cs 7 ys) 0 1); rw [seg_splice_ne (by omega) (by omega)]; exact hk.2 _ (List.mem_of_getElem? (i := 0) rfl)), (List.forall_mem_cons.2 ⟨(by show (Kd.int .i64).K g x.Num (seg (splice cs 7 ys) 1 1); rw [seg_splice_ne (by omega) (by omega)]; exact hk.2 _ (List.mem_of_getElem? (i := 1) rfl)), (List.forall_mem_cons.2 ⟨(by show (Kd.int .i64).K g x.Low (seg (splice cs 7 ys) 2 1); rw [seg_splice_ne (by omega) (by omega)]; exact hk.2 _ (List.mem_of_getElem? (i := 2) rfl)), (List.forall_mem_cons.2 ⟨(by show (Kd.int .i64).K g x.High (seg (splice cs 7 ys) 3 1); rw [seg_splice_ne (by omega) (by omega)]; exact hk.2 _ (List.mem_of_getElem? (i := 3) rfl)), (List.forall_mem_cons.2 ⟨(by show Kd.flt.K g x.Real (seg (splice cs 7 ys) 4 1); rw [seg_splice_ne (by omega) (by omega)]; exact hk.2 _ (List.mem_of_getElem? (i := 4) rfl)), (List.forall_mem_cons.2 ⟨(by show (Kd.int .i64).K g x.Cap (seg (splice cs 7 ys) 5 1); rw [seg_splice_ne (by omega) (by omega)]; exact hk.2 _ (List.mem_of_getElem? (i := 5) rfl)), (List.forall_mem_cons.2 ⟨(by show Kd.str.K g x.Text (seg (splice cs 7 ys) 6 1); rw [seg_splice_ne (by omega) (by omega)]; exact hk.2 _ (List.mem_of_getElem? (i := 6) rfl)), (List.forall_mem_cons.2 ⟨(by show Kd.raw.K g s1 (seg (splice cs 7 ys) 7 1); rw [seg_splice_same (by omega) hl]; exact hy), (fun _ h => by cases h)⟩)⟩)⟩)⟩)⟩)⟩)⟩)⟩)⟩
theorem ob_allocV {N d : Nat} {o : Oper} {uses : Slots} {j : Nat} (hop : o.op = .alloc 38) (hd : o.dst = some d) : OB Try.prog N o uses [(d, pBxN k_api_RecordV rawR j (default : api_Record))] [j + 1] :=
  (ob_allocO (lst := lstR) (dk := k_api_Item) (e := 64) (jl := 900) (zs := [.int .i64 0, .int .i64 0, .int .i64 0, .int .i64 0, .float .f64 0, .int .i64 0, .string ByteArray.empty, .slice none 0 0]) (by kernel_rfl) (fun g => zk_api_RecordV g) rfl hop hd).weak fun g a h en he => by
    rw [List.mem_singleton.1 he]
    exact bxO_N (h (d, pBxO k_api_RecordV rawR lstR k_api_Item 64 j 900 (default : api_Record)) (List.mem_singleton.2 rfl))
theorem bd_38V {N d : Nat} {o : Oper} {uses : Slots} (hop : o.op = .build 38 #[]) (hd : o.dst = some d) : OB Try.prog N o uses [(d, pStO k_api_RecordV rawR lstR k_api_Item 64 900 { Kind := (0 : Int), Num := (0 : Int), Low := (0 : Int), High := (0 : Int), Real := (0 : Nat), Cap := (0 : Int), Text := ByteArray.empty, List := ([] : List api_Item) })] [] := by
  refine ob_build hop hd fun a g hh => ?_
  refine ⟨.agg #[.int .i64 0, .int .i64 0, .int .i64 0, .int .i64 0, .float .f64 0, .int .i64 0, .string ByteArray.empty, .slice none 0 0], ?_, (none, 0, 0), ⟨[.int .i64 0, .int .i64 0, .int .i64 0, .int .i64 0, .float .f64 0, .int .i64 0, .string ByteArray.empty, .slice none 0 0], zk_api_RecordV g, rfl⟩, pArr_nil⟩
  simp only [List.map_toArray, List.map_cons, List.map_nil, List.map_nil]
  exact run_build Try.underlying38 (zero := .agg #[.int .i64 0, .int .i64 0, .int .i64 0, .int .i64 0, .float .f64 0, .int .i64 0, .string ByteArray.empty, .slice none 0 0]) (by kernel_rfl) (places := [(0, 1), (1, 1), (2, 1), (3, 1), (4, 1), (5, 1), (6, 1), (7, 1)]) (by kernel_rfl) (by kernel_rfl) g.w
theorem rec_Clone_own (a0 : api_Record) {r : api_Record} (h : rec_Clone a0 = some r) : FnOwn Try.prog 34 [(k_api_Record.pd a0)] (pStO k_api_RecordV rawR lstR k_api_Item 64 900 r) := by
  have H0 := h
  unfold rec_Clone at H0
  clear h
  refine fnOwn_ok (N := 8) Try.func34 rfl rfl (Nat.le_of_ble_eq_true rfl) rfl (fun a g0 hst hb => ?_)
  refine r_s (L := [(0, _)]) (T := [⟨[.old 0], _, [2], [], [1]⟩, ⟨[], [(2, (pBxN k_api_RecordV rawR 2 (default : api_Record)))], [3], [], [2]⟩]) (F := [.op 0 0, .op 1 0]) hst hb follows
    (o_p rfl (ob_boxM rfl rfl u_0) <|
     o_p rfl (ob_allocV rfl rfl) <|
     o_n) (by kernel_rfl) (fun a g hst hb => ?_)
  obtain ⟨r1, h2, H0⟩ := of_bind H0
  refine r_s (L := [(1, _), (2, _)]) (T := [⟨[.old 0], _, [], [], [3]⟩, ⟨[.op 0 0], _, [], [0], [4]⟩, ⟨[.op 1 0], _, [901], [0, 1], [5]⟩, ⟨[.old 0], _, [], [0, 1, 2], [6]⟩, ⟨[.op 2 0, .op 3 0, .old 0], [(1, (pBxO k_api_RecordV rawR lstR k_api_Item 64 1 900 { a0 with List := r1 }))], [2], List.range 4, [1, 3, 6]⟩]) (F := [.op 4 0, .old 1]) hst hb follows
    (o_p rfl (ob_fieldAddrM fl_38_7 (off := 7) (by kernel_rfl) rfl rfl u_0) <|
     o_p rfl (ob_loadP ty_36 rfl rfl u_0) <|
     o_p rfl (ob_callFresh (j := 900) en_46 (slices_Clone_api_Item_api_Item_fresh _ h2) rfl rfl (.cons u_0 .nil)) <|
     o_p rfl (ob_fieldAddrM fl_38_7 (off := 7) (by kernel_rfl) rfl rfl u_0) <|
     o_p rfl (ob_storeL (l0 := fun _ => True) (w0 := (none, 0, 0)) (xv := a0) ty_36V rfl rfl (by decide) (Opd.imp u_2 (fun _ _ h => box_N recV h)) (fun a g hh => part_raw (kV := k_api_RecordV) (raw := rawR) recV (u_1 a g hh)) u_0 (setV a0 r1)) <|
     o_n) (by kernel_rfl) (fun a g hst hb => ?_)
  refine r_s (L := [(1, _), (2, _)]) (T := [⟨[.old 0], _, [], [], [7]⟩, ⟨[.op 0 0, .old 1], _, [3], [0], [2]⟩]) (F := [.op 1 0]) hst hb follows
    (o_p rfl (ob_loadO ty_38V rfl rfl (by decide) u_0) <|
     o_p rfl (ob_storeO ty_38V rfl rfl (by decide) u_1 u_0) <|
     o_n) (by kernel_rfl) (fun a g hst hb => ?_)
  refine wp_ret ?_
  obtain rfl := Option.some.inj H0
  obtain ⟨u0, hu0, hq0⟩ := res_boxO (P := Try.prog) ty_38V (hst.at 0 rfl)
  exact endR1 rfl hst hb hu0 hq0
theorem shelf_Shelf_At_own (a0 : shelf_Shelf) (a1 : Int) {r : ByteArray × api_Record × Bool} (h : shelf_Shelf_At a0 a1 = some r) : FnOwn Try.prog 16 [(k_shelf_Shelf.pd a0), (pInt .i64 a1)] (pTup [(pStr r.1), (pStO k_api_RecordV rawR lstR k_api_Item 64 900 r.2.1), (pBool r.2.2)]) := by
  have H0 := h
  unfold shelf_Shelf_At at H0
  clear h
  refine fnOwn_ok (N := 48) Try.func16 rfl rfl (Nat.le_of_ble_eq_true rfl) rfl (fun a g0 hst hb => ?_)
  refine r_s (L := [(0, _), (1, _)]) (T := [⟨[.old 0], _, [], [], [2]⟩, ⟨[], _, [], [], [4]⟩, ⟨[], [(5, (pBxN k_api_RecordV rawR 5 (default : api_Record)))], [6], [], [5]⟩, ⟨[], _, [], [1], [6]⟩]) (F := [.old 1, .op 0 0, .op 2 0]) hst hb follows
    (o_p rfl (ob_box1 rfl rfl u_0) <|
     o_p rfl (ob_assign rfl rfl c_s) <|
     o_p rfl (ob_allocV rfl rfl) <|
     o_p rfl (ob_assign rfl rfl c_b) <|
     o_n) (by kernel_rfl) (fun a g hst hb => ?_)
  refine wp_seq ?_
  refine r_s (L := [(1, _), (2, _), (5, _)]) (T := [⟨[.old 1], _, [], [], [9]⟩, ⟨[.op 0 0], _, [], [0], [10]⟩, ⟨[.op 1 0], _, [], [0, 1], [7]⟩]) (F := [.old 0, .old 2, .op 2 0]) hst hb follows
    (o_p rfl (ob_fieldAddr fl_28_0 rfl rfl u_0) <|
     o_p rfl (ob_load ty_26 rfl rfl u_0) <|
     o_p rfl (ob_assign rfl rfl u_0) <|
     o_n) (by kernel_rfl) (fun a g hst hb => ?_)
  obtain ⟨z16, hz1, H0⟩ := of_bind H0
  refine wp_cut (fun a w => ∃ (y15 : api_Record) (g : G), w = g.w ∧ St 48 [(5, (pBxN k_api_RecordV rawR 5 y15))] a g ∧ Base g0 g ∧ (.inr y15) = z16) ?_ ?_
  · rintro a w ⟨y15, g, rfl, hst, hb, rfl⟩
    refine then_n ?_
    refine r_s (L := [(5, _)]) (T := [⟨[], _, [], [], [47]⟩, ⟨[], _, [], [], [4]⟩, ⟨[.op 0 0, .old 0], _, [6], [0, 1], [5]⟩, ⟨[], _, [], [0, 1, 2], [6]⟩]) (F := [.op 1 0, .op 2 0, .op 3 0]) hst hb follows
      (o_p rfl (bd_38V rfl rfl) <|
       o_p rfl (ob_assign rfl rfl c_s) <|
       o_p rfl (ob_storeO ty_38V rfl rfl (by decide) u_1 u_0) <|
       o_p rfl (ob_assign rfl rfl c_b) <|
       o_n) (by kernel_rfl) (fun a g hst hb => ?_)
    refine wp_ret ?_
    obtain rfl := Option.some.inj H0
    obtain ⟨u1, hu1, hq1⟩ := res_boxO (P := Try.prog) ty_38V (hst.at 1 rfl)
    exact endR3 rfl hst hb (res_tmp (s := 4)) hu1 (res_tmp (s := 6)) (pTup_3 (hst.at 0 rfl) hq1 (hst.at 2 rfl))
  · refine wp_block ?_
    refine wp_loop_ghost (fun n a w => ∃ (x1 : Int) (x2 : api_Record) (x3 : shelf_nodeT) (g : G), w = g.w ∧ St 48 [(1, (pInt .i64 x1)), (5, (pBxN k_api_RecordV rawR 5 x2)), (7, (k_shelf_nodeT.pd x3))] a g ∧ Base g0 g ∧ shelf_Shelf_At_l1 n x1 x2 x3 = some z16) (a0.top.hh + 1) ⟨a1, (default : api_Record), a0.top, g, rfl, (hst.pick [0, 1, 2] rfl), hb, hz1⟩ (fun n a w hI => ?_)
    obtain ⟨x1, x2, x3, g, rfl, hst, hb, H1⟩ := hI
    cases n with
    | zero => exact absurd H1 (by simp [shelf_Shelf_At_l1])
    | succ n =>
      rw [shelf_Shelf_At_l1] at H1
      refine wp_seq ?_
      refine r_s (L := [(1, _), (5, _), (7, _)]) (T := [⟨[.old 2], _, [], [], [11]⟩, ⟨[.op 0 0], _, [], [0], [12]⟩]) (F := [.old 0, .old 1, .old 2, .op 1 0]) hst hb follows
        (o_p rfl (ob_move rfl rfl u_0) <|
         o_p rfl (ob_pne Try.underlying26 rfl rfl u_0 (shelf_nodeT_isptr _)) <|
         o_n) (by kernel_rfl) (fun a g hst hb => ?_)
      refine wp_cond_split (hst.bool 3 rfl) (fun hc4 => ?_) (fun hc4 => ?_)
      · replace H1 := ite_t hc4 H1
        refine wp_skip ?_
        refine then_n ?_
        refine wp_cut (fun a w => ∃ (j13 : Int) (j14 : shelf_nodeT) (g : G), w = g.w ∧ St 48 [(1, (pInt .i64 j13)), (5, (pBxN k_api_RecordV rawR 5 x2)), (7, (k_shelf_nodeT.pd j14))] a g ∧ Base g0 g ∧ shelf_Shelf_At_j1 x2 (shelf_Shelf_At_l1 n) j13 j14 = some z16) ?_ ?_
        · rintro a w ⟨j13, j14, g, rfl, hst, hb, H1⟩
          unfold shelf_Shelf_At_j1 at H1
          exact ⟨n, Nat.lt_succ_self _, j13, x2, j14, g, rfl, (hst.pick [0, 1, 2] rfl), hb, H1⟩
        · refine wp_block ?_
          obtain ⟨n5, h6, H1⟩ := of_bind H1; obtain ⟨r7, h8, H1⟩ := of_bind H1
          refine r_s (L := [(1, _), (5, _), (7, _)]) (T := [⟨[.old 2], _, [], [], [13]⟩, ⟨[.op 0 0], _, [], [0], [14]⟩, ⟨[.op 1 0], _, [], [0, 1], [15]⟩, ⟨[.op 2 0], _, [], [0, 1, 2], [16]⟩, ⟨[.op 3 0], _, [], List.range 4, [17]⟩, ⟨[.op 4 0], _, [], List.range 5, [8]⟩]) (F := [.old 0, .old 1, .old 2, .op 5 0]) (hst.pick [0, 1, 2] rfl) hb follows
            (o_p rfl (ob_move rfl rfl u_0) <|
             o_p rfl (ob_nilCheck rfl rfl (Opd.imp u_0 (fun _ _ h => shelf_nodeT_node h6 h)) (fun _ _ ⟨_, _, _, e, _⟩ => ⟨_, e⟩)) <|
             o_p rfl (ob_fieldAddr fl_75_2 rfl rfl u_0) <|
             o_p rfl (ob_load ty_26 rfl rfl u_0) <|
             o_p rfl (ob_call en_33 (shelf_node_count_ok _ h8) rfl rfl (.cons u_0 .nil)) <|
             o_p rfl (ob_assign rfl rfl u_0) <|
             o_n) (by kernel_rfl) (fun a g hst hb => ?_)
          refine wp_block ?_
          refine r_s (L := [(1, _), (5, _), (7, _), (8, _)]) (T := [⟨[.old 0], _, [], [], [28]⟩, ⟨[.old 3], _, [], [], [29]⟩, ⟨[.op 0 0, .op 1 0], _, [], [0, 1], [30]⟩, ⟨[.op 2 0], _, [], [0, 1, 2], [27]⟩]) (F := [.old 0, .old 1, .old 2, .old 3, .op 3 0]) hst hb follows
            (o_p rfl (ob_move rfl rfl u_0) <|
             o_p rfl (ob_move rfl rfl u_0) <|
             o_p rfl (ob_lt rfl rfl u_0 u_1) <|
             o_p rfl (ob_assign rfl rfl u_0) <|
             o_n) (by kernel_rfl) (fun a g hst hb => ?_)
          refine wp_cond_split (hst.bool 4 rfl) (fun hc9 => ?_) (fun hc9 => ?_)
          · replace H1 := ite_t hc9 H1
            refine r_g (L := [(1, _), (5, _), (7, _)]) (T := [⟨[.old 2], _, [], [], [31]⟩, ⟨[.op 0 0], _, [], [0], [32]⟩, ⟨[.op 1 0], _, [], [0, 1], [33]⟩, ⟨[.op 2 0], _, [], [0, 1, 2], [34]⟩, ⟨[.op 3 0], _, [], List.range 4, [7]⟩]) (F := [.old 0, .old 1, .op 4 0]) (hst.pick [0, 1, 2] rfl) hb follows
              (o_p rfl (ob_move rfl rfl u_0) <|
               o_p rfl (ob_nilCheck rfl rfl (Opd.imp u_0 (fun _ _ h => shelf_nodeT_node h6 h)) (fun _ _ ⟨_, _, _, e, _⟩ => ⟨_, e⟩)) <|
               o_p rfl (ob_fieldAddr fl_75_2 rfl rfl u_0) <|
               o_p rfl (ob_load ty_26 rfl rfl u_0) <|
               o_p rfl (ob_assign rfl rfl u_0) <|
               o_n) (by kernel_rfl) (fun a g hst hb => ?_)
            refine inBlock_n ?_
            refine inBlock_n ?_
            exact ⟨x1, n5.left, g, rfl, (hst.pick [0, 1, 2] rfl), hb, H1⟩
          · replace H1 := ite_f hc9 H1
            refine r_s (L := [(1, _), (5, _), (7, _), (8, _)]) (T := [⟨[.old 0], _, [], [], [36]⟩, ⟨[.old 3], _, [], [], [37]⟩, ⟨[.op 0 0, .op 1 0], _, [], [0, 1], [38]⟩, ⟨[.op 2 0], _, [], [0, 1, 2], [35]⟩]) (F := [.old 0, .old 1, .old 2, .old 3, .op 3 0]) (hst.pick [0, 1, 2, 3] rfl) hb follows
              (o_p rfl (ob_move rfl rfl u_0) <|
               o_p rfl (ob_move rfl rfl u_0) <|
               o_p rfl (ob_gt rfl rfl u_0 u_1) <|
               o_p rfl (ob_assign rfl rfl u_0) <|
               o_n) (by kernel_rfl) (fun a g hst hb => ?_)
            refine wp_cond_split (hst.bool 4 rfl) (fun hc10 => ?_) (fun hc10 => ?_)
            · replace H1 := ite_t hc10 H1
              refine r_s (L := [(1, _), (5, _), (7, _), (8, _)]) (T := [⟨[.old 0], _, [], [], [39]⟩, ⟨[.old 3], _, [], [], [40]⟩, ⟨[.op 1 0], _, [], [1], [41]⟩, ⟨[.op 0 0, .op 2 0], _, [], [0, 1, 2], [42]⟩, ⟨[.op 3 0], _, [], List.range 4, [1]⟩]) (F := [.op 4 0, .old 1, .old 2]) (hst.pick [0, 1, 2, 3] rfl) hb follows
                (o_p rfl (ob_move rfl rfl u_0) <|
                 o_p rfl (ob_move rfl rfl u_0) <|
                 o_p rfl (ob_add rfl rfl u_0 c_i rfl) <|
                 o_p rfl (ob_sub rfl rfl u_0 u_1 rfl) <|
                 o_p rfl (ob_assign rfl rfl u_0) <|
                 o_n) (by kernel_rfl) (fun a g hst hb => ?_)
              refine r_g (L := [(1, _), (5, _), (7, _)]) (T := [⟨[.old 2], _, [], [], [43]⟩, ⟨[.op 0 0], _, [], [0], [44]⟩, ⟨[.op 1 0], _, [], [0, 1], [45]⟩, ⟨[.op 2 0], _, [], [0, 1, 2], [46]⟩, ⟨[.op 3 0], _, [], List.range 4, [7]⟩]) (F := [.old 0, .old 1, .op 4 0]) hst hb follows
                (o_p rfl (ob_move rfl rfl u_0) <|
                 o_p rfl (ob_nilCheck rfl rfl (Opd.imp u_0 (fun _ _ h => shelf_nodeT_node h6 h)) (fun _ _ ⟨_, _, _, e, _⟩ => ⟨_, e⟩)) <|
                 o_p rfl (ob_fieldAddr fl_75_3 rfl rfl u_0) <|
                 o_p rfl (ob_load ty_26 rfl rfl u_0) <|
                 o_p rfl (ob_assign rfl rfl u_0) <|
                 o_n) (by kernel_rfl) (fun a g hst hb => ?_)
              refine inBlock_n ?_
              refine inBlock_n ?_
              exact ⟨(IntKind.i64.wrap (x1 - (IntKind.i64.wrap (r7 + (1 : Int))))), n5.right, g, rfl, (hst.pick [0, 1, 2] rfl), hb, H1⟩
            · replace H1 := ite_f hc10 H1
              obtain ⟨r11, h12, H1⟩ := of_bind H1
              refine r_s (L := [(5, _), (7, _)]) (T := ⟨[.old 1], _, [], [], [18]⟩ :: ⟨[.op 0 0], _, [], [0], [19]⟩ :: ⟨[.op 1 0], _, [], [0, 1], [20]⟩ :: ⟨[.op 2 0], _, [], [0, 1, 2], [21]⟩ :: ⟨[.old 1], _, [], [], [22]⟩ :: ⟨[.op 4 0], _, [], [4], [23]⟩ :: ⟨[.op 5 0], _, [], [4, 5], [24]⟩ :: ⟨[.op 6 0], _, [], [4, 5, 6], [25]⟩ :: ⟨[.op 7 0], _, [901], List.range' 4 4, [26]⟩ :: ⟨[.op 3 0], _, [], List.range 9, [4]⟩ :: ⟨[.op 8 0, .old 0], _, [6], List.range 10, [5]⟩ :: ⟨[], _, [], List.range 11, [6]⟩ :: []) (F := [.op 9 0, .op 10 0, .op 11 0]) (hst.pick [1, 2] rfl) hb follows
                (o_p rfl (ob_move rfl rfl u_0) <|
                 o_p rfl (ob_nilCheck rfl rfl (Opd.imp u_0 (fun _ _ h => shelf_nodeT_node h6 h)) (fun _ _ ⟨_, _, _, e, _⟩ => ⟨_, e⟩)) <|
                 o_p rfl (ob_fieldAddr fl_75_0 rfl rfl u_0) <|
                 o_p rfl (ob_load ty_9 rfl rfl u_0) <|
                 o_p rfl (ob_move rfl rfl u_0) <|
                 o_p rfl (ob_nilCheck rfl rfl (Opd.imp u_0 (fun _ _ h => shelf_nodeT_node h6 h)) (fun _ _ ⟨_, _, _, e, _⟩ => ⟨_, e⟩)) <|
                 o_p rfl (ob_fieldAddr fl_75_1 rfl rfl u_0) <|
                 o_p rfl (ob_load ty_38 rfl rfl u_0) <|
                 o_p rfl (ob_callOwn (k := 900) en_34 (rec_Clone_own _ h12) (fun j hj => by simpa [pStO] using hj) rfl rfl (.cons u_0 .nil)) <|
                 o_p rfl (ob_assign rfl rfl u_0) <|
                 o_p rfl (ob_storeO ty_38V rfl rfl (by decide) u_1 u_0) <|
                 o_p rfl (ob_assign rfl rfl c_b) <|
                 o_n) (by kernel_rfl) (fun a g hst hb => ?_)
              refine wp_ret ?_
              refine inBlock_r ?_
              refine inBlock_r ?_
              refine then_r ?_
              refine then_r ?_
              refine inBlock_r ?_
              refine then_r ?_
              refine then_r ?_
              obtain rfl := Option.some.inj H1
              obtain rfl := Option.some.inj H0
              obtain ⟨u1, hu1, hq1⟩ := res_boxO (P := Try.prog) ty_38V (hst.at 1 rfl)
              exact endR3 rfl hst hb (res_tmp (s := 4)) hu1 (res_tmp (s := 6)) (pTup_3 (hst.at 0 rfl) hq1 (hst.at 2 rfl))
      · replace H1 := ite_f hc4 H1
        refine wp_exit ?_
        refine then_e ?_
        refine then_e ?_
        refine inBlock_e ?_
        exact ⟨x2, g, rfl, (hst.pick [1] rfl), hb, Option.some.inj H1⟩
theorem at_fp {a : ByteArray} {x : api_Record} {b : Bool} : ∀ j ∈ (pTup [pStr a, pStO k_api_RecordV rawR lstR k_api_Item 64 900 x, pBool b]).fp, j = 900 + 1 := fun j hj => by
  obtain ⟨q, hq, hj⟩ := List.mem_flatMap.1 hj
  rcases List.mem_cons.1 hq with rfl | hq
  · cases hj
  · rcases List.mem_cons.1 hq with rfl | hq
    · exact List.mem_singleton.1 hj
    · rw [List.mem_singleton.1 hq] at hj; cases hj
theorem itemName (u : api_Item) (v2 : ByteArray) : ∀ g cs ys, k_api_Item.K g u cs → Kd.str.K g v2 ys → 0 + 1 + ys.length ≤ cs.length → k_api_Item.K g { u with Name := v2 } (splice cs (0 + 1) ys) := fun g cs ys hk hy _ => by
  have hc : cs.length = 2 := hk.1
  have hl : ys.length = 1 := Kd.str.len hy
  exact ⟨(splice_length (by omega)).trans hc, (List.forall_mem_cons.2 ⟨(by show Kd.flt.K g u.Score (seg (splice cs (0 + 1) ys) 0 1); rw [seg_splice_ne (by omega) (by omega)]; exact hk.2 _ (List.mem_of_getElem? (i := 0) rfl)), (List.forall_mem_cons.2 ⟨(by show Kd.str.K g v2 (seg (splice cs (0 + 1) ys) 1 1); rw [seg_splice_same (by omega) hl]; exact hy), (fun _ h => by cases h)⟩)⟩)⟩
theorem fl_64_1V : Fld Try.prog 64 1 k_api_Item Kd.str (fun x : api_Item => x.Name) := Fld.of ⟨_, Kd.str, 1, fun x : api_Item => x.Name⟩ (List.mem_of_getElem? (i := 1) rfl) 1 rfl (by kernel_rfl) (by decide)
end Go.CL

set_option linter.unusedVariables false
set_option linter.unusedSimpArgs false
set_option maxRecDepth 100000
namespace Go.CL
open Go Go.RowKit Go.Proofs
theorem moietylaw09_ShelfStays_ok (a0 : Int) (a1 : List moietylaw09_Op) {r : Bool} (h : moietylaw09_ShelfStays a0 a1 = some r) : FnOk Try.prog 6 [(pInt .i64 a0), (k_moietylaw09_Op.sl.pd a1)] (pBool r) := by
  have H0 := h
  unfold moietylaw09_ShelfStays at H0
  clear h
  refine fn_ok (N := 104) Try.func6 rfl rfl (Nat.le_of_ble_eq_true rfl) rfl rfl (fun a g0 hst hb => ?_)
  refine r_s (L := [(0, _), (1, _)]) (T := [⟨[], _, [], [], [4]⟩]) (F := [.old 0, .old 1]) hst hb follows
    (o_p rfl (ob_assign rfl rfl c_b) <|
     o_n) (by kernel_rfl) (fun a g hst hb => ?_)
  refine wp_seq ?_
  obtain ⟨r1, h2, H0⟩ := of_bind H0
  refine r_s (L := [(0, _), (1, _)]) (T := [⟨[], _, [], [], [17]⟩, ⟨[.op 0 0], _, [], [0], [18]⟩]) (F := [.old 0, .old 1, .op 1 0]) hst hb follows
    (o_p rfl (ob_call en_8 (moietylaw09_speaks_ok h2) rfl rfl .nil) <|
     o_p rfl (ob_not rfl rfl u_0) <|
     o_n) (by kernel_rfl) (fun a g hst hb => ?_)
  refine wp_cond_split (hst.bool 2 rfl) (fun hc3 => ?_) (fun hc3 => ?_)
  · replace H0 := ite_t hc3 H0
    refine r_s (L := []) (T := [⟨[], _, [], [], [4]⟩]) (F := [.op 0 0]) (hst.pick [] rfl) hb follows
      (o_p rfl (ob_assign rfl rfl c_b) <|
       o_n) (by kernel_rfl) (fun a g hst hb => ?_)
    refine wp_ret ?_
    refine then_r ?_
    obtain rfl := Option.some.inj H0
    exact endR1 rfl hst hb (res_tmp (s := 4)) (hst.at 0 rfl)
  · replace H0 := ite_f hc3 H0
    refine wp_skip ?_
    refine then_n ?_
    refine wp_seq ?_
    obtain ⟨r4, h5, H0⟩ := of_bind H0
    refine r_s (L := [(0, _), (1, _)]) (T := [⟨[.old 1], _, [], [], [19]⟩, ⟨[.op 0 0], _, [], [0], [20]⟩, ⟨[.op 1 0], _, [], [0, 1], [21]⟩, ⟨[.op 2 0, .old 1], _, [], [0, 1, 2], [22]⟩, ⟨[.op 2 0, .op 3 0], _, [], List.range 4, [23]⟩, ⟨[.op 2 0, .op 4 0], _, [], List.range 5, [24]⟩, ⟨[.op 2 0, .op 5 0], _, [], List.range 6, [25]⟩]) (F := [.old 0, .old 1, .op 6 0]) (hst.pick [0, 1] rfl) hb follows
      (o_p rfl (ob_move rfl rfl u_0) <|
       o_p rfl (ob_call en_9 (moietylaw09_big_ok _ h5) rfl rfl (.cons u_0 .nil)) <|
       o_p rfl (ob_move rfl rfl u_0) <|
       o_g (g_f rfl rfl rfl (fun hG => ob_move rfl rfl u_0)) <|
       o_g (g_f rfl rfl rfl (fun hG => ob_lenL Try.underlying22 rfl rfl (Opd.gd hG u_0))) <|
       o_g (g_f rfl rfl rfl (fun hG => ob_gt rfl rfl (Opd.gd hG u_0) c_i)) <|
       o_p rfl (ob_por rfl rfl u_0 (fun hz => (Opd.gd (bNF hz) u_1))) <|
       o_n) (by kernel_rfl) (fun a g hst hb => ?_)
    refine wp_cond_split (hst.bool 2 rfl) (fun hc6 => ?_) (fun hc6 => ?_)
    · replace H0 := ite_t hc6 H0
      refine r_s (L := []) (T := [⟨[], _, [], [], [4]⟩]) (F := [.op 0 0]) (hst.pick [] rfl) hb follows
        (o_p rfl (ob_assign rfl rfl c_b) <|
         o_n) (by kernel_rfl) (fun a g hst hb => ?_)
      refine wp_ret ?_
      refine then_r ?_
      obtain rfl := Option.some.inj H0
      exact endR1 rfl hst hb (res_tmp (s := 4)) (hst.at 0 rfl)
    · replace H0 := ite_f hc6 H0
      refine wp_skip ?_
      refine then_n ?_
      obtain ⟨r7, h8, H0⟩ := of_bind H0
      refine r_s (L := [(0, _), (1, _)]) (T := [⟨[.old 0], _, [], [], [27]⟩, ⟨[.op 0 0], _, [], [0], [28]⟩, ⟨[.op 1 0], _, [], [0, 1], [26]⟩, ⟨[.op 2 0], _, [], [0, 1, 2], [29]⟩, ⟨[.op 2 0], _, [], [0, 1, 2], [30]⟩, ⟨[], [(5, (pBox k_shelf_Shelf 5 (default : shelf_Shelf)))], [6], [], [5]⟩, ⟨[.op 3 0, .op 5 0], _, [6], [0, 1, 2, 3, 5], [5]⟩, ⟨[.op 4 0], _, [], List.range 7, [6]⟩]) (F := [.old 1, .op 6 0]) (hst.pick [0, 1] rfl) hb follows
        (o_p rfl (ob_move rfl rfl u_0) <|
         o_p rfl (ob_call en_10 (shelf_New_ok _ h8) rfl rfl (.cons u_0 .nil)) <|
         o_p rfl (ob_move rfl rfl u_0) <|
         o_p rfl (ob_extract rfl rfl u_0 rfl) <|
         o_p rfl (ob_extract rfl rfl u_0 rfl) <|
         o_p rfl (ob_alloc (zs := [.pointer none, .int .i64 0]) (by kernel_rfl) (fun g => zk_shelf_Shelf g) rfl rfl) <|
         o_p rfl (ob_store ty_28 rfl rfl u_1 u_0) <|
         o_p rfl (ob_assign rfl rfl u_0) <|
         o_n) (by kernel_rfl) (fun a g hst hb => ?_)
      obtain ⟨r9, h10, H0⟩ := of_bind H0
      refine r_s (L := [(1, _), (5, _)]) (T := [⟨[.old 1], _, [], [], [31]⟩, ⟨[.op 0 0], _, [], [0], [32]⟩, ⟨[.op 1 0], _, [], [0, 1], [33]⟩, ⟨[], [(7, (pBox k_moietyref09_Shelf 7 (default : moietyref09_Shelf)))], [8], [], [7]⟩, ⟨[.op 2 0, .op 3 0], _, [8], List.range 4, [7]⟩]) (F := [.old 0, .old 1, .op 4 0]) hst hb follows
        (o_p rfl (ob_loadM ty_28 rfl rfl u_0) <|
         o_p rfl (ob_call en_21 (shelf_Shelf_Room_ok _ h10) rfl rfl (.cons u_0 .nil)) <|
         o_p rfl (bd_34_1 rfl rfl u_0) <|
         o_p rfl (ob_alloc (zs := [.slice none 0 0, .int .i64 0]) (by kernel_rfl) (fun g => zk_moietyref09_Shelf g) rfl rfl) <|
         o_p rfl (ob_store ty_34 rfl rfl u_1 u_0) <|
         o_n) (by kernel_rfl) (fun a g hst hb => ?_)
      refine r_s (L := [(1, _), (5, _), (7, _)]) (T := [⟨[], [(8, (pRow k_shelf_Shelf 28 8 ([] : List shelf_Shelf)))], [], [], [8]⟩]) (F := [.old 0, .old 1, .old 2, .op 0 0]) hst hb follows
        (o_p rfl (ob_assign rfl rfl (Opd.c (fun g => pRow_nil 8 g))) <|
         o_n) (by kernel_rfl) (fun a g hst hb => ?_)
      refine r_s (L := [(1, _), (5, _), (7, _), (8, _)]) (T := [⟨[], [(9, (pRow k_moietyref09_Shelf 34 9 ([] : List moietyref09_Shelf)))], [], [], [9]⟩]) (F := [.old 0, .old 1, .old 2, .old 3, .op 0 0]) hst hb follows
        (o_p rfl (ob_assign rfl rfl (Opd.c (fun g => pRow_nil 9 g))) <|
         o_n) (by kernel_rfl) (fun a g hst hb => ?_)
      refine wp_seq ?_
      refine r_s (L := [(1, _), (5, _), (7, _), (8, _), (9, _)]) (T := [⟨[.old 0], _, [], [], [34]⟩, ⟨[.op 0 0], _, [], [0], [35]⟩, ⟨[], _, [], [], [36]⟩]) (F := [.old 1, .old 2, .old 3, .old 4, .op 0 0, .op 1 0, .op 2 0]) hst hb follows
        (o_p rfl (ob_move rfl rfl u_0) <|
         o_p rfl (ob_lenL Try.underlying22 rfl rfl u_0) <|
         o_p rfl (ob_move rfl rfl c_i) <|
         o_n) (by kernel_rfl) (fun a g hst hb => ?_)
      obtain ⟨z37, hz1, H0⟩ := of_bind H0
      refine wp_cut (fun a w => ∃ (y35 : List shelf_Shelf) (y36 : List moietyref09_Shelf) (g : G), w = g.w ∧ St 104 [(8, (pRow k_shelf_Shelf 28 8 y35)), (9, (pRow k_moietyref09_Shelf 34 9 y36))] a g ∧ Base g0 g ∧ (.inr (y35, y36)) = z37) ?_ ?_
      · rintro a w ⟨y35, y36, g, rfl, hst, hb, rfl⟩
        refine then_n ?_
        refine wp_seq ?_
        refine r_s (L := [(8, _), (9, _)]) (T := [⟨[.old 0], _, [], [], [88]⟩, ⟨[.op 0 0], _, [], [0], [89]⟩, ⟨[], _, [], [], [90]⟩]) (F := [.old 0, .old 1, .op 0 0, .op 1 0, .op 2 0]) hst hb follows
          (o_p rfl (ob_move rfl rfl u_0) <|
           o_p rfl (ob_lenL Try.underlying61 rfl rfl (Opd.imp u_0 (fun _ _ h => pRow_read h))) <|
           o_p rfl (ob_move rfl rfl c_i) <|
           o_n) (by kernel_rfl) (fun a g hst hb => ?_)
        obtain ⟨z47, hz3, H0⟩ := of_bind H0
        refine wp_cut (fun a w => ∃ (g : G), w = g.w ∧ St 104 [] a g ∧ Base g0 g ∧ (.inr ()) = z47) ?_ ?_
        · rintro a w ⟨g, rfl, hst, hb, rfl⟩
          refine then_n ?_
          refine r_s (L := []) (T := [⟨[], _, [], [], [4]⟩]) (F := [.op 0 0]) hst hb follows
            (o_p rfl (ob_assign rfl rfl c_b) <|
             o_n) (by kernel_rfl) (fun a g hst hb => ?_)
          refine wp_ret ?_
          obtain rfl := Option.some.inj H0
          exact endR1 rfl hst hb (res_tmp (s := 4)) (hst.at 0 rfl)
        · refine wp_block ?_
          refine wp_loop_ghost (fun n a w => ∃ (x38 : Int) (g : G), w = g.w ∧ St 104 [(8, (pRow k_shelf_Shelf 28 8 y35)), (9, (pRow k_moietyref09_Shelf 34 9 y36)), (88, (pRow k_shelf_Shelf 28 8 y35)), (89, (pInt .i64 (y35.length : Int))), (90, (pInt .i64 x38))] a g ∧ Base g0 g ∧ moietylaw09_ShelfStays_l3 y35 y36 n x38 = some z47) (Int.toNat ((y35.length : Int) - (0 : Int)) + 1) ⟨(0 : Int), g, rfl, (hst.pick [0, 1, 2, 3, 4] rfl), hb, hz3⟩ (fun n a w hI => ?_)
          obtain ⟨x38, g, rfl, hst, hb, H1⟩ := hI
          cases n with
          | zero => exact absurd H1 (by simp [moietylaw09_ShelfStays_l3])
          | succ n =>
            rw [moietylaw09_ShelfStays_l3] at H1
            refine r_s (L := [(8, _), (9, _), (88, _), (89, _), (90, _)]) (T := [⟨[.old 4, .old 3], _, [], [], [91]⟩]) (F := [.old 0, .old 1, .old 2, .old 3, .old 4, .op 0 0]) hst hb follows
              (o_p rfl (ob_lt rfl rfl u_0 u_1) <|
               o_n) (by kernel_rfl) (fun a g hst hb => ?_)
            refine wp_seq ?_
            refine wp_cond_split (hst.bool 5 rfl) (fun hc39 => ?_) (fun hc39 => ?_)
            · replace H1 := ite_t hc39 H1
              refine wp_skip ?_
              refine then_n ?_
              refine wp_seq ?_
              refine wp_block ?_
              refine r_s (L := [(8, _), (9, _), (88, _), (89, _), (90, _)]) (T := [⟨[.old 4], _, [], [], [92]⟩, ⟨[.op 0 0], _, [], [0], [16]⟩]) (F := [.old 0, .old 1, .op 1 0, .old 2, .old 3, .old 4]) (hst.pick [0, 1, 2, 3, 4] rfl) hb follows
                (o_p rfl (ob_move rfl rfl u_0) <|
                 o_p rfl (ob_assign rfl rfl u_0) <|
                 o_n) (by kernel_rfl) (fun a g hst hb => ?_)
              obtain ⟨e40, h41, H1⟩ := of_bind H1; obtain ⟨e42, h43, H1⟩ := of_bind H1; obtain ⟨r44, h45, H1⟩ := of_bind H1
              refine r_s (L := [(8, _), (9, _), (16, _), (88, _), (89, _), (90, _)]) (T := [⟨[.old 0], _, [], [], [93]⟩, ⟨[.old 2], _, [], [], [94]⟩, ⟨[.op 0 0, .op 1 0], _, [], [0, 1], [95]⟩, ⟨[.op 2 0], _, [], [0, 1, 2], [96]⟩, ⟨[.old 1], _, [], [], [97]⟩, ⟨[.old 2], _, [], [], [98]⟩, ⟨[.op 4 0, .op 5 0], _, [], [4, 5], [99]⟩, ⟨[.op 6 0], _, [], [4, 5, 6], [100]⟩, ⟨[.op 3 0, .op 7 0], _, [], List.range 8, [101]⟩, ⟨[.op 8 0], _, [], List.range 9, [102]⟩]) (F := [.old 0, .old 1, .old 3, .old 4, .old 5, .op 9 0]) hst hb follows
                (o_p rfl (ob_move rfl rfl u_0) <|
                 o_p rfl (ob_move rfl rfl u_0) <|
                 o_p rfl (ob_indexAddr Try.underlying61 sz_28 rfl rfl (Opd.imp u_0 (fun _ _ h => pRow_read h)) u_1 h41) <|
                 o_p rfl (ob_load ty_28 rfl rfl u_0) <|
                 o_p rfl (ob_move rfl rfl u_0) <|
                 o_p rfl (ob_move rfl rfl u_0) <|
                 o_p rfl (ob_indexAddr Try.underlying62 sz_34 rfl rfl (Opd.imp u_0 (fun _ _ h => pRow_read h)) u_1 h43) <|
                 o_p rfl (ob_load ty_34 rfl rfl u_0) <|
                 o_p rfl (ob_call en_24 (moietylaw09_Is_ok _ _ h45) rfl rfl (.cons u_0 (.cons u_1 .nil))) <|
                 o_p rfl (ob_eq rfl rfl u_0 c_i) <|
                 o_n) (by kernel_rfl) (fun a g hst hb => ?_)
              refine wp_cond_split (hst.bool 5 rfl) (fun hc46 => ?_) (fun hc46 => ?_)
              · replace H1 := ite_t hc46 H1
                refine r_s (L := []) (T := [⟨[], _, [], [], [4]⟩]) (F := [.op 0 0]) (hst.pick [] rfl) hb follows
                  (o_p rfl (ob_assign rfl rfl c_b) <|
                   o_n) (by kernel_rfl) (fun a g hst hb => ?_)
                refine wp_ret ?_
                refine inBlock_r ?_
                refine then_r ?_
                refine then_r ?_
                refine inBlock_r ?_
                refine then_r ?_
                refine then_r ?_
                obtain rfl := Option.some.inj H1
                obtain rfl := Option.some.inj H0
                exact endR1 rfl hst hb (res_tmp (s := 4)) (hst.at 0 rfl)
              · replace H1 := ite_f hc46 H1
                refine wp_skip ?_
                refine inBlock_n ?_
                refine then_n ?_
                refine r_g (L := [(8, _), (9, _), (88, _), (89, _), (90, _)]) (T := [⟨[.old 4], _, [], [], [103]⟩, ⟨[.op 0 0], _, [], [0], [90]⟩]) (F := [.old 0, .old 1, .old 2, .old 3, .op 1 0]) (hst.pick [0, 1, 2, 3, 4] rfl) hb follows
                  (o_p rfl (ob_add rfl rfl u_0 c_i rfl) <|
                   o_p rfl (ob_move rfl rfl u_0) <|
                   o_n) (by kernel_rfl) (fun a g hst hb => ?_)
                exact ⟨n, Nat.lt_succ_self _, (IntKind.i64.wrap (x38 + (1 : Int))), g, rfl, (hst.pick [0, 1, 2, 3, 4] rfl), hb, H1⟩
            · replace H1 := ite_f hc39 H1
              refine wp_exit ?_
              refine then_e ?_
              refine then_e ?_
              refine inBlock_e ?_
              exact ⟨g, rfl, (hst.pick [] rfl), hb, Option.some.inj H1⟩
      · refine wp_block ?_
        refine wp_loop_ghost (fun n a w => ∃ (x11 : shelf_Shelf) (x12 : moietyref09_Shelf) (x13 : List shelf_Shelf) (x14 : List moietyref09_Shelf) (x15 : Int) (g : G), w = g.w ∧ St 104 [(5, (pBox k_shelf_Shelf 5 x11)), (7, (pBox k_moietyref09_Shelf 7 x12)), (8, (pRow k_shelf_Shelf 28 8 x13)), (9, (pRow k_moietyref09_Shelf 34 9 x14)), (34, (k_moietylaw09_Op.sl.pd a1)), (35, (pInt .i64 (a1.length : Int))), (36, (pInt .i64 x15))] a g ∧ Base g0 g ∧ moietylaw09_ShelfStays_l1 a1 n x11 x12 x13 x14 x15 = some z37) (Int.toNat ((a1.length : Int) - (0 : Int)) + 1) ⟨r7.1, ({ L := ([] : List moietyref09_Pair), Room := r9 } : moietyref09_Shelf), ([] : List shelf_Shelf), ([] : List moietyref09_Shelf), (0 : Int), g, rfl, (hst.pick [0, 1, 2, 3, 4, 5, 6] rfl), hb, hz1⟩ (fun n a w hI => ?_)
        obtain ⟨x11, x12, x13, x14, x15, g, rfl, hst, hb, H1⟩ := hI
        cases n with
        | zero => exact absurd H1 (by simp [moietylaw09_ShelfStays_l1])
        | succ n =>
          rw [moietylaw09_ShelfStays_l1] at H1
          refine r_s (L := [(5, _), (7, _), (8, _), (9, _), (34, _), (35, _), (36, _)]) (T := [⟨[.old 6, .old 5], _, [], [], [37]⟩]) (F := [.old 0, .old 1, .old 2, .old 3, .old 4, .old 5, .old 6, .op 0 0]) hst hb follows
            (o_p rfl (ob_lt rfl rfl u_0 u_1) <|
             o_n) (by kernel_rfl) (fun a g hst hb => ?_)
          refine wp_seq ?_
          refine wp_cond_split (hst.bool 7 rfl) (fun hc16 => ?_) (fun hc16 => ?_)
          · replace H1 := ite_t hc16 H1
            refine wp_skip ?_
            refine then_n ?_
            refine wp_seq ?_
            refine wp_block ?_
            obtain ⟨e17, h18, H1⟩ := of_bind H1
            refine r_s (L := [(5, _), (7, _), (8, _), (9, _), (34, _), (35, _), (36, _)]) (T := [⟨[.old 4, .old 6], _, [], [], [38]⟩, ⟨[.op 0 0], _, [], [0], [39]⟩, ⟨[], [(11, (pBox k_moietylaw09_Op 11 (default : moietylaw09_Op)))], [12], [], [11]⟩, ⟨[.op 1 0, .op 2 0], _, [12], [0, 1, 2], [11]⟩]) (F := [.old 0, .old 1, .old 2, .old 3, .op 3 0, .old 4, .old 5, .old 6]) (hst.pick [0, 1, 2, 3, 4, 5, 6] rfl) hb follows
              (o_p rfl (ob_indexAddr Try.underlying22 sz_40 rfl rfl u_0 u_1 h18) <|
               o_p rfl (ob_load ty_40 rfl rfl u_0) <|
               o_p rfl (ob_alloc (zs := [.bool false, .string ByteArray.empty, .int .i64 0, .int .i64 0, .int .i64 0, .int .i64 0, .float .f64 0, .int .i64 0, .string ByteArray.empty, .slice none 0 0]) (by kernel_rfl) (fun g => zk_moietylaw09_Op g) rfl rfl) <|
               o_p rfl (ob_storeF ty_40 rfl rfl u_1 u_0) <|
               o_n) (by kernel_rfl) (fun a g hst hb => ?_)
            obtain ⟨h19, H1⟩ := of_ite H1; obtain ⟨h20, H1⟩ := of_ite H1
            refine r_s (L := [(5, _), (7, _), (8, _), (9, _), (11, _), (34, _), (35, _), (36, _)]) (T := [⟨[.old 2], _, [], [], [40]⟩, ⟨[.old 0], _, [], [], [41]⟩, ⟨[.op 1 0], _, [], [1], [42]⟩, ⟨[.op 0 0, .op 2 0], _, [9], [0, 1, 2], [8, 40, 43]⟩, ⟨[.old 3], _, [], [], [44]⟩, ⟨[.old 1], _, [], [], [45]⟩, ⟨[.op 5 0], _, [], [5], [46]⟩, ⟨[.op 4 0, .op 6 0], _, [10], List.range 7, [9, 44, 47]⟩, ⟨[.op 3 0], _, [], List.range 8, [8]⟩, ⟨[.op 7 0], _, [], List.range 9, [9]⟩]) (F := [.old 0, .old 1, .op 8 0, .op 9 0, .old 4, .old 5, .old 6, .old 7]) hst hb follows
              (o_p rfl (ob_move rfl rfl u_0) <|
               o_p rfl (ob_loadM ty_28 rfl rfl u_0) <|
               o_p rfl (ob_lit te_61 (xs := [.tmp 41]) (.cons u_0 .nil) (by decide) rfl rfl) <|
               o_p rfl (ob_append te_61 rfl rfl u_0 u_1 h19) <|
               o_p rfl (ob_move rfl rfl u_0) <|
               o_p rfl (ob_loadM ty_34 rfl rfl u_0) <|
               o_p rfl (ob_lit te_62 (xs := [.tmp 45]) (.cons u_0 .nil) (by decide) rfl rfl) <|
               o_p rfl (ob_append te_62 rfl rfl u_0 u_1 h20) <|
               o_p rfl (ob_assign rfl rfl u_0) <|
               o_p rfl (ob_assign rfl rfl u_0) <|
               o_n) (by kernel_rfl) (fun a g hst hb => ?_)
            obtain ⟨r21, h22, H1⟩ := of_bind H1
            refine r_s (L := [(5, _), (7, _), (8, _), (9, _), (11, _), (34, _), (35, _), (36, _)]) (T := [⟨[.old 0], _, [], [], [49]⟩, ⟨[.old 1], _, [], [], [50]⟩, ⟨[.old 4], _, [], [], [51]⟩, ⟨[.op 0 0, .op 1 0, .op 2 0], _, [], [0, 1, 2], [52]⟩, ⟨[.op 3 0], _, [], List.range 4, [48]⟩, ⟨[.op 4 0], _, [], List.range 5, [53]⟩, ⟨[.op 4 0], _, [], List.range 5, [54]⟩, ⟨[.op 4 0], _, [], List.range 5, [55]⟩, ⟨[.op 5 0, .old 0], _, [6], List.range 6, [5]⟩, ⟨[.op 6 0, .old 1], _, [8], [0, 1, 2, 3, 4, 5, 6, 8], [7]⟩]) (F := [.op 8 0, .op 9 0, .old 2, .old 3, .old 5, .old 6, .old 7]) hst hb follows
              (o_p rfl (ob_loadM ty_28 rfl rfl u_0) <|
               o_p rfl (ob_loadM ty_34 rfl rfl u_0) <|
               o_p rfl (ob_load ty_40 rfl rfl u_0) <|
               o_p rfl (ob_call en_11 (moietylaw09_do_ok _ _ _ h22) rfl rfl (.cons u_0 (.cons u_1 (.cons u_2 .nil)))) <|
               o_p rfl (ob_move rfl rfl u_0) <|
               o_p rfl (ob_extract rfl rfl u_0 rfl) <|
               o_p rfl (ob_extract rfl rfl u_0 rfl) <|
               o_p rfl (ob_extract rfl rfl u_0 rfl) <|
               o_p rfl (ob_store ty_28 rfl rfl u_1 u_0) <|
               o_p rfl (ob_store ty_34 rfl rfl u_1 u_0) <|
               o_n) (by kernel_rfl) (fun a g hst hb => ?_)
            obtain ⟨r23, h24, H1⟩ := of_bind H1
            refine r_s (L := [(5, _), (7, _), (8, _), (9, _), (34, _), (35, _), (36, _)]) (T := [⟨[.old 0], _, [], [], [57]⟩, ⟨[.op 0 0], _, [901], [0], [58]⟩, ⟨[.op 1 0], _, [], [0, 1], [56]⟩, ⟨[.op 2 0], _, [], [0, 1, 2], [59]⟩, ⟨[.op 2 0], _, [], [0, 1, 2], [60]⟩, ⟨[.op 2 0], _, [], [0, 1, 2], [61]⟩, ⟨[], [(13, (pBxN k_api_RecordV rawR 13 (default : api_Record)))], [14], [], [13]⟩, ⟨[.op 3 0], _, [], [0, 1, 2, 3, 6], [12]⟩, ⟨[.op 4 0, .op 6 0], _, [14], [0, 1, 2, 3, 4, 6, 7], [13]⟩, ⟨[.op 5 0], _, [], List.range 9, [14]⟩]) (F := [.old 0, .old 1, .old 2, .old 3, .op 8 0, .op 9 0, .old 4, .old 5, .old 6]) hst hb follows
              (o_p rfl (ob_loadM ty_28 rfl rfl u_0) <|
               o_p rfl (ob_callOwn (k := 900) en_16 (shelf_Shelf_At_own _ _ h24) at_fp rfl rfl (.cons u_0 (.cons c_i .nil))) <|
               o_p rfl (ob_move rfl rfl u_0) <|
               o_p rfl (ob_extract rfl rfl u_0 rfl) <|
               o_p rfl (ob_extract rfl rfl u_0 rfl) <|
               o_p rfl (ob_extract rfl rfl u_0 rfl) <|
               o_p rfl (ob_allocV rfl rfl) <|
               o_p rfl (ob_assign rfl rfl u_0) <|
               o_p rfl (ob_storeO ty_38V rfl rfl (by decide) u_1 u_0) <|
               o_p rfl (ob_assign rfl rfl u_0) <|
               o_n) (by kernel_rfl) (fun a g hst hb => ?_)
            refine wp_seq ?_
            refine r_s (L := [(5, _), (7, _), (8, _), (9, _), (13, _), (14, _), (34, _), (35, _), (36, _)]) (T := [⟨[.old 4], _, [], [], [62]⟩, ⟨[.op 0 0], _, [], [0], [63]⟩, ⟨[.op 1 0], _, [], [0, 1], [64]⟩, ⟨[], _, [], [], [65]⟩]) (F := [.old 0, .old 1, .old 2, .old 3, .old 4, .old 5, .old 6, .old 7, .old 8, .op 2 0, .op 3 0]) hst hb follows
              (o_p rfl (ob_fieldL fl_38_7V (off := 7) (by kernel_rfl) (fun _ => rfl) rfl rfl u_0) <|
               o_p rfl (ob_loadL ty_36V rfl rfl u_0) <|
               o_p rfl (ob_lenA Try.underlying36 rfl rfl u_0) <|
               o_p rfl (ob_move rfl rfl c_i) <|
               o_n) (by kernel_rfl) (fun a g hst hb => ?_)
            obtain ⟨z31, hz2, H1⟩ := of_bind H1
            refine wp_cut (fun a w => ∃ (y30 : api_Record) (g : G), w = g.w ∧ St 104 [(5, (pBox k_shelf_Shelf 5 r21.1)), (7, (pBox k_moietyref09_Shelf 7 r21.2.1)), (8, (pRow k_shelf_Shelf 28 8 (x13 ++ ([x11] : List shelf_Shelf)))), (9, (pRow k_moietyref09_Shelf 34 9 (x14 ++ ([x12] : List moietyref09_Shelf)))), (13, (pBxO k_api_RecordV rawR lstR k_api_Item 64 13 900 y30)), (14, (pBool r23.2.2)), (34, (k_moietylaw09_Op.sl.pd a1)), (35, (pInt .i64 (a1.length : Int))), (36, (pInt .i64 x15))] a g ∧ Base g0 g ∧ y30 = z31) ?_ ?_
            · rintro a w ⟨y30, g, rfl, hst, hb, rfl⟩
              refine then_n ?_
              obtain ⟨r32, h33, H1⟩ := of_bind H1
              refine r_s (L := [(5, _), (7, _), (8, _), (9, _), (13, _), (14, _), (34, _), (35, _), (36, _)]) (T := ⟨[.old 5], _, [], [], [74]⟩ :: ⟨[.op 0 0], _, [], [0], [75]⟩ :: ⟨[.op 1 0, .old 4], _, [], [0, 1], [76]⟩ :: ⟨[.op 1 0, .op 2 0], _, [], [0, 1, 2], [77]⟩ :: ⟨[.op 1 0, .op 3 0], _, [], List.range 4, [78]⟩ :: ⟨[.op 1 0, .op 4 0], _, [], List.range 5, [79]⟩ :: ⟨[.op 1 0, .op 5 0], _, [], List.range 6, [80]⟩ :: ⟨[.op 6 0], _, [], List.range 7, [81]⟩ :: ⟨[.op 7 0, .old 0], _, [], List.range 8, [82]⟩ :: ⟨[.op 7 0, .old 1], _, [], List.range 8, [83]⟩ :: ⟨[.op 7 0, .op 8 0, .op 9 0], _, [], List.range 10, [84]⟩ :: ⟨[.op 7 0, .op 10 0], _, [], List.range 11, [85]⟩ :: ⟨[.op 7 0, .op 11 0], _, [], List.range 12, [86]⟩ :: []) (F := [.old 0, .old 1, .old 2, .old 3, .old 6, .old 7, .old 8, .op 12 0]) hst hb follows
                (o_p rfl (ob_move rfl rfl u_0) <|
                 o_p rfl (ob_move rfl rfl u_0) <|
                 o_g (g_t rfl rfl rfl (fun hG => ob_fieldL fl_38_7V (off := 7) (by kernel_rfl) (fun _ => rfl) rfl rfl u_0)) <|
                 o_g (g_t rfl rfl rfl (fun hG => ob_loadL ty_36V rfl rfl (Opd.gd hG u_0))) <|
                 o_g (g_t rfl rfl rfl (fun hG => ob_lenA Try.underlying36 rfl rfl (Opd.gd hG u_0))) <|
                 o_g (g_t rfl rfl rfl (fun hG => ob_gt rfl rfl (Opd.gd hG u_0) c_i)) <|
                 o_p rfl (ob_pand rfl rfl u_0 (fun hz => (Opd.gd hz u_1))) <|
                 o_p rfl (ob_move rfl rfl u_0) <|
                 o_g (g_t rfl rfl rfl (fun hG => ob_loadM ty_28 rfl rfl u_0)) <|
                 o_g (g_t rfl rfl rfl (fun hG => ob_loadM ty_34 rfl rfl u_0)) <|
                 o_g (g_t rfl rfl rfl (fun hG => ob_call en_24 (moietylaw09_Is_ok _ _ (gd_true h33 hG)) rfl rfl (.cons (Opd.gd hG u_0) (.cons (Opd.gd hG u_1) .nil)))) <|
                 o_g (g_t rfl rfl rfl (fun hG => ob_eq rfl rfl (Opd.gd hG u_0) c_i)) <|
                 o_p rfl (ob_pand rfl rfl u_0 (fun hz => (Opd.gd hz u_1))) <|
                 o_n) (by kernel_rfl) (fun a g hst hb => ?_)
              refine wp_cond_split (hst.bool 7 rfl) (fun hc34 => ?_) (fun hc34 => ?_)
              · replace H1 := ite_t hc34 H1
                refine r_s (L := []) (T := [⟨[], _, [], [], [4]⟩]) (F := [.op 0 0]) (hst.pick [] rfl) hb follows
                  (o_p rfl (ob_assign rfl rfl c_b) <|
                   o_n) (by kernel_rfl) (fun a g hst hb => ?_)
                refine wp_ret ?_
                refine inBlock_r ?_
                refine then_r ?_
                refine then_r ?_
                refine inBlock_r ?_
                refine then_r ?_
                refine then_r ?_
                obtain rfl := Option.some.inj H1
                obtain rfl := Option.some.inj H0
                exact endR1 rfl hst hb (res_tmp (s := 4)) (hst.at 0 rfl)
              · replace H1 := ite_f hc34 H1
                refine wp_skip ?_
                refine inBlock_n ?_
                refine then_n ?_
                refine r_g (L := [(5, _), (7, _), (8, _), (9, _), (34, _), (35, _), (36, _)]) (T := [⟨[.old 6], _, [], [], [87]⟩, ⟨[.op 0 0], _, [], [0], [36]⟩]) (F := [.old 0, .old 1, .old 2, .old 3, .old 4, .old 5, .op 1 0]) (hst.pick [0, 1, 2, 3, 4, 5, 6] rfl) hb follows
                  (o_p rfl (ob_add rfl rfl u_0 c_i rfl) <|
                   o_p rfl (ob_move rfl rfl u_0) <|
                   o_n) (by kernel_rfl) (fun a g hst hb => ?_)
                exact ⟨n, Nat.lt_succ_self _, r21.1, r21.2.1, (x13 ++ ([x11] : List shelf_Shelf)), (x14 ++ ([x12] : List moietyref09_Shelf)), (IntKind.i64.wrap (x15 + (1 : Int))), g, rfl, (hst.pick [0, 1, 2, 3, 4, 5, 6] rfl), hb, H1⟩
            · refine wp_block ?_
              refine wp_loop_ghost (fun n a w => ∃ (x25 : api_Record) (x26 : Int) (g : G), w = g.w ∧ St 104 [(5, (pBox k_shelf_Shelf 5 r21.1)), (7, (pBox k_moietyref09_Shelf 7 r21.2.1)), (8, (pRow k_shelf_Shelf 28 8 (x13 ++ ([x11] : List shelf_Shelf)))), (9, (pRow k_moietyref09_Shelf 34 9 (x14 ++ ([x12] : List moietyref09_Shelf)))), (13, (pBxO k_api_RecordV rawR lstR k_api_Item 64 13 900 x25)), (14, (pBool r23.2.2)), (34, (k_moietylaw09_Op.sl.pd a1)), (35, (pInt .i64 (a1.length : Int))), (36, (pInt .i64 x15)), (64, (pInt .i64 (r23.2.1.List.length : Int))), (65, (pInt .i64 x26))] a g ∧ Base g0 g ∧ moietylaw09_ShelfStays_l2 r23 n x25 x26 = some z31) (Int.toNat ((r23.2.1.List.length : Int) - (0 : Int)) + 1) ⟨r23.2.1, (0 : Int), g, rfl, (hst.pick [0, 1, 2, 3, 4, 5, 6, 7, 8, 9, 10] rfl), hb, hz2⟩ (fun n a w hI => ?_)
              obtain ⟨x25, x26, g, rfl, hst, hb, H2⟩ := hI
              cases n with
              | zero => exact absurd H2 (by simp [moietylaw09_ShelfStays_l2])
              | succ n =>
                rw [moietylaw09_ShelfStays_l2] at H2
                refine r_s (L := [(5, _), (7, _), (8, _), (9, _), (13, _), (14, _), (34, _), (35, _), (36, _), (64, _), (65, _)]) (T := [⟨[.old 10, .old 9], _, [], [], [66]⟩]) (F := [.old 0, .old 1, .old 2, .old 3, .old 4, .old 5, .old 6, .old 7, .old 8, .old 9, .old 10, .op 0 0]) hst hb follows
                  (o_p rfl (ob_lt rfl rfl u_0 u_1) <|
                   o_n) (by kernel_rfl) (fun a g hst hb => ?_)
                refine wp_seq ?_
                refine wp_cond_split (hst.bool 11 rfl) (fun hc27 => ?_) (fun hc27 => ?_)
                · replace H2 := ite_t hc27 H2
                  refine wp_skip ?_
                  refine then_n ?_
                  refine wp_seq ?_
                  refine wp_block ?_
                  refine r_s (L := [(5, _), (7, _), (8, _), (9, _), (13, _), (14, _), (34, _), (35, _), (36, _), (64, _), (65, _)]) (T := [⟨[.old 10], _, [], [], [67]⟩, ⟨[.op 0 0], _, [], [0], [15]⟩]) (F := [.old 0, .old 1, .old 2, .old 3, .old 4, .old 5, .op 1 0, .old 6, .old 7, .old 8, .old 9, .old 10]) (hst.pick [0, 1, 2, 3, 4, 5, 6, 7, 8, 9, 10] rfl) hb follows
                    (o_p rfl (ob_move rfl rfl u_0) <|
                     o_p rfl (ob_assign rfl rfl u_0) <|
                     o_n) (by kernel_rfl) (fun a g hst hb => ?_)
                  obtain ⟨e28, h29, H2⟩ := of_bind H2
                  refine r_g (L := [(5, _), (7, _), (8, _), (9, _), (13, _), (14, _), (15, _), (34, _), (35, _), (36, _), (64, _), (65, _)]) (T := [⟨[.old 4], _, [], [], [68]⟩, ⟨[.op 0 0], _, [], [0], [69]⟩, ⟨[.old 6], _, [], [], [70]⟩, ⟨[.op 1 0, .op 2 0], _, [], [0, 1, 2], [71]⟩, ⟨[.op 3 0], _, [], List.range 4, [72]⟩, ⟨[.op 4 0, .old 4], _, [901], List.range 5, [13, 68, 69, 71, 72]⟩]) (F := [.old 0, .old 1, .old 2, .old 3, .op 5 0, .old 5, .old 7, .old 8, .old 9, .old 10, .old 11]) hst hb follows
                    (o_p rfl (ob_fieldL fl_38_7V (off := 7) (by kernel_rfl) (fun _ => rfl) rfl rfl u_0) <|
                     o_p rfl (ob_loadL ty_36V rfl rfl u_0) <|
                     o_p rfl (ob_move rfl rfl u_0) <|
                     o_p rfl (ob_indexO Try.underlying36 sz_64 rfl rfl u_0 u_1 h29) <|
                     o_p rfl (ob_elField fl_64_1V (off2 := 1) (by kernel_rfl) (by decide) rfl rfl u_0) <|
                     o_p rfl (ob_elStoreO (u := e28) (u' := { e28 with Name := (⟨#[115, 112, 111, 105, 108, 116]⟩ : ByteArray) }) (x' := ({ x25 with List := x25.List.set (Int.toNat x26) { e28 with Name := (⟨#[115, 112, 111, 105, 108, 116]⟩ : ByteArray) } })) ty_9 rfl rfl (by decide) u_1 u_0 c_s (idx_get h29) (by decide) rfl (fun _ => rfl) (itemName _ _)) <|
                     o_n) (by kernel_rfl) (fun a g hst hb => ?_)
                  refine inBlock_n ?_
                  refine then_n ?_
                  refine r_g (L := [(5, _), (7, _), (8, _), (9, _), (13, _), (14, _), (34, _), (35, _), (36, _), (64, _), (65, _)]) (T := [⟨[.old 10], _, [], [], [73]⟩, ⟨[.op 0 0], _, [], [0], [65]⟩]) (F := [.old 0, .old 1, .old 2, .old 3, .old 4, .old 5, .old 6, .old 7, .old 8, .old 9, .op 1 0]) hst hb follows
                    (o_p rfl (ob_add rfl rfl u_0 c_i rfl) <|
                     o_p rfl (ob_move rfl rfl u_0) <|
                     o_n) (by kernel_rfl) (fun a g hst hb => ?_)
                  exact ⟨n, Nat.lt_succ_self _, ({ x25 with List := x25.List.set (Int.toNat x26) { e28 with Name := (⟨#[115, 112, 111, 105, 108, 116]⟩ : ByteArray) } }), (IntKind.i64.wrap (x26 + (1 : Int))), g, rfl, (hst.pick [0, 1, 2, 3, 4, 5, 6, 7, 8, 9, 10] rfl), hb, H2⟩
                · replace H2 := ite_f hc27 H2
                  refine wp_exit ?_
                  refine then_e ?_
                  refine then_e ?_
                  refine inBlock_e ?_
                  exact ⟨x25, g, rfl, (hst.pick [0, 1, 2, 3, 4, 5, 6, 7, 8] rfl), hb, Option.some.inj H2⟩
          · replace H1 := ite_f hc16 H1
            refine wp_exit ?_
            refine then_e ?_
            refine then_e ?_
            refine inBlock_e ?_
            exact ⟨x13, x14, g, rfl, (hst.pick [2, 3] rfl), hb, Option.some.inj H1⟩
end Go.CL

/- flo (the program's) and moietyref01 (the document's): floats in one order. -/
set_option linter.unusedVariables false
set_option linter.unusedSimpArgs false
namespace Go.CL
open Go

def NANB : Nat := 9221120237041090561
/-- A number's place in the order. -/
def keyf (b : Nat) : Int := if isn b then 18444492273895866369 else if TOP ≤ b then 18446744073709551615 - b else b + 9223372036854775808
def canon (b : Nat) : Nat := if isn b then NANB else b
theorem fneq_self {b : Nat} (hb : b < 18446744073709551616) : fneq b b = decide (isn b) := by
  unfold fneq
  show (Ieee.double.order b b != some .eq) = _
  by_cases h : isn b
  · rw [order_nan (.inl h)]; simp [h]
  · obtain ⟨o, ho, _, he⟩ := order_spec hb hb h h
    rw [ho, he.2 rfl]; simp [h]
theorem canon_eq {b : Nat} (hb : b < 18446744073709551616) : flo_Canon b = some (canon b) := by
  unfold flo_Canon canon
  rw [fneq_self hb]
  by_cases h : isn b
  · simp [h, math_NaN, NANB]
  · simp [h]
theorem and_top {b : Nat} (hb : b < 18446744073709551616) : (bAnd .u64 (b : Int) 9223372036854775808 != 0) = decide (TOP ≤ b) := by
  have h1 : (BitVec.ofInt 64 (b : Int) &&& BitVec.ofInt 64 9223372036854775808).toNat = b &&& 9223372036854775808 := by
    rw [BitVec.toNat_and]
    have e1 : (BitVec.ofInt 64 (b : Int)).toNat = b := by
      rw [show BitVec.ofInt 64 (b : Int) = BitVec.ofNat 64 b from rfl]
      simp; omega
    rw [e1]; rfl
  have h2 : b &&& 9223372036854775808 = (b.testBit 63).toNat * 9223372036854775808 := by
    apply Nat.eq_of_testBit_eq
    intro i
    rw [Nat.testBit_and, show (9223372036854775808 : Nat) = 2 ^ 63 from rfl, Nat.testBit_two_pow]
    by_cases hi : 63 = i
    · subst hi
      cases b.testBit 63
      · simp
      · rw [Bool.toNat_true, Nat.one_mul, Nat.testBit_two_pow]; simp
    · cases b.testBit 63
      · simp [hi]
      · rw [Bool.toNat_true, Nat.one_mul, Nat.testBit_two_pow]; simp [hi]
  have h3 : b.testBit 63 = decide (TOP ≤ b) := by
    rw [Nat.testBit_eq_decide_div_mod_eq]
    unfold TOP
    by_cases h : 9223372036854775808 ≤ b
    · have : b / 2 ^ 63 % 2 = 1 := by omega
      simp [this, h]
    · have : b / 2 ^ 63 % 2 = 0 := by omega
      simp [this, h]
  unfold bAnd
  show (IntKind.wrap .u64 ((BitVec.ofInt 64 (b : Int) &&& BitVec.ofInt 64 9223372036854775808).toNat : Int) != 0) = _
  rw [h1, h2, h3]
  by_cases h : TOP ≤ b
  · simp only [h, decide_true, Bool.toNat_true, Nat.one_mul]
    rfl
  · simp only [h, decide_false, Bool.toNat_false, Nat.zero_mul]
    rfl
theorem xor_top {b : Nat} (hb : b < 18446744073709551616) : bXor .u64 IntKind.u64.max (b : Int) = 18446744073709551615 - b := by
  have h1 : (BitVec.ofInt 64 18446744073709551615 ^^^ BitVec.ofInt 64 (b : Int)).toNat = 18446744073709551615 - b := by
    have e1 : BitVec.ofInt 64 18446744073709551615 = BitVec.allOnes 64 := by decide
    rw [e1, BitVec.allOnes_xor, BitVec.toNat_not]
    have e2 : (BitVec.ofInt 64 (b : Int)).toNat = b := by
      rw [show BitVec.ofInt 64 (b : Int) = BitVec.ofNat 64 b from rfl]
      simp; omega
    rw [e2]
  unfold bXor
  show IntKind.wrap .u64 ((BitVec.ofInt 64 18446744073709551615 ^^^ BitVec.ofInt 64 (b : Int)).toNat : Int) = _
  rw [h1]
  simp [IntKind.wrap, IntKind.signed, IntKind.bits]
  omega
theorem or_top {b : Nat} (hb : b < 9223372036854775808) : bOr .u64 (b : Int) 9223372036854775808 = b + 9223372036854775808 := by
  have h1 : (BitVec.ofInt 64 (b : Int) ||| BitVec.ofInt 64 9223372036854775808).toNat = b + 9223372036854775808 := by
    rw [BitVec.toNat_or]
    have e1 : (BitVec.ofInt 64 (b : Int)).toNat = b := by
      rw [show BitVec.ofInt 64 (b : Int) = BitVec.ofNat 64 b from rfl]
      simp; omega
    rw [e1, show (BitVec.ofInt 64 9223372036854775808).toNat = 2 ^ 63 * 1 from rfl, Nat.or_comm]
    rw [← Nat.two_pow_add_eq_or_of_lt (by simpa using hb)]
    omega
  unfold bOr
  show IntKind.wrap .u64 ((BitVec.ofInt 64 (b : Int) ||| BitVec.ofInt 64 9223372036854775808).toNat : Int) = _
  rw [h1]
  simp [IntKind.wrap, IntKind.signed, IntKind.bits]
  omega
theorem canon_lt {b : Nat} (hb : b < 18446744073709551616) : canon b < 18446744073709551616 := by
  unfold canon NANB; split <;> omega
theorem key_eq {b : Nat} (hb : b < 18446744073709551616) : flo_Key b = some (keyf b) := by
  unfold flo_Key
  rw [canon_eq hb]
  simp only [Option.bind_some]
  rw [and_top (canon_lt hb)]
  unfold keyf canon
  by_cases h : isn b
  · simp only [h, if_true]
    rfl
  · simp only [h, if_false]
    by_cases ht : TOP ≤ b
    · simp only [ht, decide_true, if_true]
      rw [xor_top hb]
    · simp only [ht, decide_false, if_false, Bool.false_eq_true]
      rw [or_top (by unfold TOP at ht; omega)]
theorem same_eq {a b : Nat} (ha : a < 18446744073709551616) (hb : b < 18446744073709551616) : flo_Same a b = some (decide (keyf a = keyf b)) := by
  unfold flo_Same
  rw [key_eq ha, key_eq hb]
  simp [BEq.beq]
theorem less_eq {a b : Nat} (ha : a < 18446744073709551616) (hb : b < 18446744073709551616) : flo_Less a b = some (decide (keyf a < keyf b)) := by
  unfold flo_Less
  rw [key_eq ha, key_eq hb]
  simp
theorem proper_eq {a : Nat} (ha : a < 18446744073709551616) : flo_Proper a = some (decide (a = canon a)) := by
  unfold flo_Proper
  rw [canon_eq ha]
  congr 1
  by_cases h : a = canon a
  · simp [← h]
  · have : (a : Int) ≠ (canon a : Int) := by omega
    simp [h, this]
/-! ### the document's -/
theorem keyf_lt {a b : Nat} (ha : a < 18446744073709551616) (hb : b < 18446744073709551616) (na : ¬ isn a) (nb : ¬ isn b) : keyf a < keyf b ↔ (sg a < sg b ∨ (a = TOP ∧ b = 0)) := by
  unfold keyf
  rw [if_neg na, if_neg nb]
  unfold sg isn rg INF TOP at *
  split <;> split <;> omega
theorem feql_eq {a b : Nat} (ha : a < 18446744073709551616) (hb : b < 18446744073709551616) (na : ¬ isn a) (nb : ¬ isn b) : feql a b = decide (sg a = sg b) := by
  unfold feql
  show (Ieee.double.order a b == some .eq) = _
  obtain ⟨o, ho, _, he⟩ := order_spec ha hb na nb
  rw [ho]
  by_cases h : sg a = sg b
  · rw [he.2 h]; simp [h]
  · have : o ≠ .eq := fun h' => h (he.1 h')
    simp [h, this]
theorem flss_eq {a b : Nat} (ha : a < 18446744073709551616) (hb : b < 18446744073709551616) (na : ¬ isn a) (nb : ¬ isn b) : flss a b = decide (sg a < sg b) := by
  unfold flss
  show (Ieee.double.order a b == some .lt) = _
  obtain ⟨o, ho, hl, _⟩ := order_spec ha hb na nb
  rw [ho]
  by_cases h : sg a < sg b
  · rw [hl.2 h]; simp [h]
  · have : o ≠ .lt := fun h' => h (hl.1 h')
    simp [h, this]
theorem below0 : moietyref01_below 0 = some false := by kernel_rfl
theorem belowT : moietyref01_below TOP = some true := by kernel_rfl
theorem nan0 : ¬ isn 0 := by decide
theorem sg_zero {a : Nat} (ha : a < 18446744073709551616) : sg a = sg 0 ↔ a = 0 ∨ a = TOP := by
  unfold sg TOP
  split <;> simp <;> omega
theorem rnone_eq {a : Nat} (ha : a < 18446744073709551616) : moietyref01_none a = some (decide (isn a)) := by
  unfold moietyref01_none; rw [fneq_self ha]
theorem rless_eq {a b : Nat} (ha : a < 18446744073709551616) (hb : b < 18446744073709551616) : moietyref01_Less a b = some (decide (keyf a < keyf b)) := by
  unfold moietyref01_Less
  rw [rnone_eq ha, rnone_eq hb]
  simp only [Option.bind_some]
  have kb : ∀ x, x < 18446744073709551616 → ¬ isn x → keyf x < 18444492273895866369 := by
    intro x hx nx
    unfold keyf
    rw [if_neg nx]
    unfold isn rg INF TOP at *
    split <;> omega
  have kn : ∀ x, isn x → keyf x = 18444492273895866369 := fun x h => by unfold keyf; rw [if_pos h]
  by_cases na : isn a
  · simp only [na, decide_true, if_true]
    by_cases nb : isn b
    · rw [kn a na, kn b nb]; simp
    · have := kb b hb nb
      rw [kn a na]; simp; omega
  · simp only [na, decide_false, Bool.false_eq_true, if_false]
    by_cases nb : isn b
    · have := kb a ha na
      rw [kn b nb]; simp [nb, this]
    · simp only [nb, decide_false, Bool.false_eq_true, if_false]
      rw [feql_eq ha (by decide) na nan0, feql_eq hb (by decide) nb nan0, flss_eq ha hb na nb]
      by_cases hz : sg a = sg 0 ∧ sg b = sg 0
      · rw [if_pos (by simp [hz])]
        have hk := keyf_lt ha hb na nb
        have h0T : (0 : Nat) ≠ TOP := by decide
        rcases (sg_zero ha).1 hz.1 with rfl | rfl <;> rcases (sg_zero hb).1 hz.2 with rfl | rfl <;> simp only [below0, belowT, gd, Option.bind_some, if_true, if_false, Bool.false_eq_true, Option.some.injEq] <;> decide
      · rw [if_neg (by simpa using hz)]
        have hk := keyf_lt ha hb na nb
        congr 1
        apply decide_eq_decide.2
        rw [hk]
        constructor
        · intro h; exact .inl h
        · rintro (h | ⟨rfl, rfl⟩)
          · exact h
          · exact absurd ⟨rfl, rfl⟩ hz
theorem rsame_eq {a b : Nat} (ha : a < 18446744073709551616) (hb : b < 18446744073709551616) : moietyref01_Same a b = some (decide (keyf a = keyf b)) := by
  unfold moietyref01_Same
  rw [rless_eq ha hb, rless_eq hb ha]
  simp only [Option.bind_some, gd]
  by_cases h1 : keyf a < keyf b
  · have : keyf a ≠ keyf b := by omega
    simp [h1, this]
  · by_cases h2 : keyf b < keyf a
    · have : keyf a ≠ keyf b := by omega
      simp [h1, h2, this]
    · have : keyf a = keyf b := by omega
      simp [this]
theorem rproper_eq {a : Nat} (ha : a < 18446744073709551616) : moietyref01_Proper a = some (decide (a = canon a)) := by
  unfold moietyref01_Proper
  rw [rnone_eq ha]
  unfold canon NANB
  by_cases h : isn a
  · by_cases h2 : a = 9221120237041090561
    · simp [h, h2]
    · have : (a : Int) ≠ 9221120237041090561 := by omega
      simp [h, h2, this]
  · simp [h]
end Go.CL

/- Small things that all plain laws use. -/
set_option linter.unusedVariables false
set_option linter.unusedSimpArgs false
namespace Go.CL
open Go

theorem wr {x : Int} (h1 : -9223372036854775808 ≤ x) (h2 : x ≤ 9223372036854775807) : IntKind.i64.wrap x = x := by
  rw [IntKind.wrap_i64]; omega
theorem wr1 {i : Nat} (h : i < 9223372036854775807) : IntKind.i64.wrap ((i : Int) + 1) = ((i + 1 : Nat) : Int) := by
  rw [wr (by omega) (by omega)]; omega
theorem wrapu (n : Int) : IntKind.u64.wrap n = n % 18446744073709551616 := by simp [IntKind.wrap, IntKind.bits, IntKind.signed]
theorem wru {x : Int} (h1 : 0 ≤ x) (h2 : x < 18446744073709551616) : IntKind.u64.wrap x = x := by rw [wrapu]; omega
theorem wrm {i : Nat} (h : i < 9223372036854775807) (h0 : 0 < i) : IntKind.i64.wrap ((i : Int) - 1) = ((i - 1 : Nat) : Int) := by
  rw [wr (by omega) (by omega)]; omega
theorem idxn {α : Type} (xs : List α) (i : Nat) : idx xs (i : Int) = xs[i]? := by
  unfold idx
  rw [if_pos (by omega)]
  simp
theorem idx_lt {α : Type} {xs : List α} {i : Nat} (h : i < xs.length) : idx xs (i : Int) = some xs[i] := by
  rw [idxn, List.getElem?_eq_getElem h]
theorem gd_t {β : Type} [Inhabited β] (x : Option β) : gd true x = x := rfl
theorem gd_f {β : Type} [Inhabited β] (x : Option β) : gd false x = some default := rfl
theorem cut_some {α : Type} {xs : List α} {l h : Nat} (h1 : l ≤ h) (h2 : h ≤ xs.length) : cut xs (l : Int) (h : Int) = some ((xs.drop l).take (h - l)) := by
  unfold cut
  rw [if_pos (by omega)]
  simp
/-! ### texts -/
theorem toList_inj {a b : ByteArray} (h : a.toList = b.toList) : a = b := by
  rw [_root_.Go.ByteArray.toList_eq, _root_.Go.ByteArray.toList_eq] at h
  exact ByteArray.ext (Array.toList_inj.1 h)
theorem sEq_iff {a b : ByteArray} : sEq a b = true ↔ a = b := by
  unfold sEq
  constructor
  · intro h; exact toList_inj (by simpa using h)
  · rintro rfl; simp
theorem sEq_self (a : ByteArray) : sEq a a = true := sEq_iff.2 rfl
theorem sEq_ne {a b : ByteArray} : sEq a b = false ↔ a ≠ b := by
  cases h : sEq a b
  · simp; intro e; rw [sEq_iff.2 e] at h; cases h
  · simp; exact sEq_iff.1 h
theorem bl_irr : ∀ l : List UInt8, Op.bytesLess l l = false
  | [] => rfl
  | x :: l => by simp [Op.bytesLess, bl_irr l]
theorem bl_trans : ∀ {a b c : List UInt8}, Op.bytesLess a b = true → Op.bytesLess b c = true → Op.bytesLess a c = true
  | [], [], c, h, _ => by simp [Op.bytesLess] at h
  | [], y :: b, [], _, k => by simp [Op.bytesLess] at k
  | [], y :: b, z :: c, _, _ => rfl
  | x :: a, [], c, h, _ => by simp [Op.bytesLess] at h
  | x :: a, y :: b, [], _, k => by simp [Op.bytesLess] at k
  | x :: a, y :: b, z :: c, h, k => by
    simp only [Op.bytesLess, Bool.or_eq_true, Bool.and_eq_true, decide_eq_true_eq, beq_iff_eq] at h k ⊢
    rcases h with h | ⟨h1, h2⟩ <;> rcases k with k | ⟨k1, k2⟩
    · exact .inl (UInt8.lt_trans h k)
    · subst k1; exact .inl h
    · subst h1; exact .inl k
    · subst h1; subst k1; exact .inr ⟨rfl, bl_trans h2 k2⟩
theorem bl_tri : ∀ (a b : List UInt8), Op.bytesLess a b = false → a ≠ b → Op.bytesLess b a = true
  | [], [], _, h => absurd rfl h
  | [], y :: b, h, _ => by simp [Op.bytesLess] at h
  | x :: a, [], _, _ => rfl
  | x :: a, y :: b, h, hn => by
    simp only [Op.bytesLess, Bool.or_eq_false_iff, decide_eq_false_iff_not, Bool.and_eq_false_iff] at h
    simp only [Op.bytesLess, Bool.or_eq_true, Bool.and_eq_true, decide_eq_true_eq, beq_iff_eq]
    by_cases e : x = y
    · subst e
      right
      refine ⟨rfl, bl_tri a b ?_ (fun h' => hn (by rw [h']))⟩
      rcases h.2 with h | h
      · simp at h
      · exact h
    · left
      rcases UInt8.lt_or_lt_of_ne e with h' | h'
      · exact absurd h' h.1
      · exact h'
theorem sLt_irr (a : ByteArray) : sLt a a = false := bl_irr _
theorem sLt_trans {a b c : ByteArray} (h : sLt a b = true) (k : sLt b c = true) : sLt a c = true := bl_trans h k
theorem sLt_tri {a b : ByteArray} (h : sLt a b = false) (hn : a ≠ b) : sLt b a = true := bl_tri _ _ h (fun e => hn (toList_inj e))
theorem sLt_asym {a b : ByteArray} (h : sLt a b = true) : sLt b a = false := by
  cases k : sLt b a
  · rfl
  · have := sLt_trans h k
    rw [sLt_irr] at this; cases this
theorem sLt_ne {a b : ByteArray} (h : sLt a b = true) : a ≠ b := fun e => by subst e; rw [sLt_irr] at h; cases h
end Go.CL

/- rec (the program's) and moietyref03 (the document's): records that may be; the same records. -/
set_option linter.unusedVariables false
set_option linter.unusedSimpArgs false
namespace Go.CL
open Go

abbrev W64 : Nat := 18446744073709551616
/-- A record as it may come in: its floats are words; its list is no longer than memory. -/
structure RecOk (a : api_Record) : Prop where
  real : a.Real < W64
  len : a.List.length < 4611686018427387904
  sc : ∀ e ∈ a.List, e.Score < W64

def betterB (a b : api_Item) : Bool := if keyf a.Score = keyf b.Score then sLt a.Name b.Name else decide (keyf b.Score < keyf a.Score)
theorem better_eq {a b : api_Item} (ha : a.Score < W64) (hb : b.Score < W64) : rec_Better a b = some (betterB a b) := by
  unfold rec_Better betterB
  rw [same_eq ha hb, less_eq hb ha]
  by_cases h : keyf a.Score = keyf b.Score <;> simp [h]
theorem ahead_eq {a b : api_Item} (ha : a.Score < W64) (hb : b.Score < W64) : moietyref03_Ahead a b = some (betterB a b) := by
  unfold moietyref03_Ahead betterB
  rw [rless_eq hb ha, rsame_eq ha hb]
  by_cases h : keyf a.Score = keyf b.Score
  · simp [h]
  · by_cases h2 : keyf b.Score < keyf a.Score <;> simp [h, h2]
theorem zero_eq {a : Nat} (ha : a < W64) : moietyref03_zero a = some (decide (keyf a = keyf 0)) := by
  unfold moietyref03_zero
  rw [rsame_eq ha (by decide)]
  rfl
/-- What an item at a place is told: 0, or an error. -/
def itemC (k : Int) (l : List api_Item) (i : Nat) : Int :=
  match l[i]? with
  | none => 0
  | some x =>
    let p := (l[i - 1]?).getD default
    if (16 : Int) < x.Name.size then 3
    else if (k = 8 ∧ keyf x.Score ≠ keyf 0) ∨ x.Score ≠ canon x.Score then 4
    else if 0 < i ∧ k = 8 ∧ sLt p.Name x.Name = false then 4
    else if 0 < i ∧ k = 9 ∧ betterB p x = false then 4
    else 0
theorem item_step {k : Int} {l : List api_Item} {i n : Nat} (hi : i < l.length) (hl : l.length < 4611686018427387904) (hs : ∀ e ∈ l, e.Score < W64) :
    rec_items_l1 k l (n + 1) (i : Int) = if itemC k l i = 0 then rec_items_l1 k l n ((i + 1 : Nat) : Int) else some (.inl (itemC k l i)) := by
  have hx : l[i].Score < W64 := hs _ (List.getElem_mem hi)
  rw [rec_items_l1, if_pos (by simp; omega), idx_lt hi, wr1 (by omega)]
  simp only [Option.bind_some]
  rw [same_eq hx (by decide), proper_eq hx]
  simp only [itemC, List.getElem?_eq_getElem hi]
  by_cases h1 : (16 : Int) < l[i].Name.size
  · simp [h1]
  · simp only [h1, decide_false, if_false, Bool.false_eq_true]
    have hz : ((0 : Nat) : Int) = 0 := rfl
    by_cases h0 : 0 < i
    · have hp : i - 1 < l.length := by omega
      have hps : l[i - 1].Score < W64 := hs _ (List.getElem_mem hp)
      have hd : (decide ((0 : Int) < (i : Int))) = true := by simp; omega
      rw [hd, wrm (by omega) h0, idx_lt hp]
      simp only [List.getElem?_eq_getElem hp, Option.getD_some, h0, true_and, Bool.true_and]
      by_cases h8 : k = 8
      · subst h8
        simp only [beq_self_eq_true, gd_t, Option.bind_some, true_and, Bool.true_and]
        by_cases hk : keyf l[i].Score = keyf 0
        · by_cases hc : l[i].Score = canon l[i].Score
          · simp [hk, ← hc, gd]
            cases sLt l[i - 1].Name l[i].Name <;> simp
          · simp [hk, hc, gd]
        · simp [hk, gd]
      · have h8' : (k == 8) = false := by simpa using h8
        simp only [h8', h8, gd_f, gd_t, Option.bind_some, false_and, false_or, Bool.false_and, Bool.not_false, Bool.false_or]
        by_cases hc : l[i].Score = canon l[i].Score
        · by_cases h9 : k = 9
          · subst h9
            simp [← hc, gd, better_eq hps hx]
            cases betterB l[i - 1] l[i] <;> simp
          · simp [← hc, gd, h9]
        · simp [hc]
    · have h00 : i = 0 := by omega
      subst h00
      simp only [Nat.lt_irrefl, false_and, if_false, Int.ofNat_zero, Int.lt_irrefl, decide_false, Bool.false_and, gd_f, Option.bind_some, Int.natCast_zero]
      by_cases h8 : k = 8
      · subst h8
        simp only [beq_self_eq_true, gd_t, Option.bind_some, true_and, Bool.true_and]
        by_cases hk : keyf l[0].Score = keyf 0
        · by_cases hc : l[0].Score = canon l[0].Score
          · simp [hk, ← hc, gd]
          · simp [hk, hc, gd]
        · simp [hk, gd]
      · have h8' : (k == 8) = false := by simpa using h8
        simp only [h8', h8, gd_f, gd_t, Option.bind_some, false_and, false_or, Bool.false_and, Bool.not_false, Bool.false_or]
        by_cases hc : l[0].Score = canon l[0].Score
        · simp [← hc, gd]
        · simp [hc]
theorem ritem_eq {k : Int} {l : List api_Item} {i : Nat} (hi : i < l.length) (hl : l.length < 4611686018427387904) (hs : ∀ e ∈ l, e.Score < W64) : moietyref03_item k l (i : Int) = some (itemC k l i) := by
  have hx : l[i].Score < W64 := hs _ (List.getElem_mem hi)
  unfold moietyref03_item
  rw [idx_lt hi]
  simp only [Option.bind_some]
  rw [zero_eq hx, rproper_eq hx]
  simp only [itemC, List.getElem?_eq_getElem hi]
  by_cases h1 : (16 : Int) < l[i].Name.size
  · simp [h1]
  · simp only [h1, decide_false, if_false, Bool.false_eq_true]
    by_cases h0 : 0 < i
    · have hp : i - 1 < l.length := by omega
      have hps : l[i - 1].Score < W64 := hs _ (List.getElem_mem hp)
      have hd : (decide ((0 : Int) < (i : Int))) = true := by simp; omega
      rw [hd, wrm (by omega) h0, idx_lt hp]
      simp only [List.getElem?_eq_getElem hp, Option.getD_some, h0, true_and, Bool.true_and]
      by_cases h8 : k = 8
      · subst h8
        simp only [beq_self_eq_true, gd_t, Option.bind_some, true_and, Bool.true_and]
        by_cases hk : keyf l[i].Score = keyf 0
        · by_cases hc : l[i].Score = canon l[i].Score
          · simp [hk, ← hc, gd]
            cases sLt l[i - 1].Name l[i].Name <;> simp
          · simp [hk, hc, gd]
        · simp [hk, gd]
      · have h8' : (k == 8) = false := by simpa using h8
        simp only [h8', h8, gd_f, gd_t, Option.bind_some, false_and, false_or, Bool.false_and, Bool.not_false, Bool.false_or]
        by_cases hc : l[i].Score = canon l[i].Score
        · by_cases h9 : k = 9
          · subst h9
            simp [← hc, gd, ahead_eq hps hx]
            cases betterB l[i - 1] l[i] <;> simp
          · simp [← hc, gd, h9]
        · simp [hc]
    · have h00 : i = 0 := by omega
      subst h00
      simp only [Nat.lt_irrefl, false_and, if_false, Int.ofNat_zero, Int.lt_irrefl, decide_false, Bool.false_and, gd_f, Option.bind_some, Int.natCast_zero]
      by_cases h8 : k = 8
      · subst h8
        simp only [beq_self_eq_true, gd_t, Option.bind_some, true_and, Bool.true_and]
        by_cases hk : keyf l[0].Score = keyf 0
        · by_cases hc : l[0].Score = canon l[0].Score
          · simp [hk, ← hc, gd]
          · simp [hk, hc, gd]
        · simp [hk, gd]
      · have h8' : (k == 8) = false := by simpa using h8
        simp only [h8', h8, gd_f, gd_t, Option.bind_some, false_and, false_or, Bool.false_and, Bool.not_false, Bool.false_or]
        by_cases hc : l[0].Score = canon l[0].Score
        · simp [← hc, gd]
        · simp [hc]
end Go.CL

/- rec.Check = moietyref03.Check; rec.Same = moietyref03.Same; which records are too big to be looked at. -/
set_option linter.unusedVariables false
set_option linter.unusedSimpArgs false
namespace Go.CL
open Go

def firstC (k : Int) (l : List api_Item) : Nat → Nat → Int
  | _, 0 => 0
  | i, n + 1 => if itemC k l i = 0 then firstC k l (i + 1) n else itemC k l i
def endC (c : Int) : Int ⊕ Unit := if c = 0 then .inr () else .inl c
theorem firstC_z {k : Int} {l : List api_Item} {i n : Nat} (h : itemC k l i = 0) : firstC k l i (n + 1) = firstC k l (i + 1) n := by simp [firstC, h]
theorem firstC_e {k : Int} {l : List api_Item} {i n : Nat} (h : ¬ itemC k l i = 0) : firstC k l i (n + 1) = itemC k l i := by simp [firstC, h]
theorem endC_e {c : Int} (h : ¬ c = 0) : endC c = .inl c := if_neg h
theorem items_loop {k : Int} {l : List api_Item} (hl : l.length < 4611686018427387904) (hs : ∀ e ∈ l, e.Score < W64) : ∀ (n i : Nat), i + n = l.length →
    rec_items_l1 k l (n + 1) (i : Int) = some (endC (firstC k l i n))
  | 0, i, h => by
    rw [rec_items_l1, if_neg (by simp; omega)]
    rfl
  | n + 1, i, h => by
    rw [item_step (by omega) hl hs]
    by_cases hc : itemC k l i = 0
    · rw [if_pos hc, firstC_z hc, items_loop hl hs n (i + 1) (by omega)]
    · rw [if_neg hc, firstC_e hc, endC_e hc]
theorem items_eq {k : Int} {l : List api_Item} (hl : l.length < 4611686018427387904) (hs : ∀ e ∈ l, e.Score < W64) : rec_items k l = some (firstC k l 0 l.length) := by
  unfold rec_items
  rw [show (Int.toNat ((l.length : Int) - (0 : Int)) + 1) = l.length + 1 by omega, show (0 : Int) = ((0 : Nat) : Int) from rfl, items_loop hl hs l.length 0 (by omega)]
  unfold endC
  by_cases h : firstC k l 0 l.length = 0 <;> simp [h]
theorem ritems_loop {a : api_Record} (ha : RecOk a) : ∀ (n i : Nat), i + n = a.List.length →
    moietyref03_Check_l1 a (n + 1) (i : Int) = some (endC (firstC a.Kind a.List i n))
  | 0, i, h => by
    rw [moietyref03_Check_l1, if_neg (by simp; omega)]
    rfl
  | n + 1, i, h => by
    have hl := ha.len
    rw [moietyref03_Check_l1, if_pos (by simp; omega), ritem_eq (by omega) hl ha.sc, wr1 (by omega)]
    simp only [Option.bind_some]
    by_cases hc : itemC a.Kind a.List i = 0
    · rw [if_neg (by simp [hc]), firstC_z hc, ritems_loop ha n (i + 1) (by omega)]
    · rw [if_pos (by simp [hc]), firstC_e hc, endC_e hc]
def onlyB (t n b r l : Bool) (a : api_Record) : Bool := (t || sEq a.Text ⟨#[]⟩) && (n || a.Num == 0) && (b || (a.Low == 0 && a.High == 0)) && (r || decide (keyf a.Real = keyf 0)) && (l || (a.Cap == 0 && (a.List.length : Int) == 0))
theorem bare_eq {a : api_Record} (ha : RecOk a) (t n b r l : Bool) : rec_bare a ⟨t, n, b, r, l⟩ = some (onlyB t n b r l a) := by
  unfold rec_bare onlyB
  rw [same_eq ha.real (by decide)]
  simp only
  generalize sEq a.Text ⟨#[]⟩ = x1
  generalize (a.Num == 0) = x2
  generalize (a.Low == 0) = x3
  generalize (a.High == 0) = x4
  generalize decide (keyf a.Real = keyf 0) = x5
  generalize (a.Cap == 0) = x6
  generalize ((a.List.length : Int) == 0) = x7
  revert t n b r l x1 x2 x3 x4 x5 x6 x7
  decide
theorem only_eq {a : api_Record} (ha : RecOk a) {s : ByteArray} {t n b r l : Bool} (h : moietyref03_only_l1 s (Int.toNat ((s.size : Int) - (0 : Int)) + 1) false false false false false 0 = some (t, n, b, r, l)) : moietyref03_only a s = some (onlyB t n b r l a) := by
  unfold moietyref03_only onlyB
  rw [h, zero_eq ha.real]
  simp only [Option.bind_some, bne]
  generalize sEq a.Text ⟨#[]⟩ = x1
  generalize (a.Num == 0) = x2
  generalize (a.Low == 0) = x3
  generalize (a.High == 0) = x4
  generalize decide (keyf a.Real = keyf 0) = x5
  generalize (a.Cap == 0) = x6
  generalize ((a.List.length : Int) == 0) = x7
  clear h
  revert t n b r l x1 x2 x3 x4 x5 x6 x7
  decide
theorem onl_t : moietyref03_only_l1 ⟨#[116]⟩ (Int.toNat (((⟨#[116]⟩ : ByteArray).size : Int) - (0 : Int)) + 1) false false false false false 0 = some (true, false, false, false, false) := by kernel_rfl
theorem onl_n : moietyref03_only_l1 ⟨#[110]⟩ (Int.toNat (((⟨#[110]⟩ : ByteArray).size : Int) - (0 : Int)) + 1) false false false false false 0 = some (false, true, false, false, false) := by kernel_rfl
theorem onl_nb : moietyref03_only_l1 ⟨#[110, 98]⟩ (Int.toNat (((⟨#[110, 98]⟩ : ByteArray).size : Int) - (0 : Int)) + 1) false false false false false 0 = some (false, true, true, false, false) := by kernel_rfl
theorem onl_r : moietyref03_only_l1 ⟨#[114]⟩ (Int.toNat (((⟨#[114]⟩ : ByteArray).size : Int) - (0 : Int)) + 1) false false false false false 0 = some (false, false, false, true, false) := by kernel_rfl
theorem onl_l : moietyref03_only_l1 ⟨#[108]⟩ (Int.toNat (((⟨#[108]⟩ : ByteArray).size : Int) - (0 : Int)) + 1) false false false false false 0 = some (false, false, false, false, true) := by kernel_rfl
def checkD (t n b r l : Bool) (a : api_Record) : Int :=
  if onlyB t n b r l a = false then 4
  else if (64 : Int) < a.Text.size then 3
  else if b = true ∧ (a.Low < -2305843009213693952 ∨ 2305843009213693952 < a.High ∨ a.Num < a.Low ∨ a.High < a.Num) then 1
  else if a.Real ≠ canon a.Real then 4
  else if l = false then 0
  else if a.Cap < 1 ∨ 32 < a.Cap then 1
  else if a.Cap < a.List.length then 8
  else firstC a.Kind a.List 0 a.List.length
theorem check_shape {a : api_Record} (ha : RecOk a) {t n b r l : Bool} (hk : ¬ (a.Kind ≤ 0 ∨ 10 ≤ a.Kind)) (hs : rec_shaped a.Kind = some ⟨t, n, b, r, l⟩) : rec_Check a = some (checkD t n b r l a) := by
  unfold rec_Check checkD
  rw [hs]
  simp only [Option.bind_some]
  rw [bare_eq ha, proper_eq ha.real, items_eq ha.len ha.sc]
  simp only [Option.bind_some]
  rw [if_neg (by simpa using hk)]
  by_cases h1 : onlyB t n b r l a = false
  · rw [if_pos h1, if_pos (by simp [h1])]
  · rw [if_neg h1, if_neg (by simpa using h1)]
    by_cases h2 : (64 : Int) < a.Text.size
    · rw [if_pos h2, if_pos (by simpa using h2)]
    · rw [if_neg h2, if_neg (by simpa using h2)]
      by_cases h3 : b = true ∧ (a.Low < -2305843009213693952 ∨ 2305843009213693952 < a.High ∨ a.Num < a.Low ∨ a.High < a.Num)
      · rw [if_pos h3, if_pos (by simpa [or_assoc] using h3)]
      · rw [if_neg h3, if_neg (by simpa [or_assoc] using h3)]
        by_cases h4 : a.Real = canon a.Real
        · rw [if_neg (show ¬ (a.Real ≠ canon a.Real) from fun h => h h4), decide_eq_true h4]
          simp only [Bool.not_true, Bool.false_eq_true, if_false]
          cases l
          · simp
          · simp only [Bool.not_true, Bool.false_eq_true, if_false, Bool.true_eq_false]
            by_cases h5 : a.Cap < 1 ∨ 32 < a.Cap
            · rw [if_pos h5, if_pos (by simpa using h5)]
            · rw [if_neg h5, if_neg (by simpa using h5)]
              by_cases h6 : a.Cap < a.List.length
              · rw [if_pos h6, if_pos (by simpa using h6)]
              · rw [if_neg h6, if_neg (by simpa using h6)]
        · rw [if_pos (show a.Real ≠ canon a.Real from h4), decide_eq_false h4]
          rfl
theorem shape1 : rec_shaped 1 = some ⟨true, false, false, false, false⟩ := by kernel_rfl
theorem shape2 : rec_shaped 2 = some ⟨false, true, false, false, false⟩ := by kernel_rfl
theorem shape3 : rec_shaped 3 = some ⟨false, true, false, false, false⟩ := by kernel_rfl
theorem shape4 : rec_shaped 4 = some ⟨false, true, true, false, false⟩ := by kernel_rfl
theorem shape5 : rec_shaped 5 = some ⟨false, false, false, true, false⟩ := by kernel_rfl
theorem shape6 : rec_shaped 6 = some ⟨false, false, false, true, false⟩ := by kernel_rfl
theorem shape7 : rec_shaped 7 = some ⟨false, false, false, true, false⟩ := by kernel_rfl
theorem shape8 : rec_shaped 8 = some ⟨false, false, false, false, true⟩ := by kernel_rfl
theorem shape9 : rec_shaped 9 = some ⟨false, false, false, false, true⟩ := by kernel_rfl
/-- .. and the document's. -/
def rcheckD (t n b r l : Bool) (k : Int) (a : api_Record) : Int :=
  if onlyB t n b r l a = false then 4
  else if k = 1 ∧ (64 : Int) < a.Text.size then 3
  else if k = 4 ∧ (a.Low < -2305843009213693952 ∨ 2305843009213693952 < a.High ∨ a.Num < a.Low ∨ a.High < a.Num) then 1
  else if a.Real ≠ canon a.Real then 4
  else if k < 8 then 0
  else if a.Cap < 1 ∨ 32 < a.Cap then 1
  else if a.Cap < a.List.length then 8
  else firstC a.Kind a.List 0 a.List.length
theorem rcheck_shape {a : api_Record} (ha : RecOk a) {t n b r l : Bool} {s : ByteArray} (hk : ¬ (a.Kind < 1 ∨ 9 < a.Kind)) (hf : moietyref03_Fields a.Kind = some s)
    (ho : moietyref03_only_l1 s (Int.toNat ((s.size : Int) - (0 : Int)) + 1) false false false false false 0 = some (t, n, b, r, l)) : moietyref03_Check a = some (rcheckD t n b r l a.Kind a) := by
  unfold moietyref03_Check rcheckD
  have hw : IntKind.i64.wrap (0 - (2305843009213693952 : Int)) = -2305843009213693952 := by decide
  rw [hf, rproper_eq ha.real, hw, show (Int.toNat ((a.List.length : Int) - (0 : Int)) + 1) = a.List.length + 1 by omega]
  have hloop := ritems_loop ha a.List.length 0 (by omega)
  rw [show ((0 : Nat) : Int) = 0 from rfl] at hloop
  rw [hloop]
  simp only [Option.bind_some]
  rw [if_neg (by simpa using hk), only_eq ha ho]
  simp only [Option.bind_some]
  by_cases h1 : onlyB t n b r l a = false
  · rw [if_pos h1, if_pos (by simp [h1])]
  · rw [if_neg h1, if_neg (by simpa using h1)]
    by_cases h2 : a.Kind = 1 ∧ (64 : Int) < a.Text.size
    · rw [if_pos h2, if_pos (by simpa using h2)]
    · rw [if_neg h2, if_neg (by simpa using h2)]
      by_cases h3 : a.Kind = 4 ∧ (a.Low < -2305843009213693952 ∨ 2305843009213693952 < a.High ∨ a.Num < a.Low ∨ a.High < a.Num)
      · rw [if_pos h3, if_pos (by simpa [or_assoc] using h3)]
      · rw [if_neg h3, if_neg (by simpa [or_assoc] using h3)]
        by_cases h4 : a.Real = canon a.Real
        · rw [if_neg (show ¬ (a.Real ≠ canon a.Real) from fun h => h h4), decide_eq_true h4]
          simp only [Bool.not_true, Bool.false_eq_true, if_false]
          by_cases h7 : a.Kind < 8
          · rw [if_pos h7, if_pos (by simpa using h7)]
          · rw [if_neg h7, if_neg (by simpa using h7)]
            by_cases h5 : a.Cap < 1 ∨ 32 < a.Cap
            · rw [if_pos h5, if_pos (by simpa using h5)]
            · rw [if_neg h5, if_neg (by simpa using h5)]
              by_cases h6 : a.Cap < a.List.length
              · rw [if_pos h6, if_pos (by simpa using h6)]
              · rw [if_neg h6, if_neg (by simpa using h6)]
                unfold endC
                by_cases h : firstC a.Kind a.List 0 a.List.length = 0 <;> simp [h]
        · rw [if_pos (show a.Real ≠ canon a.Real from h4), decide_eq_false h4]
          rfl
theorem text_of {t n b r l : Bool} {a : api_Record} (h : ¬ onlyB t n b r l a = false) (ht : t = false) : a.Text.size = 0 := by
  subst ht
  have : onlyB false n b r l a = true := by simpa using h
  unfold onlyB at this
  simp only [Bool.false_or, Bool.and_eq_true] at this
  have := sEq_iff.1 this.1.1.1.1
  rw [this]; rfl
theorem D_eq (t n b r l : Bool) (k : Int) (a : api_Record) (ht : t = true ↔ k = 1) (hb : b = true ↔ k = 4) (hl : l = false ↔ k < 8) : rcheckD t n b r l k a = checkD t n b r l a := by
  unfold rcheckD checkD
  by_cases h1 : onlyB t n b r l a = false
  · rw [if_pos h1, if_pos h1]
  · rw [if_neg h1, if_neg h1]
    have e2 : (k = 1 ∧ (64 : Int) < a.Text.size) ↔ (64 : Int) < a.Text.size := by
      constructor
      · exact fun h => h.2
      · intro h
        refine ⟨ht.1 ?_, h⟩
        cases t
        · have := text_of h1 rfl; omega
        · rfl
    simp only [e2, hb, hl]
/-- **May a record be: the program says what the document says.** -/
theorem check_both {a : api_Record} (ha : RecOk a) : ∃ c, rec_Check a = some c ∧ moietyref03_Check a = some c := by
  by_cases hk : a.Kind ≤ 0 ∨ 10 ≤ a.Kind
  · refine ⟨5, ?_, ?_⟩
    · unfold rec_Check
      have hs : ∃ s, rec_shaped a.Kind = some s := by
        have h1 : ¬ a.Kind = 1 := by omega
        have h2 : ¬ a.Kind = 2 := by omega
        have h3 : ¬ a.Kind = 3 := by omega
        have h4 : ¬ a.Kind = 4 := by omega
        have h5 : ¬ a.Kind = 5 := by omega
        have h6 : ¬ a.Kind = 6 := by omega
        have h7 : ¬ a.Kind = 7 := by omega
        have h8 : ¬ a.Kind = 8 := by omega
        have h9 : ¬ a.Kind = 9 := by omega
        exact ⟨⟨false, false, false, false, false⟩, by simp [rec_shaped, rec_shaped_j1, rec_shaped_j2, rec_shaped_j3, h1, h2, h3, h4, h5, h6, h7, h8, h9]⟩
      obtain ⟨s, hs⟩ := hs
      rw [hs]
      simp only [Option.bind_some]
      rw [if_pos (by simpa using hk)]
    · unfold moietyref03_Check
      rw [if_pos (by simp; omega)]
  · have hk2 : ¬ (a.Kind < 1 ∨ 9 < a.Kind) := by omega
    have hk' : a.Kind = 1 ∨ a.Kind = 2 ∨ a.Kind = 3 ∨ a.Kind = 4 ∨ a.Kind = 5 ∨ a.Kind = 6 ∨ a.Kind = 7 ∨ a.Kind = 8 ∨ a.Kind = 9 := by omega
    rcases hk' with h | h | h | h | h | h | h | h | h
    · exact ⟨_, check_shape ha hk (by rw [h]; exact shape1), by rw [rcheck_shape ha hk2 (by rw [h]; kernel_rfl) onl_t, D_eq _ _ _ _ _ _ _ (by simp [h]) (by simp [h]) (by simp [h])]⟩
    · exact ⟨_, check_shape ha hk (by rw [h]; exact shape2), by rw [rcheck_shape ha hk2 (by rw [h]; kernel_rfl) onl_n, D_eq _ _ _ _ _ _ _ (by simp [h]) (by simp [h]) (by simp [h])]⟩
    · exact ⟨_, check_shape ha hk (by rw [h]; exact shape3), by rw [rcheck_shape ha hk2 (by rw [h]; kernel_rfl) onl_n, D_eq _ _ _ _ _ _ _ (by simp [h]) (by simp [h]) (by simp [h])]⟩
    · exact ⟨_, check_shape ha hk (by rw [h]; exact shape4), by rw [rcheck_shape ha hk2 (by rw [h]; kernel_rfl) onl_nb, D_eq _ _ _ _ _ _ _ (by simp [h]) (by simp [h]) (by simp [h])]⟩
    · exact ⟨_, check_shape ha hk (by rw [h]; exact shape5), by rw [rcheck_shape ha hk2 (by rw [h]; kernel_rfl) onl_r, D_eq _ _ _ _ _ _ _ (by simp [h]) (by simp [h]) (by simp [h])]⟩
    · exact ⟨_, check_shape ha hk (by rw [h]; exact shape6), by rw [rcheck_shape ha hk2 (by rw [h]; kernel_rfl) onl_r, D_eq _ _ _ _ _ _ _ (by simp [h]) (by simp [h]) (by simp [h])]⟩
    · exact ⟨_, check_shape ha hk (by rw [h]; exact shape7), by rw [rcheck_shape ha hk2 (by rw [h]; kernel_rfl) onl_r, D_eq _ _ _ _ _ _ _ (by simp [h]) (by simp [h]) (by simp [h])]⟩
    · exact ⟨_, check_shape ha hk (by rw [h]; exact shape8), by rw [rcheck_shape ha hk2 (by rw [h]; kernel_rfl) onl_l, D_eq _ _ _ _ _ _ _ (by simp [h]) (by simp [h]) (by simp [h])]⟩
    · exact ⟨_, check_shape ha hk (by rw [h]; exact shape9), by rw [rcheck_shape ha hk2 (by rw [h]; kernel_rfl) onl_l, D_eq _ _ _ _ _ _ _ (by simp [h]) (by simp [h]) (by simp [h])]⟩
end Go.CL

/- The same records: rec.Same = moietyref03.Same; what is too big. -/
set_option linter.unusedVariables false
set_option linter.unusedSimpArgs false
namespace Go.CL
open Go

def endB : Bool → Bool ⊕ Unit
  | true => .inr ()
  | false => .inl false
def eqI (x y : api_Item) : Bool := sEq x.Name y.Name && decide (keyf x.Score = keyf y.Score)
def eqL : List api_Item → List api_Item → Bool
  | [], [] => true
  | x :: xs, y :: ys => eqI x y && eqL xs ys
  | _, _ => false
def sameR (a b : api_Record) : Bool := (a.Kind == b.Kind) && (a.Num == b.Num) && (a.Low == b.Low) && (a.High == b.High) && decide (keyf a.Real = keyf b.Real) && (a.Cap == b.Cap) && sEq a.Text b.Text && eqL a.List b.List
theorem eqL_len : ∀ {a b : List api_Item}, eqL a b = true → a.length = b.length
  | [], [], _ => rfl
  | x :: xs, y :: ys, h => by
    simp only [eqL, Bool.and_eq_true] at h
    simp [eqL_len h.2]
  | [], _ :: _, h => by simp [eqL] at h
  | _ :: _, [], h => by simp [eqL] at h
theorem same1_eq {x y : api_Item} (hx : x.Score < W64) (hy : y.Score < W64) : rec_Same_1 x y = some (eqI x y) := by
  unfold rec_Same_1 eqI
  rw [same_eq hx hy]
  cases sEq x.Name y.Name <;> simp [gd]
theorem eqf_loop {a b : List api_Item} (ha : ∀ e ∈ a, e.Score < W64) (hb : ∀ e ∈ b, e.Score < W64) (hl : a.length < 4611686018427387904) (he : a.length = b.length) : ∀ (n i : Nat), i + n = a.length →
    slices_EqualFunc_api_Item_api_Item_api_Item_api_Item_l1 a b (fun y0 y1 => rec_Same_1 y0 y1) (n + 1) (i : Int) = some (endB (eqL (a.drop i) (b.drop i)))
  | 0, i, h => by
    rw [slices_EqualFunc_api_Item_api_Item_api_Item_api_Item_l1, if_neg (by simp; omega), List.drop_of_length_le (by omega), List.drop_of_length_le (by omega)]
    rfl
  | n + 1, i, h => by
    have h1 : i < a.length := by omega
    have h2 : i < b.length := by omega
    rw [slices_EqualFunc_api_Item_api_Item_api_Item_api_Item_l1, if_pos (by simp; omega), idx_lt h1, idx_lt h2, wr1 (by omega)]
    simp only [Option.bind_some]
    rw [same1_eq (ha _ (List.getElem_mem h1)) (hb _ (List.getElem_mem h2)), List.drop_eq_getElem_cons h1, List.drop_eq_getElem_cons h2]
    simp only [Option.bind_some, eqL]
    cases hq : eqI a[i] b[i]
    · simp [endB]
    · simp only [Bool.not_true, Bool.false_eq_true, if_false, Bool.true_and]
      exact eqf_loop ha hb hl he n (i + 1) (by omega)
theorem eqf_eq {a b : List api_Item} (ha : ∀ e ∈ a, e.Score < W64) (hb : ∀ e ∈ b, e.Score < W64) (hl : a.length < 4611686018427387904) : slices_EqualFunc_api_Item_api_Item_api_Item_api_Item a b (fun y0 y1 => rec_Same_1 y0 y1) = some (eqL a b) := by
  unfold slices_EqualFunc_api_Item_api_Item_api_Item_api_Item
  by_cases he : a.length = b.length
  · rw [if_neg (by simp; omega), show (Int.toNat ((a.length : Int) - (0 : Int)) + 1) = a.length + 1 by omega]
    have := eqf_loop ha hb hl he a.length 0 (by omega)
    rw [show ((0 : Nat) : Int) = 0 from rfl] at this
    rw [this]
    simp only [List.drop_zero]
    cases eqL a b <;> simp [endB]
  · rw [if_pos (by simp; omega)]
    cases h : eqL a b
    · rfl
    · exact absurd (eqL_len h) he
theorem same_rec {a b : api_Record} (ha : RecOk a) (hb : RecOk b) : rec_Same a b = some (sameR a b) := by
  unfold rec_Same sameR
  rw [same_eq ha.real hb.real, eqf_eq ha.sc hb.sc ha.len]
  generalize (a.Kind == b.Kind) = x1
  generalize (a.Num == b.Num) = x2
  generalize (a.Low == b.Low) = x3
  generalize (a.High == b.High) = x4
  generalize decide (keyf a.Real = keyf b.Real) = x5
  generalize (a.Cap == b.Cap) = x6
  generalize sEq a.Text b.Text = x7
  generalize eqL a.List b.List = x8
  revert x1 x2 x3 x4 x5 x6 x7 x8
  decide
theorem rsame_loop {a b : api_Record} (ha : RecOk a) (hb : RecOk b) (he : a.List.length = b.List.length) : ∀ (n i : Nat), i + n = a.List.length →
    moietyref03_Same_l1 a b (n + 1) (i : Int) = some (endB (eqL (a.List.drop i) (b.List.drop i)))
  | 0, i, h => by
    rw [moietyref03_Same_l1, if_neg (by simp; omega), List.drop_of_length_le (by omega), List.drop_of_length_le (by omega)]
    rfl
  | n + 1, i, h => by
    have h1 : i < a.List.length := by omega
    have h2 : i < b.List.length := by omega
    have hl := ha.len
    have hs1 := ha.sc _ (List.getElem_mem h1)
    have hs2 := hb.sc _ (List.getElem_mem h2)
    rw [moietyref03_Same_l1, if_pos (by simp; omega), idx_lt h1, idx_lt h2, wr1 (by omega), List.drop_eq_getElem_cons h1, List.drop_eq_getElem_cons h2]
    simp only [Option.bind_some, eqL, eqI]
    cases hn : sEq a.List[i].Name b.List[i].Name
    · simp [gd, endB]
    · simp only [Bool.not_true, Bool.not_false, gd_t, Option.bind_some]
      rw [rsame_eq hs1 hs2]
      simp only [Option.bind_some, Bool.false_or, Bool.true_and]
      by_cases hk : keyf a.List[i].Score = keyf b.List[i].Score
      · simp only [hk, decide_true, Bool.not_true, Bool.false_eq_true, if_false, Bool.true_and]
        exact rsame_loop ha hb he n (i + 1) (by omega)
      · simp [hk, endB]
theorem rsame_rec {a b : api_Record} (ha : RecOk a) (hb : RecOk b) : moietyref03_Same a b = some (sameR a b) := by
  unfold moietyref03_Same sameR
  rw [rsame_eq ha.real hb.real]
  by_cases he : a.List.length = b.List.length
  · have := rsame_loop ha hb he a.List.length 0 (by omega)
    rw [show ((0 : Nat) : Int) = 0 from rfl] at this
    rw [show (Int.toNat ((a.List.length : Int) - (0 : Int)) + 1) = a.List.length + 1 by omega, this]
    have hn : ((a.List.length : Int) != (b.List.length : Int)) = false := by simp; omega
    rw [hn]
    simp only [List.drop_zero, bne]
    generalize (a.Kind == b.Kind) = x1
    generalize (a.Num == b.Num) = x2
    generalize (a.Low == b.Low) = x3
    generalize (a.High == b.High) = x4
    generalize decide (keyf a.Real = keyf b.Real) = x5
    generalize (a.Cap == b.Cap) = x6
    generalize sEq a.Text b.Text = x7
    generalize eqL a.List b.List = x8
    clear this hn he
    revert x1 x2 x3 x4 x5 x6 x7 x8
    decide
  · have h8 : eqL a.List b.List = false := by
      cases h : eqL a.List b.List
      · rfl
      · exact absurd (eqL_len h) he
    have hn : ((a.List.length : Int) != (b.List.length : Int)) = true := by simp; omega
    rw [hn, h8]
    simp only [bne, Bool.or_true, Option.bind_some, if_true, Bool.and_false, ite_self]
/-! ### too big -/
theorem big03_loop {a : api_Record} (hl : a.List.length ≤ 9223372036854775807) : ∀ (n i : Nat), i + n = a.List.length → ∃ z, moietylaw03_Big_l1 a (n + 1) (i : Int) = some z ∧ (z = .inl 1 ∨ z = .inr ())
  | 0, i, h => by
    rw [moietylaw03_Big_l1, if_neg (by simp; omega)]
    exact ⟨_, rfl, .inr rfl⟩
  | n + 1, i, h => by
    rw [moietylaw03_Big_l1, if_pos (by simp; omega), idx_lt (by omega), wr1 (by omega)]
    simp only [Option.bind_some]
    split
    · exact ⟨_, rfl, .inl rfl⟩
    · exact big03_loop hl n (i + 1) (by omega)
/-- Of a record that isn't too big: its list has no more than 100 items. -/
theorem big03 {a : api_Record} (hl : a.List.length ≤ 9223372036854775807) : ∃ c, moietylaw03_Big a = some c ∧ (c = 0 ∨ c = 1) ∧ (c = 0 → a.List.length ≤ 100) := by
  unfold moietylaw03_Big
  by_cases h : (100 : Int) < a.List.length ∨ (1000 : Int) < a.Text.size
  · rw [if_pos (by simpa using h)]
    exact ⟨1, rfl, .inr rfl, fun h => by cases h⟩
  · rw [if_neg (by simpa using h), show (Int.toNat ((a.List.length : Int) - (0 : Int)) + 1) = a.List.length + 1 by omega]
    obtain ⟨z, hz, hc⟩ := big03_loop hl a.List.length 0 (by omega)
    rw [show ((0 : Nat) : Int) = 0 from rfl] at hz
    rw [hz]
    rcases hc with rfl | rfl
    · exact ⟨1, rfl, .inr rfl, fun h => by cases h⟩
    · exact ⟨0, rfl, .inl rfl, fun _ => by omega⟩
end Go.CL

/- The shelf's tree is a list in order. -/
set_option linter.unusedVariables false
set_option linter.unusedSimpArgs false
namespace Go.CL
open Go

abbrev KV := ByteArray × api_Record
def toL : shelf_nodeT → List KV
  | .nil => []
  | .node k r l rr _ => toL l ++ (k, r) :: toL rr
def Szd : shelf_nodeT → Prop
  | .nil => True
  | .node k r l rr s => Szd l ∧ Szd rr ∧ s = (((toL l).length + (toL rr).length + 1 : Nat) : Int)
def Srt (l : List KV) : Prop := l.Pairwise fun p q => sLt p.1 q.1 = true
theorem count_eq {t : shelf_nodeT} (h : Szd t) : shelf_node_count t = some ((toL t).length : Int) := by
  cases t with
  | nil => rfl
  | node k r l rr s =>
    obtain ⟨_, _, h3⟩ := h
    simp [shelf_node_count, shelf_nodeT.isNil, shelf_nodeT.un, toL, h3]
    omega
theorem made_eq {k : ByteArray} {x : api_Record} {l r : shelf_nodeT} (hl : Szd l) (hr : Szd r) (bl : (toL l).length < 1099511627776) (br : (toL r).length < 1099511627776) :
    shelf_made k x l r = some (.node k x l r (((toL l).length + (toL r).length + 1 : Nat) : Int)) := by
  unfold shelf_made
  rw [count_eq hl, count_eq hr]
  simp only [Option.bind_some, shelf_node.up]
  rw [wr (x := (toL l).length + (toL r).length) (by omega) (by omega), wr (by omega) (by omega)]
  rfl
theorem made_ok {k : ByteArray} {x : api_Record} {l r : shelf_nodeT} (hl : Szd l) (hr : Szd r) (bl : (toL l).length < 1099511627776) (br : (toL r).length < 1099511627776) :
    ∃ t, shelf_made k x l r = some t ∧ Szd t ∧ toL t = toL l ++ (k, x) :: toL r := ⟨_, made_eq hl hr bl br, ⟨hl, hr, rfl⟩, rfl⟩
def heavyB (a b : shelf_nodeT) : Bool := decide (3 * ((toL b).length + 1) < (toL a).length + 1)
theorem heavy_eq {a b : shelf_nodeT} (ha : Szd a) (hb : Szd b) (ba : (toL a).length < 1099511627776) (bb : (toL b).length < 1099511627776) : shelf_heavy a b = some (heavyB a b) := by
  unfold shelf_heavy heavyB
  rw [count_eq ha, count_eq hb]
  simp only [Option.bind_some]
  rw [wr (x := ((toL b).length : Int) + 1) (by omega) (by omega), wr (x := ((toL a).length : Int) + 1) (by omega) (by omega), wr (by omega) (by omega)]
  congr 1
  apply decide_eq_decide.2
  omega
theorem nonnil {t : shelf_nodeT} (h : 0 < (toL t).length) : ∃ k r l rr s, t = .node k r l rr s := by
  cases t with
  | nil => simp [toL] at h
  | node k r l rr s => exact ⟨k, r, l, rr, s, rfl⟩
theorem even_ok {k : ByteArray} {x : api_Record} {l r : shelf_nodeT} (hl : Szd l) (hr : Szd r) (bl : (toL l).length < 1099511627776) (br : (toL r).length < 1099511627776) (bs : (toL l).length + (toL r).length + 1 < 1099511627776) :
    ∃ t, shelf_even k x l r = some t ∧ Szd t ∧ toL t = toL l ++ (k, x) :: toL r := by
  unfold shelf_even
  rw [heavy_eq hr hl br bl, heavy_eq hl hr bl br]
  simp only [Option.bind_some]
  by_cases h1 : heavyB r l = true
  · have hlen : 0 < (toL r).length := by
      unfold heavyB at h1
      have := of_decide_eq_true h1
      omega
    obtain ⟨rk, rx, rl, rr, rs, rfl⟩ := nonnil hlen
    obtain ⟨s1, s2, s3⟩ := hr
    have e : (toL (shelf_nodeT.node rk rx rl rr rs)).length = (toL rl).length + (toL rr).length + 1 := by simp [toL]; omega
    rw [e] at br bs
    simp only [h1, gd_t, shelf_nodeT.un, Option.bind_some, if_true]
    rw [count_eq s1, count_eq s2]
    simp only [Option.bind_some, Bool.true_and]
    by_cases h2 : (decide (IntKind.i64.wrap (((toL rl).length : Int) + 1) < IntKind.i64.wrap (2 * IntKind.i64.wrap (((toL rr).length : Int) + 1)))) = true
    · rw [if_pos h2]
      obtain ⟨t1, e1, z1, l1⟩ := made_ok (k := k) (x := x) hl s1 bl (by omega)
      have b1 : (toL t1).length < 1099511627776 := by rw [l1]; simp; omega
      obtain ⟨t2, e2, z2, l2⟩ := made_ok (k := rk) (x := rx) z1 s2 b1 (by omega)
      exact ⟨t2, by rw [e1]; simp only [Option.bind_some]; rw [e2]; rfl, z2, by rw [l2, l1]; simp [toL]⟩
    · rw [if_neg h2]
      have hlen2 : 0 < (toL rl).length := by
        rw [wr (x := ((toL rr).length : Int) + 1) (by omega) (by omega), wr (x := ((toL rl).length : Int) + 1) (by omega) (by omega), wr (by omega) (by omega)] at h2
        have : ¬ ((toL rl).length : Int) + 1 < 2 * ((toL rr).length + 1) := by simpa using h2
        omega
      obtain ⟨lk, lx, ll, lr, ls, rfl⟩ := nonnil hlen2
      obtain ⟨q1, q2, q3⟩ := s1
      have e' : (toL (shelf_nodeT.node lk lx ll lr ls)).length = (toL ll).length + (toL lr).length + 1 := by simp [toL]; omega
      rw [e'] at br bs
      simp only [shelf_nodeT.un, Option.bind_some]
      obtain ⟨t1, e1, z1, l1⟩ := made_ok (k := k) (x := x) hl q1 bl (by omega)
      obtain ⟨t2, e2, z2, l2⟩ := made_ok (k := rk) (x := rx) q2 s2 (by omega) (by omega)
      have b1 : (toL t1).length < 1099511627776 := by rw [l1]; simp; omega
      have b2 : (toL t2).length < 1099511627776 := by rw [l2]; simp; omega
      obtain ⟨t3, e3, z3, l3⟩ := made_ok (k := lk) (x := lx) z1 z2 b1 b2
      exact ⟨t3, by rw [e1]; simp only [Option.bind_some]; rw [e2]; simp only [Option.bind_some]; rw [e3]; rfl, z3, by rw [l3, l1, l2]; simp [toL]⟩
  · have h1' : heavyB r l = false := by simpa using h1
    simp only [h1', gd_f, Option.bind_some, Bool.false_and, Bool.false_eq_true, if_false]
    by_cases h3 : heavyB l r = true
    · have hlen : 0 < (toL l).length := by
        unfold heavyB at h3
        have := of_decide_eq_true h3
        omega
      obtain ⟨rk, rx, rl, rr, rs, rfl⟩ := nonnil hlen
      obtain ⟨s1, s2, s3⟩ := hl
      have e : (toL (shelf_nodeT.node rk rx rl rr rs)).length = (toL rl).length + (toL rr).length + 1 := by simp [toL]; omega
      rw [e] at bl bs
      simp only [h3, gd_t, shelf_nodeT.un, Option.bind_some, if_true]
      rw [count_eq s2, count_eq s1]
      simp only [shelf_node_count, shelf_nodeT.isNil, if_true, Option.bind_some, Bool.true_and]
      by_cases h2 : (decide (IntKind.i64.wrap (((toL rr).length : Int) + 1) < IntKind.i64.wrap (2 * IntKind.i64.wrap (((toL rl).length : Int) + 1)))) = true
      · rw [if_pos h2]
        obtain ⟨t1, e1, z1, l1⟩ := made_ok (k := k) (x := x) s2 hr (by omega) br
        have b1 : (toL t1).length < 1099511627776 := by rw [l1]; simp; omega
        obtain ⟨t2, e2, z2, l2⟩ := made_ok (k := rk) (x := rx) s1 z1 (by omega) b1
        exact ⟨t2, by rw [e1]; simp only [Option.bind_some]; rw [e2]; rfl, z2, by rw [l2, l1]; simp [toL]⟩
      · rw [if_neg h2]
        have hlen2 : 0 < (toL rr).length := by
          rw [wr (x := ((toL rl).length : Int) + 1) (by omega) (by omega), wr (x := ((toL rr).length : Int) + 1) (by omega) (by omega), wr (by omega) (by omega)] at h2
          have : ¬ ((toL rr).length : Int) + 1 < 2 * ((toL rl).length + 1) := by simpa using h2
          omega
        obtain ⟨lk, lx, ll, lr, ls, rfl⟩ := nonnil hlen2
        obtain ⟨q1, q2, q3⟩ := s2
        have e' : (toL (shelf_nodeT.node lk lx ll lr ls)).length = (toL ll).length + (toL lr).length + 1 := by simp [toL]; omega
        rw [e'] at bl bs
        simp only [shelf_nodeT.un, Option.bind_some]
        obtain ⟨t1, e1, z1, l1⟩ := made_ok (k := rk) (x := rx) s1 q1 (by omega) (by omega)
        obtain ⟨t2, e2, z2, l2⟩ := made_ok (k := k) (x := x) q2 hr (by omega) br
        have b1 : (toL t1).length < 1099511627776 := by rw [l1]; simp; omega
        have b2 : (toL t2).length < 1099511627776 := by rw [l2]; simp; omega
        obtain ⟨t3, e3, z3, l3⟩ := made_ok (k := lk) (x := lx) z1 z2 b1 b2
        exact ⟨t3, by rw [e1]; simp only [Option.bind_some]; rw [e2]; simp only [Option.bind_some]; rw [e3]; rfl, z3, by rw [l3, l1, l2]; simp [toL]⟩
    · have h3' : heavyB l r = false := by simpa using h3
      simp only [h3', gd_f, Option.bind_some, Bool.false_and, Bool.false_eq_true, if_false]
      obtain ⟨t1, e1, z1, l1⟩ := made_ok (k := k) (x := x) hl hr bl br
      exact ⟨t1, by rw [e1]; simp [shelf_node_count, shelf_nodeT.isNil, shelf_nodeT.un, Option.bind_some, gd], z1, l1⟩
end Go.CL
