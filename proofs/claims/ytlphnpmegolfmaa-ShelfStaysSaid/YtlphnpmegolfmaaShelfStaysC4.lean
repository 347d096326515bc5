/- A part of the proof of ShelfStays. -/
import Derived.Test.YtlphnpmegolfmaaShelfStaysC3
set_option linter.unusedVariables false
set_option linter.unusedSimpArgs false
set_option maxRecDepth 100000
namespace Go.CL
open Go Go.RowKit Go.Proofs
theorem shelf_even_ok (a0 : ByteArray) (a1 : api_Record) (a2 : shelf_nodeT) (a3 : shelf_nodeT) {r : shelf_nodeT} (h : shelf_even a0 a1 a2 a3 = some r) : FnOk Try.prog 52 [(pStr a0), (k_api_Record.pd a1), (k_shelf_nodeT.pd a2), (k_shelf_nodeT.pd a3)] (k_shelf_nodeT.pd r) := by
  have H0 := h
  unfold shelf_even at H0
  clear h
  refine fn_ok (N := 182) Try.func52 rfl rfl (Nat.le_of_ble_eq_true rfl) rfl rfl (fun a g0 hst hb => ?_)
  refine r_s (L := [(0, _), (1, _), (2, _), (3, _)]) (T := [⟨[.old 1], _, [], [], [5]⟩, ⟨[], [(8, (k_shelf_nodeT.pd shelf_nodeT.nil))], [], [], [8]⟩]) (F := [.old 0, .old 2, .old 3, .op 0 0]) hst hb follows
    (o_p rfl (ob_box1 rfl rfl u_0) <|
     o_p rfl (ob_assign rfl rfl (Opd.c (fun g => k_shelf_nodeT_nil_q g))) <|
     o_n) (by kernel_rfl) (fun a g hst hb => ?_)
  refine wp_seq ?_
  refine wp_block ?_
  obtain ⟨r1, h2, H0⟩ := of_bind H0; obtain ⟨n3, h4, H0⟩ := of_bind H0; obtain ⟨r5, h6, H0⟩ := of_bind H0; obtain ⟨n7, h8, H0⟩ := of_bind H0; obtain ⟨r9, h10, H0⟩ := of_bind H0
  refine r_s (L := [(0, _), (2, _), (3, _), (5, _)]) (T := ⟨[.old 2], _, [], [], [12]⟩ :: ⟨[.old 1], _, [], [], [13]⟩ :: ⟨[.op 0 0, .op 1 0], _, [], [0, 1], [14]⟩ :: ⟨[.op 2 0], _, [], [0, 1, 2], [15]⟩ :: ⟨[.op 3 0, .old 2], _, [], List.range 4, [16]⟩ :: ⟨[.op 3 0, .op 4 0], _, [], List.range 5, [17]⟩ :: ⟨[.op 3 0, .op 5 0], _, [], List.range 6, [18]⟩ :: ⟨[.op 3 0, .op 6 0], _, [], List.range 7, [19]⟩ :: ⟨[.op 3 0, .op 7 0], _, [], List.range 8, [20]⟩ :: ⟨[.op 3 0, .op 8 0], _, [], List.range 9, [21]⟩ :: ⟨[.op 3 0, .old 2], _, [], List.range 4, [22]⟩ :: ⟨[.op 3 0, .op 10 0], _, [], [0, 1, 2, 3, 10], [23]⟩ :: ⟨[.op 3 0, .op 11 0], _, [], [0, 1, 2, 3, 10, 11], [24]⟩ :: ⟨[.op 3 0, .op 12 0], _, [], [0, 1, 2, 3, 10, 11, 12], [25]⟩ :: ⟨[.op 3 0, .op 13 0], _, [], 0 :: 1 :: 2 :: 3 :: 4 :: 5 :: 6 :: 7 :: 8 :: 10 :: 11 :: 12 :: 13 :: [], [26]⟩ :: ⟨[.op 3 0, .op 14 0], _, [], 0 :: 1 :: 2 :: 3 :: 4 :: 5 :: 6 :: 7 :: 8 :: 10 :: 11 :: 12 :: 13 :: 14 :: [], [27]⟩ :: ⟨[.op 3 0, .op 15 0], _, [], 0 :: 1 :: 2 :: 3 :: 4 :: 5 :: 6 :: 7 :: 8 :: 10 :: 11 :: 12 :: 13 :: 14 :: 15 :: [], [28]⟩ :: ⟨[.op 3 0, .op 9 0, .op 16 0], _, [], List.range 17, [29]⟩ :: ⟨[.op 3 0, .op 17 0], _, [], List.range 18, [30]⟩ :: ⟨[.op 18 0], _, [], List.range 19, [11]⟩ :: []) (F := [.old 0, .old 1, .old 2, .old 3, .op 19 0]) hst hb follows
    (o_p rfl (ob_move rfl rfl u_0) <|
     o_p rfl (ob_move rfl rfl u_0) <|
     o_p rfl (ob_call en_63 (shelf_heavy_ok _ _ h2) rfl rfl (.cons u_0 (.cons u_1 .nil))) <|
     o_p rfl (ob_move rfl rfl u_0) <|
     o_g (g_t rfl rfl rfl (fun hG => ob_move rfl rfl u_0)) <|
     o_g (g_t rfl rfl rfl (fun hG => ob_nilCheck rfl rfl (Opd.imp (Opd.gd hG u_0) (fun _ _ h => shelf_nodeT_node (gd_true h4 hG) h)) (fun _ _ ⟨_, _, _, e, _⟩ => ⟨_, e⟩))) <|
     o_g (g_t rfl rfl rfl (fun hG => ob_fieldAddr fl_75_2 rfl rfl (Opd.gd hG u_0))) <|
     o_g (g_t rfl rfl rfl (fun hG => ob_load ty_26 rfl rfl (Opd.gd hG u_0))) <|
     o_g (g_t rfl rfl rfl (fun hG => ob_call en_33 (shelf_node_count_ok _ (gd_true h6 hG)) rfl rfl (.cons (Opd.gd hG u_0) .nil))) <|
     o_g (g_t rfl rfl rfl (fun hG => ob_add rfl rfl (Opd.gd hG u_0) c_i rfl)) <|
     o_g (g_t rfl rfl rfl (fun hG => ob_move rfl rfl u_0)) <|
     o_g (g_t rfl rfl rfl (fun hG => ob_nilCheck rfl rfl (Opd.imp (Opd.gd hG u_0) (fun _ _ h => shelf_nodeT_node (gd_true h8 hG) h)) (fun _ _ ⟨_, _, _, e, _⟩ => ⟨_, e⟩))) <|
     o_g (g_t rfl rfl rfl (fun hG => ob_fieldAddr fl_75_3 rfl rfl (Opd.gd hG u_0))) <|
     o_g (g_t rfl rfl rfl (fun hG => ob_load ty_26 rfl rfl (Opd.gd hG u_0))) <|
     o_g (g_t rfl rfl rfl (fun hG => ob_call en_33 (shelf_node_count_ok _ (gd_true h10 hG)) rfl rfl (.cons (Opd.gd hG u_0) .nil))) <|
     o_g (g_t rfl rfl rfl (fun hG => ob_add rfl rfl (Opd.gd hG u_0) c_i rfl)) <|
     o_g (g_t rfl rfl rfl (fun hG => ob_mul rfl rfl c_i (Opd.gd hG u_0) rfl)) <|
     o_g (g_t rfl rfl rfl (fun hG => ob_lt rfl rfl (Opd.gd hG u_0) (Opd.gd hG u_1))) <|
     o_p rfl (ob_pand rfl rfl u_0 (fun hz => (Opd.gd hz u_1))) <|
     o_p rfl (ob_assign rfl rfl u_0) <|
     o_n) (by kernel_rfl) (fun a g hst hb => ?_)
  refine wp_cond_split (hst.bool 4 rfl) (fun hc11 => ?_) (fun hc11 => ?_)
  · replace H0 := ite_t hc11 H0
    obtain ⟨n12, h13, H0⟩ := of_bind H0; obtain ⟨r14, h15, H0⟩ := of_bind H0; obtain ⟨r16, h17, H0⟩ := of_bind H0
    refine r_s (L := [(0, _), (2, _), (3, _), (5, _)]) (T := ⟨[.old 2], _, [], [], [31]⟩ :: ⟨[.op 0 0], _, [], [0], [32]⟩ :: ⟨[.op 1 0], _, [], [0, 1], [33]⟩ :: ⟨[.op 2 0], _, [], [0, 1, 2], [34]⟩ :: ⟨[.old 2], _, [], [], [35]⟩ :: ⟨[.op 4 0], _, [], [4], [36]⟩ :: ⟨[.op 5 0], _, [], [4, 5], [37]⟩ :: ⟨[.op 6 0], _, [], [4, 5, 6], [38]⟩ :: ⟨[.old 0], _, [], [], [39]⟩ :: ⟨[.old 3], _, [], [], [40]⟩ :: ⟨[.old 1], _, [], [], [41]⟩ :: ⟨[.old 2], _, [], [], [42]⟩ :: ⟨[.op 11 0], _, [], [11], [43]⟩ :: ⟨[.op 12 0], _, [], [11, 12], [44]⟩ :: ⟨[.op 13 0], _, [], [11, 12, 13], [45]⟩ :: ⟨[.op 8 0, .op 9 0, .op 10 0, .op 14 0], _, [], List.range' 8 7, [46]⟩ :: ⟨[.old 2], _, [], [], [47]⟩ :: ⟨[.op 16 0], _, [], [16], [48]⟩ :: ⟨[.op 17 0], _, [], [16, 17], [49]⟩ :: ⟨[.op 18 0], _, [], [16, 17, 18], [50]⟩ :: ⟨[.op 3 0, .op 7 0, .op 15 0, .op 19 0], _, [], List.range 20, [51]⟩ :: ⟨[.op 20 0], _, [], List.range 21, [8]⟩ :: []) (F := [.op 21 0]) (hst.pick [0, 1, 2, 3] rfl) hb follows
      (o_p rfl (ob_move rfl rfl u_0) <|
       o_p rfl (ob_nilCheck rfl rfl (Opd.imp u_0 (fun _ _ h => shelf_nodeT_node h13 h)) (fun _ _ ⟨_, _, _, e, _⟩ => ⟨_, e⟩)) <|
       o_p rfl (ob_fieldAddr fl_75_0 rfl rfl u_0) <|
       o_p rfl (ob_load ty_9 rfl rfl u_0) <|
       o_p rfl (ob_move rfl rfl u_0) <|
       o_p rfl (ob_nilCheck rfl rfl (Opd.imp u_0 (fun _ _ h => shelf_nodeT_node h13 h)) (fun _ _ ⟨_, _, _, e, _⟩ => ⟨_, e⟩)) <|
       o_p rfl (ob_fieldAddr fl_75_1 rfl rfl u_0) <|
       o_p rfl (ob_load ty_38 rfl rfl u_0) <|
       o_p rfl (ob_move rfl rfl u_0) <|
       o_p rfl (ob_load ty_38 rfl rfl u_0) <|
       o_p rfl (ob_move rfl rfl u_0) <|
       o_p rfl (ob_move rfl rfl u_0) <|
       o_p rfl (ob_nilCheck rfl rfl (Opd.imp u_0 (fun _ _ h => shelf_nodeT_node h13 h)) (fun _ _ ⟨_, _, _, e, _⟩ => ⟨_, e⟩)) <|
       o_p rfl (ob_fieldAddr fl_75_2 rfl rfl u_0) <|
       o_p rfl (ob_load ty_26 rfl rfl u_0) <|
       o_p rfl (ob_call en_51 (shelf_made_ok _ _ _ _ h15) rfl rfl (.cons u_0 (.cons u_1 (.cons u_2 (.cons u_3 .nil))))) <|
       o_p rfl (ob_move rfl rfl u_0) <|
       o_p rfl (ob_nilCheck rfl rfl (Opd.imp u_0 (fun _ _ h => shelf_nodeT_node h13 h)) (fun _ _ ⟨_, _, _, e, _⟩ => ⟨_, e⟩)) <|
       o_p rfl (ob_fieldAddr fl_75_3 rfl rfl u_0) <|
       o_p rfl (ob_load ty_26 rfl rfl u_0) <|
       o_p rfl (ob_call en_51 (shelf_made_ok _ _ _ _ h17) rfl rfl (.cons u_0 (.cons u_1 (.cons u_2 (.cons u_3 .nil))))) <|
       o_p rfl (ob_assign rfl rfl u_0) <|
       o_n) (by kernel_rfl) (fun a g hst hb => ?_)
    refine wp_ret ?_
    refine inBlock_r ?_
    refine then_r ?_
    obtain rfl := Option.some.inj H0
    exact endR1 rfl hst hb (res_tmp (s := 8)) (hst.at 0 rfl)
  · replace H0 := ite_f hc11 H0
    obtain ⟨r18, h19, H0⟩ := of_bind H0
    refine r_s (L := [(0, _), (2, _), (3, _), (5, _)]) (T := [⟨[.old 2], _, [], [], [53]⟩, ⟨[.old 1], _, [], [], [54]⟩, ⟨[.op 0 0, .op 1 0], _, [], [0, 1], [55]⟩, ⟨[.op 2 0], _, [], [0, 1, 2], [52]⟩]) (F := [.old 0, .old 1, .old 2, .old 3, .op 3 0]) (hst.pick [0, 1, 2, 3] rfl) hb follows
      (o_p rfl (ob_move rfl rfl u_0) <|
       o_p rfl (ob_move rfl rfl u_0) <|
       o_p rfl (ob_call en_63 (shelf_heavy_ok _ _ h19) rfl rfl (.cons u_0 (.cons u_1 .nil))) <|
       o_p rfl (ob_assign rfl rfl u_0) <|
       o_n) (by kernel_rfl) (fun a g hst hb => ?_)
    refine wp_cond_split (hst.bool 4 rfl) (fun hc20 => ?_) (fun hc20 => ?_)
    · replace H0 := ite_t hc20 H0
      obtain ⟨n21, h22, H0⟩ := of_bind H0
      refine r_s (L := [(0, _), (2, _), (3, _), (5, _)]) (T := [⟨[.old 2], _, [], [], [56]⟩, ⟨[.op 0 0], _, [], [0], [57]⟩, ⟨[.op 1 0], _, [], [0, 1], [58]⟩, ⟨[.op 2 0], _, [], [0, 1, 2], [59]⟩, ⟨[.op 3 0], _, [], List.range 4, [9]⟩]) (F := [.old 0, .old 1, .old 2, .old 3, .op 4 0]) (hst.pick [0, 1, 2, 3] rfl) hb follows
        (o_p rfl (ob_move rfl rfl u_0) <|
         o_p rfl (ob_nilCheck rfl rfl (Opd.imp u_0 (fun _ _ h => shelf_nodeT_node h22 h)) (fun _ _ ⟨_, _, _, e, _⟩ => ⟨_, e⟩)) <|
         o_p rfl (ob_fieldAddr fl_75_2 rfl rfl u_0) <|
         o_p rfl (ob_load ty_26 rfl rfl u_0) <|
         o_p rfl (ob_assign rfl rfl u_0) <|
         o_n) (by kernel_rfl) (fun a g hst hb => ?_)
      obtain ⟨n23, h24, H0⟩ := of_bind H0; obtain ⟨r25, h26, H0⟩ := of_bind H0; obtain ⟨r27, h28, H0⟩ := of_bind H0; obtain ⟨r29, h30, H0⟩ := of_bind H0
      refine r_s (L := [(0, _), (2, _), (3, _), (5, _), (9, _)]) (T := ⟨[.old 4], _, [], [], [60]⟩ :: ⟨[.op 0 0], _, [], [0], [61]⟩ :: ⟨[.op 1 0], _, [], [0, 1], [62]⟩ :: ⟨[.op 2 0], _, [], [0, 1, 2], [63]⟩ :: ⟨[.old 4], _, [], [], [64]⟩ :: ⟨[.op 4 0], _, [], [4], [65]⟩ :: ⟨[.op 5 0], _, [], [4, 5], [66]⟩ :: ⟨[.op 6 0], _, [], [4, 5, 6], [67]⟩ :: ⟨[.old 0], _, [], [], [68]⟩ :: ⟨[.old 3], _, [], [], [69]⟩ :: ⟨[.old 1], _, [], [], [70]⟩ :: ⟨[.old 4], _, [], [], [71]⟩ :: ⟨[.op 11 0], _, [], [11], [72]⟩ :: ⟨[.op 12 0], _, [], [11, 12], [73]⟩ :: ⟨[.op 13 0], _, [], [11, 12, 13], [74]⟩ :: ⟨[.op 8 0, .op 9 0, .op 10 0, .op 14 0], _, [], List.range' 8 7, [75]⟩ :: ⟨[.old 2], _, [], [], [76]⟩ :: ⟨[.op 16 0], _, [], [16], [77]⟩ :: ⟨[.op 17 0], _, [], [16, 17], [78]⟩ :: ⟨[.op 18 0], _, [], [16, 17, 18], [79]⟩ :: ⟨[.old 2], _, [], [], [80]⟩ :: ⟨[.op 20 0], _, [], [20], [81]⟩ :: ⟨[.op 21 0], _, [], [20, 21], [82]⟩ :: ⟨[.op 22 0], _, [], [20, 21, 22], [83]⟩ :: ⟨[.old 4], _, [], [], [84]⟩ :: ⟨[.op 24 0], _, [], [24], [85]⟩ :: ⟨[.op 25 0], _, [], [24, 25], [86]⟩ :: ⟨[.op 26 0], _, [], [24, 25, 26], [87]⟩ :: ⟨[.old 2], _, [], [], [88]⟩ :: ⟨[.op 28 0], _, [], [28], [89]⟩ :: ⟨[.op 29 0], _, [], [28, 29], [90]⟩ :: ⟨[.op 30 0], _, [], [28, 29, 30], [91]⟩ :: ⟨[.op 19 0, .op 23 0, .op 27 0, .op 31 0], _, [], List.range' 8 24, [92]⟩ :: ⟨[.op 3 0, .op 7 0, .op 15 0, .op 32 0], _, [], List.range 33, [93]⟩ :: ⟨[.op 33 0], _, [], List.range 34, [8]⟩ :: []) (F := [.op 34 0]) hst hb follows
        (o_p rfl (ob_move rfl rfl u_0) <|
         o_p rfl (ob_nilCheck rfl rfl (Opd.imp u_0 (fun _ _ h => shelf_nodeT_node h24 h)) (fun _ _ ⟨_, _, _, e, _⟩ => ⟨_, e⟩)) <|
         o_p rfl (ob_fieldAddr fl_75_0 rfl rfl u_0) <|
         o_p rfl (ob_load ty_9 rfl rfl u_0) <|
         o_p rfl (ob_move rfl rfl u_0) <|
         o_p rfl (ob_nilCheck rfl rfl (Opd.imp u_0 (fun _ _ h => shelf_nodeT_node h24 h)) (fun _ _ ⟨_, _, _, e, _⟩ => ⟨_, e⟩)) <|
         o_p rfl (ob_fieldAddr fl_75_1 rfl rfl u_0) <|
         o_p rfl (ob_load ty_38 rfl rfl u_0) <|
         o_p rfl (ob_move rfl rfl u_0) <|
         o_p rfl (ob_load ty_38 rfl rfl u_0) <|
         o_p rfl (ob_move rfl rfl u_0) <|
         o_p rfl (ob_move rfl rfl u_0) <|
         o_p rfl (ob_nilCheck rfl rfl (Opd.imp u_0 (fun _ _ h => shelf_nodeT_node h24 h)) (fun _ _ ⟨_, _, _, e, _⟩ => ⟨_, e⟩)) <|
         o_p rfl (ob_fieldAddr fl_75_2 rfl rfl u_0) <|
         o_p rfl (ob_load ty_26 rfl rfl u_0) <|
         o_p rfl (ob_call en_51 (shelf_made_ok _ _ _ _ h26) rfl rfl (.cons u_0 (.cons u_1 (.cons u_2 (.cons u_3 .nil))))) <|
         o_p rfl (ob_move rfl rfl u_0) <|
         o_p rfl (ob_nilCheck rfl rfl (Opd.imp u_0 (fun _ _ h => shelf_nodeT_node h22 h)) (fun _ _ ⟨_, _, _, e, _⟩ => ⟨_, e⟩)) <|
         o_p rfl (ob_fieldAddr fl_75_0 rfl rfl u_0) <|
         o_p rfl (ob_load ty_9 rfl rfl u_0) <|
         o_p rfl (ob_move rfl rfl u_0) <|
         o_p rfl (ob_nilCheck rfl rfl (Opd.imp u_0 (fun _ _ h => shelf_nodeT_node h22 h)) (fun _ _ ⟨_, _, _, e, _⟩ => ⟨_, e⟩)) <|
         o_p rfl (ob_fieldAddr fl_75_1 rfl rfl u_0) <|
         o_p rfl (ob_load ty_38 rfl rfl u_0) <|
         o_p rfl (ob_move rfl rfl u_0) <|
         o_p rfl (ob_nilCheck rfl rfl (Opd.imp u_0 (fun _ _ h => shelf_nodeT_node h24 h)) (fun _ _ ⟨_, _, _, e, _⟩ => ⟨_, e⟩)) <|
         o_p rfl (ob_fieldAddr fl_75_3 rfl rfl u_0) <|
         o_p rfl (ob_load ty_26 rfl rfl u_0) <|
         o_p rfl (ob_move rfl rfl u_0) <|
         o_p rfl (ob_nilCheck rfl rfl (Opd.imp u_0 (fun _ _ h => shelf_nodeT_node h22 h)) (fun _ _ ⟨_, _, _, e, _⟩ => ⟨_, e⟩)) <|
         o_p rfl (ob_fieldAddr fl_75_3 rfl rfl u_0) <|
         o_p rfl (ob_load ty_26 rfl rfl u_0) <|
         o_p rfl (ob_call en_51 (shelf_made_ok _ _ _ _ h28) rfl rfl (.cons u_0 (.cons u_1 (.cons u_2 (.cons u_3 .nil))))) <|
         o_p rfl (ob_call en_51 (shelf_made_ok _ _ _ _ h30) rfl rfl (.cons u_0 (.cons u_1 (.cons u_2 (.cons u_3 .nil))))) <|
         o_p rfl (ob_assign rfl rfl u_0) <|
         o_n) (by kernel_rfl) (fun a g hst hb => ?_)
      refine wp_ret ?_
      refine inBlock_r ?_
      refine then_r ?_
      obtain rfl := Option.some.inj H0
      exact endR1 rfl hst hb (res_tmp (s := 8)) (hst.at 0 rfl)
    · replace H0 := ite_f hc20 H0
      obtain ⟨r31, h32, H0⟩ := of_bind H0; obtain ⟨n33, h34, H0⟩ := of_bind H0; obtain ⟨r35, h36, H0⟩ := of_bind H0; obtain ⟨n37, h38, H0⟩ := of_bind H0; obtain ⟨r39, h40, H0⟩ := of_bind H0
      refine r_s (L := [(0, _), (2, _), (3, _), (5, _)]) (T := ⟨[.old 1], _, [], [], [95]⟩ :: ⟨[.old 2], _, [], [], [96]⟩ :: ⟨[.op 0 0, .op 1 0], _, [], [0, 1], [97]⟩ :: ⟨[.op 2 0], _, [], [0, 1, 2], [98]⟩ :: ⟨[.op 3 0, .old 1], _, [], List.range 4, [99]⟩ :: ⟨[.op 3 0, .op 4 0], _, [], List.range 5, [100]⟩ :: ⟨[.op 3 0, .op 5 0], _, [], List.range 6, [101]⟩ :: ⟨[.op 3 0, .op 6 0], _, [], List.range 7, [102]⟩ :: ⟨[.op 3 0, .op 7 0], _, [], List.range 8, [103]⟩ :: ⟨[.op 3 0, .op 8 0], _, [], List.range 9, [104]⟩ :: ⟨[.op 3 0, .old 1], _, [], List.range 4, [105]⟩ :: ⟨[.op 3 0, .op 10 0], _, [], [0, 1, 2, 3, 10], [106]⟩ :: ⟨[.op 3 0, .op 11 0], _, [], [0, 1, 2, 3, 10, 11], [107]⟩ :: ⟨[.op 3 0, .op 12 0], _, [], [0, 1, 2, 3, 10, 11, 12], [108]⟩ :: ⟨[.op 3 0, .op 13 0], _, [], 0 :: 1 :: 2 :: 3 :: 4 :: 5 :: 6 :: 7 :: 8 :: 10 :: 11 :: 12 :: 13 :: [], [109]⟩ :: ⟨[.op 3 0, .op 14 0], _, [], 0 :: 1 :: 2 :: 3 :: 4 :: 5 :: 6 :: 7 :: 8 :: 10 :: 11 :: 12 :: 13 :: 14 :: [], [110]⟩ :: ⟨[.op 3 0, .op 15 0], _, [], 0 :: 1 :: 2 :: 3 :: 4 :: 5 :: 6 :: 7 :: 8 :: 10 :: 11 :: 12 :: 13 :: 14 :: 15 :: [], [111]⟩ :: ⟨[.op 3 0, .op 9 0, .op 16 0], _, [], List.range 17, [112]⟩ :: ⟨[.op 3 0, .op 17 0], _, [], List.range 18, [113]⟩ :: ⟨[.op 18 0], _, [], List.range 19, [94]⟩ :: []) (F := [.old 0, .old 1, .old 2, .old 3, .op 19 0]) (hst.pick [0, 1, 2, 3] rfl) hb follows
        (o_p rfl (ob_move rfl rfl u_0) <|
         o_p rfl (ob_move rfl rfl u_0) <|
         o_p rfl (ob_call en_63 (shelf_heavy_ok _ _ h32) rfl rfl (.cons u_0 (.cons u_1 .nil))) <|
         o_p rfl (ob_move rfl rfl u_0) <|
         o_g (g_t rfl rfl rfl (fun hG => ob_move rfl rfl u_0)) <|
         o_g (g_t rfl rfl rfl (fun hG => ob_nilCheck rfl rfl (Opd.imp (Opd.gd hG u_0) (fun _ _ h => shelf_nodeT_node (gd_true h34 hG) h)) (fun _ _ ⟨_, _, _, e, _⟩ => ⟨_, e⟩))) <|
         o_g (g_t rfl rfl rfl (fun hG => ob_fieldAddr fl_75_3 rfl rfl (Opd.gd hG u_0))) <|
         o_g (g_t rfl rfl rfl (fun hG => ob_load ty_26 rfl rfl (Opd.gd hG u_0))) <|
         o_g (g_t rfl rfl rfl (fun hG => ob_call en_33 (shelf_node_count_ok _ (gd_true h36 hG)) rfl rfl (.cons (Opd.gd hG u_0) .nil))) <|
         o_g (g_t rfl rfl rfl (fun hG => ob_add rfl rfl (Opd.gd hG u_0) c_i rfl)) <|
         o_g (g_t rfl rfl rfl (fun hG => ob_move rfl rfl u_0)) <|
         o_g (g_t rfl rfl rfl (fun hG => ob_nilCheck rfl rfl (Opd.imp (Opd.gd hG u_0) (fun _ _ h => shelf_nodeT_node (gd_true h38 hG) h)) (fun _ _ ⟨_, _, _, e, _⟩ => ⟨_, e⟩))) <|
         o_g (g_t rfl rfl rfl (fun hG => ob_fieldAddr fl_75_2 rfl rfl (Opd.gd hG u_0))) <|
         o_g (g_t rfl rfl rfl (fun hG => ob_load ty_26 rfl rfl (Opd.gd hG u_0))) <|
         o_g (g_t rfl rfl rfl (fun hG => ob_call en_33 (shelf_node_count_ok _ (gd_true h40 hG)) rfl rfl (.cons (Opd.gd hG u_0) .nil))) <|
         o_g (g_t rfl rfl rfl (fun hG => ob_add rfl rfl (Opd.gd hG u_0) c_i rfl)) <|
         o_g (g_t rfl rfl rfl (fun hG => ob_mul rfl rfl c_i (Opd.gd hG u_0) rfl)) <|
         o_g (g_t rfl rfl rfl (fun hG => ob_lt rfl rfl (Opd.gd hG u_0) (Opd.gd hG u_1))) <|
         o_p rfl (ob_pand rfl rfl u_0 (fun hz => (Opd.gd hz u_1))) <|
         o_p rfl (ob_assign rfl rfl u_0) <|
         o_n) (by kernel_rfl) (fun a g hst hb => ?_)
      refine wp_cond_split (hst.bool 4 rfl) (fun hc41 => ?_) (fun hc41 => ?_)
      · replace H0 := ite_t hc41 H0
        obtain ⟨n42, h43, H0⟩ := of_bind H0; obtain ⟨r44, h45, H0⟩ := of_bind H0; obtain ⟨r46, h47, H0⟩ := of_bind H0
        refine r_s (L := [(0, _), (2, _), (3, _), (5, _)]) (T := ⟨[.old 1], _, [], [], [114]⟩ :: ⟨[.op 0 0], _, [], [0], [115]⟩ :: ⟨[.op 1 0], _, [], [0, 1], [116]⟩ :: ⟨[.op 2 0], _, [], [0, 1, 2], [117]⟩ :: ⟨[.old 1], _, [], [], [118]⟩ :: ⟨[.op 4 0], _, [], [4], [119]⟩ :: ⟨[.op 5 0], _, [], [4, 5], [120]⟩ :: ⟨[.op 6 0], _, [], [4, 5, 6], [121]⟩ :: ⟨[.old 1], _, [], [], [122]⟩ :: ⟨[.op 8 0], _, [], [8], [123]⟩ :: ⟨[.op 9 0], _, [], [8, 9], [124]⟩ :: ⟨[.op 10 0], _, [], [8, 9, 10], [125]⟩ :: ⟨[.old 0], _, [], [], [126]⟩ :: ⟨[.old 3], _, [], [], [127]⟩ :: ⟨[.old 1], _, [], [], [128]⟩ :: ⟨[.op 14 0], _, [], [14], [129]⟩ :: ⟨[.op 15 0], _, [], [14, 15], [130]⟩ :: ⟨[.op 16 0], _, [], [14, 15, 16], [131]⟩ :: ⟨[.old 2], _, [], [], [132]⟩ :: ⟨[.op 12 0, .op 13 0, .op 17 0, .op 18 0], _, [], List.range' 12 7, [133]⟩ :: ⟨[.op 3 0, .op 7 0, .op 11 0, .op 19 0], _, [], List.range 20, [134]⟩ :: ⟨[.op 20 0], _, [], List.range 21, [8]⟩ :: []) (F := [.op 21 0]) (hst.pick [0, 1, 2, 3] rfl) hb follows
          (o_p rfl (ob_move rfl rfl u_0) <|
           o_p rfl (ob_nilCheck rfl rfl (Opd.imp u_0 (fun _ _ h => shelf_nodeT_node h43 h)) (fun _ _ ⟨_, _, _, e, _⟩ => ⟨_, e⟩)) <|
           o_p rfl (ob_fieldAddr fl_75_0 rfl rfl u_0) <|
           o_p rfl (ob_load ty_9 rfl rfl u_0) <|
           o_p rfl (ob_move rfl rfl u_0) <|
           o_p rfl (ob_nilCheck rfl rfl (Opd.imp u_0 (fun _ _ h => shelf_nodeT_node h43 h)) (fun _ _ ⟨_, _, _, e, _⟩ => ⟨_, e⟩)) <|
           o_p rfl (ob_fieldAddr fl_75_1 rfl rfl u_0) <|
           o_p rfl (ob_load ty_38 rfl rfl u_0) <|
           o_p rfl (ob_move rfl rfl u_0) <|
           o_p rfl (ob_nilCheck rfl rfl (Opd.imp u_0 (fun _ _ h => shelf_nodeT_node h43 h)) (fun _ _ ⟨_, _, _, e, _⟩ => ⟨_, e⟩)) <|
           o_p rfl (ob_fieldAddr fl_75_2 rfl rfl u_0) <|
           o_p rfl (ob_load ty_26 rfl rfl u_0) <|
           o_p rfl (ob_move rfl rfl u_0) <|
           o_p rfl (ob_load ty_38 rfl rfl u_0) <|
           o_p rfl (ob_move rfl rfl u_0) <|
           o_p rfl (ob_nilCheck rfl rfl (Opd.imp u_0 (fun _ _ h => shelf_nodeT_node h43 h)) (fun _ _ ⟨_, _, _, e, _⟩ => ⟨_, e⟩)) <|
           o_p rfl (ob_fieldAddr fl_75_3 rfl rfl u_0) <|
           o_p rfl (ob_load ty_26 rfl rfl u_0) <|
           o_p rfl (ob_move rfl rfl u_0) <|
           o_p rfl (ob_call en_51 (shelf_made_ok _ _ _ _ h45) rfl rfl (.cons u_0 (.cons u_1 (.cons u_2 (.cons u_3 .nil))))) <|
           o_p rfl (ob_call en_51 (shelf_made_ok _ _ _ _ h47) rfl rfl (.cons u_0 (.cons u_1 (.cons u_2 (.cons u_3 .nil))))) <|
           o_p rfl (ob_assign rfl rfl u_0) <|
           o_n) (by kernel_rfl) (fun a g hst hb => ?_)
        refine wp_ret ?_
        refine inBlock_r ?_
        refine then_r ?_
        obtain rfl := Option.some.inj H0
        exact endR1 rfl hst hb (res_tmp (s := 8)) (hst.at 0 rfl)
      · replace H0 := ite_f hc41 H0
        obtain ⟨r48, h49, H0⟩ := of_bind H0
        refine r_s (L := [(0, _), (2, _), (3, _), (5, _)]) (T := [⟨[.old 1], _, [], [], [136]⟩, ⟨[.old 2], _, [], [], [137]⟩, ⟨[.op 0 0, .op 1 0], _, [], [0, 1], [138]⟩, ⟨[.op 2 0], _, [], [0, 1, 2], [135]⟩]) (F := [.old 0, .old 1, .old 2, .old 3, .op 3 0]) (hst.pick [0, 1, 2, 3] rfl) hb follows
          (o_p rfl (ob_move rfl rfl u_0) <|
           o_p rfl (ob_move rfl rfl u_0) <|
           o_p rfl (ob_call en_63 (shelf_heavy_ok _ _ h49) rfl rfl (.cons u_0 (.cons u_1 .nil))) <|
           o_p rfl (ob_assign rfl rfl u_0) <|
           o_n) (by kernel_rfl) (fun a g hst hb => ?_)
        refine wp_cond_split (hst.bool 4 rfl) (fun hc50 => ?_) (fun hc50 => ?_)
        · replace H0 := ite_t hc50 H0
          obtain ⟨n51, h52, H0⟩ := of_bind H0
          refine r_s (L := [(0, _), (2, _), (3, _), (5, _)]) (T := [⟨[.old 1], _, [], [], [139]⟩, ⟨[.op 0 0], _, [], [0], [140]⟩, ⟨[.op 1 0], _, [], [0, 1], [141]⟩, ⟨[.op 2 0], _, [], [0, 1, 2], [142]⟩, ⟨[.op 3 0], _, [], List.range 4, [10]⟩]) (F := [.old 0, .old 1, .old 2, .old 3, .op 4 0]) (hst.pick [0, 1, 2, 3] rfl) hb follows
            (o_p rfl (ob_move rfl rfl u_0) <|
             o_p rfl (ob_nilCheck rfl rfl (Opd.imp u_0 (fun _ _ h => shelf_nodeT_node h52 h)) (fun _ _ ⟨_, _, _, e, _⟩ => ⟨_, e⟩)) <|
             o_p rfl (ob_fieldAddr fl_75_3 rfl rfl u_0) <|
             o_p rfl (ob_load ty_26 rfl rfl u_0) <|
             o_p rfl (ob_assign rfl rfl u_0) <|
             o_n) (by kernel_rfl) (fun a g hst hb => ?_)
          obtain ⟨n53, h54, H0⟩ := of_bind H0; obtain ⟨r55, h56, H0⟩ := of_bind H0; obtain ⟨r57, h58, H0⟩ := of_bind H0; obtain ⟨r59, h60, H0⟩ := of_bind H0
          refine r_s (L := [(0, _), (2, _), (3, _), (5, _), (10, _)]) (T := ⟨[.old 4], _, [], [], [143]⟩ :: ⟨[.op 0 0], _, [], [0], [144]⟩ :: ⟨[.op 1 0], _, [], [0, 1], [145]⟩ :: ⟨[.op 2 0], _, [], [0, 1, 2], [146]⟩ :: ⟨[.old 4], _, [], [], [147]⟩ :: ⟨[.op 4 0], _, [], [4], [148]⟩ :: ⟨[.op 5 0], _, [], [4, 5], [149]⟩ :: ⟨[.op 6 0], _, [], [4, 5, 6], [150]⟩ :: ⟨[.old 1], _, [], [], [151]⟩ :: ⟨[.op 8 0], _, [], [8], [152]⟩ :: ⟨[.op 9 0], _, [], [8, 9], [153]⟩ :: ⟨[.op 10 0], _, [], [8, 9, 10], [154]⟩ :: ⟨[.old 1], _, [], [], [155]⟩ :: ⟨[.op 12 0], _, [], [12], [156]⟩ :: ⟨[.op 13 0], _, [], [12, 13], [157]⟩ :: ⟨[.op 14 0], _, [], [12, 13, 14], [158]⟩ :: ⟨[.old 1], _, [], [], [159]⟩ :: ⟨[.op 16 0], _, [], [16], [160]⟩ :: ⟨[.op 17 0], _, [], [16, 17], [161]⟩ :: ⟨[.op 18 0], _, [], [16, 17, 18], [162]⟩ :: ⟨[.old 4], _, [], [], [163]⟩ :: ⟨[.op 20 0], _, [], [20], [164]⟩ :: ⟨[.op 21 0], _, [], [20, 21], [165]⟩ :: ⟨[.op 22 0], _, [], [20, 21, 22], [166]⟩ :: ⟨[.op 11 0, .op 15 0, .op 19 0, .op 23 0], _, [], List.range' 8 16, [167]⟩ :: ⟨[.old 0], _, [], [], [168]⟩ :: ⟨[.old 3], _, [], [], [169]⟩ :: ⟨[.old 4], _, [], [], [170]⟩ :: ⟨[.op 27 0], _, [], [27], [171]⟩ :: ⟨[.op 28 0], _, [], [27, 28], [172]⟩ :: ⟨[.op 29 0], _, [], [27, 28, 29], [173]⟩ :: ⟨[.old 2], _, [], [], [174]⟩ :: ⟨[.op 25 0, .op 26 0, .op 30 0, .op 31 0], _, [], List.range' 8 24, [175]⟩ :: ⟨[.op 3 0, .op 7 0, .op 24 0, .op 32 0], _, [], List.range 33, [176]⟩ :: ⟨[.op 33 0], _, [], List.range 34, [8]⟩ :: []) (F := [.op 34 0]) hst hb follows
            (o_p rfl (ob_move rfl rfl u_0) <|
             o_p rfl (ob_nilCheck rfl rfl (Opd.imp u_0 (fun _ _ h => shelf_nodeT_node h54 h)) (fun _ _ ⟨_, _, _, e, _⟩ => ⟨_, e⟩)) <|
             o_p rfl (ob_fieldAddr fl_75_0 rfl rfl u_0) <|
             o_p rfl (ob_load ty_9 rfl rfl u_0) <|
             o_p rfl (ob_move rfl rfl u_0) <|
             o_p rfl (ob_nilCheck rfl rfl (Opd.imp u_0 (fun _ _ h => shelf_nodeT_node h54 h)) (fun _ _ ⟨_, _, _, e, _⟩ => ⟨_, e⟩)) <|
             o_p rfl (ob_fieldAddr fl_75_1 rfl rfl u_0) <|
             o_p rfl (ob_load ty_38 rfl rfl u_0) <|
             o_p rfl (ob_move rfl rfl u_0) <|
             o_p rfl (ob_nilCheck rfl rfl (Opd.imp u_0 (fun _ _ h => shelf_nodeT_node h52 h)) (fun _ _ ⟨_, _, _, e, _⟩ => ⟨_, e⟩)) <|
             o_p rfl (ob_fieldAddr fl_75_0 rfl rfl u_0) <|
             o_p rfl (ob_load ty_9 rfl rfl u_0) <|
             o_p rfl (ob_move rfl rfl u_0) <|
             o_p rfl (ob_nilCheck rfl rfl (Opd.imp u_0 (fun _ _ h => shelf_nodeT_node h52 h)) (fun _ _ ⟨_, _, _, e, _⟩ => ⟨_, e⟩)) <|
             o_p rfl (ob_fieldAddr fl_75_1 rfl rfl u_0) <|
             o_p rfl (ob_load ty_38 rfl rfl u_0) <|
             o_p rfl (ob_move rfl rfl u_0) <|
             o_p rfl (ob_nilCheck rfl rfl (Opd.imp u_0 (fun _ _ h => shelf_nodeT_node h52 h)) (fun _ _ ⟨_, _, _, e, _⟩ => ⟨_, e⟩)) <|
             o_p rfl (ob_fieldAddr fl_75_2 rfl rfl u_0) <|
             o_p rfl (ob_load ty_26 rfl rfl u_0) <|
             o_p rfl (ob_move rfl rfl u_0) <|
             o_p rfl (ob_nilCheck rfl rfl (Opd.imp u_0 (fun _ _ h => shelf_nodeT_node h54 h)) (fun _ _ ⟨_, _, _, e, _⟩ => ⟨_, e⟩)) <|
             o_p rfl (ob_fieldAddr fl_75_2 rfl rfl u_0) <|
             o_p rfl (ob_load ty_26 rfl rfl u_0) <|
             o_p rfl (ob_call en_51 (shelf_made_ok _ _ _ _ h56) rfl rfl (.cons u_0 (.cons u_1 (.cons u_2 (.cons u_3 .nil))))) <|
             o_p rfl (ob_move rfl rfl u_0) <|
             o_p rfl (ob_load ty_38 rfl rfl u_0) <|
             o_p rfl (ob_move rfl rfl u_0) <|
             o_p rfl (ob_nilCheck rfl rfl (Opd.imp u_0 (fun _ _ h => shelf_nodeT_node h54 h)) (fun _ _ ⟨_, _, _, e, _⟩ => ⟨_, e⟩)) <|
             o_p rfl (ob_fieldAddr fl_75_3 rfl rfl u_0) <|
             o_p rfl (ob_load ty_26 rfl rfl u_0) <|
             o_p rfl (ob_move rfl rfl u_0) <|
             o_p rfl (ob_call en_51 (shelf_made_ok _ _ _ _ h58) rfl rfl (.cons u_0 (.cons u_1 (.cons u_2 (.cons u_3 .nil))))) <|
             o_p rfl (ob_call en_51 (shelf_made_ok _ _ _ _ h60) rfl rfl (.cons u_0 (.cons u_1 (.cons u_2 (.cons u_3 .nil))))) <|
             o_p rfl (ob_assign rfl rfl u_0) <|
             o_n) (by kernel_rfl) (fun a g hst hb => ?_)
          refine wp_ret ?_
          refine inBlock_r ?_
          refine then_r ?_
          obtain rfl := Option.some.inj H0
          exact endR1 rfl hst hb (res_tmp (s := 8)) (hst.at 0 rfl)
        · replace H0 := ite_f hc50 H0
          refine wp_skip ?_
          refine inBlock_n ?_
          refine then_n ?_
          obtain ⟨r61, h62, H0⟩ := of_bind H0
          refine r_s (L := [(0, _), (2, _), (3, _), (5, _)]) (T := [⟨[.old 0], _, [], [], [177]⟩, ⟨[.old 3], _, [], [], [178]⟩, ⟨[.old 1], _, [], [], [179]⟩, ⟨[.old 2], _, [], [], [180]⟩, ⟨[.op 0 0, .op 1 0, .op 2 0, .op 3 0], _, [], List.range 4, [181]⟩, ⟨[.op 4 0], _, [], List.range 5, [8]⟩]) (F := [.op 5 0]) (hst.pick [0, 1, 2, 3] rfl) hb follows
            (o_p rfl (ob_move rfl rfl u_0) <|
             o_p rfl (ob_load ty_38 rfl rfl u_0) <|
             o_p rfl (ob_move rfl rfl u_0) <|
             o_p rfl (ob_move rfl rfl u_0) <|
             o_p rfl (ob_call en_51 (shelf_made_ok _ _ _ _ h62) rfl rfl (.cons u_0 (.cons u_1 (.cons u_2 (.cons u_3 .nil))))) <|
             o_p rfl (ob_assign rfl rfl u_0) <|
             o_n) (by kernel_rfl) (fun a g hst hb => ?_)
          refine wp_ret ?_
          obtain rfl := Option.some.inj H0
          exact endR1 rfl hst hb (res_tmp (s := 8)) (hst.at 0 rfl)
end Go.CL

set_option linter.unusedVariables false
set_option linter.unusedSimpArgs false
set_option maxRecDepth 100000
namespace Go.CL
open Go Go.RowKit Go.Proofs
theorem shelf_node_set_b_ok (self : shelf_nodeT → ByteArray → api_Record → Option (shelf_nodeT)) (hself : ∀ (a0 : shelf_nodeT) (a1 : ByteArray) (a2 : api_Record) {r : shelf_nodeT}, self a0 a1 a2 = some r → FnOk Try.prog 36 [(k_shelf_nodeT.pd a0), (pStr a1), (k_api_Record.pd a2)] (k_shelf_nodeT.pd r)) (a0 : shelf_nodeT) (a1 : ByteArray) (a2 : api_Record) {r : shelf_nodeT} (h : shelf_node_set_b self a0 a1 a2 = some r) : FnOk Try.prog 36 [(k_shelf_nodeT.pd a0), (pStr a1), (k_api_Record.pd a2)] (k_shelf_nodeT.pd r) := by
  have H0 := h
  unfold shelf_node_set_b at H0
  clear h
  refine fn_ok (N := 78) Try.func36 rfl rfl (Nat.le_of_ble_eq_true rfl) rfl rfl (fun a g0 hst hb => ?_)
  refine r_s (L := [(0, _), (1, _), (2, _)]) (T := [⟨[.old 2], _, [], [], [5]⟩, ⟨[], [(6, (k_shelf_nodeT.pd shelf_nodeT.nil))], [], [], [6]⟩]) (F := [.old 0, .old 1, .op 0 0]) hst hb follows
    (o_p rfl (ob_box1 rfl rfl u_0) <|
     o_p rfl (ob_assign rfl rfl (Opd.c (fun g => k_shelf_nodeT_nil_q g))) <|
     o_n) (by kernel_rfl) (fun a g hst hb => ?_)
  refine wp_seq ?_
  refine wp_block ?_
  refine r_s (L := [(0, _), (1, _), (5, _)]) (T := [⟨[.old 0], _, [], [], [8]⟩, ⟨[.op 0 0], _, [], [0], [9]⟩, ⟨[.op 1 0], _, [], [0, 1], [7]⟩]) (F := [.old 0, .old 1, .old 2, .op 2 0]) hst hb follows
    (o_p rfl (ob_move rfl rfl u_0) <|
     o_p rfl (ob_peq Try.underlying26 rfl rfl u_0 (shelf_nodeT_isptr _)) <|
     o_p rfl (ob_assign rfl rfl u_0) <|
     o_n) (by kernel_rfl) (fun a g hst hb => ?_)
  refine wp_cond_split (hst.bool 3 rfl) (fun hc1 => ?_) (fun hc1 => ?_)
  · replace H0 := ite_t hc1 H0
    obtain ⟨r2, h3, H0⟩ := of_bind H0
    refine r_s (L := [(1, _), (5, _)]) (T := [⟨[.old 0], _, [], [], [10]⟩, ⟨[.old 1], _, [], [], [11]⟩, ⟨[.op 0 0, .op 1 0], [(12, (k_shelf_nodeT.pd r2))], [], [0, 1], [12]⟩, ⟨[.op 2 0], _, [], [0, 1, 2], [6]⟩]) (F := [.op 3 0]) (hst.pick [1, 2] rfl) hb follows
      (o_p rfl (ob_move rfl rfl u_0) <|
       o_p rfl (ob_load ty_38 rfl rfl u_0) <|
       o_p rfl (ob_call en_51 (shelf_made_ok _ _ _ _ h3) rfl rfl (.cons u_0 (.cons u_1 (.cons (Opd.c (fun g => k_shelf_nodeT_nil_q g)) (.cons (Opd.c (fun g => k_shelf_nodeT_nil_q g)) .nil))))) <|
       o_p rfl (ob_assign rfl rfl u_0) <|
       o_n) (by kernel_rfl) (fun a g hst hb => ?_)
    refine wp_ret ?_
    refine inBlock_r ?_
    refine then_r ?_
    obtain rfl := Option.some.inj H0
    exact endR1 rfl hst hb (res_tmp (s := 6)) (hst.at 0 rfl)
  · replace H0 := ite_f hc1 H0
    obtain ⟨n4, h5, H0⟩ := of_bind H0
    refine r_s (L := [(0, _), (1, _), (5, _)]) (T := [⟨[.old 1], _, [], [], [14]⟩, ⟨[.old 0], _, [], [], [15]⟩, ⟨[.op 1 0], _, [], [1], [16]⟩, ⟨[.op 2 0], _, [], [1, 2], [17]⟩, ⟨[.op 3 0], _, [], [1, 2, 3], [18]⟩, ⟨[.op 0 0, .op 4 0], _, [], List.range 5, [19]⟩, ⟨[.op 5 0], _, [], List.range 6, [13]⟩]) (F := [.old 0, .old 1, .old 2, .op 6 0]) (hst.pick [0, 1, 2] rfl) hb follows
      (o_p rfl (ob_move rfl rfl u_0) <|
       o_p rfl (ob_move rfl rfl u_0) <|
       o_p rfl (ob_nilCheck rfl rfl (Opd.imp u_0 (fun _ _ h => shelf_nodeT_node h5 h)) (fun _ _ ⟨_, _, _, e, _⟩ => ⟨_, e⟩)) <|
       o_p rfl (ob_fieldAddr fl_75_0 rfl rfl u_0) <|
       o_p rfl (ob_load ty_9 rfl rfl u_0) <|
       o_p rfl (ob_slt rfl rfl u_0 u_1) <|
       o_p rfl (ob_assign rfl rfl u_0) <|
       o_n) (by kernel_rfl) (fun a g hst hb => ?_)
    refine wp_cond_split (hst.bool 3 rfl) (fun hc6 => ?_) (fun hc6 => ?_)
    · replace H0 := ite_t hc6 H0
      obtain ⟨r7, h8, H0⟩ := of_bind H0; obtain ⟨r9, h10, H0⟩ := of_bind H0
      refine r_s (L := [(0, _), (1, _), (5, _)]) (T := ⟨[.old 0], _, [], [], [20]⟩ :: ⟨[.op 0 0], _, [], [0], [21]⟩ :: ⟨[.op 1 0], _, [], [0, 1], [22]⟩ :: ⟨[.op 2 0], _, [], [0, 1, 2], [23]⟩ :: ⟨[.old 0], _, [], [], [24]⟩ :: ⟨[.op 4 0], _, [], [4], [25]⟩ :: ⟨[.op 5 0], _, [], [4, 5], [26]⟩ :: ⟨[.op 6 0], _, [], [4, 5, 6], [27]⟩ :: ⟨[.old 0], _, [], [], [28]⟩ :: ⟨[.op 8 0], _, [], [8], [29]⟩ :: ⟨[.op 9 0], _, [], [8, 9], [30]⟩ :: ⟨[.op 10 0], _, [], [8, 9, 10], [31]⟩ :: ⟨[.old 1], _, [], [], [32]⟩ :: ⟨[.old 2], _, [], [], [33]⟩ :: ⟨[.op 11 0, .op 12 0, .op 13 0], _, [], List.range' 8 6, [34]⟩ :: ⟨[.old 0], _, [], [], [35]⟩ :: ⟨[.op 15 0], _, [], [15], [36]⟩ :: ⟨[.op 16 0], _, [], [15, 16], [37]⟩ :: ⟨[.op 17 0], _, [], [15, 16, 17], [38]⟩ :: ⟨[.op 3 0, .op 7 0, .op 14 0, .op 18 0], _, [], List.range 19, [39]⟩ :: ⟨[.op 19 0], _, [], List.range 20, [6]⟩ :: []) (F := [.op 20 0]) (hst.pick [0, 1, 2] rfl) hb follows
        (o_p rfl (ob_move rfl rfl u_0) <|
         o_p rfl (ob_nilCheck rfl rfl (Opd.imp u_0 (fun _ _ h => shelf_nodeT_node h5 h)) (fun _ _ ⟨_, _, _, e, _⟩ => ⟨_, e⟩)) <|
         o_p rfl (ob_fieldAddr fl_75_0 rfl rfl u_0) <|
         o_p rfl (ob_load ty_9 rfl rfl u_0) <|
         o_p rfl (ob_move rfl rfl u_0) <|
         o_p rfl (ob_nilCheck rfl rfl (Opd.imp u_0 (fun _ _ h => shelf_nodeT_node h5 h)) (fun _ _ ⟨_, _, _, e, _⟩ => ⟨_, e⟩)) <|
         o_p rfl (ob_fieldAddr fl_75_1 rfl rfl u_0) <|
         o_p rfl (ob_load ty_38 rfl rfl u_0) <|
         o_p rfl (ob_move rfl rfl u_0) <|
         o_p rfl (ob_nilCheck rfl rfl (Opd.imp u_0 (fun _ _ h => shelf_nodeT_node h5 h)) (fun _ _ ⟨_, _, _, e, _⟩ => ⟨_, e⟩)) <|
         o_p rfl (ob_fieldAddr fl_75_2 rfl rfl u_0) <|
         o_p rfl (ob_load ty_26 rfl rfl u_0) <|
         o_p rfl (ob_move rfl rfl u_0) <|
         o_p rfl (ob_load ty_38 rfl rfl u_0) <|
         o_p rfl (ob_call en_36 (hself _ _ _ h8) rfl rfl (.cons u_0 (.cons u_1 (.cons u_2 .nil)))) <|
         o_p rfl (ob_move rfl rfl u_0) <|
         o_p rfl (ob_nilCheck rfl rfl (Opd.imp u_0 (fun _ _ h => shelf_nodeT_node h5 h)) (fun _ _ ⟨_, _, _, e, _⟩ => ⟨_, e⟩)) <|
         o_p rfl (ob_fieldAddr fl_75_3 rfl rfl u_0) <|
         o_p rfl (ob_load ty_26 rfl rfl u_0) <|
         o_p rfl (ob_call en_52 (shelf_even_ok _ _ _ _ h10) rfl rfl (.cons u_0 (.cons u_1 (.cons u_2 (.cons u_3 .nil))))) <|
         o_p rfl (ob_assign rfl rfl u_0) <|
         o_n) (by kernel_rfl) (fun a g hst hb => ?_)
      refine wp_ret ?_
      refine inBlock_r ?_
      refine then_r ?_
      obtain rfl := Option.some.inj H0
      exact endR1 rfl hst hb (res_tmp (s := 6)) (hst.at 0 rfl)
    · replace H0 := ite_f hc6 H0
      refine r_s (L := [(0, _), (1, _), (5, _)]) (T := [⟨[.old 1], _, [], [], [41]⟩, ⟨[.old 0], _, [], [], [42]⟩, ⟨[.op 1 0], _, [], [1], [43]⟩, ⟨[.op 2 0], _, [], [1, 2], [44]⟩, ⟨[.op 3 0], _, [], [1, 2, 3], [45]⟩, ⟨[.op 0 0, .op 4 0], _, [], List.range 5, [46]⟩, ⟨[.op 5 0], _, [], List.range 6, [40]⟩]) (F := [.old 0, .old 1, .old 2, .op 6 0]) (hst.pick [0, 1, 2] rfl) hb follows
        (o_p rfl (ob_move rfl rfl u_0) <|
         o_p rfl (ob_move rfl rfl u_0) <|
         o_p rfl (ob_nilCheck rfl rfl (Opd.imp u_0 (fun _ _ h => shelf_nodeT_node h5 h)) (fun _ _ ⟨_, _, _, e, _⟩ => ⟨_, e⟩)) <|
         o_p rfl (ob_fieldAddr fl_75_0 rfl rfl u_0) <|
         o_p rfl (ob_load ty_9 rfl rfl u_0) <|
         o_p rfl (ob_sgt rfl rfl u_0 u_1) <|
         o_p rfl (ob_assign rfl rfl u_0) <|
         o_n) (by kernel_rfl) (fun a g hst hb => ?_)
      refine wp_cond_split (hst.bool 3 rfl) (fun hc11 => ?_) (fun hc11 => ?_)
      · replace H0 := ite_t hc11 H0
        obtain ⟨r12, h13, H0⟩ := of_bind H0; obtain ⟨r14, h15, H0⟩ := of_bind H0
        refine r_s (L := [(0, _), (1, _), (5, _)]) (T := ⟨[.old 0], _, [], [], [47]⟩ :: ⟨[.op 0 0], _, [], [0], [48]⟩ :: ⟨[.op 1 0], _, [], [0, 1], [49]⟩ :: ⟨[.op 2 0], _, [], [0, 1, 2], [50]⟩ :: ⟨[.old 0], _, [], [], [51]⟩ :: ⟨[.op 4 0], _, [], [4], [52]⟩ :: ⟨[.op 5 0], _, [], [4, 5], [53]⟩ :: ⟨[.op 6 0], _, [], [4, 5, 6], [54]⟩ :: ⟨[.old 0], _, [], [], [55]⟩ :: ⟨[.op 8 0], _, [], [8], [56]⟩ :: ⟨[.op 9 0], _, [], [8, 9], [57]⟩ :: ⟨[.op 10 0], _, [], [8, 9, 10], [58]⟩ :: ⟨[.old 0], _, [], [], [59]⟩ :: ⟨[.op 12 0], _, [], [12], [60]⟩ :: ⟨[.op 13 0], _, [], [12, 13], [61]⟩ :: ⟨[.op 14 0], _, [], [12, 13, 14], [62]⟩ :: ⟨[.old 1], _, [], [], [63]⟩ :: ⟨[.old 2], _, [], [], [64]⟩ :: ⟨[.op 15 0, .op 16 0, .op 17 0], _, [], List.range' 12 6, [65]⟩ :: ⟨[.op 3 0, .op 7 0, .op 11 0, .op 18 0], _, [], List.range 19, [66]⟩ :: ⟨[.op 19 0], _, [], List.range 20, [6]⟩ :: []) (F := [.op 20 0]) (hst.pick [0, 1, 2] rfl) hb follows
          (o_p rfl (ob_move rfl rfl u_0) <|
           o_p rfl (ob_nilCheck rfl rfl (Opd.imp u_0 (fun _ _ h => shelf_nodeT_node h5 h)) (fun _ _ ⟨_, _, _, e, _⟩ => ⟨_, e⟩)) <|
           o_p rfl (ob_fieldAddr fl_75_0 rfl rfl u_0) <|
           o_p rfl (ob_load ty_9 rfl rfl u_0) <|
           o_p rfl (ob_move rfl rfl u_0) <|
           o_p rfl (ob_nilCheck rfl rfl (Opd.imp u_0 (fun _ _ h => shelf_nodeT_node h5 h)) (fun _ _ ⟨_, _, _, e, _⟩ => ⟨_, e⟩)) <|
           o_p rfl (ob_fieldAddr fl_75_1 rfl rfl u_0) <|
           o_p rfl (ob_load ty_38 rfl rfl u_0) <|
           o_p rfl (ob_move rfl rfl u_0) <|
           o_p rfl (ob_nilCheck rfl rfl (Opd.imp u_0 (fun _ _ h => shelf_nodeT_node h5 h)) (fun _ _ ⟨_, _, _, e, _⟩ => ⟨_, e⟩)) <|
           o_p rfl (ob_fieldAddr fl_75_2 rfl rfl u_0) <|
           o_p rfl (ob_load ty_26 rfl rfl u_0) <|
           o_p rfl (ob_move rfl rfl u_0) <|
           o_p rfl (ob_nilCheck rfl rfl (Opd.imp u_0 (fun _ _ h => shelf_nodeT_node h5 h)) (fun _ _ ⟨_, _, _, e, _⟩ => ⟨_, e⟩)) <|
           o_p rfl (ob_fieldAddr fl_75_3 rfl rfl u_0) <|
           o_p rfl (ob_load ty_26 rfl rfl u_0) <|
           o_p rfl (ob_move rfl rfl u_0) <|
           o_p rfl (ob_load ty_38 rfl rfl u_0) <|
           o_p rfl (ob_call en_36 (hself _ _ _ h13) rfl rfl (.cons u_0 (.cons u_1 (.cons u_2 .nil)))) <|
           o_p rfl (ob_call en_52 (shelf_even_ok _ _ _ _ h15) rfl rfl (.cons u_0 (.cons u_1 (.cons u_2 (.cons u_3 .nil))))) <|
           o_p rfl (ob_assign rfl rfl u_0) <|
           o_n) (by kernel_rfl) (fun a g hst hb => ?_)
        refine wp_ret ?_
        refine inBlock_r ?_
        refine then_r ?_
        obtain rfl := Option.some.inj H0
        exact endR1 rfl hst hb (res_tmp (s := 6)) (hst.at 0 rfl)
      · replace H0 := ite_f hc11 H0
        refine wp_skip ?_
        refine inBlock_n ?_
        refine then_n ?_
        obtain ⟨r16, h17, H0⟩ := of_bind H0
        refine r_s (L := [(0, _), (1, _), (5, _)]) (T := ⟨[.old 1], _, [], [], [67]⟩ :: ⟨[.old 2], _, [], [], [68]⟩ :: ⟨[.old 0], _, [], [], [69]⟩ :: ⟨[.op 2 0], _, [], [2], [70]⟩ :: ⟨[.op 3 0], _, [], [2, 3], [71]⟩ :: ⟨[.op 4 0], _, [], [2, 3, 4], [72]⟩ :: ⟨[.old 0], _, [], [], [73]⟩ :: ⟨[.op 6 0], _, [], [6], [74]⟩ :: ⟨[.op 7 0], _, [], [6, 7], [75]⟩ :: ⟨[.op 8 0], _, [], [6, 7, 8], [76]⟩ :: ⟨[.op 0 0, .op 1 0, .op 5 0, .op 9 0], _, [], List.range 10, [77]⟩ :: ⟨[.op 10 0], _, [], List.range 11, [6]⟩ :: []) (F := [.op 11 0]) (hst.pick [0, 1, 2] rfl) hb follows
          (o_p rfl (ob_move rfl rfl u_0) <|
           o_p rfl (ob_load ty_38 rfl rfl u_0) <|
           o_p rfl (ob_move rfl rfl u_0) <|
           o_p rfl (ob_nilCheck rfl rfl (Opd.imp u_0 (fun _ _ h => shelf_nodeT_node h5 h)) (fun _ _ ⟨_, _, _, e, _⟩ => ⟨_, e⟩)) <|
           o_p rfl (ob_fieldAddr fl_75_2 rfl rfl u_0) <|
           o_p rfl (ob_load ty_26 rfl rfl u_0) <|
           o_p rfl (ob_move rfl rfl u_0) <|
           o_p rfl (ob_nilCheck rfl rfl (Opd.imp u_0 (fun _ _ h => shelf_nodeT_node h5 h)) (fun _ _ ⟨_, _, _, e, _⟩ => ⟨_, e⟩)) <|
           o_p rfl (ob_fieldAddr fl_75_3 rfl rfl u_0) <|
           o_p rfl (ob_load ty_26 rfl rfl u_0) <|
           o_p rfl (ob_call en_51 (shelf_made_ok _ _ _ _ h17) rfl rfl (.cons u_0 (.cons u_1 (.cons u_2 (.cons u_3 .nil))))) <|
           o_p rfl (ob_assign rfl rfl u_0) <|
           o_n) (by kernel_rfl) (fun a g hst hb => ?_)
        refine wp_ret ?_
        obtain rfl := Option.some.inj H0
        exact endR1 rfl hst hb (res_tmp (s := 6)) (hst.at 0 rfl)
theorem shelf_node_set_r_ok : ∀ (n : Nat) (a0 : shelf_nodeT) (a1 : ByteArray) (a2 : api_Record) {r : shelf_nodeT}, shelf_node_set_r n a0 a1 a2 = some r → FnOk Try.prog 36 [(k_shelf_nodeT.pd a0), (pStr a1), (k_api_Record.pd a2)] (k_shelf_nodeT.pd r)
  | 0, _, _, _, _, h => by simp [shelf_node_set_r] at h
  | n + 1, a0, a1, a2, _, h => shelf_node_set_b_ok (shelf_node_set_r n) (fun a0 a1 a2 r h => shelf_node_set_r_ok n a0 a1 a2 h) a0 a1 a2 h
theorem shelf_node_set_ok (a0 : shelf_nodeT) (a1 : ByteArray) (a2 : api_Record) {r : shelf_nodeT} (h : shelf_node_set a0 a1 a2 = some r) : FnOk Try.prog 36 [(k_shelf_nodeT.pd a0), (pStr a1), (k_api_Record.pd a2)] (k_shelf_nodeT.pd r) := shelf_node_set_r_ok _ a0 a1 a2 h
end Go.CL

set_option linter.unusedVariables false
set_option linter.unusedSimpArgs false
set_option maxRecDepth 100000
namespace Go.CL
open Go Go.RowKit Go.Proofs
theorem shelf_Shelf_Set_ok (a0 : shelf_Shelf) (a1 : ByteArray) (a2 : api_Record) {r : shelf_Shelf × Int} (h : shelf_Shelf_Set a0 a1 a2 = some r) : FnOk Try.prog 20 [(k_shelf_Shelf.pd a0), (pStr a1), (k_api_Record.pd a2)] (pTup [(k_shelf_Shelf.pd r.1), (pInt .i64 r.2)]) := by
  have H0 := h
  unfold shelf_Shelf_Set at H0
  clear h
  refine fn_ok (N := 50) Try.func20 rfl rfl (Nat.le_of_ble_eq_true rfl) rfl rfl (fun a g0 hst hb => ?_)
  refine r_s (L := [(0, _), (1, _), (2, _)]) (T := [⟨[.old 0], _, [], [], [3]⟩, ⟨[.old 2], _, [], [], [5]⟩, ⟨[], [(6, (pBox k_shelf_Shelf 6 (default : shelf_Shelf)))], [7], [], [6]⟩, ⟨[], _, [], [], [7]⟩]) (F := [.old 1, .op 0 0, .op 1 0, .op 2 0]) hst hb follows
    (o_p rfl (ob_box1 rfl rfl u_0) <|
     o_p rfl (ob_box1 rfl rfl u_0) <|
     o_p rfl (ob_alloc (zs := [.pointer none, .int .i64 0]) (by kernel_rfl) (fun g => zk_shelf_Shelf g) rfl rfl) <|
     o_p rfl (ob_assign rfl rfl c_i) <|
     o_n) (by kernel_rfl) (fun a g hst hb => ?_)
  refine wp_seq ?_
  refine r_s (L := [(1, _), (3, _), (5, _), (6, _)]) (T := [⟨[.old 0], _, [], [], [11]⟩, ⟨[.op 0 0], _, [], [0], [12]⟩, ⟨[.op 1 0], _, [], [0, 1], [13]⟩, ⟨[.op 2 0, .old 0], _, [], [0, 1, 2], [14]⟩, ⟨[.op 2 0, .op 3 0], _, [], List.range 4, [15]⟩, ⟨[.op 2 0, .op 4 0], _, [], List.range 5, [16]⟩, ⟨[.op 2 0, .op 5 0], _, [], List.range 6, [17]⟩]) (F := [.old 0, .old 1, .old 2, .old 3, .op 6 0]) hst hb follows
    (o_p rfl (ob_move rfl rfl u_0) <|
     o_p rfl (ob_seq rfl rfl u_0 c_s) <|
     o_p rfl (ob_move rfl rfl u_0) <|
     o_g (g_f rfl rfl rfl (fun hG => ob_move rfl rfl u_0)) <|
     o_g (g_f rfl rfl rfl (fun hG => ob_lenS Try.underlying9 rfl rfl (Opd.gd hG u_0))) <|
     o_g (g_f rfl rfl rfl (fun hG => ob_gt rfl rfl (Opd.gd hG u_0) c_i)) <|
     o_p rfl (ob_por rfl rfl u_0 (fun hz => (Opd.gd (bNF hz) u_1))) <|
     o_n) (by kernel_rfl) (fun a g hst hb => ?_)
  refine wp_cond_split (hst.bool 4 rfl) (fun hc1 => ?_) (fun hc1 => ?_)
  · replace H0 := ite_t hc1 H0
    refine r_s (L := [(3, _), (6, _)]) (T := [⟨[.old 0], _, [], [], [18]⟩, ⟨[.op 0 0, .old 1], _, [7], [0], [6]⟩, ⟨[], _, [], [0, 1], [7]⟩]) (F := [.op 1 0, .op 2 0]) (hst.pick [1, 3] rfl) hb follows
      (o_p rfl (ob_load ty_28 rfl rfl u_0) <|
       o_p rfl (ob_store ty_28 rfl rfl u_1 u_0) <|
       o_p rfl (ob_assign rfl rfl c_i) <|
       o_n) (by kernel_rfl) (fun a g hst hb => ?_)
    refine wp_ret ?_
    refine then_r ?_
    obtain rfl := Option.some.inj H0
    obtain ⟨u0, hu0, hq0⟩ := res_box (P := Try.prog) ty_28 (hst.at 0 rfl)
    exact endR2 rfl hst hb hu0 (res_tmp (s := 7)) (pTup_2 hq0 (hst.at 1 rfl))
  · replace H0 := ite_f hc1 H0
    refine wp_skip ?_
    refine then_n ?_
    refine wp_seq ?_
    obtain ⟨r2, h3, H0⟩ := of_bind H0
    refine r_s (L := [(1, _), (3, _), (5, _), (6, _)]) (T := [⟨[.old 2], _, [], [], [19]⟩, ⟨[.op 0 0], _, [], [0], [20]⟩, ⟨[.op 1 0], _, [], [0, 1], [8]⟩]) (F := [.old 0, .old 1, .old 2, .old 3, .op 2 0]) (hst.pick [0, 1, 2, 3] rfl) hb follows
      (o_p rfl (ob_load ty_38 rfl rfl u_0) <|
       o_p rfl (ob_call en_35 (rec_Check_ok _ h3) rfl rfl (.cons u_0 .nil)) <|
       o_p rfl (ob_assign rfl rfl u_0) <|
       o_n) (by kernel_rfl) (fun a g hst hb => ?_)
    refine r_s (L := [(1, _), (3, _), (5, _), (6, _), (8, _)]) (T := [⟨[.old 4], _, [], [], [21]⟩, ⟨[.op 0 0], _, [], [0], [22]⟩]) (F := [.old 0, .old 1, .old 2, .old 3, .old 4, .op 1 0]) hst hb follows
      (o_p rfl (ob_move rfl rfl u_0) <|
       o_p rfl (ob_ne rfl rfl u_0 c_i) <|
       o_n) (by kernel_rfl) (fun a g hst hb => ?_)
    refine wp_cond_split (hst.bool 5 rfl) (fun hc4 => ?_) (fun hc4 => ?_)
    · replace H0 := ite_t hc4 H0
      refine r_s (L := [(3, _), (6, _), (8, _)]) (T := [⟨[.old 0], _, [], [], [23]⟩, ⟨[.old 2], _, [], [], [24]⟩, ⟨[.op 0 0, .old 1], _, [7], [0], [6]⟩, ⟨[.op 1 0], _, [], [0, 1, 2], [7]⟩]) (F := [.op 2 0, .op 3 0]) (hst.pick [1, 3, 4] rfl) hb follows
        (o_p rfl (ob_load ty_28 rfl rfl u_0) <|
         o_p rfl (ob_move rfl rfl u_0) <|
         o_p rfl (ob_store ty_28 rfl rfl u_1 u_0) <|
         o_p rfl (ob_assign rfl rfl u_0) <|
         o_n) (by kernel_rfl) (fun a g hst hb => ?_)
      refine wp_ret ?_
      refine then_r ?_
      obtain rfl := Option.some.inj H0
      obtain ⟨u0, hu0, hq0⟩ := res_box (P := Try.prog) ty_28 (hst.at 0 rfl)
      exact endR2 rfl hst hb hu0 (res_tmp (s := 7)) (pTup_2 hq0 (hst.at 1 rfl))
    · replace H0 := ite_f hc4 H0
      refine wp_skip ?_
      refine then_n ?_
      refine wp_seq ?_
      obtain ⟨r5, h6, H0⟩ := of_bind H0
      refine r_s (L := [(1, _), (3, _), (5, _), (6, _)]) (T := [⟨[.old 1], _, [], [], [26]⟩, ⟨[.old 0], _, [], [], [27]⟩, ⟨[.op 0 0, .op 1 0], _, [], [0, 1], [28]⟩, ⟨[.op 2 0], _, [], [0, 1, 2], [25]⟩, ⟨[.op 3 0], _, [], List.range 4, [29]⟩, ⟨[.op 3 0], _, [], List.range 4, [30]⟩, ⟨[], [(9, (pBox k_api_Record 9 (default : api_Record)))], [10], [], [9]⟩, ⟨[.op 4 0, .op 6 0], _, [10], [0, 1, 2, 3, 4, 6], [9]⟩, ⟨[.op 5 0], _, [], List.range 8, [10]⟩]) (F := [.old 0, .old 1, .old 2, .old 3, .op 8 0]) (hst.pick [0, 1, 2, 3] rfl) hb follows
        (o_p rfl (ob_load ty_28 rfl rfl u_0) <|
         o_p rfl (ob_move rfl rfl u_0) <|
         o_p rfl (ob_call en_22 (shelf_Shelf_Get_ok _ _ h6) rfl rfl (.cons u_0 (.cons u_1 .nil))) <|
         o_p rfl (ob_move rfl rfl u_0) <|
         o_p rfl (ob_extract rfl rfl u_0 rfl) <|
         o_p rfl (ob_extract rfl rfl u_0 rfl) <|
         o_p rfl (ob_alloc (zs := [.int .i64 0, .int .i64 0, .int .i64 0, .int .i64 0, .float .f64 0, .int .i64 0, .string ByteArray.empty, .slice none 0 0]) (by kernel_rfl) (fun g => zk_api_Record g) rfl rfl) <|
         o_p rfl (ob_storeF ty_38 rfl rfl u_1 u_0) <|
         o_p rfl (ob_assign rfl rfl u_0) <|
         o_n) (by kernel_rfl) (fun a g hst hb => ?_)
      obtain ⟨r7, h8, H0⟩ := of_bind H0
      refine r_s (L := [(1, _), (3, _), (5, _), (6, _), (10, _)]) (T := [⟨[.old 4], _, [], [], [31]⟩, ⟨[.op 0 0], _, [], [0], [32]⟩, ⟨[.op 1 0], _, [], [0, 1], [33]⟩, ⟨[.op 2 0, .old 1], _, [], [0, 1, 2], [34]⟩, ⟨[.op 2 0, .op 3 0], _, [], List.range 4, [35]⟩, ⟨[.op 2 0, .old 1], _, [], [0, 1, 2], [36]⟩, ⟨[.op 2 0, .op 5 0], _, [], [0, 1, 2, 5], [37]⟩, ⟨[.op 2 0, .op 4 0, .op 6 0], _, [], List.range 7, [38]⟩, ⟨[.op 2 0, .op 7 0], _, [], List.range 8, [39]⟩]) (F := [.old 0, .old 1, .old 2, .old 3, .op 8 0]) hst hb follows
        (o_p rfl (ob_move rfl rfl u_0) <|
         o_p rfl (ob_not rfl rfl u_0) <|
         o_p rfl (ob_move rfl rfl u_0) <|
         o_g (g_t rfl rfl rfl (fun hG => ob_load ty_28 rfl rfl u_0)) <|
         o_g (g_t rfl rfl rfl (fun hG => ob_call en_17 (shelf_Shelf_Len_ok _ (gd_true h8 hG)) rfl rfl (.cons (Opd.gd hG u_0) .nil))) <|
         o_g (g_t rfl rfl rfl (fun hG => ob_fieldAddr fl_28_1 rfl rfl u_0)) <|
         o_g (g_t rfl rfl rfl (fun hG => ob_load ty_3 rfl rfl (Opd.gd hG u_0))) <|
         o_g (g_t rfl rfl rfl (fun hG => ob_ge rfl rfl (Opd.gd hG u_0) (Opd.gd hG u_1))) <|
         o_p rfl (ob_pand rfl rfl u_0 (fun hz => (Opd.gd hz u_1))) <|
         o_n) (by kernel_rfl) (fun a g hst hb => ?_)
      refine wp_cond_split (hst.bool 4 rfl) (fun hc9 => ?_) (fun hc9 => ?_)
      · replace H0 := ite_t hc9 H0
        refine r_s (L := [(3, _), (6, _)]) (T := [⟨[.old 0], _, [], [], [40]⟩, ⟨[.op 0 0, .old 1], _, [7], [0], [6]⟩, ⟨[], _, [], [0, 1], [7]⟩]) (F := [.op 1 0, .op 2 0]) (hst.pick [1, 3] rfl) hb follows
          (o_p rfl (ob_load ty_28 rfl rfl u_0) <|
           o_p rfl (ob_store ty_28 rfl rfl u_1 u_0) <|
           o_p rfl (ob_assign rfl rfl c_i) <|
           o_n) (by kernel_rfl) (fun a g hst hb => ?_)
        refine wp_ret ?_
        refine then_r ?_
        obtain rfl := Option.some.inj H0
        obtain ⟨u0, hu0, hq0⟩ := res_box (P := Try.prog) ty_28 (hst.at 0 rfl)
        exact endR2 rfl hst hb hu0 (res_tmp (s := 7)) (pTup_2 hq0 (hst.at 1 rfl))
      · replace H0 := ite_f hc9 H0
        refine wp_skip ?_
        refine then_n ?_
        obtain ⟨r10, h11, H0⟩ := of_bind H0; obtain ⟨r12, h13, H0⟩ := of_bind H0
        refine r_s (L := [(1, _), (3, _), (5, _), (6, _)]) (T := [⟨[.old 1], _, [], [], [41]⟩, ⟨[.op 0 0], _, [], [0], [42]⟩, ⟨[.old 0], _, [], [], [43]⟩, ⟨[.old 2], _, [], [], [44]⟩, ⟨[.op 3 0], _, [], [3], [45]⟩, ⟨[.op 1 0, .op 2 0, .op 4 0], _, [], List.range 5, [46]⟩, ⟨[.old 1], _, [], [], [47]⟩, ⟨[.op 6 0], _, [], [6], [48]⟩, ⟨[.op 5 0, .op 7 0], _, [], List.range 8, [49]⟩, ⟨[.op 8 0, .old 3], _, [7], List.range 9, [6]⟩, ⟨[], _, [], List.range 10, [7]⟩]) (F := [.op 9 0, .op 10 0]) (hst.pick [0, 1, 2, 3] rfl) hb follows
          (o_p rfl (ob_fieldAddr fl_28_0 rfl rfl u_0) <|
           o_p rfl (ob_load ty_26 rfl rfl u_0) <|
           o_p rfl (ob_move rfl rfl u_0) <|
           o_p rfl (ob_load ty_38 rfl rfl u_0) <|
           o_p rfl (ob_call en_34 (rec_Clone_ok _ h11) rfl rfl (.cons u_0 .nil)) <|
           o_p rfl (ob_call en_36 (shelf_node_set_ok _ _ _ h13) rfl rfl (.cons u_0 (.cons u_1 (.cons u_2 .nil)))) <|
           o_p rfl (ob_fieldAddr fl_28_1 rfl rfl u_0) <|
           o_p rfl (ob_load ty_3 rfl rfl u_0) <|
           o_p rfl (bd_28_0_1 rfl rfl u_0 u_1) <|
           o_p rfl (ob_store ty_28 rfl rfl u_1 u_0) <|
           o_p rfl (ob_assign rfl rfl c_i) <|
           o_n) (by kernel_rfl) (fun a g hst hb => ?_)
        refine wp_ret ?_
        obtain rfl := Option.some.inj H0
        obtain ⟨u0, hu0, hq0⟩ := res_box (P := Try.prog) ty_28 (hst.at 0 rfl)
        exact endR2 rfl hst hb hu0 (res_tmp (s := 7)) (pTup_2 hq0 (hst.at 1 rfl))
end Go.CL

set_option linter.unusedVariables false
set_option linter.unusedSimpArgs false
set_option maxRecDepth 100000
namespace Go.CL
open Go Go.RowKit Go.Proofs
theorem moietylaw09_speaks_ok {r : Bool} (h : moietylaw09_speaks = some r) : FnOk Try.prog 8 [] (pBool r) := by
  have H0 := h
  unfold moietylaw09_speaks at H0
  clear h
  refine fn_ok (N := 88) Try.func8 rfl rfl (Nat.le_of_ble_eq_true rfl) rfl rfl (fun a g0 hst hb => ?_)
  refine r_s (L := []) (T := [⟨[], _, [], [], [0]⟩]) (F := []) hst hb follows
    (o_p rfl (ob_assign rfl rfl c_b) <|
     o_n) (by kernel_rfl) (fun a g hst hb => ?_)
  obtain ⟨r1, h2, H0⟩ := of_bind H0
  refine r_s (L := []) (T := [⟨[], _, [], [], [12]⟩, ⟨[.op 0 0], _, [], [0], [11]⟩, ⟨[.op 1 0], _, [], [0, 1], [13]⟩, ⟨[.op 1 0], _, [], [0, 1], [14]⟩, ⟨[], [(1, (pBox k_shelf_Shelf 1 (default : shelf_Shelf)))], [2], [], [1]⟩, ⟨[.op 2 0, .op 4 0], _, [2], [0, 1, 2, 4], [1]⟩, ⟨[.op 3 0], _, [], List.range 6, [2]⟩]) (F := [.op 5 0, .op 6 0]) hst hb follows
    (o_p rfl (ob_call en_10 (shelf_New_ok _ h2) rfl rfl (.cons c_i .nil)) <|
     o_p rfl (ob_move rfl rfl u_0) <|
     o_p rfl (ob_extract rfl rfl u_0 rfl) <|
     o_p rfl (ob_extract rfl rfl u_0 rfl) <|
     o_p rfl (ob_alloc (zs := [.pointer none, .int .i64 0]) (by kernel_rfl) (fun g => zk_shelf_Shelf g) rfl rfl) <|
     o_p rfl (ob_storeF ty_28 rfl rfl u_1 u_0) <|
     o_p rfl (ob_assign rfl rfl u_0) <|
     o_n) (by kernel_rfl) (fun a g hst hb => ?_)
  refine r_s (L := [(1, _), (2, _)]) (T := [⟨[], _, [], [], [15]⟩, ⟨[], [(3, (pBox k_api_Record 3 (default : api_Record)))], [4], [], [3]⟩, ⟨[.op 0 0, .op 1 0], _, [4], [0, 1], [3]⟩]) (F := [.old 0, .old 1, .op 2 0]) hst hb follows
    (o_p rfl (bd_38_0_1 rfl rfl c_i c_i) <|
     o_p rfl (ob_alloc (zs := [.int .i64 0, .int .i64 0, .int .i64 0, .int .i64 0, .float .f64 0, .int .i64 0, .string ByteArray.empty, .slice none 0 0]) (by kernel_rfl) (fun g => zk_api_Record g) rfl rfl) <|
     o_p rfl (ob_storeF ty_38 rfl rfl u_1 u_0) <|
     o_n) (by kernel_rfl) (fun a g hst hb => ?_)
  obtain ⟨r3, h4, H0⟩ := of_bind H0
  refine r_s (L := [(1, _), (2, _), (3, _)]) (T := [⟨[.old 0], _, [], [], [17]⟩, ⟨[.old 2], _, [], [], [18]⟩, ⟨[.op 0 0, .op 1 0], _, [], [0, 1], [19]⟩, ⟨[.op 2 0], _, [], [0, 1, 2], [16]⟩, ⟨[.op 3 0], _, [], List.range 4, [20]⟩, ⟨[.op 3 0], _, [], List.range 4, [21]⟩, ⟨[], [(4, (pBox k_shelf_Shelf 4 (default : shelf_Shelf)))], [5], [], [4]⟩, ⟨[.op 4 0, .op 6 0], _, [5], [0, 1, 2, 3, 4, 6], [4]⟩, ⟨[.op 5 0], _, [], List.range 8, [5]⟩]) (F := [.old 0, .old 1, .old 2, .op 7 0, .op 8 0]) hst hb follows
    (o_p rfl (ob_load ty_28 rfl rfl u_0) <|
     o_p rfl (ob_load ty_38 rfl rfl u_0) <|
     o_p rfl (ob_call en_20 (shelf_Shelf_Set_ok _ _ _ h4) rfl rfl (.cons u_0 (.cons c_s (.cons u_1 .nil)))) <|
     o_p rfl (ob_move rfl rfl u_0) <|
     o_p rfl (ob_extract rfl rfl u_0 rfl) <|
     o_p rfl (ob_extract rfl rfl u_0 rfl) <|
     o_p rfl (ob_alloc (zs := [.pointer none, .int .i64 0]) (by kernel_rfl) (fun g => zk_shelf_Shelf g) rfl rfl) <|
     o_p rfl (ob_storeF ty_28 rfl rfl u_1 u_0) <|
     o_p rfl (ob_assign rfl rfl u_0) <|
     o_n) (by kernel_rfl) (fun a g hst hb => ?_)
  obtain ⟨r5, h6, H0⟩ := of_bind H0
  refine r_s (L := [(1, _), (2, _), (3, _), (4, _), (5, _)]) (T := [⟨[.old 3], _, [], [], [23]⟩, ⟨[.old 2], _, [], [], [24]⟩, ⟨[.op 0 0, .op 1 0], _, [], [0, 1], [25]⟩, ⟨[.op 2 0], _, [], [0, 1, 2], [22]⟩, ⟨[.op 3 0], _, [], List.range 4, [26]⟩, ⟨[.op 3 0], _, [], List.range 4, [27]⟩, ⟨[], [(6, (pBox k_shelf_Shelf 6 (default : shelf_Shelf)))], [7], [], [6]⟩, ⟨[.op 4 0, .op 6 0], _, [7], [0, 1, 2, 3, 4, 6], [6]⟩, ⟨[.op 5 0], _, [], List.range 8, [7]⟩]) (F := [.old 0, .old 1, .old 2, .old 3, .old 4, .op 7 0, .op 8 0]) hst hb follows
    (o_p rfl (ob_load ty_28 rfl rfl u_0) <|
     o_p rfl (ob_load ty_38 rfl rfl u_0) <|
     o_p rfl (ob_call en_20 (shelf_Shelf_Set_ok _ _ _ h6) rfl rfl (.cons u_0 (.cons c_s (.cons u_1 .nil)))) <|
     o_p rfl (ob_move rfl rfl u_0) <|
     o_p rfl (ob_extract rfl rfl u_0 rfl) <|
     o_p rfl (ob_extract rfl rfl u_0 rfl) <|
     o_p rfl (ob_alloc (zs := [.pointer none, .int .i64 0]) (by kernel_rfl) (fun g => zk_shelf_Shelf g) rfl rfl) <|
     o_p rfl (ob_storeF ty_28 rfl rfl u_1 u_0) <|
     o_p rfl (ob_assign rfl rfl u_0) <|
     o_n) (by kernel_rfl) (fun a g hst hb => ?_)
  obtain ⟨r7, h8, H0⟩ := of_bind H0
  refine r_s (L := [(1, _), (2, _), (3, _), (4, _), (5, _), (6, _), (7, _)]) (T := [⟨[.old 5], _, [], [], [29]⟩, ⟨[.op 0 0], _, [], [0], [30]⟩, ⟨[.op 1 0], _, [], [0, 1], [28]⟩, ⟨[.op 2 0], _, [], [0, 1, 2], [31]⟩, ⟨[.op 2 0], _, [], [0, 1, 2], [32]⟩, ⟨[.op 2 0], _, [], [0, 1, 2], [33]⟩, ⟨[], [(9, (pBox k_api_Record 9 (default : api_Record)))], [10], [], [9]⟩, ⟨[.op 3 0], _, [], [0, 1, 2, 3, 6], [8]⟩, ⟨[.op 4 0, .op 6 0], _, [10], [0, 1, 2, 3, 4, 6, 7], [9]⟩, ⟨[.op 5 0], _, [], List.range 9, [10]⟩]) (F := [.old 0, .old 1, .old 2, .old 3, .old 4, .old 5, .old 6, .op 7 0, .op 8 0, .op 9 0]) hst hb follows
    (o_p rfl (ob_load ty_28 rfl rfl u_0) <|
     o_p rfl (ob_call en_16 (shelf_Shelf_At_ok _ _ h8) rfl rfl (.cons u_0 (.cons c_i .nil))) <|
     o_p rfl (ob_move rfl rfl u_0) <|
     o_p rfl (ob_extract rfl rfl u_0 rfl) <|
     o_p rfl (ob_extract rfl rfl u_0 rfl) <|
     o_p rfl (ob_extract rfl rfl u_0 rfl) <|
     o_p rfl (ob_alloc (zs := [.int .i64 0, .int .i64 0, .int .i64 0, .int .i64 0, .float .f64 0, .int .i64 0, .string ByteArray.empty, .slice none 0 0]) (by kernel_rfl) (fun g => zk_api_Record g) rfl rfl) <|
     o_p rfl (ob_assign rfl rfl u_0) <|
     o_p rfl (ob_storeF ty_38 rfl rfl u_1 u_0) <|
     o_p rfl (ob_assign rfl rfl u_0) <|
     o_n) (by kernel_rfl) (fun a g hst hb => ?_)
  obtain ⟨r9, h10, H0⟩ := of_bind H0; obtain ⟨r11, h12, H0⟩ := of_bind H0; obtain ⟨r13, h14, H0⟩ := of_bind H0; obtain ⟨r15, h16, H0⟩ := of_bind H0; obtain ⟨r17, h18, H0⟩ := of_bind H0; obtain ⟨r19, h20, H0⟩ := of_bind H0; obtain ⟨r21, h22, H0⟩ := of_bind H0
  refine r_s (L := [(1, _), (2, _), (3, _), (4, _), (5, _), (6, _), (7, _), (8, _), (9, _), (10, _)]) (T := ⟨[.old 1], _, [], [], [34]⟩ :: ⟨[.op 0 0], _, [], [0], [35]⟩ :: ⟨[.op 1 0], _, [], [0, 1], [36]⟩ :: ⟨[.op 2 0, .old 4], _, [], [0, 1, 2], [37]⟩ :: ⟨[.op 2 0, .op 3 0], _, [], List.range 4, [38]⟩ :: ⟨[.op 2 0, .op 4 0], _, [], List.range 5, [39]⟩ :: ⟨[.op 5 0], _, [], List.range 6, [40]⟩ :: ⟨[.op 6 0, .old 6], _, [], List.range 7, [41]⟩ :: ⟨[.op 6 0, .op 7 0], _, [], List.range 8, [42]⟩ :: ⟨[.op 6 0, .op 8 0], _, [], List.range 9, [43]⟩ :: ⟨[.op 9 0], _, [], List.range 10, [44]⟩ :: ⟨[.op 10 0, .old 0], _, [], List.range 11, [45]⟩ :: ⟨[.op 10 0, .op 11 0], _, [], List.range 12, [46]⟩ :: ⟨[.op 10 0, .op 12 0], _, [], List.range 13, [47]⟩ :: ⟨[.op 10 0, .op 13 0], _, [], List.range 14, [48]⟩ :: ⟨[.op 14 0], _, [], List.range 15, [49]⟩ :: ⟨[.op 15 0, .old 3], _, [], List.range 16, [50]⟩ :: ⟨[.op 15 0, .op 16 0], _, [], List.range 17, [51]⟩ :: ⟨[.op 15 0, .op 17 0], _, [], List.range 18, [52]⟩ :: ⟨[.op 15 0, .op 18 0], _, [], List.range 19, [53]⟩ :: ⟨[.op 19 0], _, [], List.range 20, [54]⟩ :: ⟨[.op 20 0, .old 7], _, [], List.range 21, [55]⟩ :: ⟨[.op 20 0, .op 21 0], _, [], List.range 22, [56]⟩ :: ⟨[.op 20 0, .op 22 0], _, [], List.range 23, [57]⟩ :: ⟨[.op 23 0], _, [], List.range 24, [58]⟩ :: ⟨[.op 24 0, .old 8], _, [], List.range 25, [59]⟩ :: ⟨[.op 24 0, .old 2], _, [], List.range 25, [60]⟩ :: ⟨[.op 24 0, .op 25 0, .op 26 0], _, [], List.range 27, [61]⟩ :: ⟨[.op 24 0, .op 27 0], _, [], List.range 28, [62]⟩ :: ⟨[.op 28 0], _, [], List.range 29, [63]⟩ :: ⟨[.op 29 0, .old 9], _, [], List.range 30, [64]⟩ :: ⟨[.op 29 0, .op 30 0], _, [], List.range 31, [65]⟩ :: ⟨[.op 31 0], _, [], List.range 32, [66]⟩ :: ⟨[.op 32 0, .old 3], _, [], List.range 33, [67]⟩ :: ⟨[.op 32 0, .op 33 0], _, [], List.range 34, [68]⟩ :: ⟨[.op 32 0, .op 34 0], _, [], List.range 35, [69]⟩ :: ⟨[.op 32 0, .op 35 0], _, [], List.range 36, [70]⟩ :: ⟨[.op 36 0], _, [], List.range 37, [71]⟩ :: ⟨[.op 37 0, .old 3], _, [], List.range 38, [72]⟩ :: ⟨[.op 37 0, .op 38 0], _, [], List.range 39, [73]⟩ :: ⟨[.op 37 0, .op 39 0], _, [], List.range 40, [74]⟩ :: ⟨[.op 37 0, .op 40 0], _, [], List.range 41, [75]⟩ :: ⟨[.op 37 0, .op 41 0], _, [], List.range 42, [76]⟩ :: ⟨[.op 42 0], _, [], List.range 43, [77]⟩ :: ⟨[.op 43 0, .old 3], _, [], List.range 44, [78]⟩ :: ⟨[.op 43 0, .old 5], _, [], List.range 44, [79]⟩ :: ⟨[.op 43 0, .op 44 0, .op 45 0], _, [], List.range 46, [80]⟩ :: ⟨[.op 43 0, .op 46 0], _, [], List.range 47, [81]⟩ :: ⟨[.op 47 0], _, [], List.range 48, [82]⟩ :: ⟨[.op 48 0, .old 0], _, [], List.range 49, [83]⟩ :: ⟨[.op 48 0, .old 3], _, [], List.range 49, [84]⟩ :: ⟨[.op 48 0, .op 49 0, .op 50 0], _, [], List.range 51, [85]⟩ :: ⟨[.op 48 0, .op 51 0], _, [], List.range 52, [86]⟩ :: ⟨[.op 48 0, .op 52 0], _, [], List.range 53, [87]⟩ :: ⟨[.op 53 0], _, [], List.range 54, [0]⟩ :: []) (F := [.op 54 0]) hst hb follows
    (o_p rfl (ob_move rfl rfl u_0) <|
     o_p rfl (ob_eq rfl rfl u_0 c_i) <|
     o_p rfl (ob_move rfl rfl u_0) <|
     o_g (g_t rfl rfl rfl (fun hG => ob_move rfl rfl u_0)) <|
     o_g (g_t rfl rfl rfl (fun hG => ob_eq rfl rfl (Opd.gd hG u_0) c_i)) <|
     o_p rfl (ob_pand rfl rfl u_0 (fun hz => (Opd.gd hz u_1))) <|
     o_p rfl (ob_move rfl rfl u_0) <|
     o_g (g_t rfl rfl rfl (fun hG => ob_move rfl rfl u_0)) <|
     o_g (g_t rfl rfl rfl (fun hG => ob_eq rfl rfl (Opd.gd hG u_0) c_i)) <|
     o_p rfl (ob_pand rfl rfl u_0 (fun hz => (Opd.gd hz u_1))) <|
     o_p rfl (ob_move rfl rfl u_0) <|
     o_g (g_t rfl rfl rfl (fun hG => ob_load ty_28 rfl rfl u_0)) <|
     o_g (g_t rfl rfl rfl (fun hG => ob_call en_17 (shelf_Shelf_Len_ok _ (gd_true h10 hG)) rfl rfl (.cons (Opd.gd hG u_0) .nil))) <|
     o_g (g_t rfl rfl rfl (fun hG => ob_eq rfl rfl (Opd.gd hG u_0) c_i)) <|
     o_p rfl (ob_pand rfl rfl u_0 (fun hz => (Opd.gd hz u_1))) <|
     o_p rfl (ob_move rfl rfl u_0) <|
     o_g (g_t rfl rfl rfl (fun hG => ob_load ty_28 rfl rfl u_0)) <|
     o_g (g_t rfl rfl rfl (fun hG => ob_call en_17 (shelf_Shelf_Len_ok _ (gd_true h12 hG)) rfl rfl (.cons (Opd.gd hG u_0) .nil))) <|
     o_g (g_t rfl rfl rfl (fun hG => ob_eq rfl rfl (Opd.gd hG u_0) c_i)) <|
     o_p rfl (ob_pand rfl rfl u_0 (fun hz => (Opd.gd hz u_1))) <|
     o_p rfl (ob_move rfl rfl u_0) <|
     o_g (g_t rfl rfl rfl (fun hG => ob_move rfl rfl u_0)) <|
     o_g (g_t rfl rfl rfl (fun hG => ob_seq rfl rfl (Opd.gd hG u_0) c_s)) <|
     o_p rfl (ob_pand rfl rfl u_0 (fun hz => (Opd.gd hz u_1))) <|
     o_p rfl (ob_move rfl rfl u_0) <|
     o_g (g_t rfl rfl rfl (fun hG => ob_load ty_38 rfl rfl u_0)) <|
     o_g (g_t rfl rfl rfl (fun hG => ob_load ty_38 rfl rfl u_0)) <|
     o_g (g_t rfl rfl rfl (fun hG => ob_call en_29 (rec_Same_ok _ _ (gd_true h14 hG)) rfl rfl (.cons (Opd.gd hG u_0) (.cons (Opd.gd hG u_1) .nil)))) <|
     o_p rfl (ob_pand rfl rfl u_0 (fun hz => (Opd.gd hz u_1))) <|
     o_p rfl (ob_move rfl rfl u_0) <|
     o_g (g_t rfl rfl rfl (fun hG => ob_move rfl rfl u_0)) <|
     o_p rfl (ob_pand rfl rfl u_0 (fun hz => (Opd.gd hz u_1))) <|
     o_p rfl (ob_move rfl rfl u_0) <|
     o_g (g_t rfl rfl rfl (fun hG => ob_load ty_28 rfl rfl u_0)) <|
     o_g (g_t rfl rfl rfl (fun hG => ob_call en_14 (shelf_Shelf_Rank_ok _ _ (gd_true h16 hG)) rfl rfl (.cons (Opd.gd hG u_0) (.cons c_s .nil)))) <|
     o_g (g_t rfl rfl rfl (fun hG => ob_eq rfl rfl (Opd.gd hG u_0) c_i)) <|
     o_p rfl (ob_pand rfl rfl u_0 (fun hz => (Opd.gd hz u_1))) <|
     o_p rfl (ob_move rfl rfl u_0) <|
     o_g (g_t rfl rfl rfl (fun hG => ob_load ty_28 rfl rfl u_0)) <|
     o_g (g_t rfl rfl rfl (fun hG => ob_call en_12 (shelf_Shelf_Keys_ok _ _ _ _ (gd_true h18 hG)) rfl rfl (.cons (Opd.gd hG u_0) (.cons c_s (.cons c_s (.cons c_i .nil)))))) <|
     o_g (g_t rfl rfl rfl (fun hG => ob_lenL Try.underlying43 rfl rfl (Opd.gd hG u_0))) <|
     o_g (g_t rfl rfl rfl (fun hG => ob_eq rfl rfl (Opd.gd hG u_0) c_i)) <|
     o_p rfl (ob_pand rfl rfl u_0 (fun hz => (Opd.gd hz u_1))) <|
     o_p rfl (ob_move rfl rfl u_0) <|
     o_g (g_t rfl rfl rfl (fun hG => ob_load ty_28 rfl rfl u_0)) <|
     o_g (g_t rfl rfl rfl (fun hG => ob_load ty_28 rfl rfl u_0)) <|
     o_g (g_t rfl rfl rfl (fun hG => ob_call en_18 (shelf_Same_ok _ _ (gd_true h20 hG)) rfl rfl (.cons (Opd.gd hG u_0) (.cons (Opd.gd hG u_1) .nil)))) <|
     o_p rfl (ob_pand rfl rfl u_0 (fun hz => (Opd.gd hz u_1))) <|
     o_p rfl (ob_move rfl rfl u_0) <|
     o_g (g_t rfl rfl rfl (fun hG => ob_load ty_28 rfl rfl u_0)) <|
     o_g (g_t rfl rfl rfl (fun hG => ob_load ty_28 rfl rfl u_0)) <|
     o_g (g_t rfl rfl rfl (fun hG => ob_call en_18 (shelf_Same_ok _ _ (gd_true h22 hG)) rfl rfl (.cons (Opd.gd hG u_0) (.cons (Opd.gd hG u_1) .nil)))) <|
     o_g (g_t rfl rfl rfl (fun hG => ob_not rfl rfl (Opd.gd hG u_0))) <|
     o_p rfl (ob_pand rfl rfl u_0 (fun hz => (Opd.gd hz u_1))) <|
     o_p rfl (ob_assign rfl rfl u_0) <|
     o_n) (by kernel_rfl) (fun a g hst hb => ?_)
  refine wp_ret ?_
  obtain rfl := Option.some.inj H0
  exact endR1 rfl hst hb (res_tmp (s := 0)) (hst.at 0 rfl)
end Go.CL

set_option linter.unusedVariables false
set_option linter.unusedSimpArgs false
set_option maxRecDepth 100000
namespace Go.CL
open Go Go.RowKit Go.Proofs
theorem moietylaw03_Big_ok (a0 : api_Record) {r : Int} (h : moietylaw03_Big a0 = some r) : FnOk Try.prog 30 [(k_api_Record.pd a0)] (pInt .i64 r) := by
  have H0 := h
  unfold moietylaw03_Big at H0
  clear h
  refine fn_ok (N := 27) Try.func30 rfl rfl (Nat.le_of_ble_eq_true rfl) rfl rfl (fun a g0 hst hb => ?_)
  refine r_s (L := [(0, _)]) (T := [⟨[.old 0], _, [], [], [1]⟩, ⟨[], _, [], [], [2]⟩]) (F := [.op 0 0]) hst hb follows
    (o_p rfl (ob_box1 rfl rfl u_0) <|
     o_p rfl (ob_assign rfl rfl c_i) <|
     o_n) (by kernel_rfl) (fun a g hst hb => ?_)
  refine wp_seq ?_
  refine r_s (L := [(1, _)]) (T := [⟨[.old 0], _, [], [], [5]⟩, ⟨[.op 0 0], _, [], [0], [6]⟩, ⟨[.op 1 0], _, [], [0, 1], [7]⟩, ⟨[.op 2 0], _, [], [0, 1, 2], [8]⟩, ⟨[.op 3 0], _, [], List.range 4, [9]⟩, ⟨[.op 4 0, .old 0], _, [], List.range 5, [10]⟩, ⟨[.op 4 0, .op 5 0], _, [], List.range 6, [11]⟩, ⟨[.op 4 0, .op 6 0], _, [], List.range 7, [12]⟩, ⟨[.op 4 0, .op 7 0], _, [], List.range 8, [13]⟩, ⟨[.op 4 0, .op 8 0], _, [], List.range 9, [14]⟩]) (F := [.old 0, .op 9 0]) hst hb follows
    (o_p rfl (ob_fieldAddr fl_38_7 rfl rfl u_0) <|
     o_p rfl (ob_load ty_36 rfl rfl u_0) <|
     o_p rfl (ob_lenL Try.underlying36 rfl rfl u_0) <|
     o_p rfl (ob_gt rfl rfl u_0 c_i) <|
     o_p rfl (ob_move rfl rfl u_0) <|
     o_g (g_f rfl rfl rfl (fun hG => ob_fieldAddr fl_38_6 rfl rfl u_0)) <|
     o_g (g_f rfl rfl rfl (fun hG => ob_load ty_9 rfl rfl (Opd.gd hG u_0))) <|
     o_g (g_f rfl rfl rfl (fun hG => ob_lenS Try.underlying9 rfl rfl (Opd.gd hG u_0))) <|
     o_g (g_f rfl rfl rfl (fun hG => ob_gt rfl rfl (Opd.gd hG u_0) c_i)) <|
     o_p rfl (ob_por rfl rfl u_0 (fun hz => (Opd.gd (bNF hz) u_1))) <|
     o_n) (by kernel_rfl) (fun a g hst hb => ?_)
  refine wp_cond_split (hst.bool 1 rfl) (fun hc1 => ?_) (fun hc1 => ?_)
  · replace H0 := ite_t hc1 H0
    refine r_s (L := []) (T := [⟨[], _, [], [], [2]⟩]) (F := [.op 0 0]) (hst.pick [] rfl) hb follows
      (o_p rfl (ob_assign rfl rfl c_i) <|
       o_n) (by kernel_rfl) (fun a g hst hb => ?_)
    refine wp_ret ?_
    refine then_r ?_
    obtain rfl := Option.some.inj H0
    exact endR1 rfl hst hb (res_tmp (s := 2)) (hst.at 0 rfl)
  · replace H0 := ite_f hc1 H0
    refine wp_skip ?_
    refine then_n ?_
    refine wp_seq ?_
    refine r_s (L := [(1, _)]) (T := [⟨[.old 0], _, [], [], [15]⟩, ⟨[.op 0 0], _, [], [0], [16]⟩, ⟨[.op 1 0], _, [], [0, 1], [17]⟩, ⟨[], _, [], [], [18]⟩]) (F := [.op 1 0, .op 2 0, .op 3 0]) (hst.pick [0] rfl) hb follows
      (o_p rfl (ob_fieldAddr fl_38_7 rfl rfl u_0) <|
       o_p rfl (ob_load ty_36 rfl rfl u_0) <|
       o_p rfl (ob_lenL Try.underlying36 rfl rfl u_0) <|
       o_p rfl (ob_move rfl rfl c_i) <|
       o_n) (by kernel_rfl) (fun a g hst hb => ?_)
    obtain ⟨z7, hz1, H0⟩ := of_bind H0
    refine wp_cut (fun a w => ∃ (g : G), w = g.w ∧ St 27 [] a g ∧ Base g0 g ∧ (.inr ()) = z7) ?_ ?_
    · rintro a w ⟨g, rfl, hst, hb, rfl⟩
      refine then_n ?_
      refine r_s (L := []) (T := [⟨[], _, [], [], [2]⟩]) (F := [.op 0 0]) hst hb follows
        (o_p rfl (ob_assign rfl rfl c_i) <|
         o_n) (by kernel_rfl) (fun a g hst hb => ?_)
      refine wp_ret ?_
      obtain rfl := Option.some.inj H0
      exact endR1 rfl hst hb (res_tmp (s := 2)) (hst.at 0 rfl)
    · refine wp_block ?_
      refine wp_loop_ghost (fun n a w => ∃ (x2 : Int) (g : G), w = g.w ∧ St 27 [(16, (k_api_Item.sl.pd a0.List)), (17, (pInt .i64 (a0.List.length : Int))), (18, (pInt .i64 x2))] a g ∧ Base g0 g ∧ moietylaw03_Big_l1 a0 n x2 = some z7) (Int.toNat ((a0.List.length : Int) - (0 : Int)) + 1) ⟨(0 : Int), g, rfl, (hst.pick [0, 1, 2] rfl), hb, hz1⟩ (fun n a w hI => ?_)
      obtain ⟨x2, g, rfl, hst, hb, H1⟩ := hI
      cases n with
      | zero => exact absurd H1 (by simp [moietylaw03_Big_l1])
      | succ n =>
        rw [moietylaw03_Big_l1] at H1
        refine r_s (L := [(16, _), (17, _), (18, _)]) (T := [⟨[.old 2, .old 1], _, [], [], [19]⟩]) (F := [.old 0, .old 1, .old 2, .op 0 0]) hst hb follows
          (o_p rfl (ob_lt rfl rfl u_0 u_1) <|
           o_n) (by kernel_rfl) (fun a g hst hb => ?_)
        refine wp_seq ?_
        refine wp_cond_split (hst.bool 3 rfl) (fun hc3 => ?_) (fun hc3 => ?_)
        · replace H1 := ite_t hc3 H1
          refine wp_skip ?_
          refine then_n ?_
          refine wp_seq ?_
          refine wp_block ?_
          obtain ⟨e4, h5, H1⟩ := of_bind H1
          refine r_s (L := [(16, _), (17, _), (18, _)]) (T := [⟨[.old 0, .old 2], _, [], [], [20]⟩, ⟨[.op 0 0], _, [], [0], [21]⟩, ⟨[], [(4, (pBox k_api_Item 4 (default : api_Item)))], [5], [], [4]⟩, ⟨[.op 1 0, .op 2 0], _, [5], [0, 1, 2], [4]⟩]) (F := [.op 3 0, .old 0, .old 1, .old 2]) (hst.pick [0, 1, 2] rfl) hb follows
            (o_p rfl (ob_indexAddr Try.underlying36 sz_64 rfl rfl u_0 u_1 h5) <|
             o_p rfl (ob_load ty_64 rfl rfl u_0) <|
             o_p rfl (ob_alloc (zs := [.float .f64 0, .string ByteArray.empty]) (by kernel_rfl) (fun g => zk_api_Item g) rfl rfl) <|
             o_p rfl (ob_storeF ty_64 rfl rfl u_1 u_0) <|
             o_n) (by kernel_rfl) (fun a g hst hb => ?_)
          refine r_s (L := [(4, _), (16, _), (17, _), (18, _)]) (T := [⟨[.old 0], _, [], [], [22]⟩, ⟨[.op 0 0], _, [], [0], [23]⟩, ⟨[.op 1 0], _, [], [0, 1], [24]⟩, ⟨[.op 2 0], _, [], [0, 1, 2], [25]⟩]) (F := [.old 1, .old 2, .old 3, .op 3 0]) hst hb follows
            (o_p rfl (ob_fieldAddr fl_64_1 rfl rfl u_0) <|
             o_p rfl (ob_load ty_9 rfl rfl u_0) <|
             o_p rfl (ob_lenS Try.underlying9 rfl rfl u_0) <|
             o_p rfl (ob_gt rfl rfl u_0 c_i) <|
             o_n) (by kernel_rfl) (fun a g hst hb => ?_)
          refine wp_cond_split (hst.bool 3 rfl) (fun hc6 => ?_) (fun hc6 => ?_)
          · replace H1 := ite_t hc6 H1
            refine r_s (L := []) (T := [⟨[], _, [], [], [2]⟩]) (F := [.op 0 0]) (hst.pick [] rfl) hb follows
              (o_p rfl (ob_assign rfl rfl c_i) <|
               o_n) (by kernel_rfl) (fun a g hst hb => ?_)
            refine wp_ret ?_
            refine inBlock_r ?_
            refine then_r ?_
            refine then_r ?_
            refine inBlock_r ?_
            refine then_r ?_
            refine then_r ?_
            obtain rfl := Option.some.inj H1
            obtain rfl := Option.some.inj H0
            exact endR1 rfl hst hb (res_tmp (s := 2)) (hst.at 0 rfl)
          · replace H1 := ite_f hc6 H1
            refine wp_skip ?_
            refine inBlock_n ?_
            refine then_n ?_
            refine r_g (L := [(16, _), (17, _), (18, _)]) (T := [⟨[.old 2], _, [], [], [26]⟩, ⟨[.op 0 0], _, [], [0], [18]⟩]) (F := [.old 0, .old 1, .op 1 0]) (hst.pick [0, 1, 2] rfl) hb follows
              (o_p rfl (ob_add rfl rfl u_0 c_i rfl) <|
               o_p rfl (ob_move rfl rfl u_0) <|
               o_n) (by kernel_rfl) (fun a g hst hb => ?_)
            exact ⟨n, Nat.lt_succ_self _, (IntKind.i64.wrap (x2 + (1 : Int))), g, rfl, (hst.pick [0, 1, 2] rfl), hb, H1⟩
        · replace H1 := ite_f hc3 H1
          refine wp_exit ?_
          refine then_e ?_
          refine then_e ?_
          refine inBlock_e ?_
          exact ⟨g, rfl, (hst.pick [] rfl), hb, Option.some.inj H1⟩
end Go.CL

set_option linter.unusedVariables false
set_option linter.unusedSimpArgs false
set_option maxRecDepth 100000
namespace Go.CL
open Go Go.RowKit Go.Proofs
theorem moietylaw09_big_ok (a0 : List moietylaw09_Op) {r : Bool} (h : moietylaw09_big a0 = some r) : FnOk Try.prog 9 [(k_moietylaw09_Op.sl.pd a0)] (pBool r) := by
  have H0 := h
  unfold moietylaw09_big at H0
  clear h
  refine fn_ok (N := 25) Try.func9 rfl rfl (Nat.le_of_ble_eq_true rfl) rfl rfl (fun a g0 hst hb => ?_)
  refine r_s (L := [(0, _)]) (T := [⟨[], _, [], [], [2]⟩]) (F := [.old 0]) hst hb follows
    (o_p rfl (ob_assign rfl rfl c_b) <|
     o_n) (by kernel_rfl) (fun a g hst hb => ?_)
  refine wp_seq ?_
  refine r_s (L := [(0, _)]) (T := [⟨[.old 0], _, [], [], [5]⟩, ⟨[.op 0 0], _, [], [0], [6]⟩, ⟨[.op 1 0], _, [], [0, 1], [7]⟩]) (F := [.old 0, .op 2 0]) hst hb follows
    (o_p rfl (ob_move rfl rfl u_0) <|
     o_p rfl (ob_lenL Try.underlying22 rfl rfl u_0) <|
     o_p rfl (ob_gt rfl rfl u_0 c_i) <|
     o_n) (by kernel_rfl) (fun a g hst hb => ?_)
  refine wp_cond_split (hst.bool 1 rfl) (fun hc1 => ?_) (fun hc1 => ?_)
  · replace H0 := ite_t hc1 H0
    refine r_s (L := []) (T := [⟨[], _, [], [], [2]⟩]) (F := [.op 0 0]) (hst.pick [] rfl) hb follows
      (o_p rfl (ob_assign rfl rfl c_b) <|
       o_n) (by kernel_rfl) (fun a g hst hb => ?_)
    refine wp_ret ?_
    refine then_r ?_
    obtain rfl := Option.some.inj H0
    exact endR1 rfl hst hb (res_tmp (s := 2)) (hst.at 0 rfl)
  · replace H0 := ite_f hc1 H0
    refine wp_skip ?_
    refine then_n ?_
    refine wp_seq ?_
    refine r_s (L := [(0, _)]) (T := [⟨[.old 0], _, [], [], [8]⟩, ⟨[.op 0 0], _, [], [0], [9]⟩, ⟨[], _, [], [], [10]⟩]) (F := [.op 0 0, .op 1 0, .op 2 0]) (hst.pick [0] rfl) hb follows
      (o_p rfl (ob_move rfl rfl u_0) <|
       o_p rfl (ob_lenL Try.underlying22 rfl rfl u_0) <|
       o_p rfl (ob_move rfl rfl c_i) <|
       o_n) (by kernel_rfl) (fun a g hst hb => ?_)
    obtain ⟨z9, hz1, H0⟩ := of_bind H0
    refine wp_cut (fun a w => ∃ (g : G), w = g.w ∧ St 25 [] a g ∧ Base g0 g ∧ (.inr ()) = z9) ?_ ?_
    · rintro a w ⟨g, rfl, hst, hb, rfl⟩
      refine then_n ?_
      refine r_s (L := []) (T := [⟨[], _, [], [], [2]⟩]) (F := [.op 0 0]) hst hb follows
        (o_p rfl (ob_assign rfl rfl c_b) <|
         o_n) (by kernel_rfl) (fun a g hst hb => ?_)
      refine wp_ret ?_
      obtain rfl := Option.some.inj H0
      exact endR1 rfl hst hb (res_tmp (s := 2)) (hst.at 0 rfl)
    · refine wp_block ?_
      refine wp_loop_ghost (fun n a w => ∃ (x2 : Int) (g : G), w = g.w ∧ St 25 [(8, (k_moietylaw09_Op.sl.pd a0)), (9, (pInt .i64 (a0.length : Int))), (10, (pInt .i64 x2))] a g ∧ Base g0 g ∧ moietylaw09_big_l1 a0 n x2 = some z9) (Int.toNat ((a0.length : Int) - (0 : Int)) + 1) ⟨(0 : Int), g, rfl, (hst.pick [0, 1, 2] rfl), hb, hz1⟩ (fun n a w hI => ?_)
      obtain ⟨x2, g, rfl, hst, hb, H1⟩ := hI
      cases n with
      | zero => exact absurd H1 (by simp [moietylaw09_big_l1])
      | succ n =>
        rw [moietylaw09_big_l1] at H1
        refine r_s (L := [(8, _), (9, _), (10, _)]) (T := [⟨[.old 2, .old 1], _, [], [], [11]⟩]) (F := [.old 0, .old 1, .old 2, .op 0 0]) hst hb follows
          (o_p rfl (ob_lt rfl rfl u_0 u_1) <|
           o_n) (by kernel_rfl) (fun a g hst hb => ?_)
        refine wp_seq ?_
        refine wp_cond_split (hst.bool 3 rfl) (fun hc3 => ?_) (fun hc3 => ?_)
        · replace H1 := ite_t hc3 H1
          refine wp_skip ?_
          refine then_n ?_
          refine wp_seq ?_
          refine wp_block ?_
          obtain ⟨e4, h5, H1⟩ := of_bind H1
          refine r_s (L := [(8, _), (9, _), (10, _)]) (T := [⟨[.old 0, .old 2], _, [], [], [12]⟩, ⟨[.op 0 0], _, [], [0], [13]⟩, ⟨[], [(4, (pBox k_moietylaw09_Op 4 (default : moietylaw09_Op)))], [5], [], [4]⟩, ⟨[.op 1 0, .op 2 0], _, [5], [0, 1, 2], [4]⟩]) (F := [.op 3 0, .old 0, .old 1, .old 2]) (hst.pick [0, 1, 2] rfl) hb follows
            (o_p rfl (ob_indexAddr Try.underlying22 sz_40 rfl rfl u_0 u_1 h5) <|
             o_p rfl (ob_load ty_40 rfl rfl u_0) <|
             o_p rfl (ob_alloc (zs := [.bool false, .string ByteArray.empty, .int .i64 0, .int .i64 0, .int .i64 0, .int .i64 0, .float .f64 0, .int .i64 0, .string ByteArray.empty, .slice none 0 0]) (by kernel_rfl) (fun g => zk_moietylaw09_Op g) rfl rfl) <|
             o_p rfl (ob_storeF ty_40 rfl rfl u_1 u_0) <|
             o_n) (by kernel_rfl) (fun a g hst hb => ?_)
          obtain ⟨r6, h7, H1⟩ := of_bind H1
          refine r_s (L := [(4, _), (8, _), (9, _), (10, _)]) (T := [⟨[.old 0], _, [], [], [14]⟩, ⟨[.op 0 0], _, [], [0], [15]⟩, ⟨[.op 1 0], _, [], [0, 1], [16]⟩, ⟨[.op 2 0], _, [], [0, 1, 2], [17]⟩, ⟨[.op 3 0], _, [], List.range 4, [18]⟩, ⟨[.op 4 0, .old 0], _, [], List.range 5, [19]⟩, ⟨[.op 4 0, .op 5 0], _, [], List.range 6, [20]⟩, ⟨[.op 4 0, .op 6 0], _, [], List.range 7, [21]⟩, ⟨[.op 4 0, .op 7 0], _, [], List.range 8, [22]⟩, ⟨[.op 4 0, .op 8 0], _, [], List.range 9, [23]⟩]) (F := [.old 1, .old 2, .old 3, .op 9 0]) hst hb follows
            (o_p rfl (ob_fieldAddr fl_40_1 rfl rfl u_0) <|
             o_p rfl (ob_load ty_9 rfl rfl u_0) <|
             o_p rfl (ob_lenS Try.underlying9 rfl rfl u_0) <|
             o_p rfl (ob_gt rfl rfl u_0 c_i) <|
             o_p rfl (ob_move rfl rfl u_0) <|
             o_g (g_f rfl rfl rfl (fun hG => ob_fieldAddr fl_40_2 rfl rfl u_0)) <|
             o_g (g_f rfl rfl rfl (fun hG => ob_load ty_38 rfl rfl (Opd.gd hG u_0))) <|
             o_g (g_f rfl rfl rfl (fun hG => ob_call en_30 (moietylaw03_Big_ok _ (gd_true h7 hG)) rfl rfl (.cons (Opd.gd hG u_0) .nil))) <|
             o_g (g_f rfl rfl rfl (fun hG => ob_gt rfl rfl (Opd.gd hG u_0) c_i)) <|
             o_p rfl (ob_por rfl rfl u_0 (fun hz => (Opd.gd (bNF hz) u_1))) <|
             o_n) (by kernel_rfl) (fun a g hst hb => ?_)
          refine wp_cond_split (hst.bool 3 rfl) (fun hc8 => ?_) (fun hc8 => ?_)
          · replace H1 := ite_t hc8 H1
            refine r_s (L := []) (T := [⟨[], _, [], [], [2]⟩]) (F := [.op 0 0]) (hst.pick [] rfl) hb follows
              (o_p rfl (ob_assign rfl rfl c_b) <|
               o_n) (by kernel_rfl) (fun a g hst hb => ?_)
            refine wp_ret ?_
            refine inBlock_r ?_
            refine then_r ?_
            refine then_r ?_
            refine inBlock_r ?_
            refine then_r ?_
            refine then_r ?_
            obtain rfl := Option.some.inj H1
            obtain rfl := Option.some.inj H0
            exact endR1 rfl hst hb (res_tmp (s := 2)) (hst.at 0 rfl)
          · replace H1 := ite_f hc8 H1
            refine wp_skip ?_
            refine inBlock_n ?_
            refine then_n ?_
            refine r_g (L := [(8, _), (9, _), (10, _)]) (T := [⟨[.old 2], _, [], [], [24]⟩, ⟨[.op 0 0], _, [], [0], [10]⟩]) (F := [.old 0, .old 1, .op 1 0]) (hst.pick [0, 1, 2] rfl) hb follows
              (o_p rfl (ob_add rfl rfl u_0 c_i rfl) <|
               o_p rfl (ob_move rfl rfl u_0) <|
               o_n) (by kernel_rfl) (fun a g hst hb => ?_)
            exact ⟨n, Nat.lt_succ_self _, (IntKind.i64.wrap (x2 + (1 : Int))), g, rfl, (hst.pick [0, 1, 2] rfl), hb, H1⟩
        · replace H1 := ite_f hc3 H1
          refine wp_exit ?_
          refine then_e ?_
          refine then_e ?_
          refine inBlock_e ?_
          exact ⟨g, rfl, (hst.pick [] rfl), hb, Option.some.inj H1⟩
end Go.CL

set_option linter.unusedVariables false
set_option linter.unusedSimpArgs false
set_option maxRecDepth 100000
namespace Go.CL
open Go Go.RowKit Go.Proofs
theorem shelf_node_first_ok (a0 : shelf_nodeT) {r : shelf_nodeT} (h : shelf_node_first a0 = some r) : FnOk Try.prog 54 [(k_shelf_nodeT.pd a0)] (k_shelf_nodeT.pd r) := by
  have H0 := h
  unfold shelf_node_first at H0
  clear h
  refine fn_ok (N := 13) Try.func54 rfl rfl (Nat.le_of_ble_eq_true rfl) rfl rfl (fun a g0 hst hb => ?_)
  refine r_s (L := [(0, _)]) (T := [⟨[], [(2, (k_shelf_nodeT.pd shelf_nodeT.nil))], [], [], [2]⟩]) (F := [.old 0]) hst hb follows
    (o_p rfl (ob_assign rfl rfl (Opd.c (fun g => k_shelf_nodeT_nil_q g))) <|
     o_n) (by kernel_rfl) (fun a g hst hb => ?_)
  obtain ⟨z6, hz1, H0⟩ := of_bind H0
  refine wp_seq ?_
  refine wp_cut (fun a w => ∃ (y5 : shelf_nodeT) (g : G), w = g.w ∧ St 13 [(0, (k_shelf_nodeT.pd y5))] a g ∧ Base g0 g ∧ y5 = z6) ?_ ?_
  · rintro a w ⟨y5, g, rfl, hst, hb, rfl⟩
    refine then_n ?_
    refine r_s (L := [(0, _)]) (T := [⟨[.old 0], _, [], [], [12]⟩, ⟨[.op 0 0], _, [], [0], [2]⟩]) (F := [.op 1 0]) hst hb follows
      (o_p rfl (ob_move rfl rfl u_0) <|
       o_p rfl (ob_assign rfl rfl u_0) <|
       o_n) (by kernel_rfl) (fun a g hst hb => ?_)
    refine wp_ret ?_
    obtain rfl := Option.some.inj H0
    exact endR1 rfl hst hb (res_tmp (s := 2)) (hst.at 0 rfl)
  · refine wp_block ?_
    refine wp_loop_ghost (fun n a w => ∃ (x1 : shelf_nodeT) (g : G), w = g.w ∧ St 13 [(0, (k_shelf_nodeT.pd x1))] a g ∧ Base g0 g ∧ shelf_node_first_l1 n x1 = some z6) (a0.hh + 1) ⟨a0, g, rfl, (hst.pick [0] rfl), hb, hz1⟩ (fun n a w hI => ?_)
    obtain ⟨x1, g, rfl, hst, hb, H1⟩ := hI
    cases n with
    | zero => exact absurd H1 (by simp [shelf_node_first_l1])
    | succ n =>
      rw [shelf_node_first_l1] at H1
      refine wp_seq ?_
      obtain ⟨n2, h3, H1⟩ := of_bind H1
      refine r_s (L := [(0, _)]) (T := [⟨[.old 0], _, [], [], [3]⟩, ⟨[.op 0 0], _, [], [0], [4]⟩, ⟨[.op 1 0], _, [], [0, 1], [5]⟩, ⟨[.op 2 0], _, [], [0, 1, 2], [6]⟩, ⟨[.op 3 0], _, [], List.range 4, [7]⟩]) (F := [.old 0, .op 4 0]) hst hb follows
        (o_p rfl (ob_move rfl rfl u_0) <|
         o_p rfl (ob_nilCheck rfl rfl (Opd.imp u_0 (fun _ _ h => shelf_nodeT_node h3 h)) (fun _ _ ⟨_, _, _, e, _⟩ => ⟨_, e⟩)) <|
         o_p rfl (ob_fieldAddr fl_75_2 rfl rfl u_0) <|
         o_p rfl (ob_load ty_26 rfl rfl u_0) <|
         o_p rfl (ob_pne Try.underlying26 rfl rfl u_0 (shelf_nodeT_isptr _)) <|
         o_n) (by kernel_rfl) (fun a g hst hb => ?_)
      refine wp_cond_split (hst.bool 1 rfl) (fun hc4 => ?_) (fun hc4 => ?_)
      · replace H1 := ite_t hc4 H1
        refine wp_skip ?_
        refine then_n ?_
        refine wp_block ?_
        refine r_g (L := [(0, _)]) (T := [⟨[.old 0], _, [], [], [8]⟩, ⟨[.op 0 0], _, [], [0], [9]⟩, ⟨[.op 1 0], _, [], [0, 1], [10]⟩, ⟨[.op 2 0], _, [], [0, 1, 2], [11]⟩, ⟨[.op 3 0], _, [], List.range 4, [0]⟩]) (F := [.op 4 0]) (hst.pick [0] rfl) hb follows
          (o_p rfl (ob_move rfl rfl u_0) <|
           o_p rfl (ob_nilCheck rfl rfl (Opd.imp u_0 (fun _ _ h => shelf_nodeT_node h3 h)) (fun _ _ ⟨_, _, _, e, _⟩ => ⟨_, e⟩)) <|
           o_p rfl (ob_fieldAddr fl_75_2 rfl rfl u_0) <|
           o_p rfl (ob_load ty_26 rfl rfl u_0) <|
           o_p rfl (ob_assign rfl rfl u_0) <|
           o_n) (by kernel_rfl) (fun a g hst hb => ?_)
        refine inBlock_n ?_
        exact ⟨n, Nat.lt_succ_self _, n2.left, g, rfl, (hst.pick [0] rfl), hb, H1⟩
      · replace H1 := ite_f hc4 H1
        refine wp_exit ?_
        refine then_e ?_
        refine then_e ?_
        refine inBlock_e ?_
        exact ⟨x1, g, rfl, (hst.pick [0] rfl), hb, Option.some.inj H1⟩
end Go.CL

set_option linter.unusedVariables false
set_option linter.unusedSimpArgs false
set_option maxRecDepth 100000
namespace Go.CL
open Go Go.RowKit Go.Proofs
theorem shelf_node_cut_b_ok (self : shelf_nodeT → ByteArray → Option (shelf_nodeT)) (hself : ∀ (a0 : shelf_nodeT) (a1 : ByteArray) {r : shelf_nodeT}, self a0 a1 = some r → FnOk Try.prog 38 [(k_shelf_nodeT.pd a0), (pStr a1)] (k_shelf_nodeT.pd r)) (a0 : shelf_nodeT) (a1 : ByteArray) {r : shelf_nodeT} (h : shelf_node_cut_b self a0 a1 = some r) : FnOk Try.prog 38 [(k_shelf_nodeT.pd a0), (pStr a1)] (k_shelf_nodeT.pd r) := by
  have H0 := h
  unfold shelf_node_cut_b at H0
  clear h
  refine fn_ok (N := 108) Try.func38 rfl rfl (Nat.le_of_ble_eq_true rfl) rfl rfl (fun a g0 hst hb => ?_)
  refine r_s (L := [(0, _), (1, _)]) (T := [⟨[], [(4, (k_shelf_nodeT.pd shelf_nodeT.nil))], [], [], [4]⟩]) (F := [.old 0, .old 1]) hst hb follows
    (o_p rfl (ob_assign rfl rfl (Opd.c (fun g => k_shelf_nodeT_nil_q g))) <|
     o_n) (by kernel_rfl) (fun a g hst hb => ?_)
  refine wp_seq ?_
  refine wp_block ?_
  refine r_s (L := [(0, _), (1, _)]) (T := [⟨[.old 0], _, [], [], [7]⟩, ⟨[.op 0 0], _, [], [0], [8]⟩, ⟨[.op 1 0], _, [], [0, 1], [6]⟩]) (F := [.old 0, .old 1, .op 2 0]) hst hb follows
    (o_p rfl (ob_move rfl rfl u_0) <|
     o_p rfl (ob_peq Try.underlying26 rfl rfl u_0 (shelf_nodeT_isptr _)) <|
     o_p rfl (ob_assign rfl rfl u_0) <|
     o_n) (by kernel_rfl) (fun a g hst hb => ?_)
  refine wp_cond_split (hst.bool 2 rfl) (fun hc1 => ?_) (fun hc1 => ?_)
  · replace H0 := ite_t hc1 H0
    refine r_s (L := []) (T := [⟨[], [(4, (k_shelf_nodeT.pd shelf_nodeT.nil))], [], [], [4]⟩]) (F := [.op 0 0]) (hst.pick [] rfl) hb follows
      (o_p rfl (ob_assign rfl rfl (Opd.c (fun g => k_shelf_nodeT_nil_q g))) <|
       o_n) (by kernel_rfl) (fun a g hst hb => ?_)
    refine wp_ret ?_
    refine inBlock_r ?_
    refine then_r ?_
    obtain rfl := Option.some.inj H0
    exact endR1 rfl hst hb (res_tmp (s := 4)) (hst.at 0 rfl)
  · replace H0 := ite_f hc1 H0
    obtain ⟨n2, h3, H0⟩ := of_bind H0
    refine r_s (L := [(0, _), (1, _)]) (T := [⟨[.old 1], _, [], [], [10]⟩, ⟨[.old 0], _, [], [], [11]⟩, ⟨[.op 1 0], _, [], [1], [12]⟩, ⟨[.op 2 0], _, [], [1, 2], [13]⟩, ⟨[.op 3 0], _, [], [1, 2, 3], [14]⟩, ⟨[.op 0 0, .op 4 0], _, [], List.range 5, [15]⟩, ⟨[.op 5 0], _, [], List.range 6, [9]⟩]) (F := [.old 0, .old 1, .op 6 0]) (hst.pick [0, 1] rfl) hb follows
      (o_p rfl (ob_move rfl rfl u_0) <|
       o_p rfl (ob_move rfl rfl u_0) <|
       o_p rfl (ob_nilCheck rfl rfl (Opd.imp u_0 (fun _ _ h => shelf_nodeT_node h3 h)) (fun _ _ ⟨_, _, _, e, _⟩ => ⟨_, e⟩)) <|
       o_p rfl (ob_fieldAddr fl_75_0 rfl rfl u_0) <|
       o_p rfl (ob_load ty_9 rfl rfl u_0) <|
       o_p rfl (ob_slt rfl rfl u_0 u_1) <|
       o_p rfl (ob_assign rfl rfl u_0) <|
       o_n) (by kernel_rfl) (fun a g hst hb => ?_)
    refine wp_cond_split (hst.bool 2 rfl) (fun hc4 => ?_) (fun hc4 => ?_)
    · replace H0 := ite_t hc4 H0
      obtain ⟨r5, h6, H0⟩ := of_bind H0; obtain ⟨r7, h8, H0⟩ := of_bind H0
      refine r_s (L := [(0, _), (1, _)]) (T := ⟨[.old 0], _, [], [], [16]⟩ :: ⟨[.op 0 0], _, [], [0], [17]⟩ :: ⟨[.op 1 0], _, [], [0, 1], [18]⟩ :: ⟨[.op 2 0], _, [], [0, 1, 2], [19]⟩ :: ⟨[.old 0], _, [], [], [20]⟩ :: ⟨[.op 4 0], _, [], [4], [21]⟩ :: ⟨[.op 5 0], _, [], [4, 5], [22]⟩ :: ⟨[.op 6 0], _, [], [4, 5, 6], [23]⟩ :: ⟨[.old 0], _, [], [], [24]⟩ :: ⟨[.op 8 0], _, [], [8], [25]⟩ :: ⟨[.op 9 0], _, [], [8, 9], [26]⟩ :: ⟨[.op 10 0], _, [], [8, 9, 10], [27]⟩ :: ⟨[.old 1], _, [], [], [28]⟩ :: ⟨[.op 11 0, .op 12 0], _, [], List.range' 8 5, [29]⟩ :: ⟨[.old 0], _, [], [], [30]⟩ :: ⟨[.op 14 0], _, [], [14], [31]⟩ :: ⟨[.op 15 0], _, [], [14, 15], [32]⟩ :: ⟨[.op 16 0], _, [], [14, 15, 16], [33]⟩ :: ⟨[.op 3 0, .op 7 0, .op 13 0, .op 17 0], _, [], List.range 18, [34]⟩ :: ⟨[.op 18 0], _, [], List.range 19, [4]⟩ :: []) (F := [.op 19 0]) (hst.pick [0, 1] rfl) hb follows
        (o_p rfl (ob_move rfl rfl u_0) <|
         o_p rfl (ob_nilCheck rfl rfl (Opd.imp u_0 (fun _ _ h => shelf_nodeT_node h3 h)) (fun _ _ ⟨_, _, _, e, _⟩ => ⟨_, e⟩)) <|
         o_p rfl (ob_fieldAddr fl_75_0 rfl rfl u_0) <|
         o_p rfl (ob_load ty_9 rfl rfl u_0) <|
         o_p rfl (ob_move rfl rfl u_0) <|
         o_p rfl (ob_nilCheck rfl rfl (Opd.imp u_0 (fun _ _ h => shelf_nodeT_node h3 h)) (fun _ _ ⟨_, _, _, e, _⟩ => ⟨_, e⟩)) <|
         o_p rfl (ob_fieldAddr fl_75_1 rfl rfl u_0) <|
         o_p rfl (ob_load ty_38 rfl rfl u_0) <|
         o_p rfl (ob_move rfl rfl u_0) <|
         o_p rfl (ob_nilCheck rfl rfl (Opd.imp u_0 (fun _ _ h => shelf_nodeT_node h3 h)) (fun _ _ ⟨_, _, _, e, _⟩ => ⟨_, e⟩)) <|
         o_p rfl (ob_fieldAddr fl_75_2 rfl rfl u_0) <|
         o_p rfl (ob_load ty_26 rfl rfl u_0) <|
         o_p rfl (ob_move rfl rfl u_0) <|
         o_p rfl (ob_call en_38 (hself _ _ h6) rfl rfl (.cons u_0 (.cons u_1 .nil))) <|
         o_p rfl (ob_move rfl rfl u_0) <|
         o_p rfl (ob_nilCheck rfl rfl (Opd.imp u_0 (fun _ _ h => shelf_nodeT_node h3 h)) (fun _ _ ⟨_, _, _, e, _⟩ => ⟨_, e⟩)) <|
         o_p rfl (ob_fieldAddr fl_75_3 rfl rfl u_0) <|
         o_p rfl (ob_load ty_26 rfl rfl u_0) <|
         o_p rfl (ob_call en_52 (shelf_even_ok _ _ _ _ h8) rfl rfl (.cons u_0 (.cons u_1 (.cons u_2 (.cons u_3 .nil))))) <|
         o_p rfl (ob_assign rfl rfl u_0) <|
         o_n) (by kernel_rfl) (fun a g hst hb => ?_)
      refine wp_ret ?_
      refine inBlock_r ?_
      refine then_r ?_
      obtain rfl := Option.some.inj H0
      exact endR1 rfl hst hb (res_tmp (s := 4)) (hst.at 0 rfl)
    · replace H0 := ite_f hc4 H0
      refine r_s (L := [(0, _), (1, _)]) (T := [⟨[.old 1], _, [], [], [36]⟩, ⟨[.old 0], _, [], [], [37]⟩, ⟨[.op 1 0], _, [], [1], [38]⟩, ⟨[.op 2 0], _, [], [1, 2], [39]⟩, ⟨[.op 3 0], _, [], [1, 2, 3], [40]⟩, ⟨[.op 0 0, .op 4 0], _, [], List.range 5, [41]⟩, ⟨[.op 5 0], _, [], List.range 6, [35]⟩]) (F := [.old 0, .old 1, .op 6 0]) (hst.pick [0, 1] rfl) hb follows
        (o_p rfl (ob_move rfl rfl u_0) <|
         o_p rfl (ob_move rfl rfl u_0) <|
         o_p rfl (ob_nilCheck rfl rfl (Opd.imp u_0 (fun _ _ h => shelf_nodeT_node h3 h)) (fun _ _ ⟨_, _, _, e, _⟩ => ⟨_, e⟩)) <|
         o_p rfl (ob_fieldAddr fl_75_0 rfl rfl u_0) <|
         o_p rfl (ob_load ty_9 rfl rfl u_0) <|
         o_p rfl (ob_sgt rfl rfl u_0 u_1) <|
         o_p rfl (ob_assign rfl rfl u_0) <|
         o_n) (by kernel_rfl) (fun a g hst hb => ?_)
      refine wp_cond_split (hst.bool 2 rfl) (fun hc9 => ?_) (fun hc9 => ?_)
      · replace H0 := ite_t hc9 H0
        obtain ⟨r10, h11, H0⟩ := of_bind H0; obtain ⟨r12, h13, H0⟩ := of_bind H0
        refine r_s (L := [(0, _), (1, _)]) (T := ⟨[.old 0], _, [], [], [42]⟩ :: ⟨[.op 0 0], _, [], [0], [43]⟩ :: ⟨[.op 1 0], _, [], [0, 1], [44]⟩ :: ⟨[.op 2 0], _, [], [0, 1, 2], [45]⟩ :: ⟨[.old 0], _, [], [], [46]⟩ :: ⟨[.op 4 0], _, [], [4], [47]⟩ :: ⟨[.op 5 0], _, [], [4, 5], [48]⟩ :: ⟨[.op 6 0], _, [], [4, 5, 6], [49]⟩ :: ⟨[.old 0], _, [], [], [50]⟩ :: ⟨[.op 8 0], _, [], [8], [51]⟩ :: ⟨[.op 9 0], _, [], [8, 9], [52]⟩ :: ⟨[.op 10 0], _, [], [8, 9, 10], [53]⟩ :: ⟨[.old 0], _, [], [], [54]⟩ :: ⟨[.op 12 0], _, [], [12], [55]⟩ :: ⟨[.op 13 0], _, [], [12, 13], [56]⟩ :: ⟨[.op 14 0], _, [], [12, 13, 14], [57]⟩ :: ⟨[.old 1], _, [], [], [58]⟩ :: ⟨[.op 15 0, .op 16 0], _, [], List.range' 12 5, [59]⟩ :: ⟨[.op 3 0, .op 7 0, .op 11 0, .op 17 0], _, [], List.range 18, [60]⟩ :: ⟨[.op 18 0], _, [], List.range 19, [4]⟩ :: []) (F := [.op 19 0]) (hst.pick [0, 1] rfl) hb follows
          (o_p rfl (ob_move rfl rfl u_0) <|
           o_p rfl (ob_nilCheck rfl rfl (Opd.imp u_0 (fun _ _ h => shelf_nodeT_node h3 h)) (fun _ _ ⟨_, _, _, e, _⟩ => ⟨_, e⟩)) <|
           o_p rfl (ob_fieldAddr fl_75_0 rfl rfl u_0) <|
           o_p rfl (ob_load ty_9 rfl rfl u_0) <|
           o_p rfl (ob_move rfl rfl u_0) <|
           o_p rfl (ob_nilCheck rfl rfl (Opd.imp u_0 (fun _ _ h => shelf_nodeT_node h3 h)) (fun _ _ ⟨_, _, _, e, _⟩ => ⟨_, e⟩)) <|
           o_p rfl (ob_fieldAddr fl_75_1 rfl rfl u_0) <|
           o_p rfl (ob_load ty_38 rfl rfl u_0) <|
           o_p rfl (ob_move rfl rfl u_0) <|
           o_p rfl (ob_nilCheck rfl rfl (Opd.imp u_0 (fun _ _ h => shelf_nodeT_node h3 h)) (fun _ _ ⟨_, _, _, e, _⟩ => ⟨_, e⟩)) <|
           o_p rfl (ob_fieldAddr fl_75_2 rfl rfl u_0) <|
           o_p rfl (ob_load ty_26 rfl rfl u_0) <|
           o_p rfl (ob_move rfl rfl u_0) <|
           o_p rfl (ob_nilCheck rfl rfl (Opd.imp u_0 (fun _ _ h => shelf_nodeT_node h3 h)) (fun _ _ ⟨_, _, _, e, _⟩ => ⟨_, e⟩)) <|
           o_p rfl (ob_fieldAddr fl_75_3 rfl rfl u_0) <|
           o_p rfl (ob_load ty_26 rfl rfl u_0) <|
           o_p rfl (ob_move rfl rfl u_0) <|
           o_p rfl (ob_call en_38 (hself _ _ h11) rfl rfl (.cons u_0 (.cons u_1 .nil))) <|
           o_p rfl (ob_call en_52 (shelf_even_ok _ _ _ _ h13) rfl rfl (.cons u_0 (.cons u_1 (.cons u_2 (.cons u_3 .nil))))) <|
           o_p rfl (ob_assign rfl rfl u_0) <|
           o_n) (by kernel_rfl) (fun a g hst hb => ?_)
        refine wp_ret ?_
        refine inBlock_r ?_
        refine then_r ?_
        obtain rfl := Option.some.inj H0
        exact endR1 rfl hst hb (res_tmp (s := 4)) (hst.at 0 rfl)
      · replace H0 := ite_f hc9 H0
        refine r_s (L := [(0, _)]) (T := [⟨[.old 0], _, [], [], [62]⟩, ⟨[.op 0 0], _, [], [0], [63]⟩, ⟨[.op 1 0], _, [], [0, 1], [64]⟩, ⟨[.op 2 0], _, [], [0, 1, 2], [65]⟩, ⟨[.op 3 0], _, [], List.range 4, [66]⟩, ⟨[.op 4 0], _, [], List.range 5, [61]⟩]) (F := [.old 0, .op 5 0]) (hst.pick [0] rfl) hb follows
          (o_p rfl (ob_move rfl rfl u_0) <|
           o_p rfl (ob_nilCheck rfl rfl (Opd.imp u_0 (fun _ _ h => shelf_nodeT_node h3 h)) (fun _ _ ⟨_, _, _, e, _⟩ => ⟨_, e⟩)) <|
           o_p rfl (ob_fieldAddr fl_75_2 rfl rfl u_0) <|
           o_p rfl (ob_load ty_26 rfl rfl u_0) <|
           o_p rfl (ob_peq Try.underlying26 rfl rfl u_0 (shelf_nodeT_isptr _)) <|
           o_p rfl (ob_assign rfl rfl u_0) <|
           o_n) (by kernel_rfl) (fun a g hst hb => ?_)
        refine wp_cond_split (hst.bool 1 rfl) (fun hc14 => ?_) (fun hc14 => ?_)
        · replace H0 := ite_t hc14 H0
          refine r_s (L := [(0, _)]) (T := [⟨[.old 0], _, [], [], [67]⟩, ⟨[.op 0 0], _, [], [0], [68]⟩, ⟨[.op 1 0], _, [], [0, 1], [69]⟩, ⟨[.op 2 0], _, [], [0, 1, 2], [70]⟩, ⟨[.op 3 0], _, [], List.range 4, [4]⟩]) (F := [.op 4 0]) (hst.pick [0] rfl) hb follows
            (o_p rfl (ob_move rfl rfl u_0) <|
             o_p rfl (ob_nilCheck rfl rfl (Opd.imp u_0 (fun _ _ h => shelf_nodeT_node h3 h)) (fun _ _ ⟨_, _, _, e, _⟩ => ⟨_, e⟩)) <|
             o_p rfl (ob_fieldAddr fl_75_3 rfl rfl u_0) <|
             o_p rfl (ob_load ty_26 rfl rfl u_0) <|
             o_p rfl (ob_assign rfl rfl u_0) <|
             o_n) (by kernel_rfl) (fun a g hst hb => ?_)
          refine wp_ret ?_
          refine inBlock_r ?_
          refine then_r ?_
          obtain rfl := Option.some.inj H0
          exact endR1 rfl hst hb (res_tmp (s := 4)) (hst.at 0 rfl)
        · replace H0 := ite_f hc14 H0
          refine r_s (L := [(0, _)]) (T := [⟨[.old 0], _, [], [], [72]⟩, ⟨[.op 0 0], _, [], [0], [73]⟩, ⟨[.op 1 0], _, [], [0, 1], [74]⟩, ⟨[.op 2 0], _, [], [0, 1, 2], [75]⟩, ⟨[.op 3 0], _, [], List.range 4, [76]⟩, ⟨[.op 4 0], _, [], List.range 5, [71]⟩]) (F := [.old 0, .op 5 0]) (hst.pick [0] rfl) hb follows
            (o_p rfl (ob_move rfl rfl u_0) <|
             o_p rfl (ob_nilCheck rfl rfl (Opd.imp u_0 (fun _ _ h => shelf_nodeT_node h3 h)) (fun _ _ ⟨_, _, _, e, _⟩ => ⟨_, e⟩)) <|
             o_p rfl (ob_fieldAddr fl_75_3 rfl rfl u_0) <|
             o_p rfl (ob_load ty_26 rfl rfl u_0) <|
             o_p rfl (ob_peq Try.underlying26 rfl rfl u_0 (shelf_nodeT_isptr _)) <|
             o_p rfl (ob_assign rfl rfl u_0) <|
             o_n) (by kernel_rfl) (fun a g hst hb => ?_)
          refine wp_cond_split (hst.bool 1 rfl) (fun hc15 => ?_) (fun hc15 => ?_)
          · replace H0 := ite_t hc15 H0
            refine r_s (L := [(0, _)]) (T := [⟨[.old 0], _, [], [], [77]⟩, ⟨[.op 0 0], _, [], [0], [78]⟩, ⟨[.op 1 0], _, [], [0, 1], [79]⟩, ⟨[.op 2 0], _, [], [0, 1, 2], [80]⟩, ⟨[.op 3 0], _, [], List.range 4, [4]⟩]) (F := [.op 4 0]) (hst.pick [0] rfl) hb follows
              (o_p rfl (ob_move rfl rfl u_0) <|
               o_p rfl (ob_nilCheck rfl rfl (Opd.imp u_0 (fun _ _ h => shelf_nodeT_node h3 h)) (fun _ _ ⟨_, _, _, e, _⟩ => ⟨_, e⟩)) <|
               o_p rfl (ob_fieldAddr fl_75_2 rfl rfl u_0) <|
               o_p rfl (ob_load ty_26 rfl rfl u_0) <|
               o_p rfl (ob_assign rfl rfl u_0) <|
               o_n) (by kernel_rfl) (fun a g hst hb => ?_)
            refine wp_ret ?_
            refine inBlock_r ?_
            refine then_r ?_
            obtain rfl := Option.some.inj H0
            exact endR1 rfl hst hb (res_tmp (s := 4)) (hst.at 0 rfl)
          · replace H0 := ite_f hc15 H0
            refine wp_skip ?_
            refine inBlock_n ?_
            refine then_n ?_
            obtain ⟨r16, h17, H0⟩ := of_bind H0
            refine r_s (L := [(0, _)]) (T := [⟨[.old 0], _, [], [], [81]⟩, ⟨[.op 0 0], _, [], [0], [82]⟩, ⟨[.op 1 0], _, [], [0, 1], [83]⟩, ⟨[.op 2 0], _, [], [0, 1, 2], [84]⟩, ⟨[.op 3 0], _, [], List.range 4, [85]⟩, ⟨[.op 4 0], _, [], List.range 5, [5]⟩]) (F := [.old 0, .op 5 0]) (hst.pick [0] rfl) hb follows
              (o_p rfl (ob_move rfl rfl u_0) <|
               o_p rfl (ob_nilCheck rfl rfl (Opd.imp u_0 (fun _ _ h => shelf_nodeT_node h3 h)) (fun _ _ ⟨_, _, _, e, _⟩ => ⟨_, e⟩)) <|
               o_p rfl (ob_fieldAddr fl_75_3 rfl rfl u_0) <|
               o_p rfl (ob_load ty_26 rfl rfl u_0) <|
               o_p rfl (ob_call en_54 (shelf_node_first_ok _ h17) rfl rfl (.cons u_0 .nil)) <|
               o_p rfl (ob_assign rfl rfl u_0) <|
               o_n) (by kernel_rfl) (fun a g hst hb => ?_)
            obtain ⟨n18, h19, H0⟩ := of_bind H0; obtain ⟨r20, h21, H0⟩ := of_bind H0; obtain ⟨r22, h23, H0⟩ := of_bind H0
            refine r_s (L := [(0, _), (5, _)]) (T := ⟨[.old 1], _, [], [], [86]⟩ :: ⟨[.op 0 0], _, [], [0], [87]⟩ :: ⟨[.op 1 0], _, [], [0, 1], [88]⟩ :: ⟨[.op 2 0], _, [], [0, 1, 2], [89]⟩ :: ⟨[.old 1], _, [], [], [90]⟩ :: ⟨[.op 4 0], _, [], [4], [91]⟩ :: ⟨[.op 5 0], _, [], [4, 5], [92]⟩ :: ⟨[.op 6 0], _, [], [4, 5, 6], [93]⟩ :: ⟨[.old 0], _, [], [], [94]⟩ :: ⟨[.op 8 0], _, [], [8], [95]⟩ :: ⟨[.op 9 0], _, [], [8, 9], [96]⟩ :: ⟨[.op 10 0], _, [], [8, 9, 10], [97]⟩ :: ⟨[.old 0], _, [], [], [98]⟩ :: ⟨[.op 12 0], _, [], [12], [99]⟩ :: ⟨[.op 13 0], _, [], [12, 13], [100]⟩ :: ⟨[.op 14 0], _, [], [12, 13, 14], [101]⟩ :: ⟨[.old 1], _, [], [], [102]⟩ :: ⟨[.op 16 0], _, [], [16], [103]⟩ :: ⟨[.op 17 0], _, [], [16, 17], [104]⟩ :: ⟨[.op 18 0], _, [], [16, 17, 18], [105]⟩ :: ⟨[.op 15 0, .op 19 0], _, [], List.range' 12 8, [106]⟩ :: ⟨[.op 3 0, .op 7 0, .op 11 0, .op 20 0], _, [], List.range 21, [107]⟩ :: ⟨[.op 21 0], _, [], List.range 22, [4]⟩ :: []) (F := [.op 22 0]) hst hb follows
              (o_p rfl (ob_move rfl rfl u_0) <|
               o_p rfl (ob_nilCheck rfl rfl (Opd.imp u_0 (fun _ _ h => shelf_nodeT_node h19 h)) (fun _ _ ⟨_, _, _, e, _⟩ => ⟨_, e⟩)) <|
               o_p rfl (ob_fieldAddr fl_75_0 rfl rfl u_0) <|
               o_p rfl (ob_load ty_9 rfl rfl u_0) <|
               o_p rfl (ob_move rfl rfl u_0) <|
               o_p rfl (ob_nilCheck rfl rfl (Opd.imp u_0 (fun _ _ h => shelf_nodeT_node h19 h)) (fun _ _ ⟨_, _, _, e, _⟩ => ⟨_, e⟩)) <|
               o_p rfl (ob_fieldAddr fl_75_1 rfl rfl u_0) <|
               o_p rfl (ob_load ty_38 rfl rfl u_0) <|
               o_p rfl (ob_move rfl rfl u_0) <|
               o_p rfl (ob_nilCheck rfl rfl (Opd.imp u_0 (fun _ _ h => shelf_nodeT_node h3 h)) (fun _ _ ⟨_, _, _, e, _⟩ => ⟨_, e⟩)) <|
               o_p rfl (ob_fieldAddr fl_75_2 rfl rfl u_0) <|
               o_p rfl (ob_load ty_26 rfl rfl u_0) <|
               o_p rfl (ob_move rfl rfl u_0) <|
               o_p rfl (ob_nilCheck rfl rfl (Opd.imp u_0 (fun _ _ h => shelf_nodeT_node h3 h)) (fun _ _ ⟨_, _, _, e, _⟩ => ⟨_, e⟩)) <|
               o_p rfl (ob_fieldAddr fl_75_3 rfl rfl u_0) <|
               o_p rfl (ob_load ty_26 rfl rfl u_0) <|
               o_p rfl (ob_move rfl rfl u_0) <|
               o_p rfl (ob_nilCheck rfl rfl (Opd.imp u_0 (fun _ _ h => shelf_nodeT_node h19 h)) (fun _ _ ⟨_, _, _, e, _⟩ => ⟨_, e⟩)) <|
               o_p rfl (ob_fieldAddr fl_75_0 rfl rfl u_0) <|
               o_p rfl (ob_load ty_9 rfl rfl u_0) <|
               o_p rfl (ob_call en_38 (hself _ _ h21) rfl rfl (.cons u_0 (.cons u_1 .nil))) <|
               o_p rfl (ob_call en_52 (shelf_even_ok _ _ _ _ h23) rfl rfl (.cons u_0 (.cons u_1 (.cons u_2 (.cons u_3 .nil))))) <|
               o_p rfl (ob_assign rfl rfl u_0) <|
               o_n) (by kernel_rfl) (fun a g hst hb => ?_)
            refine wp_ret ?_
            obtain rfl := Option.some.inj H0
            exact endR1 rfl hst hb (res_tmp (s := 4)) (hst.at 0 rfl)
theorem shelf_node_cut_r_ok : ∀ (n : Nat) (a0 : shelf_nodeT) (a1 : ByteArray) {r : shelf_nodeT}, shelf_node_cut_r n a0 a1 = some r → FnOk Try.prog 38 [(k_shelf_nodeT.pd a0), (pStr a1)] (k_shelf_nodeT.pd r)
  | 0, _, _, _, h => by simp [shelf_node_cut_r] at h
  | n + 1, a0, a1, _, h => shelf_node_cut_b_ok (shelf_node_cut_r n) (fun a0 a1 r h => shelf_node_cut_r_ok n a0 a1 h) a0 a1 h
theorem shelf_node_cut_ok (a0 : shelf_nodeT) (a1 : ByteArray) {r : shelf_nodeT} (h : shelf_node_cut a0 a1 = some r) : FnOk Try.prog 38 [(k_shelf_nodeT.pd a0), (pStr a1)] (k_shelf_nodeT.pd r) := shelf_node_cut_r_ok _ a0 a1 h
end Go.CL

set_option linter.unusedVariables false
set_option linter.unusedSimpArgs false
set_option maxRecDepth 100000
namespace Go.CL
open Go Go.RowKit Go.Proofs
theorem shelf_Shelf_Cut_ok (a0 : shelf_Shelf) (a1 : ByteArray) {r : shelf_Shelf × Bool} (h : shelf_Shelf_Cut a0 a1 = some r) : FnOk Try.prog 26 [(k_shelf_Shelf.pd a0), (pStr a1)] (pTup [(k_shelf_Shelf.pd r.1), (pBool r.2)]) := by
  have H0 := h
  unfold shelf_Shelf_Cut at H0
  clear h
  refine fn_ok (N := 24) Try.func26 rfl rfl (Nat.le_of_ble_eq_true rfl) rfl rfl (fun a g0 hst hb => ?_)
  refine r_s (L := [(0, _), (1, _)]) (T := [⟨[.old 0], _, [], [], [2]⟩, ⟨[], [(4, (pBox k_shelf_Shelf 4 (default : shelf_Shelf)))], [5], [], [4]⟩, ⟨[], _, [], [], [5]⟩]) (F := [.old 1, .op 0 0, .op 1 0]) hst hb follows
    (o_p rfl (ob_box1 rfl rfl u_0) <|
     o_p rfl (ob_alloc (zs := [.pointer none, .int .i64 0]) (by kernel_rfl) (fun g => zk_shelf_Shelf g) rfl rfl) <|
     o_p rfl (ob_assign rfl rfl c_b) <|
     o_n) (by kernel_rfl) (fun a g hst hb => ?_)
  refine wp_seq ?_
  obtain ⟨r1, h2, H0⟩ := of_bind H0
  refine r_s (L := [(1, _), (2, _), (4, _)]) (T := [⟨[.old 1], _, [], [], [9]⟩, ⟨[.old 0], _, [], [], [10]⟩, ⟨[.op 0 0, .op 1 0], _, [], [0, 1], [11]⟩, ⟨[.op 2 0], _, [], [0, 1, 2], [8]⟩, ⟨[.op 3 0], _, [], List.range 4, [12]⟩, ⟨[.op 3 0], _, [], List.range 4, [13]⟩, ⟨[], [(6, (pBox k_api_Record 6 (default : api_Record)))], [7], [], [6]⟩, ⟨[.op 4 0, .op 6 0], _, [7], [0, 1, 2, 3, 4, 6], [6]⟩, ⟨[.op 5 0], _, [], List.range 8, [7]⟩]) (F := [.old 0, .old 1, .old 2, .op 8 0]) hst hb follows
    (o_p rfl (ob_load ty_28 rfl rfl u_0) <|
     o_p rfl (ob_move rfl rfl u_0) <|
     o_p rfl (ob_call en_22 (shelf_Shelf_Get_ok _ _ h2) rfl rfl (.cons u_0 (.cons u_1 .nil))) <|
     o_p rfl (ob_move rfl rfl u_0) <|
     o_p rfl (ob_extract rfl rfl u_0 rfl) <|
     o_p rfl (ob_extract rfl rfl u_0 rfl) <|
     o_p rfl (ob_alloc (zs := [.int .i64 0, .int .i64 0, .int .i64 0, .int .i64 0, .float .f64 0, .int .i64 0, .string ByteArray.empty, .slice none 0 0]) (by kernel_rfl) (fun g => zk_api_Record g) rfl rfl) <|
     o_p rfl (ob_storeF ty_38 rfl rfl u_1 u_0) <|
     o_p rfl (ob_assign rfl rfl u_0) <|
     o_n) (by kernel_rfl) (fun a g hst hb => ?_)
  refine r_s (L := [(1, _), (2, _), (4, _), (7, _)]) (T := [⟨[.old 3], _, [], [], [14]⟩, ⟨[.op 0 0], _, [], [0], [15]⟩]) (F := [.old 0, .old 1, .old 2, .op 1 0]) hst hb follows
    (o_p rfl (ob_move rfl rfl u_0) <|
     o_p rfl (ob_not rfl rfl u_0) <|
     o_n) (by kernel_rfl) (fun a g hst hb => ?_)
  refine wp_cond_split (hst.bool 3 rfl) (fun hc3 => ?_) (fun hc3 => ?_)
  · replace H0 := ite_t hc3 H0
    refine r_s (L := [(2, _), (4, _)]) (T := [⟨[.old 0], _, [], [], [16]⟩, ⟨[.op 0 0, .old 1], _, [5], [0], [4]⟩, ⟨[], _, [], [0, 1], [5]⟩]) (F := [.op 1 0, .op 2 0]) (hst.pick [1, 2] rfl) hb follows
      (o_p rfl (ob_load ty_28 rfl rfl u_0) <|
       o_p rfl (ob_store ty_28 rfl rfl u_1 u_0) <|
       o_p rfl (ob_assign rfl rfl c_b) <|
       o_n) (by kernel_rfl) (fun a g hst hb => ?_)
    refine wp_ret ?_
    refine then_r ?_
    obtain rfl := Option.some.inj H0
    obtain ⟨u0, hu0, hq0⟩ := res_box (P := Try.prog) ty_28 (hst.at 0 rfl)
    exact endR2 rfl hst hb hu0 (res_tmp (s := 5)) (pTup_2 hq0 (hst.at 1 rfl))
  · replace H0 := ite_f hc3 H0
    refine wp_skip ?_
    refine then_n ?_
    obtain ⟨r4, h5, H0⟩ := of_bind H0
    refine r_s (L := [(1, _), (2, _), (4, _)]) (T := [⟨[.old 1], _, [], [], [17]⟩, ⟨[.op 0 0], _, [], [0], [18]⟩, ⟨[.old 0], _, [], [], [19]⟩, ⟨[.op 1 0, .op 2 0], _, [], [0, 1, 2], [20]⟩, ⟨[.old 1], _, [], [], [21]⟩, ⟨[.op 4 0], _, [], [4], [22]⟩, ⟨[.op 3 0, .op 5 0], _, [], List.range 6, [23]⟩, ⟨[.op 6 0, .old 2], _, [5], List.range 7, [4]⟩, ⟨[], _, [], List.range 8, [5]⟩]) (F := [.op 7 0, .op 8 0]) (hst.pick [0, 1, 2] rfl) hb follows
      (o_p rfl (ob_fieldAddr fl_28_0 rfl rfl u_0) <|
       o_p rfl (ob_load ty_26 rfl rfl u_0) <|
       o_p rfl (ob_move rfl rfl u_0) <|
       o_p rfl (ob_call en_38 (shelf_node_cut_ok _ _ h5) rfl rfl (.cons u_0 (.cons u_1 .nil))) <|
       o_p rfl (ob_fieldAddr fl_28_1 rfl rfl u_0) <|
       o_p rfl (ob_load ty_3 rfl rfl u_0) <|
       o_p rfl (bd_28_0_1 rfl rfl u_0 u_1) <|
       o_p rfl (ob_store ty_28 rfl rfl u_1 u_0) <|
       o_p rfl (ob_assign rfl rfl c_b) <|
       o_n) (by kernel_rfl) (fun a g hst hb => ?_)
    refine wp_ret ?_
    obtain rfl := Option.some.inj H0
    obtain ⟨u0, hu0, hq0⟩ := res_box (P := Try.prog) ty_28 (hst.at 0 rfl)
    exact endR2 rfl hst hb hu0 (res_tmp (s := 5)) (pTup_2 hq0 (hst.at 1 rfl))
end Go.CL

set_option linter.unusedVariables false
set_option linter.unusedSimpArgs false
set_option maxRecDepth 100000
namespace Go.CL
open Go Go.RowKit Go.Proofs
theorem moietyref09_Shelf_Find_ok (a0 : moietyref09_Shelf) (a1 : ByteArray) {r : Int} (h : moietyref09_Shelf_Find a0 a1 = some r) : FnOk Try.prog 15 [(k_moietyref09_Shelf.pd a0), (pStr a1)] (pInt .i64 r) := by
  have H0 := h
  unfold moietyref09_Shelf_Find at H0
  clear h
  refine fn_ok (N := 24) Try.func15 rfl rfl (Nat.le_of_ble_eq_true rfl) rfl rfl (fun a g0 hst hb => ?_)
  refine r_s (L := [(0, _), (1, _)]) (T := [⟨[.old 0], _, [], [], [2]⟩, ⟨[], _, [], [], [4]⟩]) (F := [.old 1, .op 0 0]) hst hb follows
    (o_p rfl (ob_box1 rfl rfl u_0) <|
     o_p rfl (ob_assign rfl rfl c_i) <|
     o_n) (by kernel_rfl) (fun a g hst hb => ?_)
  refine r_s (L := [(1, _), (2, _)]) (T := [⟨[], _, [], [], [5]⟩]) (F := [.old 0, .old 1, .op 0 0]) hst hb follows
    (o_p rfl (ob_assign rfl rfl c_i) <|
     o_n) (by kernel_rfl) (fun a g hst hb => ?_)
  obtain ⟨z6, hz1, H0⟩ := of_bind H0
  refine wp_seq ?_
  refine wp_cut (fun a w => ∃ (y5 : Int) (g : G), w = g.w ∧ St 24 [(5, (pInt .i64 y5))] a g ∧ Base g0 g ∧ y5 = z6) ?_ ?_
  · rintro a w ⟨y5, g, rfl, hst, hb, rfl⟩
    refine then_n ?_
    refine r_s (L := [(5, _)]) (T := [⟨[.old 0], _, [], [], [23]⟩, ⟨[.op 0 0], _, [], [0], [4]⟩]) (F := [.op 1 0]) hst hb follows
      (o_p rfl (ob_move rfl rfl u_0) <|
       o_p rfl (ob_assign rfl rfl u_0) <|
       o_n) (by kernel_rfl) (fun a g hst hb => ?_)
    refine wp_ret ?_
    obtain rfl := Option.some.inj H0
    exact endR1 rfl hst hb (res_tmp (s := 4)) (hst.at 0 rfl)
  · refine wp_block ?_
    refine wp_loop_ghost (fun n a w => ∃ (x1 : Int) (g : G), w = g.w ∧ St 24 [(1, (pStr a1)), (2, (k_moietyref09_Shelf.ptr a0)), (5, (pInt .i64 x1))] a g ∧ Base g0 g ∧ moietyref09_Shelf_Find_l1 a0 a1 n x1 = some z6) (Int.toNat ((a0.L.length : Int) - (0 : Int)) + 1) ⟨(0 : Int), g, rfl, (hst.pick [0, 1, 2] rfl), hb, hz1⟩ (fun n a w hI => ?_)
    obtain ⟨x1, g, rfl, hst, hb, H1⟩ := hI
    cases n with
    | zero => exact absurd H1 (by simp [moietyref09_Shelf_Find_l1])
    | succ n =>
      rw [moietyref09_Shelf_Find_l1] at H1
      refine wp_seq ?_
      obtain ⟨e2, h3, H1⟩ := of_bind H1
      refine r_s (L := [(1, _), (2, _), (5, _)]) (T := ⟨[.old 2], _, [], [], [6]⟩ :: ⟨[.old 1], _, [], [], [7]⟩ :: ⟨[.op 1 0], _, [], [1], [8]⟩ :: ⟨[.op 2 0], _, [], [1, 2], [9]⟩ :: ⟨[.op 0 0, .op 3 0], _, [], List.range 4, [10]⟩ :: ⟨[.op 4 0], _, [], List.range 5, [11]⟩ :: ⟨[.op 5 0, .old 1], _, [], List.range 6, [12]⟩ :: ⟨[.op 5 0, .op 6 0], _, [], List.range 7, [13]⟩ :: ⟨[.op 5 0, .old 2], _, [], List.range 6, [14]⟩ :: ⟨[.op 5 0, .op 7 0, .op 8 0], _, [], List.range 9, [15]⟩ :: ⟨[.op 5 0, .op 9 0], _, [], List.range 10, [16]⟩ :: ⟨[.op 5 0, .op 10 0], _, [], List.range 11, [17]⟩ :: ⟨[.op 5 0, .old 0], _, [], List.range 6, [18]⟩ :: ⟨[.op 5 0, .op 11 0, .op 12 0], _, [], List.range 13, [19]⟩ :: ⟨[.op 5 0, .op 13 0], _, [], List.range 14, [20]⟩ :: []) (F := [.old 0, .old 1, .old 2, .op 14 0]) hst hb follows
        (o_p rfl (ob_move rfl rfl u_0) <|
         o_p rfl (ob_fieldAddr fl_34_0 rfl rfl u_0) <|
         o_p rfl (ob_load ty_32 rfl rfl u_0) <|
         o_p rfl (ob_lenL Try.underlying32 rfl rfl u_0) <|
         o_p rfl (ob_lt rfl rfl u_0 u_1) <|
         o_p rfl (ob_move rfl rfl u_0) <|
         o_g (g_t rfl rfl rfl (fun hG => ob_fieldAddr fl_34_0 rfl rfl u_0)) <|
         o_g (g_t rfl rfl rfl (fun hG => ob_load ty_32 rfl rfl (Opd.gd hG u_0))) <|
         o_g (g_t rfl rfl rfl (fun hG => ob_move rfl rfl u_0)) <|
         o_g (g_t rfl rfl rfl (fun hG => ob_indexAddr Try.underlying32 sz_54 rfl rfl (Opd.gd hG u_0) (Opd.gd hG u_1) (gd_true h3 hG))) <|
         o_g (g_t rfl rfl rfl (fun hG => ob_fieldAddr fl_54_0 rfl rfl (Opd.gd hG u_0))) <|
         o_g (g_t rfl rfl rfl (fun hG => ob_load ty_9 rfl rfl (Opd.gd hG u_0))) <|
         o_g (g_t rfl rfl rfl (fun hG => ob_move rfl rfl u_0)) <|
         o_g (g_t rfl rfl rfl (fun hG => ob_slt rfl rfl (Opd.gd hG u_0) (Opd.gd hG u_1))) <|
         o_p rfl (ob_pand rfl rfl u_0 (fun hz => (Opd.gd hz u_1))) <|
         o_n) (by kernel_rfl) (fun a g hst hb => ?_)
      refine wp_cond_split (hst.bool 3 rfl) (fun hc4 => ?_) (fun hc4 => ?_)
      · replace H1 := ite_t hc4 H1
        refine wp_skip ?_
        refine then_n ?_
        refine wp_block ?_
        refine r_g (L := [(1, _), (2, _), (5, _)]) (T := [⟨[.old 2], _, [], [], [21]⟩, ⟨[.op 0 0], _, [], [0], [22]⟩, ⟨[.op 1 0], _, [], [0, 1], [5]⟩]) (F := [.old 0, .old 1, .op 2 0]) (hst.pick [0, 1, 2] rfl) hb follows
          (o_p rfl (ob_move rfl rfl u_0) <|
           o_p rfl (ob_add rfl rfl u_0 c_i rfl) <|
           o_p rfl (ob_assign rfl rfl u_0) <|
           o_n) (by kernel_rfl) (fun a g hst hb => ?_)
        refine inBlock_n ?_
        exact ⟨n, Nat.lt_succ_self _, (IntKind.i64.wrap (x1 + (1 : Int))), g, rfl, (hst.pick [0, 1, 2] rfl), hb, H1⟩
      · replace H1 := ite_f hc4 H1
        refine wp_exit ?_
        refine then_e ?_
        refine then_e ?_
        refine inBlock_e ?_
        exact ⟨x1, g, rfl, (hst.pick [2] rfl), hb, Option.some.inj H1⟩
end Go.CL

set_option linter.unusedVariables false
set_option linter.unusedSimpArgs false
set_option maxRecDepth 100000
namespace Go.CL
open Go Go.RowKit Go.Proofs
theorem moietyref09_Shelf_Cut_ok (a0 : moietyref09_Shelf) (a1 : ByteArray) {r : moietyref09_Shelf × Bool} (h : moietyref09_Shelf_Cut a0 a1 = some r) : FnOk Try.prog 31 [(k_moietyref09_Shelf.pd a0), (pStr a1)] (pTup [(k_moietyref09_Shelf.pd r.1), (pBool r.2)]) := by
  have H0 := h
  unfold moietyref09_Shelf_Cut at H0
  clear h
  refine fn_ok (N := 43) Try.func31 rfl rfl (Nat.le_of_ble_eq_true rfl) rfl rfl (fun a g0 hst hb => ?_)
  refine r_s (L := [(0, _), (1, _)]) (T := [⟨[.old 0], _, [], [], [2]⟩, ⟨[], [(4, (pBox k_moietyref09_Shelf 4 (default : moietyref09_Shelf)))], [5], [], [4]⟩, ⟨[], _, [], [], [5]⟩]) (F := [.old 1, .op 0 0, .op 1 0]) hst hb follows
    (o_p rfl (ob_box1 rfl rfl u_0) <|
     o_p rfl (ob_alloc (zs := [.slice none 0 0, .int .i64 0]) (by kernel_rfl) (fun g => zk_moietyref09_Shelf g) rfl rfl) <|
     o_p rfl (ob_assign rfl rfl c_b) <|
     o_n) (by kernel_rfl) (fun a g hst hb => ?_)
  obtain ⟨r1, h2, H0⟩ := of_bind H0
  refine r_s (L := [(1, _), (2, _), (4, _)]) (T := [⟨[.old 1], _, [], [], [8]⟩, ⟨[.old 0], _, [], [], [9]⟩, ⟨[.op 0 0, .op 1 0], _, [], [0, 1], [10]⟩, ⟨[.op 2 0], _, [], [0, 1, 2], [6]⟩]) (F := [.old 0, .old 1, .old 2, .op 3 0]) hst hb follows
    (o_p rfl (ob_load ty_34 rfl rfl u_0) <|
     o_p rfl (ob_move rfl rfl u_0) <|
     o_p rfl (ob_call en_15 (moietyref09_Shelf_Find_ok _ _ h2) rfl rfl (.cons u_0 (.cons u_1 .nil))) <|
     o_p rfl (ob_assign rfl rfl u_0) <|
     o_n) (by kernel_rfl) (fun a g hst hb => ?_)
  refine wp_seq ?_
  obtain ⟨e3, h4, H0⟩ := of_bind H0
  refine r_s (L := [(1, _), (2, _), (4, _), (6, _)]) (T := ⟨[.old 3], _, [], [], [11]⟩ :: ⟨[.old 1], _, [], [], [12]⟩ :: ⟨[.op 1 0], _, [], [1], [13]⟩ :: ⟨[.op 2 0], _, [], [1, 2], [14]⟩ :: ⟨[.op 0 0, .op 3 0], _, [], List.range 4, [15]⟩ :: ⟨[.op 4 0], _, [], List.range 5, [16]⟩ :: ⟨[.op 5 0, .old 1], _, [], List.range 6, [17]⟩ :: ⟨[.op 5 0, .op 6 0], _, [], List.range 7, [18]⟩ :: ⟨[.op 5 0, .old 3], _, [], List.range 6, [19]⟩ :: ⟨[.op 5 0, .op 7 0, .op 8 0], _, [], List.range 9, [20]⟩ :: ⟨[.op 5 0, .op 9 0], _, [], List.range 10, [21]⟩ :: ⟨[.op 5 0, .op 10 0], _, [], List.range 11, [22]⟩ :: ⟨[.op 5 0, .old 0], _, [], List.range 6, [23]⟩ :: ⟨[.op 5 0, .op 11 0, .op 12 0], _, [], List.range 13, [24]⟩ :: ⟨[.op 5 0, .op 13 0], _, [], List.range 14, [25]⟩ :: []) (F := [.old 1, .old 2, .old 3, .op 14 0]) hst hb follows
    (o_p rfl (ob_move rfl rfl u_0) <|
     o_p rfl (ob_fieldAddr fl_34_0 rfl rfl u_0) <|
     o_p rfl (ob_load ty_32 rfl rfl u_0) <|
     o_p rfl (ob_lenL Try.underlying32 rfl rfl u_0) <|
     o_p rfl (ob_ge rfl rfl u_0 u_1) <|
     o_p rfl (ob_move rfl rfl u_0) <|
     o_g (g_f rfl rfl rfl (fun hG => ob_fieldAddr fl_34_0 rfl rfl u_0)) <|
     o_g (g_f rfl rfl rfl (fun hG => ob_load ty_32 rfl rfl (Opd.gd hG u_0))) <|
     o_g (g_f rfl rfl rfl (fun hG => ob_move rfl rfl u_0)) <|
     o_g (g_f rfl rfl rfl (fun hG => ob_indexAddr Try.underlying32 sz_54 rfl rfl (Opd.gd hG u_0) (Opd.gd hG u_1) (gd_true h4 hG))) <|
     o_g (g_f rfl rfl rfl (fun hG => ob_fieldAddr fl_54_0 rfl rfl (Opd.gd hG u_0))) <|
     o_g (g_f rfl rfl rfl (fun hG => ob_load ty_9 rfl rfl (Opd.gd hG u_0))) <|
     o_g (g_f rfl rfl rfl (fun hG => ob_move rfl rfl u_0)) <|
     o_g (g_f rfl rfl rfl (fun hG => ob_sne rfl rfl (Opd.gd hG u_0) (Opd.gd hG u_1))) <|
     o_p rfl (ob_por rfl rfl u_0 (fun hz => (Opd.gd (bNF hz) u_1))) <|
     o_n) (by kernel_rfl) (fun a g hst hb => ?_)
  refine wp_cond_split (hst.bool 3 rfl) (fun hc5 => ?_) (fun hc5 => ?_)
  · replace H0 := ite_t hc5 H0
    refine r_s (L := [(2, _), (4, _)]) (T := [⟨[.old 0], _, [], [], [26]⟩, ⟨[.op 0 0, .old 1], _, [5], [0], [4]⟩, ⟨[], _, [], [0, 1], [5]⟩]) (F := [.op 1 0, .op 2 0]) (hst.pick [0, 1] rfl) hb follows
      (o_p rfl (ob_load ty_34 rfl rfl u_0) <|
       o_p rfl (ob_store ty_34 rfl rfl u_1 u_0) <|
       o_p rfl (ob_assign rfl rfl c_b) <|
       o_n) (by kernel_rfl) (fun a g hst hb => ?_)
    refine wp_ret ?_
    refine then_r ?_
    obtain rfl := Option.some.inj H0
    obtain ⟨u0, hu0, hq0⟩ := res_box (P := Try.prog) ty_34 (hst.at 0 rfl)
    exact endR2 rfl hst hb hu0 (res_tmp (s := 5)) (pTup_2 hq0 (hst.at 1 rfl))
  · replace H0 := ite_f hc5 H0
    refine wp_skip ?_
    refine then_n ?_
    obtain ⟨c6, h7, H0⟩ := of_bind H0; obtain ⟨h8, H0⟩ := of_ite H0
    refine r_s (L := [(2, _), (4, _), (6, _)]) (T := [⟨[], _, [28], [], [27]⟩, ⟨[.old 0], _, [], [], [28]⟩, ⟨[.op 1 0], _, [], [1], [29]⟩, ⟨[.old 2], _, [], [], [30]⟩, ⟨[.op 2 0, .op 3 0], _, [], [1, 2, 3], [31]⟩, ⟨[.op 0 0, .op 4 0], _, [28], List.range 5, [27, 32]⟩, ⟨[.op 5 0], _, [], List.range 6, [7]⟩]) (F := [.old 0, .old 1, .old 2, .op 6 0]) (hst.pick [0, 1, 2] rfl) hb follows
      (o_p rfl (ob_litRow 27 te_32 (xs := []) .nil (by decide) rfl rfl) <|
       o_p rfl (ob_fieldAddr fl_34_0 rfl rfl u_0) <|
       o_p rfl (ob_load ty_32 rfl rfl u_0) <|
       o_p rfl (ob_move rfl rfl u_0) <|
       o_p rfl (ob_cutH Try.underlying32 sz_54 rfl rfl u_0 u_1 h7) <|
       o_p rfl (ob_append te_32 rfl rfl u_0 u_1 h8) <|
       o_p rfl (ob_assign rfl rfl u_0) <|
       o_n) (by kernel_rfl) (fun a g hst hb => ?_)
    obtain ⟨c9, h10, H0⟩ := of_bind H0; obtain ⟨h11, H0⟩ := of_ite H0
    refine r_s (L := [(2, _), (4, _), (6, _), (7, _)]) (T := ⟨[.old 3], _, [], [], [33]⟩ :: ⟨[.old 0], _, [], [], [34]⟩ :: ⟨[.op 1 0], _, [], [1], [35]⟩ :: ⟨[.old 2], _, [], [], [36]⟩ :: ⟨[.op 3 0], _, [], [3], [37]⟩ :: ⟨[.op 2 0, .op 4 0], _, [], List.range' 1 4, [38]⟩ :: ⟨[.op 0 0, .op 5 0], _, [28], List.range 6, [7, 33, 39]⟩ :: ⟨[.old 0], _, [], [], [40]⟩ :: ⟨[.op 7 0], _, [], [7], [41]⟩ :: ⟨[.op 6 0, .op 8 0], _, [], List.range 9, [42]⟩ :: ⟨[.op 9 0, .old 1], _, [5], List.range 10, [4]⟩ :: ⟨[], _, [], List.range 11, [5]⟩ :: []) (F := [.op 10 0, .op 11 0]) hst hb follows
      (o_p rfl (ob_move rfl rfl u_0) <|
       o_p rfl (ob_fieldAddr fl_34_0 rfl rfl u_0) <|
       o_p rfl (ob_load ty_32 rfl rfl u_0) <|
       o_p rfl (ob_move rfl rfl u_0) <|
       o_p rfl (ob_add rfl rfl u_0 c_i rfl) <|
       o_p rfl (ob_cutL Try.underlying32 sz_54 rfl rfl u_0 u_1 h10) <|
       o_p rfl (ob_append te_32 rfl rfl u_0 u_1 h11) <|
       o_p rfl (ob_fieldAddr fl_34_1 rfl rfl u_0) <|
       o_p rfl (ob_load ty_3 rfl rfl u_0) <|
       o_p rfl (bd_34_0_1 rfl rfl (Opd.imp u_0 (fun _ _ h => pRow_read h)) u_1) <|
       o_p rfl (ob_store ty_34 rfl rfl u_1 u_0) <|
       o_p rfl (ob_assign rfl rfl c_b) <|
       o_n) (by kernel_rfl) (fun a g hst hb => ?_)
    refine wp_ret ?_
    obtain rfl := Option.some.inj H0
    obtain ⟨u0, hu0, hq0⟩ := res_box (P := Try.prog) ty_34 (hst.at 0 rfl)
    exact endR2 rfl hst hb hu0 (res_tmp (s := 5)) (pTup_2 hq0 (hst.at 1 rfl))
end Go.CL

set_option linter.unusedVariables false
set_option linter.unusedSimpArgs false
set_option maxRecDepth 100000
namespace Go.CL
open Go Go.RowKit Go.Proofs
theorem moietyref01_none_ok (a0 : Nat) {r : Bool} (h : moietyref01_none a0 = some r) : FnOk Try.prog 64 [(pFlt a0)] (pBool r) := by
  have H0 := h
  unfold moietyref01_none at H0
  clear h
  refine fn_ok (N := 6) Try.func64 rfl rfl (Nat.le_of_ble_eq_true rfl) rfl rfl (fun a g0 hst hb => ?_)
  refine r_s (L := [(0, _)]) (T := [⟨[], _, [], [], [2]⟩]) (F := [.old 0]) hst hb follows
    (o_p rfl (ob_assign rfl rfl c_b) <|
     o_n) (by kernel_rfl) (fun a g hst hb => ?_)
  refine r_s (L := [(0, _)]) (T := [⟨[.old 0], _, [], [], [3]⟩, ⟨[.old 0], _, [], [], [4]⟩, ⟨[.op 0 0, .op 1 0], _, [], [0, 1], [5]⟩, ⟨[.op 2 0], _, [], [0, 1, 2], [2]⟩]) (F := [.op 3 0]) hst hb follows
    (o_p rfl (ob_move rfl rfl u_0) <|
     o_p rfl (ob_move rfl rfl u_0) <|
     o_p rfl (ob_fneq rfl rfl u_0 u_1) <|
     o_p rfl (ob_assign rfl rfl u_0) <|
     o_n) (by kernel_rfl) (fun a g hst hb => ?_)
  refine wp_ret ?_
  obtain rfl := Option.some.inj H0
  exact endR1 rfl hst hb (res_tmp (s := 2)) (hst.at 0 rfl)
end Go.CL

set_option linter.unusedVariables false
set_option linter.unusedSimpArgs false
set_option maxRecDepth 100000
namespace Go.CL
open Go Go.RowKit Go.Proofs
theorem moietyref01_below_ok (a0 : Nat) {r : Bool} (h : moietyref01_below a0 = some r) : FnOk Try.prog 65 [(pFlt a0)] (pBool r) := by
  have H0 := h
  unfold moietyref01_below at H0
  clear h
  refine fn_ok (N := 10) Try.func65 rfl rfl (Nat.le_of_ble_eq_true rfl) rfl rfl (fun a g0 hst hb => ?_)
  refine r_s (L := [(0, _)]) (T := [⟨[], _, [], [], [2]⟩]) (F := [.old 0]) hst hb follows
    (o_p rfl (ob_assign rfl rfl c_b) <|
     o_n) (by kernel_rfl) (fun a g hst hb => ?_)
  refine wp_seq ?_
  refine r_s (L := [(0, _)]) (T := [⟨[.old 0], _, [], [], [3]⟩, ⟨[.op 0 0], _, [], [0], [4]⟩]) (F := [.old 0, .op 1 0]) hst hb follows
    (o_p rfl (ob_move rfl rfl u_0) <|
     o_p rfl (ob_feql rfl rfl u_0 c_f) <|
     o_n) (by kernel_rfl) (fun a g hst hb => ?_)
  refine wp_cond_split (hst.bool 1 rfl) (fun hc1 => ?_) (fun hc1 => ?_)
  · replace H0 := ite_t hc1 H0
    obtain ⟨f2, h3, H0⟩ := of_bind H0
    refine r_s (L := [(0, _)]) (T := [⟨[.old 0], _, [], [], [5]⟩, ⟨[.op 0 0], _, [], [0], [6]⟩, ⟨[.op 1 0], _, [], [0, 1], [7]⟩, ⟨[.op 2 0], _, [], [0, 1, 2], [2]⟩]) (F := [.op 3 0]) (hst.pick [0] rfl) hb follows
      (o_p rfl (ob_move rfl rfl u_0) <|
       o_p rfl (ob_fquo rfl rfl c_f u_0 h3) <|
       o_p rfl (ob_flss rfl rfl u_0 c_f) <|
       o_p rfl (ob_assign rfl rfl u_0) <|
       o_n) (by kernel_rfl) (fun a g hst hb => ?_)
    refine wp_ret ?_
    refine then_r ?_
    obtain rfl := Option.some.inj H0
    exact endR1 rfl hst hb (res_tmp (s := 2)) (hst.at 0 rfl)
  · replace H0 := ite_f hc1 H0
    refine wp_skip ?_
    refine then_n ?_
    refine r_s (L := [(0, _)]) (T := [⟨[.old 0], _, [], [], [8]⟩, ⟨[.op 0 0], _, [], [0], [9]⟩, ⟨[.op 1 0], _, [], [0, 1], [2]⟩]) (F := [.op 2 0]) (hst.pick [0] rfl) hb follows
      (o_p rfl (ob_move rfl rfl u_0) <|
       o_p rfl (ob_flss rfl rfl u_0 c_f) <|
       o_p rfl (ob_assign rfl rfl u_0) <|
       o_n) (by kernel_rfl) (fun a g hst hb => ?_)
    refine wp_ret ?_
    obtain rfl := Option.some.inj H0
    exact endR1 rfl hst hb (res_tmp (s := 2)) (hst.at 0 rfl)
end Go.CL

set_option linter.unusedVariables false
set_option linter.unusedSimpArgs false
set_option maxRecDepth 100000
namespace Go.CL
open Go Go.RowKit Go.Proofs
theorem moietyref01_Less_ok (a0 : Nat) (a1 : Nat) {r : Bool} (h : moietyref01_Less a0 a1 = some r) : FnOk Try.prog 53 [(pFlt a0), (pFlt a1)] (pBool r) := by
  have H0 := h
  unfold moietyref01_Less at H0
  clear h
  refine fn_ok (N := 25) Try.func53 rfl rfl (Nat.le_of_ble_eq_true rfl) rfl rfl (fun a g0 hst hb => ?_)
  refine r_s (L := [(0, _), (1, _)]) (T := [⟨[], _, [], [], [4]⟩]) (F := [.old 0, .old 1]) hst hb follows
    (o_p rfl (ob_assign rfl rfl c_b) <|
     o_n) (by kernel_rfl) (fun a g hst hb => ?_)
  refine wp_seq ?_
  obtain ⟨r1, h2, H0⟩ := of_bind H0
  refine r_s (L := [(0, _), (1, _)]) (T := [⟨[.old 0], _, [], [], [5]⟩, ⟨[.op 0 0], _, [], [0], [6]⟩]) (F := [.old 0, .old 1, .op 1 0]) hst hb follows
    (o_p rfl (ob_move rfl rfl u_0) <|
     o_p rfl (ob_call en_64 (moietyref01_none_ok _ h2) rfl rfl (.cons u_0 .nil)) <|
     o_n) (by kernel_rfl) (fun a g hst hb => ?_)
  refine wp_cond_split (hst.bool 2 rfl) (fun hc3 => ?_) (fun hc3 => ?_)
  · replace H0 := ite_t hc3 H0
    refine r_s (L := []) (T := [⟨[], _, [], [], [4]⟩]) (F := [.op 0 0]) (hst.pick [] rfl) hb follows
      (o_p rfl (ob_assign rfl rfl c_b) <|
       o_n) (by kernel_rfl) (fun a g hst hb => ?_)
    refine wp_ret ?_
    refine then_r ?_
    obtain rfl := Option.some.inj H0
    exact endR1 rfl hst hb (res_tmp (s := 4)) (hst.at 0 rfl)
  · replace H0 := ite_f hc3 H0
    refine wp_skip ?_
    refine then_n ?_
    refine wp_seq ?_
    obtain ⟨r4, h5, H0⟩ := of_bind H0
    refine r_s (L := [(0, _), (1, _)]) (T := [⟨[.old 1], _, [], [], [7]⟩, ⟨[.op 0 0], _, [], [0], [8]⟩]) (F := [.old 0, .old 1, .op 1 0]) (hst.pick [0, 1] rfl) hb follows
      (o_p rfl (ob_move rfl rfl u_0) <|
       o_p rfl (ob_call en_64 (moietyref01_none_ok _ h5) rfl rfl (.cons u_0 .nil)) <|
       o_n) (by kernel_rfl) (fun a g hst hb => ?_)
    refine wp_cond_split (hst.bool 2 rfl) (fun hc6 => ?_) (fun hc6 => ?_)
    · replace H0 := ite_t hc6 H0
      refine r_s (L := []) (T := [⟨[], _, [], [], [4]⟩]) (F := [.op 0 0]) (hst.pick [] rfl) hb follows
        (o_p rfl (ob_assign rfl rfl c_b) <|
         o_n) (by kernel_rfl) (fun a g hst hb => ?_)
      refine wp_ret ?_
      refine then_r ?_
      obtain rfl := Option.some.inj H0
      exact endR1 rfl hst hb (res_tmp (s := 4)) (hst.at 0 rfl)
    · replace H0 := ite_f hc6 H0
      refine wp_skip ?_
      refine then_n ?_
      refine wp_seq ?_
      refine r_s (L := [(0, _), (1, _)]) (T := [⟨[.old 0], _, [], [], [9]⟩, ⟨[.op 0 0], _, [], [0], [10]⟩, ⟨[.op 1 0], _, [], [0, 1], [11]⟩, ⟨[.op 2 0, .old 1], _, [], [0, 1, 2], [12]⟩, ⟨[.op 2 0, .op 3 0], _, [], List.range 4, [13]⟩, ⟨[.op 2 0, .op 4 0], _, [], List.range 5, [14]⟩]) (F := [.old 0, .old 1, .op 5 0]) (hst.pick [0, 1] rfl) hb follows
        (o_p rfl (ob_move rfl rfl u_0) <|
         o_p rfl (ob_feql rfl rfl u_0 c_f) <|
         o_p rfl (ob_move rfl rfl u_0) <|
         o_g (g_t rfl rfl rfl (fun hG => ob_move rfl rfl u_0)) <|
         o_g (g_t rfl rfl rfl (fun hG => ob_feql rfl rfl (Opd.gd hG u_0) c_f)) <|
         o_p rfl (ob_pand rfl rfl u_0 (fun hz => (Opd.gd hz u_1))) <|
         o_n) (by kernel_rfl) (fun a g hst hb => ?_)
      refine wp_cond_split (hst.bool 2 rfl) (fun hc7 => ?_) (fun hc7 => ?_)
      · replace H0 := ite_t hc7 H0
        obtain ⟨r8, h9, H0⟩ := of_bind H0; obtain ⟨r10, h11, H0⟩ := of_bind H0
        refine r_s (L := [(0, _), (1, _)]) (T := [⟨[.old 0], _, [], [], [15]⟩, ⟨[.op 0 0], _, [], [0], [16]⟩, ⟨[.op 1 0], _, [], [0, 1], [17]⟩, ⟨[.op 2 0, .old 1], _, [], [0, 1, 2], [18]⟩, ⟨[.op 2 0, .op 3 0], _, [], List.range 4, [19]⟩, ⟨[.op 2 0, .op 4 0], _, [], List.range 5, [20]⟩, ⟨[.op 2 0, .op 5 0], _, [], List.range 6, [21]⟩, ⟨[.op 6 0], _, [], List.range 7, [4]⟩]) (F := [.op 7 0]) (hst.pick [0, 1] rfl) hb follows
          (o_p rfl (ob_move rfl rfl u_0) <|
           o_p rfl (ob_call en_65 (moietyref01_below_ok _ h9) rfl rfl (.cons u_0 .nil)) <|
           o_p rfl (ob_move rfl rfl u_0) <|
           o_g (g_t rfl rfl rfl (fun hG => ob_move rfl rfl u_0)) <|
           o_g (g_t rfl rfl rfl (fun hG => ob_call en_65 (moietyref01_below_ok _ (gd_true h11 hG)) rfl rfl (.cons (Opd.gd hG u_0) .nil))) <|
           o_g (g_t rfl rfl rfl (fun hG => ob_not rfl rfl (Opd.gd hG u_0))) <|
           o_p rfl (ob_pand rfl rfl u_0 (fun hz => (Opd.gd hz u_1))) <|
           o_p rfl (ob_assign rfl rfl u_0) <|
           o_n) (by kernel_rfl) (fun a g hst hb => ?_)
        refine wp_ret ?_
        refine then_r ?_
        obtain rfl := Option.some.inj H0
        exact endR1 rfl hst hb (res_tmp (s := 4)) (hst.at 0 rfl)
      · replace H0 := ite_f hc7 H0
        refine wp_skip ?_
        refine then_n ?_
        refine r_s (L := [(0, _), (1, _)]) (T := [⟨[.old 0], _, [], [], [22]⟩, ⟨[.old 1], _, [], [], [23]⟩, ⟨[.op 0 0, .op 1 0], _, [], [0, 1], [24]⟩, ⟨[.op 2 0], _, [], [0, 1, 2], [4]⟩]) (F := [.op 3 0]) (hst.pick [0, 1] rfl) hb follows
          (o_p rfl (ob_move rfl rfl u_0) <|
           o_p rfl (ob_move rfl rfl u_0) <|
           o_p rfl (ob_flss rfl rfl u_0 u_1) <|
           o_p rfl (ob_assign rfl rfl u_0) <|
           o_n) (by kernel_rfl) (fun a g hst hb => ?_)
        refine wp_ret ?_
        obtain rfl := Option.some.inj H0
        exact endR1 rfl hst hb (res_tmp (s := 4)) (hst.at 0 rfl)
end Go.CL

set_option linter.unusedVariables false
set_option linter.unusedSimpArgs false
set_option maxRecDepth 100000
namespace Go.CL
open Go Go.RowKit Go.Proofs
theorem moietyref01_Same_ok (a0 : Nat) (a1 : Nat) {r : Bool} (h : moietyref01_Same a0 a1 = some r) : FnOk Try.prog 37 [(pFlt a0), (pFlt a1)] (pBool r) := by
  have H0 := h
  unfold moietyref01_Same at H0
  clear h
  refine fn_ok (N := 15) Try.func37 rfl rfl (Nat.le_of_ble_eq_true rfl) rfl rfl (fun a g0 hst hb => ?_)
  refine r_s (L := [(0, _), (1, _)]) (T := [⟨[], _, [], [], [4]⟩]) (F := [.old 0, .old 1]) hst hb follows
    (o_p rfl (ob_assign rfl rfl c_b) <|
     o_n) (by kernel_rfl) (fun a g hst hb => ?_)
  obtain ⟨r1, h2, H0⟩ := of_bind H0; obtain ⟨r3, h4, H0⟩ := of_bind H0
  refine r_s (L := [(0, _), (1, _)]) (T := [⟨[.old 0], _, [], [], [5]⟩, ⟨[.old 1], _, [], [], [6]⟩, ⟨[.op 0 0, .op 1 0], _, [], [0, 1], [7]⟩, ⟨[.op 2 0], _, [], [0, 1, 2], [8]⟩, ⟨[.op 3 0], _, [], List.range 4, [9]⟩, ⟨[.op 4 0, .old 1], _, [], List.range 5, [10]⟩, ⟨[.op 4 0, .old 0], _, [], List.range 5, [11]⟩, ⟨[.op 4 0, .op 5 0, .op 6 0], _, [], List.range 7, [12]⟩, ⟨[.op 4 0, .op 7 0], _, [], List.range 8, [13]⟩, ⟨[.op 4 0, .op 8 0], _, [], List.range 9, [14]⟩, ⟨[.op 9 0], _, [], List.range 10, [4]⟩]) (F := [.op 10 0]) hst hb follows
    (o_p rfl (ob_move rfl rfl u_0) <|
     o_p rfl (ob_move rfl rfl u_0) <|
     o_p rfl (ob_call en_53 (moietyref01_Less_ok _ _ h2) rfl rfl (.cons u_0 (.cons u_1 .nil))) <|
     o_p rfl (ob_not rfl rfl u_0) <|
     o_p rfl (ob_move rfl rfl u_0) <|
     o_g (g_t rfl rfl rfl (fun hG => ob_move rfl rfl u_0)) <|
     o_g (g_t rfl rfl rfl (fun hG => ob_move rfl rfl u_0)) <|
     o_g (g_t rfl rfl rfl (fun hG => ob_call en_53 (moietyref01_Less_ok _ _ (gd_true h4 hG)) rfl rfl (.cons (Opd.gd hG u_0) (.cons (Opd.gd hG u_1) .nil)))) <|
     o_g (g_t rfl rfl rfl (fun hG => ob_not rfl rfl (Opd.gd hG u_0))) <|
     o_p rfl (ob_pand rfl rfl u_0 (fun hz => (Opd.gd hz u_1))) <|
     o_p rfl (ob_assign rfl rfl u_0) <|
     o_n) (by kernel_rfl) (fun a g hst hb => ?_)
  refine wp_ret ?_
  obtain rfl := Option.some.inj H0
  exact endR1 rfl hst hb (res_tmp (s := 4)) (hst.at 0 rfl)
end Go.CL

set_option linter.unusedVariables false
set_option linter.unusedSimpArgs false
set_option maxRecDepth 100000
namespace Go.CL
open Go Go.RowKit Go.Proofs
theorem moietyref03_zero_ok (a0 : Nat) {r : Bool} (h : moietyref03_zero a0 = some r) : FnOk Try.prog 66 [(pFlt a0)] (pBool r) := by
  have H0 := h
  unfold moietyref03_zero at H0
  clear h
  refine fn_ok (N := 5) Try.func66 rfl rfl (Nat.le_of_ble_eq_true rfl) rfl rfl (fun a g0 hst hb => ?_)
  refine r_s (L := [(0, _)]) (T := [⟨[], _, [], [], [2]⟩]) (F := [.old 0]) hst hb follows
    (o_p rfl (ob_assign rfl rfl c_b) <|
     o_n) (by kernel_rfl) (fun a g hst hb => ?_)
  obtain ⟨r1, h2, H0⟩ := of_bind H0
  refine r_s (L := [(0, _)]) (T := [⟨[.old 0], _, [], [], [3]⟩, ⟨[.op 0 0], _, [], [0], [4]⟩, ⟨[.op 1 0], _, [], [0, 1], [2]⟩]) (F := [.op 2 0]) hst hb follows
    (o_p rfl (ob_move rfl rfl u_0) <|
     o_p rfl (ob_call en_37 (moietyref01_Same_ok _ _ h2) rfl rfl (.cons u_0 (.cons c_f .nil))) <|
     o_p rfl (ob_assign rfl rfl u_0) <|
     o_n) (by kernel_rfl) (fun a g hst hb => ?_)
  refine wp_ret ?_
  obtain rfl := Option.some.inj H0
  exact endR1 rfl hst hb (res_tmp (s := 2)) (hst.at 0 rfl)
end Go.CL

set_option linter.unusedVariables false
set_option linter.unusedSimpArgs false
set_option maxRecDepth 100000
namespace Go.CL
open Go Go.RowKit Go.Proofs
theorem moietyref03_only_ok (a0 : api_Record) (a1 : ByteArray) {r : Bool} (h : moietyref03_only a0 a1 = some r) : FnOk Try.prog 56 [(k_api_Record.pd a0), (pStr a1)] (pBool r) := by
  have H0 := h
  unfold moietyref03_only at H0
  clear h
  refine fn_ok (N := 106) Try.func56 rfl rfl (Nat.le_of_ble_eq_true rfl) rfl rfl (fun a g0 hst hb => ?_)
  refine r_s (L := [(0, _), (1, _)]) (T := [⟨[.old 0], _, [], [], [2]⟩, ⟨[], _, [], [], [4]⟩]) (F := [.old 1, .op 0 0]) hst hb follows
    (o_p rfl (ob_box1 rfl rfl u_0) <|
     o_p rfl (ob_assign rfl rfl c_b) <|
     o_n) (by kernel_rfl) (fun a g hst hb => ?_)
  refine r_s (L := [(1, _), (2, _)]) (T := [⟨[], _, [], [], [5]⟩, ⟨[], _, [], [0], [6]⟩, ⟨[], _, [], [0, 1], [7]⟩, ⟨[], _, [], [0, 1, 2], [8]⟩, ⟨[], _, [], List.range 4, [9]⟩]) (F := [.old 0, .old 1, .op 0 0, .op 1 0, .op 2 0, .op 3 0, .op 4 0]) hst hb follows
    (o_p rfl (ob_assign rfl rfl c_b) <|
     o_p rfl (ob_assign rfl rfl c_b) <|
     o_p rfl (ob_assign rfl rfl c_b) <|
     o_p rfl (ob_assign rfl rfl c_b) <|
     o_p rfl (ob_assign rfl rfl c_b) <|
     o_n) (by kernel_rfl) (fun a g hst hb => ?_)
  refine wp_seq ?_
  refine r_s (L := [(1, _), (2, _), (5, _), (6, _), (7, _), (8, _), (9, _)]) (T := [⟨[], _, [], [], [10]⟩]) (F := [.old 0, .old 1, .old 2, .old 3, .old 4, .old 5, .old 6, .op 0 0]) hst hb follows
    (o_p rfl (ob_assign rfl rfl c_i) <|
     o_n) (by kernel_rfl) (fun a g hst hb => ?_)
  obtain ⟨z23, hz1, H0⟩ := of_bind H0
  refine wp_cut (fun a w => ∃ (y18 : Bool) (y19 : Bool) (y20 : Bool) (y21 : Bool) (y22 : Bool) (g : G), w = g.w ∧ St 106 [(2, (k_api_Record.ptr a0)), (5, (pBool y18)), (6, (pBool y19)), (7, (pBool y20)), (8, (pBool y21)), (9, (pBool y22))] a g ∧ Base g0 g ∧ (y18, y19, y20, y21, y22) = z23) ?_ ?_
  · rintro a w ⟨y18, y19, y20, y21, y22, g, rfl, hst, hb, rfl⟩
    refine then_n ?_
    refine wp_seq ?_
    refine r_s (L := [(2, _), (5, _), (6, _), (7, _), (8, _), (9, _)]) (T := ⟨[.old 1], _, [], [], [52]⟩ :: ⟨[.op 0 0], _, [], [0], [53]⟩ :: ⟨[.op 1 0], _, [], [0, 1], [54]⟩ :: ⟨[.op 2 0, .old 0], _, [], [0, 1, 2], [55]⟩ :: ⟨[.op 2 0, .op 3 0], _, [], List.range 4, [56]⟩ :: ⟨[.op 2 0, .op 4 0], _, [], List.range 5, [57]⟩ :: ⟨[.op 2 0, .op 5 0], _, [], List.range 6, [58]⟩ :: ⟨[.op 6 0], _, [], List.range 7, [59]⟩ :: ⟨[.op 7 0, .old 2], _, [], List.range 8, [60]⟩ :: ⟨[.op 7 0, .op 8 0], _, [], List.range 9, [61]⟩ :: ⟨[.op 7 0, .op 9 0], _, [], List.range 10, [62]⟩ :: ⟨[.op 10 0, .old 0], _, [], List.range 11, [63]⟩ :: ⟨[.op 10 0, .op 11 0], _, [], List.range 12, [64]⟩ :: ⟨[.op 10 0, .op 12 0], _, [], List.range 13, [65]⟩ :: ⟨[.op 7 0, .op 10 0, .op 13 0], _, [], List.range 14, [66]⟩ :: ⟨[.op 7 0, .op 14 0], _, [], List.range 15, [67]⟩ :: ⟨[.op 15 0], _, [], List.range 16, [68]⟩ :: ⟨[.op 16 0, .old 3], _, [], List.range 17, [69]⟩ :: ⟨[.op 16 0, .op 17 0], _, [], List.range 18, [70]⟩ :: ⟨[.op 16 0, .op 18 0], _, [], List.range 19, [71]⟩ :: ⟨[.op 19 0, .old 0], _, [], List.range 20, [72]⟩ :: ⟨[.op 19 0, .op 20 0], _, [], List.range 21, [73]⟩ :: ⟨[.op 19 0, .op 21 0], _, [], List.range 22, [74]⟩ :: ⟨[.op 16 0, .op 19 0, .op 22 0], _, [], List.range 23, [75]⟩ :: ⟨[.op 16 0, .op 23 0], _, [], List.range 24, [76]⟩ :: ⟨[.op 24 0], _, [], List.range 25, [77]⟩ :: ⟨[.op 25 0, .old 3], _, [], List.range 26, [78]⟩ :: ⟨[.op 25 0, .op 26 0], _, [], List.range 27, [79]⟩ :: ⟨[.op 25 0, .op 27 0], _, [], List.range 28, [80]⟩ :: ⟨[.op 28 0, .old 0], _, [], List.range 29, [81]⟩ :: ⟨[.op 28 0, .op 29 0], _, [], List.range 30, [82]⟩ :: ⟨[.op 28 0, .op 30 0], _, [], List.range 31, [83]⟩ :: ⟨[.op 25 0, .op 28 0, .op 31 0], _, [], List.range 32, [84]⟩ :: ⟨[.op 25 0, .op 32 0], _, [], List.range 33, [85]⟩ :: []) (F := [.old 0, .old 4, .old 5, .op 33 0]) hst hb follows
      (o_p rfl (ob_move rfl rfl u_0) <|
       o_p rfl (ob_not rfl rfl u_0) <|
       o_p rfl (ob_move rfl rfl u_0) <|
       o_g (g_t rfl rfl rfl (fun hG => ob_fieldAddr fl_38_6 rfl rfl u_0)) <|
       o_g (g_t rfl rfl rfl (fun hG => ob_load ty_9 rfl rfl (Opd.gd hG u_0))) <|
       o_g (g_t rfl rfl rfl (fun hG => ob_sne rfl rfl (Opd.gd hG u_0) c_s)) <|
       o_p rfl (ob_pand rfl rfl u_0 (fun hz => (Opd.gd hz u_1))) <|
       o_p rfl (ob_move rfl rfl u_0) <|
       o_g (g_f rfl rfl rfl (fun hG => ob_move rfl rfl u_0)) <|
       o_g (g_f rfl rfl rfl (fun hG => ob_not rfl rfl (Opd.gd hG u_0))) <|
       o_g (g_f rfl rfl rfl (fun hG => ob_move rfl rfl (Opd.gd hG u_0))) <|
       o_g (g_ti rfl rfl rfl (fun hG => ob_fieldAddr fl_38_1 rfl rfl u_0)) <|
       o_g (g_ti rfl rfl rfl (fun hG => ob_load ty_2 rfl rfl (Opd.gd hG u_0))) <|
       o_g (g_ti rfl rfl rfl (fun hG => ob_ne rfl rfl (Opd.gd hG u_0) c_i)) <|
       o_g (g_f rfl rfl rfl (fun hG => ob_pand rfl rfl (Opd.gd hG u_0) (fun hz => (Opd.gd (bA hG hz) u_1)))) <|
       o_p rfl (ob_por rfl rfl u_0 (fun hz => (Opd.gd (bNF hz) u_1))) <|
       o_p rfl (ob_move rfl rfl u_0) <|
       o_g (g_f rfl rfl rfl (fun hG => ob_move rfl rfl u_0)) <|
       o_g (g_f rfl rfl rfl (fun hG => ob_not rfl rfl (Opd.gd hG u_0))) <|
       o_g (g_f rfl rfl rfl (fun hG => ob_move rfl rfl (Opd.gd hG u_0))) <|
       o_g (g_ti rfl rfl rfl (fun hG => ob_fieldAddr fl_38_2 rfl rfl u_0)) <|
       o_g (g_ti rfl rfl rfl (fun hG => ob_load ty_2 rfl rfl (Opd.gd hG u_0))) <|
       o_g (g_ti rfl rfl rfl (fun hG => ob_ne rfl rfl (Opd.gd hG u_0) c_i)) <|
       o_g (g_f rfl rfl rfl (fun hG => ob_pand rfl rfl (Opd.gd hG u_0) (fun hz => (Opd.gd (bA hG hz) u_1)))) <|
       o_p rfl (ob_por rfl rfl u_0 (fun hz => (Opd.gd (bNF hz) u_1))) <|
       o_p rfl (ob_move rfl rfl u_0) <|
       o_g (g_f rfl rfl rfl (fun hG => ob_move rfl rfl u_0)) <|
       o_g (g_f rfl rfl rfl (fun hG => ob_not rfl rfl (Opd.gd hG u_0))) <|
       o_g (g_f rfl rfl rfl (fun hG => ob_move rfl rfl (Opd.gd hG u_0))) <|
       o_g (g_ti rfl rfl rfl (fun hG => ob_fieldAddr fl_38_3 rfl rfl u_0)) <|
       o_g (g_ti rfl rfl rfl (fun hG => ob_load ty_2 rfl rfl (Opd.gd hG u_0))) <|
       o_g (g_ti rfl rfl rfl (fun hG => ob_ne rfl rfl (Opd.gd hG u_0) c_i)) <|
       o_g (g_f rfl rfl rfl (fun hG => ob_pand rfl rfl (Opd.gd hG u_0) (fun hz => (Opd.gd (bA hG hz) u_1)))) <|
       o_p rfl (ob_por rfl rfl u_0 (fun hz => (Opd.gd (bNF hz) u_1))) <|
       o_n) (by kernel_rfl) (fun a g hst hb => ?_)
    refine wp_cond_split (hst.bool 3 rfl) (fun hc24 => ?_) (fun hc24 => ?_)
    · replace H0 := ite_t hc24 H0
      refine r_s (L := []) (T := [⟨[], _, [], [], [4]⟩]) (F := [.op 0 0]) (hst.pick [] rfl) hb follows
        (o_p rfl (ob_assign rfl rfl c_b) <|
         o_n) (by kernel_rfl) (fun a g hst hb => ?_)
      refine wp_ret ?_
      refine then_r ?_
      obtain rfl := Option.some.inj H0
      exact endR1 rfl hst hb (res_tmp (s := 4)) (hst.at 0 rfl)
    · replace H0 := ite_f hc24 H0
      refine wp_skip ?_
      refine then_n ?_
      obtain ⟨r25, h26, H0⟩ := of_bind H0
      refine r_s (L := [(2, _), (8, _), (9, _)]) (T := ⟨[.old 1], _, [], [], [86]⟩ :: ⟨[.op 0 0], _, [], [0], [87]⟩ :: ⟨[.op 1 0, .old 0], _, [], [0, 1], [88]⟩ :: ⟨[.op 1 0, .op 2 0], _, [], [0, 1, 2], [89]⟩ :: ⟨[.op 1 0, .op 3 0], _, [], List.range 4, [90]⟩ :: ⟨[.op 1 0, .op 4 0], _, [], List.range 5, [91]⟩ :: ⟨[.op 5 0], _, [], List.range 6, [92]⟩ :: ⟨[.op 6 0, .old 2], _, [], List.range 7, [93]⟩ :: ⟨[.op 6 0, .op 7 0], _, [], List.range 8, [94]⟩ :: ⟨[.op 8 0, .old 0], _, [], List.range 9, [95]⟩ :: ⟨[.op 8 0, .op 9 0], _, [], List.range 10, [96]⟩ :: ⟨[.op 8 0, .op 10 0], _, [], List.range 11, [97]⟩ :: ⟨[.op 8 0, .op 11 0], _, [], List.range 12, [98]⟩ :: ⟨[.op 12 0, .old 0], _, [], List.range 13, [99]⟩ :: ⟨[.op 12 0, .op 13 0], _, [], List.range 14, [100]⟩ :: ⟨[.op 12 0, .op 14 0], _, [], List.range 15, [101]⟩ :: ⟨[.op 12 0, .op 15 0], _, [], List.range 16, [102]⟩ :: ⟨[.op 8 0, .op 12 0, .op 16 0], _, [], List.range 17, [103]⟩ :: ⟨[.op 6 0, .op 8 0, .op 17 0], _, [], List.range 18, [104]⟩ :: ⟨[.op 6 0, .op 18 0], _, [], List.range 19, [105]⟩ :: ⟨[.op 19 0], _, [], List.range 20, [4]⟩ :: []) (F := [.op 20 0]) (hst.pick [0, 1, 2] rfl) hb follows
        (o_p rfl (ob_move rfl rfl u_0) <|
         o_p rfl (ob_move rfl rfl u_0) <|
         o_g (g_f rfl rfl rfl (fun hG => ob_fieldAddr fl_38_4 rfl rfl u_0)) <|
         o_g (g_f rfl rfl rfl (fun hG => ob_load ty_35 rfl rfl (Opd.gd hG u_0))) <|
         o_g (g_f rfl rfl rfl (fun hG => ob_call en_66 (moietyref03_zero_ok _ (gd_true h26 hG)) rfl rfl (.cons (Opd.gd hG u_0) .nil))) <|
         o_p rfl (ob_por rfl rfl u_0 (fun hz => (Opd.gd (bNF hz) u_1))) <|
         o_p rfl (ob_move rfl rfl u_0) <|
         o_g (g_t rfl rfl rfl (fun hG => ob_move rfl rfl u_0)) <|
         o_g (g_t rfl rfl rfl (fun hG => ob_move rfl rfl (Opd.gd hG u_0))) <|
         o_g (g_fi rfl rfl rfl (fun hG => ob_fieldAddr fl_38_5 rfl rfl u_0)) <|
         o_g (g_fi rfl rfl rfl (fun hG => ob_load ty_3 rfl rfl (Opd.gd hG u_0))) <|
         o_g (g_fi rfl rfl rfl (fun hG => ob_eq rfl rfl (Opd.gd hG u_0) c_i)) <|
         o_g (g_fi rfl rfl rfl (fun hG => ob_move rfl rfl (Opd.gd hG u_0))) <|
         o_g (g_ti rfl rfl rfl (fun hG => ob_fieldAddr fl_38_7 rfl rfl u_0)) <|
         o_g (g_ti rfl rfl rfl (fun hG => ob_load ty_36 rfl rfl (Opd.gd hG u_0))) <|
         o_g (g_ti rfl rfl rfl (fun hG => ob_lenL Try.underlying36 rfl rfl (Opd.gd hG u_0))) <|
         o_g (g_ti rfl rfl rfl (fun hG => ob_eq rfl rfl (Opd.gd hG u_0) c_i)) <|
         o_g (g_fi rfl rfl rfl (fun hG => ob_pand rfl rfl (Opd.gd hG u_0) (fun hz => (Opd.gd (bA hG hz) u_1)))) <|
         o_g (g_t rfl rfl rfl (fun hG => ob_por rfl rfl (Opd.gd hG u_0) (fun hz => (Opd.gd (bA hG (bNF hz)) u_1)))) <|
         o_p rfl (ob_pand rfl rfl u_0 (fun hz => (Opd.gd hz u_1))) <|
         o_p rfl (ob_assign rfl rfl u_0) <|
         o_n) (by kernel_rfl) (fun a g hst hb => ?_)
      refine wp_ret ?_
      obtain rfl := Option.some.inj H0
      exact endR1 rfl hst hb (res_tmp (s := 4)) (hst.at 0 rfl)
  · refine wp_block ?_
    refine wp_loop_ghost (fun n a w => ∃ (x1 : Bool) (x2 : Bool) (x3 : Bool) (x4 : Bool) (x5 : Bool) (x6 : Int) (g : G), w = g.w ∧ St 106 [(1, (pStr a1)), (2, (k_api_Record.ptr a0)), (5, (pBool x1)), (6, (pBool x2)), (7, (pBool x3)), (8, (pBool x4)), (9, (pBool x5)), (10, (pInt .i64 x6))] a g ∧ Base g0 g ∧ moietyref03_only_l1 a1 n x1 x2 x3 x4 x5 x6 = some z23) (Int.toNat ((a1.size : Int) - (0 : Int)) + 1) ⟨false, false, false, false, false, (0 : Int), g, rfl, (hst.pick [0, 1, 2, 3, 4, 5, 6, 7] rfl), hb, hz1⟩ (fun n a w hI => ?_)
    obtain ⟨x1, x2, x3, x4, x5, x6, g, rfl, hst, hb, H1⟩ := hI
    cases n with
    | zero => exact absurd H1 (by simp [moietyref03_only_l1])
    | succ n =>
      rw [moietyref03_only_l1] at H1
      refine wp_seq ?_
      refine r_s (L := [(1, _), (2, _), (5, _), (6, _), (7, _), (8, _), (9, _), (10, _)]) (T := [⟨[.old 7], _, [], [], [11]⟩, ⟨[.old 0], _, [], [], [12]⟩, ⟨[.op 1 0], _, [], [1], [13]⟩, ⟨[.op 0 0, .op 2 0], _, [], [0, 1, 2], [14]⟩]) (F := [.old 0, .old 1, .old 2, .old 3, .old 4, .old 5, .old 6, .old 7, .op 3 0]) hst hb follows
        (o_p rfl (ob_move rfl rfl u_0) <|
         o_p rfl (ob_move rfl rfl u_0) <|
         o_p rfl (ob_lenS Try.underlying9 rfl rfl u_0) <|
         o_p rfl (ob_lt rfl rfl u_0 u_1) <|
         o_n) (by kernel_rfl) (fun a g hst hb => ?_)
      refine wp_cond_split (hst.bool 8 rfl) (fun hc7 => ?_) (fun hc7 => ?_)
      · replace H1 := ite_t hc7 H1
        refine wp_skip ?_
        refine then_n ?_
        refine wp_seq ?_
        refine wp_block ?_
        obtain ⟨b8, h9, H1⟩ := of_bind H1
        refine r_s (L := [(1, _), (2, _), (5, _), (6, _), (7, _), (8, _), (9, _), (10, _)]) (T := [⟨[.old 2], _, [], [], [17]⟩, ⟨[.op 0 0], _, [], [0], [18]⟩, ⟨[.op 1 0, .old 0], _, [], [0, 1], [19]⟩, ⟨[.op 1 0, .old 7], _, [], [0, 1], [20]⟩, ⟨[.op 1 0, .op 2 0, .op 3 0], _, [], List.range 4, [21]⟩, ⟨[.op 1 0, .op 4 0], _, [], List.range 5, [22]⟩, ⟨[.op 1 0, .op 5 0], _, [], List.range 6, [23]⟩, ⟨[.op 6 0], _, [], List.range 7, [5]⟩]) (F := [.old 0, .old 1, .op 7 0, .old 3, .old 4, .old 5, .old 6, .old 7]) (hst.pick [0, 1, 2, 3, 4, 5, 6, 7] rfl) hb follows
          (o_p rfl (ob_move rfl rfl u_0) <|
           o_p rfl (ob_move rfl rfl u_0) <|
           o_g (g_f rfl rfl rfl (fun hG => ob_move rfl rfl u_0)) <|
           o_g (g_f rfl rfl rfl (fun hG => ob_move rfl rfl u_0)) <|
           o_g (g_f rfl rfl rfl (fun hG => ob_sidx Try.underlying9 rfl rfl (Opd.gd hG u_0) (Opd.gd hG u_1) (gd_true h9 hG))) <|
           o_g (g_f rfl rfl rfl (fun hG => ob_eq rfl rfl (Opd.gd hG u_0) c_i)) <|
           o_p rfl (ob_por rfl rfl u_0 (fun hz => (Opd.gd (bNF hz) u_1))) <|
           o_p rfl (ob_assign rfl rfl u_0) <|
           o_n) (by kernel_rfl) (fun a g hst hb => ?_)
        obtain ⟨b10, h11, H1⟩ := of_bind H1
        refine r_s (L := [(1, _), (2, _), (5, _), (6, _), (7, _), (8, _), (9, _), (10, _)]) (T := [⟨[.old 3], _, [], [], [24]⟩, ⟨[.op 0 0], _, [], [0], [25]⟩, ⟨[.op 1 0, .old 0], _, [], [0, 1], [26]⟩, ⟨[.op 1 0, .old 7], _, [], [0, 1], [27]⟩, ⟨[.op 1 0, .op 2 0, .op 3 0], _, [], List.range 4, [28]⟩, ⟨[.op 1 0, .op 4 0], _, [], List.range 5, [29]⟩, ⟨[.op 1 0, .op 5 0], _, [], List.range 6, [30]⟩, ⟨[.op 6 0], _, [], List.range 7, [6]⟩]) (F := [.old 0, .old 1, .old 2, .op 7 0, .old 4, .old 5, .old 6, .old 7]) hst hb follows
          (o_p rfl (ob_move rfl rfl u_0) <|
           o_p rfl (ob_move rfl rfl u_0) <|
           o_g (g_f rfl rfl rfl (fun hG => ob_move rfl rfl u_0)) <|
           o_g (g_f rfl rfl rfl (fun hG => ob_move rfl rfl u_0)) <|
           o_g (g_f rfl rfl rfl (fun hG => ob_sidx Try.underlying9 rfl rfl (Opd.gd hG u_0) (Opd.gd hG u_1) (gd_true h11 hG))) <|
           o_g (g_f rfl rfl rfl (fun hG => ob_eq rfl rfl (Opd.gd hG u_0) c_i)) <|
           o_p rfl (ob_por rfl rfl u_0 (fun hz => (Opd.gd (bNF hz) u_1))) <|
           o_p rfl (ob_assign rfl rfl u_0) <|
           o_n) (by kernel_rfl) (fun a g hst hb => ?_)
        obtain ⟨b12, h13, H1⟩ := of_bind H1
        refine r_s (L := [(1, _), (2, _), (5, _), (6, _), (7, _), (8, _), (9, _), (10, _)]) (T := [⟨[.old 4], _, [], [], [31]⟩, ⟨[.op 0 0], _, [], [0], [32]⟩, ⟨[.op 1 0, .old 0], _, [], [0, 1], [33]⟩, ⟨[.op 1 0, .old 7], _, [], [0, 1], [34]⟩, ⟨[.op 1 0, .op 2 0, .op 3 0], _, [], List.range 4, [35]⟩, ⟨[.op 1 0, .op 4 0], _, [], List.range 5, [36]⟩, ⟨[.op 1 0, .op 5 0], _, [], List.range 6, [37]⟩, ⟨[.op 6 0], _, [], List.range 7, [7]⟩]) (F := [.old 0, .old 1, .old 2, .old 3, .op 7 0, .old 5, .old 6, .old 7]) hst hb follows
          (o_p rfl (ob_move rfl rfl u_0) <|
           o_p rfl (ob_move rfl rfl u_0) <|
           o_g (g_f rfl rfl rfl (fun hG => ob_move rfl rfl u_0)) <|
           o_g (g_f rfl rfl rfl (fun hG => ob_move rfl rfl u_0)) <|
           o_g (g_f rfl rfl rfl (fun hG => ob_sidx Try.underlying9 rfl rfl (Opd.gd hG u_0) (Opd.gd hG u_1) (gd_true h13 hG))) <|
           o_g (g_f rfl rfl rfl (fun hG => ob_eq rfl rfl (Opd.gd hG u_0) c_i)) <|
           o_p rfl (ob_por rfl rfl u_0 (fun hz => (Opd.gd (bNF hz) u_1))) <|
           o_p rfl (ob_assign rfl rfl u_0) <|
           o_n) (by kernel_rfl) (fun a g hst hb => ?_)
        obtain ⟨b14, h15, H1⟩ := of_bind H1
        refine r_s (L := [(1, _), (2, _), (5, _), (6, _), (7, _), (8, _), (9, _), (10, _)]) (T := [⟨[.old 5], _, [], [], [38]⟩, ⟨[.op 0 0], _, [], [0], [39]⟩, ⟨[.op 1 0, .old 0], _, [], [0, 1], [40]⟩, ⟨[.op 1 0, .old 7], _, [], [0, 1], [41]⟩, ⟨[.op 1 0, .op 2 0, .op 3 0], _, [], List.range 4, [42]⟩, ⟨[.op 1 0, .op 4 0], _, [], List.range 5, [43]⟩, ⟨[.op 1 0, .op 5 0], _, [], List.range 6, [44]⟩, ⟨[.op 6 0], _, [], List.range 7, [8]⟩]) (F := [.old 0, .old 1, .old 2, .old 3, .old 4, .op 7 0, .old 6, .old 7]) hst hb follows
          (o_p rfl (ob_move rfl rfl u_0) <|
           o_p rfl (ob_move rfl rfl u_0) <|
           o_g (g_f rfl rfl rfl (fun hG => ob_move rfl rfl u_0)) <|
           o_g (g_f rfl rfl rfl (fun hG => ob_move rfl rfl u_0)) <|
           o_g (g_f rfl rfl rfl (fun hG => ob_sidx Try.underlying9 rfl rfl (Opd.gd hG u_0) (Opd.gd hG u_1) (gd_true h15 hG))) <|
           o_g (g_f rfl rfl rfl (fun hG => ob_eq rfl rfl (Opd.gd hG u_0) c_i)) <|
           o_p rfl (ob_por rfl rfl u_0 (fun hz => (Opd.gd (bNF hz) u_1))) <|
           o_p rfl (ob_assign rfl rfl u_0) <|
           o_n) (by kernel_rfl) (fun a g hst hb => ?_)
        obtain ⟨b16, h17, H1⟩ := of_bind H1
        refine r_g (L := [(1, _), (2, _), (5, _), (6, _), (7, _), (8, _), (9, _), (10, _)]) (T := [⟨[.old 6], _, [], [], [45]⟩, ⟨[.op 0 0], _, [], [0], [46]⟩, ⟨[.op 1 0, .old 0], _, [], [0, 1], [47]⟩, ⟨[.op 1 0, .old 7], _, [], [0, 1], [48]⟩, ⟨[.op 1 0, .op 2 0, .op 3 0], _, [], List.range 4, [49]⟩, ⟨[.op 1 0, .op 4 0], _, [], List.range 5, [50]⟩, ⟨[.op 1 0, .op 5 0], _, [], List.range 6, [51]⟩, ⟨[.op 6 0], _, [], List.range 7, [9]⟩]) (F := [.old 0, .old 1, .old 2, .old 3, .old 4, .old 5, .op 7 0, .old 7]) hst hb follows
          (o_p rfl (ob_move rfl rfl u_0) <|
           o_p rfl (ob_move rfl rfl u_0) <|
           o_g (g_f rfl rfl rfl (fun hG => ob_move rfl rfl u_0)) <|
           o_g (g_f rfl rfl rfl (fun hG => ob_move rfl rfl u_0)) <|
           o_g (g_f rfl rfl rfl (fun hG => ob_sidx Try.underlying9 rfl rfl (Opd.gd hG u_0) (Opd.gd hG u_1) (gd_true h17 hG))) <|
           o_g (g_f rfl rfl rfl (fun hG => ob_eq rfl rfl (Opd.gd hG u_0) c_i)) <|
           o_p rfl (ob_por rfl rfl u_0 (fun hz => (Opd.gd (bNF hz) u_1))) <|
           o_p rfl (ob_assign rfl rfl u_0) <|
           o_n) (by kernel_rfl) (fun a g hst hb => ?_)
        refine inBlock_n ?_
        refine then_n ?_
        refine r_g (L := [(1, _), (2, _), (5, _), (6, _), (7, _), (8, _), (9, _), (10, _)]) (T := [⟨[.old 7], _, [], [], [15]⟩, ⟨[.op 0 0], _, [], [0], [16]⟩, ⟨[.op 1 0], _, [], [0, 1], [10]⟩]) (F := [.old 0, .old 1, .old 2, .old 3, .old 4, .old 5, .old 6, .op 2 0]) hst hb follows
          (o_p rfl (ob_move rfl rfl u_0) <|
           o_p rfl (ob_add rfl rfl u_0 c_i rfl) <|
           o_p rfl (ob_assign rfl rfl u_0) <|
           o_n) (by kernel_rfl) (fun a g hst hb => ?_)
        exact ⟨n, Nat.lt_succ_self _, (x1 || (b8 == (116 : Int))), (x2 || (b10 == (110 : Int))), (x3 || (b12 == (98 : Int))), (x4 || (b14 == (114 : Int))), (x5 || (b16 == (108 : Int))), (IntKind.i64.wrap (x6 + (1 : Int))), g, rfl, (hst.pick [0, 1, 2, 3, 4, 5, 6, 7] rfl), hb, H1⟩
      · replace H1 := ite_f hc7 H1
        refine wp_exit ?_
        refine then_e ?_
        refine then_e ?_
        refine inBlock_e ?_
        exact ⟨x1, x2, x3, x4, x5, g, rfl, (hst.pick [1, 2, 3, 4, 5, 6] rfl), hb, Option.some.inj H1⟩
end Go.CL

set_option linter.unusedVariables false
set_option linter.unusedSimpArgs false
set_option maxRecDepth 100000
namespace Go.CL
open Go Go.RowKit Go.Proofs
theorem moietyref03_Fields_ok (a0 : Int) {r : ByteArray} (h : moietyref03_Fields a0 = some r) : FnOk Try.prog 57 [(pInt .i64 a0)] (pStr r) := by
  have H0 := h
  unfold moietyref03_Fields at H0
  clear h
  refine fn_ok (N := 15) Try.func57 rfl rfl (Nat.le_of_ble_eq_true rfl) rfl rfl (fun a g0 hst hb => ?_)
  refine r_s (L := [(0, _)]) (T := [⟨[], _, [], [], [2]⟩]) (F := [.old 0]) hst hb follows
    (o_p rfl (ob_assign rfl rfl c_s) <|
     o_n) (by kernel_rfl) (fun a g hst hb => ?_)
  refine r_s (L := [(0, _)]) (T := [⟨[], _, [], [], [4]⟩, ⟨[.op 0 0], _, [], [0], [3]⟩]) (F := [.old 0, .op 1 0]) hst hb follows
    (o_p rfl (ob_lit te_43 (xs := [.const (.string ⟨#[]⟩), .const (.string ⟨#[116]⟩), .const (.string ⟨#[110]⟩), .const (.string ⟨#[110]⟩), .const (.string ⟨#[110, 98]⟩), .const (.string ⟨#[114]⟩), .const (.string ⟨#[114]⟩), .const (.string ⟨#[114]⟩), .const (.string ⟨#[108]⟩), .const (.string ⟨#[108]⟩)]) (.cons c_s (.cons c_s (.cons c_s (.cons c_s (.cons c_s (.cons c_s (.cons c_s (.cons c_s (.cons c_s (.cons c_s .nil)))))))))) (by decide) rfl rfl) <|
     o_p rfl (ob_assign rfl rfl u_0) <|
     o_n) (by kernel_rfl) (fun a g hst hb => ?_)
  refine wp_seq ?_
  refine r_s (L := [(0, _), (3, _)]) (T := [⟨[.old 0], _, [], [], [5]⟩, ⟨[.op 0 0], _, [], [0], [6]⟩, ⟨[.op 1 0], _, [], [0, 1], [7]⟩, ⟨[.op 2 0, .old 0], _, [], [0, 1, 2], [8]⟩, ⟨[.op 2 0, .op 3 0], _, [], List.range 4, [9]⟩, ⟨[.op 2 0, .op 4 0], _, [], List.range 5, [10]⟩]) (F := [.old 0, .old 1, .op 5 0]) hst hb follows
    (o_p rfl (ob_move rfl rfl u_0) <|
     o_p rfl (ob_lt rfl rfl u_0 c_i) <|
     o_p rfl (ob_move rfl rfl u_0) <|
     o_g (g_f rfl rfl rfl (fun hG => ob_move rfl rfl u_0)) <|
     o_g (g_f rfl rfl rfl (fun hG => ob_gt rfl rfl (Opd.gd hG u_0) c_i)) <|
     o_p rfl (ob_por rfl rfl u_0 (fun hz => (Opd.gd (bNF hz) u_1))) <|
     o_n) (by kernel_rfl) (fun a g hst hb => ?_)
  refine wp_cond_split (hst.bool 2 rfl) (fun hc1 => ?_) (fun hc1 => ?_)
  · replace H0 := ite_t hc1 H0
    refine r_s (L := []) (T := [⟨[], _, [], [], [2]⟩]) (F := [.op 0 0]) (hst.pick [] rfl) hb follows
      (o_p rfl (ob_assign rfl rfl c_s) <|
       o_n) (by kernel_rfl) (fun a g hst hb => ?_)
    refine wp_ret ?_
    refine then_r ?_
    obtain rfl := Option.some.inj H0
    exact endR1 rfl hst hb (res_tmp (s := 2)) (hst.at 0 rfl)
  · replace H0 := ite_f hc1 H0
    refine wp_skip ?_
    refine then_n ?_
    obtain ⟨e2, h3, H0⟩ := of_bind H0
    refine r_s (L := [(0, _), (3, _)]) (T := [⟨[.old 1], _, [], [], [11]⟩, ⟨[.old 0], _, [], [], [12]⟩, ⟨[.op 0 0, .op 1 0], _, [], [0, 1], [13]⟩, ⟨[.op 2 0], _, [], [0, 1, 2], [14]⟩, ⟨[.op 3 0], _, [], List.range 4, [2]⟩]) (F := [.op 4 0]) (hst.pick [0, 1] rfl) hb follows
      (o_p rfl (ob_move rfl rfl u_0) <|
       o_p rfl (ob_move rfl rfl u_0) <|
       o_p rfl (ob_indexAddr Try.underlying43 sz_9 rfl rfl u_0 u_1 h3) <|
       o_p rfl (ob_load ty_9 rfl rfl u_0) <|
       o_p rfl (ob_assign rfl rfl u_0) <|
       o_n) (by kernel_rfl) (fun a g hst hb => ?_)
    refine wp_ret ?_
    obtain rfl := Option.some.inj H0
    exact endR1 rfl hst hb (res_tmp (s := 2)) (hst.at 0 rfl)
end Go.CL

set_option linter.unusedVariables false
set_option linter.unusedSimpArgs false
set_option maxRecDepth 100000
namespace Go.CL
open Go Go.RowKit Go.Proofs
theorem moietyref01_Proper_ok (a0 : Nat) {r : Bool} (h : moietyref01_Proper a0 = some r) : FnOk Try.prog 58 [(pFlt a0)] (pBool r) := by
  have H0 := h
  unfold moietyref01_Proper at H0
  clear h
  refine fn_ok (N := 11) Try.func58 rfl rfl (Nat.le_of_ble_eq_true rfl) rfl rfl (fun a g0 hst hb => ?_)
  refine r_s (L := [(0, _)]) (T := [⟨[], _, [], [], [2]⟩]) (F := [.old 0]) hst hb follows
    (o_p rfl (ob_assign rfl rfl c_b) <|
     o_n) (by kernel_rfl) (fun a g hst hb => ?_)
  obtain ⟨r1, h2, H0⟩ := of_bind H0
  refine r_s (L := [(0, _)]) (T := [⟨[.old 0], _, [], [], [3]⟩, ⟨[.op 0 0], _, [], [0], [4]⟩, ⟨[.op 1 0], _, [], [0, 1], [5]⟩, ⟨[.op 2 0], _, [], [0, 1, 2], [6]⟩, ⟨[.op 3 0, .old 0], _, [], List.range 4, [7]⟩, ⟨[.op 3 0, .op 4 0], _, [], List.range 5, [8]⟩, ⟨[.op 3 0, .op 5 0], _, [], List.range 6, [9]⟩, ⟨[.op 3 0, .op 6 0], _, [], List.range 7, [10]⟩, ⟨[.op 7 0], _, [], List.range 8, [2]⟩]) (F := [.op 8 0]) hst hb follows
    (o_p rfl (ob_move rfl rfl u_0) <|
     o_p rfl (ob_call en_64 (moietyref01_none_ok _ h2) rfl rfl (.cons u_0 .nil)) <|
     o_p rfl (ob_not rfl rfl u_0) <|
     o_p rfl (ob_move rfl rfl u_0) <|
     o_g (g_f rfl rfl rfl (fun hG => ob_move rfl rfl u_0)) <|
     o_g (g_f rfl rfl rfl (fun hG => ob_bits ex_60 rfl rfl (Opd.gd hG u_0))) <|
     o_g (g_f rfl rfl rfl (fun hG => ob_eq rfl rfl (Opd.gd hG u_0) c_i)) <|
     o_p rfl (ob_por rfl rfl u_0 (fun hz => (Opd.gd (bNF hz) u_1))) <|
     o_p rfl (ob_assign rfl rfl u_0) <|
     o_n) (by kernel_rfl) (fun a g hst hb => ?_)
  refine wp_ret ?_
  obtain rfl := Option.some.inj H0
  exact endR1 rfl hst hb (res_tmp (s := 2)) (hst.at 0 rfl)
end Go.CL

set_option linter.unusedVariables false
set_option linter.unusedSimpArgs false
set_option maxRecDepth 100000
namespace Go.CL
open Go Go.RowKit Go.Proofs
theorem moietyref03_Ahead_ok (a0 : api_Item) (a1 : api_Item) {r : Bool} (h : moietyref03_Ahead a0 a1 = some r) : FnOk Try.prog 67 [(k_api_Item.pd a0), (k_api_Item.pd a1)] (pBool r) := by
  have H0 := h
  unfold moietyref03_Ahead at H0
  clear h
  refine fn_ok (N := 22) Try.func67 rfl rfl (Nat.le_of_ble_eq_true rfl) rfl rfl (fun a g0 hst hb => ?_)
  refine r_s (L := [(0, _), (1, _)]) (T := [⟨[.old 0], _, [], [], [2]⟩, ⟨[.old 1], _, [], [], [3]⟩, ⟨[], _, [], [], [4]⟩]) (F := [.op 0 0, .op 1 0]) hst hb follows
    (o_p rfl (ob_box1 rfl rfl u_0) <|
     o_p rfl (ob_box1 rfl rfl u_0) <|
     o_p rfl (ob_assign rfl rfl c_b) <|
     o_n) (by kernel_rfl) (fun a g hst hb => ?_)
  refine wp_seq ?_
  obtain ⟨r1, h2, H0⟩ := of_bind H0
  refine r_s (L := [(2, _), (3, _)]) (T := [⟨[.old 1], _, [], [], [5]⟩, ⟨[.op 0 0], _, [], [0], [6]⟩, ⟨[.old 0], _, [], [], [7]⟩, ⟨[.op 2 0], _, [], [2], [8]⟩, ⟨[.op 1 0, .op 3 0], _, [], List.range 4, [9]⟩]) (F := [.old 0, .old 1, .op 4 0]) hst hb follows
    (o_p rfl (ob_fieldAddr fl_64_0 rfl rfl u_0) <|
     o_p rfl (ob_load ty_35 rfl rfl u_0) <|
     o_p rfl (ob_fieldAddr fl_64_0 rfl rfl u_0) <|
     o_p rfl (ob_load ty_35 rfl rfl u_0) <|
     o_p rfl (ob_call en_53 (moietyref01_Less_ok _ _ h2) rfl rfl (.cons u_0 (.cons u_1 .nil))) <|
     o_n) (by kernel_rfl) (fun a g hst hb => ?_)
  refine wp_cond_split (hst.bool 2 rfl) (fun hc3 => ?_) (fun hc3 => ?_)
  · replace H0 := ite_t hc3 H0
    refine r_s (L := []) (T := [⟨[], _, [], [], [4]⟩]) (F := [.op 0 0]) (hst.pick [] rfl) hb follows
      (o_p rfl (ob_assign rfl rfl c_b) <|
       o_n) (by kernel_rfl) (fun a g hst hb => ?_)
    refine wp_ret ?_
    refine then_r ?_
    obtain rfl := Option.some.inj H0
    exact endR1 rfl hst hb (res_tmp (s := 4)) (hst.at 0 rfl)
  · replace H0 := ite_f hc3 H0
    refine wp_skip ?_
    refine then_n ?_
    obtain ⟨r4, h5, H0⟩ := of_bind H0
    refine r_s (L := [(2, _), (3, _)]) (T := ⟨[.old 0], _, [], [], [10]⟩ :: ⟨[.op 0 0], _, [], [0], [11]⟩ :: ⟨[.old 1], _, [], [], [12]⟩ :: ⟨[.op 2 0], _, [], [2], [13]⟩ :: ⟨[.op 1 0, .op 3 0], _, [], List.range 4, [14]⟩ :: ⟨[.op 4 0], _, [], List.range 5, [15]⟩ :: ⟨[.op 5 0, .old 0], _, [], List.range 6, [16]⟩ :: ⟨[.op 5 0, .op 6 0], _, [], List.range 7, [17]⟩ :: ⟨[.op 5 0, .old 1], _, [], List.range 6, [18]⟩ :: ⟨[.op 5 0, .op 8 0], _, [], [0, 1, 2, 3, 4, 5, 8], [19]⟩ :: ⟨[.op 5 0, .op 7 0, .op 9 0], _, [], List.range 10, [20]⟩ :: ⟨[.op 5 0, .op 10 0], _, [], List.range 11, [21]⟩ :: ⟨[.op 11 0], _, [], List.range 12, [4]⟩ :: []) (F := [.op 12 0]) (hst.pick [0, 1] rfl) hb follows
      (o_p rfl (ob_fieldAddr fl_64_0 rfl rfl u_0) <|
       o_p rfl (ob_load ty_35 rfl rfl u_0) <|
       o_p rfl (ob_fieldAddr fl_64_0 rfl rfl u_0) <|
       o_p rfl (ob_load ty_35 rfl rfl u_0) <|
       o_p rfl (ob_call en_37 (moietyref01_Same_ok _ _ h5) rfl rfl (.cons u_0 (.cons u_1 .nil))) <|
       o_p rfl (ob_move rfl rfl u_0) <|
       o_g (g_t rfl rfl rfl (fun hG => ob_fieldAddr fl_64_1 rfl rfl u_0)) <|
       o_g (g_t rfl rfl rfl (fun hG => ob_load ty_9 rfl rfl (Opd.gd hG u_0))) <|
       o_g (g_t rfl rfl rfl (fun hG => ob_fieldAddr fl_64_1 rfl rfl u_0)) <|
       o_g (g_t rfl rfl rfl (fun hG => ob_load ty_9 rfl rfl (Opd.gd hG u_0))) <|
       o_g (g_t rfl rfl rfl (fun hG => ob_slt rfl rfl (Opd.gd hG u_0) (Opd.gd hG u_1))) <|
       o_p rfl (ob_pand rfl rfl u_0 (fun hz => (Opd.gd hz u_1))) <|
       o_p rfl (ob_assign rfl rfl u_0) <|
       o_n) (by kernel_rfl) (fun a g hst hb => ?_)
    refine wp_ret ?_
    obtain rfl := Option.some.inj H0
    exact endR1 rfl hst hb (res_tmp (s := 4)) (hst.at 0 rfl)
end Go.CL

set_option linter.unusedVariables false
set_option linter.unusedSimpArgs false
set_option maxRecDepth 100000
namespace Go.CL
open Go Go.RowKit Go.Proofs
theorem moietyref03_item_ok (a0 : Int) (a1 : List api_Item) (a2 : Int) {r : Int} (h : moietyref03_item a0 a1 a2 = some r) : FnOk Try.prog 59 [(pInt .i64 a0), (k_api_Item.sl.pd a1), (pInt .i64 a2)] (pInt .i64 r) := by
  have H0 := h
  unfold moietyref03_item at H0
  clear h
  refine fn_ok (N := 64) Try.func59 rfl rfl (Nat.le_of_ble_eq_true rfl) rfl rfl (fun a g0 hst hb => ?_)
  refine r_s (L := [(0, _), (1, _), (2, _)]) (T := [⟨[], _, [], [], [6]⟩]) (F := [.old 0, .old 1, .old 2]) hst hb follows
    (o_p rfl (ob_assign rfl rfl c_i) <|
     o_n) (by kernel_rfl) (fun a g hst hb => ?_)
  obtain ⟨e1, h2, H0⟩ := of_bind H0
  refine r_s (L := [(0, _), (1, _), (2, _)]) (T := [⟨[.old 1], _, [], [], [8]⟩, ⟨[.old 2], _, [], [], [9]⟩, ⟨[.op 0 0, .op 1 0], _, [], [0, 1], [10]⟩, ⟨[.op 2 0], _, [], [0, 1, 2], [11]⟩, ⟨[], [(7, (pBox k_api_Item 7 (default : api_Item)))], [8], [], [7]⟩, ⟨[.op 3 0, .op 4 0], _, [8], List.range 5, [7]⟩]) (F := [.old 0, .old 1, .old 2, .op 5 0]) hst hb follows
    (o_p rfl (ob_move rfl rfl u_0) <|
     o_p rfl (ob_move rfl rfl u_0) <|
     o_p rfl (ob_indexAddr Try.underlying36 sz_64 rfl rfl u_0 u_1 h2) <|
     o_p rfl (ob_load ty_64 rfl rfl u_0) <|
     o_p rfl (ob_alloc (zs := [.float .f64 0, .string ByteArray.empty]) (by kernel_rfl) (fun g => zk_api_Item g) rfl rfl) <|
     o_p rfl (ob_storeF ty_64 rfl rfl u_1 u_0) <|
     o_n) (by kernel_rfl) (fun a g hst hb => ?_)
  refine wp_seq ?_
  refine r_s (L := [(0, _), (1, _), (2, _), (7, _)]) (T := [⟨[.old 3], _, [], [], [12]⟩, ⟨[.op 0 0], _, [], [0], [13]⟩, ⟨[.op 1 0], _, [], [0, 1], [14]⟩, ⟨[.op 2 0], _, [], [0, 1, 2], [15]⟩]) (F := [.old 0, .old 1, .old 2, .old 3, .op 3 0]) hst hb follows
    (o_p rfl (ob_fieldAddr fl_64_1 rfl rfl u_0) <|
     o_p rfl (ob_load ty_9 rfl rfl u_0) <|
     o_p rfl (ob_lenS Try.underlying9 rfl rfl u_0) <|
     o_p rfl (ob_gt rfl rfl u_0 c_i) <|
     o_n) (by kernel_rfl) (fun a g hst hb => ?_)
  refine wp_cond_split (hst.bool 4 rfl) (fun hc3 => ?_) (fun hc3 => ?_)
  · replace H0 := ite_t hc3 H0
    refine r_s (L := []) (T := [⟨[], _, [], [], [6]⟩]) (F := [.op 0 0]) (hst.pick [] rfl) hb follows
      (o_p rfl (ob_assign rfl rfl c_i) <|
       o_n) (by kernel_rfl) (fun a g hst hb => ?_)
    refine wp_ret ?_
    refine then_r ?_
    obtain rfl := Option.some.inj H0
    exact endR1 rfl hst hb (res_tmp (s := 6)) (hst.at 0 rfl)
  · replace H0 := ite_f hc3 H0
    refine wp_skip ?_
    refine then_n ?_
    refine wp_seq ?_
    obtain ⟨r4, h5, H0⟩ := of_bind H0; obtain ⟨r6, h7, H0⟩ := of_bind H0
    refine r_s (L := [(0, _), (1, _), (2, _), (7, _)]) (T := ⟨[.old 0], _, [], [], [16]⟩ :: ⟨[.op 0 0], _, [], [0], [17]⟩ :: ⟨[.op 1 0], _, [], [0, 1], [18]⟩ :: ⟨[.op 2 0, .old 3], _, [], [0, 1, 2], [19]⟩ :: ⟨[.op 2 0, .op 3 0], _, [], List.range 4, [20]⟩ :: ⟨[.op 2 0, .op 4 0], _, [], List.range 5, [21]⟩ :: ⟨[.op 2 0, .op 5 0], _, [], List.range 6, [22]⟩ :: ⟨[.op 2 0, .op 6 0], _, [], List.range 7, [23]⟩ :: ⟨[.op 7 0], _, [], List.range 8, [24]⟩ :: ⟨[.op 8 0, .old 3], _, [], List.range 9, [25]⟩ :: ⟨[.op 8 0, .op 9 0], _, [], List.range 10, [26]⟩ :: ⟨[.op 8 0, .op 10 0], _, [], List.range 11, [27]⟩ :: ⟨[.op 8 0, .op 11 0], _, [], List.range 12, [28]⟩ :: ⟨[.op 8 0, .op 12 0], _, [], List.range 13, [29]⟩ :: []) (F := [.old 0, .old 1, .old 2, .old 3, .op 13 0]) (hst.pick [0, 1, 2, 3] rfl) hb follows
      (o_p rfl (ob_move rfl rfl u_0) <|
       o_p rfl (ob_eq rfl rfl u_0 c_i) <|
       o_p rfl (ob_move rfl rfl u_0) <|
       o_g (g_t rfl rfl rfl (fun hG => ob_fieldAddr fl_64_0 rfl rfl u_0)) <|
       o_g (g_t rfl rfl rfl (fun hG => ob_load ty_35 rfl rfl (Opd.gd hG u_0))) <|
       o_g (g_t rfl rfl rfl (fun hG => ob_call en_66 (moietyref03_zero_ok _ (gd_true h5 hG)) rfl rfl (.cons (Opd.gd hG u_0) .nil))) <|
       o_g (g_t rfl rfl rfl (fun hG => ob_not rfl rfl (Opd.gd hG u_0))) <|
       o_p rfl (ob_pand rfl rfl u_0 (fun hz => (Opd.gd hz u_1))) <|
       o_p rfl (ob_move rfl rfl u_0) <|
       o_g (g_f rfl rfl rfl (fun hG => ob_fieldAddr fl_64_0 rfl rfl u_0)) <|
       o_g (g_f rfl rfl rfl (fun hG => ob_load ty_35 rfl rfl (Opd.gd hG u_0))) <|
       o_g (g_f rfl rfl rfl (fun hG => ob_call en_58 (moietyref01_Proper_ok _ (gd_true h7 hG)) rfl rfl (.cons (Opd.gd hG u_0) .nil))) <|
       o_g (g_f rfl rfl rfl (fun hG => ob_not rfl rfl (Opd.gd hG u_0))) <|
       o_p rfl (ob_por rfl rfl u_0 (fun hz => (Opd.gd (bNF hz) u_1))) <|
       o_n) (by kernel_rfl) (fun a g hst hb => ?_)
    refine wp_cond_split (hst.bool 4 rfl) (fun hc8 => ?_) (fun hc8 => ?_)
    · replace H0 := ite_t hc8 H0
      refine r_s (L := []) (T := [⟨[], _, [], [], [6]⟩]) (F := [.op 0 0]) (hst.pick [] rfl) hb follows
        (o_p rfl (ob_assign rfl rfl c_i) <|
         o_n) (by kernel_rfl) (fun a g hst hb => ?_)
      refine wp_ret ?_
      refine then_r ?_
      obtain rfl := Option.some.inj H0
      exact endR1 rfl hst hb (res_tmp (s := 6)) (hst.at 0 rfl)
    · replace H0 := ite_f hc8 H0
      refine wp_skip ?_
      refine then_n ?_
      refine wp_seq ?_
      obtain ⟨e9, h10, H0⟩ := of_bind H0
      refine r_s (L := [(0, _), (1, _), (2, _), (7, _)]) (T := ⟨[.old 2], _, [], [], [30]⟩ :: ⟨[.op 0 0], _, [], [0], [31]⟩ :: ⟨[.op 1 0], _, [], [0, 1], [32]⟩ :: ⟨[.op 2 0, .old 0], _, [], [0, 1, 2], [33]⟩ :: ⟨[.op 2 0, .op 3 0], _, [], List.range 4, [34]⟩ :: ⟨[.op 2 0, .op 4 0], _, [], List.range 5, [35]⟩ :: ⟨[.op 5 0], _, [], List.range 6, [36]⟩ :: ⟨[.op 6 0, .old 1], _, [], List.range 7, [37]⟩ :: ⟨[.op 6 0, .old 2], _, [], List.range 7, [38]⟩ :: ⟨[.op 6 0, .op 8 0], _, [], [0, 1, 2, 3, 4, 5, 6, 8], [39]⟩ :: ⟨[.op 6 0, .op 7 0, .op 9 0], _, [], List.range 10, [40]⟩ :: ⟨[.op 6 0, .op 10 0], _, [], List.range 11, [41]⟩ :: ⟨[.op 6 0, .op 11 0], _, [], List.range 12, [42]⟩ :: ⟨[.op 6 0, .old 3], _, [], List.range 7, [43]⟩ :: ⟨[.op 6 0, .op 13 0], _, [], [0, 1, 2, 3, 4, 5, 6, 13], [44]⟩ :: ⟨[.op 6 0, .op 12 0, .op 14 0], _, [], List.range 15, [45]⟩ :: ⟨[.op 6 0, .op 15 0], _, [], List.range 16, [46]⟩ :: ⟨[.op 6 0, .op 16 0], _, [], List.range 17, [47]⟩ :: []) (F := [.old 0, .old 1, .old 2, .old 3, .op 17 0]) (hst.pick [0, 1, 2, 3] rfl) hb follows
        (o_p rfl (ob_move rfl rfl u_0) <|
         o_p rfl (ob_gt rfl rfl u_0 c_i) <|
         o_p rfl (ob_move rfl rfl u_0) <|
         o_g (g_t rfl rfl rfl (fun hG => ob_move rfl rfl u_0)) <|
         o_g (g_t rfl rfl rfl (fun hG => ob_eq rfl rfl (Opd.gd hG u_0) c_i)) <|
         o_p rfl (ob_pand rfl rfl u_0 (fun hz => (Opd.gd hz u_1))) <|
         o_p rfl (ob_move rfl rfl u_0) <|
         o_g (g_t rfl rfl rfl (fun hG => ob_move rfl rfl u_0)) <|
         o_g (g_t rfl rfl rfl (fun hG => ob_move rfl rfl u_0)) <|
         o_g (g_t rfl rfl rfl (fun hG => ob_sub rfl rfl (Opd.gd hG u_0) c_i rfl)) <|
         o_g (g_t rfl rfl rfl (fun hG => ob_indexAddr Try.underlying36 sz_64 rfl rfl (Opd.gd hG u_0) (Opd.gd hG u_1) (gd_true h10 hG))) <|
         o_g (g_t rfl rfl rfl (fun hG => ob_fieldAddr fl_64_1 rfl rfl (Opd.gd hG u_0))) <|
         o_g (g_t rfl rfl rfl (fun hG => ob_load ty_9 rfl rfl (Opd.gd hG u_0))) <|
         o_g (g_t rfl rfl rfl (fun hG => ob_fieldAddr fl_64_1 rfl rfl u_0)) <|
         o_g (g_t rfl rfl rfl (fun hG => ob_load ty_9 rfl rfl (Opd.gd hG u_0))) <|
         o_g (g_t rfl rfl rfl (fun hG => ob_slt rfl rfl (Opd.gd hG u_0) (Opd.gd hG u_1))) <|
         o_g (g_t rfl rfl rfl (fun hG => ob_not rfl rfl (Opd.gd hG u_0))) <|
         o_p rfl (ob_pand rfl rfl u_0 (fun hz => (Opd.gd hz u_1))) <|
         o_n) (by kernel_rfl) (fun a g hst hb => ?_)
      refine wp_cond_split (hst.bool 4 rfl) (fun hc11 => ?_) (fun hc11 => ?_)
      · replace H0 := ite_t hc11 H0
        refine r_s (L := []) (T := [⟨[], _, [], [], [6]⟩]) (F := [.op 0 0]) (hst.pick [] rfl) hb follows
          (o_p rfl (ob_assign rfl rfl c_i) <|
           o_n) (by kernel_rfl) (fun a g hst hb => ?_)
        refine wp_ret ?_
        refine then_r ?_
        obtain rfl := Option.some.inj H0
        exact endR1 rfl hst hb (res_tmp (s := 6)) (hst.at 0 rfl)
      · replace H0 := ite_f hc11 H0
        refine wp_skip ?_
        refine then_n ?_
        refine wp_seq ?_
        obtain ⟨e12, h13, H0⟩ := of_bind H0; obtain ⟨r14, h15, H0⟩ := of_bind H0
        refine r_s (L := [(0, _), (1, _), (2, _), (7, _)]) (T := ⟨[.old 2], _, [], [], [48]⟩ :: ⟨[.op 0 0], _, [], [0], [49]⟩ :: ⟨[.op 1 0], _, [], [0, 1], [50]⟩ :: ⟨[.op 2 0, .old 0], _, [], [0, 1, 2], [51]⟩ :: ⟨[.op 2 0, .op 3 0], _, [], List.range 4, [52]⟩ :: ⟨[.op 2 0, .op 4 0], _, [], List.range 5, [53]⟩ :: ⟨[.op 5 0], _, [], List.range 6, [54]⟩ :: ⟨[.op 6 0, .old 1], _, [], List.range 7, [55]⟩ :: ⟨[.op 6 0, .old 2], _, [], List.range 7, [56]⟩ :: ⟨[.op 6 0, .op 8 0], _, [], [0, 1, 2, 3, 4, 5, 6, 8], [57]⟩ :: ⟨[.op 6 0, .op 7 0, .op 9 0], _, [], List.range 10, [58]⟩ :: ⟨[.op 6 0, .op 10 0], _, [], List.range 11, [59]⟩ :: ⟨[.op 6 0, .old 3], _, [], List.range 7, [60]⟩ :: ⟨[.op 6 0, .op 11 0, .op 12 0], _, [], List.range 13, [61]⟩ :: ⟨[.op 6 0, .op 13 0], _, [], List.range 14, [62]⟩ :: ⟨[.op 6 0, .op 14 0], _, [], List.range 15, [63]⟩ :: []) (F := [.op 15 0]) (hst.pick [0, 1, 2, 3] rfl) hb follows
          (o_p rfl (ob_move rfl rfl u_0) <|
           o_p rfl (ob_gt rfl rfl u_0 c_i) <|
           o_p rfl (ob_move rfl rfl u_0) <|
           o_g (g_t rfl rfl rfl (fun hG => ob_move rfl rfl u_0)) <|
           o_g (g_t rfl rfl rfl (fun hG => ob_eq rfl rfl (Opd.gd hG u_0) c_i)) <|
           o_p rfl (ob_pand rfl rfl u_0 (fun hz => (Opd.gd hz u_1))) <|
           o_p rfl (ob_move rfl rfl u_0) <|
           o_g (g_t rfl rfl rfl (fun hG => ob_move rfl rfl u_0)) <|
           o_g (g_t rfl rfl rfl (fun hG => ob_move rfl rfl u_0)) <|
           o_g (g_t rfl rfl rfl (fun hG => ob_sub rfl rfl (Opd.gd hG u_0) c_i rfl)) <|
           o_g (g_t rfl rfl rfl (fun hG => ob_indexAddr Try.underlying36 sz_64 rfl rfl (Opd.gd hG u_0) (Opd.gd hG u_1) (gd_true h13 hG))) <|
           o_g (g_t rfl rfl rfl (fun hG => ob_load ty_64 rfl rfl (Opd.gd hG u_0))) <|
           o_g (g_t rfl rfl rfl (fun hG => ob_load ty_64 rfl rfl u_0)) <|
           o_g (g_t rfl rfl rfl (fun hG => ob_call en_67 (moietyref03_Ahead_ok _ _ (gd_true h15 hG)) rfl rfl (.cons (Opd.gd hG u_0) (.cons (Opd.gd hG u_1) .nil)))) <|
           o_g (g_t rfl rfl rfl (fun hG => ob_not rfl rfl (Opd.gd hG u_0))) <|
           o_p rfl (ob_pand rfl rfl u_0 (fun hz => (Opd.gd hz u_1))) <|
           o_n) (by kernel_rfl) (fun a g hst hb => ?_)
        refine wp_cond_split (hst.bool 0 rfl) (fun hc16 => ?_) (fun hc16 => ?_)
        · replace H0 := ite_t hc16 H0
          refine r_s (L := []) (T := [⟨[], _, [], [], [6]⟩]) (F := [.op 0 0]) (hst.pick [] rfl) hb follows
            (o_p rfl (ob_assign rfl rfl c_i) <|
             o_n) (by kernel_rfl) (fun a g hst hb => ?_)
          refine wp_ret ?_
          refine then_r ?_
          obtain rfl := Option.some.inj H0
          exact endR1 rfl hst hb (res_tmp (s := 6)) (hst.at 0 rfl)
        · replace H0 := ite_f hc16 H0
          refine wp_skip ?_
          refine then_n ?_
          refine r_s (L := []) (T := [⟨[], _, [], [], [6]⟩]) (F := [.op 0 0]) (hst.pick [] rfl) hb follows
            (o_p rfl (ob_assign rfl rfl c_i) <|
             o_n) (by kernel_rfl) (fun a g hst hb => ?_)
          refine wp_ret ?_
          obtain rfl := Option.some.inj H0
          exact endR1 rfl hst hb (res_tmp (s := 6)) (hst.at 0 rfl)
end Go.CL

set_option linter.unusedVariables false
set_option linter.unusedSimpArgs false
set_option maxRecDepth 100000
namespace Go.CL
open Go Go.RowKit Go.Proofs
theorem moietyref03_Check_ok (a0 : api_Record) {r : Int} (h : moietyref03_Check a0 = some r) : FnOk Try.prog 45 [(k_api_Record.pd a0)] (pInt .i64 r) := by
  have H0 := h
  unfold moietyref03_Check at H0
  clear h
  refine fn_ok (N := 96) Try.func45 rfl rfl (Nat.le_of_ble_eq_true rfl) rfl rfl (fun a g0 hst hb => ?_)
  refine r_s (L := [(0, _)]) (T := [⟨[.old 0], _, [], [], [1]⟩, ⟨[], _, [], [], [2]⟩]) (F := [.op 0 0]) hst hb follows
    (o_p rfl (ob_box1 rfl rfl u_0) <|
     o_p rfl (ob_assign rfl rfl c_i) <|
     o_n) (by kernel_rfl) (fun a g hst hb => ?_)
  refine wp_seq ?_
  refine r_s (L := [(1, _)]) (T := [⟨[.old 0], _, [], [], [6]⟩, ⟨[.op 0 0], _, [], [0], [7]⟩, ⟨[.op 1 0], _, [], [0, 1], [8]⟩, ⟨[.op 2 0], _, [], [0, 1, 2], [9]⟩, ⟨[.op 3 0, .old 0], _, [], List.range 4, [10]⟩, ⟨[.op 3 0, .op 4 0], _, [], List.range 5, [11]⟩, ⟨[.op 3 0, .op 5 0], _, [], List.range 6, [12]⟩, ⟨[.op 3 0, .op 6 0], _, [], List.range 7, [13]⟩]) (F := [.old 0, .op 7 0]) hst hb follows
    (o_p rfl (ob_fieldAddr fl_38_0 rfl rfl u_0) <|
     o_p rfl (ob_load ty_3 rfl rfl u_0) <|
     o_p rfl (ob_lt rfl rfl u_0 c_i) <|
     o_p rfl (ob_move rfl rfl u_0) <|
     o_g (g_f rfl rfl rfl (fun hG => ob_fieldAddr fl_38_0 rfl rfl u_0)) <|
     o_g (g_f rfl rfl rfl (fun hG => ob_load ty_3 rfl rfl (Opd.gd hG u_0))) <|
     o_g (g_f rfl rfl rfl (fun hG => ob_gt rfl rfl (Opd.gd hG u_0) c_i)) <|
     o_p rfl (ob_por rfl rfl u_0 (fun hz => (Opd.gd (bNF hz) u_1))) <|
     o_n) (by kernel_rfl) (fun a g hst hb => ?_)
  refine wp_cond_split (hst.bool 1 rfl) (fun hc1 => ?_) (fun hc1 => ?_)
  · replace H0 := ite_t hc1 H0
    refine r_s (L := []) (T := [⟨[], _, [], [], [2]⟩]) (F := [.op 0 0]) (hst.pick [] rfl) hb follows
      (o_p rfl (ob_assign rfl rfl c_i) <|
       o_n) (by kernel_rfl) (fun a g hst hb => ?_)
    refine wp_ret ?_
    refine then_r ?_
    obtain rfl := Option.some.inj H0
    exact endR1 rfl hst hb (res_tmp (s := 2)) (hst.at 0 rfl)
  · replace H0 := ite_f hc1 H0
    refine wp_skip ?_
    refine then_n ?_
    refine wp_seq ?_
    obtain ⟨r2, h3, H0⟩ := of_bind H0; obtain ⟨r4, h5, H0⟩ := of_bind H0
    refine r_s (L := [(1, _)]) (T := [⟨[.old 0], _, [], [], [14]⟩, ⟨[.old 0], _, [], [], [15]⟩, ⟨[.op 1 0], _, [], [1], [16]⟩, ⟨[.op 2 0], _, [], [1, 2], [17]⟩, ⟨[.op 0 0, .op 3 0], _, [], List.range 4, [18]⟩, ⟨[.op 4 0], _, [], List.range 5, [19]⟩]) (F := [.old 0, .op 5 0]) (hst.pick [0] rfl) hb follows
      (o_p rfl (ob_load ty_38 rfl rfl u_0) <|
       o_p rfl (ob_fieldAddr fl_38_0 rfl rfl u_0) <|
       o_p rfl (ob_load ty_3 rfl rfl u_0) <|
       o_p rfl (ob_call en_57 (moietyref03_Fields_ok _ h3) rfl rfl (.cons u_0 .nil)) <|
       o_p rfl (ob_call en_56 (moietyref03_only_ok _ _ h5) rfl rfl (.cons u_0 (.cons u_1 .nil))) <|
       o_p rfl (ob_not rfl rfl u_0) <|
       o_n) (by kernel_rfl) (fun a g hst hb => ?_)
    refine wp_cond_split (hst.bool 1 rfl) (fun hc6 => ?_) (fun hc6 => ?_)
    · replace H0 := ite_t hc6 H0
      refine r_s (L := []) (T := [⟨[], _, [], [], [2]⟩]) (F := [.op 0 0]) (hst.pick [] rfl) hb follows
        (o_p rfl (ob_assign rfl rfl c_i) <|
         o_n) (by kernel_rfl) (fun a g hst hb => ?_)
      refine wp_ret ?_
      refine then_r ?_
      obtain rfl := Option.some.inj H0
      exact endR1 rfl hst hb (res_tmp (s := 2)) (hst.at 0 rfl)
    · replace H0 := ite_f hc6 H0
      refine wp_skip ?_
      refine then_n ?_
      refine wp_seq ?_
      refine r_s (L := [(1, _)]) (T := [⟨[.old 0], _, [], [], [20]⟩, ⟨[.op 0 0], _, [], [0], [21]⟩, ⟨[.op 1 0], _, [], [0, 1], [22]⟩, ⟨[.op 2 0], _, [], [0, 1, 2], [23]⟩, ⟨[.op 3 0, .old 0], _, [], List.range 4, [24]⟩, ⟨[.op 3 0, .op 4 0], _, [], List.range 5, [25]⟩, ⟨[.op 3 0, .op 5 0], _, [], List.range 6, [26]⟩, ⟨[.op 3 0, .op 6 0], _, [], List.range 7, [27]⟩, ⟨[.op 3 0, .op 7 0], _, [], List.range 8, [28]⟩]) (F := [.old 0, .op 8 0]) (hst.pick [0] rfl) hb follows
        (o_p rfl (ob_fieldAddr fl_38_0 rfl rfl u_0) <|
         o_p rfl (ob_load ty_3 rfl rfl u_0) <|
         o_p rfl (ob_eq rfl rfl u_0 c_i) <|
         o_p rfl (ob_move rfl rfl u_0) <|
         o_g (g_t rfl rfl rfl (fun hG => ob_fieldAddr fl_38_6 rfl rfl u_0)) <|
         o_g (g_t rfl rfl rfl (fun hG => ob_load ty_9 rfl rfl (Opd.gd hG u_0))) <|
         o_g (g_t rfl rfl rfl (fun hG => ob_lenS Try.underlying9 rfl rfl (Opd.gd hG u_0))) <|
         o_g (g_t rfl rfl rfl (fun hG => ob_gt rfl rfl (Opd.gd hG u_0) c_i)) <|
         o_p rfl (ob_pand rfl rfl u_0 (fun hz => (Opd.gd hz u_1))) <|
         o_n) (by kernel_rfl) (fun a g hst hb => ?_)
      refine wp_cond_split (hst.bool 1 rfl) (fun hc7 => ?_) (fun hc7 => ?_)
      · replace H0 := ite_t hc7 H0
        refine r_s (L := []) (T := [⟨[], _, [], [], [2]⟩]) (F := [.op 0 0]) (hst.pick [] rfl) hb follows
          (o_p rfl (ob_assign rfl rfl c_i) <|
           o_n) (by kernel_rfl) (fun a g hst hb => ?_)
        refine wp_ret ?_
        refine then_r ?_
        obtain rfl := Option.some.inj H0
        exact endR1 rfl hst hb (res_tmp (s := 2)) (hst.at 0 rfl)
      · replace H0 := ite_f hc7 H0
        refine wp_skip ?_
        refine then_n ?_
        refine r_s (L := [(1, _)]) (T := [⟨[], _, [], [], [3]⟩]) (F := [.old 0, .op 0 0]) (hst.pick [0] rfl) hb follows
          (o_p rfl (ob_assign rfl rfl c_i) <|
           o_n) (by kernel_rfl) (fun a g hst hb => ?_)
        refine wp_seq ?_
        refine r_s (L := [(1, _), (3, _)]) (T := ⟨[.old 0], _, [], [], [29]⟩ :: ⟨[.op 0 0], _, [], [0], [30]⟩ :: ⟨[.op 1 0], _, [], [0, 1], [31]⟩ :: ⟨[.op 2 0], _, [], [0, 1, 2], [32]⟩ :: ⟨[.op 3 0, .old 0], _, [], List.range 4, [33]⟩ :: ⟨[.op 3 0, .op 4 0], _, [], List.range 5, [34]⟩ :: ⟨[.op 3 0, .old 1], _, [], List.range 4, [35]⟩ :: ⟨[.op 3 0, .op 6 0], _, [], [0, 1, 2, 3, 6], [36]⟩ :: ⟨[.op 3 0, .op 5 0, .op 7 0], _, [], List.range 8, [37]⟩ :: ⟨[.op 3 0, .op 8 0], _, [], List.range 9, [38]⟩ :: ⟨[.op 9 0, .old 0], _, [], List.range 10, [39]⟩ :: ⟨[.op 9 0, .op 10 0], _, [], List.range 11, [40]⟩ :: ⟨[.op 9 0, .old 1], _, [], List.range 10, [41]⟩ :: ⟨[.op 9 0, .op 11 0, .op 12 0], _, [], List.range 13, [42]⟩ :: ⟨[.op 3 0, .op 9 0, .op 13 0], _, [], List.range 14, [43]⟩ :: ⟨[.op 3 0, .op 14 0], _, [], List.range 15, [44]⟩ :: ⟨[.op 15 0, .old 0], _, [], List.range 16, [45]⟩ :: ⟨[.op 15 0, .op 16 0], _, [], List.range 17, [46]⟩ :: ⟨[.op 15 0, .old 0], _, [], List.range 16, [47]⟩ :: ⟨[.op 15 0, .op 18 0], _, [], 0 :: 1 :: 2 :: 3 :: 4 :: 5 :: 6 :: 7 :: 8 :: 9 :: 10 :: 11 :: 12 :: 13 :: 14 :: 15 :: 18 :: [], [48]⟩ :: ⟨[.op 15 0, .op 17 0, .op 19 0], _, [], List.range 20, [49]⟩ :: ⟨[.op 3 0, .op 15 0, .op 20 0], _, [], List.range 21, [50]⟩ :: ⟨[.op 3 0, .op 21 0], _, [], List.range 22, [51]⟩ :: ⟨[.op 22 0, .old 0], _, [], List.range 23, [52]⟩ :: ⟨[.op 22 0, .op 23 0], _, [], List.range 24, [53]⟩ :: ⟨[.op 22 0, .old 0], _, [], List.range 23, [54]⟩ :: ⟨[.op 22 0, .op 25 0], _, [], 0 :: 1 :: 2 :: 3 :: 4 :: 5 :: 6 :: 7 :: 8 :: 9 :: 10 :: 11 :: 12 :: 13 :: 14 :: 15 :: 16 :: 17 :: 18 :: 19 :: 20 :: 21 :: 22 :: 25 :: [], [55]⟩ :: ⟨[.op 22 0, .op 24 0, .op 26 0], _, [], List.range 27, [56]⟩ :: ⟨[.op 3 0, .op 22 0, .op 27 0], _, [], List.range 28, [57]⟩ :: ⟨[.op 3 0, .op 28 0], _, [], List.range 29, [58]⟩ :: []) (F := [.old 0, .op 29 0]) hst hb follows
          (o_p rfl (ob_fieldAddr fl_38_0 rfl rfl u_0) <|
           o_p rfl (ob_load ty_3 rfl rfl u_0) <|
           o_p rfl (ob_eq rfl rfl u_0 c_i) <|
           o_p rfl (ob_move rfl rfl u_0) <|
           o_g (g_t rfl rfl rfl (fun hG => ob_fieldAddr fl_38_2 rfl rfl u_0)) <|
           o_g (g_t rfl rfl rfl (fun hG => ob_load ty_2 rfl rfl (Opd.gd hG u_0))) <|
           o_g (g_t rfl rfl rfl (fun hG => ob_move rfl rfl u_0)) <|
           o_g (g_t rfl rfl rfl (fun hG => ob_neg rfl rfl (Opd.gd hG u_0) rfl)) <|
           o_g (g_t rfl rfl rfl (fun hG => ob_lt rfl rfl (Opd.gd hG u_0) (Opd.gd hG u_1))) <|
           o_g (g_t rfl rfl rfl (fun hG => ob_move rfl rfl (Opd.gd hG u_0))) <|
           o_g (g_fi rfl rfl rfl (fun hG => ob_fieldAddr fl_38_3 rfl rfl u_0)) <|
           o_g (g_fi rfl rfl rfl (fun hG => ob_load ty_2 rfl rfl (Opd.gd hG u_0))) <|
           o_g (g_fi rfl rfl rfl (fun hG => ob_move rfl rfl u_0)) <|
           o_g (g_fi rfl rfl rfl (fun hG => ob_gt rfl rfl (Opd.gd hG u_0) (Opd.gd hG u_1))) <|
           o_g (g_t rfl rfl rfl (fun hG => ob_por rfl rfl (Opd.gd hG u_0) (fun hz => (Opd.gd (bA hG (bNF hz)) u_1)))) <|
           o_g (g_t rfl rfl rfl (fun hG => ob_move rfl rfl (Opd.gd hG u_0))) <|
           o_g (g_fi rfl rfl rfl (fun hG => ob_fieldAddr fl_38_1 rfl rfl u_0)) <|
           o_g (g_fi rfl rfl rfl (fun hG => ob_load ty_2 rfl rfl (Opd.gd hG u_0))) <|
           o_g (g_fi rfl rfl rfl (fun hG => ob_fieldAddr fl_38_2 rfl rfl u_0)) <|
           o_g (g_fi rfl rfl rfl (fun hG => ob_load ty_2 rfl rfl (Opd.gd hG u_0))) <|
           o_g (g_fi rfl rfl rfl (fun hG => ob_lt rfl rfl (Opd.gd hG u_0) (Opd.gd hG u_1))) <|
           o_g (g_t rfl rfl rfl (fun hG => ob_por rfl rfl (Opd.gd hG u_0) (fun hz => (Opd.gd (bA hG (bNF hz)) u_1)))) <|
           o_g (g_t rfl rfl rfl (fun hG => ob_move rfl rfl (Opd.gd hG u_0))) <|
           o_g (g_fi rfl rfl rfl (fun hG => ob_fieldAddr fl_38_1 rfl rfl u_0)) <|
           o_g (g_fi rfl rfl rfl (fun hG => ob_load ty_2 rfl rfl (Opd.gd hG u_0))) <|
           o_g (g_fi rfl rfl rfl (fun hG => ob_fieldAddr fl_38_3 rfl rfl u_0)) <|
           o_g (g_fi rfl rfl rfl (fun hG => ob_load ty_2 rfl rfl (Opd.gd hG u_0))) <|
           o_g (g_fi rfl rfl rfl (fun hG => ob_gt rfl rfl (Opd.gd hG u_0) (Opd.gd hG u_1))) <|
           o_g (g_t rfl rfl rfl (fun hG => ob_por rfl rfl (Opd.gd hG u_0) (fun hz => (Opd.gd (bA hG (bNF hz)) u_1)))) <|
           o_p rfl (ob_pand rfl rfl u_0 (fun hz => (Opd.gd hz u_1))) <|
           o_n) (by kernel_rfl) (fun a g hst hb => ?_)
        refine wp_cond_split (hst.bool 1 rfl) (fun hc8 => ?_) (fun hc8 => ?_)
        · replace H0 := ite_t hc8 H0
          refine r_s (L := []) (T := [⟨[], _, [], [], [2]⟩]) (F := [.op 0 0]) (hst.pick [] rfl) hb follows
            (o_p rfl (ob_assign rfl rfl c_i) <|
             o_n) (by kernel_rfl) (fun a g hst hb => ?_)
          refine wp_ret ?_
          refine then_r ?_
          obtain rfl := Option.some.inj H0
          exact endR1 rfl hst hb (res_tmp (s := 2)) (hst.at 0 rfl)
        · replace H0 := ite_f hc8 H0
          refine wp_skip ?_
          refine then_n ?_
          refine wp_seq ?_
          obtain ⟨r9, h10, H0⟩ := of_bind H0
          refine r_s (L := [(1, _)]) (T := [⟨[.old 0], _, [], [], [59]⟩, ⟨[.op 0 0], _, [], [0], [60]⟩, ⟨[.op 1 0], _, [], [0, 1], [61]⟩, ⟨[.op 2 0], _, [], [0, 1, 2], [62]⟩]) (F := [.old 0, .op 3 0]) (hst.pick [0] rfl) hb follows
            (o_p rfl (ob_fieldAddr fl_38_4 rfl rfl u_0) <|
             o_p rfl (ob_load ty_35 rfl rfl u_0) <|
             o_p rfl (ob_call en_58 (moietyref01_Proper_ok _ h10) rfl rfl (.cons u_0 .nil)) <|
             o_p rfl (ob_not rfl rfl u_0) <|
             o_n) (by kernel_rfl) (fun a g hst hb => ?_)
          refine wp_cond_split (hst.bool 1 rfl) (fun hc11 => ?_) (fun hc11 => ?_)
          · replace H0 := ite_t hc11 H0
            refine r_s (L := []) (T := [⟨[], _, [], [], [2]⟩]) (F := [.op 0 0]) (hst.pick [] rfl) hb follows
              (o_p rfl (ob_assign rfl rfl c_i) <|
               o_n) (by kernel_rfl) (fun a g hst hb => ?_)
            refine wp_ret ?_
            refine then_r ?_
            obtain rfl := Option.some.inj H0
            exact endR1 rfl hst hb (res_tmp (s := 2)) (hst.at 0 rfl)
          · replace H0 := ite_f hc11 H0
            refine wp_skip ?_
            refine then_n ?_
            refine wp_seq ?_
            refine r_s (L := [(1, _)]) (T := [⟨[.old 0], _, [], [], [63]⟩, ⟨[.op 0 0], _, [], [0], [64]⟩, ⟨[.op 1 0], _, [], [0, 1], [65]⟩]) (F := [.old 0, .op 2 0]) (hst.pick [0] rfl) hb follows
              (o_p rfl (ob_fieldAddr fl_38_0 rfl rfl u_0) <|
               o_p rfl (ob_load ty_3 rfl rfl u_0) <|
               o_p rfl (ob_lt rfl rfl u_0 c_i) <|
               o_n) (by kernel_rfl) (fun a g hst hb => ?_)
            refine wp_cond_split (hst.bool 1 rfl) (fun hc12 => ?_) (fun hc12 => ?_)
            · replace H0 := ite_t hc12 H0
              refine r_s (L := []) (T := [⟨[], _, [], [], [2]⟩]) (F := [.op 0 0]) (hst.pick [] rfl) hb follows
                (o_p rfl (ob_assign rfl rfl c_i) <|
                 o_n) (by kernel_rfl) (fun a g hst hb => ?_)
              refine wp_ret ?_
              refine then_r ?_
              obtain rfl := Option.some.inj H0
              exact endR1 rfl hst hb (res_tmp (s := 2)) (hst.at 0 rfl)
            · replace H0 := ite_f hc12 H0
              refine wp_skip ?_
              refine then_n ?_
              refine wp_seq ?_
              refine r_s (L := [(1, _)]) (T := [⟨[.old 0], _, [], [], [66]⟩, ⟨[.op 0 0], _, [], [0], [67]⟩, ⟨[.op 1 0], _, [], [0, 1], [68]⟩, ⟨[.op 2 0], _, [], [0, 1, 2], [69]⟩, ⟨[.op 3 0, .old 0], _, [], List.range 4, [70]⟩, ⟨[.op 3 0, .op 4 0], _, [], List.range 5, [71]⟩, ⟨[.op 3 0, .op 5 0], _, [], List.range 6, [72]⟩, ⟨[.op 3 0, .op 6 0], _, [], List.range 7, [73]⟩]) (F := [.old 0, .op 7 0]) (hst.pick [0] rfl) hb follows
                (o_p rfl (ob_fieldAddr fl_38_5 rfl rfl u_0) <|
                 o_p rfl (ob_load ty_3 rfl rfl u_0) <|
                 o_p rfl (ob_lt rfl rfl u_0 c_i) <|
                 o_p rfl (ob_move rfl rfl u_0) <|
                 o_g (g_f rfl rfl rfl (fun hG => ob_fieldAddr fl_38_5 rfl rfl u_0)) <|
                 o_g (g_f rfl rfl rfl (fun hG => ob_load ty_3 rfl rfl (Opd.gd hG u_0))) <|
                 o_g (g_f rfl rfl rfl (fun hG => ob_gt rfl rfl (Opd.gd hG u_0) c_i)) <|
                 o_p rfl (ob_por rfl rfl u_0 (fun hz => (Opd.gd (bNF hz) u_1))) <|
                 o_n) (by kernel_rfl) (fun a g hst hb => ?_)
              refine wp_cond_split (hst.bool 1 rfl) (fun hc13 => ?_) (fun hc13 => ?_)
              · replace H0 := ite_t hc13 H0
                refine r_s (L := []) (T := [⟨[], _, [], [], [2]⟩]) (F := [.op 0 0]) (hst.pick [] rfl) hb follows
                  (o_p rfl (ob_assign rfl rfl c_i) <|
                   o_n) (by kernel_rfl) (fun a g hst hb => ?_)
                refine wp_ret ?_
                refine then_r ?_
                obtain rfl := Option.some.inj H0
                exact endR1 rfl hst hb (res_tmp (s := 2)) (hst.at 0 rfl)
              · replace H0 := ite_f hc13 H0
                refine wp_skip ?_
                refine then_n ?_
                refine wp_seq ?_
                refine r_s (L := [(1, _)]) (T := [⟨[.old 0], _, [], [], [74]⟩, ⟨[.op 0 0], _, [], [0], [75]⟩, ⟨[.op 1 0], _, [], [0, 1], [76]⟩, ⟨[.old 0], _, [], [], [77]⟩, ⟨[.op 3 0], _, [], [3], [78]⟩, ⟨[.op 2 0, .op 4 0], _, [], List.range 5, [79]⟩]) (F := [.old 0, .op 5 0]) (hst.pick [0] rfl) hb follows
                  (o_p rfl (ob_fieldAddr fl_38_7 rfl rfl u_0) <|
                   o_p rfl (ob_load ty_36 rfl rfl u_0) <|
                   o_p rfl (ob_lenL Try.underlying36 rfl rfl u_0) <|
                   o_p rfl (ob_fieldAddr fl_38_5 rfl rfl u_0) <|
                   o_p rfl (ob_load ty_3 rfl rfl u_0) <|
                   o_p rfl (ob_gt rfl rfl u_0 u_1) <|
                   o_n) (by kernel_rfl) (fun a g hst hb => ?_)
                refine wp_cond_split (hst.bool 1 rfl) (fun hc14 => ?_) (fun hc14 => ?_)
                · replace H0 := ite_t hc14 H0
                  refine r_s (L := []) (T := [⟨[], _, [], [], [2]⟩]) (F := [.op 0 0]) (hst.pick [] rfl) hb follows
                    (o_p rfl (ob_assign rfl rfl c_i) <|
                     o_n) (by kernel_rfl) (fun a g hst hb => ?_)
                  refine wp_ret ?_
                  refine then_r ?_
                  obtain rfl := Option.some.inj H0
                  exact endR1 rfl hst hb (res_tmp (s := 2)) (hst.at 0 rfl)
                · replace H0 := ite_f hc14 H0
                  refine wp_skip ?_
                  refine then_n ?_
                  refine wp_seq ?_
                  refine r_s (L := [(1, _)]) (T := [⟨[], _, [], [], [4]⟩]) (F := [.old 0, .op 0 0]) (hst.pick [0] rfl) hb follows
                    (o_p rfl (ob_assign rfl rfl c_i) <|
                     o_n) (by kernel_rfl) (fun a g hst hb => ?_)
                  obtain ⟨z20, hz1, H0⟩ := of_bind H0
                  refine wp_cut (fun a w => ∃ (g : G), w = g.w ∧ St 96 [] a g ∧ Base g0 g ∧ (.inr ()) = z20) ?_ ?_
                  · rintro a w ⟨g, rfl, hst, hb, rfl⟩
                    refine then_n ?_
                    refine r_s (L := []) (T := [⟨[], _, [], [], [2]⟩]) (F := [.op 0 0]) hst hb follows
                      (o_p rfl (ob_assign rfl rfl c_i) <|
                       o_n) (by kernel_rfl) (fun a g hst hb => ?_)
                    refine wp_ret ?_
                    obtain rfl := Option.some.inj H0
                    exact endR1 rfl hst hb (res_tmp (s := 2)) (hst.at 0 rfl)
                  · refine wp_block ?_
                    refine wp_loop_ghost (fun n a w => ∃ (x15 : Int) (g : G), w = g.w ∧ St 96 [(1, (k_api_Record.ptr a0)), (4, (pInt .i64 x15))] a g ∧ Base g0 g ∧ moietyref03_Check_l1 a0 n x15 = some z20) (Int.toNat ((a0.List.length : Int) - (0 : Int)) + 1) ⟨(0 : Int), g, rfl, (hst.pick [0, 1] rfl), hb, hz1⟩ (fun n a w hI => ?_)
                    obtain ⟨x15, g, rfl, hst, hb, H1⟩ := hI
                    cases n with
                    | zero => exact absurd H1 (by simp [moietyref03_Check_l1])
                    | succ n =>
                      rw [moietyref03_Check_l1] at H1
                      refine wp_seq ?_
                      refine r_s (L := [(1, _), (4, _)]) (T := [⟨[.old 1], _, [], [], [80]⟩, ⟨[.old 0], _, [], [], [81]⟩, ⟨[.op 1 0], _, [], [1], [82]⟩, ⟨[.op 2 0], _, [], [1, 2], [83]⟩, ⟨[.op 0 0, .op 3 0], _, [], List.range 4, [84]⟩]) (F := [.old 0, .old 1, .op 4 0]) hst hb follows
                        (o_p rfl (ob_move rfl rfl u_0) <|
                         o_p rfl (ob_fieldAddr fl_38_7 rfl rfl u_0) <|
                         o_p rfl (ob_load ty_36 rfl rfl u_0) <|
                         o_p rfl (ob_lenL Try.underlying36 rfl rfl u_0) <|
                         o_p rfl (ob_lt rfl rfl u_0 u_1) <|
                         o_n) (by kernel_rfl) (fun a g hst hb => ?_)
                      refine wp_cond_split (hst.bool 2 rfl) (fun hc16 => ?_) (fun hc16 => ?_)
                      · replace H1 := ite_t hc16 H1
                        refine wp_skip ?_
                        refine then_n ?_
                        refine wp_seq ?_
                        refine wp_block ?_
                        obtain ⟨r17, h18, H1⟩ := of_bind H1
                        refine r_s (L := [(1, _), (4, _)]) (T := [⟨[.old 0], _, [], [], [87]⟩, ⟨[.op 0 0], _, [], [0], [88]⟩, ⟨[.old 0], _, [], [], [89]⟩, ⟨[.op 2 0], _, [], [2], [90]⟩, ⟨[.old 1], _, [], [], [91]⟩, ⟨[.op 1 0, .op 3 0, .op 4 0], _, [], List.range 5, [92]⟩, ⟨[.op 5 0], _, [], List.range 6, [5]⟩]) (F := [.old 0, .old 1, .op 6 0]) (hst.pick [0, 1] rfl) hb follows
                          (o_p rfl (ob_fieldAddr fl_38_0 rfl rfl u_0) <|
                           o_p rfl (ob_load ty_3 rfl rfl u_0) <|
                           o_p rfl (ob_fieldAddr fl_38_7 rfl rfl u_0) <|
                           o_p rfl (ob_load ty_36 rfl rfl u_0) <|
                           o_p rfl (ob_move rfl rfl u_0) <|
                           o_p rfl (ob_call en_59 (moietyref03_item_ok _ _ _ h18) rfl rfl (.cons u_0 (.cons u_1 (.cons u_2 .nil)))) <|
                           o_p rfl (ob_assign rfl rfl u_0) <|
                           o_n) (by kernel_rfl) (fun a g hst hb => ?_)
                        refine r_s (L := [(1, _), (4, _), (5, _)]) (T := [⟨[.old 2], _, [], [], [93]⟩, ⟨[.op 0 0], _, [], [0], [94]⟩]) (F := [.old 0, .old 1, .old 2, .op 1 0]) hst hb follows
                          (o_p rfl (ob_move rfl rfl u_0) <|
                           o_p rfl (ob_ne rfl rfl u_0 c_i) <|
                           o_n) (by kernel_rfl) (fun a g hst hb => ?_)
                        refine wp_cond_split (hst.bool 3 rfl) (fun hc19 => ?_) (fun hc19 => ?_)
                        · replace H1 := ite_t hc19 H1
                          refine r_s (L := [(5, _)]) (T := [⟨[.old 0], _, [], [], [95]⟩, ⟨[.op 0 0], _, [], [0], [2]⟩]) (F := [.op 1 0]) (hst.pick [2] rfl) hb follows
                            (o_p rfl (ob_move rfl rfl u_0) <|
                             o_p rfl (ob_assign rfl rfl u_0) <|
                             o_n) (by kernel_rfl) (fun a g hst hb => ?_)
                          refine wp_ret ?_
                          refine inBlock_r ?_
                          refine then_r ?_
                          refine then_r ?_
                          refine inBlock_r ?_
                          refine then_r ?_
                          refine then_r ?_
                          obtain rfl := Option.some.inj H1
                          obtain rfl := Option.some.inj H0
                          exact endR1 rfl hst hb (res_tmp (s := 2)) (hst.at 0 rfl)
                        · replace H1 := ite_f hc19 H1
                          refine wp_skip ?_
                          refine inBlock_n ?_
                          refine then_n ?_
                          refine r_g (L := [(1, _), (4, _)]) (T := [⟨[.old 1], _, [], [], [85]⟩, ⟨[.op 0 0], _, [], [0], [86]⟩, ⟨[.op 1 0], _, [], [0, 1], [4]⟩]) (F := [.old 0, .op 2 0]) (hst.pick [0, 1] rfl) hb follows
                            (o_p rfl (ob_move rfl rfl u_0) <|
                             o_p rfl (ob_add rfl rfl u_0 c_i rfl) <|
                             o_p rfl (ob_assign rfl rfl u_0) <|
                             o_n) (by kernel_rfl) (fun a g hst hb => ?_)
                          exact ⟨n, Nat.lt_succ_self _, (IntKind.i64.wrap (x15 + (1 : Int))), g, rfl, (hst.pick [0, 1] rfl), hb, H1⟩
                      · replace H1 := ite_f hc16 H1
                        refine wp_exit ?_
                        refine then_e ?_
                        refine then_e ?_
                        refine inBlock_e ?_
                        exact ⟨g, rfl, (hst.pick [] rfl), hb, Option.some.inj H1⟩
end Go.CL
