/- A part of the proof of ShelfSame. -/
import Derived.Test.YtlphnpmegolfmaaShelfSameC5
set_option linter.unusedVariables false
set_option linter.unusedSimpArgs false
set_option maxRecDepth 100000
namespace Go.CL
open Go Go.RowKit Go.Proofs
theorem moietyref03_item_ok (a0 : Int) (a1 : List api_Item) (a2 : Int) {r : Int} (h : moietyref03_item a0 a1 a2 = some r) : FnOk Try.prog 59 [(pInt .i64 a0), (k_api_Item.sl.pd a1), (pInt .i64 a2)] (pInt .i64 r) := by
  have H0 := h
  unfold moietyref03_item at H0
  clear h
  refine fn_ok (N := 64) Try.func59 rfl rfl (Nat.le_of_ble_eq_true rfl) rfl rfl (fun a g0 hst hb => ?_)
  refine wp_seq ?_
  refine wp_reg follows (N := 64) (L := [(0, (pInt .i64 a0)), (1, (k_api_Item.sl.pd a1)), (2, (pInt .i64 a2))])
      (T := [⟨[], [(6, (pInt .i64 (0 : Int)))], [], [], [6]⟩])
      (F := [.old 0, .old 1, .old 2]) (by kernel_rfl)
      (allOT_cons (OT.plain rfl (ob_assign rfl rfl (Opd.c (int_q _ _))))
        allOT_nil)
      hst hb (fun a g hst hb => ?_)
  refine then_n ?_
  refine wp_seq ?_
  obtain ⟨e1, h2, H0⟩ := of_bind H0
  refine wp_reg follows (N := 64) (L := [(0, (pInt .i64 a0)), (1, (k_api_Item.sl.pd a1)), (2, (pInt .i64 a2))])
      (T := [⟨[.old 1], [(8, (k_api_Item.sl.pd a1))], [], [], [8]⟩,
        ⟨[.old 2], [(9, (pInt .i64 a2))], [], [], [9]⟩,
        ⟨[.op 0 0, .op 1 0], [(10, (k_api_Item.ptr e1))], [], [0, 1], [10]⟩,
        ⟨[.op 2 0], [(11, (k_api_Item.pd e1))], [], [0, 1, 2], [11]⟩,
        ⟨[], [(7, (pBox k_api_Item 7 (default : api_Item)))], [8], [], [7]⟩,
        ⟨[.op 3 0, .op 4 0], [(7, (k_api_Item.ptr e1))], [8], [0, 1, 2, 3, 4], [7]⟩])
      (F := [.old 0, .old 1, .old 2, .op 5 0]) (by kernel_rfl)
      (allOT_cons (OT.plain rfl (ob_move rfl rfl Opd.t0))
        (allOT_cons (OT.plain rfl (ob_move rfl rfl Opd.t0))
        (allOT_cons (OT.plain rfl (ob_indexAddr Try.underlying36 sz_64 rfl rfl Opd.t0 (Opd.tl Opd.t0) h2))
        (allOT_cons (OT.plain rfl (ob_load ty_64 rfl rfl Opd.t0))
        (allOT_cons (OT.plain rfl (ob_alloc (zs := [.float .f64 0, .string ByteArray.empty]) (by kernel_rfl) (fun g => zk_api_Item g) rfl rfl))
        (allOT_cons (OT.plain rfl (ob_storeF ty_64 rfl rfl (Opd.tl Opd.t0) Opd.t0))
        allOT_nil))))))
      hst hb (fun a g hst hb => ?_)
  refine then_n ?_
  refine wp_seq ?_
  refine wp_seq ?_
  refine wp_reg follows (N := 64) (L := [(0, (pInt .i64 a0)), (1, (k_api_Item.sl.pd a1)), (2, (pInt .i64 a2)), (7, (k_api_Item.ptr e1))])
      (T := [⟨[.old 3], [(12, (Kd.str.ptr e1.Name))], [], [], [12]⟩,
        ⟨[.op 0 0], [(13, (pStr e1.Name))], [], [0], [13]⟩,
        ⟨[.op 1 0], [(14, (pInt .i64 (e1.Name.size : Int)))], [], [0, 1], [14]⟩,
        ⟨[.op 2 0], [(15, (pBool (decide ((16 : Int) < (e1.Name.size : Int)))))], [], [0, 1, 2], [15]⟩])
      (F := [.old 0, .old 1, .old 2, .old 3, .op 3 0]) (by kernel_rfl)
      (allOT_cons (OT.plain rfl (ob_fieldAddr fl_64_1 rfl rfl Opd.t0))
        (allOT_cons (OT.plain rfl (ob_load ty_9 rfl rfl Opd.t0))
        (allOT_cons (OT.plain rfl (ob_lenS Try.underlying9 rfl rfl Opd.t0))
        (allOT_cons (OT.plain rfl (ob_gt rfl rfl Opd.t0 (Opd.c (int_q _ _))))
        allOT_nil))))
      hst hb (fun a g hst hb => ?_)
  refine then_n ?_
  refine wp_cond_split (hst.bool 4 rfl) (fun hc3 => ?_) (fun hc3 => ?_)
  · replace H0 := ite_t hc3 H0
    refine wp_seq ?_
    refine wp_reg follows (N := 64) (L := [])
        (T := [⟨[], [(6, (pInt .i64 (3 : Int)))], [], [], [6]⟩])
        (F := [.op 0 0]) (by kernel_rfl)
        (allOT_cons (OT.plain rfl (ob_assign rfl rfl (Opd.c (int_q _ _))))
          allOT_nil)
        (hst.pick [] rfl) hb (fun a g hst hb => ?_)
    refine then_n ?_
    refine wp_ret ?_
    refine then_r ?_
    obtain rfl := Option.some.inj H0
    exact endR1 rfl hst hb (res_tmp (s := 6)) (hst.at 0 rfl)
  · replace H0 := ite_f hc3 H0
    refine wp_skip ?_
    refine then_n ?_
    refine wp_seq ?_
    refine wp_seq ?_
    obtain ⟨r4, h5, H0⟩ := of_bind H0
    obtain ⟨r6, h7, H0⟩ := of_bind H0
    refine wp_reg follows (N := 64) (L := [(0, (pInt .i64 a0)), (1, (k_api_Item.sl.pd a1)), (2, (pInt .i64 a2)), (7, (k_api_Item.ptr e1))])
        (T := [⟨[.old 0], [(16, (pInt .i64 a0))], [], [], [16]⟩,
          ⟨[.op 0 0], [(17, (pBool (a0 == (8 : Int))))], [], [0], [17]⟩,
          ⟨[.op 1 0], [(18, (pBool (a0 == (8 : Int))))], [], [0, 1], [18]⟩,
          ⟨[.op 2 0, .old 3], [(19, (pIf (a0 == (8 : Int)) (Kd.flt.ptr e1.Score)))], [], [0, 1, 2], [19]⟩,
          ⟨[.op 2 0, .op 3 0], [(20, (pIf (a0 == (8 : Int)) (pFlt e1.Score)))], [], [0, 1, 2, 3], [20]⟩,
          ⟨[.op 2 0, .op 4 0], [(21, (pIf (a0 == (8 : Int)) (pBool r4)))], [], [0, 1, 2, 3, 4], [21]⟩,
          ⟨[.op 2 0, .op 5 0], [(22, (pIf (a0 == (8 : Int)) (pBool (!r4))))], [], [0, 1, 2, 3, 4, 5], [22]⟩,
          ⟨[.op 2 0, .op 6 0], [(23, (pBool ((a0 == (8 : Int)) && (!r4))))], [], [0, 1, 2, 3, 4, 5, 6], [23]⟩,
          ⟨[.op 7 0], [(24, (pBool ((a0 == (8 : Int)) && (!r4))))], [], [0, 1, 2, 3, 4, 5, 6, 7], [24]⟩,
          ⟨[.op 8 0, .old 3], [(25, (pIf (!((a0 == (8 : Int)) && (!r4))) (Kd.flt.ptr e1.Score)))], [], [0, 1, 2, 3, 4, 5, 6, 7, 8], [25]⟩,
          ⟨[.op 8 0, .op 9 0], [(26, (pIf (!((a0 == (8 : Int)) && (!r4))) (pFlt e1.Score)))], [], [0, 1, 2, 3, 4, 5, 6, 7, 8, 9], [26]⟩,
          ⟨[.op 8 0, .op 10 0], [(27, (pIf (!((a0 == (8 : Int)) && (!r4))) (pBool r6)))], [], [0, 1, 2, 3, 4, 5, 6, 7, 8, 9, 10], [27]⟩,
          ⟨[.op 8 0, .op 11 0], [(28, (pIf (!((a0 == (8 : Int)) && (!r4))) (pBool (!r6))))], [], [0, 1, 2, 3, 4, 5, 6, 7, 8, 9, 10, 11], [28]⟩,
          ⟨[.op 8 0, .op 12 0], [(29, (pBool (((a0 == (8 : Int)) && (!r4)) || (!r6))))], [], [0, 1, 2, 3, 4, 5, 6, 7, 8, 9, 10, 11, 12], [29]⟩])
        (F := [.old 0, .old 1, .old 2, .old 3, .op 13 0]) (by kernel_rfl)
        (allOT_cons (OT.plain rfl (ob_move rfl rfl Opd.t0))
          (allOT_cons (OT.plain rfl (ob_eq rfl rfl Opd.t0 (Opd.c (int_q _ _))))
          (allOT_cons (OT.plain rfl (ob_move rfl rfl Opd.t0))
          (allOT_cons (OT.guard (outs := [(19, (Kd.flt.ptr e1.Score))]) (a0 == (8 : Int)) (gT (a0 == (8 : Int))).1 (gT (a0 == (8 : Int))).2 rfl rfl (fun e he => by rw [List.mem_singleton.1 he]) (fun hG => ob_fieldAddr fl_64_0 rfl rfl Opd.t0))
          (allOT_cons (OT.guard (outs := [(20, (pFlt e1.Score))]) (a0 == (8 : Int)) (gT (a0 == (8 : Int))).1 (gT (a0 == (8 : Int))).2 rfl rfl (fun e he => by rw [List.mem_singleton.1 he]) (fun hG => ob_load ty_35 rfl rfl (Opd.gd hG Opd.t0)))
          (allOT_cons (OT.guard (outs := [(21, (pBool r4))]) (a0 == (8 : Int)) (gT (a0 == (8 : Int))).1 (gT (a0 == (8 : Int))).2 rfl rfl (fun e he => by rw [List.mem_singleton.1 he]) (fun hG => ob_call en_66 (moietyref03_zero_ok _ (gd_true h5 hG)) rfl rfl (.cons (Opd.gd hG Opd.t0) .nil)))
          (allOT_cons (OT.guard (outs := [(22, (pBool (!r4)))]) (a0 == (8 : Int)) (gT (a0 == (8 : Int))).1 (gT (a0 == (8 : Int))).2 rfl rfl (fun e he => by rw [List.mem_singleton.1 he]) (fun hG => ob_not rfl rfl (Opd.gd hG Opd.t0)))
          (allOT_cons (OT.plain rfl (ob_pick (q := (pBool ((a0 == (8 : Int)) && (!r4)))) rfl rfl Opd.t0 (fun hz => Opd.to (Opd.gd hz (Opd.tl Opd.t0)) (congrArg (fun t => (pBool t)) (pk_and_t hz))) (fun hz => Opd.to (Opd.c (bool_q _)) (congrArg (fun t => (pBool t)) (pk_and_f hz)))))
          (allOT_cons (OT.plain rfl (ob_move rfl rfl Opd.t0))
          (allOT_cons (OT.guard (outs := [(25, (Kd.flt.ptr e1.Score))]) (!((a0 == (8 : Int)) && (!r4))) (gF ((a0 == (8 : Int)) && (!r4))).1 (gF ((a0 == (8 : Int)) && (!r4))).2 rfl rfl (fun e he => by rw [List.mem_singleton.1 he]) (fun hG => ob_fieldAddr fl_64_0 rfl rfl Opd.t0))
          (allOT_cons (OT.guard (outs := [(26, (pFlt e1.Score))]) (!((a0 == (8 : Int)) && (!r4))) (gF ((a0 == (8 : Int)) && (!r4))).1 (gF ((a0 == (8 : Int)) && (!r4))).2 rfl rfl (fun e he => by rw [List.mem_singleton.1 he]) (fun hG => ob_load ty_35 rfl rfl (Opd.gd hG Opd.t0)))
          (allOT_cons (OT.guard (outs := [(27, (pBool r6))]) (!((a0 == (8 : Int)) && (!r4))) (gF ((a0 == (8 : Int)) && (!r4))).1 (gF ((a0 == (8 : Int)) && (!r4))).2 rfl rfl (fun e he => by rw [List.mem_singleton.1 he]) (fun hG => ob_call en_58 (moietyref01_Proper_ok _ (gd_true h7 hG)) rfl rfl (.cons (Opd.gd hG Opd.t0) .nil)))
          (allOT_cons (OT.guard (outs := [(28, (pBool (!r6)))]) (!((a0 == (8 : Int)) && (!r4))) (gF ((a0 == (8 : Int)) && (!r4))).1 (gF ((a0 == (8 : Int)) && (!r4))).2 rfl rfl (fun e he => by rw [List.mem_singleton.1 he]) (fun hG => ob_not rfl rfl (Opd.gd hG Opd.t0)))
          (allOT_cons (OT.plain rfl (ob_pick (q := (pBool (((a0 == (8 : Int)) && (!r4)) || (!r6)))) rfl rfl Opd.t0 (fun hz => Opd.to (Opd.c (bool_q _)) (congrArg (fun t => (pBool t)) (pk_or_t hz))) (fun hz => Opd.to (Opd.gd (bNF hz) (Opd.tl Opd.t0)) (congrArg (fun t => (pBool t)) (pk_or_f hz)))))
          allOT_nil))))))))))))))
        (hst.pick [0, 1, 2, 3] rfl) hb (fun a g hst hb => ?_)
    refine then_n ?_
    refine wp_cond_split (hst.bool 4 rfl) (fun hc8 => ?_) (fun hc8 => ?_)
    · replace H0 := ite_t hc8 H0
      refine wp_seq ?_
      refine wp_reg follows (N := 64) (L := [])
          (T := [⟨[], [(6, (pInt .i64 (4 : Int)))], [], [], [6]⟩])
          (F := [.op 0 0]) (by kernel_rfl)
          (allOT_cons (OT.plain rfl (ob_assign rfl rfl (Opd.c (int_q _ _))))
            allOT_nil)
          (hst.pick [] rfl) hb (fun a g hst hb => ?_)
      refine then_n ?_
      refine wp_ret ?_
      refine then_r ?_
      obtain rfl := Option.some.inj H0
      exact endR1 rfl hst hb (res_tmp (s := 6)) (hst.at 0 rfl)
    · replace H0 := ite_f hc8 H0
      refine wp_skip ?_
      refine then_n ?_
      refine wp_seq ?_
      refine wp_seq ?_
      obtain ⟨e9, h10, H0⟩ := of_bind H0
      refine wp_reg follows (N := 64) (L := [(0, (pInt .i64 a0)), (1, (k_api_Item.sl.pd a1)), (2, (pInt .i64 a2)), (7, (k_api_Item.ptr e1))])
          (T := [⟨[.old 2], [(30, (pInt .i64 a2))], [], [], [30]⟩,
            ⟨[.op 0 0], [(31, (pBool (decide ((0 : Int) < a2))))], [], [0], [31]⟩,
            ⟨[.op 1 0], [(32, (pBool (decide ((0 : Int) < a2))))], [], [0, 1], [32]⟩,
            ⟨[.op 2 0, .old 0], [(33, (pIf (decide ((0 : Int) < a2)) (pInt .i64 a0)))], [], [0, 1, 2], [33]⟩,
            ⟨[.op 2 0, .op 3 0], [(34, (pIf (decide ((0 : Int) < a2)) (pBool (a0 == (8 : Int)))))], [], [0, 1, 2, 3], [34]⟩,
            ⟨[.op 2 0, .op 4 0], [(35, (pBool ((decide ((0 : Int) < a2)) && (a0 == (8 : Int)))))], [], [0, 1, 2, 3, 4], [35]⟩,
            ⟨[.op 5 0], [(36, (pBool ((decide ((0 : Int) < a2)) && (a0 == (8 : Int)))))], [], [0, 1, 2, 3, 4, 5], [36]⟩,
            ⟨[.op 6 0, .old 1], [(37, (pIf ((decide ((0 : Int) < a2)) && (a0 == (8 : Int))) (k_api_Item.sl.pd a1)))], [], [0, 1, 2, 3, 4, 5, 6], [37]⟩,
            ⟨[.op 6 0, .old 2], [(38, (pIf ((decide ((0 : Int) < a2)) && (a0 == (8 : Int))) (pInt .i64 a2)))], [], [0, 1, 2, 3, 4, 5, 6], [38]⟩,
            ⟨[.op 6 0, .op 8 0], [(39, (pIf ((decide ((0 : Int) < a2)) && (a0 == (8 : Int))) (pInt .i64 (IntKind.i64.wrap (a2 - (1 : Int))))))], [], [0, 1, 2, 3, 4, 5, 6, 8], [39]⟩,
            ⟨[.op 6 0, .op 7 0, .op 9 0], [(40, (pIf ((decide ((0 : Int) < a2)) && (a0 == (8 : Int))) (k_api_Item.ptr e9)))], [], [0, 1, 2, 3, 4, 5, 6, 7, 8, 9], [40]⟩,
            ⟨[.op 6 0, .op 10 0], [(41, (pIf ((decide ((0 : Int) < a2)) && (a0 == (8 : Int))) (Kd.str.ptr e9.Name)))], [], [0, 1, 2, 3, 4, 5, 6, 7, 8, 9, 10], [41]⟩,
            ⟨[.op 6 0, .op 11 0], [(42, (pIf ((decide ((0 : Int) < a2)) && (a0 == (8 : Int))) (pStr e9.Name)))], [], [0, 1, 2, 3, 4, 5, 6, 7, 8, 9, 10, 11], [42]⟩,
            ⟨[.op 6 0, .old 3], [(43, (pIf ((decide ((0 : Int) < a2)) && (a0 == (8 : Int))) (Kd.str.ptr e1.Name)))], [], [0, 1, 2, 3, 4, 5, 6], [43]⟩,
            ⟨[.op 6 0, .op 13 0], [(44, (pIf ((decide ((0 : Int) < a2)) && (a0 == (8 : Int))) (pStr e1.Name)))], [], [0, 1, 2, 3, 4, 5, 6, 13], [44]⟩,
            ⟨[.op 6 0, .op 12 0, .op 14 0], [(45, (pIf ((decide ((0 : Int) < a2)) && (a0 == (8 : Int))) (pBool (sLt e9.Name e1.Name))))], [], [0, 1, 2, 3, 4, 5, 6, 7, 8, 9, 10, 11, 12, 13, 14], [45]⟩,
            ⟨[.op 6 0, .op 15 0], [(46, (pIf ((decide ((0 : Int) < a2)) && (a0 == (8 : Int))) (pBool (!(sLt e9.Name e1.Name)))))], [], [0, 1, 2, 3, 4, 5, 6, 7, 8, 9, 10, 11, 12, 13, 14, 15], [46]⟩,
            ⟨[.op 6 0, .op 16 0], [(47, (pBool (((decide ((0 : Int) < a2)) && (a0 == (8 : Int))) && (!(sLt e9.Name e1.Name)))))], [], [0, 1, 2, 3, 4, 5, 6, 7, 8, 9, 10, 11, 12, 13, 14, 15, 16], [47]⟩])
          (F := [.old 0, .old 1, .old 2, .old 3, .op 17 0]) (by kernel_rfl)
          (allOT_cons (OT.plain rfl (ob_move rfl rfl Opd.t0))
            (allOT_cons (OT.plain rfl (ob_gt rfl rfl Opd.t0 (Opd.c (int_q _ _))))
            (allOT_cons (OT.plain rfl (ob_move rfl rfl Opd.t0))
            (allOT_cons (OT.guard (outs := [(33, (pInt .i64 a0))]) (decide ((0 : Int) < a2)) (gT (decide ((0 : Int) < a2))).1 (gT (decide ((0 : Int) < a2))).2 rfl rfl (fun e he => by rw [List.mem_singleton.1 he]) (fun hG => ob_move rfl rfl Opd.t0))
            (allOT_cons (OT.guard (outs := [(34, (pBool (a0 == (8 : Int))))]) (decide ((0 : Int) < a2)) (gT (decide ((0 : Int) < a2))).1 (gT (decide ((0 : Int) < a2))).2 rfl rfl (fun e he => by rw [List.mem_singleton.1 he]) (fun hG => ob_eq rfl rfl (Opd.gd hG Opd.t0) (Opd.c (int_q _ _))))
            (allOT_cons (OT.plain rfl (ob_pick (q := (pBool ((decide ((0 : Int) < a2)) && (a0 == (8 : Int))))) rfl rfl Opd.t0 (fun hz => Opd.to (Opd.gd hz (Opd.tl Opd.t0)) (congrArg (fun t => (pBool t)) (pk_and_t hz))) (fun hz => Opd.to (Opd.c (bool_q _)) (congrArg (fun t => (pBool t)) (pk_and_f hz)))))
            (allOT_cons (OT.plain rfl (ob_move rfl rfl Opd.t0))
            (allOT_cons (OT.guard (outs := [(37, (k_api_Item.sl.pd a1))]) ((decide ((0 : Int) < a2)) && (a0 == (8 : Int))) (gT ((decide ((0 : Int) < a2)) && (a0 == (8 : Int)))).1 (gT ((decide ((0 : Int) < a2)) && (a0 == (8 : Int)))).2 rfl rfl (fun e he => by rw [List.mem_singleton.1 he]) (fun hG => ob_move rfl rfl Opd.t0))
            (allOT_cons (OT.guard (outs := [(38, (pInt .i64 a2))]) ((decide ((0 : Int) < a2)) && (a0 == (8 : Int))) (gT ((decide ((0 : Int) < a2)) && (a0 == (8 : Int)))).1 (gT ((decide ((0 : Int) < a2)) && (a0 == (8 : Int)))).2 rfl rfl (fun e he => by rw [List.mem_singleton.1 he]) (fun hG => ob_move rfl rfl Opd.t0))
            (allOT_cons (OT.guard (outs := [(39, (pInt .i64 (IntKind.i64.wrap (a2 - (1 : Int)))))]) ((decide ((0 : Int) < a2)) && (a0 == (8 : Int))) (gT ((decide ((0 : Int) < a2)) && (a0 == (8 : Int)))).1 (gT ((decide ((0 : Int) < a2)) && (a0 == (8 : Int)))).2 rfl rfl (fun e he => by rw [List.mem_singleton.1 he]) (fun hG => ob_sub rfl rfl (Opd.gd hG Opd.t0) (Opd.c (int_q _ _)) rfl))
            (allOT_cons (OT.guard (outs := [(40, (k_api_Item.ptr e9))]) ((decide ((0 : Int) < a2)) && (a0 == (8 : Int))) (gT ((decide ((0 : Int) < a2)) && (a0 == (8 : Int)))).1 (gT ((decide ((0 : Int) < a2)) && (a0 == (8 : Int)))).2 rfl rfl (fun e he => by rw [List.mem_singleton.1 he]) (fun hG => ob_indexAddr Try.underlying36 sz_64 rfl rfl (Opd.gd hG Opd.t0) (Opd.gd hG (Opd.tl Opd.t0)) (gd_true h10 hG)))
            (allOT_cons (OT.guard (outs := [(41, (Kd.str.ptr e9.Name))]) ((decide ((0 : Int) < a2)) && (a0 == (8 : Int))) (gT ((decide ((0 : Int) < a2)) && (a0 == (8 : Int)))).1 (gT ((decide ((0 : Int) < a2)) && (a0 == (8 : Int)))).2 rfl rfl (fun e he => by rw [List.mem_singleton.1 he]) (fun hG => ob_fieldAddr fl_64_1 rfl rfl (Opd.gd hG Opd.t0)))
            (allOT_cons (OT.guard (outs := [(42, (pStr e9.Name))]) ((decide ((0 : Int) < a2)) && (a0 == (8 : Int))) (gT ((decide ((0 : Int) < a2)) && (a0 == (8 : Int)))).1 (gT ((decide ((0 : Int) < a2)) && (a0 == (8 : Int)))).2 rfl rfl (fun e he => by rw [List.mem_singleton.1 he]) (fun hG => ob_load ty_9 rfl rfl (Opd.gd hG Opd.t0)))
            (allOT_cons (OT.guard (outs := [(43, (Kd.str.ptr e1.Name))]) ((decide ((0 : Int) < a2)) && (a0 == (8 : Int))) (gT ((decide ((0 : Int) < a2)) && (a0 == (8 : Int)))).1 (gT ((decide ((0 : Int) < a2)) && (a0 == (8 : Int)))).2 rfl rfl (fun e he => by rw [List.mem_singleton.1 he]) (fun hG => ob_fieldAddr fl_64_1 rfl rfl Opd.t0))
            (allOT_cons (OT.guard (outs := [(44, (pStr e1.Name))]) ((decide ((0 : Int) < a2)) && (a0 == (8 : Int))) (gT ((decide ((0 : Int) < a2)) && (a0 == (8 : Int)))).1 (gT ((decide ((0 : Int) < a2)) && (a0 == (8 : Int)))).2 rfl rfl (fun e he => by rw [List.mem_singleton.1 he]) (fun hG => ob_load ty_9 rfl rfl (Opd.gd hG Opd.t0)))
            (allOT_cons (OT.guard (outs := [(45, (pBool (sLt e9.Name e1.Name)))]) ((decide ((0 : Int) < a2)) && (a0 == (8 : Int))) (gT ((decide ((0 : Int) < a2)) && (a0 == (8 : Int)))).1 (gT ((decide ((0 : Int) < a2)) && (a0 == (8 : Int)))).2 rfl rfl (fun e he => by rw [List.mem_singleton.1 he]) (fun hG => ob_slt rfl rfl (Opd.gd hG Opd.t0) (Opd.gd hG (Opd.tl Opd.t0))))
            (allOT_cons (OT.guard (outs := [(46, (pBool (!(sLt e9.Name e1.Name))))]) ((decide ((0 : Int) < a2)) && (a0 == (8 : Int))) (gT ((decide ((0 : Int) < a2)) && (a0 == (8 : Int)))).1 (gT ((decide ((0 : Int) < a2)) && (a0 == (8 : Int)))).2 rfl rfl (fun e he => by rw [List.mem_singleton.1 he]) (fun hG => ob_not rfl rfl (Opd.gd hG Opd.t0)))
            (allOT_cons (OT.plain rfl (ob_pick (q := (pBool (((decide ((0 : Int) < a2)) && (a0 == (8 : Int))) && (!(sLt e9.Name e1.Name))))) rfl rfl Opd.t0 (fun hz => Opd.to (Opd.gd hz (Opd.tl Opd.t0)) (congrArg (fun t => (pBool t)) (pk_and_t hz))) (fun hz => Opd.to (Opd.c (bool_q _)) (congrArg (fun t => (pBool t)) (pk_and_f hz)))))
            allOT_nil))))))))))))))))))
          (hst.pick [0, 1, 2, 3] rfl) hb (fun a g hst hb => ?_)
      refine then_n ?_
      refine wp_cond_split (hst.bool 4 rfl) (fun hc11 => ?_) (fun hc11 => ?_)
      · replace H0 := ite_t hc11 H0
        refine wp_seq ?_
        refine wp_reg follows (N := 64) (L := [])
            (T := [⟨[], [(6, (pInt .i64 (4 : Int)))], [], [], [6]⟩])
            (F := [.op 0 0]) (by kernel_rfl)
            (allOT_cons (OT.plain rfl (ob_assign rfl rfl (Opd.c (int_q _ _))))
              allOT_nil)
            (hst.pick [] rfl) hb (fun a g hst hb => ?_)
        refine then_n ?_
        refine wp_ret ?_
        refine then_r ?_
        obtain rfl := Option.some.inj H0
        exact endR1 rfl hst hb (res_tmp (s := 6)) (hst.at 0 rfl)
      · replace H0 := ite_f hc11 H0
        refine wp_skip ?_
        refine then_n ?_
        refine wp_seq ?_
        refine wp_seq ?_
        obtain ⟨e12, h13, H0⟩ := of_bind H0
        obtain ⟨r14, h15, H0⟩ := of_bind H0
        refine wp_reg follows (N := 64) (L := [(0, (pInt .i64 a0)), (1, (k_api_Item.sl.pd a1)), (2, (pInt .i64 a2)), (7, (k_api_Item.ptr e1))])
            (T := [⟨[.old 2], [(48, (pInt .i64 a2))], [], [], [48]⟩,
              ⟨[.op 0 0], [(49, (pBool (decide ((0 : Int) < a2))))], [], [0], [49]⟩,
              ⟨[.op 1 0], [(50, (pBool (decide ((0 : Int) < a2))))], [], [0, 1], [50]⟩,
              ⟨[.op 2 0, .old 0], [(51, (pIf (decide ((0 : Int) < a2)) (pInt .i64 a0)))], [], [0, 1, 2], [51]⟩,
              ⟨[.op 2 0, .op 3 0], [(52, (pIf (decide ((0 : Int) < a2)) (pBool (a0 == (9 : Int)))))], [], [0, 1, 2, 3], [52]⟩,
              ⟨[.op 2 0, .op 4 0], [(53, (pBool ((decide ((0 : Int) < a2)) && (a0 == (9 : Int)))))], [], [0, 1, 2, 3, 4], [53]⟩,
              ⟨[.op 5 0], [(54, (pBool ((decide ((0 : Int) < a2)) && (a0 == (9 : Int)))))], [], [0, 1, 2, 3, 4, 5], [54]⟩,
              ⟨[.op 6 0, .old 1], [(55, (pIf ((decide ((0 : Int) < a2)) && (a0 == (9 : Int))) (k_api_Item.sl.pd a1)))], [], [0, 1, 2, 3, 4, 5, 6], [55]⟩,
              ⟨[.op 6 0, .old 2], [(56, (pIf ((decide ((0 : Int) < a2)) && (a0 == (9 : Int))) (pInt .i64 a2)))], [], [0, 1, 2, 3, 4, 5, 6], [56]⟩,
              ⟨[.op 6 0, .op 8 0], [(57, (pIf ((decide ((0 : Int) < a2)) && (a0 == (9 : Int))) (pInt .i64 (IntKind.i64.wrap (a2 - (1 : Int))))))], [], [0, 1, 2, 3, 4, 5, 6, 8], [57]⟩,
              ⟨[.op 6 0, .op 7 0, .op 9 0], [(58, (pIf ((decide ((0 : Int) < a2)) && (a0 == (9 : Int))) (k_api_Item.ptr e12)))], [], [0, 1, 2, 3, 4, 5, 6, 7, 8, 9], [58]⟩,
              ⟨[.op 6 0, .op 10 0], [(59, (pIf ((decide ((0 : Int) < a2)) && (a0 == (9 : Int))) (k_api_Item.pd e12)))], [], [0, 1, 2, 3, 4, 5, 6, 7, 8, 9, 10], [59]⟩,
              ⟨[.op 6 0, .old 3], [(60, (pIf ((decide ((0 : Int) < a2)) && (a0 == (9 : Int))) (k_api_Item.pd e1)))], [], [0, 1, 2, 3, 4, 5, 6], [60]⟩,
              ⟨[.op 6 0, .op 11 0, .op 12 0], [(61, (pIf ((decide ((0 : Int) < a2)) && (a0 == (9 : Int))) (pBool r14)))], [], [0, 1, 2, 3, 4, 5, 6, 7, 8, 9, 10, 11, 12], [61]⟩,
              ⟨[.op 6 0, .op 13 0], [(62, (pIf ((decide ((0 : Int) < a2)) && (a0 == (9 : Int))) (pBool (!r14))))], [], [0, 1, 2, 3, 4, 5, 6, 7, 8, 9, 10, 11, 12, 13], [62]⟩,
              ⟨[.op 6 0, .op 14 0], [(63, (pBool (((decide ((0 : Int) < a2)) && (a0 == (9 : Int))) && (!r14))))], [], [0, 1, 2, 3, 4, 5, 6, 7, 8, 9, 10, 11, 12, 13, 14], [63]⟩])
            (F := [.op 15 0]) (by kernel_rfl)
            (allOT_cons (OT.plain rfl (ob_move rfl rfl Opd.t0))
              (allOT_cons (OT.plain rfl (ob_gt rfl rfl Opd.t0 (Opd.c (int_q _ _))))
              (allOT_cons (OT.plain rfl (ob_move rfl rfl Opd.t0))
              (allOT_cons (OT.guard (outs := [(51, (pInt .i64 a0))]) (decide ((0 : Int) < a2)) (gT (decide ((0 : Int) < a2))).1 (gT (decide ((0 : Int) < a2))).2 rfl rfl (fun e he => by rw [List.mem_singleton.1 he]) (fun hG => ob_move rfl rfl Opd.t0))
              (allOT_cons (OT.guard (outs := [(52, (pBool (a0 == (9 : Int))))]) (decide ((0 : Int) < a2)) (gT (decide ((0 : Int) < a2))).1 (gT (decide ((0 : Int) < a2))).2 rfl rfl (fun e he => by rw [List.mem_singleton.1 he]) (fun hG => ob_eq rfl rfl (Opd.gd hG Opd.t0) (Opd.c (int_q _ _))))
              (allOT_cons (OT.plain rfl (ob_pick (q := (pBool ((decide ((0 : Int) < a2)) && (a0 == (9 : Int))))) rfl rfl Opd.t0 (fun hz => Opd.to (Opd.gd hz (Opd.tl Opd.t0)) (congrArg (fun t => (pBool t)) (pk_and_t hz))) (fun hz => Opd.to (Opd.c (bool_q _)) (congrArg (fun t => (pBool t)) (pk_and_f hz)))))
              (allOT_cons (OT.plain rfl (ob_move rfl rfl Opd.t0))
              (allOT_cons (OT.guard (outs := [(55, (k_api_Item.sl.pd a1))]) ((decide ((0 : Int) < a2)) && (a0 == (9 : Int))) (gT ((decide ((0 : Int) < a2)) && (a0 == (9 : Int)))).1 (gT ((decide ((0 : Int) < a2)) && (a0 == (9 : Int)))).2 rfl rfl (fun e he => by rw [List.mem_singleton.1 he]) (fun hG => ob_move rfl rfl Opd.t0))
              (allOT_cons (OT.guard (outs := [(56, (pInt .i64 a2))]) ((decide ((0 : Int) < a2)) && (a0 == (9 : Int))) (gT ((decide ((0 : Int) < a2)) && (a0 == (9 : Int)))).1 (gT ((decide ((0 : Int) < a2)) && (a0 == (9 : Int)))).2 rfl rfl (fun e he => by rw [List.mem_singleton.1 he]) (fun hG => ob_move rfl rfl Opd.t0))
              (allOT_cons (OT.guard (outs := [(57, (pInt .i64 (IntKind.i64.wrap (a2 - (1 : Int)))))]) ((decide ((0 : Int) < a2)) && (a0 == (9 : Int))) (gT ((decide ((0 : Int) < a2)) && (a0 == (9 : Int)))).1 (gT ((decide ((0 : Int) < a2)) && (a0 == (9 : Int)))).2 rfl rfl (fun e he => by rw [List.mem_singleton.1 he]) (fun hG => ob_sub rfl rfl (Opd.gd hG Opd.t0) (Opd.c (int_q _ _)) rfl))
              (allOT_cons (OT.guard (outs := [(58, (k_api_Item.ptr e12))]) ((decide ((0 : Int) < a2)) && (a0 == (9 : Int))) (gT ((decide ((0 : Int) < a2)) && (a0 == (9 : Int)))).1 (gT ((decide ((0 : Int) < a2)) && (a0 == (9 : Int)))).2 rfl rfl (fun e he => by rw [List.mem_singleton.1 he]) (fun hG => ob_indexAddr Try.underlying36 sz_64 rfl rfl (Opd.gd hG Opd.t0) (Opd.gd hG (Opd.tl Opd.t0)) (gd_true h13 hG)))
              (allOT_cons (OT.guard (outs := [(59, (k_api_Item.pd e12))]) ((decide ((0 : Int) < a2)) && (a0 == (9 : Int))) (gT ((decide ((0 : Int) < a2)) && (a0 == (9 : Int)))).1 (gT ((decide ((0 : Int) < a2)) && (a0 == (9 : Int)))).2 rfl rfl (fun e he => by rw [List.mem_singleton.1 he]) (fun hG => ob_load ty_64 rfl rfl (Opd.gd hG Opd.t0)))
              (allOT_cons (OT.guard (outs := [(60, (k_api_Item.pd e1))]) ((decide ((0 : Int) < a2)) && (a0 == (9 : Int))) (gT ((decide ((0 : Int) < a2)) && (a0 == (9 : Int)))).1 (gT ((decide ((0 : Int) < a2)) && (a0 == (9 : Int)))).2 rfl rfl (fun e he => by rw [List.mem_singleton.1 he]) (fun hG => ob_load ty_64 rfl rfl Opd.t0))
              (allOT_cons (OT.guard (outs := [(61, (pBool r14))]) ((decide ((0 : Int) < a2)) && (a0 == (9 : Int))) (gT ((decide ((0 : Int) < a2)) && (a0 == (9 : Int)))).1 (gT ((decide ((0 : Int) < a2)) && (a0 == (9 : Int)))).2 rfl rfl (fun e he => by rw [List.mem_singleton.1 he]) (fun hG => ob_call en_67 (moietyref03_Ahead_ok _ _ (gd_true h15 hG)) rfl rfl (.cons (Opd.gd hG Opd.t0) (.cons (Opd.gd hG (Opd.tl Opd.t0)) .nil))))
              (allOT_cons (OT.guard (outs := [(62, (pBool (!r14)))]) ((decide ((0 : Int) < a2)) && (a0 == (9 : Int))) (gT ((decide ((0 : Int) < a2)) && (a0 == (9 : Int)))).1 (gT ((decide ((0 : Int) < a2)) && (a0 == (9 : Int)))).2 rfl rfl (fun e he => by rw [List.mem_singleton.1 he]) (fun hG => ob_not rfl rfl (Opd.gd hG Opd.t0)))
              (allOT_cons (OT.plain rfl (ob_pick (q := (pBool (((decide ((0 : Int) < a2)) && (a0 == (9 : Int))) && (!r14)))) rfl rfl Opd.t0 (fun hz => Opd.to (Opd.gd hz (Opd.tl Opd.t0)) (congrArg (fun t => (pBool t)) (pk_and_t hz))) (fun hz => Opd.to (Opd.c (bool_q _)) (congrArg (fun t => (pBool t)) (pk_and_f hz)))))
              allOT_nil))))))))))))))))
            (hst.pick [0, 1, 2, 3] rfl) hb (fun a g hst hb => ?_)
        refine then_n ?_
        refine wp_cond_split (hst.bool 0 rfl) (fun hc16 => ?_) (fun hc16 => ?_)
        · replace H0 := ite_t hc16 H0
          refine wp_seq ?_
          refine wp_reg follows (N := 64) (L := [])
              (T := [⟨[], [(6, (pInt .i64 (4 : Int)))], [], [], [6]⟩])
              (F := [.op 0 0]) (by kernel_rfl)
              (allOT_cons (OT.plain rfl (ob_assign rfl rfl (Opd.c (int_q _ _))))
                allOT_nil)
              (hst.pick [] rfl) hb (fun a g hst hb => ?_)
          refine then_n ?_
          refine wp_ret ?_
          refine then_r ?_
          obtain rfl := Option.some.inj H0
          exact endR1 rfl hst hb (res_tmp (s := 6)) (hst.at 0 rfl)
        · replace H0 := ite_f hc16 H0
          refine wp_skip ?_
          refine then_n ?_
          refine wp_seq ?_
          refine wp_reg follows (N := 64) (L := [])
              (T := [⟨[], [(6, (pInt .i64 (0 : Int)))], [], [], [6]⟩])
              (F := [.op 0 0]) (by kernel_rfl)
              (allOT_cons (OT.plain rfl (ob_assign rfl rfl (Opd.c (int_q _ _))))
                allOT_nil)
              (hst.pick [] rfl) hb (fun a g hst hb => ?_)
          refine then_n ?_
          refine wp_ret ?_
          obtain rfl := Option.some.inj H0
          exact endR1 rfl hst hb (res_tmp (s := 6)) (hst.at 0 rfl)
end Go.CL

set_option linter.unusedVariables false
set_option linter.unusedSimpArgs false
set_option maxRecDepth 100000
namespace Go.CL
open Go Go.RowKit Go.Proofs
theorem moietyref03_Check_ok (a0 : api_Record) {r : Int} (h : moietyref03_Check a0 = some r) : FnOk Try.prog 45 [(k_api_Record.pd a0)] (pInt .i64 r) := by
  have H0 := h
  unfold moietyref03_Check at H0
  clear h
  refine fn_ok (N := 96) Try.func45 rfl rfl (Nat.le_of_ble_eq_true rfl) rfl rfl (fun a g0 hst hb => ?_)
  refine wp_seq ?_
  refine wp_reg follows (N := 96) (L := [(0, (k_api_Record.pd a0))])
      (T := [⟨[.old 0], [(1, (k_api_Record.ptr a0))], [], [], [1]⟩,
        ⟨[], [(2, (pInt .i64 (0 : Int)))], [], [], [2]⟩])
      (F := [.op 0 0]) (by kernel_rfl)
      (allOT_cons (OT.plain rfl (ob_box1 rfl rfl Opd.t0))
        (allOT_cons (OT.plain rfl (ob_assign rfl rfl (Opd.c (int_q _ _))))
        allOT_nil))
      hst hb (fun a g hst hb => ?_)
  refine then_n ?_
  refine wp_seq ?_
  refine wp_seq ?_
  refine wp_reg follows (N := 96) (L := [(1, (k_api_Record.ptr a0))])
      (T := [⟨[.old 0], [(6, ((Kd.int .i64).ptr a0.Kind))], [], [], [6]⟩,
        ⟨[.op 0 0], [(7, (pInt .i64 a0.Kind))], [], [0], [7]⟩,
        ⟨[.op 1 0], [(8, (pBool (decide (a0.Kind < (1 : Int)))))], [], [0, 1], [8]⟩,
        ⟨[.op 2 0], [(9, (pBool (decide (a0.Kind < (1 : Int)))))], [], [0, 1, 2], [9]⟩,
        ⟨[.op 3 0, .old 0], [(10, (pIf (!(decide (a0.Kind < (1 : Int)))) ((Kd.int .i64).ptr a0.Kind)))], [], [0, 1, 2, 3], [10]⟩,
        ⟨[.op 3 0, .op 4 0], [(11, (pIf (!(decide (a0.Kind < (1 : Int)))) (pInt .i64 a0.Kind)))], [], [0, 1, 2, 3, 4], [11]⟩,
        ⟨[.op 3 0, .op 5 0], [(12, (pIf (!(decide (a0.Kind < (1 : Int)))) (pBool (decide ((9 : Int) < a0.Kind)))))], [], [0, 1, 2, 3, 4, 5], [12]⟩,
        ⟨[.op 3 0, .op 6 0], [(13, (pBool ((decide (a0.Kind < (1 : Int))) || (decide ((9 : Int) < a0.Kind)))))], [], [0, 1, 2, 3, 4, 5, 6], [13]⟩])
      (F := [.old 0, .op 7 0]) (by kernel_rfl)
      (allOT_cons (OT.plain rfl (ob_fieldAddr fl_38_0 rfl rfl Opd.t0))
        (allOT_cons (OT.plain rfl (ob_load ty_3 rfl rfl Opd.t0))
        (allOT_cons (OT.plain rfl (ob_lt rfl rfl Opd.t0 (Opd.c (int_q _ _))))
        (allOT_cons (OT.plain rfl (ob_move rfl rfl Opd.t0))
        (allOT_cons (OT.guard (outs := [(10, ((Kd.int .i64).ptr a0.Kind))]) (!(decide (a0.Kind < (1 : Int)))) (gF (decide (a0.Kind < (1 : Int)))).1 (gF (decide (a0.Kind < (1 : Int)))).2 rfl rfl (fun e he => by rw [List.mem_singleton.1 he]) (fun hG => ob_fieldAddr fl_38_0 rfl rfl Opd.t0))
        (allOT_cons (OT.guard (outs := [(11, (pInt .i64 a0.Kind))]) (!(decide (a0.Kind < (1 : Int)))) (gF (decide (a0.Kind < (1 : Int)))).1 (gF (decide (a0.Kind < (1 : Int)))).2 rfl rfl (fun e he => by rw [List.mem_singleton.1 he]) (fun hG => ob_load ty_3 rfl rfl (Opd.gd hG Opd.t0)))
        (allOT_cons (OT.guard (outs := [(12, (pBool (decide ((9 : Int) < a0.Kind))))]) (!(decide (a0.Kind < (1 : Int)))) (gF (decide (a0.Kind < (1 : Int)))).1 (gF (decide (a0.Kind < (1 : Int)))).2 rfl rfl (fun e he => by rw [List.mem_singleton.1 he]) (fun hG => ob_gt rfl rfl (Opd.gd hG Opd.t0) (Opd.c (int_q _ _))))
        (allOT_cons (OT.plain rfl (ob_pick (q := (pBool ((decide (a0.Kind < (1 : Int))) || (decide ((9 : Int) < a0.Kind))))) rfl rfl Opd.t0 (fun hz => Opd.to (Opd.c (bool_q _)) (congrArg (fun t => (pBool t)) (pk_or_t hz))) (fun hz => Opd.to (Opd.gd (bNF hz) (Opd.tl Opd.t0)) (congrArg (fun t => (pBool t)) (pk_or_f hz)))))
        allOT_nil))))))))
      hst hb (fun a g hst hb => ?_)
  refine then_n ?_
  refine wp_cond_split (hst.bool 1 rfl) (fun hc1 => ?_) (fun hc1 => ?_)
  · replace H0 := ite_t hc1 H0
    refine wp_seq ?_
    refine wp_reg follows (N := 96) (L := [])
        (T := [⟨[], [(2, (pInt .i64 (5 : Int)))], [], [], [2]⟩])
        (F := [.op 0 0]) (by kernel_rfl)
        (allOT_cons (OT.plain rfl (ob_assign rfl rfl (Opd.c (int_q _ _))))
          allOT_nil)
        (hst.pick [] rfl) hb (fun a g hst hb => ?_)
    refine then_n ?_
    refine wp_ret ?_
    refine then_r ?_
    obtain rfl := Option.some.inj H0
    exact endR1 rfl hst hb (res_tmp (s := 2)) (hst.at 0 rfl)
  · replace H0 := ite_f hc1 H0
    refine wp_skip ?_
    refine then_n ?_
    refine wp_seq ?_
    refine wp_seq ?_
    obtain ⟨r2, h3, H0⟩ := of_bind H0
    obtain ⟨r4, h5, H0⟩ := of_bind H0
    refine wp_reg follows (N := 96) (L := [(1, (k_api_Record.ptr a0))])
        (T := [⟨[.old 0], [(14, (k_api_Record.pd a0))], [], [], [14]⟩,
          ⟨[.old 0], [(15, ((Kd.int .i64).ptr a0.Kind))], [], [], [15]⟩,
          ⟨[.op 1 0], [(16, (pInt .i64 a0.Kind))], [], [1], [16]⟩,
          ⟨[.op 2 0], [(17, (pStr r2))], [], [1, 2], [17]⟩,
          ⟨[.op 0 0, .op 3 0], [(18, (pBool r4))], [], [0, 1, 2, 3], [18]⟩,
          ⟨[.op 4 0], [(19, (pBool (!r4)))], [], [0, 1, 2, 3, 4], [19]⟩])
        (F := [.old 0, .op 5 0]) (by kernel_rfl)
        (allOT_cons (OT.plain rfl (ob_load ty_38 rfl rfl Opd.t0))
          (allOT_cons (OT.plain rfl (ob_fieldAddr fl_38_0 rfl rfl Opd.t0))
          (allOT_cons (OT.plain rfl (ob_load ty_3 rfl rfl Opd.t0))
          (allOT_cons (OT.plain rfl (ob_call en_57 (moietyref03_Fields_ok _ h3) rfl rfl (.cons Opd.t0 .nil)))
          (allOT_cons (OT.plain rfl (ob_call en_56 (moietyref03_only_ok _ _ h5) rfl rfl (.cons Opd.t0 (.cons (Opd.tl Opd.t0) .nil))))
          (allOT_cons (OT.plain rfl (ob_not rfl rfl Opd.t0))
          allOT_nil))))))
        (hst.pick [0] rfl) hb (fun a g hst hb => ?_)
    refine then_n ?_
    refine wp_cond_split (hst.bool 1 rfl) (fun hc6 => ?_) (fun hc6 => ?_)
    · replace H0 := ite_t hc6 H0
      refine wp_seq ?_
      refine wp_reg follows (N := 96) (L := [])
          (T := [⟨[], [(2, (pInt .i64 (4 : Int)))], [], [], [2]⟩])
          (F := [.op 0 0]) (by kernel_rfl)
          (allOT_cons (OT.plain rfl (ob_assign rfl rfl (Opd.c (int_q _ _))))
            allOT_nil)
          (hst.pick [] rfl) hb (fun a g hst hb => ?_)
      refine then_n ?_
      refine wp_ret ?_
      refine then_r ?_
      obtain rfl := Option.some.inj H0
      exact endR1 rfl hst hb (res_tmp (s := 2)) (hst.at 0 rfl)
    · replace H0 := ite_f hc6 H0
      refine wp_skip ?_
      refine then_n ?_
      refine wp_seq ?_
      refine wp_seq ?_
      refine wp_reg follows (N := 96) (L := [(1, (k_api_Record.ptr a0))])
          (T := [⟨[.old 0], [(20, ((Kd.int .i64).ptr a0.Kind))], [], [], [20]⟩,
            ⟨[.op 0 0], [(21, (pInt .i64 a0.Kind))], [], [0], [21]⟩,
            ⟨[.op 1 0], [(22, (pBool (a0.Kind == (1 : Int))))], [], [0, 1], [22]⟩,
            ⟨[.op 2 0], [(23, (pBool (a0.Kind == (1 : Int))))], [], [0, 1, 2], [23]⟩,
            ⟨[.op 3 0, .old 0], [(24, (pIf (a0.Kind == (1 : Int)) (Kd.str.ptr a0.Text)))], [], [0, 1, 2, 3], [24]⟩,
            ⟨[.op 3 0, .op 4 0], [(25, (pIf (a0.Kind == (1 : Int)) (pStr a0.Text)))], [], [0, 1, 2, 3, 4], [25]⟩,
            ⟨[.op 3 0, .op 5 0], [(26, (pIf (a0.Kind == (1 : Int)) (pInt .i64 (a0.Text.size : Int))))], [], [0, 1, 2, 3, 4, 5], [26]⟩,
            ⟨[.op 3 0, .op 6 0], [(27, (pIf (a0.Kind == (1 : Int)) (pBool (decide ((64 : Int) < (a0.Text.size : Int))))))], [], [0, 1, 2, 3, 4, 5, 6], [27]⟩,
            ⟨[.op 3 0, .op 7 0], [(28, (pBool ((a0.Kind == (1 : Int)) && (decide ((64 : Int) < (a0.Text.size : Int))))))], [], [0, 1, 2, 3, 4, 5, 6, 7], [28]⟩])
          (F := [.old 0, .op 8 0]) (by kernel_rfl)
          (allOT_cons (OT.plain rfl (ob_fieldAddr fl_38_0 rfl rfl Opd.t0))
            (allOT_cons (OT.plain rfl (ob_load ty_3 rfl rfl Opd.t0))
            (allOT_cons (OT.plain rfl (ob_eq rfl rfl Opd.t0 (Opd.c (int_q _ _))))
            (allOT_cons (OT.plain rfl (ob_move rfl rfl Opd.t0))
            (allOT_cons (OT.guard (outs := [(24, (Kd.str.ptr a0.Text))]) (a0.Kind == (1 : Int)) (gT (a0.Kind == (1 : Int))).1 (gT (a0.Kind == (1 : Int))).2 rfl rfl (fun e he => by rw [List.mem_singleton.1 he]) (fun hG => ob_fieldAddr fl_38_6 rfl rfl Opd.t0))
            (allOT_cons (OT.guard (outs := [(25, (pStr a0.Text))]) (a0.Kind == (1 : Int)) (gT (a0.Kind == (1 : Int))).1 (gT (a0.Kind == (1 : Int))).2 rfl rfl (fun e he => by rw [List.mem_singleton.1 he]) (fun hG => ob_load ty_9 rfl rfl (Opd.gd hG Opd.t0)))
            (allOT_cons (OT.guard (outs := [(26, (pInt .i64 (a0.Text.size : Int)))]) (a0.Kind == (1 : Int)) (gT (a0.Kind == (1 : Int))).1 (gT (a0.Kind == (1 : Int))).2 rfl rfl (fun e he => by rw [List.mem_singleton.1 he]) (fun hG => ob_lenS Try.underlying9 rfl rfl (Opd.gd hG Opd.t0)))
            (allOT_cons (OT.guard (outs := [(27, (pBool (decide ((64 : Int) < (a0.Text.size : Int)))))]) (a0.Kind == (1 : Int)) (gT (a0.Kind == (1 : Int))).1 (gT (a0.Kind == (1 : Int))).2 rfl rfl (fun e he => by rw [List.mem_singleton.1 he]) (fun hG => ob_gt rfl rfl (Opd.gd hG Opd.t0) (Opd.c (int_q _ _))))
            (allOT_cons (OT.plain rfl (ob_pick (q := (pBool ((a0.Kind == (1 : Int)) && (decide ((64 : Int) < (a0.Text.size : Int)))))) rfl rfl Opd.t0 (fun hz => Opd.to (Opd.gd hz (Opd.tl Opd.t0)) (congrArg (fun t => (pBool t)) (pk_and_t hz))) (fun hz => Opd.to (Opd.c (bool_q _)) (congrArg (fun t => (pBool t)) (pk_and_f hz)))))
            allOT_nil)))))))))
          (hst.pick [0] rfl) hb (fun a g hst hb => ?_)
      refine then_n ?_
      refine wp_cond_split (hst.bool 1 rfl) (fun hc7 => ?_) (fun hc7 => ?_)
      · replace H0 := ite_t hc7 H0
        refine wp_seq ?_
        refine wp_reg follows (N := 96) (L := [])
            (T := [⟨[], [(2, (pInt .i64 (3 : Int)))], [], [], [2]⟩])
            (F := [.op 0 0]) (by kernel_rfl)
            (allOT_cons (OT.plain rfl (ob_assign rfl rfl (Opd.c (int_q _ _))))
              allOT_nil)
            (hst.pick [] rfl) hb (fun a g hst hb => ?_)
        refine then_n ?_
        refine wp_ret ?_
        refine then_r ?_
        obtain rfl := Option.some.inj H0
        exact endR1 rfl hst hb (res_tmp (s := 2)) (hst.at 0 rfl)
      · replace H0 := ite_f hc7 H0
        refine wp_skip ?_
        refine then_n ?_
        refine wp_seq ?_
        refine wp_reg follows (N := 96) (L := [(1, (k_api_Record.ptr a0))])
            (T := [⟨[], [(3, (pInt .i64 (2305843009213693952 : Int)))], [], [], [3]⟩])
            (F := [.old 0, .op 0 0]) (by kernel_rfl)
            (allOT_cons (OT.plain rfl (ob_assign rfl rfl (Opd.c (int_q _ _))))
              allOT_nil)
            (hst.pick [0] rfl) hb (fun a g hst hb => ?_)
        refine then_n ?_
        refine wp_seq ?_
        refine wp_seq ?_
        refine wp_reg follows (N := 96) (L := [(1, (k_api_Record.ptr a0)), (3, (pInt .i64 (2305843009213693952 : Int)))])
            (T := [⟨[.old 0], [(29, ((Kd.int .i64).ptr a0.Kind))], [], [], [29]⟩,
              ⟨[.op 0 0], [(30, (pInt .i64 a0.Kind))], [], [0], [30]⟩,
              ⟨[.op 1 0], [(31, (pBool (a0.Kind == (4 : Int))))], [], [0, 1], [31]⟩,
              ⟨[.op 2 0], [(32, (pBool (a0.Kind == (4 : Int))))], [], [0, 1, 2], [32]⟩,
              ⟨[.op 3 0, .old 0], [(33, (pIf (a0.Kind == (4 : Int)) ((Kd.int .i64).ptr a0.Low)))], [], [0, 1, 2, 3], [33]⟩,
              ⟨[.op 3 0, .op 4 0], [(34, (pIf (a0.Kind == (4 : Int)) (pInt .i64 a0.Low)))], [], [0, 1, 2, 3, 4], [34]⟩,
              ⟨[.op 3 0, .old 1], [(35, (pIf (a0.Kind == (4 : Int)) (pInt .i64 (2305843009213693952 : Int))))], [], [0, 1, 2, 3], [35]⟩,
              ⟨[.op 3 0, .op 6 0], [(36, (pIf (a0.Kind == (4 : Int)) (pInt .i64 (IntKind.i64.wrap (0 - (2305843009213693952 : Int))))))], [], [0, 1, 2, 3, 6], [36]⟩,
              ⟨[.op 3 0, .op 5 0, .op 7 0], [(37, (pIf (a0.Kind == (4 : Int)) (pBool (decide (a0.Low < (IntKind.i64.wrap (0 - (2305843009213693952 : Int))))))))], [], [0, 1, 2, 3, 4, 5, 6, 7], [37]⟩,
              ⟨[.op 3 0, .op 8 0], [(38, (pIf (a0.Kind == (4 : Int)) (pBool (decide (a0.Low < (IntKind.i64.wrap (0 - (2305843009213693952 : Int))))))))], [], [0, 1, 2, 3, 4, 5, 6, 7, 8], [38]⟩,
              ⟨[.op 9 0, .old 0], [(39, (pIf ((a0.Kind == (4 : Int)) && (!(decide (a0.Low < (IntKind.i64.wrap (0 - (2305843009213693952 : Int))))))) ((Kd.int .i64).ptr a0.High)))], [], [0, 1, 2, 3, 4, 5, 6, 7, 8, 9], [39]⟩,
              ⟨[.op 9 0, .op 10 0], [(40, (pIf ((a0.Kind == (4 : Int)) && (!(decide (a0.Low < (IntKind.i64.wrap (0 - (2305843009213693952 : Int))))))) (pInt .i64 a0.High)))], [], [0, 1, 2, 3, 4, 5, 6, 7, 8, 9, 10], [40]⟩,
              ⟨[.op 9 0, .old 1], [(41, (pIf ((a0.Kind == (4 : Int)) && (!(decide (a0.Low < (IntKind.i64.wrap (0 - (2305843009213693952 : Int))))))) (pInt .i64 (2305843009213693952 : Int))))], [], [0, 1, 2, 3, 4, 5, 6, 7, 8, 9], [41]⟩,
              ⟨[.op 9 0, .op 11 0, .op 12 0], [(42, (pIf ((a0.Kind == (4 : Int)) && (!(decide (a0.Low < (IntKind.i64.wrap (0 - (2305843009213693952 : Int))))))) (pBool (decide ((2305843009213693952 : Int) < a0.High)))))], [], [0, 1, 2, 3, 4, 5, 6, 7, 8, 9, 10, 11, 12], [42]⟩,
              ⟨[.op 3 0, .op 9 0, .op 13 0], [(43, (pIf (a0.Kind == (4 : Int)) (pBool ((decide (a0.Low < (IntKind.i64.wrap (0 - (2305843009213693952 : Int))))) || (decide ((2305843009213693952 : Int) < a0.High))))))], [], [0, 1, 2, 3, 4, 5, 6, 7, 8, 9, 10, 11, 12, 13], [43]⟩,
              ⟨[.op 3 0, .op 14 0], [(44, (pIf (a0.Kind == (4 : Int)) (pBool ((decide (a0.Low < (IntKind.i64.wrap (0 - (2305843009213693952 : Int))))) || (decide ((2305843009213693952 : Int) < a0.High))))))], [], [0, 1, 2, 3, 4, 5, 6, 7, 8, 9, 10, 11, 12, 13, 14], [44]⟩,
              ⟨[.op 15 0, .old 0], [(45, (pIf ((a0.Kind == (4 : Int)) && (!((decide (a0.Low < (IntKind.i64.wrap (0 - (2305843009213693952 : Int))))) || (decide ((2305843009213693952 : Int) < a0.High))))) ((Kd.int .i64).ptr a0.Num)))], [], [0, 1, 2, 3, 4, 5, 6, 7, 8, 9, 10, 11, 12, 13, 14, 15], [45]⟩,
              ⟨[.op 15 0, .op 16 0], [(46, (pIf ((a0.Kind == (4 : Int)) && (!((decide (a0.Low < (IntKind.i64.wrap (0 - (2305843009213693952 : Int))))) || (decide ((2305843009213693952 : Int) < a0.High))))) (pInt .i64 a0.Num)))], [], [0, 1, 2, 3, 4, 5, 6, 7, 8, 9, 10, 11, 12, 13, 14, 15, 16], [46]⟩,
              ⟨[.op 15 0, .old 0], [(47, (pIf ((a0.Kind == (4 : Int)) && (!((decide (a0.Low < (IntKind.i64.wrap (0 - (2305843009213693952 : Int))))) || (decide ((2305843009213693952 : Int) < a0.High))))) ((Kd.int .i64).ptr a0.Low)))], [], [0, 1, 2, 3, 4, 5, 6, 7, 8, 9, 10, 11, 12, 13, 14, 15], [47]⟩,
              ⟨[.op 15 0, .op 18 0], [(48, (pIf ((a0.Kind == (4 : Int)) && (!((decide (a0.Low < (IntKind.i64.wrap (0 - (2305843009213693952 : Int))))) || (decide ((2305843009213693952 : Int) < a0.High))))) (pInt .i64 a0.Low)))], [], [0, 1, 2, 3, 4, 5, 6, 7, 8, 9, 10, 11, 12, 13, 14, 15, 18], [48]⟩,
              ⟨[.op 15 0, .op 17 0, .op 19 0], [(49, (pIf ((a0.Kind == (4 : Int)) && (!((decide (a0.Low < (IntKind.i64.wrap (0 - (2305843009213693952 : Int))))) || (decide ((2305843009213693952 : Int) < a0.High))))) (pBool (decide (a0.Num < a0.Low)))))], [], [0, 1, 2, 3, 4, 5, 6, 7, 8, 9, 10, 11, 12, 13, 14, 15, 16, 17, 18, 19], [49]⟩,
              ⟨[.op 3 0, .op 15 0, .op 20 0], [(50, (pIf (a0.Kind == (4 : Int)) (pBool (((decide (a0.Low < (IntKind.i64.wrap (0 - (2305843009213693952 : Int))))) || (decide ((2305843009213693952 : Int) < a0.High))) || (decide (a0.Num < a0.Low))))))], [], [0, 1, 2, 3, 4, 5, 6, 7, 8, 9, 10, 11, 12, 13, 14, 15, 16, 17, 18, 19, 20], [50]⟩,
              ⟨[.op 3 0, .op 21 0], [(51, (pIf (a0.Kind == (4 : Int)) (pBool (((decide (a0.Low < (IntKind.i64.wrap (0 - (2305843009213693952 : Int))))) || (decide ((2305843009213693952 : Int) < a0.High))) || (decide (a0.Num < a0.Low))))))], [], [0, 1, 2, 3, 4, 5, 6, 7, 8, 9, 10, 11, 12, 13, 14, 15, 16, 17, 18, 19, 20, 21], [51]⟩,
              ⟨[.op 22 0, .old 0], [(52, (pIf ((a0.Kind == (4 : Int)) && (!(((decide (a0.Low < (IntKind.i64.wrap (0 - (2305843009213693952 : Int))))) || (decide ((2305843009213693952 : Int) < a0.High))) || (decide (a0.Num < a0.Low))))) ((Kd.int .i64).ptr a0.Num)))], [], [0, 1, 2, 3, 4, 5, 6, 7, 8, 9, 10, 11, 12, 13, 14, 15, 16, 17, 18, 19, 20, 21, 22], [52]⟩,
              ⟨[.op 22 0, .op 23 0], [(53, (pIf ((a0.Kind == (4 : Int)) && (!(((decide (a0.Low < (IntKind.i64.wrap (0 - (2305843009213693952 : Int))))) || (decide ((2305843009213693952 : Int) < a0.High))) || (decide (a0.Num < a0.Low))))) (pInt .i64 a0.Num)))], [], [0, 1, 2, 3, 4, 5, 6, 7, 8, 9, 10, 11, 12, 13, 14, 15, 16, 17, 18, 19, 20, 21, 22, 23], [53]⟩,
              ⟨[.op 22 0, .old 0], [(54, (pIf ((a0.Kind == (4 : Int)) && (!(((decide (a0.Low < (IntKind.i64.wrap (0 - (2305843009213693952 : Int))))) || (decide ((2305843009213693952 : Int) < a0.High))) || (decide (a0.Num < a0.Low))))) ((Kd.int .i64).ptr a0.High)))], [], [0, 1, 2, 3, 4, 5, 6, 7, 8, 9, 10, 11, 12, 13, 14, 15, 16, 17, 18, 19, 20, 21, 22], [54]⟩,
              ⟨[.op 22 0, .op 25 0], [(55, (pIf ((a0.Kind == (4 : Int)) && (!(((decide (a0.Low < (IntKind.i64.wrap (0 - (2305843009213693952 : Int))))) || (decide ((2305843009213693952 : Int) < a0.High))) || (decide (a0.Num < a0.Low))))) (pInt .i64 a0.High)))], [], [0, 1, 2, 3, 4, 5, 6, 7, 8, 9, 10, 11, 12, 13, 14, 15, 16, 17, 18, 19, 20, 21, 22, 25], [55]⟩,
              ⟨[.op 22 0, .op 24 0, .op 26 0], [(56, (pIf ((a0.Kind == (4 : Int)) && (!(((decide (a0.Low < (IntKind.i64.wrap (0 - (2305843009213693952 : Int))))) || (decide ((2305843009213693952 : Int) < a0.High))) || (decide (a0.Num < a0.Low))))) (pBool (decide (a0.High < a0.Num)))))], [], [0, 1, 2, 3, 4, 5, 6, 7, 8, 9, 10, 11, 12, 13, 14, 15, 16, 17, 18, 19, 20, 21, 22, 23, 24, 25, 26], [56]⟩,
              ⟨[.op 3 0, .op 22 0, .op 27 0], [(57, (pIf (a0.Kind == (4 : Int)) (pBool ((((decide (a0.Low < (IntKind.i64.wrap (0 - (2305843009213693952 : Int))))) || (decide ((2305843009213693952 : Int) < a0.High))) || (decide (a0.Num < a0.Low))) || (decide (a0.High < a0.Num))))))], [], [0, 1, 2, 3, 4, 5, 6, 7, 8, 9, 10, 11, 12, 13, 14, 15, 16, 17, 18, 19, 20, 21, 22, 23, 24, 25, 26, 27], [57]⟩,
              ⟨[.op 3 0, .op 28 0], [(58, (pBool ((a0.Kind == (4 : Int)) && ((((decide (a0.Low < (IntKind.i64.wrap (0 - (2305843009213693952 : Int))))) || (decide ((2305843009213693952 : Int) < a0.High))) || (decide (a0.Num < a0.Low))) || (decide (a0.High < a0.Num))))))], [], [0, 1, 2, 3, 4, 5, 6, 7, 8, 9, 10, 11, 12, 13, 14, 15, 16, 17, 18, 19, 20, 21, 22, 23, 24, 25, 26, 27, 28], [58]⟩])
            (F := [.old 0, .op 29 0]) (by kernel_rfl)
            (allOT_cons (OT.plain rfl (ob_fieldAddr fl_38_0 rfl rfl Opd.t0))
              (allOT_cons (OT.plain rfl (ob_load ty_3 rfl rfl Opd.t0))
              (allOT_cons (OT.plain rfl (ob_eq rfl rfl Opd.t0 (Opd.c (int_q _ _))))
              (allOT_cons (OT.plain rfl (ob_move rfl rfl Opd.t0))
              (allOT_cons (OT.guard (outs := [(33, ((Kd.int .i64).ptr a0.Low))]) (a0.Kind == (4 : Int)) (gT (a0.Kind == (4 : Int))).1 (gT (a0.Kind == (4 : Int))).2 rfl rfl (fun e he => by rw [List.mem_singleton.1 he]) (fun hG => ob_fieldAddr fl_38_2 rfl rfl Opd.t0))
              (allOT_cons (OT.guard (outs := [(34, (pInt .i64 a0.Low))]) (a0.Kind == (4 : Int)) (gT (a0.Kind == (4 : Int))).1 (gT (a0.Kind == (4 : Int))).2 rfl rfl (fun e he => by rw [List.mem_singleton.1 he]) (fun hG => ob_load ty_2 rfl rfl (Opd.gd hG Opd.t0)))
              (allOT_cons (OT.guard (outs := [(35, (pInt .i64 (2305843009213693952 : Int)))]) (a0.Kind == (4 : Int)) (gT (a0.Kind == (4 : Int))).1 (gT (a0.Kind == (4 : Int))).2 rfl rfl (fun e he => by rw [List.mem_singleton.1 he]) (fun hG => ob_move rfl rfl Opd.t0))
              (allOT_cons (OT.guard (outs := [(36, (pInt .i64 (IntKind.i64.wrap (0 - (2305843009213693952 : Int)))))]) (a0.Kind == (4 : Int)) (gT (a0.Kind == (4 : Int))).1 (gT (a0.Kind == (4 : Int))).2 rfl rfl (fun e he => by rw [List.mem_singleton.1 he]) (fun hG => ob_neg rfl rfl (Opd.gd hG Opd.t0) rfl))
              (allOT_cons (OT.guard (outs := [(37, (pBool (decide (a0.Low < (IntKind.i64.wrap (0 - (2305843009213693952 : Int)))))))]) (a0.Kind == (4 : Int)) (gT (a0.Kind == (4 : Int))).1 (gT (a0.Kind == (4 : Int))).2 rfl rfl (fun e he => by rw [List.mem_singleton.1 he]) (fun hG => ob_lt rfl rfl (Opd.gd hG Opd.t0) (Opd.gd hG (Opd.tl Opd.t0))))
              (allOT_cons (OT.guard (outs := [(38, (pBool (decide (a0.Low < (IntKind.i64.wrap (0 - (2305843009213693952 : Int)))))))]) (a0.Kind == (4 : Int)) (gT (a0.Kind == (4 : Int))).1 (gT (a0.Kind == (4 : Int))).2 rfl rfl (fun e he => by rw [List.mem_singleton.1 he]) (fun hG => ob_move rfl rfl (Opd.gd hG Opd.t0)))
              (allOT_cons (OT.guard (outs := [(39, ((Kd.int .i64).ptr a0.High))]) ((a0.Kind == (4 : Int)) && (!(decide (a0.Low < (IntKind.i64.wrap (0 - (2305843009213693952 : Int))))))) (giF (a0.Kind == (4 : Int)) (decide (a0.Low < (IntKind.i64.wrap (0 - (2305843009213693952 : Int)))))).1 (giF (a0.Kind == (4 : Int)) (decide (a0.Low < (IntKind.i64.wrap (0 - (2305843009213693952 : Int)))))).2 rfl rfl (fun e he => by rw [List.mem_singleton.1 he]) (fun hG => ob_fieldAddr fl_38_3 rfl rfl Opd.t0))
              (allOT_cons (OT.guard (outs := [(40, (pInt .i64 a0.High))]) ((a0.Kind == (4 : Int)) && (!(decide (a0.Low < (IntKind.i64.wrap (0 - (2305843009213693952 : Int))))))) (giF (a0.Kind == (4 : Int)) (decide (a0.Low < (IntKind.i64.wrap (0 - (2305843009213693952 : Int)))))).1 (giF (a0.Kind == (4 : Int)) (decide (a0.Low < (IntKind.i64.wrap (0 - (2305843009213693952 : Int)))))).2 rfl rfl (fun e he => by rw [List.mem_singleton.1 he]) (fun hG => ob_load ty_2 rfl rfl (Opd.gd hG Opd.t0)))
              (allOT_cons (OT.guard (outs := [(41, (pInt .i64 (2305843009213693952 : Int)))]) ((a0.Kind == (4 : Int)) && (!(decide (a0.Low < (IntKind.i64.wrap (0 - (2305843009213693952 : Int))))))) (giF (a0.Kind == (4 : Int)) (decide (a0.Low < (IntKind.i64.wrap (0 - (2305843009213693952 : Int)))))).1 (giF (a0.Kind == (4 : Int)) (decide (a0.Low < (IntKind.i64.wrap (0 - (2305843009213693952 : Int)))))).2 rfl rfl (fun e he => by rw [List.mem_singleton.1 he]) (fun hG => ob_move rfl rfl Opd.t0))
              (allOT_cons (OT.guard (outs := [(42, (pBool (decide ((2305843009213693952 : Int) < a0.High))))]) ((a0.Kind == (4 : Int)) && (!(decide (a0.Low < (IntKind.i64.wrap (0 - (2305843009213693952 : Int))))))) (giF (a0.Kind == (4 : Int)) (decide (a0.Low < (IntKind.i64.wrap (0 - (2305843009213693952 : Int)))))).1 (giF (a0.Kind == (4 : Int)) (decide (a0.Low < (IntKind.i64.wrap (0 - (2305843009213693952 : Int)))))).2 rfl rfl (fun e he => by rw [List.mem_singleton.1 he]) (fun hG => ob_gt rfl rfl (Opd.gd hG Opd.t0) (Opd.gd hG (Opd.tl Opd.t0))))
              (allOT_cons (OT.guard (outs := [(43, (pBool ((decide (a0.Low < (IntKind.i64.wrap (0 - (2305843009213693952 : Int))))) || (decide ((2305843009213693952 : Int) < a0.High)))))]) (a0.Kind == (4 : Int)) (gT (a0.Kind == (4 : Int))).1 (gT (a0.Kind == (4 : Int))).2 rfl rfl (fun e he => by rw [List.mem_singleton.1 he]) (fun hG => ob_pick (q := (pBool ((decide (a0.Low < (IntKind.i64.wrap (0 - (2305843009213693952 : Int))))) || (decide ((2305843009213693952 : Int) < a0.High))))) rfl rfl (Opd.gd hG Opd.t0) (fun hz => Opd.to (Opd.c (bool_q _)) (congrArg (fun t => (pBool t)) (pk_or_t hz))) (fun hz => Opd.to (Opd.gd (bA hG (bNF hz)) (Opd.tl Opd.t0)) (congrArg (fun t => (pBool t)) (pk_or_f hz)))))
              (allOT_cons (OT.guard (outs := [(44, (pBool ((decide (a0.Low < (IntKind.i64.wrap (0 - (2305843009213693952 : Int))))) || (decide ((2305843009213693952 : Int) < a0.High)))))]) (a0.Kind == (4 : Int)) (gT (a0.Kind == (4 : Int))).1 (gT (a0.Kind == (4 : Int))).2 rfl rfl (fun e he => by rw [List.mem_singleton.1 he]) (fun hG => ob_move rfl rfl (Opd.gd hG Opd.t0)))
              (allOT_cons (OT.guard (outs := [(45, ((Kd.int .i64).ptr a0.Num))]) ((a0.Kind == (4 : Int)) && (!((decide (a0.Low < (IntKind.i64.wrap (0 - (2305843009213693952 : Int))))) || (decide ((2305843009213693952 : Int) < a0.High))))) (giF (a0.Kind == (4 : Int)) ((decide (a0.Low < (IntKind.i64.wrap (0 - (2305843009213693952 : Int))))) || (decide ((2305843009213693952 : Int) < a0.High)))).1 (giF (a0.Kind == (4 : Int)) ((decide (a0.Low < (IntKind.i64.wrap (0 - (2305843009213693952 : Int))))) || (decide ((2305843009213693952 : Int) < a0.High)))).2 rfl rfl (fun e he => by rw [List.mem_singleton.1 he]) (fun hG => ob_fieldAddr fl_38_1 rfl rfl Opd.t0))
              (allOT_cons (OT.guard (outs := [(46, (pInt .i64 a0.Num))]) ((a0.Kind == (4 : Int)) && (!((decide (a0.Low < (IntKind.i64.wrap (0 - (2305843009213693952 : Int))))) || (decide ((2305843009213693952 : Int) < a0.High))))) (giF (a0.Kind == (4 : Int)) ((decide (a0.Low < (IntKind.i64.wrap (0 - (2305843009213693952 : Int))))) || (decide ((2305843009213693952 : Int) < a0.High)))).1 (giF (a0.Kind == (4 : Int)) ((decide (a0.Low < (IntKind.i64.wrap (0 - (2305843009213693952 : Int))))) || (decide ((2305843009213693952 : Int) < a0.High)))).2 rfl rfl (fun e he => by rw [List.mem_singleton.1 he]) (fun hG => ob_load ty_2 rfl rfl (Opd.gd hG Opd.t0)))
              (allOT_cons (OT.guard (outs := [(47, ((Kd.int .i64).ptr a0.Low))]) ((a0.Kind == (4 : Int)) && (!((decide (a0.Low < (IntKind.i64.wrap (0 - (2305843009213693952 : Int))))) || (decide ((2305843009213693952 : Int) < a0.High))))) (giF (a0.Kind == (4 : Int)) ((decide (a0.Low < (IntKind.i64.wrap (0 - (2305843009213693952 : Int))))) || (decide ((2305843009213693952 : Int) < a0.High)))).1 (giF (a0.Kind == (4 : Int)) ((decide (a0.Low < (IntKind.i64.wrap (0 - (2305843009213693952 : Int))))) || (decide ((2305843009213693952 : Int) < a0.High)))).2 rfl rfl (fun e he => by rw [List.mem_singleton.1 he]) (fun hG => ob_fieldAddr fl_38_2 rfl rfl Opd.t0))
              (allOT_cons (OT.guard (outs := [(48, (pInt .i64 a0.Low))]) ((a0.Kind == (4 : Int)) && (!((decide (a0.Low < (IntKind.i64.wrap (0 - (2305843009213693952 : Int))))) || (decide ((2305843009213693952 : Int) < a0.High))))) (giF (a0.Kind == (4 : Int)) ((decide (a0.Low < (IntKind.i64.wrap (0 - (2305843009213693952 : Int))))) || (decide ((2305843009213693952 : Int) < a0.High)))).1 (giF (a0.Kind == (4 : Int)) ((decide (a0.Low < (IntKind.i64.wrap (0 - (2305843009213693952 : Int))))) || (decide ((2305843009213693952 : Int) < a0.High)))).2 rfl rfl (fun e he => by rw [List.mem_singleton.1 he]) (fun hG => ob_load ty_2 rfl rfl (Opd.gd hG Opd.t0)))
              (allOT_cons (OT.guard (outs := [(49, (pBool (decide (a0.Num < a0.Low))))]) ((a0.Kind == (4 : Int)) && (!((decide (a0.Low < (IntKind.i64.wrap (0 - (2305843009213693952 : Int))))) || (decide ((2305843009213693952 : Int) < a0.High))))) (giF (a0.Kind == (4 : Int)) ((decide (a0.Low < (IntKind.i64.wrap (0 - (2305843009213693952 : Int))))) || (decide ((2305843009213693952 : Int) < a0.High)))).1 (giF (a0.Kind == (4 : Int)) ((decide (a0.Low < (IntKind.i64.wrap (0 - (2305843009213693952 : Int))))) || (decide ((2305843009213693952 : Int) < a0.High)))).2 rfl rfl (fun e he => by rw [List.mem_singleton.1 he]) (fun hG => ob_lt rfl rfl (Opd.gd hG Opd.t0) (Opd.gd hG (Opd.tl Opd.t0))))
              (allOT_cons (OT.guard (outs := [(50, (pBool (((decide (a0.Low < (IntKind.i64.wrap (0 - (2305843009213693952 : Int))))) || (decide ((2305843009213693952 : Int) < a0.High))) || (decide (a0.Num < a0.Low)))))]) (a0.Kind == (4 : Int)) (gT (a0.Kind == (4 : Int))).1 (gT (a0.Kind == (4 : Int))).2 rfl rfl (fun e he => by rw [List.mem_singleton.1 he]) (fun hG => ob_pick (q := (pBool (((decide (a0.Low < (IntKind.i64.wrap (0 - (2305843009213693952 : Int))))) || (decide ((2305843009213693952 : Int) < a0.High))) || (decide (a0.Num < a0.Low))))) rfl rfl (Opd.gd hG Opd.t0) (fun hz => Opd.to (Opd.c (bool_q _)) (congrArg (fun t => (pBool t)) (pk_or_t hz))) (fun hz => Opd.to (Opd.gd (bA hG (bNF hz)) (Opd.tl Opd.t0)) (congrArg (fun t => (pBool t)) (pk_or_f hz)))))
              (allOT_cons (OT.guard (outs := [(51, (pBool (((decide (a0.Low < (IntKind.i64.wrap (0 - (2305843009213693952 : Int))))) || (decide ((2305843009213693952 : Int) < a0.High))) || (decide (a0.Num < a0.Low)))))]) (a0.Kind == (4 : Int)) (gT (a0.Kind == (4 : Int))).1 (gT (a0.Kind == (4 : Int))).2 rfl rfl (fun e he => by rw [List.mem_singleton.1 he]) (fun hG => ob_move rfl rfl (Opd.gd hG Opd.t0)))
              (allOT_cons (OT.guard (outs := [(52, ((Kd.int .i64).ptr a0.Num))]) ((a0.Kind == (4 : Int)) && (!(((decide (a0.Low < (IntKind.i64.wrap (0 - (2305843009213693952 : Int))))) || (decide ((2305843009213693952 : Int) < a0.High))) || (decide (a0.Num < a0.Low))))) (giF (a0.Kind == (4 : Int)) (((decide (a0.Low < (IntKind.i64.wrap (0 - (2305843009213693952 : Int))))) || (decide ((2305843009213693952 : Int) < a0.High))) || (decide (a0.Num < a0.Low)))).1 (giF (a0.Kind == (4 : Int)) (((decide (a0.Low < (IntKind.i64.wrap (0 - (2305843009213693952 : Int))))) || (decide ((2305843009213693952 : Int) < a0.High))) || (decide (a0.Num < a0.Low)))).2 rfl rfl (fun e he => by rw [List.mem_singleton.1 he]) (fun hG => ob_fieldAddr fl_38_1 rfl rfl Opd.t0))
              (allOT_cons (OT.guard (outs := [(53, (pInt .i64 a0.Num))]) ((a0.Kind == (4 : Int)) && (!(((decide (a0.Low < (IntKind.i64.wrap (0 - (2305843009213693952 : Int))))) || (decide ((2305843009213693952 : Int) < a0.High))) || (decide (a0.Num < a0.Low))))) (giF (a0.Kind == (4 : Int)) (((decide (a0.Low < (IntKind.i64.wrap (0 - (2305843009213693952 : Int))))) || (decide ((2305843009213693952 : Int) < a0.High))) || (decide (a0.Num < a0.Low)))).1 (giF (a0.Kind == (4 : Int)) (((decide (a0.Low < (IntKind.i64.wrap (0 - (2305843009213693952 : Int))))) || (decide ((2305843009213693952 : Int) < a0.High))) || (decide (a0.Num < a0.Low)))).2 rfl rfl (fun e he => by rw [List.mem_singleton.1 he]) (fun hG => ob_load ty_2 rfl rfl (Opd.gd hG Opd.t0)))
              (allOT_cons (OT.guard (outs := [(54, ((Kd.int .i64).ptr a0.High))]) ((a0.Kind == (4 : Int)) && (!(((decide (a0.Low < (IntKind.i64.wrap (0 - (2305843009213693952 : Int))))) || (decide ((2305843009213693952 : Int) < a0.High))) || (decide (a0.Num < a0.Low))))) (giF (a0.Kind == (4 : Int)) (((decide (a0.Low < (IntKind.i64.wrap (0 - (2305843009213693952 : Int))))) || (decide ((2305843009213693952 : Int) < a0.High))) || (decide (a0.Num < a0.Low)))).1 (giF (a0.Kind == (4 : Int)) (((decide (a0.Low < (IntKind.i64.wrap (0 - (2305843009213693952 : Int))))) || (decide ((2305843009213693952 : Int) < a0.High))) || (decide (a0.Num < a0.Low)))).2 rfl rfl (fun e he => by rw [List.mem_singleton.1 he]) (fun hG => ob_fieldAddr fl_38_3 rfl rfl Opd.t0))
              (allOT_cons (OT.guard (outs := [(55, (pInt .i64 a0.High))]) ((a0.Kind == (4 : Int)) && (!(((decide (a0.Low < (IntKind.i64.wrap (0 - (2305843009213693952 : Int))))) || (decide ((2305843009213693952 : Int) < a0.High))) || (decide (a0.Num < a0.Low))))) (giF (a0.Kind == (4 : Int)) (((decide (a0.Low < (IntKind.i64.wrap (0 - (2305843009213693952 : Int))))) || (decide ((2305843009213693952 : Int) < a0.High))) || (decide (a0.Num < a0.Low)))).1 (giF (a0.Kind == (4 : Int)) (((decide (a0.Low < (IntKind.i64.wrap (0 - (2305843009213693952 : Int))))) || (decide ((2305843009213693952 : Int) < a0.High))) || (decide (a0.Num < a0.Low)))).2 rfl rfl (fun e he => by rw [List.mem_singleton.1 he]) (fun hG => ob_load ty_2 rfl rfl (Opd.gd hG Opd.t0)))
              (allOT_cons (OT.guard (outs := [(56, (pBool (decide (a0.High < a0.Num))))]) ((a0.Kind == (4 : Int)) && (!(((decide (a0.Low < (IntKind.i64.wrap (0 - (2305843009213693952 : Int))))) || (decide ((2305843009213693952 : Int) < a0.High))) || (decide (a0.Num < a0.Low))))) (giF (a0.Kind == (4 : Int)) (((decide (a0.Low < (IntKind.i64.wrap (0 - (2305843009213693952 : Int))))) || (decide ((2305843009213693952 : Int) < a0.High))) || (decide (a0.Num < a0.Low)))).1 (giF (a0.Kind == (4 : Int)) (((decide (a0.Low < (IntKind.i64.wrap (0 - (2305843009213693952 : Int))))) || (decide ((2305843009213693952 : Int) < a0.High))) || (decide (a0.Num < a0.Low)))).2 rfl rfl (fun e he => by rw [List.mem_singleton.1 he]) (fun hG => ob_gt rfl rfl (Opd.gd hG Opd.t0) (Opd.gd hG (Opd.tl Opd.t0))))
              (allOT_cons (OT.guard (outs := [(57, (pBool ((((decide (a0.Low < (IntKind.i64.wrap (0 - (2305843009213693952 : Int))))) || (decide ((2305843009213693952 : Int) < a0.High))) || (decide (a0.Num < a0.Low))) || (decide (a0.High < a0.Num)))))]) (a0.Kind == (4 : Int)) (gT (a0.Kind == (4 : Int))).1 (gT (a0.Kind == (4 : Int))).2 rfl rfl (fun e he => by rw [List.mem_singleton.1 he]) (fun hG => ob_pick (q := (pBool ((((decide (a0.Low < (IntKind.i64.wrap (0 - (2305843009213693952 : Int))))) || (decide ((2305843009213693952 : Int) < a0.High))) || (decide (a0.Num < a0.Low))) || (decide (a0.High < a0.Num))))) rfl rfl (Opd.gd hG Opd.t0) (fun hz => Opd.to (Opd.c (bool_q _)) (congrArg (fun t => (pBool t)) (pk_or_t hz))) (fun hz => Opd.to (Opd.gd (bA hG (bNF hz)) (Opd.tl Opd.t0)) (congrArg (fun t => (pBool t)) (pk_or_f hz)))))
              (allOT_cons (OT.plain rfl (ob_pick (q := (pBool ((a0.Kind == (4 : Int)) && ((((decide (a0.Low < (IntKind.i64.wrap (0 - (2305843009213693952 : Int))))) || (decide ((2305843009213693952 : Int) < a0.High))) || (decide (a0.Num < a0.Low))) || (decide (a0.High < a0.Num)))))) rfl rfl Opd.t0 (fun hz => Opd.to (Opd.gd hz (Opd.tl Opd.t0)) (congrArg (fun t => (pBool t)) (pk_and_t hz))) (fun hz => Opd.to (Opd.c (bool_q _)) (congrArg (fun t => (pBool t)) (pk_and_f hz)))))
              allOT_nil))))))))))))))))))))))))))))))
            hst hb (fun a g hst hb => ?_)
        refine then_n ?_
        refine wp_cond_split (hst.bool 1 rfl) (fun hc8 => ?_) (fun hc8 => ?_)
        · replace H0 := ite_t hc8 H0
          refine wp_seq ?_
          refine wp_reg follows (N := 96) (L := [])
              (T := [⟨[], [(2, (pInt .i64 (1 : Int)))], [], [], [2]⟩])
              (F := [.op 0 0]) (by kernel_rfl)
              (allOT_cons (OT.plain rfl (ob_assign rfl rfl (Opd.c (int_q _ _))))
                allOT_nil)
              (hst.pick [] rfl) hb (fun a g hst hb => ?_)
          refine then_n ?_
          refine wp_ret ?_
          refine then_r ?_
          obtain rfl := Option.some.inj H0
          exact endR1 rfl hst hb (res_tmp (s := 2)) (hst.at 0 rfl)
        · replace H0 := ite_f hc8 H0
          refine wp_skip ?_
          refine then_n ?_
          refine wp_seq ?_
          refine wp_seq ?_
          obtain ⟨r9, h10, H0⟩ := of_bind H0
          refine wp_reg follows (N := 96) (L := [(1, (k_api_Record.ptr a0))])
              (T := [⟨[.old 0], [(59, (Kd.flt.ptr a0.Real))], [], [], [59]⟩,
                ⟨[.op 0 0], [(60, (pFlt a0.Real))], [], [0], [60]⟩,
                ⟨[.op 1 0], [(61, (pBool r9))], [], [0, 1], [61]⟩,
                ⟨[.op 2 0], [(62, (pBool (!r9)))], [], [0, 1, 2], [62]⟩])
              (F := [.old 0, .op 3 0]) (by kernel_rfl)
              (allOT_cons (OT.plain rfl (ob_fieldAddr fl_38_4 rfl rfl Opd.t0))
                (allOT_cons (OT.plain rfl (ob_load ty_35 rfl rfl Opd.t0))
                (allOT_cons (OT.plain rfl (ob_call en_58 (moietyref01_Proper_ok _ h10) rfl rfl (.cons Opd.t0 .nil)))
                (allOT_cons (OT.plain rfl (ob_not rfl rfl Opd.t0))
                allOT_nil))))
              (hst.pick [0] rfl) hb (fun a g hst hb => ?_)
          refine then_n ?_
          refine wp_cond_split (hst.bool 1 rfl) (fun hc11 => ?_) (fun hc11 => ?_)
          · replace H0 := ite_t hc11 H0
            refine wp_seq ?_
            refine wp_reg follows (N := 96) (L := [])
                (T := [⟨[], [(2, (pInt .i64 (4 : Int)))], [], [], [2]⟩])
                (F := [.op 0 0]) (by kernel_rfl)
                (allOT_cons (OT.plain rfl (ob_assign rfl rfl (Opd.c (int_q _ _))))
                  allOT_nil)
                (hst.pick [] rfl) hb (fun a g hst hb => ?_)
            refine then_n ?_
            refine wp_ret ?_
            refine then_r ?_
            obtain rfl := Option.some.inj H0
            exact endR1 rfl hst hb (res_tmp (s := 2)) (hst.at 0 rfl)
          · replace H0 := ite_f hc11 H0
            refine wp_skip ?_
            refine then_n ?_
            refine wp_seq ?_
            refine wp_seq ?_
            refine wp_reg follows (N := 96) (L := [(1, (k_api_Record.ptr a0))])
                (T := [⟨[.old 0], [(63, ((Kd.int .i64).ptr a0.Kind))], [], [], [63]⟩,
                  ⟨[.op 0 0], [(64, (pInt .i64 a0.Kind))], [], [0], [64]⟩,
                  ⟨[.op 1 0], [(65, (pBool (decide (a0.Kind < (8 : Int)))))], [], [0, 1], [65]⟩])
                (F := [.old 0, .op 2 0]) (by kernel_rfl)
                (allOT_cons (OT.plain rfl (ob_fieldAddr fl_38_0 rfl rfl Opd.t0))
                  (allOT_cons (OT.plain rfl (ob_load ty_3 rfl rfl Opd.t0))
                  (allOT_cons (OT.plain rfl (ob_lt rfl rfl Opd.t0 (Opd.c (int_q _ _))))
                  allOT_nil)))
                (hst.pick [0] rfl) hb (fun a g hst hb => ?_)
            refine then_n ?_
            refine wp_cond_split (hst.bool 1 rfl) (fun hc12 => ?_) (fun hc12 => ?_)
            · replace H0 := ite_t hc12 H0
              refine wp_seq ?_
              refine wp_reg follows (N := 96) (L := [])
                  (T := [⟨[], [(2, (pInt .i64 (0 : Int)))], [], [], [2]⟩])
                  (F := [.op 0 0]) (by kernel_rfl)
                  (allOT_cons (OT.plain rfl (ob_assign rfl rfl (Opd.c (int_q _ _))))
                    allOT_nil)
                  (hst.pick [] rfl) hb (fun a g hst hb => ?_)
              refine then_n ?_
              refine wp_ret ?_
              refine then_r ?_
              obtain rfl := Option.some.inj H0
              exact endR1 rfl hst hb (res_tmp (s := 2)) (hst.at 0 rfl)
            · replace H0 := ite_f hc12 H0
              refine wp_skip ?_
              refine then_n ?_
              refine wp_seq ?_
              refine wp_seq ?_
              refine wp_reg follows (N := 96) (L := [(1, (k_api_Record.ptr a0))])
                  (T := [⟨[.old 0], [(66, ((Kd.int .i64).ptr a0.Cap))], [], [], [66]⟩,
                    ⟨[.op 0 0], [(67, (pInt .i64 a0.Cap))], [], [0], [67]⟩,
                    ⟨[.op 1 0], [(68, (pBool (decide (a0.Cap < (1 : Int)))))], [], [0, 1], [68]⟩,
                    ⟨[.op 2 0], [(69, (pBool (decide (a0.Cap < (1 : Int)))))], [], [0, 1, 2], [69]⟩,
                    ⟨[.op 3 0, .old 0], [(70, (pIf (!(decide (a0.Cap < (1 : Int)))) ((Kd.int .i64).ptr a0.Cap)))], [], [0, 1, 2, 3], [70]⟩,
                    ⟨[.op 3 0, .op 4 0], [(71, (pIf (!(decide (a0.Cap < (1 : Int)))) (pInt .i64 a0.Cap)))], [], [0, 1, 2, 3, 4], [71]⟩,
                    ⟨[.op 3 0, .op 5 0], [(72, (pIf (!(decide (a0.Cap < (1 : Int)))) (pBool (decide ((32 : Int) < a0.Cap)))))], [], [0, 1, 2, 3, 4, 5], [72]⟩,
                    ⟨[.op 3 0, .op 6 0], [(73, (pBool ((decide (a0.Cap < (1 : Int))) || (decide ((32 : Int) < a0.Cap)))))], [], [0, 1, 2, 3, 4, 5, 6], [73]⟩])
                  (F := [.old 0, .op 7 0]) (by kernel_rfl)
                  (allOT_cons (OT.plain rfl (ob_fieldAddr fl_38_5 rfl rfl Opd.t0))
                    (allOT_cons (OT.plain rfl (ob_load ty_3 rfl rfl Opd.t0))
                    (allOT_cons (OT.plain rfl (ob_lt rfl rfl Opd.t0 (Opd.c (int_q _ _))))
                    (allOT_cons (OT.plain rfl (ob_move rfl rfl Opd.t0))
                    (allOT_cons (OT.guard (outs := [(70, ((Kd.int .i64).ptr a0.Cap))]) (!(decide (a0.Cap < (1 : Int)))) (gF (decide (a0.Cap < (1 : Int)))).1 (gF (decide (a0.Cap < (1 : Int)))).2 rfl rfl (fun e he => by rw [List.mem_singleton.1 he]) (fun hG => ob_fieldAddr fl_38_5 rfl rfl Opd.t0))
                    (allOT_cons (OT.guard (outs := [(71, (pInt .i64 a0.Cap))]) (!(decide (a0.Cap < (1 : Int)))) (gF (decide (a0.Cap < (1 : Int)))).1 (gF (decide (a0.Cap < (1 : Int)))).2 rfl rfl (fun e he => by rw [List.mem_singleton.1 he]) (fun hG => ob_load ty_3 rfl rfl (Opd.gd hG Opd.t0)))
                    (allOT_cons (OT.guard (outs := [(72, (pBool (decide ((32 : Int) < a0.Cap))))]) (!(decide (a0.Cap < (1 : Int)))) (gF (decide (a0.Cap < (1 : Int)))).1 (gF (decide (a0.Cap < (1 : Int)))).2 rfl rfl (fun e he => by rw [List.mem_singleton.1 he]) (fun hG => ob_gt rfl rfl (Opd.gd hG Opd.t0) (Opd.c (int_q _ _))))
                    (allOT_cons (OT.plain rfl (ob_pick (q := (pBool ((decide (a0.Cap < (1 : Int))) || (decide ((32 : Int) < a0.Cap))))) rfl rfl Opd.t0 (fun hz => Opd.to (Opd.c (bool_q _)) (congrArg (fun t => (pBool t)) (pk_or_t hz))) (fun hz => Opd.to (Opd.gd (bNF hz) (Opd.tl Opd.t0)) (congrArg (fun t => (pBool t)) (pk_or_f hz)))))
                    allOT_nil))))))))
                  (hst.pick [0] rfl) hb (fun a g hst hb => ?_)
              refine then_n ?_
              refine wp_cond_split (hst.bool 1 rfl) (fun hc13 => ?_) (fun hc13 => ?_)
              · replace H0 := ite_t hc13 H0
                refine wp_seq ?_
                refine wp_reg follows (N := 96) (L := [])
                    (T := [⟨[], [(2, (pInt .i64 (1 : Int)))], [], [], [2]⟩])
                    (F := [.op 0 0]) (by kernel_rfl)
                    (allOT_cons (OT.plain rfl (ob_assign rfl rfl (Opd.c (int_q _ _))))
                      allOT_nil)
                    (hst.pick [] rfl) hb (fun a g hst hb => ?_)
                refine then_n ?_
                refine wp_ret ?_
                refine then_r ?_
                obtain rfl := Option.some.inj H0
                exact endR1 rfl hst hb (res_tmp (s := 2)) (hst.at 0 rfl)
              · replace H0 := ite_f hc13 H0
                refine wp_skip ?_
                refine then_n ?_
                refine wp_seq ?_
                refine wp_seq ?_
                refine wp_reg follows (N := 96) (L := [(1, (k_api_Record.ptr a0))])
                    (T := [⟨[.old 0], [(74, (k_api_Item.sl.ptr a0.List))], [], [], [74]⟩,
                      ⟨[.op 0 0], [(75, (k_api_Item.sl.pd a0.List))], [], [0], [75]⟩,
                      ⟨[.op 1 0], [(76, (pInt .i64 (a0.List.length : Int)))], [], [0, 1], [76]⟩,
                      ⟨[.old 0], [(77, ((Kd.int .i64).ptr a0.Cap))], [], [], [77]⟩,
                      ⟨[.op 3 0], [(78, (pInt .i64 a0.Cap))], [], [3], [78]⟩,
                      ⟨[.op 2 0, .op 4 0], [(79, (pBool (decide (a0.Cap < (a0.List.length : Int)))))], [], [0, 1, 2, 3, 4], [79]⟩])
                    (F := [.old 0, .op 5 0]) (by kernel_rfl)
                    (allOT_cons (OT.plain rfl (ob_fieldAddr fl_38_7 rfl rfl Opd.t0))
                      (allOT_cons (OT.plain rfl (ob_load ty_36 rfl rfl Opd.t0))
                      (allOT_cons (OT.plain rfl (ob_lenL Try.underlying36 rfl rfl Opd.t0))
                      (allOT_cons (OT.plain rfl (ob_fieldAddr fl_38_5 rfl rfl Opd.t0))
                      (allOT_cons (OT.plain rfl (ob_load ty_3 rfl rfl Opd.t0))
                      (allOT_cons (OT.plain rfl (ob_gt rfl rfl Opd.t0 (Opd.tl Opd.t0)))
                      allOT_nil))))))
                    (hst.pick [0] rfl) hb (fun a g hst hb => ?_)
                refine then_n ?_
                refine wp_cond_split (hst.bool 1 rfl) (fun hc14 => ?_) (fun hc14 => ?_)
                · replace H0 := ite_t hc14 H0
                  refine wp_seq ?_
                  refine wp_reg follows (N := 96) (L := [])
                      (T := [⟨[], [(2, (pInt .i64 (8 : Int)))], [], [], [2]⟩])
                      (F := [.op 0 0]) (by kernel_rfl)
                      (allOT_cons (OT.plain rfl (ob_assign rfl rfl (Opd.c (int_q _ _))))
                        allOT_nil)
                      (hst.pick [] rfl) hb (fun a g hst hb => ?_)
                  refine then_n ?_
                  refine wp_ret ?_
                  refine then_r ?_
                  obtain rfl := Option.some.inj H0
                  exact endR1 rfl hst hb (res_tmp (s := 2)) (hst.at 0 rfl)
                · replace H0 := ite_f hc14 H0
                  refine wp_skip ?_
                  refine then_n ?_
                  refine wp_seq ?_
                  refine wp_seq ?_
                  refine wp_reg follows (N := 96) (L := [(1, (k_api_Record.ptr a0))])
                      (T := [⟨[], [(4, (pInt .i64 (0 : Int)))], [], [], [4]⟩])
                      (F := [.old 0, .op 0 0]) (by kernel_rfl)
                      (allOT_cons (OT.plain rfl (ob_assign rfl rfl (Opd.c (int_q _ _))))
                        allOT_nil)
                      (hst.pick [0] rfl) hb (fun a g hst hb => ?_)
                  refine then_n ?_
                  obtain ⟨z20, hz1, H0⟩ := of_bind H0
                  refine wp_cut (fun a w => ∃ (g : G), w = g.w ∧ St 96 [] a g ∧ Base g0 g ∧ (.inr ()) = z20) ?_ ?_
                  · rintro a w ⟨g, rfl, hst, hb, rfl⟩
                    refine then_n ?_
                    refine wp_seq ?_
                    refine wp_reg follows (N := 96) (L := [])
                        (T := [⟨[], [(2, (pInt .i64 (0 : Int)))], [], [], [2]⟩])
                        (F := [.op 0 0]) (by kernel_rfl)
                        (allOT_cons (OT.plain rfl (ob_assign rfl rfl (Opd.c (int_q _ _))))
                          allOT_nil)
                        hst hb (fun a g hst hb => ?_)
                    refine then_n ?_
                    refine wp_ret ?_
                    obtain rfl := Option.some.inj H0
                    exact endR1 rfl hst hb (res_tmp (s := 2)) (hst.at 0 rfl)
                  · refine wp_block ?_
                    refine wp_loop_ghost (fun n a w => ∃ (x15 : Int) (g : G), w = g.w ∧ St 96 [(1, (k_api_Record.ptr a0)), (4, (pInt .i64 x15))] a g ∧ Base g0 g ∧ moietyref03_Check_l1 a0 n x15 = some z20) (Int.toNat ((a0.List.length : Int) - (0 : Int)) + 1) ⟨(0 : Int), g, rfl, (hst.pick [0, 1] rfl), hb, hz1⟩ (fun n a w hI => ?_)
                    obtain ⟨x15, g, rfl, hst, hb, H1⟩ := hI
                    cases n with
                    | zero => exact absurd H1 (by simp [moietyref03_Check_l1])
                    | succ n =>
                      rw [moietyref03_Check_l1] at H1
                      refine wp_seq ?_
                      refine wp_seq ?_
                      refine wp_reg follows (N := 96) (L := [(1, (k_api_Record.ptr a0)), (4, (pInt .i64 x15))])
                          (T := [⟨[.old 1], [(80, (pInt .i64 x15))], [], [], [80]⟩,
                            ⟨[.old 0], [(81, (k_api_Item.sl.ptr a0.List))], [], [], [81]⟩,
                            ⟨[.op 1 0], [(82, (k_api_Item.sl.pd a0.List))], [], [1], [82]⟩,
                            ⟨[.op 2 0], [(83, (pInt .i64 (a0.List.length : Int)))], [], [1, 2], [83]⟩,
                            ⟨[.op 0 0, .op 3 0], [(84, (pBool (decide (x15 < (a0.List.length : Int)))))], [], [0, 1, 2, 3], [84]⟩])
                          (F := [.old 0, .old 1, .op 4 0]) (by kernel_rfl)
                          (allOT_cons (OT.plain rfl (ob_move rfl rfl Opd.t0))
                            (allOT_cons (OT.plain rfl (ob_fieldAddr fl_38_7 rfl rfl Opd.t0))
                            (allOT_cons (OT.plain rfl (ob_load ty_36 rfl rfl Opd.t0))
                            (allOT_cons (OT.plain rfl (ob_lenL Try.underlying36 rfl rfl Opd.t0))
                            (allOT_cons (OT.plain rfl (ob_lt rfl rfl Opd.t0 (Opd.tl Opd.t0)))
                            allOT_nil)))))
                          hst hb (fun a g hst hb => ?_)
                      refine then_n ?_
                      refine wp_cond_split (hst.bool 2 rfl) (fun hc16 => ?_) (fun hc16 => ?_)
                      · replace H1 := ite_t hc16 H1
                        refine wp_skip ?_
                        refine then_n ?_
                        refine wp_seq ?_
                        refine wp_block ?_
                        refine wp_seq ?_
                        obtain ⟨r17, h18, H1⟩ := of_bind H1
                        refine wp_reg follows (N := 96) (L := [(1, (k_api_Record.ptr a0)), (4, (pInt .i64 x15))])
                            (T := [⟨[.old 0], [(87, ((Kd.int .i64).ptr a0.Kind))], [], [], [87]⟩,
                              ⟨[.op 0 0], [(88, (pInt .i64 a0.Kind))], [], [0], [88]⟩,
                              ⟨[.old 0], [(89, (k_api_Item.sl.ptr a0.List))], [], [], [89]⟩,
                              ⟨[.op 2 0], [(90, (k_api_Item.sl.pd a0.List))], [], [2], [90]⟩,
                              ⟨[.old 1], [(91, (pInt .i64 x15))], [], [], [91]⟩,
                              ⟨[.op 1 0, .op 3 0, .op 4 0], [(92, (pInt .i64 r17))], [], [0, 1, 2, 3, 4], [92]⟩,
                              ⟨[.op 5 0], [(5, (pInt .i64 r17))], [], [0, 1, 2, 3, 4, 5], [5]⟩])
                            (F := [.old 0, .old 1, .op 6 0]) (by kernel_rfl)
                            (allOT_cons (OT.plain rfl (ob_fieldAddr fl_38_0 rfl rfl Opd.t0))
                              (allOT_cons (OT.plain rfl (ob_load ty_3 rfl rfl Opd.t0))
                              (allOT_cons (OT.plain rfl (ob_fieldAddr fl_38_7 rfl rfl Opd.t0))
                              (allOT_cons (OT.plain rfl (ob_load ty_36 rfl rfl Opd.t0))
                              (allOT_cons (OT.plain rfl (ob_move rfl rfl Opd.t0))
                              (allOT_cons (OT.plain rfl (ob_call en_59 (moietyref03_item_ok _ _ _ h18) rfl rfl (.cons Opd.t0 (.cons (Opd.tl Opd.t0) (.cons (Opd.tl (Opd.tl Opd.t0)) .nil)))))
                              (allOT_cons (OT.plain rfl (ob_assign rfl rfl Opd.t0))
                              allOT_nil)))))))
                            (hst.pick [0, 1] rfl) hb (fun a g hst hb => ?_)
                        refine then_n ?_
                        refine wp_seq ?_
                        refine wp_reg follows (N := 96) (L := [(1, (k_api_Record.ptr a0)), (4, (pInt .i64 x15)), (5, (pInt .i64 r17))])
                            (T := [⟨[.old 2], [(93, (pInt .i64 r17))], [], [], [93]⟩,
                              ⟨[.op 0 0], [(94, (pBool (r17 != (0 : Int))))], [], [0], [94]⟩])
                            (F := [.old 0, .old 1, .old 2, .op 1 0]) (by kernel_rfl)
                            (allOT_cons (OT.plain rfl (ob_move rfl rfl Opd.t0))
                              (allOT_cons (OT.plain rfl (ob_ne rfl rfl Opd.t0 (Opd.c (int_q _ _))))
                              allOT_nil))
                            hst hb (fun a g hst hb => ?_)
                        refine then_n ?_
                        refine wp_cond_split (hst.bool 3 rfl) (fun hc19 => ?_) (fun hc19 => ?_)
                        · replace H1 := ite_t hc19 H1
                          refine wp_seq ?_
                          refine wp_reg follows (N := 96) (L := [(5, (pInt .i64 r17))])
                              (T := [⟨[.old 0], [(95, (pInt .i64 r17))], [], [], [95]⟩,
                                ⟨[.op 0 0], [(2, (pInt .i64 r17))], [], [0], [2]⟩])
                              (F := [.op 1 0]) (by kernel_rfl)
                              (allOT_cons (OT.plain rfl (ob_move rfl rfl Opd.t0))
                                (allOT_cons (OT.plain rfl (ob_assign rfl rfl Opd.t0))
                                allOT_nil))
                              (hst.pick [2] rfl) hb (fun a g hst hb => ?_)
                          refine then_n ?_
                          refine wp_ret ?_
                          refine inBlock_r ?_
                          refine then_r ?_
                          refine then_r ?_
                          refine inBlock_r ?_
                          refine then_r ?_
                          refine then_r ?_
                          obtain rfl := Option.some.inj H1
                          obtain rfl := Option.some.inj H0
                          exact endR1 rfl hst hb (res_tmp (s := 2)) (hst.at 0 rfl)
                        · replace H1 := ite_f hc19 H1
                          refine wp_skip ?_
                          refine inBlock_n ?_
                          refine then_n ?_
                          refine wp_reg follows (N := 96) (L := [(1, (k_api_Record.ptr a0)), (4, (pInt .i64 x15))])
                              (T := [⟨[.old 1], [(85, (pInt .i64 x15))], [], [], [85]⟩,
                                ⟨[.op 0 0], [(86, (pInt .i64 (IntKind.i64.wrap (x15 + (1 : Int)))))], [], [0], [86]⟩,
                                ⟨[.op 1 0], [(4, (pInt .i64 (IntKind.i64.wrap (x15 + (1 : Int)))))], [], [0, 1], [4]⟩])
                              (F := [.old 0, .op 2 0]) (by kernel_rfl)
                              (allOT_cons (OT.plain rfl (ob_move rfl rfl Opd.t0))
                                (allOT_cons (OT.plain rfl (ob_add rfl rfl Opd.t0 (Opd.c (int_q _ _)) rfl))
                                (allOT_cons (OT.plain rfl (ob_assign rfl rfl Opd.t0))
                                allOT_nil)))
                              (hst.pick [0, 1] rfl) hb (fun a g hst hb => ?_)
                          exact ⟨n, Nat.lt_succ_self _, (IntKind.i64.wrap (x15 + (1 : Int))), g, rfl, (hst.pick [0, 1] rfl), hb, H1⟩
                      · replace H1 := ite_f hc16 H1
                        refine wp_exit ?_
                        refine then_e ?_
                        refine then_e ?_
                        refine inBlock_e ?_
                        exact ⟨g, rfl, (hst.pick [] rfl), hb, Option.some.inj H1⟩
end Go.CL

set_option linter.unusedVariables false
set_option linter.unusedSimpArgs false
set_option maxRecDepth 100000
namespace Go.CL
open Go Go.RowKit Go.Proofs
theorem moietyref09_Shelf_Set_ok (a0 : moietyref09_Shelf) (a1 : ByteArray) (a2 : api_Record) {r : moietyref09_Shelf × Int} (h : moietyref09_Shelf_Set a0 a1 a2 = some r) : FnOk Try.prog 32 [(k_moietyref09_Shelf.pd a0), (pStr a1), (k_api_Record.pd a2)] (pTup [(k_moietyref09_Shelf.pd r.1), (pInt .i64 r.2)]) := by
  have H0 := h
  unfold moietyref09_Shelf_Set at H0
  clear h
  refine fn_ok (N := 80) Try.func32 rfl rfl (Nat.le_of_ble_eq_true rfl) rfl rfl (fun a g0 hst hb => ?_)
  refine wp_seq ?_
  refine wp_reg follows (N := 80) (L := [(0, (k_moietyref09_Shelf.pd a0)), (1, (pStr a1)), (2, (k_api_Record.pd a2))])
      (T := [⟨[.old 0], [(3, (k_moietyref09_Shelf.ptr a0))], [], [], [3]⟩,
        ⟨[.old 2], [(5, (k_api_Record.ptr a2))], [], [], [5]⟩,
        ⟨[], [(6, (pBox k_moietyref09_Shelf 6 (default : moietyref09_Shelf)))], [7], [], [6]⟩,
        ⟨[], [(7, (pInt .i64 (0 : Int)))], [], [], [7]⟩])
      (F := [.old 1, .op 0 0, .op 1 0, .op 2 0]) (by kernel_rfl)
      (allOT_cons (OT.plain rfl (ob_box1 rfl rfl Opd.t0))
        (allOT_cons (OT.plain rfl (ob_box1 rfl rfl Opd.t0))
        (allOT_cons (OT.plain rfl (ob_alloc (zs := [.slice none 0 0, .int .i64 0]) (by kernel_rfl) (fun g => zk_moietyref09_Shelf g) rfl rfl))
        (allOT_cons (OT.plain rfl (ob_assign rfl rfl (Opd.c (int_q _ _))))
        allOT_nil))))
      hst hb (fun a g hst hb => ?_)
  refine then_n ?_
  refine wp_seq ?_
  refine wp_seq ?_
  refine wp_reg follows (N := 80) (L := [(1, (pStr a1)), (3, (k_moietyref09_Shelf.ptr a0)), (5, (k_api_Record.ptr a2)), (6, (pBox k_moietyref09_Shelf 6 (default : moietyref09_Shelf)))])
      (T := [⟨[.old 0], [(12, (pStr a1))], [], [], [12]⟩,
        ⟨[.op 0 0], [(13, (pInt .i64 (a1.size : Int)))], [], [0], [13]⟩,
        ⟨[.op 1 0], [(14, (pBool (decide ((a1.size : Int) < (1 : Int)))))], [], [0, 1], [14]⟩,
        ⟨[.op 2 0], [(15, (pBool (decide ((a1.size : Int) < (1 : Int)))))], [], [0, 1, 2], [15]⟩,
        ⟨[.op 3 0, .old 0], [(16, (pIf (!(decide ((a1.size : Int) < (1 : Int)))) (pStr a1)))], [], [0, 1, 2, 3], [16]⟩,
        ⟨[.op 3 0, .op 4 0], [(17, (pIf (!(decide ((a1.size : Int) < (1 : Int)))) (pInt .i64 (a1.size : Int))))], [], [0, 1, 2, 3, 4], [17]⟩,
        ⟨[.op 3 0, .op 5 0], [(18, (pIf (!(decide ((a1.size : Int) < (1 : Int)))) (pBool (decide ((24 : Int) < (a1.size : Int))))))], [], [0, 1, 2, 3, 4, 5], [18]⟩,
        ⟨[.op 3 0, .op 6 0], [(19, (pBool ((decide ((a1.size : Int) < (1 : Int))) || (decide ((24 : Int) < (a1.size : Int))))))], [], [0, 1, 2, 3, 4, 5, 6], [19]⟩])
      (F := [.old 0, .old 1, .old 2, .old 3, .op 7 0]) (by kernel_rfl)
      (allOT_cons (OT.plain rfl (ob_move rfl rfl Opd.t0))
        (allOT_cons (OT.plain rfl (ob_lenS Try.underlying9 rfl rfl Opd.t0))
        (allOT_cons (OT.plain rfl (ob_lt rfl rfl Opd.t0 (Opd.c (int_q _ _))))
        (allOT_cons (OT.plain rfl (ob_move rfl rfl Opd.t0))
        (allOT_cons (OT.guard (outs := [(16, (pStr a1))]) (!(decide ((a1.size : Int) < (1 : Int)))) (gF (decide ((a1.size : Int) < (1 : Int)))).1 (gF (decide ((a1.size : Int) < (1 : Int)))).2 rfl rfl (fun e he => by rw [List.mem_singleton.1 he]) (fun hG => ob_move rfl rfl Opd.t0))
        (allOT_cons (OT.guard (outs := [(17, (pInt .i64 (a1.size : Int)))]) (!(decide ((a1.size : Int) < (1 : Int)))) (gF (decide ((a1.size : Int) < (1 : Int)))).1 (gF (decide ((a1.size : Int) < (1 : Int)))).2 rfl rfl (fun e he => by rw [List.mem_singleton.1 he]) (fun hG => ob_lenS Try.underlying9 rfl rfl (Opd.gd hG Opd.t0)))
        (allOT_cons (OT.guard (outs := [(18, (pBool (decide ((24 : Int) < (a1.size : Int)))))]) (!(decide ((a1.size : Int) < (1 : Int)))) (gF (decide ((a1.size : Int) < (1 : Int)))).1 (gF (decide ((a1.size : Int) < (1 : Int)))).2 rfl rfl (fun e he => by rw [List.mem_singleton.1 he]) (fun hG => ob_gt rfl rfl (Opd.gd hG Opd.t0) (Opd.c (int_q _ _))))
        (allOT_cons (OT.plain rfl (ob_pick (q := (pBool ((decide ((a1.size : Int) < (1 : Int))) || (decide ((24 : Int) < (a1.size : Int)))))) rfl rfl Opd.t0 (fun hz => Opd.to (Opd.c (bool_q _)) (congrArg (fun t => (pBool t)) (pk_or_t hz))) (fun hz => Opd.to (Opd.gd (bNF hz) (Opd.tl Opd.t0)) (congrArg (fun t => (pBool t)) (pk_or_f hz)))))
        allOT_nil))))))))
      hst hb (fun a g hst hb => ?_)
  refine then_n ?_
  refine wp_cond_split (hst.bool 4 rfl) (fun hc1 => ?_) (fun hc1 => ?_)
  · replace H0 := ite_t hc1 H0
    refine wp_seq ?_
    refine wp_reg follows (N := 80) (L := [(3, (k_moietyref09_Shelf.ptr a0)), (6, (pBox k_moietyref09_Shelf 6 (default : moietyref09_Shelf)))])
        (T := [⟨[.old 0], [(20, (k_moietyref09_Shelf.pd a0))], [], [], [20]⟩,
          ⟨[.op 0 0, .old 1], [(6, (pBox k_moietyref09_Shelf 6 a0))], [7], [0], [6]⟩,
          ⟨[], [(7, (pInt .i64 (1 : Int)))], [], [0, 1], [7]⟩])
        (F := [.op 1 0, .op 2 0]) (by kernel_rfl)
        (allOT_cons (OT.plain rfl (ob_load ty_34 rfl rfl Opd.t0))
          (allOT_cons (OT.plain rfl (ob_store ty_34 rfl rfl (Opd.tl Opd.t0) Opd.t0))
          (allOT_cons (OT.plain rfl (ob_assign rfl rfl (Opd.c (int_q _ _))))
          allOT_nil)))
        (hst.pick [1, 3] rfl) hb (fun a g hst hb => ?_)
    refine then_n ?_
    refine wp_ret ?_
    refine then_r ?_
    obtain rfl := Option.some.inj H0
    obtain ⟨u0, hu0, hq0⟩ := res_box (P := Try.prog) ty_34 (hst.at 0 rfl)
    exact endR2 rfl hst hb hu0 (res_tmp (s := 7)) (pTup_2 hq0 (hst.at 1 rfl))
  · replace H0 := ite_f hc1 H0
    refine wp_skip ?_
    refine then_n ?_
    refine wp_seq ?_
    obtain ⟨r2, h3, H0⟩ := of_bind H0
    refine wp_reg follows (N := 80) (L := [(1, (pStr a1)), (3, (k_moietyref09_Shelf.ptr a0)), (5, (k_api_Record.ptr a2)), (6, (pBox k_moietyref09_Shelf 6 (default : moietyref09_Shelf)))])
        (T := [⟨[.old 2], [(21, (k_api_Record.pd a2))], [], [], [21]⟩,
          ⟨[.op 0 0], [(22, (pInt .i64 r2))], [], [0], [22]⟩,
          ⟨[.op 1 0], [(8, (pInt .i64 r2))], [], [0, 1], [8]⟩])
        (F := [.old 0, .old 1, .old 2, .old 3, .op 2 0]) (by kernel_rfl)
        (allOT_cons (OT.plain rfl (ob_load ty_38 rfl rfl Opd.t0))
          (allOT_cons (OT.plain rfl (ob_call en_45 (moietyref03_Check_ok _ h3) rfl rfl (.cons Opd.t0 .nil)))
          (allOT_cons (OT.plain rfl (ob_assign rfl rfl Opd.t0))
          allOT_nil)))
        (hst.pick [0, 1, 2, 3] rfl) hb (fun a g hst hb => ?_)
    refine then_n ?_
    refine wp_seq ?_
    refine wp_seq ?_
    refine wp_reg follows (N := 80) (L := [(1, (pStr a1)), (3, (k_moietyref09_Shelf.ptr a0)), (5, (k_api_Record.ptr a2)), (6, (pBox k_moietyref09_Shelf 6 (default : moietyref09_Shelf))), (8, (pInt .i64 r2))])
        (T := [⟨[.old 4], [(23, (pInt .i64 r2))], [], [], [23]⟩,
          ⟨[.op 0 0], [(24, (pBool (r2 != (0 : Int))))], [], [0], [24]⟩])
        (F := [.old 0, .old 1, .old 2, .old 3, .old 4, .op 1 0]) (by kernel_rfl)
        (allOT_cons (OT.plain rfl (ob_move rfl rfl Opd.t0))
          (allOT_cons (OT.plain rfl (ob_ne rfl rfl Opd.t0 (Opd.c (int_q _ _))))
          allOT_nil))
        hst hb (fun a g hst hb => ?_)
    refine then_n ?_
    refine wp_cond_split (hst.bool 5 rfl) (fun hc4 => ?_) (fun hc4 => ?_)
    · replace H0 := ite_t hc4 H0
      refine wp_seq ?_
      refine wp_reg follows (N := 80) (L := [(3, (k_moietyref09_Shelf.ptr a0)), (6, (pBox k_moietyref09_Shelf 6 (default : moietyref09_Shelf))), (8, (pInt .i64 r2))])
          (T := [⟨[.old 0], [(25, (k_moietyref09_Shelf.pd a0))], [], [], [25]⟩,
            ⟨[.old 2], [(26, (pInt .i64 r2))], [], [], [26]⟩,
            ⟨[.op 0 0, .old 1], [(6, (pBox k_moietyref09_Shelf 6 a0))], [7], [0], [6]⟩,
            ⟨[.op 1 0], [(7, (pInt .i64 r2))], [], [0, 1, 2], [7]⟩])
          (F := [.op 2 0, .op 3 0]) (by kernel_rfl)
          (allOT_cons (OT.plain rfl (ob_load ty_34 rfl rfl Opd.t0))
            (allOT_cons (OT.plain rfl (ob_move rfl rfl Opd.t0))
            (allOT_cons (OT.plain rfl (ob_store ty_34 rfl rfl (Opd.tl Opd.t0) Opd.t0))
            (allOT_cons (OT.plain rfl (ob_assign rfl rfl Opd.t0))
            allOT_nil))))
          (hst.pick [1, 3, 4] rfl) hb (fun a g hst hb => ?_)
      refine then_n ?_
      refine wp_ret ?_
      refine then_r ?_
      obtain rfl := Option.some.inj H0
      obtain ⟨u0, hu0, hq0⟩ := res_box (P := Try.prog) ty_34 (hst.at 0 rfl)
      exact endR2 rfl hst hb hu0 (res_tmp (s := 7)) (pTup_2 hq0 (hst.at 1 rfl))
    · replace H0 := ite_f hc4 H0
      refine wp_skip ?_
      refine then_n ?_
      refine wp_seq ?_
      obtain ⟨r5, h6, H0⟩ := of_bind H0
      refine wp_reg follows (N := 80) (L := [(1, (pStr a1)), (3, (k_moietyref09_Shelf.ptr a0)), (5, (k_api_Record.ptr a2)), (6, (pBox k_moietyref09_Shelf 6 (default : moietyref09_Shelf)))])
          (T := [⟨[.old 1], [(27, (k_moietyref09_Shelf.pd a0))], [], [], [27]⟩,
            ⟨[.old 0], [(28, (pStr a1))], [], [], [28]⟩,
            ⟨[.op 0 0, .op 1 0], [(29, (pInt .i64 r5))], [], [0, 1], [29]⟩,
            ⟨[.op 2 0], [(9, (pInt .i64 r5))], [], [0, 1, 2], [9]⟩])
          (F := [.old 0, .old 1, .old 2, .old 3, .op 3 0]) (by kernel_rfl)
          (allOT_cons (OT.plain rfl (ob_load ty_34 rfl rfl Opd.t0))
            (allOT_cons (OT.plain rfl (ob_move rfl rfl Opd.t0))
            (allOT_cons (OT.plain rfl (ob_call en_15 (moietyref09_Shelf_Find_ok _ _ h6) rfl rfl (.cons Opd.t0 (.cons (Opd.tl Opd.t0) .nil))))
            (allOT_cons (OT.plain rfl (ob_assign rfl rfl Opd.t0))
            allOT_nil))))
          (hst.pick [0, 1, 2, 3] rfl) hb (fun a g hst hb => ?_)
      refine then_n ?_
      refine wp_seq ?_
      obtain ⟨e7, h8, H0⟩ := of_bind H0
      refine wp_reg follows (N := 80) (L := [(1, (pStr a1)), (3, (k_moietyref09_Shelf.ptr a0)), (5, (k_api_Record.ptr a2)), (6, (pBox k_moietyref09_Shelf 6 (default : moietyref09_Shelf))), (9, (pInt .i64 r5))])
          (T := [⟨[.old 4], [(30, (pInt .i64 r5))], [], [], [30]⟩,
            ⟨[.old 1], [(31, (k_moietyref09_Pair.sl.ptr a0.L))], [], [], [31]⟩,
            ⟨[.op 1 0], [(32, (k_moietyref09_Pair.sl.pd a0.L))], [], [1], [32]⟩,
            ⟨[.op 2 0], [(33, (pInt .i64 (a0.L.length : Int)))], [], [1, 2], [33]⟩,
            ⟨[.op 0 0, .op 3 0], [(34, (pBool (decide (r5 < (a0.L.length : Int)))))], [], [0, 1, 2, 3], [34]⟩,
            ⟨[.op 4 0], [(35, (pBool (decide (r5 < (a0.L.length : Int)))))], [], [0, 1, 2, 3, 4], [35]⟩,
            ⟨[.op 5 0, .old 1], [(36, (pIf (decide (r5 < (a0.L.length : Int))) (k_moietyref09_Pair.sl.ptr a0.L)))], [], [0, 1, 2, 3, 4, 5], [36]⟩,
            ⟨[.op 5 0, .op 6 0], [(37, (pIf (decide (r5 < (a0.L.length : Int))) (k_moietyref09_Pair.sl.pd a0.L)))], [], [0, 1, 2, 3, 4, 5, 6], [37]⟩,
            ⟨[.op 5 0, .old 4], [(38, (pIf (decide (r5 < (a0.L.length : Int))) (pInt .i64 r5)))], [], [0, 1, 2, 3, 4, 5], [38]⟩,
            ⟨[.op 5 0, .op 7 0, .op 8 0], [(39, (pIf (decide (r5 < (a0.L.length : Int))) (k_moietyref09_Pair.ptr e7)))], [], [0, 1, 2, 3, 4, 5, 6, 7, 8], [39]⟩,
            ⟨[.op 5 0, .op 9 0], [(40, (pIf (decide (r5 < (a0.L.length : Int))) (Kd.str.ptr e7.Key)))], [], [0, 1, 2, 3, 4, 5, 6, 7, 8, 9], [40]⟩,
            ⟨[.op 5 0, .op 10 0], [(41, (pIf (decide (r5 < (a0.L.length : Int))) (pStr e7.Key)))], [], [0, 1, 2, 3, 4, 5, 6, 7, 8, 9, 10], [41]⟩,
            ⟨[.op 5 0, .old 0], [(42, (pIf (decide (r5 < (a0.L.length : Int))) (pStr a1)))], [], [0, 1, 2, 3, 4, 5], [42]⟩,
            ⟨[.op 5 0, .op 11 0, .op 12 0], [(43, (pIf (decide (r5 < (a0.L.length : Int))) (pBool (sEq e7.Key a1))))], [], [0, 1, 2, 3, 4, 5, 6, 7, 8, 9, 10, 11, 12], [43]⟩,
            ⟨[.op 5 0, .op 13 0], [(44, (pBool ((decide (r5 < (a0.L.length : Int))) && (sEq e7.Key a1))))], [], [0, 1, 2, 3, 4, 5, 6, 7, 8, 9, 10, 11, 12, 13], [44]⟩,
            ⟨[.op 14 0], [(10, (pBool ((decide (r5 < (a0.L.length : Int))) && (sEq e7.Key a1))))], [], [0, 1, 2, 3, 4, 5, 6, 7, 8, 9, 10, 11, 12, 13, 14], [10]⟩])
          (F := [.old 0, .old 1, .old 2, .old 3, .old 4, .op 15 0]) (by kernel_rfl)
          (allOT_cons (OT.plain rfl (ob_move rfl rfl Opd.t0))
            (allOT_cons (OT.plain rfl (ob_fieldAddr fl_34_0 rfl rfl Opd.t0))
            (allOT_cons (OT.plain rfl (ob_load ty_32 rfl rfl Opd.t0))
            (allOT_cons (OT.plain rfl (ob_lenL Try.underlying32 rfl rfl Opd.t0))
            (allOT_cons (OT.plain rfl (ob_lt rfl rfl Opd.t0 (Opd.tl Opd.t0)))
            (allOT_cons (OT.plain rfl (ob_move rfl rfl Opd.t0))
            (allOT_cons (OT.guard (outs := [(36, (k_moietyref09_Pair.sl.ptr a0.L))]) (decide (r5 < (a0.L.length : Int))) (gT (decide (r5 < (a0.L.length : Int)))).1 (gT (decide (r5 < (a0.L.length : Int)))).2 rfl rfl (fun e he => by rw [List.mem_singleton.1 he]) (fun hG => ob_fieldAddr fl_34_0 rfl rfl Opd.t0))
            (allOT_cons (OT.guard (outs := [(37, (k_moietyref09_Pair.sl.pd a0.L))]) (decide (r5 < (a0.L.length : Int))) (gT (decide (r5 < (a0.L.length : Int)))).1 (gT (decide (r5 < (a0.L.length : Int)))).2 rfl rfl (fun e he => by rw [List.mem_singleton.1 he]) (fun hG => ob_load ty_32 rfl rfl (Opd.gd hG Opd.t0)))
            (allOT_cons (OT.guard (outs := [(38, (pInt .i64 r5))]) (decide (r5 < (a0.L.length : Int))) (gT (decide (r5 < (a0.L.length : Int)))).1 (gT (decide (r5 < (a0.L.length : Int)))).2 rfl rfl (fun e he => by rw [List.mem_singleton.1 he]) (fun hG => ob_move rfl rfl Opd.t0))
            (allOT_cons (OT.guard (outs := [(39, (k_moietyref09_Pair.ptr e7))]) (decide (r5 < (a0.L.length : Int))) (gT (decide (r5 < (a0.L.length : Int)))).1 (gT (decide (r5 < (a0.L.length : Int)))).2 rfl rfl (fun e he => by rw [List.mem_singleton.1 he]) (fun hG => ob_indexAddr Try.underlying32 sz_54 rfl rfl (Opd.gd hG Opd.t0) (Opd.gd hG (Opd.tl Opd.t0)) (gd_true h8 hG)))
            (allOT_cons (OT.guard (outs := [(40, (Kd.str.ptr e7.Key))]) (decide (r5 < (a0.L.length : Int))) (gT (decide (r5 < (a0.L.length : Int)))).1 (gT (decide (r5 < (a0.L.length : Int)))).2 rfl rfl (fun e he => by rw [List.mem_singleton.1 he]) (fun hG => ob_fieldAddr fl_54_0 rfl rfl (Opd.gd hG Opd.t0)))
            (allOT_cons (OT.guard (outs := [(41, (pStr e7.Key))]) (decide (r5 < (a0.L.length : Int))) (gT (decide (r5 < (a0.L.length : Int)))).1 (gT (decide (r5 < (a0.L.length : Int)))).2 rfl rfl (fun e he => by rw [List.mem_singleton.1 he]) (fun hG => ob_load ty_9 rfl rfl (Opd.gd hG Opd.t0)))
            (allOT_cons (OT.guard (outs := [(42, (pStr a1))]) (decide (r5 < (a0.L.length : Int))) (gT (decide (r5 < (a0.L.length : Int)))).1 (gT (decide (r5 < (a0.L.length : Int)))).2 rfl rfl (fun e he => by rw [List.mem_singleton.1 he]) (fun hG => ob_move rfl rfl Opd.t0))
            (allOT_cons (OT.guard (outs := [(43, (pBool (sEq e7.Key a1)))]) (decide (r5 < (a0.L.length : Int))) (gT (decide (r5 < (a0.L.length : Int)))).1 (gT (decide (r5 < (a0.L.length : Int)))).2 rfl rfl (fun e he => by rw [List.mem_singleton.1 he]) (fun hG => ob_seq rfl rfl (Opd.gd hG Opd.t0) (Opd.gd hG (Opd.tl Opd.t0))))
            (allOT_cons (OT.plain rfl (ob_pick (q := (pBool ((decide (r5 < (a0.L.length : Int))) && (sEq e7.Key a1)))) rfl rfl Opd.t0 (fun hz => Opd.to (Opd.gd hz (Opd.tl Opd.t0)) (congrArg (fun t => (pBool t)) (pk_and_t hz))) (fun hz => Opd.to (Opd.c (bool_q _)) (congrArg (fun t => (pBool t)) (pk_and_f hz)))))
            (allOT_cons (OT.plain rfl (ob_assign rfl rfl Opd.t0))
            allOT_nil))))))))))))))))
          hst hb (fun a g hst hb => ?_)
      refine then_n ?_
      refine wp_seq ?_
      refine wp_seq ?_
      refine wp_reg follows (N := 80) (L := [(1, (pStr a1)), (3, (k_moietyref09_Shelf.ptr a0)), (5, (k_api_Record.ptr a2)), (6, (pBox k_moietyref09_Shelf 6 (default : moietyref09_Shelf))), (9, (pInt .i64 r5)), (10, (pBool ((decide (r5 < (a0.L.length : Int))) && (sEq e7.Key a1))))])
          (T := [⟨[.old 5], [(45, (pBool ((decide (r5 < (a0.L.length : Int))) && (sEq e7.Key a1))))], [], [], [45]⟩,
            ⟨[.op 0 0], [(46, (pBool (!((decide (r5 < (a0.L.length : Int))) && (sEq e7.Key a1)))))], [], [0], [46]⟩,
            ⟨[.op 1 0], [(47, (pBool (!((decide (r5 < (a0.L.length : Int))) && (sEq e7.Key a1)))))], [], [0, 1], [47]⟩,
            ⟨[.op 2 0, .old 1], [(48, (pIf (!((decide (r5 < (a0.L.length : Int))) && (sEq e7.Key a1))) (k_moietyref09_Pair.sl.ptr a0.L)))], [], [0, 1, 2], [48]⟩,
            ⟨[.op 2 0, .op 3 0], [(49, (pIf (!((decide (r5 < (a0.L.length : Int))) && (sEq e7.Key a1))) (k_moietyref09_Pair.sl.pd a0.L)))], [], [0, 1, 2, 3], [49]⟩,
            ⟨[.op 2 0, .op 4 0], [(50, (pIf (!((decide (r5 < (a0.L.length : Int))) && (sEq e7.Key a1))) (pInt .i64 (a0.L.length : Int))))], [], [0, 1, 2, 3, 4], [50]⟩,
            ⟨[.op 2 0, .old 1], [(51, (pIf (!((decide (r5 < (a0.L.length : Int))) && (sEq e7.Key a1))) ((Kd.int .i64).ptr a0.Room)))], [], [0, 1, 2], [51]⟩,
            ⟨[.op 2 0, .op 6 0], [(52, (pIf (!((decide (r5 < (a0.L.length : Int))) && (sEq e7.Key a1))) (pInt .i64 a0.Room)))], [], [0, 1, 2, 6], [52]⟩,
            ⟨[.op 2 0, .op 5 0, .op 7 0], [(53, (pIf (!((decide (r5 < (a0.L.length : Int))) && (sEq e7.Key a1))) (pBool (decide (a0.Room ≤ (a0.L.length : Int))))))], [], [0, 1, 2, 3, 4, 5, 6, 7], [53]⟩,
            ⟨[.op 2 0, .op 8 0], [(54, (pBool ((!((decide (r5 < (a0.L.length : Int))) && (sEq e7.Key a1))) && (decide (a0.Room ≤ (a0.L.length : Int))))))], [], [0, 1, 2, 3, 4, 5, 6, 7, 8], [54]⟩])
          (F := [.old 0, .old 1, .old 2, .old 3, .old 4, .old 5, .op 9 0]) (by kernel_rfl)
          (allOT_cons (OT.plain rfl (ob_move rfl rfl Opd.t0))
            (allOT_cons (OT.plain rfl (ob_not rfl rfl Opd.t0))
            (allOT_cons (OT.plain rfl (ob_move rfl rfl Opd.t0))
            (allOT_cons (OT.guard (outs := [(48, (k_moietyref09_Pair.sl.ptr a0.L))]) (!((decide (r5 < (a0.L.length : Int))) && (sEq e7.Key a1))) (gT (!((decide (r5 < (a0.L.length : Int))) && (sEq e7.Key a1)))).1 (gT (!((decide (r5 < (a0.L.length : Int))) && (sEq e7.Key a1)))).2 rfl rfl (fun e he => by rw [List.mem_singleton.1 he]) (fun hG => ob_fieldAddr fl_34_0 rfl rfl Opd.t0))
            (allOT_cons (OT.guard (outs := [(49, (k_moietyref09_Pair.sl.pd a0.L))]) (!((decide (r5 < (a0.L.length : Int))) && (sEq e7.Key a1))) (gT (!((decide (r5 < (a0.L.length : Int))) && (sEq e7.Key a1)))).1 (gT (!((decide (r5 < (a0.L.length : Int))) && (sEq e7.Key a1)))).2 rfl rfl (fun e he => by rw [List.mem_singleton.1 he]) (fun hG => ob_load ty_32 rfl rfl (Opd.gd hG Opd.t0)))
            (allOT_cons (OT.guard (outs := [(50, (pInt .i64 (a0.L.length : Int)))]) (!((decide (r5 < (a0.L.length : Int))) && (sEq e7.Key a1))) (gT (!((decide (r5 < (a0.L.length : Int))) && (sEq e7.Key a1)))).1 (gT (!((decide (r5 < (a0.L.length : Int))) && (sEq e7.Key a1)))).2 rfl rfl (fun e he => by rw [List.mem_singleton.1 he]) (fun hG => ob_lenL Try.underlying32 rfl rfl (Opd.gd hG Opd.t0)))
            (allOT_cons (OT.guard (outs := [(51, ((Kd.int .i64).ptr a0.Room))]) (!((decide (r5 < (a0.L.length : Int))) && (sEq e7.Key a1))) (gT (!((decide (r5 < (a0.L.length : Int))) && (sEq e7.Key a1)))).1 (gT (!((decide (r5 < (a0.L.length : Int))) && (sEq e7.Key a1)))).2 rfl rfl (fun e he => by rw [List.mem_singleton.1 he]) (fun hG => ob_fieldAddr fl_34_1 rfl rfl Opd.t0))
            (allOT_cons (OT.guard (outs := [(52, (pInt .i64 a0.Room))]) (!((decide (r5 < (a0.L.length : Int))) && (sEq e7.Key a1))) (gT (!((decide (r5 < (a0.L.length : Int))) && (sEq e7.Key a1)))).1 (gT (!((decide (r5 < (a0.L.length : Int))) && (sEq e7.Key a1)))).2 rfl rfl (fun e he => by rw [List.mem_singleton.1 he]) (fun hG => ob_load ty_3 rfl rfl (Opd.gd hG Opd.t0)))
            (allOT_cons (OT.guard (outs := [(53, (pBool (decide (a0.Room ≤ (a0.L.length : Int)))))]) (!((decide (r5 < (a0.L.length : Int))) && (sEq e7.Key a1))) (gT (!((decide (r5 < (a0.L.length : Int))) && (sEq e7.Key a1)))).1 (gT (!((decide (r5 < (a0.L.length : Int))) && (sEq e7.Key a1)))).2 rfl rfl (fun e he => by rw [List.mem_singleton.1 he]) (fun hG => ob_ge rfl rfl (Opd.gd hG Opd.t0) (Opd.gd hG (Opd.tl Opd.t0))))
            (allOT_cons (OT.plain rfl (ob_pick (q := (pBool ((!((decide (r5 < (a0.L.length : Int))) && (sEq e7.Key a1))) && (decide (a0.Room ≤ (a0.L.length : Int)))))) rfl rfl Opd.t0 (fun hz => Opd.to (Opd.gd hz (Opd.tl Opd.t0)) (congrArg (fun t => (pBool t)) (pk_and_t hz))) (fun hz => Opd.to (Opd.c (bool_q _)) (congrArg (fun t => (pBool t)) (pk_and_f hz)))))
            allOT_nil))))))))))
          hst hb (fun a g hst hb => ?_)
      refine then_n ?_
      refine wp_cond_split (hst.bool 6 rfl) (fun hc9 => ?_) (fun hc9 => ?_)
      · replace H0 := ite_t hc9 H0
        refine wp_seq ?_
        refine wp_reg follows (N := 80) (L := [(3, (k_moietyref09_Shelf.ptr a0)), (6, (pBox k_moietyref09_Shelf 6 (default : moietyref09_Shelf)))])
            (T := [⟨[.old 0], [(55, (k_moietyref09_Shelf.pd a0))], [], [], [55]⟩,
              ⟨[.op 0 0, .old 1], [(6, (pBox k_moietyref09_Shelf 6 a0))], [7], [0], [6]⟩,
              ⟨[], [(7, (pInt .i64 (8 : Int)))], [], [0, 1], [7]⟩])
            (F := [.op 1 0, .op 2 0]) (by kernel_rfl)
            (allOT_cons (OT.plain rfl (ob_load ty_34 rfl rfl Opd.t0))
              (allOT_cons (OT.plain rfl (ob_store ty_34 rfl rfl (Opd.tl Opd.t0) Opd.t0))
              (allOT_cons (OT.plain rfl (ob_assign rfl rfl (Opd.c (int_q _ _))))
              allOT_nil)))
            (hst.pick [1, 3] rfl) hb (fun a g hst hb => ?_)
        refine then_n ?_
        refine wp_ret ?_
        refine then_r ?_
        obtain rfl := Option.some.inj H0
        obtain ⟨u0, hu0, hq0⟩ := res_box (P := Try.prog) ty_34 (hst.at 0 rfl)
        exact endR2 rfl hst hb hu0 (res_tmp (s := 7)) (pTup_2 hq0 (hst.at 1 rfl))
      · replace H0 := ite_f hc9 H0
        refine wp_skip ?_
        refine then_n ?_
        refine wp_seq ?_
        obtain ⟨c10, h11, H0⟩ := of_bind H0
        obtain ⟨h12, H0⟩ := of_ite H0
        refine wp_reg follows (N := 80) (L := [(1, (pStr a1)), (3, (k_moietyref09_Shelf.ptr a0)), (5, (k_api_Record.ptr a2)), (6, (pBox k_moietyref09_Shelf 6 (default : moietyref09_Shelf))), (9, (pInt .i64 r5)), (10, (pBool ((decide (r5 < (a0.L.length : Int))) && (sEq e7.Key a1))))])
            (T := [⟨[], [(56, (pRow k_moietyref09_Pair 54 56 ([] : List moietyref09_Pair)))], [57], [], [56]⟩,
              ⟨[.old 1], [(57, (k_moietyref09_Pair.sl.ptr a0.L))], [], [], [57]⟩,
              ⟨[.op 1 0], [(58, (k_moietyref09_Pair.sl.pd a0.L))], [], [1], [58]⟩,
              ⟨[.old 4], [(59, (pInt .i64 r5))], [], [], [59]⟩,
              ⟨[.op 2 0, .op 3 0], [(60, (k_moietyref09_Pair.sl.pd c10))], [], [1, 2, 3], [60]⟩,
              ⟨[.op 0 0, .op 4 0], [(61, (pRow k_moietyref09_Pair 54 56 (([] : List moietyref09_Pair) ++ c10)))], [57], [0, 1, 2, 3, 4], [56, 61]⟩,
              ⟨[.op 5 0], [(11, (pRow k_moietyref09_Pair 54 56 (([] : List moietyref09_Pair) ++ c10)))], [], [0, 1, 2, 3, 4, 5], [11]⟩])
            (F := [.old 0, .old 1, .old 2, .old 3, .old 4, .old 5, .op 6 0]) (by kernel_rfl)
            (allOT_cons (OT.plain rfl (ob_litRow 56 te_32 (xs := []) .nil (by decide) rfl rfl))
              (allOT_cons (OT.plain rfl (ob_fieldAddr fl_34_0 rfl rfl Opd.t0))
              (allOT_cons (OT.plain rfl (ob_load ty_32 rfl rfl Opd.t0))
              (allOT_cons (OT.plain rfl (ob_move rfl rfl Opd.t0))
              (allOT_cons (OT.plain rfl (ob_cutH Try.underlying32 sz_54 rfl rfl Opd.t0 (Opd.tl Opd.t0) h11))
              (allOT_cons (OT.plain rfl (ob_append te_32 rfl rfl Opd.t0 (Opd.tl Opd.t0) h12))
              (allOT_cons (OT.plain rfl (ob_assign rfl rfl Opd.t0))
              allOT_nil)))))))
            (hst.pick [0, 1, 2, 3, 4, 5] rfl) hb (fun a g hst hb => ?_)
        refine then_n ?_
        refine wp_seq ?_
        obtain ⟨h13, H0⟩ := of_ite H0
        refine wp_reg follows (N := 80) (L := [(1, (pStr a1)), (3, (k_moietyref09_Shelf.ptr a0)), (5, (k_api_Record.ptr a2)), (6, (pBox k_moietyref09_Shelf 6 (default : moietyref09_Shelf))), (9, (pInt .i64 r5)), (10, (pBool ((decide (r5 < (a0.L.length : Int))) && (sEq e7.Key a1)))), (11, (pRow k_moietyref09_Pair 54 56 (([] : List moietyref09_Pair) ++ c10)))])
            (T := [⟨[.old 6], [(62, (pRow k_moietyref09_Pair 54 56 (([] : List moietyref09_Pair) ++ c10)))], [], [], [62]⟩,
              ⟨[.old 0], [(63, (pStr a1))], [], [], [63]⟩,
              ⟨[.old 2], [(64, (k_api_Record.pd a2))], [], [], [64]⟩,
              ⟨[.op 1 0, .op 2 0], [(65, (k_moietyref09_Pair.pd ({ Key := a1, Rec := a2 } : moietyref09_Pair)))], [], [1, 2], [65]⟩,
              ⟨[.op 3 0], [(66, (k_moietyref09_Pair.sl.pd ([({ Key := a1, Rec := a2 } : moietyref09_Pair)] : List moietyref09_Pair)))], [], [1, 2, 3], [66]⟩,
              ⟨[.op 0 0, .op 4 0], [(67, (pRow k_moietyref09_Pair 54 56 ((([] : List moietyref09_Pair) ++ c10) ++ ([({ Key := a1, Rec := a2 } : moietyref09_Pair)] : List moietyref09_Pair))))], [57], [0, 1, 2, 3, 4], [11, 62, 67]⟩,
              ⟨[.op 5 0], [(11, (pRow k_moietyref09_Pair 54 56 ((([] : List moietyref09_Pair) ++ c10) ++ ([({ Key := a1, Rec := a2 } : moietyref09_Pair)] : List moietyref09_Pair))))], [], [0, 1, 2, 3, 4, 5], [11]⟩])
            (F := [.old 1, .old 3, .old 4, .old 5, .op 6 0]) (by kernel_rfl)
            (allOT_cons (OT.plain rfl (ob_move rfl rfl Opd.t0))
              (allOT_cons (OT.plain rfl (ob_move rfl rfl Opd.t0))
              (allOT_cons (OT.plain rfl (ob_load ty_38 rfl rfl Opd.t0))
              (allOT_cons (OT.plain rfl (bd_54_0_1 rfl rfl Opd.t0 (Opd.tl Opd.t0)))
              (allOT_cons (OT.plain rfl (ob_lit te_32 (xs := [.tmp 65]) (.cons Opd.t0 .nil) (by decide) rfl rfl))
              (allOT_cons (OT.plain rfl (ob_append te_32 rfl rfl Opd.t0 (Opd.tl Opd.t0) h13))
              (allOT_cons (OT.plain rfl (ob_assign rfl rfl Opd.t0))
              allOT_nil)))))))
            hst hb (fun a g hst hb => ?_)
        refine then_n ?_
        refine wp_seq ?_
        refine wp_seq ?_
        refine wp_reg follows (N := 80) (L := [(3, (k_moietyref09_Shelf.ptr a0)), (6, (pBox k_moietyref09_Shelf 6 (default : moietyref09_Shelf))), (9, (pInt .i64 r5)), (10, (pBool ((decide (r5 < (a0.L.length : Int))) && (sEq e7.Key a1)))), (11, (pRow k_moietyref09_Pair 54 56 ((([] : List moietyref09_Pair) ++ c10) ++ ([({ Key := a1, Rec := a2 } : moietyref09_Pair)] : List moietyref09_Pair))))])
            (T := [⟨[.old 3], [(68, (pBool ((decide (r5 < (a0.L.length : Int))) && (sEq e7.Key a1))))], [], [], [68]⟩])
            (F := [.old 0, .old 1, .old 2, .old 4, .op 0 0]) (by kernel_rfl)
            (allOT_cons (OT.plain rfl (ob_move rfl rfl Opd.t0))
              allOT_nil)
            hst hb (fun a g hst hb => ?_)
        refine then_n ?_
        refine wp_cut (fun a w => ∃ (j15 : Int) (g : G), w = g.w ∧ St 80 [(3, (k_moietyref09_Shelf.ptr a0)), (6, (pBox k_moietyref09_Shelf 6 (default : moietyref09_Shelf))), (9, (pInt .i64 j15)), (11, (pRow k_moietyref09_Pair 54 56 ((([] : List moietyref09_Pair) ++ c10) ++ ([({ Key := a1, Rec := a2 } : moietyref09_Pair)] : List moietyref09_Pair))))] a g ∧ Base g0 g ∧ moietyref09_Shelf_Set_j1 a0 a1 a2 c10 j15 = some r) ?_ ?_
        · rintro a w ⟨j15, g, rfl, hst, hb, H0⟩
          unfold moietyref09_Shelf_Set_j1 at H0
          refine then_n ?_
          refine wp_seq ?_
          obtain ⟨c16, h17, H0⟩ := of_bind H0
          obtain ⟨h18, H0⟩ := of_ite H0
          refine wp_reg follows (N := 80) (L := [(3, (k_moietyref09_Shelf.ptr a0)), (6, (pBox k_moietyref09_Shelf 6 (default : moietyref09_Shelf))), (9, (pInt .i64 j15)), (11, (pRow k_moietyref09_Pair 54 56 ((([] : List moietyref09_Pair) ++ c10) ++ ([({ Key := a1, Rec := a2 } : moietyref09_Pair)] : List moietyref09_Pair))))])
              (T := [⟨[.old 3], [(71, (pRow k_moietyref09_Pair 54 56 ((([] : List moietyref09_Pair) ++ c10) ++ ([({ Key := a1, Rec := a2 } : moietyref09_Pair)] : List moietyref09_Pair))))], [], [], [71]⟩,
                ⟨[.old 0], [(72, (k_moietyref09_Pair.sl.ptr a0.L))], [], [], [72]⟩,
                ⟨[.op 1 0], [(73, (k_moietyref09_Pair.sl.pd a0.L))], [], [1], [73]⟩,
                ⟨[.old 2], [(74, (pInt .i64 j15))], [], [], [74]⟩,
                ⟨[.op 2 0, .op 3 0], [(75, (k_moietyref09_Pair.sl.pd c16))], [], [1, 2, 3], [75]⟩,
                ⟨[.op 0 0, .op 4 0], [(76, (pRow k_moietyref09_Pair 54 56 (((([] : List moietyref09_Pair) ++ c10) ++ ([({ Key := a1, Rec := a2 } : moietyref09_Pair)] : List moietyref09_Pair)) ++ c16)))], [57], [0, 1, 2, 3, 4], [11, 71, 76]⟩,
                ⟨[.old 0], [(77, ((Kd.int .i64).ptr a0.Room))], [], [], [77]⟩,
                ⟨[.op 6 0], [(78, (pInt .i64 a0.Room))], [], [6], [78]⟩,
                ⟨[.op 5 0, .op 7 0], [(79, (k_moietyref09_Shelf.pd ({ L := (((([] : List moietyref09_Pair) ++ c10) ++ ([({ Key := a1, Rec := a2 } : moietyref09_Pair)] : List moietyref09_Pair)) ++ c16), Room := a0.Room } : moietyref09_Shelf)))], [], [0, 1, 2, 3, 4, 5, 6, 7], [79]⟩,
                ⟨[.op 8 0, .old 1], [(6, (pBox k_moietyref09_Shelf 6 ({ L := (((([] : List moietyref09_Pair) ++ c10) ++ ([({ Key := a1, Rec := a2 } : moietyref09_Pair)] : List moietyref09_Pair)) ++ c16), Room := a0.Room } : moietyref09_Shelf)))], [7], [0, 1, 2, 3, 4, 5, 6, 7, 8], [6]⟩,
                ⟨[], [(7, (pInt .i64 (0 : Int)))], [], [0, 1, 2, 3, 4, 5, 6, 7, 8, 9], [7]⟩])
              (F := [.op 9 0, .op 10 0]) (by kernel_rfl)
              (allOT_cons (OT.plain rfl (ob_move rfl rfl Opd.t0))
                (allOT_cons (OT.plain rfl (ob_fieldAddr fl_34_0 rfl rfl Opd.t0))
                (allOT_cons (OT.plain rfl (ob_load ty_32 rfl rfl Opd.t0))
                (allOT_cons (OT.plain rfl (ob_move rfl rfl Opd.t0))
                (allOT_cons (OT.plain rfl (ob_cutL Try.underlying32 sz_54 rfl rfl Opd.t0 (Opd.tl Opd.t0) h17))
                (allOT_cons (OT.plain rfl (ob_append te_32 rfl rfl Opd.t0 (Opd.tl Opd.t0) h18))
                (allOT_cons (OT.plain rfl (ob_fieldAddr fl_34_1 rfl rfl Opd.t0))
                (allOT_cons (OT.plain rfl (ob_load ty_3 rfl rfl Opd.t0))
                (allOT_cons (OT.plain rfl (bd_34_0_1 rfl rfl (Opd.imp Opd.t0 (fun _ _ h => pRow_read h)) (Opd.tl Opd.t0)))
                (allOT_cons (OT.plain rfl (ob_store ty_34 rfl rfl (Opd.tl Opd.t0) Opd.t0))
                (allOT_cons (OT.plain rfl (ob_assign rfl rfl (Opd.c (int_q _ _))))
                allOT_nil)))))))))))
              hst hb (fun a g hst hb => ?_)
          refine then_n ?_
          refine wp_ret ?_
          obtain rfl := Option.some.inj H0
          obtain ⟨u0, hu0, hq0⟩ := res_box (P := Try.prog) ty_34 (hst.at 0 rfl)
          exact endR2 rfl hst hb hu0 (res_tmp (s := 7)) (pTup_2 hq0 (hst.at 1 rfl))
        · refine wp_cond_split (hst.bool 4 rfl) (fun hc14 => ?_) (fun hc14 => ?_)
          · replace H0 := ite_t hc14 H0
            refine wp_reg follows (N := 80) (L := [(3, (k_moietyref09_Shelf.ptr a0)), (6, (pBox k_moietyref09_Shelf 6 (default : moietyref09_Shelf))), (9, (pInt .i64 r5)), (11, (pRow k_moietyref09_Pair 54 56 ((([] : List moietyref09_Pair) ++ c10) ++ ([({ Key := a1, Rec := a2 } : moietyref09_Pair)] : List moietyref09_Pair))))])
                (T := [⟨[.old 2], [(69, (pInt .i64 r5))], [], [], [69]⟩,
                  ⟨[.op 0 0], [(70, (pInt .i64 (IntKind.i64.wrap (r5 + (1 : Int)))))], [], [0], [70]⟩,
                  ⟨[.op 1 0], [(9, (pInt .i64 (IntKind.i64.wrap (r5 + (1 : Int)))))], [], [0, 1], [9]⟩])
                (F := [.old 0, .old 1, .op 2 0, .old 3]) (by kernel_rfl)
                (allOT_cons (OT.plain rfl (ob_move rfl rfl Opd.t0))
                  (allOT_cons (OT.plain rfl (ob_add rfl rfl Opd.t0 (Opd.c (int_q _ _)) rfl))
                  (allOT_cons (OT.plain rfl (ob_assign rfl rfl Opd.t0))
                  allOT_nil)))
                (hst.pick [0, 1, 2, 3] rfl) hb (fun a g hst hb => ?_)
            exact ⟨(IntKind.i64.wrap (r5 + (1 : Int))), g, rfl, (hst.pick [0, 1, 2, 3] rfl), hb, H0⟩
          · replace H0 := ite_f hc14 H0
            refine wp_skip ?_
            exact ⟨r5, g, rfl, (hst.pick [0, 1, 2, 3] rfl), hb, H0⟩
end Go.CL

set_option linter.unusedVariables false
set_option linter.unusedSimpArgs false
set_option maxRecDepth 100000
namespace Go.CL
open Go Go.RowKit Go.Proofs
theorem moietylaw09_do_ok (a0 : shelf_Shelf) (a1 : moietyref09_Shelf) (a2 : moietylaw09_Op) {r : shelf_Shelf × moietyref09_Shelf × Bool} (h : moietylaw09_do a0 a1 a2 = some r) : FnOk Try.prog 11 [(k_shelf_Shelf.pd a0), (k_moietyref09_Shelf.pd a1), (k_moietylaw09_Op.pd a2)] (pTup [(k_shelf_Shelf.pd r.1), (k_moietyref09_Shelf.pd r.2.1), (pBool r.2.2)]) := by
  have H0 := h
  unfold moietylaw09_do at H0
  clear h
  refine fn_ok (N := 61) Try.func11 rfl rfl (Nat.le_of_ble_eq_true rfl) rfl rfl (fun a g0 hst hb => ?_)
  refine wp_seq ?_
  refine wp_reg follows (N := 61) (L := [(0, (k_shelf_Shelf.pd a0)), (1, (k_moietyref09_Shelf.pd a1)), (2, (k_moietylaw09_Op.pd a2))])
      (T := [⟨[.old 0], [(3, (k_shelf_Shelf.ptr a0))], [], [], [3]⟩,
        ⟨[.old 1], [(4, (k_moietyref09_Shelf.ptr a1))], [], [], [4]⟩,
        ⟨[.old 2], [(5, (k_moietylaw09_Op.ptr a2))], [], [], [5]⟩,
        ⟨[], [(6, (pBox k_shelf_Shelf 6 (default : shelf_Shelf)))], [7], [], [6]⟩,
        ⟨[], [(7, (pBox k_moietyref09_Shelf 7 (default : moietyref09_Shelf)))], [8], [], [7]⟩,
        ⟨[], [(8, (pBool false))], [], [], [8]⟩])
      (F := [.op 0 0, .op 1 0, .op 2 0, .op 3 0, .op 4 0]) (by kernel_rfl)
      (allOT_cons (OT.plain rfl (ob_box1 rfl rfl Opd.t0))
        (allOT_cons (OT.plain rfl (ob_box1 rfl rfl Opd.t0))
        (allOT_cons (OT.plain rfl (ob_box1 rfl rfl Opd.t0))
        (allOT_cons (OT.plain rfl (ob_alloc (zs := [.pointer none, .int .i64 0]) (by kernel_rfl) (fun g => zk_shelf_Shelf g) rfl rfl))
        (allOT_cons (OT.plain rfl (ob_alloc (zs := [.slice none 0 0, .int .i64 0]) (by kernel_rfl) (fun g => zk_moietyref09_Shelf g) rfl rfl))
        (allOT_cons (OT.plain rfl (ob_assign rfl rfl (Opd.c (bool_q _))))
        allOT_nil))))))
      hst hb (fun a g hst hb => ?_)
  refine then_n ?_
  refine wp_seq ?_
  refine wp_seq ?_
  refine wp_reg follows (N := 61) (L := [(3, (k_shelf_Shelf.ptr a0)), (4, (k_moietyref09_Shelf.ptr a1)), (5, (k_moietylaw09_Op.ptr a2)), (6, (pBox k_shelf_Shelf 6 (default : shelf_Shelf))), (7, (pBox k_moietyref09_Shelf 7 (default : moietyref09_Shelf)))])
      (T := [⟨[.old 2], [(17, (Kd.bool.ptr a2.Cut))], [], [], [17]⟩,
        ⟨[.op 0 0], [(18, (pBool a2.Cut))], [], [0], [18]⟩])
      (F := [.old 0, .old 1, .old 2, .old 3, .old 4, .op 1 0]) (by kernel_rfl)
      (allOT_cons (OT.plain rfl (ob_fieldAddr fl_40_0 rfl rfl Opd.t0))
        (allOT_cons (OT.plain rfl (ob_load ty_4 rfl rfl Opd.t0))
        allOT_nil))
      hst hb (fun a g hst hb => ?_)
  refine then_n ?_
  refine wp_cond_split (hst.bool 5 rfl) (fun hc1 => ?_) (fun hc1 => ?_)
  · replace H0 := ite_t hc1 H0
    refine wp_seq ?_
    obtain ⟨r2, h3, H0⟩ := of_bind H0
    refine wp_reg follows (N := 61) (L := [(3, (k_shelf_Shelf.ptr a0)), (4, (k_moietyref09_Shelf.ptr a1)), (5, (k_moietylaw09_Op.ptr a2)), (6, (pBox k_shelf_Shelf 6 (default : shelf_Shelf))), (7, (pBox k_moietyref09_Shelf 7 (default : moietyref09_Shelf)))])
        (T := [⟨[.old 0], [(20, (k_shelf_Shelf.pd a0))], [], [], [20]⟩,
          ⟨[.old 2], [(21, (Kd.str.ptr a2.Key))], [], [], [21]⟩,
          ⟨[.op 1 0], [(22, (pStr a2.Key))], [], [1], [22]⟩,
          ⟨[.op 0 0, .op 2 0], [(23, (pTup [(k_shelf_Shelf.pd r2.1), (pBool r2.2)]))], [], [0, 1, 2], [23]⟩,
          ⟨[.op 3 0], [(19, (pTup [(k_shelf_Shelf.pd r2.1), (pBool r2.2)]))], [], [0, 1, 2, 3], [19]⟩,
          ⟨[.op 4 0], [(24, (k_shelf_Shelf.pd r2.1))], [], [0, 1, 2, 3, 4], [24]⟩,
          ⟨[.op 4 0], [(25, (pBool r2.2))], [], [0, 1, 2, 3, 4], [25]⟩,
          ⟨[], [(9, (pBox k_shelf_Shelf 9 (default : shelf_Shelf)))], [10], [], [9]⟩,
          ⟨[.op 5 0, .op 7 0], [(9, (k_shelf_Shelf.ptr r2.1))], [10], [0, 1, 2, 3, 4, 5, 7], [9]⟩,
          ⟨[.op 6 0], [(10, (pBool r2.2))], [], [0, 1, 2, 3, 4, 5, 6, 7, 8], [10]⟩])
        (F := [.old 1, .old 2, .old 3, .old 4, .op 8 0, .op 9 0]) (by kernel_rfl)
        (allOT_cons (OT.plain rfl (ob_load ty_28 rfl rfl Opd.t0))
          (allOT_cons (OT.plain rfl (ob_fieldAddr fl_40_1 rfl rfl Opd.t0))
          (allOT_cons (OT.plain rfl (ob_load ty_9 rfl rfl Opd.t0))
          (allOT_cons (OT.plain rfl (ob_call en_26 (shelf_Shelf_Cut_ok _ _ h3) rfl rfl (.cons Opd.t0 (.cons (Opd.tl Opd.t0) .nil))))
          (allOT_cons (OT.plain rfl (ob_move rfl rfl Opd.t0))
          (allOT_cons (OT.plain rfl (ob_extract rfl rfl Opd.t0 rfl))
          (allOT_cons (OT.plain rfl (ob_extract rfl rfl Opd.t0 rfl))
          (allOT_cons (OT.plain rfl (ob_alloc (zs := [.pointer none, .int .i64 0]) (by kernel_rfl) (fun g => zk_shelf_Shelf g) rfl rfl))
          (allOT_cons (OT.plain rfl (ob_storeF ty_28 rfl rfl (Opd.tl Opd.t0) Opd.t0))
          (allOT_cons (OT.plain rfl (ob_assign rfl rfl Opd.t0))
          allOT_nil))))))))))
        (hst.pick [0, 1, 2, 3, 4] rfl) hb (fun a g hst hb => ?_)
    refine then_n ?_
    refine wp_seq ?_
    obtain ⟨r4, h5, H0⟩ := of_bind H0
    refine wp_reg follows (N := 61) (L := [(4, (k_moietyref09_Shelf.ptr a1)), (5, (k_moietylaw09_Op.ptr a2)), (6, (pBox k_shelf_Shelf 6 (default : shelf_Shelf))), (7, (pBox k_moietyref09_Shelf 7 (default : moietyref09_Shelf))), (9, (k_shelf_Shelf.ptr r2.1)), (10, (pBool r2.2))])
        (T := [⟨[.old 0], [(27, (k_moietyref09_Shelf.pd a1))], [], [], [27]⟩,
          ⟨[.old 1], [(28, (Kd.str.ptr a2.Key))], [], [], [28]⟩,
          ⟨[.op 1 0], [(29, (pStr a2.Key))], [], [1], [29]⟩,
          ⟨[.op 0 0, .op 2 0], [(30, (pTup [(k_moietyref09_Shelf.pd r4.1), (pBool r4.2)]))], [], [0, 1, 2], [30]⟩,
          ⟨[.op 3 0], [(26, (pTup [(k_moietyref09_Shelf.pd r4.1), (pBool r4.2)]))], [], [0, 1, 2, 3], [26]⟩,
          ⟨[.op 4 0], [(31, (k_moietyref09_Shelf.pd r4.1))], [], [0, 1, 2, 3, 4], [31]⟩,
          ⟨[.op 4 0], [(32, (pBool r4.2))], [], [0, 1, 2, 3, 4], [32]⟩,
          ⟨[], [(11, (pBox k_moietyref09_Shelf 11 (default : moietyref09_Shelf)))], [12], [], [11]⟩,
          ⟨[.op 5 0, .op 7 0], [(11, (k_moietyref09_Shelf.ptr r4.1))], [12], [0, 1, 2, 3, 4, 5, 7], [11]⟩,
          ⟨[.op 6 0], [(12, (pBool r4.2))], [], [0, 1, 2, 3, 4, 5, 6, 7, 8], [12]⟩])
        (F := [.old 2, .old 3, .old 4, .old 5, .op 8 0, .op 9 0]) (by kernel_rfl)
        (allOT_cons (OT.plain rfl (ob_load ty_34 rfl rfl Opd.t0))
          (allOT_cons (OT.plain rfl (ob_fieldAddr fl_40_1 rfl rfl Opd.t0))
          (allOT_cons (OT.plain rfl (ob_load ty_9 rfl rfl Opd.t0))
          (allOT_cons (OT.plain rfl (ob_call en_31 (moietyref09_Shelf_Cut_ok _ _ h5) rfl rfl (.cons Opd.t0 (.cons (Opd.tl Opd.t0) .nil))))
          (allOT_cons (OT.plain rfl (ob_move rfl rfl Opd.t0))
          (allOT_cons (OT.plain rfl (ob_extract rfl rfl Opd.t0 rfl))
          (allOT_cons (OT.plain rfl (ob_extract rfl rfl Opd.t0 rfl))
          (allOT_cons (OT.plain rfl (ob_alloc (zs := [.slice none 0 0, .int .i64 0]) (by kernel_rfl) (fun g => zk_moietyref09_Shelf g) rfl rfl))
          (allOT_cons (OT.plain rfl (ob_storeF ty_34 rfl rfl (Opd.tl Opd.t0) Opd.t0))
          (allOT_cons (OT.plain rfl (ob_assign rfl rfl Opd.t0))
          allOT_nil))))))))))
        hst hb (fun a g hst hb => ?_)
    refine then_n ?_
    refine wp_seq ?_
    refine wp_reg follows (N := 61) (L := [(6, (pBox k_shelf_Shelf 6 (default : shelf_Shelf))), (7, (pBox k_moietyref09_Shelf 7 (default : moietyref09_Shelf))), (9, (k_shelf_Shelf.ptr r2.1)), (10, (pBool r2.2)), (11, (k_moietyref09_Shelf.ptr r4.1)), (12, (pBool r4.2))])
        (T := [⟨[.old 2], [(33, (k_shelf_Shelf.pd r2.1))], [], [], [33]⟩,
          ⟨[.old 4], [(34, (k_moietyref09_Shelf.pd r4.1))], [], [], [34]⟩,
          ⟨[.old 3], [(35, (pBool r2.2))], [], [], [35]⟩,
          ⟨[.old 5], [(36, (pBool r4.2))], [], [], [36]⟩,
          ⟨[.op 2 0, .op 3 0], [(37, (pBool (r2.2 == r4.2)))], [], [2, 3], [37]⟩,
          ⟨[.op 0 0, .old 0], [(6, (pBox k_shelf_Shelf 6 r2.1))], [7], [0], [6]⟩,
          ⟨[.op 1 0, .old 1], [(7, (pBox k_moietyref09_Shelf 7 r4.1))], [8], [0, 1, 5], [7]⟩,
          ⟨[.op 4 0], [(8, (pBool (r2.2 == r4.2)))], [], [0, 1, 2, 3, 4, 5, 6], [8]⟩])
        (F := [.op 5 0, .op 6 0, .op 7 0]) (by kernel_rfl)
        (allOT_cons (OT.plain rfl (ob_load ty_28 rfl rfl Opd.t0))
          (allOT_cons (OT.plain rfl (ob_load ty_34 rfl rfl Opd.t0))
          (allOT_cons (OT.plain rfl (ob_move rfl rfl Opd.t0))
          (allOT_cons (OT.plain rfl (ob_move rfl rfl Opd.t0))
          (allOT_cons (OT.plain rfl (ob_beql Try.underlying4 rfl rfl Opd.t0 (Opd.tl Opd.t0)))
          (allOT_cons (OT.plain rfl (ob_store ty_28 rfl rfl (Opd.tl Opd.t0) Opd.t0))
          (allOT_cons (OT.plain rfl (ob_store ty_34 rfl rfl (Opd.tl Opd.t0) Opd.t0))
          (allOT_cons (OT.plain rfl (ob_assign rfl rfl Opd.t0))
          allOT_nil))))))))
        hst hb (fun a g hst hb => ?_)
    refine then_n ?_
    refine wp_ret ?_
    refine then_r ?_
    obtain rfl := Option.some.inj H0
    obtain ⟨u0, hu0, hq0⟩ := res_box (P := Try.prog) ty_28 (hst.at 0 rfl)
    obtain ⟨u1, hu1, hq1⟩ := res_box (P := Try.prog) ty_34 (hst.at 1 rfl)
    exact endR3 rfl hst hb hu0 hu1 (res_tmp (s := 8)) (pTup_3 hq0 hq1 (hst.at 2 rfl))
  · replace H0 := ite_f hc1 H0
    refine wp_skip ?_
    refine then_n ?_
    refine wp_seq ?_
    obtain ⟨r6, h7, H0⟩ := of_bind H0
    refine wp_reg follows (N := 61) (L := [(3, (k_shelf_Shelf.ptr a0)), (4, (k_moietyref09_Shelf.ptr a1)), (5, (k_moietylaw09_Op.ptr a2)), (6, (pBox k_shelf_Shelf 6 (default : shelf_Shelf))), (7, (pBox k_moietyref09_Shelf 7 (default : moietyref09_Shelf)))])
        (T := [⟨[.old 0], [(39, (k_shelf_Shelf.pd a0))], [], [], [39]⟩,
          ⟨[.old 2], [(40, (Kd.str.ptr a2.Key))], [], [], [40]⟩,
          ⟨[.op 1 0], [(41, (pStr a2.Key))], [], [1], [41]⟩,
          ⟨[.old 2], [(42, (k_api_Record.ptr a2.Rec))], [], [], [42]⟩,
          ⟨[.op 3 0], [(43, (k_api_Record.pd a2.Rec))], [], [3], [43]⟩,
          ⟨[.op 0 0, .op 2 0, .op 4 0], [(44, (pTup [(k_shelf_Shelf.pd r6.1), (pInt .i64 r6.2)]))], [], [0, 1, 2, 3, 4], [44]⟩,
          ⟨[.op 5 0], [(38, (pTup [(k_shelf_Shelf.pd r6.1), (pInt .i64 r6.2)]))], [], [0, 1, 2, 3, 4, 5], [38]⟩,
          ⟨[.op 6 0], [(45, (k_shelf_Shelf.pd r6.1))], [], [0, 1, 2, 3, 4, 5, 6], [45]⟩,
          ⟨[.op 6 0], [(46, (pInt .i64 r6.2))], [], [0, 1, 2, 3, 4, 5, 6], [46]⟩,
          ⟨[], [(13, (pBox k_shelf_Shelf 13 (default : shelf_Shelf)))], [14], [], [13]⟩,
          ⟨[.op 7 0, .op 9 0], [(13, (k_shelf_Shelf.ptr r6.1))], [14], [0, 1, 2, 3, 4, 5, 6, 7, 9], [13]⟩,
          ⟨[.op 8 0], [(14, (pInt .i64 r6.2))], [], [0, 1, 2, 3, 4, 5, 6, 7, 8, 9, 10], [14]⟩])
        (F := [.old 1, .old 2, .old 3, .old 4, .op 10 0, .op 11 0]) (by kernel_rfl)
        (allOT_cons (OT.plain rfl (ob_load ty_28 rfl rfl Opd.t0))
          (allOT_cons (OT.plain rfl (ob_fieldAddr fl_40_1 rfl rfl Opd.t0))
          (allOT_cons (OT.plain rfl (ob_load ty_9 rfl rfl Opd.t0))
          (allOT_cons (OT.plain rfl (ob_fieldAddr fl_40_2 rfl rfl Opd.t0))
          (allOT_cons (OT.plain rfl (ob_load ty_38 rfl rfl Opd.t0))
          (allOT_cons (OT.plain rfl (ob_call en_20 (shelf_Shelf_Set_ok _ _ _ h7) rfl rfl (.cons Opd.t0 (.cons (Opd.tl Opd.t0) (.cons (Opd.tl (Opd.tl Opd.t0)) .nil)))))
          (allOT_cons (OT.plain rfl (ob_move rfl rfl Opd.t0))
          (allOT_cons (OT.plain rfl (ob_extract rfl rfl Opd.t0 rfl))
          (allOT_cons (OT.plain rfl (ob_extract rfl rfl Opd.t0 rfl))
          (allOT_cons (OT.plain rfl (ob_alloc (zs := [.pointer none, .int .i64 0]) (by kernel_rfl) (fun g => zk_shelf_Shelf g) rfl rfl))
          (allOT_cons (OT.plain rfl (ob_storeF ty_28 rfl rfl (Opd.tl Opd.t0) Opd.t0))
          (allOT_cons (OT.plain rfl (ob_assign rfl rfl Opd.t0))
          allOT_nil))))))))))))
        (hst.pick [0, 1, 2, 3, 4] rfl) hb (fun a g hst hb => ?_)
    refine then_n ?_
    refine wp_seq ?_
    obtain ⟨r8, h9, H0⟩ := of_bind H0
    refine wp_reg follows (N := 61) (L := [(4, (k_moietyref09_Shelf.ptr a1)), (5, (k_moietylaw09_Op.ptr a2)), (6, (pBox k_shelf_Shelf 6 (default : shelf_Shelf))), (7, (pBox k_moietyref09_Shelf 7 (default : moietyref09_Shelf))), (13, (k_shelf_Shelf.ptr r6.1)), (14, (pInt .i64 r6.2))])
        (T := [⟨[.old 0], [(48, (k_moietyref09_Shelf.pd a1))], [], [], [48]⟩,
          ⟨[.old 1], [(49, (Kd.str.ptr a2.Key))], [], [], [49]⟩,
          ⟨[.op 1 0], [(50, (pStr a2.Key))], [], [1], [50]⟩,
          ⟨[.old 1], [(51, (k_api_Record.ptr a2.Rec))], [], [], [51]⟩,
          ⟨[.op 3 0], [(52, (k_api_Record.pd a2.Rec))], [], [3], [52]⟩,
          ⟨[.op 0 0, .op 2 0, .op 4 0], [(53, (pTup [(k_moietyref09_Shelf.pd r8.1), (pInt .i64 r8.2)]))], [], [0, 1, 2, 3, 4], [53]⟩,
          ⟨[.op 5 0], [(47, (pTup [(k_moietyref09_Shelf.pd r8.1), (pInt .i64 r8.2)]))], [], [0, 1, 2, 3, 4, 5], [47]⟩,
          ⟨[.op 6 0], [(54, (k_moietyref09_Shelf.pd r8.1))], [], [0, 1, 2, 3, 4, 5, 6], [54]⟩,
          ⟨[.op 6 0], [(55, (pInt .i64 r8.2))], [], [0, 1, 2, 3, 4, 5, 6], [55]⟩,
          ⟨[], [(15, (pBox k_moietyref09_Shelf 15 (default : moietyref09_Shelf)))], [16], [], [15]⟩,
          ⟨[.op 7 0, .op 9 0], [(15, (k_moietyref09_Shelf.ptr r8.1))], [16], [0, 1, 2, 3, 4, 5, 6, 7, 9], [15]⟩,
          ⟨[.op 8 0], [(16, (pInt .i64 r8.2))], [], [0, 1, 2, 3, 4, 5, 6, 7, 8, 9, 10], [16]⟩])
        (F := [.old 2, .old 3, .old 4, .old 5, .op 10 0, .op 11 0]) (by kernel_rfl)
        (allOT_cons (OT.plain rfl (ob_load ty_34 rfl rfl Opd.t0))
          (allOT_cons (OT.plain rfl (ob_fieldAddr fl_40_1 rfl rfl Opd.t0))
          (allOT_cons (OT.plain rfl (ob_load ty_9 rfl rfl Opd.t0))
          (allOT_cons (OT.plain rfl (ob_fieldAddr fl_40_2 rfl rfl Opd.t0))
          (allOT_cons (OT.plain rfl (ob_load ty_38 rfl rfl Opd.t0))
          (allOT_cons (OT.plain rfl (ob_call en_32 (moietyref09_Shelf_Set_ok _ _ _ h9) rfl rfl (.cons Opd.t0 (.cons (Opd.tl Opd.t0) (.cons (Opd.tl (Opd.tl Opd.t0)) .nil)))))
          (allOT_cons (OT.plain rfl (ob_move rfl rfl Opd.t0))
          (allOT_cons (OT.plain rfl (ob_extract rfl rfl Opd.t0 rfl))
          (allOT_cons (OT.plain rfl (ob_extract rfl rfl Opd.t0 rfl))
          (allOT_cons (OT.plain rfl (ob_alloc (zs := [.slice none 0 0, .int .i64 0]) (by kernel_rfl) (fun g => zk_moietyref09_Shelf g) rfl rfl))
          (allOT_cons (OT.plain rfl (ob_storeF ty_34 rfl rfl (Opd.tl Opd.t0) Opd.t0))
          (allOT_cons (OT.plain rfl (ob_assign rfl rfl Opd.t0))
          allOT_nil))))))))))))
        hst hb (fun a g hst hb => ?_)
    refine then_n ?_
    refine wp_seq ?_
    refine wp_reg follows (N := 61) (L := [(6, (pBox k_shelf_Shelf 6 (default : shelf_Shelf))), (7, (pBox k_moietyref09_Shelf 7 (default : moietyref09_Shelf))), (13, (k_shelf_Shelf.ptr r6.1)), (14, (pInt .i64 r6.2)), (15, (k_moietyref09_Shelf.ptr r8.1)), (16, (pInt .i64 r8.2))])
        (T := [⟨[.old 2], [(56, (k_shelf_Shelf.pd r6.1))], [], [], [56]⟩,
          ⟨[.old 4], [(57, (k_moietyref09_Shelf.pd r8.1))], [], [], [57]⟩,
          ⟨[.old 3], [(58, (pInt .i64 r6.2))], [], [], [58]⟩,
          ⟨[.old 5], [(59, (pInt .i64 r8.2))], [], [], [59]⟩,
          ⟨[.op 2 0, .op 3 0], [(60, (pBool (r6.2 == r8.2)))], [], [2, 3], [60]⟩,
          ⟨[.op 0 0, .old 0], [(6, (pBox k_shelf_Shelf 6 r6.1))], [7], [0], [6]⟩,
          ⟨[.op 1 0, .old 1], [(7, (pBox k_moietyref09_Shelf 7 r8.1))], [8], [0, 1, 5], [7]⟩,
          ⟨[.op 4 0], [(8, (pBool (r6.2 == r8.2)))], [], [0, 1, 2, 3, 4, 5, 6], [8]⟩])
        (F := [.op 5 0, .op 6 0, .op 7 0]) (by kernel_rfl)
        (allOT_cons (OT.plain rfl (ob_load ty_28 rfl rfl Opd.t0))
          (allOT_cons (OT.plain rfl (ob_load ty_34 rfl rfl Opd.t0))
          (allOT_cons (OT.plain rfl (ob_move rfl rfl Opd.t0))
          (allOT_cons (OT.plain rfl (ob_move rfl rfl Opd.t0))
          (allOT_cons (OT.plain rfl (ob_eq rfl rfl Opd.t0 (Opd.tl Opd.t0)))
          (allOT_cons (OT.plain rfl (ob_store ty_28 rfl rfl (Opd.tl Opd.t0) Opd.t0))
          (allOT_cons (OT.plain rfl (ob_store ty_34 rfl rfl (Opd.tl Opd.t0) Opd.t0))
          (allOT_cons (OT.plain rfl (ob_assign rfl rfl Opd.t0))
          allOT_nil))))))))
        hst hb (fun a g hst hb => ?_)
    refine then_n ?_
    refine wp_ret ?_
    obtain rfl := Option.some.inj H0
    obtain ⟨u0, hu0, hq0⟩ := res_box (P := Try.prog) ty_28 (hst.at 0 rfl)
    obtain ⟨u1, hu1, hq1⟩ := res_box (P := Try.prog) ty_34 (hst.at 1 rfl)
    exact endR3 rfl hst hb hu0 hu1 (res_tmp (s := 8)) (pTup_3 hq0 hq1 (hst.at 2 rfl))
end Go.CL

set_option linter.unusedVariables false
set_option linter.unusedSimpArgs false
set_option maxRecDepth 100000
namespace Go.CL
open Go Go.RowKit Go.Proofs
theorem moietyref03_Same_ok (a0 : api_Record) (a1 : api_Record) {r : Bool} (h : moietyref03_Same a0 a1 = some r) : FnOk Try.prog 25 [(k_api_Record.pd a0), (k_api_Record.pd a1)] (pBool r) := by
  have H0 := h
  unfold moietyref03_Same at H0
  clear h
  refine fn_ok (N := 97) Try.func25 rfl rfl (Nat.le_of_ble_eq_true rfl) rfl rfl (fun a g0 hst hb => ?_)
  refine wp_seq ?_
  refine wp_reg follows (N := 97) (L := [(0, (k_api_Record.pd a0)), (1, (k_api_Record.pd a1))])
      (T := [⟨[.old 0], [(2, (k_api_Record.ptr a0))], [], [], [2]⟩,
        ⟨[.old 1], [(3, (k_api_Record.ptr a1))], [], [], [3]⟩,
        ⟨[], [(4, (pBool false))], [], [], [4]⟩])
      (F := [.op 0 0, .op 1 0]) (by kernel_rfl)
      (allOT_cons (OT.plain rfl (ob_box1 rfl rfl Opd.t0))
        (allOT_cons (OT.plain rfl (ob_box1 rfl rfl Opd.t0))
        (allOT_cons (OT.plain rfl (ob_assign rfl rfl (Opd.c (bool_q _))))
        allOT_nil)))
      hst hb (fun a g hst hb => ?_)
  refine then_n ?_
  refine wp_seq ?_
  refine wp_seq ?_
  refine wp_reg follows (N := 97) (L := [(2, (k_api_Record.ptr a0)), (3, (k_api_Record.ptr a1))])
      (T := [⟨[.old 0], [(6, ((Kd.int .i64).ptr a0.Kind))], [], [], [6]⟩,
        ⟨[.op 0 0], [(7, (pInt .i64 a0.Kind))], [], [0], [7]⟩,
        ⟨[.old 1], [(8, ((Kd.int .i64).ptr a1.Kind))], [], [], [8]⟩,
        ⟨[.op 2 0], [(9, (pInt .i64 a1.Kind))], [], [2], [9]⟩,
        ⟨[.op 1 0, .op 3 0], [(10, (pBool (a0.Kind != a1.Kind)))], [], [0, 1, 2, 3], [10]⟩,
        ⟨[.op 4 0], [(11, (pBool (a0.Kind != a1.Kind)))], [], [0, 1, 2, 3, 4], [11]⟩,
        ⟨[.op 5 0, .old 0], [(12, (pIf (!(a0.Kind != a1.Kind)) ((Kd.int .i64).ptr a0.Num)))], [], [0, 1, 2, 3, 4, 5], [12]⟩,
        ⟨[.op 5 0, .op 6 0], [(13, (pIf (!(a0.Kind != a1.Kind)) (pInt .i64 a0.Num)))], [], [0, 1, 2, 3, 4, 5, 6], [13]⟩,
        ⟨[.op 5 0, .old 1], [(14, (pIf (!(a0.Kind != a1.Kind)) ((Kd.int .i64).ptr a1.Num)))], [], [0, 1, 2, 3, 4, 5], [14]⟩,
        ⟨[.op 5 0, .op 8 0], [(15, (pIf (!(a0.Kind != a1.Kind)) (pInt .i64 a1.Num)))], [], [0, 1, 2, 3, 4, 5, 8], [15]⟩,
        ⟨[.op 5 0, .op 7 0, .op 9 0], [(16, (pIf (!(a0.Kind != a1.Kind)) (pBool (a0.Num != a1.Num))))], [], [0, 1, 2, 3, 4, 5, 6, 7, 8, 9], [16]⟩,
        ⟨[.op 5 0, .op 10 0], [(17, (pBool ((a0.Kind != a1.Kind) || (a0.Num != a1.Num))))], [], [0, 1, 2, 3, 4, 5, 6, 7, 8, 9, 10], [17]⟩,
        ⟨[.op 11 0], [(18, (pBool ((a0.Kind != a1.Kind) || (a0.Num != a1.Num))))], [], [0, 1, 2, 3, 4, 5, 6, 7, 8, 9, 10, 11], [18]⟩,
        ⟨[.op 12 0, .old 0], [(19, (pIf (!((a0.Kind != a1.Kind) || (a0.Num != a1.Num))) ((Kd.int .i64).ptr a0.Low)))], [], [0, 1, 2, 3, 4, 5, 6, 7, 8, 9, 10, 11, 12], [19]⟩,
        ⟨[.op 12 0, .op 13 0], [(20, (pIf (!((a0.Kind != a1.Kind) || (a0.Num != a1.Num))) (pInt .i64 a0.Low)))], [], [0, 1, 2, 3, 4, 5, 6, 7, 8, 9, 10, 11, 12, 13], [20]⟩,
        ⟨[.op 12 0, .old 1], [(21, (pIf (!((a0.Kind != a1.Kind) || (a0.Num != a1.Num))) ((Kd.int .i64).ptr a1.Low)))], [], [0, 1, 2, 3, 4, 5, 6, 7, 8, 9, 10, 11, 12], [21]⟩,
        ⟨[.op 12 0, .op 15 0], [(22, (pIf (!((a0.Kind != a1.Kind) || (a0.Num != a1.Num))) (pInt .i64 a1.Low)))], [], [0, 1, 2, 3, 4, 5, 6, 7, 8, 9, 10, 11, 12, 15], [22]⟩,
        ⟨[.op 12 0, .op 14 0, .op 16 0], [(23, (pIf (!((a0.Kind != a1.Kind) || (a0.Num != a1.Num))) (pBool (a0.Low != a1.Low))))], [], [0, 1, 2, 3, 4, 5, 6, 7, 8, 9, 10, 11, 12, 13, 14, 15, 16], [23]⟩,
        ⟨[.op 12 0, .op 17 0], [(24, (pBool (((a0.Kind != a1.Kind) || (a0.Num != a1.Num)) || (a0.Low != a1.Low))))], [], [0, 1, 2, 3, 4, 5, 6, 7, 8, 9, 10, 11, 12, 13, 14, 15, 16, 17], [24]⟩,
        ⟨[.op 18 0], [(25, (pBool (((a0.Kind != a1.Kind) || (a0.Num != a1.Num)) || (a0.Low != a1.Low))))], [], [0, 1, 2, 3, 4, 5, 6, 7, 8, 9, 10, 11, 12, 13, 14, 15, 16, 17, 18], [25]⟩,
        ⟨[.op 19 0, .old 0], [(26, (pIf (!(((a0.Kind != a1.Kind) || (a0.Num != a1.Num)) || (a0.Low != a1.Low))) ((Kd.int .i64).ptr a0.High)))], [], [0, 1, 2, 3, 4, 5, 6, 7, 8, 9, 10, 11, 12, 13, 14, 15, 16, 17, 18, 19], [26]⟩,
        ⟨[.op 19 0, .op 20 0], [(27, (pIf (!(((a0.Kind != a1.Kind) || (a0.Num != a1.Num)) || (a0.Low != a1.Low))) (pInt .i64 a0.High)))], [], [0, 1, 2, 3, 4, 5, 6, 7, 8, 9, 10, 11, 12, 13, 14, 15, 16, 17, 18, 19, 20], [27]⟩,
        ⟨[.op 19 0, .old 1], [(28, (pIf (!(((a0.Kind != a1.Kind) || (a0.Num != a1.Num)) || (a0.Low != a1.Low))) ((Kd.int .i64).ptr a1.High)))], [], [0, 1, 2, 3, 4, 5, 6, 7, 8, 9, 10, 11, 12, 13, 14, 15, 16, 17, 18, 19], [28]⟩,
        ⟨[.op 19 0, .op 22 0], [(29, (pIf (!(((a0.Kind != a1.Kind) || (a0.Num != a1.Num)) || (a0.Low != a1.Low))) (pInt .i64 a1.High)))], [], [0, 1, 2, 3, 4, 5, 6, 7, 8, 9, 10, 11, 12, 13, 14, 15, 16, 17, 18, 19, 22], [29]⟩,
        ⟨[.op 19 0, .op 21 0, .op 23 0], [(30, (pIf (!(((a0.Kind != a1.Kind) || (a0.Num != a1.Num)) || (a0.Low != a1.Low))) (pBool (a0.High != a1.High))))], [], [0, 1, 2, 3, 4, 5, 6, 7, 8, 9, 10, 11, 12, 13, 14, 15, 16, 17, 18, 19, 20, 21, 22, 23], [30]⟩,
        ⟨[.op 19 0, .op 24 0], [(31, (pBool ((((a0.Kind != a1.Kind) || (a0.Num != a1.Num)) || (a0.Low != a1.Low)) || (a0.High != a1.High))))], [], [0, 1, 2, 3, 4, 5, 6, 7, 8, 9, 10, 11, 12, 13, 14, 15, 16, 17, 18, 19, 20, 21, 22, 23, 24], [31]⟩,
        ⟨[.op 25 0], [(32, (pBool ((((a0.Kind != a1.Kind) || (a0.Num != a1.Num)) || (a0.Low != a1.Low)) || (a0.High != a1.High))))], [], [0, 1, 2, 3, 4, 5, 6, 7, 8, 9, 10, 11, 12, 13, 14, 15, 16, 17, 18, 19, 20, 21, 22, 23, 24, 25], [32]⟩,
        ⟨[.op 26 0, .old 0], [(33, (pIf (!((((a0.Kind != a1.Kind) || (a0.Num != a1.Num)) || (a0.Low != a1.Low)) || (a0.High != a1.High))) ((Kd.int .i64).ptr a0.Cap)))], [], [0, 1, 2, 3, 4, 5, 6, 7, 8, 9, 10, 11, 12, 13, 14, 15, 16, 17, 18, 19, 20, 21, 22, 23, 24, 25, 26], [33]⟩,
        ⟨[.op 26 0, .op 27 0], [(34, (pIf (!((((a0.Kind != a1.Kind) || (a0.Num != a1.Num)) || (a0.Low != a1.Low)) || (a0.High != a1.High))) (pInt .i64 a0.Cap)))], [], [0, 1, 2, 3, 4, 5, 6, 7, 8, 9, 10, 11, 12, 13, 14, 15, 16, 17, 18, 19, 20, 21, 22, 23, 24, 25, 26, 27], [34]⟩,
        ⟨[.op 26 0, .old 1], [(35, (pIf (!((((a0.Kind != a1.Kind) || (a0.Num != a1.Num)) || (a0.Low != a1.Low)) || (a0.High != a1.High))) ((Kd.int .i64).ptr a1.Cap)))], [], [0, 1, 2, 3, 4, 5, 6, 7, 8, 9, 10, 11, 12, 13, 14, 15, 16, 17, 18, 19, 20, 21, 22, 23, 24, 25, 26], [35]⟩,
        ⟨[.op 26 0, .op 29 0], [(36, (pIf (!((((a0.Kind != a1.Kind) || (a0.Num != a1.Num)) || (a0.Low != a1.Low)) || (a0.High != a1.High))) (pInt .i64 a1.Cap)))], [], [0, 1, 2, 3, 4, 5, 6, 7, 8, 9, 10, 11, 12, 13, 14, 15, 16, 17, 18, 19, 20, 21, 22, 23, 24, 25, 26, 29], [36]⟩,
        ⟨[.op 26 0, .op 28 0, .op 30 0], [(37, (pIf (!((((a0.Kind != a1.Kind) || (a0.Num != a1.Num)) || (a0.Low != a1.Low)) || (a0.High != a1.High))) (pBool (a0.Cap != a1.Cap))))], [], [0, 1, 2, 3, 4, 5, 6, 7, 8, 9, 10, 11, 12, 13, 14, 15, 16, 17, 18, 19, 20, 21, 22, 23, 24, 25, 26, 27, 28, 29, 30], [37]⟩,
        ⟨[.op 26 0, .op 31 0], [(38, (pBool (((((a0.Kind != a1.Kind) || (a0.Num != a1.Num)) || (a0.Low != a1.Low)) || (a0.High != a1.High)) || (a0.Cap != a1.Cap))))], [], [0, 1, 2, 3, 4, 5, 6, 7, 8, 9, 10, 11, 12, 13, 14, 15, 16, 17, 18, 19, 20, 21, 22, 23, 24, 25, 26, 27, 28, 29, 30, 31], [38]⟩,
        ⟨[.op 32 0], [(39, (pBool (((((a0.Kind != a1.Kind) || (a0.Num != a1.Num)) || (a0.Low != a1.Low)) || (a0.High != a1.High)) || (a0.Cap != a1.Cap))))], [], [0, 1, 2, 3, 4, 5, 6, 7, 8, 9, 10, 11, 12, 13, 14, 15, 16, 17, 18, 19, 20, 21, 22, 23, 24, 25, 26, 27, 28, 29, 30, 31, 32], [39]⟩,
        ⟨[.op 33 0, .old 0], [(40, (pIf (!(((((a0.Kind != a1.Kind) || (a0.Num != a1.Num)) || (a0.Low != a1.Low)) || (a0.High != a1.High)) || (a0.Cap != a1.Cap))) (Kd.str.ptr a0.Text)))], [], [0, 1, 2, 3, 4, 5, 6, 7, 8, 9, 10, 11, 12, 13, 14, 15, 16, 17, 18, 19, 20, 21, 22, 23, 24, 25, 26, 27, 28, 29, 30, 31, 32, 33], [40]⟩,
        ⟨[.op 33 0, .op 34 0], [(41, (pIf (!(((((a0.Kind != a1.Kind) || (a0.Num != a1.Num)) || (a0.Low != a1.Low)) || (a0.High != a1.High)) || (a0.Cap != a1.Cap))) (pStr a0.Text)))], [], [0, 1, 2, 3, 4, 5, 6, 7, 8, 9, 10, 11, 12, 13, 14, 15, 16, 17, 18, 19, 20, 21, 22, 23, 24, 25, 26, 27, 28, 29, 30, 31, 32, 33, 34], [41]⟩,
        ⟨[.op 33 0, .old 1], [(42, (pIf (!(((((a0.Kind != a1.Kind) || (a0.Num != a1.Num)) || (a0.Low != a1.Low)) || (a0.High != a1.High)) || (a0.Cap != a1.Cap))) (Kd.str.ptr a1.Text)))], [], [0, 1, 2, 3, 4, 5, 6, 7, 8, 9, 10, 11, 12, 13, 14, 15, 16, 17, 18, 19, 20, 21, 22, 23, 24, 25, 26, 27, 28, 29, 30, 31, 32, 33], [42]⟩,
        ⟨[.op 33 0, .op 36 0], [(43, (pIf (!(((((a0.Kind != a1.Kind) || (a0.Num != a1.Num)) || (a0.Low != a1.Low)) || (a0.High != a1.High)) || (a0.Cap != a1.Cap))) (pStr a1.Text)))], [], [0, 1, 2, 3, 4, 5, 6, 7, 8, 9, 10, 11, 12, 13, 14, 15, 16, 17, 18, 19, 20, 21, 22, 23, 24, 25, 26, 27, 28, 29, 30, 31, 32, 33, 36], [43]⟩,
        ⟨[.op 33 0, .op 35 0, .op 37 0], [(44, (pIf (!(((((a0.Kind != a1.Kind) || (a0.Num != a1.Num)) || (a0.Low != a1.Low)) || (a0.High != a1.High)) || (a0.Cap != a1.Cap))) (pBool (!sEq a0.Text a1.Text))))], [], [0, 1, 2, 3, 4, 5, 6, 7, 8, 9, 10, 11, 12, 13, 14, 15, 16, 17, 18, 19, 20, 21, 22, 23, 24, 25, 26, 27, 28, 29, 30, 31, 32, 33, 34, 35, 36, 37], [44]⟩,
        ⟨[.op 33 0, .op 38 0], [(45, (pBool ((((((a0.Kind != a1.Kind) || (a0.Num != a1.Num)) || (a0.Low != a1.Low)) || (a0.High != a1.High)) || (a0.Cap != a1.Cap)) || (!sEq a0.Text a1.Text))))], [], [0, 1, 2, 3, 4, 5, 6, 7, 8, 9, 10, 11, 12, 13, 14, 15, 16, 17, 18, 19, 20, 21, 22, 23, 24, 25, 26, 27, 28, 29, 30, 31, 32, 33, 34, 35, 36, 37, 38], [45]⟩])
      (F := [.old 0, .old 1, .op 39 0]) (by kernel_rfl)
      (allOT_cons (OT.plain rfl (ob_fieldAddr fl_38_0 rfl rfl Opd.t0))
        (allOT_cons (OT.plain rfl (ob_load ty_3 rfl rfl Opd.t0))
        (allOT_cons (OT.plain rfl (ob_fieldAddr fl_38_0 rfl rfl Opd.t0))
        (allOT_cons (OT.plain rfl (ob_load ty_3 rfl rfl Opd.t0))
        (allOT_cons (OT.plain rfl (ob_ne rfl rfl Opd.t0 (Opd.tl Opd.t0)))
        (allOT_cons (OT.plain rfl (ob_move rfl rfl Opd.t0))
        (allOT_cons (OT.guard (outs := [(12, ((Kd.int .i64).ptr a0.Num))]) (!(a0.Kind != a1.Kind)) (gF (a0.Kind != a1.Kind)).1 (gF (a0.Kind != a1.Kind)).2 rfl rfl (fun e he => by rw [List.mem_singleton.1 he]) (fun hG => ob_fieldAddr fl_38_1 rfl rfl Opd.t0))
        (allOT_cons (OT.guard (outs := [(13, (pInt .i64 a0.Num))]) (!(a0.Kind != a1.Kind)) (gF (a0.Kind != a1.Kind)).1 (gF (a0.Kind != a1.Kind)).2 rfl rfl (fun e he => by rw [List.mem_singleton.1 he]) (fun hG => ob_load ty_2 rfl rfl (Opd.gd hG Opd.t0)))
        (allOT_cons (OT.guard (outs := [(14, ((Kd.int .i64).ptr a1.Num))]) (!(a0.Kind != a1.Kind)) (gF (a0.Kind != a1.Kind)).1 (gF (a0.Kind != a1.Kind)).2 rfl rfl (fun e he => by rw [List.mem_singleton.1 he]) (fun hG => ob_fieldAddr fl_38_1 rfl rfl Opd.t0))
        (allOT_cons (OT.guard (outs := [(15, (pInt .i64 a1.Num))]) (!(a0.Kind != a1.Kind)) (gF (a0.Kind != a1.Kind)).1 (gF (a0.Kind != a1.Kind)).2 rfl rfl (fun e he => by rw [List.mem_singleton.1 he]) (fun hG => ob_load ty_2 rfl rfl (Opd.gd hG Opd.t0)))
        (allOT_cons (OT.guard (outs := [(16, (pBool (a0.Num != a1.Num)))]) (!(a0.Kind != a1.Kind)) (gF (a0.Kind != a1.Kind)).1 (gF (a0.Kind != a1.Kind)).2 rfl rfl (fun e he => by rw [List.mem_singleton.1 he]) (fun hG => ob_ne rfl rfl (Opd.gd hG Opd.t0) (Opd.gd hG (Opd.tl Opd.t0))))
        (allOT_cons (OT.plain rfl (ob_pick (q := (pBool ((a0.Kind != a1.Kind) || (a0.Num != a1.Num)))) rfl rfl Opd.t0 (fun hz => Opd.to (Opd.c (bool_q _)) (congrArg (fun t => (pBool t)) (pk_or_t hz))) (fun hz => Opd.to (Opd.gd (bNF hz) (Opd.tl Opd.t0)) (congrArg (fun t => (pBool t)) (pk_or_f hz)))))
        (allOT_cons (OT.plain rfl (ob_move rfl rfl Opd.t0))
        (allOT_cons (OT.guard (outs := [(19, ((Kd.int .i64).ptr a0.Low))]) (!((a0.Kind != a1.Kind) || (a0.Num != a1.Num))) (gF ((a0.Kind != a1.Kind) || (a0.Num != a1.Num))).1 (gF ((a0.Kind != a1.Kind) || (a0.Num != a1.Num))).2 rfl rfl (fun e he => by rw [List.mem_singleton.1 he]) (fun hG => ob_fieldAddr fl_38_2 rfl rfl Opd.t0))
        (allOT_cons (OT.guard (outs := [(20, (pInt .i64 a0.Low))]) (!((a0.Kind != a1.Kind) || (a0.Num != a1.Num))) (gF ((a0.Kind != a1.Kind) || (a0.Num != a1.Num))).1 (gF ((a0.Kind != a1.Kind) || (a0.Num != a1.Num))).2 rfl rfl (fun e he => by rw [List.mem_singleton.1 he]) (fun hG => ob_load ty_2 rfl rfl (Opd.gd hG Opd.t0)))
        (allOT_cons (OT.guard (outs := [(21, ((Kd.int .i64).ptr a1.Low))]) (!((a0.Kind != a1.Kind) || (a0.Num != a1.Num))) (gF ((a0.Kind != a1.Kind) || (a0.Num != a1.Num))).1 (gF ((a0.Kind != a1.Kind) || (a0.Num != a1.Num))).2 rfl rfl (fun e he => by rw [List.mem_singleton.1 he]) (fun hG => ob_fieldAddr fl_38_2 rfl rfl Opd.t0))
        (allOT_cons (OT.guard (outs := [(22, (pInt .i64 a1.Low))]) (!((a0.Kind != a1.Kind) || (a0.Num != a1.Num))) (gF ((a0.Kind != a1.Kind) || (a0.Num != a1.Num))).1 (gF ((a0.Kind != a1.Kind) || (a0.Num != a1.Num))).2 rfl rfl (fun e he => by rw [List.mem_singleton.1 he]) (fun hG => ob_load ty_2 rfl rfl (Opd.gd hG Opd.t0)))
        (allOT_cons (OT.guard (outs := [(23, (pBool (a0.Low != a1.Low)))]) (!((a0.Kind != a1.Kind) || (a0.Num != a1.Num))) (gF ((a0.Kind != a1.Kind) || (a0.Num != a1.Num))).1 (gF ((a0.Kind != a1.Kind) || (a0.Num != a1.Num))).2 rfl rfl (fun e he => by rw [List.mem_singleton.1 he]) (fun hG => ob_ne rfl rfl (Opd.gd hG Opd.t0) (Opd.gd hG (Opd.tl Opd.t0))))
        (allOT_cons (OT.plain rfl (ob_pick (q := (pBool (((a0.Kind != a1.Kind) || (a0.Num != a1.Num)) || (a0.Low != a1.Low)))) rfl rfl Opd.t0 (fun hz => Opd.to (Opd.c (bool_q _)) (congrArg (fun t => (pBool t)) (pk_or_t hz))) (fun hz => Opd.to (Opd.gd (bNF hz) (Opd.tl Opd.t0)) (congrArg (fun t => (pBool t)) (pk_or_f hz)))))
        (allOT_cons (OT.plain rfl (ob_move rfl rfl Opd.t0))
        (allOT_cons (OT.guard (outs := [(26, ((Kd.int .i64).ptr a0.High))]) (!(((a0.Kind != a1.Kind) || (a0.Num != a1.Num)) || (a0.Low != a1.Low))) (gF (((a0.Kind != a1.Kind) || (a0.Num != a1.Num)) || (a0.Low != a1.Low))).1 (gF (((a0.Kind != a1.Kind) || (a0.Num != a1.Num)) || (a0.Low != a1.Low))).2 rfl rfl (fun e he => by rw [List.mem_singleton.1 he]) (fun hG => ob_fieldAddr fl_38_3 rfl rfl Opd.t0))
        (allOT_cons (OT.guard (outs := [(27, (pInt .i64 a0.High))]) (!(((a0.Kind != a1.Kind) || (a0.Num != a1.Num)) || (a0.Low != a1.Low))) (gF (((a0.Kind != a1.Kind) || (a0.Num != a1.Num)) || (a0.Low != a1.Low))).1 (gF (((a0.Kind != a1.Kind) || (a0.Num != a1.Num)) || (a0.Low != a1.Low))).2 rfl rfl (fun e he => by rw [List.mem_singleton.1 he]) (fun hG => ob_load ty_2 rfl rfl (Opd.gd hG Opd.t0)))
        (allOT_cons (OT.guard (outs := [(28, ((Kd.int .i64).ptr a1.High))]) (!(((a0.Kind != a1.Kind) || (a0.Num != a1.Num)) || (a0.Low != a1.Low))) (gF (((a0.Kind != a1.Kind) || (a0.Num != a1.Num)) || (a0.Low != a1.Low))).1 (gF (((a0.Kind != a1.Kind) || (a0.Num != a1.Num)) || (a0.Low != a1.Low))).2 rfl rfl (fun e he => by rw [List.mem_singleton.1 he]) (fun hG => ob_fieldAddr fl_38_3 rfl rfl Opd.t0))
        (allOT_cons (OT.guard (outs := [(29, (pInt .i64 a1.High))]) (!(((a0.Kind != a1.Kind) || (a0.Num != a1.Num)) || (a0.Low != a1.Low))) (gF (((a0.Kind != a1.Kind) || (a0.Num != a1.Num)) || (a0.Low != a1.Low))).1 (gF (((a0.Kind != a1.Kind) || (a0.Num != a1.Num)) || (a0.Low != a1.Low))).2 rfl rfl (fun e he => by rw [List.mem_singleton.1 he]) (fun hG => ob_load ty_2 rfl rfl (Opd.gd hG Opd.t0)))
        (allOT_cons (OT.guard (outs := [(30, (pBool (a0.High != a1.High)))]) (!(((a0.Kind != a1.Kind) || (a0.Num != a1.Num)) || (a0.Low != a1.Low))) (gF (((a0.Kind != a1.Kind) || (a0.Num != a1.Num)) || (a0.Low != a1.Low))).1 (gF (((a0.Kind != a1.Kind) || (a0.Num != a1.Num)) || (a0.Low != a1.Low))).2 rfl rfl (fun e he => by rw [List.mem_singleton.1 he]) (fun hG => ob_ne rfl rfl (Opd.gd hG Opd.t0) (Opd.gd hG (Opd.tl Opd.t0))))
        (allOT_cons (OT.plain rfl (ob_pick (q := (pBool ((((a0.Kind != a1.Kind) || (a0.Num != a1.Num)) || (a0.Low != a1.Low)) || (a0.High != a1.High)))) rfl rfl Opd.t0 (fun hz => Opd.to (Opd.c (bool_q _)) (congrArg (fun t => (pBool t)) (pk_or_t hz))) (fun hz => Opd.to (Opd.gd (bNF hz) (Opd.tl Opd.t0)) (congrArg (fun t => (pBool t)) (pk_or_f hz)))))
        (allOT_cons (OT.plain rfl (ob_move rfl rfl Opd.t0))
        (allOT_cons (OT.guard (outs := [(33, ((Kd.int .i64).ptr a0.Cap))]) (!((((a0.Kind != a1.Kind) || (a0.Num != a1.Num)) || (a0.Low != a1.Low)) || (a0.High != a1.High))) (gF ((((a0.Kind != a1.Kind) || (a0.Num != a1.Num)) || (a0.Low != a1.Low)) || (a0.High != a1.High))).1 (gF ((((a0.Kind != a1.Kind) || (a0.Num != a1.Num)) || (a0.Low != a1.Low)) || (a0.High != a1.High))).2 rfl rfl (fun e he => by rw [List.mem_singleton.1 he]) (fun hG => ob_fieldAddr fl_38_5 rfl rfl Opd.t0))
        (allOT_cons (OT.guard (outs := [(34, (pInt .i64 a0.Cap))]) (!((((a0.Kind != a1.Kind) || (a0.Num != a1.Num)) || (a0.Low != a1.Low)) || (a0.High != a1.High))) (gF ((((a0.Kind != a1.Kind) || (a0.Num != a1.Num)) || (a0.Low != a1.Low)) || (a0.High != a1.High))).1 (gF ((((a0.Kind != a1.Kind) || (a0.Num != a1.Num)) || (a0.Low != a1.Low)) || (a0.High != a1.High))).2 rfl rfl (fun e he => by rw [List.mem_singleton.1 he]) (fun hG => ob_load ty_3 rfl rfl (Opd.gd hG Opd.t0)))
        (allOT_cons (OT.guard (outs := [(35, ((Kd.int .i64).ptr a1.Cap))]) (!((((a0.Kind != a1.Kind) || (a0.Num != a1.Num)) || (a0.Low != a1.Low)) || (a0.High != a1.High))) (gF ((((a0.Kind != a1.Kind) || (a0.Num != a1.Num)) || (a0.Low != a1.Low)) || (a0.High != a1.High))).1 (gF ((((a0.Kind != a1.Kind) || (a0.Num != a1.Num)) || (a0.Low != a1.Low)) || (a0.High != a1.High))).2 rfl rfl (fun e he => by rw [List.mem_singleton.1 he]) (fun hG => ob_fieldAddr fl_38_5 rfl rfl Opd.t0))
        (allOT_cons (OT.guard (outs := [(36, (pInt .i64 a1.Cap))]) (!((((a0.Kind != a1.Kind) || (a0.Num != a1.Num)) || (a0.Low != a1.Low)) || (a0.High != a1.High))) (gF ((((a0.Kind != a1.Kind) || (a0.Num != a1.Num)) || (a0.Low != a1.Low)) || (a0.High != a1.High))).1 (gF ((((a0.Kind != a1.Kind) || (a0.Num != a1.Num)) || (a0.Low != a1.Low)) || (a0.High != a1.High))).2 rfl rfl (fun e he => by rw [List.mem_singleton.1 he]) (fun hG => ob_load ty_3 rfl rfl (Opd.gd hG Opd.t0)))
        (allOT_cons (OT.guard (outs := [(37, (pBool (a0.Cap != a1.Cap)))]) (!((((a0.Kind != a1.Kind) || (a0.Num != a1.Num)) || (a0.Low != a1.Low)) || (a0.High != a1.High))) (gF ((((a0.Kind != a1.Kind) || (a0.Num != a1.Num)) || (a0.Low != a1.Low)) || (a0.High != a1.High))).1 (gF ((((a0.Kind != a1.Kind) || (a0.Num != a1.Num)) || (a0.Low != a1.Low)) || (a0.High != a1.High))).2 rfl rfl (fun e he => by rw [List.mem_singleton.1 he]) (fun hG => ob_ne rfl rfl (Opd.gd hG Opd.t0) (Opd.gd hG (Opd.tl Opd.t0))))
        (allOT_cons (OT.plain rfl (ob_pick (q := (pBool (((((a0.Kind != a1.Kind) || (a0.Num != a1.Num)) || (a0.Low != a1.Low)) || (a0.High != a1.High)) || (a0.Cap != a1.Cap)))) rfl rfl Opd.t0 (fun hz => Opd.to (Opd.c (bool_q _)) (congrArg (fun t => (pBool t)) (pk_or_t hz))) (fun hz => Opd.to (Opd.gd (bNF hz) (Opd.tl Opd.t0)) (congrArg (fun t => (pBool t)) (pk_or_f hz)))))
        (allOT_cons (OT.plain rfl (ob_move rfl rfl Opd.t0))
        (allOT_cons (OT.guard (outs := [(40, (Kd.str.ptr a0.Text))]) (!(((((a0.Kind != a1.Kind) || (a0.Num != a1.Num)) || (a0.Low != a1.Low)) || (a0.High != a1.High)) || (a0.Cap != a1.Cap))) (gF (((((a0.Kind != a1.Kind) || (a0.Num != a1.Num)) || (a0.Low != a1.Low)) || (a0.High != a1.High)) || (a0.Cap != a1.Cap))).1 (gF (((((a0.Kind != a1.Kind) || (a0.Num != a1.Num)) || (a0.Low != a1.Low)) || (a0.High != a1.High)) || (a0.Cap != a1.Cap))).2 rfl rfl (fun e he => by rw [List.mem_singleton.1 he]) (fun hG => ob_fieldAddr fl_38_6 rfl rfl Opd.t0))
        (allOT_cons (OT.guard (outs := [(41, (pStr a0.Text))]) (!(((((a0.Kind != a1.Kind) || (a0.Num != a1.Num)) || (a0.Low != a1.Low)) || (a0.High != a1.High)) || (a0.Cap != a1.Cap))) (gF (((((a0.Kind != a1.Kind) || (a0.Num != a1.Num)) || (a0.Low != a1.Low)) || (a0.High != a1.High)) || (a0.Cap != a1.Cap))).1 (gF (((((a0.Kind != a1.Kind) || (a0.Num != a1.Num)) || (a0.Low != a1.Low)) || (a0.High != a1.High)) || (a0.Cap != a1.Cap))).2 rfl rfl (fun e he => by rw [List.mem_singleton.1 he]) (fun hG => ob_load ty_9 rfl rfl (Opd.gd hG Opd.t0)))
        (allOT_cons (OT.guard (outs := [(42, (Kd.str.ptr a1.Text))]) (!(((((a0.Kind != a1.Kind) || (a0.Num != a1.Num)) || (a0.Low != a1.Low)) || (a0.High != a1.High)) || (a0.Cap != a1.Cap))) (gF (((((a0.Kind != a1.Kind) || (a0.Num != a1.Num)) || (a0.Low != a1.Low)) || (a0.High != a1.High)) || (a0.Cap != a1.Cap))).1 (gF (((((a0.Kind != a1.Kind) || (a0.Num != a1.Num)) || (a0.Low != a1.Low)) || (a0.High != a1.High)) || (a0.Cap != a1.Cap))).2 rfl rfl (fun e he => by rw [List.mem_singleton.1 he]) (fun hG => ob_fieldAddr fl_38_6 rfl rfl Opd.t0))
        (allOT_cons (OT.guard (outs := [(43, (pStr a1.Text))]) (!(((((a0.Kind != a1.Kind) || (a0.Num != a1.Num)) || (a0.Low != a1.Low)) || (a0.High != a1.High)) || (a0.Cap != a1.Cap))) (gF (((((a0.Kind != a1.Kind) || (a0.Num != a1.Num)) || (a0.Low != a1.Low)) || (a0.High != a1.High)) || (a0.Cap != a1.Cap))).1 (gF (((((a0.Kind != a1.Kind) || (a0.Num != a1.Num)) || (a0.Low != a1.Low)) || (a0.High != a1.High)) || (a0.Cap != a1.Cap))).2 rfl rfl (fun e he => by rw [List.mem_singleton.1 he]) (fun hG => ob_load ty_9 rfl rfl (Opd.gd hG Opd.t0)))
        (allOT_cons (OT.guard (outs := [(44, (pBool (!sEq a0.Text a1.Text)))]) (!(((((a0.Kind != a1.Kind) || (a0.Num != a1.Num)) || (a0.Low != a1.Low)) || (a0.High != a1.High)) || (a0.Cap != a1.Cap))) (gF (((((a0.Kind != a1.Kind) || (a0.Num != a1.Num)) || (a0.Low != a1.Low)) || (a0.High != a1.High)) || (a0.Cap != a1.Cap))).1 (gF (((((a0.Kind != a1.Kind) || (a0.Num != a1.Num)) || (a0.Low != a1.Low)) || (a0.High != a1.High)) || (a0.Cap != a1.Cap))).2 rfl rfl (fun e he => by rw [List.mem_singleton.1 he]) (fun hG => ob_sne rfl rfl (Opd.gd hG Opd.t0) (Opd.gd hG (Opd.tl Opd.t0))))
        (allOT_cons (OT.plain rfl (ob_pick (q := (pBool ((((((a0.Kind != a1.Kind) || (a0.Num != a1.Num)) || (a0.Low != a1.Low)) || (a0.High != a1.High)) || (a0.Cap != a1.Cap)) || (!sEq a0.Text a1.Text)))) rfl rfl Opd.t0 (fun hz => Opd.to (Opd.c (bool_q _)) (congrArg (fun t => (pBool t)) (pk_or_t hz))) (fun hz => Opd.to (Opd.gd (bNF hz) (Opd.tl Opd.t0)) (congrArg (fun t => (pBool t)) (pk_or_f hz)))))
        allOT_nil))))))))))))))))))))))))))))))))))))))))
      hst hb (fun a g hst hb => ?_)
  refine then_n ?_
  refine wp_cond_split (hst.bool 2 rfl) (fun hc1 => ?_) (fun hc1 => ?_)
  · replace H0 := ite_t hc1 H0
    refine wp_seq ?_
    refine wp_reg follows (N := 97) (L := [])
        (T := [⟨[], [(4, (pBool false))], [], [], [4]⟩])
        (F := [.op 0 0]) (by kernel_rfl)
        (allOT_cons (OT.plain rfl (ob_assign rfl rfl (Opd.c (bool_q _))))
          allOT_nil)
        (hst.pick [] rfl) hb (fun a g hst hb => ?_)
    refine then_n ?_
    refine wp_ret ?_
    refine then_r ?_
    obtain rfl := Option.some.inj H0
    exact endR1 rfl hst hb (res_tmp (s := 4)) (hst.at 0 rfl)
  · replace H0 := ite_f hc1 H0
    refine wp_skip ?_
    refine then_n ?_
    refine wp_seq ?_
    refine wp_seq ?_
    obtain ⟨r2, h3, H0⟩ := of_bind H0
    refine wp_reg follows (N := 97) (L := [(2, (k_api_Record.ptr a0)), (3, (k_api_Record.ptr a1))])
        (T := [⟨[.old 0], [(46, (Kd.flt.ptr a0.Real))], [], [], [46]⟩,
          ⟨[.op 0 0], [(47, (pFlt a0.Real))], [], [0], [47]⟩,
          ⟨[.old 1], [(48, (Kd.flt.ptr a1.Real))], [], [], [48]⟩,
          ⟨[.op 2 0], [(49, (pFlt a1.Real))], [], [2], [49]⟩,
          ⟨[.op 1 0, .op 3 0], [(50, (pBool r2))], [], [0, 1, 2, 3], [50]⟩,
          ⟨[.op 4 0], [(51, (pBool (!r2)))], [], [0, 1, 2, 3, 4], [51]⟩,
          ⟨[.op 5 0], [(52, (pBool (!r2)))], [], [0, 1, 2, 3, 4, 5], [52]⟩,
          ⟨[.op 6 0, .old 0], [(53, (pIf (!(!r2)) (k_api_Item.sl.ptr a0.List)))], [], [0, 1, 2, 3, 4, 5, 6], [53]⟩,
          ⟨[.op 6 0, .op 7 0], [(54, (pIf (!(!r2)) (k_api_Item.sl.pd a0.List)))], [], [0, 1, 2, 3, 4, 5, 6, 7], [54]⟩,
          ⟨[.op 6 0, .op 8 0], [(55, (pIf (!(!r2)) (pInt .i64 (a0.List.length : Int))))], [], [0, 1, 2, 3, 4, 5, 6, 7, 8], [55]⟩,
          ⟨[.op 6 0, .old 1], [(56, (pIf (!(!r2)) (k_api_Item.sl.ptr a1.List)))], [], [0, 1, 2, 3, 4, 5, 6], [56]⟩,
          ⟨[.op 6 0, .op 10 0], [(57, (pIf (!(!r2)) (k_api_Item.sl.pd a1.List)))], [], [0, 1, 2, 3, 4, 5, 6, 10], [57]⟩,
          ⟨[.op 6 0, .op 11 0], [(58, (pIf (!(!r2)) (pInt .i64 (a1.List.length : Int))))], [], [0, 1, 2, 3, 4, 5, 6, 10, 11], [58]⟩,
          ⟨[.op 6 0, .op 9 0, .op 12 0], [(59, (pIf (!(!r2)) (pBool ((a0.List.length : Int) != (a1.List.length : Int)))))], [], [0, 1, 2, 3, 4, 5, 6, 7, 8, 9, 10, 11, 12], [59]⟩,
          ⟨[.op 6 0, .op 13 0], [(60, (pBool ((!r2) || ((a0.List.length : Int) != (a1.List.length : Int)))))], [], [0, 1, 2, 3, 4, 5, 6, 7, 8, 9, 10, 11, 12, 13], [60]⟩])
        (F := [.old 0, .old 1, .op 14 0]) (by kernel_rfl)
        (allOT_cons (OT.plain rfl (ob_fieldAddr fl_38_4 rfl rfl Opd.t0))
          (allOT_cons (OT.plain rfl (ob_load ty_35 rfl rfl Opd.t0))
          (allOT_cons (OT.plain rfl (ob_fieldAddr fl_38_4 rfl rfl Opd.t0))
          (allOT_cons (OT.plain rfl (ob_load ty_35 rfl rfl Opd.t0))
          (allOT_cons (OT.plain rfl (ob_call en_37 (moietyref01_Same_ok _ _ h3) rfl rfl (.cons Opd.t0 (.cons (Opd.tl Opd.t0) .nil))))
          (allOT_cons (OT.plain rfl (ob_not rfl rfl Opd.t0))
          (allOT_cons (OT.plain rfl (ob_move rfl rfl Opd.t0))
          (allOT_cons (OT.guard (outs := [(53, (k_api_Item.sl.ptr a0.List))]) (!(!r2)) (gF (!r2)).1 (gF (!r2)).2 rfl rfl (fun e he => by rw [List.mem_singleton.1 he]) (fun hG => ob_fieldAddr fl_38_7 rfl rfl Opd.t0))
          (allOT_cons (OT.guard (outs := [(54, (k_api_Item.sl.pd a0.List))]) (!(!r2)) (gF (!r2)).1 (gF (!r2)).2 rfl rfl (fun e he => by rw [List.mem_singleton.1 he]) (fun hG => ob_load ty_36 rfl rfl (Opd.gd hG Opd.t0)))
          (allOT_cons (OT.guard (outs := [(55, (pInt .i64 (a0.List.length : Int)))]) (!(!r2)) (gF (!r2)).1 (gF (!r2)).2 rfl rfl (fun e he => by rw [List.mem_singleton.1 he]) (fun hG => ob_lenL Try.underlying36 rfl rfl (Opd.gd hG Opd.t0)))
          (allOT_cons (OT.guard (outs := [(56, (k_api_Item.sl.ptr a1.List))]) (!(!r2)) (gF (!r2)).1 (gF (!r2)).2 rfl rfl (fun e he => by rw [List.mem_singleton.1 he]) (fun hG => ob_fieldAddr fl_38_7 rfl rfl Opd.t0))
          (allOT_cons (OT.guard (outs := [(57, (k_api_Item.sl.pd a1.List))]) (!(!r2)) (gF (!r2)).1 (gF (!r2)).2 rfl rfl (fun e he => by rw [List.mem_singleton.1 he]) (fun hG => ob_load ty_36 rfl rfl (Opd.gd hG Opd.t0)))
          (allOT_cons (OT.guard (outs := [(58, (pInt .i64 (a1.List.length : Int)))]) (!(!r2)) (gF (!r2)).1 (gF (!r2)).2 rfl rfl (fun e he => by rw [List.mem_singleton.1 he]) (fun hG => ob_lenL Try.underlying36 rfl rfl (Opd.gd hG Opd.t0)))
          (allOT_cons (OT.guard (outs := [(59, (pBool ((a0.List.length : Int) != (a1.List.length : Int))))]) (!(!r2)) (gF (!r2)).1 (gF (!r2)).2 rfl rfl (fun e he => by rw [List.mem_singleton.1 he]) (fun hG => ob_ne rfl rfl (Opd.gd hG Opd.t0) (Opd.gd hG (Opd.tl Opd.t0))))
          (allOT_cons (OT.plain rfl (ob_pick (q := (pBool ((!r2) || ((a0.List.length : Int) != (a1.List.length : Int))))) rfl rfl Opd.t0 (fun hz => Opd.to (Opd.c (bool_q _)) (congrArg (fun t => (pBool t)) (pk_or_t hz))) (fun hz => Opd.to (Opd.gd (bNF hz) (Opd.tl Opd.t0)) (congrArg (fun t => (pBool t)) (pk_or_f hz)))))
          allOT_nil)))))))))))))))
        (hst.pick [0, 1] rfl) hb (fun a g hst hb => ?_)
    refine then_n ?_
    refine wp_cond_split (hst.bool 2 rfl) (fun hc4 => ?_) (fun hc4 => ?_)
    · replace H0 := ite_t hc4 H0
      refine wp_seq ?_
      refine wp_reg follows (N := 97) (L := [])
          (T := [⟨[], [(4, (pBool false))], [], [], [4]⟩])
          (F := [.op 0 0]) (by kernel_rfl)
          (allOT_cons (OT.plain rfl (ob_assign rfl rfl (Opd.c (bool_q _))))
            allOT_nil)
          (hst.pick [] rfl) hb (fun a g hst hb => ?_)
      refine then_n ?_
      refine wp_ret ?_
      refine then_r ?_
      obtain rfl := Option.some.inj H0
      exact endR1 rfl hst hb (res_tmp (s := 4)) (hst.at 0 rfl)
    · replace H0 := ite_f hc4 H0
      refine wp_skip ?_
      refine then_n ?_
      refine wp_seq ?_
      refine wp_seq ?_
      refine wp_reg follows (N := 97) (L := [(2, (k_api_Record.ptr a0)), (3, (k_api_Record.ptr a1))])
          (T := [⟨[], [(5, (pInt .i64 (0 : Int)))], [], [], [5]⟩])
          (F := [.old 0, .old 1, .op 0 0]) (by kernel_rfl)
          (allOT_cons (OT.plain rfl (ob_assign rfl rfl (Opd.c (int_q _ _))))
            allOT_nil)
          (hst.pick [0, 1] rfl) hb (fun a g hst hb => ?_)
      refine then_n ?_
      obtain ⟨z18, hz1, H0⟩ := of_bind H0
      refine wp_cut (fun a w => ∃ (g : G), w = g.w ∧ St 97 [] a g ∧ Base g0 g ∧ (.inr ()) = z18) ?_ ?_
      · rintro a w ⟨g, rfl, hst, hb, rfl⟩
        refine then_n ?_
        refine wp_seq ?_
        refine wp_reg follows (N := 97) (L := [])
            (T := [⟨[], [(4, (pBool true))], [], [], [4]⟩])
            (F := [.op 0 0]) (by kernel_rfl)
            (allOT_cons (OT.plain rfl (ob_assign rfl rfl (Opd.c (bool_q _))))
              allOT_nil)
            hst hb (fun a g hst hb => ?_)
        refine then_n ?_
        refine wp_ret ?_
        obtain rfl := Option.some.inj H0
        exact endR1 rfl hst hb (res_tmp (s := 4)) (hst.at 0 rfl)
      · refine wp_block ?_
        refine wp_loop_ghost (fun n a w => ∃ (x5 : Int) (g : G), w = g.w ∧ St 97 [(2, (k_api_Record.ptr a0)), (3, (k_api_Record.ptr a1)), (5, (pInt .i64 x5))] a g ∧ Base g0 g ∧ moietyref03_Same_l1 a0 a1 n x5 = some z18) (Int.toNat ((a0.List.length : Int) - (0 : Int)) + 1) ⟨(0 : Int), g, rfl, (hst.pick [0, 1, 2] rfl), hb, hz1⟩ (fun n a w hI => ?_)
        obtain ⟨x5, g, rfl, hst, hb, H1⟩ := hI
        cases n with
        | zero => exact absurd H1 (by simp [moietyref03_Same_l1])
        | succ n =>
          rw [moietyref03_Same_l1] at H1
          refine wp_seq ?_
          refine wp_seq ?_
          refine wp_reg follows (N := 97) (L := [(2, (k_api_Record.ptr a0)), (3, (k_api_Record.ptr a1)), (5, (pInt .i64 x5))])
              (T := [⟨[.old 2], [(61, (pInt .i64 x5))], [], [], [61]⟩,
                ⟨[.old 0], [(62, (k_api_Item.sl.ptr a0.List))], [], [], [62]⟩,
                ⟨[.op 1 0], [(63, (k_api_Item.sl.pd a0.List))], [], [1], [63]⟩,
                ⟨[.op 2 0], [(64, (pInt .i64 (a0.List.length : Int)))], [], [1, 2], [64]⟩,
                ⟨[.op 0 0, .op 3 0], [(65, (pBool (decide (x5 < (a0.List.length : Int)))))], [], [0, 1, 2, 3], [65]⟩])
              (F := [.old 0, .old 1, .old 2, .op 4 0]) (by kernel_rfl)
              (allOT_cons (OT.plain rfl (ob_move rfl rfl Opd.t0))
                (allOT_cons (OT.plain rfl (ob_fieldAddr fl_38_7 rfl rfl Opd.t0))
                (allOT_cons (OT.plain rfl (ob_load ty_36 rfl rfl Opd.t0))
                (allOT_cons (OT.plain rfl (ob_lenL Try.underlying36 rfl rfl Opd.t0))
                (allOT_cons (OT.plain rfl (ob_lt rfl rfl Opd.t0 (Opd.tl Opd.t0)))
                allOT_nil)))))
              hst hb (fun a g hst hb => ?_)
          refine then_n ?_
          refine wp_cond_split (hst.bool 3 rfl) (fun hc6 => ?_) (fun hc6 => ?_)
          · replace H1 := ite_t hc6 H1
            refine wp_skip ?_
            refine then_n ?_
            refine wp_seq ?_
            refine wp_block ?_
            refine wp_seq ?_
            obtain ⟨e7, h8, H1⟩ := of_bind H1
            obtain ⟨e9, h10, H1⟩ := of_bind H1
            obtain ⟨e11, h12, H1⟩ := of_bind H1
            obtain ⟨e13, h14, H1⟩ := of_bind H1
            obtain ⟨r15, h16, H1⟩ := of_bind H1
            refine wp_reg follows (N := 97) (L := [(2, (k_api_Record.ptr a0)), (3, (k_api_Record.ptr a1)), (5, (pInt .i64 x5))])
                (T := [⟨[.old 0], [(68, (k_api_Item.sl.ptr a0.List))], [], [], [68]⟩,
                  ⟨[.op 0 0], [(69, (k_api_Item.sl.pd a0.List))], [], [0], [69]⟩,
                  ⟨[.old 2], [(70, (pInt .i64 x5))], [], [], [70]⟩,
                  ⟨[.op 1 0, .op 2 0], [(71, (k_api_Item.ptr e7))], [], [0, 1, 2], [71]⟩,
                  ⟨[.op 3 0], [(72, (Kd.str.ptr e7.Name))], [], [0, 1, 2, 3], [72]⟩,
                  ⟨[.op 4 0], [(73, (pStr e7.Name))], [], [0, 1, 2, 3, 4], [73]⟩,
                  ⟨[.old 1], [(74, (k_api_Item.sl.ptr a1.List))], [], [], [74]⟩,
                  ⟨[.op 6 0], [(75, (k_api_Item.sl.pd a1.List))], [], [6], [75]⟩,
                  ⟨[.old 2], [(76, (pInt .i64 x5))], [], [], [76]⟩,
                  ⟨[.op 7 0, .op 8 0], [(77, (k_api_Item.ptr e9))], [], [6, 7, 8], [77]⟩,
                  ⟨[.op 9 0], [(78, (Kd.str.ptr e9.Name))], [], [6, 7, 8, 9], [78]⟩,
                  ⟨[.op 10 0], [(79, (pStr e9.Name))], [], [6, 7, 8, 9, 10], [79]⟩,
                  ⟨[.op 5 0, .op 11 0], [(80, (pBool (!sEq e7.Name e9.Name)))], [], [0, 1, 2, 3, 4, 5, 6, 7, 8, 9, 10, 11], [80]⟩,
                  ⟨[.op 12 0], [(81, (pBool (!sEq e7.Name e9.Name)))], [], [0, 1, 2, 3, 4, 5, 6, 7, 8, 9, 10, 11, 12], [81]⟩,
                  ⟨[.op 13 0, .old 0], [(82, (pIf (!(!sEq e7.Name e9.Name)) (k_api_Item.sl.ptr a0.List)))], [], [0, 1, 2, 3, 4, 5, 6, 7, 8, 9, 10, 11, 12, 13], [82]⟩,
                  ⟨[.op 13 0, .op 14 0], [(83, (pIf (!(!sEq e7.Name e9.Name)) (k_api_Item.sl.pd a0.List)))], [], [0, 1, 2, 3, 4, 5, 6, 7, 8, 9, 10, 11, 12, 13, 14], [83]⟩,
                  ⟨[.op 13 0, .old 2], [(84, (pIf (!(!sEq e7.Name e9.Name)) (pInt .i64 x5)))], [], [0, 1, 2, 3, 4, 5, 6, 7, 8, 9, 10, 11, 12, 13], [84]⟩,
                  ⟨[.op 13 0, .op 15 0, .op 16 0], [(85, (pIf (!(!sEq e7.Name e9.Name)) (k_api_Item.ptr e11)))], [], [0, 1, 2, 3, 4, 5, 6, 7, 8, 9, 10, 11, 12, 13, 14, 15, 16], [85]⟩,
                  ⟨[.op 13 0, .op 17 0], [(86, (pIf (!(!sEq e7.Name e9.Name)) (Kd.flt.ptr e11.Score)))], [], [0, 1, 2, 3, 4, 5, 6, 7, 8, 9, 10, 11, 12, 13, 14, 15, 16, 17], [86]⟩,
                  ⟨[.op 13 0, .op 18 0], [(87, (pIf (!(!sEq e7.Name e9.Name)) (pFlt e11.Score)))], [], [0, 1, 2, 3, 4, 5, 6, 7, 8, 9, 10, 11, 12, 13, 14, 15, 16, 17, 18], [87]⟩,
                  ⟨[.op 13 0, .old 1], [(88, (pIf (!(!sEq e7.Name e9.Name)) (k_api_Item.sl.ptr a1.List)))], [], [0, 1, 2, 3, 4, 5, 6, 7, 8, 9, 10, 11, 12, 13], [88]⟩,
                  ⟨[.op 13 0, .op 20 0], [(89, (pIf (!(!sEq e7.Name e9.Name)) (k_api_Item.sl.pd a1.List)))], [], [0, 1, 2, 3, 4, 5, 6, 7, 8, 9, 10, 11, 12, 13, 20], [89]⟩,
                  ⟨[.op 13 0, .old 2], [(90, (pIf (!(!sEq e7.Name e9.Name)) (pInt .i64 x5)))], [], [0, 1, 2, 3, 4, 5, 6, 7, 8, 9, 10, 11, 12, 13], [90]⟩,
                  ⟨[.op 13 0, .op 21 0, .op 22 0], [(91, (pIf (!(!sEq e7.Name e9.Name)) (k_api_Item.ptr e13)))], [], [0, 1, 2, 3, 4, 5, 6, 7, 8, 9, 10, 11, 12, 13, 20, 21, 22], [91]⟩,
                  ⟨[.op 13 0, .op 23 0], [(92, (pIf (!(!sEq e7.Name e9.Name)) (Kd.flt.ptr e13.Score)))], [], [0, 1, 2, 3, 4, 5, 6, 7, 8, 9, 10, 11, 12, 13, 20, 21, 22, 23], [92]⟩,
                  ⟨[.op 13 0, .op 24 0], [(93, (pIf (!(!sEq e7.Name e9.Name)) (pFlt e13.Score)))], [], [0, 1, 2, 3, 4, 5, 6, 7, 8, 9, 10, 11, 12, 13, 20, 21, 22, 23, 24], [93]⟩,
                  ⟨[.op 13 0, .op 19 0, .op 25 0], [(94, (pIf (!(!sEq e7.Name e9.Name)) (pBool r15)))], [], [0, 1, 2, 3, 4, 5, 6, 7, 8, 9, 10, 11, 12, 13, 14, 15, 16, 17, 18, 19, 20, 21, 22, 23, 24, 25], [94]⟩,
                  ⟨[.op 13 0, .op 26 0], [(95, (pIf (!(!sEq e7.Name e9.Name)) (pBool (!r15))))], [], [0, 1, 2, 3, 4, 5, 6, 7, 8, 9, 10, 11, 12, 13, 14, 15, 16, 17, 18, 19, 20, 21, 22, 23, 24, 25, 26], [95]⟩,
                  ⟨[.op 13 0, .op 27 0], [(96, (pBool ((!sEq e7.Name e9.Name) || (!r15))))], [], [0, 1, 2, 3, 4, 5, 6, 7, 8, 9, 10, 11, 12, 13, 14, 15, 16, 17, 18, 19, 20, 21, 22, 23, 24, 25, 26, 27], [96]⟩])
                (F := [.old 0, .old 1, .old 2, .op 28 0]) (by kernel_rfl)
                (allOT_cons (OT.plain rfl (ob_fieldAddr fl_38_7 rfl rfl Opd.t0))
                  (allOT_cons (OT.plain rfl (ob_load ty_36 rfl rfl Opd.t0))
                  (allOT_cons (OT.plain rfl (ob_move rfl rfl Opd.t0))
                  (allOT_cons (OT.plain rfl (ob_indexAddr Try.underlying36 sz_64 rfl rfl Opd.t0 (Opd.tl Opd.t0) h8))
                  (allOT_cons (OT.plain rfl (ob_fieldAddr fl_64_1 rfl rfl Opd.t0))
                  (allOT_cons (OT.plain rfl (ob_load ty_9 rfl rfl Opd.t0))
                  (allOT_cons (OT.plain rfl (ob_fieldAddr fl_38_7 rfl rfl Opd.t0))
                  (allOT_cons (OT.plain rfl (ob_load ty_36 rfl rfl Opd.t0))
                  (allOT_cons (OT.plain rfl (ob_move rfl rfl Opd.t0))
                  (allOT_cons (OT.plain rfl (ob_indexAddr Try.underlying36 sz_64 rfl rfl Opd.t0 (Opd.tl Opd.t0) h10))
                  (allOT_cons (OT.plain rfl (ob_fieldAddr fl_64_1 rfl rfl Opd.t0))
                  (allOT_cons (OT.plain rfl (ob_load ty_9 rfl rfl Opd.t0))
                  (allOT_cons (OT.plain rfl (ob_sne rfl rfl Opd.t0 (Opd.tl Opd.t0)))
                  (allOT_cons (OT.plain rfl (ob_move rfl rfl Opd.t0))
                  (allOT_cons (OT.guard (outs := [(82, (k_api_Item.sl.ptr a0.List))]) (!(!sEq e7.Name e9.Name)) (gF (!sEq e7.Name e9.Name)).1 (gF (!sEq e7.Name e9.Name)).2 rfl rfl (fun e he => by rw [List.mem_singleton.1 he]) (fun hG => ob_fieldAddr fl_38_7 rfl rfl Opd.t0))
                  (allOT_cons (OT.guard (outs := [(83, (k_api_Item.sl.pd a0.List))]) (!(!sEq e7.Name e9.Name)) (gF (!sEq e7.Name e9.Name)).1 (gF (!sEq e7.Name e9.Name)).2 rfl rfl (fun e he => by rw [List.mem_singleton.1 he]) (fun hG => ob_load ty_36 rfl rfl (Opd.gd hG Opd.t0)))
                  (allOT_cons (OT.guard (outs := [(84, (pInt .i64 x5))]) (!(!sEq e7.Name e9.Name)) (gF (!sEq e7.Name e9.Name)).1 (gF (!sEq e7.Name e9.Name)).2 rfl rfl (fun e he => by rw [List.mem_singleton.1 he]) (fun hG => ob_move rfl rfl Opd.t0))
                  (allOT_cons (OT.guard (outs := [(85, (k_api_Item.ptr e11))]) (!(!sEq e7.Name e9.Name)) (gF (!sEq e7.Name e9.Name)).1 (gF (!sEq e7.Name e9.Name)).2 rfl rfl (fun e he => by rw [List.mem_singleton.1 he]) (fun hG => ob_indexAddr Try.underlying36 sz_64 rfl rfl (Opd.gd hG Opd.t0) (Opd.gd hG (Opd.tl Opd.t0)) (gd_true h12 hG)))
                  (allOT_cons (OT.guard (outs := [(86, (Kd.flt.ptr e11.Score))]) (!(!sEq e7.Name e9.Name)) (gF (!sEq e7.Name e9.Name)).1 (gF (!sEq e7.Name e9.Name)).2 rfl rfl (fun e he => by rw [List.mem_singleton.1 he]) (fun hG => ob_fieldAddr fl_64_0 rfl rfl (Opd.gd hG Opd.t0)))
                  (allOT_cons (OT.guard (outs := [(87, (pFlt e11.Score))]) (!(!sEq e7.Name e9.Name)) (gF (!sEq e7.Name e9.Name)).1 (gF (!sEq e7.Name e9.Name)).2 rfl rfl (fun e he => by rw [List.mem_singleton.1 he]) (fun hG => ob_load ty_35 rfl rfl (Opd.gd hG Opd.t0)))
                  (allOT_cons (OT.guard (outs := [(88, (k_api_Item.sl.ptr a1.List))]) (!(!sEq e7.Name e9.Name)) (gF (!sEq e7.Name e9.Name)).1 (gF (!sEq e7.Name e9.Name)).2 rfl rfl (fun e he => by rw [List.mem_singleton.1 he]) (fun hG => ob_fieldAddr fl_38_7 rfl rfl Opd.t0))
                  (allOT_cons (OT.guard (outs := [(89, (k_api_Item.sl.pd a1.List))]) (!(!sEq e7.Name e9.Name)) (gF (!sEq e7.Name e9.Name)).1 (gF (!sEq e7.Name e9.Name)).2 rfl rfl (fun e he => by rw [List.mem_singleton.1 he]) (fun hG => ob_load ty_36 rfl rfl (Opd.gd hG Opd.t0)))
                  (allOT_cons (OT.guard (outs := [(90, (pInt .i64 x5))]) (!(!sEq e7.Name e9.Name)) (gF (!sEq e7.Name e9.Name)).1 (gF (!sEq e7.Name e9.Name)).2 rfl rfl (fun e he => by rw [List.mem_singleton.1 he]) (fun hG => ob_move rfl rfl Opd.t0))
                  (allOT_cons (OT.guard (outs := [(91, (k_api_Item.ptr e13))]) (!(!sEq e7.Name e9.Name)) (gF (!sEq e7.Name e9.Name)).1 (gF (!sEq e7.Name e9.Name)).2 rfl rfl (fun e he => by rw [List.mem_singleton.1 he]) (fun hG => ob_indexAddr Try.underlying36 sz_64 rfl rfl (Opd.gd hG Opd.t0) (Opd.gd hG (Opd.tl Opd.t0)) (gd_true h14 hG)))
                  (allOT_cons (OT.guard (outs := [(92, (Kd.flt.ptr e13.Score))]) (!(!sEq e7.Name e9.Name)) (gF (!sEq e7.Name e9.Name)).1 (gF (!sEq e7.Name e9.Name)).2 rfl rfl (fun e he => by rw [List.mem_singleton.1 he]) (fun hG => ob_fieldAddr fl_64_0 rfl rfl (Opd.gd hG Opd.t0)))
                  (allOT_cons (OT.guard (outs := [(93, (pFlt e13.Score))]) (!(!sEq e7.Name e9.Name)) (gF (!sEq e7.Name e9.Name)).1 (gF (!sEq e7.Name e9.Name)).2 rfl rfl (fun e he => by rw [List.mem_singleton.1 he]) (fun hG => ob_load ty_35 rfl rfl (Opd.gd hG Opd.t0)))
                  (allOT_cons (OT.guard (outs := [(94, (pBool r15))]) (!(!sEq e7.Name e9.Name)) (gF (!sEq e7.Name e9.Name)).1 (gF (!sEq e7.Name e9.Name)).2 rfl rfl (fun e he => by rw [List.mem_singleton.1 he]) (fun hG => ob_call en_37 (moietyref01_Same_ok _ _ (gd_true h16 hG)) rfl rfl (.cons (Opd.gd hG Opd.t0) (.cons (Opd.gd hG (Opd.tl Opd.t0)) .nil))))
                  (allOT_cons (OT.guard (outs := [(95, (pBool (!r15)))]) (!(!sEq e7.Name e9.Name)) (gF (!sEq e7.Name e9.Name)).1 (gF (!sEq e7.Name e9.Name)).2 rfl rfl (fun e he => by rw [List.mem_singleton.1 he]) (fun hG => ob_not rfl rfl (Opd.gd hG Opd.t0)))
                  (allOT_cons (OT.plain rfl (ob_pick (q := (pBool ((!sEq e7.Name e9.Name) || (!r15)))) rfl rfl Opd.t0 (fun hz => Opd.to (Opd.c (bool_q _)) (congrArg (fun t => (pBool t)) (pk_or_t hz))) (fun hz => Opd.to (Opd.gd (bNF hz) (Opd.tl Opd.t0)) (congrArg (fun t => (pBool t)) (pk_or_f hz)))))
                  allOT_nil)))))))))))))))))))))))))))))
                (hst.pick [0, 1, 2] rfl) hb (fun a g hst hb => ?_)
            refine then_n ?_
            refine wp_cond_split (hst.bool 3 rfl) (fun hc17 => ?_) (fun hc17 => ?_)
            · replace H1 := ite_t hc17 H1
              refine wp_seq ?_
              refine wp_reg follows (N := 97) (L := [])
                  (T := [⟨[], [(4, (pBool false))], [], [], [4]⟩])
                  (F := [.op 0 0]) (by kernel_rfl)
                  (allOT_cons (OT.plain rfl (ob_assign rfl rfl (Opd.c (bool_q _))))
                    allOT_nil)
                  (hst.pick [] rfl) hb (fun a g hst hb => ?_)
              refine then_n ?_
              refine wp_ret ?_
              refine inBlock_r ?_
              refine then_r ?_
              refine then_r ?_
              refine inBlock_r ?_
              refine then_r ?_
              refine then_r ?_
              obtain rfl := Option.some.inj H1
              obtain rfl := Option.some.inj H0
              exact endR1 rfl hst hb (res_tmp (s := 4)) (hst.at 0 rfl)
            · replace H1 := ite_f hc17 H1
              refine wp_skip ?_
              refine inBlock_n ?_
              refine then_n ?_
              refine wp_reg follows (N := 97) (L := [(2, (k_api_Record.ptr a0)), (3, (k_api_Record.ptr a1)), (5, (pInt .i64 x5))])
                  (T := [⟨[.old 2], [(66, (pInt .i64 x5))], [], [], [66]⟩,
                    ⟨[.op 0 0], [(67, (pInt .i64 (IntKind.i64.wrap (x5 + (1 : Int)))))], [], [0], [67]⟩,
                    ⟨[.op 1 0], [(5, (pInt .i64 (IntKind.i64.wrap (x5 + (1 : Int)))))], [], [0, 1], [5]⟩])
                  (F := [.old 0, .old 1, .op 2 0]) (by kernel_rfl)
                  (allOT_cons (OT.plain rfl (ob_move rfl rfl Opd.t0))
                    (allOT_cons (OT.plain rfl (ob_add rfl rfl Opd.t0 (Opd.c (int_q _ _)) rfl))
                    (allOT_cons (OT.plain rfl (ob_assign rfl rfl Opd.t0))
                    allOT_nil)))
                  (hst.pick [0, 1, 2] rfl) hb (fun a g hst hb => ?_)
              exact ⟨n, Nat.lt_succ_self _, (IntKind.i64.wrap (x5 + (1 : Int))), g, rfl, (hst.pick [0, 1, 2] rfl), hb, H1⟩
          · replace H1 := ite_f hc6 H1
            refine wp_exit ?_
            refine then_e ?_
            refine then_e ?_
            refine inBlock_e ?_
            exact ⟨g, rfl, (hst.pick [] rfl), hb, Option.some.inj H1⟩
end Go.CL

set_option linter.unusedVariables false
set_option linter.unusedSimpArgs false
set_option maxRecDepth 100000
namespace Go.CL
open Go Go.RowKit Go.Proofs
theorem moietyref09_Same_ok (a0 : moietyref09_Shelf) (a1 : moietyref09_Shelf) {r : Bool} (h : moietyref09_Same a0 a1 = some r) : FnOk Try.prog 19 [(k_moietyref09_Shelf.pd a0), (k_moietyref09_Shelf.pd a1)] (pBool r) := by
  have H0 := h
  unfold moietyref09_Same at H0
  clear h
  refine fn_ok (N := 49) Try.func19 rfl rfl (Nat.le_of_ble_eq_true rfl) rfl rfl (fun a g0 hst hb => ?_)
  refine wp_seq ?_
  refine wp_reg follows (N := 49) (L := [(0, (k_moietyref09_Shelf.pd a0)), (1, (k_moietyref09_Shelf.pd a1))])
      (T := [⟨[.old 0], [(2, (k_moietyref09_Shelf.ptr a0))], [], [], [2]⟩,
        ⟨[.old 1], [(3, (k_moietyref09_Shelf.ptr a1))], [], [], [3]⟩,
        ⟨[], [(4, (pBool false))], [], [], [4]⟩])
      (F := [.op 0 0, .op 1 0]) (by kernel_rfl)
      (allOT_cons (OT.plain rfl (ob_box1 rfl rfl Opd.t0))
        (allOT_cons (OT.plain rfl (ob_box1 rfl rfl Opd.t0))
        (allOT_cons (OT.plain rfl (ob_assign rfl rfl (Opd.c (bool_q _))))
        allOT_nil)))
      hst hb (fun a g hst hb => ?_)
  refine then_n ?_
  refine wp_seq ?_
  refine wp_seq ?_
  refine wp_reg follows (N := 49) (L := [(2, (k_moietyref09_Shelf.ptr a0)), (3, (k_moietyref09_Shelf.ptr a1))])
      (T := [⟨[.old 0], [(6, (k_moietyref09_Pair.sl.ptr a0.L))], [], [], [6]⟩,
        ⟨[.op 0 0], [(7, (k_moietyref09_Pair.sl.pd a0.L))], [], [0], [7]⟩,
        ⟨[.op 1 0], [(8, (pInt .i64 (a0.L.length : Int)))], [], [0, 1], [8]⟩,
        ⟨[.old 1], [(9, (k_moietyref09_Pair.sl.ptr a1.L))], [], [], [9]⟩,
        ⟨[.op 3 0], [(10, (k_moietyref09_Pair.sl.pd a1.L))], [], [3], [10]⟩,
        ⟨[.op 4 0], [(11, (pInt .i64 (a1.L.length : Int)))], [], [3, 4], [11]⟩,
        ⟨[.op 2 0, .op 5 0], [(12, (pBool ((a0.L.length : Int) != (a1.L.length : Int))))], [], [0, 1, 2, 3, 4, 5], [12]⟩])
      (F := [.old 0, .old 1, .op 6 0]) (by kernel_rfl)
      (allOT_cons (OT.plain rfl (ob_fieldAddr fl_34_0 rfl rfl Opd.t0))
        (allOT_cons (OT.plain rfl (ob_load ty_32 rfl rfl Opd.t0))
        (allOT_cons (OT.plain rfl (ob_lenL Try.underlying32 rfl rfl Opd.t0))
        (allOT_cons (OT.plain rfl (ob_fieldAddr fl_34_0 rfl rfl Opd.t0))
        (allOT_cons (OT.plain rfl (ob_load ty_32 rfl rfl Opd.t0))
        (allOT_cons (OT.plain rfl (ob_lenL Try.underlying32 rfl rfl Opd.t0))
        (allOT_cons (OT.plain rfl (ob_ne rfl rfl Opd.t0 (Opd.tl Opd.t0)))
        allOT_nil)))))))
      hst hb (fun a g hst hb => ?_)
  refine then_n ?_
  refine wp_cond_split (hst.bool 2 rfl) (fun hc1 => ?_) (fun hc1 => ?_)
  · replace H0 := ite_t hc1 H0
    refine wp_seq ?_
    refine wp_reg follows (N := 49) (L := [])
        (T := [⟨[], [(4, (pBool false))], [], [], [4]⟩])
        (F := [.op 0 0]) (by kernel_rfl)
        (allOT_cons (OT.plain rfl (ob_assign rfl rfl (Opd.c (bool_q _))))
          allOT_nil)
        (hst.pick [] rfl) hb (fun a g hst hb => ?_)
    refine then_n ?_
    refine wp_ret ?_
    refine then_r ?_
    obtain rfl := Option.some.inj H0
    exact endR1 rfl hst hb (res_tmp (s := 4)) (hst.at 0 rfl)
  · replace H0 := ite_f hc1 H0
    refine wp_skip ?_
    refine then_n ?_
    refine wp_seq ?_
    refine wp_seq ?_
    refine wp_reg follows (N := 49) (L := [(2, (k_moietyref09_Shelf.ptr a0)), (3, (k_moietyref09_Shelf.ptr a1))])
        (T := [⟨[], [(5, (pInt .i64 (0 : Int)))], [], [], [5]⟩])
        (F := [.old 0, .old 1, .op 0 0]) (by kernel_rfl)
        (allOT_cons (OT.plain rfl (ob_assign rfl rfl (Opd.c (int_q _ _))))
          allOT_nil)
        (hst.pick [0, 1] rfl) hb (fun a g hst hb => ?_)
    refine then_n ?_
    obtain ⟨z15, hz1, H0⟩ := of_bind H0
    refine wp_cut (fun a w => ∃ (g : G), w = g.w ∧ St 49 [] a g ∧ Base g0 g ∧ (.inr ()) = z15) ?_ ?_
    · rintro a w ⟨g, rfl, hst, hb, rfl⟩
      refine then_n ?_
      refine wp_seq ?_
      refine wp_reg follows (N := 49) (L := [])
          (T := [⟨[], [(4, (pBool true))], [], [], [4]⟩])
          (F := [.op 0 0]) (by kernel_rfl)
          (allOT_cons (OT.plain rfl (ob_assign rfl rfl (Opd.c (bool_q _))))
            allOT_nil)
          hst hb (fun a g hst hb => ?_)
      refine then_n ?_
      refine wp_ret ?_
      obtain rfl := Option.some.inj H0
      exact endR1 rfl hst hb (res_tmp (s := 4)) (hst.at 0 rfl)
    · refine wp_block ?_
      refine wp_loop_ghost (fun n a w => ∃ (x2 : Int) (g : G), w = g.w ∧ St 49 [(2, (k_moietyref09_Shelf.ptr a0)), (3, (k_moietyref09_Shelf.ptr a1)), (5, (pInt .i64 x2))] a g ∧ Base g0 g ∧ moietyref09_Same_l1 a0 a1 n x2 = some z15) (Int.toNat ((a0.L.length : Int) - (0 : Int)) + 1) ⟨(0 : Int), g, rfl, (hst.pick [0, 1, 2] rfl), hb, hz1⟩ (fun n a w hI => ?_)
      obtain ⟨x2, g, rfl, hst, hb, H1⟩ := hI
      cases n with
      | zero => exact absurd H1 (by simp [moietyref09_Same_l1])
      | succ n =>
        rw [moietyref09_Same_l1] at H1
        refine wp_seq ?_
        refine wp_seq ?_
        refine wp_reg follows (N := 49) (L := [(2, (k_moietyref09_Shelf.ptr a0)), (3, (k_moietyref09_Shelf.ptr a1)), (5, (pInt .i64 x2))])
            (T := [⟨[.old 2], [(13, (pInt .i64 x2))], [], [], [13]⟩,
              ⟨[.old 0], [(14, (k_moietyref09_Pair.sl.ptr a0.L))], [], [], [14]⟩,
              ⟨[.op 1 0], [(15, (k_moietyref09_Pair.sl.pd a0.L))], [], [1], [15]⟩,
              ⟨[.op 2 0], [(16, (pInt .i64 (a0.L.length : Int)))], [], [1, 2], [16]⟩,
              ⟨[.op 0 0, .op 3 0], [(17, (pBool (decide (x2 < (a0.L.length : Int)))))], [], [0, 1, 2, 3], [17]⟩])
            (F := [.old 0, .old 1, .old 2, .op 4 0]) (by kernel_rfl)
            (allOT_cons (OT.plain rfl (ob_move rfl rfl Opd.t0))
              (allOT_cons (OT.plain rfl (ob_fieldAddr fl_34_0 rfl rfl Opd.t0))
              (allOT_cons (OT.plain rfl (ob_load ty_32 rfl rfl Opd.t0))
              (allOT_cons (OT.plain rfl (ob_lenL Try.underlying32 rfl rfl Opd.t0))
              (allOT_cons (OT.plain rfl (ob_lt rfl rfl Opd.t0 (Opd.tl Opd.t0)))
              allOT_nil)))))
            hst hb (fun a g hst hb => ?_)
        refine then_n ?_
        refine wp_cond_split (hst.bool 3 rfl) (fun hc3 => ?_) (fun hc3 => ?_)
        · replace H1 := ite_t hc3 H1
          refine wp_skip ?_
          refine then_n ?_
          refine wp_seq ?_
          refine wp_block ?_
          refine wp_seq ?_
          obtain ⟨e4, h5, H1⟩ := of_bind H1
          obtain ⟨e6, h7, H1⟩ := of_bind H1
          obtain ⟨e8, h9, H1⟩ := of_bind H1
          obtain ⟨e10, h11, H1⟩ := of_bind H1
          obtain ⟨r12, h13, H1⟩ := of_bind H1
          refine wp_reg follows (N := 49) (L := [(2, (k_moietyref09_Shelf.ptr a0)), (3, (k_moietyref09_Shelf.ptr a1)), (5, (pInt .i64 x2))])
              (T := [⟨[.old 0], [(20, (k_moietyref09_Pair.sl.ptr a0.L))], [], [], [20]⟩,
                ⟨[.op 0 0], [(21, (k_moietyref09_Pair.sl.pd a0.L))], [], [0], [21]⟩,
                ⟨[.old 2], [(22, (pInt .i64 x2))], [], [], [22]⟩,
                ⟨[.op 1 0, .op 2 0], [(23, (k_moietyref09_Pair.ptr e4))], [], [0, 1, 2], [23]⟩,
                ⟨[.op 3 0], [(24, (Kd.str.ptr e4.Key))], [], [0, 1, 2, 3], [24]⟩,
                ⟨[.op 4 0], [(25, (pStr e4.Key))], [], [0, 1, 2, 3, 4], [25]⟩,
                ⟨[.old 1], [(26, (k_moietyref09_Pair.sl.ptr a1.L))], [], [], [26]⟩,
                ⟨[.op 6 0], [(27, (k_moietyref09_Pair.sl.pd a1.L))], [], [6], [27]⟩,
                ⟨[.old 2], [(28, (pInt .i64 x2))], [], [], [28]⟩,
                ⟨[.op 7 0, .op 8 0], [(29, (k_moietyref09_Pair.ptr e6))], [], [6, 7, 8], [29]⟩,
                ⟨[.op 9 0], [(30, (Kd.str.ptr e6.Key))], [], [6, 7, 8, 9], [30]⟩,
                ⟨[.op 10 0], [(31, (pStr e6.Key))], [], [6, 7, 8, 9, 10], [31]⟩,
                ⟨[.op 5 0, .op 11 0], [(32, (pBool (!sEq e4.Key e6.Key)))], [], [0, 1, 2, 3, 4, 5, 6, 7, 8, 9, 10, 11], [32]⟩,
                ⟨[.op 12 0], [(33, (pBool (!sEq e4.Key e6.Key)))], [], [0, 1, 2, 3, 4, 5, 6, 7, 8, 9, 10, 11, 12], [33]⟩,
                ⟨[.op 13 0, .old 0], [(34, (pIf (!(!sEq e4.Key e6.Key)) (k_moietyref09_Pair.sl.ptr a0.L)))], [], [0, 1, 2, 3, 4, 5, 6, 7, 8, 9, 10, 11, 12, 13], [34]⟩,
                ⟨[.op 13 0, .op 14 0], [(35, (pIf (!(!sEq e4.Key e6.Key)) (k_moietyref09_Pair.sl.pd a0.L)))], [], [0, 1, 2, 3, 4, 5, 6, 7, 8, 9, 10, 11, 12, 13, 14], [35]⟩,
                ⟨[.op 13 0, .old 2], [(36, (pIf (!(!sEq e4.Key e6.Key)) (pInt .i64 x2)))], [], [0, 1, 2, 3, 4, 5, 6, 7, 8, 9, 10, 11, 12, 13], [36]⟩,
                ⟨[.op 13 0, .op 15 0, .op 16 0], [(37, (pIf (!(!sEq e4.Key e6.Key)) (k_moietyref09_Pair.ptr e8)))], [], [0, 1, 2, 3, 4, 5, 6, 7, 8, 9, 10, 11, 12, 13, 14, 15, 16], [37]⟩,
                ⟨[.op 13 0, .op 17 0], [(38, (pIf (!(!sEq e4.Key e6.Key)) (k_api_Record.ptr e8.Rec)))], [], [0, 1, 2, 3, 4, 5, 6, 7, 8, 9, 10, 11, 12, 13, 14, 15, 16, 17], [38]⟩,
                ⟨[.op 13 0, .op 18 0], [(39, (pIf (!(!sEq e4.Key e6.Key)) (k_api_Record.pd e8.Rec)))], [], [0, 1, 2, 3, 4, 5, 6, 7, 8, 9, 10, 11, 12, 13, 14, 15, 16, 17, 18], [39]⟩,
                ⟨[.op 13 0, .old 1], [(40, (pIf (!(!sEq e4.Key e6.Key)) (k_moietyref09_Pair.sl.ptr a1.L)))], [], [0, 1, 2, 3, 4, 5, 6, 7, 8, 9, 10, 11, 12, 13], [40]⟩,
                ⟨[.op 13 0, .op 20 0], [(41, (pIf (!(!sEq e4.Key e6.Key)) (k_moietyref09_Pair.sl.pd a1.L)))], [], [0, 1, 2, 3, 4, 5, 6, 7, 8, 9, 10, 11, 12, 13, 20], [41]⟩,
                ⟨[.op 13 0, .old 2], [(42, (pIf (!(!sEq e4.Key e6.Key)) (pInt .i64 x2)))], [], [0, 1, 2, 3, 4, 5, 6, 7, 8, 9, 10, 11, 12, 13], [42]⟩,
                ⟨[.op 13 0, .op 21 0, .op 22 0], [(43, (pIf (!(!sEq e4.Key e6.Key)) (k_moietyref09_Pair.ptr e10)))], [], [0, 1, 2, 3, 4, 5, 6, 7, 8, 9, 10, 11, 12, 13, 20, 21, 22], [43]⟩,
                ⟨[.op 13 0, .op 23 0], [(44, (pIf (!(!sEq e4.Key e6.Key)) (k_api_Record.ptr e10.Rec)))], [], [0, 1, 2, 3, 4, 5, 6, 7, 8, 9, 10, 11, 12, 13, 20, 21, 22, 23], [44]⟩,
                ⟨[.op 13 0, .op 24 0], [(45, (pIf (!(!sEq e4.Key e6.Key)) (k_api_Record.pd e10.Rec)))], [], [0, 1, 2, 3, 4, 5, 6, 7, 8, 9, 10, 11, 12, 13, 20, 21, 22, 23, 24], [45]⟩,
                ⟨[.op 13 0, .op 19 0, .op 25 0], [(46, (pIf (!(!sEq e4.Key e6.Key)) (pBool r12)))], [], [0, 1, 2, 3, 4, 5, 6, 7, 8, 9, 10, 11, 12, 13, 14, 15, 16, 17, 18, 19, 20, 21, 22, 23, 24, 25], [46]⟩,
                ⟨[.op 13 0, .op 26 0], [(47, (pIf (!(!sEq e4.Key e6.Key)) (pBool (!r12))))], [], [0, 1, 2, 3, 4, 5, 6, 7, 8, 9, 10, 11, 12, 13, 14, 15, 16, 17, 18, 19, 20, 21, 22, 23, 24, 25, 26], [47]⟩,
                ⟨[.op 13 0, .op 27 0], [(48, (pBool ((!sEq e4.Key e6.Key) || (!r12))))], [], [0, 1, 2, 3, 4, 5, 6, 7, 8, 9, 10, 11, 12, 13, 14, 15, 16, 17, 18, 19, 20, 21, 22, 23, 24, 25, 26, 27], [48]⟩])
              (F := [.old 0, .old 1, .old 2, .op 28 0]) (by kernel_rfl)
              (allOT_cons (OT.plain rfl (ob_fieldAddr fl_34_0 rfl rfl Opd.t0))
                (allOT_cons (OT.plain rfl (ob_load ty_32 rfl rfl Opd.t0))
                (allOT_cons (OT.plain rfl (ob_move rfl rfl Opd.t0))
                (allOT_cons (OT.plain rfl (ob_indexAddr Try.underlying32 sz_54 rfl rfl Opd.t0 (Opd.tl Opd.t0) h5))
                (allOT_cons (OT.plain rfl (ob_fieldAddr fl_54_0 rfl rfl Opd.t0))
                (allOT_cons (OT.plain rfl (ob_load ty_9 rfl rfl Opd.t0))
                (allOT_cons (OT.plain rfl (ob_fieldAddr fl_34_0 rfl rfl Opd.t0))
                (allOT_cons (OT.plain rfl (ob_load ty_32 rfl rfl Opd.t0))
                (allOT_cons (OT.plain rfl (ob_move rfl rfl Opd.t0))
                (allOT_cons (OT.plain rfl (ob_indexAddr Try.underlying32 sz_54 rfl rfl Opd.t0 (Opd.tl Opd.t0) h7))
                (allOT_cons (OT.plain rfl (ob_fieldAddr fl_54_0 rfl rfl Opd.t0))
                (allOT_cons (OT.plain rfl (ob_load ty_9 rfl rfl Opd.t0))
                (allOT_cons (OT.plain rfl (ob_sne rfl rfl Opd.t0 (Opd.tl Opd.t0)))
                (allOT_cons (OT.plain rfl (ob_move rfl rfl Opd.t0))
                (allOT_cons (OT.guard (outs := [(34, (k_moietyref09_Pair.sl.ptr a0.L))]) (!(!sEq e4.Key e6.Key)) (gF (!sEq e4.Key e6.Key)).1 (gF (!sEq e4.Key e6.Key)).2 rfl rfl (fun e he => by rw [List.mem_singleton.1 he]) (fun hG => ob_fieldAddr fl_34_0 rfl rfl Opd.t0))
                (allOT_cons (OT.guard (outs := [(35, (k_moietyref09_Pair.sl.pd a0.L))]) (!(!sEq e4.Key e6.Key)) (gF (!sEq e4.Key e6.Key)).1 (gF (!sEq e4.Key e6.Key)).2 rfl rfl (fun e he => by rw [List.mem_singleton.1 he]) (fun hG => ob_load ty_32 rfl rfl (Opd.gd hG Opd.t0)))
                (allOT_cons (OT.guard (outs := [(36, (pInt .i64 x2))]) (!(!sEq e4.Key e6.Key)) (gF (!sEq e4.Key e6.Key)).1 (gF (!sEq e4.Key e6.Key)).2 rfl rfl (fun e he => by rw [List.mem_singleton.1 he]) (fun hG => ob_move rfl rfl Opd.t0))
                (allOT_cons (OT.guard (outs := [(37, (k_moietyref09_Pair.ptr e8))]) (!(!sEq e4.Key e6.Key)) (gF (!sEq e4.Key e6.Key)).1 (gF (!sEq e4.Key e6.Key)).2 rfl rfl (fun e he => by rw [List.mem_singleton.1 he]) (fun hG => ob_indexAddr Try.underlying32 sz_54 rfl rfl (Opd.gd hG Opd.t0) (Opd.gd hG (Opd.tl Opd.t0)) (gd_true h9 hG)))
                (allOT_cons (OT.guard (outs := [(38, (k_api_Record.ptr e8.Rec))]) (!(!sEq e4.Key e6.Key)) (gF (!sEq e4.Key e6.Key)).1 (gF (!sEq e4.Key e6.Key)).2 rfl rfl (fun e he => by rw [List.mem_singleton.1 he]) (fun hG => ob_fieldAddr fl_54_1 rfl rfl (Opd.gd hG Opd.t0)))
                (allOT_cons (OT.guard (outs := [(39, (k_api_Record.pd e8.Rec))]) (!(!sEq e4.Key e6.Key)) (gF (!sEq e4.Key e6.Key)).1 (gF (!sEq e4.Key e6.Key)).2 rfl rfl (fun e he => by rw [List.mem_singleton.1 he]) (fun hG => ob_load ty_38 rfl rfl (Opd.gd hG Opd.t0)))
                (allOT_cons (OT.guard (outs := [(40, (k_moietyref09_Pair.sl.ptr a1.L))]) (!(!sEq e4.Key e6.Key)) (gF (!sEq e4.Key e6.Key)).1 (gF (!sEq e4.Key e6.Key)).2 rfl rfl (fun e he => by rw [List.mem_singleton.1 he]) (fun hG => ob_fieldAddr fl_34_0 rfl rfl Opd.t0))
                (allOT_cons (OT.guard (outs := [(41, (k_moietyref09_Pair.sl.pd a1.L))]) (!(!sEq e4.Key e6.Key)) (gF (!sEq e4.Key e6.Key)).1 (gF (!sEq e4.Key e6.Key)).2 rfl rfl (fun e he => by rw [List.mem_singleton.1 he]) (fun hG => ob_load ty_32 rfl rfl (Opd.gd hG Opd.t0)))
                (allOT_cons (OT.guard (outs := [(42, (pInt .i64 x2))]) (!(!sEq e4.Key e6.Key)) (gF (!sEq e4.Key e6.Key)).1 (gF (!sEq e4.Key e6.Key)).2 rfl rfl (fun e he => by rw [List.mem_singleton.1 he]) (fun hG => ob_move rfl rfl Opd.t0))
                (allOT_cons (OT.guard (outs := [(43, (k_moietyref09_Pair.ptr e10))]) (!(!sEq e4.Key e6.Key)) (gF (!sEq e4.Key e6.Key)).1 (gF (!sEq e4.Key e6.Key)).2 rfl rfl (fun e he => by rw [List.mem_singleton.1 he]) (fun hG => ob_indexAddr Try.underlying32 sz_54 rfl rfl (Opd.gd hG Opd.t0) (Opd.gd hG (Opd.tl Opd.t0)) (gd_true h11 hG)))
                (allOT_cons (OT.guard (outs := [(44, (k_api_Record.ptr e10.Rec))]) (!(!sEq e4.Key e6.Key)) (gF (!sEq e4.Key e6.Key)).1 (gF (!sEq e4.Key e6.Key)).2 rfl rfl (fun e he => by rw [List.mem_singleton.1 he]) (fun hG => ob_fieldAddr fl_54_1 rfl rfl (Opd.gd hG Opd.t0)))
                (allOT_cons (OT.guard (outs := [(45, (k_api_Record.pd e10.Rec))]) (!(!sEq e4.Key e6.Key)) (gF (!sEq e4.Key e6.Key)).1 (gF (!sEq e4.Key e6.Key)).2 rfl rfl (fun e he => by rw [List.mem_singleton.1 he]) (fun hG => ob_load ty_38 rfl rfl (Opd.gd hG Opd.t0)))
                (allOT_cons (OT.guard (outs := [(46, (pBool r12))]) (!(!sEq e4.Key e6.Key)) (gF (!sEq e4.Key e6.Key)).1 (gF (!sEq e4.Key e6.Key)).2 rfl rfl (fun e he => by rw [List.mem_singleton.1 he]) (fun hG => ob_call en_25 (moietyref03_Same_ok _ _ (gd_true h13 hG)) rfl rfl (.cons (Opd.gd hG Opd.t0) (.cons (Opd.gd hG (Opd.tl Opd.t0)) .nil))))
                (allOT_cons (OT.guard (outs := [(47, (pBool (!r12)))]) (!(!sEq e4.Key e6.Key)) (gF (!sEq e4.Key e6.Key)).1 (gF (!sEq e4.Key e6.Key)).2 rfl rfl (fun e he => by rw [List.mem_singleton.1 he]) (fun hG => ob_not rfl rfl (Opd.gd hG Opd.t0)))
                (allOT_cons (OT.plain rfl (ob_pick (q := (pBool ((!sEq e4.Key e6.Key) || (!r12)))) rfl rfl Opd.t0 (fun hz => Opd.to (Opd.c (bool_q _)) (congrArg (fun t => (pBool t)) (pk_or_t hz))) (fun hz => Opd.to (Opd.gd (bNF hz) (Opd.tl Opd.t0)) (congrArg (fun t => (pBool t)) (pk_or_f hz)))))
                allOT_nil)))))))))))))))))))))))))))))
              (hst.pick [0, 1, 2] rfl) hb (fun a g hst hb => ?_)
          refine then_n ?_
          refine wp_cond_split (hst.bool 3 rfl) (fun hc14 => ?_) (fun hc14 => ?_)
          · replace H1 := ite_t hc14 H1
            refine wp_seq ?_
            refine wp_reg follows (N := 49) (L := [])
                (T := [⟨[], [(4, (pBool false))], [], [], [4]⟩])
                (F := [.op 0 0]) (by kernel_rfl)
                (allOT_cons (OT.plain rfl (ob_assign rfl rfl (Opd.c (bool_q _))))
                  allOT_nil)
                (hst.pick [] rfl) hb (fun a g hst hb => ?_)
            refine then_n ?_
            refine wp_ret ?_
            refine inBlock_r ?_
            refine then_r ?_
            refine then_r ?_
            refine inBlock_r ?_
            refine then_r ?_
            refine then_r ?_
            obtain rfl := Option.some.inj H1
            obtain rfl := Option.some.inj H0
            exact endR1 rfl hst hb (res_tmp (s := 4)) (hst.at 0 rfl)
          · replace H1 := ite_f hc14 H1
            refine wp_skip ?_
            refine inBlock_n ?_
            refine then_n ?_
            refine wp_reg follows (N := 49) (L := [(2, (k_moietyref09_Shelf.ptr a0)), (3, (k_moietyref09_Shelf.ptr a1)), (5, (pInt .i64 x2))])
                (T := [⟨[.old 2], [(18, (pInt .i64 x2))], [], [], [18]⟩,
                  ⟨[.op 0 0], [(19, (pInt .i64 (IntKind.i64.wrap (x2 + (1 : Int)))))], [], [0], [19]⟩,
                  ⟨[.op 1 0], [(5, (pInt .i64 (IntKind.i64.wrap (x2 + (1 : Int)))))], [], [0, 1], [5]⟩])
                (F := [.old 0, .old 1, .op 2 0]) (by kernel_rfl)
                (allOT_cons (OT.plain rfl (ob_move rfl rfl Opd.t0))
                  (allOT_cons (OT.plain rfl (ob_add rfl rfl Opd.t0 (Opd.c (int_q _ _)) rfl))
                  (allOT_cons (OT.plain rfl (ob_assign rfl rfl Opd.t0))
                  allOT_nil)))
                (hst.pick [0, 1, 2] rfl) hb (fun a g hst hb => ?_)
            exact ⟨n, Nat.lt_succ_self _, (IntKind.i64.wrap (x2 + (1 : Int))), g, rfl, (hst.pick [0, 1, 2] rfl), hb, H1⟩
        · replace H1 := ite_f hc3 H1
          refine wp_exit ?_
          refine then_e ?_
          refine then_e ?_
          refine inBlock_e ?_
          exact ⟨g, rfl, (hst.pick [] rfl), hb, Option.some.inj H1⟩
end Go.CL
