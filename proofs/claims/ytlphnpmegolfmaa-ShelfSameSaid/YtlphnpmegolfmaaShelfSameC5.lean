/- A part of the proof of ShelfSame. -/
import Derived.Test.YtlphnpmegolfmaaShelfSameC4
set_option linter.unusedVariables false
set_option linter.unusedSimpArgs false
set_option maxRecDepth 100000
namespace Go.CL
open Go Go.RowKit Go.Proofs
theorem moietylaw03_Big_ok (a0 : api_Record) {r : Int} (h : moietylaw03_Big a0 = some r) : FnOk Try.prog 30 [(k_api_Record.pd a0)] (pInt .i64 r) := by
  have H0 := h
  unfold moietylaw03_Big at H0
  clear h
  refine fn_ok (N := 27) Try.func30 rfl rfl (Nat.le_of_ble_eq_true rfl) rfl rfl (fun a g0 hst hb => ?_)
  refine wp_seq ?_
  refine wp_reg follows (N := 27) (L := [(0, (k_api_Record.pd a0))])
      (T := [⟨[.old 0], [(1, (k_api_Record.ptr a0))], [], [], [1]⟩,
        ⟨[], [(2, (pInt .i64 (0 : Int)))], [], [], [2]⟩])
      (F := [.op 0 0]) (by kernel_rfl)
      (allOT_cons (OT.plain rfl (ob_box1 rfl rfl Opd.t0))
        (allOT_cons (OT.plain rfl (ob_assign rfl rfl (Opd.c (int_q _ _))))
        allOT_nil))
      hst hb (fun a g hst hb => ?_)
  refine then_n ?_
  refine wp_seq ?_
  refine wp_seq ?_
  refine wp_reg follows (N := 27) (L := [(1, (k_api_Record.ptr a0))])
      (T := [⟨[.old 0], [(5, (k_api_Item.sl.ptr a0.List))], [], [], [5]⟩,
        ⟨[.op 0 0], [(6, (k_api_Item.sl.pd a0.List))], [], [0], [6]⟩,
        ⟨[.op 1 0], [(7, (pInt .i64 (a0.List.length : Int)))], [], [0, 1], [7]⟩,
        ⟨[.op 2 0], [(8, (pBool (decide ((100 : Int) < (a0.List.length : Int)))))], [], [0, 1, 2], [8]⟩,
        ⟨[.op 3 0], [(9, (pBool (decide ((100 : Int) < (a0.List.length : Int)))))], [], [0, 1, 2, 3], [9]⟩,
        ⟨[.op 4 0, .old 0], [(10, (pIf (!(decide ((100 : Int) < (a0.List.length : Int)))) (Kd.str.ptr a0.Text)))], [], [0, 1, 2, 3, 4], [10]⟩,
        ⟨[.op 4 0, .op 5 0], [(11, (pIf (!(decide ((100 : Int) < (a0.List.length : Int)))) (pStr a0.Text)))], [], [0, 1, 2, 3, 4, 5], [11]⟩,
        ⟨[.op 4 0, .op 6 0], [(12, (pIf (!(decide ((100 : Int) < (a0.List.length : Int)))) (pInt .i64 (a0.Text.size : Int))))], [], [0, 1, 2, 3, 4, 5, 6], [12]⟩,
        ⟨[.op 4 0, .op 7 0], [(13, (pIf (!(decide ((100 : Int) < (a0.List.length : Int)))) (pBool (decide ((1000 : Int) < (a0.Text.size : Int))))))], [], [0, 1, 2, 3, 4, 5, 6, 7], [13]⟩,
        ⟨[.op 4 0, .op 8 0], [(14, (pBool ((decide ((100 : Int) < (a0.List.length : Int))) || (decide ((1000 : Int) < (a0.Text.size : Int))))))], [], [0, 1, 2, 3, 4, 5, 6, 7, 8], [14]⟩])
      (F := [.old 0, .op 9 0]) (by kernel_rfl)
      (allOT_cons (OT.plain rfl (ob_fieldAddr fl_38_7 rfl rfl Opd.t0))
        (allOT_cons (OT.plain rfl (ob_load ty_36 rfl rfl Opd.t0))
        (allOT_cons (OT.plain rfl (ob_lenL Try.underlying36 rfl rfl Opd.t0))
        (allOT_cons (OT.plain rfl (ob_gt rfl rfl Opd.t0 (Opd.c (int_q _ _))))
        (allOT_cons (OT.plain rfl (ob_move rfl rfl Opd.t0))
        (allOT_cons (OT.guard (outs := [(10, (Kd.str.ptr a0.Text))]) (!(decide ((100 : Int) < (a0.List.length : Int)))) (gF (decide ((100 : Int) < (a0.List.length : Int)))).1 (gF (decide ((100 : Int) < (a0.List.length : Int)))).2 rfl rfl (fun e he => by rw [List.mem_singleton.1 he]) (fun hG => ob_fieldAddr fl_38_6 rfl rfl Opd.t0))
        (allOT_cons (OT.guard (outs := [(11, (pStr a0.Text))]) (!(decide ((100 : Int) < (a0.List.length : Int)))) (gF (decide ((100 : Int) < (a0.List.length : Int)))).1 (gF (decide ((100 : Int) < (a0.List.length : Int)))).2 rfl rfl (fun e he => by rw [List.mem_singleton.1 he]) (fun hG => ob_load ty_9 rfl rfl (Opd.gd hG Opd.t0)))
        (allOT_cons (OT.guard (outs := [(12, (pInt .i64 (a0.Text.size : Int)))]) (!(decide ((100 : Int) < (a0.List.length : Int)))) (gF (decide ((100 : Int) < (a0.List.length : Int)))).1 (gF (decide ((100 : Int) < (a0.List.length : Int)))).2 rfl rfl (fun e he => by rw [List.mem_singleton.1 he]) (fun hG => ob_lenS Try.underlying9 rfl rfl (Opd.gd hG Opd.t0)))
        (allOT_cons (OT.guard (outs := [(13, (pBool (decide ((1000 : Int) < (a0.Text.size : Int)))))]) (!(decide ((100 : Int) < (a0.List.length : Int)))) (gF (decide ((100 : Int) < (a0.List.length : Int)))).1 (gF (decide ((100 : Int) < (a0.List.length : Int)))).2 rfl rfl (fun e he => by rw [List.mem_singleton.1 he]) (fun hG => ob_gt rfl rfl (Opd.gd hG Opd.t0) (Opd.c (int_q _ _))))
        (allOT_cons (OT.plain rfl (ob_pick (q := (pBool ((decide ((100 : Int) < (a0.List.length : Int))) || (decide ((1000 : Int) < (a0.Text.size : Int)))))) rfl rfl Opd.t0 (fun hz => Opd.to (Opd.c (bool_q _)) (congrArg (fun t => (pBool t)) (pk_or_t hz))) (fun hz => Opd.to (Opd.gd (bNF hz) (Opd.tl Opd.t0)) (congrArg (fun t => (pBool t)) (pk_or_f hz)))))
        allOT_nil))))))))))
      hst hb (fun a g hst hb => ?_)
  refine then_n ?_
  refine wp_cond_split (hst.bool 1 rfl) (fun hc1 => ?_) (fun hc1 => ?_)
  · replace H0 := ite_t hc1 H0
    refine wp_seq ?_
    refine wp_reg follows (N := 27) (L := [])
        (T := [⟨[], [(2, (pInt .i64 (1 : Int)))], [], [], [2]⟩])
        (F := [.op 0 0]) (by kernel_rfl)
        (allOT_cons (OT.plain rfl (ob_assign rfl rfl (Opd.c (int_q _ _))))
          allOT_nil)
        (hst.pick [] rfl) hb (fun a g hst hb => ?_)
    refine then_n ?_
    refine wp_ret ?_
    refine then_r ?_
    obtain rfl := Option.some.inj H0
    exact endR1 rfl hst hb (res_tmp (s := 2)) (hst.at 0 rfl)
  · replace H0 := ite_f hc1 H0
    refine wp_skip ?_
    refine then_n ?_
    refine wp_seq ?_
    refine wp_seq ?_
    refine wp_reg follows (N := 27) (L := [(1, (k_api_Record.ptr a0))])
        (T := [⟨[.old 0], [(15, (k_api_Item.sl.ptr a0.List))], [], [], [15]⟩,
          ⟨[.op 0 0], [(16, (k_api_Item.sl.pd a0.List))], [], [0], [16]⟩,
          ⟨[.op 1 0], [(17, (pInt .i64 (a0.List.length : Int)))], [], [0, 1], [17]⟩,
          ⟨[], [(18, (pInt .i64 (0 : Int)))], [], [], [18]⟩])
        (F := [.op 1 0, .op 2 0, .op 3 0]) (by kernel_rfl)
        (allOT_cons (OT.plain rfl (ob_fieldAddr fl_38_7 rfl rfl Opd.t0))
          (allOT_cons (OT.plain rfl (ob_load ty_36 rfl rfl Opd.t0))
          (allOT_cons (OT.plain rfl (ob_lenL Try.underlying36 rfl rfl Opd.t0))
          (allOT_cons (OT.plain rfl (ob_move rfl rfl (Opd.c (int_q _ _))))
          allOT_nil))))
        (hst.pick [0] rfl) hb (fun a g hst hb => ?_)
    refine then_n ?_
    obtain ⟨z7, hz1, H0⟩ := of_bind H0
    refine wp_cut (fun a w => ∃ (g : G), w = g.w ∧ St 27 [] a g ∧ Base g0 g ∧ (.inr ()) = z7) ?_ ?_
    · rintro a w ⟨g, rfl, hst, hb, rfl⟩
      refine then_n ?_
      refine wp_seq ?_
      refine wp_reg follows (N := 27) (L := [])
          (T := [⟨[], [(2, (pInt .i64 (0 : Int)))], [], [], [2]⟩])
          (F := [.op 0 0]) (by kernel_rfl)
          (allOT_cons (OT.plain rfl (ob_assign rfl rfl (Opd.c (int_q _ _))))
            allOT_nil)
          hst hb (fun a g hst hb => ?_)
      refine then_n ?_
      refine wp_ret ?_
      obtain rfl := Option.some.inj H0
      exact endR1 rfl hst hb (res_tmp (s := 2)) (hst.at 0 rfl)
    · refine wp_block ?_
      refine wp_loop_ghost (fun n a w => ∃ (x2 : Int) (g : G), w = g.w ∧ St 27 [(16, (k_api_Item.sl.pd a0.List)), (17, (pInt .i64 (a0.List.length : Int))), (18, (pInt .i64 x2))] a g ∧ Base g0 g ∧ moietylaw03_Big_l1 a0 n x2 = some z7) (Int.toNat ((a0.List.length : Int) - (0 : Int)) + 1) ⟨(0 : Int), g, rfl, (hst.pick [0, 1, 2] rfl), hb, hz1⟩ (fun n a w hI => ?_)
      obtain ⟨x2, g, rfl, hst, hb, H1⟩ := hI
      cases n with
      | zero => exact absurd H1 (by simp [moietylaw03_Big_l1])
      | succ n =>
        rw [moietylaw03_Big_l1] at H1
        refine wp_seq ?_
        refine wp_reg follows (N := 27) (L := [(16, (k_api_Item.sl.pd a0.List)), (17, (pInt .i64 (a0.List.length : Int))), (18, (pInt .i64 x2))])
            (T := [⟨[.old 2, .old 1], [(19, (pBool (decide (x2 < (a0.List.length : Int)))))], [], [], [19]⟩])
            (F := [.old 0, .old 1, .old 2, .op 0 0]) (by kernel_rfl)
            (allOT_cons (OT.plain rfl (ob_lt rfl rfl Opd.t0 (Opd.tl Opd.t0)))
              allOT_nil)
            hst hb (fun a g hst hb => ?_)
        refine then_n ?_
        refine wp_seq ?_
        refine wp_cond_split (hst.bool 3 rfl) (fun hc3 => ?_) (fun hc3 => ?_)
        · replace H1 := ite_t hc3 H1
          refine wp_skip ?_
          refine then_n ?_
          refine wp_seq ?_
          refine wp_block ?_
          refine wp_seq ?_
          obtain ⟨e4, h5, H1⟩ := of_bind H1
          refine wp_reg follows (N := 27) (L := [(16, (k_api_Item.sl.pd a0.List)), (17, (pInt .i64 (a0.List.length : Int))), (18, (pInt .i64 x2))])
              (T := [⟨[.old 0, .old 2], [(20, (k_api_Item.ptr e4))], [], [], [20]⟩,
                ⟨[.op 0 0], [(21, (k_api_Item.pd e4))], [], [0], [21]⟩,
                ⟨[], [(4, (pBox k_api_Item 4 (default : api_Item)))], [5], [], [4]⟩,
                ⟨[.op 1 0, .op 2 0], [(4, (k_api_Item.ptr e4))], [5], [0, 1, 2], [4]⟩])
              (F := [.op 3 0, .old 0, .old 1, .old 2]) (by kernel_rfl)
              (allOT_cons (OT.plain rfl (ob_indexAddr Try.underlying36 sz_64 rfl rfl Opd.t0 (Opd.tl Opd.t0) h5))
                (allOT_cons (OT.plain rfl (ob_load ty_64 rfl rfl Opd.t0))
                (allOT_cons (OT.plain rfl (ob_alloc (zs := [.float .f64 0, .string ByteArray.empty]) (by kernel_rfl) (fun g => zk_api_Item g) rfl rfl))
                (allOT_cons (OT.plain rfl (ob_storeF ty_64 rfl rfl (Opd.tl Opd.t0) Opd.t0))
                allOT_nil))))
              (hst.pick [0, 1, 2] rfl) hb (fun a g hst hb => ?_)
          refine then_n ?_
          refine wp_seq ?_
          refine wp_reg follows (N := 27) (L := [(4, (k_api_Item.ptr e4)), (16, (k_api_Item.sl.pd a0.List)), (17, (pInt .i64 (a0.List.length : Int))), (18, (pInt .i64 x2))])
              (T := [⟨[.old 0], [(22, (Kd.str.ptr e4.Name))], [], [], [22]⟩,
                ⟨[.op 0 0], [(23, (pStr e4.Name))], [], [0], [23]⟩,
                ⟨[.op 1 0], [(24, (pInt .i64 (e4.Name.size : Int)))], [], [0, 1], [24]⟩,
                ⟨[.op 2 0], [(25, (pBool (decide ((100 : Int) < (e4.Name.size : Int)))))], [], [0, 1, 2], [25]⟩])
              (F := [.old 1, .old 2, .old 3, .op 3 0]) (by kernel_rfl)
              (allOT_cons (OT.plain rfl (ob_fieldAddr fl_64_1 rfl rfl Opd.t0))
                (allOT_cons (OT.plain rfl (ob_load ty_9 rfl rfl Opd.t0))
                (allOT_cons (OT.plain rfl (ob_lenS Try.underlying9 rfl rfl Opd.t0))
                (allOT_cons (OT.plain rfl (ob_gt rfl rfl Opd.t0 (Opd.c (int_q _ _))))
                allOT_nil))))
              hst hb (fun a g hst hb => ?_)
          refine then_n ?_
          refine wp_cond_split (hst.bool 3 rfl) (fun hc6 => ?_) (fun hc6 => ?_)
          · replace H1 := ite_t hc6 H1
            refine wp_seq ?_
            refine wp_reg follows (N := 27) (L := [])
                (T := [⟨[], [(2, (pInt .i64 (1 : Int)))], [], [], [2]⟩])
                (F := [.op 0 0]) (by kernel_rfl)
                (allOT_cons (OT.plain rfl (ob_assign rfl rfl (Opd.c (int_q _ _))))
                  allOT_nil)
                (hst.pick [] rfl) hb (fun a g hst hb => ?_)
            refine then_n ?_
            refine wp_ret ?_
            refine inBlock_r ?_
            refine then_r ?_
            refine then_r ?_
            refine inBlock_r ?_
            refine then_r ?_
            refine then_r ?_
            obtain rfl := Option.some.inj H1
            obtain rfl := Option.some.inj H0
            exact endR1 rfl hst hb (res_tmp (s := 2)) (hst.at 0 rfl)
          · replace H1 := ite_f hc6 H1
            refine wp_skip ?_
            refine inBlock_n ?_
            refine then_n ?_
            refine wp_reg follows (N := 27) (L := [(16, (k_api_Item.sl.pd a0.List)), (17, (pInt .i64 (a0.List.length : Int))), (18, (pInt .i64 x2))])
                (T := [⟨[.old 2], [(26, (pInt .i64 (IntKind.i64.wrap (x2 + (1 : Int)))))], [], [], [26]⟩,
                  ⟨[.op 0 0], [(18, (pInt .i64 (IntKind.i64.wrap (x2 + (1 : Int)))))], [], [0], [18]⟩])
                (F := [.old 0, .old 1, .op 1 0]) (by kernel_rfl)
                (allOT_cons (OT.plain rfl (ob_add rfl rfl Opd.t0 (Opd.c (int_q _ _)) rfl))
                  (allOT_cons (OT.plain rfl (ob_move rfl rfl Opd.t0))
                  allOT_nil))
                (hst.pick [0, 1, 2] rfl) hb (fun a g hst hb => ?_)
            exact ⟨n, Nat.lt_succ_self _, (IntKind.i64.wrap (x2 + (1 : Int))), g, rfl, (hst.pick [0, 1, 2] rfl), hb, H1⟩
        · replace H1 := ite_f hc3 H1
          refine wp_exit ?_
          refine then_e ?_
          refine then_e ?_
          refine inBlock_e ?_
          exact ⟨g, rfl, (hst.pick [] rfl), hb, Option.some.inj H1⟩
end Go.CL

set_option linter.unusedVariables false
set_option linter.unusedSimpArgs false
set_option maxRecDepth 100000
namespace Go.CL
open Go Go.RowKit Go.Proofs
theorem moietylaw09_big_ok (a0 : List moietylaw09_Op) {r : Bool} (h : moietylaw09_big a0 = some r) : FnOk Try.prog 9 [(k_moietylaw09_Op.sl.pd a0)] (pBool r) := by
  have H0 := h
  unfold moietylaw09_big at H0
  clear h
  refine fn_ok (N := 25) Try.func9 rfl rfl (Nat.le_of_ble_eq_true rfl) rfl rfl (fun a g0 hst hb => ?_)
  refine wp_seq ?_
  refine wp_reg follows (N := 25) (L := [(0, (k_moietylaw09_Op.sl.pd a0))])
      (T := [⟨[], [(2, (pBool false))], [], [], [2]⟩])
      (F := [.old 0]) (by kernel_rfl)
      (allOT_cons (OT.plain rfl (ob_assign rfl rfl (Opd.c (bool_q _))))
        allOT_nil)
      hst hb (fun a g hst hb => ?_)
  refine then_n ?_
  refine wp_seq ?_
  refine wp_seq ?_
  refine wp_reg follows (N := 25) (L := [(0, (k_moietylaw09_Op.sl.pd a0))])
      (T := [⟨[.old 0], [(5, (k_moietylaw09_Op.sl.pd a0))], [], [], [5]⟩,
        ⟨[.op 0 0], [(6, (pInt .i64 (a0.length : Int)))], [], [0], [6]⟩,
        ⟨[.op 1 0], [(7, (pBool (decide ((300 : Int) < (a0.length : Int)))))], [], [0, 1], [7]⟩])
      (F := [.old 0, .op 2 0]) (by kernel_rfl)
      (allOT_cons (OT.plain rfl (ob_move rfl rfl Opd.t0))
        (allOT_cons (OT.plain rfl (ob_lenL Try.underlying22 rfl rfl Opd.t0))
        (allOT_cons (OT.plain rfl (ob_gt rfl rfl Opd.t0 (Opd.c (int_q _ _))))
        allOT_nil)))
      hst hb (fun a g hst hb => ?_)
  refine then_n ?_
  refine wp_cond_split (hst.bool 1 rfl) (fun hc1 => ?_) (fun hc1 => ?_)
  · replace H0 := ite_t hc1 H0
    refine wp_seq ?_
    refine wp_reg follows (N := 25) (L := [])
        (T := [⟨[], [(2, (pBool true))], [], [], [2]⟩])
        (F := [.op 0 0]) (by kernel_rfl)
        (allOT_cons (OT.plain rfl (ob_assign rfl rfl (Opd.c (bool_q _))))
          allOT_nil)
        (hst.pick [] rfl) hb (fun a g hst hb => ?_)
    refine then_n ?_
    refine wp_ret ?_
    refine then_r ?_
    obtain rfl := Option.some.inj H0
    exact endR1 rfl hst hb (res_tmp (s := 2)) (hst.at 0 rfl)
  · replace H0 := ite_f hc1 H0
    refine wp_skip ?_
    refine then_n ?_
    refine wp_seq ?_
    refine wp_seq ?_
    refine wp_reg follows (N := 25) (L := [(0, (k_moietylaw09_Op.sl.pd a0))])
        (T := [⟨[.old 0], [(8, (k_moietylaw09_Op.sl.pd a0))], [], [], [8]⟩,
          ⟨[.op 0 0], [(9, (pInt .i64 (a0.length : Int)))], [], [0], [9]⟩,
          ⟨[], [(10, (pInt .i64 (0 : Int)))], [], [], [10]⟩])
        (F := [.op 0 0, .op 1 0, .op 2 0]) (by kernel_rfl)
        (allOT_cons (OT.plain rfl (ob_move rfl rfl Opd.t0))
          (allOT_cons (OT.plain rfl (ob_lenL Try.underlying22 rfl rfl Opd.t0))
          (allOT_cons (OT.plain rfl (ob_move rfl rfl (Opd.c (int_q _ _))))
          allOT_nil)))
        (hst.pick [0] rfl) hb (fun a g hst hb => ?_)
    refine then_n ?_
    obtain ⟨z9, hz1, H0⟩ := of_bind H0
    refine wp_cut (fun a w => ∃ (g : G), w = g.w ∧ St 25 [] a g ∧ Base g0 g ∧ (.inr ()) = z9) ?_ ?_
    · rintro a w ⟨g, rfl, hst, hb, rfl⟩
      refine then_n ?_
      refine wp_seq ?_
      refine wp_reg follows (N := 25) (L := [])
          (T := [⟨[], [(2, (pBool false))], [], [], [2]⟩])
          (F := [.op 0 0]) (by kernel_rfl)
          (allOT_cons (OT.plain rfl (ob_assign rfl rfl (Opd.c (bool_q _))))
            allOT_nil)
          hst hb (fun a g hst hb => ?_)
      refine then_n ?_
      refine wp_ret ?_
      obtain rfl := Option.some.inj H0
      exact endR1 rfl hst hb (res_tmp (s := 2)) (hst.at 0 rfl)
    · refine wp_block ?_
      refine wp_loop_ghost (fun n a w => ∃ (x2 : Int) (g : G), w = g.w ∧ St 25 [(8, (k_moietylaw09_Op.sl.pd a0)), (9, (pInt .i64 (a0.length : Int))), (10, (pInt .i64 x2))] a g ∧ Base g0 g ∧ moietylaw09_big_l1 a0 n x2 = some z9) (Int.toNat ((a0.length : Int) - (0 : Int)) + 1) ⟨(0 : Int), g, rfl, (hst.pick [0, 1, 2] rfl), hb, hz1⟩ (fun n a w hI => ?_)
      obtain ⟨x2, g, rfl, hst, hb, H1⟩ := hI
      cases n with
      | zero => exact absurd H1 (by simp [moietylaw09_big_l1])
      | succ n =>
        rw [moietylaw09_big_l1] at H1
        refine wp_seq ?_
        refine wp_reg follows (N := 25) (L := [(8, (k_moietylaw09_Op.sl.pd a0)), (9, (pInt .i64 (a0.length : Int))), (10, (pInt .i64 x2))])
            (T := [⟨[.old 2, .old 1], [(11, (pBool (decide (x2 < (a0.length : Int)))))], [], [], [11]⟩])
            (F := [.old 0, .old 1, .old 2, .op 0 0]) (by kernel_rfl)
            (allOT_cons (OT.plain rfl (ob_lt rfl rfl Opd.t0 (Opd.tl Opd.t0)))
              allOT_nil)
            hst hb (fun a g hst hb => ?_)
        refine then_n ?_
        refine wp_seq ?_
        refine wp_cond_split (hst.bool 3 rfl) (fun hc3 => ?_) (fun hc3 => ?_)
        · replace H1 := ite_t hc3 H1
          refine wp_skip ?_
          refine then_n ?_
          refine wp_seq ?_
          refine wp_block ?_
          refine wp_seq ?_
          obtain ⟨e4, h5, H1⟩ := of_bind H1
          refine wp_reg follows (N := 25) (L := [(8, (k_moietylaw09_Op.sl.pd a0)), (9, (pInt .i64 (a0.length : Int))), (10, (pInt .i64 x2))])
              (T := [⟨[.old 0, .old 2], [(12, (k_moietylaw09_Op.ptr e4))], [], [], [12]⟩,
                ⟨[.op 0 0], [(13, (k_moietylaw09_Op.pd e4))], [], [0], [13]⟩,
                ⟨[], [(4, (pBox k_moietylaw09_Op 4 (default : moietylaw09_Op)))], [5], [], [4]⟩,
                ⟨[.op 1 0, .op 2 0], [(4, (k_moietylaw09_Op.ptr e4))], [5], [0, 1, 2], [4]⟩])
              (F := [.op 3 0, .old 0, .old 1, .old 2]) (by kernel_rfl)
              (allOT_cons (OT.plain rfl (ob_indexAddr Try.underlying22 sz_40 rfl rfl Opd.t0 (Opd.tl Opd.t0) h5))
                (allOT_cons (OT.plain rfl (ob_load ty_40 rfl rfl Opd.t0))
                (allOT_cons (OT.plain rfl (ob_alloc (zs := [.bool false, .string ByteArray.empty, .int .i64 0, .int .i64 0, .int .i64 0, .int .i64 0, .float .f64 0, .int .i64 0, .string ByteArray.empty, .slice none 0 0]) (by kernel_rfl) (fun g => zk_moietylaw09_Op g) rfl rfl))
                (allOT_cons (OT.plain rfl (ob_storeF ty_40 rfl rfl (Opd.tl Opd.t0) Opd.t0))
                allOT_nil))))
              (hst.pick [0, 1, 2] rfl) hb (fun a g hst hb => ?_)
          refine then_n ?_
          refine wp_seq ?_
          obtain ⟨r6, h7, H1⟩ := of_bind H1
          refine wp_reg follows (N := 25) (L := [(4, (k_moietylaw09_Op.ptr e4)), (8, (k_moietylaw09_Op.sl.pd a0)), (9, (pInt .i64 (a0.length : Int))), (10, (pInt .i64 x2))])
              (T := [⟨[.old 0], [(14, (Kd.str.ptr e4.Key))], [], [], [14]⟩,
                ⟨[.op 0 0], [(15, (pStr e4.Key))], [], [0], [15]⟩,
                ⟨[.op 1 0], [(16, (pInt .i64 (e4.Key.size : Int)))], [], [0, 1], [16]⟩,
                ⟨[.op 2 0], [(17, (pBool (decide ((100 : Int) < (e4.Key.size : Int)))))], [], [0, 1, 2], [17]⟩,
                ⟨[.op 3 0], [(18, (pBool (decide ((100 : Int) < (e4.Key.size : Int)))))], [], [0, 1, 2, 3], [18]⟩,
                ⟨[.op 4 0, .old 0], [(19, (pIf (!(decide ((100 : Int) < (e4.Key.size : Int)))) (k_api_Record.ptr e4.Rec)))], [], [0, 1, 2, 3, 4], [19]⟩,
                ⟨[.op 4 0, .op 5 0], [(20, (pIf (!(decide ((100 : Int) < (e4.Key.size : Int)))) (k_api_Record.pd e4.Rec)))], [], [0, 1, 2, 3, 4, 5], [20]⟩,
                ⟨[.op 4 0, .op 6 0], [(21, (pIf (!(decide ((100 : Int) < (e4.Key.size : Int)))) (pInt .i64 r6)))], [], [0, 1, 2, 3, 4, 5, 6], [21]⟩,
                ⟨[.op 4 0, .op 7 0], [(22, (pIf (!(decide ((100 : Int) < (e4.Key.size : Int)))) (pBool (decide ((0 : Int) < r6)))))], [], [0, 1, 2, 3, 4, 5, 6, 7], [22]⟩,
                ⟨[.op 4 0, .op 8 0], [(23, (pBool ((decide ((100 : Int) < (e4.Key.size : Int))) || (decide ((0 : Int) < r6)))))], [], [0, 1, 2, 3, 4, 5, 6, 7, 8], [23]⟩])
              (F := [.old 1, .old 2, .old 3, .op 9 0]) (by kernel_rfl)
              (allOT_cons (OT.plain rfl (ob_fieldAddr fl_40_1 rfl rfl Opd.t0))
                (allOT_cons (OT.plain rfl (ob_load ty_9 rfl rfl Opd.t0))
                (allOT_cons (OT.plain rfl (ob_lenS Try.underlying9 rfl rfl Opd.t0))
                (allOT_cons (OT.plain rfl (ob_gt rfl rfl Opd.t0 (Opd.c (int_q _ _))))
                (allOT_cons (OT.plain rfl (ob_move rfl rfl Opd.t0))
                (allOT_cons (OT.guard (outs := [(19, (k_api_Record.ptr e4.Rec))]) (!(decide ((100 : Int) < (e4.Key.size : Int)))) (gF (decide ((100 : Int) < (e4.Key.size : Int)))).1 (gF (decide ((100 : Int) < (e4.Key.size : Int)))).2 rfl rfl (fun e he => by rw [List.mem_singleton.1 he]) (fun hG => ob_fieldAddr fl_40_2 rfl rfl Opd.t0))
                (allOT_cons (OT.guard (outs := [(20, (k_api_Record.pd e4.Rec))]) (!(decide ((100 : Int) < (e4.Key.size : Int)))) (gF (decide ((100 : Int) < (e4.Key.size : Int)))).1 (gF (decide ((100 : Int) < (e4.Key.size : Int)))).2 rfl rfl (fun e he => by rw [List.mem_singleton.1 he]) (fun hG => ob_load ty_38 rfl rfl (Opd.gd hG Opd.t0)))
                (allOT_cons (OT.guard (outs := [(21, (pInt .i64 r6))]) (!(decide ((100 : Int) < (e4.Key.size : Int)))) (gF (decide ((100 : Int) < (e4.Key.size : Int)))).1 (gF (decide ((100 : Int) < (e4.Key.size : Int)))).2 rfl rfl (fun e he => by rw [List.mem_singleton.1 he]) (fun hG => ob_call en_30 (moietylaw03_Big_ok _ (gd_true h7 hG)) rfl rfl (.cons (Opd.gd hG Opd.t0) .nil)))
                (allOT_cons (OT.guard (outs := [(22, (pBool (decide ((0 : Int) < r6))))]) (!(decide ((100 : Int) < (e4.Key.size : Int)))) (gF (decide ((100 : Int) < (e4.Key.size : Int)))).1 (gF (decide ((100 : Int) < (e4.Key.size : Int)))).2 rfl rfl (fun e he => by rw [List.mem_singleton.1 he]) (fun hG => ob_gt rfl rfl (Opd.gd hG Opd.t0) (Opd.c (int_q _ _))))
                (allOT_cons (OT.plain rfl (ob_pick (q := (pBool ((decide ((100 : Int) < (e4.Key.size : Int))) || (decide ((0 : Int) < r6))))) rfl rfl Opd.t0 (fun hz => Opd.to (Opd.c (bool_q _)) (congrArg (fun t => (pBool t)) (pk_or_t hz))) (fun hz => Opd.to (Opd.gd (bNF hz) (Opd.tl Opd.t0)) (congrArg (fun t => (pBool t)) (pk_or_f hz)))))
                allOT_nil))))))))))
              hst hb (fun a g hst hb => ?_)
          refine then_n ?_
          refine wp_cond_split (hst.bool 3 rfl) (fun hc8 => ?_) (fun hc8 => ?_)
          · replace H1 := ite_t hc8 H1
            refine wp_seq ?_
            refine wp_reg follows (N := 25) (L := [])
                (T := [⟨[], [(2, (pBool true))], [], [], [2]⟩])
                (F := [.op 0 0]) (by kernel_rfl)
                (allOT_cons (OT.plain rfl (ob_assign rfl rfl (Opd.c (bool_q _))))
                  allOT_nil)
                (hst.pick [] rfl) hb (fun a g hst hb => ?_)
            refine then_n ?_
            refine wp_ret ?_
            refine inBlock_r ?_
            refine then_r ?_
            refine then_r ?_
            refine inBlock_r ?_
            refine then_r ?_
            refine then_r ?_
            obtain rfl := Option.some.inj H1
            obtain rfl := Option.some.inj H0
            exact endR1 rfl hst hb (res_tmp (s := 2)) (hst.at 0 rfl)
          · replace H1 := ite_f hc8 H1
            refine wp_skip ?_
            refine inBlock_n ?_
            refine then_n ?_
            refine wp_reg follows (N := 25) (L := [(8, (k_moietylaw09_Op.sl.pd a0)), (9, (pInt .i64 (a0.length : Int))), (10, (pInt .i64 x2))])
                (T := [⟨[.old 2], [(24, (pInt .i64 (IntKind.i64.wrap (x2 + (1 : Int)))))], [], [], [24]⟩,
                  ⟨[.op 0 0], [(10, (pInt .i64 (IntKind.i64.wrap (x2 + (1 : Int)))))], [], [0], [10]⟩])
                (F := [.old 0, .old 1, .op 1 0]) (by kernel_rfl)
                (allOT_cons (OT.plain rfl (ob_add rfl rfl Opd.t0 (Opd.c (int_q _ _)) rfl))
                  (allOT_cons (OT.plain rfl (ob_move rfl rfl Opd.t0))
                  allOT_nil))
                (hst.pick [0, 1, 2] rfl) hb (fun a g hst hb => ?_)
            exact ⟨n, Nat.lt_succ_self _, (IntKind.i64.wrap (x2 + (1 : Int))), g, rfl, (hst.pick [0, 1, 2] rfl), hb, H1⟩
        · replace H1 := ite_f hc3 H1
          refine wp_exit ?_
          refine then_e ?_
          refine then_e ?_
          refine inBlock_e ?_
          exact ⟨g, rfl, (hst.pick [] rfl), hb, Option.some.inj H1⟩
end Go.CL

set_option linter.unusedVariables false
set_option linter.unusedSimpArgs false
set_option maxRecDepth 100000
namespace Go.CL
open Go Go.RowKit Go.Proofs
theorem shelf_node_first_ok (a0 : shelf_nodeT) {r : shelf_nodeT} (h : shelf_node_first a0 = some r) : FnOk Try.prog 54 [(k_shelf_nodeT.pd a0)] (k_shelf_nodeT.pd r) := by
  have H0 := h
  unfold shelf_node_first at H0
  clear h
  refine fn_ok (N := 13) Try.func54 rfl rfl (Nat.le_of_ble_eq_true rfl) rfl rfl (fun a g0 hst hb => ?_)
  refine wp_seq ?_
  refine wp_reg follows (N := 13) (L := [(0, (k_shelf_nodeT.pd a0))])
      (T := [⟨[], [(2, (k_shelf_nodeT.pd shelf_nodeT.nil))], [], [], [2]⟩])
      (F := [.old 0]) (by kernel_rfl)
      (allOT_cons (OT.plain rfl (ob_assign rfl rfl (Opd.c (fun g => k_shelf_nodeT_nil_q g))))
        allOT_nil)
      hst hb (fun a g hst hb => ?_)
  refine then_n ?_
  refine wp_seq ?_
  obtain ⟨z6, hz1, H0⟩ := of_bind H0
  refine wp_cut (fun a w => ∃ (y5 : shelf_nodeT) (g : G), w = g.w ∧ St 13 [(0, (k_shelf_nodeT.pd y5))] a g ∧ Base g0 g ∧ y5 = z6) ?_ ?_
  · rintro a w ⟨y5, g, rfl, hst, hb, rfl⟩
    refine then_n ?_
    refine wp_seq ?_
    refine wp_reg follows (N := 13) (L := [(0, (k_shelf_nodeT.pd y5))])
        (T := [⟨[.old 0], [(12, (k_shelf_nodeT.pd y5))], [], [], [12]⟩,
          ⟨[.op 0 0], [(2, (k_shelf_nodeT.pd y5))], [], [0], [2]⟩])
        (F := [.op 1 0]) (by kernel_rfl)
        (allOT_cons (OT.plain rfl (ob_move rfl rfl Opd.t0))
          (allOT_cons (OT.plain rfl (ob_assign rfl rfl Opd.t0))
          allOT_nil))
        hst hb (fun a g hst hb => ?_)
    refine then_n ?_
    refine wp_ret ?_
    obtain rfl := Option.some.inj H0
    exact endR1 rfl hst hb (res_tmp (s := 2)) (hst.at 0 rfl)
  · refine wp_block ?_
    refine wp_loop_ghost (fun n a w => ∃ (x1 : shelf_nodeT) (g : G), w = g.w ∧ St 13 [(0, (k_shelf_nodeT.pd x1))] a g ∧ Base g0 g ∧ shelf_node_first_l1 n x1 = some z6) (a0.hh + 1) ⟨a0, g, rfl, (hst.pick [0] rfl), hb, hz1⟩ (fun n a w hI => ?_)
    obtain ⟨x1, g, rfl, hst, hb, H1⟩ := hI
    cases n with
    | zero => exact absurd H1 (by simp [shelf_node_first_l1])
    | succ n =>
      rw [shelf_node_first_l1] at H1
      refine wp_seq ?_
      refine wp_seq ?_
      obtain ⟨n2, h3, H1⟩ := of_bind H1
      refine wp_reg follows (N := 13) (L := [(0, (k_shelf_nodeT.pd x1))])
          (T := [⟨[.old 0], [(3, (k_shelf_nodeT.pd x1))], [], [], [3]⟩,
            ⟨[.op 0 0], [(4, (k_shelf_node.ptr n2))], [], [0], [4]⟩,
            ⟨[.op 1 0], [(5, (k_shelf_nodeT.ptr n2.left))], [], [0, 1], [5]⟩,
            ⟨[.op 2 0], [(6, (k_shelf_nodeT.pd n2.left))], [], [0, 1, 2], [6]⟩,
            ⟨[.op 3 0], [(7, (pBool (!n2.left.isNil)))], [], [0, 1, 2, 3], [7]⟩])
          (F := [.old 0, .op 4 0]) (by kernel_rfl)
          (allOT_cons (OT.plain rfl (ob_move rfl rfl Opd.t0))
            (allOT_cons (OT.plain rfl (ob_nilCheck rfl rfl (Opd.imp Opd.t0 (fun _ _ h => shelf_nodeT_node h3 h)) (fun _ _ ⟨_, _, _, e, _⟩ => ⟨_, e⟩)))
            (allOT_cons (OT.plain rfl (ob_fieldAddr fl_75_2 rfl rfl Opd.t0))
            (allOT_cons (OT.plain rfl (ob_load ty_26 rfl rfl Opd.t0))
            (allOT_cons (OT.plain rfl (ob_pne Try.underlying26 rfl rfl Opd.t0 (shelf_nodeT_isptr _)))
            allOT_nil)))))
          hst hb (fun a g hst hb => ?_)
      refine then_n ?_
      refine wp_cond_split (hst.bool 1 rfl) (fun hc4 => ?_) (fun hc4 => ?_)
      · replace H1 := ite_t hc4 H1
        refine wp_skip ?_
        refine then_n ?_
        refine wp_block ?_
        refine wp_reg follows (N := 13) (L := [(0, (k_shelf_nodeT.pd x1))])
            (T := [⟨[.old 0], [(8, (k_shelf_nodeT.pd x1))], [], [], [8]⟩,
              ⟨[.op 0 0], [(9, (k_shelf_node.ptr n2))], [], [0], [9]⟩,
              ⟨[.op 1 0], [(10, (k_shelf_nodeT.ptr n2.left))], [], [0, 1], [10]⟩,
              ⟨[.op 2 0], [(11, (k_shelf_nodeT.pd n2.left))], [], [0, 1, 2], [11]⟩,
              ⟨[.op 3 0], [(0, (k_shelf_nodeT.pd n2.left))], [], [0, 1, 2, 3], [0]⟩])
            (F := [.op 4 0]) (by kernel_rfl)
            (allOT_cons (OT.plain rfl (ob_move rfl rfl Opd.t0))
              (allOT_cons (OT.plain rfl (ob_nilCheck rfl rfl (Opd.imp Opd.t0 (fun _ _ h => shelf_nodeT_node h3 h)) (fun _ _ ⟨_, _, _, e, _⟩ => ⟨_, e⟩)))
              (allOT_cons (OT.plain rfl (ob_fieldAddr fl_75_2 rfl rfl Opd.t0))
              (allOT_cons (OT.plain rfl (ob_load ty_26 rfl rfl Opd.t0))
              (allOT_cons (OT.plain rfl (ob_assign rfl rfl Opd.t0))
              allOT_nil)))))
            (hst.pick [0] rfl) hb (fun a g hst hb => ?_)
        refine inBlock_n ?_
        exact ⟨n, Nat.lt_succ_self _, n2.left, g, rfl, (hst.pick [0] rfl), hb, H1⟩
      · replace H1 := ite_f hc4 H1
        refine wp_exit ?_
        refine then_e ?_
        refine then_e ?_
        refine inBlock_e ?_
        exact ⟨x1, g, rfl, (hst.pick [0] rfl), hb, Option.some.inj H1⟩
end Go.CL

set_option linter.unusedVariables false
set_option linter.unusedSimpArgs false
set_option maxRecDepth 100000
namespace Go.CL
open Go Go.RowKit Go.Proofs
theorem shelf_node_cut_b_ok (self : shelf_nodeT → ByteArray → Option (shelf_nodeT)) (hself : ∀ (a0 : shelf_nodeT) (a1 : ByteArray) {r : shelf_nodeT}, self a0 a1 = some r → FnOk Try.prog 38 [(k_shelf_nodeT.pd a0), (pStr a1)] (k_shelf_nodeT.pd r)) (a0 : shelf_nodeT) (a1 : ByteArray) {r : shelf_nodeT} (h : shelf_node_cut_b self a0 a1 = some r) : FnOk Try.prog 38 [(k_shelf_nodeT.pd a0), (pStr a1)] (k_shelf_nodeT.pd r) := by
  have H0 := h
  unfold shelf_node_cut_b at H0
  clear h
  refine fn_ok (N := 108) Try.func38 rfl rfl (Nat.le_of_ble_eq_true rfl) rfl rfl (fun a g0 hst hb => ?_)
  refine wp_seq ?_
  refine wp_reg follows (N := 108) (L := [(0, (k_shelf_nodeT.pd a0)), (1, (pStr a1))])
      (T := [⟨[], [(4, (k_shelf_nodeT.pd shelf_nodeT.nil))], [], [], [4]⟩])
      (F := [.old 0, .old 1]) (by kernel_rfl)
      (allOT_cons (OT.plain rfl (ob_assign rfl rfl (Opd.c (fun g => k_shelf_nodeT_nil_q g))))
        allOT_nil)
      hst hb (fun a g hst hb => ?_)
  refine then_n ?_
  refine wp_seq ?_
  refine wp_block ?_
  refine wp_seq ?_
  refine wp_reg follows (N := 108) (L := [(0, (k_shelf_nodeT.pd a0)), (1, (pStr a1))])
      (T := [⟨[.old 0], [(7, (k_shelf_nodeT.pd a0))], [], [], [7]⟩,
        ⟨[.op 0 0], [(8, (pBool a0.isNil))], [], [0], [8]⟩,
        ⟨[.op 1 0], [(6, (pBool a0.isNil))], [], [0, 1], [6]⟩])
      (F := [.old 0, .old 1, .op 2 0]) (by kernel_rfl)
      (allOT_cons (OT.plain rfl (ob_move rfl rfl Opd.t0))
        (allOT_cons (OT.plain rfl (ob_peq Try.underlying26 rfl rfl Opd.t0 (shelf_nodeT_isptr _)))
        (allOT_cons (OT.plain rfl (ob_assign rfl rfl Opd.t0))
        allOT_nil)))
      hst hb (fun a g hst hb => ?_)
  refine then_n ?_
  refine wp_cond_split (hst.bool 2 rfl) (fun hc1 => ?_) (fun hc1 => ?_)
  · replace H0 := ite_t hc1 H0
    refine wp_seq ?_
    refine wp_reg follows (N := 108) (L := [])
        (T := [⟨[], [(4, (k_shelf_nodeT.pd shelf_nodeT.nil))], [], [], [4]⟩])
        (F := [.op 0 0]) (by kernel_rfl)
        (allOT_cons (OT.plain rfl (ob_assign rfl rfl (Opd.c (fun g => k_shelf_nodeT_nil_q g))))
          allOT_nil)
        (hst.pick [] rfl) hb (fun a g hst hb => ?_)
    refine then_n ?_
    refine wp_ret ?_
    refine inBlock_r ?_
    refine then_r ?_
    obtain rfl := Option.some.inj H0
    exact endR1 rfl hst hb (res_tmp (s := 4)) (hst.at 0 rfl)
  · replace H0 := ite_f hc1 H0
    refine wp_seq ?_
    obtain ⟨n2, h3, H0⟩ := of_bind H0
    refine wp_reg follows (N := 108) (L := [(0, (k_shelf_nodeT.pd a0)), (1, (pStr a1))])
        (T := [⟨[.old 1], [(10, (pStr a1))], [], [], [10]⟩,
          ⟨[.old 0], [(11, (k_shelf_nodeT.pd a0))], [], [], [11]⟩,
          ⟨[.op 1 0], [(12, (k_shelf_node.ptr n2))], [], [1], [12]⟩,
          ⟨[.op 2 0], [(13, (Kd.str.ptr n2.key))], [], [1, 2], [13]⟩,
          ⟨[.op 3 0], [(14, (pStr n2.key))], [], [1, 2, 3], [14]⟩,
          ⟨[.op 0 0, .op 4 0], [(15, (pBool (sLt a1 n2.key)))], [], [0, 1, 2, 3, 4], [15]⟩,
          ⟨[.op 5 0], [(9, (pBool (sLt a1 n2.key)))], [], [0, 1, 2, 3, 4, 5], [9]⟩])
        (F := [.old 0, .old 1, .op 6 0]) (by kernel_rfl)
        (allOT_cons (OT.plain rfl (ob_move rfl rfl Opd.t0))
          (allOT_cons (OT.plain rfl (ob_move rfl rfl Opd.t0))
          (allOT_cons (OT.plain rfl (ob_nilCheck rfl rfl (Opd.imp Opd.t0 (fun _ _ h => shelf_nodeT_node h3 h)) (fun _ _ ⟨_, _, _, e, _⟩ => ⟨_, e⟩)))
          (allOT_cons (OT.plain rfl (ob_fieldAddr fl_75_0 rfl rfl Opd.t0))
          (allOT_cons (OT.plain rfl (ob_load ty_9 rfl rfl Opd.t0))
          (allOT_cons (OT.plain rfl (ob_slt rfl rfl Opd.t0 (Opd.tl Opd.t0)))
          (allOT_cons (OT.plain rfl (ob_assign rfl rfl Opd.t0))
          allOT_nil)))))))
        (hst.pick [0, 1] rfl) hb (fun a g hst hb => ?_)
    refine then_n ?_
    refine wp_cond_split (hst.bool 2 rfl) (fun hc4 => ?_) (fun hc4 => ?_)
    · replace H0 := ite_t hc4 H0
      refine wp_seq ?_
      obtain ⟨r5, h6, H0⟩ := of_bind H0
      obtain ⟨r7, h8, H0⟩ := of_bind H0
      refine wp_reg follows (N := 108) (L := [(0, (k_shelf_nodeT.pd a0)), (1, (pStr a1))])
          (T := [⟨[.old 0], [(16, (k_shelf_nodeT.pd a0))], [], [], [16]⟩,
            ⟨[.op 0 0], [(17, (k_shelf_node.ptr n2))], [], [0], [17]⟩,
            ⟨[.op 1 0], [(18, (Kd.str.ptr n2.key))], [], [0, 1], [18]⟩,
            ⟨[.op 2 0], [(19, (pStr n2.key))], [], [0, 1, 2], [19]⟩,
            ⟨[.old 0], [(20, (k_shelf_nodeT.pd a0))], [], [], [20]⟩,
            ⟨[.op 4 0], [(21, (k_shelf_node.ptr n2))], [], [4], [21]⟩,
            ⟨[.op 5 0], [(22, (k_api_Record.ptr n2.rec_))], [], [4, 5], [22]⟩,
            ⟨[.op 6 0], [(23, (k_api_Record.pd n2.rec_))], [], [4, 5, 6], [23]⟩,
            ⟨[.old 0], [(24, (k_shelf_nodeT.pd a0))], [], [], [24]⟩,
            ⟨[.op 8 0], [(25, (k_shelf_node.ptr n2))], [], [8], [25]⟩,
            ⟨[.op 9 0], [(26, (k_shelf_nodeT.ptr n2.left))], [], [8, 9], [26]⟩,
            ⟨[.op 10 0], [(27, (k_shelf_nodeT.pd n2.left))], [], [8, 9, 10], [27]⟩,
            ⟨[.old 1], [(28, (pStr a1))], [], [], [28]⟩,
            ⟨[.op 11 0, .op 12 0], [(29, (k_shelf_nodeT.pd r5))], [], [8, 9, 10, 11, 12], [29]⟩,
            ⟨[.old 0], [(30, (k_shelf_nodeT.pd a0))], [], [], [30]⟩,
            ⟨[.op 14 0], [(31, (k_shelf_node.ptr n2))], [], [14], [31]⟩,
            ⟨[.op 15 0], [(32, (k_shelf_nodeT.ptr n2.right))], [], [14, 15], [32]⟩,
            ⟨[.op 16 0], [(33, (k_shelf_nodeT.pd n2.right))], [], [14, 15, 16], [33]⟩,
            ⟨[.op 3 0, .op 7 0, .op 13 0, .op 17 0], [(34, (k_shelf_nodeT.pd r7))], [], [0, 1, 2, 3, 4, 5, 6, 7, 8, 9, 10, 11, 12, 13, 14, 15, 16, 17], [34]⟩,
            ⟨[.op 18 0], [(4, (k_shelf_nodeT.pd r7))], [], [0, 1, 2, 3, 4, 5, 6, 7, 8, 9, 10, 11, 12, 13, 14, 15, 16, 17, 18], [4]⟩])
          (F := [.op 19 0]) (by kernel_rfl)
          (allOT_cons (OT.plain rfl (ob_move rfl rfl Opd.t0))
            (allOT_cons (OT.plain rfl (ob_nilCheck rfl rfl (Opd.imp Opd.t0 (fun _ _ h => shelf_nodeT_node h3 h)) (fun _ _ ⟨_, _, _, e, _⟩ => ⟨_, e⟩)))
            (allOT_cons (OT.plain rfl (ob_fieldAddr fl_75_0 rfl rfl Opd.t0))
            (allOT_cons (OT.plain rfl (ob_load ty_9 rfl rfl Opd.t0))
            (allOT_cons (OT.plain rfl (ob_move rfl rfl Opd.t0))
            (allOT_cons (OT.plain rfl (ob_nilCheck rfl rfl (Opd.imp Opd.t0 (fun _ _ h => shelf_nodeT_node h3 h)) (fun _ _ ⟨_, _, _, e, _⟩ => ⟨_, e⟩)))
            (allOT_cons (OT.plain rfl (ob_fieldAddr fl_75_1 rfl rfl Opd.t0))
            (allOT_cons (OT.plain rfl (ob_load ty_38 rfl rfl Opd.t0))
            (allOT_cons (OT.plain rfl (ob_move rfl rfl Opd.t0))
            (allOT_cons (OT.plain rfl (ob_nilCheck rfl rfl (Opd.imp Opd.t0 (fun _ _ h => shelf_nodeT_node h3 h)) (fun _ _ ⟨_, _, _, e, _⟩ => ⟨_, e⟩)))
            (allOT_cons (OT.plain rfl (ob_fieldAddr fl_75_2 rfl rfl Opd.t0))
            (allOT_cons (OT.plain rfl (ob_load ty_26 rfl rfl Opd.t0))
            (allOT_cons (OT.plain rfl (ob_move rfl rfl Opd.t0))
            (allOT_cons (OT.plain rfl (ob_call en_38 (hself _ _ h6) rfl rfl (.cons Opd.t0 (.cons (Opd.tl Opd.t0) .nil))))
            (allOT_cons (OT.plain rfl (ob_move rfl rfl Opd.t0))
            (allOT_cons (OT.plain rfl (ob_nilCheck rfl rfl (Opd.imp Opd.t0 (fun _ _ h => shelf_nodeT_node h3 h)) (fun _ _ ⟨_, _, _, e, _⟩ => ⟨_, e⟩)))
            (allOT_cons (OT.plain rfl (ob_fieldAddr fl_75_3 rfl rfl Opd.t0))
            (allOT_cons (OT.plain rfl (ob_load ty_26 rfl rfl Opd.t0))
            (allOT_cons (OT.plain rfl (ob_call en_52 (shelf_even_ok _ _ _ _ h8) rfl rfl (.cons Opd.t0 (.cons (Opd.tl Opd.t0) (.cons (Opd.tl (Opd.tl Opd.t0)) (.cons (Opd.tl (Opd.tl (Opd.tl Opd.t0))) .nil))))))
            (allOT_cons (OT.plain rfl (ob_assign rfl rfl Opd.t0))
            allOT_nil))))))))))))))))))))
          (hst.pick [0, 1] rfl) hb (fun a g hst hb => ?_)
      refine then_n ?_
      refine wp_ret ?_
      refine inBlock_r ?_
      refine then_r ?_
      obtain rfl := Option.some.inj H0
      exact endR1 rfl hst hb (res_tmp (s := 4)) (hst.at 0 rfl)
    · replace H0 := ite_f hc4 H0
      refine wp_seq ?_
      refine wp_reg follows (N := 108) (L := [(0, (k_shelf_nodeT.pd a0)), (1, (pStr a1))])
          (T := [⟨[.old 1], [(36, (pStr a1))], [], [], [36]⟩,
            ⟨[.old 0], [(37, (k_shelf_nodeT.pd a0))], [], [], [37]⟩,
            ⟨[.op 1 0], [(38, (k_shelf_node.ptr n2))], [], [1], [38]⟩,
            ⟨[.op 2 0], [(39, (Kd.str.ptr n2.key))], [], [1, 2], [39]⟩,
            ⟨[.op 3 0], [(40, (pStr n2.key))], [], [1, 2, 3], [40]⟩,
            ⟨[.op 0 0, .op 4 0], [(41, (pBool (!(sLt a1 n2.key || sEq a1 n2.key))))], [], [0, 1, 2, 3, 4], [41]⟩,
            ⟨[.op 5 0], [(35, (pBool (!(sLt a1 n2.key || sEq a1 n2.key))))], [], [0, 1, 2, 3, 4, 5], [35]⟩])
          (F := [.old 0, .old 1, .op 6 0]) (by kernel_rfl)
          (allOT_cons (OT.plain rfl (ob_move rfl rfl Opd.t0))
            (allOT_cons (OT.plain rfl (ob_move rfl rfl Opd.t0))
            (allOT_cons (OT.plain rfl (ob_nilCheck rfl rfl (Opd.imp Opd.t0 (fun _ _ h => shelf_nodeT_node h3 h)) (fun _ _ ⟨_, _, _, e, _⟩ => ⟨_, e⟩)))
            (allOT_cons (OT.plain rfl (ob_fieldAddr fl_75_0 rfl rfl Opd.t0))
            (allOT_cons (OT.plain rfl (ob_load ty_9 rfl rfl Opd.t0))
            (allOT_cons (OT.plain rfl (ob_sgt rfl rfl Opd.t0 (Opd.tl Opd.t0)))
            (allOT_cons (OT.plain rfl (ob_assign rfl rfl Opd.t0))
            allOT_nil)))))))
          (hst.pick [0, 1] rfl) hb (fun a g hst hb => ?_)
      refine then_n ?_
      refine wp_cond_split (hst.bool 2 rfl) (fun hc9 => ?_) (fun hc9 => ?_)
      · replace H0 := ite_t hc9 H0
        refine wp_seq ?_
        obtain ⟨r10, h11, H0⟩ := of_bind H0
        obtain ⟨r12, h13, H0⟩ := of_bind H0
        refine wp_reg follows (N := 108) (L := [(0, (k_shelf_nodeT.pd a0)), (1, (pStr a1))])
            (T := [⟨[.old 0], [(42, (k_shelf_nodeT.pd a0))], [], [], [42]⟩,
              ⟨[.op 0 0], [(43, (k_shelf_node.ptr n2))], [], [0], [43]⟩,
              ⟨[.op 1 0], [(44, (Kd.str.ptr n2.key))], [], [0, 1], [44]⟩,
              ⟨[.op 2 0], [(45, (pStr n2.key))], [], [0, 1, 2], [45]⟩,
              ⟨[.old 0], [(46, (k_shelf_nodeT.pd a0))], [], [], [46]⟩,
              ⟨[.op 4 0], [(47, (k_shelf_node.ptr n2))], [], [4], [47]⟩,
              ⟨[.op 5 0], [(48, (k_api_Record.ptr n2.rec_))], [], [4, 5], [48]⟩,
              ⟨[.op 6 0], [(49, (k_api_Record.pd n2.rec_))], [], [4, 5, 6], [49]⟩,
              ⟨[.old 0], [(50, (k_shelf_nodeT.pd a0))], [], [], [50]⟩,
              ⟨[.op 8 0], [(51, (k_shelf_node.ptr n2))], [], [8], [51]⟩,
              ⟨[.op 9 0], [(52, (k_shelf_nodeT.ptr n2.left))], [], [8, 9], [52]⟩,
              ⟨[.op 10 0], [(53, (k_shelf_nodeT.pd n2.left))], [], [8, 9, 10], [53]⟩,
              ⟨[.old 0], [(54, (k_shelf_nodeT.pd a0))], [], [], [54]⟩,
              ⟨[.op 12 0], [(55, (k_shelf_node.ptr n2))], [], [12], [55]⟩,
              ⟨[.op 13 0], [(56, (k_shelf_nodeT.ptr n2.right))], [], [12, 13], [56]⟩,
              ⟨[.op 14 0], [(57, (k_shelf_nodeT.pd n2.right))], [], [12, 13, 14], [57]⟩,
              ⟨[.old 1], [(58, (pStr a1))], [], [], [58]⟩,
              ⟨[.op 15 0, .op 16 0], [(59, (k_shelf_nodeT.pd r10))], [], [12, 13, 14, 15, 16], [59]⟩,
              ⟨[.op 3 0, .op 7 0, .op 11 0, .op 17 0], [(60, (k_shelf_nodeT.pd r12))], [], [0, 1, 2, 3, 4, 5, 6, 7, 8, 9, 10, 11, 12, 13, 14, 15, 16, 17], [60]⟩,
              ⟨[.op 18 0], [(4, (k_shelf_nodeT.pd r12))], [], [0, 1, 2, 3, 4, 5, 6, 7, 8, 9, 10, 11, 12, 13, 14, 15, 16, 17, 18], [4]⟩])
            (F := [.op 19 0]) (by kernel_rfl)
            (allOT_cons (OT.plain rfl (ob_move rfl rfl Opd.t0))
              (allOT_cons (OT.plain rfl (ob_nilCheck rfl rfl (Opd.imp Opd.t0 (fun _ _ h => shelf_nodeT_node h3 h)) (fun _ _ ⟨_, _, _, e, _⟩ => ⟨_, e⟩)))
              (allOT_cons (OT.plain rfl (ob_fieldAddr fl_75_0 rfl rfl Opd.t0))
              (allOT_cons (OT.plain rfl (ob_load ty_9 rfl rfl Opd.t0))
              (allOT_cons (OT.plain rfl (ob_move rfl rfl Opd.t0))
              (allOT_cons (OT.plain rfl (ob_nilCheck rfl rfl (Opd.imp Opd.t0 (fun _ _ h => shelf_nodeT_node h3 h)) (fun _ _ ⟨_, _, _, e, _⟩ => ⟨_, e⟩)))
              (allOT_cons (OT.plain rfl (ob_fieldAddr fl_75_1 rfl rfl Opd.t0))
              (allOT_cons (OT.plain rfl (ob_load ty_38 rfl rfl Opd.t0))
              (allOT_cons (OT.plain rfl (ob_move rfl rfl Opd.t0))
              (allOT_cons (OT.plain rfl (ob_nilCheck rfl rfl (Opd.imp Opd.t0 (fun _ _ h => shelf_nodeT_node h3 h)) (fun _ _ ⟨_, _, _, e, _⟩ => ⟨_, e⟩)))
              (allOT_cons (OT.plain rfl (ob_fieldAddr fl_75_2 rfl rfl Opd.t0))
              (allOT_cons (OT.plain rfl (ob_load ty_26 rfl rfl Opd.t0))
              (allOT_cons (OT.plain rfl (ob_move rfl rfl Opd.t0))
              (allOT_cons (OT.plain rfl (ob_nilCheck rfl rfl (Opd.imp Opd.t0 (fun _ _ h => shelf_nodeT_node h3 h)) (fun _ _ ⟨_, _, _, e, _⟩ => ⟨_, e⟩)))
              (allOT_cons (OT.plain rfl (ob_fieldAddr fl_75_3 rfl rfl Opd.t0))
              (allOT_cons (OT.plain rfl (ob_load ty_26 rfl rfl Opd.t0))
              (allOT_cons (OT.plain rfl (ob_move rfl rfl Opd.t0))
              (allOT_cons (OT.plain rfl (ob_call en_38 (hself _ _ h11) rfl rfl (.cons Opd.t0 (.cons (Opd.tl Opd.t0) .nil))))
              (allOT_cons (OT.plain rfl (ob_call en_52 (shelf_even_ok _ _ _ _ h13) rfl rfl (.cons Opd.t0 (.cons (Opd.tl Opd.t0) (.cons (Opd.tl (Opd.tl Opd.t0)) (.cons (Opd.tl (Opd.tl (Opd.tl Opd.t0))) .nil))))))
              (allOT_cons (OT.plain rfl (ob_assign rfl rfl Opd.t0))
              allOT_nil))))))))))))))))))))
            (hst.pick [0, 1] rfl) hb (fun a g hst hb => ?_)
        refine then_n ?_
        refine wp_ret ?_
        refine inBlock_r ?_
        refine then_r ?_
        obtain rfl := Option.some.inj H0
        exact endR1 rfl hst hb (res_tmp (s := 4)) (hst.at 0 rfl)
      · replace H0 := ite_f hc9 H0
        refine wp_seq ?_
        refine wp_reg follows (N := 108) (L := [(0, (k_shelf_nodeT.pd a0))])
            (T := [⟨[.old 0], [(62, (k_shelf_nodeT.pd a0))], [], [], [62]⟩,
              ⟨[.op 0 0], [(63, (k_shelf_node.ptr n2))], [], [0], [63]⟩,
              ⟨[.op 1 0], [(64, (k_shelf_nodeT.ptr n2.left))], [], [0, 1], [64]⟩,
              ⟨[.op 2 0], [(65, (k_shelf_nodeT.pd n2.left))], [], [0, 1, 2], [65]⟩,
              ⟨[.op 3 0], [(66, (pBool n2.left.isNil))], [], [0, 1, 2, 3], [66]⟩,
              ⟨[.op 4 0], [(61, (pBool n2.left.isNil))], [], [0, 1, 2, 3, 4], [61]⟩])
            (F := [.old 0, .op 5 0]) (by kernel_rfl)
            (allOT_cons (OT.plain rfl (ob_move rfl rfl Opd.t0))
              (allOT_cons (OT.plain rfl (ob_nilCheck rfl rfl (Opd.imp Opd.t0 (fun _ _ h => shelf_nodeT_node h3 h)) (fun _ _ ⟨_, _, _, e, _⟩ => ⟨_, e⟩)))
              (allOT_cons (OT.plain rfl (ob_fieldAddr fl_75_2 rfl rfl Opd.t0))
              (allOT_cons (OT.plain rfl (ob_load ty_26 rfl rfl Opd.t0))
              (allOT_cons (OT.plain rfl (ob_peq Try.underlying26 rfl rfl Opd.t0 (shelf_nodeT_isptr _)))
              (allOT_cons (OT.plain rfl (ob_assign rfl rfl Opd.t0))
              allOT_nil))))))
            (hst.pick [0] rfl) hb (fun a g hst hb => ?_)
        refine then_n ?_
        refine wp_cond_split (hst.bool 1 rfl) (fun hc14 => ?_) (fun hc14 => ?_)
        · replace H0 := ite_t hc14 H0
          refine wp_seq ?_
          refine wp_reg follows (N := 108) (L := [(0, (k_shelf_nodeT.pd a0))])
              (T := [⟨[.old 0], [(67, (k_shelf_nodeT.pd a0))], [], [], [67]⟩,
                ⟨[.op 0 0], [(68, (k_shelf_node.ptr n2))], [], [0], [68]⟩,
                ⟨[.op 1 0], [(69, (k_shelf_nodeT.ptr n2.right))], [], [0, 1], [69]⟩,
                ⟨[.op 2 0], [(70, (k_shelf_nodeT.pd n2.right))], [], [0, 1, 2], [70]⟩,
                ⟨[.op 3 0], [(4, (k_shelf_nodeT.pd n2.right))], [], [0, 1, 2, 3], [4]⟩])
              (F := [.op 4 0]) (by kernel_rfl)
              (allOT_cons (OT.plain rfl (ob_move rfl rfl Opd.t0))
                (allOT_cons (OT.plain rfl (ob_nilCheck rfl rfl (Opd.imp Opd.t0 (fun _ _ h => shelf_nodeT_node h3 h)) (fun _ _ ⟨_, _, _, e, _⟩ => ⟨_, e⟩)))
                (allOT_cons (OT.plain rfl (ob_fieldAddr fl_75_3 rfl rfl Opd.t0))
                (allOT_cons (OT.plain rfl (ob_load ty_26 rfl rfl Opd.t0))
                (allOT_cons (OT.plain rfl (ob_assign rfl rfl Opd.t0))
                allOT_nil)))))
              (hst.pick [0] rfl) hb (fun a g hst hb => ?_)
          refine then_n ?_
          refine wp_ret ?_
          refine inBlock_r ?_
          refine then_r ?_
          obtain rfl := Option.some.inj H0
          exact endR1 rfl hst hb (res_tmp (s := 4)) (hst.at 0 rfl)
        · replace H0 := ite_f hc14 H0
          refine wp_seq ?_
          refine wp_reg follows (N := 108) (L := [(0, (k_shelf_nodeT.pd a0))])
              (T := [⟨[.old 0], [(72, (k_shelf_nodeT.pd a0))], [], [], [72]⟩,
                ⟨[.op 0 0], [(73, (k_shelf_node.ptr n2))], [], [0], [73]⟩,
                ⟨[.op 1 0], [(74, (k_shelf_nodeT.ptr n2.right))], [], [0, 1], [74]⟩,
                ⟨[.op 2 0], [(75, (k_shelf_nodeT.pd n2.right))], [], [0, 1, 2], [75]⟩,
                ⟨[.op 3 0], [(76, (pBool n2.right.isNil))], [], [0, 1, 2, 3], [76]⟩,
                ⟨[.op 4 0], [(71, (pBool n2.right.isNil))], [], [0, 1, 2, 3, 4], [71]⟩])
              (F := [.old 0, .op 5 0]) (by kernel_rfl)
              (allOT_cons (OT.plain rfl (ob_move rfl rfl Opd.t0))
                (allOT_cons (OT.plain rfl (ob_nilCheck rfl rfl (Opd.imp Opd.t0 (fun _ _ h => shelf_nodeT_node h3 h)) (fun _ _ ⟨_, _, _, e, _⟩ => ⟨_, e⟩)))
                (allOT_cons (OT.plain rfl (ob_fieldAddr fl_75_3 rfl rfl Opd.t0))
                (allOT_cons (OT.plain rfl (ob_load ty_26 rfl rfl Opd.t0))
                (allOT_cons (OT.plain rfl (ob_peq Try.underlying26 rfl rfl Opd.t0 (shelf_nodeT_isptr _)))
                (allOT_cons (OT.plain rfl (ob_assign rfl rfl Opd.t0))
                allOT_nil))))))
              (hst.pick [0] rfl) hb (fun a g hst hb => ?_)
          refine then_n ?_
          refine wp_cond_split (hst.bool 1 rfl) (fun hc15 => ?_) (fun hc15 => ?_)
          · replace H0 := ite_t hc15 H0
            refine wp_seq ?_
            refine wp_reg follows (N := 108) (L := [(0, (k_shelf_nodeT.pd a0))])
                (T := [⟨[.old 0], [(77, (k_shelf_nodeT.pd a0))], [], [], [77]⟩,
                  ⟨[.op 0 0], [(78, (k_shelf_node.ptr n2))], [], [0], [78]⟩,
                  ⟨[.op 1 0], [(79, (k_shelf_nodeT.ptr n2.left))], [], [0, 1], [79]⟩,
                  ⟨[.op 2 0], [(80, (k_shelf_nodeT.pd n2.left))], [], [0, 1, 2], [80]⟩,
                  ⟨[.op 3 0], [(4, (k_shelf_nodeT.pd n2.left))], [], [0, 1, 2, 3], [4]⟩])
                (F := [.op 4 0]) (by kernel_rfl)
                (allOT_cons (OT.plain rfl (ob_move rfl rfl Opd.t0))
                  (allOT_cons (OT.plain rfl (ob_nilCheck rfl rfl (Opd.imp Opd.t0 (fun _ _ h => shelf_nodeT_node h3 h)) (fun _ _ ⟨_, _, _, e, _⟩ => ⟨_, e⟩)))
                  (allOT_cons (OT.plain rfl (ob_fieldAddr fl_75_2 rfl rfl Opd.t0))
                  (allOT_cons (OT.plain rfl (ob_load ty_26 rfl rfl Opd.t0))
                  (allOT_cons (OT.plain rfl (ob_assign rfl rfl Opd.t0))
                  allOT_nil)))))
                (hst.pick [0] rfl) hb (fun a g hst hb => ?_)
            refine then_n ?_
            refine wp_ret ?_
            refine inBlock_r ?_
            refine then_r ?_
            obtain rfl := Option.some.inj H0
            exact endR1 rfl hst hb (res_tmp (s := 4)) (hst.at 0 rfl)
          · replace H0 := ite_f hc15 H0
            refine wp_skip ?_
            refine inBlock_n ?_
            refine then_n ?_
            refine wp_seq ?_
            obtain ⟨r16, h17, H0⟩ := of_bind H0
            refine wp_reg follows (N := 108) (L := [(0, (k_shelf_nodeT.pd a0))])
                (T := [⟨[.old 0], [(81, (k_shelf_nodeT.pd a0))], [], [], [81]⟩,
                  ⟨[.op 0 0], [(82, (k_shelf_node.ptr n2))], [], [0], [82]⟩,
                  ⟨[.op 1 0], [(83, (k_shelf_nodeT.ptr n2.right))], [], [0, 1], [83]⟩,
                  ⟨[.op 2 0], [(84, (k_shelf_nodeT.pd n2.right))], [], [0, 1, 2], [84]⟩,
                  ⟨[.op 3 0], [(85, (k_shelf_nodeT.pd r16))], [], [0, 1, 2, 3], [85]⟩,
                  ⟨[.op 4 0], [(5, (k_shelf_nodeT.pd r16))], [], [0, 1, 2, 3, 4], [5]⟩])
                (F := [.old 0, .op 5 0]) (by kernel_rfl)
                (allOT_cons (OT.plain rfl (ob_move rfl rfl Opd.t0))
                  (allOT_cons (OT.plain rfl (ob_nilCheck rfl rfl (Opd.imp Opd.t0 (fun _ _ h => shelf_nodeT_node h3 h)) (fun _ _ ⟨_, _, _, e, _⟩ => ⟨_, e⟩)))
                  (allOT_cons (OT.plain rfl (ob_fieldAddr fl_75_3 rfl rfl Opd.t0))
                  (allOT_cons (OT.plain rfl (ob_load ty_26 rfl rfl Opd.t0))
                  (allOT_cons (OT.plain rfl (ob_call en_54 (shelf_node_first_ok _ h17) rfl rfl (.cons Opd.t0 .nil)))
                  (allOT_cons (OT.plain rfl (ob_assign rfl rfl Opd.t0))
                  allOT_nil))))))
                (hst.pick [0] rfl) hb (fun a g hst hb => ?_)
            refine then_n ?_
            refine wp_seq ?_
            obtain ⟨n18, h19, H0⟩ := of_bind H0
            obtain ⟨r20, h21, H0⟩ := of_bind H0
            obtain ⟨r22, h23, H0⟩ := of_bind H0
            refine wp_reg follows (N := 108) (L := [(0, (k_shelf_nodeT.pd a0)), (5, (k_shelf_nodeT.pd r16))])
                (T := [⟨[.old 1], [(86, (k_shelf_nodeT.pd r16))], [], [], [86]⟩,
                  ⟨[.op 0 0], [(87, (k_shelf_node.ptr n18))], [], [0], [87]⟩,
                  ⟨[.op 1 0], [(88, (Kd.str.ptr n18.key))], [], [0, 1], [88]⟩,
                  ⟨[.op 2 0], [(89, (pStr n18.key))], [], [0, 1, 2], [89]⟩,
                  ⟨[.old 1], [(90, (k_shelf_nodeT.pd r16))], [], [], [90]⟩,
                  ⟨[.op 4 0], [(91, (k_shelf_node.ptr n18))], [], [4], [91]⟩,
                  ⟨[.op 5 0], [(92, (k_api_Record.ptr n18.rec_))], [], [4, 5], [92]⟩,
                  ⟨[.op 6 0], [(93, (k_api_Record.pd n18.rec_))], [], [4, 5, 6], [93]⟩,
                  ⟨[.old 0], [(94, (k_shelf_nodeT.pd a0))], [], [], [94]⟩,
                  ⟨[.op 8 0], [(95, (k_shelf_node.ptr n2))], [], [8], [95]⟩,
                  ⟨[.op 9 0], [(96, (k_shelf_nodeT.ptr n2.left))], [], [8, 9], [96]⟩,
                  ⟨[.op 10 0], [(97, (k_shelf_nodeT.pd n2.left))], [], [8, 9, 10], [97]⟩,
                  ⟨[.old 0], [(98, (k_shelf_nodeT.pd a0))], [], [], [98]⟩,
                  ⟨[.op 12 0], [(99, (k_shelf_node.ptr n2))], [], [12], [99]⟩,
                  ⟨[.op 13 0], [(100, (k_shelf_nodeT.ptr n2.right))], [], [12, 13], [100]⟩,
                  ⟨[.op 14 0], [(101, (k_shelf_nodeT.pd n2.right))], [], [12, 13, 14], [101]⟩,
                  ⟨[.old 1], [(102, (k_shelf_nodeT.pd r16))], [], [], [102]⟩,
                  ⟨[.op 16 0], [(103, (k_shelf_node.ptr n18))], [], [16], [103]⟩,
                  ⟨[.op 17 0], [(104, (Kd.str.ptr n18.key))], [], [16, 17], [104]⟩,
                  ⟨[.op 18 0], [(105, (pStr n18.key))], [], [16, 17, 18], [105]⟩,
                  ⟨[.op 15 0, .op 19 0], [(106, (k_shelf_nodeT.pd r20))], [], [12, 13, 14, 15, 16, 17, 18, 19], [106]⟩,
                  ⟨[.op 3 0, .op 7 0, .op 11 0, .op 20 0], [(107, (k_shelf_nodeT.pd r22))], [], [0, 1, 2, 3, 4, 5, 6, 7, 8, 9, 10, 11, 12, 13, 14, 15, 16, 17, 18, 19, 20], [107]⟩,
                  ⟨[.op 21 0], [(4, (k_shelf_nodeT.pd r22))], [], [0, 1, 2, 3, 4, 5, 6, 7, 8, 9, 10, 11, 12, 13, 14, 15, 16, 17, 18, 19, 20, 21], [4]⟩])
                (F := [.op 22 0]) (by kernel_rfl)
                (allOT_cons (OT.plain rfl (ob_move rfl rfl Opd.t0))
                  (allOT_cons (OT.plain rfl (ob_nilCheck rfl rfl (Opd.imp Opd.t0 (fun _ _ h => shelf_nodeT_node h19 h)) (fun _ _ ⟨_, _, _, e, _⟩ => ⟨_, e⟩)))
                  (allOT_cons (OT.plain rfl (ob_fieldAddr fl_75_0 rfl rfl Opd.t0))
                  (allOT_cons (OT.plain rfl (ob_load ty_9 rfl rfl Opd.t0))
                  (allOT_cons (OT.plain rfl (ob_move rfl rfl Opd.t0))
                  (allOT_cons (OT.plain rfl (ob_nilCheck rfl rfl (Opd.imp Opd.t0 (fun _ _ h => shelf_nodeT_node h19 h)) (fun _ _ ⟨_, _, _, e, _⟩ => ⟨_, e⟩)))
                  (allOT_cons (OT.plain rfl (ob_fieldAddr fl_75_1 rfl rfl Opd.t0))
                  (allOT_cons (OT.plain rfl (ob_load ty_38 rfl rfl Opd.t0))
                  (allOT_cons (OT.plain rfl (ob_move rfl rfl Opd.t0))
                  (allOT_cons (OT.plain rfl (ob_nilCheck rfl rfl (Opd.imp Opd.t0 (fun _ _ h => shelf_nodeT_node h3 h)) (fun _ _ ⟨_, _, _, e, _⟩ => ⟨_, e⟩)))
                  (allOT_cons (OT.plain rfl (ob_fieldAddr fl_75_2 rfl rfl Opd.t0))
                  (allOT_cons (OT.plain rfl (ob_load ty_26 rfl rfl Opd.t0))
                  (allOT_cons (OT.plain rfl (ob_move rfl rfl Opd.t0))
                  (allOT_cons (OT.plain rfl (ob_nilCheck rfl rfl (Opd.imp Opd.t0 (fun _ _ h => shelf_nodeT_node h3 h)) (fun _ _ ⟨_, _, _, e, _⟩ => ⟨_, e⟩)))
                  (allOT_cons (OT.plain rfl (ob_fieldAddr fl_75_3 rfl rfl Opd.t0))
                  (allOT_cons (OT.plain rfl (ob_load ty_26 rfl rfl Opd.t0))
                  (allOT_cons (OT.plain rfl (ob_move rfl rfl Opd.t0))
                  (allOT_cons (OT.plain rfl (ob_nilCheck rfl rfl (Opd.imp Opd.t0 (fun _ _ h => shelf_nodeT_node h19 h)) (fun _ _ ⟨_, _, _, e, _⟩ => ⟨_, e⟩)))
                  (allOT_cons (OT.plain rfl (ob_fieldAddr fl_75_0 rfl rfl Opd.t0))
                  (allOT_cons (OT.plain rfl (ob_load ty_9 rfl rfl Opd.t0))
                  (allOT_cons (OT.plain rfl (ob_call en_38 (hself _ _ h21) rfl rfl (.cons Opd.t0 (.cons (Opd.tl Opd.t0) .nil))))
                  (allOT_cons (OT.plain rfl (ob_call en_52 (shelf_even_ok _ _ _ _ h23) rfl rfl (.cons Opd.t0 (.cons (Opd.tl Opd.t0) (.cons (Opd.tl (Opd.tl Opd.t0)) (.cons (Opd.tl (Opd.tl (Opd.tl Opd.t0))) .nil))))))
                  (allOT_cons (OT.plain rfl (ob_assign rfl rfl Opd.t0))
                  allOT_nil)))))))))))))))))))))))
                hst hb (fun a g hst hb => ?_)
            refine then_n ?_
            refine wp_ret ?_
            obtain rfl := Option.some.inj H0
            exact endR1 rfl hst hb (res_tmp (s := 4)) (hst.at 0 rfl)
theorem shelf_node_cut_r_ok : ∀ (n : Nat) (a0 : shelf_nodeT) (a1 : ByteArray) {r : shelf_nodeT}, shelf_node_cut_r n a0 a1 = some r → FnOk Try.prog 38 [(k_shelf_nodeT.pd a0), (pStr a1)] (k_shelf_nodeT.pd r)
  | 0, _, _, _, h => by simp [shelf_node_cut_r] at h
  | n + 1, a0, a1, _, h => shelf_node_cut_b_ok (shelf_node_cut_r n) (fun a0 a1 r h => shelf_node_cut_r_ok n a0 a1 h) a0 a1 h
theorem shelf_node_cut_ok (a0 : shelf_nodeT) (a1 : ByteArray) {r : shelf_nodeT} (h : shelf_node_cut a0 a1 = some r) : FnOk Try.prog 38 [(k_shelf_nodeT.pd a0), (pStr a1)] (k_shelf_nodeT.pd r) := shelf_node_cut_r_ok _ a0 a1 h
end Go.CL

set_option linter.unusedVariables false
set_option linter.unusedSimpArgs false
set_option maxRecDepth 100000
namespace Go.CL
open Go Go.RowKit Go.Proofs
theorem shelf_Shelf_Cut_ok (a0 : shelf_Shelf) (a1 : ByteArray) {r : shelf_Shelf × Bool} (h : shelf_Shelf_Cut a0 a1 = some r) : FnOk Try.prog 26 [(k_shelf_Shelf.pd a0), (pStr a1)] (pTup [(k_shelf_Shelf.pd r.1), (pBool r.2)]) := by
  have H0 := h
  unfold shelf_Shelf_Cut at H0
  clear h
  refine fn_ok (N := 24) Try.func26 rfl rfl (Nat.le_of_ble_eq_true rfl) rfl rfl (fun a g0 hst hb => ?_)
  refine wp_seq ?_
  refine wp_reg follows (N := 24) (L := [(0, (k_shelf_Shelf.pd a0)), (1, (pStr a1))])
      (T := [⟨[.old 0], [(2, (k_shelf_Shelf.ptr a0))], [], [], [2]⟩,
        ⟨[], [(4, (pBox k_shelf_Shelf 4 (default : shelf_Shelf)))], [5], [], [4]⟩,
        ⟨[], [(5, (pBool false))], [], [], [5]⟩])
      (F := [.old 1, .op 0 0, .op 1 0]) (by kernel_rfl)
      (allOT_cons (OT.plain rfl (ob_box1 rfl rfl Opd.t0))
        (allOT_cons (OT.plain rfl (ob_alloc (zs := [.pointer none, .int .i64 0]) (by kernel_rfl) (fun g => zk_shelf_Shelf g) rfl rfl))
        (allOT_cons (OT.plain rfl (ob_assign rfl rfl (Opd.c (bool_q _))))
        allOT_nil)))
      hst hb (fun a g hst hb => ?_)
  refine then_n ?_
  refine wp_seq ?_
  refine wp_seq ?_
  obtain ⟨r1, h2, H0⟩ := of_bind H0
  refine wp_reg follows (N := 24) (L := [(1, (pStr a1)), (2, (k_shelf_Shelf.ptr a0)), (4, (pBox k_shelf_Shelf 4 (default : shelf_Shelf)))])
      (T := [⟨[.old 1], [(9, (k_shelf_Shelf.pd a0))], [], [], [9]⟩,
        ⟨[.old 0], [(10, (pStr a1))], [], [], [10]⟩,
        ⟨[.op 0 0, .op 1 0], [(11, (pTup [(k_api_Record.pd r1.1), (pBool r1.2)]))], [], [0, 1], [11]⟩,
        ⟨[.op 2 0], [(8, (pTup [(k_api_Record.pd r1.1), (pBool r1.2)]))], [], [0, 1, 2], [8]⟩,
        ⟨[.op 3 0], [(12, (k_api_Record.pd r1.1))], [], [0, 1, 2, 3], [12]⟩,
        ⟨[.op 3 0], [(13, (pBool r1.2))], [], [0, 1, 2, 3], [13]⟩,
        ⟨[], [(6, (pBox k_api_Record 6 (default : api_Record)))], [7], [], [6]⟩,
        ⟨[.op 4 0, .op 6 0], [(6, (k_api_Record.ptr r1.1))], [7], [0, 1, 2, 3, 4, 6], [6]⟩,
        ⟨[.op 5 0], [(7, (pBool r1.2))], [], [0, 1, 2, 3, 4, 5, 6, 7], [7]⟩])
      (F := [.old 0, .old 1, .old 2, .op 8 0]) (by kernel_rfl)
      (allOT_cons (OT.plain rfl (ob_load ty_28 rfl rfl Opd.t0))
        (allOT_cons (OT.plain rfl (ob_move rfl rfl Opd.t0))
        (allOT_cons (OT.plain rfl (ob_call en_22 (shelf_Shelf_Get_ok _ _ h2) rfl rfl (.cons Opd.t0 (.cons (Opd.tl Opd.t0) .nil))))
        (allOT_cons (OT.plain rfl (ob_move rfl rfl Opd.t0))
        (allOT_cons (OT.plain rfl (ob_extract rfl rfl Opd.t0 rfl))
        (allOT_cons (OT.plain rfl (ob_extract rfl rfl Opd.t0 rfl))
        (allOT_cons (OT.plain rfl (ob_alloc (zs := [.int .i64 0, .int .i64 0, .int .i64 0, .int .i64 0, .float .f64 0, .int .i64 0, .string ByteArray.empty, .slice none 0 0]) (by kernel_rfl) (fun g => zk_api_Record g) rfl rfl))
        (allOT_cons (OT.plain rfl (ob_storeF ty_38 rfl rfl (Opd.tl Opd.t0) Opd.t0))
        (allOT_cons (OT.plain rfl (ob_assign rfl rfl Opd.t0))
        allOT_nil)))))))))
      hst hb (fun a g hst hb => ?_)
  refine then_n ?_
  refine wp_seq ?_
  refine wp_reg follows (N := 24) (L := [(1, (pStr a1)), (2, (k_shelf_Shelf.ptr a0)), (4, (pBox k_shelf_Shelf 4 (default : shelf_Shelf))), (7, (pBool r1.2))])
      (T := [⟨[.old 3], [(14, (pBool r1.2))], [], [], [14]⟩,
        ⟨[.op 0 0], [(15, (pBool (!r1.2)))], [], [0], [15]⟩])
      (F := [.old 0, .old 1, .old 2, .op 1 0]) (by kernel_rfl)
      (allOT_cons (OT.plain rfl (ob_move rfl rfl Opd.t0))
        (allOT_cons (OT.plain rfl (ob_not rfl rfl Opd.t0))
        allOT_nil))
      hst hb (fun a g hst hb => ?_)
  refine then_n ?_
  refine wp_cond_split (hst.bool 3 rfl) (fun hc3 => ?_) (fun hc3 => ?_)
  · replace H0 := ite_t hc3 H0
    refine wp_seq ?_
    refine wp_reg follows (N := 24) (L := [(2, (k_shelf_Shelf.ptr a0)), (4, (pBox k_shelf_Shelf 4 (default : shelf_Shelf)))])
        (T := [⟨[.old 0], [(16, (k_shelf_Shelf.pd a0))], [], [], [16]⟩,
          ⟨[.op 0 0, .old 1], [(4, (pBox k_shelf_Shelf 4 a0))], [5], [0], [4]⟩,
          ⟨[], [(5, (pBool false))], [], [0, 1], [5]⟩])
        (F := [.op 1 0, .op 2 0]) (by kernel_rfl)
        (allOT_cons (OT.plain rfl (ob_load ty_28 rfl rfl Opd.t0))
          (allOT_cons (OT.plain rfl (ob_store ty_28 rfl rfl (Opd.tl Opd.t0) Opd.t0))
          (allOT_cons (OT.plain rfl (ob_assign rfl rfl (Opd.c (bool_q _))))
          allOT_nil)))
        (hst.pick [1, 2] rfl) hb (fun a g hst hb => ?_)
    refine then_n ?_
    refine wp_ret ?_
    refine then_r ?_
    obtain rfl := Option.some.inj H0
    obtain ⟨u0, hu0, hq0⟩ := res_box (P := Try.prog) ty_28 (hst.at 0 rfl)
    exact endR2 rfl hst hb hu0 (res_tmp (s := 5)) (pTup_2 hq0 (hst.at 1 rfl))
  · replace H0 := ite_f hc3 H0
    refine wp_skip ?_
    refine then_n ?_
    refine wp_seq ?_
    obtain ⟨r4, h5, H0⟩ := of_bind H0
    refine wp_reg follows (N := 24) (L := [(1, (pStr a1)), (2, (k_shelf_Shelf.ptr a0)), (4, (pBox k_shelf_Shelf 4 (default : shelf_Shelf)))])
        (T := [⟨[.old 1], [(17, (k_shelf_nodeT.ptr a0.top))], [], [], [17]⟩,
          ⟨[.op 0 0], [(18, (k_shelf_nodeT.pd a0.top))], [], [0], [18]⟩,
          ⟨[.old 0], [(19, (pStr a1))], [], [], [19]⟩,
          ⟨[.op 1 0, .op 2 0], [(20, (k_shelf_nodeT.pd r4))], [], [0, 1, 2], [20]⟩,
          ⟨[.old 1], [(21, ((Kd.int .i64).ptr a0.room))], [], [], [21]⟩,
          ⟨[.op 4 0], [(22, (pInt .i64 a0.room))], [], [4], [22]⟩,
          ⟨[.op 3 0, .op 5 0], [(23, (k_shelf_Shelf.pd ({ top := r4, room := a0.room } : shelf_Shelf)))], [], [0, 1, 2, 3, 4, 5], [23]⟩,
          ⟨[.op 6 0, .old 2], [(4, (pBox k_shelf_Shelf 4 ({ top := r4, room := a0.room } : shelf_Shelf)))], [5], [0, 1, 2, 3, 4, 5, 6], [4]⟩,
          ⟨[], [(5, (pBool true))], [], [0, 1, 2, 3, 4, 5, 6, 7], [5]⟩])
        (F := [.op 7 0, .op 8 0]) (by kernel_rfl)
        (allOT_cons (OT.plain rfl (ob_fieldAddr fl_28_0 rfl rfl Opd.t0))
          (allOT_cons (OT.plain rfl (ob_load ty_26 rfl rfl Opd.t0))
          (allOT_cons (OT.plain rfl (ob_move rfl rfl Opd.t0))
          (allOT_cons (OT.plain rfl (ob_call en_38 (shelf_node_cut_ok _ _ h5) rfl rfl (.cons Opd.t0 (.cons (Opd.tl Opd.t0) .nil))))
          (allOT_cons (OT.plain rfl (ob_fieldAddr fl_28_1 rfl rfl Opd.t0))
          (allOT_cons (OT.plain rfl (ob_load ty_3 rfl rfl Opd.t0))
          (allOT_cons (OT.plain rfl (bd_28_0_1 rfl rfl Opd.t0 (Opd.tl Opd.t0)))
          (allOT_cons (OT.plain rfl (ob_store ty_28 rfl rfl (Opd.tl Opd.t0) Opd.t0))
          (allOT_cons (OT.plain rfl (ob_assign rfl rfl (Opd.c (bool_q _))))
          allOT_nil)))))))))
        (hst.pick [0, 1, 2] rfl) hb (fun a g hst hb => ?_)
    refine then_n ?_
    refine wp_ret ?_
    obtain rfl := Option.some.inj H0
    obtain ⟨u0, hu0, hq0⟩ := res_box (P := Try.prog) ty_28 (hst.at 0 rfl)
    exact endR2 rfl hst hb hu0 (res_tmp (s := 5)) (pTup_2 hq0 (hst.at 1 rfl))
end Go.CL

set_option linter.unusedVariables false
set_option linter.unusedSimpArgs false
set_option maxRecDepth 100000
namespace Go.CL
open Go Go.RowKit Go.Proofs
theorem moietyref09_Shelf_Find_ok (a0 : moietyref09_Shelf) (a1 : ByteArray) {r : Int} (h : moietyref09_Shelf_Find a0 a1 = some r) : FnOk Try.prog 15 [(k_moietyref09_Shelf.pd a0), (pStr a1)] (pInt .i64 r) := by
  have H0 := h
  unfold moietyref09_Shelf_Find at H0
  clear h
  refine fn_ok (N := 24) Try.func15 rfl rfl (Nat.le_of_ble_eq_true rfl) rfl rfl (fun a g0 hst hb => ?_)
  refine wp_seq ?_
  refine wp_reg follows (N := 24) (L := [(0, (k_moietyref09_Shelf.pd a0)), (1, (pStr a1))])
      (T := [⟨[.old 0], [(2, (k_moietyref09_Shelf.ptr a0))], [], [], [2]⟩,
        ⟨[], [(4, (pInt .i64 (0 : Int)))], [], [], [4]⟩])
      (F := [.old 1, .op 0 0]) (by kernel_rfl)
      (allOT_cons (OT.plain rfl (ob_box1 rfl rfl Opd.t0))
        (allOT_cons (OT.plain rfl (ob_assign rfl rfl (Opd.c (int_q _ _))))
        allOT_nil))
      hst hb (fun a g hst hb => ?_)
  refine then_n ?_
  refine wp_seq ?_
  refine wp_reg follows (N := 24) (L := [(1, (pStr a1)), (2, (k_moietyref09_Shelf.ptr a0))])
      (T := [⟨[], [(5, (pInt .i64 (0 : Int)))], [], [], [5]⟩])
      (F := [.old 0, .old 1, .op 0 0]) (by kernel_rfl)
      (allOT_cons (OT.plain rfl (ob_assign rfl rfl (Opd.c (int_q _ _))))
        allOT_nil)
      hst hb (fun a g hst hb => ?_)
  refine then_n ?_
  refine wp_seq ?_
  obtain ⟨z6, hz1, H0⟩ := of_bind H0
  refine wp_cut (fun a w => ∃ (y5 : Int) (g : G), w = g.w ∧ St 24 [(5, (pInt .i64 y5))] a g ∧ Base g0 g ∧ y5 = z6) ?_ ?_
  · rintro a w ⟨y5, g, rfl, hst, hb, rfl⟩
    refine then_n ?_
    refine wp_seq ?_
    refine wp_reg follows (N := 24) (L := [(5, (pInt .i64 y5))])
        (T := [⟨[.old 0], [(23, (pInt .i64 y5))], [], [], [23]⟩,
          ⟨[.op 0 0], [(4, (pInt .i64 y5))], [], [0], [4]⟩])
        (F := [.op 1 0]) (by kernel_rfl)
        (allOT_cons (OT.plain rfl (ob_move rfl rfl Opd.t0))
          (allOT_cons (OT.plain rfl (ob_assign rfl rfl Opd.t0))
          allOT_nil))
        hst hb (fun a g hst hb => ?_)
    refine then_n ?_
    refine wp_ret ?_
    obtain rfl := Option.some.inj H0
    exact endR1 rfl hst hb (res_tmp (s := 4)) (hst.at 0 rfl)
  · refine wp_block ?_
    refine wp_loop_ghost (fun n a w => ∃ (x1 : Int) (g : G), w = g.w ∧ St 24 [(1, (pStr a1)), (2, (k_moietyref09_Shelf.ptr a0)), (5, (pInt .i64 x1))] a g ∧ Base g0 g ∧ moietyref09_Shelf_Find_l1 a0 a1 n x1 = some z6) (Int.toNat ((a0.L.length : Int) - (0 : Int)) + 1) ⟨(0 : Int), g, rfl, (hst.pick [0, 1, 2] rfl), hb, hz1⟩ (fun n a w hI => ?_)
    obtain ⟨x1, g, rfl, hst, hb, H1⟩ := hI
    cases n with
    | zero => exact absurd H1 (by simp [moietyref09_Shelf_Find_l1])
    | succ n =>
      rw [moietyref09_Shelf_Find_l1] at H1
      refine wp_seq ?_
      refine wp_seq ?_
      obtain ⟨e2, h3, H1⟩ := of_bind H1
      refine wp_reg follows (N := 24) (L := [(1, (pStr a1)), (2, (k_moietyref09_Shelf.ptr a0)), (5, (pInt .i64 x1))])
          (T := [⟨[.old 2], [(6, (pInt .i64 x1))], [], [], [6]⟩,
            ⟨[.old 1], [(7, (k_moietyref09_Pair.sl.ptr a0.L))], [], [], [7]⟩,
            ⟨[.op 1 0], [(8, (k_moietyref09_Pair.sl.pd a0.L))], [], [1], [8]⟩,
            ⟨[.op 2 0], [(9, (pInt .i64 (a0.L.length : Int)))], [], [1, 2], [9]⟩,
            ⟨[.op 0 0, .op 3 0], [(10, (pBool (decide (x1 < (a0.L.length : Int)))))], [], [0, 1, 2, 3], [10]⟩,
            ⟨[.op 4 0], [(11, (pBool (decide (x1 < (a0.L.length : Int)))))], [], [0, 1, 2, 3, 4], [11]⟩,
            ⟨[.op 5 0, .old 1], [(12, (pIf (decide (x1 < (a0.L.length : Int))) (k_moietyref09_Pair.sl.ptr a0.L)))], [], [0, 1, 2, 3, 4, 5], [12]⟩,
            ⟨[.op 5 0, .op 6 0], [(13, (pIf (decide (x1 < (a0.L.length : Int))) (k_moietyref09_Pair.sl.pd a0.L)))], [], [0, 1, 2, 3, 4, 5, 6], [13]⟩,
            ⟨[.op 5 0, .old 2], [(14, (pIf (decide (x1 < (a0.L.length : Int))) (pInt .i64 x1)))], [], [0, 1, 2, 3, 4, 5], [14]⟩,
            ⟨[.op 5 0, .op 7 0, .op 8 0], [(15, (pIf (decide (x1 < (a0.L.length : Int))) (k_moietyref09_Pair.ptr e2)))], [], [0, 1, 2, 3, 4, 5, 6, 7, 8], [15]⟩,
            ⟨[.op 5 0, .op 9 0], [(16, (pIf (decide (x1 < (a0.L.length : Int))) (Kd.str.ptr e2.Key)))], [], [0, 1, 2, 3, 4, 5, 6, 7, 8, 9], [16]⟩,
            ⟨[.op 5 0, .op 10 0], [(17, (pIf (decide (x1 < (a0.L.length : Int))) (pStr e2.Key)))], [], [0, 1, 2, 3, 4, 5, 6, 7, 8, 9, 10], [17]⟩,
            ⟨[.op 5 0, .old 0], [(18, (pIf (decide (x1 < (a0.L.length : Int))) (pStr a1)))], [], [0, 1, 2, 3, 4, 5], [18]⟩,
            ⟨[.op 5 0, .op 11 0, .op 12 0], [(19, (pIf (decide (x1 < (a0.L.length : Int))) (pBool (sLt e2.Key a1))))], [], [0, 1, 2, 3, 4, 5, 6, 7, 8, 9, 10, 11, 12], [19]⟩,
            ⟨[.op 5 0, .op 13 0], [(20, (pBool ((decide (x1 < (a0.L.length : Int))) && (sLt e2.Key a1))))], [], [0, 1, 2, 3, 4, 5, 6, 7, 8, 9, 10, 11, 12, 13], [20]⟩])
          (F := [.old 0, .old 1, .old 2, .op 14 0]) (by kernel_rfl)
          (allOT_cons (OT.plain rfl (ob_move rfl rfl Opd.t0))
            (allOT_cons (OT.plain rfl (ob_fieldAddr fl_34_0 rfl rfl Opd.t0))
            (allOT_cons (OT.plain rfl (ob_load ty_32 rfl rfl Opd.t0))
            (allOT_cons (OT.plain rfl (ob_lenL Try.underlying32 rfl rfl Opd.t0))
            (allOT_cons (OT.plain rfl (ob_lt rfl rfl Opd.t0 (Opd.tl Opd.t0)))
            (allOT_cons (OT.plain rfl (ob_move rfl rfl Opd.t0))
            (allOT_cons (OT.guard (outs := [(12, (k_moietyref09_Pair.sl.ptr a0.L))]) (decide (x1 < (a0.L.length : Int))) (gT (decide (x1 < (a0.L.length : Int)))).1 (gT (decide (x1 < (a0.L.length : Int)))).2 rfl rfl (fun e he => by rw [List.mem_singleton.1 he]) (fun hG => ob_fieldAddr fl_34_0 rfl rfl Opd.t0))
            (allOT_cons (OT.guard (outs := [(13, (k_moietyref09_Pair.sl.pd a0.L))]) (decide (x1 < (a0.L.length : Int))) (gT (decide (x1 < (a0.L.length : Int)))).1 (gT (decide (x1 < (a0.L.length : Int)))).2 rfl rfl (fun e he => by rw [List.mem_singleton.1 he]) (fun hG => ob_load ty_32 rfl rfl (Opd.gd hG Opd.t0)))
            (allOT_cons (OT.guard (outs := [(14, (pInt .i64 x1))]) (decide (x1 < (a0.L.length : Int))) (gT (decide (x1 < (a0.L.length : Int)))).1 (gT (decide (x1 < (a0.L.length : Int)))).2 rfl rfl (fun e he => by rw [List.mem_singleton.1 he]) (fun hG => ob_move rfl rfl Opd.t0))
            (allOT_cons (OT.guard (outs := [(15, (k_moietyref09_Pair.ptr e2))]) (decide (x1 < (a0.L.length : Int))) (gT (decide (x1 < (a0.L.length : Int)))).1 (gT (decide (x1 < (a0.L.length : Int)))).2 rfl rfl (fun e he => by rw [List.mem_singleton.1 he]) (fun hG => ob_indexAddr Try.underlying32 sz_54 rfl rfl (Opd.gd hG Opd.t0) (Opd.gd hG (Opd.tl Opd.t0)) (gd_true h3 hG)))
            (allOT_cons (OT.guard (outs := [(16, (Kd.str.ptr e2.Key))]) (decide (x1 < (a0.L.length : Int))) (gT (decide (x1 < (a0.L.length : Int)))).1 (gT (decide (x1 < (a0.L.length : Int)))).2 rfl rfl (fun e he => by rw [List.mem_singleton.1 he]) (fun hG => ob_fieldAddr fl_54_0 rfl rfl (Opd.gd hG Opd.t0)))
            (allOT_cons (OT.guard (outs := [(17, (pStr e2.Key))]) (decide (x1 < (a0.L.length : Int))) (gT (decide (x1 < (a0.L.length : Int)))).1 (gT (decide (x1 < (a0.L.length : Int)))).2 rfl rfl (fun e he => by rw [List.mem_singleton.1 he]) (fun hG => ob_load ty_9 rfl rfl (Opd.gd hG Opd.t0)))
            (allOT_cons (OT.guard (outs := [(18, (pStr a1))]) (decide (x1 < (a0.L.length : Int))) (gT (decide (x1 < (a0.L.length : Int)))).1 (gT (decide (x1 < (a0.L.length : Int)))).2 rfl rfl (fun e he => by rw [List.mem_singleton.1 he]) (fun hG => ob_move rfl rfl Opd.t0))
            (allOT_cons (OT.guard (outs := [(19, (pBool (sLt e2.Key a1)))]) (decide (x1 < (a0.L.length : Int))) (gT (decide (x1 < (a0.L.length : Int)))).1 (gT (decide (x1 < (a0.L.length : Int)))).2 rfl rfl (fun e he => by rw [List.mem_singleton.1 he]) (fun hG => ob_slt rfl rfl (Opd.gd hG Opd.t0) (Opd.gd hG (Opd.tl Opd.t0))))
            (allOT_cons (OT.plain rfl (ob_pick (q := (pBool ((decide (x1 < (a0.L.length : Int))) && (sLt e2.Key a1)))) rfl rfl Opd.t0 (fun hz => Opd.to (Opd.gd hz (Opd.tl Opd.t0)) (congrArg (fun t => (pBool t)) (pk_and_t hz))) (fun hz => Opd.to (Opd.c (bool_q _)) (congrArg (fun t => (pBool t)) (pk_and_f hz)))))
            allOT_nil)))))))))))))))
          hst hb (fun a g hst hb => ?_)
      refine then_n ?_
      refine wp_cond_split (hst.bool 3 rfl) (fun hc4 => ?_) (fun hc4 => ?_)
      · replace H1 := ite_t hc4 H1
        refine wp_skip ?_
        refine then_n ?_
        refine wp_block ?_
        refine wp_reg follows (N := 24) (L := [(1, (pStr a1)), (2, (k_moietyref09_Shelf.ptr a0)), (5, (pInt .i64 x1))])
            (T := [⟨[.old 2], [(21, (pInt .i64 x1))], [], [], [21]⟩,
              ⟨[.op 0 0], [(22, (pInt .i64 (IntKind.i64.wrap (x1 + (1 : Int)))))], [], [0], [22]⟩,
              ⟨[.op 1 0], [(5, (pInt .i64 (IntKind.i64.wrap (x1 + (1 : Int)))))], [], [0, 1], [5]⟩])
            (F := [.old 0, .old 1, .op 2 0]) (by kernel_rfl)
            (allOT_cons (OT.plain rfl (ob_move rfl rfl Opd.t0))
              (allOT_cons (OT.plain rfl (ob_add rfl rfl Opd.t0 (Opd.c (int_q _ _)) rfl))
              (allOT_cons (OT.plain rfl (ob_assign rfl rfl Opd.t0))
              allOT_nil)))
            (hst.pick [0, 1, 2] rfl) hb (fun a g hst hb => ?_)
        refine inBlock_n ?_
        exact ⟨n, Nat.lt_succ_self _, (IntKind.i64.wrap (x1 + (1 : Int))), g, rfl, (hst.pick [0, 1, 2] rfl), hb, H1⟩
      · replace H1 := ite_f hc4 H1
        refine wp_exit ?_
        refine then_e ?_
        refine then_e ?_
        refine inBlock_e ?_
        exact ⟨x1, g, rfl, (hst.pick [2] rfl), hb, Option.some.inj H1⟩
end Go.CL

set_option linter.unusedVariables false
set_option linter.unusedSimpArgs false
set_option maxRecDepth 100000
namespace Go.CL
open Go Go.RowKit Go.Proofs
theorem moietyref09_Shelf_Cut_ok (a0 : moietyref09_Shelf) (a1 : ByteArray) {r : moietyref09_Shelf × Bool} (h : moietyref09_Shelf_Cut a0 a1 = some r) : FnOk Try.prog 31 [(k_moietyref09_Shelf.pd a0), (pStr a1)] (pTup [(k_moietyref09_Shelf.pd r.1), (pBool r.2)]) := by
  have H0 := h
  unfold moietyref09_Shelf_Cut at H0
  clear h
  refine fn_ok (N := 43) Try.func31 rfl rfl (Nat.le_of_ble_eq_true rfl) rfl rfl (fun a g0 hst hb => ?_)
  refine wp_seq ?_
  refine wp_reg follows (N := 43) (L := [(0, (k_moietyref09_Shelf.pd a0)), (1, (pStr a1))])
      (T := [⟨[.old 0], [(2, (k_moietyref09_Shelf.ptr a0))], [], [], [2]⟩,
        ⟨[], [(4, (pBox k_moietyref09_Shelf 4 (default : moietyref09_Shelf)))], [5], [], [4]⟩,
        ⟨[], [(5, (pBool false))], [], [], [5]⟩])
      (F := [.old 1, .op 0 0, .op 1 0]) (by kernel_rfl)
      (allOT_cons (OT.plain rfl (ob_box1 rfl rfl Opd.t0))
        (allOT_cons (OT.plain rfl (ob_alloc (zs := [.slice none 0 0, .int .i64 0]) (by kernel_rfl) (fun g => zk_moietyref09_Shelf g) rfl rfl))
        (allOT_cons (OT.plain rfl (ob_assign rfl rfl (Opd.c (bool_q _))))
        allOT_nil)))
      hst hb (fun a g hst hb => ?_)
  refine then_n ?_
  refine wp_seq ?_
  obtain ⟨r1, h2, H0⟩ := of_bind H0
  refine wp_reg follows (N := 43) (L := [(1, (pStr a1)), (2, (k_moietyref09_Shelf.ptr a0)), (4, (pBox k_moietyref09_Shelf 4 (default : moietyref09_Shelf)))])
      (T := [⟨[.old 1], [(8, (k_moietyref09_Shelf.pd a0))], [], [], [8]⟩,
        ⟨[.old 0], [(9, (pStr a1))], [], [], [9]⟩,
        ⟨[.op 0 0, .op 1 0], [(10, (pInt .i64 r1))], [], [0, 1], [10]⟩,
        ⟨[.op 2 0], [(6, (pInt .i64 r1))], [], [0, 1, 2], [6]⟩])
      (F := [.old 0, .old 1, .old 2, .op 3 0]) (by kernel_rfl)
      (allOT_cons (OT.plain rfl (ob_load ty_34 rfl rfl Opd.t0))
        (allOT_cons (OT.plain rfl (ob_move rfl rfl Opd.t0))
        (allOT_cons (OT.plain rfl (ob_call en_15 (moietyref09_Shelf_Find_ok _ _ h2) rfl rfl (.cons Opd.t0 (.cons (Opd.tl Opd.t0) .nil))))
        (allOT_cons (OT.plain rfl (ob_assign rfl rfl Opd.t0))
        allOT_nil))))
      hst hb (fun a g hst hb => ?_)
  refine then_n ?_
  refine wp_seq ?_
  refine wp_seq ?_
  obtain ⟨e3, h4, H0⟩ := of_bind H0
  refine wp_reg follows (N := 43) (L := [(1, (pStr a1)), (2, (k_moietyref09_Shelf.ptr a0)), (4, (pBox k_moietyref09_Shelf 4 (default : moietyref09_Shelf))), (6, (pInt .i64 r1))])
      (T := [⟨[.old 3], [(11, (pInt .i64 r1))], [], [], [11]⟩,
        ⟨[.old 1], [(12, (k_moietyref09_Pair.sl.ptr a0.L))], [], [], [12]⟩,
        ⟨[.op 1 0], [(13, (k_moietyref09_Pair.sl.pd a0.L))], [], [1], [13]⟩,
        ⟨[.op 2 0], [(14, (pInt .i64 (a0.L.length : Int)))], [], [1, 2], [14]⟩,
        ⟨[.op 0 0, .op 3 0], [(15, (pBool (decide ((a0.L.length : Int) ≤ r1))))], [], [0, 1, 2, 3], [15]⟩,
        ⟨[.op 4 0], [(16, (pBool (decide ((a0.L.length : Int) ≤ r1))))], [], [0, 1, 2, 3, 4], [16]⟩,
        ⟨[.op 5 0, .old 1], [(17, (pIf (!(decide ((a0.L.length : Int) ≤ r1))) (k_moietyref09_Pair.sl.ptr a0.L)))], [], [0, 1, 2, 3, 4, 5], [17]⟩,
        ⟨[.op 5 0, .op 6 0], [(18, (pIf (!(decide ((a0.L.length : Int) ≤ r1))) (k_moietyref09_Pair.sl.pd a0.L)))], [], [0, 1, 2, 3, 4, 5, 6], [18]⟩,
        ⟨[.op 5 0, .old 3], [(19, (pIf (!(decide ((a0.L.length : Int) ≤ r1))) (pInt .i64 r1)))], [], [0, 1, 2, 3, 4, 5], [19]⟩,
        ⟨[.op 5 0, .op 7 0, .op 8 0], [(20, (pIf (!(decide ((a0.L.length : Int) ≤ r1))) (k_moietyref09_Pair.ptr e3)))], [], [0, 1, 2, 3, 4, 5, 6, 7, 8], [20]⟩,
        ⟨[.op 5 0, .op 9 0], [(21, (pIf (!(decide ((a0.L.length : Int) ≤ r1))) (Kd.str.ptr e3.Key)))], [], [0, 1, 2, 3, 4, 5, 6, 7, 8, 9], [21]⟩,
        ⟨[.op 5 0, .op 10 0], [(22, (pIf (!(decide ((a0.L.length : Int) ≤ r1))) (pStr e3.Key)))], [], [0, 1, 2, 3, 4, 5, 6, 7, 8, 9, 10], [22]⟩,
        ⟨[.op 5 0, .old 0], [(23, (pIf (!(decide ((a0.L.length : Int) ≤ r1))) (pStr a1)))], [], [0, 1, 2, 3, 4, 5], [23]⟩,
        ⟨[.op 5 0, .op 11 0, .op 12 0], [(24, (pIf (!(decide ((a0.L.length : Int) ≤ r1))) (pBool (!sEq e3.Key a1))))], [], [0, 1, 2, 3, 4, 5, 6, 7, 8, 9, 10, 11, 12], [24]⟩,
        ⟨[.op 5 0, .op 13 0], [(25, (pBool ((decide ((a0.L.length : Int) ≤ r1)) || (!sEq e3.Key a1))))], [], [0, 1, 2, 3, 4, 5, 6, 7, 8, 9, 10, 11, 12, 13], [25]⟩])
      (F := [.old 1, .old 2, .old 3, .op 14 0]) (by kernel_rfl)
      (allOT_cons (OT.plain rfl (ob_move rfl rfl Opd.t0))
        (allOT_cons (OT.plain rfl (ob_fieldAddr fl_34_0 rfl rfl Opd.t0))
        (allOT_cons (OT.plain rfl (ob_load ty_32 rfl rfl Opd.t0))
        (allOT_cons (OT.plain rfl (ob_lenL Try.underlying32 rfl rfl Opd.t0))
        (allOT_cons (OT.plain rfl (ob_ge rfl rfl Opd.t0 (Opd.tl Opd.t0)))
        (allOT_cons (OT.plain rfl (ob_move rfl rfl Opd.t0))
        (allOT_cons (OT.guard (outs := [(17, (k_moietyref09_Pair.sl.ptr a0.L))]) (!(decide ((a0.L.length : Int) ≤ r1))) (gF (decide ((a0.L.length : Int) ≤ r1))).1 (gF (decide ((a0.L.length : Int) ≤ r1))).2 rfl rfl (fun e he => by rw [List.mem_singleton.1 he]) (fun hG => ob_fieldAddr fl_34_0 rfl rfl Opd.t0))
        (allOT_cons (OT.guard (outs := [(18, (k_moietyref09_Pair.sl.pd a0.L))]) (!(decide ((a0.L.length : Int) ≤ r1))) (gF (decide ((a0.L.length : Int) ≤ r1))).1 (gF (decide ((a0.L.length : Int) ≤ r1))).2 rfl rfl (fun e he => by rw [List.mem_singleton.1 he]) (fun hG => ob_load ty_32 rfl rfl (Opd.gd hG Opd.t0)))
        (allOT_cons (OT.guard (outs := [(19, (pInt .i64 r1))]) (!(decide ((a0.L.length : Int) ≤ r1))) (gF (decide ((a0.L.length : Int) ≤ r1))).1 (gF (decide ((a0.L.length : Int) ≤ r1))).2 rfl rfl (fun e he => by rw [List.mem_singleton.1 he]) (fun hG => ob_move rfl rfl Opd.t0))
        (allOT_cons (OT.guard (outs := [(20, (k_moietyref09_Pair.ptr e3))]) (!(decide ((a0.L.length : Int) ≤ r1))) (gF (decide ((a0.L.length : Int) ≤ r1))).1 (gF (decide ((a0.L.length : Int) ≤ r1))).2 rfl rfl (fun e he => by rw [List.mem_singleton.1 he]) (fun hG => ob_indexAddr Try.underlying32 sz_54 rfl rfl (Opd.gd hG Opd.t0) (Opd.gd hG (Opd.tl Opd.t0)) (gd_true h4 hG)))
        (allOT_cons (OT.guard (outs := [(21, (Kd.str.ptr e3.Key))]) (!(decide ((a0.L.length : Int) ≤ r1))) (gF (decide ((a0.L.length : Int) ≤ r1))).1 (gF (decide ((a0.L.length : Int) ≤ r1))).2 rfl rfl (fun e he => by rw [List.mem_singleton.1 he]) (fun hG => ob_fieldAddr fl_54_0 rfl rfl (Opd.gd hG Opd.t0)))
        (allOT_cons (OT.guard (outs := [(22, (pStr e3.Key))]) (!(decide ((a0.L.length : Int) ≤ r1))) (gF (decide ((a0.L.length : Int) ≤ r1))).1 (gF (decide ((a0.L.length : Int) ≤ r1))).2 rfl rfl (fun e he => by rw [List.mem_singleton.1 he]) (fun hG => ob_load ty_9 rfl rfl (Opd.gd hG Opd.t0)))
        (allOT_cons (OT.guard (outs := [(23, (pStr a1))]) (!(decide ((a0.L.length : Int) ≤ r1))) (gF (decide ((a0.L.length : Int) ≤ r1))).1 (gF (decide ((a0.L.length : Int) ≤ r1))).2 rfl rfl (fun e he => by rw [List.mem_singleton.1 he]) (fun hG => ob_move rfl rfl Opd.t0))
        (allOT_cons (OT.guard (outs := [(24, (pBool (!sEq e3.Key a1)))]) (!(decide ((a0.L.length : Int) ≤ r1))) (gF (decide ((a0.L.length : Int) ≤ r1))).1 (gF (decide ((a0.L.length : Int) ≤ r1))).2 rfl rfl (fun e he => by rw [List.mem_singleton.1 he]) (fun hG => ob_sne rfl rfl (Opd.gd hG Opd.t0) (Opd.gd hG (Opd.tl Opd.t0))))
        (allOT_cons (OT.plain rfl (ob_pick (q := (pBool ((decide ((a0.L.length : Int) ≤ r1)) || (!sEq e3.Key a1)))) rfl rfl Opd.t0 (fun hz => Opd.to (Opd.c (bool_q _)) (congrArg (fun t => (pBool t)) (pk_or_t hz))) (fun hz => Opd.to (Opd.gd (bNF hz) (Opd.tl Opd.t0)) (congrArg (fun t => (pBool t)) (pk_or_f hz)))))
        allOT_nil)))))))))))))))
      hst hb (fun a g hst hb => ?_)
  refine then_n ?_
  refine wp_cond_split (hst.bool 3 rfl) (fun hc5 => ?_) (fun hc5 => ?_)
  · replace H0 := ite_t hc5 H0
    refine wp_seq ?_
    refine wp_reg follows (N := 43) (L := [(2, (k_moietyref09_Shelf.ptr a0)), (4, (pBox k_moietyref09_Shelf 4 (default : moietyref09_Shelf)))])
        (T := [⟨[.old 0], [(26, (k_moietyref09_Shelf.pd a0))], [], [], [26]⟩,
          ⟨[.op 0 0, .old 1], [(4, (pBox k_moietyref09_Shelf 4 a0))], [5], [0], [4]⟩,
          ⟨[], [(5, (pBool false))], [], [0, 1], [5]⟩])
        (F := [.op 1 0, .op 2 0]) (by kernel_rfl)
        (allOT_cons (OT.plain rfl (ob_load ty_34 rfl rfl Opd.t0))
          (allOT_cons (OT.plain rfl (ob_store ty_34 rfl rfl (Opd.tl Opd.t0) Opd.t0))
          (allOT_cons (OT.plain rfl (ob_assign rfl rfl (Opd.c (bool_q _))))
          allOT_nil)))
        (hst.pick [0, 1] rfl) hb (fun a g hst hb => ?_)
    refine then_n ?_
    refine wp_ret ?_
    refine then_r ?_
    obtain rfl := Option.some.inj H0
    obtain ⟨u0, hu0, hq0⟩ := res_box (P := Try.prog) ty_34 (hst.at 0 rfl)
    exact endR2 rfl hst hb hu0 (res_tmp (s := 5)) (pTup_2 hq0 (hst.at 1 rfl))
  · replace H0 := ite_f hc5 H0
    refine wp_skip ?_
    refine then_n ?_
    refine wp_seq ?_
    obtain ⟨c6, h7, H0⟩ := of_bind H0
    obtain ⟨h8, H0⟩ := of_ite H0
    refine wp_reg follows (N := 43) (L := [(2, (k_moietyref09_Shelf.ptr a0)), (4, (pBox k_moietyref09_Shelf 4 (default : moietyref09_Shelf))), (6, (pInt .i64 r1))])
        (T := [⟨[], [(27, (pRow k_moietyref09_Pair 54 27 ([] : List moietyref09_Pair)))], [28], [], [27]⟩,
          ⟨[.old 0], [(28, (k_moietyref09_Pair.sl.ptr a0.L))], [], [], [28]⟩,
          ⟨[.op 1 0], [(29, (k_moietyref09_Pair.sl.pd a0.L))], [], [1], [29]⟩,
          ⟨[.old 2], [(30, (pInt .i64 r1))], [], [], [30]⟩,
          ⟨[.op 2 0, .op 3 0], [(31, (k_moietyref09_Pair.sl.pd c6))], [], [1, 2, 3], [31]⟩,
          ⟨[.op 0 0, .op 4 0], [(32, (pRow k_moietyref09_Pair 54 27 (([] : List moietyref09_Pair) ++ c6)))], [28], [0, 1, 2, 3, 4], [27, 32]⟩,
          ⟨[.op 5 0], [(7, (pRow k_moietyref09_Pair 54 27 (([] : List moietyref09_Pair) ++ c6)))], [], [0, 1, 2, 3, 4, 5], [7]⟩])
        (F := [.old 0, .old 1, .old 2, .op 6 0]) (by kernel_rfl)
        (allOT_cons (OT.plain rfl (ob_litRow 27 te_32 (xs := []) .nil (by decide) rfl rfl))
          (allOT_cons (OT.plain rfl (ob_fieldAddr fl_34_0 rfl rfl Opd.t0))
          (allOT_cons (OT.plain rfl (ob_load ty_32 rfl rfl Opd.t0))
          (allOT_cons (OT.plain rfl (ob_move rfl rfl Opd.t0))
          (allOT_cons (OT.plain rfl (ob_cutH Try.underlying32 sz_54 rfl rfl Opd.t0 (Opd.tl Opd.t0) h7))
          (allOT_cons (OT.plain rfl (ob_append te_32 rfl rfl Opd.t0 (Opd.tl Opd.t0) h8))
          (allOT_cons (OT.plain rfl (ob_assign rfl rfl Opd.t0))
          allOT_nil)))))))
        (hst.pick [0, 1, 2] rfl) hb (fun a g hst hb => ?_)
    refine then_n ?_
    refine wp_seq ?_
    obtain ⟨c9, h10, H0⟩ := of_bind H0
    obtain ⟨h11, H0⟩ := of_ite H0
    refine wp_reg follows (N := 43) (L := [(2, (k_moietyref09_Shelf.ptr a0)), (4, (pBox k_moietyref09_Shelf 4 (default : moietyref09_Shelf))), (6, (pInt .i64 r1)), (7, (pRow k_moietyref09_Pair 54 27 (([] : List moietyref09_Pair) ++ c6)))])
        (T := [⟨[.old 3], [(33, (pRow k_moietyref09_Pair 54 27 (([] : List moietyref09_Pair) ++ c6)))], [], [], [33]⟩,
          ⟨[.old 0], [(34, (k_moietyref09_Pair.sl.ptr a0.L))], [], [], [34]⟩,
          ⟨[.op 1 0], [(35, (k_moietyref09_Pair.sl.pd a0.L))], [], [1], [35]⟩,
          ⟨[.old 2], [(36, (pInt .i64 r1))], [], [], [36]⟩,
          ⟨[.op 3 0], [(37, (pInt .i64 (IntKind.i64.wrap (r1 + (1 : Int)))))], [], [3], [37]⟩,
          ⟨[.op 2 0, .op 4 0], [(38, (k_moietyref09_Pair.sl.pd c9))], [], [1, 2, 3, 4], [38]⟩,
          ⟨[.op 0 0, .op 5 0], [(39, (pRow k_moietyref09_Pair 54 27 ((([] : List moietyref09_Pair) ++ c6) ++ c9)))], [28], [0, 1, 2, 3, 4, 5], [7, 33, 39]⟩,
          ⟨[.old 0], [(40, ((Kd.int .i64).ptr a0.Room))], [], [], [40]⟩,
          ⟨[.op 7 0], [(41, (pInt .i64 a0.Room))], [], [7], [41]⟩,
          ⟨[.op 6 0, .op 8 0], [(42, (k_moietyref09_Shelf.pd ({ L := ((([] : List moietyref09_Pair) ++ c6) ++ c9), Room := a0.Room } : moietyref09_Shelf)))], [], [0, 1, 2, 3, 4, 5, 6, 7, 8], [42]⟩,
          ⟨[.op 9 0, .old 1], [(4, (pBox k_moietyref09_Shelf 4 ({ L := ((([] : List moietyref09_Pair) ++ c6) ++ c9), Room := a0.Room } : moietyref09_Shelf)))], [5], [0, 1, 2, 3, 4, 5, 6, 7, 8, 9], [4]⟩,
          ⟨[], [(5, (pBool true))], [], [0, 1, 2, 3, 4, 5, 6, 7, 8, 9, 10], [5]⟩])
        (F := [.op 10 0, .op 11 0]) (by kernel_rfl)
        (allOT_cons (OT.plain rfl (ob_move rfl rfl Opd.t0))
          (allOT_cons (OT.plain rfl (ob_fieldAddr fl_34_0 rfl rfl Opd.t0))
          (allOT_cons (OT.plain rfl (ob_load ty_32 rfl rfl Opd.t0))
          (allOT_cons (OT.plain rfl (ob_move rfl rfl Opd.t0))
          (allOT_cons (OT.plain rfl (ob_add rfl rfl Opd.t0 (Opd.c (int_q _ _)) rfl))
          (allOT_cons (OT.plain rfl (ob_cutL Try.underlying32 sz_54 rfl rfl Opd.t0 (Opd.tl Opd.t0) h10))
          (allOT_cons (OT.plain rfl (ob_append te_32 rfl rfl Opd.t0 (Opd.tl Opd.t0) h11))
          (allOT_cons (OT.plain rfl (ob_fieldAddr fl_34_1 rfl rfl Opd.t0))
          (allOT_cons (OT.plain rfl (ob_load ty_3 rfl rfl Opd.t0))
          (allOT_cons (OT.plain rfl (bd_34_0_1 rfl rfl (Opd.imp Opd.t0 (fun _ _ h => pRow_read h)) (Opd.tl Opd.t0)))
          (allOT_cons (OT.plain rfl (ob_store ty_34 rfl rfl (Opd.tl Opd.t0) Opd.t0))
          (allOT_cons (OT.plain rfl (ob_assign rfl rfl (Opd.c (bool_q _))))
          allOT_nil))))))))))))
        hst hb (fun a g hst hb => ?_)
    refine then_n ?_
    refine wp_ret ?_
    obtain rfl := Option.some.inj H0
    obtain ⟨u0, hu0, hq0⟩ := res_box (P := Try.prog) ty_34 (hst.at 0 rfl)
    exact endR2 rfl hst hb hu0 (res_tmp (s := 5)) (pTup_2 hq0 (hst.at 1 rfl))
end Go.CL

set_option linter.unusedVariables false
set_option linter.unusedSimpArgs false
set_option maxRecDepth 100000
namespace Go.CL
open Go Go.RowKit Go.Proofs
theorem moietyref01_none_ok (a0 : Nat) {r : Bool} (h : moietyref01_none a0 = some r) : FnOk Try.prog 64 [(pFlt a0)] (pBool r) := by
  have H0 := h
  unfold moietyref01_none at H0
  clear h
  refine fn_ok (N := 6) Try.func64 rfl rfl (Nat.le_of_ble_eq_true rfl) rfl rfl (fun a g0 hst hb => ?_)
  refine wp_seq ?_
  refine wp_reg follows (N := 6) (L := [(0, (pFlt a0))])
      (T := [⟨[], [(2, (pBool false))], [], [], [2]⟩])
      (F := [.old 0]) (by kernel_rfl)
      (allOT_cons (OT.plain rfl (ob_assign rfl rfl (Opd.c (bool_q _))))
        allOT_nil)
      hst hb (fun a g hst hb => ?_)
  refine then_n ?_
  refine wp_seq ?_
  refine wp_reg follows (N := 6) (L := [(0, (pFlt a0))])
      (T := [⟨[.old 0], [(3, (pFlt a0))], [], [], [3]⟩,
        ⟨[.old 0], [(4, (pFlt a0))], [], [], [4]⟩,
        ⟨[.op 0 0, .op 1 0], [(5, (pBool (fneq a0 a0)))], [], [0, 1], [5]⟩,
        ⟨[.op 2 0], [(2, (pBool (fneq a0 a0)))], [], [0, 1, 2], [2]⟩])
      (F := [.op 3 0]) (by kernel_rfl)
      (allOT_cons (OT.plain rfl (ob_move rfl rfl Opd.t0))
        (allOT_cons (OT.plain rfl (ob_move rfl rfl Opd.t0))
        (allOT_cons (OT.plain rfl (ob_fneq rfl rfl Opd.t0 (Opd.tl Opd.t0)))
        (allOT_cons (OT.plain rfl (ob_assign rfl rfl Opd.t0))
        allOT_nil))))
      hst hb (fun a g hst hb => ?_)
  refine then_n ?_
  refine wp_ret ?_
  obtain rfl := Option.some.inj H0
  exact endR1 rfl hst hb (res_tmp (s := 2)) (hst.at 0 rfl)
end Go.CL

set_option linter.unusedVariables false
set_option linter.unusedSimpArgs false
set_option maxRecDepth 100000
namespace Go.CL
open Go Go.RowKit Go.Proofs
theorem moietyref01_below_ok (a0 : Nat) {r : Bool} (h : moietyref01_below a0 = some r) : FnOk Try.prog 65 [(pFlt a0)] (pBool r) := by
  have H0 := h
  unfold moietyref01_below at H0
  clear h
  refine fn_ok (N := 10) Try.func65 rfl rfl (Nat.le_of_ble_eq_true rfl) rfl rfl (fun a g0 hst hb => ?_)
  refine wp_seq ?_
  refine wp_reg follows (N := 10) (L := [(0, (pFlt a0))])
      (T := [⟨[], [(2, (pBool false))], [], [], [2]⟩])
      (F := [.old 0]) (by kernel_rfl)
      (allOT_cons (OT.plain rfl (ob_assign rfl rfl (Opd.c (bool_q _))))
        allOT_nil)
      hst hb (fun a g hst hb => ?_)
  refine then_n ?_
  refine wp_seq ?_
  refine wp_seq ?_
  refine wp_reg follows (N := 10) (L := [(0, (pFlt a0))])
      (T := [⟨[.old 0], [(3, (pFlt a0))], [], [], [3]⟩,
        ⟨[.op 0 0], [(4, (pBool (feql a0 (0 : Nat))))], [], [0], [4]⟩])
      (F := [.old 0, .op 1 0]) (by kernel_rfl)
      (allOT_cons (OT.plain rfl (ob_move rfl rfl Opd.t0))
        (allOT_cons (OT.plain rfl (ob_feql rfl rfl Opd.t0 (Opd.c (fun _ => pFlt_iff.2 rfl))))
        allOT_nil))
      hst hb (fun a g hst hb => ?_)
  refine then_n ?_
  refine wp_cond_split (hst.bool 1 rfl) (fun hc1 => ?_) (fun hc1 => ?_)
  · replace H0 := ite_t hc1 H0
    refine wp_seq ?_
    obtain ⟨f2, h3, H0⟩ := of_bind H0
    refine wp_reg follows (N := 10) (L := [(0, (pFlt a0))])
        (T := [⟨[.old 0], [(5, (pFlt a0))], [], [], [5]⟩,
          ⟨[.op 0 0], [(6, (pFlt f2))], [], [0], [6]⟩,
          ⟨[.op 1 0], [(7, (pBool (flss f2 (0 : Nat))))], [], [0, 1], [7]⟩,
          ⟨[.op 2 0], [(2, (pBool (flss f2 (0 : Nat))))], [], [0, 1, 2], [2]⟩])
        (F := [.op 3 0]) (by kernel_rfl)
        (allOT_cons (OT.plain rfl (ob_move rfl rfl Opd.t0))
          (allOT_cons (OT.plain rfl (ob_fquo rfl rfl (Opd.c (fun _ => pFlt_iff.2 rfl)) Opd.t0 h3))
          (allOT_cons (OT.plain rfl (ob_flss rfl rfl Opd.t0 (Opd.c (fun _ => pFlt_iff.2 rfl))))
          (allOT_cons (OT.plain rfl (ob_assign rfl rfl Opd.t0))
          allOT_nil))))
        (hst.pick [0] rfl) hb (fun a g hst hb => ?_)
    refine then_n ?_
    refine wp_ret ?_
    refine then_r ?_
    obtain rfl := Option.some.inj H0
    exact endR1 rfl hst hb (res_tmp (s := 2)) (hst.at 0 rfl)
  · replace H0 := ite_f hc1 H0
    refine wp_skip ?_
    refine then_n ?_
    refine wp_seq ?_
    refine wp_reg follows (N := 10) (L := [(0, (pFlt a0))])
        (T := [⟨[.old 0], [(8, (pFlt a0))], [], [], [8]⟩,
          ⟨[.op 0 0], [(9, (pBool (flss a0 (0 : Nat))))], [], [0], [9]⟩,
          ⟨[.op 1 0], [(2, (pBool (flss a0 (0 : Nat))))], [], [0, 1], [2]⟩])
        (F := [.op 2 0]) (by kernel_rfl)
        (allOT_cons (OT.plain rfl (ob_move rfl rfl Opd.t0))
          (allOT_cons (OT.plain rfl (ob_flss rfl rfl Opd.t0 (Opd.c (fun _ => pFlt_iff.2 rfl))))
          (allOT_cons (OT.plain rfl (ob_assign rfl rfl Opd.t0))
          allOT_nil)))
        (hst.pick [0] rfl) hb (fun a g hst hb => ?_)
    refine then_n ?_
    refine wp_ret ?_
    obtain rfl := Option.some.inj H0
    exact endR1 rfl hst hb (res_tmp (s := 2)) (hst.at 0 rfl)
end Go.CL

set_option linter.unusedVariables false
set_option linter.unusedSimpArgs false
set_option maxRecDepth 100000
namespace Go.CL
open Go Go.RowKit Go.Proofs
theorem moietyref01_Less_ok (a0 : Nat) (a1 : Nat) {r : Bool} (h : moietyref01_Less a0 a1 = some r) : FnOk Try.prog 53 [(pFlt a0), (pFlt a1)] (pBool r) := by
  have H0 := h
  unfold moietyref01_Less at H0
  clear h
  refine fn_ok (N := 25) Try.func53 rfl rfl (Nat.le_of_ble_eq_true rfl) rfl rfl (fun a g0 hst hb => ?_)
  refine wp_seq ?_
  refine wp_reg follows (N := 25) (L := [(0, (pFlt a0)), (1, (pFlt a1))])
      (T := [⟨[], [(4, (pBool false))], [], [], [4]⟩])
      (F := [.old 0, .old 1]) (by kernel_rfl)
      (allOT_cons (OT.plain rfl (ob_assign rfl rfl (Opd.c (bool_q _))))
        allOT_nil)
      hst hb (fun a g hst hb => ?_)
  refine then_n ?_
  refine wp_seq ?_
  refine wp_seq ?_
  obtain ⟨r1, h2, H0⟩ := of_bind H0
  refine wp_reg follows (N := 25) (L := [(0, (pFlt a0)), (1, (pFlt a1))])
      (T := [⟨[.old 0], [(5, (pFlt a0))], [], [], [5]⟩,
        ⟨[.op 0 0], [(6, (pBool r1))], [], [0], [6]⟩])
      (F := [.old 0, .old 1, .op 1 0]) (by kernel_rfl)
      (allOT_cons (OT.plain rfl (ob_move rfl rfl Opd.t0))
        (allOT_cons (OT.plain rfl (ob_call en_64 (moietyref01_none_ok _ h2) rfl rfl (.cons Opd.t0 .nil)))
        allOT_nil))
      hst hb (fun a g hst hb => ?_)
  refine then_n ?_
  refine wp_cond_split (hst.bool 2 rfl) (fun hc3 => ?_) (fun hc3 => ?_)
  · replace H0 := ite_t hc3 H0
    refine wp_seq ?_
    refine wp_reg follows (N := 25) (L := [])
        (T := [⟨[], [(4, (pBool false))], [], [], [4]⟩])
        (F := [.op 0 0]) (by kernel_rfl)
        (allOT_cons (OT.plain rfl (ob_assign rfl rfl (Opd.c (bool_q _))))
          allOT_nil)
        (hst.pick [] rfl) hb (fun a g hst hb => ?_)
    refine then_n ?_
    refine wp_ret ?_
    refine then_r ?_
    obtain rfl := Option.some.inj H0
    exact endR1 rfl hst hb (res_tmp (s := 4)) (hst.at 0 rfl)
  · replace H0 := ite_f hc3 H0
    refine wp_skip ?_
    refine then_n ?_
    refine wp_seq ?_
    refine wp_seq ?_
    obtain ⟨r4, h5, H0⟩ := of_bind H0
    refine wp_reg follows (N := 25) (L := [(0, (pFlt a0)), (1, (pFlt a1))])
        (T := [⟨[.old 1], [(7, (pFlt a1))], [], [], [7]⟩,
          ⟨[.op 0 0], [(8, (pBool r4))], [], [0], [8]⟩])
        (F := [.old 0, .old 1, .op 1 0]) (by kernel_rfl)
        (allOT_cons (OT.plain rfl (ob_move rfl rfl Opd.t0))
          (allOT_cons (OT.plain rfl (ob_call en_64 (moietyref01_none_ok _ h5) rfl rfl (.cons Opd.t0 .nil)))
          allOT_nil))
        (hst.pick [0, 1] rfl) hb (fun a g hst hb => ?_)
    refine then_n ?_
    refine wp_cond_split (hst.bool 2 rfl) (fun hc6 => ?_) (fun hc6 => ?_)
    · replace H0 := ite_t hc6 H0
      refine wp_seq ?_
      refine wp_reg follows (N := 25) (L := [])
          (T := [⟨[], [(4, (pBool true))], [], [], [4]⟩])
          (F := [.op 0 0]) (by kernel_rfl)
          (allOT_cons (OT.plain rfl (ob_assign rfl rfl (Opd.c (bool_q _))))
            allOT_nil)
          (hst.pick [] rfl) hb (fun a g hst hb => ?_)
      refine then_n ?_
      refine wp_ret ?_
      refine then_r ?_
      obtain rfl := Option.some.inj H0
      exact endR1 rfl hst hb (res_tmp (s := 4)) (hst.at 0 rfl)
    · replace H0 := ite_f hc6 H0
      refine wp_skip ?_
      refine then_n ?_
      refine wp_seq ?_
      refine wp_seq ?_
      refine wp_reg follows (N := 25) (L := [(0, (pFlt a0)), (1, (pFlt a1))])
          (T := [⟨[.old 0], [(9, (pFlt a0))], [], [], [9]⟩,
            ⟨[.op 0 0], [(10, (pBool (feql a0 (0 : Nat))))], [], [0], [10]⟩,
            ⟨[.op 1 0], [(11, (pBool (feql a0 (0 : Nat))))], [], [0, 1], [11]⟩,
            ⟨[.op 2 0, .old 1], [(12, (pIf (feql a0 (0 : Nat)) (pFlt a1)))], [], [0, 1, 2], [12]⟩,
            ⟨[.op 2 0, .op 3 0], [(13, (pIf (feql a0 (0 : Nat)) (pBool (feql a1 (0 : Nat)))))], [], [0, 1, 2, 3], [13]⟩,
            ⟨[.op 2 0, .op 4 0], [(14, (pBool ((feql a0 (0 : Nat)) && (feql a1 (0 : Nat)))))], [], [0, 1, 2, 3, 4], [14]⟩])
          (F := [.old 0, .old 1, .op 5 0]) (by kernel_rfl)
          (allOT_cons (OT.plain rfl (ob_move rfl rfl Opd.t0))
            (allOT_cons (OT.plain rfl (ob_feql rfl rfl Opd.t0 (Opd.c (fun _ => pFlt_iff.2 rfl))))
            (allOT_cons (OT.plain rfl (ob_move rfl rfl Opd.t0))
            (allOT_cons (OT.guard (outs := [(12, (pFlt a1))]) (feql a0 (0 : Nat)) (gT (feql a0 (0 : Nat))).1 (gT (feql a0 (0 : Nat))).2 rfl rfl (fun e he => by rw [List.mem_singleton.1 he]) (fun hG => ob_move rfl rfl Opd.t0))
            (allOT_cons (OT.guard (outs := [(13, (pBool (feql a1 (0 : Nat))))]) (feql a0 (0 : Nat)) (gT (feql a0 (0 : Nat))).1 (gT (feql a0 (0 : Nat))).2 rfl rfl (fun e he => by rw [List.mem_singleton.1 he]) (fun hG => ob_feql rfl rfl (Opd.gd hG Opd.t0) (Opd.c (fun _ => pFlt_iff.2 rfl))))
            (allOT_cons (OT.plain rfl (ob_pick (q := (pBool ((feql a0 (0 : Nat)) && (feql a1 (0 : Nat))))) rfl rfl Opd.t0 (fun hz => Opd.to (Opd.gd hz (Opd.tl Opd.t0)) (congrArg (fun t => (pBool t)) (pk_and_t hz))) (fun hz => Opd.to (Opd.c (bool_q _)) (congrArg (fun t => (pBool t)) (pk_and_f hz)))))
            allOT_nil))))))
          (hst.pick [0, 1] rfl) hb (fun a g hst hb => ?_)
      refine then_n ?_
      refine wp_cond_split (hst.bool 2 rfl) (fun hc7 => ?_) (fun hc7 => ?_)
      · replace H0 := ite_t hc7 H0
        refine wp_seq ?_
        obtain ⟨r8, h9, H0⟩ := of_bind H0
        obtain ⟨r10, h11, H0⟩ := of_bind H0
        refine wp_reg follows (N := 25) (L := [(0, (pFlt a0)), (1, (pFlt a1))])
            (T := [⟨[.old 0], [(15, (pFlt a0))], [], [], [15]⟩,
              ⟨[.op 0 0], [(16, (pBool r8))], [], [0], [16]⟩,
              ⟨[.op 1 0], [(17, (pBool r8))], [], [0, 1], [17]⟩,
              ⟨[.op 2 0, .old 1], [(18, (pIf r8 (pFlt a1)))], [], [0, 1, 2], [18]⟩,
              ⟨[.op 2 0, .op 3 0], [(19, (pIf r8 (pBool r10)))], [], [0, 1, 2, 3], [19]⟩,
              ⟨[.op 2 0, .op 4 0], [(20, (pIf r8 (pBool (!r10))))], [], [0, 1, 2, 3, 4], [20]⟩,
              ⟨[.op 2 0, .op 5 0], [(21, (pBool (r8 && (!r10))))], [], [0, 1, 2, 3, 4, 5], [21]⟩,
              ⟨[.op 6 0], [(4, (pBool (r8 && (!r10))))], [], [0, 1, 2, 3, 4, 5, 6], [4]⟩])
            (F := [.op 7 0]) (by kernel_rfl)
            (allOT_cons (OT.plain rfl (ob_move rfl rfl Opd.t0))
              (allOT_cons (OT.plain rfl (ob_call en_65 (moietyref01_below_ok _ h9) rfl rfl (.cons Opd.t0 .nil)))
              (allOT_cons (OT.plain rfl (ob_move rfl rfl Opd.t0))
              (allOT_cons (OT.guard (outs := [(18, (pFlt a1))]) r8 (gT r8).1 (gT r8).2 rfl rfl (fun e he => by rw [List.mem_singleton.1 he]) (fun hG => ob_move rfl rfl Opd.t0))
              (allOT_cons (OT.guard (outs := [(19, (pBool r10))]) r8 (gT r8).1 (gT r8).2 rfl rfl (fun e he => by rw [List.mem_singleton.1 he]) (fun hG => ob_call en_65 (moietyref01_below_ok _ (gd_true h11 hG)) rfl rfl (.cons (Opd.gd hG Opd.t0) .nil)))
              (allOT_cons (OT.guard (outs := [(20, (pBool (!r10)))]) r8 (gT r8).1 (gT r8).2 rfl rfl (fun e he => by rw [List.mem_singleton.1 he]) (fun hG => ob_not rfl rfl (Opd.gd hG Opd.t0)))
              (allOT_cons (OT.plain rfl (ob_pick (q := (pBool (r8 && (!r10)))) rfl rfl Opd.t0 (fun hz => Opd.to (Opd.gd hz (Opd.tl Opd.t0)) (congrArg (fun t => (pBool t)) (pk_and_t hz))) (fun hz => Opd.to (Opd.c (bool_q _)) (congrArg (fun t => (pBool t)) (pk_and_f hz)))))
              (allOT_cons (OT.plain rfl (ob_assign rfl rfl Opd.t0))
              allOT_nil))))))))
            (hst.pick [0, 1] rfl) hb (fun a g hst hb => ?_)
        refine then_n ?_
        refine wp_ret ?_
        refine then_r ?_
        obtain rfl := Option.some.inj H0
        exact endR1 rfl hst hb (res_tmp (s := 4)) (hst.at 0 rfl)
      · replace H0 := ite_f hc7 H0
        refine wp_skip ?_
        refine then_n ?_
        refine wp_seq ?_
        refine wp_reg follows (N := 25) (L := [(0, (pFlt a0)), (1, (pFlt a1))])
            (T := [⟨[.old 0], [(22, (pFlt a0))], [], [], [22]⟩,
              ⟨[.old 1], [(23, (pFlt a1))], [], [], [23]⟩,
              ⟨[.op 0 0, .op 1 0], [(24, (pBool (flss a0 a1)))], [], [0, 1], [24]⟩,
              ⟨[.op 2 0], [(4, (pBool (flss a0 a1)))], [], [0, 1, 2], [4]⟩])
            (F := [.op 3 0]) (by kernel_rfl)
            (allOT_cons (OT.plain rfl (ob_move rfl rfl Opd.t0))
              (allOT_cons (OT.plain rfl (ob_move rfl rfl Opd.t0))
              (allOT_cons (OT.plain rfl (ob_flss rfl rfl Opd.t0 (Opd.tl Opd.t0)))
              (allOT_cons (OT.plain rfl (ob_assign rfl rfl Opd.t0))
              allOT_nil))))
            (hst.pick [0, 1] rfl) hb (fun a g hst hb => ?_)
        refine then_n ?_
        refine wp_ret ?_
        obtain rfl := Option.some.inj H0
        exact endR1 rfl hst hb (res_tmp (s := 4)) (hst.at 0 rfl)
end Go.CL

set_option linter.unusedVariables false
set_option linter.unusedSimpArgs false
set_option maxRecDepth 100000
namespace Go.CL
open Go Go.RowKit Go.Proofs
theorem moietyref01_Same_ok (a0 : Nat) (a1 : Nat) {r : Bool} (h : moietyref01_Same a0 a1 = some r) : FnOk Try.prog 37 [(pFlt a0), (pFlt a1)] (pBool r) := by
  have H0 := h
  unfold moietyref01_Same at H0
  clear h
  refine fn_ok (N := 15) Try.func37 rfl rfl (Nat.le_of_ble_eq_true rfl) rfl rfl (fun a g0 hst hb => ?_)
  refine wp_seq ?_
  refine wp_reg follows (N := 15) (L := [(0, (pFlt a0)), (1, (pFlt a1))])
      (T := [⟨[], [(4, (pBool false))], [], [], [4]⟩])
      (F := [.old 0, .old 1]) (by kernel_rfl)
      (allOT_cons (OT.plain rfl (ob_assign rfl rfl (Opd.c (bool_q _))))
        allOT_nil)
      hst hb (fun a g hst hb => ?_)
  refine then_n ?_
  refine wp_seq ?_
  obtain ⟨r1, h2, H0⟩ := of_bind H0
  obtain ⟨r3, h4, H0⟩ := of_bind H0
  refine wp_reg follows (N := 15) (L := [(0, (pFlt a0)), (1, (pFlt a1))])
      (T := [⟨[.old 0], [(5, (pFlt a0))], [], [], [5]⟩,
        ⟨[.old 1], [(6, (pFlt a1))], [], [], [6]⟩,
        ⟨[.op 0 0, .op 1 0], [(7, (pBool r1))], [], [0, 1], [7]⟩,
        ⟨[.op 2 0], [(8, (pBool (!r1)))], [], [0, 1, 2], [8]⟩,
        ⟨[.op 3 0], [(9, (pBool (!r1)))], [], [0, 1, 2, 3], [9]⟩,
        ⟨[.op 4 0, .old 1], [(10, (pIf (!r1) (pFlt a1)))], [], [0, 1, 2, 3, 4], [10]⟩,
        ⟨[.op 4 0, .old 0], [(11, (pIf (!r1) (pFlt a0)))], [], [0, 1, 2, 3, 4], [11]⟩,
        ⟨[.op 4 0, .op 5 0, .op 6 0], [(12, (pIf (!r1) (pBool r3)))], [], [0, 1, 2, 3, 4, 5, 6], [12]⟩,
        ⟨[.op 4 0, .op 7 0], [(13, (pIf (!r1) (pBool (!r3))))], [], [0, 1, 2, 3, 4, 5, 6, 7], [13]⟩,
        ⟨[.op 4 0, .op 8 0], [(14, (pBool ((!r1) && (!r3))))], [], [0, 1, 2, 3, 4, 5, 6, 7, 8], [14]⟩,
        ⟨[.op 9 0], [(4, (pBool ((!r1) && (!r3))))], [], [0, 1, 2, 3, 4, 5, 6, 7, 8, 9], [4]⟩])
      (F := [.op 10 0]) (by kernel_rfl)
      (allOT_cons (OT.plain rfl (ob_move rfl rfl Opd.t0))
        (allOT_cons (OT.plain rfl (ob_move rfl rfl Opd.t0))
        (allOT_cons (OT.plain rfl (ob_call en_53 (moietyref01_Less_ok _ _ h2) rfl rfl (.cons Opd.t0 (.cons (Opd.tl Opd.t0) .nil))))
        (allOT_cons (OT.plain rfl (ob_not rfl rfl Opd.t0))
        (allOT_cons (OT.plain rfl (ob_move rfl rfl Opd.t0))
        (allOT_cons (OT.guard (outs := [(10, (pFlt a1))]) (!r1) (gT (!r1)).1 (gT (!r1)).2 rfl rfl (fun e he => by rw [List.mem_singleton.1 he]) (fun hG => ob_move rfl rfl Opd.t0))
        (allOT_cons (OT.guard (outs := [(11, (pFlt a0))]) (!r1) (gT (!r1)).1 (gT (!r1)).2 rfl rfl (fun e he => by rw [List.mem_singleton.1 he]) (fun hG => ob_move rfl rfl Opd.t0))
        (allOT_cons (OT.guard (outs := [(12, (pBool r3))]) (!r1) (gT (!r1)).1 (gT (!r1)).2 rfl rfl (fun e he => by rw [List.mem_singleton.1 he]) (fun hG => ob_call en_53 (moietyref01_Less_ok _ _ (gd_true h4 hG)) rfl rfl (.cons (Opd.gd hG Opd.t0) (.cons (Opd.gd hG (Opd.tl Opd.t0)) .nil))))
        (allOT_cons (OT.guard (outs := [(13, (pBool (!r3)))]) (!r1) (gT (!r1)).1 (gT (!r1)).2 rfl rfl (fun e he => by rw [List.mem_singleton.1 he]) (fun hG => ob_not rfl rfl (Opd.gd hG Opd.t0)))
        (allOT_cons (OT.plain rfl (ob_pick (q := (pBool ((!r1) && (!r3)))) rfl rfl Opd.t0 (fun hz => Opd.to (Opd.gd hz (Opd.tl Opd.t0)) (congrArg (fun t => (pBool t)) (pk_and_t hz))) (fun hz => Opd.to (Opd.c (bool_q _)) (congrArg (fun t => (pBool t)) (pk_and_f hz)))))
        (allOT_cons (OT.plain rfl (ob_assign rfl rfl Opd.t0))
        allOT_nil)))))))))))
      hst hb (fun a g hst hb => ?_)
  refine then_n ?_
  refine wp_ret ?_
  obtain rfl := Option.some.inj H0
  exact endR1 rfl hst hb (res_tmp (s := 4)) (hst.at 0 rfl)
end Go.CL

set_option linter.unusedVariables false
set_option linter.unusedSimpArgs false
set_option maxRecDepth 100000
namespace Go.CL
open Go Go.RowKit Go.Proofs
theorem moietyref03_zero_ok (a0 : Nat) {r : Bool} (h : moietyref03_zero a0 = some r) : FnOk Try.prog 66 [(pFlt a0)] (pBool r) := by
  have H0 := h
  unfold moietyref03_zero at H0
  clear h
  refine fn_ok (N := 5) Try.func66 rfl rfl (Nat.le_of_ble_eq_true rfl) rfl rfl (fun a g0 hst hb => ?_)
  refine wp_seq ?_
  refine wp_reg follows (N := 5) (L := [(0, (pFlt a0))])
      (T := [⟨[], [(2, (pBool false))], [], [], [2]⟩])
      (F := [.old 0]) (by kernel_rfl)
      (allOT_cons (OT.plain rfl (ob_assign rfl rfl (Opd.c (bool_q _))))
        allOT_nil)
      hst hb (fun a g hst hb => ?_)
  refine then_n ?_
  refine wp_seq ?_
  obtain ⟨r1, h2, H0⟩ := of_bind H0
  refine wp_reg follows (N := 5) (L := [(0, (pFlt a0))])
      (T := [⟨[.old 0], [(3, (pFlt a0))], [], [], [3]⟩,
        ⟨[.op 0 0], [(4, (pBool r1))], [], [0], [4]⟩,
        ⟨[.op 1 0], [(2, (pBool r1))], [], [0, 1], [2]⟩])
      (F := [.op 2 0]) (by kernel_rfl)
      (allOT_cons (OT.plain rfl (ob_move rfl rfl Opd.t0))
        (allOT_cons (OT.plain rfl (ob_call en_37 (moietyref01_Same_ok _ _ h2) rfl rfl (.cons Opd.t0 (.cons (Opd.c (fun _ => pFlt_iff.2 rfl)) .nil))))
        (allOT_cons (OT.plain rfl (ob_assign rfl rfl Opd.t0))
        allOT_nil)))
      hst hb (fun a g hst hb => ?_)
  refine then_n ?_
  refine wp_ret ?_
  obtain rfl := Option.some.inj H0
  exact endR1 rfl hst hb (res_tmp (s := 2)) (hst.at 0 rfl)
end Go.CL

set_option linter.unusedVariables false
set_option linter.unusedSimpArgs false
set_option maxRecDepth 100000
namespace Go.CL
open Go Go.RowKit Go.Proofs
theorem moietyref03_only_ok (a0 : api_Record) (a1 : ByteArray) {r : Bool} (h : moietyref03_only a0 a1 = some r) : FnOk Try.prog 56 [(k_api_Record.pd a0), (pStr a1)] (pBool r) := by
  have H0 := h
  unfold moietyref03_only at H0
  clear h
  refine fn_ok (N := 106) Try.func56 rfl rfl (Nat.le_of_ble_eq_true rfl) rfl rfl (fun a g0 hst hb => ?_)
  refine wp_seq ?_
  refine wp_reg follows (N := 106) (L := [(0, (k_api_Record.pd a0)), (1, (pStr a1))])
      (T := [⟨[.old 0], [(2, (k_api_Record.ptr a0))], [], [], [2]⟩,
        ⟨[], [(4, (pBool false))], [], [], [4]⟩])
      (F := [.old 1, .op 0 0]) (by kernel_rfl)
      (allOT_cons (OT.plain rfl (ob_box1 rfl rfl Opd.t0))
        (allOT_cons (OT.plain rfl (ob_assign rfl rfl (Opd.c (bool_q _))))
        allOT_nil))
      hst hb (fun a g hst hb => ?_)
  refine then_n ?_
  refine wp_seq ?_
  refine wp_reg follows (N := 106) (L := [(1, (pStr a1)), (2, (k_api_Record.ptr a0))])
      (T := [⟨[], [(5, (pBool false))], [], [], [5]⟩,
        ⟨[], [(6, (pBool false))], [], [0], [6]⟩,
        ⟨[], [(7, (pBool false))], [], [0, 1], [7]⟩,
        ⟨[], [(8, (pBool false))], [], [0, 1, 2], [8]⟩,
        ⟨[], [(9, (pBool false))], [], [0, 1, 2, 3], [9]⟩])
      (F := [.old 0, .old 1, .op 0 0, .op 1 0, .op 2 0, .op 3 0, .op 4 0]) (by kernel_rfl)
      (allOT_cons (OT.plain rfl (ob_assign rfl rfl (Opd.c (bool_q _))))
        (allOT_cons (OT.plain rfl (ob_assign rfl rfl (Opd.c (bool_q _))))
        (allOT_cons (OT.plain rfl (ob_assign rfl rfl (Opd.c (bool_q _))))
        (allOT_cons (OT.plain rfl (ob_assign rfl rfl (Opd.c (bool_q _))))
        (allOT_cons (OT.plain rfl (ob_assign rfl rfl (Opd.c (bool_q _))))
        allOT_nil)))))
      hst hb (fun a g hst hb => ?_)
  refine then_n ?_
  refine wp_seq ?_
  refine wp_seq ?_
  refine wp_reg follows (N := 106) (L := [(1, (pStr a1)), (2, (k_api_Record.ptr a0)), (5, (pBool false)), (6, (pBool false)), (7, (pBool false)), (8, (pBool false)), (9, (pBool false))])
      (T := [⟨[], [(10, (pInt .i64 (0 : Int)))], [], [], [10]⟩])
      (F := [.old 0, .old 1, .old 2, .old 3, .old 4, .old 5, .old 6, .op 0 0]) (by kernel_rfl)
      (allOT_cons (OT.plain rfl (ob_assign rfl rfl (Opd.c (int_q _ _))))
        allOT_nil)
      hst hb (fun a g hst hb => ?_)
  refine then_n ?_
  obtain ⟨z23, hz1, H0⟩ := of_bind H0
  refine wp_cut (fun a w => ∃ (y18 : Bool) (y19 : Bool) (y20 : Bool) (y21 : Bool) (y22 : Bool) (g : G), w = g.w ∧ St 106 [(2, (k_api_Record.ptr a0)), (5, (pBool y18)), (6, (pBool y19)), (7, (pBool y20)), (8, (pBool y21)), (9, (pBool y22))] a g ∧ Base g0 g ∧ (y18, y19, y20, y21, y22) = z23) ?_ ?_
  · rintro a w ⟨y18, y19, y20, y21, y22, g, rfl, hst, hb, rfl⟩
    refine then_n ?_
    refine wp_seq ?_
    refine wp_seq ?_
    refine wp_reg follows (N := 106) (L := [(2, (k_api_Record.ptr a0)), (5, (pBool y18)), (6, (pBool y19)), (7, (pBool y20)), (8, (pBool y21)), (9, (pBool y22))])
        (T := [⟨[.old 1], [(52, (pBool y18))], [], [], [52]⟩,
          ⟨[.op 0 0], [(53, (pBool (!y18)))], [], [0], [53]⟩,
          ⟨[.op 1 0], [(54, (pBool (!y18)))], [], [0, 1], [54]⟩,
          ⟨[.op 2 0, .old 0], [(55, (pIf (!y18) (Kd.str.ptr a0.Text)))], [], [0, 1, 2], [55]⟩,
          ⟨[.op 2 0, .op 3 0], [(56, (pIf (!y18) (pStr a0.Text)))], [], [0, 1, 2, 3], [56]⟩,
          ⟨[.op 2 0, .op 4 0], [(57, (pIf (!y18) (pBool (!sEq a0.Text (⟨#[]⟩ : ByteArray)))))], [], [0, 1, 2, 3, 4], [57]⟩,
          ⟨[.op 2 0, .op 5 0], [(58, (pBool ((!y18) && (!sEq a0.Text (⟨#[]⟩ : ByteArray)))))], [], [0, 1, 2, 3, 4, 5], [58]⟩,
          ⟨[.op 6 0], [(59, (pBool ((!y18) && (!sEq a0.Text (⟨#[]⟩ : ByteArray)))))], [], [0, 1, 2, 3, 4, 5, 6], [59]⟩,
          ⟨[.op 7 0, .old 2], [(60, (pIf (!((!y18) && (!sEq a0.Text (⟨#[]⟩ : ByteArray)))) (pBool y19)))], [], [0, 1, 2, 3, 4, 5, 6, 7], [60]⟩,
          ⟨[.op 7 0, .op 8 0], [(61, (pIf (!((!y18) && (!sEq a0.Text (⟨#[]⟩ : ByteArray)))) (pBool (!y19))))], [], [0, 1, 2, 3, 4, 5, 6, 7, 8], [61]⟩,
          ⟨[.op 7 0, .op 9 0], [(62, (pIf (!((!y18) && (!sEq a0.Text (⟨#[]⟩ : ByteArray)))) (pBool (!y19))))], [], [0, 1, 2, 3, 4, 5, 6, 7, 8, 9], [62]⟩,
          ⟨[.op 10 0, .old 0], [(63, (pIf ((!((!y18) && (!sEq a0.Text (⟨#[]⟩ : ByteArray)))) && (!y19)) ((Kd.int .i64).ptr a0.Num)))], [], [0, 1, 2, 3, 4, 5, 6, 7, 8, 9, 10], [63]⟩,
          ⟨[.op 10 0, .op 11 0], [(64, (pIf ((!((!y18) && (!sEq a0.Text (⟨#[]⟩ : ByteArray)))) && (!y19)) (pInt .i64 a0.Num)))], [], [0, 1, 2, 3, 4, 5, 6, 7, 8, 9, 10, 11], [64]⟩,
          ⟨[.op 10 0, .op 12 0], [(65, (pIf ((!((!y18) && (!sEq a0.Text (⟨#[]⟩ : ByteArray)))) && (!y19)) (pBool (a0.Num != (0 : Int)))))], [], [0, 1, 2, 3, 4, 5, 6, 7, 8, 9, 10, 11, 12], [65]⟩,
          ⟨[.op 7 0, .op 10 0, .op 13 0], [(66, (pIf (!((!y18) && (!sEq a0.Text (⟨#[]⟩ : ByteArray)))) (pBool ((!y19) && (a0.Num != (0 : Int))))))], [], [0, 1, 2, 3, 4, 5, 6, 7, 8, 9, 10, 11, 12, 13], [66]⟩,
          ⟨[.op 7 0, .op 14 0], [(67, (pBool (((!y18) && (!sEq a0.Text (⟨#[]⟩ : ByteArray))) || ((!y19) && (a0.Num != (0 : Int))))))], [], [0, 1, 2, 3, 4, 5, 6, 7, 8, 9, 10, 11, 12, 13, 14], [67]⟩,
          ⟨[.op 15 0], [(68, (pBool (((!y18) && (!sEq a0.Text (⟨#[]⟩ : ByteArray))) || ((!y19) && (a0.Num != (0 : Int))))))], [], [0, 1, 2, 3, 4, 5, 6, 7, 8, 9, 10, 11, 12, 13, 14, 15], [68]⟩,
          ⟨[.op 16 0, .old 3], [(69, (pIf (!(((!y18) && (!sEq a0.Text (⟨#[]⟩ : ByteArray))) || ((!y19) && (a0.Num != (0 : Int))))) (pBool y20)))], [], [0, 1, 2, 3, 4, 5, 6, 7, 8, 9, 10, 11, 12, 13, 14, 15, 16], [69]⟩,
          ⟨[.op 16 0, .op 17 0], [(70, (pIf (!(((!y18) && (!sEq a0.Text (⟨#[]⟩ : ByteArray))) || ((!y19) && (a0.Num != (0 : Int))))) (pBool (!y20))))], [], [0, 1, 2, 3, 4, 5, 6, 7, 8, 9, 10, 11, 12, 13, 14, 15, 16, 17], [70]⟩,
          ⟨[.op 16 0, .op 18 0], [(71, (pIf (!(((!y18) && (!sEq a0.Text (⟨#[]⟩ : ByteArray))) || ((!y19) && (a0.Num != (0 : Int))))) (pBool (!y20))))], [], [0, 1, 2, 3, 4, 5, 6, 7, 8, 9, 10, 11, 12, 13, 14, 15, 16, 17, 18], [71]⟩,
          ⟨[.op 19 0, .old 0], [(72, (pIf ((!(((!y18) && (!sEq a0.Text (⟨#[]⟩ : ByteArray))) || ((!y19) && (a0.Num != (0 : Int))))) && (!y20)) ((Kd.int .i64).ptr a0.Low)))], [], [0, 1, 2, 3, 4, 5, 6, 7, 8, 9, 10, 11, 12, 13, 14, 15, 16, 17, 18, 19], [72]⟩,
          ⟨[.op 19 0, .op 20 0], [(73, (pIf ((!(((!y18) && (!sEq a0.Text (⟨#[]⟩ : ByteArray))) || ((!y19) && (a0.Num != (0 : Int))))) && (!y20)) (pInt .i64 a0.Low)))], [], [0, 1, 2, 3, 4, 5, 6, 7, 8, 9, 10, 11, 12, 13, 14, 15, 16, 17, 18, 19, 20], [73]⟩,
          ⟨[.op 19 0, .op 21 0], [(74, (pIf ((!(((!y18) && (!sEq a0.Text (⟨#[]⟩ : ByteArray))) || ((!y19) && (a0.Num != (0 : Int))))) && (!y20)) (pBool (a0.Low != (0 : Int)))))], [], [0, 1, 2, 3, 4, 5, 6, 7, 8, 9, 10, 11, 12, 13, 14, 15, 16, 17, 18, 19, 20, 21], [74]⟩,
          ⟨[.op 16 0, .op 19 0, .op 22 0], [(75, (pIf (!(((!y18) && (!sEq a0.Text (⟨#[]⟩ : ByteArray))) || ((!y19) && (a0.Num != (0 : Int))))) (pBool ((!y20) && (a0.Low != (0 : Int))))))], [], [0, 1, 2, 3, 4, 5, 6, 7, 8, 9, 10, 11, 12, 13, 14, 15, 16, 17, 18, 19, 20, 21, 22], [75]⟩,
          ⟨[.op 16 0, .op 23 0], [(76, (pBool ((((!y18) && (!sEq a0.Text (⟨#[]⟩ : ByteArray))) || ((!y19) && (a0.Num != (0 : Int)))) || ((!y20) && (a0.Low != (0 : Int))))))], [], [0, 1, 2, 3, 4, 5, 6, 7, 8, 9, 10, 11, 12, 13, 14, 15, 16, 17, 18, 19, 20, 21, 22, 23], [76]⟩,
          ⟨[.op 24 0], [(77, (pBool ((((!y18) && (!sEq a0.Text (⟨#[]⟩ : ByteArray))) || ((!y19) && (a0.Num != (0 : Int)))) || ((!y20) && (a0.Low != (0 : Int))))))], [], [0, 1, 2, 3, 4, 5, 6, 7, 8, 9, 10, 11, 12, 13, 14, 15, 16, 17, 18, 19, 20, 21, 22, 23, 24], [77]⟩,
          ⟨[.op 25 0, .old 3], [(78, (pIf (!((((!y18) && (!sEq a0.Text (⟨#[]⟩ : ByteArray))) || ((!y19) && (a0.Num != (0 : Int)))) || ((!y20) && (a0.Low != (0 : Int))))) (pBool y20)))], [], [0, 1, 2, 3, 4, 5, 6, 7, 8, 9, 10, 11, 12, 13, 14, 15, 16, 17, 18, 19, 20, 21, 22, 23, 24, 25], [78]⟩,
          ⟨[.op 25 0, .op 26 0], [(79, (pIf (!((((!y18) && (!sEq a0.Text (⟨#[]⟩ : ByteArray))) || ((!y19) && (a0.Num != (0 : Int)))) || ((!y20) && (a0.Low != (0 : Int))))) (pBool (!y20))))], [], [0, 1, 2, 3, 4, 5, 6, 7, 8, 9, 10, 11, 12, 13, 14, 15, 16, 17, 18, 19, 20, 21, 22, 23, 24, 25, 26], [79]⟩,
          ⟨[.op 25 0, .op 27 0], [(80, (pIf (!((((!y18) && (!sEq a0.Text (⟨#[]⟩ : ByteArray))) || ((!y19) && (a0.Num != (0 : Int)))) || ((!y20) && (a0.Low != (0 : Int))))) (pBool (!y20))))], [], [0, 1, 2, 3, 4, 5, 6, 7, 8, 9, 10, 11, 12, 13, 14, 15, 16, 17, 18, 19, 20, 21, 22, 23, 24, 25, 26, 27], [80]⟩,
          ⟨[.op 28 0, .old 0], [(81, (pIf ((!((((!y18) && (!sEq a0.Text (⟨#[]⟩ : ByteArray))) || ((!y19) && (a0.Num != (0 : Int)))) || ((!y20) && (a0.Low != (0 : Int))))) && (!y20)) ((Kd.int .i64).ptr a0.High)))], [], [0, 1, 2, 3, 4, 5, 6, 7, 8, 9, 10, 11, 12, 13, 14, 15, 16, 17, 18, 19, 20, 21, 22, 23, 24, 25, 26, 27, 28], [81]⟩,
          ⟨[.op 28 0, .op 29 0], [(82, (pIf ((!((((!y18) && (!sEq a0.Text (⟨#[]⟩ : ByteArray))) || ((!y19) && (a0.Num != (0 : Int)))) || ((!y20) && (a0.Low != (0 : Int))))) && (!y20)) (pInt .i64 a0.High)))], [], [0, 1, 2, 3, 4, 5, 6, 7, 8, 9, 10, 11, 12, 13, 14, 15, 16, 17, 18, 19, 20, 21, 22, 23, 24, 25, 26, 27, 28, 29], [82]⟩,
          ⟨[.op 28 0, .op 30 0], [(83, (pIf ((!((((!y18) && (!sEq a0.Text (⟨#[]⟩ : ByteArray))) || ((!y19) && (a0.Num != (0 : Int)))) || ((!y20) && (a0.Low != (0 : Int))))) && (!y20)) (pBool (a0.High != (0 : Int)))))], [], [0, 1, 2, 3, 4, 5, 6, 7, 8, 9, 10, 11, 12, 13, 14, 15, 16, 17, 18, 19, 20, 21, 22, 23, 24, 25, 26, 27, 28, 29, 30], [83]⟩,
          ⟨[.op 25 0, .op 28 0, .op 31 0], [(84, (pIf (!((((!y18) && (!sEq a0.Text (⟨#[]⟩ : ByteArray))) || ((!y19) && (a0.Num != (0 : Int)))) || ((!y20) && (a0.Low != (0 : Int))))) (pBool ((!y20) && (a0.High != (0 : Int))))))], [], [0, 1, 2, 3, 4, 5, 6, 7, 8, 9, 10, 11, 12, 13, 14, 15, 16, 17, 18, 19, 20, 21, 22, 23, 24, 25, 26, 27, 28, 29, 30, 31], [84]⟩,
          ⟨[.op 25 0, .op 32 0], [(85, (pBool (((((!y18) && (!sEq a0.Text (⟨#[]⟩ : ByteArray))) || ((!y19) && (a0.Num != (0 : Int)))) || ((!y20) && (a0.Low != (0 : Int)))) || ((!y20) && (a0.High != (0 : Int))))))], [], [0, 1, 2, 3, 4, 5, 6, 7, 8, 9, 10, 11, 12, 13, 14, 15, 16, 17, 18, 19, 20, 21, 22, 23, 24, 25, 26, 27, 28, 29, 30, 31, 32], [85]⟩])
        (F := [.old 0, .old 4, .old 5, .op 33 0]) (by kernel_rfl)
        (allOT_cons (OT.plain rfl (ob_move rfl rfl Opd.t0))
          (allOT_cons (OT.plain rfl (ob_not rfl rfl Opd.t0))
          (allOT_cons (OT.plain rfl (ob_move rfl rfl Opd.t0))
          (allOT_cons (OT.guard (outs := [(55, (Kd.str.ptr a0.Text))]) (!y18) (gT (!y18)).1 (gT (!y18)).2 rfl rfl (fun e he => by rw [List.mem_singleton.1 he]) (fun hG => ob_fieldAddr fl_38_6 rfl rfl Opd.t0))
          (allOT_cons (OT.guard (outs := [(56, (pStr a0.Text))]) (!y18) (gT (!y18)).1 (gT (!y18)).2 rfl rfl (fun e he => by rw [List.mem_singleton.1 he]) (fun hG => ob_load ty_9 rfl rfl (Opd.gd hG Opd.t0)))
          (allOT_cons (OT.guard (outs := [(57, (pBool (!sEq a0.Text (⟨#[]⟩ : ByteArray))))]) (!y18) (gT (!y18)).1 (gT (!y18)).2 rfl rfl (fun e he => by rw [List.mem_singleton.1 he]) (fun hG => ob_sne rfl rfl (Opd.gd hG Opd.t0) (Opd.c (fun _ => pStr_iff.2 rfl))))
          (allOT_cons (OT.plain rfl (ob_pick (q := (pBool ((!y18) && (!sEq a0.Text (⟨#[]⟩ : ByteArray))))) rfl rfl Opd.t0 (fun hz => Opd.to (Opd.gd hz (Opd.tl Opd.t0)) (congrArg (fun t => (pBool t)) (pk_and_t hz))) (fun hz => Opd.to (Opd.c (bool_q _)) (congrArg (fun t => (pBool t)) (pk_and_f hz)))))
          (allOT_cons (OT.plain rfl (ob_move rfl rfl Opd.t0))
          (allOT_cons (OT.guard (outs := [(60, (pBool y19))]) (!((!y18) && (!sEq a0.Text (⟨#[]⟩ : ByteArray)))) (gF ((!y18) && (!sEq a0.Text (⟨#[]⟩ : ByteArray)))).1 (gF ((!y18) && (!sEq a0.Text (⟨#[]⟩ : ByteArray)))).2 rfl rfl (fun e he => by rw [List.mem_singleton.1 he]) (fun hG => ob_move rfl rfl Opd.t0))
          (allOT_cons (OT.guard (outs := [(61, (pBool (!y19)))]) (!((!y18) && (!sEq a0.Text (⟨#[]⟩ : ByteArray)))) (gF ((!y18) && (!sEq a0.Text (⟨#[]⟩ : ByteArray)))).1 (gF ((!y18) && (!sEq a0.Text (⟨#[]⟩ : ByteArray)))).2 rfl rfl (fun e he => by rw [List.mem_singleton.1 he]) (fun hG => ob_not rfl rfl (Opd.gd hG Opd.t0)))
          (allOT_cons (OT.guard (outs := [(62, (pBool (!y19)))]) (!((!y18) && (!sEq a0.Text (⟨#[]⟩ : ByteArray)))) (gF ((!y18) && (!sEq a0.Text (⟨#[]⟩ : ByteArray)))).1 (gF ((!y18) && (!sEq a0.Text (⟨#[]⟩ : ByteArray)))).2 rfl rfl (fun e he => by rw [List.mem_singleton.1 he]) (fun hG => ob_move rfl rfl (Opd.gd hG Opd.t0)))
          (allOT_cons (OT.guard (outs := [(63, ((Kd.int .i64).ptr a0.Num))]) ((!((!y18) && (!sEq a0.Text (⟨#[]⟩ : ByteArray)))) && (!y19)) (giT (!((!y18) && (!sEq a0.Text (⟨#[]⟩ : ByteArray)))) (!y19)).1 (giT (!((!y18) && (!sEq a0.Text (⟨#[]⟩ : ByteArray)))) (!y19)).2 rfl rfl (fun e he => by rw [List.mem_singleton.1 he]) (fun hG => ob_fieldAddr fl_38_1 rfl rfl Opd.t0))
          (allOT_cons (OT.guard (outs := [(64, (pInt .i64 a0.Num))]) ((!((!y18) && (!sEq a0.Text (⟨#[]⟩ : ByteArray)))) && (!y19)) (giT (!((!y18) && (!sEq a0.Text (⟨#[]⟩ : ByteArray)))) (!y19)).1 (giT (!((!y18) && (!sEq a0.Text (⟨#[]⟩ : ByteArray)))) (!y19)).2 rfl rfl (fun e he => by rw [List.mem_singleton.1 he]) (fun hG => ob_load ty_2 rfl rfl (Opd.gd hG Opd.t0)))
          (allOT_cons (OT.guard (outs := [(65, (pBool (a0.Num != (0 : Int))))]) ((!((!y18) && (!sEq a0.Text (⟨#[]⟩ : ByteArray)))) && (!y19)) (giT (!((!y18) && (!sEq a0.Text (⟨#[]⟩ : ByteArray)))) (!y19)).1 (giT (!((!y18) && (!sEq a0.Text (⟨#[]⟩ : ByteArray)))) (!y19)).2 rfl rfl (fun e he => by rw [List.mem_singleton.1 he]) (fun hG => ob_ne rfl rfl (Opd.gd hG Opd.t0) (Opd.c (int_q _ _))))
          (allOT_cons (OT.guard (outs := [(66, (pBool ((!y19) && (a0.Num != (0 : Int)))))]) (!((!y18) && (!sEq a0.Text (⟨#[]⟩ : ByteArray)))) (gF ((!y18) && (!sEq a0.Text (⟨#[]⟩ : ByteArray)))).1 (gF ((!y18) && (!sEq a0.Text (⟨#[]⟩ : ByteArray)))).2 rfl rfl (fun e he => by rw [List.mem_singleton.1 he]) (fun hG => ob_pick (q := (pBool ((!y19) && (a0.Num != (0 : Int))))) rfl rfl (Opd.gd hG Opd.t0) (fun hz => Opd.to (Opd.gd (bA hG hz) (Opd.tl Opd.t0)) (congrArg (fun t => (pBool t)) (pk_and_t hz))) (fun hz => Opd.to (Opd.c (bool_q _)) (congrArg (fun t => (pBool t)) (pk_and_f hz)))))
          (allOT_cons (OT.plain rfl (ob_pick (q := (pBool (((!y18) && (!sEq a0.Text (⟨#[]⟩ : ByteArray))) || ((!y19) && (a0.Num != (0 : Int)))))) rfl rfl Opd.t0 (fun hz => Opd.to (Opd.c (bool_q _)) (congrArg (fun t => (pBool t)) (pk_or_t hz))) (fun hz => Opd.to (Opd.gd (bNF hz) (Opd.tl Opd.t0)) (congrArg (fun t => (pBool t)) (pk_or_f hz)))))
          (allOT_cons (OT.plain rfl (ob_move rfl rfl Opd.t0))
          (allOT_cons (OT.guard (outs := [(69, (pBool y20))]) (!(((!y18) && (!sEq a0.Text (⟨#[]⟩ : ByteArray))) || ((!y19) && (a0.Num != (0 : Int))))) (gF (((!y18) && (!sEq a0.Text (⟨#[]⟩ : ByteArray))) || ((!y19) && (a0.Num != (0 : Int))))).1 (gF (((!y18) && (!sEq a0.Text (⟨#[]⟩ : ByteArray))) || ((!y19) && (a0.Num != (0 : Int))))).2 rfl rfl (fun e he => by rw [List.mem_singleton.1 he]) (fun hG => ob_move rfl rfl Opd.t0))
          (allOT_cons (OT.guard (outs := [(70, (pBool (!y20)))]) (!(((!y18) && (!sEq a0.Text (⟨#[]⟩ : ByteArray))) || ((!y19) && (a0.Num != (0 : Int))))) (gF (((!y18) && (!sEq a0.Text (⟨#[]⟩ : ByteArray))) || ((!y19) && (a0.Num != (0 : Int))))).1 (gF (((!y18) && (!sEq a0.Text (⟨#[]⟩ : ByteArray))) || ((!y19) && (a0.Num != (0 : Int))))).2 rfl rfl (fun e he => by rw [List.mem_singleton.1 he]) (fun hG => ob_not rfl rfl (Opd.gd hG Opd.t0)))
          (allOT_cons (OT.guard (outs := [(71, (pBool (!y20)))]) (!(((!y18) && (!sEq a0.Text (⟨#[]⟩ : ByteArray))) || ((!y19) && (a0.Num != (0 : Int))))) (gF (((!y18) && (!sEq a0.Text (⟨#[]⟩ : ByteArray))) || ((!y19) && (a0.Num != (0 : Int))))).1 (gF (((!y18) && (!sEq a0.Text (⟨#[]⟩ : ByteArray))) || ((!y19) && (a0.Num != (0 : Int))))).2 rfl rfl (fun e he => by rw [List.mem_singleton.1 he]) (fun hG => ob_move rfl rfl (Opd.gd hG Opd.t0)))
          (allOT_cons (OT.guard (outs := [(72, ((Kd.int .i64).ptr a0.Low))]) ((!(((!y18) && (!sEq a0.Text (⟨#[]⟩ : ByteArray))) || ((!y19) && (a0.Num != (0 : Int))))) && (!y20)) (giT (!(((!y18) && (!sEq a0.Text (⟨#[]⟩ : ByteArray))) || ((!y19) && (a0.Num != (0 : Int))))) (!y20)).1 (giT (!(((!y18) && (!sEq a0.Text (⟨#[]⟩ : ByteArray))) || ((!y19) && (a0.Num != (0 : Int))))) (!y20)).2 rfl rfl (fun e he => by rw [List.mem_singleton.1 he]) (fun hG => ob_fieldAddr fl_38_2 rfl rfl Opd.t0))
          (allOT_cons (OT.guard (outs := [(73, (pInt .i64 a0.Low))]) ((!(((!y18) && (!sEq a0.Text (⟨#[]⟩ : ByteArray))) || ((!y19) && (a0.Num != (0 : Int))))) && (!y20)) (giT (!(((!y18) && (!sEq a0.Text (⟨#[]⟩ : ByteArray))) || ((!y19) && (a0.Num != (0 : Int))))) (!y20)).1 (giT (!(((!y18) && (!sEq a0.Text (⟨#[]⟩ : ByteArray))) || ((!y19) && (a0.Num != (0 : Int))))) (!y20)).2 rfl rfl (fun e he => by rw [List.mem_singleton.1 he]) (fun hG => ob_load ty_2 rfl rfl (Opd.gd hG Opd.t0)))
          (allOT_cons (OT.guard (outs := [(74, (pBool (a0.Low != (0 : Int))))]) ((!(((!y18) && (!sEq a0.Text (⟨#[]⟩ : ByteArray))) || ((!y19) && (a0.Num != (0 : Int))))) && (!y20)) (giT (!(((!y18) && (!sEq a0.Text (⟨#[]⟩ : ByteArray))) || ((!y19) && (a0.Num != (0 : Int))))) (!y20)).1 (giT (!(((!y18) && (!sEq a0.Text (⟨#[]⟩ : ByteArray))) || ((!y19) && (a0.Num != (0 : Int))))) (!y20)).2 rfl rfl (fun e he => by rw [List.mem_singleton.1 he]) (fun hG => ob_ne rfl rfl (Opd.gd hG Opd.t0) (Opd.c (int_q _ _))))
          (allOT_cons (OT.guard (outs := [(75, (pBool ((!y20) && (a0.Low != (0 : Int)))))]) (!(((!y18) && (!sEq a0.Text (⟨#[]⟩ : ByteArray))) || ((!y19) && (a0.Num != (0 : Int))))) (gF (((!y18) && (!sEq a0.Text (⟨#[]⟩ : ByteArray))) || ((!y19) && (a0.Num != (0 : Int))))).1 (gF (((!y18) && (!sEq a0.Text (⟨#[]⟩ : ByteArray))) || ((!y19) && (a0.Num != (0 : Int))))).2 rfl rfl (fun e he => by rw [List.mem_singleton.1 he]) (fun hG => ob_pick (q := (pBool ((!y20) && (a0.Low != (0 : Int))))) rfl rfl (Opd.gd hG Opd.t0) (fun hz => Opd.to (Opd.gd (bA hG hz) (Opd.tl Opd.t0)) (congrArg (fun t => (pBool t)) (pk_and_t hz))) (fun hz => Opd.to (Opd.c (bool_q _)) (congrArg (fun t => (pBool t)) (pk_and_f hz)))))
          (allOT_cons (OT.plain rfl (ob_pick (q := (pBool ((((!y18) && (!sEq a0.Text (⟨#[]⟩ : ByteArray))) || ((!y19) && (a0.Num != (0 : Int)))) || ((!y20) && (a0.Low != (0 : Int)))))) rfl rfl Opd.t0 (fun hz => Opd.to (Opd.c (bool_q _)) (congrArg (fun t => (pBool t)) (pk_or_t hz))) (fun hz => Opd.to (Opd.gd (bNF hz) (Opd.tl Opd.t0)) (congrArg (fun t => (pBool t)) (pk_or_f hz)))))
          (allOT_cons (OT.plain rfl (ob_move rfl rfl Opd.t0))
          (allOT_cons (OT.guard (outs := [(78, (pBool y20))]) (!((((!y18) && (!sEq a0.Text (⟨#[]⟩ : ByteArray))) || ((!y19) && (a0.Num != (0 : Int)))) || ((!y20) && (a0.Low != (0 : Int))))) (gF ((((!y18) && (!sEq a0.Text (⟨#[]⟩ : ByteArray))) || ((!y19) && (a0.Num != (0 : Int)))) || ((!y20) && (a0.Low != (0 : Int))))).1 (gF ((((!y18) && (!sEq a0.Text (⟨#[]⟩ : ByteArray))) || ((!y19) && (a0.Num != (0 : Int)))) || ((!y20) && (a0.Low != (0 : Int))))).2 rfl rfl (fun e he => by rw [List.mem_singleton.1 he]) (fun hG => ob_move rfl rfl Opd.t0))
          (allOT_cons (OT.guard (outs := [(79, (pBool (!y20)))]) (!((((!y18) && (!sEq a0.Text (⟨#[]⟩ : ByteArray))) || ((!y19) && (a0.Num != (0 : Int)))) || ((!y20) && (a0.Low != (0 : Int))))) (gF ((((!y18) && (!sEq a0.Text (⟨#[]⟩ : ByteArray))) || ((!y19) && (a0.Num != (0 : Int)))) || ((!y20) && (a0.Low != (0 : Int))))).1 (gF ((((!y18) && (!sEq a0.Text (⟨#[]⟩ : ByteArray))) || ((!y19) && (a0.Num != (0 : Int)))) || ((!y20) && (a0.Low != (0 : Int))))).2 rfl rfl (fun e he => by rw [List.mem_singleton.1 he]) (fun hG => ob_not rfl rfl (Opd.gd hG Opd.t0)))
          (allOT_cons (OT.guard (outs := [(80, (pBool (!y20)))]) (!((((!y18) && (!sEq a0.Text (⟨#[]⟩ : ByteArray))) || ((!y19) && (a0.Num != (0 : Int)))) || ((!y20) && (a0.Low != (0 : Int))))) (gF ((((!y18) && (!sEq a0.Text (⟨#[]⟩ : ByteArray))) || ((!y19) && (a0.Num != (0 : Int)))) || ((!y20) && (a0.Low != (0 : Int))))).1 (gF ((((!y18) && (!sEq a0.Text (⟨#[]⟩ : ByteArray))) || ((!y19) && (a0.Num != (0 : Int)))) || ((!y20) && (a0.Low != (0 : Int))))).2 rfl rfl (fun e he => by rw [List.mem_singleton.1 he]) (fun hG => ob_move rfl rfl (Opd.gd hG Opd.t0)))
          (allOT_cons (OT.guard (outs := [(81, ((Kd.int .i64).ptr a0.High))]) ((!((((!y18) && (!sEq a0.Text (⟨#[]⟩ : ByteArray))) || ((!y19) && (a0.Num != (0 : Int)))) || ((!y20) && (a0.Low != (0 : Int))))) && (!y20)) (giT (!((((!y18) && (!sEq a0.Text (⟨#[]⟩ : ByteArray))) || ((!y19) && (a0.Num != (0 : Int)))) || ((!y20) && (a0.Low != (0 : Int))))) (!y20)).1 (giT (!((((!y18) && (!sEq a0.Text (⟨#[]⟩ : ByteArray))) || ((!y19) && (a0.Num != (0 : Int)))) || ((!y20) && (a0.Low != (0 : Int))))) (!y20)).2 rfl rfl (fun e he => by rw [List.mem_singleton.1 he]) (fun hG => ob_fieldAddr fl_38_3 rfl rfl Opd.t0))
          (allOT_cons (OT.guard (outs := [(82, (pInt .i64 a0.High))]) ((!((((!y18) && (!sEq a0.Text (⟨#[]⟩ : ByteArray))) || ((!y19) && (a0.Num != (0 : Int)))) || ((!y20) && (a0.Low != (0 : Int))))) && (!y20)) (giT (!((((!y18) && (!sEq a0.Text (⟨#[]⟩ : ByteArray))) || ((!y19) && (a0.Num != (0 : Int)))) || ((!y20) && (a0.Low != (0 : Int))))) (!y20)).1 (giT (!((((!y18) && (!sEq a0.Text (⟨#[]⟩ : ByteArray))) || ((!y19) && (a0.Num != (0 : Int)))) || ((!y20) && (a0.Low != (0 : Int))))) (!y20)).2 rfl rfl (fun e he => by rw [List.mem_singleton.1 he]) (fun hG => ob_load ty_2 rfl rfl (Opd.gd hG Opd.t0)))
          (allOT_cons (OT.guard (outs := [(83, (pBool (a0.High != (0 : Int))))]) ((!((((!y18) && (!sEq a0.Text (⟨#[]⟩ : ByteArray))) || ((!y19) && (a0.Num != (0 : Int)))) || ((!y20) && (a0.Low != (0 : Int))))) && (!y20)) (giT (!((((!y18) && (!sEq a0.Text (⟨#[]⟩ : ByteArray))) || ((!y19) && (a0.Num != (0 : Int)))) || ((!y20) && (a0.Low != (0 : Int))))) (!y20)).1 (giT (!((((!y18) && (!sEq a0.Text (⟨#[]⟩ : ByteArray))) || ((!y19) && (a0.Num != (0 : Int)))) || ((!y20) && (a0.Low != (0 : Int))))) (!y20)).2 rfl rfl (fun e he => by rw [List.mem_singleton.1 he]) (fun hG => ob_ne rfl rfl (Opd.gd hG Opd.t0) (Opd.c (int_q _ _))))
          (allOT_cons (OT.guard (outs := [(84, (pBool ((!y20) && (a0.High != (0 : Int)))))]) (!((((!y18) && (!sEq a0.Text (⟨#[]⟩ : ByteArray))) || ((!y19) && (a0.Num != (0 : Int)))) || ((!y20) && (a0.Low != (0 : Int))))) (gF ((((!y18) && (!sEq a0.Text (⟨#[]⟩ : ByteArray))) || ((!y19) && (a0.Num != (0 : Int)))) || ((!y20) && (a0.Low != (0 : Int))))).1 (gF ((((!y18) && (!sEq a0.Text (⟨#[]⟩ : ByteArray))) || ((!y19) && (a0.Num != (0 : Int)))) || ((!y20) && (a0.Low != (0 : Int))))).2 rfl rfl (fun e he => by rw [List.mem_singleton.1 he]) (fun hG => ob_pick (q := (pBool ((!y20) && (a0.High != (0 : Int))))) rfl rfl (Opd.gd hG Opd.t0) (fun hz => Opd.to (Opd.gd (bA hG hz) (Opd.tl Opd.t0)) (congrArg (fun t => (pBool t)) (pk_and_t hz))) (fun hz => Opd.to (Opd.c (bool_q _)) (congrArg (fun t => (pBool t)) (pk_and_f hz)))))
          (allOT_cons (OT.plain rfl (ob_pick (q := (pBool (((((!y18) && (!sEq a0.Text (⟨#[]⟩ : ByteArray))) || ((!y19) && (a0.Num != (0 : Int)))) || ((!y20) && (a0.Low != (0 : Int)))) || ((!y20) && (a0.High != (0 : Int)))))) rfl rfl Opd.t0 (fun hz => Opd.to (Opd.c (bool_q _)) (congrArg (fun t => (pBool t)) (pk_or_t hz))) (fun hz => Opd.to (Opd.gd (bNF hz) (Opd.tl Opd.t0)) (congrArg (fun t => (pBool t)) (pk_or_f hz)))))
          allOT_nil))))))))))))))))))))))))))))))))))
        hst hb (fun a g hst hb => ?_)
    refine then_n ?_
    refine wp_cond_split (hst.bool 3 rfl) (fun hc24 => ?_) (fun hc24 => ?_)
    · replace H0 := ite_t hc24 H0
      refine wp_seq ?_
      refine wp_reg follows (N := 106) (L := [])
          (T := [⟨[], [(4, (pBool false))], [], [], [4]⟩])
          (F := [.op 0 0]) (by kernel_rfl)
          (allOT_cons (OT.plain rfl (ob_assign rfl rfl (Opd.c (bool_q _))))
            allOT_nil)
          (hst.pick [] rfl) hb (fun a g hst hb => ?_)
      refine then_n ?_
      refine wp_ret ?_
      refine then_r ?_
      obtain rfl := Option.some.inj H0
      exact endR1 rfl hst hb (res_tmp (s := 4)) (hst.at 0 rfl)
    · replace H0 := ite_f hc24 H0
      refine wp_skip ?_
      refine then_n ?_
      refine wp_seq ?_
      obtain ⟨r25, h26, H0⟩ := of_bind H0
      refine wp_reg follows (N := 106) (L := [(2, (k_api_Record.ptr a0)), (8, (pBool y21)), (9, (pBool y22))])
          (T := [⟨[.old 1], [(86, (pBool y21))], [], [], [86]⟩,
            ⟨[.op 0 0], [(87, (pBool y21))], [], [0], [87]⟩,
            ⟨[.op 1 0, .old 0], [(88, (pIf (!y21) (Kd.flt.ptr a0.Real)))], [], [0, 1], [88]⟩,
            ⟨[.op 1 0, .op 2 0], [(89, (pIf (!y21) (pFlt a0.Real)))], [], [0, 1, 2], [89]⟩,
            ⟨[.op 1 0, .op 3 0], [(90, (pIf (!y21) (pBool r25)))], [], [0, 1, 2, 3], [90]⟩,
            ⟨[.op 1 0, .op 4 0], [(91, (pBool (y21 || r25)))], [], [0, 1, 2, 3, 4], [91]⟩,
            ⟨[.op 5 0], [(92, (pBool (y21 || r25)))], [], [0, 1, 2, 3, 4, 5], [92]⟩,
            ⟨[.op 6 0, .old 2], [(93, (pIf (y21 || r25) (pBool y22)))], [], [0, 1, 2, 3, 4, 5, 6], [93]⟩,
            ⟨[.op 6 0, .op 7 0], [(94, (pIf (y21 || r25) (pBool y22)))], [], [0, 1, 2, 3, 4, 5, 6, 7], [94]⟩,
            ⟨[.op 8 0, .old 0], [(95, (pIf ((y21 || r25) && (!y22)) ((Kd.int .i64).ptr a0.Cap)))], [], [0, 1, 2, 3, 4, 5, 6, 7, 8], [95]⟩,
            ⟨[.op 8 0, .op 9 0], [(96, (pIf ((y21 || r25) && (!y22)) (pInt .i64 a0.Cap)))], [], [0, 1, 2, 3, 4, 5, 6, 7, 8, 9], [96]⟩,
            ⟨[.op 8 0, .op 10 0], [(97, (pIf ((y21 || r25) && (!y22)) (pBool (a0.Cap == (0 : Int)))))], [], [0, 1, 2, 3, 4, 5, 6, 7, 8, 9, 10], [97]⟩,
            ⟨[.op 8 0, .op 11 0], [(98, (pIf ((y21 || r25) && (!y22)) (pBool (a0.Cap == (0 : Int)))))], [], [0, 1, 2, 3, 4, 5, 6, 7, 8, 9, 10, 11], [98]⟩,
            ⟨[.op 12 0, .old 0], [(99, (pIf (((y21 || r25) && (!y22)) && (a0.Cap == (0 : Int))) (k_api_Item.sl.ptr a0.List)))], [], [0, 1, 2, 3, 4, 5, 6, 7, 8, 9, 10, 11, 12], [99]⟩,
            ⟨[.op 12 0, .op 13 0], [(100, (pIf (((y21 || r25) && (!y22)) && (a0.Cap == (0 : Int))) (k_api_Item.sl.pd a0.List)))], [], [0, 1, 2, 3, 4, 5, 6, 7, 8, 9, 10, 11, 12, 13], [100]⟩,
            ⟨[.op 12 0, .op 14 0], [(101, (pIf (((y21 || r25) && (!y22)) && (a0.Cap == (0 : Int))) (pInt .i64 (a0.List.length : Int))))], [], [0, 1, 2, 3, 4, 5, 6, 7, 8, 9, 10, 11, 12, 13, 14], [101]⟩,
            ⟨[.op 12 0, .op 15 0], [(102, (pIf (((y21 || r25) && (!y22)) && (a0.Cap == (0 : Int))) (pBool ((a0.List.length : Int) == (0 : Int)))))], [], [0, 1, 2, 3, 4, 5, 6, 7, 8, 9, 10, 11, 12, 13, 14, 15], [102]⟩,
            ⟨[.op 8 0, .op 12 0, .op 16 0], [(103, (pIf ((y21 || r25) && (!y22)) (pBool ((a0.Cap == (0 : Int)) && ((a0.List.length : Int) == (0 : Int))))))], [], [0, 1, 2, 3, 4, 5, 6, 7, 8, 9, 10, 11, 12, 13, 14, 15, 16], [103]⟩,
            ⟨[.op 6 0, .op 8 0, .op 17 0], [(104, (pIf (y21 || r25) (pBool (y22 || ((a0.Cap == (0 : Int)) && ((a0.List.length : Int) == (0 : Int)))))))], [], [0, 1, 2, 3, 4, 5, 6, 7, 8, 9, 10, 11, 12, 13, 14, 15, 16, 17], [104]⟩,
            ⟨[.op 6 0, .op 18 0], [(105, (pBool ((y21 || r25) && (y22 || ((a0.Cap == (0 : Int)) && ((a0.List.length : Int) == (0 : Int)))))))], [], [0, 1, 2, 3, 4, 5, 6, 7, 8, 9, 10, 11, 12, 13, 14, 15, 16, 17, 18], [105]⟩,
            ⟨[.op 19 0], [(4, (pBool ((y21 || r25) && (y22 || ((a0.Cap == (0 : Int)) && ((a0.List.length : Int) == (0 : Int)))))))], [], [0, 1, 2, 3, 4, 5, 6, 7, 8, 9, 10, 11, 12, 13, 14, 15, 16, 17, 18, 19], [4]⟩])
          (F := [.op 20 0]) (by kernel_rfl)
          (allOT_cons (OT.plain rfl (ob_move rfl rfl Opd.t0))
            (allOT_cons (OT.plain rfl (ob_move rfl rfl Opd.t0))
            (allOT_cons (OT.guard (outs := [(88, (Kd.flt.ptr a0.Real))]) (!y21) (gF y21).1 (gF y21).2 rfl rfl (fun e he => by rw [List.mem_singleton.1 he]) (fun hG => ob_fieldAddr fl_38_4 rfl rfl Opd.t0))
            (allOT_cons (OT.guard (outs := [(89, (pFlt a0.Real))]) (!y21) (gF y21).1 (gF y21).2 rfl rfl (fun e he => by rw [List.mem_singleton.1 he]) (fun hG => ob_load ty_35 rfl rfl (Opd.gd hG Opd.t0)))
            (allOT_cons (OT.guard (outs := [(90, (pBool r25))]) (!y21) (gF y21).1 (gF y21).2 rfl rfl (fun e he => by rw [List.mem_singleton.1 he]) (fun hG => ob_call en_66 (moietyref03_zero_ok _ (gd_true h26 hG)) rfl rfl (.cons (Opd.gd hG Opd.t0) .nil)))
            (allOT_cons (OT.plain rfl (ob_pick (q := (pBool (y21 || r25))) rfl rfl Opd.t0 (fun hz => Opd.to (Opd.c (bool_q _)) (congrArg (fun t => (pBool t)) (pk_or_t hz))) (fun hz => Opd.to (Opd.gd (bNF hz) (Opd.tl Opd.t0)) (congrArg (fun t => (pBool t)) (pk_or_f hz)))))
            (allOT_cons (OT.plain rfl (ob_move rfl rfl Opd.t0))
            (allOT_cons (OT.guard (outs := [(93, (pBool y22))]) (y21 || r25) (gT (y21 || r25)).1 (gT (y21 || r25)).2 rfl rfl (fun e he => by rw [List.mem_singleton.1 he]) (fun hG => ob_move rfl rfl Opd.t0))
            (allOT_cons (OT.guard (outs := [(94, (pBool y22))]) (y21 || r25) (gT (y21 || r25)).1 (gT (y21 || r25)).2 rfl rfl (fun e he => by rw [List.mem_singleton.1 he]) (fun hG => ob_move rfl rfl (Opd.gd hG Opd.t0)))
            (allOT_cons (OT.guard (outs := [(95, ((Kd.int .i64).ptr a0.Cap))]) ((y21 || r25) && (!y22)) (giF (y21 || r25) y22).1 (giF (y21 || r25) y22).2 rfl rfl (fun e he => by rw [List.mem_singleton.1 he]) (fun hG => ob_fieldAddr fl_38_5 rfl rfl Opd.t0))
            (allOT_cons (OT.guard (outs := [(96, (pInt .i64 a0.Cap))]) ((y21 || r25) && (!y22)) (giF (y21 || r25) y22).1 (giF (y21 || r25) y22).2 rfl rfl (fun e he => by rw [List.mem_singleton.1 he]) (fun hG => ob_load ty_3 rfl rfl (Opd.gd hG Opd.t0)))
            (allOT_cons (OT.guard (outs := [(97, (pBool (a0.Cap == (0 : Int))))]) ((y21 || r25) && (!y22)) (giF (y21 || r25) y22).1 (giF (y21 || r25) y22).2 rfl rfl (fun e he => by rw [List.mem_singleton.1 he]) (fun hG => ob_eq rfl rfl (Opd.gd hG Opd.t0) (Opd.c (int_q _ _))))
            (allOT_cons (OT.guard (outs := [(98, (pBool (a0.Cap == (0 : Int))))]) ((y21 || r25) && (!y22)) (giF (y21 || r25) y22).1 (giF (y21 || r25) y22).2 rfl rfl (fun e he => by rw [List.mem_singleton.1 he]) (fun hG => ob_move rfl rfl (Opd.gd hG Opd.t0)))
            (allOT_cons (OT.guard (outs := [(99, (k_api_Item.sl.ptr a0.List))]) (((y21 || r25) && (!y22)) && (a0.Cap == (0 : Int))) (giT ((y21 || r25) && (!y22)) (a0.Cap == (0 : Int))).1 (giT ((y21 || r25) && (!y22)) (a0.Cap == (0 : Int))).2 rfl rfl (fun e he => by rw [List.mem_singleton.1 he]) (fun hG => ob_fieldAddr fl_38_7 rfl rfl Opd.t0))
            (allOT_cons (OT.guard (outs := [(100, (k_api_Item.sl.pd a0.List))]) (((y21 || r25) && (!y22)) && (a0.Cap == (0 : Int))) (giT ((y21 || r25) && (!y22)) (a0.Cap == (0 : Int))).1 (giT ((y21 || r25) && (!y22)) (a0.Cap == (0 : Int))).2 rfl rfl (fun e he => by rw [List.mem_singleton.1 he]) (fun hG => ob_load ty_36 rfl rfl (Opd.gd hG Opd.t0)))
            (allOT_cons (OT.guard (outs := [(101, (pInt .i64 (a0.List.length : Int)))]) (((y21 || r25) && (!y22)) && (a0.Cap == (0 : Int))) (giT ((y21 || r25) && (!y22)) (a0.Cap == (0 : Int))).1 (giT ((y21 || r25) && (!y22)) (a0.Cap == (0 : Int))).2 rfl rfl (fun e he => by rw [List.mem_singleton.1 he]) (fun hG => ob_lenL Try.underlying36 rfl rfl (Opd.gd hG Opd.t0)))
            (allOT_cons (OT.guard (outs := [(102, (pBool ((a0.List.length : Int) == (0 : Int))))]) (((y21 || r25) && (!y22)) && (a0.Cap == (0 : Int))) (giT ((y21 || r25) && (!y22)) (a0.Cap == (0 : Int))).1 (giT ((y21 || r25) && (!y22)) (a0.Cap == (0 : Int))).2 rfl rfl (fun e he => by rw [List.mem_singleton.1 he]) (fun hG => ob_eq rfl rfl (Opd.gd hG Opd.t0) (Opd.c (int_q _ _))))
            (allOT_cons (OT.guard (outs := [(103, (pBool ((a0.Cap == (0 : Int)) && ((a0.List.length : Int) == (0 : Int)))))]) ((y21 || r25) && (!y22)) (giF (y21 || r25) y22).1 (giF (y21 || r25) y22).2 rfl rfl (fun e he => by rw [List.mem_singleton.1 he]) (fun hG => ob_pick (q := (pBool ((a0.Cap == (0 : Int)) && ((a0.List.length : Int) == (0 : Int))))) rfl rfl (Opd.gd hG Opd.t0) (fun hz => Opd.to (Opd.gd (bA hG hz) (Opd.tl Opd.t0)) (congrArg (fun t => (pBool t)) (pk_and_t hz))) (fun hz => Opd.to (Opd.c (bool_q _)) (congrArg (fun t => (pBool t)) (pk_and_f hz)))))
            (allOT_cons (OT.guard (outs := [(104, (pBool (y22 || ((a0.Cap == (0 : Int)) && ((a0.List.length : Int) == (0 : Int))))))]) (y21 || r25) (gT (y21 || r25)).1 (gT (y21 || r25)).2 rfl rfl (fun e he => by rw [List.mem_singleton.1 he]) (fun hG => ob_pick (q := (pBool (y22 || ((a0.Cap == (0 : Int)) && ((a0.List.length : Int) == (0 : Int)))))) rfl rfl (Opd.gd hG Opd.t0) (fun hz => Opd.to (Opd.c (bool_q _)) (congrArg (fun t => (pBool t)) (pk_or_t hz))) (fun hz => Opd.to (Opd.gd (bA hG (bNF hz)) (Opd.tl Opd.t0)) (congrArg (fun t => (pBool t)) (pk_or_f hz)))))
            (allOT_cons (OT.plain rfl (ob_pick (q := (pBool ((y21 || r25) && (y22 || ((a0.Cap == (0 : Int)) && ((a0.List.length : Int) == (0 : Int))))))) rfl rfl Opd.t0 (fun hz => Opd.to (Opd.gd hz (Opd.tl Opd.t0)) (congrArg (fun t => (pBool t)) (pk_and_t hz))) (fun hz => Opd.to (Opd.c (bool_q _)) (congrArg (fun t => (pBool t)) (pk_and_f hz)))))
            (allOT_cons (OT.plain rfl (ob_assign rfl rfl Opd.t0))
            allOT_nil)))))))))))))))))))))
          (hst.pick [0, 1, 2] rfl) hb (fun a g hst hb => ?_)
      refine then_n ?_
      refine wp_ret ?_
      obtain rfl := Option.some.inj H0
      exact endR1 rfl hst hb (res_tmp (s := 4)) (hst.at 0 rfl)
  · refine wp_block ?_
    refine wp_loop_ghost (fun n a w => ∃ (x1 : Bool) (x2 : Bool) (x3 : Bool) (x4 : Bool) (x5 : Bool) (x6 : Int) (g : G), w = g.w ∧ St 106 [(1, (pStr a1)), (2, (k_api_Record.ptr a0)), (5, (pBool x1)), (6, (pBool x2)), (7, (pBool x3)), (8, (pBool x4)), (9, (pBool x5)), (10, (pInt .i64 x6))] a g ∧ Base g0 g ∧ moietyref03_only_l1 a1 n x1 x2 x3 x4 x5 x6 = some z23) (Int.toNat ((a1.size : Int) - (0 : Int)) + 1) ⟨false, false, false, false, false, (0 : Int), g, rfl, (hst.pick [0, 1, 2, 3, 4, 5, 6, 7] rfl), hb, hz1⟩ (fun n a w hI => ?_)
    obtain ⟨x1, x2, x3, x4, x5, x6, g, rfl, hst, hb, H1⟩ := hI
    cases n with
    | zero => exact absurd H1 (by simp [moietyref03_only_l1])
    | succ n =>
      rw [moietyref03_only_l1] at H1
      refine wp_seq ?_
      refine wp_seq ?_
      refine wp_reg follows (N := 106) (L := [(1, (pStr a1)), (2, (k_api_Record.ptr a0)), (5, (pBool x1)), (6, (pBool x2)), (7, (pBool x3)), (8, (pBool x4)), (9, (pBool x5)), (10, (pInt .i64 x6))])
          (T := [⟨[.old 7], [(11, (pInt .i64 x6))], [], [], [11]⟩,
            ⟨[.old 0], [(12, (pStr a1))], [], [], [12]⟩,
            ⟨[.op 1 0], [(13, (pInt .i64 (a1.size : Int)))], [], [1], [13]⟩,
            ⟨[.op 0 0, .op 2 0], [(14, (pBool (decide (x6 < (a1.size : Int)))))], [], [0, 1, 2], [14]⟩])
          (F := [.old 0, .old 1, .old 2, .old 3, .old 4, .old 5, .old 6, .old 7, .op 3 0]) (by kernel_rfl)
          (allOT_cons (OT.plain rfl (ob_move rfl rfl Opd.t0))
            (allOT_cons (OT.plain rfl (ob_move rfl rfl Opd.t0))
            (allOT_cons (OT.plain rfl (ob_lenS Try.underlying9 rfl rfl Opd.t0))
            (allOT_cons (OT.plain rfl (ob_lt rfl rfl Opd.t0 (Opd.tl Opd.t0)))
            allOT_nil))))
          hst hb (fun a g hst hb => ?_)
      refine then_n ?_
      refine wp_cond_split (hst.bool 8 rfl) (fun hc7 => ?_) (fun hc7 => ?_)
      · replace H1 := ite_t hc7 H1
        refine wp_skip ?_
        refine then_n ?_
        refine wp_seq ?_
        refine wp_block ?_
        refine wp_seq ?_
        obtain ⟨b8, h9, H1⟩ := of_bind H1
        refine wp_reg follows (N := 106) (L := [(1, (pStr a1)), (2, (k_api_Record.ptr a0)), (5, (pBool x1)), (6, (pBool x2)), (7, (pBool x3)), (8, (pBool x4)), (9, (pBool x5)), (10, (pInt .i64 x6))])
            (T := [⟨[.old 2], [(17, (pBool x1))], [], [], [17]⟩,
              ⟨[.op 0 0], [(18, (pBool x1))], [], [0], [18]⟩,
              ⟨[.op 1 0, .old 0], [(19, (pIf (!x1) (pStr a1)))], [], [0, 1], [19]⟩,
              ⟨[.op 1 0, .old 7], [(20, (pIf (!x1) (pInt .i64 x6)))], [], [0, 1], [20]⟩,
              ⟨[.op 1 0, .op 2 0, .op 3 0], [(21, (pIf (!x1) (pInt .u8 b8)))], [], [0, 1, 2, 3], [21]⟩,
              ⟨[.op 1 0, .op 4 0], [(22, (pIf (!x1) (pBool (b8 == (116 : Int)))))], [], [0, 1, 2, 3, 4], [22]⟩,
              ⟨[.op 1 0, .op 5 0], [(23, (pBool (x1 || (b8 == (116 : Int)))))], [], [0, 1, 2, 3, 4, 5], [23]⟩,
              ⟨[.op 6 0], [(5, (pBool (x1 || (b8 == (116 : Int)))))], [], [0, 1, 2, 3, 4, 5, 6], [5]⟩])
            (F := [.old 0, .old 1, .op 7 0, .old 3, .old 4, .old 5, .old 6, .old 7]) (by kernel_rfl)
            (allOT_cons (OT.plain rfl (ob_move rfl rfl Opd.t0))
              (allOT_cons (OT.plain rfl (ob_move rfl rfl Opd.t0))
              (allOT_cons (OT.guard (outs := [(19, (pStr a1))]) (!x1) (gF x1).1 (gF x1).2 rfl rfl (fun e he => by rw [List.mem_singleton.1 he]) (fun hG => ob_move rfl rfl Opd.t0))
              (allOT_cons (OT.guard (outs := [(20, (pInt .i64 x6))]) (!x1) (gF x1).1 (gF x1).2 rfl rfl (fun e he => by rw [List.mem_singleton.1 he]) (fun hG => ob_move rfl rfl Opd.t0))
              (allOT_cons (OT.guard (outs := [(21, (pInt .u8 b8))]) (!x1) (gF x1).1 (gF x1).2 rfl rfl (fun e he => by rw [List.mem_singleton.1 he]) (fun hG => ob_sidx Try.underlying9 rfl rfl (Opd.gd hG Opd.t0) (Opd.gd hG (Opd.tl Opd.t0)) (gd_true h9 hG)))
              (allOT_cons (OT.guard (outs := [(22, (pBool (b8 == (116 : Int))))]) (!x1) (gF x1).1 (gF x1).2 rfl rfl (fun e he => by rw [List.mem_singleton.1 he]) (fun hG => ob_eq rfl rfl (Opd.gd hG Opd.t0) (Opd.c (int_q _ _))))
              (allOT_cons (OT.plain rfl (ob_pick (q := (pBool (x1 || (b8 == (116 : Int))))) rfl rfl Opd.t0 (fun hz => Opd.to (Opd.c (bool_q _)) (congrArg (fun t => (pBool t)) (pk_or_t hz))) (fun hz => Opd.to (Opd.gd (bNF hz) (Opd.tl Opd.t0)) (congrArg (fun t => (pBool t)) (pk_or_f hz)))))
              (allOT_cons (OT.plain rfl (ob_assign rfl rfl Opd.t0))
              allOT_nil))))))))
            (hst.pick [0, 1, 2, 3, 4, 5, 6, 7] rfl) hb (fun a g hst hb => ?_)
        refine then_n ?_
        refine wp_seq ?_
        obtain ⟨b10, h11, H1⟩ := of_bind H1
        refine wp_reg follows (N := 106) (L := [(1, (pStr a1)), (2, (k_api_Record.ptr a0)), (5, (pBool (x1 || (b8 == (116 : Int))))), (6, (pBool x2)), (7, (pBool x3)), (8, (pBool x4)), (9, (pBool x5)), (10, (pInt .i64 x6))])
            (T := [⟨[.old 3], [(24, (pBool x2))], [], [], [24]⟩,
              ⟨[.op 0 0], [(25, (pBool x2))], [], [0], [25]⟩,
              ⟨[.op 1 0, .old 0], [(26, (pIf (!x2) (pStr a1)))], [], [0, 1], [26]⟩,
              ⟨[.op 1 0, .old 7], [(27, (pIf (!x2) (pInt .i64 x6)))], [], [0, 1], [27]⟩,
              ⟨[.op 1 0, .op 2 0, .op 3 0], [(28, (pIf (!x2) (pInt .u8 b10)))], [], [0, 1, 2, 3], [28]⟩,
              ⟨[.op 1 0, .op 4 0], [(29, (pIf (!x2) (pBool (b10 == (110 : Int)))))], [], [0, 1, 2, 3, 4], [29]⟩,
              ⟨[.op 1 0, .op 5 0], [(30, (pBool (x2 || (b10 == (110 : Int)))))], [], [0, 1, 2, 3, 4, 5], [30]⟩,
              ⟨[.op 6 0], [(6, (pBool (x2 || (b10 == (110 : Int)))))], [], [0, 1, 2, 3, 4, 5, 6], [6]⟩])
            (F := [.old 0, .old 1, .old 2, .op 7 0, .old 4, .old 5, .old 6, .old 7]) (by kernel_rfl)
            (allOT_cons (OT.plain rfl (ob_move rfl rfl Opd.t0))
              (allOT_cons (OT.plain rfl (ob_move rfl rfl Opd.t0))
              (allOT_cons (OT.guard (outs := [(26, (pStr a1))]) (!x2) (gF x2).1 (gF x2).2 rfl rfl (fun e he => by rw [List.mem_singleton.1 he]) (fun hG => ob_move rfl rfl Opd.t0))
              (allOT_cons (OT.guard (outs := [(27, (pInt .i64 x6))]) (!x2) (gF x2).1 (gF x2).2 rfl rfl (fun e he => by rw [List.mem_singleton.1 he]) (fun hG => ob_move rfl rfl Opd.t0))
              (allOT_cons (OT.guard (outs := [(28, (pInt .u8 b10))]) (!x2) (gF x2).1 (gF x2).2 rfl rfl (fun e he => by rw [List.mem_singleton.1 he]) (fun hG => ob_sidx Try.underlying9 rfl rfl (Opd.gd hG Opd.t0) (Opd.gd hG (Opd.tl Opd.t0)) (gd_true h11 hG)))
              (allOT_cons (OT.guard (outs := [(29, (pBool (b10 == (110 : Int))))]) (!x2) (gF x2).1 (gF x2).2 rfl rfl (fun e he => by rw [List.mem_singleton.1 he]) (fun hG => ob_eq rfl rfl (Opd.gd hG Opd.t0) (Opd.c (int_q _ _))))
              (allOT_cons (OT.plain rfl (ob_pick (q := (pBool (x2 || (b10 == (110 : Int))))) rfl rfl Opd.t0 (fun hz => Opd.to (Opd.c (bool_q _)) (congrArg (fun t => (pBool t)) (pk_or_t hz))) (fun hz => Opd.to (Opd.gd (bNF hz) (Opd.tl Opd.t0)) (congrArg (fun t => (pBool t)) (pk_or_f hz)))))
              (allOT_cons (OT.plain rfl (ob_assign rfl rfl Opd.t0))
              allOT_nil))))))))
            hst hb (fun a g hst hb => ?_)
        refine then_n ?_
        refine wp_seq ?_
        obtain ⟨b12, h13, H1⟩ := of_bind H1
        refine wp_reg follows (N := 106) (L := [(1, (pStr a1)), (2, (k_api_Record.ptr a0)), (5, (pBool (x1 || (b8 == (116 : Int))))), (6, (pBool (x2 || (b10 == (110 : Int))))), (7, (pBool x3)), (8, (pBool x4)), (9, (pBool x5)), (10, (pInt .i64 x6))])
            (T := [⟨[.old 4], [(31, (pBool x3))], [], [], [31]⟩,
              ⟨[.op 0 0], [(32, (pBool x3))], [], [0], [32]⟩,
              ⟨[.op 1 0, .old 0], [(33, (pIf (!x3) (pStr a1)))], [], [0, 1], [33]⟩,
              ⟨[.op 1 0, .old 7], [(34, (pIf (!x3) (pInt .i64 x6)))], [], [0, 1], [34]⟩,
              ⟨[.op 1 0, .op 2 0, .op 3 0], [(35, (pIf (!x3) (pInt .u8 b12)))], [], [0, 1, 2, 3], [35]⟩,
              ⟨[.op 1 0, .op 4 0], [(36, (pIf (!x3) (pBool (b12 == (98 : Int)))))], [], [0, 1, 2, 3, 4], [36]⟩,
              ⟨[.op 1 0, .op 5 0], [(37, (pBool (x3 || (b12 == (98 : Int)))))], [], [0, 1, 2, 3, 4, 5], [37]⟩,
              ⟨[.op 6 0], [(7, (pBool (x3 || (b12 == (98 : Int)))))], [], [0, 1, 2, 3, 4, 5, 6], [7]⟩])
            (F := [.old 0, .old 1, .old 2, .old 3, .op 7 0, .old 5, .old 6, .old 7]) (by kernel_rfl)
            (allOT_cons (OT.plain rfl (ob_move rfl rfl Opd.t0))
              (allOT_cons (OT.plain rfl (ob_move rfl rfl Opd.t0))
              (allOT_cons (OT.guard (outs := [(33, (pStr a1))]) (!x3) (gF x3).1 (gF x3).2 rfl rfl (fun e he => by rw [List.mem_singleton.1 he]) (fun hG => ob_move rfl rfl Opd.t0))
              (allOT_cons (OT.guard (outs := [(34, (pInt .i64 x6))]) (!x3) (gF x3).1 (gF x3).2 rfl rfl (fun e he => by rw [List.mem_singleton.1 he]) (fun hG => ob_move rfl rfl Opd.t0))
              (allOT_cons (OT.guard (outs := [(35, (pInt .u8 b12))]) (!x3) (gF x3).1 (gF x3).2 rfl rfl (fun e he => by rw [List.mem_singleton.1 he]) (fun hG => ob_sidx Try.underlying9 rfl rfl (Opd.gd hG Opd.t0) (Opd.gd hG (Opd.tl Opd.t0)) (gd_true h13 hG)))
              (allOT_cons (OT.guard (outs := [(36, (pBool (b12 == (98 : Int))))]) (!x3) (gF x3).1 (gF x3).2 rfl rfl (fun e he => by rw [List.mem_singleton.1 he]) (fun hG => ob_eq rfl rfl (Opd.gd hG Opd.t0) (Opd.c (int_q _ _))))
              (allOT_cons (OT.plain rfl (ob_pick (q := (pBool (x3 || (b12 == (98 : Int))))) rfl rfl Opd.t0 (fun hz => Opd.to (Opd.c (bool_q _)) (congrArg (fun t => (pBool t)) (pk_or_t hz))) (fun hz => Opd.to (Opd.gd (bNF hz) (Opd.tl Opd.t0)) (congrArg (fun t => (pBool t)) (pk_or_f hz)))))
              (allOT_cons (OT.plain rfl (ob_assign rfl rfl Opd.t0))
              allOT_nil))))))))
            hst hb (fun a g hst hb => ?_)
        refine then_n ?_
        refine wp_seq ?_
        obtain ⟨b14, h15, H1⟩ := of_bind H1
        refine wp_reg follows (N := 106) (L := [(1, (pStr a1)), (2, (k_api_Record.ptr a0)), (5, (pBool (x1 || (b8 == (116 : Int))))), (6, (pBool (x2 || (b10 == (110 : Int))))), (7, (pBool (x3 || (b12 == (98 : Int))))), (8, (pBool x4)), (9, (pBool x5)), (10, (pInt .i64 x6))])
            (T := [⟨[.old 5], [(38, (pBool x4))], [], [], [38]⟩,
              ⟨[.op 0 0], [(39, (pBool x4))], [], [0], [39]⟩,
              ⟨[.op 1 0, .old 0], [(40, (pIf (!x4) (pStr a1)))], [], [0, 1], [40]⟩,
              ⟨[.op 1 0, .old 7], [(41, (pIf (!x4) (pInt .i64 x6)))], [], [0, 1], [41]⟩,
              ⟨[.op 1 0, .op 2 0, .op 3 0], [(42, (pIf (!x4) (pInt .u8 b14)))], [], [0, 1, 2, 3], [42]⟩,
              ⟨[.op 1 0, .op 4 0], [(43, (pIf (!x4) (pBool (b14 == (114 : Int)))))], [], [0, 1, 2, 3, 4], [43]⟩,
              ⟨[.op 1 0, .op 5 0], [(44, (pBool (x4 || (b14 == (114 : Int)))))], [], [0, 1, 2, 3, 4, 5], [44]⟩,
              ⟨[.op 6 0], [(8, (pBool (x4 || (b14 == (114 : Int)))))], [], [0, 1, 2, 3, 4, 5, 6], [8]⟩])
            (F := [.old 0, .old 1, .old 2, .old 3, .old 4, .op 7 0, .old 6, .old 7]) (by kernel_rfl)
            (allOT_cons (OT.plain rfl (ob_move rfl rfl Opd.t0))
              (allOT_cons (OT.plain rfl (ob_move rfl rfl Opd.t0))
              (allOT_cons (OT.guard (outs := [(40, (pStr a1))]) (!x4) (gF x4).1 (gF x4).2 rfl rfl (fun e he => by rw [List.mem_singleton.1 he]) (fun hG => ob_move rfl rfl Opd.t0))
              (allOT_cons (OT.guard (outs := [(41, (pInt .i64 x6))]) (!x4) (gF x4).1 (gF x4).2 rfl rfl (fun e he => by rw [List.mem_singleton.1 he]) (fun hG => ob_move rfl rfl Opd.t0))
              (allOT_cons (OT.guard (outs := [(42, (pInt .u8 b14))]) (!x4) (gF x4).1 (gF x4).2 rfl rfl (fun e he => by rw [List.mem_singleton.1 he]) (fun hG => ob_sidx Try.underlying9 rfl rfl (Opd.gd hG Opd.t0) (Opd.gd hG (Opd.tl Opd.t0)) (gd_true h15 hG)))
              (allOT_cons (OT.guard (outs := [(43, (pBool (b14 == (114 : Int))))]) (!x4) (gF x4).1 (gF x4).2 rfl rfl (fun e he => by rw [List.mem_singleton.1 he]) (fun hG => ob_eq rfl rfl (Opd.gd hG Opd.t0) (Opd.c (int_q _ _))))
              (allOT_cons (OT.plain rfl (ob_pick (q := (pBool (x4 || (b14 == (114 : Int))))) rfl rfl Opd.t0 (fun hz => Opd.to (Opd.c (bool_q _)) (congrArg (fun t => (pBool t)) (pk_or_t hz))) (fun hz => Opd.to (Opd.gd (bNF hz) (Opd.tl Opd.t0)) (congrArg (fun t => (pBool t)) (pk_or_f hz)))))
              (allOT_cons (OT.plain rfl (ob_assign rfl rfl Opd.t0))
              allOT_nil))))))))
            hst hb (fun a g hst hb => ?_)
        refine then_n ?_
        obtain ⟨b16, h17, H1⟩ := of_bind H1
        refine wp_reg follows (N := 106) (L := [(1, (pStr a1)), (2, (k_api_Record.ptr a0)), (5, (pBool (x1 || (b8 == (116 : Int))))), (6, (pBool (x2 || (b10 == (110 : Int))))), (7, (pBool (x3 || (b12 == (98 : Int))))), (8, (pBool (x4 || (b14 == (114 : Int))))), (9, (pBool x5)), (10, (pInt .i64 x6))])
            (T := [⟨[.old 6], [(45, (pBool x5))], [], [], [45]⟩,
              ⟨[.op 0 0], [(46, (pBool x5))], [], [0], [46]⟩,
              ⟨[.op 1 0, .old 0], [(47, (pIf (!x5) (pStr a1)))], [], [0, 1], [47]⟩,
              ⟨[.op 1 0, .old 7], [(48, (pIf (!x5) (pInt .i64 x6)))], [], [0, 1], [48]⟩,
              ⟨[.op 1 0, .op 2 0, .op 3 0], [(49, (pIf (!x5) (pInt .u8 b16)))], [], [0, 1, 2, 3], [49]⟩,
              ⟨[.op 1 0, .op 4 0], [(50, (pIf (!x5) (pBool (b16 == (108 : Int)))))], [], [0, 1, 2, 3, 4], [50]⟩,
              ⟨[.op 1 0, .op 5 0], [(51, (pBool (x5 || (b16 == (108 : Int)))))], [], [0, 1, 2, 3, 4, 5], [51]⟩,
              ⟨[.op 6 0], [(9, (pBool (x5 || (b16 == (108 : Int)))))], [], [0, 1, 2, 3, 4, 5, 6], [9]⟩])
            (F := [.old 0, .old 1, .old 2, .old 3, .old 4, .old 5, .op 7 0, .old 7]) (by kernel_rfl)
            (allOT_cons (OT.plain rfl (ob_move rfl rfl Opd.t0))
              (allOT_cons (OT.plain rfl (ob_move rfl rfl Opd.t0))
              (allOT_cons (OT.guard (outs := [(47, (pStr a1))]) (!x5) (gF x5).1 (gF x5).2 rfl rfl (fun e he => by rw [List.mem_singleton.1 he]) (fun hG => ob_move rfl rfl Opd.t0))
              (allOT_cons (OT.guard (outs := [(48, (pInt .i64 x6))]) (!x5) (gF x5).1 (gF x5).2 rfl rfl (fun e he => by rw [List.mem_singleton.1 he]) (fun hG => ob_move rfl rfl Opd.t0))
              (allOT_cons (OT.guard (outs := [(49, (pInt .u8 b16))]) (!x5) (gF x5).1 (gF x5).2 rfl rfl (fun e he => by rw [List.mem_singleton.1 he]) (fun hG => ob_sidx Try.underlying9 rfl rfl (Opd.gd hG Opd.t0) (Opd.gd hG (Opd.tl Opd.t0)) (gd_true h17 hG)))
              (allOT_cons (OT.guard (outs := [(50, (pBool (b16 == (108 : Int))))]) (!x5) (gF x5).1 (gF x5).2 rfl rfl (fun e he => by rw [List.mem_singleton.1 he]) (fun hG => ob_eq rfl rfl (Opd.gd hG Opd.t0) (Opd.c (int_q _ _))))
              (allOT_cons (OT.plain rfl (ob_pick (q := (pBool (x5 || (b16 == (108 : Int))))) rfl rfl Opd.t0 (fun hz => Opd.to (Opd.c (bool_q _)) (congrArg (fun t => (pBool t)) (pk_or_t hz))) (fun hz => Opd.to (Opd.gd (bNF hz) (Opd.tl Opd.t0)) (congrArg (fun t => (pBool t)) (pk_or_f hz)))))
              (allOT_cons (OT.plain rfl (ob_assign rfl rfl Opd.t0))
              allOT_nil))))))))
            hst hb (fun a g hst hb => ?_)
        refine inBlock_n ?_
        refine then_n ?_
        refine wp_reg follows (N := 106) (L := [(1, (pStr a1)), (2, (k_api_Record.ptr a0)), (5, (pBool (x1 || (b8 == (116 : Int))))), (6, (pBool (x2 || (b10 == (110 : Int))))), (7, (pBool (x3 || (b12 == (98 : Int))))), (8, (pBool (x4 || (b14 == (114 : Int))))), (9, (pBool (x5 || (b16 == (108 : Int))))), (10, (pInt .i64 x6))])
            (T := [⟨[.old 7], [(15, (pInt .i64 x6))], [], [], [15]⟩,
              ⟨[.op 0 0], [(16, (pInt .i64 (IntKind.i64.wrap (x6 + (1 : Int)))))], [], [0], [16]⟩,
              ⟨[.op 1 0], [(10, (pInt .i64 (IntKind.i64.wrap (x6 + (1 : Int)))))], [], [0, 1], [10]⟩])
            (F := [.old 0, .old 1, .old 2, .old 3, .old 4, .old 5, .old 6, .op 2 0]) (by kernel_rfl)
            (allOT_cons (OT.plain rfl (ob_move rfl rfl Opd.t0))
              (allOT_cons (OT.plain rfl (ob_add rfl rfl Opd.t0 (Opd.c (int_q _ _)) rfl))
              (allOT_cons (OT.plain rfl (ob_assign rfl rfl Opd.t0))
              allOT_nil)))
            hst hb (fun a g hst hb => ?_)
        exact ⟨n, Nat.lt_succ_self _, (x1 || (b8 == (116 : Int))), (x2 || (b10 == (110 : Int))), (x3 || (b12 == (98 : Int))), (x4 || (b14 == (114 : Int))), (x5 || (b16 == (108 : Int))), (IntKind.i64.wrap (x6 + (1 : Int))), g, rfl, (hst.pick [0, 1, 2, 3, 4, 5, 6, 7] rfl), hb, H1⟩
      · replace H1 := ite_f hc7 H1
        refine wp_exit ?_
        refine then_e ?_
        refine then_e ?_
        refine inBlock_e ?_
        exact ⟨x1, x2, x3, x4, x5, g, rfl, (hst.pick [1, 2, 3, 4, 5, 6] rfl), hb, Option.some.inj H1⟩
end Go.CL

set_option linter.unusedVariables false
set_option linter.unusedSimpArgs false
set_option maxRecDepth 100000
namespace Go.CL
open Go Go.RowKit Go.Proofs
theorem moietyref03_Fields_ok (a0 : Int) {r : ByteArray} (h : moietyref03_Fields a0 = some r) : FnOk Try.prog 57 [(pInt .i64 a0)] (pStr r) := by
  have H0 := h
  unfold moietyref03_Fields at H0
  clear h
  refine fn_ok (N := 15) Try.func57 rfl rfl (Nat.le_of_ble_eq_true rfl) rfl rfl (fun a g0 hst hb => ?_)
  refine wp_seq ?_
  refine wp_reg follows (N := 15) (L := [(0, (pInt .i64 a0))])
      (T := [⟨[], [(2, (pStr (⟨#[]⟩ : ByteArray)))], [], [], [2]⟩])
      (F := [.old 0]) (by kernel_rfl)
      (allOT_cons (OT.plain rfl (ob_assign rfl rfl (Opd.c (fun _ => pStr_iff.2 rfl))))
        allOT_nil)
      hst hb (fun a g hst hb => ?_)
  refine then_n ?_
  refine wp_seq ?_
  refine wp_reg follows (N := 15) (L := [(0, (pInt .i64 a0))])
      (T := [⟨[], [(4, (Kd.str.sl.pd ([(⟨#[]⟩ : ByteArray), (⟨#[116]⟩ : ByteArray), (⟨#[110]⟩ : ByteArray), (⟨#[110]⟩ : ByteArray), (⟨#[110, 98]⟩ : ByteArray), (⟨#[114]⟩ : ByteArray), (⟨#[114]⟩ : ByteArray), (⟨#[114]⟩ : ByteArray), (⟨#[108]⟩ : ByteArray), (⟨#[108]⟩ : ByteArray)] : List ByteArray)))], [], [], [4]⟩,
        ⟨[.op 0 0], [(3, (Kd.str.sl.pd ([(⟨#[]⟩ : ByteArray), (⟨#[116]⟩ : ByteArray), (⟨#[110]⟩ : ByteArray), (⟨#[110]⟩ : ByteArray), (⟨#[110, 98]⟩ : ByteArray), (⟨#[114]⟩ : ByteArray), (⟨#[114]⟩ : ByteArray), (⟨#[114]⟩ : ByteArray), (⟨#[108]⟩ : ByteArray), (⟨#[108]⟩ : ByteArray)] : List ByteArray)))], [], [0], [3]⟩])
      (F := [.old 0, .op 1 0]) (by kernel_rfl)
      (allOT_cons (OT.plain rfl (ob_lit te_43 (xs := [.const (.string ⟨#[]⟩), .const (.string ⟨#[116]⟩), .const (.string ⟨#[110]⟩), .const (.string ⟨#[110]⟩), .const (.string ⟨#[110, 98]⟩), .const (.string ⟨#[114]⟩), .const (.string ⟨#[114]⟩), .const (.string ⟨#[114]⟩), .const (.string ⟨#[108]⟩), .const (.string ⟨#[108]⟩)]) (.cons (Opd.c (fun _ => pStr_iff.2 rfl)) (.cons (Opd.c (fun _ => pStr_iff.2 rfl)) (.cons (Opd.c (fun _ => pStr_iff.2 rfl)) (.cons (Opd.c (fun _ => pStr_iff.2 rfl)) (.cons (Opd.c (fun _ => pStr_iff.2 rfl)) (.cons (Opd.c (fun _ => pStr_iff.2 rfl)) (.cons (Opd.c (fun _ => pStr_iff.2 rfl)) (.cons (Opd.c (fun _ => pStr_iff.2 rfl)) (.cons (Opd.c (fun _ => pStr_iff.2 rfl)) (.cons (Opd.c (fun _ => pStr_iff.2 rfl)) .nil)))))))))) (by decide) rfl rfl))
        (allOT_cons (OT.plain rfl (ob_assign rfl rfl Opd.t0))
        allOT_nil))
      hst hb (fun a g hst hb => ?_)
  refine then_n ?_
  refine wp_seq ?_
  refine wp_seq ?_
  refine wp_reg follows (N := 15) (L := [(0, (pInt .i64 a0)), (3, (Kd.str.sl.pd ([(⟨#[]⟩ : ByteArray), (⟨#[116]⟩ : ByteArray), (⟨#[110]⟩ : ByteArray), (⟨#[110]⟩ : ByteArray), (⟨#[110, 98]⟩ : ByteArray), (⟨#[114]⟩ : ByteArray), (⟨#[114]⟩ : ByteArray), (⟨#[114]⟩ : ByteArray), (⟨#[108]⟩ : ByteArray), (⟨#[108]⟩ : ByteArray)] : List ByteArray)))])
      (T := [⟨[.old 0], [(5, (pInt .i64 a0))], [], [], [5]⟩,
        ⟨[.op 0 0], [(6, (pBool (decide (a0 < (1 : Int)))))], [], [0], [6]⟩,
        ⟨[.op 1 0], [(7, (pBool (decide (a0 < (1 : Int)))))], [], [0, 1], [7]⟩,
        ⟨[.op 2 0, .old 0], [(8, (pIf (!(decide (a0 < (1 : Int)))) (pInt .i64 a0)))], [], [0, 1, 2], [8]⟩,
        ⟨[.op 2 0, .op 3 0], [(9, (pIf (!(decide (a0 < (1 : Int)))) (pBool (decide ((9 : Int) < a0)))))], [], [0, 1, 2, 3], [9]⟩,
        ⟨[.op 2 0, .op 4 0], [(10, (pBool ((decide (a0 < (1 : Int))) || (decide ((9 : Int) < a0)))))], [], [0, 1, 2, 3, 4], [10]⟩])
      (F := [.old 0, .old 1, .op 5 0]) (by kernel_rfl)
      (allOT_cons (OT.plain rfl (ob_move rfl rfl Opd.t0))
        (allOT_cons (OT.plain rfl (ob_lt rfl rfl Opd.t0 (Opd.c (int_q _ _))))
        (allOT_cons (OT.plain rfl (ob_move rfl rfl Opd.t0))
        (allOT_cons (OT.guard (outs := [(8, (pInt .i64 a0))]) (!(decide (a0 < (1 : Int)))) (gF (decide (a0 < (1 : Int)))).1 (gF (decide (a0 < (1 : Int)))).2 rfl rfl (fun e he => by rw [List.mem_singleton.1 he]) (fun hG => ob_move rfl rfl Opd.t0))
        (allOT_cons (OT.guard (outs := [(9, (pBool (decide ((9 : Int) < a0))))]) (!(decide (a0 < (1 : Int)))) (gF (decide (a0 < (1 : Int)))).1 (gF (decide (a0 < (1 : Int)))).2 rfl rfl (fun e he => by rw [List.mem_singleton.1 he]) (fun hG => ob_gt rfl rfl (Opd.gd hG Opd.t0) (Opd.c (int_q _ _))))
        (allOT_cons (OT.plain rfl (ob_pick (q := (pBool ((decide (a0 < (1 : Int))) || (decide ((9 : Int) < a0))))) rfl rfl Opd.t0 (fun hz => Opd.to (Opd.c (bool_q _)) (congrArg (fun t => (pBool t)) (pk_or_t hz))) (fun hz => Opd.to (Opd.gd (bNF hz) (Opd.tl Opd.t0)) (congrArg (fun t => (pBool t)) (pk_or_f hz)))))
        allOT_nil))))))
      hst hb (fun a g hst hb => ?_)
  refine then_n ?_
  refine wp_cond_split (hst.bool 2 rfl) (fun hc1 => ?_) (fun hc1 => ?_)
  · replace H0 := ite_t hc1 H0
    refine wp_seq ?_
    refine wp_reg follows (N := 15) (L := [])
        (T := [⟨[], [(2, (pStr (⟨#[]⟩ : ByteArray)))], [], [], [2]⟩])
        (F := [.op 0 0]) (by kernel_rfl)
        (allOT_cons (OT.plain rfl (ob_assign rfl rfl (Opd.c (fun _ => pStr_iff.2 rfl))))
          allOT_nil)
        (hst.pick [] rfl) hb (fun a g hst hb => ?_)
    refine then_n ?_
    refine wp_ret ?_
    refine then_r ?_
    obtain rfl := Option.some.inj H0
    exact endR1 rfl hst hb (res_tmp (s := 2)) (hst.at 0 rfl)
  · replace H0 := ite_f hc1 H0
    refine wp_skip ?_
    refine then_n ?_
    refine wp_seq ?_
    obtain ⟨e2, h3, H0⟩ := of_bind H0
    refine wp_reg follows (N := 15) (L := [(0, (pInt .i64 a0)), (3, (Kd.str.sl.pd ([(⟨#[]⟩ : ByteArray), (⟨#[116]⟩ : ByteArray), (⟨#[110]⟩ : ByteArray), (⟨#[110]⟩ : ByteArray), (⟨#[110, 98]⟩ : ByteArray), (⟨#[114]⟩ : ByteArray), (⟨#[114]⟩ : ByteArray), (⟨#[114]⟩ : ByteArray), (⟨#[108]⟩ : ByteArray), (⟨#[108]⟩ : ByteArray)] : List ByteArray)))])
        (T := [⟨[.old 1], [(11, (Kd.str.sl.pd ([(⟨#[]⟩ : ByteArray), (⟨#[116]⟩ : ByteArray), (⟨#[110]⟩ : ByteArray), (⟨#[110]⟩ : ByteArray), (⟨#[110, 98]⟩ : ByteArray), (⟨#[114]⟩ : ByteArray), (⟨#[114]⟩ : ByteArray), (⟨#[114]⟩ : ByteArray), (⟨#[108]⟩ : ByteArray), (⟨#[108]⟩ : ByteArray)] : List ByteArray)))], [], [], [11]⟩,
          ⟨[.old 0], [(12, (pInt .i64 a0))], [], [], [12]⟩,
          ⟨[.op 0 0, .op 1 0], [(13, (Kd.str.ptr e2))], [], [0, 1], [13]⟩,
          ⟨[.op 2 0], [(14, (pStr e2))], [], [0, 1, 2], [14]⟩,
          ⟨[.op 3 0], [(2, (pStr e2))], [], [0, 1, 2, 3], [2]⟩])
        (F := [.op 4 0]) (by kernel_rfl)
        (allOT_cons (OT.plain rfl (ob_move rfl rfl Opd.t0))
          (allOT_cons (OT.plain rfl (ob_move rfl rfl Opd.t0))
          (allOT_cons (OT.plain rfl (ob_indexAddr Try.underlying43 sz_9 rfl rfl Opd.t0 (Opd.tl Opd.t0) h3))
          (allOT_cons (OT.plain rfl (ob_load ty_9 rfl rfl Opd.t0))
          (allOT_cons (OT.plain rfl (ob_assign rfl rfl Opd.t0))
          allOT_nil)))))
        (hst.pick [0, 1] rfl) hb (fun a g hst hb => ?_)
    refine then_n ?_
    refine wp_ret ?_
    obtain rfl := Option.some.inj H0
    exact endR1 rfl hst hb (res_tmp (s := 2)) (hst.at 0 rfl)
end Go.CL

set_option linter.unusedVariables false
set_option linter.unusedSimpArgs false
set_option maxRecDepth 100000
namespace Go.CL
open Go Go.RowKit Go.Proofs
theorem moietyref01_Proper_ok (a0 : Nat) {r : Bool} (h : moietyref01_Proper a0 = some r) : FnOk Try.prog 58 [(pFlt a0)] (pBool r) := by
  have H0 := h
  unfold moietyref01_Proper at H0
  clear h
  refine fn_ok (N := 11) Try.func58 rfl rfl (Nat.le_of_ble_eq_true rfl) rfl rfl (fun a g0 hst hb => ?_)
  refine wp_seq ?_
  refine wp_reg follows (N := 11) (L := [(0, (pFlt a0))])
      (T := [⟨[], [(2, (pBool false))], [], [], [2]⟩])
      (F := [.old 0]) (by kernel_rfl)
      (allOT_cons (OT.plain rfl (ob_assign rfl rfl (Opd.c (bool_q _))))
        allOT_nil)
      hst hb (fun a g hst hb => ?_)
  refine then_n ?_
  refine wp_seq ?_
  obtain ⟨r1, h2, H0⟩ := of_bind H0
  refine wp_reg follows (N := 11) (L := [(0, (pFlt a0))])
      (T := [⟨[.old 0], [(3, (pFlt a0))], [], [], [3]⟩,
        ⟨[.op 0 0], [(4, (pBool r1))], [], [0], [4]⟩,
        ⟨[.op 1 0], [(5, (pBool (!r1)))], [], [0, 1], [5]⟩,
        ⟨[.op 2 0], [(6, (pBool (!r1)))], [], [0, 1, 2], [6]⟩,
        ⟨[.op 3 0, .old 0], [(7, (pIf (!(!r1)) (pFlt a0)))], [], [0, 1, 2, 3], [7]⟩,
        ⟨[.op 3 0, .op 4 0], [(8, (pIf (!(!r1)) (pInt .u64 (a0 : Int))))], [], [0, 1, 2, 3, 4], [8]⟩,
        ⟨[.op 3 0, .op 5 0], [(9, (pIf (!(!r1)) (pBool ((a0 : Int) == (9221120237041090561 : Int)))))], [], [0, 1, 2, 3, 4, 5], [9]⟩,
        ⟨[.op 3 0, .op 6 0], [(10, (pBool ((!r1) || ((a0 : Int) == (9221120237041090561 : Int)))))], [], [0, 1, 2, 3, 4, 5, 6], [10]⟩,
        ⟨[.op 7 0], [(2, (pBool ((!r1) || ((a0 : Int) == (9221120237041090561 : Int)))))], [], [0, 1, 2, 3, 4, 5, 6, 7], [2]⟩])
      (F := [.op 8 0]) (by kernel_rfl)
      (allOT_cons (OT.plain rfl (ob_move rfl rfl Opd.t0))
        (allOT_cons (OT.plain rfl (ob_call en_64 (moietyref01_none_ok _ h2) rfl rfl (.cons Opd.t0 .nil)))
        (allOT_cons (OT.plain rfl (ob_not rfl rfl Opd.t0))
        (allOT_cons (OT.plain rfl (ob_move rfl rfl Opd.t0))
        (allOT_cons (OT.guard (outs := [(7, (pFlt a0))]) (!(!r1)) (gF (!r1)).1 (gF (!r1)).2 rfl rfl (fun e he => by rw [List.mem_singleton.1 he]) (fun hG => ob_move rfl rfl Opd.t0))
        (allOT_cons (OT.guard (outs := [(8, (pInt .u64 (a0 : Int)))]) (!(!r1)) (gF (!r1)).1 (gF (!r1)).2 rfl rfl (fun e he => by rw [List.mem_singleton.1 he]) (fun hG => ob_bits ex_60 rfl rfl (Opd.gd hG Opd.t0)))
        (allOT_cons (OT.guard (outs := [(9, (pBool ((a0 : Int) == (9221120237041090561 : Int))))]) (!(!r1)) (gF (!r1)).1 (gF (!r1)).2 rfl rfl (fun e he => by rw [List.mem_singleton.1 he]) (fun hG => ob_eq rfl rfl (Opd.gd hG Opd.t0) (Opd.c (int_q _ _))))
        (allOT_cons (OT.plain rfl (ob_pick (q := (pBool ((!r1) || ((a0 : Int) == (9221120237041090561 : Int))))) rfl rfl Opd.t0 (fun hz => Opd.to (Opd.c (bool_q _)) (congrArg (fun t => (pBool t)) (pk_or_t hz))) (fun hz => Opd.to (Opd.gd (bNF hz) (Opd.tl Opd.t0)) (congrArg (fun t => (pBool t)) (pk_or_f hz)))))
        (allOT_cons (OT.plain rfl (ob_assign rfl rfl Opd.t0))
        allOT_nil)))))))))
      hst hb (fun a g hst hb => ?_)
  refine then_n ?_
  refine wp_ret ?_
  obtain rfl := Option.some.inj H0
  exact endR1 rfl hst hb (res_tmp (s := 2)) (hst.at 0 rfl)
end Go.CL

set_option linter.unusedVariables false
set_option linter.unusedSimpArgs false
set_option maxRecDepth 100000
namespace Go.CL
open Go Go.RowKit Go.Proofs
theorem moietyref03_Ahead_ok (a0 : api_Item) (a1 : api_Item) {r : Bool} (h : moietyref03_Ahead a0 a1 = some r) : FnOk Try.prog 67 [(k_api_Item.pd a0), (k_api_Item.pd a1)] (pBool r) := by
  have H0 := h
  unfold moietyref03_Ahead at H0
  clear h
  refine fn_ok (N := 22) Try.func67 rfl rfl (Nat.le_of_ble_eq_true rfl) rfl rfl (fun a g0 hst hb => ?_)
  refine wp_seq ?_
  refine wp_reg follows (N := 22) (L := [(0, (k_api_Item.pd a0)), (1, (k_api_Item.pd a1))])
      (T := [⟨[.old 0], [(2, (k_api_Item.ptr a0))], [], [], [2]⟩,
        ⟨[.old 1], [(3, (k_api_Item.ptr a1))], [], [], [3]⟩,
        ⟨[], [(4, (pBool false))], [], [], [4]⟩])
      (F := [.op 0 0, .op 1 0]) (by kernel_rfl)
      (allOT_cons (OT.plain rfl (ob_box1 rfl rfl Opd.t0))
        (allOT_cons (OT.plain rfl (ob_box1 rfl rfl Opd.t0))
        (allOT_cons (OT.plain rfl (ob_assign rfl rfl (Opd.c (bool_q _))))
        allOT_nil)))
      hst hb (fun a g hst hb => ?_)
  refine then_n ?_
  refine wp_seq ?_
  refine wp_seq ?_
  obtain ⟨r1, h2, H0⟩ := of_bind H0
  refine wp_reg follows (N := 22) (L := [(2, (k_api_Item.ptr a0)), (3, (k_api_Item.ptr a1))])
      (T := [⟨[.old 1], [(5, (Kd.flt.ptr a1.Score))], [], [], [5]⟩,
        ⟨[.op 0 0], [(6, (pFlt a1.Score))], [], [0], [6]⟩,
        ⟨[.old 0], [(7, (Kd.flt.ptr a0.Score))], [], [], [7]⟩,
        ⟨[.op 2 0], [(8, (pFlt a0.Score))], [], [2], [8]⟩,
        ⟨[.op 1 0, .op 3 0], [(9, (pBool r1))], [], [0, 1, 2, 3], [9]⟩])
      (F := [.old 0, .old 1, .op 4 0]) (by kernel_rfl)
      (allOT_cons (OT.plain rfl (ob_fieldAddr fl_64_0 rfl rfl Opd.t0))
        (allOT_cons (OT.plain rfl (ob_load ty_35 rfl rfl Opd.t0))
        (allOT_cons (OT.plain rfl (ob_fieldAddr fl_64_0 rfl rfl Opd.t0))
        (allOT_cons (OT.plain rfl (ob_load ty_35 rfl rfl Opd.t0))
        (allOT_cons (OT.plain rfl (ob_call en_53 (moietyref01_Less_ok _ _ h2) rfl rfl (.cons Opd.t0 (.cons (Opd.tl Opd.t0) .nil))))
        allOT_nil)))))
      hst hb (fun a g hst hb => ?_)
  refine then_n ?_
  refine wp_cond_split (hst.bool 2 rfl) (fun hc3 => ?_) (fun hc3 => ?_)
  · replace H0 := ite_t hc3 H0
    refine wp_seq ?_
    refine wp_reg follows (N := 22) (L := [])
        (T := [⟨[], [(4, (pBool true))], [], [], [4]⟩])
        (F := [.op 0 0]) (by kernel_rfl)
        (allOT_cons (OT.plain rfl (ob_assign rfl rfl (Opd.c (bool_q _))))
          allOT_nil)
        (hst.pick [] rfl) hb (fun a g hst hb => ?_)
    refine then_n ?_
    refine wp_ret ?_
    refine then_r ?_
    obtain rfl := Option.some.inj H0
    exact endR1 rfl hst hb (res_tmp (s := 4)) (hst.at 0 rfl)
  · replace H0 := ite_f hc3 H0
    refine wp_skip ?_
    refine then_n ?_
    refine wp_seq ?_
    obtain ⟨r4, h5, H0⟩ := of_bind H0
    refine wp_reg follows (N := 22) (L := [(2, (k_api_Item.ptr a0)), (3, (k_api_Item.ptr a1))])
        (T := [⟨[.old 0], [(10, (Kd.flt.ptr a0.Score))], [], [], [10]⟩,
          ⟨[.op 0 0], [(11, (pFlt a0.Score))], [], [0], [11]⟩,
          ⟨[.old 1], [(12, (Kd.flt.ptr a1.Score))], [], [], [12]⟩,
          ⟨[.op 2 0], [(13, (pFlt a1.Score))], [], [2], [13]⟩,
          ⟨[.op 1 0, .op 3 0], [(14, (pBool r4))], [], [0, 1, 2, 3], [14]⟩,
          ⟨[.op 4 0], [(15, (pBool r4))], [], [0, 1, 2, 3, 4], [15]⟩,
          ⟨[.op 5 0, .old 0], [(16, (pIf r4 (Kd.str.ptr a0.Name)))], [], [0, 1, 2, 3, 4, 5], [16]⟩,
          ⟨[.op 5 0, .op 6 0], [(17, (pIf r4 (pStr a0.Name)))], [], [0, 1, 2, 3, 4, 5, 6], [17]⟩,
          ⟨[.op 5 0, .old 1], [(18, (pIf r4 (Kd.str.ptr a1.Name)))], [], [0, 1, 2, 3, 4, 5], [18]⟩,
          ⟨[.op 5 0, .op 8 0], [(19, (pIf r4 (pStr a1.Name)))], [], [0, 1, 2, 3, 4, 5, 8], [19]⟩,
          ⟨[.op 5 0, .op 7 0, .op 9 0], [(20, (pIf r4 (pBool (sLt a0.Name a1.Name))))], [], [0, 1, 2, 3, 4, 5, 6, 7, 8, 9], [20]⟩,
          ⟨[.op 5 0, .op 10 0], [(21, (pBool (r4 && (sLt a0.Name a1.Name))))], [], [0, 1, 2, 3, 4, 5, 6, 7, 8, 9, 10], [21]⟩,
          ⟨[.op 11 0], [(4, (pBool (r4 && (sLt a0.Name a1.Name))))], [], [0, 1, 2, 3, 4, 5, 6, 7, 8, 9, 10, 11], [4]⟩])
        (F := [.op 12 0]) (by kernel_rfl)
        (allOT_cons (OT.plain rfl (ob_fieldAddr fl_64_0 rfl rfl Opd.t0))
          (allOT_cons (OT.plain rfl (ob_load ty_35 rfl rfl Opd.t0))
          (allOT_cons (OT.plain rfl (ob_fieldAddr fl_64_0 rfl rfl Opd.t0))
          (allOT_cons (OT.plain rfl (ob_load ty_35 rfl rfl Opd.t0))
          (allOT_cons (OT.plain rfl (ob_call en_37 (moietyref01_Same_ok _ _ h5) rfl rfl (.cons Opd.t0 (.cons (Opd.tl Opd.t0) .nil))))
          (allOT_cons (OT.plain rfl (ob_move rfl rfl Opd.t0))
          (allOT_cons (OT.guard (outs := [(16, (Kd.str.ptr a0.Name))]) r4 (gT r4).1 (gT r4).2 rfl rfl (fun e he => by rw [List.mem_singleton.1 he]) (fun hG => ob_fieldAddr fl_64_1 rfl rfl Opd.t0))
          (allOT_cons (OT.guard (outs := [(17, (pStr a0.Name))]) r4 (gT r4).1 (gT r4).2 rfl rfl (fun e he => by rw [List.mem_singleton.1 he]) (fun hG => ob_load ty_9 rfl rfl (Opd.gd hG Opd.t0)))
          (allOT_cons (OT.guard (outs := [(18, (Kd.str.ptr a1.Name))]) r4 (gT r4).1 (gT r4).2 rfl rfl (fun e he => by rw [List.mem_singleton.1 he]) (fun hG => ob_fieldAddr fl_64_1 rfl rfl Opd.t0))
          (allOT_cons (OT.guard (outs := [(19, (pStr a1.Name))]) r4 (gT r4).1 (gT r4).2 rfl rfl (fun e he => by rw [List.mem_singleton.1 he]) (fun hG => ob_load ty_9 rfl rfl (Opd.gd hG Opd.t0)))
          (allOT_cons (OT.guard (outs := [(20, (pBool (sLt a0.Name a1.Name)))]) r4 (gT r4).1 (gT r4).2 rfl rfl (fun e he => by rw [List.mem_singleton.1 he]) (fun hG => ob_slt rfl rfl (Opd.gd hG Opd.t0) (Opd.gd hG (Opd.tl Opd.t0))))
          (allOT_cons (OT.plain rfl (ob_pick (q := (pBool (r4 && (sLt a0.Name a1.Name)))) rfl rfl Opd.t0 (fun hz => Opd.to (Opd.gd hz (Opd.tl Opd.t0)) (congrArg (fun t => (pBool t)) (pk_and_t hz))) (fun hz => Opd.to (Opd.c (bool_q _)) (congrArg (fun t => (pBool t)) (pk_and_f hz)))))
          (allOT_cons (OT.plain rfl (ob_assign rfl rfl Opd.t0))
          allOT_nil)))))))))))))
        (hst.pick [0, 1] rfl) hb (fun a g hst hb => ?_)
    refine then_n ?_
    refine wp_ret ?_
    obtain rfl := Option.some.inj H0
    exact endR1 rfl hst hb (res_tmp (s := 4)) (hst.at 0 rfl)
end Go.CL
