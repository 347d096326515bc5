/- A part of the proof of ShelfSame. -/
import Derived.Test.YtlphnpmegolfmaaShelfSameC3
set_option linter.unusedVariables false
set_option linter.unusedSimpArgs false
set_option maxRecDepth 100000
namespace Go.CL
open Go Go.RowKit Go.Proofs
theorem rec_Check_ok (a0 : api_Record) {r : Int} (h : rec_Check a0 = some r) : FnOk Try.prog 35 [(k_api_Record.pd a0)] (pInt .i64 r) := by
  have H0 := h
  unfold rec_Check at H0
  clear h
  refine fn_ok (N := 83) Try.func35 rfl rfl (Nat.le_of_ble_eq_true rfl) rfl rfl (fun a g0 hst hb => ?_)
  refine wp_seq ?_
  refine wp_reg follows (N := 83) (L := [(0, (k_api_Record.pd a0))])
      (T := [⟨[.old 0], [(1, (k_api_Record.ptr a0))], [], [], [1]⟩,
        ⟨[], [(2, (pInt .i64 (0 : Int)))], [], [], [2]⟩])
      (F := [.op 0 0]) (by kernel_rfl)
      (allOT_cons (OT.plain rfl (ob_box1 rfl rfl Opd.t0))
        (allOT_cons (OT.plain rfl (ob_assign rfl rfl (Opd.c (int_q _ _))))
        allOT_nil))
      hst hb (fun a g hst hb => ?_)
  refine then_n ?_
  refine wp_seq ?_
  obtain ⟨r1, h2, H0⟩ := of_bind H0
  refine wp_reg follows (N := 83) (L := [(1, (k_api_Record.ptr a0))])
      (T := [⟨[.old 0], [(4, ((Kd.int .i64).ptr a0.Kind))], [], [], [4]⟩,
        ⟨[.op 0 0], [(5, (pInt .i64 a0.Kind))], [], [0], [5]⟩,
        ⟨[.op 1 0], [(6, (k_rec_shape.pd r1))], [], [0, 1], [6]⟩,
        ⟨[], [(3, (pBox k_rec_shape 3 (default : rec_shape)))], [4], [], [3]⟩,
        ⟨[.op 2 0, .op 3 0], [(3, (k_rec_shape.ptr r1))], [4], [0, 1, 2, 3], [3]⟩])
      (F := [.old 0, .op 4 0]) (by kernel_rfl)
      (allOT_cons (OT.plain rfl (ob_fieldAddr fl_38_0 rfl rfl Opd.t0))
        (allOT_cons (OT.plain rfl (ob_load ty_3 rfl rfl Opd.t0))
        (allOT_cons (OT.plain rfl (ob_call en_47 (rec_shaped_ok _ h2) rfl rfl (.cons Opd.t0 .nil)))
        (allOT_cons (OT.plain rfl (ob_alloc (zs := [.bool false, .bool false, .bool false, .bool false, .bool false]) (by kernel_rfl) (fun g => zk_rec_shape g) rfl rfl))
        (allOT_cons (OT.plain rfl (ob_storeF ty_89 rfl rfl (Opd.tl Opd.t0) Opd.t0))
        allOT_nil)))))
      hst hb (fun a g hst hb => ?_)
  refine then_n ?_
  refine wp_seq ?_
  refine wp_block ?_
  refine wp_seq ?_
  refine wp_reg follows (N := 83) (L := [(1, (k_api_Record.ptr a0)), (3, (k_rec_shape.ptr r1))])
      (T := [⟨[.old 0], [(8, ((Kd.int .i64).ptr a0.Kind))], [], [], [8]⟩,
        ⟨[.op 0 0], [(9, (pInt .i64 a0.Kind))], [], [0], [9]⟩,
        ⟨[.op 1 0], [(10, (pBool (decide (a0.Kind ≤ (0 : Int)))))], [], [0, 1], [10]⟩,
        ⟨[.op 2 0], [(11, (pBool (decide (a0.Kind ≤ (0 : Int)))))], [], [0, 1, 2], [11]⟩,
        ⟨[.op 3 0, .old 0], [(12, (pIf (!(decide (a0.Kind ≤ (0 : Int)))) ((Kd.int .i64).ptr a0.Kind)))], [], [0, 1, 2, 3], [12]⟩,
        ⟨[.op 3 0, .op 4 0], [(13, (pIf (!(decide (a0.Kind ≤ (0 : Int)))) (pInt .i64 a0.Kind)))], [], [0, 1, 2, 3, 4], [13]⟩,
        ⟨[.op 3 0, .op 5 0], [(14, (pIf (!(decide (a0.Kind ≤ (0 : Int)))) (pBool (decide ((10 : Int) ≤ a0.Kind)))))], [], [0, 1, 2, 3, 4, 5], [14]⟩,
        ⟨[.op 3 0, .op 6 0], [(15, (pBool ((decide (a0.Kind ≤ (0 : Int))) || (decide ((10 : Int) ≤ a0.Kind)))))], [], [0, 1, 2, 3, 4, 5, 6], [15]⟩,
        ⟨[.op 7 0], [(7, (pBool ((decide (a0.Kind ≤ (0 : Int))) || (decide ((10 : Int) ≤ a0.Kind)))))], [], [0, 1, 2, 3, 4, 5, 6, 7], [7]⟩])
      (F := [.old 0, .old 1, .op 8 0]) (by kernel_rfl)
      (allOT_cons (OT.plain rfl (ob_fieldAddr fl_38_0 rfl rfl Opd.t0))
        (allOT_cons (OT.plain rfl (ob_load ty_3 rfl rfl Opd.t0))
        (allOT_cons (OT.plain rfl (ob_le rfl rfl Opd.t0 (Opd.c (int_q _ _))))
        (allOT_cons (OT.plain rfl (ob_move rfl rfl Opd.t0))
        (allOT_cons (OT.guard (outs := [(12, ((Kd.int .i64).ptr a0.Kind))]) (!(decide (a0.Kind ≤ (0 : Int)))) (gF (decide (a0.Kind ≤ (0 : Int)))).1 (gF (decide (a0.Kind ≤ (0 : Int)))).2 rfl rfl (fun e he => by rw [List.mem_singleton.1 he]) (fun hG => ob_fieldAddr fl_38_0 rfl rfl Opd.t0))
        (allOT_cons (OT.guard (outs := [(13, (pInt .i64 a0.Kind))]) (!(decide (a0.Kind ≤ (0 : Int)))) (gF (decide (a0.Kind ≤ (0 : Int)))).1 (gF (decide (a0.Kind ≤ (0 : Int)))).2 rfl rfl (fun e he => by rw [List.mem_singleton.1 he]) (fun hG => ob_load ty_3 rfl rfl (Opd.gd hG Opd.t0)))
        (allOT_cons (OT.guard (outs := [(14, (pBool (decide ((10 : Int) ≤ a0.Kind))))]) (!(decide (a0.Kind ≤ (0 : Int)))) (gF (decide (a0.Kind ≤ (0 : Int)))).1 (gF (decide (a0.Kind ≤ (0 : Int)))).2 rfl rfl (fun e he => by rw [List.mem_singleton.1 he]) (fun hG => ob_ge rfl rfl (Opd.gd hG Opd.t0) (Opd.c (int_q _ _))))
        (allOT_cons (OT.plain rfl (ob_pick (q := (pBool ((decide (a0.Kind ≤ (0 : Int))) || (decide ((10 : Int) ≤ a0.Kind))))) rfl rfl Opd.t0 (fun hz => Opd.to (Opd.c (bool_q _)) (congrArg (fun t => (pBool t)) (pk_or_t hz))) (fun hz => Opd.to (Opd.gd (bNF hz) (Opd.tl Opd.t0)) (congrArg (fun t => (pBool t)) (pk_or_f hz)))))
        (allOT_cons (OT.plain rfl (ob_assign rfl rfl Opd.t0))
        allOT_nil)))))))))
      hst hb (fun a g hst hb => ?_)
  refine then_n ?_
  refine wp_cond_split (hst.bool 2 rfl) (fun hc3 => ?_) (fun hc3 => ?_)
  · replace H0 := ite_t hc3 H0
    refine wp_seq ?_
    refine wp_reg follows (N := 83) (L := [])
        (T := [⟨[], [(2, (pInt .i64 (5 : Int)))], [], [], [2]⟩])
        (F := [.op 0 0]) (by kernel_rfl)
        (allOT_cons (OT.plain rfl (ob_assign rfl rfl (Opd.c (int_q _ _))))
          allOT_nil)
        (hst.pick [] rfl) hb (fun a g hst hb => ?_)
    refine then_n ?_
    refine wp_ret ?_
    refine inBlock_r ?_
    refine then_r ?_
    obtain rfl := Option.some.inj H0
    exact endR1 rfl hst hb (res_tmp (s := 2)) (hst.at 0 rfl)
  · replace H0 := ite_f hc3 H0
    refine wp_seq ?_
    obtain ⟨r4, h5, H0⟩ := of_bind H0
    refine wp_reg follows (N := 83) (L := [(1, (k_api_Record.ptr a0)), (3, (k_rec_shape.ptr r1))])
        (T := [⟨[.old 0], [(17, (k_api_Record.pd a0))], [], [], [17]⟩,
          ⟨[.old 1], [(18, (k_rec_shape.pd r1))], [], [], [18]⟩,
          ⟨[.op 0 0, .op 1 0], [(19, (pBool r4))], [], [0, 1], [19]⟩,
          ⟨[.op 2 0], [(20, (pBool (!r4)))], [], [0, 1, 2], [20]⟩,
          ⟨[.op 3 0], [(16, (pBool (!r4)))], [], [0, 1, 2, 3], [16]⟩])
        (F := [.old 0, .old 1, .op 4 0]) (by kernel_rfl)
        (allOT_cons (OT.plain rfl (ob_load ty_38 rfl rfl Opd.t0))
          (allOT_cons (OT.plain rfl (ob_load ty_89 rfl rfl Opd.t0))
          (allOT_cons (OT.plain rfl (ob_call en_48 (rec_bare_ok _ _ h5) rfl rfl (.cons Opd.t0 (.cons (Opd.tl Opd.t0) .nil))))
          (allOT_cons (OT.plain rfl (ob_not rfl rfl Opd.t0))
          (allOT_cons (OT.plain rfl (ob_assign rfl rfl Opd.t0))
          allOT_nil)))))
        (hst.pick [0, 1] rfl) hb (fun a g hst hb => ?_)
    refine then_n ?_
    refine wp_cond_split (hst.bool 2 rfl) (fun hc6 => ?_) (fun hc6 => ?_)
    · replace H0 := ite_t hc6 H0
      refine wp_seq ?_
      refine wp_reg follows (N := 83) (L := [])
          (T := [⟨[], [(2, (pInt .i64 (4 : Int)))], [], [], [2]⟩])
          (F := [.op 0 0]) (by kernel_rfl)
          (allOT_cons (OT.plain rfl (ob_assign rfl rfl (Opd.c (int_q _ _))))
            allOT_nil)
          (hst.pick [] rfl) hb (fun a g hst hb => ?_)
      refine then_n ?_
      refine wp_ret ?_
      refine inBlock_r ?_
      refine then_r ?_
      obtain rfl := Option.some.inj H0
      exact endR1 rfl hst hb (res_tmp (s := 2)) (hst.at 0 rfl)
    · replace H0 := ite_f hc6 H0
      refine wp_seq ?_
      refine wp_reg follows (N := 83) (L := [(1, (k_api_Record.ptr a0)), (3, (k_rec_shape.ptr r1))])
          (T := [⟨[.old 0], [(22, (Kd.str.ptr a0.Text))], [], [], [22]⟩,
            ⟨[.op 0 0], [(23, (pStr a0.Text))], [], [0], [23]⟩,
            ⟨[.op 1 0], [(24, (pInt .i64 (a0.Text.size : Int)))], [], [0, 1], [24]⟩,
            ⟨[.op 2 0], [(25, (pBool (decide ((64 : Int) < (a0.Text.size : Int)))))], [], [0, 1, 2], [25]⟩,
            ⟨[.op 3 0], [(21, (pBool (decide ((64 : Int) < (a0.Text.size : Int)))))], [], [0, 1, 2, 3], [21]⟩])
          (F := [.old 0, .old 1, .op 4 0]) (by kernel_rfl)
          (allOT_cons (OT.plain rfl (ob_fieldAddr fl_38_6 rfl rfl Opd.t0))
            (allOT_cons (OT.plain rfl (ob_load ty_9 rfl rfl Opd.t0))
            (allOT_cons (OT.plain rfl (ob_lenS Try.underlying9 rfl rfl Opd.t0))
            (allOT_cons (OT.plain rfl (ob_gt rfl rfl Opd.t0 (Opd.c (int_q _ _))))
            (allOT_cons (OT.plain rfl (ob_assign rfl rfl Opd.t0))
            allOT_nil)))))
          (hst.pick [0, 1] rfl) hb (fun a g hst hb => ?_)
      refine then_n ?_
      refine wp_cond_split (hst.bool 2 rfl) (fun hc7 => ?_) (fun hc7 => ?_)
      · replace H0 := ite_t hc7 H0
        refine wp_seq ?_
        refine wp_reg follows (N := 83) (L := [])
            (T := [⟨[], [(2, (pInt .i64 (3 : Int)))], [], [], [2]⟩])
            (F := [.op 0 0]) (by kernel_rfl)
            (allOT_cons (OT.plain rfl (ob_assign rfl rfl (Opd.c (int_q _ _))))
              allOT_nil)
            (hst.pick [] rfl) hb (fun a g hst hb => ?_)
        refine then_n ?_
        refine wp_ret ?_
        refine inBlock_r ?_
        refine then_r ?_
        obtain rfl := Option.some.inj H0
        exact endR1 rfl hst hb (res_tmp (s := 2)) (hst.at 0 rfl)
      · replace H0 := ite_f hc7 H0
        refine wp_seq ?_
        refine wp_reg follows (N := 83) (L := [(1, (k_api_Record.ptr a0)), (3, (k_rec_shape.ptr r1))])
            (T := [⟨[.old 1], [(27, (Kd.bool.ptr r1.bounds))], [], [], [27]⟩,
              ⟨[.op 0 0], [(28, (pBool r1.bounds))], [], [0], [28]⟩,
              ⟨[.op 1 0], [(29, (pBool r1.bounds))], [], [0, 1], [29]⟩,
              ⟨[.op 2 0, .old 0], [(30, (pIf r1.bounds ((Kd.int .i64).ptr a0.Low)))], [], [0, 1, 2], [30]⟩,
              ⟨[.op 2 0, .op 3 0], [(31, (pIf r1.bounds (pInt .i64 a0.Low)))], [], [0, 1, 2, 3], [31]⟩,
              ⟨[.op 2 0, .op 4 0], [(32, (pIf r1.bounds (pBool (decide (a0.Low < (-2305843009213693952 : Int))))))], [], [0, 1, 2, 3, 4], [32]⟩,
              ⟨[.op 2 0, .op 5 0], [(33, (pIf r1.bounds (pBool (decide (a0.Low < (-2305843009213693952 : Int))))))], [], [0, 1, 2, 3, 4, 5], [33]⟩,
              ⟨[.op 6 0, .old 0], [(34, (pIf (r1.bounds && (!(decide (a0.Low < (-2305843009213693952 : Int))))) ((Kd.int .i64).ptr a0.High)))], [], [0, 1, 2, 3, 4, 5, 6], [34]⟩,
              ⟨[.op 6 0, .op 7 0], [(35, (pIf (r1.bounds && (!(decide (a0.Low < (-2305843009213693952 : Int))))) (pInt .i64 a0.High)))], [], [0, 1, 2, 3, 4, 5, 6, 7], [35]⟩,
              ⟨[.op 6 0, .op 8 0], [(36, (pIf (r1.bounds && (!(decide (a0.Low < (-2305843009213693952 : Int))))) (pBool (decide ((2305843009213693952 : Int) < a0.High)))))], [], [0, 1, 2, 3, 4, 5, 6, 7, 8], [36]⟩,
              ⟨[.op 2 0, .op 6 0, .op 9 0], [(37, (pIf r1.bounds (pBool ((decide (a0.Low < (-2305843009213693952 : Int))) || (decide ((2305843009213693952 : Int) < a0.High))))))], [], [0, 1, 2, 3, 4, 5, 6, 7, 8, 9], [37]⟩,
              ⟨[.op 2 0, .op 10 0], [(38, (pIf r1.bounds (pBool ((decide (a0.Low < (-2305843009213693952 : Int))) || (decide ((2305843009213693952 : Int) < a0.High))))))], [], [0, 1, 2, 3, 4, 5, 6, 7, 8, 9, 10], [38]⟩,
              ⟨[.op 11 0, .old 0], [(39, (pIf (r1.bounds && (!((decide (a0.Low < (-2305843009213693952 : Int))) || (decide ((2305843009213693952 : Int) < a0.High))))) ((Kd.int .i64).ptr a0.Num)))], [], [0, 1, 2, 3, 4, 5, 6, 7, 8, 9, 10, 11], [39]⟩,
              ⟨[.op 11 0, .op 12 0], [(40, (pIf (r1.bounds && (!((decide (a0.Low < (-2305843009213693952 : Int))) || (decide ((2305843009213693952 : Int) < a0.High))))) (pInt .i64 a0.Num)))], [], [0, 1, 2, 3, 4, 5, 6, 7, 8, 9, 10, 11, 12], [40]⟩,
              ⟨[.op 11 0, .old 0], [(41, (pIf (r1.bounds && (!((decide (a0.Low < (-2305843009213693952 : Int))) || (decide ((2305843009213693952 : Int) < a0.High))))) ((Kd.int .i64).ptr a0.Low)))], [], [0, 1, 2, 3, 4, 5, 6, 7, 8, 9, 10, 11], [41]⟩,
              ⟨[.op 11 0, .op 14 0], [(42, (pIf (r1.bounds && (!((decide (a0.Low < (-2305843009213693952 : Int))) || (decide ((2305843009213693952 : Int) < a0.High))))) (pInt .i64 a0.Low)))], [], [0, 1, 2, 3, 4, 5, 6, 7, 8, 9, 10, 11, 14], [42]⟩,
              ⟨[.op 11 0, .op 13 0, .op 15 0], [(43, (pIf (r1.bounds && (!((decide (a0.Low < (-2305843009213693952 : Int))) || (decide ((2305843009213693952 : Int) < a0.High))))) (pBool (decide (a0.Num < a0.Low)))))], [], [0, 1, 2, 3, 4, 5, 6, 7, 8, 9, 10, 11, 12, 13, 14, 15], [43]⟩,
              ⟨[.op 2 0, .op 11 0, .op 16 0], [(44, (pIf r1.bounds (pBool (((decide (a0.Low < (-2305843009213693952 : Int))) || (decide ((2305843009213693952 : Int) < a0.High))) || (decide (a0.Num < a0.Low))))))], [], [0, 1, 2, 3, 4, 5, 6, 7, 8, 9, 10, 11, 12, 13, 14, 15, 16], [44]⟩,
              ⟨[.op 2 0, .op 17 0], [(45, (pIf r1.bounds (pBool (((decide (a0.Low < (-2305843009213693952 : Int))) || (decide ((2305843009213693952 : Int) < a0.High))) || (decide (a0.Num < a0.Low))))))], [], [0, 1, 2, 3, 4, 5, 6, 7, 8, 9, 10, 11, 12, 13, 14, 15, 16, 17], [45]⟩,
              ⟨[.op 18 0, .old 0], [(46, (pIf (r1.bounds && (!(((decide (a0.Low < (-2305843009213693952 : Int))) || (decide ((2305843009213693952 : Int) < a0.High))) || (decide (a0.Num < a0.Low))))) ((Kd.int .i64).ptr a0.Num)))], [], [0, 1, 2, 3, 4, 5, 6, 7, 8, 9, 10, 11, 12, 13, 14, 15, 16, 17, 18], [46]⟩,
              ⟨[.op 18 0, .op 19 0], [(47, (pIf (r1.bounds && (!(((decide (a0.Low < (-2305843009213693952 : Int))) || (decide ((2305843009213693952 : Int) < a0.High))) || (decide (a0.Num < a0.Low))))) (pInt .i64 a0.Num)))], [], [0, 1, 2, 3, 4, 5, 6, 7, 8, 9, 10, 11, 12, 13, 14, 15, 16, 17, 18, 19], [47]⟩,
              ⟨[.op 18 0, .old 0], [(48, (pIf (r1.bounds && (!(((decide (a0.Low < (-2305843009213693952 : Int))) || (decide ((2305843009213693952 : Int) < a0.High))) || (decide (a0.Num < a0.Low))))) ((Kd.int .i64).ptr a0.High)))], [], [0, 1, 2, 3, 4, 5, 6, 7, 8, 9, 10, 11, 12, 13, 14, 15, 16, 17, 18], [48]⟩,
              ⟨[.op 18 0, .op 21 0], [(49, (pIf (r1.bounds && (!(((decide (a0.Low < (-2305843009213693952 : Int))) || (decide ((2305843009213693952 : Int) < a0.High))) || (decide (a0.Num < a0.Low))))) (pInt .i64 a0.High)))], [], [0, 1, 2, 3, 4, 5, 6, 7, 8, 9, 10, 11, 12, 13, 14, 15, 16, 17, 18, 21], [49]⟩,
              ⟨[.op 18 0, .op 20 0, .op 22 0], [(50, (pIf (r1.bounds && (!(((decide (a0.Low < (-2305843009213693952 : Int))) || (decide ((2305843009213693952 : Int) < a0.High))) || (decide (a0.Num < a0.Low))))) (pBool (decide (a0.High < a0.Num)))))], [], [0, 1, 2, 3, 4, 5, 6, 7, 8, 9, 10, 11, 12, 13, 14, 15, 16, 17, 18, 19, 20, 21, 22], [50]⟩,
              ⟨[.op 2 0, .op 18 0, .op 23 0], [(51, (pIf r1.bounds (pBool ((((decide (a0.Low < (-2305843009213693952 : Int))) || (decide ((2305843009213693952 : Int) < a0.High))) || (decide (a0.Num < a0.Low))) || (decide (a0.High < a0.Num))))))], [], [0, 1, 2, 3, 4, 5, 6, 7, 8, 9, 10, 11, 12, 13, 14, 15, 16, 17, 18, 19, 20, 21, 22, 23], [51]⟩,
              ⟨[.op 2 0, .op 24 0], [(52, (pBool (r1.bounds && ((((decide (a0.Low < (-2305843009213693952 : Int))) || (decide ((2305843009213693952 : Int) < a0.High))) || (decide (a0.Num < a0.Low))) || (decide (a0.High < a0.Num))))))], [], [0, 1, 2, 3, 4, 5, 6, 7, 8, 9, 10, 11, 12, 13, 14, 15, 16, 17, 18, 19, 20, 21, 22, 23, 24], [52]⟩,
              ⟨[.op 25 0], [(26, (pBool (r1.bounds && ((((decide (a0.Low < (-2305843009213693952 : Int))) || (decide ((2305843009213693952 : Int) < a0.High))) || (decide (a0.Num < a0.Low))) || (decide (a0.High < a0.Num))))))], [], [0, 1, 2, 3, 4, 5, 6, 7, 8, 9, 10, 11, 12, 13, 14, 15, 16, 17, 18, 19, 20, 21, 22, 23, 24, 25], [26]⟩])
            (F := [.old 0, .old 1, .op 26 0]) (by kernel_rfl)
            (allOT_cons (OT.plain rfl (ob_fieldAddr fl_89_2 rfl rfl Opd.t0))
              (allOT_cons (OT.plain rfl (ob_load ty_4 rfl rfl Opd.t0))
              (allOT_cons (OT.plain rfl (ob_move rfl rfl Opd.t0))
              (allOT_cons (OT.guard (outs := [(30, ((Kd.int .i64).ptr a0.Low))]) r1.bounds (gT r1.bounds).1 (gT r1.bounds).2 rfl rfl (fun e he => by rw [List.mem_singleton.1 he]) (fun hG => ob_fieldAddr fl_38_2 rfl rfl Opd.t0))
              (allOT_cons (OT.guard (outs := [(31, (pInt .i64 a0.Low))]) r1.bounds (gT r1.bounds).1 (gT r1.bounds).2 rfl rfl (fun e he => by rw [List.mem_singleton.1 he]) (fun hG => ob_load ty_2 rfl rfl (Opd.gd hG Opd.t0)))
              (allOT_cons (OT.guard (outs := [(32, (pBool (decide (a0.Low < (-2305843009213693952 : Int)))))]) r1.bounds (gT r1.bounds).1 (gT r1.bounds).2 rfl rfl (fun e he => by rw [List.mem_singleton.1 he]) (fun hG => ob_lt rfl rfl (Opd.gd hG Opd.t0) (Opd.c (int_q _ _))))
              (allOT_cons (OT.guard (outs := [(33, (pBool (decide (a0.Low < (-2305843009213693952 : Int)))))]) r1.bounds (gT r1.bounds).1 (gT r1.bounds).2 rfl rfl (fun e he => by rw [List.mem_singleton.1 he]) (fun hG => ob_move rfl rfl (Opd.gd hG Opd.t0)))
              (allOT_cons (OT.guard (outs := [(34, ((Kd.int .i64).ptr a0.High))]) (r1.bounds && (!(decide (a0.Low < (-2305843009213693952 : Int))))) (giF r1.bounds (decide (a0.Low < (-2305843009213693952 : Int)))).1 (giF r1.bounds (decide (a0.Low < (-2305843009213693952 : Int)))).2 rfl rfl (fun e he => by rw [List.mem_singleton.1 he]) (fun hG => ob_fieldAddr fl_38_3 rfl rfl Opd.t0))
              (allOT_cons (OT.guard (outs := [(35, (pInt .i64 a0.High))]) (r1.bounds && (!(decide (a0.Low < (-2305843009213693952 : Int))))) (giF r1.bounds (decide (a0.Low < (-2305843009213693952 : Int)))).1 (giF r1.bounds (decide (a0.Low < (-2305843009213693952 : Int)))).2 rfl rfl (fun e he => by rw [List.mem_singleton.1 he]) (fun hG => ob_load ty_2 rfl rfl (Opd.gd hG Opd.t0)))
              (allOT_cons (OT.guard (outs := [(36, (pBool (decide ((2305843009213693952 : Int) < a0.High))))]) (r1.bounds && (!(decide (a0.Low < (-2305843009213693952 : Int))))) (giF r1.bounds (decide (a0.Low < (-2305843009213693952 : Int)))).1 (giF r1.bounds (decide (a0.Low < (-2305843009213693952 : Int)))).2 rfl rfl (fun e he => by rw [List.mem_singleton.1 he]) (fun hG => ob_gt rfl rfl (Opd.gd hG Opd.t0) (Opd.c (int_q _ _))))
              (allOT_cons (OT.guard (outs := [(37, (pBool ((decide (a0.Low < (-2305843009213693952 : Int))) || (decide ((2305843009213693952 : Int) < a0.High)))))]) r1.bounds (gT r1.bounds).1 (gT r1.bounds).2 rfl rfl (fun e he => by rw [List.mem_singleton.1 he]) (fun hG => ob_pick (q := (pBool ((decide (a0.Low < (-2305843009213693952 : Int))) || (decide ((2305843009213693952 : Int) < a0.High))))) rfl rfl (Opd.gd hG Opd.t0) (fun hz => Opd.to (Opd.c (bool_q _)) (congrArg (fun t => (pBool t)) (pk_or_t hz))) (fun hz => Opd.to (Opd.gd (bA hG (bNF hz)) (Opd.tl Opd.t0)) (congrArg (fun t => (pBool t)) (pk_or_f hz)))))
              (allOT_cons (OT.guard (outs := [(38, (pBool ((decide (a0.Low < (-2305843009213693952 : Int))) || (decide ((2305843009213693952 : Int) < a0.High)))))]) r1.bounds (gT r1.bounds).1 (gT r1.bounds).2 rfl rfl (fun e he => by rw [List.mem_singleton.1 he]) (fun hG => ob_move rfl rfl (Opd.gd hG Opd.t0)))
              (allOT_cons (OT.guard (outs := [(39, ((Kd.int .i64).ptr a0.Num))]) (r1.bounds && (!((decide (a0.Low < (-2305843009213693952 : Int))) || (decide ((2305843009213693952 : Int) < a0.High))))) (giF r1.bounds ((decide (a0.Low < (-2305843009213693952 : Int))) || (decide ((2305843009213693952 : Int) < a0.High)))).1 (giF r1.bounds ((decide (a0.Low < (-2305843009213693952 : Int))) || (decide ((2305843009213693952 : Int) < a0.High)))).2 rfl rfl (fun e he => by rw [List.mem_singleton.1 he]) (fun hG => ob_fieldAddr fl_38_1 rfl rfl Opd.t0))
              (allOT_cons (OT.guard (outs := [(40, (pInt .i64 a0.Num))]) (r1.bounds && (!((decide (a0.Low < (-2305843009213693952 : Int))) || (decide ((2305843009213693952 : Int) < a0.High))))) (giF r1.bounds ((decide (a0.Low < (-2305843009213693952 : Int))) || (decide ((2305843009213693952 : Int) < a0.High)))).1 (giF r1.bounds ((decide (a0.Low < (-2305843009213693952 : Int))) || (decide ((2305843009213693952 : Int) < a0.High)))).2 rfl rfl (fun e he => by rw [List.mem_singleton.1 he]) (fun hG => ob_load ty_2 rfl rfl (Opd.gd hG Opd.t0)))
              (allOT_cons (OT.guard (outs := [(41, ((Kd.int .i64).ptr a0.Low))]) (r1.bounds && (!((decide (a0.Low < (-2305843009213693952 : Int))) || (decide ((2305843009213693952 : Int) < a0.High))))) (giF r1.bounds ((decide (a0.Low < (-2305843009213693952 : Int))) || (decide ((2305843009213693952 : Int) < a0.High)))).1 (giF r1.bounds ((decide (a0.Low < (-2305843009213693952 : Int))) || (decide ((2305843009213693952 : Int) < a0.High)))).2 rfl rfl (fun e he => by rw [List.mem_singleton.1 he]) (fun hG => ob_fieldAddr fl_38_2 rfl rfl Opd.t0))
              (allOT_cons (OT.guard (outs := [(42, (pInt .i64 a0.Low))]) (r1.bounds && (!((decide (a0.Low < (-2305843009213693952 : Int))) || (decide ((2305843009213693952 : Int) < a0.High))))) (giF r1.bounds ((decide (a0.Low < (-2305843009213693952 : Int))) || (decide ((2305843009213693952 : Int) < a0.High)))).1 (giF r1.bounds ((decide (a0.Low < (-2305843009213693952 : Int))) || (decide ((2305843009213693952 : Int) < a0.High)))).2 rfl rfl (fun e he => by rw [List.mem_singleton.1 he]) (fun hG => ob_load ty_2 rfl rfl (Opd.gd hG Opd.t0)))
              (allOT_cons (OT.guard (outs := [(43, (pBool (decide (a0.Num < a0.Low))))]) (r1.bounds && (!((decide (a0.Low < (-2305843009213693952 : Int))) || (decide ((2305843009213693952 : Int) < a0.High))))) (giF r1.bounds ((decide (a0.Low < (-2305843009213693952 : Int))) || (decide ((2305843009213693952 : Int) < a0.High)))).1 (giF r1.bounds ((decide (a0.Low < (-2305843009213693952 : Int))) || (decide ((2305843009213693952 : Int) < a0.High)))).2 rfl rfl (fun e he => by rw [List.mem_singleton.1 he]) (fun hG => ob_lt rfl rfl (Opd.gd hG Opd.t0) (Opd.gd hG (Opd.tl Opd.t0))))
              (allOT_cons (OT.guard (outs := [(44, (pBool (((decide (a0.Low < (-2305843009213693952 : Int))) || (decide ((2305843009213693952 : Int) < a0.High))) || (decide (a0.Num < a0.Low)))))]) r1.bounds (gT r1.bounds).1 (gT r1.bounds).2 rfl rfl (fun e he => by rw [List.mem_singleton.1 he]) (fun hG => ob_pick (q := (pBool (((decide (a0.Low < (-2305843009213693952 : Int))) || (decide ((2305843009213693952 : Int) < a0.High))) || (decide (a0.Num < a0.Low))))) rfl rfl (Opd.gd hG Opd.t0) (fun hz => Opd.to (Opd.c (bool_q _)) (congrArg (fun t => (pBool t)) (pk_or_t hz))) (fun hz => Opd.to (Opd.gd (bA hG (bNF hz)) (Opd.tl Opd.t0)) (congrArg (fun t => (pBool t)) (pk_or_f hz)))))
              (allOT_cons (OT.guard (outs := [(45, (pBool (((decide (a0.Low < (-2305843009213693952 : Int))) || (decide ((2305843009213693952 : Int) < a0.High))) || (decide (a0.Num < a0.Low)))))]) r1.bounds (gT r1.bounds).1 (gT r1.bounds).2 rfl rfl (fun e he => by rw [List.mem_singleton.1 he]) (fun hG => ob_move rfl rfl (Opd.gd hG Opd.t0)))
              (allOT_cons (OT.guard (outs := [(46, ((Kd.int .i64).ptr a0.Num))]) (r1.bounds && (!(((decide (a0.Low < (-2305843009213693952 : Int))) || (decide ((2305843009213693952 : Int) < a0.High))) || (decide (a0.Num < a0.Low))))) (giF r1.bounds (((decide (a0.Low < (-2305843009213693952 : Int))) || (decide ((2305843009213693952 : Int) < a0.High))) || (decide (a0.Num < a0.Low)))).1 (giF r1.bounds (((decide (a0.Low < (-2305843009213693952 : Int))) || (decide ((2305843009213693952 : Int) < a0.High))) || (decide (a0.Num < a0.Low)))).2 rfl rfl (fun e he => by rw [List.mem_singleton.1 he]) (fun hG => ob_fieldAddr fl_38_1 rfl rfl Opd.t0))
              (allOT_cons (OT.guard (outs := [(47, (pInt .i64 a0.Num))]) (r1.bounds && (!(((decide (a0.Low < (-2305843009213693952 : Int))) || (decide ((2305843009213693952 : Int) < a0.High))) || (decide (a0.Num < a0.Low))))) (giF r1.bounds (((decide (a0.Low < (-2305843009213693952 : Int))) || (decide ((2305843009213693952 : Int) < a0.High))) || (decide (a0.Num < a0.Low)))).1 (giF r1.bounds (((decide (a0.Low < (-2305843009213693952 : Int))) || (decide ((2305843009213693952 : Int) < a0.High))) || (decide (a0.Num < a0.Low)))).2 rfl rfl (fun e he => by rw [List.mem_singleton.1 he]) (fun hG => ob_load ty_2 rfl rfl (Opd.gd hG Opd.t0)))
              (allOT_cons (OT.guard (outs := [(48, ((Kd.int .i64).ptr a0.High))]) (r1.bounds && (!(((decide (a0.Low < (-2305843009213693952 : Int))) || (decide ((2305843009213693952 : Int) < a0.High))) || (decide (a0.Num < a0.Low))))) (giF r1.bounds (((decide (a0.Low < (-2305843009213693952 : Int))) || (decide ((2305843009213693952 : Int) < a0.High))) || (decide (a0.Num < a0.Low)))).1 (giF r1.bounds (((decide (a0.Low < (-2305843009213693952 : Int))) || (decide ((2305843009213693952 : Int) < a0.High))) || (decide (a0.Num < a0.Low)))).2 rfl rfl (fun e he => by rw [List.mem_singleton.1 he]) (fun hG => ob_fieldAddr fl_38_3 rfl rfl Opd.t0))
              (allOT_cons (OT.guard (outs := [(49, (pInt .i64 a0.High))]) (r1.bounds && (!(((decide (a0.Low < (-2305843009213693952 : Int))) || (decide ((2305843009213693952 : Int) < a0.High))) || (decide (a0.Num < a0.Low))))) (giF r1.bounds (((decide (a0.Low < (-2305843009213693952 : Int))) || (decide ((2305843009213693952 : Int) < a0.High))) || (decide (a0.Num < a0.Low)))).1 (giF r1.bounds (((decide (a0.Low < (-2305843009213693952 : Int))) || (decide ((2305843009213693952 : Int) < a0.High))) || (decide (a0.Num < a0.Low)))).2 rfl rfl (fun e he => by rw [List.mem_singleton.1 he]) (fun hG => ob_load ty_2 rfl rfl (Opd.gd hG Opd.t0)))
              (allOT_cons (OT.guard (outs := [(50, (pBool (decide (a0.High < a0.Num))))]) (r1.bounds && (!(((decide (a0.Low < (-2305843009213693952 : Int))) || (decide ((2305843009213693952 : Int) < a0.High))) || (decide (a0.Num < a0.Low))))) (giF r1.bounds (((decide (a0.Low < (-2305843009213693952 : Int))) || (decide ((2305843009213693952 : Int) < a0.High))) || (decide (a0.Num < a0.Low)))).1 (giF r1.bounds (((decide (a0.Low < (-2305843009213693952 : Int))) || (decide ((2305843009213693952 : Int) < a0.High))) || (decide (a0.Num < a0.Low)))).2 rfl rfl (fun e he => by rw [List.mem_singleton.1 he]) (fun hG => ob_gt rfl rfl (Opd.gd hG Opd.t0) (Opd.gd hG (Opd.tl Opd.t0))))
              (allOT_cons (OT.guard (outs := [(51, (pBool ((((decide (a0.Low < (-2305843009213693952 : Int))) || (decide ((2305843009213693952 : Int) < a0.High))) || (decide (a0.Num < a0.Low))) || (decide (a0.High < a0.Num)))))]) r1.bounds (gT r1.bounds).1 (gT r1.bounds).2 rfl rfl (fun e he => by rw [List.mem_singleton.1 he]) (fun hG => ob_pick (q := (pBool ((((decide (a0.Low < (-2305843009213693952 : Int))) || (decide ((2305843009213693952 : Int) < a0.High))) || (decide (a0.Num < a0.Low))) || (decide (a0.High < a0.Num))))) rfl rfl (Opd.gd hG Opd.t0) (fun hz => Opd.to (Opd.c (bool_q _)) (congrArg (fun t => (pBool t)) (pk_or_t hz))) (fun hz => Opd.to (Opd.gd (bA hG (bNF hz)) (Opd.tl Opd.t0)) (congrArg (fun t => (pBool t)) (pk_or_f hz)))))
              (allOT_cons (OT.plain rfl (ob_pick (q := (pBool (r1.bounds && ((((decide (a0.Low < (-2305843009213693952 : Int))) || (decide ((2305843009213693952 : Int) < a0.High))) || (decide (a0.Num < a0.Low))) || (decide (a0.High < a0.Num)))))) rfl rfl Opd.t0 (fun hz => Opd.to (Opd.gd hz (Opd.tl Opd.t0)) (congrArg (fun t => (pBool t)) (pk_and_t hz))) (fun hz => Opd.to (Opd.c (bool_q _)) (congrArg (fun t => (pBool t)) (pk_and_f hz)))))
              (allOT_cons (OT.plain rfl (ob_assign rfl rfl Opd.t0))
              allOT_nil)))))))))))))))))))))))))))
            (hst.pick [0, 1] rfl) hb (fun a g hst hb => ?_)
        refine then_n ?_
        refine wp_cond_split (hst.bool 2 rfl) (fun hc8 => ?_) (fun hc8 => ?_)
        · replace H0 := ite_t hc8 H0
          refine wp_seq ?_
          refine wp_reg follows (N := 83) (L := [])
              (T := [⟨[], [(2, (pInt .i64 (1 : Int)))], [], [], [2]⟩])
              (F := [.op 0 0]) (by kernel_rfl)
              (allOT_cons (OT.plain rfl (ob_assign rfl rfl (Opd.c (int_q _ _))))
                allOT_nil)
              (hst.pick [] rfl) hb (fun a g hst hb => ?_)
          refine then_n ?_
          refine wp_ret ?_
          refine inBlock_r ?_
          refine then_r ?_
          obtain rfl := Option.some.inj H0
          exact endR1 rfl hst hb (res_tmp (s := 2)) (hst.at 0 rfl)
        · replace H0 := ite_f hc8 H0
          refine wp_seq ?_
          obtain ⟨r9, h10, H0⟩ := of_bind H0
          refine wp_reg follows (N := 83) (L := [(1, (k_api_Record.ptr a0)), (3, (k_rec_shape.ptr r1))])
              (T := [⟨[.old 0], [(54, (Kd.flt.ptr a0.Real))], [], [], [54]⟩,
                ⟨[.op 0 0], [(55, (pFlt a0.Real))], [], [0], [55]⟩,
                ⟨[.op 1 0], [(56, (pBool r9))], [], [0, 1], [56]⟩,
                ⟨[.op 2 0], [(57, (pBool (!r9)))], [], [0, 1, 2], [57]⟩,
                ⟨[.op 3 0], [(53, (pBool (!r9)))], [], [0, 1, 2, 3], [53]⟩])
              (F := [.old 0, .old 1, .op 4 0]) (by kernel_rfl)
              (allOT_cons (OT.plain rfl (ob_fieldAddr fl_38_4 rfl rfl Opd.t0))
                (allOT_cons (OT.plain rfl (ob_load ty_35 rfl rfl Opd.t0))
                (allOT_cons (OT.plain rfl (ob_call en_49 (flo_Proper_ok _ h10) rfl rfl (.cons Opd.t0 .nil)))
                (allOT_cons (OT.plain rfl (ob_not rfl rfl Opd.t0))
                (allOT_cons (OT.plain rfl (ob_assign rfl rfl Opd.t0))
                allOT_nil)))))
              (hst.pick [0, 1] rfl) hb (fun a g hst hb => ?_)
          refine then_n ?_
          refine wp_cond_split (hst.bool 2 rfl) (fun hc11 => ?_) (fun hc11 => ?_)
          · replace H0 := ite_t hc11 H0
            refine wp_seq ?_
            refine wp_reg follows (N := 83) (L := [])
                (T := [⟨[], [(2, (pInt .i64 (4 : Int)))], [], [], [2]⟩])
                (F := [.op 0 0]) (by kernel_rfl)
                (allOT_cons (OT.plain rfl (ob_assign rfl rfl (Opd.c (int_q _ _))))
                  allOT_nil)
                (hst.pick [] rfl) hb (fun a g hst hb => ?_)
            refine then_n ?_
            refine wp_ret ?_
            refine inBlock_r ?_
            refine then_r ?_
            obtain rfl := Option.some.inj H0
            exact endR1 rfl hst hb (res_tmp (s := 2)) (hst.at 0 rfl)
          · replace H0 := ite_f hc11 H0
            refine wp_seq ?_
            refine wp_reg follows (N := 83) (L := [(1, (k_api_Record.ptr a0)), (3, (k_rec_shape.ptr r1))])
                (T := [⟨[.old 1], [(59, (Kd.bool.ptr r1.list))], [], [], [59]⟩,
                  ⟨[.op 0 0], [(60, (pBool r1.list))], [], [0], [60]⟩,
                  ⟨[.op 1 0], [(61, (pBool (!r1.list)))], [], [0, 1], [61]⟩,
                  ⟨[.op 2 0], [(58, (pBool (!r1.list)))], [], [0, 1, 2], [58]⟩])
                (F := [.old 0, .op 3 0]) (by kernel_rfl)
                (allOT_cons (OT.plain rfl (ob_fieldAddr fl_89_4 rfl rfl Opd.t0))
                  (allOT_cons (OT.plain rfl (ob_load ty_4 rfl rfl Opd.t0))
                  (allOT_cons (OT.plain rfl (ob_not rfl rfl Opd.t0))
                  (allOT_cons (OT.plain rfl (ob_assign rfl rfl Opd.t0))
                  allOT_nil))))
                (hst.pick [0, 1] rfl) hb (fun a g hst hb => ?_)
            refine then_n ?_
            refine wp_cond_split (hst.bool 1 rfl) (fun hc12 => ?_) (fun hc12 => ?_)
            · replace H0 := ite_t hc12 H0
              refine wp_seq ?_
              refine wp_reg follows (N := 83) (L := [])
                  (T := [⟨[], [(2, (pInt .i64 (0 : Int)))], [], [], [2]⟩])
                  (F := [.op 0 0]) (by kernel_rfl)
                  (allOT_cons (OT.plain rfl (ob_assign rfl rfl (Opd.c (int_q _ _))))
                    allOT_nil)
                  (hst.pick [] rfl) hb (fun a g hst hb => ?_)
              refine then_n ?_
              refine wp_ret ?_
              refine inBlock_r ?_
              refine then_r ?_
              obtain rfl := Option.some.inj H0
              exact endR1 rfl hst hb (res_tmp (s := 2)) (hst.at 0 rfl)
            · replace H0 := ite_f hc12 H0
              refine wp_seq ?_
              refine wp_reg follows (N := 83) (L := [(1, (k_api_Record.ptr a0))])
                  (T := [⟨[.old 0], [(63, ((Kd.int .i64).ptr a0.Cap))], [], [], [63]⟩,
                    ⟨[.op 0 0], [(64, (pInt .i64 a0.Cap))], [], [0], [64]⟩,
                    ⟨[.op 1 0], [(65, (pBool (decide (a0.Cap < (1 : Int)))))], [], [0, 1], [65]⟩,
                    ⟨[.op 2 0], [(66, (pBool (decide (a0.Cap < (1 : Int)))))], [], [0, 1, 2], [66]⟩,
                    ⟨[.op 3 0, .old 0], [(67, (pIf (!(decide (a0.Cap < (1 : Int)))) ((Kd.int .i64).ptr a0.Cap)))], [], [0, 1, 2, 3], [67]⟩,
                    ⟨[.op 3 0, .op 4 0], [(68, (pIf (!(decide (a0.Cap < (1 : Int)))) (pInt .i64 a0.Cap)))], [], [0, 1, 2, 3, 4], [68]⟩,
                    ⟨[.op 3 0, .op 5 0], [(69, (pIf (!(decide (a0.Cap < (1 : Int)))) (pBool (decide ((32 : Int) < a0.Cap)))))], [], [0, 1, 2, 3, 4, 5], [69]⟩,
                    ⟨[.op 3 0, .op 6 0], [(70, (pBool ((decide (a0.Cap < (1 : Int))) || (decide ((32 : Int) < a0.Cap)))))], [], [0, 1, 2, 3, 4, 5, 6], [70]⟩,
                    ⟨[.op 7 0], [(62, (pBool ((decide (a0.Cap < (1 : Int))) || (decide ((32 : Int) < a0.Cap)))))], [], [0, 1, 2, 3, 4, 5, 6, 7], [62]⟩])
                  (F := [.old 0, .op 8 0]) (by kernel_rfl)
                  (allOT_cons (OT.plain rfl (ob_fieldAddr fl_38_5 rfl rfl Opd.t0))
                    (allOT_cons (OT.plain rfl (ob_load ty_3 rfl rfl Opd.t0))
                    (allOT_cons (OT.plain rfl (ob_lt rfl rfl Opd.t0 (Opd.c (int_q _ _))))
                    (allOT_cons (OT.plain rfl (ob_move rfl rfl Opd.t0))
                    (allOT_cons (OT.guard (outs := [(67, ((Kd.int .i64).ptr a0.Cap))]) (!(decide (a0.Cap < (1 : Int)))) (gF (decide (a0.Cap < (1 : Int)))).1 (gF (decide (a0.Cap < (1 : Int)))).2 rfl rfl (fun e he => by rw [List.mem_singleton.1 he]) (fun hG => ob_fieldAddr fl_38_5 rfl rfl Opd.t0))
                    (allOT_cons (OT.guard (outs := [(68, (pInt .i64 a0.Cap))]) (!(decide (a0.Cap < (1 : Int)))) (gF (decide (a0.Cap < (1 : Int)))).1 (gF (decide (a0.Cap < (1 : Int)))).2 rfl rfl (fun e he => by rw [List.mem_singleton.1 he]) (fun hG => ob_load ty_3 rfl rfl (Opd.gd hG Opd.t0)))
                    (allOT_cons (OT.guard (outs := [(69, (pBool (decide ((32 : Int) < a0.Cap))))]) (!(decide (a0.Cap < (1 : Int)))) (gF (decide (a0.Cap < (1 : Int)))).1 (gF (decide (a0.Cap < (1 : Int)))).2 rfl rfl (fun e he => by rw [List.mem_singleton.1 he]) (fun hG => ob_gt rfl rfl (Opd.gd hG Opd.t0) (Opd.c (int_q _ _))))
                    (allOT_cons (OT.plain rfl (ob_pick (q := (pBool ((decide (a0.Cap < (1 : Int))) || (decide ((32 : Int) < a0.Cap))))) rfl rfl Opd.t0 (fun hz => Opd.to (Opd.c (bool_q _)) (congrArg (fun t => (pBool t)) (pk_or_t hz))) (fun hz => Opd.to (Opd.gd (bNF hz) (Opd.tl Opd.t0)) (congrArg (fun t => (pBool t)) (pk_or_f hz)))))
                    (allOT_cons (OT.plain rfl (ob_assign rfl rfl Opd.t0))
                    allOT_nil)))))))))
                  (hst.pick [0] rfl) hb (fun a g hst hb => ?_)
              refine then_n ?_
              refine wp_cond_split (hst.bool 1 rfl) (fun hc13 => ?_) (fun hc13 => ?_)
              · replace H0 := ite_t hc13 H0
                refine wp_seq ?_
                refine wp_reg follows (N := 83) (L := [])
                    (T := [⟨[], [(2, (pInt .i64 (1 : Int)))], [], [], [2]⟩])
                    (F := [.op 0 0]) (by kernel_rfl)
                    (allOT_cons (OT.plain rfl (ob_assign rfl rfl (Opd.c (int_q _ _))))
                      allOT_nil)
                    (hst.pick [] rfl) hb (fun a g hst hb => ?_)
                refine then_n ?_
                refine wp_ret ?_
                refine inBlock_r ?_
                refine then_r ?_
                obtain rfl := Option.some.inj H0
                exact endR1 rfl hst hb (res_tmp (s := 2)) (hst.at 0 rfl)
              · replace H0 := ite_f hc13 H0
                refine wp_seq ?_
                refine wp_reg follows (N := 83) (L := [(1, (k_api_Record.ptr a0))])
                    (T := [⟨[.old 0], [(72, (k_api_Item.sl.ptr a0.List))], [], [], [72]⟩,
                      ⟨[.op 0 0], [(73, (k_api_Item.sl.pd a0.List))], [], [0], [73]⟩,
                      ⟨[.op 1 0], [(74, (pInt .i64 (a0.List.length : Int)))], [], [0, 1], [74]⟩,
                      ⟨[.old 0], [(75, ((Kd.int .i64).ptr a0.Cap))], [], [], [75]⟩,
                      ⟨[.op 3 0], [(76, (pInt .i64 a0.Cap))], [], [3], [76]⟩,
                      ⟨[.op 2 0, .op 4 0], [(77, (pBool (decide (a0.Cap < (a0.List.length : Int)))))], [], [0, 1, 2, 3, 4], [77]⟩,
                      ⟨[.op 5 0], [(71, (pBool (decide (a0.Cap < (a0.List.length : Int)))))], [], [0, 1, 2, 3, 4, 5], [71]⟩])
                    (F := [.old 0, .op 6 0]) (by kernel_rfl)
                    (allOT_cons (OT.plain rfl (ob_fieldAddr fl_38_7 rfl rfl Opd.t0))
                      (allOT_cons (OT.plain rfl (ob_load ty_36 rfl rfl Opd.t0))
                      (allOT_cons (OT.plain rfl (ob_lenL Try.underlying36 rfl rfl Opd.t0))
                      (allOT_cons (OT.plain rfl (ob_fieldAddr fl_38_5 rfl rfl Opd.t0))
                      (allOT_cons (OT.plain rfl (ob_load ty_3 rfl rfl Opd.t0))
                      (allOT_cons (OT.plain rfl (ob_gt rfl rfl Opd.t0 (Opd.tl Opd.t0)))
                      (allOT_cons (OT.plain rfl (ob_assign rfl rfl Opd.t0))
                      allOT_nil)))))))
                    (hst.pick [0] rfl) hb (fun a g hst hb => ?_)
                refine then_n ?_
                refine wp_cond_split (hst.bool 1 rfl) (fun hc14 => ?_) (fun hc14 => ?_)
                · replace H0 := ite_t hc14 H0
                  refine wp_seq ?_
                  refine wp_reg follows (N := 83) (L := [])
                      (T := [⟨[], [(2, (pInt .i64 (8 : Int)))], [], [], [2]⟩])
                      (F := [.op 0 0]) (by kernel_rfl)
                      (allOT_cons (OT.plain rfl (ob_assign rfl rfl (Opd.c (int_q _ _))))
                        allOT_nil)
                      (hst.pick [] rfl) hb (fun a g hst hb => ?_)
                  refine then_n ?_
                  refine wp_ret ?_
                  refine inBlock_r ?_
                  refine then_r ?_
                  obtain rfl := Option.some.inj H0
                  exact endR1 rfl hst hb (res_tmp (s := 2)) (hst.at 0 rfl)
                · replace H0 := ite_f hc14 H0
                  refine wp_skip ?_
                  refine inBlock_n ?_
                  refine then_n ?_
                  refine wp_seq ?_
                  obtain ⟨r15, h16, H0⟩ := of_bind H0
                  refine wp_reg follows (N := 83) (L := [(1, (k_api_Record.ptr a0))])
                      (T := [⟨[.old 0], [(78, ((Kd.int .i64).ptr a0.Kind))], [], [], [78]⟩,
                        ⟨[.op 0 0], [(79, (pInt .i64 a0.Kind))], [], [0], [79]⟩,
                        ⟨[.old 0], [(80, (k_api_Item.sl.ptr a0.List))], [], [], [80]⟩,
                        ⟨[.op 2 0], [(81, (k_api_Item.sl.pd a0.List))], [], [2], [81]⟩,
                        ⟨[.op 1 0, .op 3 0], [(82, (pInt .i64 r15))], [], [0, 1, 2, 3], [82]⟩,
                        ⟨[.op 4 0], [(2, (pInt .i64 r15))], [], [0, 1, 2, 3, 4], [2]⟩])
                      (F := [.op 5 0]) (by kernel_rfl)
                      (allOT_cons (OT.plain rfl (ob_fieldAddr fl_38_0 rfl rfl Opd.t0))
                        (allOT_cons (OT.plain rfl (ob_load ty_3 rfl rfl Opd.t0))
                        (allOT_cons (OT.plain rfl (ob_fieldAddr fl_38_7 rfl rfl Opd.t0))
                        (allOT_cons (OT.plain rfl (ob_load ty_36 rfl rfl Opd.t0))
                        (allOT_cons (OT.plain rfl (ob_call en_50 (rec_items_ok _ _ h16) rfl rfl (.cons Opd.t0 (.cons (Opd.tl Opd.t0) .nil))))
                        (allOT_cons (OT.plain rfl (ob_assign rfl rfl Opd.t0))
                        allOT_nil))))))
                      (hst.pick [0] rfl) hb (fun a g hst hb => ?_)
                  refine then_n ?_
                  refine wp_ret ?_
                  obtain rfl := Option.some.inj H0
                  exact endR1 rfl hst hb (res_tmp (s := 2)) (hst.at 0 rfl)
end Go.CL

set_option linter.unusedVariables false
set_option linter.unusedSimpArgs false
set_option maxRecDepth 100000
namespace Go.CL
open Go Go.RowKit Go.Proofs
theorem shelf_made_ok (a0 : ByteArray) (a1 : api_Record) (a2 : shelf_nodeT) (a3 : shelf_nodeT) {r : shelf_nodeT} (h : shelf_made a0 a1 a2 a3 = some r) : FnOk Try.prog 51 [(pStr a0), (k_api_Record.pd a1), (k_shelf_nodeT.pd a2), (k_shelf_nodeT.pd a3)] (k_shelf_nodeT.pd r) := by
  have H0 := h
  unfold shelf_made at H0
  clear h
  refine fn_ok (N := 21) Try.func51 rfl rfl (Nat.le_of_ble_eq_true rfl) rfl rfl (fun a g0 hst hb => ?_)
  refine wp_seq ?_
  refine wp_reg follows (N := 21) (L := [(0, (pStr a0)), (1, (k_api_Record.pd a1)), (2, (k_shelf_nodeT.pd a2)), (3, (k_shelf_nodeT.pd a3))])
      (T := [⟨[.old 1], [(5, (k_api_Record.ptr a1))], [], [], [5]⟩,
        ⟨[], [(8, (k_shelf_nodeT.pd shelf_nodeT.nil))], [], [], [8]⟩])
      (F := [.old 0, .old 2, .old 3, .op 0 0]) (by kernel_rfl)
      (allOT_cons (OT.plain rfl (ob_box1 rfl rfl Opd.t0))
        (allOT_cons (OT.plain rfl (ob_assign rfl rfl (Opd.c (fun g => k_shelf_nodeT_nil_q g))))
        allOT_nil))
      hst hb (fun a g hst hb => ?_)
  refine then_n ?_
  refine wp_seq ?_
  obtain ⟨r1, h2, H0⟩ := of_bind H0
  obtain ⟨r3, h4, H0⟩ := of_bind H0
  refine wp_reg follows (N := 21) (L := [(0, (pStr a0)), (2, (k_shelf_nodeT.pd a2)), (3, (k_shelf_nodeT.pd a3)), (5, (k_api_Record.ptr a1))])
      (T := [⟨[.old 0], [(9, (pStr a0))], [], [], [9]⟩,
        ⟨[.old 3], [(10, (k_api_Record.pd a1))], [], [], [10]⟩,
        ⟨[.old 1], [(11, (k_shelf_nodeT.pd a2))], [], [], [11]⟩,
        ⟨[.old 2], [(12, (k_shelf_nodeT.pd a3))], [], [], [12]⟩,
        ⟨[.old 1], [(13, (k_shelf_nodeT.pd a2))], [], [], [13]⟩,
        ⟨[.op 4 0], [(14, (pInt .i64 r1))], [], [4], [14]⟩,
        ⟨[.old 2], [(15, (k_shelf_nodeT.pd a3))], [], [], [15]⟩,
        ⟨[.op 6 0], [(16, (pInt .i64 r3))], [], [4, 5, 6], [16]⟩,
        ⟨[.op 5 0, .op 7 0], [(17, (pInt .i64 (IntKind.i64.wrap (r1 + r3))))], [], [4, 5, 6, 7], [17]⟩,
        ⟨[.op 8 0], [(18, (pInt .i64 (IntKind.i64.wrap ((IntKind.i64.wrap (r1 + r3)) + (1 : Int)))))], [], [4, 5, 6, 7, 8], [18]⟩,
        ⟨[.op 0 0, .op 1 0, .op 2 0, .op 3 0, .op 9 0], [(19, (k_shelf_node.pd ({ key := a0, rec_ := a1, left := a2, right := a3, size := (IntKind.i64.wrap ((IntKind.i64.wrap (r1 + r3)) + (1 : Int))) } : shelf_node)))], [], [0, 1, 2, 3, 4, 5, 6, 7, 8, 9], [19]⟩,
        ⟨[.op 10 0], [(20, (k_shelf_node.ptr ({ key := a0, rec_ := a1, left := a2, right := a3, size := (IntKind.i64.wrap ((IntKind.i64.wrap (r1 + r3)) + (1 : Int))) } : shelf_node)))], [], [0, 1, 2, 3, 4, 5, 6, 7, 8, 9, 10], [20]⟩,
        ⟨[.op 11 0], [(8, (k_shelf_nodeT.pd (({ key := a0, rec_ := a1, left := a2, right := a3, size := (IntKind.i64.wrap ((IntKind.i64.wrap (r1 + r3)) + (1 : Int))) } : shelf_node).up)))], [], [0, 1, 2, 3, 4, 5, 6, 7, 8, 9, 10, 11], [8]⟩])
      (F := [.op 12 0]) (by kernel_rfl)
      (allOT_cons (OT.plain rfl (ob_move rfl rfl Opd.t0))
        (allOT_cons (OT.plain rfl (ob_load ty_38 rfl rfl Opd.t0))
        (allOT_cons (OT.plain rfl (ob_move rfl rfl Opd.t0))
        (allOT_cons (OT.plain rfl (ob_move rfl rfl Opd.t0))
        (allOT_cons (OT.plain rfl (ob_move rfl rfl Opd.t0))
        (allOT_cons (OT.plain rfl (ob_call en_33 (shelf_node_count_ok _ h2) rfl rfl (.cons Opd.t0 .nil)))
        (allOT_cons (OT.plain rfl (ob_move rfl rfl Opd.t0))
        (allOT_cons (OT.plain rfl (ob_call en_33 (shelf_node_count_ok _ h4) rfl rfl (.cons Opd.t0 .nil)))
        (allOT_cons (OT.plain rfl (ob_add rfl rfl Opd.t0 (Opd.tl Opd.t0) rfl))
        (allOT_cons (OT.plain rfl (ob_add rfl rfl Opd.t0 (Opd.c (int_q _ _)) rfl))
        (allOT_cons (OT.plain rfl (bd_75_0_1_2_3_4 rfl rfl Opd.t0 (Opd.tl Opd.t0) (Opd.tl (Opd.tl Opd.t0)) (Opd.tl (Opd.tl (Opd.tl Opd.t0))) (Opd.tl (Opd.tl (Opd.tl (Opd.tl Opd.t0))))))
        (allOT_cons (OT.plain rfl (ob_box1 rfl rfl Opd.t0))
        (allOT_cons (OT.plain rfl (ob_assign rfl rfl (Opd.imp Opd.t0 (fun _ _ h => shelf_nodeT_up h))))
        allOT_nil)))))))))))))
      hst hb (fun a g hst hb => ?_)
  refine then_n ?_
  refine wp_ret ?_
  obtain rfl := Option.some.inj H0
  exact endR1 rfl hst hb (res_tmp (s := 8)) (hst.at 0 rfl)
end Go.CL

set_option linter.unusedVariables false
set_option linter.unusedSimpArgs false
set_option maxRecDepth 100000
namespace Go.CL
open Go Go.RowKit Go.Proofs
theorem shelf_heavy_ok (a0 : shelf_nodeT) (a1 : shelf_nodeT) {r : Bool} (h : shelf_heavy a0 a1 = some r) : FnOk Try.prog 63 [(k_shelf_nodeT.pd a0), (k_shelf_nodeT.pd a1)] (pBool r) := by
  have H0 := h
  unfold shelf_heavy at H0
  clear h
  refine fn_ok (N := 13) Try.func63 rfl rfl (Nat.le_of_ble_eq_true rfl) rfl rfl (fun a g0 hst hb => ?_)
  refine wp_seq ?_
  refine wp_reg follows (N := 13) (L := [(0, (k_shelf_nodeT.pd a0)), (1, (k_shelf_nodeT.pd a1))])
      (T := [⟨[], [(4, (pBool false))], [], [], [4]⟩])
      (F := [.old 0, .old 1]) (by kernel_rfl)
      (allOT_cons (OT.plain rfl (ob_assign rfl rfl (Opd.c (bool_q _))))
        allOT_nil)
      hst hb (fun a g hst hb => ?_)
  refine then_n ?_
  refine wp_seq ?_
  obtain ⟨r1, h2, H0⟩ := of_bind H0
  obtain ⟨r3, h4, H0⟩ := of_bind H0
  refine wp_reg follows (N := 13) (L := [(0, (k_shelf_nodeT.pd a0)), (1, (k_shelf_nodeT.pd a1))])
      (T := [⟨[.old 0], [(5, (k_shelf_nodeT.pd a0))], [], [], [5]⟩,
        ⟨[.op 0 0], [(6, (pInt .i64 r1))], [], [0], [6]⟩,
        ⟨[.op 1 0], [(7, (pInt .i64 (IntKind.i64.wrap (r1 + (1 : Int)))))], [], [0, 1], [7]⟩,
        ⟨[.old 1], [(8, (k_shelf_nodeT.pd a1))], [], [], [8]⟩,
        ⟨[.op 3 0], [(9, (pInt .i64 r3))], [], [0, 1, 3], [9]⟩,
        ⟨[.op 4 0], [(10, (pInt .i64 (IntKind.i64.wrap (r3 + (1 : Int)))))], [], [0, 1, 3, 4], [10]⟩,
        ⟨[.op 5 0], [(11, (pInt .i64 (IntKind.i64.wrap ((3 : Int) * (IntKind.i64.wrap (r3 + (1 : Int)))))))], [], [0, 1, 3, 4, 5], [11]⟩,
        ⟨[.op 2 0, .op 6 0], [(12, (pBool (decide ((IntKind.i64.wrap ((3 : Int) * (IntKind.i64.wrap (r3 + (1 : Int))))) < (IntKind.i64.wrap (r1 + (1 : Int)))))))], [], [0, 1, 2, 3, 4, 5, 6], [12]⟩,
        ⟨[.op 7 0], [(4, (pBool (decide ((IntKind.i64.wrap ((3 : Int) * (IntKind.i64.wrap (r3 + (1 : Int))))) < (IntKind.i64.wrap (r1 + (1 : Int)))))))], [], [0, 1, 2, 3, 4, 5, 6, 7], [4]⟩])
      (F := [.op 8 0]) (by kernel_rfl)
      (allOT_cons (OT.plain rfl (ob_move rfl rfl Opd.t0))
        (allOT_cons (OT.plain rfl (ob_call en_33 (shelf_node_count_ok _ h2) rfl rfl (.cons Opd.t0 .nil)))
        (allOT_cons (OT.plain rfl (ob_add rfl rfl Opd.t0 (Opd.c (int_q _ _)) rfl))
        (allOT_cons (OT.plain rfl (ob_move rfl rfl Opd.t0))
        (allOT_cons (OT.plain rfl (ob_call en_33 (shelf_node_count_ok _ h4) rfl rfl (.cons Opd.t0 .nil)))
        (allOT_cons (OT.plain rfl (ob_add rfl rfl Opd.t0 (Opd.c (int_q _ _)) rfl))
        (allOT_cons (OT.plain rfl (ob_mul rfl rfl (Opd.c (int_q _ _)) Opd.t0 rfl))
        (allOT_cons (OT.plain rfl (ob_gt rfl rfl Opd.t0 (Opd.tl Opd.t0)))
        (allOT_cons (OT.plain rfl (ob_assign rfl rfl Opd.t0))
        allOT_nil)))))))))
      hst hb (fun a g hst hb => ?_)
  refine then_n ?_
  refine wp_ret ?_
  obtain rfl := Option.some.inj H0
  exact endR1 rfl hst hb (res_tmp (s := 4)) (hst.at 0 rfl)
end Go.CL

set_option linter.unusedVariables false
set_option linter.unusedSimpArgs false
set_option maxRecDepth 100000
namespace Go.CL
open Go Go.RowKit Go.Proofs
theorem shelf_even_ok (a0 : ByteArray) (a1 : api_Record) (a2 : shelf_nodeT) (a3 : shelf_nodeT) {r : shelf_nodeT} (h : shelf_even a0 a1 a2 a3 = some r) : FnOk Try.prog 52 [(pStr a0), (k_api_Record.pd a1), (k_shelf_nodeT.pd a2), (k_shelf_nodeT.pd a3)] (k_shelf_nodeT.pd r) := by
  have H0 := h
  unfold shelf_even at H0
  clear h
  refine fn_ok (N := 182) Try.func52 rfl rfl (Nat.le_of_ble_eq_true rfl) rfl rfl (fun a g0 hst hb => ?_)
  refine wp_seq ?_
  refine wp_reg follows (N := 182) (L := [(0, (pStr a0)), (1, (k_api_Record.pd a1)), (2, (k_shelf_nodeT.pd a2)), (3, (k_shelf_nodeT.pd a3))])
      (T := [⟨[.old 1], [(5, (k_api_Record.ptr a1))], [], [], [5]⟩,
        ⟨[], [(8, (k_shelf_nodeT.pd shelf_nodeT.nil))], [], [], [8]⟩])
      (F := [.old 0, .old 2, .old 3, .op 0 0]) (by kernel_rfl)
      (allOT_cons (OT.plain rfl (ob_box1 rfl rfl Opd.t0))
        (allOT_cons (OT.plain rfl (ob_assign rfl rfl (Opd.c (fun g => k_shelf_nodeT_nil_q g))))
        allOT_nil))
      hst hb (fun a g hst hb => ?_)
  refine then_n ?_
  refine wp_seq ?_
  refine wp_block ?_
  refine wp_seq ?_
  obtain ⟨r1, h2, H0⟩ := of_bind H0
  obtain ⟨n3, h4, H0⟩ := of_bind H0
  obtain ⟨r5, h6, H0⟩ := of_bind H0
  obtain ⟨n7, h8, H0⟩ := of_bind H0
  obtain ⟨r9, h10, H0⟩ := of_bind H0
  refine wp_reg follows (N := 182) (L := [(0, (pStr a0)), (2, (k_shelf_nodeT.pd a2)), (3, (k_shelf_nodeT.pd a3)), (5, (k_api_Record.ptr a1))])
      (T := [⟨[.old 2], [(12, (k_shelf_nodeT.pd a3))], [], [], [12]⟩,
        ⟨[.old 1], [(13, (k_shelf_nodeT.pd a2))], [], [], [13]⟩,
        ⟨[.op 0 0, .op 1 0], [(14, (pBool r1))], [], [0, 1], [14]⟩,
        ⟨[.op 2 0], [(15, (pBool r1))], [], [0, 1, 2], [15]⟩,
        ⟨[.op 3 0, .old 2], [(16, (pIf r1 (k_shelf_nodeT.pd a3)))], [], [0, 1, 2, 3], [16]⟩,
        ⟨[.op 3 0, .op 4 0], [(17, (pIf r1 (k_shelf_node.ptr n3)))], [], [0, 1, 2, 3, 4], [17]⟩,
        ⟨[.op 3 0, .op 5 0], [(18, (pIf r1 (k_shelf_nodeT.ptr n3.left)))], [], [0, 1, 2, 3, 4, 5], [18]⟩,
        ⟨[.op 3 0, .op 6 0], [(19, (pIf r1 (k_shelf_nodeT.pd n3.left)))], [], [0, 1, 2, 3, 4, 5, 6], [19]⟩,
        ⟨[.op 3 0, .op 7 0], [(20, (pIf r1 (pInt .i64 r5)))], [], [0, 1, 2, 3, 4, 5, 6, 7], [20]⟩,
        ⟨[.op 3 0, .op 8 0], [(21, (pIf r1 (pInt .i64 (IntKind.i64.wrap (r5 + (1 : Int))))))], [], [0, 1, 2, 3, 4, 5, 6, 7, 8], [21]⟩,
        ⟨[.op 3 0, .old 2], [(22, (pIf r1 (k_shelf_nodeT.pd a3)))], [], [0, 1, 2, 3], [22]⟩,
        ⟨[.op 3 0, .op 10 0], [(23, (pIf r1 (k_shelf_node.ptr n7)))], [], [0, 1, 2, 3, 10], [23]⟩,
        ⟨[.op 3 0, .op 11 0], [(24, (pIf r1 (k_shelf_nodeT.ptr n7.right)))], [], [0, 1, 2, 3, 10, 11], [24]⟩,
        ⟨[.op 3 0, .op 12 0], [(25, (pIf r1 (k_shelf_nodeT.pd n7.right)))], [], [0, 1, 2, 3, 10, 11, 12], [25]⟩,
        ⟨[.op 3 0, .op 13 0], [(26, (pIf r1 (pInt .i64 r9)))], [], [0, 1, 2, 3, 4, 5, 6, 7, 8, 10, 11, 12, 13], [26]⟩,
        ⟨[.op 3 0, .op 14 0], [(27, (pIf r1 (pInt .i64 (IntKind.i64.wrap (r9 + (1 : Int))))))], [], [0, 1, 2, 3, 4, 5, 6, 7, 8, 10, 11, 12, 13, 14], [27]⟩,
        ⟨[.op 3 0, .op 15 0], [(28, (pIf r1 (pInt .i64 (IntKind.i64.wrap ((2 : Int) * (IntKind.i64.wrap (r9 + (1 : Int))))))))], [], [0, 1, 2, 3, 4, 5, 6, 7, 8, 10, 11, 12, 13, 14, 15], [28]⟩,
        ⟨[.op 3 0, .op 9 0, .op 16 0], [(29, (pIf r1 (pBool (decide ((IntKind.i64.wrap (r5 + (1 : Int))) < (IntKind.i64.wrap ((2 : Int) * (IntKind.i64.wrap (r9 + (1 : Int))))))))))], [], [0, 1, 2, 3, 4, 5, 6, 7, 8, 9, 10, 11, 12, 13, 14, 15, 16], [29]⟩,
        ⟨[.op 3 0, .op 17 0], [(30, (pBool (r1 && (decide ((IntKind.i64.wrap (r5 + (1 : Int))) < (IntKind.i64.wrap ((2 : Int) * (IntKind.i64.wrap (r9 + (1 : Int))))))))))], [], [0, 1, 2, 3, 4, 5, 6, 7, 8, 9, 10, 11, 12, 13, 14, 15, 16, 17], [30]⟩,
        ⟨[.op 18 0], [(11, (pBool (r1 && (decide ((IntKind.i64.wrap (r5 + (1 : Int))) < (IntKind.i64.wrap ((2 : Int) * (IntKind.i64.wrap (r9 + (1 : Int))))))))))], [], [0, 1, 2, 3, 4, 5, 6, 7, 8, 9, 10, 11, 12, 13, 14, 15, 16, 17, 18], [11]⟩])
      (F := [.old 0, .old 1, .old 2, .old 3, .op 19 0]) (by kernel_rfl)
      (allOT_cons (OT.plain rfl (ob_move rfl rfl Opd.t0))
        (allOT_cons (OT.plain rfl (ob_move rfl rfl Opd.t0))
        (allOT_cons (OT.plain rfl (ob_call en_63 (shelf_heavy_ok _ _ h2) rfl rfl (.cons Opd.t0 (.cons (Opd.tl Opd.t0) .nil))))
        (allOT_cons (OT.plain rfl (ob_move rfl rfl Opd.t0))
        (allOT_cons (OT.guard (outs := [(16, (k_shelf_nodeT.pd a3))]) r1 (gT r1).1 (gT r1).2 rfl rfl (fun e he => by rw [List.mem_singleton.1 he]) (fun hG => ob_move rfl rfl Opd.t0))
        (allOT_cons (OT.guard (outs := [(17, (k_shelf_node.ptr n3))]) r1 (gT r1).1 (gT r1).2 rfl rfl (fun e he => by rw [List.mem_singleton.1 he]) (fun hG => ob_nilCheck rfl rfl (Opd.imp (Opd.gd hG Opd.t0) (fun _ _ h => shelf_nodeT_node (gd_true h4 hG) h)) (fun _ _ ⟨_, _, _, e, _⟩ => ⟨_, e⟩)))
        (allOT_cons (OT.guard (outs := [(18, (k_shelf_nodeT.ptr n3.left))]) r1 (gT r1).1 (gT r1).2 rfl rfl (fun e he => by rw [List.mem_singleton.1 he]) (fun hG => ob_fieldAddr fl_75_2 rfl rfl (Opd.gd hG Opd.t0)))
        (allOT_cons (OT.guard (outs := [(19, (k_shelf_nodeT.pd n3.left))]) r1 (gT r1).1 (gT r1).2 rfl rfl (fun e he => by rw [List.mem_singleton.1 he]) (fun hG => ob_load ty_26 rfl rfl (Opd.gd hG Opd.t0)))
        (allOT_cons (OT.guard (outs := [(20, (pInt .i64 r5))]) r1 (gT r1).1 (gT r1).2 rfl rfl (fun e he => by rw [List.mem_singleton.1 he]) (fun hG => ob_call en_33 (shelf_node_count_ok _ (gd_true h6 hG)) rfl rfl (.cons (Opd.gd hG Opd.t0) .nil)))
        (allOT_cons (OT.guard (outs := [(21, (pInt .i64 (IntKind.i64.wrap (r5 + (1 : Int)))))]) r1 (gT r1).1 (gT r1).2 rfl rfl (fun e he => by rw [List.mem_singleton.1 he]) (fun hG => ob_add rfl rfl (Opd.gd hG Opd.t0) (Opd.c (int_q _ _)) rfl))
        (allOT_cons (OT.guard (outs := [(22, (k_shelf_nodeT.pd a3))]) r1 (gT r1).1 (gT r1).2 rfl rfl (fun e he => by rw [List.mem_singleton.1 he]) (fun hG => ob_move rfl rfl Opd.t0))
        (allOT_cons (OT.guard (outs := [(23, (k_shelf_node.ptr n7))]) r1 (gT r1).1 (gT r1).2 rfl rfl (fun e he => by rw [List.mem_singleton.1 he]) (fun hG => ob_nilCheck rfl rfl (Opd.imp (Opd.gd hG Opd.t0) (fun _ _ h => shelf_nodeT_node (gd_true h8 hG) h)) (fun _ _ ⟨_, _, _, e, _⟩ => ⟨_, e⟩)))
        (allOT_cons (OT.guard (outs := [(24, (k_shelf_nodeT.ptr n7.right))]) r1 (gT r1).1 (gT r1).2 rfl rfl (fun e he => by rw [List.mem_singleton.1 he]) (fun hG => ob_fieldAddr fl_75_3 rfl rfl (Opd.gd hG Opd.t0)))
        (allOT_cons (OT.guard (outs := [(25, (k_shelf_nodeT.pd n7.right))]) r1 (gT r1).1 (gT r1).2 rfl rfl (fun e he => by rw [List.mem_singleton.1 he]) (fun hG => ob_load ty_26 rfl rfl (Opd.gd hG Opd.t0)))
        (allOT_cons (OT.guard (outs := [(26, (pInt .i64 r9))]) r1 (gT r1).1 (gT r1).2 rfl rfl (fun e he => by rw [List.mem_singleton.1 he]) (fun hG => ob_call en_33 (shelf_node_count_ok _ (gd_true h10 hG)) rfl rfl (.cons (Opd.gd hG Opd.t0) .nil)))
        (allOT_cons (OT.guard (outs := [(27, (pInt .i64 (IntKind.i64.wrap (r9 + (1 : Int)))))]) r1 (gT r1).1 (gT r1).2 rfl rfl (fun e he => by rw [List.mem_singleton.1 he]) (fun hG => ob_add rfl rfl (Opd.gd hG Opd.t0) (Opd.c (int_q _ _)) rfl))
        (allOT_cons (OT.guard (outs := [(28, (pInt .i64 (IntKind.i64.wrap ((2 : Int) * (IntKind.i64.wrap (r9 + (1 : Int)))))))]) r1 (gT r1).1 (gT r1).2 rfl rfl (fun e he => by rw [List.mem_singleton.1 he]) (fun hG => ob_mul rfl rfl (Opd.c (int_q _ _)) (Opd.gd hG Opd.t0) rfl))
        (allOT_cons (OT.guard (outs := [(29, (pBool (decide ((IntKind.i64.wrap (r5 + (1 : Int))) < (IntKind.i64.wrap ((2 : Int) * (IntKind.i64.wrap (r9 + (1 : Int)))))))))]) r1 (gT r1).1 (gT r1).2 rfl rfl (fun e he => by rw [List.mem_singleton.1 he]) (fun hG => ob_lt rfl rfl (Opd.gd hG Opd.t0) (Opd.gd hG (Opd.tl Opd.t0))))
        (allOT_cons (OT.plain rfl (ob_pick (q := (pBool (r1 && (decide ((IntKind.i64.wrap (r5 + (1 : Int))) < (IntKind.i64.wrap ((2 : Int) * (IntKind.i64.wrap (r9 + (1 : Int)))))))))) rfl rfl Opd.t0 (fun hz => Opd.to (Opd.gd hz (Opd.tl Opd.t0)) (congrArg (fun t => (pBool t)) (pk_and_t hz))) (fun hz => Opd.to (Opd.c (bool_q _)) (congrArg (fun t => (pBool t)) (pk_and_f hz)))))
        (allOT_cons (OT.plain rfl (ob_assign rfl rfl Opd.t0))
        allOT_nil))))))))))))))))))))
      hst hb (fun a g hst hb => ?_)
  refine then_n ?_
  refine wp_cond_split (hst.bool 4 rfl) (fun hc11 => ?_) (fun hc11 => ?_)
  · replace H0 := ite_t hc11 H0
    refine wp_seq ?_
    obtain ⟨n12, h13, H0⟩ := of_bind H0
    obtain ⟨r14, h15, H0⟩ := of_bind H0
    obtain ⟨r16, h17, H0⟩ := of_bind H0
    refine wp_reg follows (N := 182) (L := [(0, (pStr a0)), (2, (k_shelf_nodeT.pd a2)), (3, (k_shelf_nodeT.pd a3)), (5, (k_api_Record.ptr a1))])
        (T := [⟨[.old 2], [(31, (k_shelf_nodeT.pd a3))], [], [], [31]⟩,
          ⟨[.op 0 0], [(32, (k_shelf_node.ptr n12))], [], [0], [32]⟩,
          ⟨[.op 1 0], [(33, (Kd.str.ptr n12.key))], [], [0, 1], [33]⟩,
          ⟨[.op 2 0], [(34, (pStr n12.key))], [], [0, 1, 2], [34]⟩,
          ⟨[.old 2], [(35, (k_shelf_nodeT.pd a3))], [], [], [35]⟩,
          ⟨[.op 4 0], [(36, (k_shelf_node.ptr n12))], [], [4], [36]⟩,
          ⟨[.op 5 0], [(37, (k_api_Record.ptr n12.rec_))], [], [4, 5], [37]⟩,
          ⟨[.op 6 0], [(38, (k_api_Record.pd n12.rec_))], [], [4, 5, 6], [38]⟩,
          ⟨[.old 0], [(39, (pStr a0))], [], [], [39]⟩,
          ⟨[.old 3], [(40, (k_api_Record.pd a1))], [], [], [40]⟩,
          ⟨[.old 1], [(41, (k_shelf_nodeT.pd a2))], [], [], [41]⟩,
          ⟨[.old 2], [(42, (k_shelf_nodeT.pd a3))], [], [], [42]⟩,
          ⟨[.op 11 0], [(43, (k_shelf_node.ptr n12))], [], [11], [43]⟩,
          ⟨[.op 12 0], [(44, (k_shelf_nodeT.ptr n12.left))], [], [11, 12], [44]⟩,
          ⟨[.op 13 0], [(45, (k_shelf_nodeT.pd n12.left))], [], [11, 12, 13], [45]⟩,
          ⟨[.op 8 0, .op 9 0, .op 10 0, .op 14 0], [(46, (k_shelf_nodeT.pd r14))], [], [8, 9, 10, 11, 12, 13, 14], [46]⟩,
          ⟨[.old 2], [(47, (k_shelf_nodeT.pd a3))], [], [], [47]⟩,
          ⟨[.op 16 0], [(48, (k_shelf_node.ptr n12))], [], [16], [48]⟩,
          ⟨[.op 17 0], [(49, (k_shelf_nodeT.ptr n12.right))], [], [16, 17], [49]⟩,
          ⟨[.op 18 0], [(50, (k_shelf_nodeT.pd n12.right))], [], [16, 17, 18], [50]⟩,
          ⟨[.op 3 0, .op 7 0, .op 15 0, .op 19 0], [(51, (k_shelf_nodeT.pd r16))], [], [0, 1, 2, 3, 4, 5, 6, 7, 8, 9, 10, 11, 12, 13, 14, 15, 16, 17, 18, 19], [51]⟩,
          ⟨[.op 20 0], [(8, (k_shelf_nodeT.pd r16))], [], [0, 1, 2, 3, 4, 5, 6, 7, 8, 9, 10, 11, 12, 13, 14, 15, 16, 17, 18, 19, 20], [8]⟩])
        (F := [.op 21 0]) (by kernel_rfl)
        (allOT_cons (OT.plain rfl (ob_move rfl rfl Opd.t0))
          (allOT_cons (OT.plain rfl (ob_nilCheck rfl rfl (Opd.imp Opd.t0 (fun _ _ h => shelf_nodeT_node h13 h)) (fun _ _ ⟨_, _, _, e, _⟩ => ⟨_, e⟩)))
          (allOT_cons (OT.plain rfl (ob_fieldAddr fl_75_0 rfl rfl Opd.t0))
          (allOT_cons (OT.plain rfl (ob_load ty_9 rfl rfl Opd.t0))
          (allOT_cons (OT.plain rfl (ob_move rfl rfl Opd.t0))
          (allOT_cons (OT.plain rfl (ob_nilCheck rfl rfl (Opd.imp Opd.t0 (fun _ _ h => shelf_nodeT_node h13 h)) (fun _ _ ⟨_, _, _, e, _⟩ => ⟨_, e⟩)))
          (allOT_cons (OT.plain rfl (ob_fieldAddr fl_75_1 rfl rfl Opd.t0))
          (allOT_cons (OT.plain rfl (ob_load ty_38 rfl rfl Opd.t0))
          (allOT_cons (OT.plain rfl (ob_move rfl rfl Opd.t0))
          (allOT_cons (OT.plain rfl (ob_load ty_38 rfl rfl Opd.t0))
          (allOT_cons (OT.plain rfl (ob_move rfl rfl Opd.t0))
          (allOT_cons (OT.plain rfl (ob_move rfl rfl Opd.t0))
          (allOT_cons (OT.plain rfl (ob_nilCheck rfl rfl (Opd.imp Opd.t0 (fun _ _ h => shelf_nodeT_node h13 h)) (fun _ _ ⟨_, _, _, e, _⟩ => ⟨_, e⟩)))
          (allOT_cons (OT.plain rfl (ob_fieldAddr fl_75_2 rfl rfl Opd.t0))
          (allOT_cons (OT.plain rfl (ob_load ty_26 rfl rfl Opd.t0))
          (allOT_cons (OT.plain rfl (ob_call en_51 (shelf_made_ok _ _ _ _ h15) rfl rfl (.cons Opd.t0 (.cons (Opd.tl Opd.t0) (.cons (Opd.tl (Opd.tl Opd.t0)) (.cons (Opd.tl (Opd.tl (Opd.tl Opd.t0))) .nil))))))
          (allOT_cons (OT.plain rfl (ob_move rfl rfl Opd.t0))
          (allOT_cons (OT.plain rfl (ob_nilCheck rfl rfl (Opd.imp Opd.t0 (fun _ _ h => shelf_nodeT_node h13 h)) (fun _ _ ⟨_, _, _, e, _⟩ => ⟨_, e⟩)))
          (allOT_cons (OT.plain rfl (ob_fieldAddr fl_75_3 rfl rfl Opd.t0))
          (allOT_cons (OT.plain rfl (ob_load ty_26 rfl rfl Opd.t0))
          (allOT_cons (OT.plain rfl (ob_call en_51 (shelf_made_ok _ _ _ _ h17) rfl rfl (.cons Opd.t0 (.cons (Opd.tl Opd.t0) (.cons (Opd.tl (Opd.tl Opd.t0)) (.cons (Opd.tl (Opd.tl (Opd.tl Opd.t0))) .nil))))))
          (allOT_cons (OT.plain rfl (ob_assign rfl rfl Opd.t0))
          allOT_nil))))))))))))))))))))))
        (hst.pick [0, 1, 2, 3] rfl) hb (fun a g hst hb => ?_)
    refine then_n ?_
    refine wp_ret ?_
    refine inBlock_r ?_
    refine then_r ?_
    obtain rfl := Option.some.inj H0
    exact endR1 rfl hst hb (res_tmp (s := 8)) (hst.at 0 rfl)
  · replace H0 := ite_f hc11 H0
    refine wp_seq ?_
    obtain ⟨r18, h19, H0⟩ := of_bind H0
    refine wp_reg follows (N := 182) (L := [(0, (pStr a0)), (2, (k_shelf_nodeT.pd a2)), (3, (k_shelf_nodeT.pd a3)), (5, (k_api_Record.ptr a1))])
        (T := [⟨[.old 2], [(53, (k_shelf_nodeT.pd a3))], [], [], [53]⟩,
          ⟨[.old 1], [(54, (k_shelf_nodeT.pd a2))], [], [], [54]⟩,
          ⟨[.op 0 0, .op 1 0], [(55, (pBool r18))], [], [0, 1], [55]⟩,
          ⟨[.op 2 0], [(52, (pBool r18))], [], [0, 1, 2], [52]⟩])
        (F := [.old 0, .old 1, .old 2, .old 3, .op 3 0]) (by kernel_rfl)
        (allOT_cons (OT.plain rfl (ob_move rfl rfl Opd.t0))
          (allOT_cons (OT.plain rfl (ob_move rfl rfl Opd.t0))
          (allOT_cons (OT.plain rfl (ob_call en_63 (shelf_heavy_ok _ _ h19) rfl rfl (.cons Opd.t0 (.cons (Opd.tl Opd.t0) .nil))))
          (allOT_cons (OT.plain rfl (ob_assign rfl rfl Opd.t0))
          allOT_nil))))
        (hst.pick [0, 1, 2, 3] rfl) hb (fun a g hst hb => ?_)
    refine then_n ?_
    refine wp_cond_split (hst.bool 4 rfl) (fun hc20 => ?_) (fun hc20 => ?_)
    · replace H0 := ite_t hc20 H0
      refine wp_seq ?_
      obtain ⟨n21, h22, H0⟩ := of_bind H0
      refine wp_reg follows (N := 182) (L := [(0, (pStr a0)), (2, (k_shelf_nodeT.pd a2)), (3, (k_shelf_nodeT.pd a3)), (5, (k_api_Record.ptr a1))])
          (T := [⟨[.old 2], [(56, (k_shelf_nodeT.pd a3))], [], [], [56]⟩,
            ⟨[.op 0 0], [(57, (k_shelf_node.ptr n21))], [], [0], [57]⟩,
            ⟨[.op 1 0], [(58, (k_shelf_nodeT.ptr n21.left))], [], [0, 1], [58]⟩,
            ⟨[.op 2 0], [(59, (k_shelf_nodeT.pd n21.left))], [], [0, 1, 2], [59]⟩,
            ⟨[.op 3 0], [(9, (k_shelf_nodeT.pd n21.left))], [], [0, 1, 2, 3], [9]⟩])
          (F := [.old 0, .old 1, .old 2, .old 3, .op 4 0]) (by kernel_rfl)
          (allOT_cons (OT.plain rfl (ob_move rfl rfl Opd.t0))
            (allOT_cons (OT.plain rfl (ob_nilCheck rfl rfl (Opd.imp Opd.t0 (fun _ _ h => shelf_nodeT_node h22 h)) (fun _ _ ⟨_, _, _, e, _⟩ => ⟨_, e⟩)))
            (allOT_cons (OT.plain rfl (ob_fieldAddr fl_75_2 rfl rfl Opd.t0))
            (allOT_cons (OT.plain rfl (ob_load ty_26 rfl rfl Opd.t0))
            (allOT_cons (OT.plain rfl (ob_assign rfl rfl Opd.t0))
            allOT_nil)))))
          (hst.pick [0, 1, 2, 3] rfl) hb (fun a g hst hb => ?_)
      refine then_n ?_
      refine wp_seq ?_
      obtain ⟨n23, h24, H0⟩ := of_bind H0
      obtain ⟨r25, h26, H0⟩ := of_bind H0
      obtain ⟨r27, h28, H0⟩ := of_bind H0
      obtain ⟨r29, h30, H0⟩ := of_bind H0
      refine wp_reg follows (N := 182) (L := [(0, (pStr a0)), (2, (k_shelf_nodeT.pd a2)), (3, (k_shelf_nodeT.pd a3)), (5, (k_api_Record.ptr a1)), (9, (k_shelf_nodeT.pd n21.left))])
          (T := [⟨[.old 4], [(60, (k_shelf_nodeT.pd n21.left))], [], [], [60]⟩,
            ⟨[.op 0 0], [(61, (k_shelf_node.ptr n23))], [], [0], [61]⟩,
            ⟨[.op 1 0], [(62, (Kd.str.ptr n23.key))], [], [0, 1], [62]⟩,
            ⟨[.op 2 0], [(63, (pStr n23.key))], [], [0, 1, 2], [63]⟩,
            ⟨[.old 4], [(64, (k_shelf_nodeT.pd n21.left))], [], [], [64]⟩,
            ⟨[.op 4 0], [(65, (k_shelf_node.ptr n23))], [], [4], [65]⟩,
            ⟨[.op 5 0], [(66, (k_api_Record.ptr n23.rec_))], [], [4, 5], [66]⟩,
            ⟨[.op 6 0], [(67, (k_api_Record.pd n23.rec_))], [], [4, 5, 6], [67]⟩,
            ⟨[.old 0], [(68, (pStr a0))], [], [], [68]⟩,
            ⟨[.old 3], [(69, (k_api_Record.pd a1))], [], [], [69]⟩,
            ⟨[.old 1], [(70, (k_shelf_nodeT.pd a2))], [], [], [70]⟩,
            ⟨[.old 4], [(71, (k_shelf_nodeT.pd n21.left))], [], [], [71]⟩,
            ⟨[.op 11 0], [(72, (k_shelf_node.ptr n23))], [], [11], [72]⟩,
            ⟨[.op 12 0], [(73, (k_shelf_nodeT.ptr n23.left))], [], [11, 12], [73]⟩,
            ⟨[.op 13 0], [(74, (k_shelf_nodeT.pd n23.left))], [], [11, 12, 13], [74]⟩,
            ⟨[.op 8 0, .op 9 0, .op 10 0, .op 14 0], [(75, (k_shelf_nodeT.pd r25))], [], [8, 9, 10, 11, 12, 13, 14], [75]⟩,
            ⟨[.old 2], [(76, (k_shelf_nodeT.pd a3))], [], [], [76]⟩,
            ⟨[.op 16 0], [(77, (k_shelf_node.ptr n21))], [], [16], [77]⟩,
            ⟨[.op 17 0], [(78, (Kd.str.ptr n21.key))], [], [16, 17], [78]⟩,
            ⟨[.op 18 0], [(79, (pStr n21.key))], [], [16, 17, 18], [79]⟩,
            ⟨[.old 2], [(80, (k_shelf_nodeT.pd a3))], [], [], [80]⟩,
            ⟨[.op 20 0], [(81, (k_shelf_node.ptr n21))], [], [20], [81]⟩,
            ⟨[.op 21 0], [(82, (k_api_Record.ptr n21.rec_))], [], [20, 21], [82]⟩,
            ⟨[.op 22 0], [(83, (k_api_Record.pd n21.rec_))], [], [20, 21, 22], [83]⟩,
            ⟨[.old 4], [(84, (k_shelf_nodeT.pd n21.left))], [], [], [84]⟩,
            ⟨[.op 24 0], [(85, (k_shelf_node.ptr n23))], [], [24], [85]⟩,
            ⟨[.op 25 0], [(86, (k_shelf_nodeT.ptr n23.right))], [], [24, 25], [86]⟩,
            ⟨[.op 26 0], [(87, (k_shelf_nodeT.pd n23.right))], [], [24, 25, 26], [87]⟩,
            ⟨[.old 2], [(88, (k_shelf_nodeT.pd a3))], [], [], [88]⟩,
            ⟨[.op 28 0], [(89, (k_shelf_node.ptr n21))], [], [28], [89]⟩,
            ⟨[.op 29 0], [(90, (k_shelf_nodeT.ptr n21.right))], [], [28, 29], [90]⟩,
            ⟨[.op 30 0], [(91, (k_shelf_nodeT.pd n21.right))], [], [28, 29, 30], [91]⟩,
            ⟨[.op 19 0, .op 23 0, .op 27 0, .op 31 0], [(92, (k_shelf_nodeT.pd r27))], [], [8, 9, 10, 11, 12, 13, 14, 15, 16, 17, 18, 19, 20, 21, 22, 23, 24, 25, 26, 27, 28, 29, 30, 31], [92]⟩,
            ⟨[.op 3 0, .op 7 0, .op 15 0, .op 32 0], [(93, (k_shelf_nodeT.pd r29))], [], [0, 1, 2, 3, 4, 5, 6, 7, 8, 9, 10, 11, 12, 13, 14, 15, 16, 17, 18, 19, 20, 21, 22, 23, 24, 25, 26, 27, 28, 29, 30, 31, 32], [93]⟩,
            ⟨[.op 33 0], [(8, (k_shelf_nodeT.pd r29))], [], [0, 1, 2, 3, 4, 5, 6, 7, 8, 9, 10, 11, 12, 13, 14, 15, 16, 17, 18, 19, 20, 21, 22, 23, 24, 25, 26, 27, 28, 29, 30, 31, 32, 33], [8]⟩])
          (F := [.op 34 0]) (by kernel_rfl)
          (allOT_cons (OT.plain rfl (ob_move rfl rfl Opd.t0))
            (allOT_cons (OT.plain rfl (ob_nilCheck rfl rfl (Opd.imp Opd.t0 (fun _ _ h => shelf_nodeT_node h24 h)) (fun _ _ ⟨_, _, _, e, _⟩ => ⟨_, e⟩)))
            (allOT_cons (OT.plain rfl (ob_fieldAddr fl_75_0 rfl rfl Opd.t0))
            (allOT_cons (OT.plain rfl (ob_load ty_9 rfl rfl Opd.t0))
            (allOT_cons (OT.plain rfl (ob_move rfl rfl Opd.t0))
            (allOT_cons (OT.plain rfl (ob_nilCheck rfl rfl (Opd.imp Opd.t0 (fun _ _ h => shelf_nodeT_node h24 h)) (fun _ _ ⟨_, _, _, e, _⟩ => ⟨_, e⟩)))
            (allOT_cons (OT.plain rfl (ob_fieldAddr fl_75_1 rfl rfl Opd.t0))
            (allOT_cons (OT.plain rfl (ob_load ty_38 rfl rfl Opd.t0))
            (allOT_cons (OT.plain rfl (ob_move rfl rfl Opd.t0))
            (allOT_cons (OT.plain rfl (ob_load ty_38 rfl rfl Opd.t0))
            (allOT_cons (OT.plain rfl (ob_move rfl rfl Opd.t0))
            (allOT_cons (OT.plain rfl (ob_move rfl rfl Opd.t0))
            (allOT_cons (OT.plain rfl (ob_nilCheck rfl rfl (Opd.imp Opd.t0 (fun _ _ h => shelf_nodeT_node h24 h)) (fun _ _ ⟨_, _, _, e, _⟩ => ⟨_, e⟩)))
            (allOT_cons (OT.plain rfl (ob_fieldAddr fl_75_2 rfl rfl Opd.t0))
            (allOT_cons (OT.plain rfl (ob_load ty_26 rfl rfl Opd.t0))
            (allOT_cons (OT.plain rfl (ob_call en_51 (shelf_made_ok _ _ _ _ h26) rfl rfl (.cons Opd.t0 (.cons (Opd.tl Opd.t0) (.cons (Opd.tl (Opd.tl Opd.t0)) (.cons (Opd.tl (Opd.tl (Opd.tl Opd.t0))) .nil))))))
            (allOT_cons (OT.plain rfl (ob_move rfl rfl Opd.t0))
            (allOT_cons (OT.plain rfl (ob_nilCheck rfl rfl (Opd.imp Opd.t0 (fun _ _ h => shelf_nodeT_node h22 h)) (fun _ _ ⟨_, _, _, e, _⟩ => ⟨_, e⟩)))
            (allOT_cons (OT.plain rfl (ob_fieldAddr fl_75_0 rfl rfl Opd.t0))
            (allOT_cons (OT.plain rfl (ob_load ty_9 rfl rfl Opd.t0))
            (allOT_cons (OT.plain rfl (ob_move rfl rfl Opd.t0))
            (allOT_cons (OT.plain rfl (ob_nilCheck rfl rfl (Opd.imp Opd.t0 (fun _ _ h => shelf_nodeT_node h22 h)) (fun _ _ ⟨_, _, _, e, _⟩ => ⟨_, e⟩)))
            (allOT_cons (OT.plain rfl (ob_fieldAddr fl_75_1 rfl rfl Opd.t0))
            (allOT_cons (OT.plain rfl (ob_load ty_38 rfl rfl Opd.t0))
            (allOT_cons (OT.plain rfl (ob_move rfl rfl Opd.t0))
            (allOT_cons (OT.plain rfl (ob_nilCheck rfl rfl (Opd.imp Opd.t0 (fun _ _ h => shelf_nodeT_node h24 h)) (fun _ _ ⟨_, _, _, e, _⟩ => ⟨_, e⟩)))
            (allOT_cons (OT.plain rfl (ob_fieldAddr fl_75_3 rfl rfl Opd.t0))
            (allOT_cons (OT.plain rfl (ob_load ty_26 rfl rfl Opd.t0))
            (allOT_cons (OT.plain rfl (ob_move rfl rfl Opd.t0))
            (allOT_cons (OT.plain rfl (ob_nilCheck rfl rfl (Opd.imp Opd.t0 (fun _ _ h => shelf_nodeT_node h22 h)) (fun _ _ ⟨_, _, _, e, _⟩ => ⟨_, e⟩)))
            (allOT_cons (OT.plain rfl (ob_fieldAddr fl_75_3 rfl rfl Opd.t0))
            (allOT_cons (OT.plain rfl (ob_load ty_26 rfl rfl Opd.t0))
            (allOT_cons (OT.plain rfl (ob_call en_51 (shelf_made_ok _ _ _ _ h28) rfl rfl (.cons Opd.t0 (.cons (Opd.tl Opd.t0) (.cons (Opd.tl (Opd.tl Opd.t0)) (.cons (Opd.tl (Opd.tl (Opd.tl Opd.t0))) .nil))))))
            (allOT_cons (OT.plain rfl (ob_call en_51 (shelf_made_ok _ _ _ _ h30) rfl rfl (.cons Opd.t0 (.cons (Opd.tl Opd.t0) (.cons (Opd.tl (Opd.tl Opd.t0)) (.cons (Opd.tl (Opd.tl (Opd.tl Opd.t0))) .nil))))))
            (allOT_cons (OT.plain rfl (ob_assign rfl rfl Opd.t0))
            allOT_nil)))))))))))))))))))))))))))))))))))
          hst hb (fun a g hst hb => ?_)
      refine then_n ?_
      refine wp_ret ?_
      refine inBlock_r ?_
      refine then_r ?_
      obtain rfl := Option.some.inj H0
      exact endR1 rfl hst hb (res_tmp (s := 8)) (hst.at 0 rfl)
    · replace H0 := ite_f hc20 H0
      refine wp_seq ?_
      obtain ⟨r31, h32, H0⟩ := of_bind H0
      obtain ⟨n33, h34, H0⟩ := of_bind H0
      obtain ⟨r35, h36, H0⟩ := of_bind H0
      obtain ⟨n37, h38, H0⟩ := of_bind H0
      obtain ⟨r39, h40, H0⟩ := of_bind H0
      refine wp_reg follows (N := 182) (L := [(0, (pStr a0)), (2, (k_shelf_nodeT.pd a2)), (3, (k_shelf_nodeT.pd a3)), (5, (k_api_Record.ptr a1))])
          (T := [⟨[.old 1], [(95, (k_shelf_nodeT.pd a2))], [], [], [95]⟩,
            ⟨[.old 2], [(96, (k_shelf_nodeT.pd a3))], [], [], [96]⟩,
            ⟨[.op 0 0, .op 1 0], [(97, (pBool r31))], [], [0, 1], [97]⟩,
            ⟨[.op 2 0], [(98, (pBool r31))], [], [0, 1, 2], [98]⟩,
            ⟨[.op 3 0, .old 1], [(99, (pIf r31 (k_shelf_nodeT.pd a2)))], [], [0, 1, 2, 3], [99]⟩,
            ⟨[.op 3 0, .op 4 0], [(100, (pIf r31 (k_shelf_node.ptr n33)))], [], [0, 1, 2, 3, 4], [100]⟩,
            ⟨[.op 3 0, .op 5 0], [(101, (pIf r31 (k_shelf_nodeT.ptr n33.right)))], [], [0, 1, 2, 3, 4, 5], [101]⟩,
            ⟨[.op 3 0, .op 6 0], [(102, (pIf r31 (k_shelf_nodeT.pd n33.right)))], [], [0, 1, 2, 3, 4, 5, 6], [102]⟩,
            ⟨[.op 3 0, .op 7 0], [(103, (pIf r31 (pInt .i64 r35)))], [], [0, 1, 2, 3, 4, 5, 6, 7], [103]⟩,
            ⟨[.op 3 0, .op 8 0], [(104, (pIf r31 (pInt .i64 (IntKind.i64.wrap (r35 + (1 : Int))))))], [], [0, 1, 2, 3, 4, 5, 6, 7, 8], [104]⟩,
            ⟨[.op 3 0, .old 1], [(105, (pIf r31 (k_shelf_nodeT.pd a2)))], [], [0, 1, 2, 3], [105]⟩,
            ⟨[.op 3 0, .op 10 0], [(106, (pIf r31 (k_shelf_node.ptr n37)))], [], [0, 1, 2, 3, 10], [106]⟩,
            ⟨[.op 3 0, .op 11 0], [(107, (pIf r31 (k_shelf_nodeT.ptr n37.left)))], [], [0, 1, 2, 3, 10, 11], [107]⟩,
            ⟨[.op 3 0, .op 12 0], [(108, (pIf r31 (k_shelf_nodeT.pd n37.left)))], [], [0, 1, 2, 3, 10, 11, 12], [108]⟩,
            ⟨[.op 3 0, .op 13 0], [(109, (pIf r31 (pInt .i64 r39)))], [], [0, 1, 2, 3, 4, 5, 6, 7, 8, 10, 11, 12, 13], [109]⟩,
            ⟨[.op 3 0, .op 14 0], [(110, (pIf r31 (pInt .i64 (IntKind.i64.wrap (r39 + (1 : Int))))))], [], [0, 1, 2, 3, 4, 5, 6, 7, 8, 10, 11, 12, 13, 14], [110]⟩,
            ⟨[.op 3 0, .op 15 0], [(111, (pIf r31 (pInt .i64 (IntKind.i64.wrap ((2 : Int) * (IntKind.i64.wrap (r39 + (1 : Int))))))))], [], [0, 1, 2, 3, 4, 5, 6, 7, 8, 10, 11, 12, 13, 14, 15], [111]⟩,
            ⟨[.op 3 0, .op 9 0, .op 16 0], [(112, (pIf r31 (pBool (decide ((IntKind.i64.wrap (r35 + (1 : Int))) < (IntKind.i64.wrap ((2 : Int) * (IntKind.i64.wrap (r39 + (1 : Int))))))))))], [], [0, 1, 2, 3, 4, 5, 6, 7, 8, 9, 10, 11, 12, 13, 14, 15, 16], [112]⟩,
            ⟨[.op 3 0, .op 17 0], [(113, (pBool (r31 && (decide ((IntKind.i64.wrap (r35 + (1 : Int))) < (IntKind.i64.wrap ((2 : Int) * (IntKind.i64.wrap (r39 + (1 : Int))))))))))], [], [0, 1, 2, 3, 4, 5, 6, 7, 8, 9, 10, 11, 12, 13, 14, 15, 16, 17], [113]⟩,
            ⟨[.op 18 0], [(94, (pBool (r31 && (decide ((IntKind.i64.wrap (r35 + (1 : Int))) < (IntKind.i64.wrap ((2 : Int) * (IntKind.i64.wrap (r39 + (1 : Int))))))))))], [], [0, 1, 2, 3, 4, 5, 6, 7, 8, 9, 10, 11, 12, 13, 14, 15, 16, 17, 18], [94]⟩])
          (F := [.old 0, .old 1, .old 2, .old 3, .op 19 0]) (by kernel_rfl)
          (allOT_cons (OT.plain rfl (ob_move rfl rfl Opd.t0))
            (allOT_cons (OT.plain rfl (ob_move rfl rfl Opd.t0))
            (allOT_cons (OT.plain rfl (ob_call en_63 (shelf_heavy_ok _ _ h32) rfl rfl (.cons Opd.t0 (.cons (Opd.tl Opd.t0) .nil))))
            (allOT_cons (OT.plain rfl (ob_move rfl rfl Opd.t0))
            (allOT_cons (OT.guard (outs := [(99, (k_shelf_nodeT.pd a2))]) r31 (gT r31).1 (gT r31).2 rfl rfl (fun e he => by rw [List.mem_singleton.1 he]) (fun hG => ob_move rfl rfl Opd.t0))
            (allOT_cons (OT.guard (outs := [(100, (k_shelf_node.ptr n33))]) r31 (gT r31).1 (gT r31).2 rfl rfl (fun e he => by rw [List.mem_singleton.1 he]) (fun hG => ob_nilCheck rfl rfl (Opd.imp (Opd.gd hG Opd.t0) (fun _ _ h => shelf_nodeT_node (gd_true h34 hG) h)) (fun _ _ ⟨_, _, _, e, _⟩ => ⟨_, e⟩)))
            (allOT_cons (OT.guard (outs := [(101, (k_shelf_nodeT.ptr n33.right))]) r31 (gT r31).1 (gT r31).2 rfl rfl (fun e he => by rw [List.mem_singleton.1 he]) (fun hG => ob_fieldAddr fl_75_3 rfl rfl (Opd.gd hG Opd.t0)))
            (allOT_cons (OT.guard (outs := [(102, (k_shelf_nodeT.pd n33.right))]) r31 (gT r31).1 (gT r31).2 rfl rfl (fun e he => by rw [List.mem_singleton.1 he]) (fun hG => ob_load ty_26 rfl rfl (Opd.gd hG Opd.t0)))
            (allOT_cons (OT.guard (outs := [(103, (pInt .i64 r35))]) r31 (gT r31).1 (gT r31).2 rfl rfl (fun e he => by rw [List.mem_singleton.1 he]) (fun hG => ob_call en_33 (shelf_node_count_ok _ (gd_true h36 hG)) rfl rfl (.cons (Opd.gd hG Opd.t0) .nil)))
            (allOT_cons (OT.guard (outs := [(104, (pInt .i64 (IntKind.i64.wrap (r35 + (1 : Int)))))]) r31 (gT r31).1 (gT r31).2 rfl rfl (fun e he => by rw [List.mem_singleton.1 he]) (fun hG => ob_add rfl rfl (Opd.gd hG Opd.t0) (Opd.c (int_q _ _)) rfl))
            (allOT_cons (OT.guard (outs := [(105, (k_shelf_nodeT.pd a2))]) r31 (gT r31).1 (gT r31).2 rfl rfl (fun e he => by rw [List.mem_singleton.1 he]) (fun hG => ob_move rfl rfl Opd.t0))
            (allOT_cons (OT.guard (outs := [(106, (k_shelf_node.ptr n37))]) r31 (gT r31).1 (gT r31).2 rfl rfl (fun e he => by rw [List.mem_singleton.1 he]) (fun hG => ob_nilCheck rfl rfl (Opd.imp (Opd.gd hG Opd.t0) (fun _ _ h => shelf_nodeT_node (gd_true h38 hG) h)) (fun _ _ ⟨_, _, _, e, _⟩ => ⟨_, e⟩)))
            (allOT_cons (OT.guard (outs := [(107, (k_shelf_nodeT.ptr n37.left))]) r31 (gT r31).1 (gT r31).2 rfl rfl (fun e he => by rw [List.mem_singleton.1 he]) (fun hG => ob_fieldAddr fl_75_2 rfl rfl (Opd.gd hG Opd.t0)))
            (allOT_cons (OT.guard (outs := [(108, (k_shelf_nodeT.pd n37.left))]) r31 (gT r31).1 (gT r31).2 rfl rfl (fun e he => by rw [List.mem_singleton.1 he]) (fun hG => ob_load ty_26 rfl rfl (Opd.gd hG Opd.t0)))
            (allOT_cons (OT.guard (outs := [(109, (pInt .i64 r39))]) r31 (gT r31).1 (gT r31).2 rfl rfl (fun e he => by rw [List.mem_singleton.1 he]) (fun hG => ob_call en_33 (shelf_node_count_ok _ (gd_true h40 hG)) rfl rfl (.cons (Opd.gd hG Opd.t0) .nil)))
            (allOT_cons (OT.guard (outs := [(110, (pInt .i64 (IntKind.i64.wrap (r39 + (1 : Int)))))]) r31 (gT r31).1 (gT r31).2 rfl rfl (fun e he => by rw [List.mem_singleton.1 he]) (fun hG => ob_add rfl rfl (Opd.gd hG Opd.t0) (Opd.c (int_q _ _)) rfl))
            (allOT_cons (OT.guard (outs := [(111, (pInt .i64 (IntKind.i64.wrap ((2 : Int) * (IntKind.i64.wrap (r39 + (1 : Int)))))))]) r31 (gT r31).1 (gT r31).2 rfl rfl (fun e he => by rw [List.mem_singleton.1 he]) (fun hG => ob_mul rfl rfl (Opd.c (int_q _ _)) (Opd.gd hG Opd.t0) rfl))
            (allOT_cons (OT.guard (outs := [(112, (pBool (decide ((IntKind.i64.wrap (r35 + (1 : Int))) < (IntKind.i64.wrap ((2 : Int) * (IntKind.i64.wrap (r39 + (1 : Int)))))))))]) r31 (gT r31).1 (gT r31).2 rfl rfl (fun e he => by rw [List.mem_singleton.1 he]) (fun hG => ob_lt rfl rfl (Opd.gd hG Opd.t0) (Opd.gd hG (Opd.tl Opd.t0))))
            (allOT_cons (OT.plain rfl (ob_pick (q := (pBool (r31 && (decide ((IntKind.i64.wrap (r35 + (1 : Int))) < (IntKind.i64.wrap ((2 : Int) * (IntKind.i64.wrap (r39 + (1 : Int)))))))))) rfl rfl Opd.t0 (fun hz => Opd.to (Opd.gd hz (Opd.tl Opd.t0)) (congrArg (fun t => (pBool t)) (pk_and_t hz))) (fun hz => Opd.to (Opd.c (bool_q _)) (congrArg (fun t => (pBool t)) (pk_and_f hz)))))
            (allOT_cons (OT.plain rfl (ob_assign rfl rfl Opd.t0))
            allOT_nil))))))))))))))))))))
          (hst.pick [0, 1, 2, 3] rfl) hb (fun a g hst hb => ?_)
      refine then_n ?_
      refine wp_cond_split (hst.bool 4 rfl) (fun hc41 => ?_) (fun hc41 => ?_)
      · replace H0 := ite_t hc41 H0
        refine wp_seq ?_
        obtain ⟨n42, h43, H0⟩ := of_bind H0
        obtain ⟨r44, h45, H0⟩ := of_bind H0
        obtain ⟨r46, h47, H0⟩ := of_bind H0
        refine wp_reg follows (N := 182) (L := [(0, (pStr a0)), (2, (k_shelf_nodeT.pd a2)), (3, (k_shelf_nodeT.pd a3)), (5, (k_api_Record.ptr a1))])
            (T := [⟨[.old 1], [(114, (k_shelf_nodeT.pd a2))], [], [], [114]⟩,
              ⟨[.op 0 0], [(115, (k_shelf_node.ptr n42))], [], [0], [115]⟩,
              ⟨[.op 1 0], [(116, (Kd.str.ptr n42.key))], [], [0, 1], [116]⟩,
              ⟨[.op 2 0], [(117, (pStr n42.key))], [], [0, 1, 2], [117]⟩,
              ⟨[.old 1], [(118, (k_shelf_nodeT.pd a2))], [], [], [118]⟩,
              ⟨[.op 4 0], [(119, (k_shelf_node.ptr n42))], [], [4], [119]⟩,
              ⟨[.op 5 0], [(120, (k_api_Record.ptr n42.rec_))], [], [4, 5], [120]⟩,
              ⟨[.op 6 0], [(121, (k_api_Record.pd n42.rec_))], [], [4, 5, 6], [121]⟩,
              ⟨[.old 1], [(122, (k_shelf_nodeT.pd a2))], [], [], [122]⟩,
              ⟨[.op 8 0], [(123, (k_shelf_node.ptr n42))], [], [8], [123]⟩,
              ⟨[.op 9 0], [(124, (k_shelf_nodeT.ptr n42.left))], [], [8, 9], [124]⟩,
              ⟨[.op 10 0], [(125, (k_shelf_nodeT.pd n42.left))], [], [8, 9, 10], [125]⟩,
              ⟨[.old 0], [(126, (pStr a0))], [], [], [126]⟩,
              ⟨[.old 3], [(127, (k_api_Record.pd a1))], [], [], [127]⟩,
              ⟨[.old 1], [(128, (k_shelf_nodeT.pd a2))], [], [], [128]⟩,
              ⟨[.op 14 0], [(129, (k_shelf_node.ptr n42))], [], [14], [129]⟩,
              ⟨[.op 15 0], [(130, (k_shelf_nodeT.ptr n42.right))], [], [14, 15], [130]⟩,
              ⟨[.op 16 0], [(131, (k_shelf_nodeT.pd n42.right))], [], [14, 15, 16], [131]⟩,
              ⟨[.old 2], [(132, (k_shelf_nodeT.pd a3))], [], [], [132]⟩,
              ⟨[.op 12 0, .op 13 0, .op 17 0, .op 18 0], [(133, (k_shelf_nodeT.pd r44))], [], [12, 13, 14, 15, 16, 17, 18], [133]⟩,
              ⟨[.op 3 0, .op 7 0, .op 11 0, .op 19 0], [(134, (k_shelf_nodeT.pd r46))], [], [0, 1, 2, 3, 4, 5, 6, 7, 8, 9, 10, 11, 12, 13, 14, 15, 16, 17, 18, 19], [134]⟩,
              ⟨[.op 20 0], [(8, (k_shelf_nodeT.pd r46))], [], [0, 1, 2, 3, 4, 5, 6, 7, 8, 9, 10, 11, 12, 13, 14, 15, 16, 17, 18, 19, 20], [8]⟩])
            (F := [.op 21 0]) (by kernel_rfl)
            (allOT_cons (OT.plain rfl (ob_move rfl rfl Opd.t0))
              (allOT_cons (OT.plain rfl (ob_nilCheck rfl rfl (Opd.imp Opd.t0 (fun _ _ h => shelf_nodeT_node h43 h)) (fun _ _ ⟨_, _, _, e, _⟩ => ⟨_, e⟩)))
              (allOT_cons (OT.plain rfl (ob_fieldAddr fl_75_0 rfl rfl Opd.t0))
              (allOT_cons (OT.plain rfl (ob_load ty_9 rfl rfl Opd.t0))
              (allOT_cons (OT.plain rfl (ob_move rfl rfl Opd.t0))
              (allOT_cons (OT.plain rfl (ob_nilCheck rfl rfl (Opd.imp Opd.t0 (fun _ _ h => shelf_nodeT_node h43 h)) (fun _ _ ⟨_, _, _, e, _⟩ => ⟨_, e⟩)))
              (allOT_cons (OT.plain rfl (ob_fieldAddr fl_75_1 rfl rfl Opd.t0))
              (allOT_cons (OT.plain rfl (ob_load ty_38 rfl rfl Opd.t0))
              (allOT_cons (OT.plain rfl (ob_move rfl rfl Opd.t0))
              (allOT_cons (OT.plain rfl (ob_nilCheck rfl rfl (Opd.imp Opd.t0 (fun _ _ h => shelf_nodeT_node h43 h)) (fun _ _ ⟨_, _, _, e, _⟩ => ⟨_, e⟩)))
              (allOT_cons (OT.plain rfl (ob_fieldAddr fl_75_2 rfl rfl Opd.t0))
              (allOT_cons (OT.plain rfl (ob_load ty_26 rfl rfl Opd.t0))
              (allOT_cons (OT.plain rfl (ob_move rfl rfl Opd.t0))
              (allOT_cons (OT.plain rfl (ob_load ty_38 rfl rfl Opd.t0))
              (allOT_cons (OT.plain rfl (ob_move rfl rfl Opd.t0))
              (allOT_cons (OT.plain rfl (ob_nilCheck rfl rfl (Opd.imp Opd.t0 (fun _ _ h => shelf_nodeT_node h43 h)) (fun _ _ ⟨_, _, _, e, _⟩ => ⟨_, e⟩)))
              (allOT_cons (OT.plain rfl (ob_fieldAddr fl_75_3 rfl rfl Opd.t0))
              (allOT_cons (OT.plain rfl (ob_load ty_26 rfl rfl Opd.t0))
              (allOT_cons (OT.plain rfl (ob_move rfl rfl Opd.t0))
              (allOT_cons (OT.plain rfl (ob_call en_51 (shelf_made_ok _ _ _ _ h45) rfl rfl (.cons Opd.t0 (.cons (Opd.tl Opd.t0) (.cons (Opd.tl (Opd.tl Opd.t0)) (.cons (Opd.tl (Opd.tl (Opd.tl Opd.t0))) .nil))))))
              (allOT_cons (OT.plain rfl (ob_call en_51 (shelf_made_ok _ _ _ _ h47) rfl rfl (.cons Opd.t0 (.cons (Opd.tl Opd.t0) (.cons (Opd.tl (Opd.tl Opd.t0)) (.cons (Opd.tl (Opd.tl (Opd.tl Opd.t0))) .nil))))))
              (allOT_cons (OT.plain rfl (ob_assign rfl rfl Opd.t0))
              allOT_nil))))))))))))))))))))))
            (hst.pick [0, 1, 2, 3] rfl) hb (fun a g hst hb => ?_)
        refine then_n ?_
        refine wp_ret ?_
        refine inBlock_r ?_
        refine then_r ?_
        obtain rfl := Option.some.inj H0
        exact endR1 rfl hst hb (res_tmp (s := 8)) (hst.at 0 rfl)
      · replace H0 := ite_f hc41 H0
        refine wp_seq ?_
        obtain ⟨r48, h49, H0⟩ := of_bind H0
        refine wp_reg follows (N := 182) (L := [(0, (pStr a0)), (2, (k_shelf_nodeT.pd a2)), (3, (k_shelf_nodeT.pd a3)), (5, (k_api_Record.ptr a1))])
            (T := [⟨[.old 1], [(136, (k_shelf_nodeT.pd a2))], [], [], [136]⟩,
              ⟨[.old 2], [(137, (k_shelf_nodeT.pd a3))], [], [], [137]⟩,
              ⟨[.op 0 0, .op 1 0], [(138, (pBool r48))], [], [0, 1], [138]⟩,
              ⟨[.op 2 0], [(135, (pBool r48))], [], [0, 1, 2], [135]⟩])
            (F := [.old 0, .old 1, .old 2, .old 3, .op 3 0]) (by kernel_rfl)
            (allOT_cons (OT.plain rfl (ob_move rfl rfl Opd.t0))
              (allOT_cons (OT.plain rfl (ob_move rfl rfl Opd.t0))
              (allOT_cons (OT.plain rfl (ob_call en_63 (shelf_heavy_ok _ _ h49) rfl rfl (.cons Opd.t0 (.cons (Opd.tl Opd.t0) .nil))))
              (allOT_cons (OT.plain rfl (ob_assign rfl rfl Opd.t0))
              allOT_nil))))
            (hst.pick [0, 1, 2, 3] rfl) hb (fun a g hst hb => ?_)
        refine then_n ?_
        refine wp_cond_split (hst.bool 4 rfl) (fun hc50 => ?_) (fun hc50 => ?_)
        · replace H0 := ite_t hc50 H0
          refine wp_seq ?_
          obtain ⟨n51, h52, H0⟩ := of_bind H0
          refine wp_reg follows (N := 182) (L := [(0, (pStr a0)), (2, (k_shelf_nodeT.pd a2)), (3, (k_shelf_nodeT.pd a3)), (5, (k_api_Record.ptr a1))])
              (T := [⟨[.old 1], [(139, (k_shelf_nodeT.pd a2))], [], [], [139]⟩,
                ⟨[.op 0 0], [(140, (k_shelf_node.ptr n51))], [], [0], [140]⟩,
                ⟨[.op 1 0], [(141, (k_shelf_nodeT.ptr n51.right))], [], [0, 1], [141]⟩,
                ⟨[.op 2 0], [(142, (k_shelf_nodeT.pd n51.right))], [], [0, 1, 2], [142]⟩,
                ⟨[.op 3 0], [(10, (k_shelf_nodeT.pd n51.right))], [], [0, 1, 2, 3], [10]⟩])
              (F := [.old 0, .old 1, .old 2, .old 3, .op 4 0]) (by kernel_rfl)
              (allOT_cons (OT.plain rfl (ob_move rfl rfl Opd.t0))
                (allOT_cons (OT.plain rfl (ob_nilCheck rfl rfl (Opd.imp Opd.t0 (fun _ _ h => shelf_nodeT_node h52 h)) (fun _ _ ⟨_, _, _, e, _⟩ => ⟨_, e⟩)))
                (allOT_cons (OT.plain rfl (ob_fieldAddr fl_75_3 rfl rfl Opd.t0))
                (allOT_cons (OT.plain rfl (ob_load ty_26 rfl rfl Opd.t0))
                (allOT_cons (OT.plain rfl (ob_assign rfl rfl Opd.t0))
                allOT_nil)))))
              (hst.pick [0, 1, 2, 3] rfl) hb (fun a g hst hb => ?_)
          refine then_n ?_
          refine wp_seq ?_
          obtain ⟨n53, h54, H0⟩ := of_bind H0
          obtain ⟨r55, h56, H0⟩ := of_bind H0
          obtain ⟨r57, h58, H0⟩ := of_bind H0
          obtain ⟨r59, h60, H0⟩ := of_bind H0
          refine wp_reg follows (N := 182) (L := [(0, (pStr a0)), (2, (k_shelf_nodeT.pd a2)), (3, (k_shelf_nodeT.pd a3)), (5, (k_api_Record.ptr a1)), (10, (k_shelf_nodeT.pd n51.right))])
              (T := [⟨[.old 4], [(143, (k_shelf_nodeT.pd n51.right))], [], [], [143]⟩,
                ⟨[.op 0 0], [(144, (k_shelf_node.ptr n53))], [], [0], [144]⟩,
                ⟨[.op 1 0], [(145, (Kd.str.ptr n53.key))], [], [0, 1], [145]⟩,
                ⟨[.op 2 0], [(146, (pStr n53.key))], [], [0, 1, 2], [146]⟩,
                ⟨[.old 4], [(147, (k_shelf_nodeT.pd n51.right))], [], [], [147]⟩,
                ⟨[.op 4 0], [(148, (k_shelf_node.ptr n53))], [], [4], [148]⟩,
                ⟨[.op 5 0], [(149, (k_api_Record.ptr n53.rec_))], [], [4, 5], [149]⟩,
                ⟨[.op 6 0], [(150, (k_api_Record.pd n53.rec_))], [], [4, 5, 6], [150]⟩,
                ⟨[.old 1], [(151, (k_shelf_nodeT.pd a2))], [], [], [151]⟩,
                ⟨[.op 8 0], [(152, (k_shelf_node.ptr n51))], [], [8], [152]⟩,
                ⟨[.op 9 0], [(153, (Kd.str.ptr n51.key))], [], [8, 9], [153]⟩,
                ⟨[.op 10 0], [(154, (pStr n51.key))], [], [8, 9, 10], [154]⟩,
                ⟨[.old 1], [(155, (k_shelf_nodeT.pd a2))], [], [], [155]⟩,
                ⟨[.op 12 0], [(156, (k_shelf_node.ptr n51))], [], [12], [156]⟩,
                ⟨[.op 13 0], [(157, (k_api_Record.ptr n51.rec_))], [], [12, 13], [157]⟩,
                ⟨[.op 14 0], [(158, (k_api_Record.pd n51.rec_))], [], [12, 13, 14], [158]⟩,
                ⟨[.old 1], [(159, (k_shelf_nodeT.pd a2))], [], [], [159]⟩,
                ⟨[.op 16 0], [(160, (k_shelf_node.ptr n51))], [], [16], [160]⟩,
                ⟨[.op 17 0], [(161, (k_shelf_nodeT.ptr n51.left))], [], [16, 17], [161]⟩,
                ⟨[.op 18 0], [(162, (k_shelf_nodeT.pd n51.left))], [], [16, 17, 18], [162]⟩,
                ⟨[.old 4], [(163, (k_shelf_nodeT.pd n51.right))], [], [], [163]⟩,
                ⟨[.op 20 0], [(164, (k_shelf_node.ptr n53))], [], [20], [164]⟩,
                ⟨[.op 21 0], [(165, (k_shelf_nodeT.ptr n53.left))], [], [20, 21], [165]⟩,
                ⟨[.op 22 0], [(166, (k_shelf_nodeT.pd n53.left))], [], [20, 21, 22], [166]⟩,
                ⟨[.op 11 0, .op 15 0, .op 19 0, .op 23 0], [(167, (k_shelf_nodeT.pd r55))], [], [8, 9, 10, 11, 12, 13, 14, 15, 16, 17, 18, 19, 20, 21, 22, 23], [167]⟩,
                ⟨[.old 0], [(168, (pStr a0))], [], [], [168]⟩,
                ⟨[.old 3], [(169, (k_api_Record.pd a1))], [], [], [169]⟩,
                ⟨[.old 4], [(170, (k_shelf_nodeT.pd n51.right))], [], [], [170]⟩,
                ⟨[.op 27 0], [(171, (k_shelf_node.ptr n53))], [], [27], [171]⟩,
                ⟨[.op 28 0], [(172, (k_shelf_nodeT.ptr n53.right))], [], [27, 28], [172]⟩,
                ⟨[.op 29 0], [(173, (k_shelf_nodeT.pd n53.right))], [], [27, 28, 29], [173]⟩,
                ⟨[.old 2], [(174, (k_shelf_nodeT.pd a3))], [], [], [174]⟩,
                ⟨[.op 25 0, .op 26 0, .op 30 0, .op 31 0], [(175, (k_shelf_nodeT.pd r57))], [], [8, 9, 10, 11, 12, 13, 14, 15, 16, 17, 18, 19, 20, 21, 22, 23, 24, 25, 26, 27, 28, 29, 30, 31], [175]⟩,
                ⟨[.op 3 0, .op 7 0, .op 24 0, .op 32 0], [(176, (k_shelf_nodeT.pd r59))], [], [0, 1, 2, 3, 4, 5, 6, 7, 8, 9, 10, 11, 12, 13, 14, 15, 16, 17, 18, 19, 20, 21, 22, 23, 24, 25, 26, 27, 28, 29, 30, 31, 32], [176]⟩,
                ⟨[.op 33 0], [(8, (k_shelf_nodeT.pd r59))], [], [0, 1, 2, 3, 4, 5, 6, 7, 8, 9, 10, 11, 12, 13, 14, 15, 16, 17, 18, 19, 20, 21, 22, 23, 24, 25, 26, 27, 28, 29, 30, 31, 32, 33], [8]⟩])
              (F := [.op 34 0]) (by kernel_rfl)
              (allOT_cons (OT.plain rfl (ob_move rfl rfl Opd.t0))
                (allOT_cons (OT.plain rfl (ob_nilCheck rfl rfl (Opd.imp Opd.t0 (fun _ _ h => shelf_nodeT_node h54 h)) (fun _ _ ⟨_, _, _, e, _⟩ => ⟨_, e⟩)))
                (allOT_cons (OT.plain rfl (ob_fieldAddr fl_75_0 rfl rfl Opd.t0))
                (allOT_cons (OT.plain rfl (ob_load ty_9 rfl rfl Opd.t0))
                (allOT_cons (OT.plain rfl (ob_move rfl rfl Opd.t0))
                (allOT_cons (OT.plain rfl (ob_nilCheck rfl rfl (Opd.imp Opd.t0 (fun _ _ h => shelf_nodeT_node h54 h)) (fun _ _ ⟨_, _, _, e, _⟩ => ⟨_, e⟩)))
                (allOT_cons (OT.plain rfl (ob_fieldAddr fl_75_1 rfl rfl Opd.t0))
                (allOT_cons (OT.plain rfl (ob_load ty_38 rfl rfl Opd.t0))
                (allOT_cons (OT.plain rfl (ob_move rfl rfl Opd.t0))
                (allOT_cons (OT.plain rfl (ob_nilCheck rfl rfl (Opd.imp Opd.t0 (fun _ _ h => shelf_nodeT_node h52 h)) (fun _ _ ⟨_, _, _, e, _⟩ => ⟨_, e⟩)))
                (allOT_cons (OT.plain rfl (ob_fieldAddr fl_75_0 rfl rfl Opd.t0))
                (allOT_cons (OT.plain rfl (ob_load ty_9 rfl rfl Opd.t0))
                (allOT_cons (OT.plain rfl (ob_move rfl rfl Opd.t0))
                (allOT_cons (OT.plain rfl (ob_nilCheck rfl rfl (Opd.imp Opd.t0 (fun _ _ h => shelf_nodeT_node h52 h)) (fun _ _ ⟨_, _, _, e, _⟩ => ⟨_, e⟩)))
                (allOT_cons (OT.plain rfl (ob_fieldAddr fl_75_1 rfl rfl Opd.t0))
                (allOT_cons (OT.plain rfl (ob_load ty_38 rfl rfl Opd.t0))
                (allOT_cons (OT.plain rfl (ob_move rfl rfl Opd.t0))
                (allOT_cons (OT.plain rfl (ob_nilCheck rfl rfl (Opd.imp Opd.t0 (fun _ _ h => shelf_nodeT_node h52 h)) (fun _ _ ⟨_, _, _, e, _⟩ => ⟨_, e⟩)))
                (allOT_cons (OT.plain rfl (ob_fieldAddr fl_75_2 rfl rfl Opd.t0))
                (allOT_cons (OT.plain rfl (ob_load ty_26 rfl rfl Opd.t0))
                (allOT_cons (OT.plain rfl (ob_move rfl rfl Opd.t0))
                (allOT_cons (OT.plain rfl (ob_nilCheck rfl rfl (Opd.imp Opd.t0 (fun _ _ h => shelf_nodeT_node h54 h)) (fun _ _ ⟨_, _, _, e, _⟩ => ⟨_, e⟩)))
                (allOT_cons (OT.plain rfl (ob_fieldAddr fl_75_2 rfl rfl Opd.t0))
                (allOT_cons (OT.plain rfl (ob_load ty_26 rfl rfl Opd.t0))
                (allOT_cons (OT.plain rfl (ob_call en_51 (shelf_made_ok _ _ _ _ h56) rfl rfl (.cons Opd.t0 (.cons (Opd.tl Opd.t0) (.cons (Opd.tl (Opd.tl Opd.t0)) (.cons (Opd.tl (Opd.tl (Opd.tl Opd.t0))) .nil))))))
                (allOT_cons (OT.plain rfl (ob_move rfl rfl Opd.t0))
                (allOT_cons (OT.plain rfl (ob_load ty_38 rfl rfl Opd.t0))
                (allOT_cons (OT.plain rfl (ob_move rfl rfl Opd.t0))
                (allOT_cons (OT.plain rfl (ob_nilCheck rfl rfl (Opd.imp Opd.t0 (fun _ _ h => shelf_nodeT_node h54 h)) (fun _ _ ⟨_, _, _, e, _⟩ => ⟨_, e⟩)))
                (allOT_cons (OT.plain rfl (ob_fieldAddr fl_75_3 rfl rfl Opd.t0))
                (allOT_cons (OT.plain rfl (ob_load ty_26 rfl rfl Opd.t0))
                (allOT_cons (OT.plain rfl (ob_move rfl rfl Opd.t0))
                (allOT_cons (OT.plain rfl (ob_call en_51 (shelf_made_ok _ _ _ _ h58) rfl rfl (.cons Opd.t0 (.cons (Opd.tl Opd.t0) (.cons (Opd.tl (Opd.tl Opd.t0)) (.cons (Opd.tl (Opd.tl (Opd.tl Opd.t0))) .nil))))))
                (allOT_cons (OT.plain rfl (ob_call en_51 (shelf_made_ok _ _ _ _ h60) rfl rfl (.cons Opd.t0 (.cons (Opd.tl Opd.t0) (.cons (Opd.tl (Opd.tl Opd.t0)) (.cons (Opd.tl (Opd.tl (Opd.tl Opd.t0))) .nil))))))
                (allOT_cons (OT.plain rfl (ob_assign rfl rfl Opd.t0))
                allOT_nil)))))))))))))))))))))))))))))))))))
              hst hb (fun a g hst hb => ?_)
          refine then_n ?_
          refine wp_ret ?_
          refine inBlock_r ?_
          refine then_r ?_
          obtain rfl := Option.some.inj H0
          exact endR1 rfl hst hb (res_tmp (s := 8)) (hst.at 0 rfl)
        · replace H0 := ite_f hc50 H0
          refine wp_skip ?_
          refine inBlock_n ?_
          refine then_n ?_
          refine wp_seq ?_
          obtain ⟨r61, h62, H0⟩ := of_bind H0
          refine wp_reg follows (N := 182) (L := [(0, (pStr a0)), (2, (k_shelf_nodeT.pd a2)), (3, (k_shelf_nodeT.pd a3)), (5, (k_api_Record.ptr a1))])
              (T := [⟨[.old 0], [(177, (pStr a0))], [], [], [177]⟩,
                ⟨[.old 3], [(178, (k_api_Record.pd a1))], [], [], [178]⟩,
                ⟨[.old 1], [(179, (k_shelf_nodeT.pd a2))], [], [], [179]⟩,
                ⟨[.old 2], [(180, (k_shelf_nodeT.pd a3))], [], [], [180]⟩,
                ⟨[.op 0 0, .op 1 0, .op 2 0, .op 3 0], [(181, (k_shelf_nodeT.pd r61))], [], [0, 1, 2, 3], [181]⟩,
                ⟨[.op 4 0], [(8, (k_shelf_nodeT.pd r61))], [], [0, 1, 2, 3, 4], [8]⟩])
              (F := [.op 5 0]) (by kernel_rfl)
              (allOT_cons (OT.plain rfl (ob_move rfl rfl Opd.t0))
                (allOT_cons (OT.plain rfl (ob_load ty_38 rfl rfl Opd.t0))
                (allOT_cons (OT.plain rfl (ob_move rfl rfl Opd.t0))
                (allOT_cons (OT.plain rfl (ob_move rfl rfl Opd.t0))
                (allOT_cons (OT.plain rfl (ob_call en_51 (shelf_made_ok _ _ _ _ h62) rfl rfl (.cons Opd.t0 (.cons (Opd.tl Opd.t0) (.cons (Opd.tl (Opd.tl Opd.t0)) (.cons (Opd.tl (Opd.tl (Opd.tl Opd.t0))) .nil))))))
                (allOT_cons (OT.plain rfl (ob_assign rfl rfl Opd.t0))
                allOT_nil))))))
              (hst.pick [0, 1, 2, 3] rfl) hb (fun a g hst hb => ?_)
          refine then_n ?_
          refine wp_ret ?_
          obtain rfl := Option.some.inj H0
          exact endR1 rfl hst hb (res_tmp (s := 8)) (hst.at 0 rfl)
end Go.CL

set_option linter.unusedVariables false
set_option linter.unusedSimpArgs false
set_option maxRecDepth 100000
namespace Go.CL
open Go Go.RowKit Go.Proofs
theorem shelf_node_set_b_ok (self : shelf_nodeT → ByteArray → api_Record → Option (shelf_nodeT)) (hself : ∀ (a0 : shelf_nodeT) (a1 : ByteArray) (a2 : api_Record) {r : shelf_nodeT}, self a0 a1 a2 = some r → FnOk Try.prog 36 [(k_shelf_nodeT.pd a0), (pStr a1), (k_api_Record.pd a2)] (k_shelf_nodeT.pd r)) (a0 : shelf_nodeT) (a1 : ByteArray) (a2 : api_Record) {r : shelf_nodeT} (h : shelf_node_set_b self a0 a1 a2 = some r) : FnOk Try.prog 36 [(k_shelf_nodeT.pd a0), (pStr a1), (k_api_Record.pd a2)] (k_shelf_nodeT.pd r) := by
  have H0 := h
  unfold shelf_node_set_b at H0
  clear h
  refine fn_ok (N := 78) Try.func36 rfl rfl (Nat.le_of_ble_eq_true rfl) rfl rfl (fun a g0 hst hb => ?_)
  refine wp_seq ?_
  refine wp_reg follows (N := 78) (L := [(0, (k_shelf_nodeT.pd a0)), (1, (pStr a1)), (2, (k_api_Record.pd a2))])
      (T := [⟨[.old 2], [(5, (k_api_Record.ptr a2))], [], [], [5]⟩,
        ⟨[], [(6, (k_shelf_nodeT.pd shelf_nodeT.nil))], [], [], [6]⟩])
      (F := [.old 0, .old 1, .op 0 0]) (by kernel_rfl)
      (allOT_cons (OT.plain rfl (ob_box1 rfl rfl Opd.t0))
        (allOT_cons (OT.plain rfl (ob_assign rfl rfl (Opd.c (fun g => k_shelf_nodeT_nil_q g))))
        allOT_nil))
      hst hb (fun a g hst hb => ?_)
  refine then_n ?_
  refine wp_seq ?_
  refine wp_block ?_
  refine wp_seq ?_
  refine wp_reg follows (N := 78) (L := [(0, (k_shelf_nodeT.pd a0)), (1, (pStr a1)), (5, (k_api_Record.ptr a2))])
      (T := [⟨[.old 0], [(8, (k_shelf_nodeT.pd a0))], [], [], [8]⟩,
        ⟨[.op 0 0], [(9, (pBool a0.isNil))], [], [0], [9]⟩,
        ⟨[.op 1 0], [(7, (pBool a0.isNil))], [], [0, 1], [7]⟩])
      (F := [.old 0, .old 1, .old 2, .op 2 0]) (by kernel_rfl)
      (allOT_cons (OT.plain rfl (ob_move rfl rfl Opd.t0))
        (allOT_cons (OT.plain rfl (ob_peq Try.underlying26 rfl rfl Opd.t0 (shelf_nodeT_isptr _)))
        (allOT_cons (OT.plain rfl (ob_assign rfl rfl Opd.t0))
        allOT_nil)))
      hst hb (fun a g hst hb => ?_)
  refine then_n ?_
  refine wp_cond_split (hst.bool 3 rfl) (fun hc1 => ?_) (fun hc1 => ?_)
  · replace H0 := ite_t hc1 H0
    refine wp_seq ?_
    obtain ⟨r2, h3, H0⟩ := of_bind H0
    refine wp_reg follows (N := 78) (L := [(1, (pStr a1)), (5, (k_api_Record.ptr a2))])
        (T := [⟨[.old 0], [(10, (pStr a1))], [], [], [10]⟩,
          ⟨[.old 1], [(11, (k_api_Record.pd a2))], [], [], [11]⟩,
          ⟨[.op 0 0, .op 1 0], [(12, (k_shelf_nodeT.pd r2))], [], [0, 1], [12]⟩,
          ⟨[.op 2 0], [(6, (k_shelf_nodeT.pd r2))], [], [0, 1, 2], [6]⟩])
        (F := [.op 3 0]) (by kernel_rfl)
        (allOT_cons (OT.plain rfl (ob_move rfl rfl Opd.t0))
          (allOT_cons (OT.plain rfl (ob_load ty_38 rfl rfl Opd.t0))
          (allOT_cons (OT.plain rfl (ob_call en_51 (shelf_made_ok _ _ _ _ h3) rfl rfl (.cons Opd.t0 (.cons (Opd.tl Opd.t0) (.cons (Opd.c (fun g => k_shelf_nodeT_nil_q g)) (.cons (Opd.c (fun g => k_shelf_nodeT_nil_q g)) .nil))))))
          (allOT_cons (OT.plain rfl (ob_assign rfl rfl Opd.t0))
          allOT_nil))))
        (hst.pick [1, 2] rfl) hb (fun a g hst hb => ?_)
    refine then_n ?_
    refine wp_ret ?_
    refine inBlock_r ?_
    refine then_r ?_
    obtain rfl := Option.some.inj H0
    exact endR1 rfl hst hb (res_tmp (s := 6)) (hst.at 0 rfl)
  · replace H0 := ite_f hc1 H0
    refine wp_seq ?_
    obtain ⟨n4, h5, H0⟩ := of_bind H0
    refine wp_reg follows (N := 78) (L := [(0, (k_shelf_nodeT.pd a0)), (1, (pStr a1)), (5, (k_api_Record.ptr a2))])
        (T := [⟨[.old 1], [(14, (pStr a1))], [], [], [14]⟩,
          ⟨[.old 0], [(15, (k_shelf_nodeT.pd a0))], [], [], [15]⟩,
          ⟨[.op 1 0], [(16, (k_shelf_node.ptr n4))], [], [1], [16]⟩,
          ⟨[.op 2 0], [(17, (Kd.str.ptr n4.key))], [], [1, 2], [17]⟩,
          ⟨[.op 3 0], [(18, (pStr n4.key))], [], [1, 2, 3], [18]⟩,
          ⟨[.op 0 0, .op 4 0], [(19, (pBool (sLt a1 n4.key)))], [], [0, 1, 2, 3, 4], [19]⟩,
          ⟨[.op 5 0], [(13, (pBool (sLt a1 n4.key)))], [], [0, 1, 2, 3, 4, 5], [13]⟩])
        (F := [.old 0, .old 1, .old 2, .op 6 0]) (by kernel_rfl)
        (allOT_cons (OT.plain rfl (ob_move rfl rfl Opd.t0))
          (allOT_cons (OT.plain rfl (ob_move rfl rfl Opd.t0))
          (allOT_cons (OT.plain rfl (ob_nilCheck rfl rfl (Opd.imp Opd.t0 (fun _ _ h => shelf_nodeT_node h5 h)) (fun _ _ ⟨_, _, _, e, _⟩ => ⟨_, e⟩)))
          (allOT_cons (OT.plain rfl (ob_fieldAddr fl_75_0 rfl rfl Opd.t0))
          (allOT_cons (OT.plain rfl (ob_load ty_9 rfl rfl Opd.t0))
          (allOT_cons (OT.plain rfl (ob_slt rfl rfl Opd.t0 (Opd.tl Opd.t0)))
          (allOT_cons (OT.plain rfl (ob_assign rfl rfl Opd.t0))
          allOT_nil)))))))
        (hst.pick [0, 1, 2] rfl) hb (fun a g hst hb => ?_)
    refine then_n ?_
    refine wp_cond_split (hst.bool 3 rfl) (fun hc6 => ?_) (fun hc6 => ?_)
    · replace H0 := ite_t hc6 H0
      refine wp_seq ?_
      obtain ⟨r7, h8, H0⟩ := of_bind H0
      obtain ⟨r9, h10, H0⟩ := of_bind H0
      refine wp_reg follows (N := 78) (L := [(0, (k_shelf_nodeT.pd a0)), (1, (pStr a1)), (5, (k_api_Record.ptr a2))])
          (T := [⟨[.old 0], [(20, (k_shelf_nodeT.pd a0))], [], [], [20]⟩,
            ⟨[.op 0 0], [(21, (k_shelf_node.ptr n4))], [], [0], [21]⟩,
            ⟨[.op 1 0], [(22, (Kd.str.ptr n4.key))], [], [0, 1], [22]⟩,
            ⟨[.op 2 0], [(23, (pStr n4.key))], [], [0, 1, 2], [23]⟩,
            ⟨[.old 0], [(24, (k_shelf_nodeT.pd a0))], [], [], [24]⟩,
            ⟨[.op 4 0], [(25, (k_shelf_node.ptr n4))], [], [4], [25]⟩,
            ⟨[.op 5 0], [(26, (k_api_Record.ptr n4.rec_))], [], [4, 5], [26]⟩,
            ⟨[.op 6 0], [(27, (k_api_Record.pd n4.rec_))], [], [4, 5, 6], [27]⟩,
            ⟨[.old 0], [(28, (k_shelf_nodeT.pd a0))], [], [], [28]⟩,
            ⟨[.op 8 0], [(29, (k_shelf_node.ptr n4))], [], [8], [29]⟩,
            ⟨[.op 9 0], [(30, (k_shelf_nodeT.ptr n4.left))], [], [8, 9], [30]⟩,
            ⟨[.op 10 0], [(31, (k_shelf_nodeT.pd n4.left))], [], [8, 9, 10], [31]⟩,
            ⟨[.old 1], [(32, (pStr a1))], [], [], [32]⟩,
            ⟨[.old 2], [(33, (k_api_Record.pd a2))], [], [], [33]⟩,
            ⟨[.op 11 0, .op 12 0, .op 13 0], [(34, (k_shelf_nodeT.pd r7))], [], [8, 9, 10, 11, 12, 13], [34]⟩,
            ⟨[.old 0], [(35, (k_shelf_nodeT.pd a0))], [], [], [35]⟩,
            ⟨[.op 15 0], [(36, (k_shelf_node.ptr n4))], [], [15], [36]⟩,
            ⟨[.op 16 0], [(37, (k_shelf_nodeT.ptr n4.right))], [], [15, 16], [37]⟩,
            ⟨[.op 17 0], [(38, (k_shelf_nodeT.pd n4.right))], [], [15, 16, 17], [38]⟩,
            ⟨[.op 3 0, .op 7 0, .op 14 0, .op 18 0], [(39, (k_shelf_nodeT.pd r9))], [], [0, 1, 2, 3, 4, 5, 6, 7, 8, 9, 10, 11, 12, 13, 14, 15, 16, 17, 18], [39]⟩,
            ⟨[.op 19 0], [(6, (k_shelf_nodeT.pd r9))], [], [0, 1, 2, 3, 4, 5, 6, 7, 8, 9, 10, 11, 12, 13, 14, 15, 16, 17, 18, 19], [6]⟩])
          (F := [.op 20 0]) (by kernel_rfl)
          (allOT_cons (OT.plain rfl (ob_move rfl rfl Opd.t0))
            (allOT_cons (OT.plain rfl (ob_nilCheck rfl rfl (Opd.imp Opd.t0 (fun _ _ h => shelf_nodeT_node h5 h)) (fun _ _ ⟨_, _, _, e, _⟩ => ⟨_, e⟩)))
            (allOT_cons (OT.plain rfl (ob_fieldAddr fl_75_0 rfl rfl Opd.t0))
            (allOT_cons (OT.plain rfl (ob_load ty_9 rfl rfl Opd.t0))
            (allOT_cons (OT.plain rfl (ob_move rfl rfl Opd.t0))
            (allOT_cons (OT.plain rfl (ob_nilCheck rfl rfl (Opd.imp Opd.t0 (fun _ _ h => shelf_nodeT_node h5 h)) (fun _ _ ⟨_, _, _, e, _⟩ => ⟨_, e⟩)))
            (allOT_cons (OT.plain rfl (ob_fieldAddr fl_75_1 rfl rfl Opd.t0))
            (allOT_cons (OT.plain rfl (ob_load ty_38 rfl rfl Opd.t0))
            (allOT_cons (OT.plain rfl (ob_move rfl rfl Opd.t0))
            (allOT_cons (OT.plain rfl (ob_nilCheck rfl rfl (Opd.imp Opd.t0 (fun _ _ h => shelf_nodeT_node h5 h)) (fun _ _ ⟨_, _, _, e, _⟩ => ⟨_, e⟩)))
            (allOT_cons (OT.plain rfl (ob_fieldAddr fl_75_2 rfl rfl Opd.t0))
            (allOT_cons (OT.plain rfl (ob_load ty_26 rfl rfl Opd.t0))
            (allOT_cons (OT.plain rfl (ob_move rfl rfl Opd.t0))
            (allOT_cons (OT.plain rfl (ob_load ty_38 rfl rfl Opd.t0))
            (allOT_cons (OT.plain rfl (ob_call en_36 (hself _ _ _ h8) rfl rfl (.cons Opd.t0 (.cons (Opd.tl Opd.t0) (.cons (Opd.tl (Opd.tl Opd.t0)) .nil)))))
            (allOT_cons (OT.plain rfl (ob_move rfl rfl Opd.t0))
            (allOT_cons (OT.plain rfl (ob_nilCheck rfl rfl (Opd.imp Opd.t0 (fun _ _ h => shelf_nodeT_node h5 h)) (fun _ _ ⟨_, _, _, e, _⟩ => ⟨_, e⟩)))
            (allOT_cons (OT.plain rfl (ob_fieldAddr fl_75_3 rfl rfl Opd.t0))
            (allOT_cons (OT.plain rfl (ob_load ty_26 rfl rfl Opd.t0))
            (allOT_cons (OT.plain rfl (ob_call en_52 (shelf_even_ok _ _ _ _ h10) rfl rfl (.cons Opd.t0 (.cons (Opd.tl Opd.t0) (.cons (Opd.tl (Opd.tl Opd.t0)) (.cons (Opd.tl (Opd.tl (Opd.tl Opd.t0))) .nil))))))
            (allOT_cons (OT.plain rfl (ob_assign rfl rfl Opd.t0))
            allOT_nil)))))))))))))))))))))
          (hst.pick [0, 1, 2] rfl) hb (fun a g hst hb => ?_)
      refine then_n ?_
      refine wp_ret ?_
      refine inBlock_r ?_
      refine then_r ?_
      obtain rfl := Option.some.inj H0
      exact endR1 rfl hst hb (res_tmp (s := 6)) (hst.at 0 rfl)
    · replace H0 := ite_f hc6 H0
      refine wp_seq ?_
      refine wp_reg follows (N := 78) (L := [(0, (k_shelf_nodeT.pd a0)), (1, (pStr a1)), (5, (k_api_Record.ptr a2))])
          (T := [⟨[.old 1], [(41, (pStr a1))], [], [], [41]⟩,
            ⟨[.old 0], [(42, (k_shelf_nodeT.pd a0))], [], [], [42]⟩,
            ⟨[.op 1 0], [(43, (k_shelf_node.ptr n4))], [], [1], [43]⟩,
            ⟨[.op 2 0], [(44, (Kd.str.ptr n4.key))], [], [1, 2], [44]⟩,
            ⟨[.op 3 0], [(45, (pStr n4.key))], [], [1, 2, 3], [45]⟩,
            ⟨[.op 0 0, .op 4 0], [(46, (pBool (!(sLt a1 n4.key || sEq a1 n4.key))))], [], [0, 1, 2, 3, 4], [46]⟩,
            ⟨[.op 5 0], [(40, (pBool (!(sLt a1 n4.key || sEq a1 n4.key))))], [], [0, 1, 2, 3, 4, 5], [40]⟩])
          (F := [.old 0, .old 1, .old 2, .op 6 0]) (by kernel_rfl)
          (allOT_cons (OT.plain rfl (ob_move rfl rfl Opd.t0))
            (allOT_cons (OT.plain rfl (ob_move rfl rfl Opd.t0))
            (allOT_cons (OT.plain rfl (ob_nilCheck rfl rfl (Opd.imp Opd.t0 (fun _ _ h => shelf_nodeT_node h5 h)) (fun _ _ ⟨_, _, _, e, _⟩ => ⟨_, e⟩)))
            (allOT_cons (OT.plain rfl (ob_fieldAddr fl_75_0 rfl rfl Opd.t0))
            (allOT_cons (OT.plain rfl (ob_load ty_9 rfl rfl Opd.t0))
            (allOT_cons (OT.plain rfl (ob_sgt rfl rfl Opd.t0 (Opd.tl Opd.t0)))
            (allOT_cons (OT.plain rfl (ob_assign rfl rfl Opd.t0))
            allOT_nil)))))))
          (hst.pick [0, 1, 2] rfl) hb (fun a g hst hb => ?_)
      refine then_n ?_
      refine wp_cond_split (hst.bool 3 rfl) (fun hc11 => ?_) (fun hc11 => ?_)
      · replace H0 := ite_t hc11 H0
        refine wp_seq ?_
        obtain ⟨r12, h13, H0⟩ := of_bind H0
        obtain ⟨r14, h15, H0⟩ := of_bind H0
        refine wp_reg follows (N := 78) (L := [(0, (k_shelf_nodeT.pd a0)), (1, (pStr a1)), (5, (k_api_Record.ptr a2))])
            (T := [⟨[.old 0], [(47, (k_shelf_nodeT.pd a0))], [], [], [47]⟩,
              ⟨[.op 0 0], [(48, (k_shelf_node.ptr n4))], [], [0], [48]⟩,
              ⟨[.op 1 0], [(49, (Kd.str.ptr n4.key))], [], [0, 1], [49]⟩,
              ⟨[.op 2 0], [(50, (pStr n4.key))], [], [0, 1, 2], [50]⟩,
              ⟨[.old 0], [(51, (k_shelf_nodeT.pd a0))], [], [], [51]⟩,
              ⟨[.op 4 0], [(52, (k_shelf_node.ptr n4))], [], [4], [52]⟩,
              ⟨[.op 5 0], [(53, (k_api_Record.ptr n4.rec_))], [], [4, 5], [53]⟩,
              ⟨[.op 6 0], [(54, (k_api_Record.pd n4.rec_))], [], [4, 5, 6], [54]⟩,
              ⟨[.old 0], [(55, (k_shelf_nodeT.pd a0))], [], [], [55]⟩,
              ⟨[.op 8 0], [(56, (k_shelf_node.ptr n4))], [], [8], [56]⟩,
              ⟨[.op 9 0], [(57, (k_shelf_nodeT.ptr n4.left))], [], [8, 9], [57]⟩,
              ⟨[.op 10 0], [(58, (k_shelf_nodeT.pd n4.left))], [], [8, 9, 10], [58]⟩,
              ⟨[.old 0], [(59, (k_shelf_nodeT.pd a0))], [], [], [59]⟩,
              ⟨[.op 12 0], [(60, (k_shelf_node.ptr n4))], [], [12], [60]⟩,
              ⟨[.op 13 0], [(61, (k_shelf_nodeT.ptr n4.right))], [], [12, 13], [61]⟩,
              ⟨[.op 14 0], [(62, (k_shelf_nodeT.pd n4.right))], [], [12, 13, 14], [62]⟩,
              ⟨[.old 1], [(63, (pStr a1))], [], [], [63]⟩,
              ⟨[.old 2], [(64, (k_api_Record.pd a2))], [], [], [64]⟩,
              ⟨[.op 15 0, .op 16 0, .op 17 0], [(65, (k_shelf_nodeT.pd r12))], [], [12, 13, 14, 15, 16, 17], [65]⟩,
              ⟨[.op 3 0, .op 7 0, .op 11 0, .op 18 0], [(66, (k_shelf_nodeT.pd r14))], [], [0, 1, 2, 3, 4, 5, 6, 7, 8, 9, 10, 11, 12, 13, 14, 15, 16, 17, 18], [66]⟩,
              ⟨[.op 19 0], [(6, (k_shelf_nodeT.pd r14))], [], [0, 1, 2, 3, 4, 5, 6, 7, 8, 9, 10, 11, 12, 13, 14, 15, 16, 17, 18, 19], [6]⟩])
            (F := [.op 20 0]) (by kernel_rfl)
            (allOT_cons (OT.plain rfl (ob_move rfl rfl Opd.t0))
              (allOT_cons (OT.plain rfl (ob_nilCheck rfl rfl (Opd.imp Opd.t0 (fun _ _ h => shelf_nodeT_node h5 h)) (fun _ _ ⟨_, _, _, e, _⟩ => ⟨_, e⟩)))
              (allOT_cons (OT.plain rfl (ob_fieldAddr fl_75_0 rfl rfl Opd.t0))
              (allOT_cons (OT.plain rfl (ob_load ty_9 rfl rfl Opd.t0))
              (allOT_cons (OT.plain rfl (ob_move rfl rfl Opd.t0))
              (allOT_cons (OT.plain rfl (ob_nilCheck rfl rfl (Opd.imp Opd.t0 (fun _ _ h => shelf_nodeT_node h5 h)) (fun _ _ ⟨_, _, _, e, _⟩ => ⟨_, e⟩)))
              (allOT_cons (OT.plain rfl (ob_fieldAddr fl_75_1 rfl rfl Opd.t0))
              (allOT_cons (OT.plain rfl (ob_load ty_38 rfl rfl Opd.t0))
              (allOT_cons (OT.plain rfl (ob_move rfl rfl Opd.t0))
              (allOT_cons (OT.plain rfl (ob_nilCheck rfl rfl (Opd.imp Opd.t0 (fun _ _ h => shelf_nodeT_node h5 h)) (fun _ _ ⟨_, _, _, e, _⟩ => ⟨_, e⟩)))
              (allOT_cons (OT.plain rfl (ob_fieldAddr fl_75_2 rfl rfl Opd.t0))
              (allOT_cons (OT.plain rfl (ob_load ty_26 rfl rfl Opd.t0))
              (allOT_cons (OT.plain rfl (ob_move rfl rfl Opd.t0))
              (allOT_cons (OT.plain rfl (ob_nilCheck rfl rfl (Opd.imp Opd.t0 (fun _ _ h => shelf_nodeT_node h5 h)) (fun _ _ ⟨_, _, _, e, _⟩ => ⟨_, e⟩)))
              (allOT_cons (OT.plain rfl (ob_fieldAddr fl_75_3 rfl rfl Opd.t0))
              (allOT_cons (OT.plain rfl (ob_load ty_26 rfl rfl Opd.t0))
              (allOT_cons (OT.plain rfl (ob_move rfl rfl Opd.t0))
              (allOT_cons (OT.plain rfl (ob_load ty_38 rfl rfl Opd.t0))
              (allOT_cons (OT.plain rfl (ob_call en_36 (hself _ _ _ h13) rfl rfl (.cons Opd.t0 (.cons (Opd.tl Opd.t0) (.cons (Opd.tl (Opd.tl Opd.t0)) .nil)))))
              (allOT_cons (OT.plain rfl (ob_call en_52 (shelf_even_ok _ _ _ _ h15) rfl rfl (.cons Opd.t0 (.cons (Opd.tl Opd.t0) (.cons (Opd.tl (Opd.tl Opd.t0)) (.cons (Opd.tl (Opd.tl (Opd.tl Opd.t0))) .nil))))))
              (allOT_cons (OT.plain rfl (ob_assign rfl rfl Opd.t0))
              allOT_nil)))))))))))))))))))))
            (hst.pick [0, 1, 2] rfl) hb (fun a g hst hb => ?_)
        refine then_n ?_
        refine wp_ret ?_
        refine inBlock_r ?_
        refine then_r ?_
        obtain rfl := Option.some.inj H0
        exact endR1 rfl hst hb (res_tmp (s := 6)) (hst.at 0 rfl)
      · replace H0 := ite_f hc11 H0
        refine wp_skip ?_
        refine inBlock_n ?_
        refine then_n ?_
        refine wp_seq ?_
        obtain ⟨r16, h17, H0⟩ := of_bind H0
        refine wp_reg follows (N := 78) (L := [(0, (k_shelf_nodeT.pd a0)), (1, (pStr a1)), (5, (k_api_Record.ptr a2))])
            (T := [⟨[.old 1], [(67, (pStr a1))], [], [], [67]⟩,
              ⟨[.old 2], [(68, (k_api_Record.pd a2))], [], [], [68]⟩,
              ⟨[.old 0], [(69, (k_shelf_nodeT.pd a0))], [], [], [69]⟩,
              ⟨[.op 2 0], [(70, (k_shelf_node.ptr n4))], [], [2], [70]⟩,
              ⟨[.op 3 0], [(71, (k_shelf_nodeT.ptr n4.left))], [], [2, 3], [71]⟩,
              ⟨[.op 4 0], [(72, (k_shelf_nodeT.pd n4.left))], [], [2, 3, 4], [72]⟩,
              ⟨[.old 0], [(73, (k_shelf_nodeT.pd a0))], [], [], [73]⟩,
              ⟨[.op 6 0], [(74, (k_shelf_node.ptr n4))], [], [6], [74]⟩,
              ⟨[.op 7 0], [(75, (k_shelf_nodeT.ptr n4.right))], [], [6, 7], [75]⟩,
              ⟨[.op 8 0], [(76, (k_shelf_nodeT.pd n4.right))], [], [6, 7, 8], [76]⟩,
              ⟨[.op 0 0, .op 1 0, .op 5 0, .op 9 0], [(77, (k_shelf_nodeT.pd r16))], [], [0, 1, 2, 3, 4, 5, 6, 7, 8, 9], [77]⟩,
              ⟨[.op 10 0], [(6, (k_shelf_nodeT.pd r16))], [], [0, 1, 2, 3, 4, 5, 6, 7, 8, 9, 10], [6]⟩])
            (F := [.op 11 0]) (by kernel_rfl)
            (allOT_cons (OT.plain rfl (ob_move rfl rfl Opd.t0))
              (allOT_cons (OT.plain rfl (ob_load ty_38 rfl rfl Opd.t0))
              (allOT_cons (OT.plain rfl (ob_move rfl rfl Opd.t0))
              (allOT_cons (OT.plain rfl (ob_nilCheck rfl rfl (Opd.imp Opd.t0 (fun _ _ h => shelf_nodeT_node h5 h)) (fun _ _ ⟨_, _, _, e, _⟩ => ⟨_, e⟩)))
              (allOT_cons (OT.plain rfl (ob_fieldAddr fl_75_2 rfl rfl Opd.t0))
              (allOT_cons (OT.plain rfl (ob_load ty_26 rfl rfl Opd.t0))
              (allOT_cons (OT.plain rfl (ob_move rfl rfl Opd.t0))
              (allOT_cons (OT.plain rfl (ob_nilCheck rfl rfl (Opd.imp Opd.t0 (fun _ _ h => shelf_nodeT_node h5 h)) (fun _ _ ⟨_, _, _, e, _⟩ => ⟨_, e⟩)))
              (allOT_cons (OT.plain rfl (ob_fieldAddr fl_75_3 rfl rfl Opd.t0))
              (allOT_cons (OT.plain rfl (ob_load ty_26 rfl rfl Opd.t0))
              (allOT_cons (OT.plain rfl (ob_call en_51 (shelf_made_ok _ _ _ _ h17) rfl rfl (.cons Opd.t0 (.cons (Opd.tl Opd.t0) (.cons (Opd.tl (Opd.tl Opd.t0)) (.cons (Opd.tl (Opd.tl (Opd.tl Opd.t0))) .nil))))))
              (allOT_cons (OT.plain rfl (ob_assign rfl rfl Opd.t0))
              allOT_nil))))))))))))
            (hst.pick [0, 1, 2] rfl) hb (fun a g hst hb => ?_)
        refine then_n ?_
        refine wp_ret ?_
        obtain rfl := Option.some.inj H0
        exact endR1 rfl hst hb (res_tmp (s := 6)) (hst.at 0 rfl)
theorem shelf_node_set_r_ok : ∀ (n : Nat) (a0 : shelf_nodeT) (a1 : ByteArray) (a2 : api_Record) {r : shelf_nodeT}, shelf_node_set_r n a0 a1 a2 = some r → FnOk Try.prog 36 [(k_shelf_nodeT.pd a0), (pStr a1), (k_api_Record.pd a2)] (k_shelf_nodeT.pd r)
  | 0, _, _, _, _, h => by simp [shelf_node_set_r] at h
  | n + 1, a0, a1, a2, _, h => shelf_node_set_b_ok (shelf_node_set_r n) (fun a0 a1 a2 r h => shelf_node_set_r_ok n a0 a1 a2 h) a0 a1 a2 h
theorem shelf_node_set_ok (a0 : shelf_nodeT) (a1 : ByteArray) (a2 : api_Record) {r : shelf_nodeT} (h : shelf_node_set a0 a1 a2 = some r) : FnOk Try.prog 36 [(k_shelf_nodeT.pd a0), (pStr a1), (k_api_Record.pd a2)] (k_shelf_nodeT.pd r) := shelf_node_set_r_ok _ a0 a1 a2 h
end Go.CL

set_option linter.unusedVariables false
set_option linter.unusedSimpArgs false
set_option maxRecDepth 100000
namespace Go.CL
open Go Go.RowKit Go.Proofs
theorem shelf_Shelf_Set_ok (a0 : shelf_Shelf) (a1 : ByteArray) (a2 : api_Record) {r : shelf_Shelf × Int} (h : shelf_Shelf_Set a0 a1 a2 = some r) : FnOk Try.prog 20 [(k_shelf_Shelf.pd a0), (pStr a1), (k_api_Record.pd a2)] (pTup [(k_shelf_Shelf.pd r.1), (pInt .i64 r.2)]) := by
  have H0 := h
  unfold shelf_Shelf_Set at H0
  clear h
  refine fn_ok (N := 50) Try.func20 rfl rfl (Nat.le_of_ble_eq_true rfl) rfl rfl (fun a g0 hst hb => ?_)
  refine wp_seq ?_
  refine wp_reg follows (N := 50) (L := [(0, (k_shelf_Shelf.pd a0)), (1, (pStr a1)), (2, (k_api_Record.pd a2))])
      (T := [⟨[.old 0], [(3, (k_shelf_Shelf.ptr a0))], [], [], [3]⟩,
        ⟨[.old 2], [(5, (k_api_Record.ptr a2))], [], [], [5]⟩,
        ⟨[], [(6, (pBox k_shelf_Shelf 6 (default : shelf_Shelf)))], [7], [], [6]⟩,
        ⟨[], [(7, (pInt .i64 (0 : Int)))], [], [], [7]⟩])
      (F := [.old 1, .op 0 0, .op 1 0, .op 2 0]) (by kernel_rfl)
      (allOT_cons (OT.plain rfl (ob_box1 rfl rfl Opd.t0))
        (allOT_cons (OT.plain rfl (ob_box1 rfl rfl Opd.t0))
        (allOT_cons (OT.plain rfl (ob_alloc (zs := [.pointer none, .int .i64 0]) (by kernel_rfl) (fun g => zk_shelf_Shelf g) rfl rfl))
        (allOT_cons (OT.plain rfl (ob_assign rfl rfl (Opd.c (int_q _ _))))
        allOT_nil))))
      hst hb (fun a g hst hb => ?_)
  refine then_n ?_
  refine wp_seq ?_
  refine wp_seq ?_
  refine wp_reg follows (N := 50) (L := [(1, (pStr a1)), (3, (k_shelf_Shelf.ptr a0)), (5, (k_api_Record.ptr a2)), (6, (pBox k_shelf_Shelf 6 (default : shelf_Shelf)))])
      (T := [⟨[.old 0], [(11, (pStr a1))], [], [], [11]⟩,
        ⟨[.op 0 0], [(12, (pBool (sEq a1 (⟨#[]⟩ : ByteArray))))], [], [0], [12]⟩,
        ⟨[.op 1 0], [(13, (pBool (sEq a1 (⟨#[]⟩ : ByteArray))))], [], [0, 1], [13]⟩,
        ⟨[.op 2 0, .old 0], [(14, (pIf (!(sEq a1 (⟨#[]⟩ : ByteArray))) (pStr a1)))], [], [0, 1, 2], [14]⟩,
        ⟨[.op 2 0, .op 3 0], [(15, (pIf (!(sEq a1 (⟨#[]⟩ : ByteArray))) (pInt .i64 (a1.size : Int))))], [], [0, 1, 2, 3], [15]⟩,
        ⟨[.op 2 0, .op 4 0], [(16, (pIf (!(sEq a1 (⟨#[]⟩ : ByteArray))) (pBool (decide ((24 : Int) < (a1.size : Int))))))], [], [0, 1, 2, 3, 4], [16]⟩,
        ⟨[.op 2 0, .op 5 0], [(17, (pBool ((sEq a1 (⟨#[]⟩ : ByteArray)) || (decide ((24 : Int) < (a1.size : Int))))))], [], [0, 1, 2, 3, 4, 5], [17]⟩])
      (F := [.old 0, .old 1, .old 2, .old 3, .op 6 0]) (by kernel_rfl)
      (allOT_cons (OT.plain rfl (ob_move rfl rfl Opd.t0))
        (allOT_cons (OT.plain rfl (ob_seq rfl rfl Opd.t0 (Opd.c (fun _ => pStr_iff.2 rfl))))
        (allOT_cons (OT.plain rfl (ob_move rfl rfl Opd.t0))
        (allOT_cons (OT.guard (outs := [(14, (pStr a1))]) (!(sEq a1 (⟨#[]⟩ : ByteArray))) (gF (sEq a1 (⟨#[]⟩ : ByteArray))).1 (gF (sEq a1 (⟨#[]⟩ : ByteArray))).2 rfl rfl (fun e he => by rw [List.mem_singleton.1 he]) (fun hG => ob_move rfl rfl Opd.t0))
        (allOT_cons (OT.guard (outs := [(15, (pInt .i64 (a1.size : Int)))]) (!(sEq a1 (⟨#[]⟩ : ByteArray))) (gF (sEq a1 (⟨#[]⟩ : ByteArray))).1 (gF (sEq a1 (⟨#[]⟩ : ByteArray))).2 rfl rfl (fun e he => by rw [List.mem_singleton.1 he]) (fun hG => ob_lenS Try.underlying9 rfl rfl (Opd.gd hG Opd.t0)))
        (allOT_cons (OT.guard (outs := [(16, (pBool (decide ((24 : Int) < (a1.size : Int)))))]) (!(sEq a1 (⟨#[]⟩ : ByteArray))) (gF (sEq a1 (⟨#[]⟩ : ByteArray))).1 (gF (sEq a1 (⟨#[]⟩ : ByteArray))).2 rfl rfl (fun e he => by rw [List.mem_singleton.1 he]) (fun hG => ob_gt rfl rfl (Opd.gd hG Opd.t0) (Opd.c (int_q _ _))))
        (allOT_cons (OT.plain rfl (ob_pick (q := (pBool ((sEq a1 (⟨#[]⟩ : ByteArray)) || (decide ((24 : Int) < (a1.size : Int)))))) rfl rfl Opd.t0 (fun hz => Opd.to (Opd.c (bool_q _)) (congrArg (fun t => (pBool t)) (pk_or_t hz))) (fun hz => Opd.to (Opd.gd (bNF hz) (Opd.tl Opd.t0)) (congrArg (fun t => (pBool t)) (pk_or_f hz)))))
        allOT_nil)))))))
      hst hb (fun a g hst hb => ?_)
  refine then_n ?_
  refine wp_cond_split (hst.bool 4 rfl) (fun hc1 => ?_) (fun hc1 => ?_)
  · replace H0 := ite_t hc1 H0
    refine wp_seq ?_
    refine wp_reg follows (N := 50) (L := [(3, (k_shelf_Shelf.ptr a0)), (6, (pBox k_shelf_Shelf 6 (default : shelf_Shelf)))])
        (T := [⟨[.old 0], [(18, (k_shelf_Shelf.pd a0))], [], [], [18]⟩,
          ⟨[.op 0 0, .old 1], [(6, (pBox k_shelf_Shelf 6 a0))], [7], [0], [6]⟩,
          ⟨[], [(7, (pInt .i64 (1 : Int)))], [], [0, 1], [7]⟩])
        (F := [.op 1 0, .op 2 0]) (by kernel_rfl)
        (allOT_cons (OT.plain rfl (ob_load ty_28 rfl rfl Opd.t0))
          (allOT_cons (OT.plain rfl (ob_store ty_28 rfl rfl (Opd.tl Opd.t0) Opd.t0))
          (allOT_cons (OT.plain rfl (ob_assign rfl rfl (Opd.c (int_q _ _))))
          allOT_nil)))
        (hst.pick [1, 3] rfl) hb (fun a g hst hb => ?_)
    refine then_n ?_
    refine wp_ret ?_
    refine then_r ?_
    obtain rfl := Option.some.inj H0
    obtain ⟨u0, hu0, hq0⟩ := res_box (P := Try.prog) ty_28 (hst.at 0 rfl)
    exact endR2 rfl hst hb hu0 (res_tmp (s := 7)) (pTup_2 hq0 (hst.at 1 rfl))
  · replace H0 := ite_f hc1 H0
    refine wp_skip ?_
    refine then_n ?_
    refine wp_seq ?_
    refine wp_seq ?_
    obtain ⟨r2, h3, H0⟩ := of_bind H0
    refine wp_reg follows (N := 50) (L := [(1, (pStr a1)), (3, (k_shelf_Shelf.ptr a0)), (5, (k_api_Record.ptr a2)), (6, (pBox k_shelf_Shelf 6 (default : shelf_Shelf)))])
        (T := [⟨[.old 2], [(19, (k_api_Record.pd a2))], [], [], [19]⟩,
          ⟨[.op 0 0], [(20, (pInt .i64 r2))], [], [0], [20]⟩,
          ⟨[.op 1 0], [(8, (pInt .i64 r2))], [], [0, 1], [8]⟩])
        (F := [.old 0, .old 1, .old 2, .old 3, .op 2 0]) (by kernel_rfl)
        (allOT_cons (OT.plain rfl (ob_load ty_38 rfl rfl Opd.t0))
          (allOT_cons (OT.plain rfl (ob_call en_35 (rec_Check_ok _ h3) rfl rfl (.cons Opd.t0 .nil)))
          (allOT_cons (OT.plain rfl (ob_assign rfl rfl Opd.t0))
          allOT_nil)))
        (hst.pick [0, 1, 2, 3] rfl) hb (fun a g hst hb => ?_)
    refine then_n ?_
    refine wp_seq ?_
    refine wp_reg follows (N := 50) (L := [(1, (pStr a1)), (3, (k_shelf_Shelf.ptr a0)), (5, (k_api_Record.ptr a2)), (6, (pBox k_shelf_Shelf 6 (default : shelf_Shelf))), (8, (pInt .i64 r2))])
        (T := [⟨[.old 4], [(21, (pInt .i64 r2))], [], [], [21]⟩,
          ⟨[.op 0 0], [(22, (pBool (r2 != (0 : Int))))], [], [0], [22]⟩])
        (F := [.old 0, .old 1, .old 2, .old 3, .old 4, .op 1 0]) (by kernel_rfl)
        (allOT_cons (OT.plain rfl (ob_move rfl rfl Opd.t0))
          (allOT_cons (OT.plain rfl (ob_ne rfl rfl Opd.t0 (Opd.c (int_q _ _))))
          allOT_nil))
        hst hb (fun a g hst hb => ?_)
    refine then_n ?_
    refine wp_cond_split (hst.bool 5 rfl) (fun hc4 => ?_) (fun hc4 => ?_)
    · replace H0 := ite_t hc4 H0
      refine wp_seq ?_
      refine wp_reg follows (N := 50) (L := [(3, (k_shelf_Shelf.ptr a0)), (6, (pBox k_shelf_Shelf 6 (default : shelf_Shelf))), (8, (pInt .i64 r2))])
          (T := [⟨[.old 0], [(23, (k_shelf_Shelf.pd a0))], [], [], [23]⟩,
            ⟨[.old 2], [(24, (pInt .i64 r2))], [], [], [24]⟩,
            ⟨[.op 0 0, .old 1], [(6, (pBox k_shelf_Shelf 6 a0))], [7], [0], [6]⟩,
            ⟨[.op 1 0], [(7, (pInt .i64 r2))], [], [0, 1, 2], [7]⟩])
          (F := [.op 2 0, .op 3 0]) (by kernel_rfl)
          (allOT_cons (OT.plain rfl (ob_load ty_28 rfl rfl Opd.t0))
            (allOT_cons (OT.plain rfl (ob_move rfl rfl Opd.t0))
            (allOT_cons (OT.plain rfl (ob_store ty_28 rfl rfl (Opd.tl Opd.t0) Opd.t0))
            (allOT_cons (OT.plain rfl (ob_assign rfl rfl Opd.t0))
            allOT_nil))))
          (hst.pick [1, 3, 4] rfl) hb (fun a g hst hb => ?_)
      refine then_n ?_
      refine wp_ret ?_
      refine then_r ?_
      obtain rfl := Option.some.inj H0
      obtain ⟨u0, hu0, hq0⟩ := res_box (P := Try.prog) ty_28 (hst.at 0 rfl)
      exact endR2 rfl hst hb hu0 (res_tmp (s := 7)) (pTup_2 hq0 (hst.at 1 rfl))
    · replace H0 := ite_f hc4 H0
      refine wp_skip ?_
      refine then_n ?_
      refine wp_seq ?_
      refine wp_seq ?_
      obtain ⟨r5, h6, H0⟩ := of_bind H0
      refine wp_reg follows (N := 50) (L := [(1, (pStr a1)), (3, (k_shelf_Shelf.ptr a0)), (5, (k_api_Record.ptr a2)), (6, (pBox k_shelf_Shelf 6 (default : shelf_Shelf)))])
          (T := [⟨[.old 1], [(26, (k_shelf_Shelf.pd a0))], [], [], [26]⟩,
            ⟨[.old 0], [(27, (pStr a1))], [], [], [27]⟩,
            ⟨[.op 0 0, .op 1 0], [(28, (pTup [(k_api_Record.pd r5.1), (pBool r5.2)]))], [], [0, 1], [28]⟩,
            ⟨[.op 2 0], [(25, (pTup [(k_api_Record.pd r5.1), (pBool r5.2)]))], [], [0, 1, 2], [25]⟩,
            ⟨[.op 3 0], [(29, (k_api_Record.pd r5.1))], [], [0, 1, 2, 3], [29]⟩,
            ⟨[.op 3 0], [(30, (pBool r5.2))], [], [0, 1, 2, 3], [30]⟩,
            ⟨[], [(9, (pBox k_api_Record 9 (default : api_Record)))], [10], [], [9]⟩,
            ⟨[.op 4 0, .op 6 0], [(9, (k_api_Record.ptr r5.1))], [10], [0, 1, 2, 3, 4, 6], [9]⟩,
            ⟨[.op 5 0], [(10, (pBool r5.2))], [], [0, 1, 2, 3, 4, 5, 6, 7], [10]⟩])
          (F := [.old 0, .old 1, .old 2, .old 3, .op 8 0]) (by kernel_rfl)
          (allOT_cons (OT.plain rfl (ob_load ty_28 rfl rfl Opd.t0))
            (allOT_cons (OT.plain rfl (ob_move rfl rfl Opd.t0))
            (allOT_cons (OT.plain rfl (ob_call en_22 (shelf_Shelf_Get_ok _ _ h6) rfl rfl (.cons Opd.t0 (.cons (Opd.tl Opd.t0) .nil))))
            (allOT_cons (OT.plain rfl (ob_move rfl rfl Opd.t0))
            (allOT_cons (OT.plain rfl (ob_extract rfl rfl Opd.t0 rfl))
            (allOT_cons (OT.plain rfl (ob_extract rfl rfl Opd.t0 rfl))
            (allOT_cons (OT.plain rfl (ob_alloc (zs := [.int .i64 0, .int .i64 0, .int .i64 0, .int .i64 0, .float .f64 0, .int .i64 0, .string ByteArray.empty, .slice none 0 0]) (by kernel_rfl) (fun g => zk_api_Record g) rfl rfl))
            (allOT_cons (OT.plain rfl (ob_storeF ty_38 rfl rfl (Opd.tl Opd.t0) Opd.t0))
            (allOT_cons (OT.plain rfl (ob_assign rfl rfl Opd.t0))
            allOT_nil)))))))))
          (hst.pick [0, 1, 2, 3] rfl) hb (fun a g hst hb => ?_)
      refine then_n ?_
      refine wp_seq ?_
      obtain ⟨r7, h8, H0⟩ := of_bind H0
      refine wp_reg follows (N := 50) (L := [(1, (pStr a1)), (3, (k_shelf_Shelf.ptr a0)), (5, (k_api_Record.ptr a2)), (6, (pBox k_shelf_Shelf 6 (default : shelf_Shelf))), (10, (pBool r5.2))])
          (T := [⟨[.old 4], [(31, (pBool r5.2))], [], [], [31]⟩,
            ⟨[.op 0 0], [(32, (pBool (!r5.2)))], [], [0], [32]⟩,
            ⟨[.op 1 0], [(33, (pBool (!r5.2)))], [], [0, 1], [33]⟩,
            ⟨[.op 2 0, .old 1], [(34, (pIf (!r5.2) (k_shelf_Shelf.pd a0)))], [], [0, 1, 2], [34]⟩,
            ⟨[.op 2 0, .op 3 0], [(35, (pIf (!r5.2) (pInt .i64 r7)))], [], [0, 1, 2, 3], [35]⟩,
            ⟨[.op 2 0, .old 1], [(36, (pIf (!r5.2) ((Kd.int .i64).ptr a0.room)))], [], [0, 1, 2], [36]⟩,
            ⟨[.op 2 0, .op 5 0], [(37, (pIf (!r5.2) (pInt .i64 a0.room)))], [], [0, 1, 2, 5], [37]⟩,
            ⟨[.op 2 0, .op 4 0, .op 6 0], [(38, (pIf (!r5.2) (pBool (decide (a0.room ≤ r7)))))], [], [0, 1, 2, 3, 4, 5, 6], [38]⟩,
            ⟨[.op 2 0, .op 7 0], [(39, (pBool ((!r5.2) && (decide (a0.room ≤ r7)))))], [], [0, 1, 2, 3, 4, 5, 6, 7], [39]⟩])
          (F := [.old 0, .old 1, .old 2, .old 3, .op 8 0]) (by kernel_rfl)
          (allOT_cons (OT.plain rfl (ob_move rfl rfl Opd.t0))
            (allOT_cons (OT.plain rfl (ob_not rfl rfl Opd.t0))
            (allOT_cons (OT.plain rfl (ob_move rfl rfl Opd.t0))
            (allOT_cons (OT.guard (outs := [(34, (k_shelf_Shelf.pd a0))]) (!r5.2) (gT (!r5.2)).1 (gT (!r5.2)).2 rfl rfl (fun e he => by rw [List.mem_singleton.1 he]) (fun hG => ob_load ty_28 rfl rfl Opd.t0))
            (allOT_cons (OT.guard (outs := [(35, (pInt .i64 r7))]) (!r5.2) (gT (!r5.2)).1 (gT (!r5.2)).2 rfl rfl (fun e he => by rw [List.mem_singleton.1 he]) (fun hG => ob_call en_17 (shelf_Shelf_Len_ok _ (gd_true h8 hG)) rfl rfl (.cons (Opd.gd hG Opd.t0) .nil)))
            (allOT_cons (OT.guard (outs := [(36, ((Kd.int .i64).ptr a0.room))]) (!r5.2) (gT (!r5.2)).1 (gT (!r5.2)).2 rfl rfl (fun e he => by rw [List.mem_singleton.1 he]) (fun hG => ob_fieldAddr fl_28_1 rfl rfl Opd.t0))
            (allOT_cons (OT.guard (outs := [(37, (pInt .i64 a0.room))]) (!r5.2) (gT (!r5.2)).1 (gT (!r5.2)).2 rfl rfl (fun e he => by rw [List.mem_singleton.1 he]) (fun hG => ob_load ty_3 rfl rfl (Opd.gd hG Opd.t0)))
            (allOT_cons (OT.guard (outs := [(38, (pBool (decide (a0.room ≤ r7))))]) (!r5.2) (gT (!r5.2)).1 (gT (!r5.2)).2 rfl rfl (fun e he => by rw [List.mem_singleton.1 he]) (fun hG => ob_ge rfl rfl (Opd.gd hG Opd.t0) (Opd.gd hG (Opd.tl Opd.t0))))
            (allOT_cons (OT.plain rfl (ob_pick (q := (pBool ((!r5.2) && (decide (a0.room ≤ r7))))) rfl rfl Opd.t0 (fun hz => Opd.to (Opd.gd hz (Opd.tl Opd.t0)) (congrArg (fun t => (pBool t)) (pk_and_t hz))) (fun hz => Opd.to (Opd.c (bool_q _)) (congrArg (fun t => (pBool t)) (pk_and_f hz)))))
            allOT_nil)))))))))
          hst hb (fun a g hst hb => ?_)
      refine then_n ?_
      refine wp_cond_split (hst.bool 4 rfl) (fun hc9 => ?_) (fun hc9 => ?_)
      · replace H0 := ite_t hc9 H0
        refine wp_seq ?_
        refine wp_reg follows (N := 50) (L := [(3, (k_shelf_Shelf.ptr a0)), (6, (pBox k_shelf_Shelf 6 (default : shelf_Shelf)))])
            (T := [⟨[.old 0], [(40, (k_shelf_Shelf.pd a0))], [], [], [40]⟩,
              ⟨[.op 0 0, .old 1], [(6, (pBox k_shelf_Shelf 6 a0))], [7], [0], [6]⟩,
              ⟨[], [(7, (pInt .i64 (8 : Int)))], [], [0, 1], [7]⟩])
            (F := [.op 1 0, .op 2 0]) (by kernel_rfl)
            (allOT_cons (OT.plain rfl (ob_load ty_28 rfl rfl Opd.t0))
              (allOT_cons (OT.plain rfl (ob_store ty_28 rfl rfl (Opd.tl Opd.t0) Opd.t0))
              (allOT_cons (OT.plain rfl (ob_assign rfl rfl (Opd.c (int_q _ _))))
              allOT_nil)))
            (hst.pick [1, 3] rfl) hb (fun a g hst hb => ?_)
        refine then_n ?_
        refine wp_ret ?_
        refine then_r ?_
        obtain rfl := Option.some.inj H0
        obtain ⟨u0, hu0, hq0⟩ := res_box (P := Try.prog) ty_28 (hst.at 0 rfl)
        exact endR2 rfl hst hb hu0 (res_tmp (s := 7)) (pTup_2 hq0 (hst.at 1 rfl))
      · replace H0 := ite_f hc9 H0
        refine wp_skip ?_
        refine then_n ?_
        refine wp_seq ?_
        obtain ⟨r10, h11, H0⟩ := of_bind H0
        obtain ⟨r12, h13, H0⟩ := of_bind H0
        refine wp_reg follows (N := 50) (L := [(1, (pStr a1)), (3, (k_shelf_Shelf.ptr a0)), (5, (k_api_Record.ptr a2)), (6, (pBox k_shelf_Shelf 6 (default : shelf_Shelf)))])
            (T := [⟨[.old 1], [(41, (k_shelf_nodeT.ptr a0.top))], [], [], [41]⟩,
              ⟨[.op 0 0], [(42, (k_shelf_nodeT.pd a0.top))], [], [0], [42]⟩,
              ⟨[.old 0], [(43, (pStr a1))], [], [], [43]⟩,
              ⟨[.old 2], [(44, (k_api_Record.pd a2))], [], [], [44]⟩,
              ⟨[.op 3 0], [(45, (k_api_Record.pd r10))], [], [3], [45]⟩,
              ⟨[.op 1 0, .op 2 0, .op 4 0], [(46, (k_shelf_nodeT.pd r12))], [], [0, 1, 2, 3, 4], [46]⟩,
              ⟨[.old 1], [(47, ((Kd.int .i64).ptr a0.room))], [], [], [47]⟩,
              ⟨[.op 6 0], [(48, (pInt .i64 a0.room))], [], [6], [48]⟩,
              ⟨[.op 5 0, .op 7 0], [(49, (k_shelf_Shelf.pd ({ top := r12, room := a0.room } : shelf_Shelf)))], [], [0, 1, 2, 3, 4, 5, 6, 7], [49]⟩,
              ⟨[.op 8 0, .old 3], [(6, (pBox k_shelf_Shelf 6 ({ top := r12, room := a0.room } : shelf_Shelf)))], [7], [0, 1, 2, 3, 4, 5, 6, 7, 8], [6]⟩,
              ⟨[], [(7, (pInt .i64 (0 : Int)))], [], [0, 1, 2, 3, 4, 5, 6, 7, 8, 9], [7]⟩])
            (F := [.op 9 0, .op 10 0]) (by kernel_rfl)
            (allOT_cons (OT.plain rfl (ob_fieldAddr fl_28_0 rfl rfl Opd.t0))
              (allOT_cons (OT.plain rfl (ob_load ty_26 rfl rfl Opd.t0))
              (allOT_cons (OT.plain rfl (ob_move rfl rfl Opd.t0))
              (allOT_cons (OT.plain rfl (ob_load ty_38 rfl rfl Opd.t0))
              (allOT_cons (OT.plain rfl (ob_call en_34 (rec_Clone_ok _ h11) rfl rfl (.cons Opd.t0 .nil)))
              (allOT_cons (OT.plain rfl (ob_call en_36 (shelf_node_set_ok _ _ _ h13) rfl rfl (.cons Opd.t0 (.cons (Opd.tl Opd.t0) (.cons (Opd.tl (Opd.tl Opd.t0)) .nil)))))
              (allOT_cons (OT.plain rfl (ob_fieldAddr fl_28_1 rfl rfl Opd.t0))
              (allOT_cons (OT.plain rfl (ob_load ty_3 rfl rfl Opd.t0))
              (allOT_cons (OT.plain rfl (bd_28_0_1 rfl rfl Opd.t0 (Opd.tl Opd.t0)))
              (allOT_cons (OT.plain rfl (ob_store ty_28 rfl rfl (Opd.tl Opd.t0) Opd.t0))
              (allOT_cons (OT.plain rfl (ob_assign rfl rfl (Opd.c (int_q _ _))))
              allOT_nil)))))))))))
            (hst.pick [0, 1, 2, 3] rfl) hb (fun a g hst hb => ?_)
        refine then_n ?_
        refine wp_ret ?_
        obtain rfl := Option.some.inj H0
        obtain ⟨u0, hu0, hq0⟩ := res_box (P := Try.prog) ty_28 (hst.at 0 rfl)
        exact endR2 rfl hst hb hu0 (res_tmp (s := 7)) (pTup_2 hq0 (hst.at 1 rfl))
end Go.CL

set_option linter.unusedVariables false
set_option linter.unusedSimpArgs false
set_option maxRecDepth 100000
namespace Go.CL
open Go Go.RowKit Go.Proofs
theorem moietylaw09_speaks_ok {r : Bool} (h : moietylaw09_speaks = some r) : FnOk Try.prog 8 [] (pBool r) := by
  have H0 := h
  unfold moietylaw09_speaks at H0
  clear h
  refine fn_ok (N := 88) Try.func8 rfl rfl (Nat.le_of_ble_eq_true rfl) rfl rfl (fun a g0 hst hb => ?_)
  refine wp_seq ?_
  refine wp_reg follows (N := 88) (L := [])
      (T := [⟨[], [(0, (pBool false))], [], [], [0]⟩])
      (F := []) (by kernel_rfl)
      (allOT_cons (OT.plain rfl (ob_assign rfl rfl (Opd.c (bool_q _))))
        allOT_nil)
      hst hb (fun a g hst hb => ?_)
  refine then_n ?_
  refine wp_seq ?_
  obtain ⟨r1, h2, H0⟩ := of_bind H0
  refine wp_reg follows (N := 88) (L := [])
      (T := [⟨[], [(12, (pTup [(k_shelf_Shelf.pd r1.1), (pInt .i64 r1.2)]))], [], [], [12]⟩,
        ⟨[.op 0 0], [(11, (pTup [(k_shelf_Shelf.pd r1.1), (pInt .i64 r1.2)]))], [], [0], [11]⟩,
        ⟨[.op 1 0], [(13, (k_shelf_Shelf.pd r1.1))], [], [0, 1], [13]⟩,
        ⟨[.op 1 0], [(14, (pInt .i64 r1.2))], [], [0, 1], [14]⟩,
        ⟨[], [(1, (pBox k_shelf_Shelf 1 (default : shelf_Shelf)))], [2], [], [1]⟩,
        ⟨[.op 2 0, .op 4 0], [(1, (k_shelf_Shelf.ptr r1.1))], [2], [0, 1, 2, 4], [1]⟩,
        ⟨[.op 3 0], [(2, (pInt .i64 r1.2))], [], [0, 1, 2, 3, 4, 5], [2]⟩])
      (F := [.op 5 0, .op 6 0]) (by kernel_rfl)
      (allOT_cons (OT.plain rfl (ob_call en_10 (shelf_New_ok _ h2) rfl rfl (.cons (Opd.c (int_q _ _)) .nil)))
        (allOT_cons (OT.plain rfl (ob_move rfl rfl Opd.t0))
        (allOT_cons (OT.plain rfl (ob_extract rfl rfl Opd.t0 rfl))
        (allOT_cons (OT.plain rfl (ob_extract rfl rfl Opd.t0 rfl))
        (allOT_cons (OT.plain rfl (ob_alloc (zs := [.pointer none, .int .i64 0]) (by kernel_rfl) (fun g => zk_shelf_Shelf g) rfl rfl))
        (allOT_cons (OT.plain rfl (ob_storeF ty_28 rfl rfl (Opd.tl Opd.t0) Opd.t0))
        (allOT_cons (OT.plain rfl (ob_assign rfl rfl Opd.t0))
        allOT_nil)))))))
      hst hb (fun a g hst hb => ?_)
  refine then_n ?_
  refine wp_seq ?_
  refine wp_reg follows (N := 88) (L := [(1, (k_shelf_Shelf.ptr r1.1)), (2, (pInt .i64 r1.2))])
      (T := [⟨[], [(15, (k_api_Record.pd ({ Kind := (2 : Int), Num := (4 : Int), Low := (0 : Int), High := (0 : Int), Real := (0 : Nat), Cap := (0 : Int), Text := ByteArray.empty, List := ([] : List api_Item) } : api_Record)))], [], [], [15]⟩,
        ⟨[], [(3, (pBox k_api_Record 3 (default : api_Record)))], [4], [], [3]⟩,
        ⟨[.op 0 0, .op 1 0], [(3, (k_api_Record.ptr ({ Kind := (2 : Int), Num := (4 : Int), Low := (0 : Int), High := (0 : Int), Real := (0 : Nat), Cap := (0 : Int), Text := ByteArray.empty, List := ([] : List api_Item) } : api_Record)))], [4], [0, 1], [3]⟩])
      (F := [.old 0, .old 1, .op 2 0]) (by kernel_rfl)
      (allOT_cons (OT.plain rfl (bd_38_0_1 rfl rfl (Opd.c (int_q _ _)) (Opd.c (int_q _ _))))
        (allOT_cons (OT.plain rfl (ob_alloc (zs := [.int .i64 0, .int .i64 0, .int .i64 0, .int .i64 0, .float .f64 0, .int .i64 0, .string ByteArray.empty, .slice none 0 0]) (by kernel_rfl) (fun g => zk_api_Record g) rfl rfl))
        (allOT_cons (OT.plain rfl (ob_storeF ty_38 rfl rfl (Opd.tl Opd.t0) Opd.t0))
        allOT_nil)))
      hst hb (fun a g hst hb => ?_)
  refine then_n ?_
  refine wp_seq ?_
  obtain ⟨r3, h4, H0⟩ := of_bind H0
  refine wp_reg follows (N := 88) (L := [(1, (k_shelf_Shelf.ptr r1.1)), (2, (pInt .i64 r1.2)), (3, (k_api_Record.ptr ({ Kind := (2 : Int), Num := (4 : Int), Low := (0 : Int), High := (0 : Int), Real := (0 : Nat), Cap := (0 : Int), Text := ByteArray.empty, List := ([] : List api_Item) } : api_Record)))])
      (T := [⟨[.old 0], [(17, (k_shelf_Shelf.pd r1.1))], [], [], [17]⟩,
        ⟨[.old 2], [(18, (k_api_Record.pd ({ Kind := (2 : Int), Num := (4 : Int), Low := (0 : Int), High := (0 : Int), Real := (0 : Nat), Cap := (0 : Int), Text := ByteArray.empty, List := ([] : List api_Item) } : api_Record)))], [], [], [18]⟩,
        ⟨[.op 0 0, .op 1 0], [(19, (pTup [(k_shelf_Shelf.pd r3.1), (pInt .i64 r3.2)]))], [], [0, 1], [19]⟩,
        ⟨[.op 2 0], [(16, (pTup [(k_shelf_Shelf.pd r3.1), (pInt .i64 r3.2)]))], [], [0, 1, 2], [16]⟩,
        ⟨[.op 3 0], [(20, (k_shelf_Shelf.pd r3.1))], [], [0, 1, 2, 3], [20]⟩,
        ⟨[.op 3 0], [(21, (pInt .i64 r3.2))], [], [0, 1, 2, 3], [21]⟩,
        ⟨[], [(4, (pBox k_shelf_Shelf 4 (default : shelf_Shelf)))], [5], [], [4]⟩,
        ⟨[.op 4 0, .op 6 0], [(4, (k_shelf_Shelf.ptr r3.1))], [5], [0, 1, 2, 3, 4, 6], [4]⟩,
        ⟨[.op 5 0], [(5, (pInt .i64 r3.2))], [], [0, 1, 2, 3, 4, 5, 6, 7], [5]⟩])
      (F := [.old 0, .old 1, .old 2, .op 7 0, .op 8 0]) (by kernel_rfl)
      (allOT_cons (OT.plain rfl (ob_load ty_28 rfl rfl Opd.t0))
        (allOT_cons (OT.plain rfl (ob_load ty_38 rfl rfl Opd.t0))
        (allOT_cons (OT.plain rfl (ob_call en_20 (shelf_Shelf_Set_ok _ _ _ h4) rfl rfl (.cons Opd.t0 (.cons (Opd.c (fun _ => pStr_iff.2 rfl)) (.cons (Opd.tl Opd.t0) .nil)))))
        (allOT_cons (OT.plain rfl (ob_move rfl rfl Opd.t0))
        (allOT_cons (OT.plain rfl (ob_extract rfl rfl Opd.t0 rfl))
        (allOT_cons (OT.plain rfl (ob_extract rfl rfl Opd.t0 rfl))
        (allOT_cons (OT.plain rfl (ob_alloc (zs := [.pointer none, .int .i64 0]) (by kernel_rfl) (fun g => zk_shelf_Shelf g) rfl rfl))
        (allOT_cons (OT.plain rfl (ob_storeF ty_28 rfl rfl (Opd.tl Opd.t0) Opd.t0))
        (allOT_cons (OT.plain rfl (ob_assign rfl rfl Opd.t0))
        allOT_nil)))))))))
      hst hb (fun a g hst hb => ?_)
  refine then_n ?_
  refine wp_seq ?_
  obtain ⟨r5, h6, H0⟩ := of_bind H0
  refine wp_reg follows (N := 88) (L := [(1, (k_shelf_Shelf.ptr r1.1)), (2, (pInt .i64 r1.2)), (3, (k_api_Record.ptr ({ Kind := (2 : Int), Num := (4 : Int), Low := (0 : Int), High := (0 : Int), Real := (0 : Nat), Cap := (0 : Int), Text := ByteArray.empty, List := ([] : List api_Item) } : api_Record))), (4, (k_shelf_Shelf.ptr r3.1)), (5, (pInt .i64 r3.2))])
      (T := [⟨[.old 3], [(23, (k_shelf_Shelf.pd r3.1))], [], [], [23]⟩,
        ⟨[.old 2], [(24, (k_api_Record.pd ({ Kind := (2 : Int), Num := (4 : Int), Low := (0 : Int), High := (0 : Int), Real := (0 : Nat), Cap := (0 : Int), Text := ByteArray.empty, List := ([] : List api_Item) } : api_Record)))], [], [], [24]⟩,
        ⟨[.op 0 0, .op 1 0], [(25, (pTup [(k_shelf_Shelf.pd r5.1), (pInt .i64 r5.2)]))], [], [0, 1], [25]⟩,
        ⟨[.op 2 0], [(22, (pTup [(k_shelf_Shelf.pd r5.1), (pInt .i64 r5.2)]))], [], [0, 1, 2], [22]⟩,
        ⟨[.op 3 0], [(26, (k_shelf_Shelf.pd r5.1))], [], [0, 1, 2, 3], [26]⟩,
        ⟨[.op 3 0], [(27, (pInt .i64 r5.2))], [], [0, 1, 2, 3], [27]⟩,
        ⟨[], [(6, (pBox k_shelf_Shelf 6 (default : shelf_Shelf)))], [7], [], [6]⟩,
        ⟨[.op 4 0, .op 6 0], [(6, (k_shelf_Shelf.ptr r5.1))], [7], [0, 1, 2, 3, 4, 6], [6]⟩,
        ⟨[.op 5 0], [(7, (pInt .i64 r5.2))], [], [0, 1, 2, 3, 4, 5, 6, 7], [7]⟩])
      (F := [.old 0, .old 1, .old 2, .old 3, .old 4, .op 7 0, .op 8 0]) (by kernel_rfl)
      (allOT_cons (OT.plain rfl (ob_load ty_28 rfl rfl Opd.t0))
        (allOT_cons (OT.plain rfl (ob_load ty_38 rfl rfl Opd.t0))
        (allOT_cons (OT.plain rfl (ob_call en_20 (shelf_Shelf_Set_ok _ _ _ h6) rfl rfl (.cons Opd.t0 (.cons (Opd.c (fun _ => pStr_iff.2 rfl)) (.cons (Opd.tl Opd.t0) .nil)))))
        (allOT_cons (OT.plain rfl (ob_move rfl rfl Opd.t0))
        (allOT_cons (OT.plain rfl (ob_extract rfl rfl Opd.t0 rfl))
        (allOT_cons (OT.plain rfl (ob_extract rfl rfl Opd.t0 rfl))
        (allOT_cons (OT.plain rfl (ob_alloc (zs := [.pointer none, .int .i64 0]) (by kernel_rfl) (fun g => zk_shelf_Shelf g) rfl rfl))
        (allOT_cons (OT.plain rfl (ob_storeF ty_28 rfl rfl (Opd.tl Opd.t0) Opd.t0))
        (allOT_cons (OT.plain rfl (ob_assign rfl rfl Opd.t0))
        allOT_nil)))))))))
      hst hb (fun a g hst hb => ?_)
  refine then_n ?_
  refine wp_seq ?_
  obtain ⟨r7, h8, H0⟩ := of_bind H0
  refine wp_reg follows (N := 88) (L := [(1, (k_shelf_Shelf.ptr r1.1)), (2, (pInt .i64 r1.2)), (3, (k_api_Record.ptr ({ Kind := (2 : Int), Num := (4 : Int), Low := (0 : Int), High := (0 : Int), Real := (0 : Nat), Cap := (0 : Int), Text := ByteArray.empty, List := ([] : List api_Item) } : api_Record))), (4, (k_shelf_Shelf.ptr r3.1)), (5, (pInt .i64 r3.2)), (6, (k_shelf_Shelf.ptr r5.1)), (7, (pInt .i64 r5.2))])
      (T := [⟨[.old 5], [(29, (k_shelf_Shelf.pd r5.1))], [], [], [29]⟩,
        ⟨[.op 0 0], [(30, (pTup [(pStr r7.1), (k_api_Record.pd r7.2.1), (pBool r7.2.2)]))], [], [0], [30]⟩,
        ⟨[.op 1 0], [(28, (pTup [(pStr r7.1), (k_api_Record.pd r7.2.1), (pBool r7.2.2)]))], [], [0, 1], [28]⟩,
        ⟨[.op 2 0], [(31, (pStr r7.1))], [], [0, 1, 2], [31]⟩,
        ⟨[.op 2 0], [(32, (k_api_Record.pd r7.2.1))], [], [0, 1, 2], [32]⟩,
        ⟨[.op 2 0], [(33, (pBool r7.2.2))], [], [0, 1, 2], [33]⟩,
        ⟨[], [(9, (pBox k_api_Record 9 (default : api_Record)))], [10], [], [9]⟩,
        ⟨[.op 3 0], [(8, (pStr r7.1))], [], [0, 1, 2, 3, 6], [8]⟩,
        ⟨[.op 4 0, .op 6 0], [(9, (k_api_Record.ptr r7.2.1))], [10], [0, 1, 2, 3, 4, 6, 7], [9]⟩,
        ⟨[.op 5 0], [(10, (pBool r7.2.2))], [], [0, 1, 2, 3, 4, 5, 6, 7, 8], [10]⟩])
      (F := [.old 0, .old 1, .old 2, .old 3, .old 4, .old 5, .old 6, .op 7 0, .op 8 0, .op 9 0]) (by kernel_rfl)
      (allOT_cons (OT.plain rfl (ob_load ty_28 rfl rfl Opd.t0))
        (allOT_cons (OT.plain rfl (ob_call en_16 (shelf_Shelf_At_ok _ _ h8) rfl rfl (.cons Opd.t0 (.cons (Opd.c (int_q _ _)) .nil))))
        (allOT_cons (OT.plain rfl (ob_move rfl rfl Opd.t0))
        (allOT_cons (OT.plain rfl (ob_extract rfl rfl Opd.t0 rfl))
        (allOT_cons (OT.plain rfl (ob_extract rfl rfl Opd.t0 rfl))
        (allOT_cons (OT.plain rfl (ob_extract rfl rfl Opd.t0 rfl))
        (allOT_cons (OT.plain rfl (ob_alloc (zs := [.int .i64 0, .int .i64 0, .int .i64 0, .int .i64 0, .float .f64 0, .int .i64 0, .string ByteArray.empty, .slice none 0 0]) (by kernel_rfl) (fun g => zk_api_Record g) rfl rfl))
        (allOT_cons (OT.plain rfl (ob_assign rfl rfl Opd.t0))
        (allOT_cons (OT.plain rfl (ob_storeF ty_38 rfl rfl (Opd.tl Opd.t0) Opd.t0))
        (allOT_cons (OT.plain rfl (ob_assign rfl rfl Opd.t0))
        allOT_nil))))))))))
      hst hb (fun a g hst hb => ?_)
  refine then_n ?_
  refine wp_seq ?_
  obtain ⟨r9, h10, H0⟩ := of_bind H0
  obtain ⟨r11, h12, H0⟩ := of_bind H0
  obtain ⟨r13, h14, H0⟩ := of_bind H0
  obtain ⟨r15, h16, H0⟩ := of_bind H0
  obtain ⟨r17, h18, H0⟩ := of_bind H0
  obtain ⟨r19, h20, H0⟩ := of_bind H0
  obtain ⟨r21, h22, H0⟩ := of_bind H0
  refine wp_reg follows (N := 88) (L := [(1, (k_shelf_Shelf.ptr r1.1)), (2, (pInt .i64 r1.2)), (3, (k_api_Record.ptr ({ Kind := (2 : Int), Num := (4 : Int), Low := (0 : Int), High := (0 : Int), Real := (0 : Nat), Cap := (0 : Int), Text := ByteArray.empty, List := ([] : List api_Item) } : api_Record))), (4, (k_shelf_Shelf.ptr r3.1)), (5, (pInt .i64 r3.2)), (6, (k_shelf_Shelf.ptr r5.1)), (7, (pInt .i64 r5.2)), (8, (pStr r7.1)), (9, (k_api_Record.ptr r7.2.1)), (10, (pBool r7.2.2))])
      (T := [⟨[.old 1], [(34, (pInt .i64 r1.2))], [], [], [34]⟩,
        ⟨[.op 0 0], [(35, (pBool (r1.2 == (0 : Int))))], [], [0], [35]⟩,
        ⟨[.op 1 0], [(36, (pBool (r1.2 == (0 : Int))))], [], [0, 1], [36]⟩,
        ⟨[.op 2 0, .old 4], [(37, (pIf (r1.2 == (0 : Int)) (pInt .i64 r3.2)))], [], [0, 1, 2], [37]⟩,
        ⟨[.op 2 0, .op 3 0], [(38, (pIf (r1.2 == (0 : Int)) (pBool (r3.2 == (0 : Int)))))], [], [0, 1, 2, 3], [38]⟩,
        ⟨[.op 2 0, .op 4 0], [(39, (pBool ((r1.2 == (0 : Int)) && (r3.2 == (0 : Int)))))], [], [0, 1, 2, 3, 4], [39]⟩,
        ⟨[.op 5 0], [(40, (pBool ((r1.2 == (0 : Int)) && (r3.2 == (0 : Int)))))], [], [0, 1, 2, 3, 4, 5], [40]⟩,
        ⟨[.op 6 0, .old 6], [(41, (pIf ((r1.2 == (0 : Int)) && (r3.2 == (0 : Int))) (pInt .i64 r5.2)))], [], [0, 1, 2, 3, 4, 5, 6], [41]⟩,
        ⟨[.op 6 0, .op 7 0], [(42, (pIf ((r1.2 == (0 : Int)) && (r3.2 == (0 : Int))) (pBool (r5.2 == (8 : Int)))))], [], [0, 1, 2, 3, 4, 5, 6, 7], [42]⟩,
        ⟨[.op 6 0, .op 8 0], [(43, (pBool (((r1.2 == (0 : Int)) && (r3.2 == (0 : Int))) && (r5.2 == (8 : Int)))))], [], [0, 1, 2, 3, 4, 5, 6, 7, 8], [43]⟩,
        ⟨[.op 9 0], [(44, (pBool (((r1.2 == (0 : Int)) && (r3.2 == (0 : Int))) && (r5.2 == (8 : Int)))))], [], [0, 1, 2, 3, 4, 5, 6, 7, 8, 9], [44]⟩,
        ⟨[.op 10 0, .old 0], [(45, (pIf (((r1.2 == (0 : Int)) && (r3.2 == (0 : Int))) && (r5.2 == (8 : Int))) (k_shelf_Shelf.pd r1.1)))], [], [0, 1, 2, 3, 4, 5, 6, 7, 8, 9, 10], [45]⟩,
        ⟨[.op 10 0, .op 11 0], [(46, (pIf (((r1.2 == (0 : Int)) && (r3.2 == (0 : Int))) && (r5.2 == (8 : Int))) (pInt .i64 r9)))], [], [0, 1, 2, 3, 4, 5, 6, 7, 8, 9, 10, 11], [46]⟩,
        ⟨[.op 10 0, .op 12 0], [(47, (pIf (((r1.2 == (0 : Int)) && (r3.2 == (0 : Int))) && (r5.2 == (8 : Int))) (pBool (r9 == (0 : Int)))))], [], [0, 1, 2, 3, 4, 5, 6, 7, 8, 9, 10, 11, 12], [47]⟩,
        ⟨[.op 10 0, .op 13 0], [(48, (pBool ((((r1.2 == (0 : Int)) && (r3.2 == (0 : Int))) && (r5.2 == (8 : Int))) && (r9 == (0 : Int)))))], [], [0, 1, 2, 3, 4, 5, 6, 7, 8, 9, 10, 11, 12, 13], [48]⟩,
        ⟨[.op 14 0], [(49, (pBool ((((r1.2 == (0 : Int)) && (r3.2 == (0 : Int))) && (r5.2 == (8 : Int))) && (r9 == (0 : Int)))))], [], [0, 1, 2, 3, 4, 5, 6, 7, 8, 9, 10, 11, 12, 13, 14], [49]⟩,
        ⟨[.op 15 0, .old 3], [(50, (pIf ((((r1.2 == (0 : Int)) && (r3.2 == (0 : Int))) && (r5.2 == (8 : Int))) && (r9 == (0 : Int))) (k_shelf_Shelf.pd r3.1)))], [], [0, 1, 2, 3, 4, 5, 6, 7, 8, 9, 10, 11, 12, 13, 14, 15], [50]⟩,
        ⟨[.op 15 0, .op 16 0], [(51, (pIf ((((r1.2 == (0 : Int)) && (r3.2 == (0 : Int))) && (r5.2 == (8 : Int))) && (r9 == (0 : Int))) (pInt .i64 r11)))], [], [0, 1, 2, 3, 4, 5, 6, 7, 8, 9, 10, 11, 12, 13, 14, 15, 16], [51]⟩,
        ⟨[.op 15 0, .op 17 0], [(52, (pIf ((((r1.2 == (0 : Int)) && (r3.2 == (0 : Int))) && (r5.2 == (8 : Int))) && (r9 == (0 : Int))) (pBool (r11 == (1 : Int)))))], [], [0, 1, 2, 3, 4, 5, 6, 7, 8, 9, 10, 11, 12, 13, 14, 15, 16, 17], [52]⟩,
        ⟨[.op 15 0, .op 18 0], [(53, (pBool (((((r1.2 == (0 : Int)) && (r3.2 == (0 : Int))) && (r5.2 == (8 : Int))) && (r9 == (0 : Int))) && (r11 == (1 : Int)))))], [], [0, 1, 2, 3, 4, 5, 6, 7, 8, 9, 10, 11, 12, 13, 14, 15, 16, 17, 18], [53]⟩,
        ⟨[.op 19 0], [(54, (pBool (((((r1.2 == (0 : Int)) && (r3.2 == (0 : Int))) && (r5.2 == (8 : Int))) && (r9 == (0 : Int))) && (r11 == (1 : Int)))))], [], [0, 1, 2, 3, 4, 5, 6, 7, 8, 9, 10, 11, 12, 13, 14, 15, 16, 17, 18, 19], [54]⟩,
        ⟨[.op 20 0, .old 7], [(55, (pIf (((((r1.2 == (0 : Int)) && (r3.2 == (0 : Int))) && (r5.2 == (8 : Int))) && (r9 == (0 : Int))) && (r11 == (1 : Int))) (pStr r7.1)))], [], [0, 1, 2, 3, 4, 5, 6, 7, 8, 9, 10, 11, 12, 13, 14, 15, 16, 17, 18, 19, 20], [55]⟩,
        ⟨[.op 20 0, .op 21 0], [(56, (pIf (((((r1.2 == (0 : Int)) && (r3.2 == (0 : Int))) && (r5.2 == (8 : Int))) && (r9 == (0 : Int))) && (r11 == (1 : Int))) (pBool (sEq r7.1 (⟨#[97]⟩ : ByteArray)))))], [], [0, 1, 2, 3, 4, 5, 6, 7, 8, 9, 10, 11, 12, 13, 14, 15, 16, 17, 18, 19, 20, 21], [56]⟩,
        ⟨[.op 20 0, .op 22 0], [(57, (pBool ((((((r1.2 == (0 : Int)) && (r3.2 == (0 : Int))) && (r5.2 == (8 : Int))) && (r9 == (0 : Int))) && (r11 == (1 : Int))) && (sEq r7.1 (⟨#[97]⟩ : ByteArray)))))], [], [0, 1, 2, 3, 4, 5, 6, 7, 8, 9, 10, 11, 12, 13, 14, 15, 16, 17, 18, 19, 20, 21, 22], [57]⟩,
        ⟨[.op 23 0], [(58, (pBool ((((((r1.2 == (0 : Int)) && (r3.2 == (0 : Int))) && (r5.2 == (8 : Int))) && (r9 == (0 : Int))) && (r11 == (1 : Int))) && (sEq r7.1 (⟨#[97]⟩ : ByteArray)))))], [], [0, 1, 2, 3, 4, 5, 6, 7, 8, 9, 10, 11, 12, 13, 14, 15, 16, 17, 18, 19, 20, 21, 22, 23], [58]⟩,
        ⟨[.op 24 0, .old 8], [(59, (pIf ((((((r1.2 == (0 : Int)) && (r3.2 == (0 : Int))) && (r5.2 == (8 : Int))) && (r9 == (0 : Int))) && (r11 == (1 : Int))) && (sEq r7.1 (⟨#[97]⟩ : ByteArray))) (k_api_Record.pd r7.2.1)))], [], [0, 1, 2, 3, 4, 5, 6, 7, 8, 9, 10, 11, 12, 13, 14, 15, 16, 17, 18, 19, 20, 21, 22, 23, 24], [59]⟩,
        ⟨[.op 24 0, .old 2], [(60, (pIf ((((((r1.2 == (0 : Int)) && (r3.2 == (0 : Int))) && (r5.2 == (8 : Int))) && (r9 == (0 : Int))) && (r11 == (1 : Int))) && (sEq r7.1 (⟨#[97]⟩ : ByteArray))) (k_api_Record.pd ({ Kind := (2 : Int), Num := (4 : Int), Low := (0 : Int), High := (0 : Int), Real := (0 : Nat), Cap := (0 : Int), Text := ByteArray.empty, List := ([] : List api_Item) } : api_Record))))], [], [0, 1, 2, 3, 4, 5, 6, 7, 8, 9, 10, 11, 12, 13, 14, 15, 16, 17, 18, 19, 20, 21, 22, 23, 24], [60]⟩,
        ⟨[.op 24 0, .op 25 0, .op 26 0], [(61, (pIf ((((((r1.2 == (0 : Int)) && (r3.2 == (0 : Int))) && (r5.2 == (8 : Int))) && (r9 == (0 : Int))) && (r11 == (1 : Int))) && (sEq r7.1 (⟨#[97]⟩ : ByteArray))) (pBool r13)))], [], [0, 1, 2, 3, 4, 5, 6, 7, 8, 9, 10, 11, 12, 13, 14, 15, 16, 17, 18, 19, 20, 21, 22, 23, 24, 25, 26], [61]⟩,
        ⟨[.op 24 0, .op 27 0], [(62, (pBool (((((((r1.2 == (0 : Int)) && (r3.2 == (0 : Int))) && (r5.2 == (8 : Int))) && (r9 == (0 : Int))) && (r11 == (1 : Int))) && (sEq r7.1 (⟨#[97]⟩ : ByteArray))) && r13)))], [], [0, 1, 2, 3, 4, 5, 6, 7, 8, 9, 10, 11, 12, 13, 14, 15, 16, 17, 18, 19, 20, 21, 22, 23, 24, 25, 26, 27], [62]⟩,
        ⟨[.op 28 0], [(63, (pBool (((((((r1.2 == (0 : Int)) && (r3.2 == (0 : Int))) && (r5.2 == (8 : Int))) && (r9 == (0 : Int))) && (r11 == (1 : Int))) && (sEq r7.1 (⟨#[97]⟩ : ByteArray))) && r13)))], [], [0, 1, 2, 3, 4, 5, 6, 7, 8, 9, 10, 11, 12, 13, 14, 15, 16, 17, 18, 19, 20, 21, 22, 23, 24, 25, 26, 27, 28], [63]⟩,
        ⟨[.op 29 0, .old 9], [(64, (pIf (((((((r1.2 == (0 : Int)) && (r3.2 == (0 : Int))) && (r5.2 == (8 : Int))) && (r9 == (0 : Int))) && (r11 == (1 : Int))) && (sEq r7.1 (⟨#[97]⟩ : ByteArray))) && r13) (pBool r7.2.2)))], [], [0, 1, 2, 3, 4, 5, 6, 7, 8, 9, 10, 11, 12, 13, 14, 15, 16, 17, 18, 19, 20, 21, 22, 23, 24, 25, 26, 27, 28, 29], [64]⟩,
        ⟨[.op 29 0, .op 30 0], [(65, (pBool ((((((((r1.2 == (0 : Int)) && (r3.2 == (0 : Int))) && (r5.2 == (8 : Int))) && (r9 == (0 : Int))) && (r11 == (1 : Int))) && (sEq r7.1 (⟨#[97]⟩ : ByteArray))) && r13) && r7.2.2)))], [], [0, 1, 2, 3, 4, 5, 6, 7, 8, 9, 10, 11, 12, 13, 14, 15, 16, 17, 18, 19, 20, 21, 22, 23, 24, 25, 26, 27, 28, 29, 30], [65]⟩,
        ⟨[.op 31 0], [(66, (pBool ((((((((r1.2 == (0 : Int)) && (r3.2 == (0 : Int))) && (r5.2 == (8 : Int))) && (r9 == (0 : Int))) && (r11 == (1 : Int))) && (sEq r7.1 (⟨#[97]⟩ : ByteArray))) && r13) && r7.2.2)))], [], [0, 1, 2, 3, 4, 5, 6, 7, 8, 9, 10, 11, 12, 13, 14, 15, 16, 17, 18, 19, 20, 21, 22, 23, 24, 25, 26, 27, 28, 29, 30, 31], [66]⟩,
        ⟨[.op 32 0, .old 3], [(67, (pIf ((((((((r1.2 == (0 : Int)) && (r3.2 == (0 : Int))) && (r5.2 == (8 : Int))) && (r9 == (0 : Int))) && (r11 == (1 : Int))) && (sEq r7.1 (⟨#[97]⟩ : ByteArray))) && r13) && r7.2.2) (k_shelf_Shelf.pd r3.1)))], [], [0, 1, 2, 3, 4, 5, 6, 7, 8, 9, 10, 11, 12, 13, 14, 15, 16, 17, 18, 19, 20, 21, 22, 23, 24, 25, 26, 27, 28, 29, 30, 31, 32], [67]⟩,
        ⟨[.op 32 0, .op 33 0], [(68, (pIf ((((((((r1.2 == (0 : Int)) && (r3.2 == (0 : Int))) && (r5.2 == (8 : Int))) && (r9 == (0 : Int))) && (r11 == (1 : Int))) && (sEq r7.1 (⟨#[97]⟩ : ByteArray))) && r13) && r7.2.2) (pInt .i64 r15)))], [], [0, 1, 2, 3, 4, 5, 6, 7, 8, 9, 10, 11, 12, 13, 14, 15, 16, 17, 18, 19, 20, 21, 22, 23, 24, 25, 26, 27, 28, 29, 30, 31, 32, 33], [68]⟩,
        ⟨[.op 32 0, .op 34 0], [(69, (pIf ((((((((r1.2 == (0 : Int)) && (r3.2 == (0 : Int))) && (r5.2 == (8 : Int))) && (r9 == (0 : Int))) && (r11 == (1 : Int))) && (sEq r7.1 (⟨#[97]⟩ : ByteArray))) && r13) && r7.2.2) (pBool (r15 == (1 : Int)))))], [], [0, 1, 2, 3, 4, 5, 6, 7, 8, 9, 10, 11, 12, 13, 14, 15, 16, 17, 18, 19, 20, 21, 22, 23, 24, 25, 26, 27, 28, 29, 30, 31, 32, 33, 34], [69]⟩,
        ⟨[.op 32 0, .op 35 0], [(70, (pBool (((((((((r1.2 == (0 : Int)) && (r3.2 == (0 : Int))) && (r5.2 == (8 : Int))) && (r9 == (0 : Int))) && (r11 == (1 : Int))) && (sEq r7.1 (⟨#[97]⟩ : ByteArray))) && r13) && r7.2.2) && (r15 == (1 : Int)))))], [], [0, 1, 2, 3, 4, 5, 6, 7, 8, 9, 10, 11, 12, 13, 14, 15, 16, 17, 18, 19, 20, 21, 22, 23, 24, 25, 26, 27, 28, 29, 30, 31, 32, 33, 34, 35], [70]⟩,
        ⟨[.op 36 0], [(71, (pBool (((((((((r1.2 == (0 : Int)) && (r3.2 == (0 : Int))) && (r5.2 == (8 : Int))) && (r9 == (0 : Int))) && (r11 == (1 : Int))) && (sEq r7.1 (⟨#[97]⟩ : ByteArray))) && r13) && r7.2.2) && (r15 == (1 : Int)))))], [], [0, 1, 2, 3, 4, 5, 6, 7, 8, 9, 10, 11, 12, 13, 14, 15, 16, 17, 18, 19, 20, 21, 22, 23, 24, 25, 26, 27, 28, 29, 30, 31, 32, 33, 34, 35, 36], [71]⟩,
        ⟨[.op 37 0, .old 3], [(72, (pIf (((((((((r1.2 == (0 : Int)) && (r3.2 == (0 : Int))) && (r5.2 == (8 : Int))) && (r9 == (0 : Int))) && (r11 == (1 : Int))) && (sEq r7.1 (⟨#[97]⟩ : ByteArray))) && r13) && r7.2.2) && (r15 == (1 : Int))) (k_shelf_Shelf.pd r3.1)))], [], [0, 1, 2, 3, 4, 5, 6, 7, 8, 9, 10, 11, 12, 13, 14, 15, 16, 17, 18, 19, 20, 21, 22, 23, 24, 25, 26, 27, 28, 29, 30, 31, 32, 33, 34, 35, 36, 37], [72]⟩,
        ⟨[.op 37 0, .op 38 0], [(73, (pIf (((((((((r1.2 == (0 : Int)) && (r3.2 == (0 : Int))) && (r5.2 == (8 : Int))) && (r9 == (0 : Int))) && (r11 == (1 : Int))) && (sEq r7.1 (⟨#[97]⟩ : ByteArray))) && r13) && r7.2.2) && (r15 == (1 : Int))) (Kd.str.sl.pd r17)))], [], [0, 1, 2, 3, 4, 5, 6, 7, 8, 9, 10, 11, 12, 13, 14, 15, 16, 17, 18, 19, 20, 21, 22, 23, 24, 25, 26, 27, 28, 29, 30, 31, 32, 33, 34, 35, 36, 37, 38], [73]⟩,
        ⟨[.op 37 0, .op 39 0], [(74, (pIf (((((((((r1.2 == (0 : Int)) && (r3.2 == (0 : Int))) && (r5.2 == (8 : Int))) && (r9 == (0 : Int))) && (r11 == (1 : Int))) && (sEq r7.1 (⟨#[97]⟩ : ByteArray))) && r13) && r7.2.2) && (r15 == (1 : Int))) (pInt .i64 (r17.length : Int))))], [], [0, 1, 2, 3, 4, 5, 6, 7, 8, 9, 10, 11, 12, 13, 14, 15, 16, 17, 18, 19, 20, 21, 22, 23, 24, 25, 26, 27, 28, 29, 30, 31, 32, 33, 34, 35, 36, 37, 38, 39], [74]⟩,
        ⟨[.op 37 0, .op 40 0], [(75, (pIf (((((((((r1.2 == (0 : Int)) && (r3.2 == (0 : Int))) && (r5.2 == (8 : Int))) && (r9 == (0 : Int))) && (r11 == (1 : Int))) && (sEq r7.1 (⟨#[97]⟩ : ByteArray))) && r13) && r7.2.2) && (r15 == (1 : Int))) (pBool ((r17.length : Int) == (1 : Int)))))], [], [0, 1, 2, 3, 4, 5, 6, 7, 8, 9, 10, 11, 12, 13, 14, 15, 16, 17, 18, 19, 20, 21, 22, 23, 24, 25, 26, 27, 28, 29, 30, 31, 32, 33, 34, 35, 36, 37, 38, 39, 40], [75]⟩,
        ⟨[.op 37 0, .op 41 0], [(76, (pBool ((((((((((r1.2 == (0 : Int)) && (r3.2 == (0 : Int))) && (r5.2 == (8 : Int))) && (r9 == (0 : Int))) && (r11 == (1 : Int))) && (sEq r7.1 (⟨#[97]⟩ : ByteArray))) && r13) && r7.2.2) && (r15 == (1 : Int))) && ((r17.length : Int) == (1 : Int)))))], [], [0, 1, 2, 3, 4, 5, 6, 7, 8, 9, 10, 11, 12, 13, 14, 15, 16, 17, 18, 19, 20, 21, 22, 23, 24, 25, 26, 27, 28, 29, 30, 31, 32, 33, 34, 35, 36, 37, 38, 39, 40, 41], [76]⟩,
        ⟨[.op 42 0], [(77, (pBool ((((((((((r1.2 == (0 : Int)) && (r3.2 == (0 : Int))) && (r5.2 == (8 : Int))) && (r9 == (0 : Int))) && (r11 == (1 : Int))) && (sEq r7.1 (⟨#[97]⟩ : ByteArray))) && r13) && r7.2.2) && (r15 == (1 : Int))) && ((r17.length : Int) == (1 : Int)))))], [], [0, 1, 2, 3, 4, 5, 6, 7, 8, 9, 10, 11, 12, 13, 14, 15, 16, 17, 18, 19, 20, 21, 22, 23, 24, 25, 26, 27, 28, 29, 30, 31, 32, 33, 34, 35, 36, 37, 38, 39, 40, 41, 42], [77]⟩,
        ⟨[.op 43 0, .old 3], [(78, (pIf ((((((((((r1.2 == (0 : Int)) && (r3.2 == (0 : Int))) && (r5.2 == (8 : Int))) && (r9 == (0 : Int))) && (r11 == (1 : Int))) && (sEq r7.1 (⟨#[97]⟩ : ByteArray))) && r13) && r7.2.2) && (r15 == (1 : Int))) && ((r17.length : Int) == (1 : Int))) (k_shelf_Shelf.pd r3.1)))], [], [0, 1, 2, 3, 4, 5, 6, 7, 8, 9, 10, 11, 12, 13, 14, 15, 16, 17, 18, 19, 20, 21, 22, 23, 24, 25, 26, 27, 28, 29, 30, 31, 32, 33, 34, 35, 36, 37, 38, 39, 40, 41, 42, 43], [78]⟩,
        ⟨[.op 43 0, .old 5], [(79, (pIf ((((((((((r1.2 == (0 : Int)) && (r3.2 == (0 : Int))) && (r5.2 == (8 : Int))) && (r9 == (0 : Int))) && (r11 == (1 : Int))) && (sEq r7.1 (⟨#[97]⟩ : ByteArray))) && r13) && r7.2.2) && (r15 == (1 : Int))) && ((r17.length : Int) == (1 : Int))) (k_shelf_Shelf.pd r5.1)))], [], [0, 1, 2, 3, 4, 5, 6, 7, 8, 9, 10, 11, 12, 13, 14, 15, 16, 17, 18, 19, 20, 21, 22, 23, 24, 25, 26, 27, 28, 29, 30, 31, 32, 33, 34, 35, 36, 37, 38, 39, 40, 41, 42, 43], [79]⟩,
        ⟨[.op 43 0, .op 44 0, .op 45 0], [(80, (pIf ((((((((((r1.2 == (0 : Int)) && (r3.2 == (0 : Int))) && (r5.2 == (8 : Int))) && (r9 == (0 : Int))) && (r11 == (1 : Int))) && (sEq r7.1 (⟨#[97]⟩ : ByteArray))) && r13) && r7.2.2) && (r15 == (1 : Int))) && ((r17.length : Int) == (1 : Int))) (pBool r19)))], [], [0, 1, 2, 3, 4, 5, 6, 7, 8, 9, 10, 11, 12, 13, 14, 15, 16, 17, 18, 19, 20, 21, 22, 23, 24, 25, 26, 27, 28, 29, 30, 31, 32, 33, 34, 35, 36, 37, 38, 39, 40, 41, 42, 43, 44, 45], [80]⟩,
        ⟨[.op 43 0, .op 46 0], [(81, (pBool (((((((((((r1.2 == (0 : Int)) && (r3.2 == (0 : Int))) && (r5.2 == (8 : Int))) && (r9 == (0 : Int))) && (r11 == (1 : Int))) && (sEq r7.1 (⟨#[97]⟩ : ByteArray))) && r13) && r7.2.2) && (r15 == (1 : Int))) && ((r17.length : Int) == (1 : Int))) && r19)))], [], [0, 1, 2, 3, 4, 5, 6, 7, 8, 9, 10, 11, 12, 13, 14, 15, 16, 17, 18, 19, 20, 21, 22, 23, 24, 25, 26, 27, 28, 29, 30, 31, 32, 33, 34, 35, 36, 37, 38, 39, 40, 41, 42, 43, 44, 45, 46], [81]⟩,
        ⟨[.op 47 0], [(82, (pBool (((((((((((r1.2 == (0 : Int)) && (r3.2 == (0 : Int))) && (r5.2 == (8 : Int))) && (r9 == (0 : Int))) && (r11 == (1 : Int))) && (sEq r7.1 (⟨#[97]⟩ : ByteArray))) && r13) && r7.2.2) && (r15 == (1 : Int))) && ((r17.length : Int) == (1 : Int))) && r19)))], [], [0, 1, 2, 3, 4, 5, 6, 7, 8, 9, 10, 11, 12, 13, 14, 15, 16, 17, 18, 19, 20, 21, 22, 23, 24, 25, 26, 27, 28, 29, 30, 31, 32, 33, 34, 35, 36, 37, 38, 39, 40, 41, 42, 43, 44, 45, 46, 47], [82]⟩,
        ⟨[.op 48 0, .old 0], [(83, (pIf (((((((((((r1.2 == (0 : Int)) && (r3.2 == (0 : Int))) && (r5.2 == (8 : Int))) && (r9 == (0 : Int))) && (r11 == (1 : Int))) && (sEq r7.1 (⟨#[97]⟩ : ByteArray))) && r13) && r7.2.2) && (r15 == (1 : Int))) && ((r17.length : Int) == (1 : Int))) && r19) (k_shelf_Shelf.pd r1.1)))], [], [0, 1, 2, 3, 4, 5, 6, 7, 8, 9, 10, 11, 12, 13, 14, 15, 16, 17, 18, 19, 20, 21, 22, 23, 24, 25, 26, 27, 28, 29, 30, 31, 32, 33, 34, 35, 36, 37, 38, 39, 40, 41, 42, 43, 44, 45, 46, 47, 48], [83]⟩,
        ⟨[.op 48 0, .old 3], [(84, (pIf (((((((((((r1.2 == (0 : Int)) && (r3.2 == (0 : Int))) && (r5.2 == (8 : Int))) && (r9 == (0 : Int))) && (r11 == (1 : Int))) && (sEq r7.1 (⟨#[97]⟩ : ByteArray))) && r13) && r7.2.2) && (r15 == (1 : Int))) && ((r17.length : Int) == (1 : Int))) && r19) (k_shelf_Shelf.pd r3.1)))], [], [0, 1, 2, 3, 4, 5, 6, 7, 8, 9, 10, 11, 12, 13, 14, 15, 16, 17, 18, 19, 20, 21, 22, 23, 24, 25, 26, 27, 28, 29, 30, 31, 32, 33, 34, 35, 36, 37, 38, 39, 40, 41, 42, 43, 44, 45, 46, 47, 48], [84]⟩,
        ⟨[.op 48 0, .op 49 0, .op 50 0], [(85, (pIf (((((((((((r1.2 == (0 : Int)) && (r3.2 == (0 : Int))) && (r5.2 == (8 : Int))) && (r9 == (0 : Int))) && (r11 == (1 : Int))) && (sEq r7.1 (⟨#[97]⟩ : ByteArray))) && r13) && r7.2.2) && (r15 == (1 : Int))) && ((r17.length : Int) == (1 : Int))) && r19) (pBool r21)))], [], [0, 1, 2, 3, 4, 5, 6, 7, 8, 9, 10, 11, 12, 13, 14, 15, 16, 17, 18, 19, 20, 21, 22, 23, 24, 25, 26, 27, 28, 29, 30, 31, 32, 33, 34, 35, 36, 37, 38, 39, 40, 41, 42, 43, 44, 45, 46, 47, 48, 49, 50], [85]⟩,
        ⟨[.op 48 0, .op 51 0], [(86, (pIf (((((((((((r1.2 == (0 : Int)) && (r3.2 == (0 : Int))) && (r5.2 == (8 : Int))) && (r9 == (0 : Int))) && (r11 == (1 : Int))) && (sEq r7.1 (⟨#[97]⟩ : ByteArray))) && r13) && r7.2.2) && (r15 == (1 : Int))) && ((r17.length : Int) == (1 : Int))) && r19) (pBool (!r21))))], [], [0, 1, 2, 3, 4, 5, 6, 7, 8, 9, 10, 11, 12, 13, 14, 15, 16, 17, 18, 19, 20, 21, 22, 23, 24, 25, 26, 27, 28, 29, 30, 31, 32, 33, 34, 35, 36, 37, 38, 39, 40, 41, 42, 43, 44, 45, 46, 47, 48, 49, 50, 51], [86]⟩,
        ⟨[.op 48 0, .op 52 0], [(87, (pBool ((((((((((((r1.2 == (0 : Int)) && (r3.2 == (0 : Int))) && (r5.2 == (8 : Int))) && (r9 == (0 : Int))) && (r11 == (1 : Int))) && (sEq r7.1 (⟨#[97]⟩ : ByteArray))) && r13) && r7.2.2) && (r15 == (1 : Int))) && ((r17.length : Int) == (1 : Int))) && r19) && (!r21))))], [], [0, 1, 2, 3, 4, 5, 6, 7, 8, 9, 10, 11, 12, 13, 14, 15, 16, 17, 18, 19, 20, 21, 22, 23, 24, 25, 26, 27, 28, 29, 30, 31, 32, 33, 34, 35, 36, 37, 38, 39, 40, 41, 42, 43, 44, 45, 46, 47, 48, 49, 50, 51, 52], [87]⟩,
        ⟨[.op 53 0], [(0, (pBool ((((((((((((r1.2 == (0 : Int)) && (r3.2 == (0 : Int))) && (r5.2 == (8 : Int))) && (r9 == (0 : Int))) && (r11 == (1 : Int))) && (sEq r7.1 (⟨#[97]⟩ : ByteArray))) && r13) && r7.2.2) && (r15 == (1 : Int))) && ((r17.length : Int) == (1 : Int))) && r19) && (!r21))))], [], [0, 1, 2, 3, 4, 5, 6, 7, 8, 9, 10, 11, 12, 13, 14, 15, 16, 17, 18, 19, 20, 21, 22, 23, 24, 25, 26, 27, 28, 29, 30, 31, 32, 33, 34, 35, 36, 37, 38, 39, 40, 41, 42, 43, 44, 45, 46, 47, 48, 49, 50, 51, 52, 53], [0]⟩])
      (F := [.op 54 0]) (by kernel_rfl)
      (allOT_cons (OT.plain rfl (ob_move rfl rfl Opd.t0))
        (allOT_cons (OT.plain rfl (ob_eq rfl rfl Opd.t0 (Opd.c (int_q _ _))))
        (allOT_cons (OT.plain rfl (ob_move rfl rfl Opd.t0))
        (allOT_cons (OT.guard (outs := [(37, (pInt .i64 r3.2))]) (r1.2 == (0 : Int)) (gT (r1.2 == (0 : Int))).1 (gT (r1.2 == (0 : Int))).2 rfl rfl (fun e he => by rw [List.mem_singleton.1 he]) (fun hG => ob_move rfl rfl Opd.t0))
        (allOT_cons (OT.guard (outs := [(38, (pBool (r3.2 == (0 : Int))))]) (r1.2 == (0 : Int)) (gT (r1.2 == (0 : Int))).1 (gT (r1.2 == (0 : Int))).2 rfl rfl (fun e he => by rw [List.mem_singleton.1 he]) (fun hG => ob_eq rfl rfl (Opd.gd hG Opd.t0) (Opd.c (int_q _ _))))
        (allOT_cons (OT.plain rfl (ob_pick (q := (pBool ((r1.2 == (0 : Int)) && (r3.2 == (0 : Int))))) rfl rfl Opd.t0 (fun hz => Opd.to (Opd.gd hz (Opd.tl Opd.t0)) (congrArg (fun t => (pBool t)) (pk_and_t hz))) (fun hz => Opd.to (Opd.c (bool_q _)) (congrArg (fun t => (pBool t)) (pk_and_f hz)))))
        (allOT_cons (OT.plain rfl (ob_move rfl rfl Opd.t0))
        (allOT_cons (OT.guard (outs := [(41, (pInt .i64 r5.2))]) ((r1.2 == (0 : Int)) && (r3.2 == (0 : Int))) (gT ((r1.2 == (0 : Int)) && (r3.2 == (0 : Int)))).1 (gT ((r1.2 == (0 : Int)) && (r3.2 == (0 : Int)))).2 rfl rfl (fun e he => by rw [List.mem_singleton.1 he]) (fun hG => ob_move rfl rfl Opd.t0))
        (allOT_cons (OT.guard (outs := [(42, (pBool (r5.2 == (8 : Int))))]) ((r1.2 == (0 : Int)) && (r3.2 == (0 : Int))) (gT ((r1.2 == (0 : Int)) && (r3.2 == (0 : Int)))).1 (gT ((r1.2 == (0 : Int)) && (r3.2 == (0 : Int)))).2 rfl rfl (fun e he => by rw [List.mem_singleton.1 he]) (fun hG => ob_eq rfl rfl (Opd.gd hG Opd.t0) (Opd.c (int_q _ _))))
        (allOT_cons (OT.plain rfl (ob_pick (q := (pBool (((r1.2 == (0 : Int)) && (r3.2 == (0 : Int))) && (r5.2 == (8 : Int))))) rfl rfl Opd.t0 (fun hz => Opd.to (Opd.gd hz (Opd.tl Opd.t0)) (congrArg (fun t => (pBool t)) (pk_and_t hz))) (fun hz => Opd.to (Opd.c (bool_q _)) (congrArg (fun t => (pBool t)) (pk_and_f hz)))))
        (allOT_cons (OT.plain rfl (ob_move rfl rfl Opd.t0))
        (allOT_cons (OT.guard (outs := [(45, (k_shelf_Shelf.pd r1.1))]) (((r1.2 == (0 : Int)) && (r3.2 == (0 : Int))) && (r5.2 == (8 : Int))) (gT (((r1.2 == (0 : Int)) && (r3.2 == (0 : Int))) && (r5.2 == (8 : Int)))).1 (gT (((r1.2 == (0 : Int)) && (r3.2 == (0 : Int))) && (r5.2 == (8 : Int)))).2 rfl rfl (fun e he => by rw [List.mem_singleton.1 he]) (fun hG => ob_load ty_28 rfl rfl Opd.t0))
        (allOT_cons (OT.guard (outs := [(46, (pInt .i64 r9))]) (((r1.2 == (0 : Int)) && (r3.2 == (0 : Int))) && (r5.2 == (8 : Int))) (gT (((r1.2 == (0 : Int)) && (r3.2 == (0 : Int))) && (r5.2 == (8 : Int)))).1 (gT (((r1.2 == (0 : Int)) && (r3.2 == (0 : Int))) && (r5.2 == (8 : Int)))).2 rfl rfl (fun e he => by rw [List.mem_singleton.1 he]) (fun hG => ob_call en_17 (shelf_Shelf_Len_ok _ (gd_true h10 hG)) rfl rfl (.cons (Opd.gd hG Opd.t0) .nil)))
        (allOT_cons (OT.guard (outs := [(47, (pBool (r9 == (0 : Int))))]) (((r1.2 == (0 : Int)) && (r3.2 == (0 : Int))) && (r5.2 == (8 : Int))) (gT (((r1.2 == (0 : Int)) && (r3.2 == (0 : Int))) && (r5.2 == (8 : Int)))).1 (gT (((r1.2 == (0 : Int)) && (r3.2 == (0 : Int))) && (r5.2 == (8 : Int)))).2 rfl rfl (fun e he => by rw [List.mem_singleton.1 he]) (fun hG => ob_eq rfl rfl (Opd.gd hG Opd.t0) (Opd.c (int_q _ _))))
        (allOT_cons (OT.plain rfl (ob_pick (q := (pBool ((((r1.2 == (0 : Int)) && (r3.2 == (0 : Int))) && (r5.2 == (8 : Int))) && (r9 == (0 : Int))))) rfl rfl Opd.t0 (fun hz => Opd.to (Opd.gd hz (Opd.tl Opd.t0)) (congrArg (fun t => (pBool t)) (pk_and_t hz))) (fun hz => Opd.to (Opd.c (bool_q _)) (congrArg (fun t => (pBool t)) (pk_and_f hz)))))
        (allOT_cons (OT.plain rfl (ob_move rfl rfl Opd.t0))
        (allOT_cons (OT.guard (outs := [(50, (k_shelf_Shelf.pd r3.1))]) ((((r1.2 == (0 : Int)) && (r3.2 == (0 : Int))) && (r5.2 == (8 : Int))) && (r9 == (0 : Int))) (gT ((((r1.2 == (0 : Int)) && (r3.2 == (0 : Int))) && (r5.2 == (8 : Int))) && (r9 == (0 : Int)))).1 (gT ((((r1.2 == (0 : Int)) && (r3.2 == (0 : Int))) && (r5.2 == (8 : Int))) && (r9 == (0 : Int)))).2 rfl rfl (fun e he => by rw [List.mem_singleton.1 he]) (fun hG => ob_load ty_28 rfl rfl Opd.t0))
        (allOT_cons (OT.guard (outs := [(51, (pInt .i64 r11))]) ((((r1.2 == (0 : Int)) && (r3.2 == (0 : Int))) && (r5.2 == (8 : Int))) && (r9 == (0 : Int))) (gT ((((r1.2 == (0 : Int)) && (r3.2 == (0 : Int))) && (r5.2 == (8 : Int))) && (r9 == (0 : Int)))).1 (gT ((((r1.2 == (0 : Int)) && (r3.2 == (0 : Int))) && (r5.2 == (8 : Int))) && (r9 == (0 : Int)))).2 rfl rfl (fun e he => by rw [List.mem_singleton.1 he]) (fun hG => ob_call en_17 (shelf_Shelf_Len_ok _ (gd_true h12 hG)) rfl rfl (.cons (Opd.gd hG Opd.t0) .nil)))
        (allOT_cons (OT.guard (outs := [(52, (pBool (r11 == (1 : Int))))]) ((((r1.2 == (0 : Int)) && (r3.2 == (0 : Int))) && (r5.2 == (8 : Int))) && (r9 == (0 : Int))) (gT ((((r1.2 == (0 : Int)) && (r3.2 == (0 : Int))) && (r5.2 == (8 : Int))) && (r9 == (0 : Int)))).1 (gT ((((r1.2 == (0 : Int)) && (r3.2 == (0 : Int))) && (r5.2 == (8 : Int))) && (r9 == (0 : Int)))).2 rfl rfl (fun e he => by rw [List.mem_singleton.1 he]) (fun hG => ob_eq rfl rfl (Opd.gd hG Opd.t0) (Opd.c (int_q _ _))))
        (allOT_cons (OT.plain rfl (ob_pick (q := (pBool (((((r1.2 == (0 : Int)) && (r3.2 == (0 : Int))) && (r5.2 == (8 : Int))) && (r9 == (0 : Int))) && (r11 == (1 : Int))))) rfl rfl Opd.t0 (fun hz => Opd.to (Opd.gd hz (Opd.tl Opd.t0)) (congrArg (fun t => (pBool t)) (pk_and_t hz))) (fun hz => Opd.to (Opd.c (bool_q _)) (congrArg (fun t => (pBool t)) (pk_and_f hz)))))
        (allOT_cons (OT.plain rfl (ob_move rfl rfl Opd.t0))
        (allOT_cons (OT.guard (outs := [(55, (pStr r7.1))]) (((((r1.2 == (0 : Int)) && (r3.2 == (0 : Int))) && (r5.2 == (8 : Int))) && (r9 == (0 : Int))) && (r11 == (1 : Int))) (gT (((((r1.2 == (0 : Int)) && (r3.2 == (0 : Int))) && (r5.2 == (8 : Int))) && (r9 == (0 : Int))) && (r11 == (1 : Int)))).1 (gT (((((r1.2 == (0 : Int)) && (r3.2 == (0 : Int))) && (r5.2 == (8 : Int))) && (r9 == (0 : Int))) && (r11 == (1 : Int)))).2 rfl rfl (fun e he => by rw [List.mem_singleton.1 he]) (fun hG => ob_move rfl rfl Opd.t0))
        (allOT_cons (OT.guard (outs := [(56, (pBool (sEq r7.1 (⟨#[97]⟩ : ByteArray))))]) (((((r1.2 == (0 : Int)) && (r3.2 == (0 : Int))) && (r5.2 == (8 : Int))) && (r9 == (0 : Int))) && (r11 == (1 : Int))) (gT (((((r1.2 == (0 : Int)) && (r3.2 == (0 : Int))) && (r5.2 == (8 : Int))) && (r9 == (0 : Int))) && (r11 == (1 : Int)))).1 (gT (((((r1.2 == (0 : Int)) && (r3.2 == (0 : Int))) && (r5.2 == (8 : Int))) && (r9 == (0 : Int))) && (r11 == (1 : Int)))).2 rfl rfl (fun e he => by rw [List.mem_singleton.1 he]) (fun hG => ob_seq rfl rfl (Opd.gd hG Opd.t0) (Opd.c (fun _ => pStr_iff.2 rfl))))
        (allOT_cons (OT.plain rfl (ob_pick (q := (pBool ((((((r1.2 == (0 : Int)) && (r3.2 == (0 : Int))) && (r5.2 == (8 : Int))) && (r9 == (0 : Int))) && (r11 == (1 : Int))) && (sEq r7.1 (⟨#[97]⟩ : ByteArray))))) rfl rfl Opd.t0 (fun hz => Opd.to (Opd.gd hz (Opd.tl Opd.t0)) (congrArg (fun t => (pBool t)) (pk_and_t hz))) (fun hz => Opd.to (Opd.c (bool_q _)) (congrArg (fun t => (pBool t)) (pk_and_f hz)))))
        (allOT_cons (OT.plain rfl (ob_move rfl rfl Opd.t0))
        (allOT_cons (OT.guard (outs := [(59, (k_api_Record.pd r7.2.1))]) ((((((r1.2 == (0 : Int)) && (r3.2 == (0 : Int))) && (r5.2 == (8 : Int))) && (r9 == (0 : Int))) && (r11 == (1 : Int))) && (sEq r7.1 (⟨#[97]⟩ : ByteArray))) (gT ((((((r1.2 == (0 : Int)) && (r3.2 == (0 : Int))) && (r5.2 == (8 : Int))) && (r9 == (0 : Int))) && (r11 == (1 : Int))) && (sEq r7.1 (⟨#[97]⟩ : ByteArray)))).1 (gT ((((((r1.2 == (0 : Int)) && (r3.2 == (0 : Int))) && (r5.2 == (8 : Int))) && (r9 == (0 : Int))) && (r11 == (1 : Int))) && (sEq r7.1 (⟨#[97]⟩ : ByteArray)))).2 rfl rfl (fun e he => by rw [List.mem_singleton.1 he]) (fun hG => ob_load ty_38 rfl rfl Opd.t0))
        (allOT_cons (OT.guard (outs := [(60, (k_api_Record.pd ({ Kind := (2 : Int), Num := (4 : Int), Low := (0 : Int), High := (0 : Int), Real := (0 : Nat), Cap := (0 : Int), Text := ByteArray.empty, List := ([] : List api_Item) } : api_Record)))]) ((((((r1.2 == (0 : Int)) && (r3.2 == (0 : Int))) && (r5.2 == (8 : Int))) && (r9 == (0 : Int))) && (r11 == (1 : Int))) && (sEq r7.1 (⟨#[97]⟩ : ByteArray))) (gT ((((((r1.2 == (0 : Int)) && (r3.2 == (0 : Int))) && (r5.2 == (8 : Int))) && (r9 == (0 : Int))) && (r11 == (1 : Int))) && (sEq r7.1 (⟨#[97]⟩ : ByteArray)))).1 (gT ((((((r1.2 == (0 : Int)) && (r3.2 == (0 : Int))) && (r5.2 == (8 : Int))) && (r9 == (0 : Int))) && (r11 == (1 : Int))) && (sEq r7.1 (⟨#[97]⟩ : ByteArray)))).2 rfl rfl (fun e he => by rw [List.mem_singleton.1 he]) (fun hG => ob_load ty_38 rfl rfl Opd.t0))
        (allOT_cons (OT.guard (outs := [(61, (pBool r13))]) ((((((r1.2 == (0 : Int)) && (r3.2 == (0 : Int))) && (r5.2 == (8 : Int))) && (r9 == (0 : Int))) && (r11 == (1 : Int))) && (sEq r7.1 (⟨#[97]⟩ : ByteArray))) (gT ((((((r1.2 == (0 : Int)) && (r3.2 == (0 : Int))) && (r5.2 == (8 : Int))) && (r9 == (0 : Int))) && (r11 == (1 : Int))) && (sEq r7.1 (⟨#[97]⟩ : ByteArray)))).1 (gT ((((((r1.2 == (0 : Int)) && (r3.2 == (0 : Int))) && (r5.2 == (8 : Int))) && (r9 == (0 : Int))) && (r11 == (1 : Int))) && (sEq r7.1 (⟨#[97]⟩ : ByteArray)))).2 rfl rfl (fun e he => by rw [List.mem_singleton.1 he]) (fun hG => ob_call en_29 (rec_Same_ok _ _ (gd_true h14 hG)) rfl rfl (.cons (Opd.gd hG Opd.t0) (.cons (Opd.gd hG (Opd.tl Opd.t0)) .nil))))
        (allOT_cons (OT.plain rfl (ob_pick (q := (pBool (((((((r1.2 == (0 : Int)) && (r3.2 == (0 : Int))) && (r5.2 == (8 : Int))) && (r9 == (0 : Int))) && (r11 == (1 : Int))) && (sEq r7.1 (⟨#[97]⟩ : ByteArray))) && r13))) rfl rfl Opd.t0 (fun hz => Opd.to (Opd.gd hz (Opd.tl Opd.t0)) (congrArg (fun t => (pBool t)) (pk_and_t hz))) (fun hz => Opd.to (Opd.c (bool_q _)) (congrArg (fun t => (pBool t)) (pk_and_f hz)))))
        (allOT_cons (OT.plain rfl (ob_move rfl rfl Opd.t0))
        (allOT_cons (OT.guard (outs := [(64, (pBool r7.2.2))]) (((((((r1.2 == (0 : Int)) && (r3.2 == (0 : Int))) && (r5.2 == (8 : Int))) && (r9 == (0 : Int))) && (r11 == (1 : Int))) && (sEq r7.1 (⟨#[97]⟩ : ByteArray))) && r13) (gT (((((((r1.2 == (0 : Int)) && (r3.2 == (0 : Int))) && (r5.2 == (8 : Int))) && (r9 == (0 : Int))) && (r11 == (1 : Int))) && (sEq r7.1 (⟨#[97]⟩ : ByteArray))) && r13)).1 (gT (((((((r1.2 == (0 : Int)) && (r3.2 == (0 : Int))) && (r5.2 == (8 : Int))) && (r9 == (0 : Int))) && (r11 == (1 : Int))) && (sEq r7.1 (⟨#[97]⟩ : ByteArray))) && r13)).2 rfl rfl (fun e he => by rw [List.mem_singleton.1 he]) (fun hG => ob_move rfl rfl Opd.t0))
        (allOT_cons (OT.plain rfl (ob_pick (q := (pBool ((((((((r1.2 == (0 : Int)) && (r3.2 == (0 : Int))) && (r5.2 == (8 : Int))) && (r9 == (0 : Int))) && (r11 == (1 : Int))) && (sEq r7.1 (⟨#[97]⟩ : ByteArray))) && r13) && r7.2.2))) rfl rfl Opd.t0 (fun hz => Opd.to (Opd.gd hz (Opd.tl Opd.t0)) (congrArg (fun t => (pBool t)) (pk_and_t hz))) (fun hz => Opd.to (Opd.c (bool_q _)) (congrArg (fun t => (pBool t)) (pk_and_f hz)))))
        (allOT_cons (OT.plain rfl (ob_move rfl rfl Opd.t0))
        (allOT_cons (OT.guard (outs := [(67, (k_shelf_Shelf.pd r3.1))]) ((((((((r1.2 == (0 : Int)) && (r3.2 == (0 : Int))) && (r5.2 == (8 : Int))) && (r9 == (0 : Int))) && (r11 == (1 : Int))) && (sEq r7.1 (⟨#[97]⟩ : ByteArray))) && r13) && r7.2.2) (gT ((((((((r1.2 == (0 : Int)) && (r3.2 == (0 : Int))) && (r5.2 == (8 : Int))) && (r9 == (0 : Int))) && (r11 == (1 : Int))) && (sEq r7.1 (⟨#[97]⟩ : ByteArray))) && r13) && r7.2.2)).1 (gT ((((((((r1.2 == (0 : Int)) && (r3.2 == (0 : Int))) && (r5.2 == (8 : Int))) && (r9 == (0 : Int))) && (r11 == (1 : Int))) && (sEq r7.1 (⟨#[97]⟩ : ByteArray))) && r13) && r7.2.2)).2 rfl rfl (fun e he => by rw [List.mem_singleton.1 he]) (fun hG => ob_load ty_28 rfl rfl Opd.t0))
        (allOT_cons (OT.guard (outs := [(68, (pInt .i64 r15))]) ((((((((r1.2 == (0 : Int)) && (r3.2 == (0 : Int))) && (r5.2 == (8 : Int))) && (r9 == (0 : Int))) && (r11 == (1 : Int))) && (sEq r7.1 (⟨#[97]⟩ : ByteArray))) && r13) && r7.2.2) (gT ((((((((r1.2 == (0 : Int)) && (r3.2 == (0 : Int))) && (r5.2 == (8 : Int))) && (r9 == (0 : Int))) && (r11 == (1 : Int))) && (sEq r7.1 (⟨#[97]⟩ : ByteArray))) && r13) && r7.2.2)).1 (gT ((((((((r1.2 == (0 : Int)) && (r3.2 == (0 : Int))) && (r5.2 == (8 : Int))) && (r9 == (0 : Int))) && (r11 == (1 : Int))) && (sEq r7.1 (⟨#[97]⟩ : ByteArray))) && r13) && r7.2.2)).2 rfl rfl (fun e he => by rw [List.mem_singleton.1 he]) (fun hG => ob_call en_14 (shelf_Shelf_Rank_ok _ _ (gd_true h16 hG)) rfl rfl (.cons (Opd.gd hG Opd.t0) (.cons (Opd.c (fun _ => pStr_iff.2 rfl)) .nil))))
        (allOT_cons (OT.guard (outs := [(69, (pBool (r15 == (1 : Int))))]) ((((((((r1.2 == (0 : Int)) && (r3.2 == (0 : Int))) && (r5.2 == (8 : Int))) && (r9 == (0 : Int))) && (r11 == (1 : Int))) && (sEq r7.1 (⟨#[97]⟩ : ByteArray))) && r13) && r7.2.2) (gT ((((((((r1.2 == (0 : Int)) && (r3.2 == (0 : Int))) && (r5.2 == (8 : Int))) && (r9 == (0 : Int))) && (r11 == (1 : Int))) && (sEq r7.1 (⟨#[97]⟩ : ByteArray))) && r13) && r7.2.2)).1 (gT ((((((((r1.2 == (0 : Int)) && (r3.2 == (0 : Int))) && (r5.2 == (8 : Int))) && (r9 == (0 : Int))) && (r11 == (1 : Int))) && (sEq r7.1 (⟨#[97]⟩ : ByteArray))) && r13) && r7.2.2)).2 rfl rfl (fun e he => by rw [List.mem_singleton.1 he]) (fun hG => ob_eq rfl rfl (Opd.gd hG Opd.t0) (Opd.c (int_q _ _))))
        (allOT_cons (OT.plain rfl (ob_pick (q := (pBool (((((((((r1.2 == (0 : Int)) && (r3.2 == (0 : Int))) && (r5.2 == (8 : Int))) && (r9 == (0 : Int))) && (r11 == (1 : Int))) && (sEq r7.1 (⟨#[97]⟩ : ByteArray))) && r13) && r7.2.2) && (r15 == (1 : Int))))) rfl rfl Opd.t0 (fun hz => Opd.to (Opd.gd hz (Opd.tl Opd.t0)) (congrArg (fun t => (pBool t)) (pk_and_t hz))) (fun hz => Opd.to (Opd.c (bool_q _)) (congrArg (fun t => (pBool t)) (pk_and_f hz)))))
        (allOT_cons (OT.plain rfl (ob_move rfl rfl Opd.t0))
        (allOT_cons (OT.guard (outs := [(72, (k_shelf_Shelf.pd r3.1))]) (((((((((r1.2 == (0 : Int)) && (r3.2 == (0 : Int))) && (r5.2 == (8 : Int))) && (r9 == (0 : Int))) && (r11 == (1 : Int))) && (sEq r7.1 (⟨#[97]⟩ : ByteArray))) && r13) && r7.2.2) && (r15 == (1 : Int))) (gT (((((((((r1.2 == (0 : Int)) && (r3.2 == (0 : Int))) && (r5.2 == (8 : Int))) && (r9 == (0 : Int))) && (r11 == (1 : Int))) && (sEq r7.1 (⟨#[97]⟩ : ByteArray))) && r13) && r7.2.2) && (r15 == (1 : Int)))).1 (gT (((((((((r1.2 == (0 : Int)) && (r3.2 == (0 : Int))) && (r5.2 == (8 : Int))) && (r9 == (0 : Int))) && (r11 == (1 : Int))) && (sEq r7.1 (⟨#[97]⟩ : ByteArray))) && r13) && r7.2.2) && (r15 == (1 : Int)))).2 rfl rfl (fun e he => by rw [List.mem_singleton.1 he]) (fun hG => ob_load ty_28 rfl rfl Opd.t0))
        (allOT_cons (OT.guard (outs := [(73, (Kd.str.sl.pd r17))]) (((((((((r1.2 == (0 : Int)) && (r3.2 == (0 : Int))) && (r5.2 == (8 : Int))) && (r9 == (0 : Int))) && (r11 == (1 : Int))) && (sEq r7.1 (⟨#[97]⟩ : ByteArray))) && r13) && r7.2.2) && (r15 == (1 : Int))) (gT (((((((((r1.2 == (0 : Int)) && (r3.2 == (0 : Int))) && (r5.2 == (8 : Int))) && (r9 == (0 : Int))) && (r11 == (1 : Int))) && (sEq r7.1 (⟨#[97]⟩ : ByteArray))) && r13) && r7.2.2) && (r15 == (1 : Int)))).1 (gT (((((((((r1.2 == (0 : Int)) && (r3.2 == (0 : Int))) && (r5.2 == (8 : Int))) && (r9 == (0 : Int))) && (r11 == (1 : Int))) && (sEq r7.1 (⟨#[97]⟩ : ByteArray))) && r13) && r7.2.2) && (r15 == (1 : Int)))).2 rfl rfl (fun e he => by rw [List.mem_singleton.1 he]) (fun hG => ob_call en_12 (shelf_Shelf_Keys_ok _ _ _ _ (gd_true h18 hG)) rfl rfl (.cons (Opd.gd hG Opd.t0) (.cons (Opd.c (fun _ => pStr_iff.2 rfl)) (.cons (Opd.c (fun _ => pStr_iff.2 rfl)) (.cons (Opd.c (int_q _ _)) .nil))))))
        (allOT_cons (OT.guard (outs := [(74, (pInt .i64 (r17.length : Int)))]) (((((((((r1.2 == (0 : Int)) && (r3.2 == (0 : Int))) && (r5.2 == (8 : Int))) && (r9 == (0 : Int))) && (r11 == (1 : Int))) && (sEq r7.1 (⟨#[97]⟩ : ByteArray))) && r13) && r7.2.2) && (r15 == (1 : Int))) (gT (((((((((r1.2 == (0 : Int)) && (r3.2 == (0 : Int))) && (r5.2 == (8 : Int))) && (r9 == (0 : Int))) && (r11 == (1 : Int))) && (sEq r7.1 (⟨#[97]⟩ : ByteArray))) && r13) && r7.2.2) && (r15 == (1 : Int)))).1 (gT (((((((((r1.2 == (0 : Int)) && (r3.2 == (0 : Int))) && (r5.2 == (8 : Int))) && (r9 == (0 : Int))) && (r11 == (1 : Int))) && (sEq r7.1 (⟨#[97]⟩ : ByteArray))) && r13) && r7.2.2) && (r15 == (1 : Int)))).2 rfl rfl (fun e he => by rw [List.mem_singleton.1 he]) (fun hG => ob_lenL Try.underlying43 rfl rfl (Opd.gd hG Opd.t0)))
        (allOT_cons (OT.guard (outs := [(75, (pBool ((r17.length : Int) == (1 : Int))))]) (((((((((r1.2 == (0 : Int)) && (r3.2 == (0 : Int))) && (r5.2 == (8 : Int))) && (r9 == (0 : Int))) && (r11 == (1 : Int))) && (sEq r7.1 (⟨#[97]⟩ : ByteArray))) && r13) && r7.2.2) && (r15 == (1 : Int))) (gT (((((((((r1.2 == (0 : Int)) && (r3.2 == (0 : Int))) && (r5.2 == (8 : Int))) && (r9 == (0 : Int))) && (r11 == (1 : Int))) && (sEq r7.1 (⟨#[97]⟩ : ByteArray))) && r13) && r7.2.2) && (r15 == (1 : Int)))).1 (gT (((((((((r1.2 == (0 : Int)) && (r3.2 == (0 : Int))) && (r5.2 == (8 : Int))) && (r9 == (0 : Int))) && (r11 == (1 : Int))) && (sEq r7.1 (⟨#[97]⟩ : ByteArray))) && r13) && r7.2.2) && (r15 == (1 : Int)))).2 rfl rfl (fun e he => by rw [List.mem_singleton.1 he]) (fun hG => ob_eq rfl rfl (Opd.gd hG Opd.t0) (Opd.c (int_q _ _))))
        (allOT_cons (OT.plain rfl (ob_pick (q := (pBool ((((((((((r1.2 == (0 : Int)) && (r3.2 == (0 : Int))) && (r5.2 == (8 : Int))) && (r9 == (0 : Int))) && (r11 == (1 : Int))) && (sEq r7.1 (⟨#[97]⟩ : ByteArray))) && r13) && r7.2.2) && (r15 == (1 : Int))) && ((r17.length : Int) == (1 : Int))))) rfl rfl Opd.t0 (fun hz => Opd.to (Opd.gd hz (Opd.tl Opd.t0)) (congrArg (fun t => (pBool t)) (pk_and_t hz))) (fun hz => Opd.to (Opd.c (bool_q _)) (congrArg (fun t => (pBool t)) (pk_and_f hz)))))
        (allOT_cons (OT.plain rfl (ob_move rfl rfl Opd.t0))
        (allOT_cons (OT.guard (outs := [(78, (k_shelf_Shelf.pd r3.1))]) ((((((((((r1.2 == (0 : Int)) && (r3.2 == (0 : Int))) && (r5.2 == (8 : Int))) && (r9 == (0 : Int))) && (r11 == (1 : Int))) && (sEq r7.1 (⟨#[97]⟩ : ByteArray))) && r13) && r7.2.2) && (r15 == (1 : Int))) && ((r17.length : Int) == (1 : Int))) (gT ((((((((((r1.2 == (0 : Int)) && (r3.2 == (0 : Int))) && (r5.2 == (8 : Int))) && (r9 == (0 : Int))) && (r11 == (1 : Int))) && (sEq r7.1 (⟨#[97]⟩ : ByteArray))) && r13) && r7.2.2) && (r15 == (1 : Int))) && ((r17.length : Int) == (1 : Int)))).1 (gT ((((((((((r1.2 == (0 : Int)) && (r3.2 == (0 : Int))) && (r5.2 == (8 : Int))) && (r9 == (0 : Int))) && (r11 == (1 : Int))) && (sEq r7.1 (⟨#[97]⟩ : ByteArray))) && r13) && r7.2.2) && (r15 == (1 : Int))) && ((r17.length : Int) == (1 : Int)))).2 rfl rfl (fun e he => by rw [List.mem_singleton.1 he]) (fun hG => ob_load ty_28 rfl rfl Opd.t0))
        (allOT_cons (OT.guard (outs := [(79, (k_shelf_Shelf.pd r5.1))]) ((((((((((r1.2 == (0 : Int)) && (r3.2 == (0 : Int))) && (r5.2 == (8 : Int))) && (r9 == (0 : Int))) && (r11 == (1 : Int))) && (sEq r7.1 (⟨#[97]⟩ : ByteArray))) && r13) && r7.2.2) && (r15 == (1 : Int))) && ((r17.length : Int) == (1 : Int))) (gT ((((((((((r1.2 == (0 : Int)) && (r3.2 == (0 : Int))) && (r5.2 == (8 : Int))) && (r9 == (0 : Int))) && (r11 == (1 : Int))) && (sEq r7.1 (⟨#[97]⟩ : ByteArray))) && r13) && r7.2.2) && (r15 == (1 : Int))) && ((r17.length : Int) == (1 : Int)))).1 (gT ((((((((((r1.2 == (0 : Int)) && (r3.2 == (0 : Int))) && (r5.2 == (8 : Int))) && (r9 == (0 : Int))) && (r11 == (1 : Int))) && (sEq r7.1 (⟨#[97]⟩ : ByteArray))) && r13) && r7.2.2) && (r15 == (1 : Int))) && ((r17.length : Int) == (1 : Int)))).2 rfl rfl (fun e he => by rw [List.mem_singleton.1 he]) (fun hG => ob_load ty_28 rfl rfl Opd.t0))
        (allOT_cons (OT.guard (outs := [(80, (pBool r19))]) ((((((((((r1.2 == (0 : Int)) && (r3.2 == (0 : Int))) && (r5.2 == (8 : Int))) && (r9 == (0 : Int))) && (r11 == (1 : Int))) && (sEq r7.1 (⟨#[97]⟩ : ByteArray))) && r13) && r7.2.2) && (r15 == (1 : Int))) && ((r17.length : Int) == (1 : Int))) (gT ((((((((((r1.2 == (0 : Int)) && (r3.2 == (0 : Int))) && (r5.2 == (8 : Int))) && (r9 == (0 : Int))) && (r11 == (1 : Int))) && (sEq r7.1 (⟨#[97]⟩ : ByteArray))) && r13) && r7.2.2) && (r15 == (1 : Int))) && ((r17.length : Int) == (1 : Int)))).1 (gT ((((((((((r1.2 == (0 : Int)) && (r3.2 == (0 : Int))) && (r5.2 == (8 : Int))) && (r9 == (0 : Int))) && (r11 == (1 : Int))) && (sEq r7.1 (⟨#[97]⟩ : ByteArray))) && r13) && r7.2.2) && (r15 == (1 : Int))) && ((r17.length : Int) == (1 : Int)))).2 rfl rfl (fun e he => by rw [List.mem_singleton.1 he]) (fun hG => ob_call en_18 (shelf_Same_ok _ _ (gd_true h20 hG)) rfl rfl (.cons (Opd.gd hG Opd.t0) (.cons (Opd.gd hG (Opd.tl Opd.t0)) .nil))))
        (allOT_cons (OT.plain rfl (ob_pick (q := (pBool (((((((((((r1.2 == (0 : Int)) && (r3.2 == (0 : Int))) && (r5.2 == (8 : Int))) && (r9 == (0 : Int))) && (r11 == (1 : Int))) && (sEq r7.1 (⟨#[97]⟩ : ByteArray))) && r13) && r7.2.2) && (r15 == (1 : Int))) && ((r17.length : Int) == (1 : Int))) && r19))) rfl rfl Opd.t0 (fun hz => Opd.to (Opd.gd hz (Opd.tl Opd.t0)) (congrArg (fun t => (pBool t)) (pk_and_t hz))) (fun hz => Opd.to (Opd.c (bool_q _)) (congrArg (fun t => (pBool t)) (pk_and_f hz)))))
        (allOT_cons (OT.plain rfl (ob_move rfl rfl Opd.t0))
        (allOT_cons (OT.guard (outs := [(83, (k_shelf_Shelf.pd r1.1))]) (((((((((((r1.2 == (0 : Int)) && (r3.2 == (0 : Int))) && (r5.2 == (8 : Int))) && (r9 == (0 : Int))) && (r11 == (1 : Int))) && (sEq r7.1 (⟨#[97]⟩ : ByteArray))) && r13) && r7.2.2) && (r15 == (1 : Int))) && ((r17.length : Int) == (1 : Int))) && r19) (gT (((((((((((r1.2 == (0 : Int)) && (r3.2 == (0 : Int))) && (r5.2 == (8 : Int))) && (r9 == (0 : Int))) && (r11 == (1 : Int))) && (sEq r7.1 (⟨#[97]⟩ : ByteArray))) && r13) && r7.2.2) && (r15 == (1 : Int))) && ((r17.length : Int) == (1 : Int))) && r19)).1 (gT (((((((((((r1.2 == (0 : Int)) && (r3.2 == (0 : Int))) && (r5.2 == (8 : Int))) && (r9 == (0 : Int))) && (r11 == (1 : Int))) && (sEq r7.1 (⟨#[97]⟩ : ByteArray))) && r13) && r7.2.2) && (r15 == (1 : Int))) && ((r17.length : Int) == (1 : Int))) && r19)).2 rfl rfl (fun e he => by rw [List.mem_singleton.1 he]) (fun hG => ob_load ty_28 rfl rfl Opd.t0))
        (allOT_cons (OT.guard (outs := [(84, (k_shelf_Shelf.pd r3.1))]) (((((((((((r1.2 == (0 : Int)) && (r3.2 == (0 : Int))) && (r5.2 == (8 : Int))) && (r9 == (0 : Int))) && (r11 == (1 : Int))) && (sEq r7.1 (⟨#[97]⟩ : ByteArray))) && r13) && r7.2.2) && (r15 == (1 : Int))) && ((r17.length : Int) == (1 : Int))) && r19) (gT (((((((((((r1.2 == (0 : Int)) && (r3.2 == (0 : Int))) && (r5.2 == (8 : Int))) && (r9 == (0 : Int))) && (r11 == (1 : Int))) && (sEq r7.1 (⟨#[97]⟩ : ByteArray))) && r13) && r7.2.2) && (r15 == (1 : Int))) && ((r17.length : Int) == (1 : Int))) && r19)).1 (gT (((((((((((r1.2 == (0 : Int)) && (r3.2 == (0 : Int))) && (r5.2 == (8 : Int))) && (r9 == (0 : Int))) && (r11 == (1 : Int))) && (sEq r7.1 (⟨#[97]⟩ : ByteArray))) && r13) && r7.2.2) && (r15 == (1 : Int))) && ((r17.length : Int) == (1 : Int))) && r19)).2 rfl rfl (fun e he => by rw [List.mem_singleton.1 he]) (fun hG => ob_load ty_28 rfl rfl Opd.t0))
        (allOT_cons (OT.guard (outs := [(85, (pBool r21))]) (((((((((((r1.2 == (0 : Int)) && (r3.2 == (0 : Int))) && (r5.2 == (8 : Int))) && (r9 == (0 : Int))) && (r11 == (1 : Int))) && (sEq r7.1 (⟨#[97]⟩ : ByteArray))) && r13) && r7.2.2) && (r15 == (1 : Int))) && ((r17.length : Int) == (1 : Int))) && r19) (gT (((((((((((r1.2 == (0 : Int)) && (r3.2 == (0 : Int))) && (r5.2 == (8 : Int))) && (r9 == (0 : Int))) && (r11 == (1 : Int))) && (sEq r7.1 (⟨#[97]⟩ : ByteArray))) && r13) && r7.2.2) && (r15 == (1 : Int))) && ((r17.length : Int) == (1 : Int))) && r19)).1 (gT (((((((((((r1.2 == (0 : Int)) && (r3.2 == (0 : Int))) && (r5.2 == (8 : Int))) && (r9 == (0 : Int))) && (r11 == (1 : Int))) && (sEq r7.1 (⟨#[97]⟩ : ByteArray))) && r13) && r7.2.2) && (r15 == (1 : Int))) && ((r17.length : Int) == (1 : Int))) && r19)).2 rfl rfl (fun e he => by rw [List.mem_singleton.1 he]) (fun hG => ob_call en_18 (shelf_Same_ok _ _ (gd_true h22 hG)) rfl rfl (.cons (Opd.gd hG Opd.t0) (.cons (Opd.gd hG (Opd.tl Opd.t0)) .nil))))
        (allOT_cons (OT.guard (outs := [(86, (pBool (!r21)))]) (((((((((((r1.2 == (0 : Int)) && (r3.2 == (0 : Int))) && (r5.2 == (8 : Int))) && (r9 == (0 : Int))) && (r11 == (1 : Int))) && (sEq r7.1 (⟨#[97]⟩ : ByteArray))) && r13) && r7.2.2) && (r15 == (1 : Int))) && ((r17.length : Int) == (1 : Int))) && r19) (gT (((((((((((r1.2 == (0 : Int)) && (r3.2 == (0 : Int))) && (r5.2 == (8 : Int))) && (r9 == (0 : Int))) && (r11 == (1 : Int))) && (sEq r7.1 (⟨#[97]⟩ : ByteArray))) && r13) && r7.2.2) && (r15 == (1 : Int))) && ((r17.length : Int) == (1 : Int))) && r19)).1 (gT (((((((((((r1.2 == (0 : Int)) && (r3.2 == (0 : Int))) && (r5.2 == (8 : Int))) && (r9 == (0 : Int))) && (r11 == (1 : Int))) && (sEq r7.1 (⟨#[97]⟩ : ByteArray))) && r13) && r7.2.2) && (r15 == (1 : Int))) && ((r17.length : Int) == (1 : Int))) && r19)).2 rfl rfl (fun e he => by rw [List.mem_singleton.1 he]) (fun hG => ob_not rfl rfl (Opd.gd hG Opd.t0)))
        (allOT_cons (OT.plain rfl (ob_pick (q := (pBool ((((((((((((r1.2 == (0 : Int)) && (r3.2 == (0 : Int))) && (r5.2 == (8 : Int))) && (r9 == (0 : Int))) && (r11 == (1 : Int))) && (sEq r7.1 (⟨#[97]⟩ : ByteArray))) && r13) && r7.2.2) && (r15 == (1 : Int))) && ((r17.length : Int) == (1 : Int))) && r19) && (!r21)))) rfl rfl Opd.t0 (fun hz => Opd.to (Opd.gd hz (Opd.tl Opd.t0)) (congrArg (fun t => (pBool t)) (pk_and_t hz))) (fun hz => Opd.to (Opd.c (bool_q _)) (congrArg (fun t => (pBool t)) (pk_and_f hz)))))
        (allOT_cons (OT.plain rfl (ob_assign rfl rfl Opd.t0))
        allOT_nil)))))))))))))))))))))))))))))))))))))))))))))))))))))))
      hst hb (fun a g hst hb => ?_)
  refine then_n ?_
  refine wp_ret ?_
  obtain rfl := Option.some.inj H0
  exact endR1 rfl hst hb (res_tmp (s := 0)) (hst.at 0 rfl)
end Go.CL
