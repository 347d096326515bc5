/- A part of the proof of ShelfSame. -/
import Derived.Test.YtlphnpmegolfmaaShelfSameC2
set_option linter.unusedVariables false
set_option linter.unusedSimpArgs false
set_option maxRecDepth 100000
namespace Go.CL
open Go Go.RowKit Go.Proofs
theorem rec_Same_ok (a0 : api_Record) (a1 : api_Record) {r : Bool} (h : rec_Same a0 a1 = some r) : FnOk Try.prog 29 [(k_api_Record.pd a0), (k_api_Record.pd a1)] (pBool r) := by
  have H0 := h
  unfold rec_Same at H0
  clear h
  refine fn_ok (N := 59) Try.func29 rfl rfl (Nat.le_of_ble_eq_true rfl) rfl rfl (fun a g0 hst hb => ?_)
  refine wp_seq ?_
  refine wp_reg follows (N := 59) (L := [(0, (k_api_Record.pd a0)), (1, (k_api_Record.pd a1))])
      (T := [⟨[.old 0], [(2, (k_api_Record.ptr a0))], [], [], [2]⟩,
        ⟨[.old 1], [(3, (k_api_Record.ptr a1))], [], [], [3]⟩,
        ⟨[], [(4, (pBool false))], [], [], [4]⟩])
      (F := [.op 0 0, .op 1 0]) (by kernel_rfl)
      (allOT_cons (OT.plain rfl (ob_box1 rfl rfl Opd.t0))
        (allOT_cons (OT.plain rfl (ob_box1 rfl rfl Opd.t0))
        (allOT_cons (OT.plain rfl (ob_assign rfl rfl (Opd.c (bool_q _))))
        allOT_nil)))
      hst hb (fun a g hst hb => ?_)
  refine then_n ?_
  refine wp_seq ?_
  obtain ⟨r1, h2, H0⟩ := of_bind H0
  obtain ⟨r3, h4, H0⟩ := of_bind H0
  refine wp_reg follows (N := 59) (L := [(2, (k_api_Record.ptr a0)), (3, (k_api_Record.ptr a1))])
      (T := [⟨[.old 0], [(5, ((Kd.int .i64).ptr a0.Kind))], [], [], [5]⟩,
        ⟨[.op 0 0], [(6, (pInt .i64 a0.Kind))], [], [0], [6]⟩,
        ⟨[.old 1], [(7, ((Kd.int .i64).ptr a1.Kind))], [], [], [7]⟩,
        ⟨[.op 2 0], [(8, (pInt .i64 a1.Kind))], [], [2], [8]⟩,
        ⟨[.op 1 0, .op 3 0], [(9, (pBool (a0.Kind == a1.Kind)))], [], [0, 1, 2, 3], [9]⟩,
        ⟨[.op 4 0], [(10, (pBool (a0.Kind == a1.Kind)))], [], [0, 1, 2, 3, 4], [10]⟩,
        ⟨[.op 5 0, .old 0], [(11, (pIf (a0.Kind == a1.Kind) ((Kd.int .i64).ptr a0.Num)))], [], [0, 1, 2, 3, 4, 5], [11]⟩,
        ⟨[.op 5 0, .op 6 0], [(12, (pIf (a0.Kind == a1.Kind) (pInt .i64 a0.Num)))], [], [0, 1, 2, 3, 4, 5, 6], [12]⟩,
        ⟨[.op 5 0, .old 1], [(13, (pIf (a0.Kind == a1.Kind) ((Kd.int .i64).ptr a1.Num)))], [], [0, 1, 2, 3, 4, 5], [13]⟩,
        ⟨[.op 5 0, .op 8 0], [(14, (pIf (a0.Kind == a1.Kind) (pInt .i64 a1.Num)))], [], [0, 1, 2, 3, 4, 5, 8], [14]⟩,
        ⟨[.op 5 0, .op 7 0, .op 9 0], [(15, (pIf (a0.Kind == a1.Kind) (pBool (a0.Num == a1.Num))))], [], [0, 1, 2, 3, 4, 5, 6, 7, 8, 9], [15]⟩,
        ⟨[.op 5 0, .op 10 0], [(16, (pBool ((a0.Kind == a1.Kind) && (a0.Num == a1.Num))))], [], [0, 1, 2, 3, 4, 5, 6, 7, 8, 9, 10], [16]⟩,
        ⟨[.op 11 0], [(17, (pBool ((a0.Kind == a1.Kind) && (a0.Num == a1.Num))))], [], [0, 1, 2, 3, 4, 5, 6, 7, 8, 9, 10, 11], [17]⟩,
        ⟨[.op 12 0, .old 0], [(18, (pIf ((a0.Kind == a1.Kind) && (a0.Num == a1.Num)) ((Kd.int .i64).ptr a0.Low)))], [], [0, 1, 2, 3, 4, 5, 6, 7, 8, 9, 10, 11, 12], [18]⟩,
        ⟨[.op 12 0, .op 13 0], [(19, (pIf ((a0.Kind == a1.Kind) && (a0.Num == a1.Num)) (pInt .i64 a0.Low)))], [], [0, 1, 2, 3, 4, 5, 6, 7, 8, 9, 10, 11, 12, 13], [19]⟩,
        ⟨[.op 12 0, .old 1], [(20, (pIf ((a0.Kind == a1.Kind) && (a0.Num == a1.Num)) ((Kd.int .i64).ptr a1.Low)))], [], [0, 1, 2, 3, 4, 5, 6, 7, 8, 9, 10, 11, 12], [20]⟩,
        ⟨[.op 12 0, .op 15 0], [(21, (pIf ((a0.Kind == a1.Kind) && (a0.Num == a1.Num)) (pInt .i64 a1.Low)))], [], [0, 1, 2, 3, 4, 5, 6, 7, 8, 9, 10, 11, 12, 15], [21]⟩,
        ⟨[.op 12 0, .op 14 0, .op 16 0], [(22, (pIf ((a0.Kind == a1.Kind) && (a0.Num == a1.Num)) (pBool (a0.Low == a1.Low))))], [], [0, 1, 2, 3, 4, 5, 6, 7, 8, 9, 10, 11, 12, 13, 14, 15, 16], [22]⟩,
        ⟨[.op 12 0, .op 17 0], [(23, (pBool (((a0.Kind == a1.Kind) && (a0.Num == a1.Num)) && (a0.Low == a1.Low))))], [], [0, 1, 2, 3, 4, 5, 6, 7, 8, 9, 10, 11, 12, 13, 14, 15, 16, 17], [23]⟩,
        ⟨[.op 18 0], [(24, (pBool (((a0.Kind == a1.Kind) && (a0.Num == a1.Num)) && (a0.Low == a1.Low))))], [], [0, 1, 2, 3, 4, 5, 6, 7, 8, 9, 10, 11, 12, 13, 14, 15, 16, 17, 18], [24]⟩,
        ⟨[.op 19 0, .old 0], [(25, (pIf (((a0.Kind == a1.Kind) && (a0.Num == a1.Num)) && (a0.Low == a1.Low)) ((Kd.int .i64).ptr a0.High)))], [], [0, 1, 2, 3, 4, 5, 6, 7, 8, 9, 10, 11, 12, 13, 14, 15, 16, 17, 18, 19], [25]⟩,
        ⟨[.op 19 0, .op 20 0], [(26, (pIf (((a0.Kind == a1.Kind) && (a0.Num == a1.Num)) && (a0.Low == a1.Low)) (pInt .i64 a0.High)))], [], [0, 1, 2, 3, 4, 5, 6, 7, 8, 9, 10, 11, 12, 13, 14, 15, 16, 17, 18, 19, 20], [26]⟩,
        ⟨[.op 19 0, .old 1], [(27, (pIf (((a0.Kind == a1.Kind) && (a0.Num == a1.Num)) && (a0.Low == a1.Low)) ((Kd.int .i64).ptr a1.High)))], [], [0, 1, 2, 3, 4, 5, 6, 7, 8, 9, 10, 11, 12, 13, 14, 15, 16, 17, 18, 19], [27]⟩,
        ⟨[.op 19 0, .op 22 0], [(28, (pIf (((a0.Kind == a1.Kind) && (a0.Num == a1.Num)) && (a0.Low == a1.Low)) (pInt .i64 a1.High)))], [], [0, 1, 2, 3, 4, 5, 6, 7, 8, 9, 10, 11, 12, 13, 14, 15, 16, 17, 18, 19, 22], [28]⟩,
        ⟨[.op 19 0, .op 21 0, .op 23 0], [(29, (pIf (((a0.Kind == a1.Kind) && (a0.Num == a1.Num)) && (a0.Low == a1.Low)) (pBool (a0.High == a1.High))))], [], [0, 1, 2, 3, 4, 5, 6, 7, 8, 9, 10, 11, 12, 13, 14, 15, 16, 17, 18, 19, 20, 21, 22, 23], [29]⟩,
        ⟨[.op 19 0, .op 24 0], [(30, (pBool ((((a0.Kind == a1.Kind) && (a0.Num == a1.Num)) && (a0.Low == a1.Low)) && (a0.High == a1.High))))], [], [0, 1, 2, 3, 4, 5, 6, 7, 8, 9, 10, 11, 12, 13, 14, 15, 16, 17, 18, 19, 20, 21, 22, 23, 24], [30]⟩,
        ⟨[.op 25 0], [(31, (pBool ((((a0.Kind == a1.Kind) && (a0.Num == a1.Num)) && (a0.Low == a1.Low)) && (a0.High == a1.High))))], [], [0, 1, 2, 3, 4, 5, 6, 7, 8, 9, 10, 11, 12, 13, 14, 15, 16, 17, 18, 19, 20, 21, 22, 23, 24, 25], [31]⟩,
        ⟨[.op 26 0, .old 0], [(32, (pIf ((((a0.Kind == a1.Kind) && (a0.Num == a1.Num)) && (a0.Low == a1.Low)) && (a0.High == a1.High)) (Kd.flt.ptr a0.Real)))], [], [0, 1, 2, 3, 4, 5, 6, 7, 8, 9, 10, 11, 12, 13, 14, 15, 16, 17, 18, 19, 20, 21, 22, 23, 24, 25, 26], [32]⟩,
        ⟨[.op 26 0, .op 27 0], [(33, (pIf ((((a0.Kind == a1.Kind) && (a0.Num == a1.Num)) && (a0.Low == a1.Low)) && (a0.High == a1.High)) (pFlt a0.Real)))], [], [0, 1, 2, 3, 4, 5, 6, 7, 8, 9, 10, 11, 12, 13, 14, 15, 16, 17, 18, 19, 20, 21, 22, 23, 24, 25, 26, 27], [33]⟩,
        ⟨[.op 26 0, .old 1], [(34, (pIf ((((a0.Kind == a1.Kind) && (a0.Num == a1.Num)) && (a0.Low == a1.Low)) && (a0.High == a1.High)) (Kd.flt.ptr a1.Real)))], [], [0, 1, 2, 3, 4, 5, 6, 7, 8, 9, 10, 11, 12, 13, 14, 15, 16, 17, 18, 19, 20, 21, 22, 23, 24, 25, 26], [34]⟩,
        ⟨[.op 26 0, .op 29 0], [(35, (pIf ((((a0.Kind == a1.Kind) && (a0.Num == a1.Num)) && (a0.Low == a1.Low)) && (a0.High == a1.High)) (pFlt a1.Real)))], [], [0, 1, 2, 3, 4, 5, 6, 7, 8, 9, 10, 11, 12, 13, 14, 15, 16, 17, 18, 19, 20, 21, 22, 23, 24, 25, 26, 29], [35]⟩,
        ⟨[.op 26 0, .op 28 0, .op 30 0], [(36, (pIf ((((a0.Kind == a1.Kind) && (a0.Num == a1.Num)) && (a0.Low == a1.Low)) && (a0.High == a1.High)) (pBool r1)))], [], [0, 1, 2, 3, 4, 5, 6, 7, 8, 9, 10, 11, 12, 13, 14, 15, 16, 17, 18, 19, 20, 21, 22, 23, 24, 25, 26, 27, 28, 29, 30], [36]⟩,
        ⟨[.op 26 0, .op 31 0], [(37, (pBool (((((a0.Kind == a1.Kind) && (a0.Num == a1.Num)) && (a0.Low == a1.Low)) && (a0.High == a1.High)) && r1)))], [], [0, 1, 2, 3, 4, 5, 6, 7, 8, 9, 10, 11, 12, 13, 14, 15, 16, 17, 18, 19, 20, 21, 22, 23, 24, 25, 26, 27, 28, 29, 30, 31], [37]⟩,
        ⟨[.op 32 0], [(38, (pBool (((((a0.Kind == a1.Kind) && (a0.Num == a1.Num)) && (a0.Low == a1.Low)) && (a0.High == a1.High)) && r1)))], [], [0, 1, 2, 3, 4, 5, 6, 7, 8, 9, 10, 11, 12, 13, 14, 15, 16, 17, 18, 19, 20, 21, 22, 23, 24, 25, 26, 27, 28, 29, 30, 31, 32], [38]⟩,
        ⟨[.op 33 0, .old 0], [(39, (pIf (((((a0.Kind == a1.Kind) && (a0.Num == a1.Num)) && (a0.Low == a1.Low)) && (a0.High == a1.High)) && r1) ((Kd.int .i64).ptr a0.Cap)))], [], [0, 1, 2, 3, 4, 5, 6, 7, 8, 9, 10, 11, 12, 13, 14, 15, 16, 17, 18, 19, 20, 21, 22, 23, 24, 25, 26, 27, 28, 29, 30, 31, 32, 33], [39]⟩,
        ⟨[.op 33 0, .op 34 0], [(40, (pIf (((((a0.Kind == a1.Kind) && (a0.Num == a1.Num)) && (a0.Low == a1.Low)) && (a0.High == a1.High)) && r1) (pInt .i64 a0.Cap)))], [], [0, 1, 2, 3, 4, 5, 6, 7, 8, 9, 10, 11, 12, 13, 14, 15, 16, 17, 18, 19, 20, 21, 22, 23, 24, 25, 26, 27, 28, 29, 30, 31, 32, 33, 34], [40]⟩,
        ⟨[.op 33 0, .old 1], [(41, (pIf (((((a0.Kind == a1.Kind) && (a0.Num == a1.Num)) && (a0.Low == a1.Low)) && (a0.High == a1.High)) && r1) ((Kd.int .i64).ptr a1.Cap)))], [], [0, 1, 2, 3, 4, 5, 6, 7, 8, 9, 10, 11, 12, 13, 14, 15, 16, 17, 18, 19, 20, 21, 22, 23, 24, 25, 26, 27, 28, 29, 30, 31, 32, 33], [41]⟩,
        ⟨[.op 33 0, .op 36 0], [(42, (pIf (((((a0.Kind == a1.Kind) && (a0.Num == a1.Num)) && (a0.Low == a1.Low)) && (a0.High == a1.High)) && r1) (pInt .i64 a1.Cap)))], [], [0, 1, 2, 3, 4, 5, 6, 7, 8, 9, 10, 11, 12, 13, 14, 15, 16, 17, 18, 19, 20, 21, 22, 23, 24, 25, 26, 27, 28, 29, 30, 31, 32, 33, 36], [42]⟩,
        ⟨[.op 33 0, .op 35 0, .op 37 0], [(43, (pIf (((((a0.Kind == a1.Kind) && (a0.Num == a1.Num)) && (a0.Low == a1.Low)) && (a0.High == a1.High)) && r1) (pBool (a0.Cap == a1.Cap))))], [], [0, 1, 2, 3, 4, 5, 6, 7, 8, 9, 10, 11, 12, 13, 14, 15, 16, 17, 18, 19, 20, 21, 22, 23, 24, 25, 26, 27, 28, 29, 30, 31, 32, 33, 34, 35, 36, 37], [43]⟩,
        ⟨[.op 33 0, .op 38 0], [(44, (pBool ((((((a0.Kind == a1.Kind) && (a0.Num == a1.Num)) && (a0.Low == a1.Low)) && (a0.High == a1.High)) && r1) && (a0.Cap == a1.Cap))))], [], [0, 1, 2, 3, 4, 5, 6, 7, 8, 9, 10, 11, 12, 13, 14, 15, 16, 17, 18, 19, 20, 21, 22, 23, 24, 25, 26, 27, 28, 29, 30, 31, 32, 33, 34, 35, 36, 37, 38], [44]⟩,
        ⟨[.op 39 0], [(45, (pBool ((((((a0.Kind == a1.Kind) && (a0.Num == a1.Num)) && (a0.Low == a1.Low)) && (a0.High == a1.High)) && r1) && (a0.Cap == a1.Cap))))], [], [0, 1, 2, 3, 4, 5, 6, 7, 8, 9, 10, 11, 12, 13, 14, 15, 16, 17, 18, 19, 20, 21, 22, 23, 24, 25, 26, 27, 28, 29, 30, 31, 32, 33, 34, 35, 36, 37, 38, 39], [45]⟩,
        ⟨[.op 40 0, .old 0], [(46, (pIf ((((((a0.Kind == a1.Kind) && (a0.Num == a1.Num)) && (a0.Low == a1.Low)) && (a0.High == a1.High)) && r1) && (a0.Cap == a1.Cap)) (Kd.str.ptr a0.Text)))], [], [0, 1, 2, 3, 4, 5, 6, 7, 8, 9, 10, 11, 12, 13, 14, 15, 16, 17, 18, 19, 20, 21, 22, 23, 24, 25, 26, 27, 28, 29, 30, 31, 32, 33, 34, 35, 36, 37, 38, 39, 40], [46]⟩,
        ⟨[.op 40 0, .op 41 0], [(47, (pIf ((((((a0.Kind == a1.Kind) && (a0.Num == a1.Num)) && (a0.Low == a1.Low)) && (a0.High == a1.High)) && r1) && (a0.Cap == a1.Cap)) (pStr a0.Text)))], [], [0, 1, 2, 3, 4, 5, 6, 7, 8, 9, 10, 11, 12, 13, 14, 15, 16, 17, 18, 19, 20, 21, 22, 23, 24, 25, 26, 27, 28, 29, 30, 31, 32, 33, 34, 35, 36, 37, 38, 39, 40, 41], [47]⟩,
        ⟨[.op 40 0, .old 1], [(48, (pIf ((((((a0.Kind == a1.Kind) && (a0.Num == a1.Num)) && (a0.Low == a1.Low)) && (a0.High == a1.High)) && r1) && (a0.Cap == a1.Cap)) (Kd.str.ptr a1.Text)))], [], [0, 1, 2, 3, 4, 5, 6, 7, 8, 9, 10, 11, 12, 13, 14, 15, 16, 17, 18, 19, 20, 21, 22, 23, 24, 25, 26, 27, 28, 29, 30, 31, 32, 33, 34, 35, 36, 37, 38, 39, 40], [48]⟩,
        ⟨[.op 40 0, .op 43 0], [(49, (pIf ((((((a0.Kind == a1.Kind) && (a0.Num == a1.Num)) && (a0.Low == a1.Low)) && (a0.High == a1.High)) && r1) && (a0.Cap == a1.Cap)) (pStr a1.Text)))], [], [0, 1, 2, 3, 4, 5, 6, 7, 8, 9, 10, 11, 12, 13, 14, 15, 16, 17, 18, 19, 20, 21, 22, 23, 24, 25, 26, 27, 28, 29, 30, 31, 32, 33, 34, 35, 36, 37, 38, 39, 40, 43], [49]⟩,
        ⟨[.op 40 0, .op 42 0, .op 44 0], [(50, (pIf ((((((a0.Kind == a1.Kind) && (a0.Num == a1.Num)) && (a0.Low == a1.Low)) && (a0.High == a1.High)) && r1) && (a0.Cap == a1.Cap)) (pBool (sEq a0.Text a1.Text))))], [], [0, 1, 2, 3, 4, 5, 6, 7, 8, 9, 10, 11, 12, 13, 14, 15, 16, 17, 18, 19, 20, 21, 22, 23, 24, 25, 26, 27, 28, 29, 30, 31, 32, 33, 34, 35, 36, 37, 38, 39, 40, 41, 42, 43, 44], [50]⟩,
        ⟨[.op 40 0, .op 45 0], [(51, (pBool (((((((a0.Kind == a1.Kind) && (a0.Num == a1.Num)) && (a0.Low == a1.Low)) && (a0.High == a1.High)) && r1) && (a0.Cap == a1.Cap)) && (sEq a0.Text a1.Text))))], [], [0, 1, 2, 3, 4, 5, 6, 7, 8, 9, 10, 11, 12, 13, 14, 15, 16, 17, 18, 19, 20, 21, 22, 23, 24, 25, 26, 27, 28, 29, 30, 31, 32, 33, 34, 35, 36, 37, 38, 39, 40, 41, 42, 43, 44, 45], [51]⟩,
        ⟨[.op 46 0], [(52, (pBool (((((((a0.Kind == a1.Kind) && (a0.Num == a1.Num)) && (a0.Low == a1.Low)) && (a0.High == a1.High)) && r1) && (a0.Cap == a1.Cap)) && (sEq a0.Text a1.Text))))], [], [0, 1, 2, 3, 4, 5, 6, 7, 8, 9, 10, 11, 12, 13, 14, 15, 16, 17, 18, 19, 20, 21, 22, 23, 24, 25, 26, 27, 28, 29, 30, 31, 32, 33, 34, 35, 36, 37, 38, 39, 40, 41, 42, 43, 44, 45, 46], [52]⟩,
        ⟨[.op 47 0, .old 0], [(53, (pIf (((((((a0.Kind == a1.Kind) && (a0.Num == a1.Num)) && (a0.Low == a1.Low)) && (a0.High == a1.High)) && r1) && (a0.Cap == a1.Cap)) && (sEq a0.Text a1.Text)) (k_api_Item.sl.ptr a0.List)))], [], [0, 1, 2, 3, 4, 5, 6, 7, 8, 9, 10, 11, 12, 13, 14, 15, 16, 17, 18, 19, 20, 21, 22, 23, 24, 25, 26, 27, 28, 29, 30, 31, 32, 33, 34, 35, 36, 37, 38, 39, 40, 41, 42, 43, 44, 45, 46, 47], [53]⟩,
        ⟨[.op 47 0, .op 48 0], [(54, (pIf (((((((a0.Kind == a1.Kind) && (a0.Num == a1.Num)) && (a0.Low == a1.Low)) && (a0.High == a1.High)) && r1) && (a0.Cap == a1.Cap)) && (sEq a0.Text a1.Text)) (k_api_Item.sl.pd a0.List)))], [], [0, 1, 2, 3, 4, 5, 6, 7, 8, 9, 10, 11, 12, 13, 14, 15, 16, 17, 18, 19, 20, 21, 22, 23, 24, 25, 26, 27, 28, 29, 30, 31, 32, 33, 34, 35, 36, 37, 38, 39, 40, 41, 42, 43, 44, 45, 46, 47, 48], [54]⟩,
        ⟨[.op 47 0, .old 1], [(55, (pIf (((((((a0.Kind == a1.Kind) && (a0.Num == a1.Num)) && (a0.Low == a1.Low)) && (a0.High == a1.High)) && r1) && (a0.Cap == a1.Cap)) && (sEq a0.Text a1.Text)) (k_api_Item.sl.ptr a1.List)))], [], [0, 1, 2, 3, 4, 5, 6, 7, 8, 9, 10, 11, 12, 13, 14, 15, 16, 17, 18, 19, 20, 21, 22, 23, 24, 25, 26, 27, 28, 29, 30, 31, 32, 33, 34, 35, 36, 37, 38, 39, 40, 41, 42, 43, 44, 45, 46, 47], [55]⟩,
        ⟨[.op 47 0, .op 50 0], [(56, (pIf (((((((a0.Kind == a1.Kind) && (a0.Num == a1.Num)) && (a0.Low == a1.Low)) && (a0.High == a1.High)) && r1) && (a0.Cap == a1.Cap)) && (sEq a0.Text a1.Text)) (k_api_Item.sl.pd a1.List)))], [], [0, 1, 2, 3, 4, 5, 6, 7, 8, 9, 10, 11, 12, 13, 14, 15, 16, 17, 18, 19, 20, 21, 22, 23, 24, 25, 26, 27, 28, 29, 30, 31, 32, 33, 34, 35, 36, 37, 38, 39, 40, 41, 42, 43, 44, 45, 46, 47, 50], [56]⟩,
        ⟨[.op 47 0, .op 49 0, .op 51 0], [(57, (pIf (((((((a0.Kind == a1.Kind) && (a0.Num == a1.Num)) && (a0.Low == a1.Low)) && (a0.High == a1.High)) && r1) && (a0.Cap == a1.Cap)) && (sEq a0.Text a1.Text)) (pBool r3)))], [], [0, 1, 2, 3, 4, 5, 6, 7, 8, 9, 10, 11, 12, 13, 14, 15, 16, 17, 18, 19, 20, 21, 22, 23, 24, 25, 26, 27, 28, 29, 30, 31, 32, 33, 34, 35, 36, 37, 38, 39, 40, 41, 42, 43, 44, 45, 46, 47, 48, 49, 50, 51], [57]⟩,
        ⟨[.op 47 0, .op 52 0], [(58, (pBool ((((((((a0.Kind == a1.Kind) && (a0.Num == a1.Num)) && (a0.Low == a1.Low)) && (a0.High == a1.High)) && r1) && (a0.Cap == a1.Cap)) && (sEq a0.Text a1.Text)) && r3)))], [], [0, 1, 2, 3, 4, 5, 6, 7, 8, 9, 10, 11, 12, 13, 14, 15, 16, 17, 18, 19, 20, 21, 22, 23, 24, 25, 26, 27, 28, 29, 30, 31, 32, 33, 34, 35, 36, 37, 38, 39, 40, 41, 42, 43, 44, 45, 46, 47, 48, 49, 50, 51, 52], [58]⟩,
        ⟨[.op 53 0], [(4, (pBool ((((((((a0.Kind == a1.Kind) && (a0.Num == a1.Num)) && (a0.Low == a1.Low)) && (a0.High == a1.High)) && r1) && (a0.Cap == a1.Cap)) && (sEq a0.Text a1.Text)) && r3)))], [], [0, 1, 2, 3, 4, 5, 6, 7, 8, 9, 10, 11, 12, 13, 14, 15, 16, 17, 18, 19, 20, 21, 22, 23, 24, 25, 26, 27, 28, 29, 30, 31, 32, 33, 34, 35, 36, 37, 38, 39, 40, 41, 42, 43, 44, 45, 46, 47, 48, 49, 50, 51, 52, 53], [4]⟩])
      (F := [.op 54 0]) (by kernel_rfl)
      (allOT_cons (OT.plain rfl (ob_fieldAddr fl_38_0 rfl rfl Opd.t0))
        (allOT_cons (OT.plain rfl (ob_load ty_3 rfl rfl Opd.t0))
        (allOT_cons (OT.plain rfl (ob_fieldAddr fl_38_0 rfl rfl Opd.t0))
        (allOT_cons (OT.plain rfl (ob_load ty_3 rfl rfl Opd.t0))
        (allOT_cons (OT.plain rfl (ob_eq rfl rfl Opd.t0 (Opd.tl Opd.t0)))
        (allOT_cons (OT.plain rfl (ob_move rfl rfl Opd.t0))
        (allOT_cons (OT.guard (outs := [(11, ((Kd.int .i64).ptr a0.Num))]) (a0.Kind == a1.Kind) (gT (a0.Kind == a1.Kind)).1 (gT (a0.Kind == a1.Kind)).2 rfl rfl (fun e he => by rw [List.mem_singleton.1 he]) (fun hG => ob_fieldAddr fl_38_1 rfl rfl Opd.t0))
        (allOT_cons (OT.guard (outs := [(12, (pInt .i64 a0.Num))]) (a0.Kind == a1.Kind) (gT (a0.Kind == a1.Kind)).1 (gT (a0.Kind == a1.Kind)).2 rfl rfl (fun e he => by rw [List.mem_singleton.1 he]) (fun hG => ob_load ty_2 rfl rfl (Opd.gd hG Opd.t0)))
        (allOT_cons (OT.guard (outs := [(13, ((Kd.int .i64).ptr a1.Num))]) (a0.Kind == a1.Kind) (gT (a0.Kind == a1.Kind)).1 (gT (a0.Kind == a1.Kind)).2 rfl rfl (fun e he => by rw [List.mem_singleton.1 he]) (fun hG => ob_fieldAddr fl_38_1 rfl rfl Opd.t0))
        (allOT_cons (OT.guard (outs := [(14, (pInt .i64 a1.Num))]) (a0.Kind == a1.Kind) (gT (a0.Kind == a1.Kind)).1 (gT (a0.Kind == a1.Kind)).2 rfl rfl (fun e he => by rw [List.mem_singleton.1 he]) (fun hG => ob_load ty_2 rfl rfl (Opd.gd hG Opd.t0)))
        (allOT_cons (OT.guard (outs := [(15, (pBool (a0.Num == a1.Num)))]) (a0.Kind == a1.Kind) (gT (a0.Kind == a1.Kind)).1 (gT (a0.Kind == a1.Kind)).2 rfl rfl (fun e he => by rw [List.mem_singleton.1 he]) (fun hG => ob_eq rfl rfl (Opd.gd hG Opd.t0) (Opd.gd hG (Opd.tl Opd.t0))))
        (allOT_cons (OT.plain rfl (ob_pick (q := (pBool ((a0.Kind == a1.Kind) && (a0.Num == a1.Num)))) rfl rfl Opd.t0 (fun hz => Opd.to (Opd.gd hz (Opd.tl Opd.t0)) (congrArg (fun t => (pBool t)) (pk_and_t hz))) (fun hz => Opd.to (Opd.c (bool_q _)) (congrArg (fun t => (pBool t)) (pk_and_f hz)))))
        (allOT_cons (OT.plain rfl (ob_move rfl rfl Opd.t0))
        (allOT_cons (OT.guard (outs := [(18, ((Kd.int .i64).ptr a0.Low))]) ((a0.Kind == a1.Kind) && (a0.Num == a1.Num)) (gT ((a0.Kind == a1.Kind) && (a0.Num == a1.Num))).1 (gT ((a0.Kind == a1.Kind) && (a0.Num == a1.Num))).2 rfl rfl (fun e he => by rw [List.mem_singleton.1 he]) (fun hG => ob_fieldAddr fl_38_2 rfl rfl Opd.t0))
        (allOT_cons (OT.guard (outs := [(19, (pInt .i64 a0.Low))]) ((a0.Kind == a1.Kind) && (a0.Num == a1.Num)) (gT ((a0.Kind == a1.Kind) && (a0.Num == a1.Num))).1 (gT ((a0.Kind == a1.Kind) && (a0.Num == a1.Num))).2 rfl rfl (fun e he => by rw [List.mem_singleton.1 he]) (fun hG => ob_load ty_2 rfl rfl (Opd.gd hG Opd.t0)))
        (allOT_cons (OT.guard (outs := [(20, ((Kd.int .i64).ptr a1.Low))]) ((a0.Kind == a1.Kind) && (a0.Num == a1.Num)) (gT ((a0.Kind == a1.Kind) && (a0.Num == a1.Num))).1 (gT ((a0.Kind == a1.Kind) && (a0.Num == a1.Num))).2 rfl rfl (fun e he => by rw [List.mem_singleton.1 he]) (fun hG => ob_fieldAddr fl_38_2 rfl rfl Opd.t0))
        (allOT_cons (OT.guard (outs := [(21, (pInt .i64 a1.Low))]) ((a0.Kind == a1.Kind) && (a0.Num == a1.Num)) (gT ((a0.Kind == a1.Kind) && (a0.Num == a1.Num))).1 (gT ((a0.Kind == a1.Kind) && (a0.Num == a1.Num))).2 rfl rfl (fun e he => by rw [List.mem_singleton.1 he]) (fun hG => ob_load ty_2 rfl rfl (Opd.gd hG Opd.t0)))
        (allOT_cons (OT.guard (outs := [(22, (pBool (a0.Low == a1.Low)))]) ((a0.Kind == a1.Kind) && (a0.Num == a1.Num)) (gT ((a0.Kind == a1.Kind) && (a0.Num == a1.Num))).1 (gT ((a0.Kind == a1.Kind) && (a0.Num == a1.Num))).2 rfl rfl (fun e he => by rw [List.mem_singleton.1 he]) (fun hG => ob_eq rfl rfl (Opd.gd hG Opd.t0) (Opd.gd hG (Opd.tl Opd.t0))))
        (allOT_cons (OT.plain rfl (ob_pick (q := (pBool (((a0.Kind == a1.Kind) && (a0.Num == a1.Num)) && (a0.Low == a1.Low)))) rfl rfl Opd.t0 (fun hz => Opd.to (Opd.gd hz (Opd.tl Opd.t0)) (congrArg (fun t => (pBool t)) (pk_and_t hz))) (fun hz => Opd.to (Opd.c (bool_q _)) (congrArg (fun t => (pBool t)) (pk_and_f hz)))))
        (allOT_cons (OT.plain rfl (ob_move rfl rfl Opd.t0))
        (allOT_cons (OT.guard (outs := [(25, ((Kd.int .i64).ptr a0.High))]) (((a0.Kind == a1.Kind) && (a0.Num == a1.Num)) && (a0.Low == a1.Low)) (gT (((a0.Kind == a1.Kind) && (a0.Num == a1.Num)) && (a0.Low == a1.Low))).1 (gT (((a0.Kind == a1.Kind) && (a0.Num == a1.Num)) && (a0.Low == a1.Low))).2 rfl rfl (fun e he => by rw [List.mem_singleton.1 he]) (fun hG => ob_fieldAddr fl_38_3 rfl rfl Opd.t0))
        (allOT_cons (OT.guard (outs := [(26, (pInt .i64 a0.High))]) (((a0.Kind == a1.Kind) && (a0.Num == a1.Num)) && (a0.Low == a1.Low)) (gT (((a0.Kind == a1.Kind) && (a0.Num == a1.Num)) && (a0.Low == a1.Low))).1 (gT (((a0.Kind == a1.Kind) && (a0.Num == a1.Num)) && (a0.Low == a1.Low))).2 rfl rfl (fun e he => by rw [List.mem_singleton.1 he]) (fun hG => ob_load ty_2 rfl rfl (Opd.gd hG Opd.t0)))
        (allOT_cons (OT.guard (outs := [(27, ((Kd.int .i64).ptr a1.High))]) (((a0.Kind == a1.Kind) && (a0.Num == a1.Num)) && (a0.Low == a1.Low)) (gT (((a0.Kind == a1.Kind) && (a0.Num == a1.Num)) && (a0.Low == a1.Low))).1 (gT (((a0.Kind == a1.Kind) && (a0.Num == a1.Num)) && (a0.Low == a1.Low))).2 rfl rfl (fun e he => by rw [List.mem_singleton.1 he]) (fun hG => ob_fieldAddr fl_38_3 rfl rfl Opd.t0))
        (allOT_cons (OT.guard (outs := [(28, (pInt .i64 a1.High))]) (((a0.Kind == a1.Kind) && (a0.Num == a1.Num)) && (a0.Low == a1.Low)) (gT (((a0.Kind == a1.Kind) && (a0.Num == a1.Num)) && (a0.Low == a1.Low))).1 (gT (((a0.Kind == a1.Kind) && (a0.Num == a1.Num)) && (a0.Low == a1.Low))).2 rfl rfl (fun e he => by rw [List.mem_singleton.1 he]) (fun hG => ob_load ty_2 rfl rfl (Opd.gd hG Opd.t0)))
        (allOT_cons (OT.guard (outs := [(29, (pBool (a0.High == a1.High)))]) (((a0.Kind == a1.Kind) && (a0.Num == a1.Num)) && (a0.Low == a1.Low)) (gT (((a0.Kind == a1.Kind) && (a0.Num == a1.Num)) && (a0.Low == a1.Low))).1 (gT (((a0.Kind == a1.Kind) && (a0.Num == a1.Num)) && (a0.Low == a1.Low))).2 rfl rfl (fun e he => by rw [List.mem_singleton.1 he]) (fun hG => ob_eq rfl rfl (Opd.gd hG Opd.t0) (Opd.gd hG (Opd.tl Opd.t0))))
        (allOT_cons (OT.plain rfl (ob_pick (q := (pBool ((((a0.Kind == a1.Kind) && (a0.Num == a1.Num)) && (a0.Low == a1.Low)) && (a0.High == a1.High)))) rfl rfl Opd.t0 (fun hz => Opd.to (Opd.gd hz (Opd.tl Opd.t0)) (congrArg (fun t => (pBool t)) (pk_and_t hz))) (fun hz => Opd.to (Opd.c (bool_q _)) (congrArg (fun t => (pBool t)) (pk_and_f hz)))))
        (allOT_cons (OT.plain rfl (ob_move rfl rfl Opd.t0))
        (allOT_cons (OT.guard (outs := [(32, (Kd.flt.ptr a0.Real))]) ((((a0.Kind == a1.Kind) && (a0.Num == a1.Num)) && (a0.Low == a1.Low)) && (a0.High == a1.High)) (gT ((((a0.Kind == a1.Kind) && (a0.Num == a1.Num)) && (a0.Low == a1.Low)) && (a0.High == a1.High))).1 (gT ((((a0.Kind == a1.Kind) && (a0.Num == a1.Num)) && (a0.Low == a1.Low)) && (a0.High == a1.High))).2 rfl rfl (fun e he => by rw [List.mem_singleton.1 he]) (fun hG => ob_fieldAddr fl_38_4 rfl rfl Opd.t0))
        (allOT_cons (OT.guard (outs := [(33, (pFlt a0.Real))]) ((((a0.Kind == a1.Kind) && (a0.Num == a1.Num)) && (a0.Low == a1.Low)) && (a0.High == a1.High)) (gT ((((a0.Kind == a1.Kind) && (a0.Num == a1.Num)) && (a0.Low == a1.Low)) && (a0.High == a1.High))).1 (gT ((((a0.Kind == a1.Kind) && (a0.Num == a1.Num)) && (a0.Low == a1.Low)) && (a0.High == a1.High))).2 rfl rfl (fun e he => by rw [List.mem_singleton.1 he]) (fun hG => ob_load ty_35 rfl rfl (Opd.gd hG Opd.t0)))
        (allOT_cons (OT.guard (outs := [(34, (Kd.flt.ptr a1.Real))]) ((((a0.Kind == a1.Kind) && (a0.Num == a1.Num)) && (a0.Low == a1.Low)) && (a0.High == a1.High)) (gT ((((a0.Kind == a1.Kind) && (a0.Num == a1.Num)) && (a0.Low == a1.Low)) && (a0.High == a1.High))).1 (gT ((((a0.Kind == a1.Kind) && (a0.Num == a1.Num)) && (a0.Low == a1.Low)) && (a0.High == a1.High))).2 rfl rfl (fun e he => by rw [List.mem_singleton.1 he]) (fun hG => ob_fieldAddr fl_38_4 rfl rfl Opd.t0))
        (allOT_cons (OT.guard (outs := [(35, (pFlt a1.Real))]) ((((a0.Kind == a1.Kind) && (a0.Num == a1.Num)) && (a0.Low == a1.Low)) && (a0.High == a1.High)) (gT ((((a0.Kind == a1.Kind) && (a0.Num == a1.Num)) && (a0.Low == a1.Low)) && (a0.High == a1.High))).1 (gT ((((a0.Kind == a1.Kind) && (a0.Num == a1.Num)) && (a0.Low == a1.Low)) && (a0.High == a1.High))).2 rfl rfl (fun e he => by rw [List.mem_singleton.1 he]) (fun hG => ob_load ty_35 rfl rfl (Opd.gd hG Opd.t0)))
        (allOT_cons (OT.guard (outs := [(36, (pBool r1))]) ((((a0.Kind == a1.Kind) && (a0.Num == a1.Num)) && (a0.Low == a1.Low)) && (a0.High == a1.High)) (gT ((((a0.Kind == a1.Kind) && (a0.Num == a1.Num)) && (a0.Low == a1.Low)) && (a0.High == a1.High))).1 (gT ((((a0.Kind == a1.Kind) && (a0.Num == a1.Num)) && (a0.Low == a1.Low)) && (a0.High == a1.High))).2 rfl rfl (fun e he => by rw [List.mem_singleton.1 he]) (fun hG => ob_call en_42 (flo_Same_ok _ _ (gd_true h2 hG)) rfl rfl (.cons (Opd.gd hG Opd.t0) (.cons (Opd.gd hG (Opd.tl Opd.t0)) .nil))))
        (allOT_cons (OT.plain rfl (ob_pick (q := (pBool (((((a0.Kind == a1.Kind) && (a0.Num == a1.Num)) && (a0.Low == a1.Low)) && (a0.High == a1.High)) && r1))) rfl rfl Opd.t0 (fun hz => Opd.to (Opd.gd hz (Opd.tl Opd.t0)) (congrArg (fun t => (pBool t)) (pk_and_t hz))) (fun hz => Opd.to (Opd.c (bool_q _)) (congrArg (fun t => (pBool t)) (pk_and_f hz)))))
        (allOT_cons (OT.plain rfl (ob_move rfl rfl Opd.t0))
        (allOT_cons (OT.guard (outs := [(39, ((Kd.int .i64).ptr a0.Cap))]) (((((a0.Kind == a1.Kind) && (a0.Num == a1.Num)) && (a0.Low == a1.Low)) && (a0.High == a1.High)) && r1) (gT (((((a0.Kind == a1.Kind) && (a0.Num == a1.Num)) && (a0.Low == a1.Low)) && (a0.High == a1.High)) && r1)).1 (gT (((((a0.Kind == a1.Kind) && (a0.Num == a1.Num)) && (a0.Low == a1.Low)) && (a0.High == a1.High)) && r1)).2 rfl rfl (fun e he => by rw [List.mem_singleton.1 he]) (fun hG => ob_fieldAddr fl_38_5 rfl rfl Opd.t0))
        (allOT_cons (OT.guard (outs := [(40, (pInt .i64 a0.Cap))]) (((((a0.Kind == a1.Kind) && (a0.Num == a1.Num)) && (a0.Low == a1.Low)) && (a0.High == a1.High)) && r1) (gT (((((a0.Kind == a1.Kind) && (a0.Num == a1.Num)) && (a0.Low == a1.Low)) && (a0.High == a1.High)) && r1)).1 (gT (((((a0.Kind == a1.Kind) && (a0.Num == a1.Num)) && (a0.Low == a1.Low)) && (a0.High == a1.High)) && r1)).2 rfl rfl (fun e he => by rw [List.mem_singleton.1 he]) (fun hG => ob_load ty_3 rfl rfl (Opd.gd hG Opd.t0)))
        (allOT_cons (OT.guard (outs := [(41, ((Kd.int .i64).ptr a1.Cap))]) (((((a0.Kind == a1.Kind) && (a0.Num == a1.Num)) && (a0.Low == a1.Low)) && (a0.High == a1.High)) && r1) (gT (((((a0.Kind == a1.Kind) && (a0.Num == a1.Num)) && (a0.Low == a1.Low)) && (a0.High == a1.High)) && r1)).1 (gT (((((a0.Kind == a1.Kind) && (a0.Num == a1.Num)) && (a0.Low == a1.Low)) && (a0.High == a1.High)) && r1)).2 rfl rfl (fun e he => by rw [List.mem_singleton.1 he]) (fun hG => ob_fieldAddr fl_38_5 rfl rfl Opd.t0))
        (allOT_cons (OT.guard (outs := [(42, (pInt .i64 a1.Cap))]) (((((a0.Kind == a1.Kind) && (a0.Num == a1.Num)) && (a0.Low == a1.Low)) && (a0.High == a1.High)) && r1) (gT (((((a0.Kind == a1.Kind) && (a0.Num == a1.Num)) && (a0.Low == a1.Low)) && (a0.High == a1.High)) && r1)).1 (gT (((((a0.Kind == a1.Kind) && (a0.Num == a1.Num)) && (a0.Low == a1.Low)) && (a0.High == a1.High)) && r1)).2 rfl rfl (fun e he => by rw [List.mem_singleton.1 he]) (fun hG => ob_load ty_3 rfl rfl (Opd.gd hG Opd.t0)))
        (allOT_cons (OT.guard (outs := [(43, (pBool (a0.Cap == a1.Cap)))]) (((((a0.Kind == a1.Kind) && (a0.Num == a1.Num)) && (a0.Low == a1.Low)) && (a0.High == a1.High)) && r1) (gT (((((a0.Kind == a1.Kind) && (a0.Num == a1.Num)) && (a0.Low == a1.Low)) && (a0.High == a1.High)) && r1)).1 (gT (((((a0.Kind == a1.Kind) && (a0.Num == a1.Num)) && (a0.Low == a1.Low)) && (a0.High == a1.High)) && r1)).2 rfl rfl (fun e he => by rw [List.mem_singleton.1 he]) (fun hG => ob_eq rfl rfl (Opd.gd hG Opd.t0) (Opd.gd hG (Opd.tl Opd.t0))))
        (allOT_cons (OT.plain rfl (ob_pick (q := (pBool ((((((a0.Kind == a1.Kind) && (a0.Num == a1.Num)) && (a0.Low == a1.Low)) && (a0.High == a1.High)) && r1) && (a0.Cap == a1.Cap)))) rfl rfl Opd.t0 (fun hz => Opd.to (Opd.gd hz (Opd.tl Opd.t0)) (congrArg (fun t => (pBool t)) (pk_and_t hz))) (fun hz => Opd.to (Opd.c (bool_q _)) (congrArg (fun t => (pBool t)) (pk_and_f hz)))))
        (allOT_cons (OT.plain rfl (ob_move rfl rfl Opd.t0))
        (allOT_cons (OT.guard (outs := [(46, (Kd.str.ptr a0.Text))]) ((((((a0.Kind == a1.Kind) && (a0.Num == a1.Num)) && (a0.Low == a1.Low)) && (a0.High == a1.High)) && r1) && (a0.Cap == a1.Cap)) (gT ((((((a0.Kind == a1.Kind) && (a0.Num == a1.Num)) && (a0.Low == a1.Low)) && (a0.High == a1.High)) && r1) && (a0.Cap == a1.Cap))).1 (gT ((((((a0.Kind == a1.Kind) && (a0.Num == a1.Num)) && (a0.Low == a1.Low)) && (a0.High == a1.High)) && r1) && (a0.Cap == a1.Cap))).2 rfl rfl (fun e he => by rw [List.mem_singleton.1 he]) (fun hG => ob_fieldAddr fl_38_6 rfl rfl Opd.t0))
        (allOT_cons (OT.guard (outs := [(47, (pStr a0.Text))]) ((((((a0.Kind == a1.Kind) && (a0.Num == a1.Num)) && (a0.Low == a1.Low)) && (a0.High == a1.High)) && r1) && (a0.Cap == a1.Cap)) (gT ((((((a0.Kind == a1.Kind) && (a0.Num == a1.Num)) && (a0.Low == a1.Low)) && (a0.High == a1.High)) && r1) && (a0.Cap == a1.Cap))).1 (gT ((((((a0.Kind == a1.Kind) && (a0.Num == a1.Num)) && (a0.Low == a1.Low)) && (a0.High == a1.High)) && r1) && (a0.Cap == a1.Cap))).2 rfl rfl (fun e he => by rw [List.mem_singleton.1 he]) (fun hG => ob_load ty_9 rfl rfl (Opd.gd hG Opd.t0)))
        (allOT_cons (OT.guard (outs := [(48, (Kd.str.ptr a1.Text))]) ((((((a0.Kind == a1.Kind) && (a0.Num == a1.Num)) && (a0.Low == a1.Low)) && (a0.High == a1.High)) && r1) && (a0.Cap == a1.Cap)) (gT ((((((a0.Kind == a1.Kind) && (a0.Num == a1.Num)) && (a0.Low == a1.Low)) && (a0.High == a1.High)) && r1) && (a0.Cap == a1.Cap))).1 (gT ((((((a0.Kind == a1.Kind) && (a0.Num == a1.Num)) && (a0.Low == a1.Low)) && (a0.High == a1.High)) && r1) && (a0.Cap == a1.Cap))).2 rfl rfl (fun e he => by rw [List.mem_singleton.1 he]) (fun hG => ob_fieldAddr fl_38_6 rfl rfl Opd.t0))
        (allOT_cons (OT.guard (outs := [(49, (pStr a1.Text))]) ((((((a0.Kind == a1.Kind) && (a0.Num == a1.Num)) && (a0.Low == a1.Low)) && (a0.High == a1.High)) && r1) && (a0.Cap == a1.Cap)) (gT ((((((a0.Kind == a1.Kind) && (a0.Num == a1.Num)) && (a0.Low == a1.Low)) && (a0.High == a1.High)) && r1) && (a0.Cap == a1.Cap))).1 (gT ((((((a0.Kind == a1.Kind) && (a0.Num == a1.Num)) && (a0.Low == a1.Low)) && (a0.High == a1.High)) && r1) && (a0.Cap == a1.Cap))).2 rfl rfl (fun e he => by rw [List.mem_singleton.1 he]) (fun hG => ob_load ty_9 rfl rfl (Opd.gd hG Opd.t0)))
        (allOT_cons (OT.guard (outs := [(50, (pBool (sEq a0.Text a1.Text)))]) ((((((a0.Kind == a1.Kind) && (a0.Num == a1.Num)) && (a0.Low == a1.Low)) && (a0.High == a1.High)) && r1) && (a0.Cap == a1.Cap)) (gT ((((((a0.Kind == a1.Kind) && (a0.Num == a1.Num)) && (a0.Low == a1.Low)) && (a0.High == a1.High)) && r1) && (a0.Cap == a1.Cap))).1 (gT ((((((a0.Kind == a1.Kind) && (a0.Num == a1.Num)) && (a0.Low == a1.Low)) && (a0.High == a1.High)) && r1) && (a0.Cap == a1.Cap))).2 rfl rfl (fun e he => by rw [List.mem_singleton.1 he]) (fun hG => ob_seq rfl rfl (Opd.gd hG Opd.t0) (Opd.gd hG (Opd.tl Opd.t0))))
        (allOT_cons (OT.plain rfl (ob_pick (q := (pBool (((((((a0.Kind == a1.Kind) && (a0.Num == a1.Num)) && (a0.Low == a1.Low)) && (a0.High == a1.High)) && r1) && (a0.Cap == a1.Cap)) && (sEq a0.Text a1.Text)))) rfl rfl Opd.t0 (fun hz => Opd.to (Opd.gd hz (Opd.tl Opd.t0)) (congrArg (fun t => (pBool t)) (pk_and_t hz))) (fun hz => Opd.to (Opd.c (bool_q _)) (congrArg (fun t => (pBool t)) (pk_and_f hz)))))
        (allOT_cons (OT.plain rfl (ob_move rfl rfl Opd.t0))
        (allOT_cons (OT.guard (outs := [(53, (k_api_Item.sl.ptr a0.List))]) (((((((a0.Kind == a1.Kind) && (a0.Num == a1.Num)) && (a0.Low == a1.Low)) && (a0.High == a1.High)) && r1) && (a0.Cap == a1.Cap)) && (sEq a0.Text a1.Text)) (gT (((((((a0.Kind == a1.Kind) && (a0.Num == a1.Num)) && (a0.Low == a1.Low)) && (a0.High == a1.High)) && r1) && (a0.Cap == a1.Cap)) && (sEq a0.Text a1.Text))).1 (gT (((((((a0.Kind == a1.Kind) && (a0.Num == a1.Num)) && (a0.Low == a1.Low)) && (a0.High == a1.High)) && r1) && (a0.Cap == a1.Cap)) && (sEq a0.Text a1.Text))).2 rfl rfl (fun e he => by rw [List.mem_singleton.1 he]) (fun hG => ob_fieldAddr fl_38_7 rfl rfl Opd.t0))
        (allOT_cons (OT.guard (outs := [(54, (k_api_Item.sl.pd a0.List))]) (((((((a0.Kind == a1.Kind) && (a0.Num == a1.Num)) && (a0.Low == a1.Low)) && (a0.High == a1.High)) && r1) && (a0.Cap == a1.Cap)) && (sEq a0.Text a1.Text)) (gT (((((((a0.Kind == a1.Kind) && (a0.Num == a1.Num)) && (a0.Low == a1.Low)) && (a0.High == a1.High)) && r1) && (a0.Cap == a1.Cap)) && (sEq a0.Text a1.Text))).1 (gT (((((((a0.Kind == a1.Kind) && (a0.Num == a1.Num)) && (a0.Low == a1.Low)) && (a0.High == a1.High)) && r1) && (a0.Cap == a1.Cap)) && (sEq a0.Text a1.Text))).2 rfl rfl (fun e he => by rw [List.mem_singleton.1 he]) (fun hG => ob_load ty_36 rfl rfl (Opd.gd hG Opd.t0)))
        (allOT_cons (OT.guard (outs := [(55, (k_api_Item.sl.ptr a1.List))]) (((((((a0.Kind == a1.Kind) && (a0.Num == a1.Num)) && (a0.Low == a1.Low)) && (a0.High == a1.High)) && r1) && (a0.Cap == a1.Cap)) && (sEq a0.Text a1.Text)) (gT (((((((a0.Kind == a1.Kind) && (a0.Num == a1.Num)) && (a0.Low == a1.Low)) && (a0.High == a1.High)) && r1) && (a0.Cap == a1.Cap)) && (sEq a0.Text a1.Text))).1 (gT (((((((a0.Kind == a1.Kind) && (a0.Num == a1.Num)) && (a0.Low == a1.Low)) && (a0.High == a1.High)) && r1) && (a0.Cap == a1.Cap)) && (sEq a0.Text a1.Text))).2 rfl rfl (fun e he => by rw [List.mem_singleton.1 he]) (fun hG => ob_fieldAddr fl_38_7 rfl rfl Opd.t0))
        (allOT_cons (OT.guard (outs := [(56, (k_api_Item.sl.pd a1.List))]) (((((((a0.Kind == a1.Kind) && (a0.Num == a1.Num)) && (a0.Low == a1.Low)) && (a0.High == a1.High)) && r1) && (a0.Cap == a1.Cap)) && (sEq a0.Text a1.Text)) (gT (((((((a0.Kind == a1.Kind) && (a0.Num == a1.Num)) && (a0.Low == a1.Low)) && (a0.High == a1.High)) && r1) && (a0.Cap == a1.Cap)) && (sEq a0.Text a1.Text))).1 (gT (((((((a0.Kind == a1.Kind) && (a0.Num == a1.Num)) && (a0.Low == a1.Low)) && (a0.High == a1.High)) && r1) && (a0.Cap == a1.Cap)) && (sEq a0.Text a1.Text))).2 rfl rfl (fun e he => by rw [List.mem_singleton.1 he]) (fun hG => ob_load ty_36 rfl rfl (Opd.gd hG Opd.t0)))
        (allOT_cons (OT.guard (outs := [(57, (pBool r3))]) (((((((a0.Kind == a1.Kind) && (a0.Num == a1.Num)) && (a0.Low == a1.Low)) && (a0.High == a1.High)) && r1) && (a0.Cap == a1.Cap)) && (sEq a0.Text a1.Text)) (gT (((((((a0.Kind == a1.Kind) && (a0.Num == a1.Num)) && (a0.Low == a1.Low)) && (a0.High == a1.High)) && r1) && (a0.Cap == a1.Cap)) && (sEq a0.Text a1.Text))).1 (gT (((((((a0.Kind == a1.Kind) && (a0.Num == a1.Num)) && (a0.Low == a1.Low)) && (a0.High == a1.High)) && r1) && (a0.Cap == a1.Cap)) && (sEq a0.Text a1.Text))).2 rfl rfl (fun e he => by rw [List.mem_singleton.1 he]) (fun hG => ob_call en_43 (slices_EqualFunc_api_Item_api_Item_api_Item_api_Item_ok 44 [] rfl en_44 (fun y0 y1 => rec_Same_1 y0 y1) (fun y0 y1 r h => rec_Same_1_ok y0 y1 h) _ _ (gd_true h4 hG)) rfl rfl (.cons (Opd.gd hG Opd.t0) (.cons (Opd.gd hG (Opd.tl Opd.t0)) (.cons Opd.fnc .nil)))))
        (allOT_cons (OT.plain rfl (ob_pick (q := (pBool ((((((((a0.Kind == a1.Kind) && (a0.Num == a1.Num)) && (a0.Low == a1.Low)) && (a0.High == a1.High)) && r1) && (a0.Cap == a1.Cap)) && (sEq a0.Text a1.Text)) && r3))) rfl rfl Opd.t0 (fun hz => Opd.to (Opd.gd hz (Opd.tl Opd.t0)) (congrArg (fun t => (pBool t)) (pk_and_t hz))) (fun hz => Opd.to (Opd.c (bool_q _)) (congrArg (fun t => (pBool t)) (pk_and_f hz)))))
        (allOT_cons (OT.plain rfl (ob_assign rfl rfl Opd.t0))
        allOT_nil)))))))))))))))))))))))))))))))))))))))))))))))))))))))
      hst hb (fun a g hst hb => ?_)
  refine then_n ?_
  refine wp_ret ?_
  obtain rfl := Option.some.inj H0
  exact endR1 rfl hst hb (res_tmp (s := 4)) (hst.at 0 rfl)
end Go.CL

set_option linter.unusedVariables false
set_option linter.unusedSimpArgs false
set_option maxRecDepth 100000
namespace Go.CL
open Go Go.RowKit Go.Proofs
theorem shelf_Same_ok (a0 : shelf_Shelf) (a1 : shelf_Shelf) {r : Bool} (h : shelf_Same a0 a1 = some r) : FnOk Try.prog 18 [(k_shelf_Shelf.pd a0), (k_shelf_Shelf.pd a1)] (pBool r) := by
  have H0 := h
  unfold shelf_Same at H0
  clear h
  refine fn_ok (N := 46) Try.func18 rfl rfl (Nat.le_of_ble_eq_true rfl) rfl rfl (fun a g0 hst hb => ?_)
  refine wp_seq ?_
  refine wp_reg follows (N := 46) (L := [(0, (k_shelf_Shelf.pd a0)), (1, (k_shelf_Shelf.pd a1))])
      (T := [⟨[.old 0], [(2, (k_shelf_Shelf.ptr a0))], [], [], [2]⟩,
        ⟨[.old 1], [(3, (k_shelf_Shelf.ptr a1))], [], [], [3]⟩,
        ⟨[], [(4, (pBool false))], [], [], [4]⟩])
      (F := [.op 0 0, .op 1 0]) (by kernel_rfl)
      (allOT_cons (OT.plain rfl (ob_box1 rfl rfl Opd.t0))
        (allOT_cons (OT.plain rfl (ob_box1 rfl rfl Opd.t0))
        (allOT_cons (OT.plain rfl (ob_assign rfl rfl (Opd.c (bool_q _))))
        allOT_nil)))
      hst hb (fun a g hst hb => ?_)
  refine then_n ?_
  refine wp_seq ?_
  refine wp_seq ?_
  obtain ⟨r1, h2, H0⟩ := of_bind H0
  obtain ⟨r3, h4, H0⟩ := of_bind H0
  refine wp_reg follows (N := 46) (L := [(2, (k_shelf_Shelf.ptr a0)), (3, (k_shelf_Shelf.ptr a1))])
      (T := [⟨[.old 0], [(12, (k_shelf_Shelf.pd a0))], [], [], [12]⟩,
        ⟨[.op 0 0], [(13, (pInt .i64 r1))], [], [0], [13]⟩,
        ⟨[.old 1], [(14, (k_shelf_Shelf.pd a1))], [], [], [14]⟩,
        ⟨[.op 2 0], [(15, (pInt .i64 r3))], [], [0, 1, 2], [15]⟩,
        ⟨[.op 1 0, .op 3 0], [(16, (pBool (r1 != r3)))], [], [0, 1, 2, 3], [16]⟩])
      (F := [.old 0, .old 1, .op 4 0]) (by kernel_rfl)
      (allOT_cons (OT.plain rfl (ob_load ty_28 rfl rfl Opd.t0))
        (allOT_cons (OT.plain rfl (ob_call en_17 (shelf_Shelf_Len_ok _ h2) rfl rfl (.cons Opd.t0 .nil)))
        (allOT_cons (OT.plain rfl (ob_load ty_28 rfl rfl Opd.t0))
        (allOT_cons (OT.plain rfl (ob_call en_17 (shelf_Shelf_Len_ok _ h4) rfl rfl (.cons Opd.t0 .nil)))
        (allOT_cons (OT.plain rfl (ob_ne rfl rfl Opd.t0 (Opd.tl Opd.t0)))
        allOT_nil)))))
      hst hb (fun a g hst hb => ?_)
  refine then_n ?_
  refine wp_cond_split (hst.bool 2 rfl) (fun hc5 => ?_) (fun hc5 => ?_)
  · replace H0 := ite_t hc5 H0
    refine wp_seq ?_
    refine wp_reg follows (N := 46) (L := [])
        (T := [⟨[], [(4, (pBool false))], [], [], [4]⟩])
        (F := [.op 0 0]) (by kernel_rfl)
        (allOT_cons (OT.plain rfl (ob_assign rfl rfl (Opd.c (bool_q _))))
          allOT_nil)
        (hst.pick [] rfl) hb (fun a g hst hb => ?_)
    refine then_n ?_
    refine wp_ret ?_
    refine then_r ?_
    obtain rfl := Option.some.inj H0
    exact endR1 rfl hst hb (res_tmp (s := 4)) (hst.at 0 rfl)
  · replace H0 := ite_f hc5 H0
    refine wp_skip ?_
    refine then_n ?_
    refine wp_seq ?_
    refine wp_seq ?_
    obtain ⟨r6, h7, H0⟩ := of_bind H0
    refine wp_reg follows (N := 46) (L := [(2, (k_shelf_Shelf.ptr a0)), (3, (k_shelf_Shelf.ptr a1))])
        (T := [⟨[.old 0], [(17, (k_shelf_Shelf.pd a0))], [], [], [17]⟩,
          ⟨[.op 0 0], [(18, (pInt .i64 r6))], [], [0], [18]⟩,
          ⟨[], [(19, (pInt .i64 (0 : Int)))], [], [], [19]⟩])
        (F := [.old 0, .old 1, .op 1 0, .op 2 0]) (by kernel_rfl)
        (allOT_cons (OT.plain rfl (ob_load ty_28 rfl rfl Opd.t0))
          (allOT_cons (OT.plain rfl (ob_call en_17 (shelf_Shelf_Len_ok _ h7) rfl rfl (.cons Opd.t0 .nil)))
          (allOT_cons (OT.plain rfl (ob_move rfl rfl (Opd.c (int_q _ _))))
          allOT_nil)))
        (hst.pick [0, 1] rfl) hb (fun a g hst hb => ?_)
    refine then_n ?_
    obtain ⟨z17, hz1, H0⟩ := of_bind H0
    refine wp_cut (fun a w => ∃ (g : G), w = g.w ∧ St 46 [] a g ∧ Base g0 g ∧ (.inr ()) = z17) ?_ ?_
    · rintro a w ⟨g, rfl, hst, hb, rfl⟩
      refine then_n ?_
      refine wp_seq ?_
      refine wp_reg follows (N := 46) (L := [])
          (T := [⟨[], [(4, (pBool true))], [], [], [4]⟩])
          (F := [.op 0 0]) (by kernel_rfl)
          (allOT_cons (OT.plain rfl (ob_assign rfl rfl (Opd.c (bool_q _))))
            allOT_nil)
          hst hb (fun a g hst hb => ?_)
      refine then_n ?_
      refine wp_ret ?_
      obtain rfl := Option.some.inj H0
      exact endR1 rfl hst hb (res_tmp (s := 4)) (hst.at 0 rfl)
    · refine wp_block ?_
      refine wp_loop_ghost (fun n a w => ∃ (x8 : Int) (g : G), w = g.w ∧ St 46 [(2, (k_shelf_Shelf.ptr a0)), (3, (k_shelf_Shelf.ptr a1)), (18, (pInt .i64 r6)), (19, (pInt .i64 x8))] a g ∧ Base g0 g ∧ shelf_Same_l1 a0 a1 r6 n x8 = some z17) (Int.toNat (r6 - (0 : Int)) + 1) ⟨(0 : Int), g, rfl, (hst.pick [0, 1, 2, 3] rfl), hb, hz1⟩ (fun n a w hI => ?_)
      obtain ⟨x8, g, rfl, hst, hb, H1⟩ := hI
      cases n with
      | zero => exact absurd H1 (by simp [shelf_Same_l1])
      | succ n =>
        rw [shelf_Same_l1] at H1
        refine wp_seq ?_
        refine wp_reg follows (N := 46) (L := [(2, (k_shelf_Shelf.ptr a0)), (3, (k_shelf_Shelf.ptr a1)), (18, (pInt .i64 r6)), (19, (pInt .i64 x8))])
            (T := [⟨[.old 3, .old 2], [(20, (pBool (decide (x8 < r6))))], [], [], [20]⟩])
            (F := [.old 0, .old 1, .old 2, .old 3, .op 0 0]) (by kernel_rfl)
            (allOT_cons (OT.plain rfl (ob_lt rfl rfl Opd.t0 (Opd.tl Opd.t0)))
              allOT_nil)
            hst hb (fun a g hst hb => ?_)
        refine then_n ?_
        refine wp_seq ?_
        refine wp_cond_split (hst.bool 4 rfl) (fun hc9 => ?_) (fun hc9 => ?_)
        · replace H1 := ite_t hc9 H1
          refine wp_skip ?_
          refine then_n ?_
          refine wp_seq ?_
          refine wp_block ?_
          refine wp_seq ?_
          refine wp_reg follows (N := 46) (L := [(2, (k_shelf_Shelf.ptr a0)), (3, (k_shelf_Shelf.ptr a1)), (18, (pInt .i64 r6)), (19, (pInt .i64 x8))])
              (T := [⟨[.old 3], [(21, (pInt .i64 x8))], [], [], [21]⟩,
                ⟨[.op 0 0], [(5, (pInt .i64 x8))], [], [0], [5]⟩])
              (F := [.old 0, .old 1, .op 1 0, .old 2, .old 3]) (by kernel_rfl)
              (allOT_cons (OT.plain rfl (ob_move rfl rfl Opd.t0))
                (allOT_cons (OT.plain rfl (ob_assign rfl rfl Opd.t0))
                allOT_nil))
              (hst.pick [0, 1, 2, 3] rfl) hb (fun a g hst hb => ?_)
          refine then_n ?_
          refine wp_seq ?_
          obtain ⟨r10, h11, H1⟩ := of_bind H1
          refine wp_reg follows (N := 46) (L := [(2, (k_shelf_Shelf.ptr a0)), (3, (k_shelf_Shelf.ptr a1)), (5, (pInt .i64 x8)), (18, (pInt .i64 r6)), (19, (pInt .i64 x8))])
              (T := [⟨[.old 0], [(23, (k_shelf_Shelf.pd a0))], [], [], [23]⟩,
                ⟨[.old 2], [(24, (pInt .i64 x8))], [], [], [24]⟩,
                ⟨[.op 0 0, .op 1 0], [(25, (pTup [(pStr r10.1), (k_api_Record.pd r10.2.1), (pBool r10.2.2)]))], [], [0, 1], [25]⟩,
                ⟨[.op 2 0], [(22, (pTup [(pStr r10.1), (k_api_Record.pd r10.2.1), (pBool r10.2.2)]))], [], [0, 1, 2], [22]⟩,
                ⟨[.op 3 0], [(26, (pStr r10.1))], [], [0, 1, 2, 3], [26]⟩,
                ⟨[.op 3 0], [(27, (k_api_Record.pd r10.2.1))], [], [0, 1, 2, 3], [27]⟩,
                ⟨[.op 3 0], [(28, (pBool r10.2.2))], [], [0, 1, 2, 3], [28]⟩,
                ⟨[], [(7, (pBox k_api_Record 7 (default : api_Record)))], [8], [], [7]⟩,
                ⟨[.op 4 0], [(6, (pStr r10.1))], [], [0, 1, 2, 3, 4, 7], [6]⟩,
                ⟨[.op 5 0, .op 7 0], [(7, (k_api_Record.ptr r10.2.1))], [8], [0, 1, 2, 3, 4, 5, 7, 8], [7]⟩,
                ⟨[.op 6 0], [(8, (pBool r10.2.2))], [], [0, 1, 2, 3, 4, 5, 6, 7, 8, 9], [8]⟩])
              (F := [.old 0, .old 1, .old 2, .op 8 0, .op 9 0, .old 3, .old 4]) (by kernel_rfl)
              (allOT_cons (OT.plain rfl (ob_load ty_28 rfl rfl Opd.t0))
                (allOT_cons (OT.plain rfl (ob_move rfl rfl Opd.t0))
                (allOT_cons (OT.plain rfl (ob_call en_16 (shelf_Shelf_At_ok _ _ h11) rfl rfl (.cons Opd.t0 (.cons (Opd.tl Opd.t0) .nil))))
                (allOT_cons (OT.plain rfl (ob_move rfl rfl Opd.t0))
                (allOT_cons (OT.plain rfl (ob_extract rfl rfl Opd.t0 rfl))
                (allOT_cons (OT.plain rfl (ob_extract rfl rfl Opd.t0 rfl))
                (allOT_cons (OT.plain rfl (ob_extract rfl rfl Opd.t0 rfl))
                (allOT_cons (OT.plain rfl (ob_alloc (zs := [.int .i64 0, .int .i64 0, .int .i64 0, .int .i64 0, .float .f64 0, .int .i64 0, .string ByteArray.empty, .slice none 0 0]) (by kernel_rfl) (fun g => zk_api_Record g) rfl rfl))
                (allOT_cons (OT.plain rfl (ob_assign rfl rfl Opd.t0))
                (allOT_cons (OT.plain rfl (ob_storeF ty_38 rfl rfl (Opd.tl Opd.t0) Opd.t0))
                (allOT_cons (OT.plain rfl (ob_assign rfl rfl Opd.t0))
                allOT_nil)))))))))))
              hst hb (fun a g hst hb => ?_)
          refine then_n ?_
          refine wp_seq ?_
          obtain ⟨r12, h13, H1⟩ := of_bind H1
          refine wp_reg follows (N := 46) (L := [(2, (k_shelf_Shelf.ptr a0)), (3, (k_shelf_Shelf.ptr a1)), (5, (pInt .i64 x8)), (6, (pStr r10.1)), (7, (k_api_Record.ptr r10.2.1)), (18, (pInt .i64 r6)), (19, (pInt .i64 x8))])
              (T := [⟨[.old 1], [(30, (k_shelf_Shelf.pd a1))], [], [], [30]⟩,
                ⟨[.old 2], [(31, (pInt .i64 x8))], [], [], [31]⟩,
                ⟨[.op 0 0, .op 1 0], [(32, (pTup [(pStr r12.1), (k_api_Record.pd r12.2.1), (pBool r12.2.2)]))], [], [0, 1], [32]⟩,
                ⟨[.op 2 0], [(29, (pTup [(pStr r12.1), (k_api_Record.pd r12.2.1), (pBool r12.2.2)]))], [], [0, 1, 2], [29]⟩,
                ⟨[.op 3 0], [(33, (pStr r12.1))], [], [0, 1, 2, 3], [33]⟩,
                ⟨[.op 3 0], [(34, (k_api_Record.pd r12.2.1))], [], [0, 1, 2, 3], [34]⟩,
                ⟨[.op 3 0], [(35, (pBool r12.2.2))], [], [0, 1, 2, 3], [35]⟩,
                ⟨[], [(10, (pBox k_api_Record 10 (default : api_Record)))], [11], [], [10]⟩,
                ⟨[.op 4 0], [(9, (pStr r12.1))], [], [0, 1, 2, 3, 4, 7], [9]⟩,
                ⟨[.op 5 0, .op 7 0], [(10, (k_api_Record.ptr r12.2.1))], [11], [0, 1, 2, 3, 4, 5, 7, 8], [10]⟩,
                ⟨[.op 6 0], [(11, (pBool r12.2.2))], [], [0, 1, 2, 3, 4, 5, 6, 7, 8, 9], [11]⟩])
              (F := [.old 0, .old 1, .old 3, .old 4, .op 8 0, .op 9 0, .old 5, .old 6]) (by kernel_rfl)
              (allOT_cons (OT.plain rfl (ob_load ty_28 rfl rfl Opd.t0))
                (allOT_cons (OT.plain rfl (ob_move rfl rfl Opd.t0))
                (allOT_cons (OT.plain rfl (ob_call en_16 (shelf_Shelf_At_ok _ _ h13) rfl rfl (.cons Opd.t0 (.cons (Opd.tl Opd.t0) .nil))))
                (allOT_cons (OT.plain rfl (ob_move rfl rfl Opd.t0))
                (allOT_cons (OT.plain rfl (ob_extract rfl rfl Opd.t0 rfl))
                (allOT_cons (OT.plain rfl (ob_extract rfl rfl Opd.t0 rfl))
                (allOT_cons (OT.plain rfl (ob_extract rfl rfl Opd.t0 rfl))
                (allOT_cons (OT.plain rfl (ob_alloc (zs := [.int .i64 0, .int .i64 0, .int .i64 0, .int .i64 0, .float .f64 0, .int .i64 0, .string ByteArray.empty, .slice none 0 0]) (by kernel_rfl) (fun g => zk_api_Record g) rfl rfl))
                (allOT_cons (OT.plain rfl (ob_assign rfl rfl Opd.t0))
                (allOT_cons (OT.plain rfl (ob_storeF ty_38 rfl rfl (Opd.tl Opd.t0) Opd.t0))
                (allOT_cons (OT.plain rfl (ob_assign rfl rfl Opd.t0))
                allOT_nil)))))))))))
              hst hb (fun a g hst hb => ?_)
          refine then_n ?_
          refine wp_seq ?_
          obtain ⟨r14, h15, H1⟩ := of_bind H1
          refine wp_reg follows (N := 46) (L := [(2, (k_shelf_Shelf.ptr a0)), (3, (k_shelf_Shelf.ptr a1)), (6, (pStr r10.1)), (7, (k_api_Record.ptr r10.2.1)), (9, (pStr r12.1)), (10, (k_api_Record.ptr r12.2.1)), (18, (pInt .i64 r6)), (19, (pInt .i64 x8))])
              (T := [⟨[.old 2], [(36, (pStr r10.1))], [], [], [36]⟩,
                ⟨[.old 4], [(37, (pStr r12.1))], [], [], [37]⟩,
                ⟨[.op 0 0, .op 1 0], [(38, (pBool (!sEq r10.1 r12.1)))], [], [0, 1], [38]⟩,
                ⟨[.op 2 0], [(39, (pBool (!sEq r10.1 r12.1)))], [], [0, 1, 2], [39]⟩,
                ⟨[.op 3 0, .old 3], [(40, (pIf (!(!sEq r10.1 r12.1)) (k_api_Record.pd r10.2.1)))], [], [0, 1, 2, 3], [40]⟩,
                ⟨[.op 3 0, .old 5], [(41, (pIf (!(!sEq r10.1 r12.1)) (k_api_Record.pd r12.2.1)))], [], [0, 1, 2, 3], [41]⟩,
                ⟨[.op 3 0, .op 4 0, .op 5 0], [(42, (pIf (!(!sEq r10.1 r12.1)) (pBool r14)))], [], [0, 1, 2, 3, 4, 5], [42]⟩,
                ⟨[.op 3 0, .op 6 0], [(43, (pIf (!(!sEq r10.1 r12.1)) (pBool (!r14))))], [], [0, 1, 2, 3, 4, 5, 6], [43]⟩,
                ⟨[.op 3 0, .op 7 0], [(44, (pBool ((!sEq r10.1 r12.1) || (!r14))))], [], [0, 1, 2, 3, 4, 5, 6, 7], [44]⟩])
              (F := [.old 0, .old 1, .old 6, .old 7, .op 8 0]) (by kernel_rfl)
              (allOT_cons (OT.plain rfl (ob_move rfl rfl Opd.t0))
                (allOT_cons (OT.plain rfl (ob_move rfl rfl Opd.t0))
                (allOT_cons (OT.plain rfl (ob_sne rfl rfl Opd.t0 (Opd.tl Opd.t0)))
                (allOT_cons (OT.plain rfl (ob_move rfl rfl Opd.t0))
                (allOT_cons (OT.guard (outs := [(40, (k_api_Record.pd r10.2.1))]) (!(!sEq r10.1 r12.1)) (gF (!sEq r10.1 r12.1)).1 (gF (!sEq r10.1 r12.1)).2 rfl rfl (fun e he => by rw [List.mem_singleton.1 he]) (fun hG => ob_load ty_38 rfl rfl Opd.t0))
                (allOT_cons (OT.guard (outs := [(41, (k_api_Record.pd r12.2.1))]) (!(!sEq r10.1 r12.1)) (gF (!sEq r10.1 r12.1)).1 (gF (!sEq r10.1 r12.1)).2 rfl rfl (fun e he => by rw [List.mem_singleton.1 he]) (fun hG => ob_load ty_38 rfl rfl Opd.t0))
                (allOT_cons (OT.guard (outs := [(42, (pBool r14))]) (!(!sEq r10.1 r12.1)) (gF (!sEq r10.1 r12.1)).1 (gF (!sEq r10.1 r12.1)).2 rfl rfl (fun e he => by rw [List.mem_singleton.1 he]) (fun hG => ob_call en_29 (rec_Same_ok _ _ (gd_true h15 hG)) rfl rfl (.cons (Opd.gd hG Opd.t0) (.cons (Opd.gd hG (Opd.tl Opd.t0)) .nil))))
                (allOT_cons (OT.guard (outs := [(43, (pBool (!r14)))]) (!(!sEq r10.1 r12.1)) (gF (!sEq r10.1 r12.1)).1 (gF (!sEq r10.1 r12.1)).2 rfl rfl (fun e he => by rw [List.mem_singleton.1 he]) (fun hG => ob_not rfl rfl (Opd.gd hG Opd.t0)))
                (allOT_cons (OT.plain rfl (ob_pick (q := (pBool ((!sEq r10.1 r12.1) || (!r14)))) rfl rfl Opd.t0 (fun hz => Opd.to (Opd.c (bool_q _)) (congrArg (fun t => (pBool t)) (pk_or_t hz))) (fun hz => Opd.to (Opd.gd (bNF hz) (Opd.tl Opd.t0)) (congrArg (fun t => (pBool t)) (pk_or_f hz)))))
                allOT_nil)))))))))
              hst hb (fun a g hst hb => ?_)
          refine then_n ?_
          refine wp_cond_split (hst.bool 4 rfl) (fun hc16 => ?_) (fun hc16 => ?_)
          · replace H1 := ite_t hc16 H1
            refine wp_seq ?_
            refine wp_reg follows (N := 46) (L := [])
                (T := [⟨[], [(4, (pBool false))], [], [], [4]⟩])
                (F := [.op 0 0]) (by kernel_rfl)
                (allOT_cons (OT.plain rfl (ob_assign rfl rfl (Opd.c (bool_q _))))
                  allOT_nil)
                (hst.pick [] rfl) hb (fun a g hst hb => ?_)
            refine then_n ?_
            refine wp_ret ?_
            refine inBlock_r ?_
            refine then_r ?_
            refine then_r ?_
            refine inBlock_r ?_
            refine then_r ?_
            refine then_r ?_
            obtain rfl := Option.some.inj H1
            obtain rfl := Option.some.inj H0
            exact endR1 rfl hst hb (res_tmp (s := 4)) (hst.at 0 rfl)
          · replace H1 := ite_f hc16 H1
            refine wp_skip ?_
            refine inBlock_n ?_
            refine then_n ?_
            refine wp_reg follows (N := 46) (L := [(2, (k_shelf_Shelf.ptr a0)), (3, (k_shelf_Shelf.ptr a1)), (18, (pInt .i64 r6)), (19, (pInt .i64 x8))])
                (T := [⟨[.old 3], [(45, (pInt .i64 (IntKind.i64.wrap (x8 + (1 : Int)))))], [], [], [45]⟩,
                  ⟨[.op 0 0], [(19, (pInt .i64 (IntKind.i64.wrap (x8 + (1 : Int)))))], [], [0], [19]⟩])
                (F := [.old 0, .old 1, .old 2, .op 1 0]) (by kernel_rfl)
                (allOT_cons (OT.plain rfl (ob_add rfl rfl Opd.t0 (Opd.c (int_q _ _)) rfl))
                  (allOT_cons (OT.plain rfl (ob_move rfl rfl Opd.t0))
                  allOT_nil))
                (hst.pick [0, 1, 2, 3] rfl) hb (fun a g hst hb => ?_)
            exact ⟨n, Nat.lt_succ_self _, (IntKind.i64.wrap (x8 + (1 : Int))), g, rfl, (hst.pick [0, 1, 2, 3] rfl), hb, H1⟩
        · replace H1 := ite_f hc9 H1
          refine wp_exit ?_
          refine then_e ?_
          refine then_e ?_
          refine inBlock_e ?_
          exact ⟨g, rfl, (hst.pick [] rfl), hb, Option.some.inj H1⟩
end Go.CL

set_option linter.unusedVariables false
set_option linter.unusedSimpArgs false
set_option maxRecDepth 100000
namespace Go.CL
open Go Go.RowKit Go.Proofs
theorem shelf_Shelf_Get_ok (a0 : shelf_Shelf) (a1 : ByteArray) {r : api_Record × Bool} (h : shelf_Shelf_Get a0 a1 = some r) : FnOk Try.prog 22 [(k_shelf_Shelf.pd a0), (pStr a1)] (pTup [(k_api_Record.pd r.1), (pBool r.2)]) := by
  have H0 := h
  unfold shelf_Shelf_Get at H0
  clear h
  refine fn_ok (N := 39) Try.func22 rfl rfl (Nat.le_of_ble_eq_true rfl) rfl rfl (fun a g0 hst hb => ?_)
  refine wp_seq ?_
  refine wp_reg follows (N := 39) (L := [(0, (k_shelf_Shelf.pd a0)), (1, (pStr a1))])
      (T := [⟨[.old 0], [(2, (k_shelf_Shelf.ptr a0))], [], [], [2]⟩,
        ⟨[], [(4, (pBox k_api_Record 4 (default : api_Record)))], [5], [], [4]⟩,
        ⟨[], [(5, (pBool false))], [], [], [5]⟩])
      (F := [.old 1, .op 0 0, .op 1 0]) (by kernel_rfl)
      (allOT_cons (OT.plain rfl (ob_box1 rfl rfl Opd.t0))
        (allOT_cons (OT.plain rfl (ob_alloc (zs := [.int .i64 0, .int .i64 0, .int .i64 0, .int .i64 0, .float .f64 0, .int .i64 0, .string ByteArray.empty, .slice none 0 0]) (by kernel_rfl) (fun g => zk_api_Record g) rfl rfl))
        (allOT_cons (OT.plain rfl (ob_assign rfl rfl (Opd.c (bool_q _))))
        allOT_nil)))
      hst hb (fun a g hst hb => ?_)
  refine then_n ?_
  refine wp_seq ?_
  refine wp_seq ?_
  refine wp_reg follows (N := 39) (L := [(1, (pStr a1)), (2, (k_shelf_Shelf.ptr a0)), (4, (pBox k_api_Record 4 (default : api_Record)))])
      (T := [⟨[.old 1], [(7, (k_shelf_nodeT.ptr a0.top))], [], [], [7]⟩,
        ⟨[.op 0 0], [(8, (k_shelf_nodeT.pd a0.top))], [], [0], [8]⟩,
        ⟨[.op 1 0], [(6, (k_shelf_nodeT.pd a0.top))], [], [0, 1], [6]⟩])
      (F := [.old 0, .old 2, .op 2 0]) (by kernel_rfl)
      (allOT_cons (OT.plain rfl (ob_fieldAddr fl_28_0 rfl rfl Opd.t0))
        (allOT_cons (OT.plain rfl (ob_load ty_26 rfl rfl Opd.t0))
        (allOT_cons (OT.plain rfl (ob_assign rfl rfl Opd.t0))
        allOT_nil)))
      hst hb (fun a g hst hb => ?_)
  refine then_n ?_
  obtain ⟨z12, hz1, H0⟩ := of_bind H0
  refine wp_cut (fun a w => ∃ (y11 : api_Record) (g : G), w = g.w ∧ St 39 [(4, (pBox k_api_Record 4 y11))] a g ∧ Base g0 g ∧ (.inr y11) = z12) ?_ ?_
  · rintro a w ⟨y11, g, rfl, hst, hb, rfl⟩
    refine then_n ?_
    refine wp_seq ?_
    refine wp_reg follows (N := 39) (L := [(4, (pBox k_api_Record 4 y11))])
        (T := [⟨[], [(38, (k_api_Record.pd ({ Kind := (0 : Int), Num := (0 : Int), Low := (0 : Int), High := (0 : Int), Real := (0 : Nat), Cap := (0 : Int), Text := ByteArray.empty, List := ([] : List api_Item) } : api_Record)))], [], [], [38]⟩,
          ⟨[.op 0 0, .old 0], [(4, (pBox k_api_Record 4 ({ Kind := (0 : Int), Num := (0 : Int), Low := (0 : Int), High := (0 : Int), Real := (0 : Nat), Cap := (0 : Int), Text := ByteArray.empty, List := ([] : List api_Item) } : api_Record)))], [5], [0], [4]⟩,
          ⟨[], [(5, (pBool false))], [], [0, 1], [5]⟩])
        (F := [.op 1 0, .op 2 0]) (by kernel_rfl)
        (allOT_cons (OT.plain rfl (bd_38_ rfl rfl ))
          (allOT_cons (OT.plain rfl (ob_store ty_38 rfl rfl (Opd.tl Opd.t0) Opd.t0))
          (allOT_cons (OT.plain rfl (ob_assign rfl rfl (Opd.c (bool_q _))))
          allOT_nil)))
        hst hb (fun a g hst hb => ?_)
    refine then_n ?_
    refine wp_ret ?_
    obtain rfl := Option.some.inj H0
    obtain ⟨u0, hu0, hq0⟩ := res_box (P := Try.prog) ty_38 (hst.at 0 rfl)
    exact endR2 rfl hst hb hu0 (res_tmp (s := 5)) (pTup_2 hq0 (hst.at 1 rfl))
  · refine wp_block ?_
    refine wp_loop_ghost (fun n a w => ∃ (x1 : api_Record) (x2 : shelf_nodeT) (g : G), w = g.w ∧ St 39 [(1, (pStr a1)), (4, (pBox k_api_Record 4 x1)), (6, (k_shelf_nodeT.pd x2))] a g ∧ Base g0 g ∧ shelf_Shelf_Get_l1 a1 n x1 x2 = some z12) (a0.top.hh + 1) ⟨(default : api_Record), a0.top, g, rfl, (hst.pick [0, 1, 2] rfl), hb, hz1⟩ (fun n a w hI => ?_)
    obtain ⟨x1, x2, g, rfl, hst, hb, H1⟩ := hI
    cases n with
    | zero => exact absurd H1 (by simp [shelf_Shelf_Get_l1])
    | succ n =>
      rw [shelf_Shelf_Get_l1] at H1
      refine wp_seq ?_
      refine wp_seq ?_
      refine wp_reg follows (N := 39) (L := [(1, (pStr a1)), (4, (pBox k_api_Record 4 x1)), (6, (k_shelf_nodeT.pd x2))])
          (T := [⟨[.old 2], [(9, (k_shelf_nodeT.pd x2))], [], [], [9]⟩,
            ⟨[.op 0 0], [(10, (pBool (!x2.isNil)))], [], [0], [10]⟩])
          (F := [.old 0, .old 1, .old 2, .op 1 0]) (by kernel_rfl)
          (allOT_cons (OT.plain rfl (ob_move rfl rfl Opd.t0))
            (allOT_cons (OT.plain rfl (ob_pne Try.underlying26 rfl rfl Opd.t0 (shelf_nodeT_isptr _)))
            allOT_nil))
          hst hb (fun a g hst hb => ?_)
      refine then_n ?_
      refine wp_cond_split (hst.bool 3 rfl) (fun hc3 => ?_) (fun hc3 => ?_)
      · replace H1 := ite_t hc3 H1
        refine wp_skip ?_
        refine then_n ?_
        refine wp_cut (fun a w => ∃ (j10 : shelf_nodeT) (g : G), w = g.w ∧ St 39 [(1, (pStr a1)), (4, (pBox k_api_Record 4 x1)), (6, (k_shelf_nodeT.pd j10))] a g ∧ Base g0 g ∧ shelf_Shelf_Get_j1 x1 (shelf_Shelf_Get_l1 a1 n) j10 = some z12) ?_ ?_
        · rintro a w ⟨j10, g, rfl, hst, hb, H1⟩
          unfold shelf_Shelf_Get_j1 at H1
          exact ⟨n, Nat.lt_succ_self _, x1, j10, g, rfl, (hst.pick [0, 1, 2] rfl), hb, H1⟩
        · refine wp_block ?_
          refine wp_block ?_
          refine wp_seq ?_
          obtain ⟨n4, h5, H1⟩ := of_bind H1
          refine wp_reg follows (N := 39) (L := [(1, (pStr a1)), (4, (pBox k_api_Record 4 x1)), (6, (k_shelf_nodeT.pd x2))])
              (T := [⟨[.old 0], [(17, (pStr a1))], [], [], [17]⟩,
                ⟨[.old 2], [(18, (k_shelf_nodeT.pd x2))], [], [], [18]⟩,
                ⟨[.op 1 0], [(19, (k_shelf_node.ptr n4))], [], [1], [19]⟩,
                ⟨[.op 2 0], [(20, (Kd.str.ptr n4.key))], [], [1, 2], [20]⟩,
                ⟨[.op 3 0], [(21, (pStr n4.key))], [], [1, 2, 3], [21]⟩,
                ⟨[.op 0 0, .op 4 0], [(22, (pBool (sLt a1 n4.key)))], [], [0, 1, 2, 3, 4], [22]⟩,
                ⟨[.op 5 0], [(16, (pBool (sLt a1 n4.key)))], [], [0, 1, 2, 3, 4, 5], [16]⟩])
              (F := [.old 0, .old 1, .old 2, .op 6 0]) (by kernel_rfl)
              (allOT_cons (OT.plain rfl (ob_move rfl rfl Opd.t0))
                (allOT_cons (OT.plain rfl (ob_move rfl rfl Opd.t0))
                (allOT_cons (OT.plain rfl (ob_nilCheck rfl rfl (Opd.imp Opd.t0 (fun _ _ h => shelf_nodeT_node h5 h)) (fun _ _ ⟨_, _, _, e, _⟩ => ⟨_, e⟩)))
                (allOT_cons (OT.plain rfl (ob_fieldAddr fl_75_0 rfl rfl Opd.t0))
                (allOT_cons (OT.plain rfl (ob_load ty_9 rfl rfl Opd.t0))
                (allOT_cons (OT.plain rfl (ob_slt rfl rfl Opd.t0 (Opd.tl Opd.t0)))
                (allOT_cons (OT.plain rfl (ob_assign rfl rfl Opd.t0))
                allOT_nil)))))))
              (hst.pick [0, 1, 2] rfl) hb (fun a g hst hb => ?_)
          refine then_n ?_
          refine wp_cond_split (hst.bool 3 rfl) (fun hc6 => ?_) (fun hc6 => ?_)
          · replace H1 := ite_t hc6 H1
            refine wp_reg follows (N := 39) (L := [(1, (pStr a1)), (4, (pBox k_api_Record 4 x1)), (6, (k_shelf_nodeT.pd x2))])
                (T := [⟨[.old 2], [(23, (k_shelf_nodeT.pd x2))], [], [], [23]⟩,
                  ⟨[.op 0 0], [(24, (k_shelf_node.ptr n4))], [], [0], [24]⟩,
                  ⟨[.op 1 0], [(25, (k_shelf_nodeT.ptr n4.left))], [], [0, 1], [25]⟩,
                  ⟨[.op 2 0], [(26, (k_shelf_nodeT.pd n4.left))], [], [0, 1, 2], [26]⟩,
                  ⟨[.op 3 0], [(6, (k_shelf_nodeT.pd n4.left))], [], [0, 1, 2, 3], [6]⟩])
                (F := [.old 0, .old 1, .op 4 0]) (by kernel_rfl)
                (allOT_cons (OT.plain rfl (ob_move rfl rfl Opd.t0))
                  (allOT_cons (OT.plain rfl (ob_nilCheck rfl rfl (Opd.imp Opd.t0 (fun _ _ h => shelf_nodeT_node h5 h)) (fun _ _ ⟨_, _, _, e, _⟩ => ⟨_, e⟩)))
                  (allOT_cons (OT.plain rfl (ob_fieldAddr fl_75_2 rfl rfl Opd.t0))
                  (allOT_cons (OT.plain rfl (ob_load ty_26 rfl rfl Opd.t0))
                  (allOT_cons (OT.plain rfl (ob_assign rfl rfl Opd.t0))
                  allOT_nil)))))
                (hst.pick [0, 1, 2] rfl) hb (fun a g hst hb => ?_)
            refine inBlock_n ?_
            refine inBlock_n ?_
            exact ⟨n4.left, g, rfl, (hst.pick [0, 1, 2] rfl), hb, H1⟩
          · replace H1 := ite_f hc6 H1
            refine wp_seq ?_
            refine wp_reg follows (N := 39) (L := [(1, (pStr a1)), (4, (pBox k_api_Record 4 x1)), (6, (k_shelf_nodeT.pd x2))])
                (T := [⟨[.old 0], [(28, (pStr a1))], [], [], [28]⟩,
                  ⟨[.old 2], [(29, (k_shelf_nodeT.pd x2))], [], [], [29]⟩,
                  ⟨[.op 1 0], [(30, (k_shelf_node.ptr n4))], [], [1], [30]⟩,
                  ⟨[.op 2 0], [(31, (Kd.str.ptr n4.key))], [], [1, 2], [31]⟩,
                  ⟨[.op 3 0], [(32, (pStr n4.key))], [], [1, 2, 3], [32]⟩,
                  ⟨[.op 0 0, .op 4 0], [(33, (pBool (!(sLt a1 n4.key || sEq a1 n4.key))))], [], [0, 1, 2, 3, 4], [33]⟩,
                  ⟨[.op 5 0], [(27, (pBool (!(sLt a1 n4.key || sEq a1 n4.key))))], [], [0, 1, 2, 3, 4, 5], [27]⟩])
                (F := [.old 0, .old 1, .old 2, .op 6 0]) (by kernel_rfl)
                (allOT_cons (OT.plain rfl (ob_move rfl rfl Opd.t0))
                  (allOT_cons (OT.plain rfl (ob_move rfl rfl Opd.t0))
                  (allOT_cons (OT.plain rfl (ob_nilCheck rfl rfl (Opd.imp Opd.t0 (fun _ _ h => shelf_nodeT_node h5 h)) (fun _ _ ⟨_, _, _, e, _⟩ => ⟨_, e⟩)))
                  (allOT_cons (OT.plain rfl (ob_fieldAddr fl_75_0 rfl rfl Opd.t0))
                  (allOT_cons (OT.plain rfl (ob_load ty_9 rfl rfl Opd.t0))
                  (allOT_cons (OT.plain rfl (ob_sgt rfl rfl Opd.t0 (Opd.tl Opd.t0)))
                  (allOT_cons (OT.plain rfl (ob_assign rfl rfl Opd.t0))
                  allOT_nil)))))))
                (hst.pick [0, 1, 2] rfl) hb (fun a g hst hb => ?_)
            refine then_n ?_
            refine wp_cond_split (hst.bool 3 rfl) (fun hc7 => ?_) (fun hc7 => ?_)
            · replace H1 := ite_t hc7 H1
              refine wp_reg follows (N := 39) (L := [(1, (pStr a1)), (4, (pBox k_api_Record 4 x1)), (6, (k_shelf_nodeT.pd x2))])
                  (T := [⟨[.old 2], [(34, (k_shelf_nodeT.pd x2))], [], [], [34]⟩,
                    ⟨[.op 0 0], [(35, (k_shelf_node.ptr n4))], [], [0], [35]⟩,
                    ⟨[.op 1 0], [(36, (k_shelf_nodeT.ptr n4.right))], [], [0, 1], [36]⟩,
                    ⟨[.op 2 0], [(37, (k_shelf_nodeT.pd n4.right))], [], [0, 1, 2], [37]⟩,
                    ⟨[.op 3 0], [(6, (k_shelf_nodeT.pd n4.right))], [], [0, 1, 2, 3], [6]⟩])
                  (F := [.old 0, .old 1, .op 4 0]) (by kernel_rfl)
                  (allOT_cons (OT.plain rfl (ob_move rfl rfl Opd.t0))
                    (allOT_cons (OT.plain rfl (ob_nilCheck rfl rfl (Opd.imp Opd.t0 (fun _ _ h => shelf_nodeT_node h5 h)) (fun _ _ ⟨_, _, _, e, _⟩ => ⟨_, e⟩)))
                    (allOT_cons (OT.plain rfl (ob_fieldAddr fl_75_3 rfl rfl Opd.t0))
                    (allOT_cons (OT.plain rfl (ob_load ty_26 rfl rfl Opd.t0))
                    (allOT_cons (OT.plain rfl (ob_assign rfl rfl Opd.t0))
                    allOT_nil)))))
                  (hst.pick [0, 1, 2] rfl) hb (fun a g hst hb => ?_)
              refine inBlock_n ?_
              refine inBlock_n ?_
              exact ⟨n4.right, g, rfl, (hst.pick [0, 1, 2] rfl), hb, H1⟩
            · replace H1 := ite_f hc7 H1
              refine wp_seq ?_
              obtain ⟨r8, h9, H1⟩ := of_bind H1
              refine wp_reg follows (N := 39) (L := [(4, (pBox k_api_Record 4 x1)), (6, (k_shelf_nodeT.pd x2))])
                  (T := [⟨[.old 1], [(11, (k_shelf_nodeT.pd x2))], [], [], [11]⟩,
                    ⟨[.op 0 0], [(12, (k_shelf_node.ptr n4))], [], [0], [12]⟩,
                    ⟨[.op 1 0], [(13, (k_api_Record.ptr n4.rec_))], [], [0, 1], [13]⟩,
                    ⟨[.op 2 0], [(14, (k_api_Record.pd n4.rec_))], [], [0, 1, 2], [14]⟩,
                    ⟨[.op 3 0], [(15, (k_api_Record.pd r8))], [], [0, 1, 2, 3], [15]⟩,
                    ⟨[.op 4 0, .old 0], [(4, (pBox k_api_Record 4 r8))], [5], [0, 1, 2, 3, 4], [4]⟩,
                    ⟨[], [(5, (pBool true))], [], [0, 1, 2, 3, 4, 5], [5]⟩])
                  (F := [.op 5 0, .op 6 0]) (by kernel_rfl)
                  (allOT_cons (OT.plain rfl (ob_move rfl rfl Opd.t0))
                    (allOT_cons (OT.plain rfl (ob_nilCheck rfl rfl (Opd.imp Opd.t0 (fun _ _ h => shelf_nodeT_node h5 h)) (fun _ _ ⟨_, _, _, e, _⟩ => ⟨_, e⟩)))
                    (allOT_cons (OT.plain rfl (ob_fieldAddr fl_75_1 rfl rfl Opd.t0))
                    (allOT_cons (OT.plain rfl (ob_load ty_38 rfl rfl Opd.t0))
                    (allOT_cons (OT.plain rfl (ob_call en_34 (rec_Clone_ok _ h9) rfl rfl (.cons Opd.t0 .nil)))
                    (allOT_cons (OT.plain rfl (ob_store ty_38 rfl rfl (Opd.tl Opd.t0) Opd.t0))
                    (allOT_cons (OT.plain rfl (ob_assign rfl rfl (Opd.c (bool_q _))))
                    allOT_nil)))))))
                  (hst.pick [1, 2] rfl) hb (fun a g hst hb => ?_)
              refine then_n ?_
              refine wp_ret ?_
              refine inBlock_r ?_
              refine inBlock_r ?_
              refine then_r ?_
              refine then_r ?_
              refine inBlock_r ?_
              refine then_r ?_
              refine then_r ?_
              obtain rfl := Option.some.inj H1
              obtain rfl := Option.some.inj H0
              obtain ⟨u0, hu0, hq0⟩ := res_box (P := Try.prog) ty_38 (hst.at 0 rfl)
              exact endR2 rfl hst hb hu0 (res_tmp (s := 5)) (pTup_2 hq0 (hst.at 1 rfl))
      · replace H1 := ite_f hc3 H1
        refine wp_exit ?_
        refine then_e ?_
        refine then_e ?_
        refine inBlock_e ?_
        exact ⟨x1, g, rfl, (hst.pick [1] rfl), hb, Option.some.inj H1⟩
end Go.CL

set_option linter.unusedVariables false
set_option linter.unusedSimpArgs false
set_option maxRecDepth 100000
namespace Go.CL
open Go Go.RowKit Go.Proofs
theorem rec_shaped_ok (a0 : Int) {r : rec_shape} (h : rec_shaped a0 = some r) : FnOk Try.prog 47 [(pInt .i64 a0)] (k_rec_shape.pd r) := by
  have H0 := h
  unfold rec_shaped at H0
  clear h
  refine fn_ok (N := 24) Try.func47 rfl rfl (Nat.le_of_ble_eq_true rfl) rfl rfl (fun a g0 hst hb => ?_)
  refine wp_seq ?_
  refine wp_reg follows (N := 24) (L := [(0, (pInt .i64 a0))])
      (T := [⟨[], [(2, (pBox k_rec_shape 2 (default : rec_shape)))], [3], [], [2]⟩])
      (F := [.old 0, .op 0 0]) (by kernel_rfl)
      (allOT_cons (OT.plain rfl (ob_alloc (zs := [.bool false, .bool false, .bool false, .bool false, .bool false]) (by kernel_rfl) (fun g => zk_rec_shape g) rfl rfl))
        allOT_nil)
      hst hb (fun a g hst hb => ?_)
  refine then_n ?_
  refine wp_seq ?_
  refine wp_seq ?_
  refine wp_reg follows (N := 24) (L := [(0, (pInt .i64 a0)), (2, (pBox k_rec_shape 2 (default : rec_shape)))])
      (T := [⟨[.old 0], [(3, (pInt .i64 a0))], [], [], [3]⟩])
      (F := [.old 1, .op 0 0]) (by kernel_rfl)
      (allOT_cons (OT.plain rfl (ob_move rfl rfl Opd.t0))
        allOT_nil)
      hst hb (fun a g hst hb => ?_)
  refine then_n ?_
  refine wp_block ?_
  refine wp_seq ?_
  refine wp_reg follows (N := 24) (L := [(2, (pBox k_rec_shape 2 (default : rec_shape))), (3, (pInt .i64 a0))])
      (T := [⟨[.old 1], [(5, (pBool (a0 == (1 : Int))))], [], [], [5]⟩,
        ⟨[.op 0 0], [(4, (pBool (a0 == (1 : Int))))], [], [0], [4]⟩])
      (F := [.old 0, .old 1, .op 1 0]) (by kernel_rfl)
      (allOT_cons (OT.plain rfl (ob_eq rfl rfl Opd.t0 (Opd.c (int_q _ _))))
        (allOT_cons (OT.plain rfl (ob_assign rfl rfl Opd.t0))
        allOT_nil))
      hst hb (fun a g hst hb => ?_)
  refine then_n ?_
  refine wp_cond_split (hst.bool 2 rfl) (fun hc1 => ?_) (fun hc1 => ?_)
  · replace H0 := ite_t hc1 H0
    refine wp_seq ?_
    refine wp_reg follows (N := 24) (L := [(2, (pBox k_rec_shape 2 (default : rec_shape)))])
        (T := [⟨[], [(6, (k_rec_shape.pd ({ text := true, num := false, bounds := false, real := false, list := false } : rec_shape)))], [], [], [6]⟩,
          ⟨[.op 0 0, .old 0], [(2, (pBox k_rec_shape 2 ({ text := true, num := false, bounds := false, real := false, list := false } : rec_shape)))], [3], [0], [2]⟩])
        (F := [.op 1 0]) (by kernel_rfl)
        (allOT_cons (OT.plain rfl (bd_89_0 rfl rfl (Opd.c (bool_q _))))
          (allOT_cons (OT.plain rfl (ob_store ty_89 rfl rfl (Opd.tl Opd.t0) Opd.t0))
          allOT_nil))
        (hst.pick [0] rfl) hb (fun a g hst hb => ?_)
    refine then_n ?_
    refine wp_ret ?_
    refine inBlock_r ?_
    refine then_r ?_
    obtain rfl := Option.some.inj H0
    obtain ⟨u0, hu0, hq0⟩ := res_box (P := Try.prog) ty_89 (hst.at 0 rfl)
    exact endR1 rfl hst hb hu0 hq0
  · replace H0 := ite_f hc1 H0
    refine wp_seq ?_
    refine wp_seq ?_
    refine wp_reg follows (N := 24) (L := [(2, (pBox k_rec_shape 2 (default : rec_shape))), (3, (pInt .i64 a0))])
        (T := [⟨[.old 1], [(8, (pBool (a0 == (2 : Int))))], [], [], [8]⟩,
          ⟨[.op 0 0], [(7, (pBool (a0 == (2 : Int))))], [], [0], [7]⟩])
        (F := [.old 0, .old 1, .op 1 0]) (by kernel_rfl)
        (allOT_cons (OT.plain rfl (ob_eq rfl rfl Opd.t0 (Opd.c (int_q _ _))))
          (allOT_cons (OT.plain rfl (ob_assign rfl rfl Opd.t0))
          allOT_nil))
        (hst.pick [0, 1] rfl) hb (fun a g hst hb => ?_)
    refine then_n ?_
    refine wp_cut (fun a w => ∃ (j3 : Bool) (g : G), w = g.w ∧ St 24 [(2, (pBox k_rec_shape 2 (default : rec_shape))), (3, (pInt .i64 a0)), (7, (pBool j3))] a g ∧ Base g0 g ∧ rec_shaped_j1 a0 j3 = some r) ?_ ?_
    · rintro a w ⟨j3, g, rfl, hst, hb, H0⟩
      unfold rec_shaped_j1 at H0
      refine then_n ?_
      refine wp_cond_split (hst.bool 2 rfl) (fun hc4 => ?_) (fun hc4 => ?_)
      · replace H0 := ite_t hc4 H0
        refine wp_seq ?_
        refine wp_reg follows (N := 24) (L := [(2, (pBox k_rec_shape 2 (default : rec_shape)))])
            (T := [⟨[], [(10, (k_rec_shape.pd ({ text := false, num := true, bounds := false, real := false, list := false } : rec_shape)))], [], [], [10]⟩,
              ⟨[.op 0 0, .old 0], [(2, (pBox k_rec_shape 2 ({ text := false, num := true, bounds := false, real := false, list := false } : rec_shape)))], [3], [0], [2]⟩])
            (F := [.op 1 0]) (by kernel_rfl)
            (allOT_cons (OT.plain rfl (bd_89_1 rfl rfl (Opd.c (bool_q _))))
              (allOT_cons (OT.plain rfl (ob_store ty_89 rfl rfl (Opd.tl Opd.t0) Opd.t0))
              allOT_nil))
            (hst.pick [0] rfl) hb (fun a g hst hb => ?_)
        refine then_n ?_
        refine wp_ret ?_
        refine inBlock_r ?_
        refine then_r ?_
        obtain rfl := Option.some.inj H0
        obtain ⟨u0, hu0, hq0⟩ := res_box (P := Try.prog) ty_89 (hst.at 0 rfl)
        exact endR1 rfl hst hb hu0 hq0
      · replace H0 := ite_f hc4 H0
        refine wp_seq ?_
        refine wp_reg follows (N := 24) (L := [(2, (pBox k_rec_shape 2 (default : rec_shape))), (3, (pInt .i64 a0))])
            (T := [⟨[.old 1], [(12, (pBool (a0 == (4 : Int))))], [], [], [12]⟩,
              ⟨[.op 0 0], [(11, (pBool (a0 == (4 : Int))))], [], [0], [11]⟩])
            (F := [.old 0, .old 1, .op 1 0]) (by kernel_rfl)
            (allOT_cons (OT.plain rfl (ob_eq rfl rfl Opd.t0 (Opd.c (int_q _ _))))
              (allOT_cons (OT.plain rfl (ob_assign rfl rfl Opd.t0))
              allOT_nil))
            (hst.pick [0, 1] rfl) hb (fun a g hst hb => ?_)
        refine then_n ?_
        refine wp_cond_split (hst.bool 2 rfl) (fun hc5 => ?_) (fun hc5 => ?_)
        · replace H0 := ite_t hc5 H0
          refine wp_seq ?_
          refine wp_reg follows (N := 24) (L := [(2, (pBox k_rec_shape 2 (default : rec_shape)))])
              (T := [⟨[], [(13, (k_rec_shape.pd ({ text := false, num := true, bounds := true, real := false, list := false } : rec_shape)))], [], [], [13]⟩,
                ⟨[.op 0 0, .old 0], [(2, (pBox k_rec_shape 2 ({ text := false, num := true, bounds := true, real := false, list := false } : rec_shape)))], [3], [0], [2]⟩])
              (F := [.op 1 0]) (by kernel_rfl)
              (allOT_cons (OT.plain rfl (bd_89_1_2 rfl rfl (Opd.c (bool_q _)) (Opd.c (bool_q _))))
                (allOT_cons (OT.plain rfl (ob_store ty_89 rfl rfl (Opd.tl Opd.t0) Opd.t0))
                allOT_nil))
              (hst.pick [0] rfl) hb (fun a g hst hb => ?_)
          refine then_n ?_
          refine wp_ret ?_
          refine inBlock_r ?_
          refine then_r ?_
          obtain rfl := Option.some.inj H0
          obtain ⟨u0, hu0, hq0⟩ := res_box (P := Try.prog) ty_89 (hst.at 0 rfl)
          exact endR1 rfl hst hb hu0 hq0
        · replace H0 := ite_f hc5 H0
          refine wp_seq ?_
          refine wp_seq ?_
          refine wp_reg follows (N := 24) (L := [(2, (pBox k_rec_shape 2 (default : rec_shape))), (3, (pInt .i64 a0))])
              (T := [⟨[.old 1], [(15, (pBool (a0 == (5 : Int))))], [], [], [15]⟩,
                ⟨[.op 0 0], [(14, (pBool (a0 == (5 : Int))))], [], [0], [14]⟩])
              (F := [.old 0, .old 1, .op 1 0]) (by kernel_rfl)
              (allOT_cons (OT.plain rfl (ob_eq rfl rfl Opd.t0 (Opd.c (int_q _ _))))
                (allOT_cons (OT.plain rfl (ob_assign rfl rfl Opd.t0))
                allOT_nil))
              (hst.pick [0, 1] rfl) hb (fun a g hst hb => ?_)
          refine then_n ?_
          refine wp_cut (fun a w => ∃ (j8 : Bool) (g : G), w = g.w ∧ St 24 [(2, (pBox k_rec_shape 2 (default : rec_shape))), (3, (pInt .i64 a0)), (14, (pBool j8))] a g ∧ Base g0 g ∧ rec_shaped_j2 a0 j8 = some r) ?_ ?_
          · rintro a w ⟨j8, g, rfl, hst, hb, H0⟩
            unfold rec_shaped_j2 at H0
            refine then_n ?_
            refine wp_cond_split (hst.bool 2 rfl) (fun hc9 => ?_) (fun hc9 => ?_)
            · replace H0 := ite_t hc9 H0
              refine wp_seq ?_
              refine wp_reg follows (N := 24) (L := [(2, (pBox k_rec_shape 2 (default : rec_shape)))])
                  (T := [⟨[], [(18, (k_rec_shape.pd ({ text := false, num := false, bounds := false, real := true, list := false } : rec_shape)))], [], [], [18]⟩,
                    ⟨[.op 0 0, .old 0], [(2, (pBox k_rec_shape 2 ({ text := false, num := false, bounds := false, real := true, list := false } : rec_shape)))], [3], [0], [2]⟩])
                  (F := [.op 1 0]) (by kernel_rfl)
                  (allOT_cons (OT.plain rfl (bd_89_3 rfl rfl (Opd.c (bool_q _))))
                    (allOT_cons (OT.plain rfl (ob_store ty_89 rfl rfl (Opd.tl Opd.t0) Opd.t0))
                    allOT_nil))
                  (hst.pick [0] rfl) hb (fun a g hst hb => ?_)
              refine then_n ?_
              refine wp_ret ?_
              refine inBlock_r ?_
              refine then_r ?_
              obtain rfl := Option.some.inj H0
              obtain ⟨u0, hu0, hq0⟩ := res_box (P := Try.prog) ty_89 (hst.at 0 rfl)
              exact endR1 rfl hst hb hu0 hq0
            · replace H0 := ite_f hc9 H0
              refine wp_seq ?_
              refine wp_seq ?_
              refine wp_reg follows (N := 24) (L := [(2, (pBox k_rec_shape 2 (default : rec_shape))), (3, (pInt .i64 a0))])
                  (T := [⟨[.old 1], [(20, (pBool (a0 == (8 : Int))))], [], [], [20]⟩,
                    ⟨[.op 0 0], [(19, (pBool (a0 == (8 : Int))))], [], [0], [19]⟩])
                  (F := [.old 0, .old 1, .op 1 0]) (by kernel_rfl)
                  (allOT_cons (OT.plain rfl (ob_eq rfl rfl Opd.t0 (Opd.c (int_q _ _))))
                    (allOT_cons (OT.plain rfl (ob_assign rfl rfl Opd.t0))
                    allOT_nil))
                  (hst.pick [0, 1] rfl) hb (fun a g hst hb => ?_)
              refine then_n ?_
              refine wp_cut (fun a w => ∃ (j11 : Bool) (g : G), w = g.w ∧ St 24 [(2, (pBox k_rec_shape 2 (default : rec_shape))), (19, (pBool j11))] a g ∧ Base g0 g ∧ rec_shaped_j3 j11 = some r) ?_ ?_
              · rintro a w ⟨j11, g, rfl, hst, hb, H0⟩
                unfold rec_shaped_j3 at H0
                refine then_n ?_
                refine wp_cond_split (hst.bool 1 rfl) (fun hc12 => ?_) (fun hc12 => ?_)
                · replace H0 := ite_t hc12 H0
                  refine wp_seq ?_
                  refine wp_reg follows (N := 24) (L := [(2, (pBox k_rec_shape 2 (default : rec_shape)))])
                      (T := [⟨[], [(22, (k_rec_shape.pd ({ text := false, num := false, bounds := false, real := false, list := true } : rec_shape)))], [], [], [22]⟩,
                        ⟨[.op 0 0, .old 0], [(2, (pBox k_rec_shape 2 ({ text := false, num := false, bounds := false, real := false, list := true } : rec_shape)))], [3], [0], [2]⟩])
                      (F := [.op 1 0]) (by kernel_rfl)
                      (allOT_cons (OT.plain rfl (bd_89_4 rfl rfl (Opd.c (bool_q _))))
                        (allOT_cons (OT.plain rfl (ob_store ty_89 rfl rfl (Opd.tl Opd.t0) Opd.t0))
                        allOT_nil))
                      (hst.pick [0] rfl) hb (fun a g hst hb => ?_)
                  refine then_n ?_
                  refine wp_ret ?_
                  refine inBlock_r ?_
                  refine then_r ?_
                  obtain rfl := Option.some.inj H0
                  obtain ⟨u0, hu0, hq0⟩ := res_box (P := Try.prog) ty_89 (hst.at 0 rfl)
                  exact endR1 rfl hst hb hu0 hq0
                · replace H0 := ite_f hc12 H0
                  refine wp_skip ?_
                  refine inBlock_n ?_
                  refine then_n ?_
                  refine wp_seq ?_
                  refine wp_reg follows (N := 24) (L := [(2, (pBox k_rec_shape 2 (default : rec_shape)))])
                      (T := [⟨[], [(23, (k_rec_shape.pd ({ text := false, num := false, bounds := false, real := false, list := false } : rec_shape)))], [], [], [23]⟩,
                        ⟨[.op 0 0, .old 0], [(2, (pBox k_rec_shape 2 ({ text := false, num := false, bounds := false, real := false, list := false } : rec_shape)))], [3], [0], [2]⟩])
                      (F := [.op 1 0]) (by kernel_rfl)
                      (allOT_cons (OT.plain rfl (bd_89_ rfl rfl ))
                        (allOT_cons (OT.plain rfl (ob_store ty_89 rfl rfl (Opd.tl Opd.t0) Opd.t0))
                        allOT_nil))
                      (hst.pick [0] rfl) hb (fun a g hst hb => ?_)
                  refine then_n ?_
                  refine wp_ret ?_
                  obtain rfl := Option.some.inj H0
                  obtain ⟨u0, hu0, hq0⟩ := res_box (P := Try.prog) ty_89 (hst.at 0 rfl)
                  exact endR1 rfl hst hb hu0 hq0
              · refine wp_cond_split (hst.bool 2 rfl) (fun hc10 => ?_) (fun hc10 => ?_)
                · replace H0 := ite_t hc10 H0
                  refine wp_skip ?_
                  exact ⟨(a0 == (8 : Int)), g, rfl, (hst.pick [0, 2] rfl), hb, H0⟩
                · replace H0 := ite_f hc10 H0
                  refine wp_reg follows (N := 24) (L := [(2, (pBox k_rec_shape 2 (default : rec_shape))), (3, (pInt .i64 a0))])
                      (T := [⟨[.old 1], [(21, (pBool (a0 == (9 : Int))))], [], [], [21]⟩,
                        ⟨[.op 0 0], [(19, (pBool (a0 == (9 : Int))))], [], [0], [19]⟩])
                      (F := [.old 0, .op 1 0]) (by kernel_rfl)
                      (allOT_cons (OT.plain rfl (ob_eq rfl rfl Opd.t0 (Opd.c (int_q _ _))))
                        (allOT_cons (OT.plain rfl (ob_assign rfl rfl Opd.t0))
                        allOT_nil))
                      (hst.pick [0, 1] rfl) hb (fun a g hst hb => ?_)
                  exact ⟨(a0 == (9 : Int)), g, rfl, (hst.pick [0, 1] rfl), hb, H0⟩
          · refine wp_cond_split (hst.bool 2 rfl) (fun hc6 => ?_) (fun hc6 => ?_)
            · replace H0 := ite_t hc6 H0
              refine wp_skip ?_
              exact ⟨(a0 == (5 : Int)), g, rfl, (hst.pick [0, 1, 2] rfl), hb, H0⟩
            · replace H0 := ite_f hc6 H0
              refine wp_seq ?_
              refine wp_reg follows (N := 24) (L := [(2, (pBox k_rec_shape 2 (default : rec_shape))), (3, (pInt .i64 a0))])
                  (T := [⟨[.old 1], [(16, (pBool (a0 == (6 : Int))))], [], [], [16]⟩,
                    ⟨[.op 0 0], [(14, (pBool (a0 == (6 : Int))))], [], [0], [14]⟩])
                  (F := [.old 0, .old 1, .op 1 0]) (by kernel_rfl)
                  (allOT_cons (OT.plain rfl (ob_eq rfl rfl Opd.t0 (Opd.c (int_q _ _))))
                    (allOT_cons (OT.plain rfl (ob_assign rfl rfl Opd.t0))
                    allOT_nil))
                  (hst.pick [0, 1] rfl) hb (fun a g hst hb => ?_)
              refine then_n ?_
              refine wp_cond_split (hst.bool 2 rfl) (fun hc7 => ?_) (fun hc7 => ?_)
              · replace H0 := ite_t hc7 H0
                refine wp_skip ?_
                exact ⟨(a0 == (6 : Int)), g, rfl, (hst.pick [0, 1, 2] rfl), hb, H0⟩
              · replace H0 := ite_f hc7 H0
                refine wp_reg follows (N := 24) (L := [(2, (pBox k_rec_shape 2 (default : rec_shape))), (3, (pInt .i64 a0))])
                    (T := [⟨[.old 1], [(17, (pBool (a0 == (7 : Int))))], [], [], [17]⟩,
                      ⟨[.op 0 0], [(14, (pBool (a0 == (7 : Int))))], [], [0], [14]⟩])
                    (F := [.old 0, .old 1, .op 1 0]) (by kernel_rfl)
                    (allOT_cons (OT.plain rfl (ob_eq rfl rfl Opd.t0 (Opd.c (int_q _ _))))
                      (allOT_cons (OT.plain rfl (ob_assign rfl rfl Opd.t0))
                      allOT_nil))
                    (hst.pick [0, 1] rfl) hb (fun a g hst hb => ?_)
                exact ⟨(a0 == (7 : Int)), g, rfl, (hst.pick [0, 1, 2] rfl), hb, H0⟩
    · refine wp_cond_split (hst.bool 2 rfl) (fun hc2 => ?_) (fun hc2 => ?_)
      · replace H0 := ite_t hc2 H0
        refine wp_skip ?_
        exact ⟨(a0 == (2 : Int)), g, rfl, (hst.pick [0, 1, 2] rfl), hb, H0⟩
      · replace H0 := ite_f hc2 H0
        refine wp_reg follows (N := 24) (L := [(2, (pBox k_rec_shape 2 (default : rec_shape))), (3, (pInt .i64 a0))])
            (T := [⟨[.old 1], [(9, (pBool (a0 == (3 : Int))))], [], [], [9]⟩,
              ⟨[.op 0 0], [(7, (pBool (a0 == (3 : Int))))], [], [0], [7]⟩])
            (F := [.old 0, .old 1, .op 1 0]) (by kernel_rfl)
            (allOT_cons (OT.plain rfl (ob_eq rfl rfl Opd.t0 (Opd.c (int_q _ _))))
              (allOT_cons (OT.plain rfl (ob_assign rfl rfl Opd.t0))
              allOT_nil))
            (hst.pick [0, 1] rfl) hb (fun a g hst hb => ?_)
        exact ⟨(a0 == (3 : Int)), g, rfl, (hst.pick [0, 1, 2] rfl), hb, H0⟩
end Go.CL

set_option linter.unusedVariables false
set_option linter.unusedSimpArgs false
set_option maxRecDepth 100000
namespace Go.CL
open Go Go.RowKit Go.Proofs
theorem rec_bare_ok (a0 : api_Record) (a1 : rec_shape) {r : Bool} (h : rec_bare a0 a1 = some r) : FnOk Try.prog 48 [(k_api_Record.pd a0), (k_rec_shape.pd a1)] (pBool r) := by
  have H0 := h
  unfold rec_bare at H0
  clear h
  refine fn_ok (N := 59) Try.func48 rfl rfl (Nat.le_of_ble_eq_true rfl) rfl rfl (fun a g0 hst hb => ?_)
  refine wp_seq ?_
  refine wp_reg follows (N := 59) (L := [(0, (k_api_Record.pd a0)), (1, (k_rec_shape.pd a1))])
      (T := [⟨[.old 0], [(2, (k_api_Record.ptr a0))], [], [], [2]⟩,
        ⟨[.old 1], [(3, (k_rec_shape.ptr a1))], [], [], [3]⟩,
        ⟨[], [(4, (pBool false))], [], [], [4]⟩])
      (F := [.op 0 0, .op 1 0]) (by kernel_rfl)
      (allOT_cons (OT.plain rfl (ob_box1 rfl rfl Opd.t0))
        (allOT_cons (OT.plain rfl (ob_box1 rfl rfl Opd.t0))
        (allOT_cons (OT.plain rfl (ob_assign rfl rfl (Opd.c (bool_q _))))
        allOT_nil)))
      hst hb (fun a g hst hb => ?_)
  refine then_n ?_
  refine wp_seq ?_
  obtain ⟨r1, h2, H0⟩ := of_bind H0
  refine wp_reg follows (N := 59) (L := [(2, (k_api_Record.ptr a0)), (3, (k_rec_shape.ptr a1))])
      (T := [⟨[.old 1], [(5, (Kd.bool.ptr a1.text))], [], [], [5]⟩,
        ⟨[.op 0 0], [(6, (pBool a1.text))], [], [0], [6]⟩,
        ⟨[.op 1 0], [(7, (pBool a1.text))], [], [0, 1], [7]⟩,
        ⟨[.op 2 0, .old 0], [(8, (pIf (!a1.text) (Kd.str.ptr a0.Text)))], [], [0, 1, 2], [8]⟩,
        ⟨[.op 2 0, .op 3 0], [(9, (pIf (!a1.text) (pStr a0.Text)))], [], [0, 1, 2, 3], [9]⟩,
        ⟨[.op 2 0, .op 4 0], [(10, (pIf (!a1.text) (pBool (sEq a0.Text (⟨#[]⟩ : ByteArray)))))], [], [0, 1, 2, 3, 4], [10]⟩,
        ⟨[.op 2 0, .op 5 0], [(11, (pBool (a1.text || (sEq a0.Text (⟨#[]⟩ : ByteArray)))))], [], [0, 1, 2, 3, 4, 5], [11]⟩,
        ⟨[.op 6 0], [(12, (pBool (a1.text || (sEq a0.Text (⟨#[]⟩ : ByteArray)))))], [], [0, 1, 2, 3, 4, 5, 6], [12]⟩,
        ⟨[.op 7 0, .old 1], [(13, (pIf (a1.text || (sEq a0.Text (⟨#[]⟩ : ByteArray))) (Kd.bool.ptr a1.num)))], [], [0, 1, 2, 3, 4, 5, 6, 7], [13]⟩,
        ⟨[.op 7 0, .op 8 0], [(14, (pIf (a1.text || (sEq a0.Text (⟨#[]⟩ : ByteArray))) (pBool a1.num)))], [], [0, 1, 2, 3, 4, 5, 6, 7, 8], [14]⟩,
        ⟨[.op 7 0, .op 9 0], [(15, (pIf (a1.text || (sEq a0.Text (⟨#[]⟩ : ByteArray))) (pBool a1.num)))], [], [0, 1, 2, 3, 4, 5, 6, 7, 8, 9], [15]⟩,
        ⟨[.op 10 0, .old 0], [(16, (pIf ((a1.text || (sEq a0.Text (⟨#[]⟩ : ByteArray))) && (!a1.num)) ((Kd.int .i64).ptr a0.Num)))], [], [0, 1, 2, 3, 4, 5, 6, 7, 8, 9, 10], [16]⟩,
        ⟨[.op 10 0, .op 11 0], [(17, (pIf ((a1.text || (sEq a0.Text (⟨#[]⟩ : ByteArray))) && (!a1.num)) (pInt .i64 a0.Num)))], [], [0, 1, 2, 3, 4, 5, 6, 7, 8, 9, 10, 11], [17]⟩,
        ⟨[.op 10 0, .op 12 0], [(18, (pIf ((a1.text || (sEq a0.Text (⟨#[]⟩ : ByteArray))) && (!a1.num)) (pBool (a0.Num == (0 : Int)))))], [], [0, 1, 2, 3, 4, 5, 6, 7, 8, 9, 10, 11, 12], [18]⟩,
        ⟨[.op 7 0, .op 10 0, .op 13 0], [(19, (pIf (a1.text || (sEq a0.Text (⟨#[]⟩ : ByteArray))) (pBool (a1.num || (a0.Num == (0 : Int))))))], [], [0, 1, 2, 3, 4, 5, 6, 7, 8, 9, 10, 11, 12, 13], [19]⟩,
        ⟨[.op 7 0, .op 14 0], [(20, (pBool ((a1.text || (sEq a0.Text (⟨#[]⟩ : ByteArray))) && (a1.num || (a0.Num == (0 : Int))))))], [], [0, 1, 2, 3, 4, 5, 6, 7, 8, 9, 10, 11, 12, 13, 14], [20]⟩,
        ⟨[.op 15 0], [(21, (pBool ((a1.text || (sEq a0.Text (⟨#[]⟩ : ByteArray))) && (a1.num || (a0.Num == (0 : Int))))))], [], [0, 1, 2, 3, 4, 5, 6, 7, 8, 9, 10, 11, 12, 13, 14, 15], [21]⟩,
        ⟨[.op 16 0, .old 1], [(22, (pIf ((a1.text || (sEq a0.Text (⟨#[]⟩ : ByteArray))) && (a1.num || (a0.Num == (0 : Int)))) (Kd.bool.ptr a1.bounds)))], [], [0, 1, 2, 3, 4, 5, 6, 7, 8, 9, 10, 11, 12, 13, 14, 15, 16], [22]⟩,
        ⟨[.op 16 0, .op 17 0], [(23, (pIf ((a1.text || (sEq a0.Text (⟨#[]⟩ : ByteArray))) && (a1.num || (a0.Num == (0 : Int)))) (pBool a1.bounds)))], [], [0, 1, 2, 3, 4, 5, 6, 7, 8, 9, 10, 11, 12, 13, 14, 15, 16, 17], [23]⟩,
        ⟨[.op 16 0, .op 18 0], [(24, (pIf ((a1.text || (sEq a0.Text (⟨#[]⟩ : ByteArray))) && (a1.num || (a0.Num == (0 : Int)))) (pBool a1.bounds)))], [], [0, 1, 2, 3, 4, 5, 6, 7, 8, 9, 10, 11, 12, 13, 14, 15, 16, 17, 18], [24]⟩,
        ⟨[.op 19 0, .old 0], [(25, (pIf (((a1.text || (sEq a0.Text (⟨#[]⟩ : ByteArray))) && (a1.num || (a0.Num == (0 : Int)))) && (!a1.bounds)) ((Kd.int .i64).ptr a0.Low)))], [], [0, 1, 2, 3, 4, 5, 6, 7, 8, 9, 10, 11, 12, 13, 14, 15, 16, 17, 18, 19], [25]⟩,
        ⟨[.op 19 0, .op 20 0], [(26, (pIf (((a1.text || (sEq a0.Text (⟨#[]⟩ : ByteArray))) && (a1.num || (a0.Num == (0 : Int)))) && (!a1.bounds)) (pInt .i64 a0.Low)))], [], [0, 1, 2, 3, 4, 5, 6, 7, 8, 9, 10, 11, 12, 13, 14, 15, 16, 17, 18, 19, 20], [26]⟩,
        ⟨[.op 19 0, .op 21 0], [(27, (pIf (((a1.text || (sEq a0.Text (⟨#[]⟩ : ByteArray))) && (a1.num || (a0.Num == (0 : Int)))) && (!a1.bounds)) (pBool (a0.Low == (0 : Int)))))], [], [0, 1, 2, 3, 4, 5, 6, 7, 8, 9, 10, 11, 12, 13, 14, 15, 16, 17, 18, 19, 20, 21], [27]⟩,
        ⟨[.op 19 0, .op 22 0], [(28, (pIf (((a1.text || (sEq a0.Text (⟨#[]⟩ : ByteArray))) && (a1.num || (a0.Num == (0 : Int)))) && (!a1.bounds)) (pBool (a0.Low == (0 : Int)))))], [], [0, 1, 2, 3, 4, 5, 6, 7, 8, 9, 10, 11, 12, 13, 14, 15, 16, 17, 18, 19, 20, 21, 22], [28]⟩,
        ⟨[.op 23 0, .old 0], [(29, (pIf ((((a1.text || (sEq a0.Text (⟨#[]⟩ : ByteArray))) && (a1.num || (a0.Num == (0 : Int)))) && (!a1.bounds)) && (a0.Low == (0 : Int))) ((Kd.int .i64).ptr a0.High)))], [], [0, 1, 2, 3, 4, 5, 6, 7, 8, 9, 10, 11, 12, 13, 14, 15, 16, 17, 18, 19, 20, 21, 22, 23], [29]⟩,
        ⟨[.op 23 0, .op 24 0], [(30, (pIf ((((a1.text || (sEq a0.Text (⟨#[]⟩ : ByteArray))) && (a1.num || (a0.Num == (0 : Int)))) && (!a1.bounds)) && (a0.Low == (0 : Int))) (pInt .i64 a0.High)))], [], [0, 1, 2, 3, 4, 5, 6, 7, 8, 9, 10, 11, 12, 13, 14, 15, 16, 17, 18, 19, 20, 21, 22, 23, 24], [30]⟩,
        ⟨[.op 23 0, .op 25 0], [(31, (pIf ((((a1.text || (sEq a0.Text (⟨#[]⟩ : ByteArray))) && (a1.num || (a0.Num == (0 : Int)))) && (!a1.bounds)) && (a0.Low == (0 : Int))) (pBool (a0.High == (0 : Int)))))], [], [0, 1, 2, 3, 4, 5, 6, 7, 8, 9, 10, 11, 12, 13, 14, 15, 16, 17, 18, 19, 20, 21, 22, 23, 24, 25], [31]⟩,
        ⟨[.op 19 0, .op 23 0, .op 26 0], [(32, (pIf (((a1.text || (sEq a0.Text (⟨#[]⟩ : ByteArray))) && (a1.num || (a0.Num == (0 : Int)))) && (!a1.bounds)) (pBool ((a0.Low == (0 : Int)) && (a0.High == (0 : Int))))))], [], [0, 1, 2, 3, 4, 5, 6, 7, 8, 9, 10, 11, 12, 13, 14, 15, 16, 17, 18, 19, 20, 21, 22, 23, 24, 25, 26], [32]⟩,
        ⟨[.op 16 0, .op 19 0, .op 27 0], [(33, (pIf ((a1.text || (sEq a0.Text (⟨#[]⟩ : ByteArray))) && (a1.num || (a0.Num == (0 : Int)))) (pBool (a1.bounds || ((a0.Low == (0 : Int)) && (a0.High == (0 : Int)))))))], [], [0, 1, 2, 3, 4, 5, 6, 7, 8, 9, 10, 11, 12, 13, 14, 15, 16, 17, 18, 19, 20, 21, 22, 23, 24, 25, 26, 27], [33]⟩,
        ⟨[.op 16 0, .op 28 0], [(34, (pBool (((a1.text || (sEq a0.Text (⟨#[]⟩ : ByteArray))) && (a1.num || (a0.Num == (0 : Int)))) && (a1.bounds || ((a0.Low == (0 : Int)) && (a0.High == (0 : Int)))))))], [], [0, 1, 2, 3, 4, 5, 6, 7, 8, 9, 10, 11, 12, 13, 14, 15, 16, 17, 18, 19, 20, 21, 22, 23, 24, 25, 26, 27, 28], [34]⟩,
        ⟨[.op 29 0], [(35, (pBool (((a1.text || (sEq a0.Text (⟨#[]⟩ : ByteArray))) && (a1.num || (a0.Num == (0 : Int)))) && (a1.bounds || ((a0.Low == (0 : Int)) && (a0.High == (0 : Int)))))))], [], [0, 1, 2, 3, 4, 5, 6, 7, 8, 9, 10, 11, 12, 13, 14, 15, 16, 17, 18, 19, 20, 21, 22, 23, 24, 25, 26, 27, 28, 29], [35]⟩,
        ⟨[.op 30 0, .old 1], [(36, (pIf (((a1.text || (sEq a0.Text (⟨#[]⟩ : ByteArray))) && (a1.num || (a0.Num == (0 : Int)))) && (a1.bounds || ((a0.Low == (0 : Int)) && (a0.High == (0 : Int))))) (Kd.bool.ptr a1.real)))], [], [0, 1, 2, 3, 4, 5, 6, 7, 8, 9, 10, 11, 12, 13, 14, 15, 16, 17, 18, 19, 20, 21, 22, 23, 24, 25, 26, 27, 28, 29, 30], [36]⟩,
        ⟨[.op 30 0, .op 31 0], [(37, (pIf (((a1.text || (sEq a0.Text (⟨#[]⟩ : ByteArray))) && (a1.num || (a0.Num == (0 : Int)))) && (a1.bounds || ((a0.Low == (0 : Int)) && (a0.High == (0 : Int))))) (pBool a1.real)))], [], [0, 1, 2, 3, 4, 5, 6, 7, 8, 9, 10, 11, 12, 13, 14, 15, 16, 17, 18, 19, 20, 21, 22, 23, 24, 25, 26, 27, 28, 29, 30, 31], [37]⟩,
        ⟨[.op 30 0, .op 32 0], [(38, (pIf (((a1.text || (sEq a0.Text (⟨#[]⟩ : ByteArray))) && (a1.num || (a0.Num == (0 : Int)))) && (a1.bounds || ((a0.Low == (0 : Int)) && (a0.High == (0 : Int))))) (pBool a1.real)))], [], [0, 1, 2, 3, 4, 5, 6, 7, 8, 9, 10, 11, 12, 13, 14, 15, 16, 17, 18, 19, 20, 21, 22, 23, 24, 25, 26, 27, 28, 29, 30, 31, 32], [38]⟩,
        ⟨[.op 33 0, .old 0], [(39, (pIf ((((a1.text || (sEq a0.Text (⟨#[]⟩ : ByteArray))) && (a1.num || (a0.Num == (0 : Int)))) && (a1.bounds || ((a0.Low == (0 : Int)) && (a0.High == (0 : Int))))) && (!a1.real)) (Kd.flt.ptr a0.Real)))], [], [0, 1, 2, 3, 4, 5, 6, 7, 8, 9, 10, 11, 12, 13, 14, 15, 16, 17, 18, 19, 20, 21, 22, 23, 24, 25, 26, 27, 28, 29, 30, 31, 32, 33], [39]⟩,
        ⟨[.op 33 0, .op 34 0], [(40, (pIf ((((a1.text || (sEq a0.Text (⟨#[]⟩ : ByteArray))) && (a1.num || (a0.Num == (0 : Int)))) && (a1.bounds || ((a0.Low == (0 : Int)) && (a0.High == (0 : Int))))) && (!a1.real)) (pFlt a0.Real)))], [], [0, 1, 2, 3, 4, 5, 6, 7, 8, 9, 10, 11, 12, 13, 14, 15, 16, 17, 18, 19, 20, 21, 22, 23, 24, 25, 26, 27, 28, 29, 30, 31, 32, 33, 34], [40]⟩,
        ⟨[.op 33 0, .op 35 0], [(41, (pIf ((((a1.text || (sEq a0.Text (⟨#[]⟩ : ByteArray))) && (a1.num || (a0.Num == (0 : Int)))) && (a1.bounds || ((a0.Low == (0 : Int)) && (a0.High == (0 : Int))))) && (!a1.real)) (pBool r1)))], [], [0, 1, 2, 3, 4, 5, 6, 7, 8, 9, 10, 11, 12, 13, 14, 15, 16, 17, 18, 19, 20, 21, 22, 23, 24, 25, 26, 27, 28, 29, 30, 31, 32, 33, 34, 35], [41]⟩,
        ⟨[.op 30 0, .op 33 0, .op 36 0], [(42, (pIf (((a1.text || (sEq a0.Text (⟨#[]⟩ : ByteArray))) && (a1.num || (a0.Num == (0 : Int)))) && (a1.bounds || ((a0.Low == (0 : Int)) && (a0.High == (0 : Int))))) (pBool (a1.real || r1))))], [], [0, 1, 2, 3, 4, 5, 6, 7, 8, 9, 10, 11, 12, 13, 14, 15, 16, 17, 18, 19, 20, 21, 22, 23, 24, 25, 26, 27, 28, 29, 30, 31, 32, 33, 34, 35, 36], [42]⟩,
        ⟨[.op 30 0, .op 37 0], [(43, (pBool ((((a1.text || (sEq a0.Text (⟨#[]⟩ : ByteArray))) && (a1.num || (a0.Num == (0 : Int)))) && (a1.bounds || ((a0.Low == (0 : Int)) && (a0.High == (0 : Int))))) && (a1.real || r1))))], [], [0, 1, 2, 3, 4, 5, 6, 7, 8, 9, 10, 11, 12, 13, 14, 15, 16, 17, 18, 19, 20, 21, 22, 23, 24, 25, 26, 27, 28, 29, 30, 31, 32, 33, 34, 35, 36, 37], [43]⟩,
        ⟨[.op 38 0], [(44, (pBool ((((a1.text || (sEq a0.Text (⟨#[]⟩ : ByteArray))) && (a1.num || (a0.Num == (0 : Int)))) && (a1.bounds || ((a0.Low == (0 : Int)) && (a0.High == (0 : Int))))) && (a1.real || r1))))], [], [0, 1, 2, 3, 4, 5, 6, 7, 8, 9, 10, 11, 12, 13, 14, 15, 16, 17, 18, 19, 20, 21, 22, 23, 24, 25, 26, 27, 28, 29, 30, 31, 32, 33, 34, 35, 36, 37, 38], [44]⟩,
        ⟨[.op 39 0, .old 1], [(45, (pIf ((((a1.text || (sEq a0.Text (⟨#[]⟩ : ByteArray))) && (a1.num || (a0.Num == (0 : Int)))) && (a1.bounds || ((a0.Low == (0 : Int)) && (a0.High == (0 : Int))))) && (a1.real || r1)) (Kd.bool.ptr a1.list)))], [], [0, 1, 2, 3, 4, 5, 6, 7, 8, 9, 10, 11, 12, 13, 14, 15, 16, 17, 18, 19, 20, 21, 22, 23, 24, 25, 26, 27, 28, 29, 30, 31, 32, 33, 34, 35, 36, 37, 38, 39], [45]⟩,
        ⟨[.op 39 0, .op 40 0], [(46, (pIf ((((a1.text || (sEq a0.Text (⟨#[]⟩ : ByteArray))) && (a1.num || (a0.Num == (0 : Int)))) && (a1.bounds || ((a0.Low == (0 : Int)) && (a0.High == (0 : Int))))) && (a1.real || r1)) (pBool a1.list)))], [], [0, 1, 2, 3, 4, 5, 6, 7, 8, 9, 10, 11, 12, 13, 14, 15, 16, 17, 18, 19, 20, 21, 22, 23, 24, 25, 26, 27, 28, 29, 30, 31, 32, 33, 34, 35, 36, 37, 38, 39, 40], [46]⟩,
        ⟨[.op 39 0, .op 41 0], [(47, (pIf ((((a1.text || (sEq a0.Text (⟨#[]⟩ : ByteArray))) && (a1.num || (a0.Num == (0 : Int)))) && (a1.bounds || ((a0.Low == (0 : Int)) && (a0.High == (0 : Int))))) && (a1.real || r1)) (pBool a1.list)))], [], [0, 1, 2, 3, 4, 5, 6, 7, 8, 9, 10, 11, 12, 13, 14, 15, 16, 17, 18, 19, 20, 21, 22, 23, 24, 25, 26, 27, 28, 29, 30, 31, 32, 33, 34, 35, 36, 37, 38, 39, 40, 41], [47]⟩,
        ⟨[.op 42 0, .old 0], [(48, (pIf (((((a1.text || (sEq a0.Text (⟨#[]⟩ : ByteArray))) && (a1.num || (a0.Num == (0 : Int)))) && (a1.bounds || ((a0.Low == (0 : Int)) && (a0.High == (0 : Int))))) && (a1.real || r1)) && (!a1.list)) ((Kd.int .i64).ptr a0.Cap)))], [], [0, 1, 2, 3, 4, 5, 6, 7, 8, 9, 10, 11, 12, 13, 14, 15, 16, 17, 18, 19, 20, 21, 22, 23, 24, 25, 26, 27, 28, 29, 30, 31, 32, 33, 34, 35, 36, 37, 38, 39, 40, 41, 42], [48]⟩,
        ⟨[.op 42 0, .op 43 0], [(49, (pIf (((((a1.text || (sEq a0.Text (⟨#[]⟩ : ByteArray))) && (a1.num || (a0.Num == (0 : Int)))) && (a1.bounds || ((a0.Low == (0 : Int)) && (a0.High == (0 : Int))))) && (a1.real || r1)) && (!a1.list)) (pInt .i64 a0.Cap)))], [], [0, 1, 2, 3, 4, 5, 6, 7, 8, 9, 10, 11, 12, 13, 14, 15, 16, 17, 18, 19, 20, 21, 22, 23, 24, 25, 26, 27, 28, 29, 30, 31, 32, 33, 34, 35, 36, 37, 38, 39, 40, 41, 42, 43], [49]⟩,
        ⟨[.op 42 0, .op 44 0], [(50, (pIf (((((a1.text || (sEq a0.Text (⟨#[]⟩ : ByteArray))) && (a1.num || (a0.Num == (0 : Int)))) && (a1.bounds || ((a0.Low == (0 : Int)) && (a0.High == (0 : Int))))) && (a1.real || r1)) && (!a1.list)) (pBool (a0.Cap == (0 : Int)))))], [], [0, 1, 2, 3, 4, 5, 6, 7, 8, 9, 10, 11, 12, 13, 14, 15, 16, 17, 18, 19, 20, 21, 22, 23, 24, 25, 26, 27, 28, 29, 30, 31, 32, 33, 34, 35, 36, 37, 38, 39, 40, 41, 42, 43, 44], [50]⟩,
        ⟨[.op 42 0, .op 45 0], [(51, (pIf (((((a1.text || (sEq a0.Text (⟨#[]⟩ : ByteArray))) && (a1.num || (a0.Num == (0 : Int)))) && (a1.bounds || ((a0.Low == (0 : Int)) && (a0.High == (0 : Int))))) && (a1.real || r1)) && (!a1.list)) (pBool (a0.Cap == (0 : Int)))))], [], [0, 1, 2, 3, 4, 5, 6, 7, 8, 9, 10, 11, 12, 13, 14, 15, 16, 17, 18, 19, 20, 21, 22, 23, 24, 25, 26, 27, 28, 29, 30, 31, 32, 33, 34, 35, 36, 37, 38, 39, 40, 41, 42, 43, 44, 45], [51]⟩,
        ⟨[.op 46 0, .old 0], [(52, (pIf ((((((a1.text || (sEq a0.Text (⟨#[]⟩ : ByteArray))) && (a1.num || (a0.Num == (0 : Int)))) && (a1.bounds || ((a0.Low == (0 : Int)) && (a0.High == (0 : Int))))) && (a1.real || r1)) && (!a1.list)) && (a0.Cap == (0 : Int))) (k_api_Item.sl.ptr a0.List)))], [], [0, 1, 2, 3, 4, 5, 6, 7, 8, 9, 10, 11, 12, 13, 14, 15, 16, 17, 18, 19, 20, 21, 22, 23, 24, 25, 26, 27, 28, 29, 30, 31, 32, 33, 34, 35, 36, 37, 38, 39, 40, 41, 42, 43, 44, 45, 46], [52]⟩,
        ⟨[.op 46 0, .op 47 0], [(53, (pIf ((((((a1.text || (sEq a0.Text (⟨#[]⟩ : ByteArray))) && (a1.num || (a0.Num == (0 : Int)))) && (a1.bounds || ((a0.Low == (0 : Int)) && (a0.High == (0 : Int))))) && (a1.real || r1)) && (!a1.list)) && (a0.Cap == (0 : Int))) (k_api_Item.sl.pd a0.List)))], [], [0, 1, 2, 3, 4, 5, 6, 7, 8, 9, 10, 11, 12, 13, 14, 15, 16, 17, 18, 19, 20, 21, 22, 23, 24, 25, 26, 27, 28, 29, 30, 31, 32, 33, 34, 35, 36, 37, 38, 39, 40, 41, 42, 43, 44, 45, 46, 47], [53]⟩,
        ⟨[.op 46 0, .op 48 0], [(54, (pIf ((((((a1.text || (sEq a0.Text (⟨#[]⟩ : ByteArray))) && (a1.num || (a0.Num == (0 : Int)))) && (a1.bounds || ((a0.Low == (0 : Int)) && (a0.High == (0 : Int))))) && (a1.real || r1)) && (!a1.list)) && (a0.Cap == (0 : Int))) (pInt .i64 (a0.List.length : Int))))], [], [0, 1, 2, 3, 4, 5, 6, 7, 8, 9, 10, 11, 12, 13, 14, 15, 16, 17, 18, 19, 20, 21, 22, 23, 24, 25, 26, 27, 28, 29, 30, 31, 32, 33, 34, 35, 36, 37, 38, 39, 40, 41, 42, 43, 44, 45, 46, 47, 48], [54]⟩,
        ⟨[.op 46 0, .op 49 0], [(55, (pIf ((((((a1.text || (sEq a0.Text (⟨#[]⟩ : ByteArray))) && (a1.num || (a0.Num == (0 : Int)))) && (a1.bounds || ((a0.Low == (0 : Int)) && (a0.High == (0 : Int))))) && (a1.real || r1)) && (!a1.list)) && (a0.Cap == (0 : Int))) (pBool ((a0.List.length : Int) == (0 : Int)))))], [], [0, 1, 2, 3, 4, 5, 6, 7, 8, 9, 10, 11, 12, 13, 14, 15, 16, 17, 18, 19, 20, 21, 22, 23, 24, 25, 26, 27, 28, 29, 30, 31, 32, 33, 34, 35, 36, 37, 38, 39, 40, 41, 42, 43, 44, 45, 46, 47, 48, 49], [55]⟩,
        ⟨[.op 42 0, .op 46 0, .op 50 0], [(56, (pIf (((((a1.text || (sEq a0.Text (⟨#[]⟩ : ByteArray))) && (a1.num || (a0.Num == (0 : Int)))) && (a1.bounds || ((a0.Low == (0 : Int)) && (a0.High == (0 : Int))))) && (a1.real || r1)) && (!a1.list)) (pBool ((a0.Cap == (0 : Int)) && ((a0.List.length : Int) == (0 : Int))))))], [], [0, 1, 2, 3, 4, 5, 6, 7, 8, 9, 10, 11, 12, 13, 14, 15, 16, 17, 18, 19, 20, 21, 22, 23, 24, 25, 26, 27, 28, 29, 30, 31, 32, 33, 34, 35, 36, 37, 38, 39, 40, 41, 42, 43, 44, 45, 46, 47, 48, 49, 50], [56]⟩,
        ⟨[.op 39 0, .op 42 0, .op 51 0], [(57, (pIf ((((a1.text || (sEq a0.Text (⟨#[]⟩ : ByteArray))) && (a1.num || (a0.Num == (0 : Int)))) && (a1.bounds || ((a0.Low == (0 : Int)) && (a0.High == (0 : Int))))) && (a1.real || r1)) (pBool (a1.list || ((a0.Cap == (0 : Int)) && ((a0.List.length : Int) == (0 : Int)))))))], [], [0, 1, 2, 3, 4, 5, 6, 7, 8, 9, 10, 11, 12, 13, 14, 15, 16, 17, 18, 19, 20, 21, 22, 23, 24, 25, 26, 27, 28, 29, 30, 31, 32, 33, 34, 35, 36, 37, 38, 39, 40, 41, 42, 43, 44, 45, 46, 47, 48, 49, 50, 51], [57]⟩,
        ⟨[.op 39 0, .op 52 0], [(58, (pBool (((((a1.text || (sEq a0.Text (⟨#[]⟩ : ByteArray))) && (a1.num || (a0.Num == (0 : Int)))) && (a1.bounds || ((a0.Low == (0 : Int)) && (a0.High == (0 : Int))))) && (a1.real || r1)) && (a1.list || ((a0.Cap == (0 : Int)) && ((a0.List.length : Int) == (0 : Int)))))))], [], [0, 1, 2, 3, 4, 5, 6, 7, 8, 9, 10, 11, 12, 13, 14, 15, 16, 17, 18, 19, 20, 21, 22, 23, 24, 25, 26, 27, 28, 29, 30, 31, 32, 33, 34, 35, 36, 37, 38, 39, 40, 41, 42, 43, 44, 45, 46, 47, 48, 49, 50, 51, 52], [58]⟩,
        ⟨[.op 53 0], [(4, (pBool (((((a1.text || (sEq a0.Text (⟨#[]⟩ : ByteArray))) && (a1.num || (a0.Num == (0 : Int)))) && (a1.bounds || ((a0.Low == (0 : Int)) && (a0.High == (0 : Int))))) && (a1.real || r1)) && (a1.list || ((a0.Cap == (0 : Int)) && ((a0.List.length : Int) == (0 : Int)))))))], [], [0, 1, 2, 3, 4, 5, 6, 7, 8, 9, 10, 11, 12, 13, 14, 15, 16, 17, 18, 19, 20, 21, 22, 23, 24, 25, 26, 27, 28, 29, 30, 31, 32, 33, 34, 35, 36, 37, 38, 39, 40, 41, 42, 43, 44, 45, 46, 47, 48, 49, 50, 51, 52, 53], [4]⟩])
      (F := [.op 54 0]) (by kernel_rfl)
      (allOT_cons (OT.plain rfl (ob_fieldAddr fl_89_0 rfl rfl Opd.t0))
        (allOT_cons (OT.plain rfl (ob_load ty_4 rfl rfl Opd.t0))
        (allOT_cons (OT.plain rfl (ob_move rfl rfl Opd.t0))
        (allOT_cons (OT.guard (outs := [(8, (Kd.str.ptr a0.Text))]) (!a1.text) (gF a1.text).1 (gF a1.text).2 rfl rfl (fun e he => by rw [List.mem_singleton.1 he]) (fun hG => ob_fieldAddr fl_38_6 rfl rfl Opd.t0))
        (allOT_cons (OT.guard (outs := [(9, (pStr a0.Text))]) (!a1.text) (gF a1.text).1 (gF a1.text).2 rfl rfl (fun e he => by rw [List.mem_singleton.1 he]) (fun hG => ob_load ty_9 rfl rfl (Opd.gd hG Opd.t0)))
        (allOT_cons (OT.guard (outs := [(10, (pBool (sEq a0.Text (⟨#[]⟩ : ByteArray))))]) (!a1.text) (gF a1.text).1 (gF a1.text).2 rfl rfl (fun e he => by rw [List.mem_singleton.1 he]) (fun hG => ob_seq rfl rfl (Opd.gd hG Opd.t0) (Opd.c (fun _ => pStr_iff.2 rfl))))
        (allOT_cons (OT.plain rfl (ob_pick (q := (pBool (a1.text || (sEq a0.Text (⟨#[]⟩ : ByteArray))))) rfl rfl Opd.t0 (fun hz => Opd.to (Opd.c (bool_q _)) (congrArg (fun t => (pBool t)) (pk_or_t hz))) (fun hz => Opd.to (Opd.gd (bNF hz) (Opd.tl Opd.t0)) (congrArg (fun t => (pBool t)) (pk_or_f hz)))))
        (allOT_cons (OT.plain rfl (ob_move rfl rfl Opd.t0))
        (allOT_cons (OT.guard (outs := [(13, (Kd.bool.ptr a1.num))]) (a1.text || (sEq a0.Text (⟨#[]⟩ : ByteArray))) (gT (a1.text || (sEq a0.Text (⟨#[]⟩ : ByteArray)))).1 (gT (a1.text || (sEq a0.Text (⟨#[]⟩ : ByteArray)))).2 rfl rfl (fun e he => by rw [List.mem_singleton.1 he]) (fun hG => ob_fieldAddr fl_89_1 rfl rfl Opd.t0))
        (allOT_cons (OT.guard (outs := [(14, (pBool a1.num))]) (a1.text || (sEq a0.Text (⟨#[]⟩ : ByteArray))) (gT (a1.text || (sEq a0.Text (⟨#[]⟩ : ByteArray)))).1 (gT (a1.text || (sEq a0.Text (⟨#[]⟩ : ByteArray)))).2 rfl rfl (fun e he => by rw [List.mem_singleton.1 he]) (fun hG => ob_load ty_4 rfl rfl (Opd.gd hG Opd.t0)))
        (allOT_cons (OT.guard (outs := [(15, (pBool a1.num))]) (a1.text || (sEq a0.Text (⟨#[]⟩ : ByteArray))) (gT (a1.text || (sEq a0.Text (⟨#[]⟩ : ByteArray)))).1 (gT (a1.text || (sEq a0.Text (⟨#[]⟩ : ByteArray)))).2 rfl rfl (fun e he => by rw [List.mem_singleton.1 he]) (fun hG => ob_move rfl rfl (Opd.gd hG Opd.t0)))
        (allOT_cons (OT.guard (outs := [(16, ((Kd.int .i64).ptr a0.Num))]) ((a1.text || (sEq a0.Text (⟨#[]⟩ : ByteArray))) && (!a1.num)) (giF (a1.text || (sEq a0.Text (⟨#[]⟩ : ByteArray))) a1.num).1 (giF (a1.text || (sEq a0.Text (⟨#[]⟩ : ByteArray))) a1.num).2 rfl rfl (fun e he => by rw [List.mem_singleton.1 he]) (fun hG => ob_fieldAddr fl_38_1 rfl rfl Opd.t0))
        (allOT_cons (OT.guard (outs := [(17, (pInt .i64 a0.Num))]) ((a1.text || (sEq a0.Text (⟨#[]⟩ : ByteArray))) && (!a1.num)) (giF (a1.text || (sEq a0.Text (⟨#[]⟩ : ByteArray))) a1.num).1 (giF (a1.text || (sEq a0.Text (⟨#[]⟩ : ByteArray))) a1.num).2 rfl rfl (fun e he => by rw [List.mem_singleton.1 he]) (fun hG => ob_load ty_2 rfl rfl (Opd.gd hG Opd.t0)))
        (allOT_cons (OT.guard (outs := [(18, (pBool (a0.Num == (0 : Int))))]) ((a1.text || (sEq a0.Text (⟨#[]⟩ : ByteArray))) && (!a1.num)) (giF (a1.text || (sEq a0.Text (⟨#[]⟩ : ByteArray))) a1.num).1 (giF (a1.text || (sEq a0.Text (⟨#[]⟩ : ByteArray))) a1.num).2 rfl rfl (fun e he => by rw [List.mem_singleton.1 he]) (fun hG => ob_eq rfl rfl (Opd.gd hG Opd.t0) (Opd.c (int_q _ _))))
        (allOT_cons (OT.guard (outs := [(19, (pBool (a1.num || (a0.Num == (0 : Int)))))]) (a1.text || (sEq a0.Text (⟨#[]⟩ : ByteArray))) (gT (a1.text || (sEq a0.Text (⟨#[]⟩ : ByteArray)))).1 (gT (a1.text || (sEq a0.Text (⟨#[]⟩ : ByteArray)))).2 rfl rfl (fun e he => by rw [List.mem_singleton.1 he]) (fun hG => ob_pick (q := (pBool (a1.num || (a0.Num == (0 : Int))))) rfl rfl (Opd.gd hG Opd.t0) (fun hz => Opd.to (Opd.c (bool_q _)) (congrArg (fun t => (pBool t)) (pk_or_t hz))) (fun hz => Opd.to (Opd.gd (bA hG (bNF hz)) (Opd.tl Opd.t0)) (congrArg (fun t => (pBool t)) (pk_or_f hz)))))
        (allOT_cons (OT.plain rfl (ob_pick (q := (pBool ((a1.text || (sEq a0.Text (⟨#[]⟩ : ByteArray))) && (a1.num || (a0.Num == (0 : Int)))))) rfl rfl Opd.t0 (fun hz => Opd.to (Opd.gd hz (Opd.tl Opd.t0)) (congrArg (fun t => (pBool t)) (pk_and_t hz))) (fun hz => Opd.to (Opd.c (bool_q _)) (congrArg (fun t => (pBool t)) (pk_and_f hz)))))
        (allOT_cons (OT.plain rfl (ob_move rfl rfl Opd.t0))
        (allOT_cons (OT.guard (outs := [(22, (Kd.bool.ptr a1.bounds))]) ((a1.text || (sEq a0.Text (⟨#[]⟩ : ByteArray))) && (a1.num || (a0.Num == (0 : Int)))) (gT ((a1.text || (sEq a0.Text (⟨#[]⟩ : ByteArray))) && (a1.num || (a0.Num == (0 : Int))))).1 (gT ((a1.text || (sEq a0.Text (⟨#[]⟩ : ByteArray))) && (a1.num || (a0.Num == (0 : Int))))).2 rfl rfl (fun e he => by rw [List.mem_singleton.1 he]) (fun hG => ob_fieldAddr fl_89_2 rfl rfl Opd.t0))
        (allOT_cons (OT.guard (outs := [(23, (pBool a1.bounds))]) ((a1.text || (sEq a0.Text (⟨#[]⟩ : ByteArray))) && (a1.num || (a0.Num == (0 : Int)))) (gT ((a1.text || (sEq a0.Text (⟨#[]⟩ : ByteArray))) && (a1.num || (a0.Num == (0 : Int))))).1 (gT ((a1.text || (sEq a0.Text (⟨#[]⟩ : ByteArray))) && (a1.num || (a0.Num == (0 : Int))))).2 rfl rfl (fun e he => by rw [List.mem_singleton.1 he]) (fun hG => ob_load ty_4 rfl rfl (Opd.gd hG Opd.t0)))
        (allOT_cons (OT.guard (outs := [(24, (pBool a1.bounds))]) ((a1.text || (sEq a0.Text (⟨#[]⟩ : ByteArray))) && (a1.num || (a0.Num == (0 : Int)))) (gT ((a1.text || (sEq a0.Text (⟨#[]⟩ : ByteArray))) && (a1.num || (a0.Num == (0 : Int))))).1 (gT ((a1.text || (sEq a0.Text (⟨#[]⟩ : ByteArray))) && (a1.num || (a0.Num == (0 : Int))))).2 rfl rfl (fun e he => by rw [List.mem_singleton.1 he]) (fun hG => ob_move rfl rfl (Opd.gd hG Opd.t0)))
        (allOT_cons (OT.guard (outs := [(25, ((Kd.int .i64).ptr a0.Low))]) (((a1.text || (sEq a0.Text (⟨#[]⟩ : ByteArray))) && (a1.num || (a0.Num == (0 : Int)))) && (!a1.bounds)) (giF ((a1.text || (sEq a0.Text (⟨#[]⟩ : ByteArray))) && (a1.num || (a0.Num == (0 : Int)))) a1.bounds).1 (giF ((a1.text || (sEq a0.Text (⟨#[]⟩ : ByteArray))) && (a1.num || (a0.Num == (0 : Int)))) a1.bounds).2 rfl rfl (fun e he => by rw [List.mem_singleton.1 he]) (fun hG => ob_fieldAddr fl_38_2 rfl rfl Opd.t0))
        (allOT_cons (OT.guard (outs := [(26, (pInt .i64 a0.Low))]) (((a1.text || (sEq a0.Text (⟨#[]⟩ : ByteArray))) && (a1.num || (a0.Num == (0 : Int)))) && (!a1.bounds)) (giF ((a1.text || (sEq a0.Text (⟨#[]⟩ : ByteArray))) && (a1.num || (a0.Num == (0 : Int)))) a1.bounds).1 (giF ((a1.text || (sEq a0.Text (⟨#[]⟩ : ByteArray))) && (a1.num || (a0.Num == (0 : Int)))) a1.bounds).2 rfl rfl (fun e he => by rw [List.mem_singleton.1 he]) (fun hG => ob_load ty_2 rfl rfl (Opd.gd hG Opd.t0)))
        (allOT_cons (OT.guard (outs := [(27, (pBool (a0.Low == (0 : Int))))]) (((a1.text || (sEq a0.Text (⟨#[]⟩ : ByteArray))) && (a1.num || (a0.Num == (0 : Int)))) && (!a1.bounds)) (giF ((a1.text || (sEq a0.Text (⟨#[]⟩ : ByteArray))) && (a1.num || (a0.Num == (0 : Int)))) a1.bounds).1 (giF ((a1.text || (sEq a0.Text (⟨#[]⟩ : ByteArray))) && (a1.num || (a0.Num == (0 : Int)))) a1.bounds).2 rfl rfl (fun e he => by rw [List.mem_singleton.1 he]) (fun hG => ob_eq rfl rfl (Opd.gd hG Opd.t0) (Opd.c (int_q _ _))))
        (allOT_cons (OT.guard (outs := [(28, (pBool (a0.Low == (0 : Int))))]) (((a1.text || (sEq a0.Text (⟨#[]⟩ : ByteArray))) && (a1.num || (a0.Num == (0 : Int)))) && (!a1.bounds)) (giF ((a1.text || (sEq a0.Text (⟨#[]⟩ : ByteArray))) && (a1.num || (a0.Num == (0 : Int)))) a1.bounds).1 (giF ((a1.text || (sEq a0.Text (⟨#[]⟩ : ByteArray))) && (a1.num || (a0.Num == (0 : Int)))) a1.bounds).2 rfl rfl (fun e he => by rw [List.mem_singleton.1 he]) (fun hG => ob_move rfl rfl (Opd.gd hG Opd.t0)))
        (allOT_cons (OT.guard (outs := [(29, ((Kd.int .i64).ptr a0.High))]) ((((a1.text || (sEq a0.Text (⟨#[]⟩ : ByteArray))) && (a1.num || (a0.Num == (0 : Int)))) && (!a1.bounds)) && (a0.Low == (0 : Int))) (giT (((a1.text || (sEq a0.Text (⟨#[]⟩ : ByteArray))) && (a1.num || (a0.Num == (0 : Int)))) && (!a1.bounds)) (a0.Low == (0 : Int))).1 (giT (((a1.text || (sEq a0.Text (⟨#[]⟩ : ByteArray))) && (a1.num || (a0.Num == (0 : Int)))) && (!a1.bounds)) (a0.Low == (0 : Int))).2 rfl rfl (fun e he => by rw [List.mem_singleton.1 he]) (fun hG => ob_fieldAddr fl_38_3 rfl rfl Opd.t0))
        (allOT_cons (OT.guard (outs := [(30, (pInt .i64 a0.High))]) ((((a1.text || (sEq a0.Text (⟨#[]⟩ : ByteArray))) && (a1.num || (a0.Num == (0 : Int)))) && (!a1.bounds)) && (a0.Low == (0 : Int))) (giT (((a1.text || (sEq a0.Text (⟨#[]⟩ : ByteArray))) && (a1.num || (a0.Num == (0 : Int)))) && (!a1.bounds)) (a0.Low == (0 : Int))).1 (giT (((a1.text || (sEq a0.Text (⟨#[]⟩ : ByteArray))) && (a1.num || (a0.Num == (0 : Int)))) && (!a1.bounds)) (a0.Low == (0 : Int))).2 rfl rfl (fun e he => by rw [List.mem_singleton.1 he]) (fun hG => ob_load ty_2 rfl rfl (Opd.gd hG Opd.t0)))
        (allOT_cons (OT.guard (outs := [(31, (pBool (a0.High == (0 : Int))))]) ((((a1.text || (sEq a0.Text (⟨#[]⟩ : ByteArray))) && (a1.num || (a0.Num == (0 : Int)))) && (!a1.bounds)) && (a0.Low == (0 : Int))) (giT (((a1.text || (sEq a0.Text (⟨#[]⟩ : ByteArray))) && (a1.num || (a0.Num == (0 : Int)))) && (!a1.bounds)) (a0.Low == (0 : Int))).1 (giT (((a1.text || (sEq a0.Text (⟨#[]⟩ : ByteArray))) && (a1.num || (a0.Num == (0 : Int)))) && (!a1.bounds)) (a0.Low == (0 : Int))).2 rfl rfl (fun e he => by rw [List.mem_singleton.1 he]) (fun hG => ob_eq rfl rfl (Opd.gd hG Opd.t0) (Opd.c (int_q _ _))))
        (allOT_cons (OT.guard (outs := [(32, (pBool ((a0.Low == (0 : Int)) && (a0.High == (0 : Int)))))]) (((a1.text || (sEq a0.Text (⟨#[]⟩ : ByteArray))) && (a1.num || (a0.Num == (0 : Int)))) && (!a1.bounds)) (giF ((a1.text || (sEq a0.Text (⟨#[]⟩ : ByteArray))) && (a1.num || (a0.Num == (0 : Int)))) a1.bounds).1 (giF ((a1.text || (sEq a0.Text (⟨#[]⟩ : ByteArray))) && (a1.num || (a0.Num == (0 : Int)))) a1.bounds).2 rfl rfl (fun e he => by rw [List.mem_singleton.1 he]) (fun hG => ob_pick (q := (pBool ((a0.Low == (0 : Int)) && (a0.High == (0 : Int))))) rfl rfl (Opd.gd hG Opd.t0) (fun hz => Opd.to (Opd.gd (bA hG hz) (Opd.tl Opd.t0)) (congrArg (fun t => (pBool t)) (pk_and_t hz))) (fun hz => Opd.to (Opd.c (bool_q _)) (congrArg (fun t => (pBool t)) (pk_and_f hz)))))
        (allOT_cons (OT.guard (outs := [(33, (pBool (a1.bounds || ((a0.Low == (0 : Int)) && (a0.High == (0 : Int))))))]) ((a1.text || (sEq a0.Text (⟨#[]⟩ : ByteArray))) && (a1.num || (a0.Num == (0 : Int)))) (gT ((a1.text || (sEq a0.Text (⟨#[]⟩ : ByteArray))) && (a1.num || (a0.Num == (0 : Int))))).1 (gT ((a1.text || (sEq a0.Text (⟨#[]⟩ : ByteArray))) && (a1.num || (a0.Num == (0 : Int))))).2 rfl rfl (fun e he => by rw [List.mem_singleton.1 he]) (fun hG => ob_pick (q := (pBool (a1.bounds || ((a0.Low == (0 : Int)) && (a0.High == (0 : Int)))))) rfl rfl (Opd.gd hG Opd.t0) (fun hz => Opd.to (Opd.c (bool_q _)) (congrArg (fun t => (pBool t)) (pk_or_t hz))) (fun hz => Opd.to (Opd.gd (bA hG (bNF hz)) (Opd.tl Opd.t0)) (congrArg (fun t => (pBool t)) (pk_or_f hz)))))
        (allOT_cons (OT.plain rfl (ob_pick (q := (pBool (((a1.text || (sEq a0.Text (⟨#[]⟩ : ByteArray))) && (a1.num || (a0.Num == (0 : Int)))) && (a1.bounds || ((a0.Low == (0 : Int)) && (a0.High == (0 : Int))))))) rfl rfl Opd.t0 (fun hz => Opd.to (Opd.gd hz (Opd.tl Opd.t0)) (congrArg (fun t => (pBool t)) (pk_and_t hz))) (fun hz => Opd.to (Opd.c (bool_q _)) (congrArg (fun t => (pBool t)) (pk_and_f hz)))))
        (allOT_cons (OT.plain rfl (ob_move rfl rfl Opd.t0))
        (allOT_cons (OT.guard (outs := [(36, (Kd.bool.ptr a1.real))]) (((a1.text || (sEq a0.Text (⟨#[]⟩ : ByteArray))) && (a1.num || (a0.Num == (0 : Int)))) && (a1.bounds || ((a0.Low == (0 : Int)) && (a0.High == (0 : Int))))) (gT (((a1.text || (sEq a0.Text (⟨#[]⟩ : ByteArray))) && (a1.num || (a0.Num == (0 : Int)))) && (a1.bounds || ((a0.Low == (0 : Int)) && (a0.High == (0 : Int)))))).1 (gT (((a1.text || (sEq a0.Text (⟨#[]⟩ : ByteArray))) && (a1.num || (a0.Num == (0 : Int)))) && (a1.bounds || ((a0.Low == (0 : Int)) && (a0.High == (0 : Int)))))).2 rfl rfl (fun e he => by rw [List.mem_singleton.1 he]) (fun hG => ob_fieldAddr fl_89_3 rfl rfl Opd.t0))
        (allOT_cons (OT.guard (outs := [(37, (pBool a1.real))]) (((a1.text || (sEq a0.Text (⟨#[]⟩ : ByteArray))) && (a1.num || (a0.Num == (0 : Int)))) && (a1.bounds || ((a0.Low == (0 : Int)) && (a0.High == (0 : Int))))) (gT (((a1.text || (sEq a0.Text (⟨#[]⟩ : ByteArray))) && (a1.num || (a0.Num == (0 : Int)))) && (a1.bounds || ((a0.Low == (0 : Int)) && (a0.High == (0 : Int)))))).1 (gT (((a1.text || (sEq a0.Text (⟨#[]⟩ : ByteArray))) && (a1.num || (a0.Num == (0 : Int)))) && (a1.bounds || ((a0.Low == (0 : Int)) && (a0.High == (0 : Int)))))).2 rfl rfl (fun e he => by rw [List.mem_singleton.1 he]) (fun hG => ob_load ty_4 rfl rfl (Opd.gd hG Opd.t0)))
        (allOT_cons (OT.guard (outs := [(38, (pBool a1.real))]) (((a1.text || (sEq a0.Text (⟨#[]⟩ : ByteArray))) && (a1.num || (a0.Num == (0 : Int)))) && (a1.bounds || ((a0.Low == (0 : Int)) && (a0.High == (0 : Int))))) (gT (((a1.text || (sEq a0.Text (⟨#[]⟩ : ByteArray))) && (a1.num || (a0.Num == (0 : Int)))) && (a1.bounds || ((a0.Low == (0 : Int)) && (a0.High == (0 : Int)))))).1 (gT (((a1.text || (sEq a0.Text (⟨#[]⟩ : ByteArray))) && (a1.num || (a0.Num == (0 : Int)))) && (a1.bounds || ((a0.Low == (0 : Int)) && (a0.High == (0 : Int)))))).2 rfl rfl (fun e he => by rw [List.mem_singleton.1 he]) (fun hG => ob_move rfl rfl (Opd.gd hG Opd.t0)))
        (allOT_cons (OT.guard (outs := [(39, (Kd.flt.ptr a0.Real))]) ((((a1.text || (sEq a0.Text (⟨#[]⟩ : ByteArray))) && (a1.num || (a0.Num == (0 : Int)))) && (a1.bounds || ((a0.Low == (0 : Int)) && (a0.High == (0 : Int))))) && (!a1.real)) (giF (((a1.text || (sEq a0.Text (⟨#[]⟩ : ByteArray))) && (a1.num || (a0.Num == (0 : Int)))) && (a1.bounds || ((a0.Low == (0 : Int)) && (a0.High == (0 : Int))))) a1.real).1 (giF (((a1.text || (sEq a0.Text (⟨#[]⟩ : ByteArray))) && (a1.num || (a0.Num == (0 : Int)))) && (a1.bounds || ((a0.Low == (0 : Int)) && (a0.High == (0 : Int))))) a1.real).2 rfl rfl (fun e he => by rw [List.mem_singleton.1 he]) (fun hG => ob_fieldAddr fl_38_4 rfl rfl Opd.t0))
        (allOT_cons (OT.guard (outs := [(40, (pFlt a0.Real))]) ((((a1.text || (sEq a0.Text (⟨#[]⟩ : ByteArray))) && (a1.num || (a0.Num == (0 : Int)))) && (a1.bounds || ((a0.Low == (0 : Int)) && (a0.High == (0 : Int))))) && (!a1.real)) (giF (((a1.text || (sEq a0.Text (⟨#[]⟩ : ByteArray))) && (a1.num || (a0.Num == (0 : Int)))) && (a1.bounds || ((a0.Low == (0 : Int)) && (a0.High == (0 : Int))))) a1.real).1 (giF (((a1.text || (sEq a0.Text (⟨#[]⟩ : ByteArray))) && (a1.num || (a0.Num == (0 : Int)))) && (a1.bounds || ((a0.Low == (0 : Int)) && (a0.High == (0 : Int))))) a1.real).2 rfl rfl (fun e he => by rw [List.mem_singleton.1 he]) (fun hG => ob_load ty_35 rfl rfl (Opd.gd hG Opd.t0)))
        (allOT_cons (OT.guard (outs := [(41, (pBool r1))]) ((((a1.text || (sEq a0.Text (⟨#[]⟩ : ByteArray))) && (a1.num || (a0.Num == (0 : Int)))) && (a1.bounds || ((a0.Low == (0 : Int)) && (a0.High == (0 : Int))))) && (!a1.real)) (giF (((a1.text || (sEq a0.Text (⟨#[]⟩ : ByteArray))) && (a1.num || (a0.Num == (0 : Int)))) && (a1.bounds || ((a0.Low == (0 : Int)) && (a0.High == (0 : Int))))) a1.real).1 (giF (((a1.text || (sEq a0.Text (⟨#[]⟩ : ByteArray))) && (a1.num || (a0.Num == (0 : Int)))) && (a1.bounds || ((a0.Low == (0 : Int)) && (a0.High == (0 : Int))))) a1.real).2 rfl rfl (fun e he => by rw [List.mem_singleton.1 he]) (fun hG => ob_call en_42 (flo_Same_ok _ _ (gd_true h2 hG)) rfl rfl (.cons (Opd.gd hG Opd.t0) (.cons (Opd.c (fun _ => pFlt_iff.2 rfl)) .nil))))
        (allOT_cons (OT.guard (outs := [(42, (pBool (a1.real || r1)))]) (((a1.text || (sEq a0.Text (⟨#[]⟩ : ByteArray))) && (a1.num || (a0.Num == (0 : Int)))) && (a1.bounds || ((a0.Low == (0 : Int)) && (a0.High == (0 : Int))))) (gT (((a1.text || (sEq a0.Text (⟨#[]⟩ : ByteArray))) && (a1.num || (a0.Num == (0 : Int)))) && (a1.bounds || ((a0.Low == (0 : Int)) && (a0.High == (0 : Int)))))).1 (gT (((a1.text || (sEq a0.Text (⟨#[]⟩ : ByteArray))) && (a1.num || (a0.Num == (0 : Int)))) && (a1.bounds || ((a0.Low == (0 : Int)) && (a0.High == (0 : Int)))))).2 rfl rfl (fun e he => by rw [List.mem_singleton.1 he]) (fun hG => ob_pick (q := (pBool (a1.real || r1))) rfl rfl (Opd.gd hG Opd.t0) (fun hz => Opd.to (Opd.c (bool_q _)) (congrArg (fun t => (pBool t)) (pk_or_t hz))) (fun hz => Opd.to (Opd.gd (bA hG (bNF hz)) (Opd.tl Opd.t0)) (congrArg (fun t => (pBool t)) (pk_or_f hz)))))
        (allOT_cons (OT.plain rfl (ob_pick (q := (pBool ((((a1.text || (sEq a0.Text (⟨#[]⟩ : ByteArray))) && (a1.num || (a0.Num == (0 : Int)))) && (a1.bounds || ((a0.Low == (0 : Int)) && (a0.High == (0 : Int))))) && (a1.real || r1)))) rfl rfl Opd.t0 (fun hz => Opd.to (Opd.gd hz (Opd.tl Opd.t0)) (congrArg (fun t => (pBool t)) (pk_and_t hz))) (fun hz => Opd.to (Opd.c (bool_q _)) (congrArg (fun t => (pBool t)) (pk_and_f hz)))))
        (allOT_cons (OT.plain rfl (ob_move rfl rfl Opd.t0))
        (allOT_cons (OT.guard (outs := [(45, (Kd.bool.ptr a1.list))]) ((((a1.text || (sEq a0.Text (⟨#[]⟩ : ByteArray))) && (a1.num || (a0.Num == (0 : Int)))) && (a1.bounds || ((a0.Low == (0 : Int)) && (a0.High == (0 : Int))))) && (a1.real || r1)) (gT ((((a1.text || (sEq a0.Text (⟨#[]⟩ : ByteArray))) && (a1.num || (a0.Num == (0 : Int)))) && (a1.bounds || ((a0.Low == (0 : Int)) && (a0.High == (0 : Int))))) && (a1.real || r1))).1 (gT ((((a1.text || (sEq a0.Text (⟨#[]⟩ : ByteArray))) && (a1.num || (a0.Num == (0 : Int)))) && (a1.bounds || ((a0.Low == (0 : Int)) && (a0.High == (0 : Int))))) && (a1.real || r1))).2 rfl rfl (fun e he => by rw [List.mem_singleton.1 he]) (fun hG => ob_fieldAddr fl_89_4 rfl rfl Opd.t0))
        (allOT_cons (OT.guard (outs := [(46, (pBool a1.list))]) ((((a1.text || (sEq a0.Text (⟨#[]⟩ : ByteArray))) && (a1.num || (a0.Num == (0 : Int)))) && (a1.bounds || ((a0.Low == (0 : Int)) && (a0.High == (0 : Int))))) && (a1.real || r1)) (gT ((((a1.text || (sEq a0.Text (⟨#[]⟩ : ByteArray))) && (a1.num || (a0.Num == (0 : Int)))) && (a1.bounds || ((a0.Low == (0 : Int)) && (a0.High == (0 : Int))))) && (a1.real || r1))).1 (gT ((((a1.text || (sEq a0.Text (⟨#[]⟩ : ByteArray))) && (a1.num || (a0.Num == (0 : Int)))) && (a1.bounds || ((a0.Low == (0 : Int)) && (a0.High == (0 : Int))))) && (a1.real || r1))).2 rfl rfl (fun e he => by rw [List.mem_singleton.1 he]) (fun hG => ob_load ty_4 rfl rfl (Opd.gd hG Opd.t0)))
        (allOT_cons (OT.guard (outs := [(47, (pBool a1.list))]) ((((a1.text || (sEq a0.Text (⟨#[]⟩ : ByteArray))) && (a1.num || (a0.Num == (0 : Int)))) && (a1.bounds || ((a0.Low == (0 : Int)) && (a0.High == (0 : Int))))) && (a1.real || r1)) (gT ((((a1.text || (sEq a0.Text (⟨#[]⟩ : ByteArray))) && (a1.num || (a0.Num == (0 : Int)))) && (a1.bounds || ((a0.Low == (0 : Int)) && (a0.High == (0 : Int))))) && (a1.real || r1))).1 (gT ((((a1.text || (sEq a0.Text (⟨#[]⟩ : ByteArray))) && (a1.num || (a0.Num == (0 : Int)))) && (a1.bounds || ((a0.Low == (0 : Int)) && (a0.High == (0 : Int))))) && (a1.real || r1))).2 rfl rfl (fun e he => by rw [List.mem_singleton.1 he]) (fun hG => ob_move rfl rfl (Opd.gd hG Opd.t0)))
        (allOT_cons (OT.guard (outs := [(48, ((Kd.int .i64).ptr a0.Cap))]) (((((a1.text || (sEq a0.Text (⟨#[]⟩ : ByteArray))) && (a1.num || (a0.Num == (0 : Int)))) && (a1.bounds || ((a0.Low == (0 : Int)) && (a0.High == (0 : Int))))) && (a1.real || r1)) && (!a1.list)) (giF ((((a1.text || (sEq a0.Text (⟨#[]⟩ : ByteArray))) && (a1.num || (a0.Num == (0 : Int)))) && (a1.bounds || ((a0.Low == (0 : Int)) && (a0.High == (0 : Int))))) && (a1.real || r1)) a1.list).1 (giF ((((a1.text || (sEq a0.Text (⟨#[]⟩ : ByteArray))) && (a1.num || (a0.Num == (0 : Int)))) && (a1.bounds || ((a0.Low == (0 : Int)) && (a0.High == (0 : Int))))) && (a1.real || r1)) a1.list).2 rfl rfl (fun e he => by rw [List.mem_singleton.1 he]) (fun hG => ob_fieldAddr fl_38_5 rfl rfl Opd.t0))
        (allOT_cons (OT.guard (outs := [(49, (pInt .i64 a0.Cap))]) (((((a1.text || (sEq a0.Text (⟨#[]⟩ : ByteArray))) && (a1.num || (a0.Num == (0 : Int)))) && (a1.bounds || ((a0.Low == (0 : Int)) && (a0.High == (0 : Int))))) && (a1.real || r1)) && (!a1.list)) (giF ((((a1.text || (sEq a0.Text (⟨#[]⟩ : ByteArray))) && (a1.num || (a0.Num == (0 : Int)))) && (a1.bounds || ((a0.Low == (0 : Int)) && (a0.High == (0 : Int))))) && (a1.real || r1)) a1.list).1 (giF ((((a1.text || (sEq a0.Text (⟨#[]⟩ : ByteArray))) && (a1.num || (a0.Num == (0 : Int)))) && (a1.bounds || ((a0.Low == (0 : Int)) && (a0.High == (0 : Int))))) && (a1.real || r1)) a1.list).2 rfl rfl (fun e he => by rw [List.mem_singleton.1 he]) (fun hG => ob_load ty_3 rfl rfl (Opd.gd hG Opd.t0)))
        (allOT_cons (OT.guard (outs := [(50, (pBool (a0.Cap == (0 : Int))))]) (((((a1.text || (sEq a0.Text (⟨#[]⟩ : ByteArray))) && (a1.num || (a0.Num == (0 : Int)))) && (a1.bounds || ((a0.Low == (0 : Int)) && (a0.High == (0 : Int))))) && (a1.real || r1)) && (!a1.list)) (giF ((((a1.text || (sEq a0.Text (⟨#[]⟩ : ByteArray))) && (a1.num || (a0.Num == (0 : Int)))) && (a1.bounds || ((a0.Low == (0 : Int)) && (a0.High == (0 : Int))))) && (a1.real || r1)) a1.list).1 (giF ((((a1.text || (sEq a0.Text (⟨#[]⟩ : ByteArray))) && (a1.num || (a0.Num == (0 : Int)))) && (a1.bounds || ((a0.Low == (0 : Int)) && (a0.High == (0 : Int))))) && (a1.real || r1)) a1.list).2 rfl rfl (fun e he => by rw [List.mem_singleton.1 he]) (fun hG => ob_eq rfl rfl (Opd.gd hG Opd.t0) (Opd.c (int_q _ _))))
        (allOT_cons (OT.guard (outs := [(51, (pBool (a0.Cap == (0 : Int))))]) (((((a1.text || (sEq a0.Text (⟨#[]⟩ : ByteArray))) && (a1.num || (a0.Num == (0 : Int)))) && (a1.bounds || ((a0.Low == (0 : Int)) && (a0.High == (0 : Int))))) && (a1.real || r1)) && (!a1.list)) (giF ((((a1.text || (sEq a0.Text (⟨#[]⟩ : ByteArray))) && (a1.num || (a0.Num == (0 : Int)))) && (a1.bounds || ((a0.Low == (0 : Int)) && (a0.High == (0 : Int))))) && (a1.real || r1)) a1.list).1 (giF ((((a1.text || (sEq a0.Text (⟨#[]⟩ : ByteArray))) && (a1.num || (a0.Num == (0 : Int)))) && (a1.bounds || ((a0.Low == (0 : Int)) && (a0.High == (0 : Int))))) && (a1.real || r1)) a1.list).2 rfl rfl (fun e he => by rw [List.mem_singleton.1 he]) (fun hG => ob_move rfl rfl (Opd.gd hG Opd.t0)))
        (allOT_cons (OT.guard (outs := [(52, (k_api_Item.sl.ptr a0.List))]) ((((((a1.text || (sEq a0.Text (⟨#[]⟩ : ByteArray))) && (a1.num || (a0.Num == (0 : Int)))) && (a1.bounds || ((a0.Low == (0 : Int)) && (a0.High == (0 : Int))))) && (a1.real || r1)) && (!a1.list)) && (a0.Cap == (0 : Int))) (giT (((((a1.text || (sEq a0.Text (⟨#[]⟩ : ByteArray))) && (a1.num || (a0.Num == (0 : Int)))) && (a1.bounds || ((a0.Low == (0 : Int)) && (a0.High == (0 : Int))))) && (a1.real || r1)) && (!a1.list)) (a0.Cap == (0 : Int))).1 (giT (((((a1.text || (sEq a0.Text (⟨#[]⟩ : ByteArray))) && (a1.num || (a0.Num == (0 : Int)))) && (a1.bounds || ((a0.Low == (0 : Int)) && (a0.High == (0 : Int))))) && (a1.real || r1)) && (!a1.list)) (a0.Cap == (0 : Int))).2 rfl rfl (fun e he => by rw [List.mem_singleton.1 he]) (fun hG => ob_fieldAddr fl_38_7 rfl rfl Opd.t0))
        (allOT_cons (OT.guard (outs := [(53, (k_api_Item.sl.pd a0.List))]) ((((((a1.text || (sEq a0.Text (⟨#[]⟩ : ByteArray))) && (a1.num || (a0.Num == (0 : Int)))) && (a1.bounds || ((a0.Low == (0 : Int)) && (a0.High == (0 : Int))))) && (a1.real || r1)) && (!a1.list)) && (a0.Cap == (0 : Int))) (giT (((((a1.text || (sEq a0.Text (⟨#[]⟩ : ByteArray))) && (a1.num || (a0.Num == (0 : Int)))) && (a1.bounds || ((a0.Low == (0 : Int)) && (a0.High == (0 : Int))))) && (a1.real || r1)) && (!a1.list)) (a0.Cap == (0 : Int))).1 (giT (((((a1.text || (sEq a0.Text (⟨#[]⟩ : ByteArray))) && (a1.num || (a0.Num == (0 : Int)))) && (a1.bounds || ((a0.Low == (0 : Int)) && (a0.High == (0 : Int))))) && (a1.real || r1)) && (!a1.list)) (a0.Cap == (0 : Int))).2 rfl rfl (fun e he => by rw [List.mem_singleton.1 he]) (fun hG => ob_load ty_36 rfl rfl (Opd.gd hG Opd.t0)))
        (allOT_cons (OT.guard (outs := [(54, (pInt .i64 (a0.List.length : Int)))]) ((((((a1.text || (sEq a0.Text (⟨#[]⟩ : ByteArray))) && (a1.num || (a0.Num == (0 : Int)))) && (a1.bounds || ((a0.Low == (0 : Int)) && (a0.High == (0 : Int))))) && (a1.real || r1)) && (!a1.list)) && (a0.Cap == (0 : Int))) (giT (((((a1.text || (sEq a0.Text (⟨#[]⟩ : ByteArray))) && (a1.num || (a0.Num == (0 : Int)))) && (a1.bounds || ((a0.Low == (0 : Int)) && (a0.High == (0 : Int))))) && (a1.real || r1)) && (!a1.list)) (a0.Cap == (0 : Int))).1 (giT (((((a1.text || (sEq a0.Text (⟨#[]⟩ : ByteArray))) && (a1.num || (a0.Num == (0 : Int)))) && (a1.bounds || ((a0.Low == (0 : Int)) && (a0.High == (0 : Int))))) && (a1.real || r1)) && (!a1.list)) (a0.Cap == (0 : Int))).2 rfl rfl (fun e he => by rw [List.mem_singleton.1 he]) (fun hG => ob_lenL Try.underlying36 rfl rfl (Opd.gd hG Opd.t0)))
        (allOT_cons (OT.guard (outs := [(55, (pBool ((a0.List.length : Int) == (0 : Int))))]) ((((((a1.text || (sEq a0.Text (⟨#[]⟩ : ByteArray))) && (a1.num || (a0.Num == (0 : Int)))) && (a1.bounds || ((a0.Low == (0 : Int)) && (a0.High == (0 : Int))))) && (a1.real || r1)) && (!a1.list)) && (a0.Cap == (0 : Int))) (giT (((((a1.text || (sEq a0.Text (⟨#[]⟩ : ByteArray))) && (a1.num || (a0.Num == (0 : Int)))) && (a1.bounds || ((a0.Low == (0 : Int)) && (a0.High == (0 : Int))))) && (a1.real || r1)) && (!a1.list)) (a0.Cap == (0 : Int))).1 (giT (((((a1.text || (sEq a0.Text (⟨#[]⟩ : ByteArray))) && (a1.num || (a0.Num == (0 : Int)))) && (a1.bounds || ((a0.Low == (0 : Int)) && (a0.High == (0 : Int))))) && (a1.real || r1)) && (!a1.list)) (a0.Cap == (0 : Int))).2 rfl rfl (fun e he => by rw [List.mem_singleton.1 he]) (fun hG => ob_eq rfl rfl (Opd.gd hG Opd.t0) (Opd.c (int_q _ _))))
        (allOT_cons (OT.guard (outs := [(56, (pBool ((a0.Cap == (0 : Int)) && ((a0.List.length : Int) == (0 : Int)))))]) (((((a1.text || (sEq a0.Text (⟨#[]⟩ : ByteArray))) && (a1.num || (a0.Num == (0 : Int)))) && (a1.bounds || ((a0.Low == (0 : Int)) && (a0.High == (0 : Int))))) && (a1.real || r1)) && (!a1.list)) (giF ((((a1.text || (sEq a0.Text (⟨#[]⟩ : ByteArray))) && (a1.num || (a0.Num == (0 : Int)))) && (a1.bounds || ((a0.Low == (0 : Int)) && (a0.High == (0 : Int))))) && (a1.real || r1)) a1.list).1 (giF ((((a1.text || (sEq a0.Text (⟨#[]⟩ : ByteArray))) && (a1.num || (a0.Num == (0 : Int)))) && (a1.bounds || ((a0.Low == (0 : Int)) && (a0.High == (0 : Int))))) && (a1.real || r1)) a1.list).2 rfl rfl (fun e he => by rw [List.mem_singleton.1 he]) (fun hG => ob_pick (q := (pBool ((a0.Cap == (0 : Int)) && ((a0.List.length : Int) == (0 : Int))))) rfl rfl (Opd.gd hG Opd.t0) (fun hz => Opd.to (Opd.gd (bA hG hz) (Opd.tl Opd.t0)) (congrArg (fun t => (pBool t)) (pk_and_t hz))) (fun hz => Opd.to (Opd.c (bool_q _)) (congrArg (fun t => (pBool t)) (pk_and_f hz)))))
        (allOT_cons (OT.guard (outs := [(57, (pBool (a1.list || ((a0.Cap == (0 : Int)) && ((a0.List.length : Int) == (0 : Int))))))]) ((((a1.text || (sEq a0.Text (⟨#[]⟩ : ByteArray))) && (a1.num || (a0.Num == (0 : Int)))) && (a1.bounds || ((a0.Low == (0 : Int)) && (a0.High == (0 : Int))))) && (a1.real || r1)) (gT ((((a1.text || (sEq a0.Text (⟨#[]⟩ : ByteArray))) && (a1.num || (a0.Num == (0 : Int)))) && (a1.bounds || ((a0.Low == (0 : Int)) && (a0.High == (0 : Int))))) && (a1.real || r1))).1 (gT ((((a1.text || (sEq a0.Text (⟨#[]⟩ : ByteArray))) && (a1.num || (a0.Num == (0 : Int)))) && (a1.bounds || ((a0.Low == (0 : Int)) && (a0.High == (0 : Int))))) && (a1.real || r1))).2 rfl rfl (fun e he => by rw [List.mem_singleton.1 he]) (fun hG => ob_pick (q := (pBool (a1.list || ((a0.Cap == (0 : Int)) && ((a0.List.length : Int) == (0 : Int)))))) rfl rfl (Opd.gd hG Opd.t0) (fun hz => Opd.to (Opd.c (bool_q _)) (congrArg (fun t => (pBool t)) (pk_or_t hz))) (fun hz => Opd.to (Opd.gd (bA hG (bNF hz)) (Opd.tl Opd.t0)) (congrArg (fun t => (pBool t)) (pk_or_f hz)))))
        (allOT_cons (OT.plain rfl (ob_pick (q := (pBool (((((a1.text || (sEq a0.Text (⟨#[]⟩ : ByteArray))) && (a1.num || (a0.Num == (0 : Int)))) && (a1.bounds || ((a0.Low == (0 : Int)) && (a0.High == (0 : Int))))) && (a1.real || r1)) && (a1.list || ((a0.Cap == (0 : Int)) && ((a0.List.length : Int) == (0 : Int))))))) rfl rfl Opd.t0 (fun hz => Opd.to (Opd.gd hz (Opd.tl Opd.t0)) (congrArg (fun t => (pBool t)) (pk_and_t hz))) (fun hz => Opd.to (Opd.c (bool_q _)) (congrArg (fun t => (pBool t)) (pk_and_f hz)))))
        (allOT_cons (OT.plain rfl (ob_assign rfl rfl Opd.t0))
        allOT_nil)))))))))))))))))))))))))))))))))))))))))))))))))))))))
      hst hb (fun a g hst hb => ?_)
  refine then_n ?_
  refine wp_ret ?_
  obtain rfl := Option.some.inj H0
  exact endR1 rfl hst hb (res_tmp (s := 4)) (hst.at 0 rfl)
end Go.CL

set_option linter.unusedVariables false
set_option linter.unusedSimpArgs false
set_option maxRecDepth 100000
namespace Go.CL
open Go Go.RowKit Go.Proofs
theorem flo_Proper_ok (a0 : Nat) {r : Bool} (h : flo_Proper a0 = some r) : FnOk Try.prog 49 [(pFlt a0)] (pBool r) := by
  have H0 := h
  unfold flo_Proper at H0
  clear h
  refine fn_ok (N := 9) Try.func49 rfl rfl (Nat.le_of_ble_eq_true rfl) rfl rfl (fun a g0 hst hb => ?_)
  refine wp_seq ?_
  refine wp_reg follows (N := 9) (L := [(0, (pFlt a0))])
      (T := [⟨[], [(2, (pBool false))], [], [], [2]⟩])
      (F := [.old 0]) (by kernel_rfl)
      (allOT_cons (OT.plain rfl (ob_assign rfl rfl (Opd.c (bool_q _))))
        allOT_nil)
      hst hb (fun a g hst hb => ?_)
  refine then_n ?_
  refine wp_seq ?_
  obtain ⟨r1, h2, H0⟩ := of_bind H0
  refine wp_reg follows (N := 9) (L := [(0, (pFlt a0))])
      (T := [⟨[.old 0], [(3, (pFlt a0))], [], [], [3]⟩,
        ⟨[.op 0 0], [(4, (pInt .u64 (a0 : Int)))], [], [0], [4]⟩,
        ⟨[.old 0], [(5, (pFlt a0))], [], [], [5]⟩,
        ⟨[.op 2 0], [(6, (pFlt r1))], [], [0, 1, 2], [6]⟩,
        ⟨[.op 3 0], [(7, (pInt .u64 (r1 : Int)))], [], [0, 1, 2, 3], [7]⟩,
        ⟨[.op 1 0, .op 4 0], [(8, (pBool ((a0 : Int) == (r1 : Int))))], [], [0, 1, 2, 3, 4], [8]⟩,
        ⟨[.op 5 0], [(2, (pBool ((a0 : Int) == (r1 : Int))))], [], [0, 1, 2, 3, 4, 5], [2]⟩])
      (F := [.op 6 0]) (by kernel_rfl)
      (allOT_cons (OT.plain rfl (ob_move rfl rfl Opd.t0))
        (allOT_cons (OT.plain rfl (ob_bits ex_60 rfl rfl Opd.t0))
        (allOT_cons (OT.plain rfl (ob_move rfl rfl Opd.t0))
        (allOT_cons (OT.plain rfl (ob_call en_61 (flo_Canon_ok _ h2) rfl rfl (.cons Opd.t0 .nil)))
        (allOT_cons (OT.plain rfl (ob_bits ex_60 rfl rfl Opd.t0))
        (allOT_cons (OT.plain rfl (ob_eq rfl rfl Opd.t0 (Opd.tl Opd.t0)))
        (allOT_cons (OT.plain rfl (ob_assign rfl rfl Opd.t0))
        allOT_nil)))))))
      hst hb (fun a g hst hb => ?_)
  refine then_n ?_
  refine wp_ret ?_
  obtain rfl := Option.some.inj H0
  exact endR1 rfl hst hb (res_tmp (s := 2)) (hst.at 0 rfl)
end Go.CL

set_option linter.unusedVariables false
set_option linter.unusedSimpArgs false
set_option maxRecDepth 100000
namespace Go.CL
open Go Go.RowKit Go.Proofs
theorem flo_Less_ok (a0 : Nat) (a1 : Nat) {r : Bool} (h : flo_Less a0 a1 = some r) : FnOk Try.prog 69 [(pFlt a0), (pFlt a1)] (pBool r) := by
  have H0 := h
  unfold flo_Less at H0
  clear h
  refine fn_ok (N := 10) Try.func69 rfl rfl (Nat.le_of_ble_eq_true rfl) rfl rfl (fun a g0 hst hb => ?_)
  refine wp_seq ?_
  refine wp_reg follows (N := 10) (L := [(0, (pFlt a0)), (1, (pFlt a1))])
      (T := [⟨[], [(4, (pBool false))], [], [], [4]⟩])
      (F := [.old 0, .old 1]) (by kernel_rfl)
      (allOT_cons (OT.plain rfl (ob_assign rfl rfl (Opd.c (bool_q _))))
        allOT_nil)
      hst hb (fun a g hst hb => ?_)
  refine then_n ?_
  refine wp_seq ?_
  obtain ⟨r1, h2, H0⟩ := of_bind H0
  obtain ⟨r3, h4, H0⟩ := of_bind H0
  refine wp_reg follows (N := 10) (L := [(0, (pFlt a0)), (1, (pFlt a1))])
      (T := [⟨[.old 0], [(5, (pFlt a0))], [], [], [5]⟩,
        ⟨[.op 0 0], [(6, (pInt .u64 r1))], [], [0], [6]⟩,
        ⟨[.old 1], [(7, (pFlt a1))], [], [], [7]⟩,
        ⟨[.op 2 0], [(8, (pInt .u64 r3))], [], [0, 1, 2], [8]⟩,
        ⟨[.op 1 0, .op 3 0], [(9, (pBool (decide (r1 < r3))))], [], [0, 1, 2, 3], [9]⟩,
        ⟨[.op 4 0], [(4, (pBool (decide (r1 < r3))))], [], [0, 1, 2, 3, 4], [4]⟩])
      (F := [.op 5 0]) (by kernel_rfl)
      (allOT_cons (OT.plain rfl (ob_move rfl rfl Opd.t0))
        (allOT_cons (OT.plain rfl (ob_call en_55 (flo_Key_ok _ h2) rfl rfl (.cons Opd.t0 .nil)))
        (allOT_cons (OT.plain rfl (ob_move rfl rfl Opd.t0))
        (allOT_cons (OT.plain rfl (ob_call en_55 (flo_Key_ok _ h4) rfl rfl (.cons Opd.t0 .nil)))
        (allOT_cons (OT.plain rfl (ob_lt rfl rfl Opd.t0 (Opd.tl Opd.t0)))
        (allOT_cons (OT.plain rfl (ob_assign rfl rfl Opd.t0))
        allOT_nil))))))
      hst hb (fun a g hst hb => ?_)
  refine then_n ?_
  refine wp_ret ?_
  obtain rfl := Option.some.inj H0
  exact endR1 rfl hst hb (res_tmp (s := 4)) (hst.at 0 rfl)
end Go.CL

set_option linter.unusedVariables false
set_option linter.unusedSimpArgs false
set_option maxRecDepth 100000
namespace Go.CL
open Go Go.RowKit Go.Proofs
theorem rec_Better_ok (a0 : api_Item) (a1 : api_Item) {r : Bool} (h : rec_Better a0 a1 = some r) : FnOk Try.prog 62 [(k_api_Item.pd a0), (k_api_Item.pd a1)] (pBool r) := by
  have H0 := h
  unfold rec_Better at H0
  clear h
  refine fn_ok (N := 21) Try.func62 rfl rfl (Nat.le_of_ble_eq_true rfl) rfl rfl (fun a g0 hst hb => ?_)
  refine wp_seq ?_
  refine wp_reg follows (N := 21) (L := [(0, (k_api_Item.pd a0)), (1, (k_api_Item.pd a1))])
      (T := [⟨[.old 0], [(2, (k_api_Item.ptr a0))], [], [], [2]⟩,
        ⟨[.old 1], [(3, (k_api_Item.ptr a1))], [], [], [3]⟩,
        ⟨[], [(4, (pBool false))], [], [], [4]⟩])
      (F := [.op 0 0, .op 1 0]) (by kernel_rfl)
      (allOT_cons (OT.plain rfl (ob_box1 rfl rfl Opd.t0))
        (allOT_cons (OT.plain rfl (ob_box1 rfl rfl Opd.t0))
        (allOT_cons (OT.plain rfl (ob_assign rfl rfl (Opd.c (bool_q _))))
        allOT_nil)))
      hst hb (fun a g hst hb => ?_)
  refine then_n ?_
  refine wp_seq ?_
  refine wp_seq ?_
  obtain ⟨r1, h2, H0⟩ := of_bind H0
  refine wp_reg follows (N := 21) (L := [(2, (k_api_Item.ptr a0)), (3, (k_api_Item.ptr a1))])
      (T := [⟨[.old 0], [(5, (Kd.flt.ptr a0.Score))], [], [], [5]⟩,
        ⟨[.op 0 0], [(6, (pFlt a0.Score))], [], [0], [6]⟩,
        ⟨[.old 1], [(7, (Kd.flt.ptr a1.Score))], [], [], [7]⟩,
        ⟨[.op 2 0], [(8, (pFlt a1.Score))], [], [2], [8]⟩,
        ⟨[.op 1 0, .op 3 0], [(9, (pBool r1))], [], [0, 1, 2, 3], [9]⟩,
        ⟨[.op 4 0], [(10, (pBool (!r1)))], [], [0, 1, 2, 3, 4], [10]⟩])
      (F := [.old 0, .old 1, .op 5 0]) (by kernel_rfl)
      (allOT_cons (OT.plain rfl (ob_fieldAddr fl_64_0 rfl rfl Opd.t0))
        (allOT_cons (OT.plain rfl (ob_load ty_35 rfl rfl Opd.t0))
        (allOT_cons (OT.plain rfl (ob_fieldAddr fl_64_0 rfl rfl Opd.t0))
        (allOT_cons (OT.plain rfl (ob_load ty_35 rfl rfl Opd.t0))
        (allOT_cons (OT.plain rfl (ob_call en_42 (flo_Same_ok _ _ h2) rfl rfl (.cons Opd.t0 (.cons (Opd.tl Opd.t0) .nil))))
        (allOT_cons (OT.plain rfl (ob_not rfl rfl Opd.t0))
        allOT_nil))))))
      hst hb (fun a g hst hb => ?_)
  refine then_n ?_
  refine wp_cond_split (hst.bool 2 rfl) (fun hc3 => ?_) (fun hc3 => ?_)
  · replace H0 := ite_t hc3 H0
    refine wp_seq ?_
    obtain ⟨r4, h5, H0⟩ := of_bind H0
    refine wp_reg follows (N := 21) (L := [(2, (k_api_Item.ptr a0)), (3, (k_api_Item.ptr a1))])
        (T := [⟨[.old 1], [(11, (Kd.flt.ptr a1.Score))], [], [], [11]⟩,
          ⟨[.op 0 0], [(12, (pFlt a1.Score))], [], [0], [12]⟩,
          ⟨[.old 0], [(13, (Kd.flt.ptr a0.Score))], [], [], [13]⟩,
          ⟨[.op 2 0], [(14, (pFlt a0.Score))], [], [2], [14]⟩,
          ⟨[.op 1 0, .op 3 0], [(15, (pBool r4))], [], [0, 1, 2, 3], [15]⟩,
          ⟨[.op 4 0], [(4, (pBool r4))], [], [0, 1, 2, 3, 4], [4]⟩])
        (F := [.op 5 0]) (by kernel_rfl)
        (allOT_cons (OT.plain rfl (ob_fieldAddr fl_64_0 rfl rfl Opd.t0))
          (allOT_cons (OT.plain rfl (ob_load ty_35 rfl rfl Opd.t0))
          (allOT_cons (OT.plain rfl (ob_fieldAddr fl_64_0 rfl rfl Opd.t0))
          (allOT_cons (OT.plain rfl (ob_load ty_35 rfl rfl Opd.t0))
          (allOT_cons (OT.plain rfl (ob_call en_69 (flo_Less_ok _ _ h5) rfl rfl (.cons Opd.t0 (.cons (Opd.tl Opd.t0) .nil))))
          (allOT_cons (OT.plain rfl (ob_assign rfl rfl Opd.t0))
          allOT_nil))))))
        (hst.pick [0, 1] rfl) hb (fun a g hst hb => ?_)
    refine then_n ?_
    refine wp_ret ?_
    refine then_r ?_
    obtain rfl := Option.some.inj H0
    exact endR1 rfl hst hb (res_tmp (s := 4)) (hst.at 0 rfl)
  · replace H0 := ite_f hc3 H0
    refine wp_skip ?_
    refine then_n ?_
    refine wp_seq ?_
    refine wp_reg follows (N := 21) (L := [(2, (k_api_Item.ptr a0)), (3, (k_api_Item.ptr a1))])
        (T := [⟨[.old 0], [(16, (Kd.str.ptr a0.Name))], [], [], [16]⟩,
          ⟨[.op 0 0], [(17, (pStr a0.Name))], [], [0], [17]⟩,
          ⟨[.old 1], [(18, (Kd.str.ptr a1.Name))], [], [], [18]⟩,
          ⟨[.op 2 0], [(19, (pStr a1.Name))], [], [2], [19]⟩,
          ⟨[.op 1 0, .op 3 0], [(20, (pBool (sLt a0.Name a1.Name)))], [], [0, 1, 2, 3], [20]⟩,
          ⟨[.op 4 0], [(4, (pBool (sLt a0.Name a1.Name)))], [], [0, 1, 2, 3, 4], [4]⟩])
        (F := [.op 5 0]) (by kernel_rfl)
        (allOT_cons (OT.plain rfl (ob_fieldAddr fl_64_1 rfl rfl Opd.t0))
          (allOT_cons (OT.plain rfl (ob_load ty_9 rfl rfl Opd.t0))
          (allOT_cons (OT.plain rfl (ob_fieldAddr fl_64_1 rfl rfl Opd.t0))
          (allOT_cons (OT.plain rfl (ob_load ty_9 rfl rfl Opd.t0))
          (allOT_cons (OT.plain rfl (ob_slt rfl rfl Opd.t0 (Opd.tl Opd.t0)))
          (allOT_cons (OT.plain rfl (ob_assign rfl rfl Opd.t0))
          allOT_nil))))))
        (hst.pick [0, 1] rfl) hb (fun a g hst hb => ?_)
    refine then_n ?_
    refine wp_ret ?_
    obtain rfl := Option.some.inj H0
    exact endR1 rfl hst hb (res_tmp (s := 4)) (hst.at 0 rfl)
end Go.CL

set_option linter.unusedVariables false
set_option linter.unusedSimpArgs false
set_option maxRecDepth 100000
namespace Go.CL
open Go Go.RowKit Go.Proofs
theorem rec_items_ok (a0 : Int) (a1 : List api_Item) {r : Int} (h : rec_items a0 a1 = some r) : FnOk Try.prog 50 [(pInt .i64 a0), (k_api_Item.sl.pd a1)] (pInt .i64 r) := by
  have H0 := h
  unfold rec_items at H0
  clear h
  refine fn_ok (N := 70) Try.func50 rfl rfl (Nat.le_of_ble_eq_true rfl) rfl rfl (fun a g0 hst hb => ?_)
  refine wp_seq ?_
  refine wp_reg follows (N := 70) (L := [(0, (pInt .i64 a0)), (1, (k_api_Item.sl.pd a1))])
      (T := [⟨[], [(4, (pInt .i64 (0 : Int)))], [], [], [4]⟩])
      (F := [.old 0, .old 1]) (by kernel_rfl)
      (allOT_cons (OT.plain rfl (ob_assign rfl rfl (Opd.c (int_q _ _))))
        allOT_nil)
      hst hb (fun a g hst hb => ?_)
  refine then_n ?_
  refine wp_seq ?_
  refine wp_seq ?_
  refine wp_reg follows (N := 70) (L := [(0, (pInt .i64 a0)), (1, (k_api_Item.sl.pd a1))])
      (T := [⟨[.old 1], [(7, (k_api_Item.sl.pd a1))], [], [], [7]⟩,
        ⟨[.op 0 0], [(8, (pInt .i64 (a1.length : Int)))], [], [0], [8]⟩,
        ⟨[], [(9, (pInt .i64 (0 : Int)))], [], [], [9]⟩])
      (F := [.old 0, .old 1, .op 0 0, .op 1 0, .op 2 0]) (by kernel_rfl)
      (allOT_cons (OT.plain rfl (ob_move rfl rfl Opd.t0))
        (allOT_cons (OT.plain rfl (ob_lenL Try.underlying36 rfl rfl Opd.t0))
        (allOT_cons (OT.plain rfl (ob_move rfl rfl (Opd.c (int_q _ _))))
        allOT_nil)))
      hst hb (fun a g hst hb => ?_)
  refine then_n ?_
  obtain ⟨z19, hz1, H0⟩ := of_bind H0
  refine wp_cut (fun a w => ∃ (g : G), w = g.w ∧ St 70 [] a g ∧ Base g0 g ∧ (.inr ()) = z19) ?_ ?_
  · rintro a w ⟨g, rfl, hst, hb, rfl⟩
    refine then_n ?_
    refine wp_seq ?_
    refine wp_reg follows (N := 70) (L := [])
        (T := [⟨[], [(4, (pInt .i64 (0 : Int)))], [], [], [4]⟩])
        (F := [.op 0 0]) (by kernel_rfl)
        (allOT_cons (OT.plain rfl (ob_assign rfl rfl (Opd.c (int_q _ _))))
          allOT_nil)
        hst hb (fun a g hst hb => ?_)
    refine then_n ?_
    refine wp_ret ?_
    obtain rfl := Option.some.inj H0
    exact endR1 rfl hst hb (res_tmp (s := 4)) (hst.at 0 rfl)
  · refine wp_block ?_
    refine wp_loop_ghost (fun n a w => ∃ (x1 : Int) (g : G), w = g.w ∧ St 70 [(0, (pInt .i64 a0)), (1, (k_api_Item.sl.pd a1)), (7, (k_api_Item.sl.pd a1)), (8, (pInt .i64 (a1.length : Int))), (9, (pInt .i64 x1))] a g ∧ Base g0 g ∧ rec_items_l1 a0 a1 n x1 = some z19) (Int.toNat ((a1.length : Int) - (0 : Int)) + 1) ⟨(0 : Int), g, rfl, (hst.pick [0, 1, 2, 3, 4] rfl), hb, hz1⟩ (fun n a w hI => ?_)
    obtain ⟨x1, g, rfl, hst, hb, H1⟩ := hI
    cases n with
    | zero => exact absurd H1 (by simp [rec_items_l1])
    | succ n =>
      rw [rec_items_l1] at H1
      refine wp_seq ?_
      refine wp_reg follows (N := 70) (L := [(0, (pInt .i64 a0)), (1, (k_api_Item.sl.pd a1)), (7, (k_api_Item.sl.pd a1)), (8, (pInt .i64 (a1.length : Int))), (9, (pInt .i64 x1))])
          (T := [⟨[.old 4, .old 3], [(10, (pBool (decide (x1 < (a1.length : Int)))))], [], [], [10]⟩])
          (F := [.old 0, .old 1, .old 2, .old 3, .old 4, .op 0 0]) (by kernel_rfl)
          (allOT_cons (OT.plain rfl (ob_lt rfl rfl Opd.t0 (Opd.tl Opd.t0)))
            allOT_nil)
          hst hb (fun a g hst hb => ?_)
      refine then_n ?_
      refine wp_seq ?_
      refine wp_cond_split (hst.bool 5 rfl) (fun hc2 => ?_) (fun hc2 => ?_)
      · replace H1 := ite_t hc2 H1
        refine wp_skip ?_
        refine then_n ?_
        refine wp_seq ?_
        refine wp_block ?_
        refine wp_seq ?_
        obtain ⟨e3, h4, H1⟩ := of_bind H1
        refine wp_reg follows (N := 70) (L := [(0, (pInt .i64 a0)), (1, (k_api_Item.sl.pd a1)), (7, (k_api_Item.sl.pd a1)), (8, (pInt .i64 (a1.length : Int))), (9, (pInt .i64 x1))])
            (T := [⟨[.old 4], [(11, (pInt .i64 x1))], [], [], [11]⟩,
              ⟨[.old 2, .old 4], [(12, (k_api_Item.ptr e3))], [], [], [12]⟩,
              ⟨[.op 1 0], [(13, (k_api_Item.pd e3))], [], [1], [13]⟩,
              ⟨[], [(6, (pBox k_api_Item 6 (default : api_Item)))], [7], [], [6]⟩,
              ⟨[.op 0 0], [(5, (pInt .i64 x1))], [], [0, 1, 2, 3], [5]⟩,
              ⟨[.op 2 0, .op 3 0], [(6, (k_api_Item.ptr e3))], [7], [0, 1, 2, 3, 4], [6]⟩])
            (F := [.old 0, .old 1, .op 4 0, .op 5 0, .old 2, .old 3, .old 4]) (by kernel_rfl)
            (allOT_cons (OT.plain rfl (ob_move rfl rfl Opd.t0))
              (allOT_cons (OT.plain rfl (ob_indexAddr Try.underlying36 sz_64 rfl rfl Opd.t0 (Opd.tl Opd.t0) h4))
              (allOT_cons (OT.plain rfl (ob_load ty_64 rfl rfl Opd.t0))
              (allOT_cons (OT.plain rfl (ob_alloc (zs := [.float .f64 0, .string ByteArray.empty]) (by kernel_rfl) (fun g => zk_api_Item g) rfl rfl))
              (allOT_cons (OT.plain rfl (ob_assign rfl rfl Opd.t0))
              (allOT_cons (OT.plain rfl (ob_storeF ty_64 rfl rfl (Opd.tl Opd.t0) Opd.t0))
              allOT_nil))))))
            (hst.pick [0, 1, 2, 3, 4] rfl) hb (fun a g hst hb => ?_)
        refine then_n ?_
        refine wp_block ?_
        refine wp_seq ?_
        refine wp_reg follows (N := 70) (L := [(0, (pInt .i64 a0)), (1, (k_api_Item.sl.pd a1)), (5, (pInt .i64 x1)), (6, (k_api_Item.ptr e3)), (7, (k_api_Item.sl.pd a1)), (8, (pInt .i64 (a1.length : Int))), (9, (pInt .i64 x1))])
            (T := [⟨[.old 3], [(15, (Kd.str.ptr e3.Name))], [], [], [15]⟩,
              ⟨[.op 0 0], [(16, (pStr e3.Name))], [], [0], [16]⟩,
              ⟨[.op 1 0], [(17, (pInt .i64 (e3.Name.size : Int)))], [], [0, 1], [17]⟩,
              ⟨[.op 2 0], [(18, (pBool (decide ((16 : Int) < (e3.Name.size : Int)))))], [], [0, 1, 2], [18]⟩,
              ⟨[.op 3 0], [(14, (pBool (decide ((16 : Int) < (e3.Name.size : Int)))))], [], [0, 1, 2, 3], [14]⟩])
            (F := [.old 0, .old 1, .old 2, .old 3, .old 4, .old 5, .old 6, .op 4 0]) (by kernel_rfl)
            (allOT_cons (OT.plain rfl (ob_fieldAddr fl_64_1 rfl rfl Opd.t0))
              (allOT_cons (OT.plain rfl (ob_load ty_9 rfl rfl Opd.t0))
              (allOT_cons (OT.plain rfl (ob_lenS Try.underlying9 rfl rfl Opd.t0))
              (allOT_cons (OT.plain rfl (ob_gt rfl rfl Opd.t0 (Opd.c (int_q _ _))))
              (allOT_cons (OT.plain rfl (ob_assign rfl rfl Opd.t0))
              allOT_nil)))))
            hst hb (fun a g hst hb => ?_)
        refine then_n ?_
        refine wp_cond_split (hst.bool 7 rfl) (fun hc5 => ?_) (fun hc5 => ?_)
        · replace H1 := ite_t hc5 H1
          refine wp_seq ?_
          refine wp_reg follows (N := 70) (L := [])
              (T := [⟨[], [(4, (pInt .i64 (3 : Int)))], [], [], [4]⟩])
              (F := [.op 0 0]) (by kernel_rfl)
              (allOT_cons (OT.plain rfl (ob_assign rfl rfl (Opd.c (int_q _ _))))
                allOT_nil)
              (hst.pick [] rfl) hb (fun a g hst hb => ?_)
          refine then_n ?_
          refine wp_ret ?_
          refine inBlock_r ?_
          refine inBlock_r ?_
          refine then_r ?_
          refine then_r ?_
          refine inBlock_r ?_
          refine then_r ?_
          refine then_r ?_
          obtain rfl := Option.some.inj H1
          obtain rfl := Option.some.inj H0
          exact endR1 rfl hst hb (res_tmp (s := 4)) (hst.at 0 rfl)
        · replace H1 := ite_f hc5 H1
          refine wp_seq ?_
          obtain ⟨r6, h7, H1⟩ := of_bind H1
          obtain ⟨r8, h9, H1⟩ := of_bind H1
          refine wp_reg follows (N := 70) (L := [(0, (pInt .i64 a0)), (1, (k_api_Item.sl.pd a1)), (5, (pInt .i64 x1)), (6, (k_api_Item.ptr e3)), (7, (k_api_Item.sl.pd a1)), (8, (pInt .i64 (a1.length : Int))), (9, (pInt .i64 x1))])
              (T := [⟨[.old 0], [(20, (pInt .i64 a0))], [], [], [20]⟩,
                ⟨[.op 0 0], [(21, (pBool (a0 == (8 : Int))))], [], [0], [21]⟩,
                ⟨[.op 1 0], [(22, (pBool (a0 == (8 : Int))))], [], [0, 1], [22]⟩,
                ⟨[.op 2 0, .old 3], [(23, (pIf (a0 == (8 : Int)) (Kd.flt.ptr e3.Score)))], [], [0, 1, 2], [23]⟩,
                ⟨[.op 2 0, .op 3 0], [(24, (pIf (a0 == (8 : Int)) (pFlt e3.Score)))], [], [0, 1, 2, 3], [24]⟩,
                ⟨[.op 2 0, .op 4 0], [(25, (pIf (a0 == (8 : Int)) (pBool r6)))], [], [0, 1, 2, 3, 4], [25]⟩,
                ⟨[.op 2 0, .op 5 0], [(26, (pIf (a0 == (8 : Int)) (pBool (!r6))))], [], [0, 1, 2, 3, 4, 5], [26]⟩,
                ⟨[.op 2 0, .op 6 0], [(27, (pBool ((a0 == (8 : Int)) && (!r6))))], [], [0, 1, 2, 3, 4, 5, 6], [27]⟩,
                ⟨[.op 7 0], [(28, (pBool ((a0 == (8 : Int)) && (!r6))))], [], [0, 1, 2, 3, 4, 5, 6, 7], [28]⟩,
                ⟨[.op 8 0, .old 3], [(29, (pIf (!((a0 == (8 : Int)) && (!r6))) (Kd.flt.ptr e3.Score)))], [], [0, 1, 2, 3, 4, 5, 6, 7, 8], [29]⟩,
                ⟨[.op 8 0, .op 9 0], [(30, (pIf (!((a0 == (8 : Int)) && (!r6))) (pFlt e3.Score)))], [], [0, 1, 2, 3, 4, 5, 6, 7, 8, 9], [30]⟩,
                ⟨[.op 8 0, .op 10 0], [(31, (pIf (!((a0 == (8 : Int)) && (!r6))) (pBool r8)))], [], [0, 1, 2, 3, 4, 5, 6, 7, 8, 9, 10], [31]⟩,
                ⟨[.op 8 0, .op 11 0], [(32, (pIf (!((a0 == (8 : Int)) && (!r6))) (pBool (!r8))))], [], [0, 1, 2, 3, 4, 5, 6, 7, 8, 9, 10, 11], [32]⟩,
                ⟨[.op 8 0, .op 12 0], [(33, (pBool (((a0 == (8 : Int)) && (!r6)) || (!r8))))], [], [0, 1, 2, 3, 4, 5, 6, 7, 8, 9, 10, 11, 12], [33]⟩,
                ⟨[.op 13 0], [(19, (pBool (((a0 == (8 : Int)) && (!r6)) || (!r8))))], [], [0, 1, 2, 3, 4, 5, 6, 7, 8, 9, 10, 11, 12, 13], [19]⟩])
              (F := [.old 0, .old 1, .old 2, .old 3, .old 4, .old 5, .old 6, .op 14 0]) (by kernel_rfl)
              (allOT_cons (OT.plain rfl (ob_move rfl rfl Opd.t0))
                (allOT_cons (OT.plain rfl (ob_eq rfl rfl Opd.t0 (Opd.c (int_q _ _))))
                (allOT_cons (OT.plain rfl (ob_move rfl rfl Opd.t0))
                (allOT_cons (OT.guard (outs := [(23, (Kd.flt.ptr e3.Score))]) (a0 == (8 : Int)) (gT (a0 == (8 : Int))).1 (gT (a0 == (8 : Int))).2 rfl rfl (fun e he => by rw [List.mem_singleton.1 he]) (fun hG => ob_fieldAddr fl_64_0 rfl rfl Opd.t0))
                (allOT_cons (OT.guard (outs := [(24, (pFlt e3.Score))]) (a0 == (8 : Int)) (gT (a0 == (8 : Int))).1 (gT (a0 == (8 : Int))).2 rfl rfl (fun e he => by rw [List.mem_singleton.1 he]) (fun hG => ob_load ty_35 rfl rfl (Opd.gd hG Opd.t0)))
                (allOT_cons (OT.guard (outs := [(25, (pBool r6))]) (a0 == (8 : Int)) (gT (a0 == (8 : Int))).1 (gT (a0 == (8 : Int))).2 rfl rfl (fun e he => by rw [List.mem_singleton.1 he]) (fun hG => ob_call en_42 (flo_Same_ok _ _ (gd_true h7 hG)) rfl rfl (.cons (Opd.gd hG Opd.t0) (.cons (Opd.c (fun _ => pFlt_iff.2 rfl)) .nil))))
                (allOT_cons (OT.guard (outs := [(26, (pBool (!r6)))]) (a0 == (8 : Int)) (gT (a0 == (8 : Int))).1 (gT (a0 == (8 : Int))).2 rfl rfl (fun e he => by rw [List.mem_singleton.1 he]) (fun hG => ob_not rfl rfl (Opd.gd hG Opd.t0)))
                (allOT_cons (OT.plain rfl (ob_pick (q := (pBool ((a0 == (8 : Int)) && (!r6)))) rfl rfl Opd.t0 (fun hz => Opd.to (Opd.gd hz (Opd.tl Opd.t0)) (congrArg (fun t => (pBool t)) (pk_and_t hz))) (fun hz => Opd.to (Opd.c (bool_q _)) (congrArg (fun t => (pBool t)) (pk_and_f hz)))))
                (allOT_cons (OT.plain rfl (ob_move rfl rfl Opd.t0))
                (allOT_cons (OT.guard (outs := [(29, (Kd.flt.ptr e3.Score))]) (!((a0 == (8 : Int)) && (!r6))) (gF ((a0 == (8 : Int)) && (!r6))).1 (gF ((a0 == (8 : Int)) && (!r6))).2 rfl rfl (fun e he => by rw [List.mem_singleton.1 he]) (fun hG => ob_fieldAddr fl_64_0 rfl rfl Opd.t0))
                (allOT_cons (OT.guard (outs := [(30, (pFlt e3.Score))]) (!((a0 == (8 : Int)) && (!r6))) (gF ((a0 == (8 : Int)) && (!r6))).1 (gF ((a0 == (8 : Int)) && (!r6))).2 rfl rfl (fun e he => by rw [List.mem_singleton.1 he]) (fun hG => ob_load ty_35 rfl rfl (Opd.gd hG Opd.t0)))
                (allOT_cons (OT.guard (outs := [(31, (pBool r8))]) (!((a0 == (8 : Int)) && (!r6))) (gF ((a0 == (8 : Int)) && (!r6))).1 (gF ((a0 == (8 : Int)) && (!r6))).2 rfl rfl (fun e he => by rw [List.mem_singleton.1 he]) (fun hG => ob_call en_49 (flo_Proper_ok _ (gd_true h9 hG)) rfl rfl (.cons (Opd.gd hG Opd.t0) .nil)))
                (allOT_cons (OT.guard (outs := [(32, (pBool (!r8)))]) (!((a0 == (8 : Int)) && (!r6))) (gF ((a0 == (8 : Int)) && (!r6))).1 (gF ((a0 == (8 : Int)) && (!r6))).2 rfl rfl (fun e he => by rw [List.mem_singleton.1 he]) (fun hG => ob_not rfl rfl (Opd.gd hG Opd.t0)))
                (allOT_cons (OT.plain rfl (ob_pick (q := (pBool (((a0 == (8 : Int)) && (!r6)) || (!r8)))) rfl rfl Opd.t0 (fun hz => Opd.to (Opd.c (bool_q _)) (congrArg (fun t => (pBool t)) (pk_or_t hz))) (fun hz => Opd.to (Opd.gd (bNF hz) (Opd.tl Opd.t0)) (congrArg (fun t => (pBool t)) (pk_or_f hz)))))
                (allOT_cons (OT.plain rfl (ob_assign rfl rfl Opd.t0))
                allOT_nil)))))))))))))))
              (hst.pick [0, 1, 2, 3, 4, 5, 6] rfl) hb (fun a g hst hb => ?_)
          refine then_n ?_
          refine wp_cond_split (hst.bool 7 rfl) (fun hc10 => ?_) (fun hc10 => ?_)
          · replace H1 := ite_t hc10 H1
            refine wp_seq ?_
            refine wp_reg follows (N := 70) (L := [])
                (T := [⟨[], [(4, (pInt .i64 (4 : Int)))], [], [], [4]⟩])
                (F := [.op 0 0]) (by kernel_rfl)
                (allOT_cons (OT.plain rfl (ob_assign rfl rfl (Opd.c (int_q _ _))))
                  allOT_nil)
                (hst.pick [] rfl) hb (fun a g hst hb => ?_)
            refine then_n ?_
            refine wp_ret ?_
            refine inBlock_r ?_
            refine inBlock_r ?_
            refine then_r ?_
            refine then_r ?_
            refine inBlock_r ?_
            refine then_r ?_
            refine then_r ?_
            obtain rfl := Option.some.inj H1
            obtain rfl := Option.some.inj H0
            exact endR1 rfl hst hb (res_tmp (s := 4)) (hst.at 0 rfl)
          · replace H1 := ite_f hc10 H1
            refine wp_seq ?_
            obtain ⟨e11, h12, H1⟩ := of_bind H1
            refine wp_reg follows (N := 70) (L := [(0, (pInt .i64 a0)), (1, (k_api_Item.sl.pd a1)), (5, (pInt .i64 x1)), (6, (k_api_Item.ptr e3)), (7, (k_api_Item.sl.pd a1)), (8, (pInt .i64 (a1.length : Int))), (9, (pInt .i64 x1))])
                (T := [⟨[.old 2], [(35, (pInt .i64 x1))], [], [], [35]⟩,
                  ⟨[.op 0 0], [(36, (pBool (decide ((0 : Int) < x1))))], [], [0], [36]⟩,
                  ⟨[.op 1 0], [(37, (pBool (decide ((0 : Int) < x1))))], [], [0, 1], [37]⟩,
                  ⟨[.op 2 0, .old 0], [(38, (pIf (decide ((0 : Int) < x1)) (pInt .i64 a0)))], [], [0, 1, 2], [38]⟩,
                  ⟨[.op 2 0, .op 3 0], [(39, (pIf (decide ((0 : Int) < x1)) (pBool (a0 == (8 : Int)))))], [], [0, 1, 2, 3], [39]⟩,
                  ⟨[.op 2 0, .op 4 0], [(40, (pBool ((decide ((0 : Int) < x1)) && (a0 == (8 : Int)))))], [], [0, 1, 2, 3, 4], [40]⟩,
                  ⟨[.op 5 0], [(41, (pBool ((decide ((0 : Int) < x1)) && (a0 == (8 : Int)))))], [], [0, 1, 2, 3, 4, 5], [41]⟩,
                  ⟨[.op 6 0, .old 1], [(42, (pIf ((decide ((0 : Int) < x1)) && (a0 == (8 : Int))) (k_api_Item.sl.pd a1)))], [], [0, 1, 2, 3, 4, 5, 6], [42]⟩,
                  ⟨[.op 6 0, .old 2], [(43, (pIf ((decide ((0 : Int) < x1)) && (a0 == (8 : Int))) (pInt .i64 x1)))], [], [0, 1, 2, 3, 4, 5, 6], [43]⟩,
                  ⟨[.op 6 0, .op 8 0], [(44, (pIf ((decide ((0 : Int) < x1)) && (a0 == (8 : Int))) (pInt .i64 (IntKind.i64.wrap (x1 - (1 : Int))))))], [], [0, 1, 2, 3, 4, 5, 6, 8], [44]⟩,
                  ⟨[.op 6 0, .op 7 0, .op 9 0], [(45, (pIf ((decide ((0 : Int) < x1)) && (a0 == (8 : Int))) (k_api_Item.ptr e11)))], [], [0, 1, 2, 3, 4, 5, 6, 7, 8, 9], [45]⟩,
                  ⟨[.op 6 0, .op 10 0], [(46, (pIf ((decide ((0 : Int) < x1)) && (a0 == (8 : Int))) (Kd.str.ptr e11.Name)))], [], [0, 1, 2, 3, 4, 5, 6, 7, 8, 9, 10], [46]⟩,
                  ⟨[.op 6 0, .op 11 0], [(47, (pIf ((decide ((0 : Int) < x1)) && (a0 == (8 : Int))) (pStr e11.Name)))], [], [0, 1, 2, 3, 4, 5, 6, 7, 8, 9, 10, 11], [47]⟩,
                  ⟨[.op 6 0, .old 3], [(48, (pIf ((decide ((0 : Int) < x1)) && (a0 == (8 : Int))) (Kd.str.ptr e3.Name)))], [], [0, 1, 2, 3, 4, 5, 6], [48]⟩,
                  ⟨[.op 6 0, .op 13 0], [(49, (pIf ((decide ((0 : Int) < x1)) && (a0 == (8 : Int))) (pStr e3.Name)))], [], [0, 1, 2, 3, 4, 5, 6, 13], [49]⟩,
                  ⟨[.op 6 0, .op 12 0, .op 14 0], [(50, (pIf ((decide ((0 : Int) < x1)) && (a0 == (8 : Int))) (pBool (!sLt e11.Name e3.Name))))], [], [0, 1, 2, 3, 4, 5, 6, 7, 8, 9, 10, 11, 12, 13, 14], [50]⟩,
                  ⟨[.op 6 0, .op 15 0], [(51, (pBool (((decide ((0 : Int) < x1)) && (a0 == (8 : Int))) && (!sLt e11.Name e3.Name))))], [], [0, 1, 2, 3, 4, 5, 6, 7, 8, 9, 10, 11, 12, 13, 14, 15], [51]⟩,
                  ⟨[.op 16 0], [(34, (pBool (((decide ((0 : Int) < x1)) && (a0 == (8 : Int))) && (!sLt e11.Name e3.Name))))], [], [0, 1, 2, 3, 4, 5, 6, 7, 8, 9, 10, 11, 12, 13, 14, 15, 16], [34]⟩])
                (F := [.old 0, .old 1, .old 2, .old 3, .old 4, .old 5, .old 6, .op 17 0]) (by kernel_rfl)
                (allOT_cons (OT.plain rfl (ob_move rfl rfl Opd.t0))
                  (allOT_cons (OT.plain rfl (ob_gt rfl rfl Opd.t0 (Opd.c (int_q _ _))))
                  (allOT_cons (OT.plain rfl (ob_move rfl rfl Opd.t0))
                  (allOT_cons (OT.guard (outs := [(38, (pInt .i64 a0))]) (decide ((0 : Int) < x1)) (gT (decide ((0 : Int) < x1))).1 (gT (decide ((0 : Int) < x1))).2 rfl rfl (fun e he => by rw [List.mem_singleton.1 he]) (fun hG => ob_move rfl rfl Opd.t0))
                  (allOT_cons (OT.guard (outs := [(39, (pBool (a0 == (8 : Int))))]) (decide ((0 : Int) < x1)) (gT (decide ((0 : Int) < x1))).1 (gT (decide ((0 : Int) < x1))).2 rfl rfl (fun e he => by rw [List.mem_singleton.1 he]) (fun hG => ob_eq rfl rfl (Opd.gd hG Opd.t0) (Opd.c (int_q _ _))))
                  (allOT_cons (OT.plain rfl (ob_pick (q := (pBool ((decide ((0 : Int) < x1)) && (a0 == (8 : Int))))) rfl rfl Opd.t0 (fun hz => Opd.to (Opd.gd hz (Opd.tl Opd.t0)) (congrArg (fun t => (pBool t)) (pk_and_t hz))) (fun hz => Opd.to (Opd.c (bool_q _)) (congrArg (fun t => (pBool t)) (pk_and_f hz)))))
                  (allOT_cons (OT.plain rfl (ob_move rfl rfl Opd.t0))
                  (allOT_cons (OT.guard (outs := [(42, (k_api_Item.sl.pd a1))]) ((decide ((0 : Int) < x1)) && (a0 == (8 : Int))) (gT ((decide ((0 : Int) < x1)) && (a0 == (8 : Int)))).1 (gT ((decide ((0 : Int) < x1)) && (a0 == (8 : Int)))).2 rfl rfl (fun e he => by rw [List.mem_singleton.1 he]) (fun hG => ob_move rfl rfl Opd.t0))
                  (allOT_cons (OT.guard (outs := [(43, (pInt .i64 x1))]) ((decide ((0 : Int) < x1)) && (a0 == (8 : Int))) (gT ((decide ((0 : Int) < x1)) && (a0 == (8 : Int)))).1 (gT ((decide ((0 : Int) < x1)) && (a0 == (8 : Int)))).2 rfl rfl (fun e he => by rw [List.mem_singleton.1 he]) (fun hG => ob_move rfl rfl Opd.t0))
                  (allOT_cons (OT.guard (outs := [(44, (pInt .i64 (IntKind.i64.wrap (x1 - (1 : Int)))))]) ((decide ((0 : Int) < x1)) && (a0 == (8 : Int))) (gT ((decide ((0 : Int) < x1)) && (a0 == (8 : Int)))).1 (gT ((decide ((0 : Int) < x1)) && (a0 == (8 : Int)))).2 rfl rfl (fun e he => by rw [List.mem_singleton.1 he]) (fun hG => ob_sub rfl rfl (Opd.gd hG Opd.t0) (Opd.c (int_q _ _)) rfl))
                  (allOT_cons (OT.guard (outs := [(45, (k_api_Item.ptr e11))]) ((decide ((0 : Int) < x1)) && (a0 == (8 : Int))) (gT ((decide ((0 : Int) < x1)) && (a0 == (8 : Int)))).1 (gT ((decide ((0 : Int) < x1)) && (a0 == (8 : Int)))).2 rfl rfl (fun e he => by rw [List.mem_singleton.1 he]) (fun hG => ob_indexAddr Try.underlying36 sz_64 rfl rfl (Opd.gd hG Opd.t0) (Opd.gd hG (Opd.tl Opd.t0)) (gd_true h12 hG)))
                  (allOT_cons (OT.guard (outs := [(46, (Kd.str.ptr e11.Name))]) ((decide ((0 : Int) < x1)) && (a0 == (8 : Int))) (gT ((decide ((0 : Int) < x1)) && (a0 == (8 : Int)))).1 (gT ((decide ((0 : Int) < x1)) && (a0 == (8 : Int)))).2 rfl rfl (fun e he => by rw [List.mem_singleton.1 he]) (fun hG => ob_fieldAddr fl_64_1 rfl rfl (Opd.gd hG Opd.t0)))
                  (allOT_cons (OT.guard (outs := [(47, (pStr e11.Name))]) ((decide ((0 : Int) < x1)) && (a0 == (8 : Int))) (gT ((decide ((0 : Int) < x1)) && (a0 == (8 : Int)))).1 (gT ((decide ((0 : Int) < x1)) && (a0 == (8 : Int)))).2 rfl rfl (fun e he => by rw [List.mem_singleton.1 he]) (fun hG => ob_load ty_9 rfl rfl (Opd.gd hG Opd.t0)))
                  (allOT_cons (OT.guard (outs := [(48, (Kd.str.ptr e3.Name))]) ((decide ((0 : Int) < x1)) && (a0 == (8 : Int))) (gT ((decide ((0 : Int) < x1)) && (a0 == (8 : Int)))).1 (gT ((decide ((0 : Int) < x1)) && (a0 == (8 : Int)))).2 rfl rfl (fun e he => by rw [List.mem_singleton.1 he]) (fun hG => ob_fieldAddr fl_64_1 rfl rfl Opd.t0))
                  (allOT_cons (OT.guard (outs := [(49, (pStr e3.Name))]) ((decide ((0 : Int) < x1)) && (a0 == (8 : Int))) (gT ((decide ((0 : Int) < x1)) && (a0 == (8 : Int)))).1 (gT ((decide ((0 : Int) < x1)) && (a0 == (8 : Int)))).2 rfl rfl (fun e he => by rw [List.mem_singleton.1 he]) (fun hG => ob_load ty_9 rfl rfl (Opd.gd hG Opd.t0)))
                  (allOT_cons (OT.guard (outs := [(50, (pBool (!sLt e11.Name e3.Name)))]) ((decide ((0 : Int) < x1)) && (a0 == (8 : Int))) (gT ((decide ((0 : Int) < x1)) && (a0 == (8 : Int)))).1 (gT ((decide ((0 : Int) < x1)) && (a0 == (8 : Int)))).2 rfl rfl (fun e he => by rw [List.mem_singleton.1 he]) (fun hG => ob_sge rfl rfl (Opd.gd hG Opd.t0) (Opd.gd hG (Opd.tl Opd.t0))))
                  (allOT_cons (OT.plain rfl (ob_pick (q := (pBool (((decide ((0 : Int) < x1)) && (a0 == (8 : Int))) && (!sLt e11.Name e3.Name)))) rfl rfl Opd.t0 (fun hz => Opd.to (Opd.gd hz (Opd.tl Opd.t0)) (congrArg (fun t => (pBool t)) (pk_and_t hz))) (fun hz => Opd.to (Opd.c (bool_q _)) (congrArg (fun t => (pBool t)) (pk_and_f hz)))))
                  (allOT_cons (OT.plain rfl (ob_assign rfl rfl Opd.t0))
                  allOT_nil))))))))))))))))))
                (hst.pick [0, 1, 2, 3, 4, 5, 6] rfl) hb (fun a g hst hb => ?_)
            refine then_n ?_
            refine wp_cond_split (hst.bool 7 rfl) (fun hc13 => ?_) (fun hc13 => ?_)
            · replace H1 := ite_t hc13 H1
              refine wp_seq ?_
              refine wp_reg follows (N := 70) (L := [])
                  (T := [⟨[], [(4, (pInt .i64 (4 : Int)))], [], [], [4]⟩])
                  (F := [.op 0 0]) (by kernel_rfl)
                  (allOT_cons (OT.plain rfl (ob_assign rfl rfl (Opd.c (int_q _ _))))
                    allOT_nil)
                  (hst.pick [] rfl) hb (fun a g hst hb => ?_)
              refine then_n ?_
              refine wp_ret ?_
              refine inBlock_r ?_
              refine inBlock_r ?_
              refine then_r ?_
              refine then_r ?_
              refine inBlock_r ?_
              refine then_r ?_
              refine then_r ?_
              obtain rfl := Option.some.inj H1
              obtain rfl := Option.some.inj H0
              exact endR1 rfl hst hb (res_tmp (s := 4)) (hst.at 0 rfl)
            · replace H1 := ite_f hc13 H1
              refine wp_seq ?_
              obtain ⟨e14, h15, H1⟩ := of_bind H1
              obtain ⟨r16, h17, H1⟩ := of_bind H1
              refine wp_reg follows (N := 70) (L := [(0, (pInt .i64 a0)), (1, (k_api_Item.sl.pd a1)), (5, (pInt .i64 x1)), (6, (k_api_Item.ptr e3)), (7, (k_api_Item.sl.pd a1)), (8, (pInt .i64 (a1.length : Int))), (9, (pInt .i64 x1))])
                  (T := [⟨[.old 2], [(53, (pInt .i64 x1))], [], [], [53]⟩,
                    ⟨[.op 0 0], [(54, (pBool (decide ((0 : Int) < x1))))], [], [0], [54]⟩,
                    ⟨[.op 1 0], [(55, (pBool (decide ((0 : Int) < x1))))], [], [0, 1], [55]⟩,
                    ⟨[.op 2 0, .old 0], [(56, (pIf (decide ((0 : Int) < x1)) (pInt .i64 a0)))], [], [0, 1, 2], [56]⟩,
                    ⟨[.op 2 0, .op 3 0], [(57, (pIf (decide ((0 : Int) < x1)) (pBool (a0 == (9 : Int)))))], [], [0, 1, 2, 3], [57]⟩,
                    ⟨[.op 2 0, .op 4 0], [(58, (pBool ((decide ((0 : Int) < x1)) && (a0 == (9 : Int)))))], [], [0, 1, 2, 3, 4], [58]⟩,
                    ⟨[.op 5 0], [(59, (pBool ((decide ((0 : Int) < x1)) && (a0 == (9 : Int)))))], [], [0, 1, 2, 3, 4, 5], [59]⟩,
                    ⟨[.op 6 0, .old 1], [(60, (pIf ((decide ((0 : Int) < x1)) && (a0 == (9 : Int))) (k_api_Item.sl.pd a1)))], [], [0, 1, 2, 3, 4, 5, 6], [60]⟩,
                    ⟨[.op 6 0, .old 2], [(61, (pIf ((decide ((0 : Int) < x1)) && (a0 == (9 : Int))) (pInt .i64 x1)))], [], [0, 1, 2, 3, 4, 5, 6], [61]⟩,
                    ⟨[.op 6 0, .op 8 0], [(62, (pIf ((decide ((0 : Int) < x1)) && (a0 == (9 : Int))) (pInt .i64 (IntKind.i64.wrap (x1 - (1 : Int))))))], [], [0, 1, 2, 3, 4, 5, 6, 8], [62]⟩,
                    ⟨[.op 6 0, .op 7 0, .op 9 0], [(63, (pIf ((decide ((0 : Int) < x1)) && (a0 == (9 : Int))) (k_api_Item.ptr e14)))], [], [0, 1, 2, 3, 4, 5, 6, 7, 8, 9], [63]⟩,
                    ⟨[.op 6 0, .op 10 0], [(64, (pIf ((decide ((0 : Int) < x1)) && (a0 == (9 : Int))) (k_api_Item.pd e14)))], [], [0, 1, 2, 3, 4, 5, 6, 7, 8, 9, 10], [64]⟩,
                    ⟨[.op 6 0, .old 3], [(65, (pIf ((decide ((0 : Int) < x1)) && (a0 == (9 : Int))) (k_api_Item.pd e3)))], [], [0, 1, 2, 3, 4, 5, 6], [65]⟩,
                    ⟨[.op 6 0, .op 11 0, .op 12 0], [(66, (pIf ((decide ((0 : Int) < x1)) && (a0 == (9 : Int))) (pBool r16)))], [], [0, 1, 2, 3, 4, 5, 6, 7, 8, 9, 10, 11, 12], [66]⟩,
                    ⟨[.op 6 0, .op 13 0], [(67, (pIf ((decide ((0 : Int) < x1)) && (a0 == (9 : Int))) (pBool (!r16))))], [], [0, 1, 2, 3, 4, 5, 6, 7, 8, 9, 10, 11, 12, 13], [67]⟩,
                    ⟨[.op 6 0, .op 14 0], [(68, (pBool (((decide ((0 : Int) < x1)) && (a0 == (9 : Int))) && (!r16))))], [], [0, 1, 2, 3, 4, 5, 6, 7, 8, 9, 10, 11, 12, 13, 14], [68]⟩,
                    ⟨[.op 15 0], [(52, (pBool (((decide ((0 : Int) < x1)) && (a0 == (9 : Int))) && (!r16))))], [], [0, 1, 2, 3, 4, 5, 6, 7, 8, 9, 10, 11, 12, 13, 14, 15], [52]⟩])
                  (F := [.old 0, .old 1, .old 4, .old 5, .old 6, .op 16 0]) (by kernel_rfl)
                  (allOT_cons (OT.plain rfl (ob_move rfl rfl Opd.t0))
                    (allOT_cons (OT.plain rfl (ob_gt rfl rfl Opd.t0 (Opd.c (int_q _ _))))
                    (allOT_cons (OT.plain rfl (ob_move rfl rfl Opd.t0))
                    (allOT_cons (OT.guard (outs := [(56, (pInt .i64 a0))]) (decide ((0 : Int) < x1)) (gT (decide ((0 : Int) < x1))).1 (gT (decide ((0 : Int) < x1))).2 rfl rfl (fun e he => by rw [List.mem_singleton.1 he]) (fun hG => ob_move rfl rfl Opd.t0))
                    (allOT_cons (OT.guard (outs := [(57, (pBool (a0 == (9 : Int))))]) (decide ((0 : Int) < x1)) (gT (decide ((0 : Int) < x1))).1 (gT (decide ((0 : Int) < x1))).2 rfl rfl (fun e he => by rw [List.mem_singleton.1 he]) (fun hG => ob_eq rfl rfl (Opd.gd hG Opd.t0) (Opd.c (int_q _ _))))
                    (allOT_cons (OT.plain rfl (ob_pick (q := (pBool ((decide ((0 : Int) < x1)) && (a0 == (9 : Int))))) rfl rfl Opd.t0 (fun hz => Opd.to (Opd.gd hz (Opd.tl Opd.t0)) (congrArg (fun t => (pBool t)) (pk_and_t hz))) (fun hz => Opd.to (Opd.c (bool_q _)) (congrArg (fun t => (pBool t)) (pk_and_f hz)))))
                    (allOT_cons (OT.plain rfl (ob_move rfl rfl Opd.t0))
                    (allOT_cons (OT.guard (outs := [(60, (k_api_Item.sl.pd a1))]) ((decide ((0 : Int) < x1)) && (a0 == (9 : Int))) (gT ((decide ((0 : Int) < x1)) && (a0 == (9 : Int)))).1 (gT ((decide ((0 : Int) < x1)) && (a0 == (9 : Int)))).2 rfl rfl (fun e he => by rw [List.mem_singleton.1 he]) (fun hG => ob_move rfl rfl Opd.t0))
                    (allOT_cons (OT.guard (outs := [(61, (pInt .i64 x1))]) ((decide ((0 : Int) < x1)) && (a0 == (9 : Int))) (gT ((decide ((0 : Int) < x1)) && (a0 == (9 : Int)))).1 (gT ((decide ((0 : Int) < x1)) && (a0 == (9 : Int)))).2 rfl rfl (fun e he => by rw [List.mem_singleton.1 he]) (fun hG => ob_move rfl rfl Opd.t0))
                    (allOT_cons (OT.guard (outs := [(62, (pInt .i64 (IntKind.i64.wrap (x1 - (1 : Int)))))]) ((decide ((0 : Int) < x1)) && (a0 == (9 : Int))) (gT ((decide ((0 : Int) < x1)) && (a0 == (9 : Int)))).1 (gT ((decide ((0 : Int) < x1)) && (a0 == (9 : Int)))).2 rfl rfl (fun e he => by rw [List.mem_singleton.1 he]) (fun hG => ob_sub rfl rfl (Opd.gd hG Opd.t0) (Opd.c (int_q _ _)) rfl))
                    (allOT_cons (OT.guard (outs := [(63, (k_api_Item.ptr e14))]) ((decide ((0 : Int) < x1)) && (a0 == (9 : Int))) (gT ((decide ((0 : Int) < x1)) && (a0 == (9 : Int)))).1 (gT ((decide ((0 : Int) < x1)) && (a0 == (9 : Int)))).2 rfl rfl (fun e he => by rw [List.mem_singleton.1 he]) (fun hG => ob_indexAddr Try.underlying36 sz_64 rfl rfl (Opd.gd hG Opd.t0) (Opd.gd hG (Opd.tl Opd.t0)) (gd_true h15 hG)))
                    (allOT_cons (OT.guard (outs := [(64, (k_api_Item.pd e14))]) ((decide ((0 : Int) < x1)) && (a0 == (9 : Int))) (gT ((decide ((0 : Int) < x1)) && (a0 == (9 : Int)))).1 (gT ((decide ((0 : Int) < x1)) && (a0 == (9 : Int)))).2 rfl rfl (fun e he => by rw [List.mem_singleton.1 he]) (fun hG => ob_load ty_64 rfl rfl (Opd.gd hG Opd.t0)))
                    (allOT_cons (OT.guard (outs := [(65, (k_api_Item.pd e3))]) ((decide ((0 : Int) < x1)) && (a0 == (9 : Int))) (gT ((decide ((0 : Int) < x1)) && (a0 == (9 : Int)))).1 (gT ((decide ((0 : Int) < x1)) && (a0 == (9 : Int)))).2 rfl rfl (fun e he => by rw [List.mem_singleton.1 he]) (fun hG => ob_load ty_64 rfl rfl Opd.t0))
                    (allOT_cons (OT.guard (outs := [(66, (pBool r16))]) ((decide ((0 : Int) < x1)) && (a0 == (9 : Int))) (gT ((decide ((0 : Int) < x1)) && (a0 == (9 : Int)))).1 (gT ((decide ((0 : Int) < x1)) && (a0 == (9 : Int)))).2 rfl rfl (fun e he => by rw [List.mem_singleton.1 he]) (fun hG => ob_call en_62 (rec_Better_ok _ _ (gd_true h17 hG)) rfl rfl (.cons (Opd.gd hG Opd.t0) (.cons (Opd.gd hG (Opd.tl Opd.t0)) .nil))))
                    (allOT_cons (OT.guard (outs := [(67, (pBool (!r16)))]) ((decide ((0 : Int) < x1)) && (a0 == (9 : Int))) (gT ((decide ((0 : Int) < x1)) && (a0 == (9 : Int)))).1 (gT ((decide ((0 : Int) < x1)) && (a0 == (9 : Int)))).2 rfl rfl (fun e he => by rw [List.mem_singleton.1 he]) (fun hG => ob_not rfl rfl (Opd.gd hG Opd.t0)))
                    (allOT_cons (OT.plain rfl (ob_pick (q := (pBool (((decide ((0 : Int) < x1)) && (a0 == (9 : Int))) && (!r16)))) rfl rfl Opd.t0 (fun hz => Opd.to (Opd.gd hz (Opd.tl Opd.t0)) (congrArg (fun t => (pBool t)) (pk_and_t hz))) (fun hz => Opd.to (Opd.c (bool_q _)) (congrArg (fun t => (pBool t)) (pk_and_f hz)))))
                    (allOT_cons (OT.plain rfl (ob_assign rfl rfl Opd.t0))
                    allOT_nil)))))))))))))))))
                  (hst.pick [0, 1, 2, 3, 4, 5, 6] rfl) hb (fun a g hst hb => ?_)
              refine then_n ?_
              refine wp_cond_split (hst.bool 5 rfl) (fun hc18 => ?_) (fun hc18 => ?_)
              · replace H1 := ite_t hc18 H1
                refine wp_seq ?_
                refine wp_reg follows (N := 70) (L := [])
                    (T := [⟨[], [(4, (pInt .i64 (4 : Int)))], [], [], [4]⟩])
                    (F := [.op 0 0]) (by kernel_rfl)
                    (allOT_cons (OT.plain rfl (ob_assign rfl rfl (Opd.c (int_q _ _))))
                      allOT_nil)
                    (hst.pick [] rfl) hb (fun a g hst hb => ?_)
                refine then_n ?_
                refine wp_ret ?_
                refine inBlock_r ?_
                refine inBlock_r ?_
                refine then_r ?_
                refine then_r ?_
                refine inBlock_r ?_
                refine then_r ?_
                refine then_r ?_
                obtain rfl := Option.some.inj H1
                obtain rfl := Option.some.inj H0
                exact endR1 rfl hst hb (res_tmp (s := 4)) (hst.at 0 rfl)
              · replace H1 := ite_f hc18 H1
                refine wp_skip ?_
                refine inBlock_n ?_
                refine inBlock_n ?_
                refine then_n ?_
                refine wp_reg follows (N := 70) (L := [(0, (pInt .i64 a0)), (1, (k_api_Item.sl.pd a1)), (7, (k_api_Item.sl.pd a1)), (8, (pInt .i64 (a1.length : Int))), (9, (pInt .i64 x1))])
                    (T := [⟨[.old 4], [(69, (pInt .i64 (IntKind.i64.wrap (x1 + (1 : Int)))))], [], [], [69]⟩,
                      ⟨[.op 0 0], [(9, (pInt .i64 (IntKind.i64.wrap (x1 + (1 : Int)))))], [], [0], [9]⟩])
                    (F := [.old 0, .old 1, .old 2, .old 3, .op 1 0]) (by kernel_rfl)
                    (allOT_cons (OT.plain rfl (ob_add rfl rfl Opd.t0 (Opd.c (int_q _ _)) rfl))
                      (allOT_cons (OT.plain rfl (ob_move rfl rfl Opd.t0))
                      allOT_nil))
                    (hst.pick [0, 1, 2, 3, 4] rfl) hb (fun a g hst hb => ?_)
                exact ⟨n, Nat.lt_succ_self _, (IntKind.i64.wrap (x1 + (1 : Int))), g, rfl, (hst.pick [0, 1, 2, 3, 4] rfl), hb, H1⟩
      · replace H1 := ite_f hc2 H1
        refine wp_exit ?_
        refine then_e ?_
        refine then_e ?_
        refine inBlock_e ?_
        exact ⟨g, rfl, (hst.pick [] rfl), hb, Option.some.inj H1⟩
end Go.CL
