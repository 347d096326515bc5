/- A part of the proof of ShareDraws. -/
import Derived.Test.YtbiobpmabomjfaaDoorShareDrawsC4
set_option linter.unusedVariables false
set_option linter.unusedSimpArgs false
set_option maxRecDepth 100000
namespace Go.CL
open Go Go.RowKit Go.Proofs
theorem Zqa (a0 : Ze) (a1 : List Ze) {r : Ze} (h : Zlq a0 a1 = some r) : FnOk Tryd.prog 15 [(Zg.pd a0), (Zg.sl.pd a1)] (Zg.pd r) := by
 have H0 := h
 unfold Zlq at H0
 clear h
 refine Zbt (N := 76) Tryd.func15 rfl rfl (Nat.le_of_ble_eq_true rfl) rfl rfl (fun a g0 hst hb => ?_)
 refine r_s (T := [⟨[.old 0], _, [3], [], [2]⟩, ⟨[], [(4, (pBox Zg 4 (default : Ze)))], [5], [], [4]⟩]) (F := [.old 1, .op 0 0, .op 1 0]) hst hb Za
   (o_p rfl (Zls rfl rfl u_0) <| o_p rfl (Zbu (zs := [.int .i64 0, .int .i64 0, .int .i64 0, .int .i64 0, .float .f64 0, .int .i64 0, .string ByteArray.empty, .slice none 0 0]) (by kernel_rfl) (fun g => Zb4 g) rfl rfl) <| o_n) (by kernel_rfl) (fun a g hst hb => ?_)
 obtain ⟨r1, h2, H0⟩ := Zj H0
 refine r_s (T := [⟨[.old 1], _, [], [], [10]⟩, ⟨[.op 0 0], _, [], [0], [11]⟩, ⟨[.op 1 0, .old 1], _, [3], [0, 1], [2]⟩]) (F := [.old 0, .op 2 0, .old 2]) hst hb Za
   (o_p rfl (Zd6 Z8 rfl rfl u_0) <| o_p rfl (Zu Zmt (Zgc _ h2) rfl rfl (.cons u_0 .nil)) <| o_p rfl (Zba Z8 rfl rfl u_1 u_0) <| o_n) (by kernel_rfl) (fun a g hst hb => ?_)
 refine wp_seq ?_
 refine r_s (T := [⟨[.old 0], _, [], [], [12]⟩, ⟨[.op 0 0], _, [], [0], [13]⟩, ⟨[], _, [], [], [14]⟩]) (F := [.old 1, .old 2, .op 0 0, .op 1 0, .op 2 0]) hst hb Za
   (o_p rfl (Zc rfl rfl u_0) <| o_p rfl (Zco Tryd.underlying33 rfl rfl u_0) <| o_p rfl (Zc rfl rfl c_i) <| o_n) (by kernel_rfl) (fun a g hst hb => ?_)
 obtain ⟨z34, hz1, H0⟩ := Zj H0
 refine Zcl (fun a w => ∃ (y33 : Ze) (g : G), w = g.w ∧ St 76 [(2, (pBox Zg 2 y33)), (4, (pBox Zg 4 (default : Ze)))] a g ∧ Base g0 g ∧ y33 = z34) ?_ ?_
 · rintro a w ⟨y33, g, rfl, hst, hb, rfl⟩
   refine Zn ?_
   refine r_s (T := [⟨[.old 0], _, [], [], [75]⟩, ⟨[.op 0 0, .old 1], _, [5], [0], [4]⟩]) (F := [.op 1 0]) hst hb Za
     (o_p rfl (Zd6 Z8 rfl rfl u_0) <| o_p rfl (Zba Z8 rfl rfl u_1 u_0) <| o_n) (by kernel_rfl) (fun a g hst hb => ?_)
   refine wp_ret ?_
   obtain rfl := Option.some.inj H0
   obtain ⟨u0, hu0, hq0⟩ := Zbi (P := Tryd.prog) Z8 (hst.at 0 rfl)
   exact Zz rfl hst hb hu0 hq0
 · refine wp_block ?_
   refine wp_loop_ghost (fun n a w => ∃ (x3 : Ze) (x4 : Int) (g : G), w = g.w ∧ St 76 [(2, (pBox Zg 2 x3)), (4, (pBox Zg 4 (default : Ze))), (12, (Zg.sl.pd a1)), (13, (pInt .i64 (a1.length : Int))), (14, (pInt .i64 x4))] a g ∧ Base g0 g ∧ Zd0 a1 n x3 x4 = some z34) (Int.toNat ((a1.length : Int) - (0 : Int)) + 1) ⟨r1, (0 : Int), g, rfl, (hst.pick [0, 1, 2, 3, 4] rfl), hb, hz1⟩ (fun n a w hI => ?_)
   obtain ⟨x3, x4, g, rfl, hst, hb, H1⟩ := hI
   cases n with
   | zero => exact absurd H1 (by simp [Zd0])
   | succ n =>
     rw [Zd0] at H1
     refine r_s (T := [⟨[.old 4, .old 3], _, [], [], [15]⟩]) (F := [.old 0, .old 1, .old 2, .old 3, .old 4, .op 0 0]) hst hb Za
       (o_p rfl (Zb6 rfl rfl u_0 u_1) <| o_n) (by kernel_rfl) (fun a g hst hb => ?_)
     refine wp_seq ?_
     refine wp_cond_split (hst.bool 5 rfl) (fun hc5 => ?_) (fun hc5 => ?_)
     · replace H1 := Zp hc5 H1
       refine wp_skip ?_
       refine Zn ?_
       refine wp_seq ?_
       refine Zcl (fun a w => ∃ (j32 : Ze) (g : G), w = g.w ∧ St 76 [(2, (pBox Zg 2 j32)), (4, (pBox Zg 4 (default : Ze))), (12, (Zg.sl.pd a1)), (13, (pInt .i64 (a1.length : Int))), (14, (pInt .i64 x4))] a g ∧ Base g0 g ∧ Zfd x4 (Zd0 a1 n) j32 = some z34) ?_ ?_
       · rintro a w ⟨j32, g, rfl, hst, hb, H1⟩
         unfold Zfd at H1
         refine Zn ?_
         refine r_g (T := [⟨[.old 4], _, [], [], [74]⟩, ⟨[.op 0 0], _, [], [0], [14]⟩]) (F := [.old 0, .old 1, .old 2, .old 3, .op 1 0]) hst hb Za
           (o_p rfl (Zck rfl rfl u_0 c_i rfl) <| o_p rfl (Zc rfl rfl u_0) <| o_n) (by kernel_rfl) (fun a g hst hb => ?_)
         exact ⟨n, Nat.lt_succ_self _, j32, (IntKind.i64.wrap (x4 + (1 : Int))), g, rfl, (hst.pick [0, 1, 2, 3, 4] rfl), hb, H1⟩
       · refine wp_block ?_
         obtain ⟨e6, h7, H1⟩ := Zj H1
         refine r_s (L := [(2, _), (4, _), (12, _), (13, _), (14, _)]) (T := [⟨[.old 2, .old 4], _, [], [], [16]⟩, ⟨[.op 0 0], _, [], [0], [17]⟩, ⟨[], [(6, (pBox Zg 6 (default : Ze)))], [7], [], [6]⟩, ⟨[.op 1 0, .op 2 0], _, [7], [0, 1, 2], [6]⟩]) (F := [.old 0, .old 1, .op 3 0, .old 2, .old 3, .old 4]) (hst.pick [0, 1, 2, 3, 4] rfl) hb Za
           (o_p rfl (Zbm Tryd.underlying33 Z2k rfl rfl u_0 u_1 h7) <| o_p rfl (Zf Z8 rfl rfl u_0) <| o_p rfl (Zbu (zs := [.int .i64 0, .int .i64 0, .int .i64 0, .int .i64 0, .float .f64 0, .int .i64 0, .string ByteArray.empty, .slice none 0 0]) (by kernel_rfl) (fun g => Zb4 g) rfl rfl) <| o_p rfl (Zct Z8 rfl rfl u_1 u_0) <| o_n) (by kernel_rfl) (fun a g hst hb => ?_)
         refine r_s (T := [⟨[.old 0], _, [], [], [18]⟩, ⟨[.op 0 0], _, [], [0], [19]⟩]) (F := [.old 0, .old 1, .old 2, .old 3, .old 4, .old 5, .op 1 0]) hst hb Za
           (o_p rfl (Zv Zc9 (off := 0) (by kernel_rfl) rfl rfl u_0) <| o_p rfl (Zbr ty_3 rfl rfl u_0) <| o_n) (by kernel_rfl) (fun a g hst hb => ?_)
         refine wp_block ?_
         refine wp_seq ?_
         refine r_s (T := [⟨[.old 6], _, [], [], [21]⟩, ⟨[.op 0 0], _, [], [0], [20]⟩]) (F := [.old 0, .old 1, .old 2, .old 3, .old 4, .old 5, .old 6, .op 1 0]) hst hb Za
           (o_p rfl (Z7 rfl rfl u_0 c_i) <| o_p rfl (Zb rfl rfl u_0) <| o_n) (by kernel_rfl) (fun a g hst hb => ?_)
         refine Zcl (fun a w => ∃ (j10 : Bool) (g : G), w = g.w ∧ St 76 [(2, (pBox Zg 2 x3)), (4, (pBox Zg 4 (default : Ze))), (6, (Zg.ptr e6)), (12, (Zg.sl.pd a1)), (13, (pInt .i64 (a1.length : Int))), (14, (pInt .i64 x4)), (19, (pInt .i64 x3.Kind)), (20, (Z9 j10))] a g ∧ Base g0 g ∧ Zhe x3 x4 e6 (Zd0 a1 n) j10 = some z34) ?_ ?_
         · rintro a w ⟨j10, g, rfl, hst, hb, H1⟩
           unfold Zhe at H1
           refine Zn ?_
           refine wp_cond_split (hst.bool 7 rfl) (fun hc11 => ?_) (fun hc11 => ?_)
           · replace H1 := Zp hc11 H1
             refine r_g (L := [(2, _), (4, _), (6, _), (12, _), (13, _), (14, _)]) (T := [⟨[.old 0], _, [], [], [24]⟩, ⟨[.op 0 0], _, [], [0], [25]⟩, ⟨[.old 2], _, [], [], [26]⟩, ⟨[.op 2 0], _, [], [2], [27]⟩, ⟨[.op 1 0, .op 3 0], _, [], Lr 4, [28]⟩, ⟨[.old 0], _, [], Lr 5, [29]⟩, ⟨[.op 4 0, .op 5 0, .old 0], _, [3], Lr 6, [2, 24, 29]⟩]) (F := [.op 6 0, .old 1, .old 3, .old 4, .old 5]) (hst.pick [0, 1, 2, 3, 4, 5] rfl) hb Za
               (o_p rfl (Zv Zb8 (off := 1) (by kernel_rfl) rfl rfl u_0) <| o_p rfl (Zbr ty_2 rfl rfl u_0) <| o_p rfl (Zd Zb8 rfl rfl u_0) <| o_p rfl (Zf ty_2 rfl rfl u_0) <| o_p rfl (Zck rfl rfl u_0 u_1 rfl) <| o_p rfl (Zv Zb8 (off := 1) (by kernel_rfl) rfl rfl u_0) <| o_p rfl (Zl9 ty_2 rfl rfl u_2 u_1 u_0) <| o_n) (by kernel_rfl) (fun a g hst hb => ?_)
             refine Zbg ?_
             refine Zbg ?_
             exact ⟨({ x3 with Num := (IntKind.i64.wrap (x3.Num + e6.Num)) }), g, rfl, (hst.pick [0, 1, 2, 3, 4] rfl), hb, H1⟩
           · replace H1 := Zq hc11 H1
             refine r_s (L := [(2, _), (4, _), (6, _), (12, _), (13, _), (14, _), (19, _)]) (T := [⟨[.old 6], _, [], [], [31]⟩, ⟨[.op 0 0], _, [], [0], [30]⟩]) (F := [.old 0, .old 1, .old 2, .old 3, .old 4, .old 5, .old 6, .op 1 0]) (hst.pick [0, 1, 2, 3, 4, 5, 6] rfl) hb Za
               (o_p rfl (Z7 rfl rfl u_0 c_i) <| o_p rfl (Zb rfl rfl u_0) <| o_n) (by kernel_rfl) (fun a g hst hb => ?_)
             refine wp_cond_split (hst.bool 7 rfl) (fun hc12 => ?_) (fun hc12 => ?_)
             · replace H1 := Zp hc12 H1
               obtain ⟨r13, h14, H1⟩ := Zj H1
               refine r_g (L := [(2, _), (4, _), (6, _), (12, _), (13, _), (14, _)]) (T := [⟨[.old 0], _, [], [], [32]⟩, ⟨[.op 0 0], _, [], [0], [33]⟩, ⟨[.old 2], _, [], [], [34]⟩, ⟨[.op 2 0], _, [], [2], [35]⟩, ⟨[.op 1 0, .op 3 0], _, [], Lr 4, [36]⟩, ⟨[.old 0], _, [], Lr 5, [37]⟩, ⟨[.op 4 0, .op 5 0, .old 0], _, [3], Lr 6, [2, 32, 37]⟩]) (F := [.op 6 0, .old 1, .old 3, .old 4, .old 5]) (hst.pick [0, 1, 2, 3, 4, 5] rfl) hb Za
                 (o_p rfl (Zv Ze3 (off := 4) (by kernel_rfl) rfl rfl u_0) <| o_p rfl (Zbr Zc0 rfl rfl u_0) <| o_p rfl (Zd Ze3 rfl rfl u_0) <| o_p rfl (Zf Zc0 rfl rfl u_0) <| o_p rfl (Zu Zx0 (Zpy _ _ h14) rfl rfl (.cons u_0 (.cons u_1 .nil))) <| o_p rfl (Zv Ze3 (off := 4) (by kernel_rfl) rfl rfl u_0) <| o_p rfl (Zqd Zc0 rfl rfl u_2 u_1 u_0) <| o_n) (by kernel_rfl) (fun a g hst hb => ?_)
               refine Zbg ?_
               refine Zbg ?_
               exact ⟨({ x3 with Real := r13 }), g, rfl, (hst.pick [0, 1, 2, 3, 4] rfl), hb, H1⟩
             · replace H1 := Zq hc12 H1
               refine r_s (L := [(2, _), (4, _), (6, _), (12, _), (13, _), (14, _), (19, _)]) (T := [⟨[.old 6], _, [], [], [39]⟩, ⟨[.op 0 0], _, [], [0], [38]⟩]) (F := [.old 0, .old 1, .old 2, .old 3, .old 4, .old 5, .old 6, .op 1 0]) (hst.pick [0, 1, 2, 3, 4, 5, 6] rfl) hb Za
                 (o_p rfl (Z7 rfl rfl u_0 c_i) <| o_p rfl (Zb rfl rfl u_0) <| o_n) (by kernel_rfl) (fun a g hst hb => ?_)
               refine wp_cond_split (hst.bool 7 rfl) (fun hc15 => ?_) (fun hc15 => ?_)
               · replace H1 := Zp hc15 H1
                 obtain ⟨r16, h17, H1⟩ := Zj H1
                 refine r_g (L := [(2, _), (4, _), (6, _), (12, _), (13, _), (14, _)]) (T := [⟨[.old 0], _, [], [], [40]⟩, ⟨[.op 0 0], _, [], [0], [41]⟩, ⟨[.old 2], _, [], [], [42]⟩, ⟨[.op 2 0], _, [], [2], [43]⟩, ⟨[.op 1 0, .op 3 0], _, [], Lr 4, [44]⟩, ⟨[.old 0], _, [], Lr 5, [45]⟩, ⟨[.op 4 0, .op 5 0, .old 0], _, [3], Lr 6, [2, 40, 45]⟩]) (F := [.op 6 0, .old 1, .old 3, .old 4, .old 5]) (hst.pick [0, 1, 2, 3, 4, 5] rfl) hb Za
                   (o_p rfl (Zv Ze3 (off := 4) (by kernel_rfl) rfl rfl u_0) <| o_p rfl (Zbr Zc0 rfl rfl u_0) <| o_p rfl (Zd Ze3 rfl rfl u_0) <| o_p rfl (Zf Zc0 rfl rfl u_0) <| o_p rfl (Zu Zx2 (Zp2 _ _ h17) rfl rfl (.cons u_0 (.cons u_1 .nil))) <| o_p rfl (Zv Ze3 (off := 4) (by kernel_rfl) rfl rfl u_0) <| o_p rfl (Zqd Zc0 rfl rfl u_2 u_1 u_0) <| o_n) (by kernel_rfl) (fun a g hst hb => ?_)
                 refine Zbg ?_
                 refine Zbg ?_
                 exact ⟨({ x3 with Real := r16 }), g, rfl, (hst.pick [0, 1, 2, 3, 4] rfl), hb, H1⟩
               · replace H1 := Zq hc15 H1
                 refine wp_seq ?_
                 refine r_s (L := [(2, _), (4, _), (6, _), (12, _), (13, _), (14, _), (19, _)]) (T := [⟨[.old 6], _, [], [], [47]⟩, ⟨[.op 0 0], _, [], [0], [46]⟩]) (F := [.old 0, .old 1, .old 2, .old 3, .old 4, .old 5, .old 6, .op 1 0]) (hst.pick [0, 1, 2, 3, 4, 5, 6] rfl) hb Za
                   (o_p rfl (Z7 rfl rfl u_0 c_i) <| o_p rfl (Zb rfl rfl u_0) <| o_n) (by kernel_rfl) (fun a g hst hb => ?_)
                 refine Zcl (fun a w => ∃ (j19 : Bool) (g : G), w = g.w ∧ St 76 [(2, (pBox Zg 2 x3)), (4, (pBox Zg 4 (default : Ze))), (6, (Zg.ptr e6)), (12, (Zg.sl.pd a1)), (13, (pInt .i64 (a1.length : Int))), (14, (pInt .i64 x4)), (46, (Z9 j19))] a g ∧ Base g0 g ∧ Zii x3 x4 e6 (Zd0 a1 n) j19 = some z34) ?_ ?_
                 · rintro a w ⟨j19, g, rfl, hst, hb, H1⟩
                   unfold Zii at H1
                   refine Zn ?_
                   refine wp_cond_split (hst.bool 6 rfl) (fun hc20 => ?_) (fun hc20 => ?_)
                   · replace H1 := Zp hc20 H1
                     refine r_s (L := [(2, _), (4, _), (6, _), (12, _), (13, _), (14, _)]) (T := [⟨[.old 2], _, [], [], [49]⟩, ⟨[.op 0 0], _, [], [0], [50]⟩, ⟨[.op 1 0], _, [], [0, 1], [51]⟩, ⟨[], _, [], [], [52]⟩]) (F := [.old 0, .old 1, .old 3, .old 4, .old 5, .op 1 0, .op 2 0, .op 3 0]) (hst.pick [0, 1, 2, 3, 4, 5] rfl) hb Za
                       (o_p rfl (Zd Zb3 rfl rfl u_0) <| o_p rfl (Zf Zcz rfl rfl u_0) <| o_p rfl (Zco Tryd.underlying23 rfl rfl u_0) <| o_p rfl (Zc rfl rfl c_i) <| o_n) (by kernel_rfl) (fun a g hst hb => ?_)
                     obtain ⟨z31, hz2, H1⟩ := Zj H1
                     refine Zcl (fun a w => ∃ (y30 : Ze) (g : G), w = g.w ∧ St 76 [(2, (pBox Zg 2 y30)), (4, (pBox Zg 4 (default : Ze))), (12, (Zg.sl.pd a1)), (13, (pInt .i64 (a1.length : Int))), (14, (pInt .i64 x4))] a g ∧ Base g0 g ∧ y30 = z31) ?_ ?_
                     · rintro a w ⟨y30, g, rfl, hst, hb, rfl⟩
                       refine Zbg ?_
                       refine Zbg ?_
                       exact ⟨y30, g, rfl, (hst.pick [0, 1, 2, 3, 4] rfl), hb, H1⟩
                     · refine wp_block ?_
                       refine wp_loop_ghost (fun n a w => ∃ (x21 : Ze) (x22 : Int) (g : G), w = g.w ∧ St 76 [(2, (pBox Zg 2 x21)), (4, (pBox Zg 4 (default : Ze))), (12, (Zg.sl.pd a1)), (13, (pInt .i64 (a1.length : Int))), (14, (pInt .i64 x4)), (50, (Zt.sl.pd e6.List)), (51, (pInt .i64 (e6.List.length : Int))), (52, (pInt .i64 x22))] a g ∧ Base g0 g ∧ Zfa e6 n x21 x22 = some z31) (Int.toNat ((e6.List.length : Int) - (0 : Int)) + 1) ⟨x3, (0 : Int), g, rfl, (hst.pick [0, 1, 2, 3, 4, 5, 6, 7] rfl), hb, hz2⟩ (fun n a w hI => ?_)
                       obtain ⟨x21, x22, g, rfl, hst, hb, H2⟩ := hI
                       cases n with
                       | zero => exact absurd H2 (by simp [Zfa])
                       | succ n =>
                         rw [Zfa] at H2
                         refine r_s (T := [⟨[.old 7, .old 6], _, [], [], [53]⟩]) (F := [.old 0, .old 1, .old 2, .old 3, .old 4, .old 5, .old 6, .old 7, .op 0 0]) hst hb Za
                           (o_p rfl (Zb6 rfl rfl u_0 u_1) <| o_n) (by kernel_rfl) (fun a g hst hb => ?_)
                         refine wp_seq ?_
                         refine wp_cond_split (hst.bool 8 rfl) (fun hc23 => ?_) (fun hc23 => ?_)
                         · replace H2 := Zp hc23 H2
                           refine wp_skip ?_
                           refine Zn ?_
                           refine wp_seq ?_
                           refine wp_block ?_
                           obtain ⟨e24, h25, H2⟩ := Zj H2
                           refine r_s (L := [(2, _), (4, _), (12, _), (13, _), (14, _), (50, _), (51, _), (52, _)]) (T := [⟨[.old 5, .old 7], _, [], [], [54]⟩, ⟨[.op 0 0], _, [], [0], [55]⟩, ⟨[], [(8, (pBox Zt 8 (default : Zm)))], [9], [], [8]⟩, ⟨[.op 1 0, .op 2 0], _, [9], [0, 1, 2], [8]⟩]) (F := [.old 0, .old 1, .op 3 0, .old 2, .old 3, .old 4, .old 5, .old 6, .old 7]) (hst.pick [0, 1, 2, 3, 4, 5, 6, 7] rfl) hb Za
                             (o_p rfl (Zbm Tryd.underlying23 Zff rfl rfl u_0 u_1 h25) <| o_p rfl (Zf Zd4 rfl rfl u_0) <| o_p rfl (Zbu (zs := [.float .f64 0, .string ByteArray.empty]) (by kernel_rfl) (fun g => Zf3 g) rfl rfl) <| o_p rfl (Zct Zd4 rfl rfl u_1 u_0) <| o_n) (by kernel_rfl) (fun a g hst hb => ?_)
                           refine r_s (T := [⟨[.old 2], _, [], [], [56]⟩, ⟨[.op 0 0], _, [], [0], [57]⟩, ⟨[.op 1 0], _, [], [0, 1], [58]⟩, ⟨[], [(9, (pBox Zy 9 (default : Zr)))], [10], [], [9]⟩, ⟨[.op 2 0, .op 3 0], _, [10], Lr 4, [9]⟩]) (F := [.old 0, .old 1, .old 2, .op 4 0, .old 3, .old 4, .old 5, .old 6, .old 7, .old 8]) hst hb Za
                             (o_p rfl (Zd Zd3 rfl rfl u_0) <| o_p rfl (Zf ty_9 rfl rfl u_0) <| o_p rfl (Zte rfl rfl c_i c_s u_0) <| o_p rfl (Zbu (zs := [.int .i64 0, .string ByteArray.empty, .int .i64 0, .float .f64 0, .string ByteArray.empty, .int .i64 0, .int .i64 0, .int .i64 0, .int .i64 0, .float .f64 0, .int .i64 0, .string ByteArray.empty, .slice none 0 0, .bool false]) (by kernel_rfl) (fun g => Zkf g) rfl rfl) <| o_p rfl (Zba Zgf rfl rfl u_1 u_0) <| o_n) (by kernel_rfl) (fun a g hst hb => ?_)
                           refine wp_seq ?_
                           refine r_s (T := [⟨[.old 0], _, [], [], [59]⟩, ⟨[.op 0 0], _, [], [0], [60]⟩, ⟨[.op 1 0], _, [], [0, 1], [61]⟩]) (F := [.old 0, .old 1, .old 2, .old 3, .old 4, .old 5, .old 6, .old 7, .old 8, .old 9, .op 2 0]) hst hb Za
                             (o_p rfl (Zv Zc9 (off := 0) (by kernel_rfl) rfl rfl u_0) <| o_p rfl (Zbr ty_3 rfl rfl u_0) <| o_p rfl (Z7 rfl rfl u_0 c_i) <| o_n) (by kernel_rfl) (fun a g hst hb => ?_)
                           refine Zcl (fun a w => ∃ (j27 : Zr) (g : G), w = g.w ∧ St 76 [(2, (pBox Zg 2 x21)), (4, (pBox Zg 4 (default : Ze))), (9, (pBox Zy 9 j27)), (12, (Zg.sl.pd a1)), (13, (pInt .i64 (a1.length : Int))), (14, (pInt .i64 x4)), (50, (Zt.sl.pd e6.List)), (51, (pInt .i64 (e6.List.length : Int))), (52, (pInt .i64 x22))] a g ∧ Base g0 g ∧ Zij x21 x22 (Zfa e6 n) j27 = some z31) ?_ ?_
                           · rintro a w ⟨j27, g, rfl, hst, hb, H2⟩
                             unfold Zij at H2
                             refine Zn ?_
                             obtain ⟨r28, h29, H2⟩ := Zj H2
                             refine r_g (T := [⟨[.old 0], _, [], [], [67]⟩, ⟨[.old 2], _, [], [], [68]⟩, ⟨[.op 0 0, .op 1 0], _, [], [0, 1], [69]⟩, ⟨[.op 2 0], _, [], [0, 1, 2], [66]⟩, ⟨[.op 3 0], _, [], Lr 4, [70]⟩, ⟨[.op 3 0], _, [], Lr 4, [71]⟩, ⟨[.op 3 0], _, [], Lr 4, [72]⟩, ⟨[.op 4 0, .old 0], _, [3], Lr 5, [2]⟩]) (F := [.op 7 0, .old 1, .old 3, .old 4, .old 5, .old 6, .old 7, .old 8]) hst hb Za
                               (o_p rfl (Zd6 Z8 rfl rfl u_0) <| o_p rfl (Zd6 Zgf rfl rfl u_0) <| o_p rfl (Zu Zxz (Zmy _ _ _ h29) rfl rfl (.cons u_0 (.cons c_b (.cons u_1 .nil)))) <| o_p rfl (Zc rfl rfl u_0) <| o_p rfl (Z6 rfl rfl u_0 rfl) <| o_p rfl (Z6 rfl rfl u_0 rfl) <| o_p rfl (Z6 rfl rfl u_0 rfl) <| o_p rfl (Zba Z8 rfl rfl u_1 u_0) <| o_n) (by kernel_rfl) (fun a g hst hb => ?_)
                             refine Zbg ?_
                             refine Zn ?_
                             refine r_g (T := [⟨[.old 7], _, [], [], [73]⟩, ⟨[.op 0 0], _, [], [0], [52]⟩]) (F := [.old 0, .old 1, .old 2, .old 3, .old 4, .old 5, .old 6, .op 1 0]) hst hb Za
                               (o_p rfl (Zck rfl rfl u_0 c_i rfl) <| o_p rfl (Zc rfl rfl u_0) <| o_n) (by kernel_rfl) (fun a g hst hb => ?_)
                             exact ⟨n, Nat.lt_succ_self _, r28.1, (IntKind.i64.wrap (x22 + (1 : Int))), g, rfl, (hst.pick [0, 1, 2, 3, 4, 5, 6, 7] rfl), hb, H2⟩
                           · refine wp_cond_split (hst.bool 10 rfl) (fun hc26 => ?_) (fun hc26 => ?_)
                             · replace H2 := Zp hc26 H2
                               refine r_g (L := [(2, _), (4, _), (8, _), (9, _), (12, _), (13, _), (14, _), (50, _), (51, _), (52, _)]) (T := [⟨[.old 2], _, [], [], [62]⟩, ⟨[.op 0 0], _, [], [0], [63]⟩, ⟨[.old 3], _, [], [], [64]⟩, ⟨[.op 2 0, .old 3], _, [10], [2], [9, 64]⟩, ⟨[.op 3 0], _, [], Lr 4, [65]⟩, ⟨[.op 1 0, .op 4 0, .op 3 0], _, [10], Lr 5, [9, 64, 65]⟩]) (F := [.old 0, .old 1, .op 5 0, .old 4, .old 5, .old 6, .old 7, .old 8, .old 9]) (hst.pick [0, 1, 2, 3, 4, 5, 6, 7, 8, 9] rfl) hb Za
                                 (o_p rfl (Zd Zen rfl rfl u_0) <| o_p rfl (Zf Zc0 rfl rfl u_0) <| o_p rfl (Zv Zce (off := 0) (by kernel_rfl) rfl rfl u_0) <| o_p rfl (Zqk ty_3 rfl rfl u_1 u_0 c_i) <| o_p rfl (Zv Zjq (off := 3) (by kernel_rfl) rfl rfl u_0) <| o_p rfl (Zz7 Zc0 rfl rfl u_2 u_1 u_0) <| o_n) (by kernel_rfl) (fun a g hst hb => ?_)
                               exact ⟨({ ({ ({ Kind := (18 : Int), Key := (⟨#[107]⟩ : ByteArray), N := (0 : Int), X := (0 : Nat), S := e24.Name, Make := (default : Ze), Must := false } : Zr) with Kind := (21 : Int) }) with X := e24.Score }), g, rfl, (hst.pick [0, 1, 2, 3, 4, 5, 6, 7, 8] rfl), hb, H2⟩
                             · replace H2 := Zq hc26 H2
                               refine wp_skip ?_
                               exact ⟨({ Kind := (18 : Int), Key := (⟨#[107]⟩ : ByteArray), N := (0 : Int), X := (0 : Nat), S := e24.Name, Make := (default : Ze), Must := false } : Zr), g, rfl, (hst.pick [0, 1, 3, 4, 5, 6, 7, 8, 9] rfl), hb, H2⟩
                         · replace H2 := Zq hc23 H2
                           refine wp_exit ?_
                           refine Zb9 ?_
                           refine Zb9 ?_
                           refine Zcy ?_
                           exact ⟨x21, g, rfl, (hst.pick [0, 1, 2, 3, 4] rfl), hb, Option.some.inj H2⟩
                   · replace H1 := Zq hc20 H1
                     refine wp_skip ?_
                     refine Zbg ?_
                     refine Zbg ?_
                     exact ⟨x3, g, rfl, (hst.pick [0, 1, 3, 4, 5] rfl), hb, H1⟩
                 · refine wp_cond_split (hst.bool 7 rfl) (fun hc18 => ?_) (fun hc18 => ?_)
                   · replace H1 := Zp hc18 H1
                     refine wp_skip ?_
                     exact ⟨(x3.Kind == (8 : Int)), g, rfl, (hst.pick [0, 1, 2, 3, 4, 5, 7] rfl), hb, H1⟩
                   · replace H1 := Zq hc18 H1
                     refine r_g (L := [(2, _), (4, _), (6, _), (12, _), (13, _), (14, _), (19, _)]) (T := [⟨[.old 6], _, [], [], [48]⟩, ⟨[.op 0 0], _, [], [0], [46]⟩]) (F := [.old 0, .old 1, .old 2, .old 3, .old 4, .old 5, .op 1 0]) (hst.pick [0, 1, 2, 3, 4, 5, 6] rfl) hb Za
                       (o_p rfl (Z7 rfl rfl u_0 c_i) <| o_p rfl (Zb rfl rfl u_0) <| o_n) (by kernel_rfl) (fun a g hst hb => ?_)
                     exact ⟨(x3.Kind == (9 : Int)), g, rfl, (hst.pick [0, 1, 2, 3, 4, 5, 6] rfl), hb, H1⟩
         · refine wp_cond_split (hst.bool 7 rfl) (fun hc8 => ?_) (fun hc8 => ?_)
           · replace H1 := Zp hc8 H1
             refine wp_skip ?_
             exact ⟨(x3.Kind == (2 : Int)), g, rfl, (hst.pick [0, 1, 2, 3, 4, 5, 6, 7] rfl), hb, H1⟩
           · replace H1 := Zq hc8 H1
             refine r_s (L := [(2, _), (4, _), (6, _), (12, _), (13, _), (14, _), (19, _)]) (T := [⟨[.old 6], _, [], [], [22]⟩, ⟨[.op 0 0], _, [], [0], [20]⟩]) (F := [.old 0, .old 1, .old 2, .old 3, .old 4, .old 5, .old 6, .op 1 0]) (hst.pick [0, 1, 2, 3, 4, 5, 6] rfl) hb Za
               (o_p rfl (Z7 rfl rfl u_0 c_i) <| o_p rfl (Zb rfl rfl u_0) <| o_n) (by kernel_rfl) (fun a g hst hb => ?_)
             refine wp_cond_split (hst.bool 7 rfl) (fun hc9 => ?_) (fun hc9 => ?_)
             · replace H1 := Zp hc9 H1
               refine wp_skip ?_
               exact ⟨(x3.Kind == (3 : Int)), g, rfl, (hst.pick [0, 1, 2, 3, 4, 5, 6, 7] rfl), hb, H1⟩
             · replace H1 := Zq hc9 H1
               refine r_g (L := [(2, _), (4, _), (6, _), (12, _), (13, _), (14, _), (19, _)]) (T := [⟨[.old 6], _, [], [], [23]⟩, ⟨[.op 0 0], _, [], [0], [20]⟩]) (F := [.old 0, .old 1, .old 2, .old 3, .old 4, .old 5, .old 6, .op 1 0]) (hst.pick [0, 1, 2, 3, 4, 5, 6] rfl) hb Za
                 (o_p rfl (Z7 rfl rfl u_0 c_i) <| o_p rfl (Zb rfl rfl u_0) <| o_n) (by kernel_rfl) (fun a g hst hb => ?_)
               exact ⟨(x3.Kind == (4 : Int)), g, rfl, (hst.pick [0, 1, 2, 3, 4, 5, 6, 7] rfl), hb, H1⟩
     · replace H1 := Zq hc5 H1
       refine wp_exit ?_
       refine Zb9 ?_
       refine Zb9 ?_
       refine Zcy ?_
       exact ⟨x3, g, rfl, (hst.pick [0, 1] rfl), hb, Option.some.inj H1⟩
theorem Ztq (a0 : Ze) (a1 : Zr) {r : Ze} (h : Zo8 a0 a1 = some r) : FnOk Tryd.prog 16 [(Zg.pd a0), (Zy.pd a1)] (Zg.pd r) := by
 have H0 := h
 unfold Zo8 at H0
 clear h
 refine Zbt (N := 29) Tryd.func16 rfl rfl (Nat.le_of_ble_eq_true rfl) rfl rfl (fun a g0 hst hb => ?_)
 refine r_s (T := [⟨[.old 0], _, [], [], [2]⟩, ⟨[.old 1], _, [4], [], [3]⟩, ⟨[], [(4, (pBox Zg 4 (default : Ze)))], [5], [], [4]⟩]) (F := [.op 0 0, .op 1 0, .op 2 0]) hst hb Za
   (o_p rfl (Zbq rfl rfl u_0) <| o_p rfl (Zls rfl rfl u_0) <| o_p rfl (Zbu (zs := [.int .i64 0, .int .i64 0, .int .i64 0, .int .i64 0, .float .f64 0, .int .i64 0, .string ByteArray.empty, .slice none 0 0]) (by kernel_rfl) (fun g => Zb4 g) rfl rfl) <| o_n) (by kernel_rfl) (fun a g hst hb => ?_)
 refine wp_seq ?_
 refine r_s (T := [⟨[.old 1], _, [], [], [8]⟩, ⟨[.op 0 0], _, [], [0], [9]⟩]) (F := [.old 0, .old 1, .old 2, .op 1 0]) hst hb Za
   (o_p rfl (Zv Zce (off := 0) (by kernel_rfl) rfl rfl u_0) <| o_p rfl (Zbr ty_3 rfl rfl u_0) <| o_n) (by kernel_rfl) (fun a g hst hb => ?_)
 refine Zcl (fun a w => ∃ (j5 : Zr) (g : G), w = g.w ∧ St 29 [(2, (Zg.ptr a0)), (3, (pBox Zy 3 j5)), (4, (pBox Zg 4 (default : Ze)))] a g ∧ Base g0 g ∧ Zio a0 j5 = some r) ?_ ?_
 · rintro a w ⟨j5, g, rfl, hst, hb, H0⟩
   unfold Zio at H0
   refine Zn ?_
   obtain ⟨r6, h7, H0⟩ := Zj H0
   refine r_s (T := ⟨[.old 0], _, [], [], [22]⟩ :: ⟨[.old 1], _, [], [], [23]⟩ :: ⟨[.op 0 0, .op 1 0], _, [], [0, 1], [24]⟩ :: ⟨[.op 2 0], _, [], [0, 1, 2], [21]⟩ :: ⟨[.op 3 0], _, [], Lr 4, [25]⟩ :: ⟨[.op 3 0], _, [], Lr 4, [26]⟩ :: ⟨[.op 3 0], _, [], Lr 4, [27]⟩ :: ⟨[], [(5, (pBox Zg 5 (default : Ze)))], [6], [], [5]⟩ :: ⟨[], [(7, (pBox Z5 7 (default : Zw)))], [8], [], [7]⟩ :: ⟨[.op 4 0, .op 7 0], _, [6], [0, 1, 2, 3, 4, 7, 8], [5]⟩ :: ⟨[.op 5 0], _, [], [0, 1, 2, 3, 4, 5, 7, 8, 9], [6]⟩ :: ⟨[.op 6 0, .op 8 0], _, [8], Lr 11, [7]⟩ :: []) (F := [.old 2, .op 9 0]) hst hb Za
     (o_p rfl (Zf Z8 rfl rfl u_0) <| o_p rfl (Zd6 Zgf rfl rfl u_0) <| o_p rfl (Zu Zxz (Zmy _ _ _ h7) rfl rfl (.cons u_0 (.cons c_b (.cons u_1 .nil)))) <| o_p rfl (Zc rfl rfl u_0) <| o_p rfl (Z6 rfl rfl u_0 rfl) <| o_p rfl (Z6 rfl rfl u_0 rfl) <| o_p rfl (Z6 rfl rfl u_0 rfl) <| o_p rfl (Zbu (zs := [.int .i64 0, .int .i64 0, .int .i64 0, .int .i64 0, .float .f64 0, .int .i64 0, .string ByteArray.empty, .slice none 0 0]) (by kernel_rfl) (fun g => Zb4 g) rfl rfl) <| o_p rfl (Zbu (zs := [.int .i64 0, .int .i64 0, .int .i64 0, .int .i64 0, .int .i64 0, .int .i64 0, .float .f64 0, .int .i64 0, .string ByteArray.empty, .slice none 0 0]) (by kernel_rfl) (fun g => Ziu g) rfl rfl) <| o_p rfl (Zct Z8 rfl rfl u_1 u_0) <| o_p rfl (Zb rfl rfl u_0) <| o_p rfl (Zct Zec rfl rfl u_1 u_0) <| o_n) (by kernel_rfl) (fun a g hst hb => ?_)
   refine r_s (T := [⟨[.old 1], _, [], [], [28]⟩, ⟨[.op 0 0, .old 0], _, [5], [0], [4]⟩]) (F := [.op 1 0]) hst hb Za
     (o_p rfl (Zf Z8 rfl rfl u_0) <| o_p rfl (Zba Z8 rfl rfl u_1 u_0) <| o_n) (by kernel_rfl) (fun a g hst hb => ?_)
   refine wp_ret ?_
   obtain rfl := Option.some.inj H0
   obtain ⟨u0, hu0, hq0⟩ := Zbi (P := Tryd.prog) Z8 (hst.at 0 rfl)
   exact Zz rfl hst hb hu0 hq0
 · refine wp_block ?_
   refine wp_seq ?_
   refine r_s (T := [⟨[.old 3], _, [], [], [11]⟩, ⟨[.op 0 0], _, [], [0], [10]⟩]) (F := [.old 0, .old 1, .old 2, .old 3, .op 1 0]) hst hb Za
     (o_p rfl (Z7 rfl rfl u_0 c_i) <| o_p rfl (Zb rfl rfl u_0) <| o_n) (by kernel_rfl) (fun a g hst hb => ?_)
   refine Zcl (fun a w => ∃ (j2 : Bool) (g : G), w = g.w ∧ St 29 [(2, (Zg.ptr a0)), (3, (pBox Zy 3 a1)), (4, (pBox Zg 4 (default : Ze))), (9, (pInt .i64 a1.Kind)), (10, (Z9 j2))] a g ∧ Base g0 g ∧ Zjt a0 a1 j2 = some r) ?_ ?_
   · rintro a w ⟨j2, g, rfl, hst, hb, H0⟩
     unfold Zjt at H0
     refine Zn ?_
     refine wp_cond_split (hst.bool 4 rfl) (fun hc3 => ?_) (fun hc3 => ?_)
     · replace H0 := Zp hc3 H0
       refine r_g (L := [(2, _), (3, _), (4, _)]) (T := [⟨[.old 1], _, [], [], [13]⟩, ⟨[.op 0 0, .old 1], _, [4], [0], [3, 13]⟩]) (F := [.old 0, .op 1 0, .old 2]) (hst.pick [0, 1, 2] rfl) hb Za
         (o_p rfl (Zv Zce (off := 0) (by kernel_rfl) rfl rfl u_0) <| o_p rfl (Zqk ty_3 rfl rfl u_1 u_0 c_i) <| o_n) (by kernel_rfl) (fun a g hst hb => ?_)
       refine Zbg ?_
       exact ⟨({ a1 with Kind := (7 : Int) }), g, rfl, (hst.pick [0, 1, 2] rfl), hb, H0⟩
     · replace H0 := Zq hc3 H0
       refine r_s (L := [(2, _), (3, _), (4, _), (9, _)]) (T := [⟨[.old 3], _, [], [], [15]⟩, ⟨[.op 0 0], _, [], [0], [14]⟩]) (F := [.old 0, .old 1, .old 2, .op 1 0]) (hst.pick [0, 1, 2, 3] rfl) hb Za
         (o_p rfl (Z7 rfl rfl u_0 c_i) <| o_p rfl (Zb rfl rfl u_0) <| o_n) (by kernel_rfl) (fun a g hst hb => ?_)
       refine wp_cond_split (hst.bool 3 rfl) (fun hc4 => ?_) (fun hc4 => ?_)
       · replace H0 := Zp hc4 H0
         refine r_g (L := [(2, _), (3, _), (4, _)]) (T := [⟨[.old 1], _, [], [], [16]⟩, ⟨[.op 0 0], _, [], [0], [17]⟩, ⟨[.op 1 0], _, [], [0, 1], [18]⟩, ⟨[.old 1], _, [], [0, 1], [19]⟩, ⟨[.op 3 0, .old 1], _, [4], [0, 1, 3], [3, 16, 19]⟩, ⟨[.op 4 0], _, [], Lr 5, [20]⟩, ⟨[.op 2 0, .op 5 0, .op 4 0], _, [4], Lr 6, [3, 16, 19, 20]⟩]) (F := [.old 0, .op 6 0, .old 2]) (hst.pick [0, 1, 2] rfl) hb Za
           (o_p rfl (Zv Zc3 (off := 2) (by kernel_rfl) rfl rfl u_0) <| o_p rfl (Zbr ty_2 rfl rfl u_0) <| o_p rfl (Znz rfl rfl u_0 rfl) <| o_p rfl (Zv Zce (off := 0) (by kernel_rfl) rfl rfl u_0) <| o_p rfl (Zqk ty_3 rfl rfl u_1 u_0 c_i) <| o_p rfl (Zv Zc3 (off := 2) (by kernel_rfl) rfl rfl u_0) <| o_p rfl (Zzm ty_2 rfl rfl u_2 u_1 u_0) <| o_n) (by kernel_rfl) (fun a g hst hb => ?_)
         refine Zbg ?_
         exact ⟨({ ({ a1 with Kind := (7 : Int) }) with N := (IntKind.i64.wrap (0 - a1.N)) }), g, rfl, (hst.pick [0, 1, 2] rfl), hb, H0⟩
       · replace H0 := Zq hc4 H0
         refine wp_skip ?_
         refine Zbg ?_
         exact ⟨a1, g, rfl, (hst.pick [0, 1, 2] rfl), hb, H0⟩
   · refine wp_cond_split (hst.bool 4 rfl) (fun hc1 => ?_) (fun hc1 => ?_)
     · replace H0 := Zp hc1 H0
       refine wp_skip ?_
       exact ⟨(a1.Kind == (8 : Int)), g, rfl, (hst.pick [0, 1, 2, 3, 4] rfl), hb, H0⟩
     · replace H0 := Zq hc1 H0
       refine r_g (L := [(2, _), (3, _), (4, _), (9, _)]) (T := [⟨[.old 3], _, [], [], [12]⟩, ⟨[.op 0 0], _, [], [0], [10]⟩]) (F := [.old 0, .old 1, .old 2, .old 3, .op 1 0]) (hst.pick [0, 1, 2, 3] rfl) hb Za
         (o_p rfl (Z7 rfl rfl u_0 c_i) <| o_p rfl (Zb rfl rfl u_0) <| o_n) (by kernel_rfl) (fun a g hst hb => ?_)
       exact ⟨(a1.Kind == (10 : Int)), g, rfl, (hst.pick [0, 1, 2, 3, 4] rfl), hb, H0⟩
theorem Zrg (a0 : Ze) {r : Zx × Bool} (h : Zi3 a0 = some r) : FnOk Tryd.prog 53 [(Zg.pd a0)] (pTup [(Z1.pd r.1), (Z9 r.2)]) := by
 have H0 := h
 unfold Zi3 at H0
 clear h
 refine Zbt (N := 43) Tryd.func53 rfl rfl (Nat.le_of_ble_eq_true rfl) rfl rfl (fun a g0 hst hb => ?_)
 refine r_s (T := [⟨[.old 0], _, [], [], [1]⟩, ⟨[], [(2, (pBox Z1 2 (default : Zx)))], [3], [], [2]⟩, ⟨[], _, [], [], [3]⟩]) (F := [.op 0 0, .op 1 0]) hst hb Za
   (o_p rfl (Zbq rfl rfl u_0) <| o_p rfl (Zbu (zs := [.int .u64 0, .int .u64 0]) (by kernel_rfl) (fun g => Zhp g) rfl rfl) <| o_p rfl (Zb rfl rfl c_b) <| o_n) (by kernel_rfl) (fun a g hst hb => ?_)
 refine wp_seq ?_
 refine r_s (T := [⟨[.old 0], _, [], [], [4]⟩, ⟨[.op 0 0], _, [], [0], [5]⟩]) (F := [.old 0, .old 1, .op 1 0]) hst hb Za
   (o_p rfl (Zd Zc9 rfl rfl u_0) <| o_p rfl (Zf ty_3 rfl rfl u_0) <| o_n) (by kernel_rfl) (fun a g hst hb => ?_)
 refine wp_block ?_
 refine r_s (T := [⟨[.old 2], _, [], [], [7]⟩, ⟨[.op 0 0], _, [], [0], [6]⟩]) (F := [.old 0, .old 1, .old 2, .op 1 0]) hst hb Za
   (o_p rfl (Z7 rfl rfl u_0 c_i) <| o_p rfl (Zb rfl rfl u_0) <| o_n) (by kernel_rfl) (fun a g hst hb => ?_)
 refine wp_cond_split (hst.bool 3 rfl) (fun hc1 => ?_) (fun hc1 => ?_)
 · replace H0 := Zp hc1 H0
   refine r_s (L := [(1, _), (2, _)]) (T := [⟨[.old 0], _, [], [], [8]⟩, ⟨[.op 0 0], _, [], [0], [9]⟩, ⟨[.op 1 0], _, [], [0, 1], [10]⟩, ⟨[.op 2 0], _, [], [0, 1, 2], [11]⟩, ⟨[.old 0], _, [], [], [12]⟩, ⟨[.op 4 0], _, [], [4], [13]⟩, ⟨[.op 5 0], _, [], [4, 5], [14]⟩, ⟨[.op 6 0], _, [], [4, 5, 6], [15]⟩, ⟨[.op 3 0, .op 7 0], _, [], Lr 8, [16]⟩, ⟨[.op 8 0, .old 1], _, [3], Lr 9, [2]⟩, ⟨[], _, [], Lr 10, [3]⟩]) (F := [.op 9 0, .op 10 0]) (hst.pick [0, 1] rfl) hb Za
     (o_p rfl (Zd Zb8 rfl rfl u_0) <| o_p rfl (Zf ty_2 rfl rfl u_0) <| o_p rfl (Zdc Tryd.underlying2 Tryd.underlying62 rfl rfl u_0 rfl) <| o_p rfl (Zdt rfl rfl c_i u_0 rfl) <| o_p rfl (Zd Zb8 rfl rfl u_0) <| o_p rfl (Zf ty_2 rfl rfl u_0) <| o_p rfl (Zdc Tryd.underlying2 Tryd.underlying62 rfl rfl u_0 rfl) <| o_p rfl (Zdt rfl rfl u_0 c_i rfl) <| o_p rfl (Znw rfl rfl u_0 u_1) <| o_p rfl (Zba Zd5 rfl rfl u_1 u_0) <| o_p rfl (Zb rfl rfl c_b) <| o_n) (by kernel_rfl) (fun a g hst hb => ?_)
   refine wp_ret ?_
   refine Zo ?_
   refine Zk ?_
   obtain rfl := Option.some.inj H0
   obtain ⟨u0, hu0, hq0⟩ := Zbi (P := Tryd.prog) Zd5 (hst.at 0 rfl)
   exact Zdr rfl hst hb hu0 (Zh (s := 3)) (Zc1 hq0 (hst.at 1 rfl))
 · replace H0 := Zq hc1 H0
   refine r_s (L := [(1, _), (2, _), (5, _)]) (T := [⟨[.old 2], _, [], [], [18]⟩, ⟨[.op 0 0], _, [], [0], [17]⟩]) (F := [.old 0, .old 1, .old 2, .op 1 0]) (hst.pick [0, 1, 2] rfl) hb Za
     (o_p rfl (Z7 rfl rfl u_0 c_i) <| o_p rfl (Zb rfl rfl u_0) <| o_n) (by kernel_rfl) (fun a g hst hb => ?_)
   refine wp_cond_split (hst.bool 3 rfl) (fun hc2 => ?_) (fun hc2 => ?_)
   · replace H0 := Zp hc2 H0
     refine r_s (L := [(1, _), (2, _)]) (T := ⟨[.old 0], _, [], [], [19]⟩ :: ⟨[.op 0 0], _, [], [0], [20]⟩ :: ⟨[.old 0], _, [], [], [21]⟩ :: ⟨[.op 2 0], _, [], [2], [22]⟩ :: ⟨[.op 1 0, .op 3 0], _, [], Lr 4, [23]⟩ :: ⟨[.op 4 0], _, [], Lr 5, [24]⟩ :: ⟨[.old 0], _, [], [], [25]⟩ :: ⟨[.op 6 0], _, [], [6], [26]⟩ :: ⟨[.old 0], _, [], [], [27]⟩ :: ⟨[.op 8 0], _, [], [8], [28]⟩ :: ⟨[.op 7 0, .op 9 0], _, [], List.range' 6 4, [29]⟩ :: ⟨[.op 10 0], _, [], List.range' 6 5, [30]⟩ :: ⟨[.op 5 0, .op 11 0], _, [], Lr 12, [31]⟩ :: ⟨[.op 12 0, .old 1], _, [3], Lr 13, [2]⟩ :: ⟨[], _, [], Lr 14, [3]⟩ :: []) (F := [.op 13 0, .op 14 0]) (hst.pick [0, 1] rfl) hb Za
       (o_p rfl (Zd Zf6 rfl rfl u_0) <| o_p rfl (Zf ty_2 rfl rfl u_0) <| o_p rfl (Zd Zb8 rfl rfl u_0) <| o_p rfl (Zf ty_2 rfl rfl u_0) <| o_p rfl (Zdt rfl rfl u_0 u_1 rfl) <| o_p rfl (Zdc Tryd.underlying2 Tryd.underlying62 rfl rfl u_0 rfl) <| o_p rfl (Zd Zb8 rfl rfl u_0) <| o_p rfl (Zf ty_2 rfl rfl u_0) <| o_p rfl (Zd Zf5 rfl rfl u_0) <| o_p rfl (Zf ty_2 rfl rfl u_0) <| o_p rfl (Zdt rfl rfl u_0 u_1 rfl) <| o_p rfl (Zdc Tryd.underlying2 Tryd.underlying62 rfl rfl u_0 rfl) <| o_p rfl (Znw rfl rfl u_0 u_1) <| o_p rfl (Zba Zd5 rfl rfl u_1 u_0) <| o_p rfl (Zb rfl rfl c_b) <| o_n) (by kernel_rfl) (fun a g hst hb => ?_)
     refine wp_ret ?_
     refine Zo ?_
     refine Zk ?_
     obtain rfl := Option.some.inj H0
     obtain ⟨u0, hu0, hq0⟩ := Zbi (P := Tryd.prog) Zd5 (hst.at 0 rfl)
     exact Zdr rfl hst hb hu0 (Zh (s := 3)) (Zc1 hq0 (hst.at 1 rfl))
   · replace H0 := Zq hc2 H0
     refine r_s (L := [(1, _), (2, _), (5, _)]) (T := [⟨[.old 2], _, [], [], [33]⟩, ⟨[.op 0 0], _, [], [0], [32]⟩]) (F := [.old 0, .old 1, .op 1 0]) (hst.pick [0, 1, 2] rfl) hb Za
       (o_p rfl (Z7 rfl rfl u_0 c_i) <| o_p rfl (Zb rfl rfl u_0) <| o_n) (by kernel_rfl) (fun a g hst hb => ?_)
     refine wp_cond_split (hst.bool 2 rfl) (fun hc3 => ?_) (fun hc3 => ?_)
     · replace H0 := Zp hc3 H0
       refine r_s (L := [(1, _), (2, _)]) (T := [⟨[.old 0], _, [], [], [34]⟩, ⟨[.op 0 0], _, [], [0], [35]⟩, ⟨[.old 0], _, [], [], [36]⟩, ⟨[.op 2 0], _, [], [2], [37]⟩, ⟨[.op 3 0], _, [], [2, 3], [38]⟩, ⟨[.op 1 0, .op 4 0], _, [], Lr 5, [39]⟩, ⟨[.op 5 0], _, [], Lr 6, [40]⟩, ⟨[.op 6 0], _, [], Lr 7, [41]⟩, ⟨[.op 7 0, .old 1], _, [3], Lr 8, [2]⟩, ⟨[], _, [], Lr 9, [3]⟩]) (F := [.op 8 0, .op 9 0]) (hst.pick [0, 1] rfl) hb Za
         (o_p rfl (Zd Zef rfl rfl u_0) <| o_p rfl (Zf ty_3 rfl rfl u_0) <| o_p rfl (Zd Zb3 rfl rfl u_0) <| o_p rfl (Zf Zcz rfl rfl u_0) <| o_p rfl (Zco Tryd.underlying23 rfl rfl u_0) <| o_p rfl (Zdt rfl rfl u_0 u_1 rfl) <| o_p rfl (Zdc Tryd.underlying3 Tryd.underlying62 rfl rfl u_0 rfl) <| o_p rfl (Zoc rfl rfl u_0) <| o_p rfl (Zba Zd5 rfl rfl u_1 u_0) <| o_p rfl (Zb rfl rfl c_b) <| o_n) (by kernel_rfl) (fun a g hst hb => ?_)
       refine wp_ret ?_
       refine Zo ?_
       refine Zk ?_
       obtain rfl := Option.some.inj H0
       obtain ⟨u0, hu0, hq0⟩ := Zbi (P := Tryd.prog) Zd5 (hst.at 0 rfl)
       exact Zdr rfl hst hb hu0 (Zh (s := 3)) (Zc1 hq0 (hst.at 1 rfl))
     · replace H0 := Zq hc3 H0
       refine wp_skip ?_
       refine Zbg ?_
       refine Zn ?_
       refine r_s (L := [(2, _)]) (T := [⟨[], _, [], [], [42]⟩, ⟨[.op 0 0, .old 0], _, [3], [0], [2]⟩, ⟨[], _, [], [0, 1], [3]⟩]) (F := [.op 1 0, .op 2 0]) (hst.pick [1] rfl) hb Za
         (o_p rfl (Zsr rfl rfl ) <| o_p rfl (Zba Zd5 rfl rfl u_1 u_0) <| o_p rfl (Zb rfl rfl c_b) <| o_n) (by kernel_rfl) (fun a g hst hb => ?_)
       refine wp_ret ?_
       obtain rfl := Option.some.inj H0
       obtain ⟨u0, hu0, hq0⟩ := Zbi (P := Tryd.prog) Zd5 (hst.at 0 rfl)
       exact Zdr rfl hst hb hu0 (Zh (s := 3)) (Zc1 hq0 (hst.at 1 rfl))
theorem Zmz (a0 : Int) (a1 : Int) (a2 : Int) {r : Int} (h : Zih a0 a1 a2 = some r) : FnOk Tryd.prog 54 [(pInt .u64 a0), (pInt .i64 a1), (pInt .i64 a2)] (pInt .u64 r) := by
 have H0 := h
 unfold Zih at H0
 clear h
 refine Zbt (N := 22) Tryd.func54 rfl rfl (Nat.le_of_ble_eq_true rfl) rfl rfl (fun a g0 hst hb => ?_)
 refine r_s (T := [⟨[], _, [], [], [6]⟩]) (F := [.old 0, .old 1, .old 2]) hst hb Za
   (o_p rfl (Zb rfl rfl c_i) <| o_n) (by kernel_rfl) (fun a g hst hb => ?_)
 obtain ⟨h1, H0⟩ := Zhd H0
 refine r_s (T := [⟨[.old 0], _, [], [], [8]⟩, ⟨[.old 2], _, [], [], [9]⟩, ⟨[.op 1 0], _, [], [1], [10]⟩, ⟨[.op 0 0, .op 2 0], _, [], [0, 1, 2], [11]⟩, ⟨[.op 3 0], _, [], Lr 4, [7]⟩]) (F := [.old 0, .old 1, .old 2, .op 4 0]) hst hb Za
   (o_p rfl (Zc rfl rfl u_0) <| o_p rfl (Zc rfl rfl u_0) <| o_p rfl (Zdc Tryd.underlying3 Tryd.underlying62 rfl rfl u_0 rfl) <| o_p rfl (Zv4 rfl rfl u_0 u_1 h1) <| o_p rfl (Zb rfl rfl u_0) <| o_n) (by kernel_rfl) (fun a g hst hb => ?_)
 refine wp_seq ?_
 obtain ⟨h2, H0⟩ := Zhd H0
 refine r_s (T := [⟨[.old 1], _, [], [], [12]⟩, ⟨[.op 0 0], _, [], [0], [13]⟩, ⟨[.old 0], _, [], [], [14]⟩, ⟨[.old 2], _, [], [], [15]⟩, ⟨[.op 3 0], _, [], [3], [16]⟩, ⟨[.op 2 0, .op 4 0], _, [], [2, 3, 4], [17]⟩, ⟨[.op 1 0, .op 5 0], _, [], Lr 6, [18]⟩]) (F := [.old 3, .op 6 0]) hst hb Za
   (o_p rfl (Zc rfl rfl u_0) <| o_p rfl (Zdc Tryd.underlying3 Tryd.underlying62 rfl rfl u_0 rfl) <| o_p rfl (Zc rfl rfl u_0) <| o_p rfl (Zc rfl rfl u_0) <| o_p rfl (Zdc Tryd.underlying3 Tryd.underlying62 rfl rfl u_0 rfl) <| o_p rfl (Zwd rfl rfl u_0 u_1 h2) <| o_p rfl (Zb6 rfl rfl u_0 u_1) <| o_n) (by kernel_rfl) (fun a g hst hb => ?_)
 refine Zcl (fun a w => ∃ (j4 : Int) (g : G), w = g.w ∧ St 22 [(7, (pInt .u64 j4))] a g ∧ Base g0 g ∧ Zhr j4 = some r) ?_ ?_
 · rintro a w ⟨j4, g, rfl, hst, hb, H0⟩
   unfold Zhr at H0
   refine Zn ?_
   refine r_s (T := [⟨[.old 0], _, [], [], [21]⟩, ⟨[.op 0 0], _, [], [0], [6]⟩]) (F := [.op 1 0]) hst hb Za
     (o_p rfl (Zc rfl rfl u_0) <| o_p rfl (Zb rfl rfl u_0) <| o_n) (by kernel_rfl) (fun a g hst hb => ?_)
   refine wp_ret ?_
   obtain rfl := Option.some.inj H0
   exact Zz rfl hst hb (Zh (s := 6)) (hst.at 0 rfl)
 · refine wp_cond_split (hst.bool 1 rfl) (fun hc3 => ?_) (fun hc3 => ?_)
   · replace H0 := Zp hc3 H0
     refine r_g (L := [(7, _)]) (T := [⟨[.old 0], _, [], [], [19]⟩, ⟨[.op 0 0], _, [], [0], [20]⟩, ⟨[.op 1 0], _, [], [0, 1], [7]⟩]) (F := [.op 2 0]) (hst.pick [0] rfl) hb Za
       (o_p rfl (Zc rfl rfl u_0) <| o_p rfl (Zck rfl rfl u_0 c_i rfl) <| o_p rfl (Zb rfl rfl u_0) <| o_n) (by kernel_rfl) (fun a g hst hb => ?_)
     exact ⟨(IntKind.u64.wrap ((IntKind.u64.wrap (Int.tdiv a0 (IntKind.u64.wrap a2))) + (1 : Int))), g, rfl, (hst.pick [0] rfl), hb, H0⟩
   · replace H0 := Zq hc3 H0
     refine wp_skip ?_
     exact ⟨(IntKind.u64.wrap (Int.tdiv a0 (IntKind.u64.wrap a2))), g, rfl, (hst.pick [0] rfl), hb, H0⟩
theorem Zm6 (a0 : Ze) (a1 : Int) {r : (Option Zs) × Int} (h : Zie a0 a1 = some r) : Znt Tryd.prog 24 [(Zg.pd a0), (pInt .i64 a1)] Zby r.1 (pInt .i64 r.2) := by
 have H0 := h
 unfold Zie at H0
 clear h
 refine Zvo (N := 66) Tryd.func24 rfl rfl (Nat.le_of_ble_eq_true rfl) rfl (fun a g0 h0 hst hb => ?_)
 refine r_s (T := [⟨[.old 0], _, [], [], [2]⟩, ⟨[], [(4, (pEq (.pointer none)))], [], [], [4]⟩, ⟨[], _, [], [1], [5]⟩]) (F := [.old 1, .op 0 0]) hst hb Za
   (o_p rfl (Zbq rfl rfl u_0) <| o_p rfl (Zb rfl rfl (Opd.c (fun g => Zjz g))) <| o_p rfl (Zb rfl rfl c_i) <| o_n) (by kernel_rfl) (fun a g hst hb => ?_)
 refine wp_seq ?_
 refine r_s (T := [⟨[.old 0], _, [], [], [13]⟩, ⟨[.op 0 0], _, [], [0], [14]⟩, ⟨[.op 1 0], _, [], [0, 1], [15]⟩, ⟨[.op 2 0, .old 0], _, [], [0, 1, 2], [16]⟩, ⟨[.op 2 0, .op 3 0], _, [], Lr 4, [17]⟩, ⟨[.op 2 0, .op 4 0], _, [], Lr 5, [18]⟩]) (F := [.old 0, .old 1, .op 5 0]) hst hb Za
   (o_p rfl (Zc rfl rfl u_0) <| o_p rfl (Zb6 rfl rfl u_0 c_i) <| o_p rfl (Zc rfl rfl u_0) <| o_g (g_f rfl rfl rfl (fun hG => Zc rfl rfl u_0)) <| o_g (g_f rfl rfl rfl (fun hG => Zci rfl rfl (Opd.gd hG u_0) c_i)) <| o_p rfl (Zbf rfl rfl u_0 (fun hz => (Opd.gd (bNF hz) u_1))) <| o_n) (by kernel_rfl) (fun a g hst hb => ?_)
 refine wp_cond_split (hst.bool 2 rfl) (fun hc1 => ?_) (fun hc1 => ?_)
 · replace H0 := Zp hc1 H0
   refine r_s (L := []) (T := [⟨[], [(4, (pEq (.pointer none)))], [], [], [4]⟩, ⟨[], _, [], [0], [5]⟩]) (F := [.op 0 0, .op 1 0]) (hst.pick [] rfl) hb Za
     (o_p rfl (Zb rfl rfl (Opd.c (fun g => Zjz g))) <| o_p rfl (Zb rfl rfl c_i) <| o_n) (by kernel_rfl) (fun a g hst hb => ?_)
   refine wp_ret ?_
   refine Zk ?_
   obtain rfl := Option.some.inj H0
   exact Zrm rfl hst hb (Zh (s := 4)) (Zh (s := 5)) (hst.at 1 rfl) (hst.at 0 rfl)
 · replace H0 := Zq hc1 H0
   refine wp_skip ?_
   refine Zn ?_
   refine wp_seq ?_
   obtain ⟨r2, h3, H0⟩ := Zj H0
   refine r_s (L := [(1, _), (2, _)]) (T := [⟨[.old 1], _, [], [], [19]⟩, ⟨[.op 0 0], _, [], [0], [20]⟩, ⟨[.op 1 0], _, [], [0, 1], [6]⟩]) (F := [.old 0, .old 1, .op 2 0]) (hst.pick [0, 1] rfl) hb Za
     (o_p rfl (Zf Z8 rfl rfl u_0) <| o_p rfl (Zu Zrp (Zi6 _ h3) rfl rfl (.cons u_0 .nil)) <| o_p rfl (Zb rfl rfl u_0) <| o_n) (by kernel_rfl) (fun a g hst hb => ?_)
   refine r_s (T := [⟨[.old 2], _, [], [], [21]⟩, ⟨[.op 0 0], _, [], [0], [22]⟩]) (F := [.old 0, .old 1, .old 2, .op 1 0]) hst hb Za
     (o_p rfl (Zc rfl rfl u_0) <| o_p rfl (Zcp rfl rfl u_0 c_i) <| o_n) (by kernel_rfl) (fun a g hst hb => ?_)
   refine wp_cond_split (hst.bool 3 rfl) (fun hc4 => ?_) (fun hc4 => ?_)
   · replace H0 := Zp hc4 H0
     refine r_s (L := [(6, _)]) (T := [⟨[.old 0], _, [], [], [23]⟩, ⟨[], [(4, (pEq (.pointer none)))], [], [], [4]⟩, ⟨[.op 0 0], _, [], [0, 1], [5]⟩]) (F := [.op 1 0, .op 2 0]) (hst.pick [2] rfl) hb Za
       (o_p rfl (Zc rfl rfl u_0) <| o_p rfl (Zb rfl rfl (Opd.c (fun g => Zjz g))) <| o_p rfl (Zb rfl rfl u_0) <| o_n) (by kernel_rfl) (fun a g hst hb => ?_)
     refine wp_ret ?_
     refine Zk ?_
     obtain rfl := Option.some.inj H0
     exact Zrm rfl hst hb (Zh (s := 4)) (Zh (s := 5)) (hst.at 1 rfl) (hst.at 0 rfl)
   · replace H0 := Zq hc4 H0
     refine wp_skip ?_
     refine Zn ?_
     refine wp_seq ?_
     obtain ⟨r5, h6, H0⟩ := Zj H0
     refine r_s (L := [(1, _), (2, _)]) (T := [⟨[.old 1], _, [], [], [25]⟩, ⟨[.op 0 0], _, [], [0], [26]⟩, ⟨[.op 1 0], _, [], [0, 1], [24]⟩, ⟨[.op 2 0], _, [], [0, 1, 2], [27]⟩, ⟨[.op 2 0], _, [], [0, 1, 2], [28]⟩, ⟨[], [(7, (pBox Zg 7 (default : Ze)))], [8], [], [7]⟩, ⟨[.op 3 0, .op 5 0], _, [8], [0, 1, 2, 3, 5], [7]⟩, ⟨[.op 4 0], _, [], Lr 7, [8]⟩]) (F := [.old 0, .old 1, .op 7 0]) (hst.pick [0, 1] rfl) hb Za
       (o_p rfl (Zf Z8 rfl rfl u_0) <| o_p rfl (Zu Zx9 (Zly _ h6) rfl rfl (.cons u_0 .nil)) <| o_p rfl (Zc rfl rfl u_0) <| o_p rfl (Z6 rfl rfl u_0 rfl) <| o_p rfl (Z6 rfl rfl u_0 rfl) <| o_p rfl (Zbu (zs := [.int .i64 0, .int .i64 0, .int .i64 0, .int .i64 0, .float .f64 0, .int .i64 0, .string ByteArray.empty, .slice none 0 0]) (by kernel_rfl) (fun g => Zb4 g) rfl rfl) <| o_p rfl (Zct Z8 rfl rfl u_1 u_0) <| o_p rfl (Zb rfl rfl u_0) <| o_n) (by kernel_rfl) (fun a g hst hb => ?_)
     refine r_s (T := [⟨[.old 2], _, [], [], [29]⟩, ⟨[.op 0 0], _, [], [0], [30]⟩]) (F := [.old 0, .old 1, .op 1 0]) hst hb Za
       (o_p rfl (Zc rfl rfl u_0) <| o_p rfl (Zcf rfl rfl u_0) <| o_n) (by kernel_rfl) (fun a g hst hb => ?_)
     refine wp_cond_split (hst.bool 2 rfl) (fun hc7 => ?_) (fun hc7 => ?_)
     · replace H0 := Zp hc7 H0
       refine r_s (L := []) (T := [⟨[], [(4, (pEq (.pointer none)))], [], [], [4]⟩, ⟨[], _, [], [0], [5]⟩]) (F := [.op 0 0, .op 1 0]) (hst.pick [] rfl) hb Za
         (o_p rfl (Zb rfl rfl (Opd.c (fun g => Zjz g))) <| o_p rfl (Zb rfl rfl c_i) <| o_n) (by kernel_rfl) (fun a g hst hb => ?_)
       refine wp_ret ?_
       refine Zk ?_
       obtain rfl := Option.some.inj H0
       exact Zrm rfl hst hb (Zh (s := 4)) (Zh (s := 5)) (hst.at 1 rfl) (hst.at 0 rfl)
     · replace H0 := Zq hc7 H0
       refine wp_skip ?_
       refine Zn ?_
       obtain ⟨r8, h9, H0⟩ := Zj H0
       refine r_s (L := [(1, _), (2, _)]) (T := [⟨[.old 1], _, [], [], [31]⟩, ⟨[.op 0 0], _, [], [0], [32]⟩, ⟨[.op 1 0], _, [], [0, 1], [33]⟩, ⟨[.op 2 0], [(34, (Zdq none Zbj Zbk hpT 34 ({ r := r8, by_ := ([] : List Zx) } : Zs))), (1002, (pBT Zbj Zbk Zb0 Z1 96 34 534 ({ r := r8, by_ := ([] : List Zx) } : Zs)))], [35], [0, 1, 2], [34, 1002]⟩, ⟨[.op 3 0], _, [], Lr 4, [9]⟩]) (F := [.old 0, .old 1, .op 4 0, .op 3 1]) (hst.pick [0, 1] rfl) hb Za
         (o_p rfl (Zf Z8 rfl rfl u_0) <| o_p rfl (Zu Zmt (Zgc _ h9) rfl rfl (.cons u_0 .nil)) <| o_p rfl (Zzn rfl rfl u_0) <| o_p rfl (Zy3 rfl rfl rfl u_0) <| o_p rfl (Zb rfl rfl u_0) <| o_n) (by kernel_rfl) (fun a g hst hb => ?_)
       obtain ⟨r10, h11, H0⟩ := Zj H0
       refine r_s (T := [⟨[.old 1], _, [], [], [36]⟩, ⟨[.op 0 0], _, [], [0], [37]⟩, ⟨[.op 1 0], _, [], [0, 1], [35]⟩, ⟨[.op 2 0], _, [], [0, 1, 2], [38]⟩, ⟨[.op 2 0], _, [], [0, 1, 2], [39]⟩, ⟨[], [(10, (pBox Z1 10 (default : Zx)))], [11], [], [10]⟩, ⟨[.op 3 0, .op 5 0], _, [11], [0, 1, 2, 3, 5], [10]⟩, ⟨[.op 4 0], _, [], Lr 7, [11]⟩]) (F := [.old 0, .old 2, .op 6 0, .old 3]) hst hb Za
         (o_p rfl (Zf Z8 rfl rfl u_0) <| o_p rfl (Zu Z2v (Zrg _ h11) rfl rfl (.cons u_0 .nil)) <| o_p rfl (Zc rfl rfl u_0) <| o_p rfl (Z6 rfl rfl u_0 rfl) <| o_p rfl (Z6 rfl rfl u_0 rfl) <| o_p rfl (Zbu (zs := [.int .u64 0, .int .u64 0]) (by kernel_rfl) (fun g => Zhp g) rfl rfl) <| o_p rfl (Zct Zd5 rfl rfl u_1 u_0) <| o_p rfl (Zb rfl rfl u_0) <| o_n) (by kernel_rfl) (fun a g hst hb => ?_)
       refine wp_seq ?_
       refine r_s (T := [⟨[.old 0], _, [], [], [40]⟩, ⟨[], _, [], [], [41]⟩]) (F := [.old 0, .old 1, .old 2, .op 0 0, .op 1 0, .old 3]) hst hb Za
         (o_p rfl (Zc rfl rfl u_0) <| o_p rfl (Zc rfl rfl c_i) <| o_n) (by kernel_rfl) (fun a g hst hb => ?_)
       obtain ⟨z21, hz1, H0⟩ := Zj H0
       refine Zcl (fun a w => ∃ (y20 : Zs) (g : G), w = g.w ∧ St 66 [(9, (Zdq none Zbj Zbk hpT 34 y20)), (1002, (pBT Zbj Zbk Zb0 Z1 96 34 534 y20))] a g ∧ Base g0 g ∧ y20 = z21) ?_ ?_
       · rintro a w ⟨y20, g, rfl, hst, hb, rfl⟩
         refine Zn ?_
         refine r_s (T := [⟨[.old 0], _, [], [], [65]⟩, ⟨[.op 0 0], _, [], [0], [4]⟩, ⟨[], _, [], [0, 1], [5]⟩]) (F := [.op 1 0, .op 2 0, .old 1]) hst hb Za
           (o_p rfl (Zc rfl rfl u_0) <| o_p rfl (Zb rfl rfl u_0) <| o_p rfl (Zb rfl rfl c_i) <| o_n) (by kernel_rfl) (fun a g hst hb => ?_)
         refine wp_ret ?_
         obtain rfl := Option.some.inj H0
         exact Zrm rfl hst hb (Zh (s := 4)) (Zh (s := 5)) (hst.at 1 rfl) ⟨34, 534, by decide, Ztu (hst.at 0 rfl) (hst.at 2 rfl)⟩
       · refine wp_block ?_
         refine wp_loop_ghost (fun n a w => ∃ (x12 : Zs) (x13 : Int) (g : G), w = g.w ∧ St 66 [(1, (pInt .i64 a1)), (9, (Zdq none Zbj Zbk hpT 34 x12)), (10, (Z1.ptr r10.1)), (40, (pInt .i64 a1)), (41, (pInt .i64 x13)), (1002, (pBT Zbj Zbk Zb0 Z1 96 34 534 x12))] a g ∧ Base g0 g ∧ Zfq a1 r10 n x12 x13 = some z21) (Int.toNat (a1 - (0 : Int)) + 1) ⟨({ r := r8, by_ := ([] : List Zx) } : Zs), (0 : Int), g, rfl, (hst.pick [0, 1, 2, 3, 4, 5] rfl), hb, hz1⟩ (fun n a w hI => ?_)
         obtain ⟨x12, x13, g, rfl, hst, hb, H1⟩ := hI
         cases n with
         | zero => exact absurd H1 (by simp [Zfq])
         | succ n =>
           rw [Zfq] at H1
           refine r_s (T := [⟨[.old 4, .old 3], _, [], [], [42]⟩]) (F := [.old 0, .old 1, .old 2, .old 3, .old 4, .op 0 0, .old 5]) hst hb Za
             (o_p rfl (Zb6 rfl rfl u_0 u_1) <| o_n) (by kernel_rfl) (fun a g hst hb => ?_)
           refine wp_seq ?_
           refine wp_cond_split (hst.bool 5 rfl) (fun hc14 => ?_) (fun hc14 => ?_)
           · replace H1 := Zp hc14 H1
             refine wp_skip ?_
             refine Zn ?_
             refine wp_seq ?_
             refine wp_block ?_
             refine r_s (L := [(1, _), (9, _), (10, _), (40, _), (41, _), (1002, _)]) (T := [⟨[.old 4], _, [], [], [43]⟩, ⟨[.op 0 0], _, [], [0], [12]⟩]) (F := [.old 0, .old 1, .old 2, .op 1 0, .old 3, .old 4, .old 5]) (hst.pick [0, 1, 2, 3, 4, 6] rfl) hb Za
               (o_p rfl (Zc rfl rfl u_0) <| o_p rfl (Zb rfl rfl u_0) <| o_n) (by kernel_rfl) (fun a g hst hb => ?_)
             obtain ⟨r15, h16, H1⟩ := Zj H1; obtain ⟨r17, h18, H1⟩ := Zj H1; obtain ⟨h19, H1⟩ := Zhd H1
             refine r_g (T := ⟨[.old 1], _, [], [], [44]⟩ :: ⟨[.old 1], _, [], [], [45]⟩ :: ⟨[.op 1 0], _, [], [1], [46]⟩ :: ⟨[.op 2 0, .old 6], _, [], [1, 2], [47]⟩ :: ⟨[.op 3 0], _, [], [1, 2, 3], [48]⟩ :: ⟨[.old 2], _, [], [], [49]⟩ :: ⟨[.op 5 0], _, [], [5], [50]⟩ :: ⟨[.old 3], _, [], [], [51]⟩ :: ⟨[.old 0], _, [], [], [52]⟩ :: ⟨[.op 6 0, .op 7 0, .op 8 0], _, [], List.range' 5 4, [53]⟩ :: ⟨[.old 2], _, [], [], [54]⟩ :: ⟨[.op 10 0], _, [], [10], [55]⟩ :: ⟨[.old 3], _, [], [], [56]⟩ :: ⟨[.old 0], _, [], [], [57]⟩ :: ⟨[.op 11 0, .op 12 0, .op 13 0], _, [], List.range' 5 9, [58]⟩ :: ⟨[.op 9 0, .op 14 0], _, [], List.range' 5 10, [59]⟩ :: ⟨[.op 15 0], _, [], List.range' 5 11, [60]⟩ :: ⟨[.op 4 0, .op 16 0], _, [535], List.range' 1 16, [47, 48, 61, 1002]⟩ :: ⟨[.op 0 0], _, [], Lr 18, [62]⟩ :: ⟨[.op 18 0], _, [], Lr 19, [63]⟩ :: ⟨[.op 17 0, .op 19 0, .old 1], [(9, (Zdq none Zbj Zbk hpT 34 ({ x12 with by_ := (x12.by_ ++ ([({ up := r15, down := r17 } : Zx)] : List Zx)) } : Zs))), (1002, (pBT Zbj Zbk Zb0 Z1 96 34 534 ({ x12 with by_ := (x12.by_ ++ ([({ up := r15, down := r17 } : Zx)] : List Zx)) } : Zs)))], [35], Lr 20, [9, 44, 45, 46, 47, 62, 63, 1002]⟩ :: []) (F := [.old 0, .op 20 0, .old 2, .old 4, .old 5, .op 20 1]) hst hb Za
               (o_p rfl (Zc rfl rfl u_0) <| o_p rfl (Zc rfl rfl u_0) <| o_p rfl (Z4 rfl rfl u_0 (fun _ _ ⟨_, ⟨_, _, _, e, _⟩, _⟩ => ⟨_, e⟩)) <| o_p rfl (Zfn Zji (off := 8) (q := (pArr Z1 96 534 (Zb0 x12))) (by kernel_rfl) (pr := id) (fun _ => rfl) (fun _ _ h => h) rfl rfl (Opd.joinT u_0 u_1)) <| o_p rfl (Zg3 Zl6 rfl rfl u_0) <| o_p rfl (Zd Zig rfl rfl u_0) <| o_p rfl (Zf Ze5 rfl rfl u_0) <| o_p rfl (Zc rfl rfl u_0) <| o_p rfl (Zc rfl rfl u_0) <| o_p rfl (Zu Zyj (Zmz _ _ _ h16) rfl rfl (.cons u_0 (.cons u_1 (.cons u_2 .nil)))) <| o_p rfl (Zd Zjm rfl rfl u_0) <| o_p rfl (Zf Ze5 rfl rfl u_0) <| o_p rfl (Zc rfl rfl u_0) <| o_p rfl (Zc rfl rfl u_0) <| o_p rfl (Zu Zyj (Zmz _ _ _ h18) rfl rfl (.cons u_0 (.cons u_1 (.cons u_2 .nil)))) <| o_p rfl (Znw rfl rfl u_0 u_1) <| o_p rfl (Zh8 Zrv (xs := [.tmp 59]) (.cons u_0 .nil) (by decide) rfl rfl) <| o_p rfl (Zpx Zrv rfl rfl u_0 u_1 (by simp) h19) <| o_p rfl (Z4 rfl rfl u_0 (fun _ _ ⟨_, ⟨_, _, _, e, _⟩, _⟩ => ⟨_, e⟩)) <| o_p rfl (Zfn Zji (off := 8) (q := pAny) (by kernel_rfl) (pr := id) (fun _ => rfl) (fun _ _ _ => trivial) rfl rfl u_0) <| o_p rfl (OB.bxT (Zw1 (x' := ({ x12 with by_ := (x12.by_ ++ ([({ up := r15, down := r17 } : Zx)] : List Zx)) } : Zs)) (R2 := hpL (pArr Z1 96 534 (Zb0 ({ x12 with by_ := (x12.by_ ++ ([({ up := r15, down := r17 } : Zx)] : List Zx)) } : Zs)))) (upd := fun _ s2 => s2) Zl6 rfl rfl (fun _ _ h => Zqn h) (fun k hk => by rw [List.mem_singleton.1 hk]; decide) (fun k hk => by cases hk) u_2 (fun a g hh => Zz3 (u_1 a g hh)) u_0 (fun _ _ _ _ h => h) (fun g cs s0 s1 ys h k => Zom h k))) <| o_n) (by kernel_rfl) (fun a g hst hb => ?_)
             refine Zbg ?_
             refine Zn ?_
             refine r_g (T := [⟨[.old 4], _, [], [], [64]⟩, ⟨[.op 0 0], _, [], [0], [41]⟩]) (F := [.old 0, .old 1, .old 2, .old 3, .op 1 0, .old 5]) hst hb Za
               (o_p rfl (Zck rfl rfl u_0 c_i rfl) <| o_p rfl (Zc rfl rfl u_0) <| o_n) (by kernel_rfl) (fun a g hst hb => ?_)
             exact ⟨n, Nat.lt_succ_self _, ({ x12 with by_ := (x12.by_ ++ ([({ up := r15, down := r17 } : Zx)] : List Zx)) } : Zs), (IntKind.i64.wrap (x13 + (1 : Int))), g, rfl, (hst.pick [0, 1, 2, 3, 4, 5] rfl), hb, H1⟩
           · replace H1 := Zq hc14 H1
             refine wp_exit ?_
             refine Zb9 ?_
             refine Zb9 ?_
             refine Zcy ?_
             exact ⟨x12, g, rfl, (hst.pick [1, 6] rfl), hb, Option.some.inj H1⟩
theorem Zlw (a0 : Zs) (a1 : Int) {r : Int × Int} (h : Zch a0 a1 = some r) : FnOk Tryd.prog 27 [(Zdz.ptr a0), (pInt .i64 a1)] (pTup [(pInt .u64 r.1), (pInt .u64 r.2)]) := by
 have H0 := h
 unfold Zch at H0
 clear h
 refine Zbt (N := 33) Tryd.func27 rfl rfl (Nat.le_of_ble_eq_true rfl) rfl rfl (fun a g0 hst hb => ?_)
 refine r_s (T := [⟨[], _, [], [], [4]⟩, ⟨[], _, [], [0], [5]⟩]) (F := [.old 0, .old 1]) hst hb Za
   (o_p rfl (Zb rfl rfl c_i) <| o_p rfl (Zb rfl rfl c_i) <| o_n) (by kernel_rfl) (fun a g hst hb => ?_)
 refine wp_seq ?_
 refine r_s (T := [⟨[.old 1], _, [], [], [6]⟩, ⟨[.op 0 0], _, [], [0], [7]⟩, ⟨[.op 1 0], _, [], [0, 1], [8]⟩, ⟨[.op 2 0, .old 1], _, [], [0, 1, 2], [9]⟩, ⟨[.op 2 0, .old 0], _, [], [0, 1, 2], [10]⟩, ⟨[.op 2 0, .op 4 0], _, [], [0, 1, 2, 4], [11]⟩, ⟨[.op 2 0, .op 5 0], _, [], [0, 1, 2, 4, 5], [12]⟩, ⟨[.op 2 0, .op 6 0], _, [], [0, 1, 2, 4, 5, 6], [13]⟩, ⟨[.op 2 0, .op 7 0], _, [], [0, 1, 2, 4, 5, 6, 7], [14]⟩, ⟨[.op 2 0, .op 3 0, .op 8 0], _, [], Lr 9, [15]⟩, ⟨[.op 2 0, .op 9 0], _, [], Lr 10, [16]⟩]) (F := [.old 0, .old 1, .op 10 0]) hst hb Za
   (o_p rfl (Zc rfl rfl u_0) <| o_p rfl (Zb6 rfl rfl u_0 c_i) <| o_p rfl (Zc rfl rfl u_0) <| o_g (g_f rfl rfl rfl (fun hG => Zc rfl rfl u_0)) <| o_g (g_f rfl rfl rfl (fun hG => Zc rfl rfl u_0)) <| o_g (g_f rfl rfl rfl (fun hG => Z4 rfl rfl (Opd.gd hG u_0) (fun _ _ ⟨_, _, _, e, _⟩ => ⟨_, e⟩))) <| o_g (g_f rfl rfl rfl (fun hG => Zd Zqb rfl rfl (Opd.gd hG u_0))) <| o_g (g_f rfl rfl rfl (fun hG => Zf Zu7 rfl rfl (Opd.gd hG u_0))) <| o_g (g_f rfl rfl rfl (fun hG => Zco Tryd.underlying92 rfl rfl (Opd.gd hG u_0))) <| o_g (g_f rfl rfl rfl (fun hG => Zmx rfl rfl (Opd.gd hG u_0) (Opd.gd hG u_1))) <| o_p rfl (Zbf rfl rfl u_0 (fun hz => (Opd.gd (bNF hz) u_1))) <| o_n) (by kernel_rfl) (fun a g hst hb => ?_)
 refine wp_cond_split (hst.bool 2 rfl) (fun hc1 => ?_) (fun hc1 => ?_)
 · replace H0 := Zp hc1 H0
   refine r_s (L := []) (T := [⟨[], _, [], [], [4]⟩, ⟨[], _, [], [0], [5]⟩]) (F := [.op 0 0, .op 1 0]) (hst.pick [] rfl) hb Za
     (o_p rfl (Zb rfl rfl c_i) <| o_p rfl (Zb rfl rfl c_i) <| o_n) (by kernel_rfl) (fun a g hst hb => ?_)
   refine wp_ret ?_
   refine Zk ?_
   obtain rfl := Option.some.inj H0
   exact Zdr rfl hst hb (Zh (s := 4)) (Zh (s := 5)) (Zc1 (hst.at 0 rfl) (hst.at 1 rfl))
 · replace H0 := Zq hc1 H0
   refine wp_skip ?_
   refine Zn ?_
   obtain ⟨e2, h3, H0⟩ := Zj H0; obtain ⟨e4, h5, H0⟩ := Zj H0
   refine r_s (L := [(0, _), (1, _)]) (T := ⟨[.old 0], _, [], [], [17]⟩ :: ⟨[.op 0 0], _, [], [0], [18]⟩ :: ⟨[.op 1 0], _, [], [0, 1], [19]⟩ :: ⟨[.op 2 0], _, [], [0, 1, 2], [20]⟩ :: ⟨[.old 1], _, [], [], [21]⟩ :: ⟨[.op 3 0, .op 4 0], _, [], Lr 5, [22]⟩ :: ⟨[.op 5 0], _, [], Lr 6, [23]⟩ :: ⟨[.op 6 0], _, [], Lr 7, [24]⟩ :: ⟨[.old 0], _, [], [], [25]⟩ :: ⟨[.op 8 0], _, [], [8], [26]⟩ :: ⟨[.op 9 0], _, [], [8, 9], [27]⟩ :: ⟨[.op 10 0], _, [], [8, 9, 10], [28]⟩ :: ⟨[.old 1], _, [], [], [29]⟩ :: ⟨[.op 11 0, .op 12 0], _, [], List.range' 8 5, [30]⟩ :: ⟨[.op 13 0], _, [], List.range' 8 6, [31]⟩ :: ⟨[.op 14 0], _, [], List.range' 8 7, [32]⟩ :: ⟨[.op 7 0], _, [], Lr 8, [4]⟩ :: ⟨[.op 15 0], _, [], Lr 17, [5]⟩ :: []) (F := [.op 16 0, .op 17 0]) (hst.pick [0, 1] rfl) hb Za
     (o_p rfl (Zc rfl rfl u_0) <| o_p rfl (Z4 rfl rfl u_0 (fun _ _ ⟨_, _, _, e, _⟩ => ⟨_, e⟩)) <| o_p rfl (Zd Zqb rfl rfl u_0) <| o_p rfl (Zf Zu7 rfl rfl u_0) <| o_p rfl (Zc rfl rfl u_0) <| o_p rfl (Zbm Tryd.underlying92 Zru rfl rfl u_0 u_1 h3) <| o_p rfl (Zd Zig rfl rfl u_0) <| o_p rfl (Zf Ze5 rfl rfl u_0) <| o_p rfl (Zc rfl rfl u_0) <| o_p rfl (Z4 rfl rfl u_0 (fun _ _ ⟨_, _, _, e, _⟩ => ⟨_, e⟩)) <| o_p rfl (Zd Zqb rfl rfl u_0) <| o_p rfl (Zf Zu7 rfl rfl u_0) <| o_p rfl (Zc rfl rfl u_0) <| o_p rfl (Zbm Tryd.underlying92 Zru rfl rfl u_0 u_1 h5) <| o_p rfl (Zd Zjm rfl rfl u_0) <| o_p rfl (Zf Ze5 rfl rfl u_0) <| o_p rfl (Zb rfl rfl u_0) <| o_p rfl (Zb rfl rfl u_0) <| o_n) (by kernel_rfl) (fun a g hst hb => ?_)
   refine wp_ret ?_
   obtain rfl := Option.some.inj H0
   exact Zdr rfl hst hb (Zh (s := 4)) (Zh (s := 5)) (Zc1 (hst.at 0 rfl) (hst.at 1 rfl))
theorem Zi7 (a0 : Zs) (a1 : Int) {r : Int × Int} (h : Zch a0 a1 = some r) : FnL Tryd.prog 27 [(Zdz.ptr a0), (pInt .i64 a1)] (pTup [(pInt .u64 r.1), (pInt .u64 r.2)]) := FnL.of (Zlw a0 a1 h) Zq8
theorem Zf2 (a0 : Zs) (a1 : Int) {r : Int × Int} (h : Zch a0 a1 = some r) : FnM Tryd.prog 27 Zby a0 a0 [(pInt .i64 a1)] (pTup [(pInt .u64 r.1), (pInt .u64 r.2)]) := Zw9 Zlc (Zi7 a0 a1 h) rfl
theorem Zl1 (a0 : Zs) (a1 : Zr) {r : Zx} (h : Ze2 a0 a1 = some r) : FnOk Tryd.prog 59 [(Zdz.ptr a0), (Zy.pd a1)] (Z1.pd r) := by
 have H0 := h
 unfold Ze2 at H0
 clear h
 refine Zbt (N := 56) Tryd.func59 rfl rfl (Nat.le_of_ble_eq_true rfl) rfl rfl (fun a g0 hst hb => ?_)
 refine r_s (T := [⟨[.old 1], _, [], [], [3]⟩, ⟨[], [(4, (pBox Z1 4 (default : Zx)))], [5], [], [4]⟩]) (F := [.old 0, .op 0 0, .op 1 0]) hst hb Za
   (o_p rfl (Zbq rfl rfl u_0) <| o_p rfl (Zbu (zs := [.int .u64 0, .int .u64 0]) (by kernel_rfl) (fun g => Zhp g) rfl rfl) <| o_n) (by kernel_rfl) (fun a g hst hb => ?_)
 refine wp_seq ?_
 refine r_s (T := [⟨[.old 1], _, [], [], [7]⟩, ⟨[.op 0 0], _, [], [0], [8]⟩]) (F := [.old 0, .old 1, .old 2, .op 1 0]) hst hb Za
   (o_p rfl (Zd Zce rfl rfl u_0) <| o_p rfl (Zf ty_3 rfl rfl u_0) <| o_n) (by kernel_rfl) (fun a g hst hb => ?_)
 refine wp_block ?_
 refine r_s (T := [⟨[.old 3], _, [], [], [10]⟩, ⟨[.op 0 0], _, [], [0], [9]⟩]) (F := [.old 0, .old 1, .old 2, .old 3, .op 1 0]) hst hb Za
   (o_p rfl (Z7 rfl rfl u_0 c_i) <| o_p rfl (Zb rfl rfl u_0) <| o_n) (by kernel_rfl) (fun a g hst hb => ?_)
 refine wp_cond_split (hst.bool 4 rfl) (fun hc1 => ?_) (fun hc1 => ?_)
 · replace H0 := Zp hc1 H0
   refine wp_seq ?_
   refine r_s (L := [(3, _), (4, _)]) (T := [⟨[.old 0], _, [], [], [11]⟩, ⟨[.op 0 0], _, [], [0], [12]⟩, ⟨[.op 1 0], _, [], [0, 1], [13]⟩]) (F := [.old 0, .old 1, .op 2 0]) (hst.pick [1, 2] rfl) hb Za
     (o_p rfl (Zd Zc3 rfl rfl u_0) <| o_p rfl (Zf ty_2 rfl rfl u_0) <| o_p rfl (Zb6 rfl rfl u_0 c_i) <| o_n) (by kernel_rfl) (fun a g hst hb => ?_)
   refine wp_cond_split (hst.bool 2 rfl) (fun hc2 => ?_) (fun hc2 => ?_)
   · replace H0 := Zp hc2 H0
     refine r_s (L := [(3, _), (4, _)]) (T := [⟨[.old 0], _, [], [], [14]⟩, ⟨[.op 0 0], _, [], [0], [15]⟩, ⟨[.op 1 0], _, [], [0, 1], [16]⟩, ⟨[.op 2 0], _, [], [0, 1, 2], [17]⟩, ⟨[.op 3 0], _, [], Lr 4, [18]⟩, ⟨[.op 4 0, .old 1], _, [5], Lr 5, [4]⟩]) (F := [.op 5 0]) (hst.pick [0, 1] rfl) hb Za
       (o_p rfl (Zd Zc3 rfl rfl u_0) <| o_p rfl (Zf ty_2 rfl rfl u_0) <| o_p rfl (Zdc Tryd.underlying2 Tryd.underlying62 rfl rfl u_0 rfl) <| o_p rfl (Znz rfl rfl u_0 rfl) <| o_p rfl (Zt9 rfl rfl u_0) <| o_p rfl (Zba Zd5 rfl rfl u_1 u_0) <| o_n) (by kernel_rfl) (fun a g hst hb => ?_)
     refine wp_ret ?_
     refine Zk ?_
     refine Zo ?_
     refine Zk ?_
     obtain rfl := Option.some.inj H0
     obtain ⟨u0, hu0, hq0⟩ := Zbi (P := Tryd.prog) Zd5 (hst.at 0 rfl)
     exact Zz rfl hst hb hu0 hq0
   · replace H0 := Zq hc2 H0
     refine wp_skip ?_
     refine Zn ?_
     refine r_s (L := [(3, _), (4, _)]) (T := [⟨[.old 0], _, [], [], [19]⟩, ⟨[.op 0 0], _, [], [0], [20]⟩, ⟨[.op 1 0], _, [], [0, 1], [21]⟩, ⟨[.op 2 0], _, [], [0, 1, 2], [22]⟩, ⟨[.op 3 0, .old 1], _, [5], Lr 4, [4]⟩]) (F := [.op 4 0]) (hst.pick [0, 1] rfl) hb Za
       (o_p rfl (Zd Zc3 rfl rfl u_0) <| o_p rfl (Zf ty_2 rfl rfl u_0) <| o_p rfl (Zdc Tryd.underlying2 Tryd.underlying62 rfl rfl u_0 rfl) <| o_p rfl (Zoc rfl rfl u_0) <| o_p rfl (Zba Zd5 rfl rfl u_1 u_0) <| o_n) (by kernel_rfl) (fun a g hst hb => ?_)
     refine wp_ret ?_
     refine Zo ?_
     refine Zk ?_
     obtain rfl := Option.some.inj H0
     obtain ⟨u0, hu0, hq0⟩ := Zbi (P := Tryd.prog) Zd5 (hst.at 0 rfl)
     exact Zz rfl hst hb hu0 hq0
 · replace H0 := Zq hc1 H0
   refine r_s (L := [(0, _), (3, _), (4, _), (8, _)]) (T := [⟨[.old 3], _, [], [], [24]⟩, ⟨[.op 0 0], _, [], [0], [23]⟩]) (F := [.old 0, .old 1, .old 2, .old 3, .op 1 0]) (hst.pick [0, 1, 2, 3] rfl) hb Za
     (o_p rfl (Z7 rfl rfl u_0 c_i) <| o_p rfl (Zb rfl rfl u_0) <| o_n) (by kernel_rfl) (fun a g hst hb => ?_)
   refine wp_cond_split (hst.bool 4 rfl) (fun hc3 => ?_) (fun hc3 => ?_)
   · replace H0 := Zp hc3 H0
     refine r_s (L := [(3, _), (4, _)]) (T := [⟨[.old 0], _, [], [], [25]⟩, ⟨[.op 0 0], _, [], [0], [26]⟩, ⟨[.op 1 0], _, [], [0, 1], [27]⟩, ⟨[.op 2 0], _, [], [0, 1, 2], [28]⟩, ⟨[.op 3 0, .old 1], _, [5], Lr 4, [4]⟩]) (F := [.op 4 0]) (hst.pick [1, 2] rfl) hb Za
       (o_p rfl (Zd Zc3 rfl rfl u_0) <| o_p rfl (Zf ty_2 rfl rfl u_0) <| o_p rfl (Zdc Tryd.underlying2 Tryd.underlying62 rfl rfl u_0 rfl) <| o_p rfl (Zoc rfl rfl u_0) <| o_p rfl (Zba Zd5 rfl rfl u_1 u_0) <| o_n) (by kernel_rfl) (fun a g hst hb => ?_)
     refine wp_ret ?_
     refine Zo ?_
     refine Zk ?_
     obtain rfl := Option.some.inj H0
     obtain ⟨u0, hu0, hq0⟩ := Zbi (P := Tryd.prog) Zd5 (hst.at 0 rfl)
     exact Zz rfl hst hb hu0 hq0
   · replace H0 := Zq hc3 H0
     refine r_s (L := [(0, _), (3, _), (4, _), (8, _)]) (T := [⟨[.old 3], _, [], [], [30]⟩, ⟨[.op 0 0], _, [], [0], [29]⟩]) (F := [.old 0, .old 1, .old 2, .old 3, .op 1 0]) (hst.pick [0, 1, 2, 3] rfl) hb Za
       (o_p rfl (Z7 rfl rfl u_0 c_i) <| o_p rfl (Zb rfl rfl u_0) <| o_n) (by kernel_rfl) (fun a g hst hb => ?_)
     refine wp_cond_split (hst.bool 4 rfl) (fun hc4 => ?_) (fun hc4 => ?_)
     · replace H0 := Zp hc4 H0
       refine r_s (L := [(3, _), (4, _)]) (T := [⟨[.old 0], _, [], [], [31]⟩, ⟨[.op 0 0], _, [], [0], [32]⟩, ⟨[.op 1 0], _, [], [0, 1], [33]⟩, ⟨[.op 2 0], _, [], [0, 1, 2], [34]⟩, ⟨[.op 3 0, .old 1], _, [5], Lr 4, [4]⟩]) (F := [.op 4 0]) (hst.pick [1, 2] rfl) hb Za
         (o_p rfl (Zd Zc3 rfl rfl u_0) <| o_p rfl (Zf ty_2 rfl rfl u_0) <| o_p rfl (Zdc Tryd.underlying2 Tryd.underlying62 rfl rfl u_0 rfl) <| o_p rfl (Zt9 rfl rfl u_0) <| o_p rfl (Zba Zd5 rfl rfl u_1 u_0) <| o_n) (by kernel_rfl) (fun a g hst hb => ?_)
       refine wp_ret ?_
       refine Zo ?_
       refine Zk ?_
       obtain rfl := Option.some.inj H0
       obtain ⟨u0, hu0, hq0⟩ := Zbi (P := Tryd.prog) Zd5 (hst.at 0 rfl)
       exact Zz rfl hst hb hu0 hq0
     · replace H0 := Zq hc4 H0
       refine r_s (L := [(0, _), (3, _), (4, _), (8, _)]) (T := [⟨[.old 3], _, [], [], [36]⟩, ⟨[.op 0 0], _, [], [0], [35]⟩]) (F := [.old 0, .old 1, .old 2, .op 1 0]) (hst.pick [0, 1, 2, 3] rfl) hb Za
         (o_p rfl (Z7 rfl rfl u_0 c_i) <| o_p rfl (Zb rfl rfl u_0) <| o_n) (by kernel_rfl) (fun a g hst hb => ?_)
       refine wp_cond_split (hst.bool 3 rfl) (fun hc5 => ?_) (fun hc5 => ?_)
       · replace H0 := Zp hc5 H0
         refine wp_seq ?_
         refine r_s (L := [(0, _), (3, _), (4, _)]) (T := [⟨[.old 0], _, [], [], [37]⟩, ⟨[.op 0 0], _, [], [0], [38]⟩, ⟨[.op 1 0], _, [], [0, 1], [39]⟩, ⟨[.op 2 0], _, [], [0, 1, 2], [40]⟩, ⟨[.op 3 0], _, [], Lr 4, [41]⟩, ⟨[.op 4 0], _, [], Lr 5, [42]⟩, ⟨[], _, [], [], [43]⟩]) (F := [.old 1, .old 2, .op 4 0, .op 5 0, .op 6 0]) (hst.pick [0, 1, 2] rfl) hb Za
           (o_p rfl (Zc rfl rfl u_0) <| o_p rfl (Z4 rfl rfl u_0 (fun _ _ ⟨_, _, _, e, _⟩ => ⟨_, e⟩)) <| o_p rfl (Zd Zz8 rfl rfl u_0) <| o_p rfl (Zd Zb3 rfl rfl u_0) <| o_p rfl (Zf Zcz rfl rfl u_0) <| o_p rfl (Zco Tryd.underlying23 rfl rfl u_0) <| o_p rfl (Zc rfl rfl c_i) <| o_n) (by kernel_rfl) (fun a g hst hb => ?_)
         obtain ⟨z13, hz1, H0⟩ := Zj H0
         refine Zcl (fun a w => ∃ (y12 : Zx) (g : G), w = g.w ∧ St 56 [(4, (pBox Z1 4 y12))] a g ∧ Base g0 g ∧ (.inr y12) = z13) ?_ ?_
         · rintro a w ⟨y12, g, rfl, hst, hb, rfl⟩
           refine Zn ?_
           refine r_s (T := [⟨[], _, [], [], [54]⟩, ⟨[.op 0 0, .old 0], _, [5], [0], [4]⟩]) (F := [.op 1 0]) hst hb Za
             (o_p rfl (Zoc rfl rfl c_i) <| o_p rfl (Zba Zd5 rfl rfl u_1 u_0) <| o_n) (by kernel_rfl) (fun a g hst hb => ?_)
           refine wp_ret ?_
           refine Zo ?_
           refine Zk ?_
           obtain rfl := Option.some.inj H0
           obtain ⟨u0, hu0, hq0⟩ := Zbi (P := Tryd.prog) Zd5 (hst.at 0 rfl)
           exact Zz rfl hst hb hu0 hq0
         · refine wp_block ?_
           refine wp_loop_ghost (fun n a w => ∃ (x6 : Zx) (x7 : Int) (g : G), w = g.w ∧ St 56 [(3, (Zy.ptr a1)), (4, (pBox Z1 4 x6)), (41, (Zt.sl.pd a0.r.List)), (42, (pInt .i64 (a0.r.List.length : Int))), (43, (pInt .i64 x7))] a g ∧ Base g0 g ∧ Zc6 a0 a1 n x6 x7 = some z13) (Int.toNat ((a0.r.List.length : Int) - (0 : Int)) + 1) ⟨(default : Zx), (0 : Int), g, rfl, (hst.pick [0, 1, 2, 3, 4] rfl), hb, hz1⟩ (fun n a w hI => ?_)
           obtain ⟨x6, x7, g, rfl, hst, hb, H1⟩ := hI
           cases n with
           | zero => exact absurd H1 (by simp [Zc6])
           | succ n =>
             rw [Zc6] at H1
             refine r_s (T := [⟨[.old 4, .old 3], _, [], [], [44]⟩]) (F := [.old 0, .old 1, .old 2, .old 3, .old 4, .op 0 0]) hst hb Za
               (o_p rfl (Zb6 rfl rfl u_0 u_1) <| o_n) (by kernel_rfl) (fun a g hst hb => ?_)
             refine wp_seq ?_
             refine wp_cond_split (hst.bool 5 rfl) (fun hc8 => ?_) (fun hc8 => ?_)
             · replace H1 := Zp hc8 H1
               refine wp_skip ?_
               refine Zn ?_
               refine wp_seq ?_
               refine wp_block ?_
               obtain ⟨e9, h10, H1⟩ := Zj H1
               refine r_s (L := [(3, _), (4, _), (41, _), (42, _), (43, _)]) (T := [⟨[.old 2, .old 4], _, [], [], [45]⟩, ⟨[.op 0 0], _, [], [0], [46]⟩, ⟨[], [(6, (pBox Zt 6 (default : Zm)))], [7], [], [6]⟩, ⟨[.op 1 0, .op 2 0], _, [7], [0, 1, 2], [6]⟩]) (F := [.old 0, .old 1, .op 3 0, .old 2, .old 3, .old 4]) (hst.pick [0, 1, 2, 3, 4] rfl) hb Za
                 (o_p rfl (Zbm Tryd.underlying23 Zff rfl rfl u_0 u_1 h10) <| o_p rfl (Zf Zd4 rfl rfl u_0) <| o_p rfl (Zbu (zs := [.float .f64 0, .string ByteArray.empty]) (by kernel_rfl) (fun g => Zf3 g) rfl rfl) <| o_p rfl (Zct Zd4 rfl rfl u_1 u_0) <| o_n) (by kernel_rfl) (fun a g hst hb => ?_)
               refine r_s (T := [⟨[.old 2], _, [], [], [47]⟩, ⟨[.op 0 0], _, [], [0], [48]⟩, ⟨[.old 0], _, [], [], [49]⟩, ⟨[.op 2 0], _, [], [2], [50]⟩, ⟨[.op 1 0, .op 3 0], _, [], Lr 4, [51]⟩]) (F := [.old 0, .old 1, .old 3, .old 4, .old 5, .op 4 0]) hst hb Za
                 (o_p rfl (Zd Zd3 rfl rfl u_0) <| o_p rfl (Zf ty_9 rfl rfl u_0) <| o_p rfl (Zd Zfc rfl rfl u_0) <| o_p rfl (Zf ty_9 rfl rfl u_0) <| o_p rfl (Zjy rfl rfl u_0 u_1) <| o_n) (by kernel_rfl) (fun a g hst hb => ?_)
               refine wp_cond_split (hst.bool 5 rfl) (fun hc11 => ?_) (fun hc11 => ?_)
               · replace H1 := Zp hc11 H1
                 refine r_s (L := [(4, _)]) (T := [⟨[], _, [], [], [52]⟩, ⟨[.op 0 0, .old 0], _, [5], [0], [4]⟩]) (F := [.op 1 0]) (hst.pick [1] rfl) hb Za
                   (o_p rfl (Zsr rfl rfl ) <| o_p rfl (Zba Zd5 rfl rfl u_1 u_0) <| o_n) (by kernel_rfl) (fun a g hst hb => ?_)
                 refine wp_ret ?_
                 refine Zo ?_
                 refine Zk ?_
                 refine Zk ?_
                 refine Zo ?_
                 refine Zk ?_
                 refine Zk ?_
                 refine Zo ?_
                 refine Zk ?_
                 obtain rfl := Option.some.inj H1
                 obtain rfl := Option.some.inj H0
                 obtain ⟨u0, hu0, hq0⟩ := Zbi (P := Tryd.prog) Zd5 (hst.at 0 rfl)
                 exact Zz rfl hst hb hu0 hq0
               · replace H1 := Zq hc11 H1
                 refine wp_skip ?_
                 refine Zbg ?_
                 refine Zn ?_
                 refine r_g (L := [(3, _), (4, _), (41, _), (42, _), (43, _)]) (T := [⟨[.old 4], _, [], [], [53]⟩, ⟨[.op 0 0], _, [], [0], [43]⟩]) (F := [.old 0, .old 1, .old 2, .old 3, .op 1 0]) (hst.pick [0, 1, 2, 3, 4] rfl) hb Za
                   (o_p rfl (Zck rfl rfl u_0 c_i rfl) <| o_p rfl (Zc rfl rfl u_0) <| o_n) (by kernel_rfl) (fun a g hst hb => ?_)
                 exact ⟨n, Nat.lt_succ_self _, x6, (IntKind.i64.wrap (x7 + (1 : Int))), g, rfl, (hst.pick [0, 1, 2, 3, 4] rfl), hb, H1⟩
             · replace H1 := Zq hc8 H1
               refine wp_exit ?_
               refine Zb9 ?_
               refine Zb9 ?_
               refine Zcy ?_
               exact ⟨x6, g, rfl, (hst.pick [1] rfl), hb, Option.some.inj H1⟩
       · replace H0 := Zq hc5 H0
         refine wp_skip ?_
         refine Zbg ?_
         refine Zn ?_
         refine r_s (L := [(4, _)]) (T := [⟨[], _, [], [], [55]⟩, ⟨[.op 0 0, .old 0], _, [5], [0], [4]⟩]) (F := [.op 1 0]) (hst.pick [2] rfl) hb Za
           (o_p rfl (Zsr rfl rfl ) <| o_p rfl (Zba Zd5 rfl rfl u_1 u_0) <| o_n) (by kernel_rfl) (fun a g hst hb => ?_)
         refine wp_ret ?_
         obtain rfl := Option.some.inj H0
         obtain ⟨u0, hu0, hq0⟩ := Zbi (P := Tryd.prog) Zd5 (hst.at 0 rfl)
         exact Zz rfl hst hb hu0 hq0
theorem Zmn (a0 : Zs) (a1 : Zr) {r : Zx} (h : Ze2 a0 a1 = some r) : FnL Tryd.prog 59 [(Zdz.ptr a0), (Zy.pd a1)] (Z1.pd r) := FnL.of (Zl1 a0 a1 h) (Zzt Zl8)
theorem Zln (a0 : Zs) (a1 : Int) (a2 : List Zr) {r : Int × Zs} (h : Zgg a0 a1 a2 = some r) : FnM Tryd.prog 28 Zby a0 r.2 [(pInt .i64 a1), (Zy.sl.pd a2)] (pInt .i64 r.1) := by
 have H0 := h
 unfold Zgg at H0
 clear h
 refine Zt7 (N := 96) Tryd.func28 rfl rfl (Nat.le_of_ble_eq_true rfl) rfl rfl (fun a g0 b0 hst hb => ?_)
 replace hst : St 96 [(0, (Zdq (some b0) Zbj Zbk hpT 0 a0)), (1, (pInt .i64 a1)), (2, (Zy.sl.pd a2)), (1002, (pST Zbj Zbk Zb0 Z1 96 b0 a0))] _ _ := Zpe hst
 refine r_s (T := [⟨[], _, [], [], [6]⟩]) (F := [.old 0, .old 1, .old 2, .old 3]) hst hb Za
   (o_p rfl (Zb rfl rfl c_i) <| o_n) (by kernel_rfl) (fun a g hst hb => ?_)
 refine wp_seq ?_
 refine r_s (T := [⟨[.old 1], _, [], [], [12]⟩, ⟨[.op 0 0], _, [], [0], [13]⟩, ⟨[.op 1 0], _, [], [0, 1], [14]⟩, ⟨[.op 2 0, .old 1], _, [], [0, 1, 2], [15]⟩, ⟨[.op 2 0, .old 0], _, [], [0, 1, 2], [16]⟩, ⟨[.op 2 0, .op 4 0], _, [], [0, 1, 2, 4], [17]⟩, ⟨[.op 2 0, .op 5 0, .old 3], _, [], [0, 1, 2, 4, 5], [18]⟩, ⟨[.op 2 0, .op 6 0], _, [], [0, 1, 2, 4, 5, 6], [19]⟩, ⟨[.op 2 0, .op 7 0], _, [], [0, 1, 2, 4, 5, 6, 7], [20]⟩, ⟨[.op 2 0, .op 3 0, .op 8 0], _, [], Lr 9, [21]⟩, ⟨[.op 2 0, .op 9 0], _, [], Lr 10, [22]⟩]) (F := [.old 0, .old 1, .old 2, .op 10 0, .old 3]) hst hb Za
   (o_p rfl (Zc rfl rfl u_0) <| o_p rfl (Zb6 rfl rfl u_0 c_i) <| o_p rfl (Zc rfl rfl u_0) <| o_g (g_f rfl rfl rfl (fun hG => Zc rfl rfl u_0)) <| o_g (g_f rfl rfl rfl (fun hG => Zc rfl rfl u_0)) <| o_g (g_f rfl rfl rfl (fun hG => Z4 rfl rfl (Opd.gd hG u_0) (fun _ _ ⟨_, ⟨_, _, _, e, _⟩, _⟩ => ⟨_, e⟩))) <| o_g (g_f rfl rfl rfl (fun hG => Zfn Zji (off := 8) (q := (pArr Z1 96 1000000 (Zb0 a0))) (by kernel_rfl) (pr := id) (fun _ => rfl) (fun _ _ h => h) rfl rfl (Opd.joinS (Opd.gd hG u_0) u_1))) <| o_g (g_f rfl rfl rfl (fun hG => Zg3 Zl6 rfl rfl (Opd.gd hG u_0))) <| o_g (g_f rfl rfl rfl (fun hG => Ztx Tryd.underlying92 rfl rfl (Opd.gd hG u_0))) <| o_g (g_f rfl rfl rfl (fun hG => Zmx rfl rfl (Opd.gd hG u_0) (Opd.gd hG u_1))) <| o_p rfl (Zbf rfl rfl u_0 (fun hz => (Opd.gd (bNF hz) u_1))) <| o_n) (by kernel_rfl) (fun a g hst hb => ?_)
 refine wp_cond_split (hst.bool 3 rfl) (fun hc1 => ?_) (fun hc1 => ?_)
 · replace H0 := Zp hc1 H0
   refine r_s (L := [(0, _), (1002, _)]) (T := [⟨[], _, [], [], [6]⟩]) (F := [.old 0, .op 0 0, .old 1]) (hst.pick [0, 4] rfl) hb Za
     (o_p rfl (Zb rfl rfl c_i) <| o_n) (by kernel_rfl) (fun a g hst hb => ?_)
   refine wp_ret ?_
   refine Zk ?_
   obtain rfl := Option.some.inj H0
   exact Zlg rfl hst hb (Zh (s := 6)) (hst.at 1 rfl) (Zgm (hst.at 0 rfl) (hst.at 2 rfl))
 · replace H0 := Zq hc1 H0
   refine wp_skip ?_
   refine Zn ?_
   obtain ⟨e2, h3, H0⟩ := Zj H0
   refine r_s (L := [(0, _), (1, _), (2, _), (1002, _)]) (T := [⟨[.old 0], _, [], [], [23]⟩, ⟨[.op 0 0], _, [], [0], [24]⟩, ⟨[.op 1 0, .old 3], _, [], [0, 1], [25]⟩, ⟨[.op 2 0], _, [], [0, 1, 2], [26]⟩, ⟨[.old 1], _, [], [], [27]⟩, ⟨[.op 3 0, .op 4 0], _, [], Lr 5, [28]⟩, ⟨[.op 5 0], _, [], Lr 6, [29]⟩, ⟨[], [(7, (pBox Z1 7 (default : Zx)))], [8], [], [7]⟩, ⟨[.op 6 0, .op 7 0], _, [8], Lr 8, [7]⟩]) (F := [.old 0, .old 1, .old 2, .op 8 0, .old 3]) (hst.pick [0, 1, 2, 4] rfl) hb Za
     (o_p rfl (Zc rfl rfl u_0) <| o_p rfl (Z4 rfl rfl u_0 (fun _ _ ⟨_, ⟨_, _, _, e, _⟩, _⟩ => ⟨_, e⟩)) <| o_p rfl (Zfn Zji (off := 8) (q := (pArr Z1 96 1000000 (Zb0 a0))) (by kernel_rfl) (pr := id) (fun _ => rfl) (fun _ _ h => h) rfl rfl (Opd.joinS u_0 u_1)) <| o_p rfl (Zg3 Zl6 rfl rfl u_0) <| o_p rfl (Zc rfl rfl u_0) <| o_p rfl (Ziy Tryd.underlying92 Zru rfl rfl u_0 u_1 h3) <| o_p rfl (Zn1 Zd5 rfl rfl u_0) <| o_p rfl (Zbu (zs := [.int .u64 0, .int .u64 0]) (by kernel_rfl) (fun g => Zhp g) rfl rfl) <| o_p rfl (Zba Zd5 rfl rfl u_1 u_0) <| o_n) (by kernel_rfl) (fun a g hst hb => ?_)
   refine wp_seq ?_
   refine r_s (T := [⟨[.old 2], _, [], [], [30]⟩, ⟨[.op 0 0], _, [], [0], [31]⟩, ⟨[], _, [], [], [32]⟩]) (F := [.old 0, .old 1, .old 3, .op 0 0, .op 1 0, .op 2 0, .old 4]) hst hb Za
     (o_p rfl (Zc rfl rfl u_0) <| o_p rfl (Zco Tryd.underlying60 rfl rfl u_0) <| o_p rfl (Zc rfl rfl c_i) <| o_n) (by kernel_rfl) (fun a g hst hb => ?_)
   obtain ⟨z23, hz1, H0⟩ := Zj H0
   refine Zcl (fun a w => ∃ (y21 : Zs) (y22 : Zx) (g : G), w = g.w ∧ St 96 [(0, (Zdq (some b0) Zbj Zbk hpT 0 y21)), (1, (pInt .i64 a1)), (7, (pBox Z1 7 y22)), (1002, (pST Zbj Zbk Zb0 Z1 96 b0 y21))] a g ∧ Base g0 g ∧ (.inr (y21, y22)) = z23) ?_ ?_
   · rintro a w ⟨y21, y22, g, rfl, hst, hb, rfl⟩
     refine Zn ?_
     obtain ⟨e24, h25, H0⟩ := Zj H0
     refine r_s (T := [⟨[.old 0], _, [], [], [89]⟩, ⟨[.op 0 0], _, [], [0], [90]⟩, ⟨[.op 1 0, .old 3], _, [], [0, 1], [91]⟩, ⟨[.op 2 0], _, [], [0, 1, 2], [92]⟩, ⟨[.old 1], _, [], [], [93]⟩, ⟨[.old 2], _, [], [], [94]⟩, ⟨[.op 3 0, .op 4 0], _, [], Lr 6, [95]⟩, ⟨[.op 5 0, .op 6 0, .old 3, .old 0], [(1002, (pST Zbj Zbk Zb0 Z1 96 b0 ({ y21 with by_ := y21.by_.set (Int.toNat a1) y22 } : Zs))), (0, (Zdq (some b0) Zbj Zbk hpT 0 ({ y21 with by_ := y21.by_.set (Int.toNat a1) y22 } : Zs)))], [1000001], Lr 7, [0, 91, 92, 95, 1002]⟩]) (F := [.op 7 1, .op 7 0]) hst hb Za
       (o_p rfl (Zc rfl rfl u_0) <| o_p rfl (Z4 rfl rfl u_0 (fun _ _ ⟨_, ⟨_, _, _, e, _⟩, _⟩ => ⟨_, e⟩)) <| o_p rfl (Zfn Zji (off := 8) (q := (pArr Z1 96 1000000 (Zb0 y21))) (by kernel_rfl) (pr := id) (fun _ => rfl) (fun _ _ h => h) rfl rfl (Opd.joinS u_0 u_1)) <| o_p rfl (Zg3 Zl6 rfl rfl u_0) <| o_p rfl (Zc rfl rfl u_0) <| o_p rfl (Zd6 Zd5 rfl rfl u_0) <| o_p rfl (Ziy Tryd.underlying92 Zru rfl rfl u_0 u_1 h25) <| o_p rfl (Zri (lst := Zb0) (xv := y21) (u := e24) (x' := ({ y21 with by_ := y21.by_.set (Int.toNat a1) y22 } : Zs)) (fun _ => rfl) rfl rfl Zd5 rfl rfl u_3 u_2 u_1 u_0 (Zp9 h25) (by decide)) <| o_n) (by kernel_rfl) (fun a g hst hb => ?_)
     refine r_s (T := [⟨[], _, [], [], [6]⟩]) (F := [.old 0, .op 0 0, .old 1]) hst hb Za
       (o_p rfl (Zb rfl rfl c_i) <| o_n) (by kernel_rfl) (fun a g hst hb => ?_)
     refine wp_ret ?_
     obtain rfl := Option.some.inj H0
     exact Zlg rfl hst hb (Zh (s := 6)) (hst.at 1 rfl) (Zgm (hst.at 0 rfl) (hst.at 2 rfl))
   · refine wp_block ?_
     refine wp_loop_ghost (fun n a w => ∃ (x4 : Zs) (x5 : Zx) (x6 : Int) (g : G), w = g.w ∧ St 96 [(0, (Zdq (some b0) Zbj Zbk hpT 0 x4)), (1, (pInt .i64 a1)), (7, (pBox Z1 7 x5)), (30, (Zy.sl.pd a2)), (31, (pInt .i64 (a2.length : Int))), (32, (pInt .i64 x6)), (1002, (pST Zbj Zbk Zb0 Z1 96 b0 x4))] a g ∧ Base g0 g ∧ Zc4 a2 n x4 x5 x6 = some z23) (Int.toNat ((a2.length : Int) - (0 : Int)) + 1) ⟨a0, e2, (0 : Int), g, rfl, (hst.pick [0, 1, 2, 3, 4, 5, 6] rfl), hb, hz1⟩ (fun n a w hI => ?_)
     obtain ⟨x4, x5, x6, g, rfl, hst, hb, H1⟩ := hI
     cases n with
     | zero => exact absurd H1 (by simp [Zc4])
     | succ n =>
       rw [Zc4] at H1
       refine r_s (T := [⟨[.old 5, .old 4], _, [], [], [33]⟩]) (F := [.old 0, .old 1, .old 2, .old 3, .old 4, .old 5, .op 0 0, .old 6]) hst hb Za
         (o_p rfl (Zb6 rfl rfl u_0 u_1) <| o_n) (by kernel_rfl) (fun a g hst hb => ?_)
       refine wp_seq ?_
       refine wp_cond_split (hst.bool 6 rfl) (fun hc7 => ?_) (fun hc7 => ?_)
       · replace H1 := Zp hc7 H1
         refine wp_skip ?_
         refine Zn ?_
         refine wp_seq ?_
         refine wp_block ?_
         obtain ⟨e8, h9, H1⟩ := Zj H1
         refine r_s (L := [(0, _), (1, _), (7, _), (30, _), (31, _), (32, _), (1002, _)]) (T := [⟨[.old 3, .old 5], _, [], [], [34]⟩, ⟨[.op 0 0], _, [], [0], [35]⟩, ⟨[], [(9, (pBox Zy 9 (default : Zr)))], [10], [], [9]⟩, ⟨[.op 1 0, .op 2 0], _, [10], [0, 1, 2], [9]⟩]) (F := [.old 0, .old 1, .old 2, .op 3 0, .old 3, .old 4, .old 5, .old 6]) (hst.pick [0, 1, 2, 3, 4, 5, 7] rfl) hb Za
           (o_p rfl (Zbm Tryd.underlying60 Zpz rfl rfl u_0 u_1 h9) <| o_p rfl (Zf Zgf rfl rfl u_0) <| o_p rfl (Zbu (zs := [.int .i64 0, .string ByteArray.empty, .int .i64 0, .float .f64 0, .string ByteArray.empty, .int .i64 0, .int .i64 0, .int .i64 0, .int .i64 0, .float .f64 0, .int .i64 0, .string ByteArray.empty, .slice none 0 0, .bool false]) (by kernel_rfl) (fun g => Zkf g) rfl rfl) <| o_p rfl (Zct Zgf rfl rfl u_1 u_0) <| o_n) (by kernel_rfl) (fun a g hst hb => ?_)
         refine wp_seq ?_
         obtain ⟨r10, h11, H1⟩ := Zj H1
         refine r_s (T := [⟨[.old 3], _, [], [], [36]⟩, ⟨[.op 0 0], _, [], [0], [37]⟩, ⟨[.op 1 0], _, [], [0, 1], [10]⟩]) (F := [.old 0, .old 1, .old 2, .old 3, .op 2 0, .old 4, .old 5, .old 6, .old 7]) hst hb Za
           (o_p rfl (Zf Zgf rfl rfl u_0) <| o_p rfl (Zu Zyr (Zni _ h11) rfl rfl (.cons u_0 .nil)) <| o_p rfl (Zb rfl rfl u_0) <| o_n) (by kernel_rfl) (fun a g hst hb => ?_)
         refine r_s (T := [⟨[.old 4], _, [], [], [38]⟩, ⟨[.op 0 0], _, [], [0], [39]⟩]) (F := [.old 0, .old 1, .old 2, .old 3, .old 4, .old 5, .old 6, .old 7, .op 1 0, .old 8]) hst hb Za
           (o_p rfl (Zc rfl rfl u_0) <| o_p rfl (Zcp rfl rfl u_0 c_i) <| o_n) (by kernel_rfl) (fun a g hst hb => ?_)
         refine wp_cond_split (hst.bool 8 rfl) (fun hc12 => ?_) (fun hc12 => ?_)
         · replace H1 := Zp hc12 H1
           refine r_s (L := [(0, _), (10, _), (1002, _)]) (T := [⟨[.old 1], _, [], [], [40]⟩, ⟨[.op 0 0], _, [], [0], [6]⟩]) (F := [.old 0, .op 1 0, .old 2]) (hst.pick [0, 4, 9] rfl) hb Za
             (o_p rfl (Zc rfl rfl u_0) <| o_p rfl (Zb rfl rfl u_0) <| o_n) (by kernel_rfl) (fun a g hst hb => ?_)
           refine wp_ret ?_
           refine Zk ?_
           refine Zo ?_
           refine Zk ?_
           refine Zk ?_
           refine Zo ?_
           refine Zk ?_
           refine Zk ?_
           obtain rfl := Option.some.inj H1
           obtain rfl := Option.some.inj H0
           exact Zlg rfl hst hb (Zh (s := 6)) (hst.at 1 rfl) (Zgm (hst.at 0 rfl) (hst.at 2 rfl))
         · replace H1 := Zq hc12 H1
           refine wp_skip ?_
           refine Zn ?_
           refine wp_seq ?_
           obtain ⟨r13, h14, H1⟩ := Zj H1
           refine r_s (L := [(0, _), (1, _), (7, _), (9, _), (30, _), (31, _), (32, _), (1002, _)]) (T := [⟨[.old 0], _, [], [], [41]⟩, ⟨[.op 0 0], _, [], [0], [42]⟩, ⟨[.op 1 0], _, [], [0, 1], [43]⟩, ⟨[.op 2 0], _, [], [0, 1, 2], [44]⟩, ⟨[.op 3 0], _, [], Lr 4, [45]⟩, ⟨[.old 3], _, [], [], [46]⟩, ⟨[.op 5 0], _, [], [5], [47]⟩, ⟨[.op 4 0, .op 6 0], _, [], Lr 7, [48]⟩, ⟨[.op 7 0], _, [], Lr 8, [49]⟩]) (F := [.old 0, .old 1, .old 2, .old 3, .old 4, .old 5, .old 6, .op 8 0, .old 7]) (hst.pick [0, 1, 2, 3, 5, 6, 7, 9] rfl) hb Za
             (o_p rfl (Zc rfl rfl u_0) <| o_p rfl (Z4 rfl rfl u_0 (fun _ _ ⟨_, ⟨_, _, _, e, _⟩, _⟩ => ⟨_, e⟩)) <| o_p rfl (Zmk Zsm (off := 0) (by kernel_rfl) (fun _ => rfl) rfl rfl u_0) <| o_p rfl (Zp0 Zc9 (off2 := 0) (by kernel_rfl) (by decide) rfl rfl u_0) <| o_p rfl (Zo4 ty_3 rfl rfl u_0) <| o_p rfl (Zd Zce rfl rfl u_0) <| o_p rfl (Zf ty_3 rfl rfl u_0) <| o_p rfl (Zu Zyq (Zld _ _ h14) rfl rfl (.cons u_0 (.cons u_1 .nil))) <| o_p rfl (Zcf rfl rfl u_0) <| o_n) (by kernel_rfl) (fun a g hst hb => ?_)
           refine wp_cond_split (hst.bool 7 rfl) (fun hc15 => ?_) (fun hc15 => ?_)
           · replace H1 := Zp hc15 H1
             refine r_s (L := [(0, _), (1002, _)]) (T := [⟨[], _, [], [], [6]⟩]) (F := [.old 0, .op 0 0, .old 1]) (hst.pick [0, 8] rfl) hb Za
               (o_p rfl (Zb rfl rfl c_i) <| o_n) (by kernel_rfl) (fun a g hst hb => ?_)
             refine wp_ret ?_
             refine Zk ?_
             refine Zo ?_
             refine Zk ?_
             refine Zk ?_
             refine Zo ?_
             refine Zk ?_
             refine Zk ?_
             obtain rfl := Option.some.inj H1
             obtain rfl := Option.some.inj H0
             exact Zlg rfl hst hb (Zh (s := 6)) (hst.at 1 rfl) (Zgm (hst.at 0 rfl) (hst.at 2 rfl))
           · replace H1 := Zq hc15 H1
             refine wp_skip ?_
             refine Zn ?_
             obtain ⟨r16, h17, H1⟩ := Zj H1
             refine r_s (L := [(0, _), (1, _), (7, _), (9, _), (30, _), (31, _), (32, _), (1002, _)]) (T := [⟨[.old 0], _, [], [], [50]⟩, ⟨[.old 3], _, [], [], [51]⟩, ⟨[.op 0 0, .op 1 0, .old 7], _, [], [0, 1], [52]⟩, ⟨[], [(11, (pBox Z1 11 (default : Zx)))], [12], [], [11]⟩, ⟨[.op 2 0, .op 3 0], _, [12], Lr 4, [11]⟩]) (F := [.old 0, .old 1, .old 2, .old 3, .op 4 0, .old 4, .old 5, .old 6, .old 7]) (hst.pick [0, 1, 2, 3, 4, 5, 6, 8] rfl) hb Za
               (o_p rfl (Zc rfl rfl u_0) <| o_p rfl (Zf Zgf rfl rfl u_0) <| o_p rfl (Zs0 Zlc Z25 (Zmn _ _ h17) rfl rfl (Opd.joinS u_0 u_2) rfl (.cons u_1 .nil)) <| o_p rfl (Zbu (zs := [.int .u64 0, .int .u64 0]) (by kernel_rfl) (fun g => Zhp g) rfl rfl) <| o_p rfl (Zct Zd5 rfl rfl u_1 u_0) <| o_n) (by kernel_rfl) (fun a g hst hb => ?_)
             refine wp_seq ?_
             refine wp_block ?_
             refine r_s (T := [⟨[.old 4], _, [], [], [54]⟩, ⟨[.op 0 0], _, [], [0], [55]⟩, ⟨[.old 2], _, [], [], [56]⟩, ⟨[.op 2 0], _, [], [2], [57]⟩, ⟨[.op 1 0, .op 3 0], _, [], Lr 4, [58]⟩, ⟨[.op 4 0], _, [], Lr 5, [59]⟩, ⟨[.op 5 0, .old 3], _, [], Lr 6, [60]⟩, ⟨[.op 5 0, .op 6 0], _, [], Lr 7, [61]⟩, ⟨[.op 5 0, .op 7 0], _, [], Lr 8, [62]⟩, ⟨[.op 5 0, .op 8 0], _, [], Lr 9, [63]⟩, ⟨[.op 9 0], _, [], Lr 10, [53]⟩]) (F := [.old 0, .old 1, .old 2, .old 4, .old 5, .old 6, .old 7, .op 10 0, .old 8]) hst hb Za
               (o_p rfl (Zd Zig rfl rfl u_0) <| o_p rfl (Zf Ze5 rfl rfl u_0) <| o_p rfl (Zv Zig (off := 0) (by kernel_rfl) rfl rfl u_0) <| o_p rfl (Zbr Ze5 rfl rfl u_0) <| o_p rfl (Zci rfl rfl u_0 u_1) <| o_p rfl (Zc rfl rfl u_0) <| o_g (g_t rfl rfl rfl (fun hG => Zd Zce rfl rfl u_0)) <| o_g (g_t rfl rfl rfl (fun hG => Zf ty_3 rfl rfl (Opd.gd hG u_0))) <| o_g (g_t rfl rfl rfl (fun hG => Z7 rfl rfl (Opd.gd hG u_0) c_i)) <| o_p rfl (Zbc rfl rfl u_0 (fun hz => (Opd.gd hz u_1))) <| o_p rfl (Zb rfl rfl u_0) <| o_n) (by kernel_rfl) (fun a g hst hb => ?_)
             refine wp_cond_split (hst.bool 7 rfl) (fun hc18 => ?_) (fun hc18 => ?_)
             · replace H1 := Zp hc18 H1
               refine r_s (L := [(0, _), (1002, _)]) (T := [⟨[], _, [], [], [6]⟩]) (F := [.old 0, .op 0 0, .old 1]) (hst.pick [0, 8] rfl) hb Za
                 (o_p rfl (Zb rfl rfl c_i) <| o_n) (by kernel_rfl) (fun a g hst hb => ?_)
               refine wp_ret ?_
               refine Zo ?_
               refine Zk ?_
               refine Zo ?_
               refine Zk ?_
               refine Zk ?_
               refine Zo ?_
               refine Zk ?_
               refine Zk ?_
               obtain rfl := Option.some.inj H1
               obtain rfl := Option.some.inj H0
               exact Zlg rfl hst hb (Zh (s := 6)) (hst.at 1 rfl) (Zgm (hst.at 0 rfl) (hst.at 2 rfl))
             · replace H1 := Zq hc18 H1
               refine r_s (L := [(0, _), (1, _), (7, _), (11, _), (30, _), (31, _), (32, _), (1002, _)]) (T := [⟨[.old 3], _, [], [], [65]⟩, ⟨[.op 0 0], _, [], [0], [66]⟩, ⟨[.old 2], _, [], [], [67]⟩, ⟨[.op 2 0], _, [], [2], [68]⟩, ⟨[.op 1 0, .op 3 0], _, [], Lr 4, [69]⟩, ⟨[.op 4 0], _, [], Lr 5, [64]⟩]) (F := [.old 0, .old 1, .old 2, .old 3, .old 4, .old 5, .old 6, .op 5 0, .old 7]) (hst.pick [0, 1, 2, 3, 4, 5, 6, 8] rfl) hb Za
                 (o_p rfl (Zd Zig rfl rfl u_0) <| o_p rfl (Zf Ze5 rfl rfl u_0) <| o_p rfl (Zv Zig (off := 0) (by kernel_rfl) rfl rfl u_0) <| o_p rfl (Zbr Ze5 rfl rfl u_0) <| o_p rfl (Zci rfl rfl u_0 u_1) <| o_p rfl (Zb rfl rfl u_0) <| o_n) (by kernel_rfl) (fun a g hst hb => ?_)
               refine wp_cond_split (hst.bool 7 rfl) (fun hc19 => ?_) (fun hc19 => ?_)
               · replace H1 := Zp hc19 H1
                 refine r_s (L := [(0, _), (1002, _)]) (T := [⟨[], _, [], [], [6]⟩]) (F := [.old 0, .op 0 0, .old 1]) (hst.pick [0, 8] rfl) hb Za
                   (o_p rfl (Zb rfl rfl c_i) <| o_n) (by kernel_rfl) (fun a g hst hb => ?_)
                 refine wp_ret ?_
                 refine Zo ?_
                 refine Zk ?_
                 refine Zo ?_
                 refine Zk ?_
                 refine Zk ?_
                 refine Zo ?_
                 refine Zk ?_
                 refine Zk ?_
                 obtain rfl := Option.some.inj H1
                 obtain rfl := Option.some.inj H0
                 exact Zlg rfl hst hb (Zh (s := 6)) (hst.at 1 rfl) (Zgm (hst.at 0 rfl) (hst.at 2 rfl))
               · replace H1 := Zq hc19 H1
                 refine r_s (L := [(0, _), (1, _), (7, _), (11, _), (30, _), (31, _), (32, _), (1002, _)]) (T := [⟨[.old 3], _, [], [], [71]⟩, ⟨[.op 0 0], _, [], [0], [72]⟩, ⟨[.old 2], _, [], [], [73]⟩, ⟨[.op 2 0], _, [], [2], [74]⟩, ⟨[.op 1 0, .op 3 0], _, [], Lr 4, [75]⟩, ⟨[.op 4 0], _, [], Lr 5, [70]⟩]) (F := [.old 0, .old 1, .old 2, .old 3, .old 4, .old 5, .old 6, .op 5 0, .old 7]) (hst.pick [0, 1, 2, 3, 4, 5, 6, 8] rfl) hb Za
                   (o_p rfl (Zd Zjm rfl rfl u_0) <| o_p rfl (Zf Ze5 rfl rfl u_0) <| o_p rfl (Zv Zjm (off := 1) (by kernel_rfl) rfl rfl u_0) <| o_p rfl (Zbr Ze5 rfl rfl u_0) <| o_p rfl (Zci rfl rfl u_0 u_1) <| o_p rfl (Zb rfl rfl u_0) <| o_n) (by kernel_rfl) (fun a g hst hb => ?_)
                 refine wp_cond_split (hst.bool 7 rfl) (fun hc20 => ?_) (fun hc20 => ?_)
                 · replace H1 := Zp hc20 H1
                   refine r_s (L := [(0, _), (1002, _)]) (T := [⟨[], _, [], [], [6]⟩]) (F := [.old 0, .op 0 0, .old 1]) (hst.pick [0, 8] rfl) hb Za
                     (o_p rfl (Zb rfl rfl c_i) <| o_n) (by kernel_rfl) (fun a g hst hb => ?_)
                   refine wp_ret ?_
                   refine Zo ?_
                   refine Zk ?_
                   refine Zo ?_
                   refine Zk ?_
                   refine Zk ?_
                   refine Zo ?_
                   refine Zk ?_
                   refine Zk ?_
                   obtain rfl := Option.some.inj H1
                   obtain rfl := Option.some.inj H0
                   exact Zlg rfl hst hb (Zh (s := 6)) (hst.at 1 rfl) (Zgm (hst.at 0 rfl) (hst.at 2 rfl))
                 · replace H1 := Zq hc20 H1
                   refine wp_skip ?_
                   refine Zbg ?_
                   refine Zn ?_
                   refine r_s (L := [(0, _), (1, _), (7, _), (11, _), (30, _), (31, _), (32, _), (1002, _)]) (T := [⟨[.old 2], _, [], [], [76]⟩, ⟨[.op 0 0], _, [], [0], [77]⟩, ⟨[.old 3], _, [], [], [78]⟩, ⟨[.op 2 0], _, [], [2], [79]⟩, ⟨[.op 1 0, .op 3 0], _, [], Lr 4, [80]⟩, ⟨[.old 2], _, [], Lr 5, [81]⟩, ⟨[.op 4 0, .op 5 0, .old 2], _, [8], Lr 6, [7, 76, 81]⟩]) (F := [.old 0, .old 1, .op 6 0, .old 3, .old 4, .old 5, .old 6, .old 7]) (hst.pick [0, 1, 2, 3, 4, 5, 6, 8] rfl) hb Za
                     (o_p rfl (Zv Zig (off := 0) (by kernel_rfl) rfl rfl u_0) <| o_p rfl (Zbr Ze5 rfl rfl u_0) <| o_p rfl (Zd Zig rfl rfl u_0) <| o_p rfl (Zf Ze5 rfl rfl u_0) <| o_p rfl (Zdt rfl rfl u_0 u_1 rfl) <| o_p rfl (Zv Zig (off := 0) (by kernel_rfl) rfl rfl u_0) <| o_p rfl (Z0c Ze5 rfl rfl u_2 u_1 u_0) <| o_n) (by kernel_rfl) (fun a g hst hb => ?_)
                   refine r_g (T := [⟨[.old 2], _, [], [], [82]⟩, ⟨[.op 0 0], _, [], [0], [83]⟩, ⟨[.old 3], _, [], [], [84]⟩, ⟨[.op 2 0], _, [], [2], [85]⟩, ⟨[.op 1 0, .op 3 0], _, [], Lr 4, [86]⟩, ⟨[.old 2], _, [], Lr 5, [87]⟩, ⟨[.op 4 0, .op 5 0, .old 2], _, [8], Lr 6, [7, 82, 87]⟩]) (F := [.old 0, .old 1, .op 6 0, .old 4, .old 5, .old 6, .old 7]) hst hb Za
                     (o_p rfl (Zv Zjm (off := 1) (by kernel_rfl) rfl rfl u_0) <| o_p rfl (Zbr Ze5 rfl rfl u_0) <| o_p rfl (Zd Zjm rfl rfl u_0) <| o_p rfl (Zf Ze5 rfl rfl u_0) <| o_p rfl (Zdt rfl rfl u_0 u_1 rfl) <| o_p rfl (Zv Zjm (off := 1) (by kernel_rfl) rfl rfl u_0) <| o_p rfl (Zzq Ze5 rfl rfl u_2 u_1 u_0) <| o_n) (by kernel_rfl) (fun a g hst hb => ?_)
                   refine Zbg ?_
                   refine Zn ?_
                   refine r_g (T := [⟨[.old 5], _, [], [], [88]⟩, ⟨[.op 0 0], _, [], [0], [32]⟩]) (F := [.old 0, .old 1, .old 2, .old 3, .old 4, .op 1 0, .old 6]) hst hb Za
                     (o_p rfl (Zck rfl rfl u_0 c_i rfl) <| o_p rfl (Zc rfl rfl u_0) <| o_n) (by kernel_rfl) (fun a g hst hb => ?_)
                   exact ⟨n, Nat.lt_succ_self _, x4, ({ ({ x5 with up := (IntKind.u64.wrap (x5.up - r16.up)) }) with down := (IntKind.u64.wrap (({ x5 with up := (IntKind.u64.wrap (x5.up - r16.up)) }).down - r16.down)) }), (IntKind.i64.wrap (x6 + (1 : Int))), g, rfl, (hst.pick [0, 1, 2, 3, 4, 5, 6] rfl), hb, H1⟩
       · replace H1 := Zq hc7 H1
         refine wp_exit ?_
         refine Zb9 ?_
         refine Zb9 ?_
         refine Zcy ?_
         exact ⟨x4, x5, g, rfl, (hst.pick [0, 1, 2, 7] rfl), hb, Option.some.inj H1⟩
theorem Zhl (a0 : Zs) (a1 : Int) (a2 : List Zr) {r : Zs × Int} (h : Ze1 a0 a1 a2 = some r) : FnM Tryd.prog 28 Zby a0 r.1 [(pInt .i64 a1), (Zy.sl.pd a2)] (pInt .i64 r.2) := by
 obtain ⟨u, h1, h2⟩ := Zj h
 obtain rfl := Option.some.inj h2
 exact Zln a0 a1 a2 h1
theorem Zl0 {r : Bool} (h : Zgr = some r) : FnOk Tryd.prog 8 [] (Z9 r) := by
 have H0 := h
 unfold Zgr at H0
 clear h
 refine Zbt (N := 81) Tryd.func8 rfl rfl (Nat.le_of_ble_eq_true rfl) rfl rfl (fun a g0 hst hb => ?_)
 refine r_s (T := [⟨[], _, [], [], [0]⟩]) (F := []) hst hb Za
   (o_p rfl (Zb rfl rfl c_b) <| o_n) (by kernel_rfl) (fun a g hst hb => ?_)
 refine r_s (T := [⟨[], _, [], [], [11]⟩, ⟨[], [(1, (pBox Zg 1 (default : Ze)))], [2], [], [1]⟩, ⟨[.op 0 0, .op 1 0], _, [2], [0, 1], [1]⟩]) (F := [.op 2 0]) hst hb Za
   (o_p rfl (Zts rfl rfl c_i c_i c_i) <| o_p rfl (Zbu (zs := [.int .i64 0, .int .i64 0, .int .i64 0, .int .i64 0, .float .f64 0, .int .i64 0, .string ByteArray.empty, .slice none 0 0]) (by kernel_rfl) (fun g => Zb4 g) rfl rfl) <| o_p rfl (Zct Z8 rfl rfl u_1 u_0) <| o_n) (by kernel_rfl) (fun a g hst hb => ?_)
 obtain ⟨r1, h2, H0⟩ := Zj H0
 refine r_s (T := [⟨[.old 0], _, [], [], [13]⟩, ⟨[.op 0 0], [(14, (pTup [(Zed Zby 14 r1.1), (pInt .i64 r1.2)]))], [15, 1000015], [0], [14]⟩, ⟨[.op 1 0], _, [], [0, 1], [12]⟩, ⟨[.op 2 0], _, [], [0, 1, 2], [15]⟩, ⟨[.op 2 0], _, [], [0, 1, 2], [16]⟩, ⟨[.op 3 0], _, [], Lr 4, [2]⟩, ⟨[.op 4 0], _, [], Lr 6, [3]⟩]) (F := [.old 0, .op 5 0, .op 6 0]) hst hb Za
   (o_p rfl (Zf Z8 rfl rfl u_0) <| o_p rfl (Zlp Zyd (Zm6 _ _ h2) rfl rfl rfl (.cons u_0 (.cons c_i .nil))) <| o_p rfl (Zc rfl rfl u_0) <| o_p rfl (Z6 rfl rfl u_0 rfl) <| o_p rfl (Z6 rfl rfl u_0 rfl) <| o_p rfl (Zb rfl rfl u_0) <| o_p rfl (Zb rfl rfl u_0) <| o_n) (by kernel_rfl) (fun a g hst hb => ?_)
 refine wp_seq ?_
 refine r_s (T := [⟨[.old 2], _, [], [], [17]⟩, ⟨[.op 0 0], _, [], [0], [18]⟩, ⟨[.op 1 0], _, [], [0, 1], [19]⟩, ⟨[.op 2 0, .old 1], _, [], [0, 1, 2], [20]⟩, ⟨[.op 2 0, .op 3 0], _, [], Lr 4, [21]⟩, ⟨[.op 2 0, .op 4 0], _, [], Lr 5, [22]⟩]) (F := [.old 0, .old 1, .op 5 0]) hst hb Za
   (o_p rfl (Zc rfl rfl u_0) <| o_p rfl (Zcp rfl rfl u_0 c_i) <| o_p rfl (Zc rfl rfl u_0) <| o_g (g_f rfl rfl rfl (fun hG => Zc rfl rfl u_0)) <| o_g (g_f rfl rfl rfl (fun hG => Zvr Tryd.underlying54 rfl rfl (Opd.gd hG u_0) Zsx)) <| o_p rfl (Zbf rfl rfl u_0 (fun hz => (Opd.gd (bNF hz) u_1))) <| o_n) (by kernel_rfl) (fun a g hst hb => ?_)
 refine wp_cond_split (hst.bool 2 rfl) (fun hc3 => ?_) (fun hc3 => ?_)
 · replace H0 := Zp hc3 H0
   refine r_s (L := []) (T := [⟨[], _, [], [], [0]⟩]) (F := [.op 0 0]) (hst.pick [] rfl) hb Za
     (o_p rfl (Zb rfl rfl c_b) <| o_n) (by kernel_rfl) (fun a g hst hb => ?_)
   refine wp_ret ?_
   refine Zk ?_
   obtain rfl := Option.some.inj H0
   exact Zz rfl hst hb (Zh (s := 0)) (hst.at 0 rfl)
 · replace H0 := Zq hc3 H0
   refine wp_skip ?_
   refine Zn ?_
   obtain ⟨n4, h5, H0⟩ := Zj H0; obtain ⟨r6, h7, H0⟩ := Zj H0
   refine r_s (L := [(1, _), (2, _)]) (T := [⟨[.old 1], _, [], [], [24]⟩, ⟨[.op 0 0, .old 1], [(25, (pTup [(pInt .u64 r6.1), (pInt .u64 r6.2)])), (2, (Zed Zby 14 (some n4)))], [15, 1000015], [0], [2, 24, 25]⟩, ⟨[.op 1 0], _, [], [0, 1], [23]⟩, ⟨[.op 2 0], _, [], [0, 1, 2], [26]⟩, ⟨[.op 2 0], _, [], [0, 1, 2], [27]⟩, ⟨[.op 3 0], _, [], Lr 4, [4]⟩, ⟨[.op 4 0], _, [], Lr 6, [5]⟩]) (F := [.old 0, .op 1 1, .op 5 0, .op 6 0]) (hst.pick [0, 1] rfl) hb Za
     (o_p rfl (Zc rfl rfl u_0) <| o_p rfl (OB.objO (Zhn Zpm (Zf2 _ _ h7) rfl rfl rfl (by decide) (Opd.imp u_1 (fun _ _ h => Zc7 h5 h)) (Opd.imp u_0 (fun _ _ h => Zc7 h5 h)) (.cons c_i .nil))) <| o_p rfl (Zc rfl rfl u_0) <| o_p rfl (Z6 rfl rfl u_0 rfl) <| o_p rfl (Z6 rfl rfl u_0 rfl) <| o_p rfl (Zb rfl rfl u_0) <| o_p rfl (Zb rfl rfl u_0) <| o_n) (by kernel_rfl) (fun a g hst hb => ?_)
   obtain ⟨r8, h9, H0⟩ := Zj H0
   refine r_s (T := [⟨[.old 1], _, [], [], [29]⟩, ⟨[.op 0 0, .old 1], [(30, (pTup [(pInt .u64 r8.1), (pInt .u64 r8.2)])), (2, (Zed Zby 14 (some n4)))], [15, 1000015], [0], [2, 29, 30]⟩, ⟨[.op 1 0], _, [], [0, 1], [28]⟩, ⟨[.op 2 0], _, [], [0, 1, 2], [31]⟩, ⟨[.op 2 0], _, [], [0, 1, 2], [32]⟩, ⟨[.op 3 0], _, [], Lr 4, [6]⟩, ⟨[.op 4 0], _, [], Lr 6, [7]⟩]) (F := [.old 0, .op 1 1, .old 2, .old 3, .op 5 0, .op 6 0]) hst hb Za
     (o_p rfl (Zc rfl rfl u_0) <| o_p rfl (OB.objO (Zhn Zpm (Zf2 _ _ h9) rfl rfl rfl (by decide) (Opd.imp u_1 (fun _ _ h => Zc7 rfl h)) (Opd.imp u_0 (fun _ _ h => Zc7 rfl h)) (.cons c_i .nil))) <| o_p rfl (Zc rfl rfl u_0) <| o_p rfl (Z6 rfl rfl u_0 rfl) <| o_p rfl (Z6 rfl rfl u_0 rfl) <| o_p rfl (Zb rfl rfl u_0) <| o_p rfl (Zb rfl rfl u_0) <| o_n) (by kernel_rfl) (fun a g hst hb => ?_)
   refine wp_seq ?_
   refine r_s (T := ⟨[.old 2], _, [], [], [33]⟩ :: ⟨[.op 0 0], _, [], [0], [34]⟩ :: ⟨[.op 1 0], _, [], [0, 1], [35]⟩ :: ⟨[.op 2 0, .old 3], _, [], [0, 1, 2], [36]⟩ :: ⟨[.op 2 0, .op 3 0], _, [], Lr 4, [37]⟩ :: ⟨[.op 2 0, .op 4 0], _, [], Lr 5, [38]⟩ :: ⟨[.op 5 0], _, [], Lr 6, [39]⟩ :: ⟨[.op 6 0, .old 4], _, [], Lr 7, [40]⟩ :: ⟨[.op 6 0, .op 7 0], _, [], Lr 8, [41]⟩ :: ⟨[.op 6 0, .op 8 0], _, [], Lr 9, [42]⟩ :: ⟨[.op 9 0], _, [], Lr 10, [43]⟩ :: ⟨[.op 10 0, .old 5], _, [], Lr 11, [44]⟩ :: ⟨[.op 10 0, .op 11 0], _, [], Lr 12, [45]⟩ :: ⟨[.op 10 0, .op 12 0], _, [], Lr 13, [46]⟩ :: []) (F := [.old 0, .old 1, .op 13 0]) hst hb Za
     (o_p rfl (Zc rfl rfl u_0) <| o_p rfl (Zcp rfl rfl u_0 c_i) <| o_p rfl (Zc rfl rfl u_0) <| o_g (g_f rfl rfl rfl (fun hG => Zc rfl rfl u_0)) <| o_g (g_f rfl rfl rfl (fun hG => Zcp rfl rfl (Opd.gd hG u_0) c_i)) <| o_p rfl (Zbf rfl rfl u_0 (fun hz => (Opd.gd (bNF hz) u_1))) <| o_p rfl (Zc rfl rfl u_0) <| o_g (g_f rfl rfl rfl (fun hG => Zc rfl rfl u_0)) <| o_g (g_f rfl rfl rfl (fun hG => Zcp rfl rfl (Opd.gd hG u_0) c_i)) <| o_p rfl (Zbf rfl rfl u_0 (fun hz => (Opd.gd (bNF hz) u_1))) <| o_p rfl (Zc rfl rfl u_0) <| o_g (g_f rfl rfl rfl (fun hG => Zc rfl rfl u_0)) <| o_g (g_f rfl rfl rfl (fun hG => Zcp rfl rfl (Opd.gd hG u_0) c_i)) <| o_p rfl (Zbf rfl rfl u_0 (fun hz => (Opd.gd (bNF hz) u_1))) <| o_n) (by kernel_rfl) (fun a g hst hb => ?_)
   refine wp_cond_split (hst.bool 2 rfl) (fun hc10 => ?_) (fun hc10 => ?_)
   · replace H0 := Zp hc10 H0
     refine r_s (L := []) (T := [⟨[], _, [], [], [0]⟩]) (F := [.op 0 0]) (hst.pick [] rfl) hb Za
       (o_p rfl (Zb rfl rfl c_b) <| o_n) (by kernel_rfl) (fun a g hst hb => ?_)
     refine wp_ret ?_
     refine Zk ?_
     obtain rfl := Option.some.inj H0
     exact Zz rfl hst hb (Zh (s := 0)) (hst.at 0 rfl)
   · replace H0 := Zq hc10 H0
     refine wp_skip ?_
     refine Zn ?_
     refine r_s (L := [(1, _), (2, _)]) (T := [⟨[], _, [], [], [47]⟩, ⟨[], [(8, (pBox Zy 8 (default : Zr)))], [9], [], [8]⟩, ⟨[.op 0 0, .op 1 0], _, [9], [0, 1], [8]⟩]) (F := [.old 0, .old 1, .op 2 0]) (hst.pick [0, 1] rfl) hb Za
       (o_p rfl (Ztk rfl rfl c_i c_s c_i) <| o_p rfl (Zbu (zs := [.int .i64 0, .string ByteArray.empty, .int .i64 0, .float .f64 0, .string ByteArray.empty, .int .i64 0, .int .i64 0, .int .i64 0, .int .i64 0, .float .f64 0, .int .i64 0, .string ByteArray.empty, .slice none 0 0, .bool false]) (by kernel_rfl) (fun g => Zkf g) rfl rfl) <| o_p rfl (Zct Zgf rfl rfl u_1 u_0) <| o_n) (by kernel_rfl) (fun a g hst hb => ?_)
     obtain ⟨r11, h12, H0⟩ := Zj H0
     refine r_s (T := [⟨[.old 0], _, [], [], [49]⟩, ⟨[.op 0 0], _, [], [0], [50]⟩, ⟨[.op 1 0], _, [], [0, 1], [48]⟩, ⟨[.op 2 0], _, [], [0, 1, 2], [51]⟩, ⟨[.op 2 0], _, [], [0, 1, 2], [52]⟩, ⟨[], [(9, (pBox Zg 9 (default : Ze)))], [10], [], [9]⟩, ⟨[.op 3 0, .op 5 0], _, [10], [0, 1, 2, 3, 5], [9]⟩, ⟨[.op 4 0], _, [], Lr 7, [10]⟩]) (F := [.old 0, .old 1, .old 2, .op 6 0, .op 7 0]) hst hb Za
       (o_p rfl (Zf Z8 rfl rfl u_0) <| o_p rfl (Zu Zx9 (Zly _ h12) rfl rfl (.cons u_0 .nil)) <| o_p rfl (Zc rfl rfl u_0) <| o_p rfl (Z6 rfl rfl u_0 rfl) <| o_p rfl (Z6 rfl rfl u_0 rfl) <| o_p rfl (Zbu (zs := [.int .i64 0, .int .i64 0, .int .i64 0, .int .i64 0, .float .f64 0, .int .i64 0, .string ByteArray.empty, .slice none 0 0]) (by kernel_rfl) (fun g => Zb4 g) rfl rfl) <| o_p rfl (Zct Z8 rfl rfl u_1 u_0) <| o_p rfl (Zb rfl rfl u_0) <| o_n) (by kernel_rfl) (fun a g hst hb => ?_)
     obtain ⟨r13, h14, H0⟩ := Zj H0; obtain ⟨r15, h16, H0⟩ := Zj H0; obtain ⟨r17, h18, H0⟩ := Zj H0; obtain ⟨r19, h20, H0⟩ := Zj H0; obtain ⟨r21, h22, H0⟩ := Zj H0
     refine r_s (T := ⟨[.old 1], _, [], [], [53]⟩ :: ⟨[.old 2], _, [], [], [54]⟩ :: ⟨[.op 1 0], _, [], [1], [55]⟩ :: ⟨[.op 0 0, .op 2 0, .old 1], [(56, (pInt .i64 r13.2)), (2, (Zed Zby 14 (some r13.1)))], [15, 1000015], [0, 1, 2], [2, 53, 56]⟩ :: ⟨[.op 3 0], _, [], Lr 4, [57]⟩ :: ⟨[.op 4 0], _, [], Lr 5, [58]⟩ :: ⟨[.op 5 0, .op 3 1], _, [], Lr 6, [59]⟩ :: ⟨[.op 5 0, .old 2], _, [], Lr 6, [60]⟩ :: ⟨[.op 5 0, .op 7 0], _, [], [0, 1, 2, 3, 4, 5, 7], [61]⟩ :: ⟨[.op 5 0, .op 6 0, .op 8 0, .op 3 1], [(62, (pIf (r13.2 == (9 : Int)) (pInt .i64 r15.2))), (2, (pObj Zby 14 (if (r13.2 == (9 : Int)) = true then r15.1 else r13.1)))], [15, 1000015], Lr 9, [2, 53, 59, 62]⟩ :: ⟨[.op 5 0, .op 9 0], _, [], Lr 10, [63]⟩ :: ⟨[.op 5 0, .op 10 0], _, [], Lr 11, [64]⟩ :: ⟨[.op 11 0], _, [], Lr 12, [65]⟩ :: ⟨[.op 12 0, .old 4], _, [], Lr 13, [66]⟩ :: ⟨[.op 12 0, .op 13 0], _, [], Lr 14, [67]⟩ :: ⟨[.op 14 0], _, [], Lr 15, [68]⟩ :: ⟨[.op 15 0, .old 0], _, [], Lr 16, [69]⟩ :: ⟨[.op 15 0, .old 3], _, [], Lr 16, [70]⟩ :: ⟨[.op 15 0, .old 2], _, [], Lr 16, [71]⟩ :: ⟨[.op 15 0, .op 17 0, .op 18 0], _, [], 0 :: 1 :: 2 :: 3 :: 4 :: 5 :: 6 :: 7 :: 8 :: 9 :: 10 :: 11 :: 12 :: 13 :: 14 :: 15 :: 17 :: 18 :: [], [72]⟩ :: ⟨[.op 15 0, .op 19 0], _, [], 0 :: 1 :: 2 :: 3 :: 4 :: 5 :: 6 :: 7 :: 8 :: 9 :: 10 :: 11 :: 12 :: 13 :: 14 :: 15 :: 17 :: 18 :: 19 :: [], [73]⟩ :: ⟨[.op 15 0, .op 16 0, .op 20 0], _, [], Lr 21, [74]⟩ :: ⟨[.op 15 0, .op 21 0], _, [], Lr 22, [75]⟩ :: ⟨[.op 15 0, .op 22 0], _, [], Lr 23, [76]⟩ :: ⟨[.op 15 0, .op 23 0], _, [], Lr 24, [77]⟩ :: ⟨[.op 24 0], _, [], Lr 25, [78]⟩ :: ⟨[.op 25 0], _, [], Lr 26, [79]⟩ :: ⟨[.op 25 0, .op 26 0], _, [], Lr 27, [80]⟩ :: ⟨[.op 27 0], _, [], Lr 28, [0]⟩ :: []) (F := [.op 28 0]) hst hb Za
       (o_p rfl (Zc rfl rfl u_0) <| o_p rfl (Zf Zgf rfl rfl u_0) <| o_p rfl (Zh8 Zrq (xs := [.tmp 54]) (.cons u_0 .nil) (by decide) rfl rfl) <| o_p rfl (OB.objO (Zhn Zuo (Zhl _ _ _ h14) rfl rfl rfl (by decide) (Opd.imp u_2 (fun _ _ h => Zc7 rfl h)) (Opd.imp u_0 (fun _ _ h => Zc7 rfl h)) (.cons c_i (.cons u_1 .nil)))) <| o_p rfl (Z7 rfl rfl u_0 c_i) <| o_p rfl (Zc rfl rfl u_0) <| o_g (g_t rfl rfl rfl (fun hG => Zc rfl rfl u_0)) <| o_g (g_t rfl rfl rfl (fun hG => Zf Zgf rfl rfl u_0)) <| o_g (g_t rfl rfl rfl (fun hG => Zh8 Zrq (xs := [.tmp 60]) (.cons (Opd.gd hG u_0) .nil) (by decide) rfl rfl)) <| o_g (OT.guardM (r13.2 == (9 : Int)) (gT (r13.2 == (9 : Int))).1 (gT (r13.2 == (9 : Int))).2 rfl rfl rfl (by decide) (Opd.imp u_2 (fun _ _ h => Zc7 rfl h)) (fun hG => Zhn Zuo (Zhl _ _ _ (Zbs h16 hG)) rfl rfl rfl (by decide) (Opd.imp u_2 (fun _ _ h => Zc7 rfl h)) (Opd.imp (Opd.gd hG u_0) (fun _ _ h => Zc7 rfl h)) (.cons c_i (.cons (Opd.gd hG u_1) .nil))) rfl) <| o_g (g_t rfl rfl rfl (fun hG => Z7 rfl rfl (Opd.gd hG u_0) c_i)) <| o_p rfl (Zbc rfl rfl u_0 (fun hz => (Opd.gd hz u_1))) <| o_p rfl (Zc rfl rfl u_0) <| o_g (g_t rfl rfl rfl (fun hG => Zc rfl rfl u_0)) <| o_p rfl (Zbc rfl rfl u_0 (fun hz => (Opd.gd hz u_1))) <| o_p rfl (Zc rfl rfl u_0) <| o_g (g_t rfl rfl rfl (fun hG => Zf Z8 rfl rfl u_0)) <| o_g (g_t rfl rfl rfl (fun hG => Zf Z8 rfl rfl u_0)) <| o_g (g_t rfl rfl rfl (fun hG => Zf Zgf rfl rfl u_0)) <| o_g (g_t rfl rfl rfl (fun hG => Zu Z2z (Ztq _ _ (Zbs h18 hG)) rfl rfl (.cons (Opd.gd hG u_0) (.cons (Opd.gd hG u_1) .nil)))) <| o_g (g_t rfl rfl rfl (fun hG => Zh8 Z2b (xs := [.tmp 72]) (.cons (Opd.gd hG u_0) .nil) (by decide) rfl rfl)) <| o_g (g_t rfl rfl rfl (fun hG => Zu Z2x (Zqa _ _ (Zbs h20 hG)) rfl rfl (.cons (Opd.gd hG u_0) (.cons (Opd.gd hG u_1) .nil)))) <| o_g (g_t rfl rfl rfl (fun hG => Zsc Zb8 rfl rfl (Opd.gd hG u_0))) <| o_g (g_t rfl rfl rfl (fun hG => Z7 rfl rfl (Opd.gd hG u_0) c_i)) <| o_p rfl (Zbc rfl rfl u_0 (fun hz => (Opd.gd hz u_1))) <| o_p rfl (Zc rfl rfl u_0) <| o_g (g_t rfl rfl rfl (fun hG => Zu Zyq (Zld _ _ (Zbs h22 hG)) rfl rfl (.cons c_i (.cons c_i .nil)))) <| o_p rfl (Zbc rfl rfl u_0 (fun hz => (Opd.gd hz u_1))) <| o_p rfl (Zb rfl rfl u_0) <| o_n) (by kernel_rfl) (fun a g hst hb => ?_)
     refine wp_ret ?_
     obtain rfl := Option.some.inj H0
     exact Zz rfl hst hb (Zh (s := 0)) (hst.at 0 rfl)
theorem Zjx (a0 : Ze) {r : Int} (h : Zfv a0 = some r) : FnOk Tryd.prog 30 [(Zg.pd a0)] (pInt .i64 r) := by
 have H0 := h
 unfold Zfv at H0
 clear h
 refine Zbt (N := 27) Tryd.func30 rfl rfl (Nat.le_of_ble_eq_true rfl) rfl rfl (fun a g0 hst hb => ?_)
 refine r_s (T := [⟨[.old 0], _, [], [], [1]⟩, ⟨[], _, [], [], [2]⟩]) (F := [.op 0 0]) hst hb Za
   (o_p rfl (Zbq rfl rfl u_0) <| o_p rfl (Zb rfl rfl c_i) <| o_n) (by kernel_rfl) (fun a g hst hb => ?_)
 refine wp_seq ?_
 refine r_s (T := [⟨[.old 0], _, [], [], [5]⟩, ⟨[.op 0 0], _, [], [0], [6]⟩, ⟨[.op 1 0], _, [], [0, 1], [7]⟩, ⟨[.op 2 0], _, [], [0, 1, 2], [8]⟩, ⟨[.op 3 0], _, [], Lr 4, [9]⟩, ⟨[.op 4 0, .old 0], _, [], Lr 5, [10]⟩, ⟨[.op 4 0, .op 5 0], _, [], Lr 6, [11]⟩, ⟨[.op 4 0, .op 6 0], _, [], Lr 7, [12]⟩, ⟨[.op 4 0, .op 7 0], _, [], Lr 8, [13]⟩, ⟨[.op 4 0, .op 8 0], _, [], Lr 9, [14]⟩]) (F := [.old 0, .op 9 0]) hst hb Za
   (o_p rfl (Zd Zb3 rfl rfl u_0) <| o_p rfl (Zf Zcz rfl rfl u_0) <| o_p rfl (Zco Tryd.underlying23 rfl rfl u_0) <| o_p rfl (Zci rfl rfl u_0 c_i) <| o_p rfl (Zc rfl rfl u_0) <| o_g (g_f rfl rfl rfl (fun hG => Zd Zhb rfl rfl u_0)) <| o_g (g_f rfl rfl rfl (fun hG => Zf ty_9 rfl rfl (Opd.gd hG u_0))) <| o_g (g_f rfl rfl rfl (fun hG => Zem Tryd.underlying9 rfl rfl (Opd.gd hG u_0))) <| o_g (g_f rfl rfl rfl (fun hG => Zci rfl rfl (Opd.gd hG u_0) c_i)) <| o_p rfl (Zbf rfl rfl u_0 (fun hz => (Opd.gd (bNF hz) u_1))) <| o_n) (by kernel_rfl) (fun a g hst hb => ?_)
 refine wp_cond_split (hst.bool 1 rfl) (fun hc1 => ?_) (fun hc1 => ?_)
 · replace H0 := Zp hc1 H0
   refine r_s (L := []) (T := [⟨[], _, [], [], [2]⟩]) (F := [.op 0 0]) (hst.pick [] rfl) hb Za
     (o_p rfl (Zb rfl rfl c_i) <| o_n) (by kernel_rfl) (fun a g hst hb => ?_)
   refine wp_ret ?_
   refine Zk ?_
   obtain rfl := Option.some.inj H0
   exact Zz rfl hst hb (Zh (s := 2)) (hst.at 0 rfl)
 · replace H0 := Zq hc1 H0
   refine wp_skip ?_
   refine Zn ?_
   refine wp_seq ?_
   refine r_s (L := [(1, _)]) (T := [⟨[.old 0], _, [], [], [15]⟩, ⟨[.op 0 0], _, [], [0], [16]⟩, ⟨[.op 1 0], _, [], [0, 1], [17]⟩, ⟨[], _, [], [], [18]⟩]) (F := [.op 1 0, .op 2 0, .op 3 0]) (hst.pick [0] rfl) hb Za
     (o_p rfl (Zd Zb3 rfl rfl u_0) <| o_p rfl (Zf Zcz rfl rfl u_0) <| o_p rfl (Zco Tryd.underlying23 rfl rfl u_0) <| o_p rfl (Zc rfl rfl c_i) <| o_n) (by kernel_rfl) (fun a g hst hb => ?_)
   obtain ⟨z7, hz1, H0⟩ := Zj H0
   refine Zcl (fun a w => ∃ (g : G), w = g.w ∧ St 27 [] a g ∧ Base g0 g ∧ (.inr ()) = z7) ?_ ?_
   · rintro a w ⟨g, rfl, hst, hb, rfl⟩
     refine Zn ?_
     refine r_s (T := [⟨[], _, [], [], [2]⟩]) (F := [.op 0 0]) hst hb Za
       (o_p rfl (Zb rfl rfl c_i) <| o_n) (by kernel_rfl) (fun a g hst hb => ?_)
     refine wp_ret ?_
     obtain rfl := Option.some.inj H0
     exact Zz rfl hst hb (Zh (s := 2)) (hst.at 0 rfl)
   · refine wp_block ?_
     refine wp_loop_ghost (fun n a w => ∃ (x2 : Int) (g : G), w = g.w ∧ St 27 [(16, (Zt.sl.pd a0.List)), (17, (pInt .i64 (a0.List.length : Int))), (18, (pInt .i64 x2))] a g ∧ Base g0 g ∧ Zds a0 n x2 = some z7) (Int.toNat ((a0.List.length : Int) - (0 : Int)) + 1) ⟨(0 : Int), g, rfl, (hst.pick [0, 1, 2] rfl), hb, hz1⟩ (fun n a w hI => ?_)
     obtain ⟨x2, g, rfl, hst, hb, H1⟩ := hI
     cases n with
     | zero => exact absurd H1 (by simp [Zds])
     | succ n =>
       rw [Zds] at H1
       refine r_s (T := [⟨[.old 2, .old 1], _, [], [], [19]⟩]) (F := [.old 0, .old 1, .old 2, .op 0 0]) hst hb Za
         (o_p rfl (Zb6 rfl rfl u_0 u_1) <| o_n) (by kernel_rfl) (fun a g hst hb => ?_)
       refine wp_seq ?_
       refine wp_cond_split (hst.bool 3 rfl) (fun hc3 => ?_) (fun hc3 => ?_)
       · replace H1 := Zp hc3 H1
         refine wp_skip ?_
         refine Zn ?_
         refine wp_seq ?_
         refine wp_block ?_
         obtain ⟨e4, h5, H1⟩ := Zj H1
         refine r_s (L := [(16, _), (17, _), (18, _)]) (T := [⟨[.old 0, .old 2], _, [], [], [20]⟩, ⟨[.op 0 0], _, [], [0], [21]⟩, ⟨[], [(4, (pBox Zt 4 (default : Zm)))], [5], [], [4]⟩, ⟨[.op 1 0, .op 2 0], _, [5], [0, 1, 2], [4]⟩]) (F := [.op 3 0, .old 0, .old 1, .old 2]) (hst.pick [0, 1, 2] rfl) hb Za
           (o_p rfl (Zbm Tryd.underlying23 Zff rfl rfl u_0 u_1 h5) <| o_p rfl (Zf Zd4 rfl rfl u_0) <| o_p rfl (Zbu (zs := [.float .f64 0, .string ByteArray.empty]) (by kernel_rfl) (fun g => Zf3 g) rfl rfl) <| o_p rfl (Zct Zd4 rfl rfl u_1 u_0) <| o_n) (by kernel_rfl) (fun a g hst hb => ?_)
         refine r_s (T := [⟨[.old 0], _, [], [], [22]⟩, ⟨[.op 0 0], _, [], [0], [23]⟩, ⟨[.op 1 0], _, [], [0, 1], [24]⟩, ⟨[.op 2 0], _, [], [0, 1, 2], [25]⟩]) (F := [.old 1, .old 2, .old 3, .op 3 0]) hst hb Za
           (o_p rfl (Zd Zd3 rfl rfl u_0) <| o_p rfl (Zf ty_9 rfl rfl u_0) <| o_p rfl (Zem Tryd.underlying9 rfl rfl u_0) <| o_p rfl (Zci rfl rfl u_0 c_i) <| o_n) (by kernel_rfl) (fun a g hst hb => ?_)
         refine wp_cond_split (hst.bool 3 rfl) (fun hc6 => ?_) (fun hc6 => ?_)
         · replace H1 := Zp hc6 H1
           refine r_s (L := []) (T := [⟨[], _, [], [], [2]⟩]) (F := [.op 0 0]) (hst.pick [] rfl) hb Za
             (o_p rfl (Zb rfl rfl c_i) <| o_n) (by kernel_rfl) (fun a g hst hb => ?_)
           refine wp_ret ?_
           refine Zo ?_
           refine Zk ?_
           refine Zk ?_
           refine Zo ?_
           refine Zk ?_
           refine Zk ?_
           obtain rfl := Option.some.inj H1
           obtain rfl := Option.some.inj H0
           exact Zz rfl hst hb (Zh (s := 2)) (hst.at 0 rfl)
         · replace H1 := Zq hc6 H1
           refine wp_skip ?_
           refine Zbg ?_
           refine Zn ?_
           refine r_g (L := [(16, _), (17, _), (18, _)]) (T := [⟨[.old 2], _, [], [], [26]⟩, ⟨[.op 0 0], _, [], [0], [18]⟩]) (F := [.old 0, .old 1, .op 1 0]) (hst.pick [0, 1, 2] rfl) hb Za
             (o_p rfl (Zck rfl rfl u_0 c_i rfl) <| o_p rfl (Zc rfl rfl u_0) <| o_n) (by kernel_rfl) (fun a g hst hb => ?_)
           exact ⟨n, Nat.lt_succ_self _, (IntKind.i64.wrap (x2 + (1 : Int))), g, rfl, (hst.pick [0, 1, 2] rfl), hb, H1⟩
       · replace H1 := Zq hc3 H1
         refine wp_exit ?_
         refine Zb9 ?_
         refine Zb9 ?_
         refine Zcy ?_
         exact ⟨g, rfl, (hst.pick [] rfl), hb, Option.some.inj H1⟩
theorem Zm7 (a0 : Zr) {r : Int} (h : Zgl a0 = some r) : FnOk Tryd.prog 31 [(Zy.pd a0)] (pInt .i64 r) := by
 have H0 := h
 unfold Zgl at H0
 clear h
 refine Zbt (N := 19) Tryd.func31 rfl rfl (Nat.le_of_ble_eq_true rfl) rfl rfl (fun a g0 hst hb => ?_)
 refine r_s (T := [⟨[.old 0], _, [], [], [1]⟩, ⟨[], _, [], [], [2]⟩]) (F := [.op 0 0]) hst hb Za
   (o_p rfl (Zbq rfl rfl u_0) <| o_p rfl (Zb rfl rfl c_i) <| o_n) (by kernel_rfl) (fun a g hst hb => ?_)
 refine wp_seq ?_
 obtain ⟨r1, h2, H0⟩ := Zj H0
 refine r_s (T := ⟨[.old 0], _, [], [], [3]⟩ :: ⟨[.op 0 0], _, [], [0], [4]⟩ :: ⟨[.op 1 0], _, [], [0, 1], [5]⟩ :: ⟨[.op 2 0], _, [], [0, 1, 2], [6]⟩ :: ⟨[.op 3 0], _, [], Lr 4, [7]⟩ :: ⟨[.op 4 0, .old 0], _, [], Lr 5, [8]⟩ :: ⟨[.op 4 0, .op 5 0], _, [], Lr 6, [9]⟩ :: ⟨[.op 4 0, .op 6 0], _, [], Lr 7, [10]⟩ :: ⟨[.op 4 0, .op 7 0], _, [], Lr 8, [11]⟩ :: ⟨[.op 4 0, .op 8 0], _, [], Lr 9, [12]⟩ :: ⟨[.op 9 0], _, [], Lr 10, [13]⟩ :: ⟨[.op 10 0, .old 0], _, [], Lr 11, [14]⟩ :: ⟨[.op 10 0, .op 11 0], _, [], Lr 12, [15]⟩ :: ⟨[.op 10 0, .op 12 0], _, [], Lr 13, [16]⟩ :: ⟨[.op 10 0, .op 13 0], _, [], Lr 14, [17]⟩ :: ⟨[.op 10 0, .op 14 0], _, [], Lr 15, [18]⟩ :: []) (F := [.op 15 0]) hst hb Za
   (o_p rfl (Zd Zl4 rfl rfl u_0) <| o_p rfl (Zf ty_9 rfl rfl u_0) <| o_p rfl (Zem Tryd.underlying9 rfl rfl u_0) <| o_p rfl (Zci rfl rfl u_0 c_i) <| o_p rfl (Zc rfl rfl u_0) <| o_g (g_f rfl rfl rfl (fun hG => Zd Zfc rfl rfl u_0)) <| o_g (g_f rfl rfl rfl (fun hG => Zf ty_9 rfl rfl (Opd.gd hG u_0))) <| o_g (g_f rfl rfl rfl (fun hG => Zem Tryd.underlying9 rfl rfl (Opd.gd hG u_0))) <| o_g (g_f rfl rfl rfl (fun hG => Zci rfl rfl (Opd.gd hG u_0) c_i)) <| o_p rfl (Zbf rfl rfl u_0 (fun hz => (Opd.gd (bNF hz) u_1))) <| o_p rfl (Zc rfl rfl u_0) <| o_g (g_f rfl rfl rfl (fun hG => Zd Zkk rfl rfl u_0)) <| o_g (g_f rfl rfl rfl (fun hG => Zf Z8 rfl rfl (Opd.gd hG u_0))) <| o_g (g_f rfl rfl rfl (fun hG => Zu Zyo (Zjx _ (Zbs h2 hG)) rfl rfl (.cons (Opd.gd hG u_0) .nil))) <| o_g (g_f rfl rfl rfl (fun hG => Zci rfl rfl (Opd.gd hG u_0) c_i)) <| o_p rfl (Zbf rfl rfl u_0 (fun hz => (Opd.gd (bNF hz) u_1))) <| o_n) (by kernel_rfl) (fun a g hst hb => ?_)
 refine wp_cond_split (hst.bool 0 rfl) (fun hc3 => ?_) (fun hc3 => ?_)
 · replace H0 := Zp hc3 H0
   refine r_s (L := []) (T := [⟨[], _, [], [], [2]⟩]) (F := [.op 0 0]) (hst.pick [] rfl) hb Za
     (o_p rfl (Zb rfl rfl c_i) <| o_n) (by kernel_rfl) (fun a g hst hb => ?_)
   refine wp_ret ?_
   refine Zk ?_
   obtain rfl := Option.some.inj H0
   exact Zz rfl hst hb (Zh (s := 2)) (hst.at 0 rfl)
 · replace H0 := Zq hc3 H0
   refine wp_skip ?_
   refine Zn ?_
   refine r_s (L := []) (T := [⟨[], _, [], [], [2]⟩]) (F := [.op 0 0]) (hst.pick [] rfl) hb Za
     (o_p rfl (Zb rfl rfl c_i) <| o_n) (by kernel_rfl) (fun a g hst hb => ?_)
   refine wp_ret ?_
   obtain rfl := Option.some.inj H0
   exact Zz rfl hst hb (Zh (s := 2)) (hst.at 0 rfl)
theorem Znm (a0 : Ze) (a1 : List Zbp) {r : Bool} (h : Zfs a0 a1 = some r) : FnOk Tryd.prog 9 [(Zg.pd a0), (Zbw.sl.pd a1)] (Z9 r) := by
 have H0 := h
 unfold Zfs at H0
 clear h
 refine Zbt (N := 26) Tryd.func9 rfl rfl (Nat.le_of_ble_eq_true rfl) rfl rfl (fun a g0 hst hb => ?_)
 refine r_s (T := [⟨[.old 0], _, [], [], [2]⟩, ⟨[], _, [], [], [4]⟩]) (F := [.old 1, .op 0 0]) hst hb Za
   (o_p rfl (Zbq rfl rfl u_0) <| o_p rfl (Zb rfl rfl c_b) <| o_n) (by kernel_rfl) (fun a g hst hb => ?_)
 refine wp_seq ?_
 obtain ⟨r1, h2, H0⟩ := Zj H0
 refine r_s (T := [⟨[.old 1], _, [], [], [7]⟩, ⟨[.op 0 0], _, [], [0], [8]⟩, ⟨[.op 1 0], _, [], [0, 1], [9]⟩, ⟨[.op 2 0], _, [], [0, 1, 2], [10]⟩, ⟨[.op 3 0, .old 0], _, [], Lr 4, [11]⟩, ⟨[.op 3 0, .op 4 0], _, [], Lr 5, [12]⟩, ⟨[.op 3 0, .op 5 0], _, [], Lr 6, [13]⟩, ⟨[.op 3 0, .op 6 0], _, [], Lr 7, [14]⟩]) (F := [.old 0, .op 7 0]) hst hb Za
   (o_p rfl (Zf Z8 rfl rfl u_0) <| o_p rfl (Zu Zyo (Zjx _ h2) rfl rfl (.cons u_0 .nil)) <| o_p rfl (Zci rfl rfl u_0 c_i) <| o_p rfl (Zc rfl rfl u_0) <| o_g (g_f rfl rfl rfl (fun hG => Zc rfl rfl u_0)) <| o_g (g_f rfl rfl rfl (fun hG => Zco Tryd.underlying40 rfl rfl (Opd.gd hG u_0))) <| o_g (g_f rfl rfl rfl (fun hG => Zci rfl rfl (Opd.gd hG u_0) c_i)) <| o_p rfl (Zbf rfl rfl u_0 (fun hz => (Opd.gd (bNF hz) u_1))) <| o_n) (by kernel_rfl) (fun a g hst hb => ?_)
 refine wp_cond_split (hst.bool 1 rfl) (fun hc3 => ?_) (fun hc3 => ?_)
 · replace H0 := Zp hc3 H0
   refine r_s (L := []) (T := [⟨[], _, [], [], [4]⟩]) (F := [.op 0 0]) (hst.pick [] rfl) hb Za
     (o_p rfl (Zb rfl rfl c_b) <| o_n) (by kernel_rfl) (fun a g hst hb => ?_)
   refine wp_ret ?_
   refine Zk ?_
   obtain rfl := Option.some.inj H0
   exact Zz rfl hst hb (Zh (s := 4)) (hst.at 0 rfl)
 · replace H0 := Zq hc3 H0
   refine wp_skip ?_
   refine Zn ?_
   refine wp_seq ?_
   refine r_s (L := [(1, _)]) (T := [⟨[.old 0], _, [], [], [15]⟩, ⟨[.op 0 0], _, [], [0], [16]⟩, ⟨[], _, [], [], [17]⟩]) (F := [.op 0 0, .op 1 0, .op 2 0]) (hst.pick [0] rfl) hb Za
     (o_p rfl (Zc rfl rfl u_0) <| o_p rfl (Zco Tryd.underlying40 rfl rfl u_0) <| o_p rfl (Zc rfl rfl c_i) <| o_n) (by kernel_rfl) (fun a g hst hb => ?_)
   obtain ⟨z11, hz1, H0⟩ := Zj H0
   refine Zcl (fun a w => ∃ (g : G), w = g.w ∧ St 26 [] a g ∧ Base g0 g ∧ (.inr ()) = z11) ?_ ?_
   · rintro a w ⟨g, rfl, hst, hb, rfl⟩
     refine Zn ?_
     refine r_s (T := [⟨[], _, [], [], [4]⟩]) (F := [.op 0 0]) hst hb Za
       (o_p rfl (Zb rfl rfl c_b) <| o_n) (by kernel_rfl) (fun a g hst hb => ?_)
     refine wp_ret ?_
     obtain rfl := Option.some.inj H0
     exact Zz rfl hst hb (Zh (s := 4)) (hst.at 0 rfl)
   · refine wp_block ?_
     refine wp_loop_ghost (fun n a w => ∃ (x4 : Int) (g : G), w = g.w ∧ St 26 [(15, (Zbw.sl.pd a1)), (16, (pInt .i64 (a1.length : Int))), (17, (pInt .i64 x4))] a g ∧ Base g0 g ∧ Zde a1 n x4 = some z11) (Int.toNat ((a1.length : Int) - (0 : Int)) + 1) ⟨(0 : Int), g, rfl, (hst.pick [0, 1, 2] rfl), hb, hz1⟩ (fun n a w hI => ?_)
     obtain ⟨x4, g, rfl, hst, hb, H1⟩ := hI
     cases n with
     | zero => exact absurd H1 (by simp [Zde])
     | succ n =>
       rw [Zde] at H1
       refine r_s (T := [⟨[.old 2, .old 1], _, [], [], [18]⟩]) (F := [.old 0, .old 1, .old 2, .op 0 0]) hst hb Za
         (o_p rfl (Zb6 rfl rfl u_0 u_1) <| o_n) (by kernel_rfl) (fun a g hst hb => ?_)
       refine wp_seq ?_
       refine wp_cond_split (hst.bool 3 rfl) (fun hc5 => ?_) (fun hc5 => ?_)
       · replace H1 := Zp hc5 H1
         refine wp_skip ?_
         refine Zn ?_
         refine wp_seq ?_
         refine wp_block ?_
         obtain ⟨e6, h7, H1⟩ := Zj H1
         refine r_s (L := [(15, _), (16, _), (17, _)]) (T := [⟨[.old 0, .old 2], _, [], [], [19]⟩, ⟨[.op 0 0], _, [], [0], [20]⟩, ⟨[], [(6, (pBox Zbw 6 (default : Zbp)))], [7], [], [6]⟩, ⟨[.op 1 0, .op 2 0], _, [7], [0, 1, 2], [6]⟩]) (F := [.op 3 0, .old 0, .old 1, .old 2]) (hst.pick [0, 1, 2] rfl) hb Za
           (o_p rfl (Zbm Tryd.underlying40 Zyk rfl rfl u_0 u_1 h7) <| o_p rfl (Zf Zrr rfl rfl u_0) <| o_p rfl (Zbu (zs := [.int .i64 0, .int .i64 0, .string ByteArray.empty, .int .i64 0, .float .f64 0, .string ByteArray.empty, .int .i64 0, .int .i64 0, .int .i64 0, .int .i64 0, .float .f64 0, .int .i64 0, .string ByteArray.empty, .slice none 0 0, .bool false]) (by kernel_rfl) (fun g => Zjb g) rfl rfl) <| o_p rfl (Zct Zrr rfl rfl u_1 u_0) <| o_n) (by kernel_rfl) (fun a g hst hb => ?_)
         obtain ⟨r8, h9, H1⟩ := Zj H1
         refine r_s (T := [⟨[.old 0], _, [], [], [21]⟩, ⟨[.op 0 0], _, [], [0], [22]⟩, ⟨[.op 1 0], _, [], [0, 1], [23]⟩, ⟨[.op 2 0], _, [], [0, 1, 2], [24]⟩]) (F := [.old 1, .old 2, .old 3, .op 3 0]) hst hb Za
           (o_p rfl (Zd Zqo rfl rfl u_0) <| o_p rfl (Zf Zgf rfl rfl u_0) <| o_p rfl (Zu Z10 (Zm7 _ h9) rfl rfl (.cons u_0 .nil)) <| o_p rfl (Zci rfl rfl u_0 c_i) <| o_n) (by kernel_rfl) (fun a g hst hb => ?_)
         refine wp_cond_split (hst.bool 3 rfl) (fun hc10 => ?_) (fun hc10 => ?_)
         · replace H1 := Zp hc10 H1
           refine r_s (L := []) (T := [⟨[], _, [], [], [4]⟩]) (F := [.op 0 0]) (hst.pick [] rfl) hb Za
             (o_p rfl (Zb rfl rfl c_b) <| o_n) (by kernel_rfl) (fun a g hst hb => ?_)
           refine wp_ret ?_
           refine Zo ?_
           refine Zk ?_
           refine Zk ?_
           refine Zo ?_
           refine Zk ?_
           refine Zk ?_
           obtain rfl := Option.some.inj H1
           obtain rfl := Option.some.inj H0
           exact Zz rfl hst hb (Zh (s := 4)) (hst.at 0 rfl)
         · replace H1 := Zq hc10 H1
           refine wp_skip ?_
           refine Zbg ?_
           refine Zn ?_
           refine r_g (L := [(15, _), (16, _), (17, _)]) (T := [⟨[.old 2], _, [], [], [25]⟩, ⟨[.op 0 0], _, [], [0], [17]⟩]) (F := [.old 0, .old 1, .op 1 0]) (hst.pick [0, 1, 2] rfl) hb Za
             (o_p rfl (Zck rfl rfl u_0 c_i rfl) <| o_p rfl (Zc rfl rfl u_0) <| o_n) (by kernel_rfl) (fun a g hst hb => ?_)
           exact ⟨n, Nat.lt_succ_self _, (IntKind.i64.wrap (x4 + (1 : Int))), g, rfl, (hst.pick [0, 1, 2] rfl), hb, H1⟩
       · replace H1 := Zq hc5 H1
         refine wp_exit ?_
         refine Zb9 ?_
         refine Zb9 ?_
         refine Zcy ?_
         exact ⟨g, rfl, (hst.pick [] rfl), hb, Option.some.inj H1⟩
theorem Zh0 (a0 : Nat) {r : Bool} (h : Zej a0 = some r) : FnOk Tryd.prog 72 [(pFlt a0)] (Z9 r) := by
 have H0 := h
 unfold Zej at H0
 clear h
 refine Zbt (N := 6) Tryd.func72 rfl rfl (Nat.le_of_ble_eq_true rfl) rfl rfl (fun a g0 hst hb => ?_)
 refine r_s (T := [⟨[], _, [], [], [2]⟩]) (F := [.old 0]) hst hb Za
   (o_p rfl (Zb rfl rfl c_b) <| o_n) (by kernel_rfl) (fun a g hst hb => ?_)
 refine r_s (T := [⟨[.old 0], _, [], [], [3]⟩, ⟨[.old 0], _, [], [], [4]⟩, ⟨[.op 0 0, .op 1 0], _, [], [0, 1], [5]⟩, ⟨[.op 2 0], _, [], [0, 1, 2], [2]⟩]) (F := [.op 3 0]) hst hb Za
   (o_p rfl (Zc rfl rfl u_0) <| o_p rfl (Zc rfl rfl u_0) <| o_p rfl (Zue rfl rfl u_0 u_1) <| o_p rfl (Zb rfl rfl u_0) <| o_n) (by kernel_rfl) (fun a g hst hb => ?_)
 refine wp_ret ?_
 obtain rfl := Option.some.inj H0
 exact Zz rfl hst hb (Zh (s := 2)) (hst.at 0 rfl)
theorem Zi9 (a0 : Nat) {r : Bool} (h : Zez a0 = some r) : FnOk Tryd.prog 80 [(pFlt a0)] (Z9 r) := by
 have H0 := h
 unfold Zez at H0
 clear h
 refine Zbt (N := 10) Tryd.func80 rfl rfl (Nat.le_of_ble_eq_true rfl) rfl rfl (fun a g0 hst hb => ?_)
 refine r_s (T := [⟨[], _, [], [], [2]⟩]) (F := [.old 0]) hst hb Za
   (o_p rfl (Zb rfl rfl c_b) <| o_n) (by kernel_rfl) (fun a g hst hb => ?_)
 refine wp_seq ?_
 refine r_s (T := [⟨[.old 0], _, [], [], [3]⟩, ⟨[.op 0 0], _, [], [0], [4]⟩]) (F := [.old 0, .op 1 0]) hst hb Za
   (o_p rfl (Zc rfl rfl u_0) <| o_p rfl (Zqr rfl rfl u_0 c_f) <| o_n) (by kernel_rfl) (fun a g hst hb => ?_)
 refine wp_cond_split (hst.bool 1 rfl) (fun hc1 => ?_) (fun hc1 => ?_)
 · replace H0 := Zp hc1 H0
   obtain ⟨f2, h3, H0⟩ := Zj H0
   refine r_s (L := [(0, _)]) (T := [⟨[.old 0], _, [], [], [5]⟩, ⟨[.op 0 0], _, [], [0], [6]⟩, ⟨[.op 1 0], _, [], [0, 1], [7]⟩, ⟨[.op 2 0], _, [], [0, 1, 2], [2]⟩]) (F := [.op 3 0]) (hst.pick [0] rfl) hb Za
     (o_p rfl (Zc rfl rfl u_0) <| o_p rfl (Zzh rfl rfl c_f u_0 h3) <| o_p rfl (Zqm rfl rfl u_0 c_f) <| o_p rfl (Zb rfl rfl u_0) <| o_n) (by kernel_rfl) (fun a g hst hb => ?_)
   refine wp_ret ?_
   refine Zk ?_
   obtain rfl := Option.some.inj H0
   exact Zz rfl hst hb (Zh (s := 2)) (hst.at 0 rfl)
 · replace H0 := Zq hc1 H0
   refine wp_skip ?_
   refine Zn ?_
   refine r_s (L := [(0, _)]) (T := [⟨[.old 0], _, [], [], [8]⟩, ⟨[.op 0 0], _, [], [0], [9]⟩, ⟨[.op 1 0], _, [], [0, 1], [2]⟩]) (F := [.op 2 0]) (hst.pick [0] rfl) hb Za
     (o_p rfl (Zc rfl rfl u_0) <| o_p rfl (Zqm rfl rfl u_0 c_f) <| o_p rfl (Zb rfl rfl u_0) <| o_n) (by kernel_rfl) (fun a g hst hb => ?_)
   refine wp_ret ?_
   obtain rfl := Option.some.inj H0
   exact Zz rfl hst hb (Zh (s := 2)) (hst.at 0 rfl)
theorem Zhz (a0 : Nat) (a1 : Nat) {r : Bool} (h : Zei a0 a1 = some r) : FnOk Tryd.prog 63 [(pFlt a0), (pFlt a1)] (Z9 r) := by
 have H0 := h
 unfold Zei at H0
 clear h
 refine Zbt (N := 25) Tryd.func63 rfl rfl (Nat.le_of_ble_eq_true rfl) rfl rfl (fun a g0 hst hb => ?_)
 refine r_s (T := [⟨[], _, [], [], [4]⟩]) (F := [.old 0, .old 1]) hst hb Za
   (o_p rfl (Zb rfl rfl c_b) <| o_n) (by kernel_rfl) (fun a g hst hb => ?_)
 refine wp_seq ?_
 obtain ⟨r1, h2, H0⟩ := Zj H0
 refine r_s (T := [⟨[.old 0], _, [], [], [5]⟩, ⟨[.op 0 0], _, [], [0], [6]⟩]) (F := [.old 0, .old 1, .op 1 0]) hst hb Za
   (o_p rfl (Zc rfl rfl u_0) <| o_p rfl (Zu Zup (Zh0 _ h2) rfl rfl (.cons u_0 .nil)) <| o_n) (by kernel_rfl) (fun a g hst hb => ?_)
 refine wp_cond_split (hst.bool 2 rfl) (fun hc3 => ?_) (fun hc3 => ?_)
 · replace H0 := Zp hc3 H0
   refine r_s (L := []) (T := [⟨[], _, [], [], [4]⟩]) (F := [.op 0 0]) (hst.pick [] rfl) hb Za
     (o_p rfl (Zb rfl rfl c_b) <| o_n) (by kernel_rfl) (fun a g hst hb => ?_)
   refine wp_ret ?_
   refine Zk ?_
   obtain rfl := Option.some.inj H0
   exact Zz rfl hst hb (Zh (s := 4)) (hst.at 0 rfl)
 · replace H0 := Zq hc3 H0
   refine wp_skip ?_
   refine Zn ?_
   refine wp_seq ?_
   obtain ⟨r4, h5, H0⟩ := Zj H0
   refine r_s (L := [(0, _), (1, _)]) (T := [⟨[.old 1], _, [], [], [7]⟩, ⟨[.op 0 0], _, [], [0], [8]⟩]) (F := [.old 0, .old 1, .op 1 0]) (hst.pick [0, 1] rfl) hb Za
     (o_p rfl (Zc rfl rfl u_0) <| o_p rfl (Zu Zup (Zh0 _ h5) rfl rfl (.cons u_0 .nil)) <| o_n) (by kernel_rfl) (fun a g hst hb => ?_)
   refine wp_cond_split (hst.bool 2 rfl) (fun hc6 => ?_) (fun hc6 => ?_)
   · replace H0 := Zp hc6 H0
     refine r_s (L := []) (T := [⟨[], _, [], [], [4]⟩]) (F := [.op 0 0]) (hst.pick [] rfl) hb Za
       (o_p rfl (Zb rfl rfl c_b) <| o_n) (by kernel_rfl) (fun a g hst hb => ?_)
     refine wp_ret ?_
     refine Zk ?_
     obtain rfl := Option.some.inj H0
     exact Zz rfl hst hb (Zh (s := 4)) (hst.at 0 rfl)
   · replace H0 := Zq hc6 H0
     refine wp_skip ?_
     refine Zn ?_
     refine wp_seq ?_
     refine r_s (L := [(0, _), (1, _)]) (T := [⟨[.old 0], _, [], [], [9]⟩, ⟨[.op 0 0], _, [], [0], [10]⟩, ⟨[.op 1 0], _, [], [0, 1], [11]⟩, ⟨[.op 2 0, .old 1], _, [], [0, 1, 2], [12]⟩, ⟨[.op 2 0, .op 3 0], _, [], Lr 4, [13]⟩, ⟨[.op 2 0, .op 4 0], _, [], Lr 5, [14]⟩]) (F := [.old 0, .old 1, .op 5 0]) (hst.pick [0, 1] rfl) hb Za
       (o_p rfl (Zc rfl rfl u_0) <| o_p rfl (Zqr rfl rfl u_0 c_f) <| o_p rfl (Zc rfl rfl u_0) <| o_g (g_t rfl rfl rfl (fun hG => Zc rfl rfl u_0)) <| o_g (g_t rfl rfl rfl (fun hG => Zqr rfl rfl (Opd.gd hG u_0) c_f)) <| o_p rfl (Zbc rfl rfl u_0 (fun hz => (Opd.gd hz u_1))) <| o_n) (by kernel_rfl) (fun a g hst hb => ?_)
     refine wp_cond_split (hst.bool 2 rfl) (fun hc7 => ?_) (fun hc7 => ?_)
     · replace H0 := Zp hc7 H0
       obtain ⟨r8, h9, H0⟩ := Zj H0; obtain ⟨r10, h11, H0⟩ := Zj H0
       refine r_s (L := [(0, _), (1, _)]) (T := [⟨[.old 0], _, [], [], [15]⟩, ⟨[.op 0 0], _, [], [0], [16]⟩, ⟨[.op 1 0], _, [], [0, 1], [17]⟩, ⟨[.op 2 0, .old 1], _, [], [0, 1, 2], [18]⟩, ⟨[.op 2 0, .op 3 0], _, [], Lr 4, [19]⟩, ⟨[.op 2 0, .op 4 0], _, [], Lr 5, [20]⟩, ⟨[.op 2 0, .op 5 0], _, [], Lr 6, [21]⟩, ⟨[.op 6 0], _, [], Lr 7, [4]⟩]) (F := [.op 7 0]) (hst.pick [0, 1] rfl) hb Za
         (o_p rfl (Zc rfl rfl u_0) <| o_p rfl (Zu Zyh (Zi9 _ h9) rfl rfl (.cons u_0 .nil)) <| o_p rfl (Zc rfl rfl u_0) <| o_g (g_t rfl rfl rfl (fun hG => Zc rfl rfl u_0)) <| o_g (g_t rfl rfl rfl (fun hG => Zu Zyh (Zi9 _ (Zbs h11 hG)) rfl rfl (.cons (Opd.gd hG u_0) .nil))) <| o_g (g_t rfl rfl rfl (fun hG => Zcf rfl rfl (Opd.gd hG u_0))) <| o_p rfl (Zbc rfl rfl u_0 (fun hz => (Opd.gd hz u_1))) <| o_p rfl (Zb rfl rfl u_0) <| o_n) (by kernel_rfl) (fun a g hst hb => ?_)
       refine wp_ret ?_
       refine Zk ?_
       obtain rfl := Option.some.inj H0
       exact Zz rfl hst hb (Zh (s := 4)) (hst.at 0 rfl)
     · replace H0 := Zq hc7 H0
       refine wp_skip ?_
       refine Zn ?_
       refine r_s (L := [(0, _), (1, _)]) (T := [⟨[.old 0], _, [], [], [22]⟩, ⟨[.old 1], _, [], [], [23]⟩, ⟨[.op 0 0, .op 1 0], _, [], [0, 1], [24]⟩, ⟨[.op 2 0], _, [], [0, 1, 2], [4]⟩]) (F := [.op 3 0]) (hst.pick [0, 1] rfl) hb Za
         (o_p rfl (Zc rfl rfl u_0) <| o_p rfl (Zc rfl rfl u_0) <| o_p rfl (Zqm rfl rfl u_0 u_1) <| o_p rfl (Zb rfl rfl u_0) <| o_n) (by kernel_rfl) (fun a g hst hb => ?_)
       refine wp_ret ?_
       obtain rfl := Option.some.inj H0
       exact Zz rfl hst hb (Zh (s := 4)) (hst.at 0 rfl)
theorem Ze6 (a0 : Nat) (a1 : Nat) {r : Bool} (h : Zdx a0 a1 = some r) : FnOk Tryd.prog 36 [(pFlt a0), (pFlt a1)] (Z9 r) := by
 have H0 := h
 unfold Zdx at H0
 clear h
 refine Zbt (N := 15) Tryd.func36 rfl rfl (Nat.le_of_ble_eq_true rfl) rfl rfl (fun a g0 hst hb => ?_)
 refine r_s (T := [⟨[], _, [], [], [4]⟩]) (F := [.old 0, .old 1]) hst hb Za
   (o_p rfl (Zb rfl rfl c_b) <| o_n) (by kernel_rfl) (fun a g hst hb => ?_)
 obtain ⟨r1, h2, H0⟩ := Zj H0; obtain ⟨r3, h4, H0⟩ := Zj H0
 refine r_s (T := [⟨[.old 0], _, [], [], [5]⟩, ⟨[.old 1], _, [], [], [6]⟩, ⟨[.op 0 0, .op 1 0], _, [], [0, 1], [7]⟩, ⟨[.op 2 0], _, [], [0, 1, 2], [8]⟩, ⟨[.op 3 0], _, [], Lr 4, [9]⟩, ⟨[.op 4 0, .old 1], _, [], Lr 5, [10]⟩, ⟨[.op 4 0, .old 0], _, [], Lr 5, [11]⟩, ⟨[.op 4 0, .op 5 0, .op 6 0], _, [], Lr 7, [12]⟩, ⟨[.op 4 0, .op 7 0], _, [], Lr 8, [13]⟩, ⟨[.op 4 0, .op 8 0], _, [], Lr 9, [14]⟩, ⟨[.op 9 0], _, [], Lr 10, [4]⟩]) (F := [.op 10 0]) hst hb Za
   (o_p rfl (Zc rfl rfl u_0) <| o_p rfl (Zc rfl rfl u_0) <| o_p rfl (Zu Zuz (Zhz _ _ h2) rfl rfl (.cons u_0 (.cons u_1 .nil))) <| o_p rfl (Zcf rfl rfl u_0) <| o_p rfl (Zc rfl rfl u_0) <| o_g (g_t rfl rfl rfl (fun hG => Zc rfl rfl u_0)) <| o_g (g_t rfl rfl rfl (fun hG => Zc rfl rfl u_0)) <| o_g (g_t rfl rfl rfl (fun hG => Zu Zuz (Zhz _ _ (Zbs h4 hG)) rfl rfl (.cons (Opd.gd hG u_0) (.cons (Opd.gd hG u_1) .nil)))) <| o_g (g_t rfl rfl rfl (fun hG => Zcf rfl rfl (Opd.gd hG u_0))) <| o_p rfl (Zbc rfl rfl u_0 (fun hz => (Opd.gd hz u_1))) <| o_p rfl (Zb rfl rfl u_0) <| o_n) (by kernel_rfl) (fun a g hst hb => ?_)
 refine wp_ret ?_
 obtain rfl := Option.some.inj H0
 exact Zz rfl hst hb (Zh (s := 4)) (hst.at 0 rfl)
theorem Zjc (a0 : Nat) {r : Bool} (h : Zfe a0 = some r) : FnOk Tryd.prog 71 [(pFlt a0)] (Z9 r) := by
 have H0 := h
 unfold Zfe at H0
 clear h
 refine Zbt (N := 5) Tryd.func71 rfl rfl (Nat.le_of_ble_eq_true rfl) rfl rfl (fun a g0 hst hb => ?_)
 refine r_s (T := [⟨[], _, [], [], [2]⟩]) (F := [.old 0]) hst hb Za
   (o_p rfl (Zb rfl rfl c_b) <| o_n) (by kernel_rfl) (fun a g hst hb => ?_)
 obtain ⟨r1, h2, H0⟩ := Zj H0
 refine r_s (T := [⟨[.old 0], _, [], [], [3]⟩, ⟨[.op 0 0], _, [], [0], [4]⟩, ⟨[.op 1 0], _, [], [0, 1], [2]⟩]) (F := [.op 2 0]) hst hb Za
   (o_p rfl (Zc rfl rfl u_0) <| o_p rfl (Zu Zpi (Ze6 _ _ h2) rfl rfl (.cons u_0 (.cons c_f .nil))) <| o_p rfl (Zb rfl rfl u_0) <| o_n) (by kernel_rfl) (fun a g hst hb => ?_)
 refine wp_ret ?_
 obtain rfl := Option.some.inj H0
 exact Zz rfl hst hb (Zh (s := 2)) (hst.at 0 rfl)
theorem Zm1 (a0 : Ze) (a1 : ByteArray) {r : Bool} (h : Zge a0 a1 = some r) : FnOk Tryd.prog 44 [(Zg.pd a0), (pStr a1)] (Z9 r) := by
 have H0 := h
 unfold Zge at H0
 clear h
 refine Zbt (N := 106) Tryd.func44 rfl rfl (Nat.le_of_ble_eq_true rfl) rfl rfl (fun a g0 hst hb => ?_)
 refine r_s (T := [⟨[.old 0], _, [], [], [2]⟩, ⟨[], _, [], [], [4]⟩]) (F := [.old 1, .op 0 0]) hst hb Za
   (o_p rfl (Zbq rfl rfl u_0) <| o_p rfl (Zb rfl rfl c_b) <| o_n) (by kernel_rfl) (fun a g hst hb => ?_)
 refine r_s (T := [⟨[], _, [], [], [5]⟩, ⟨[], _, [], [0], [6]⟩, ⟨[], _, [], [0, 1], [7]⟩, ⟨[], _, [], [0, 1, 2], [8]⟩, ⟨[], _, [], Lr 4, [9]⟩]) (F := [.old 0, .old 1, .op 0 0, .op 1 0, .op 2 0, .op 3 0, .op 4 0]) hst hb Za
   (o_p rfl (Zb rfl rfl c_b) <| o_p rfl (Zb rfl rfl c_b) <| o_p rfl (Zb rfl rfl c_b) <| o_p rfl (Zb rfl rfl c_b) <| o_p rfl (Zb rfl rfl c_b) <| o_n) (by kernel_rfl) (fun a g hst hb => ?_)
 refine wp_seq ?_
 refine r_s (T := [⟨[], _, [], [], [10]⟩]) (F := [.old 0, .old 1, .old 2, .old 3, .old 4, .old 5, .old 6, .op 0 0]) hst hb Za
   (o_p rfl (Zb rfl rfl c_i) <| o_n) (by kernel_rfl) (fun a g hst hb => ?_)
 obtain ⟨z23, hz1, H0⟩ := Zj H0
 refine Zcl (fun a w => ∃ (y18 : Bool) (y19 : Bool) (y20 : Bool) (y21 : Bool) (y22 : Bool) (g : G), w = g.w ∧ St 106 [(2, (Zg.ptr a0)), (5, (Z9 y18)), (6, (Z9 y19)), (7, (Z9 y20)), (8, (Z9 y21)), (9, (Z9 y22))] a g ∧ Base g0 g ∧ (y18, y19, y20, y21, y22) = z23) ?_ ?_
 · rintro a w ⟨y18, y19, y20, y21, y22, g, rfl, hst, hb, rfl⟩
   refine Zn ?_
   refine wp_seq ?_
   refine r_s (T := ⟨[.old 1], _, [], [], [52]⟩ :: ⟨[.op 0 0], _, [], [0], [53]⟩ :: ⟨[.op 1 0], _, [], [0, 1], [54]⟩ :: ⟨[.op 2 0, .old 0], _, [], [0, 1, 2], [55]⟩ :: ⟨[.op 2 0, .op 3 0], _, [], Lr 4, [56]⟩ :: ⟨[.op 2 0, .op 4 0], _, [], Lr 5, [57]⟩ :: ⟨[.op 2 0, .op 5 0], _, [], Lr 6, [58]⟩ :: ⟨[.op 6 0], _, [], Lr 7, [59]⟩ :: ⟨[.op 7 0, .old 2], _, [], Lr 8, [60]⟩ :: ⟨[.op 7 0, .op 8 0], _, [], Lr 9, [61]⟩ :: ⟨[.op 7 0, .op 9 0], _, [], Lr 10, [62]⟩ :: ⟨[.op 10 0, .old 0], _, [], Lr 11, [63]⟩ :: ⟨[.op 10 0, .op 11 0], _, [], Lr 12, [64]⟩ :: ⟨[.op 10 0, .op 12 0], _, [], Lr 13, [65]⟩ :: ⟨[.op 7 0, .op 10 0, .op 13 0], _, [], Lr 14, [66]⟩ :: ⟨[.op 7 0, .op 14 0], _, [], Lr 15, [67]⟩ :: ⟨[.op 15 0], _, [], Lr 16, [68]⟩ :: ⟨[.op 16 0, .old 3], _, [], Lr 17, [69]⟩ :: ⟨[.op 16 0, .op 17 0], _, [], Lr 18, [70]⟩ :: ⟨[.op 16 0, .op 18 0], _, [], Lr 19, [71]⟩ :: ⟨[.op 19 0, .old 0], _, [], Lr 20, [72]⟩ :: ⟨[.op 19 0, .op 20 0], _, [], Lr 21, [73]⟩ :: ⟨[.op 19 0, .op 21 0], _, [], Lr 22, [74]⟩ :: ⟨[.op 16 0, .op 19 0, .op 22 0], _, [], Lr 23, [75]⟩ :: ⟨[.op 16 0, .op 23 0], _, [], Lr 24, [76]⟩ :: ⟨[.op 24 0], _, [], Lr 25, [77]⟩ :: ⟨[.op 25 0, .old 3], _, [], Lr 26, [78]⟩ :: ⟨[.op 25 0, .op 26 0], _, [], Lr 27, [79]⟩ :: ⟨[.op 25 0, .op 27 0], _, [], Lr 28, [80]⟩ :: ⟨[.op 28 0, .old 0], _, [], Lr 29, [81]⟩ :: ⟨[.op 28 0, .op 29 0], _, [], Lr 30, [82]⟩ :: ⟨[.op 28 0, .op 30 0], _, [], Lr 31, [83]⟩ :: ⟨[.op 25 0, .op 28 0, .op 31 0], _, [], Lr 32, [84]⟩ :: ⟨[.op 25 0, .op 32 0], _, [], Lr 33, [85]⟩ :: []) (F := [.old 0, .old 4, .old 5, .op 33 0]) hst hb Za
     (o_p rfl (Zc rfl rfl u_0) <| o_p rfl (Zcf rfl rfl u_0) <| o_p rfl (Zc rfl rfl u_0) <| o_g (g_t rfl rfl rfl (fun hG => Zd Zhb rfl rfl u_0)) <| o_g (g_t rfl rfl rfl (fun hG => Zf ty_9 rfl rfl (Opd.gd hG u_0))) <| o_g (g_t rfl rfl rfl (fun hG => Zp7 rfl rfl (Opd.gd hG u_0) c_s)) <| o_p rfl (Zbc rfl rfl u_0 (fun hz => (Opd.gd hz u_1))) <| o_p rfl (Zc rfl rfl u_0) <| o_g (g_f rfl rfl rfl (fun hG => Zc rfl rfl u_0)) <| o_g (g_f rfl rfl rfl (fun hG => Zcf rfl rfl (Opd.gd hG u_0))) <| o_g (g_f rfl rfl rfl (fun hG => Zc rfl rfl (Opd.gd hG u_0))) <| o_g (g_ti rfl rfl rfl (fun hG => Zd Zb8 rfl rfl u_0)) <| o_g (g_ti rfl rfl rfl (fun hG => Zf ty_2 rfl rfl (Opd.gd hG u_0))) <| o_g (g_ti rfl rfl rfl (fun hG => Zcp rfl rfl (Opd.gd hG u_0) c_i)) <| o_g (g_f rfl rfl rfl (fun hG => Zbc rfl rfl (Opd.gd hG u_0) (fun hz => (Opd.gd (bA hG hz) u_1)))) <| o_p rfl (Zbf rfl rfl u_0 (fun hz => (Opd.gd (bNF hz) u_1))) <| o_p rfl (Zc rfl rfl u_0) <| o_g (g_f rfl rfl rfl (fun hG => Zc rfl rfl u_0)) <| o_g (g_f rfl rfl rfl (fun hG => Zcf rfl rfl (Opd.gd hG u_0))) <| o_g (g_f rfl rfl rfl (fun hG => Zc rfl rfl (Opd.gd hG u_0))) <| o_g (g_ti rfl rfl rfl (fun hG => Zd Zf5 rfl rfl u_0)) <| o_g (g_ti rfl rfl rfl (fun hG => Zf ty_2 rfl rfl (Opd.gd hG u_0))) <| o_g (g_ti rfl rfl rfl (fun hG => Zcp rfl rfl (Opd.gd hG u_0) c_i)) <| o_g (g_f rfl rfl rfl (fun hG => Zbc rfl rfl (Opd.gd hG u_0) (fun hz => (Opd.gd (bA hG hz) u_1)))) <| o_p rfl (Zbf rfl rfl u_0 (fun hz => (Opd.gd (bNF hz) u_1))) <| o_p rfl (Zc rfl rfl u_0) <| o_g (g_f rfl rfl rfl (fun hG => Zc rfl rfl u_0)) <| o_g (g_f rfl rfl rfl (fun hG => Zcf rfl rfl (Opd.gd hG u_0))) <| o_g (g_f rfl rfl rfl (fun hG => Zc rfl rfl (Opd.gd hG u_0))) <| o_g (g_ti rfl rfl rfl (fun hG => Zd Zf6 rfl rfl u_0)) <| o_g (g_ti rfl rfl rfl (fun hG => Zf ty_2 rfl rfl (Opd.gd hG u_0))) <| o_g (g_ti rfl rfl rfl (fun hG => Zcp rfl rfl (Opd.gd hG u_0) c_i)) <| o_g (g_f rfl rfl rfl (fun hG => Zbc rfl rfl (Opd.gd hG u_0) (fun hz => (Opd.gd (bA hG hz) u_1)))) <| o_p rfl (Zbf rfl rfl u_0 (fun hz => (Opd.gd (bNF hz) u_1))) <| o_n) (by kernel_rfl) (fun a g hst hb => ?_)
   refine wp_cond_split (hst.bool 3 rfl) (fun hc24 => ?_) (fun hc24 => ?_)
   · replace H0 := Zp hc24 H0
     refine r_s (L := []) (T := [⟨[], _, [], [], [4]⟩]) (F := [.op 0 0]) (hst.pick [] rfl) hb Za
       (o_p rfl (Zb rfl rfl c_b) <| o_n) (by kernel_rfl) (fun a g hst hb => ?_)
     refine wp_ret ?_
     refine Zk ?_
     obtain rfl := Option.some.inj H0
     exact Zz rfl hst hb (Zh (s := 4)) (hst.at 0 rfl)
   · replace H0 := Zq hc24 H0
     refine wp_skip ?_
     refine Zn ?_
     obtain ⟨r25, h26, H0⟩ := Zj H0
     refine r_s (L := [(2, _), (8, _), (9, _)]) (T := ⟨[.old 1], _, [], [], [86]⟩ :: ⟨[.op 0 0], _, [], [0], [87]⟩ :: ⟨[.op 1 0, .old 0], _, [], [0, 1], [88]⟩ :: ⟨[.op 1 0, .op 2 0], _, [], [0, 1, 2], [89]⟩ :: ⟨[.op 1 0, .op 3 0], _, [], Lr 4, [90]⟩ :: ⟨[.op 1 0, .op 4 0], _, [], Lr 5, [91]⟩ :: ⟨[.op 5 0], _, [], Lr 6, [92]⟩ :: ⟨[.op 6 0, .old 2], _, [], Lr 7, [93]⟩ :: ⟨[.op 6 0, .op 7 0], _, [], Lr 8, [94]⟩ :: ⟨[.op 8 0, .old 0], _, [], Lr 9, [95]⟩ :: ⟨[.op 8 0, .op 9 0], _, [], Lr 10, [96]⟩ :: ⟨[.op 8 0, .op 10 0], _, [], Lr 11, [97]⟩ :: ⟨[.op 8 0, .op 11 0], _, [], Lr 12, [98]⟩ :: ⟨[.op 12 0, .old 0], _, [], Lr 13, [99]⟩ :: ⟨[.op 12 0, .op 13 0], _, [], Lr 14, [100]⟩ :: ⟨[.op 12 0, .op 14 0], _, [], Lr 15, [101]⟩ :: ⟨[.op 12 0, .op 15 0], _, [], Lr 16, [102]⟩ :: ⟨[.op 8 0, .op 12 0, .op 16 0], _, [], Lr 17, [103]⟩ :: ⟨[.op 6 0, .op 8 0, .op 17 0], _, [], Lr 18, [104]⟩ :: ⟨[.op 6 0, .op 18 0], _, [], Lr 19, [105]⟩ :: ⟨[.op 19 0], _, [], Lr 20, [4]⟩ :: []) (F := [.op 20 0]) (hst.pick [0, 1, 2] rfl) hb Za
       (o_p rfl (Zc rfl rfl u_0) <| o_p rfl (Zc rfl rfl u_0) <| o_g (g_f rfl rfl rfl (fun hG => Zd Ze3 rfl rfl u_0)) <| o_g (g_f rfl rfl rfl (fun hG => Zf Zc0 rfl rfl (Opd.gd hG u_0))) <| o_g (g_f rfl rfl rfl (fun hG => Zu Zyl (Zjc _ (Zbs h26 hG)) rfl rfl (.cons (Opd.gd hG u_0) .nil))) <| o_p rfl (Zbf rfl rfl u_0 (fun hz => (Opd.gd (bNF hz) u_1))) <| o_p rfl (Zc rfl rfl u_0) <| o_g (g_t rfl rfl rfl (fun hG => Zc rfl rfl u_0)) <| o_g (g_t rfl rfl rfl (fun hG => Zc rfl rfl (Opd.gd hG u_0))) <| o_g (g_fi rfl rfl rfl (fun hG => Zd Zef rfl rfl u_0)) <| o_g (g_fi rfl rfl rfl (fun hG => Zf ty_3 rfl rfl (Opd.gd hG u_0))) <| o_g (g_fi rfl rfl rfl (fun hG => Z7 rfl rfl (Opd.gd hG u_0) c_i)) <| o_g (g_fi rfl rfl rfl (fun hG => Zc rfl rfl (Opd.gd hG u_0))) <| o_g (g_ti rfl rfl rfl (fun hG => Zd Zb3 rfl rfl u_0)) <| o_g (g_ti rfl rfl rfl (fun hG => Zf Zcz rfl rfl (Opd.gd hG u_0))) <| o_g (g_ti rfl rfl rfl (fun hG => Zco Tryd.underlying23 rfl rfl (Opd.gd hG u_0))) <| o_g (g_ti rfl rfl rfl (fun hG => Z7 rfl rfl (Opd.gd hG u_0) c_i)) <| o_g (g_fi rfl rfl rfl (fun hG => Zbc rfl rfl (Opd.gd hG u_0) (fun hz => (Opd.gd (bA hG hz) u_1)))) <| o_g (g_t rfl rfl rfl (fun hG => Zbf rfl rfl (Opd.gd hG u_0) (fun hz => (Opd.gd (bA hG (bNF hz)) u_1)))) <| o_p rfl (Zbc rfl rfl u_0 (fun hz => (Opd.gd hz u_1))) <| o_p rfl (Zb rfl rfl u_0) <| o_n) (by kernel_rfl) (fun a g hst hb => ?_)
     refine wp_ret ?_
     obtain rfl := Option.some.inj H0
     exact Zz rfl hst hb (Zh (s := 4)) (hst.at 0 rfl)
 · refine wp_block ?_
   refine wp_loop_ghost (fun n a w => ∃ (x1 : Bool) (x2 : Bool) (x3 : Bool) (x4 : Bool) (x5 : Bool) (x6 : Int) (g : G), w = g.w ∧ St 106 [(1, (pStr a1)), (2, (Zg.ptr a0)), (5, (Z9 x1)), (6, (Z9 x2)), (7, (Z9 x3)), (8, (Z9 x4)), (9, (Z9 x5)), (10, (pInt .i64 x6))] a g ∧ Base g0 g ∧ Zcn a1 n x1 x2 x3 x4 x5 x6 = some z23) (Int.toNat ((a1.size : Int) - (0 : Int)) + 1) ⟨false, false, false, false, false, (0 : Int), g, rfl, (hst.pick [0, 1, 2, 3, 4, 5, 6, 7] rfl), hb, hz1⟩ (fun n a w hI => ?_)
   obtain ⟨x1, x2, x3, x4, x5, x6, g, rfl, hst, hb, H1⟩ := hI
   cases n with
   | zero => exact absurd H1 (by simp [Zcn])
   | succ n =>
     rw [Zcn] at H1
     refine wp_seq ?_
     refine r_s (T := [⟨[.old 7], _, [], [], [11]⟩, ⟨[.old 0], _, [], [], [12]⟩, ⟨[.op 1 0], _, [], [1], [13]⟩, ⟨[.op 0 0, .op 2 0], _, [], [0, 1, 2], [14]⟩]) (F := [.old 0, .old 1, .old 2, .old 3, .old 4, .old 5, .old 6, .old 7, .op 3 0]) hst hb Za
       (o_p rfl (Zc rfl rfl u_0) <| o_p rfl (Zc rfl rfl u_0) <| o_p rfl (Zem Tryd.underlying9 rfl rfl u_0) <| o_p rfl (Zb6 rfl rfl u_0 u_1) <| o_n) (by kernel_rfl) (fun a g hst hb => ?_)
     refine wp_cond_split (hst.bool 8 rfl) (fun hc7 => ?_) (fun hc7 => ?_)
     · replace H1 := Zp hc7 H1
       refine wp_skip ?_
       refine Zn ?_
       refine wp_seq ?_
       refine wp_block ?_
       obtain ⟨b8, h9, H1⟩ := Zj H1
       refine r_s (L := [(1, _), (2, _), (5, _), (6, _), (7, _), (8, _), (9, _), (10, _)]) (T := [⟨[.old 2], _, [], [], [17]⟩, ⟨[.op 0 0], _, [], [0], [18]⟩, ⟨[.op 1 0, .old 0], _, [], [0, 1], [19]⟩, ⟨[.op 1 0, .old 7], _, [], [0, 1], [20]⟩, ⟨[.op 1 0, .op 2 0, .op 3 0], _, [], Lr 4, [21]⟩, ⟨[.op 1 0, .op 4 0], _, [], Lr 5, [22]⟩, ⟨[.op 1 0, .op 5 0], _, [], Lr 6, [23]⟩, ⟨[.op 6 0], _, [], Lr 7, [5]⟩]) (F := [.old 0, .old 1, .op 7 0, .old 3, .old 4, .old 5, .old 6, .old 7]) (hst.pick [0, 1, 2, 3, 4, 5, 6, 7] rfl) hb Za
         (o_p rfl (Zc rfl rfl u_0) <| o_p rfl (Zc rfl rfl u_0) <| o_g (g_f rfl rfl rfl (fun hG => Zc rfl rfl u_0)) <| o_g (g_f rfl rfl rfl (fun hG => Zc rfl rfl u_0)) <| o_g (g_f rfl rfl rfl (fun hG => Zjp Tryd.underlying9 rfl rfl (Opd.gd hG u_0) (Opd.gd hG u_1) (Zbs h9 hG))) <| o_g (g_f rfl rfl rfl (fun hG => Z7 rfl rfl (Opd.gd hG u_0) c_i)) <| o_p rfl (Zbf rfl rfl u_0 (fun hz => (Opd.gd (bNF hz) u_1))) <| o_p rfl (Zb rfl rfl u_0) <| o_n) (by kernel_rfl) (fun a g hst hb => ?_)
       obtain ⟨b10, h11, H1⟩ := Zj H1
       refine r_s (T := [⟨[.old 3], _, [], [], [24]⟩, ⟨[.op 0 0], _, [], [0], [25]⟩, ⟨[.op 1 0, .old 0], _, [], [0, 1], [26]⟩, ⟨[.op 1 0, .old 7], _, [], [0, 1], [27]⟩, ⟨[.op 1 0, .op 2 0, .op 3 0], _, [], Lr 4, [28]⟩, ⟨[.op 1 0, .op 4 0], _, [], Lr 5, [29]⟩, ⟨[.op 1 0, .op 5 0], _, [], Lr 6, [30]⟩, ⟨[.op 6 0], _, [], Lr 7, [6]⟩]) (F := [.old 0, .old 1, .old 2, .op 7 0, .old 4, .old 5, .old 6, .old 7]) hst hb Za
         (o_p rfl (Zc rfl rfl u_0) <| o_p rfl (Zc rfl rfl u_0) <| o_g (g_f rfl rfl rfl (fun hG => Zc rfl rfl u_0)) <| o_g (g_f rfl rfl rfl (fun hG => Zc rfl rfl u_0)) <| o_g (g_f rfl rfl rfl (fun hG => Zjp Tryd.underlying9 rfl rfl (Opd.gd hG u_0) (Opd.gd hG u_1) (Zbs h11 hG))) <| o_g (g_f rfl rfl rfl (fun hG => Z7 rfl rfl (Opd.gd hG u_0) c_i)) <| o_p rfl (Zbf rfl rfl u_0 (fun hz => (Opd.gd (bNF hz) u_1))) <| o_p rfl (Zb rfl rfl u_0) <| o_n) (by kernel_rfl) (fun a g hst hb => ?_)
       obtain ⟨b12, h13, H1⟩ := Zj H1
       refine r_s (T := [⟨[.old 4], _, [], [], [31]⟩, ⟨[.op 0 0], _, [], [0], [32]⟩, ⟨[.op 1 0, .old 0], _, [], [0, 1], [33]⟩, ⟨[.op 1 0, .old 7], _, [], [0, 1], [34]⟩, ⟨[.op 1 0, .op 2 0, .op 3 0], _, [], Lr 4, [35]⟩, ⟨[.op 1 0, .op 4 0], _, [], Lr 5, [36]⟩, ⟨[.op 1 0, .op 5 0], _, [], Lr 6, [37]⟩, ⟨[.op 6 0], _, [], Lr 7, [7]⟩]) (F := [.old 0, .old 1, .old 2, .old 3, .op 7 0, .old 5, .old 6, .old 7]) hst hb Za
         (o_p rfl (Zc rfl rfl u_0) <| o_p rfl (Zc rfl rfl u_0) <| o_g (g_f rfl rfl rfl (fun hG => Zc rfl rfl u_0)) <| o_g (g_f rfl rfl rfl (fun hG => Zc rfl rfl u_0)) <| o_g (g_f rfl rfl rfl (fun hG => Zjp Tryd.underlying9 rfl rfl (Opd.gd hG u_0) (Opd.gd hG u_1) (Zbs h13 hG))) <| o_g (g_f rfl rfl rfl (fun hG => Z7 rfl rfl (Opd.gd hG u_0) c_i)) <| o_p rfl (Zbf rfl rfl u_0 (fun hz => (Opd.gd (bNF hz) u_1))) <| o_p rfl (Zb rfl rfl u_0) <| o_n) (by kernel_rfl) (fun a g hst hb => ?_)
       obtain ⟨b14, h15, H1⟩ := Zj H1
       refine r_s (T := [⟨[.old 5], _, [], [], [38]⟩, ⟨[.op 0 0], _, [], [0], [39]⟩, ⟨[.op 1 0, .old 0], _, [], [0, 1], [40]⟩, ⟨[.op 1 0, .old 7], _, [], [0, 1], [41]⟩, ⟨[.op 1 0, .op 2 0, .op 3 0], _, [], Lr 4, [42]⟩, ⟨[.op 1 0, .op 4 0], _, [], Lr 5, [43]⟩, ⟨[.op 1 0, .op 5 0], _, [], Lr 6, [44]⟩, ⟨[.op 6 0], _, [], Lr 7, [8]⟩]) (F := [.old 0, .old 1, .old 2, .old 3, .old 4, .op 7 0, .old 6, .old 7]) hst hb Za
         (o_p rfl (Zc rfl rfl u_0) <| o_p rfl (Zc rfl rfl u_0) <| o_g (g_f rfl rfl rfl (fun hG => Zc rfl rfl u_0)) <| o_g (g_f rfl rfl rfl (fun hG => Zc rfl rfl u_0)) <| o_g (g_f rfl rfl rfl (fun hG => Zjp Tryd.underlying9 rfl rfl (Opd.gd hG u_0) (Opd.gd hG u_1) (Zbs h15 hG))) <| o_g (g_f rfl rfl rfl (fun hG => Z7 rfl rfl (Opd.gd hG u_0) c_i)) <| o_p rfl (Zbf rfl rfl u_0 (fun hz => (Opd.gd (bNF hz) u_1))) <| o_p rfl (Zb rfl rfl u_0) <| o_n) (by kernel_rfl) (fun a g hst hb => ?_)
       obtain ⟨b16, h17, H1⟩ := Zj H1
       refine r_g (T := [⟨[.old 6], _, [], [], [45]⟩, ⟨[.op 0 0], _, [], [0], [46]⟩, ⟨[.op 1 0, .old 0], _, [], [0, 1], [47]⟩, ⟨[.op 1 0, .old 7], _, [], [0, 1], [48]⟩, ⟨[.op 1 0, .op 2 0, .op 3 0], _, [], Lr 4, [49]⟩, ⟨[.op 1 0, .op 4 0], _, [], Lr 5, [50]⟩, ⟨[.op 1 0, .op 5 0], _, [], Lr 6, [51]⟩, ⟨[.op 6 0], _, [], Lr 7, [9]⟩]) (F := [.old 0, .old 1, .old 2, .old 3, .old 4, .old 5, .op 7 0, .old 7]) hst hb Za
         (o_p rfl (Zc rfl rfl u_0) <| o_p rfl (Zc rfl rfl u_0) <| o_g (g_f rfl rfl rfl (fun hG => Zc rfl rfl u_0)) <| o_g (g_f rfl rfl rfl (fun hG => Zc rfl rfl u_0)) <| o_g (g_f rfl rfl rfl (fun hG => Zjp Tryd.underlying9 rfl rfl (Opd.gd hG u_0) (Opd.gd hG u_1) (Zbs h17 hG))) <| o_g (g_f rfl rfl rfl (fun hG => Z7 rfl rfl (Opd.gd hG u_0) c_i)) <| o_p rfl (Zbf rfl rfl u_0 (fun hz => (Opd.gd (bNF hz) u_1))) <| o_p rfl (Zb rfl rfl u_0) <| o_n) (by kernel_rfl) (fun a g hst hb => ?_)
       refine Zbg ?_
       refine Zn ?_
       refine r_g (T := [⟨[.old 7], _, [], [], [15]⟩, ⟨[.op 0 0], _, [], [0], [16]⟩, ⟨[.op 1 0], _, [], [0, 1], [10]⟩]) (F := [.old 0, .old 1, .old 2, .old 3, .old 4, .old 5, .old 6, .op 2 0]) hst hb Za
         (o_p rfl (Zc rfl rfl u_0) <| o_p rfl (Zck rfl rfl u_0 c_i rfl) <| o_p rfl (Zb rfl rfl u_0) <| o_n) (by kernel_rfl) (fun a g hst hb => ?_)
       exact ⟨n, Nat.lt_succ_self _, (x1 || (b8 == (116 : Int))), (x2 || (b10 == (110 : Int))), (x3 || (b12 == (98 : Int))), (x4 || (b14 == (114 : Int))), (x5 || (b16 == (108 : Int))), (IntKind.i64.wrap (x6 + (1 : Int))), g, rfl, (hst.pick [0, 1, 2, 3, 4, 5, 6, 7] rfl), hb, H1⟩
     · replace H1 := Zq hc7 H1
       refine wp_exit ?_
       refine Zb9 ?_
       refine Zb9 ?_
       refine Zcy ?_
       exact ⟨x1, x2, x3, x4, x5, g, rfl, (hst.pick [1, 2, 3, 4, 5, 6] rfl), hb, Option.some.inj H1⟩
theorem Zlx (a0 : Int) {r : ByteArray} (h : Zgo a0 = some r) : FnOk Tryd.prog 45 [(pInt .i64 a0)] (pStr r) := by
 have H0 := h
 unfold Zgo at H0
 clear h
 refine Zbt (N := 15) Tryd.func45 rfl rfl (Nat.le_of_ble_eq_true rfl) rfl rfl (fun a g0 hst hb => ?_)
 refine r_s (T := [⟨[], _, [], [], [2]⟩]) (F := [.old 0]) hst hb Za
   (o_p rfl (Zb rfl rfl c_s) <| o_n) (by kernel_rfl) (fun a g hst hb => ?_)
 refine r_s (T := [⟨[], _, [], [], [4]⟩, ⟨[.op 0 0], _, [], [0], [3]⟩]) (F := [.old 0, .op 1 0]) hst hb Za
   (o_p rfl (Zh8 Zvi (xs := [.const (.string ⟨#[]⟩), .const (.string ⟨#[116]⟩), .const (.string ⟨#[110]⟩), .const (.string ⟨#[110]⟩), .const (.string ⟨#[110, 98]⟩), .const (.string ⟨#[114]⟩), .const (.string ⟨#[114]⟩), .const (.string ⟨#[114]⟩), .const (.string ⟨#[108]⟩), .const (.string ⟨#[108]⟩)]) (.cons c_s (.cons c_s (.cons c_s (.cons c_s (.cons c_s (.cons c_s (.cons c_s (.cons c_s (.cons c_s (.cons c_s .nil)))))))))) (by decide) rfl rfl) <| o_p rfl (Zb rfl rfl u_0) <| o_n) (by kernel_rfl) (fun a g hst hb => ?_)
 refine wp_seq ?_
 refine r_s (T := [⟨[.old 0], _, [], [], [5]⟩, ⟨[.op 0 0], _, [], [0], [6]⟩, ⟨[.op 1 0], _, [], [0, 1], [7]⟩, ⟨[.op 2 0, .old 0], _, [], [0, 1, 2], [8]⟩, ⟨[.op 2 0, .op 3 0], _, [], Lr 4, [9]⟩, ⟨[.op 2 0, .op 4 0], _, [], Lr 5, [10]⟩]) (F := [.old 0, .old 1, .op 5 0]) hst hb Za
   (o_p rfl (Zc rfl rfl u_0) <| o_p rfl (Zb6 rfl rfl u_0 c_i) <| o_p rfl (Zc rfl rfl u_0) <| o_g (g_f rfl rfl rfl (fun hG => Zc rfl rfl u_0)) <| o_g (g_f rfl rfl rfl (fun hG => Zci rfl rfl (Opd.gd hG u_0) c_i)) <| o_p rfl (Zbf rfl rfl u_0 (fun hz => (Opd.gd (bNF hz) u_1))) <| o_n) (by kernel_rfl) (fun a g hst hb => ?_)
 refine wp_cond_split (hst.bool 2 rfl) (fun hc1 => ?_) (fun hc1 => ?_)
 · replace H0 := Zp hc1 H0
   refine r_s (L := []) (T := [⟨[], _, [], [], [2]⟩]) (F := [.op 0 0]) (hst.pick [] rfl) hb Za
     (o_p rfl (Zb rfl rfl c_s) <| o_n) (by kernel_rfl) (fun a g hst hb => ?_)
   refine wp_ret ?_
   refine Zk ?_
   obtain rfl := Option.some.inj H0
   exact Zz rfl hst hb (Zh (s := 2)) (hst.at 0 rfl)
 · replace H0 := Zq hc1 H0
   refine wp_skip ?_
   refine Zn ?_
   obtain ⟨e2, h3, H0⟩ := Zj H0
   refine r_s (L := [(0, _), (3, _)]) (T := [⟨[.old 1], _, [], [], [11]⟩, ⟨[.old 0], _, [], [], [12]⟩, ⟨[.op 0 0, .op 1 0], _, [], [0, 1], [13]⟩, ⟨[.op 2 0], _, [], [0, 1, 2], [14]⟩, ⟨[.op 3 0], _, [], Lr 4, [2]⟩]) (F := [.op 4 0]) (hst.pick [0, 1] rfl) hb Za
     (o_p rfl (Zc rfl rfl u_0) <| o_p rfl (Zc rfl rfl u_0) <| o_p rfl (Zbm Tryd.underlying122 sz_9 rfl rfl u_0 u_1 h3) <| o_p rfl (Zf ty_9 rfl rfl u_0) <| o_p rfl (Zb rfl rfl u_0) <| o_n) (by kernel_rfl) (fun a g hst hb => ?_)
   refine wp_ret ?_
   obtain rfl := Option.some.inj H0
   exact Zz rfl hst hb (Zh (s := 2)) (hst.at 0 rfl)
theorem Zhg (a0 : Nat) {r : Bool} (h : Zd8 a0 = some r) : FnOk Tryd.prog 46 [(pFlt a0)] (Z9 r) := by
 have H0 := h
 unfold Zd8 at H0
 clear h
 refine Zbt (N := 11) Tryd.func46 rfl rfl (Nat.le_of_ble_eq_true rfl) rfl rfl (fun a g0 hst hb => ?_)
 refine r_s (T := [⟨[], _, [], [], [2]⟩]) (F := [.old 0]) hst hb Za
   (o_p rfl (Zb rfl rfl c_b) <| o_n) (by kernel_rfl) (fun a g hst hb => ?_)
 obtain ⟨r1, h2, H0⟩ := Zj H0
 refine r_s (T := [⟨[.old 0], _, [], [], [3]⟩, ⟨[.op 0 0], _, [], [0], [4]⟩, ⟨[.op 1 0], _, [], [0, 1], [5]⟩, ⟨[.op 2 0], _, [], [0, 1, 2], [6]⟩, ⟨[.op 3 0, .old 0], _, [], Lr 4, [7]⟩, ⟨[.op 3 0, .op 4 0], _, [], Lr 5, [8]⟩, ⟨[.op 3 0, .op 5 0], _, [], Lr 6, [9]⟩, ⟨[.op 3 0, .op 6 0], _, [], Lr 7, [10]⟩, ⟨[.op 7 0], _, [], Lr 8, [2]⟩]) (F := [.op 8 0]) hst hb Za
   (o_p rfl (Zc rfl rfl u_0) <| o_p rfl (Zu Zup (Zh0 _ h2) rfl rfl (.cons u_0 .nil)) <| o_p rfl (Zcf rfl rfl u_0) <| o_p rfl (Zc rfl rfl u_0) <| o_g (g_f rfl rfl rfl (fun hG => Zc rfl rfl u_0)) <| o_g (g_f rfl rfl rfl (fun hG => Zn4 Zrn rfl rfl (Opd.gd hG u_0))) <| o_g (g_f rfl rfl rfl (fun hG => Z7 rfl rfl (Opd.gd hG u_0) c_i)) <| o_p rfl (Zbf rfl rfl u_0 (fun hz => (Opd.gd (bNF hz) u_1))) <| o_p rfl (Zb rfl rfl u_0) <| o_n) (by kernel_rfl) (fun a g hst hb => ?_)
 refine wp_ret ?_
 obtain rfl := Option.some.inj H0
 exact Zz rfl hst hb (Zh (s := 2)) (hst.at 0 rfl)
theorem Zmw (a0 : Zm) (a1 : Zm) {r : Bool} (h : Zfy a0 a1 = some r) : FnOk Tryd.prog 74 [(Zt.pd a0), (Zt.pd a1)] (Z9 r) := by
 have H0 := h
 unfold Zfy at H0
 clear h
 refine Zbt (N := 22) Tryd.func74 rfl rfl (Nat.le_of_ble_eq_true rfl) rfl rfl (fun a g0 hst hb => ?_)
 refine r_s (T := [⟨[.old 0], _, [], [], [2]⟩, ⟨[.old 1], _, [], [], [3]⟩, ⟨[], _, [], [], [4]⟩]) (F := [.op 0 0, .op 1 0]) hst hb Za
   (o_p rfl (Zbq rfl rfl u_0) <| o_p rfl (Zbq rfl rfl u_0) <| o_p rfl (Zb rfl rfl c_b) <| o_n) (by kernel_rfl) (fun a g hst hb => ?_)
 refine wp_seq ?_
 obtain ⟨r1, h2, H0⟩ := Zj H0
 refine r_s (T := [⟨[.old 1], _, [], [], [5]⟩, ⟨[.op 0 0], _, [], [0], [6]⟩, ⟨[.old 0], _, [], [], [7]⟩, ⟨[.op 2 0], _, [], [2], [8]⟩, ⟨[.op 1 0, .op 3 0], _, [], Lr 4, [9]⟩]) (F := [.old 0, .old 1, .op 4 0]) hst hb Za
   (o_p rfl (Zd Zen rfl rfl u_0) <| o_p rfl (Zf Zc0 rfl rfl u_0) <| o_p rfl (Zd Zen rfl rfl u_0) <| o_p rfl (Zf Zc0 rfl rfl u_0) <| o_p rfl (Zu Zuz (Zhz _ _ h2) rfl rfl (.cons u_0 (.cons u_1 .nil))) <| o_n) (by kernel_rfl) (fun a g hst hb => ?_)
 refine wp_cond_split (hst.bool 2 rfl) (fun hc3 => ?_) (fun hc3 => ?_)
 · replace H0 := Zp hc3 H0
   refine r_s (L := []) (T := [⟨[], _, [], [], [4]⟩]) (F := [.op 0 0]) (hst.pick [] rfl) hb Za
     (o_p rfl (Zb rfl rfl c_b) <| o_n) (by kernel_rfl) (fun a g hst hb => ?_)
   refine wp_ret ?_
   refine Zk ?_
   obtain rfl := Option.some.inj H0
   exact Zz rfl hst hb (Zh (s := 4)) (hst.at 0 rfl)
 · replace H0 := Zq hc3 H0
   refine wp_skip ?_
   refine Zn ?_
   obtain ⟨r4, h5, H0⟩ := Zj H0
   refine r_s (L := [(2, _), (3, _)]) (T := ⟨[.old 0], _, [], [], [10]⟩ :: ⟨[.op 0 0], _, [], [0], [11]⟩ :: ⟨[.old 1], _, [], [], [12]⟩ :: ⟨[.op 2 0], _, [], [2], [13]⟩ :: ⟨[.op 1 0, .op 3 0], _, [], Lr 4, [14]⟩ :: ⟨[.op 4 0], _, [], Lr 5, [15]⟩ :: ⟨[.op 5 0, .old 0], _, [], Lr 6, [16]⟩ :: ⟨[.op 5 0, .op 6 0], _, [], Lr 7, [17]⟩ :: ⟨[.op 5 0, .old 1], _, [], Lr 6, [18]⟩ :: ⟨[.op 5 0, .op 8 0], _, [], [0, 1, 2, 3, 4, 5, 8], [19]⟩ :: ⟨[.op 5 0, .op 7 0, .op 9 0], _, [], Lr 10, [20]⟩ :: ⟨[.op 5 0, .op 10 0], _, [], Lr 11, [21]⟩ :: ⟨[.op 11 0], _, [], Lr 12, [4]⟩ :: []) (F := [.op 12 0]) (hst.pick [0, 1] rfl) hb Za
     (o_p rfl (Zd Zen rfl rfl u_0) <| o_p rfl (Zf Zc0 rfl rfl u_0) <| o_p rfl (Zd Zen rfl rfl u_0) <| o_p rfl (Zf Zc0 rfl rfl u_0) <| o_p rfl (Zu Zpi (Ze6 _ _ h5) rfl rfl (.cons u_0 (.cons u_1 .nil))) <| o_p rfl (Zc rfl rfl u_0) <| o_g (g_t rfl rfl rfl (fun hG => Zd Zd3 rfl rfl u_0)) <| o_g (g_t rfl rfl rfl (fun hG => Zf ty_9 rfl rfl (Opd.gd hG u_0))) <| o_g (g_t rfl rfl rfl (fun hG => Zd Zd3 rfl rfl u_0)) <| o_g (g_t rfl rfl rfl (fun hG => Zf ty_9 rfl rfl (Opd.gd hG u_0))) <| o_g (g_t rfl rfl rfl (fun hG => Zpj rfl rfl (Opd.gd hG u_0) (Opd.gd hG u_1))) <| o_p rfl (Zbc rfl rfl u_0 (fun hz => (Opd.gd hz u_1))) <| o_p rfl (Zb rfl rfl u_0) <| o_n) (by kernel_rfl) (fun a g hst hb => ?_)
   refine wp_ret ?_
   obtain rfl := Option.some.inj H0
   exact Zz rfl hst hb (Zh (s := 4)) (hst.at 0 rfl)
theorem Zm2 (a0 : Int) (a1 : List Zm) (a2 : Int) {r : Int} (h : Zgb a0 a1 a2 = some r) : FnOk Tryd.prog 47 [(pInt .i64 a0), (Zt.sl.pd a1), (pInt .i64 a2)] (pInt .i64 r) := by
 have H0 := h
 unfold Zgb at H0
 clear h
 refine Zbt (N := 64) Tryd.func47 rfl rfl (Nat.le_of_ble_eq_true rfl) rfl rfl (fun a g0 hst hb => ?_)
 refine r_s (T := [⟨[], _, [], [], [6]⟩]) (F := [.old 0, .old 1, .old 2]) hst hb Za
   (o_p rfl (Zb rfl rfl c_i) <| o_n) (by kernel_rfl) (fun a g hst hb => ?_)
 obtain ⟨e1, h2, H0⟩ := Zj H0
 refine r_s (T := [⟨[.old 1], _, [], [], [8]⟩, ⟨[.old 2], _, [], [], [9]⟩, ⟨[.op 0 0, .op 1 0], _, [], [0, 1], [10]⟩, ⟨[.op 2 0], _, [], [0, 1, 2], [11]⟩, ⟨[], [(7, (pBox Zt 7 (default : Zm)))], [8], [], [7]⟩, ⟨[.op 3 0, .op 4 0], _, [8], Lr 5, [7]⟩]) (F := [.old 0, .old 1, .old 2, .op 5 0]) hst hb Za
   (o_p rfl (Zc rfl rfl u_0) <| o_p rfl (Zc rfl rfl u_0) <| o_p rfl (Zbm Tryd.underlying23 Zff rfl rfl u_0 u_1 h2) <| o_p rfl (Zf Zd4 rfl rfl u_0) <| o_p rfl (Zbu (zs := [.float .f64 0, .string ByteArray.empty]) (by kernel_rfl) (fun g => Zf3 g) rfl rfl) <| o_p rfl (Zct Zd4 rfl rfl u_1 u_0) <| o_n) (by kernel_rfl) (fun a g hst hb => ?_)
 refine wp_seq ?_
 refine r_s (T := [⟨[.old 3], _, [], [], [12]⟩, ⟨[.op 0 0], _, [], [0], [13]⟩, ⟨[.op 1 0], _, [], [0, 1], [14]⟩, ⟨[.op 2 0], _, [], [0, 1, 2], [15]⟩]) (F := [.old 0, .old 1, .old 2, .old 3, .op 3 0]) hst hb Za
   (o_p rfl (Zd Zd3 rfl rfl u_0) <| o_p rfl (Zf ty_9 rfl rfl u_0) <| o_p rfl (Zem Tryd.underlying9 rfl rfl u_0) <| o_p rfl (Zci rfl rfl u_0 c_i) <| o_n) (by kernel_rfl) (fun a g hst hb => ?_)
 refine wp_cond_split (hst.bool 4 rfl) (fun hc3 => ?_) (fun hc3 => ?_)
 · replace H0 := Zp hc3 H0
   refine r_s (L := []) (T := [⟨[], _, [], [], [6]⟩]) (F := [.op 0 0]) (hst.pick [] rfl) hb Za
     (o_p rfl (Zb rfl rfl c_i) <| o_n) (by kernel_rfl) (fun a g hst hb => ?_)
   refine wp_ret ?_
   refine Zk ?_
   obtain rfl := Option.some.inj H0
   exact Zz rfl hst hb (Zh (s := 6)) (hst.at 0 rfl)
 · replace H0 := Zq hc3 H0
   refine wp_skip ?_
   refine Zn ?_
   refine wp_seq ?_
   obtain ⟨r4, h5, H0⟩ := Zj H0; obtain ⟨r6, h7, H0⟩ := Zj H0
   refine r_s (L := [(0, _), (1, _), (2, _), (7, _)]) (T := ⟨[.old 0], _, [], [], [16]⟩ :: ⟨[.op 0 0], _, [], [0], [17]⟩ :: ⟨[.op 1 0], _, [], [0, 1], [18]⟩ :: ⟨[.op 2 0, .old 3], _, [], [0, 1, 2], [19]⟩ :: ⟨[.op 2 0, .op 3 0], _, [], Lr 4, [20]⟩ :: ⟨[.op 2 0, .op 4 0], _, [], Lr 5, [21]⟩ :: ⟨[.op 2 0, .op 5 0], _, [], Lr 6, [22]⟩ :: ⟨[.op 2 0, .op 6 0], _, [], Lr 7, [23]⟩ :: ⟨[.op 7 0], _, [], Lr 8, [24]⟩ :: ⟨[.op 8 0, .old 3], _, [], Lr 9, [25]⟩ :: ⟨[.op 8 0, .op 9 0], _, [], Lr 10, [26]⟩ :: ⟨[.op 8 0, .op 10 0], _, [], Lr 11, [27]⟩ :: ⟨[.op 8 0, .op 11 0], _, [], Lr 12, [28]⟩ :: ⟨[.op 8 0, .op 12 0], _, [], Lr 13, [29]⟩ :: []) (F := [.old 0, .old 1, .old 2, .old 3, .op 13 0]) (hst.pick [0, 1, 2, 3] rfl) hb Za
     (o_p rfl (Zc rfl rfl u_0) <| o_p rfl (Z7 rfl rfl u_0 c_i) <| o_p rfl (Zc rfl rfl u_0) <| o_g (g_t rfl rfl rfl (fun hG => Zd Zen rfl rfl u_0)) <| o_g (g_t rfl rfl rfl (fun hG => Zf Zc0 rfl rfl (Opd.gd hG u_0))) <| o_g (g_t rfl rfl rfl (fun hG => Zu Zyl (Zjc _ (Zbs h5 hG)) rfl rfl (.cons (Opd.gd hG u_0) .nil))) <| o_g (g_t rfl rfl rfl (fun hG => Zcf rfl rfl (Opd.gd hG u_0))) <| o_p rfl (Zbc rfl rfl u_0 (fun hz => (Opd.gd hz u_1))) <| o_p rfl (Zc rfl rfl u_0) <| o_g (g_f rfl rfl rfl (fun hG => Zd Zen rfl rfl u_0)) <| o_g (g_f rfl rfl rfl (fun hG => Zf Zc0 rfl rfl (Opd.gd hG u_0))) <| o_g (g_f rfl rfl rfl (fun hG => Zu Zu1 (Zhg _ (Zbs h7 hG)) rfl rfl (.cons (Opd.gd hG u_0) .nil))) <| o_g (g_f rfl rfl rfl (fun hG => Zcf rfl rfl (Opd.gd hG u_0))) <| o_p rfl (Zbf rfl rfl u_0 (fun hz => (Opd.gd (bNF hz) u_1))) <| o_n) (by kernel_rfl) (fun a g hst hb => ?_)
   refine wp_cond_split (hst.bool 4 rfl) (fun hc8 => ?_) (fun hc8 => ?_)
   · replace H0 := Zp hc8 H0
     refine r_s (L := []) (T := [⟨[], _, [], [], [6]⟩]) (F := [.op 0 0]) (hst.pick [] rfl) hb Za
       (o_p rfl (Zb rfl rfl c_i) <| o_n) (by kernel_rfl) (fun a g hst hb => ?_)
     refine wp_ret ?_
     refine Zk ?_
     obtain rfl := Option.some.inj H0
     exact Zz rfl hst hb (Zh (s := 6)) (hst.at 0 rfl)
   · replace H0 := Zq hc8 H0
     refine wp_skip ?_
     refine Zn ?_
     refine wp_seq ?_
     obtain ⟨e9, h10, H0⟩ := Zj H0
     refine r_s (L := [(0, _), (1, _), (2, _), (7, _)]) (T := ⟨[.old 2], _, [], [], [30]⟩ :: ⟨[.op 0 0], _, [], [0], [31]⟩ :: ⟨[.op 1 0], _, [], [0, 1], [32]⟩ :: ⟨[.op 2 0, .old 0], _, [], [0, 1, 2], [33]⟩ :: ⟨[.op 2 0, .op 3 0], _, [], Lr 4, [34]⟩ :: ⟨[.op 2 0, .op 4 0], _, [], Lr 5, [35]⟩ :: ⟨[.op 5 0], _, [], Lr 6, [36]⟩ :: ⟨[.op 6 0, .old 1], _, [], Lr 7, [37]⟩ :: ⟨[.op 6 0, .old 2], _, [], Lr 7, [38]⟩ :: ⟨[.op 6 0, .op 8 0], _, [], [0, 1, 2, 3, 4, 5, 6, 8], [39]⟩ :: ⟨[.op 6 0, .op 7 0, .op 9 0], _, [], Lr 10, [40]⟩ :: ⟨[.op 6 0, .op 10 0], _, [], Lr 11, [41]⟩ :: ⟨[.op 6 0, .op 11 0], _, [], Lr 12, [42]⟩ :: ⟨[.op 6 0, .old 3], _, [], Lr 7, [43]⟩ :: ⟨[.op 6 0, .op 13 0], _, [], [0, 1, 2, 3, 4, 5, 6, 13], [44]⟩ :: ⟨[.op 6 0, .op 12 0, .op 14 0], _, [], Lr 15, [45]⟩ :: ⟨[.op 6 0, .op 15 0], _, [], Lr 16, [46]⟩ :: ⟨[.op 6 0, .op 16 0], _, [], Lr 17, [47]⟩ :: []) (F := [.old 0, .old 1, .old 2, .old 3, .op 17 0]) (hst.pick [0, 1, 2, 3] rfl) hb Za
       (o_p rfl (Zc rfl rfl u_0) <| o_p rfl (Zci rfl rfl u_0 c_i) <| o_p rfl (Zc rfl rfl u_0) <| o_g (g_t rfl rfl rfl (fun hG => Zc rfl rfl u_0)) <| o_g (g_t rfl rfl rfl (fun hG => Z7 rfl rfl (Opd.gd hG u_0) c_i)) <| o_p rfl (Zbc rfl rfl u_0 (fun hz => (Opd.gd hz u_1))) <| o_p rfl (Zc rfl rfl u_0) <| o_g (g_t rfl rfl rfl (fun hG => Zc rfl rfl u_0)) <| o_g (g_t rfl rfl rfl (fun hG => Zc rfl rfl u_0)) <| o_g (g_t rfl rfl rfl (fun hG => Zdt rfl rfl (Opd.gd hG u_0) c_i rfl)) <| o_g (g_t rfl rfl rfl (fun hG => Zbm Tryd.underlying23 Zff rfl rfl (Opd.gd hG u_0) (Opd.gd hG u_1) (Zbs h10 hG))) <| o_g (g_t rfl rfl rfl (fun hG => Zd Zd3 rfl rfl (Opd.gd hG u_0))) <| o_g (g_t rfl rfl rfl (fun hG => Zf ty_9 rfl rfl (Opd.gd hG u_0))) <| o_g (g_t rfl rfl rfl (fun hG => Zd Zd3 rfl rfl u_0)) <| o_g (g_t rfl rfl rfl (fun hG => Zf ty_9 rfl rfl (Opd.gd hG u_0))) <| o_g (g_t rfl rfl rfl (fun hG => Zpj rfl rfl (Opd.gd hG u_0) (Opd.gd hG u_1))) <| o_g (g_t rfl rfl rfl (fun hG => Zcf rfl rfl (Opd.gd hG u_0))) <| o_p rfl (Zbc rfl rfl u_0 (fun hz => (Opd.gd hz u_1))) <| o_n) (by kernel_rfl) (fun a g hst hb => ?_)
     refine wp_cond_split (hst.bool 4 rfl) (fun hc11 => ?_) (fun hc11 => ?_)
     · replace H0 := Zp hc11 H0
       refine r_s (L := []) (T := [⟨[], _, [], [], [6]⟩]) (F := [.op 0 0]) (hst.pick [] rfl) hb Za
         (o_p rfl (Zb rfl rfl c_i) <| o_n) (by kernel_rfl) (fun a g hst hb => ?_)
       refine wp_ret ?_
       refine Zk ?_
       obtain rfl := Option.some.inj H0
       exact Zz rfl hst hb (Zh (s := 6)) (hst.at 0 rfl)
     · replace H0 := Zq hc11 H0
       refine wp_skip ?_
       refine Zn ?_
       refine wp_seq ?_
       obtain ⟨e12, h13, H0⟩ := Zj H0; obtain ⟨r14, h15, H0⟩ := Zj H0
       refine r_s (L := [(0, _), (1, _), (2, _), (7, _)]) (T := ⟨[.old 2], _, [], [], [48]⟩ :: ⟨[.op 0 0], _, [], [0], [49]⟩ :: ⟨[.op 1 0], _, [], [0, 1], [50]⟩ :: ⟨[.op 2 0, .old 0], _, [], [0, 1, 2], [51]⟩ :: ⟨[.op 2 0, .op 3 0], _, [], Lr 4, [52]⟩ :: ⟨[.op 2 0, .op 4 0], _, [], Lr 5, [53]⟩ :: ⟨[.op 5 0], _, [], Lr 6, [54]⟩ :: ⟨[.op 6 0, .old 1], _, [], Lr 7, [55]⟩ :: ⟨[.op 6 0, .old 2], _, [], Lr 7, [56]⟩ :: ⟨[.op 6 0, .op 8 0], _, [], [0, 1, 2, 3, 4, 5, 6, 8], [57]⟩ :: ⟨[.op 6 0, .op 7 0, .op 9 0], _, [], Lr 10, [58]⟩ :: ⟨[.op 6 0, .op 10 0], _, [], Lr 11, [59]⟩ :: ⟨[.op 6 0, .old 3], _, [], Lr 7, [60]⟩ :: ⟨[.op 6 0, .op 11 0, .op 12 0], _, [], Lr 13, [61]⟩ :: ⟨[.op 6 0, .op 13 0], _, [], Lr 14, [62]⟩ :: ⟨[.op 6 0, .op 14 0], _, [], Lr 15, [63]⟩ :: []) (F := [.op 15 0]) (hst.pick [0, 1, 2, 3] rfl) hb Za
         (o_p rfl (Zc rfl rfl u_0) <| o_p rfl (Zci rfl rfl u_0 c_i) <| o_p rfl (Zc rfl rfl u_0) <| o_g (g_t rfl rfl rfl (fun hG => Zc rfl rfl u_0)) <| o_g (g_t rfl rfl rfl (fun hG => Z7 rfl rfl (Opd.gd hG u_0) c_i)) <| o_p rfl (Zbc rfl rfl u_0 (fun hz => (Opd.gd hz u_1))) <| o_p rfl (Zc rfl rfl u_0) <| o_g (g_t rfl rfl rfl (fun hG => Zc rfl rfl u_0)) <| o_g (g_t rfl rfl rfl (fun hG => Zc rfl rfl u_0)) <| o_g (g_t rfl rfl rfl (fun hG => Zdt rfl rfl (Opd.gd hG u_0) c_i rfl)) <| o_g (g_t rfl rfl rfl (fun hG => Zbm Tryd.underlying23 Zff rfl rfl (Opd.gd hG u_0) (Opd.gd hG u_1) (Zbs h13 hG))) <| o_g (g_t rfl rfl rfl (fun hG => Zf Zd4 rfl rfl (Opd.gd hG u_0))) <| o_g (g_t rfl rfl rfl (fun hG => Zf Zd4 rfl rfl u_0)) <| o_g (g_t rfl rfl rfl (fun hG => Zu Z1y (Zmw _ _ (Zbs h15 hG)) rfl rfl (.cons (Opd.gd hG u_0) (.cons (Opd.gd hG u_1) .nil)))) <| o_g (g_t rfl rfl rfl (fun hG => Zcf rfl rfl (Opd.gd hG u_0))) <| o_p rfl (Zbc rfl rfl u_0 (fun hz => (Opd.gd hz u_1))) <| o_n) (by kernel_rfl) (fun a g hst hb => ?_)
       refine wp_cond_split (hst.bool 0 rfl) (fun hc16 => ?_) (fun hc16 => ?_)
       · replace H0 := Zp hc16 H0
         refine r_s (L := []) (T := [⟨[], _, [], [], [6]⟩]) (F := [.op 0 0]) (hst.pick [] rfl) hb Za
           (o_p rfl (Zb rfl rfl c_i) <| o_n) (by kernel_rfl) (fun a g hst hb => ?_)
         refine wp_ret ?_
         refine Zk ?_
         obtain rfl := Option.some.inj H0
         exact Zz rfl hst hb (Zh (s := 6)) (hst.at 0 rfl)
       · replace H0 := Zq hc16 H0
         refine wp_skip ?_
         refine Zn ?_
         refine r_s (L := []) (T := [⟨[], _, [], [], [6]⟩]) (F := [.op 0 0]) (hst.pick [] rfl) hb Za
           (o_p rfl (Zb rfl rfl c_i) <| o_n) (by kernel_rfl) (fun a g hst hb => ?_)
         refine wp_ret ?_
         obtain rfl := Option.some.inj H0
         exact Zz rfl hst hb (Zh (s := 6)) (hst.at 0 rfl)
theorem Zhi (a0 : Ze) {r : Int} (h : Zc2 a0 = some r) : FnOk Tryd.prog 19 [(Zg.pd a0)] (pInt .i64 r) := by
 have H0 := h
 unfold Zc2 at H0
 clear h
 refine Zbt (N := 96) Tryd.func19 rfl rfl (Nat.le_of_ble_eq_true rfl) rfl rfl (fun a g0 hst hb => ?_)
 refine r_s (T := [⟨[.old 0], _, [], [], [1]⟩, ⟨[], _, [], [], [2]⟩]) (F := [.op 0 0]) hst hb Za
   (o_p rfl (Zbq rfl rfl u_0) <| o_p rfl (Zb rfl rfl c_i) <| o_n) (by kernel_rfl) (fun a g hst hb => ?_)
 refine wp_seq ?_
 refine r_s (T := [⟨[.old 0], _, [], [], [6]⟩, ⟨[.op 0 0], _, [], [0], [7]⟩, ⟨[.op 1 0], _, [], [0, 1], [8]⟩, ⟨[.op 2 0], _, [], [0, 1, 2], [9]⟩, ⟨[.op 3 0, .old 0], _, [], Lr 4, [10]⟩, ⟨[.op 3 0, .op 4 0], _, [], Lr 5, [11]⟩, ⟨[.op 3 0, .op 5 0], _, [], Lr 6, [12]⟩, ⟨[.op 3 0, .op 6 0], _, [], Lr 7, [13]⟩]) (F := [.old 0, .op 7 0]) hst hb Za
   (o_p rfl (Zd Zc9 rfl rfl u_0) <| o_p rfl (Zf ty_3 rfl rfl u_0) <| o_p rfl (Zb6 rfl rfl u_0 c_i) <| o_p rfl (Zc rfl rfl u_0) <| o_g (g_f rfl rfl rfl (fun hG => Zd Zc9 rfl rfl u_0)) <| o_g (g_f rfl rfl rfl (fun hG => Zf ty_3 rfl rfl (Opd.gd hG u_0))) <| o_g (g_f rfl rfl rfl (fun hG => Zci rfl rfl (Opd.gd hG u_0) c_i)) <| o_p rfl (Zbf rfl rfl u_0 (fun hz => (Opd.gd (bNF hz) u_1))) <| o_n) (by kernel_rfl) (fun a g hst hb => ?_)
 refine wp_cond_split (hst.bool 1 rfl) (fun hc1 => ?_) (fun hc1 => ?_)
 · replace H0 := Zp hc1 H0
   refine r_s (L := []) (T := [⟨[], _, [], [], [2]⟩]) (F := [.op 0 0]) (hst.pick [] rfl) hb Za
     (o_p rfl (Zb rfl rfl c_i) <| o_n) (by kernel_rfl) (fun a g hst hb => ?_)
   refine wp_ret ?_
   refine Zk ?_
   obtain rfl := Option.some.inj H0
   exact Zz rfl hst hb (Zh (s := 2)) (hst.at 0 rfl)
 · replace H0 := Zq hc1 H0
   refine wp_skip ?_
   refine Zn ?_
   refine wp_seq ?_
   obtain ⟨r2, h3, H0⟩ := Zj H0; obtain ⟨r4, h5, H0⟩ := Zj H0
   refine r_s (L := [(1, _)]) (T := [⟨[.old 0], _, [], [], [14]⟩, ⟨[.old 0], _, [], [], [15]⟩, ⟨[.op 1 0], _, [], [1], [16]⟩, ⟨[.op 2 0], _, [], [1, 2], [17]⟩, ⟨[.op 0 0, .op 3 0], _, [], Lr 4, [18]⟩, ⟨[.op 4 0], _, [], Lr 5, [19]⟩]) (F := [.old 0, .op 5 0]) (hst.pick [0] rfl) hb Za
     (o_p rfl (Zf Z8 rfl rfl u_0) <| o_p rfl (Zd Zc9 rfl rfl u_0) <| o_p rfl (Zf ty_3 rfl rfl u_0) <| o_p rfl (Zu Z1v (Zlx _ h3) rfl rfl (.cons u_0 .nil)) <| o_p rfl (Zu Z1o (Zm1 _ _ h5) rfl rfl (.cons u_0 (.cons u_1 .nil))) <| o_p rfl (Zcf rfl rfl u_0) <| o_n) (by kernel_rfl) (fun a g hst hb => ?_)
   refine wp_cond_split (hst.bool 1 rfl) (fun hc6 => ?_) (fun hc6 => ?_)
   · replace H0 := Zp hc6 H0
     refine r_s (L := []) (T := [⟨[], _, [], [], [2]⟩]) (F := [.op 0 0]) (hst.pick [] rfl) hb Za
       (o_p rfl (Zb rfl rfl c_i) <| o_n) (by kernel_rfl) (fun a g hst hb => ?_)
     refine wp_ret ?_
     refine Zk ?_
     obtain rfl := Option.some.inj H0
     exact Zz rfl hst hb (Zh (s := 2)) (hst.at 0 rfl)
   · replace H0 := Zq hc6 H0
     refine wp_skip ?_
     refine Zn ?_
     refine wp_seq ?_
     refine r_s (L := [(1, _)]) (T := [⟨[.old 0], _, [], [], [20]⟩, ⟨[.op 0 0], _, [], [0], [21]⟩, ⟨[.op 1 0], _, [], [0, 1], [22]⟩, ⟨[.op 2 0], _, [], [0, 1, 2], [23]⟩, ⟨[.op 3 0, .old 0], _, [], Lr 4, [24]⟩, ⟨[.op 3 0, .op 4 0], _, [], Lr 5, [25]⟩, ⟨[.op 3 0, .op 5 0], _, [], Lr 6, [26]⟩, ⟨[.op 3 0, .op 6 0], _, [], Lr 7, [27]⟩, ⟨[.op 3 0, .op 7 0], _, [], Lr 8, [28]⟩]) (F := [.old 0, .op 8 0]) (hst.pick [0] rfl) hb Za
       (o_p rfl (Zd Zc9 rfl rfl u_0) <| o_p rfl (Zf ty_3 rfl rfl u_0) <| o_p rfl (Z7 rfl rfl u_0 c_i) <| o_p rfl (Zc rfl rfl u_0) <| o_g (g_t rfl rfl rfl (fun hG => Zd Zhb rfl rfl u_0)) <| o_g (g_t rfl rfl rfl (fun hG => Zf ty_9 rfl rfl (Opd.gd hG u_0))) <| o_g (g_t rfl rfl rfl (fun hG => Zem Tryd.underlying9 rfl rfl (Opd.gd hG u_0))) <| o_g (g_t rfl rfl rfl (fun hG => Zci rfl rfl (Opd.gd hG u_0) c_i)) <| o_p rfl (Zbc rfl rfl u_0 (fun hz => (Opd.gd hz u_1))) <| o_n) (by kernel_rfl) (fun a g hst hb => ?_)
     refine wp_cond_split (hst.bool 1 rfl) (fun hc7 => ?_) (fun hc7 => ?_)
     · replace H0 := Zp hc7 H0
       refine r_s (L := []) (T := [⟨[], _, [], [], [2]⟩]) (F := [.op 0 0]) (hst.pick [] rfl) hb Za
         (o_p rfl (Zb rfl rfl c_i) <| o_n) (by kernel_rfl) (fun a g hst hb => ?_)
       refine wp_ret ?_
       refine Zk ?_
       obtain rfl := Option.some.inj H0
       exact Zz rfl hst hb (Zh (s := 2)) (hst.at 0 rfl)
     · replace H0 := Zq hc7 H0
       refine wp_skip ?_
       refine Zn ?_
       refine r_s (L := [(1, _)]) (T := [⟨[], _, [], [], [3]⟩]) (F := [.old 0, .op 0 0]) (hst.pick [0] rfl) hb Za
         (o_p rfl (Zb rfl rfl c_i) <| o_n) (by kernel_rfl) (fun a g hst hb => ?_)
       refine wp_seq ?_
       refine r_s (T := ⟨[.old 0], _, [], [], [29]⟩ :: ⟨[.op 0 0], _, [], [0], [30]⟩ :: ⟨[.op 1 0], _, [], [0, 1], [31]⟩ :: ⟨[.op 2 0], _, [], [0, 1, 2], [32]⟩ :: ⟨[.op 3 0, .old 0], _, [], Lr 4, [33]⟩ :: ⟨[.op 3 0, .op 4 0], _, [], Lr 5, [34]⟩ :: ⟨[.op 3 0, .old 1], _, [], Lr 4, [35]⟩ :: ⟨[.op 3 0, .op 6 0], _, [], [0, 1, 2, 3, 6], [36]⟩ :: ⟨[.op 3 0, .op 5 0, .op 7 0], _, [], Lr 8, [37]⟩ :: ⟨[.op 3 0, .op 8 0], _, [], Lr 9, [38]⟩ :: ⟨[.op 9 0, .old 0], _, [], Lr 10, [39]⟩ :: ⟨[.op 9 0, .op 10 0], _, [], Lr 11, [40]⟩ :: ⟨[.op 9 0, .old 1], _, [], Lr 10, [41]⟩ :: ⟨[.op 9 0, .op 11 0, .op 12 0], _, [], Lr 13, [42]⟩ :: ⟨[.op 3 0, .op 9 0, .op 13 0], _, [], Lr 14, [43]⟩ :: ⟨[.op 3 0, .op 14 0], _, [], Lr 15, [44]⟩ :: ⟨[.op 15 0, .old 0], _, [], Lr 16, [45]⟩ :: ⟨[.op 15 0, .op 16 0], _, [], Lr 17, [46]⟩ :: ⟨[.op 15 0, .old 0], _, [], Lr 16, [47]⟩ :: ⟨[.op 15 0, .op 18 0], _, [], 0 :: 1 :: 2 :: 3 :: 4 :: 5 :: 6 :: 7 :: 8 :: 9 :: 10 :: 11 :: 12 :: 13 :: 14 :: 15 :: 18 :: [], [48]⟩ :: ⟨[.op 15 0, .op 17 0, .op 19 0], _, [], Lr 20, [49]⟩ :: ⟨[.op 3 0, .op 15 0, .op 20 0], _, [], Lr 21, [50]⟩ :: ⟨[.op 3 0, .op 21 0], _, [], Lr 22, [51]⟩ :: ⟨[.op 22 0, .old 0], _, [], Lr 23, [52]⟩ :: ⟨[.op 22 0, .op 23 0], _, [], Lr 24, [53]⟩ :: ⟨[.op 22 0, .old 0], _, [], Lr 23, [54]⟩ :: ⟨[.op 22 0, .op 25 0], _, [], 0 :: 1 :: 2 :: 3 :: 4 :: 5 :: 6 :: 7 :: 8 :: 9 :: 10 :: 11 :: 12 :: 13 :: 14 :: 15 :: 16 :: 17 :: 18 :: 19 :: 20 :: 21 :: 22 :: 25 :: [], [55]⟩ :: ⟨[.op 22 0, .op 24 0, .op 26 0], _, [], Lr 27, [56]⟩ :: ⟨[.op 3 0, .op 22 0, .op 27 0], _, [], Lr 28, [57]⟩ :: ⟨[.op 3 0, .op 28 0], _, [], Lr 29, [58]⟩ :: []) (F := [.old 0, .op 29 0]) hst hb Za
         (o_p rfl (Zd Zc9 rfl rfl u_0) <| o_p rfl (Zf ty_3 rfl rfl u_0) <| o_p rfl (Z7 rfl rfl u_0 c_i) <| o_p rfl (Zc rfl rfl u_0) <| o_g (g_t rfl rfl rfl (fun hG => Zd Zf5 rfl rfl u_0)) <| o_g (g_t rfl rfl rfl (fun hG => Zf ty_2 rfl rfl (Opd.gd hG u_0))) <| o_g (g_t rfl rfl rfl (fun hG => Zc rfl rfl u_0)) <| o_g (g_t rfl rfl rfl (fun hG => Znz rfl rfl (Opd.gd hG u_0) rfl)) <| o_g (g_t rfl rfl rfl (fun hG => Zb6 rfl rfl (Opd.gd hG u_0) (Opd.gd hG u_1))) <| o_g (g_t rfl rfl rfl (fun hG => Zc rfl rfl (Opd.gd hG u_0))) <| o_g (g_fi rfl rfl rfl (fun hG => Zd Zf6 rfl rfl u_0)) <| o_g (g_fi rfl rfl rfl (fun hG => Zf ty_2 rfl rfl (Opd.gd hG u_0))) <| o_g (g_fi rfl rfl rfl (fun hG => Zc rfl rfl u_0)) <| o_g (g_fi rfl rfl rfl (fun hG => Zci rfl rfl (Opd.gd hG u_0) (Opd.gd hG u_1))) <| o_g (g_t rfl rfl rfl (fun hG => Zbf rfl rfl (Opd.gd hG u_0) (fun hz => (Opd.gd (bA hG (bNF hz)) u_1)))) <| o_g (g_t rfl rfl rfl (fun hG => Zc rfl rfl (Opd.gd hG u_0))) <| o_g (g_fi rfl rfl rfl (fun hG => Zd Zb8 rfl rfl u_0)) <| o_g (g_fi rfl rfl rfl (fun hG => Zf ty_2 rfl rfl (Opd.gd hG u_0))) <| o_g (g_fi rfl rfl rfl (fun hG => Zd Zf5 rfl rfl u_0)) <| o_g (g_fi rfl rfl rfl (fun hG => Zf ty_2 rfl rfl (Opd.gd hG u_0))) <| o_g (g_fi rfl rfl rfl (fun hG => Zb6 rfl rfl (Opd.gd hG u_0) (Opd.gd hG u_1))) <| o_g (g_t rfl rfl rfl (fun hG => Zbf rfl rfl (Opd.gd hG u_0) (fun hz => (Opd.gd (bA hG (bNF hz)) u_1)))) <| o_g (g_t rfl rfl rfl (fun hG => Zc rfl rfl (Opd.gd hG u_0))) <| o_g (g_fi rfl rfl rfl (fun hG => Zd Zb8 rfl rfl u_0)) <| o_g (g_fi rfl rfl rfl (fun hG => Zf ty_2 rfl rfl (Opd.gd hG u_0))) <| o_g (g_fi rfl rfl rfl (fun hG => Zd Zf6 rfl rfl u_0)) <| o_g (g_fi rfl rfl rfl (fun hG => Zf ty_2 rfl rfl (Opd.gd hG u_0))) <| o_g (g_fi rfl rfl rfl (fun hG => Zci rfl rfl (Opd.gd hG u_0) (Opd.gd hG u_1))) <| o_g (g_t rfl rfl rfl (fun hG => Zbf rfl rfl (Opd.gd hG u_0) (fun hz => (Opd.gd (bA hG (bNF hz)) u_1)))) <| o_p rfl (Zbc rfl rfl u_0 (fun hz => (Opd.gd hz u_1))) <| o_n) (by kernel_rfl) (fun a g hst hb => ?_)
       refine wp_cond_split (hst.bool 1 rfl) (fun hc8 => ?_) (fun hc8 => ?_)
       · replace H0 := Zp hc8 H0
         refine r_s (L := []) (T := [⟨[], _, [], [], [2]⟩]) (F := [.op 0 0]) (hst.pick [] rfl) hb Za
           (o_p rfl (Zb rfl rfl c_i) <| o_n) (by kernel_rfl) (fun a g hst hb => ?_)
         refine wp_ret ?_
         refine Zk ?_
         obtain rfl := Option.some.inj H0
         exact Zz rfl hst hb (Zh (s := 2)) (hst.at 0 rfl)
       · replace H0 := Zq hc8 H0
         refine wp_skip ?_
         refine Zn ?_
         refine wp_seq ?_
         obtain ⟨r9, h10, H0⟩ := Zj H0
         refine r_s (L := [(1, _)]) (T := [⟨[.old 0], _, [], [], [59]⟩, ⟨[.op 0 0], _, [], [0], [60]⟩, ⟨[.op 1 0], _, [], [0, 1], [61]⟩, ⟨[.op 2 0], _, [], [0, 1, 2], [62]⟩]) (F := [.old 0, .op 3 0]) (hst.pick [0] rfl) hb Za
           (o_p rfl (Zd Ze3 rfl rfl u_0) <| o_p rfl (Zf Zc0 rfl rfl u_0) <| o_p rfl (Zu Zu1 (Zhg _ h10) rfl rfl (.cons u_0 .nil)) <| o_p rfl (Zcf rfl rfl u_0) <| o_n) (by kernel_rfl) (fun a g hst hb => ?_)
         refine wp_cond_split (hst.bool 1 rfl) (fun hc11 => ?_) (fun hc11 => ?_)
         · replace H0 := Zp hc11 H0
           refine r_s (L := []) (T := [⟨[], _, [], [], [2]⟩]) (F := [.op 0 0]) (hst.pick [] rfl) hb Za
             (o_p rfl (Zb rfl rfl c_i) <| o_n) (by kernel_rfl) (fun a g hst hb => ?_)
           refine wp_ret ?_
           refine Zk ?_
           obtain rfl := Option.some.inj H0
           exact Zz rfl hst hb (Zh (s := 2)) (hst.at 0 rfl)
         · replace H0 := Zq hc11 H0
           refine wp_skip ?_
           refine Zn ?_
           refine wp_seq ?_
           refine r_s (L := [(1, _)]) (T := [⟨[.old 0], _, [], [], [63]⟩, ⟨[.op 0 0], _, [], [0], [64]⟩, ⟨[.op 1 0], _, [], [0, 1], [65]⟩]) (F := [.old 0, .op 2 0]) (hst.pick [0] rfl) hb Za
             (o_p rfl (Zd Zc9 rfl rfl u_0) <| o_p rfl (Zf ty_3 rfl rfl u_0) <| o_p rfl (Zb6 rfl rfl u_0 c_i) <| o_n) (by kernel_rfl) (fun a g hst hb => ?_)
           refine wp_cond_split (hst.bool 1 rfl) (fun hc12 => ?_) (fun hc12 => ?_)
           · replace H0 := Zp hc12 H0
             refine r_s (L := []) (T := [⟨[], _, [], [], [2]⟩]) (F := [.op 0 0]) (hst.pick [] rfl) hb Za
               (o_p rfl (Zb rfl rfl c_i) <| o_n) (by kernel_rfl) (fun a g hst hb => ?_)
             refine wp_ret ?_
             refine Zk ?_
             obtain rfl := Option.some.inj H0
             exact Zz rfl hst hb (Zh (s := 2)) (hst.at 0 rfl)
           · replace H0 := Zq hc12 H0
             refine wp_skip ?_
             refine Zn ?_
             refine wp_seq ?_
             refine r_s (L := [(1, _)]) (T := [⟨[.old 0], _, [], [], [66]⟩, ⟨[.op 0 0], _, [], [0], [67]⟩, ⟨[.op 1 0], _, [], [0, 1], [68]⟩, ⟨[.op 2 0], _, [], [0, 1, 2], [69]⟩, ⟨[.op 3 0, .old 0], _, [], Lr 4, [70]⟩, ⟨[.op 3 0, .op 4 0], _, [], Lr 5, [71]⟩, ⟨[.op 3 0, .op 5 0], _, [], Lr 6, [72]⟩, ⟨[.op 3 0, .op 6 0], _, [], Lr 7, [73]⟩]) (F := [.old 0, .op 7 0]) (hst.pick [0] rfl) hb Za
               (o_p rfl (Zd Zef rfl rfl u_0) <| o_p rfl (Zf ty_3 rfl rfl u_0) <| o_p rfl (Zb6 rfl rfl u_0 c_i) <| o_p rfl (Zc rfl rfl u_0) <| o_g (g_f rfl rfl rfl (fun hG => Zd Zef rfl rfl u_0)) <| o_g (g_f rfl rfl rfl (fun hG => Zf ty_3 rfl rfl (Opd.gd hG u_0))) <| o_g (g_f rfl rfl rfl (fun hG => Zci rfl rfl (Opd.gd hG u_0) c_i)) <| o_p rfl (Zbf rfl rfl u_0 (fun hz => (Opd.gd (bNF hz) u_1))) <| o_n) (by kernel_rfl) (fun a g hst hb => ?_)
             refine wp_cond_split (hst.bool 1 rfl) (fun hc13 => ?_) (fun hc13 => ?_)
             · replace H0 := Zp hc13 H0
               refine r_s (L := []) (T := [⟨[], _, [], [], [2]⟩]) (F := [.op 0 0]) (hst.pick [] rfl) hb Za
                 (o_p rfl (Zb rfl rfl c_i) <| o_n) (by kernel_rfl) (fun a g hst hb => ?_)
               refine wp_ret ?_
               refine Zk ?_
               obtain rfl := Option.some.inj H0
               exact Zz rfl hst hb (Zh (s := 2)) (hst.at 0 rfl)
             · replace H0 := Zq hc13 H0
               refine wp_skip ?_
               refine Zn ?_
               refine wp_seq ?_
               refine r_s (L := [(1, _)]) (T := [⟨[.old 0], _, [], [], [74]⟩, ⟨[.op 0 0], _, [], [0], [75]⟩, ⟨[.op 1 0], _, [], [0, 1], [76]⟩, ⟨[.old 0], _, [], [], [77]⟩, ⟨[.op 3 0], _, [], [3], [78]⟩, ⟨[.op 2 0, .op 4 0], _, [], Lr 5, [79]⟩]) (F := [.old 0, .op 5 0]) (hst.pick [0] rfl) hb Za
                 (o_p rfl (Zd Zb3 rfl rfl u_0) <| o_p rfl (Zf Zcz rfl rfl u_0) <| o_p rfl (Zco Tryd.underlying23 rfl rfl u_0) <| o_p rfl (Zd Zef rfl rfl u_0) <| o_p rfl (Zf ty_3 rfl rfl u_0) <| o_p rfl (Zci rfl rfl u_0 u_1) <| o_n) (by kernel_rfl) (fun a g hst hb => ?_)
               refine wp_cond_split (hst.bool 1 rfl) (fun hc14 => ?_) (fun hc14 => ?_)
               · replace H0 := Zp hc14 H0
                 refine r_s (L := []) (T := [⟨[], _, [], [], [2]⟩]) (F := [.op 0 0]) (hst.pick [] rfl) hb Za
                   (o_p rfl (Zb rfl rfl c_i) <| o_n) (by kernel_rfl) (fun a g hst hb => ?_)
                 refine wp_ret ?_
                 refine Zk ?_
                 obtain rfl := Option.some.inj H0
                 exact Zz rfl hst hb (Zh (s := 2)) (hst.at 0 rfl)
               · replace H0 := Zq hc14 H0
                 refine wp_skip ?_
                 refine Zn ?_
                 refine wp_seq ?_
                 refine r_s (L := [(1, _)]) (T := [⟨[], _, [], [], [4]⟩]) (F := [.old 0, .op 0 0]) (hst.pick [0] rfl) hb Za
                   (o_p rfl (Zb rfl rfl c_i) <| o_n) (by kernel_rfl) (fun a g hst hb => ?_)
                 obtain ⟨z20, hz1, H0⟩ := Zj H0
                 refine Zcl (fun a w => ∃ (g : G), w = g.w ∧ St 96 [] a g ∧ Base g0 g ∧ (.inr ()) = z20) ?_ ?_
                 · rintro a w ⟨g, rfl, hst, hb, rfl⟩
                   refine Zn ?_
                   refine r_s (T := [⟨[], _, [], [], [2]⟩]) (F := [.op 0 0]) hst hb Za
                     (o_p rfl (Zb rfl rfl c_i) <| o_n) (by kernel_rfl) (fun a g hst hb => ?_)
                   refine wp_ret ?_
                   obtain rfl := Option.some.inj H0
                   exact Zz rfl hst hb (Zh (s := 2)) (hst.at 0 rfl)
                 · refine wp_block ?_
                   refine wp_loop_ghost (fun n a w => ∃ (x15 : Int) (g : G), w = g.w ∧ St 96 [(1, (Zg.ptr a0)), (4, (pInt .i64 x15))] a g ∧ Base g0 g ∧ Zdf a0 n x15 = some z20) (Int.toNat ((a0.List.length : Int) - (0 : Int)) + 1) ⟨(0 : Int), g, rfl, (hst.pick [0, 1] rfl), hb, hz1⟩ (fun n a w hI => ?_)
                   obtain ⟨x15, g, rfl, hst, hb, H1⟩ := hI
                   cases n with
                   | zero => exact absurd H1 (by simp [Zdf])
                   | succ n =>
                     rw [Zdf] at H1
                     refine wp_seq ?_
                     refine r_s (T := [⟨[.old 1], _, [], [], [80]⟩, ⟨[.old 0], _, [], [], [81]⟩, ⟨[.op 1 0], _, [], [1], [82]⟩, ⟨[.op 2 0], _, [], [1, 2], [83]⟩, ⟨[.op 0 0, .op 3 0], _, [], Lr 4, [84]⟩]) (F := [.old 0, .old 1, .op 4 0]) hst hb Za
                       (o_p rfl (Zc rfl rfl u_0) <| o_p rfl (Zd Zb3 rfl rfl u_0) <| o_p rfl (Zf Zcz rfl rfl u_0) <| o_p rfl (Zco Tryd.underlying23 rfl rfl u_0) <| o_p rfl (Zb6 rfl rfl u_0 u_1) <| o_n) (by kernel_rfl) (fun a g hst hb => ?_)
                     refine wp_cond_split (hst.bool 2 rfl) (fun hc16 => ?_) (fun hc16 => ?_)
                     · replace H1 := Zp hc16 H1
                       refine wp_skip ?_
                       refine Zn ?_
                       refine wp_seq ?_
                       refine wp_block ?_
                       obtain ⟨r17, h18, H1⟩ := Zj H1
                       refine r_s (L := [(1, _), (4, _)]) (T := [⟨[.old 0], _, [], [], [87]⟩, ⟨[.op 0 0], _, [], [0], [88]⟩, ⟨[.old 0], _, [], [], [89]⟩, ⟨[.op 2 0], _, [], [2], [90]⟩, ⟨[.old 1], _, [], [], [91]⟩, ⟨[.op 1 0, .op 3 0, .op 4 0], _, [], Lr 5, [92]⟩, ⟨[.op 5 0], _, [], Lr 6, [5]⟩]) (F := [.old 0, .old 1, .op 6 0]) (hst.pick [0, 1] rfl) hb Za
                         (o_p rfl (Zd Zc9 rfl rfl u_0) <| o_p rfl (Zf ty_3 rfl rfl u_0) <| o_p rfl (Zd Zb3 rfl rfl u_0) <| o_p rfl (Zf Zcz rfl rfl u_0) <| o_p rfl (Zc rfl rfl u_0) <| o_p rfl (Zu Z1x (Zm2 _ _ _ h18) rfl rfl (.cons u_0 (.cons u_1 (.cons u_2 .nil)))) <| o_p rfl (Zb rfl rfl u_0) <| o_n) (by kernel_rfl) (fun a g hst hb => ?_)
                       refine r_s (T := [⟨[.old 2], _, [], [], [93]⟩, ⟨[.op 0 0], _, [], [0], [94]⟩]) (F := [.old 0, .old 1, .old 2, .op 1 0]) hst hb Za
                         (o_p rfl (Zc rfl rfl u_0) <| o_p rfl (Zcp rfl rfl u_0 c_i) <| o_n) (by kernel_rfl) (fun a g hst hb => ?_)
                       refine wp_cond_split (hst.bool 3 rfl) (fun hc19 => ?_) (fun hc19 => ?_)
                       · replace H1 := Zp hc19 H1
                         refine r_s (L := [(5, _)]) (T := [⟨[.old 0], _, [], [], [95]⟩, ⟨[.op 0 0], _, [], [0], [2]⟩]) (F := [.op 1 0]) (hst.pick [2] rfl) hb Za
                           (o_p rfl (Zc rfl rfl u_0) <| o_p rfl (Zb rfl rfl u_0) <| o_n) (by kernel_rfl) (fun a g hst hb => ?_)
                         refine wp_ret ?_
                         refine Zo ?_
                         refine Zk ?_
                         refine Zk ?_
                         refine Zo ?_
                         refine Zk ?_
                         refine Zk ?_
                         obtain rfl := Option.some.inj H1
                         obtain rfl := Option.some.inj H0
                         exact Zz rfl hst hb (Zh (s := 2)) (hst.at 0 rfl)
                       · replace H1 := Zq hc19 H1
                         refine wp_skip ?_
                         refine Zbg ?_
                         refine Zn ?_
                         refine r_g (L := [(1, _), (4, _)]) (T := [⟨[.old 1], _, [], [], [85]⟩, ⟨[.op 0 0], _, [], [0], [86]⟩, ⟨[.op 1 0], _, [], [0, 1], [4]⟩]) (F := [.old 0, .op 2 0]) (hst.pick [0, 1] rfl) hb Za
                           (o_p rfl (Zc rfl rfl u_0) <| o_p rfl (Zck rfl rfl u_0 c_i rfl) <| o_p rfl (Zb rfl rfl u_0) <| o_n) (by kernel_rfl) (fun a g hst hb => ?_)
                         exact ⟨n, Nat.lt_succ_self _, (IntKind.i64.wrap (x15 + (1 : Int))), g, rfl, (hst.pick [0, 1] rfl), hb, H1⟩
                     · replace H1 := Zq hc16 H1
                       refine wp_exit ?_
                       refine Zb9 ?_
                       refine Zb9 ?_
                       refine Zcy ?_
                       exact ⟨g, rfl, (hst.pick [] rfl), hb, Option.some.inj H1⟩
theorem Zmu (a0 : Ze) {r : Ze × Bool} (h : Zfz a0 = some r) : FnOk Tryd.prog 11 [(Zg.pd a0)] (pTup [(Zg.pd r.1), (Z9 r.2)]) := by
 have H0 := h
 unfold Zfz at H0
 clear h
 refine Zbt (N := 37) Tryd.func11 rfl rfl (Nat.le_of_ble_eq_true rfl) rfl rfl (fun a g0 hst hb => ?_)
 refine r_s (T := [⟨[.old 0], _, [], [], [1]⟩, ⟨[], [(2, (pBox Zg 2 (default : Ze)))], [3], [], [2]⟩, ⟨[], _, [], [], [3]⟩]) (F := [.op 0 0, .op 1 0]) hst hb Za
   (o_p rfl (Zbq rfl rfl u_0) <| o_p rfl (Zbu (zs := [.int .i64 0, .int .i64 0, .int .i64 0, .int .i64 0, .float .f64 0, .int .i64 0, .string ByteArray.empty, .slice none 0 0]) (by kernel_rfl) (fun g => Zb4 g) rfl rfl) <| o_p rfl (Zb rfl rfl c_b) <| o_n) (by kernel_rfl) (fun a g hst hb => ?_)
 refine wp_seq ?_
 obtain ⟨r1, h2, H0⟩ := Zj H0
 refine r_s (T := ⟨[.old 0], _, [], [], [4]⟩ :: ⟨[.op 0 0], _, [], [0], [5]⟩ :: ⟨[.op 1 0], _, [], [0, 1], [6]⟩ :: ⟨[.op 2 0], _, [], [0, 1, 2], [7]⟩ :: ⟨[.op 3 0, .old 0], _, [], Lr 4, [8]⟩ :: ⟨[.op 3 0, .op 4 0], _, [], Lr 5, [9]⟩ :: ⟨[.op 3 0, .op 5 0], _, [], Lr 6, [10]⟩ :: ⟨[.op 3 0, .op 6 0], _, [], Lr 7, [11]⟩ :: ⟨[.op 7 0], _, [], Lr 8, [12]⟩ :: ⟨[.op 8 0, .old 0], _, [], Lr 9, [13]⟩ :: ⟨[.op 8 0, .op 9 0], _, [], Lr 10, [14]⟩ :: ⟨[.op 8 0, .op 10 0], _, [], Lr 11, [15]⟩ :: ⟨[.op 8 0, .op 11 0], _, [], Lr 12, [16]⟩ :: []) (F := [.old 0, .old 1, .op 12 0]) hst hb Za
   (o_p rfl (Zf Z8 rfl rfl u_0) <| o_p rfl (Zu Zva (Zhi _ h2) rfl rfl (.cons u_0 .nil)) <| o_p rfl (Zcp rfl rfl u_0 c_i) <| o_p rfl (Zc rfl rfl u_0) <| o_g (g_f rfl rfl rfl (fun hG => Zd Zc9 rfl rfl u_0)) <| o_g (g_f rfl rfl rfl (fun hG => Zf ty_3 rfl rfl (Opd.gd hG u_0))) <| o_g (g_f rfl rfl rfl (fun hG => Z7 rfl rfl (Opd.gd hG u_0) c_i)) <| o_p rfl (Zbf rfl rfl u_0 (fun hz => (Opd.gd (bNF hz) u_1))) <| o_p rfl (Zc rfl rfl u_0) <| o_g (g_f rfl rfl rfl (fun hG => Zd Zc9 rfl rfl u_0)) <| o_g (g_f rfl rfl rfl (fun hG => Zf ty_3 rfl rfl (Opd.gd hG u_0))) <| o_g (g_f rfl rfl rfl (fun hG => Z7 rfl rfl (Opd.gd hG u_0) c_i)) <| o_p rfl (Zbf rfl rfl u_0 (fun hz => (Opd.gd (bNF hz) u_1))) <| o_n) (by kernel_rfl) (fun a g hst hb => ?_)
 refine wp_cond_split (hst.bool 2 rfl) (fun hc3 => ?_) (fun hc3 => ?_)
 · replace H0 := Zp hc3 H0
   refine r_s (L := [(2, _)]) (T := [⟨[], _, [], [], [17]⟩, ⟨[.op 0 0, .old 0], _, [3], [0], [2]⟩, ⟨[], _, [], [0, 1], [3]⟩]) (F := [.op 1 0, .op 2 0]) (hst.pick [1] rfl) hb Za
     (o_p rfl (Zks rfl rfl ) <| o_p rfl (Zba Z8 rfl rfl u_1 u_0) <| o_p rfl (Zb rfl rfl c_b) <| o_n) (by kernel_rfl) (fun a g hst hb => ?_)
   refine wp_ret ?_
   refine Zk ?_
   obtain rfl := Option.some.inj H0
   obtain ⟨u0, hu0, hq0⟩ := Zbi (P := Tryd.prog) Z8 (hst.at 0 rfl)
   exact Zdr rfl hst hb hu0 (Zh (s := 3)) (Zc1 hq0 (hst.at 1 rfl))
 · replace H0 := Zq hc3 H0
   refine wp_skip ?_
   refine Zn ?_
   refine wp_seq ?_
   refine r_s (L := [(1, _), (2, _)]) (T := [⟨[.old 0], _, [], [], [18]⟩, ⟨[.op 0 0], _, [], [0], [19]⟩]) (F := [.old 0, .old 1, .op 1 0]) (hst.pick [0, 1] rfl) hb Za
     (o_p rfl (Zd Zc9 rfl rfl u_0) <| o_p rfl (Zf ty_3 rfl rfl u_0) <| o_n) (by kernel_rfl) (fun a g hst hb => ?_)
   refine wp_block ?_
   refine r_s (T := [⟨[.old 2], _, [], [], [21]⟩, ⟨[.op 0 0], _, [], [0], [20]⟩]) (F := [.old 0, .old 1, .old 2, .op 1 0]) hst hb Za
     (o_p rfl (Z7 rfl rfl u_0 c_i) <| o_p rfl (Zb rfl rfl u_0) <| o_n) (by kernel_rfl) (fun a g hst hb => ?_)
   refine wp_cond_split (hst.bool 3 rfl) (fun hc4 => ?_) (fun hc4 => ?_)
   · replace H0 := Zp hc4 H0
     obtain ⟨r5, h6, H0⟩ := Zj H0
     refine r_s (L := [(2, _)]) (T := [⟨[], _, [], [], [22]⟩, ⟨[.op 0 0], _, [], [0], [23]⟩, ⟨[.op 1 0, .old 0], _, [3], [0, 1], [2]⟩, ⟨[], _, [], [0, 1, 2], [3]⟩]) (F := [.op 2 0, .op 3 0]) (hst.pick [1] rfl) hb Za
       (o_p rfl (Zu Zx3 (Zow _ h6) rfl rfl (.cons c_i .nil)) <| o_p rfl (Zle rfl rfl c_i u_0) <| o_p rfl (Zba Z8 rfl rfl u_1 u_0) <| o_p rfl (Zb rfl rfl c_b) <| o_n) (by kernel_rfl) (fun a g hst hb => ?_)
     refine wp_ret ?_
     refine Zo ?_
     refine Zk ?_
     obtain rfl := Option.some.inj H0
     obtain ⟨u0, hu0, hq0⟩ := Zbi (P := Tryd.prog) Z8 (hst.at 0 rfl)
     exact Zdr rfl hst hb hu0 (Zh (s := 3)) (Zc1 hq0 (hst.at 1 rfl))
   · replace H0 := Zq hc4 H0
     refine r_s (L := [(1, _), (2, _), (19, _)]) (T := [⟨[.old 2], _, [], [], [25]⟩, ⟨[.op 0 0], _, [], [0], [24]⟩]) (F := [.old 0, .old 1, .old 2, .op 1 0]) (hst.pick [0, 1, 2] rfl) hb Za
       (o_p rfl (Z7 rfl rfl u_0 c_i) <| o_p rfl (Zb rfl rfl u_0) <| o_n) (by kernel_rfl) (fun a g hst hb => ?_)
     refine wp_cond_split (hst.bool 3 rfl) (fun hc7 => ?_) (fun hc7 => ?_)
     · replace H0 := Zp hc7 H0
       obtain ⟨r8, h9, H0⟩ := Zj H0
       refine r_s (L := [(2, _)]) (T := [⟨[], _, [], [], [26]⟩, ⟨[.op 0 0], _, [], [0], [27]⟩, ⟨[.op 1 0, .old 0], _, [3], [0, 1], [2]⟩, ⟨[], _, [], [0, 1, 2], [3]⟩]) (F := [.op 2 0, .op 3 0]) (hst.pick [1] rfl) hb Za
         (o_p rfl (Zu Zuu (Zlm h9) rfl rfl .nil) <| o_p rfl (Zle rfl rfl c_i u_0) <| o_p rfl (Zba Z8 rfl rfl u_1 u_0) <| o_p rfl (Zb rfl rfl c_b) <| o_n) (by kernel_rfl) (fun a g hst hb => ?_)
       refine wp_ret ?_
       refine Zo ?_
       refine Zk ?_
       obtain rfl := Option.some.inj H0
       obtain ⟨u0, hu0, hq0⟩ := Zbi (P := Tryd.prog) Z8 (hst.at 0 rfl)
       exact Zdr rfl hst hb hu0 (Zh (s := 3)) (Zc1 hq0 (hst.at 1 rfl))
     · replace H0 := Zq hc7 H0
       refine r_s (L := [(1, _), (2, _), (19, _)]) (T := [⟨[.old 2], _, [], [], [29]⟩, ⟨[.op 0 0], _, [], [0], [28]⟩]) (F := [.old 0, .old 1, .old 2, .op 1 0]) (hst.pick [0, 1, 2] rfl) hb Za
         (o_p rfl (Z7 rfl rfl u_0 c_i) <| o_p rfl (Zb rfl rfl u_0) <| o_n) (by kernel_rfl) (fun a g hst hb => ?_)
       refine wp_cond_split (hst.bool 3 rfl) (fun hc10 => ?_) (fun hc10 => ?_)
       · replace H0 := Zp hc10 H0
         refine r_s (L := [(2, _)]) (T := [⟨[], _, [], [], [30]⟩, ⟨[.op 0 0, .old 0], _, [3], [0], [2]⟩, ⟨[], _, [], [0, 1], [3]⟩]) (F := [.op 1 0, .op 2 0]) (hst.pick [1] rfl) hb Za
           (o_p rfl (Zli rfl rfl c_i c_i) <| o_p rfl (Zba Z8 rfl rfl u_1 u_0) <| o_p rfl (Zb rfl rfl c_b) <| o_n) (by kernel_rfl) (fun a g hst hb => ?_)
         refine wp_ret ?_
         refine Zo ?_
         refine Zk ?_
         obtain rfl := Option.some.inj H0
         obtain ⟨u0, hu0, hq0⟩ := Zbi (P := Tryd.prog) Z8 (hst.at 0 rfl)
         exact Zdr rfl hst hb hu0 (Zh (s := 3)) (Zc1 hq0 (hst.at 1 rfl))
       · replace H0 := Zq hc10 H0
         refine r_s (L := [(1, _), (2, _), (19, _)]) (T := [⟨[.old 2], _, [], [], [32]⟩, ⟨[.op 0 0], _, [], [0], [31]⟩]) (F := [.old 0, .old 1, .op 1 0]) (hst.pick [0, 1, 2] rfl) hb Za
           (o_p rfl (Z7 rfl rfl u_0 c_i) <| o_p rfl (Zb rfl rfl u_0) <| o_n) (by kernel_rfl) (fun a g hst hb => ?_)
         refine wp_cond_split (hst.bool 2 rfl) (fun hc11 => ?_) (fun hc11 => ?_)
         · replace H0 := Zp hc11 H0
           refine r_s (L := [(1, _), (2, _)]) (T := [⟨[.old 0], _, [], [], [33]⟩, ⟨[.op 0 0], _, [], [0], [34]⟩, ⟨[.op 1 0], _, [], [0, 1], [35]⟩, ⟨[.op 2 0, .old 1], _, [3], [0, 1, 2], [2]⟩, ⟨[], _, [], Lr 4, [3]⟩]) (F := [.op 3 0, .op 4 0]) (hst.pick [0, 1] rfl) hb Za
             (o_p rfl (Zd Zef rfl rfl u_0) <| o_p rfl (Zf ty_3 rfl rfl u_0) <| o_p rfl (Zli rfl rfl c_i u_0) <| o_p rfl (Zba Z8 rfl rfl u_1 u_0) <| o_p rfl (Zb rfl rfl c_b) <| o_n) (by kernel_rfl) (fun a g hst hb => ?_)
           refine wp_ret ?_
           refine Zo ?_
           refine Zk ?_
           obtain rfl := Option.some.inj H0
           obtain ⟨u0, hu0, hq0⟩ := Zbi (P := Tryd.prog) Z8 (hst.at 0 rfl)
           exact Zdr rfl hst hb hu0 (Zh (s := 3)) (Zc1 hq0 (hst.at 1 rfl))
         · replace H0 := Zq hc11 H0
           refine wp_skip ?_
           refine Zbg ?_
           refine Zn ?_
           refine r_s (L := [(2, _)]) (T := [⟨[], _, [], [], [36]⟩, ⟨[.op 0 0, .old 0], _, [3], [0], [2]⟩, ⟨[], _, [], [0, 1], [3]⟩]) (F := [.op 1 0, .op 2 0]) (hst.pick [1] rfl) hb Za
             (o_p rfl (Zty rfl rfl c_i) <| o_p rfl (Zba Z8 rfl rfl u_1 u_0) <| o_p rfl (Zb rfl rfl c_b) <| o_n) (by kernel_rfl) (fun a g hst hb => ?_)
           refine wp_ret ?_
           obtain rfl := Option.some.inj H0
           obtain ⟨u0, hu0, hq0⟩ := Zbi (P := Tryd.prog) Z8 (hst.at 0 rfl)
           exact Zdr rfl hst hb hu0 (Zh (s := 3)) (Zc1 hq0 (hst.at 1 rfl))
end Go.CL
