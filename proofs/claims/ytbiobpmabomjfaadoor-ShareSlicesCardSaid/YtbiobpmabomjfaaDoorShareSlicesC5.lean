/- A part of the proof of ShareSlices. -/
import Derived.Test.YtbiobpmabomjfaaDoorShareSlicesC4
import Derived.KernelRfl
import Derived.Laws.Strings
set_option linter.unusedVariables false
set_option linter.unusedSimpArgs false
set_option maxRecDepth 100000
namespace Go.CL
open Go Go.RowKit Go.Proofs
theorem Zj3 (a0 : Zw) (a1 : Zu) {r : Zx} (h : Zfy a0 a1 = some r) : FnOk Tryd.prog 59 [(Zd9.ptr a0), (Z1.pd a1)] (Z2.pd r) := by
 have H0 := h
 unfold Zfy at H0
 clear h
 refine Zbo (N := 56) Tryd.func59 rfl rfl (Nat.le_of_ble_eq_true rfl) rfl rfl (fun a g0 hst hb => ?_)
 refine r_s (T := [⟨[.old 1], _, [], [], [3]⟩, ⟨[], [(4, (pBox Z2 4 (default : Zx)))], [5], [], [4]⟩]) (F := [.old 0, .op 0 0, .op 1 0]) hst hb Za
   (o_p rfl (Zbk rfl rfl u_0) <| o_p rfl (Zbj (zs := [.int .u64 0, .int .u64 0]) (by kernel_rfl) (fun g => Zgj g) rfl rfl) <| o_n) (by kernel_rfl) (fun a g hst hb => ?_)
 refine wp_seq ?_
 refine r_s (T := [⟨[.old 1], _, [], [], [7]⟩, ⟨[.op 0 0], _, [], [0], [8]⟩]) (F := [.old 0, .old 1, .old 2, .op 1 0]) hst hb Za
   (o_p rfl (Ze Zdm rfl rfl u_0) <| o_p rfl (Zg ty_3 rfl rfl u_0) <| o_n) (by kernel_rfl) (fun a g hst hb => ?_)
 refine wp_block ?_
 refine r_s (T := [⟨[.old 3], _, [], [], [10]⟩, ⟨[.op 0 0], _, [], [0], [9]⟩]) (F := [.old 0, .old 1, .old 2, .old 3, .op 1 0]) hst hb Za
   (o_p rfl (Z8 rfl rfl u_0 c_i) <| o_p rfl (Zb rfl rfl u_0) <| o_n) (by kernel_rfl) (fun a g hst hb => ?_)
 refine wp_cond_split (hst.bool 4 rfl) (fun hc1 => ?_) (fun hc1 => ?_)
 · replace H0 := Zp hc1 H0
   refine wp_seq ?_
   refine r_s (L := [(3, _), (4, _)]) (T := [⟨[.old 0], _, [], [], [11]⟩, ⟨[.op 0 0], _, [], [0], [12]⟩, ⟨[.op 1 0], _, [], [0, 1], [13]⟩]) (F := [.old 0, .old 1, .op 2 0]) (hst.pick [1, 2] rfl) hb Za
     (o_p rfl (Ze Zc3 rfl rfl u_0) <| o_p rfl (Zg ty_2 rfl rfl u_0) <| o_p rfl (Zce rfl rfl u_0 c_i) <| o_n) (by kernel_rfl) (fun a g hst hb => ?_)
   refine wp_cond_split (hst.bool 2 rfl) (fun hc2 => ?_) (fun hc2 => ?_)
   · replace H0 := Zp hc2 H0
     refine r_s (L := [(3, _), (4, _)]) (T := [⟨[.old 0], _, [], [], [14]⟩, ⟨[.op 0 0], _, [], [0], [15]⟩, ⟨[.op 1 0], _, [], [0, 1], [16]⟩, ⟨[.op 2 0], _, [], [0, 1, 2], [17]⟩, ⟨[.op 3 0], _, [], Lr 4, [18]⟩, ⟨[.op 4 0, .old 1], _, [5], Lr 5, [4]⟩]) (F := [.op 5 0]) (hst.pick [0, 1] rfl) hb Za
       (o_p rfl (Ze Zc3 rfl rfl u_0) <| o_p rfl (Zg ty_2 rfl rfl u_0) <| o_p rfl (Zeo Tryd.underlying2 Tryd.underlying62 rfl rfl u_0 rfl) <| o_p rfl (Zp4 rfl rfl u_0 rfl) <| o_p rfl (Zrl rfl rfl u_0) <| o_p rfl (Z6 Zc8 rfl rfl u_1 u_0) <| o_n) (by kernel_rfl) (fun a g hst hb => ?_)
     refine wp_ret ?_
     refine Zk ?_
     refine Zt ?_
     refine Zk ?_
     obtain rfl := Option.some.inj H0
     obtain ⟨u0, hu0, hq0⟩ := Zba (P := Tryd.prog) Zc8 (hst.at 0 rfl)
     exact Zy rfl hst hb hu0 hq0
   · replace H0 := Zr hc2 H0
     refine wp_skip ?_
     refine Zn ?_
     refine r_s (L := [(3, _), (4, _)]) (T := [⟨[.old 0], _, [], [], [19]⟩, ⟨[.op 0 0], _, [], [0], [20]⟩, ⟨[.op 1 0], _, [], [0, 1], [21]⟩, ⟨[.op 2 0], _, [], [0, 1, 2], [22]⟩, ⟨[.op 3 0, .old 1], _, [5], Lr 4, [4]⟩]) (F := [.op 4 0]) (hst.pick [0, 1] rfl) hb Za
       (o_p rfl (Ze Zc3 rfl rfl u_0) <| o_p rfl (Zg ty_2 rfl rfl u_0) <| o_p rfl (Zeo Tryd.underlying2 Tryd.underlying62 rfl rfl u_0 rfl) <| o_p rfl (Zlz rfl rfl u_0) <| o_p rfl (Z6 Zc8 rfl rfl u_1 u_0) <| o_n) (by kernel_rfl) (fun a g hst hb => ?_)
     refine wp_ret ?_
     refine Zt ?_
     refine Zk ?_
     obtain rfl := Option.some.inj H0
     obtain ⟨u0, hu0, hq0⟩ := Zba (P := Tryd.prog) Zc8 (hst.at 0 rfl)
     exact Zy rfl hst hb hu0 hq0
 · replace H0 := Zr hc1 H0
   refine r_s (L := [(0, _), (3, _), (4, _), (8, _)]) (T := [⟨[.old 3], _, [], [], [24]⟩, ⟨[.op 0 0], _, [], [0], [23]⟩]) (F := [.old 0, .old 1, .old 2, .old 3, .op 1 0]) (hst.pick [0, 1, 2, 3] rfl) hb Za
     (o_p rfl (Z8 rfl rfl u_0 c_i) <| o_p rfl (Zb rfl rfl u_0) <| o_n) (by kernel_rfl) (fun a g hst hb => ?_)
   refine wp_cond_split (hst.bool 4 rfl) (fun hc3 => ?_) (fun hc3 => ?_)
   · replace H0 := Zp hc3 H0
     refine r_s (L := [(3, _), (4, _)]) (T := [⟨[.old 0], _, [], [], [25]⟩, ⟨[.op 0 0], _, [], [0], [26]⟩, ⟨[.op 1 0], _, [], [0, 1], [27]⟩, ⟨[.op 2 0], _, [], [0, 1, 2], [28]⟩, ⟨[.op 3 0, .old 1], _, [5], Lr 4, [4]⟩]) (F := [.op 4 0]) (hst.pick [1, 2] rfl) hb Za
       (o_p rfl (Ze Zc3 rfl rfl u_0) <| o_p rfl (Zg ty_2 rfl rfl u_0) <| o_p rfl (Zeo Tryd.underlying2 Tryd.underlying62 rfl rfl u_0 rfl) <| o_p rfl (Zlz rfl rfl u_0) <| o_p rfl (Z6 Zc8 rfl rfl u_1 u_0) <| o_n) (by kernel_rfl) (fun a g hst hb => ?_)
     refine wp_ret ?_
     refine Zt ?_
     refine Zk ?_
     obtain rfl := Option.some.inj H0
     obtain ⟨u0, hu0, hq0⟩ := Zba (P := Tryd.prog) Zc8 (hst.at 0 rfl)
     exact Zy rfl hst hb hu0 hq0
   · replace H0 := Zr hc3 H0
     refine r_s (L := [(0, _), (3, _), (4, _), (8, _)]) (T := [⟨[.old 3], _, [], [], [30]⟩, ⟨[.op 0 0], _, [], [0], [29]⟩]) (F := [.old 0, .old 1, .old 2, .old 3, .op 1 0]) (hst.pick [0, 1, 2, 3] rfl) hb Za
       (o_p rfl (Z8 rfl rfl u_0 c_i) <| o_p rfl (Zb rfl rfl u_0) <| o_n) (by kernel_rfl) (fun a g hst hb => ?_)
     refine wp_cond_split (hst.bool 4 rfl) (fun hc4 => ?_) (fun hc4 => ?_)
     · replace H0 := Zp hc4 H0
       refine r_s (L := [(3, _), (4, _)]) (T := [⟨[.old 0], _, [], [], [31]⟩, ⟨[.op 0 0], _, [], [0], [32]⟩, ⟨[.op 1 0], _, [], [0, 1], [33]⟩, ⟨[.op 2 0], _, [], [0, 1, 2], [34]⟩, ⟨[.op 3 0, .old 1], _, [5], Lr 4, [4]⟩]) (F := [.op 4 0]) (hst.pick [1, 2] rfl) hb Za
         (o_p rfl (Ze Zc3 rfl rfl u_0) <| o_p rfl (Zg ty_2 rfl rfl u_0) <| o_p rfl (Zeo Tryd.underlying2 Tryd.underlying62 rfl rfl u_0 rfl) <| o_p rfl (Zrl rfl rfl u_0) <| o_p rfl (Z6 Zc8 rfl rfl u_1 u_0) <| o_n) (by kernel_rfl) (fun a g hst hb => ?_)
       refine wp_ret ?_
       refine Zt ?_
       refine Zk ?_
       obtain rfl := Option.some.inj H0
       obtain ⟨u0, hu0, hq0⟩ := Zba (P := Tryd.prog) Zc8 (hst.at 0 rfl)
       exact Zy rfl hst hb hu0 hq0
     · replace H0 := Zr hc4 H0
       refine r_s (L := [(0, _), (3, _), (4, _), (8, _)]) (T := [⟨[.old 3], _, [], [], [36]⟩, ⟨[.op 0 0], _, [], [0], [35]⟩]) (F := [.old 0, .old 1, .old 2, .op 1 0]) (hst.pick [0, 1, 2, 3] rfl) hb Za
         (o_p rfl (Z8 rfl rfl u_0 c_i) <| o_p rfl (Zb rfl rfl u_0) <| o_n) (by kernel_rfl) (fun a g hst hb => ?_)
       refine wp_cond_split (hst.bool 3 rfl) (fun hc5 => ?_) (fun hc5 => ?_)
       · replace H0 := Zp hc5 H0
         refine wp_seq ?_
         refine r_s (L := [(0, _), (3, _), (4, _)]) (T := [⟨[.old 0], _, [], [], [37]⟩, ⟨[.op 0 0], _, [], [0], [38]⟩, ⟨[.op 1 0], _, [], [0, 1], [39]⟩, ⟨[.op 2 0], _, [], [0, 1, 2], [40]⟩, ⟨[.op 3 0], _, [], Lr 4, [41]⟩, ⟨[.op 4 0], _, [], Lr 5, [42]⟩, ⟨[], _, [], [], [43]⟩]) (F := [.old 1, .old 2, .op 4 0, .op 5 0, .op 6 0]) (hst.pick [0, 1, 2] rfl) hb Za
           (o_p rfl (Zc rfl rfl u_0) <| o_p rfl (Z7 rfl rfl u_0 (fun _ _ ⟨_, _, _, e, _⟩ => ⟨_, e⟩)) <| o_p rfl (Ze Zv4 rfl rfl u_0) <| o_p rfl (Ze Zbu rfl rfl u_0) <| o_p rfl (Zg Zck rfl rfl u_0) <| o_p rfl (Zca Tryd.underlying23 rfl rfl u_0) <| o_p rfl (Zc rfl rfl c_i) <| o_n) (by kernel_rfl) (fun a g hst hb => ?_)
         obtain ⟨z13, hz1, H0⟩ := Zh H0
         refine Zcf (fun a w => ∃ (y12 : Zx) (g : G), w = g.w ∧ St 56 [(4, (pBox Z2 4 y12))] a g ∧ Base g0 g ∧ (.inr y12) = z13) ?_ ?_
         · rintro a w ⟨y12, g, rfl, hst, hb, rfl⟩
           refine Zn ?_
           refine r_s (T := [⟨[], _, [], [], [54]⟩, ⟨[.op 0 0, .old 0], _, [5], [0], [4]⟩]) (F := [.op 1 0]) hst hb Za
             (o_p rfl (Zlz rfl rfl c_i) <| o_p rfl (Z6 Zc8 rfl rfl u_1 u_0) <| o_n) (by kernel_rfl) (fun a g hst hb => ?_)
           refine wp_ret ?_
           refine Zt ?_
           refine Zk ?_
           obtain rfl := Option.some.inj H0
           obtain ⟨u0, hu0, hq0⟩ := Zba (P := Tryd.prog) Zc8 (hst.at 0 rfl)
           exact Zy rfl hst hb hu0 hq0
         · refine wp_block ?_
           refine wp_loop_ghost (fun n a w => ∃ (x6 : Zx) (x7 : Int) (g : G), w = g.w ∧ St 56 [(3, (Z1.ptr a1)), (4, (pBox Z2 4 x6)), (41, (Zm.sl.pd a0.r.List)), (42, (pInt .i64 (a0.r.List.length : Int))), (43, (pInt .i64 x7))] a g ∧ Base g0 g ∧ Zd1 a0 a1 n x6 x7 = some z13) (Int.toNat ((a0.r.List.length : Int) - (0 : Int)) + 1) ⟨(default : Zx), (0 : Int), g, rfl, (hst.pick [0, 1, 2, 3, 4] rfl), hb, hz1⟩ (fun n a w hI => ?_)
           obtain ⟨x6, x7, g, rfl, hst, hb, H1⟩ := hI
           cases n with
           | zero => exact absurd H1 (by simp [Zd1])
           | succ n =>
             rw [Zd1] at H1
             refine r_s (T := [⟨[.old 4, .old 3], _, [], [], [44]⟩]) (F := [.old 0, .old 1, .old 2, .old 3, .old 4, .op 0 0]) hst hb Za
               (o_p rfl (Zce rfl rfl u_0 u_1) <| o_n) (by kernel_rfl) (fun a g hst hb => ?_)
             refine wp_seq ?_
             refine wp_cond_split (hst.bool 5 rfl) (fun hc8 => ?_) (fun hc8 => ?_)
             · replace H1 := Zp hc8 H1
               refine wp_skip ?_
               refine Zn ?_
               refine wp_seq ?_
               refine wp_block ?_
               obtain ⟨e9, h10, H1⟩ := Zh H1
               refine r_s (L := [(3, _), (4, _), (41, _), (42, _), (43, _)]) (T := [⟨[.old 2, .old 4], _, [], [], [45]⟩, ⟨[.op 0 0], _, [], [0], [46]⟩, ⟨[], [(6, (pBox Zm 6 (default : Zj)))], [7], [], [6]⟩, ⟨[.op 1 0, .op 2 0], _, [7], [0, 1, 2], [6]⟩]) (F := [.old 0, .old 1, .op 3 0, .old 2, .old 3, .old 4]) (hst.pick [0, 1, 2, 3, 4] rfl) hb Za
                 (o_p rfl (Zbn Tryd.underlying23 Zen rfl rfl u_0 u_1 h10) <| o_p rfl (Zg Zc9 rfl rfl u_0) <| o_p rfl (Zbj (zs := [.float .f64 0, .string ByteArray.empty]) (by kernel_rfl) (fun g => Zey g) rfl rfl) <| o_p rfl (Zb4 Zc9 rfl rfl u_1 u_0) <| o_n) (by kernel_rfl) (fun a g hst hb => ?_)
               refine r_s (T := [⟨[.old 2], _, [], [], [47]⟩, ⟨[.op 0 0], _, [], [0], [48]⟩, ⟨[.old 0], _, [], [], [49]⟩, ⟨[.op 2 0], _, [], [2], [50]⟩, ⟨[.op 1 0, .op 3 0], _, [], Lr 4, [51]⟩]) (F := [.old 0, .old 1, .old 3, .old 4, .old 5, .op 4 0]) hst hb Za
                 (o_p rfl (Ze Zdg rfl rfl u_0) <| o_p rfl (Zg ty_9 rfl rfl u_0) <| o_p rfl (Ze Zf4 rfl rfl u_0) <| o_p rfl (Zg ty_9 rfl rfl u_0) <| o_p rfl (Zjj rfl rfl u_0 u_1) <| o_n) (by kernel_rfl) (fun a g hst hb => ?_)
               refine wp_cond_split (hst.bool 5 rfl) (fun hc11 => ?_) (fun hc11 => ?_)
               · replace H1 := Zp hc11 H1
                 refine r_s (L := [(4, _)]) (T := [⟨[], _, [], [], [52]⟩, ⟨[.op 0 0, .old 0], _, [5], [0], [4]⟩]) (F := [.op 1 0]) (hst.pick [1] rfl) hb Za
                   (o_p rfl (Zp0 rfl rfl ) <| o_p rfl (Z6 Zc8 rfl rfl u_1 u_0) <| o_n) (by kernel_rfl) (fun a g hst hb => ?_)
                 refine wp_ret ?_
                 refine Zt ?_
                 refine Zk ?_
                 refine Zk ?_
                 refine Zt ?_
                 refine Zk ?_
                 refine Zk ?_
                 refine Zt ?_
                 refine Zk ?_
                 obtain rfl := Option.some.inj H1
                 obtain rfl := Option.some.inj H0
                 obtain ⟨u0, hu0, hq0⟩ := Zba (P := Tryd.prog) Zc8 (hst.at 0 rfl)
                 exact Zy rfl hst hb hu0 hq0
               · replace H1 := Zr hc11 H1
                 refine wp_skip ?_
                 refine Zbe ?_
                 refine Zn ?_
                 refine r_g (L := [(3, _), (4, _), (41, _), (42, _), (43, _)]) (T := [⟨[.old 4], _, [], [], [53]⟩, ⟨[.op 0 0], _, [], [0], [43]⟩]) (F := [.old 0, .old 1, .old 2, .old 3, .op 1 0]) (hst.pick [0, 1, 2, 3, 4] rfl) hb Za
                   (o_p rfl (Zcq rfl rfl u_0 c_i rfl) <| o_p rfl (Zc rfl rfl u_0) <| o_n) (by kernel_rfl) (fun a g hst hb => ?_)
                 exact ⟨n, Nat.lt_succ_self _, x6, (IntKind.i64.wrap (x7 + (1 : Int))), g, rfl, (hst.pick [0, 1, 2, 3, 4] rfl), hb, H1⟩
             · replace H1 := Zr hc8 H1
               refine wp_exit ?_
               refine Zcg ?_
               refine Zcg ?_
               refine Zc4 ?_
               exact ⟨x6, g, rfl, (hst.pick [1] rfl), hb, Option.some.inj H1⟩
       · replace H0 := Zr hc5 H0
         refine wp_skip ?_
         refine Zbe ?_
         refine Zn ?_
         refine r_s (L := [(4, _)]) (T := [⟨[], _, [], [], [55]⟩, ⟨[.op 0 0, .old 0], _, [5], [0], [4]⟩]) (F := [.op 1 0]) (hst.pick [2] rfl) hb Za
           (o_p rfl (Zp0 rfl rfl ) <| o_p rfl (Z6 Zc8 rfl rfl u_1 u_0) <| o_n) (by kernel_rfl) (fun a g hst hb => ?_)
         refine wp_ret ?_
         obtain rfl := Option.some.inj H0
         obtain ⟨u0, hu0, hq0⟩ := Zba (P := Tryd.prog) Zc8 (hst.at 0 rfl)
         exact Zy rfl hst hb hu0 hq0
theorem Zku (a0 : Zw) (a1 : Zu) {r : Zx} (h : Zfy a0 a1 = some r) : FnL Tryd.prog 59 [(Zd9.ptr a0), (Z1.pd a1)] (Z2.pd r) := FnL.of (Zj3 a0 a1 h) (Zwt Znq)
theorem Zjs (a0 : Zw) (a1 : Int) (a2 : List Zu) {r : Int × Zw} (h : Zgm a0 a1 a2 = some r) : FnM Tryd.prog 28 Zc7 a0 r.2 [(pInt .i64 a1), (Z1.sl.pd a2)] (pInt .i64 r.1) := by
 have H0 := h
 unfold Zgm at H0
 clear h
 refine Zws (N := 96) Tryd.func28 rfl rfl (Nat.le_of_ble_eq_true rfl) rfl rfl (fun a g0 b0 hst hb => ?_)
 replace hst : St 96 [(0, (Zfj (some b0) Zbf Zbh hpT 0 a0)), (1, (pInt .i64 a1)), (2, (Z1.sl.pd a2)), (1002, (pST Zbf Zbh Zbt Z2 96 b0 a0))] _ _ := Zr2 hst
 refine r_s (T := [⟨[], _, [], [], [6]⟩]) (F := [.old 0, .old 1, .old 2, .old 3]) hst hb Za
   (o_p rfl (Zb rfl rfl c_i) <| o_n) (by kernel_rfl) (fun a g hst hb => ?_)
 refine wp_seq ?_
 refine r_s (T := [⟨[.old 1], _, [], [], [12]⟩, ⟨[.op 0 0], _, [], [0], [13]⟩, ⟨[.op 1 0], _, [], [0, 1], [14]⟩, ⟨[.op 2 0, .old 1], _, [], [0, 1, 2], [15]⟩, ⟨[.op 2 0, .old 0], _, [], [0, 1, 2], [16]⟩, ⟨[.op 2 0, .op 4 0], _, [], [0, 1, 2, 4], [17]⟩, ⟨[.op 2 0, .op 5 0, .old 3], _, [], [0, 1, 2, 4, 5], [18]⟩, ⟨[.op 2 0, .op 6 0], _, [], [0, 1, 2, 4, 5, 6], [19]⟩, ⟨[.op 2 0, .op 7 0], _, [], [0, 1, 2, 4, 5, 6, 7], [20]⟩, ⟨[.op 2 0, .op 3 0, .op 8 0], _, [], Lr 9, [21]⟩, ⟨[.op 2 0, .op 9 0], _, [], Lr 10, [22]⟩]) (F := [.old 0, .old 1, .old 2, .op 10 0, .old 3]) hst hb Za
   (o_p rfl (Zc rfl rfl u_0) <| o_p rfl (Zce rfl rfl u_0 c_i) <| o_p rfl (Zc rfl rfl u_0) <| o_g (g_f rfl rfl rfl (fun hG => Zc rfl rfl u_0)) <| o_g (g_f rfl rfl rfl (fun hG => Zc rfl rfl u_0)) <| o_g (g_f rfl rfl rfl (fun hG => Z7 rfl rfl (Opd.gd hG u_0) (fun _ _ ⟨_, ⟨_, _, _, e, _⟩, _⟩ => ⟨_, e⟩))) <| o_g (g_f rfl rfl rfl (fun hG => Ziq Zi8 (off := 8) (q := (pArr Z2 96 1000000 (Zbt a0))) (by kernel_rfl) (pr := id) (fun _ => rfl) (fun _ _ h => h) rfl rfl (Opd.joinS (Opd.gd hG u_0) u_1))) <| o_g (g_f rfl rfl rfl (fun hG => Zkl Zln rfl rfl (Opd.gd hG u_0))) <| o_g (g_f rfl rfl rfl (fun hG => Zv2 Tryd.underlying92 rfl rfl (Opd.gd hG u_0))) <| o_g (g_f rfl rfl rfl (fun hG => Zl0 rfl rfl (Opd.gd hG u_0) (Opd.gd hG u_1))) <| o_p rfl (Zbg rfl rfl u_0 (fun hz => (Opd.gd (bNF hz) u_1))) <| o_n) (by kernel_rfl) (fun a g hst hb => ?_)
 refine wp_cond_split (hst.bool 3 rfl) (fun hc1 => ?_) (fun hc1 => ?_)
 · replace H0 := Zp hc1 H0
   refine r_s (L := [(0, _), (1002, _)]) (T := [⟨[], _, [], [], [6]⟩]) (F := [.old 0, .op 0 0, .old 1]) (hst.pick [0, 4] rfl) hb Za
     (o_p rfl (Zb rfl rfl c_i) <| o_n) (by kernel_rfl) (fun a g hst hb => ?_)
   refine wp_ret ?_
   refine Zk ?_
   obtain rfl := Option.some.inj H0
   exact Zko rfl hst hb (Zi (s := 6)) (hst.at 1 rfl) (Zf7 (hst.at 0 rfl) (hst.at 2 rfl))
 · replace H0 := Zr hc1 H0
   refine wp_skip ?_
   refine Zn ?_
   obtain ⟨e2, h3, H0⟩ := Zh H0
   refine r_s (L := [(0, _), (1, _), (2, _), (1002, _)]) (T := [⟨[.old 0], _, [], [], [23]⟩, ⟨[.op 0 0], _, [], [0], [24]⟩, ⟨[.op 1 0, .old 3], _, [], [0, 1], [25]⟩, ⟨[.op 2 0], _, [], [0, 1, 2], [26]⟩, ⟨[.old 1], _, [], [], [27]⟩, ⟨[.op 3 0, .op 4 0], _, [], Lr 5, [28]⟩, ⟨[.op 5 0], _, [], Lr 6, [29]⟩, ⟨[], [(7, (pBox Z2 7 (default : Zx)))], [8], [], [7]⟩, ⟨[.op 6 0, .op 7 0], _, [8], Lr 8, [7]⟩]) (F := [.old 0, .old 1, .old 2, .op 8 0, .old 3]) (hst.pick [0, 1, 2, 4] rfl) hb Za
     (o_p rfl (Zc rfl rfl u_0) <| o_p rfl (Z7 rfl rfl u_0 (fun _ _ ⟨_, ⟨_, _, _, e, _⟩, _⟩ => ⟨_, e⟩)) <| o_p rfl (Ziq Zi8 (off := 8) (q := (pArr Z2 96 1000000 (Zbt a0))) (by kernel_rfl) (pr := id) (fun _ => rfl) (fun _ _ h => h) rfl rfl (Opd.joinS u_0 u_1)) <| o_p rfl (Zkl Zln rfl rfl u_0) <| o_p rfl (Zc rfl rfl u_0) <| o_p rfl (Zor Tryd.underlying92 Zo7 rfl rfl u_0 u_1 h3) <| o_p rfl (Ztd Zc8 rfl rfl u_0) <| o_p rfl (Zbj (zs := [.int .u64 0, .int .u64 0]) (by kernel_rfl) (fun g => Zgj g) rfl rfl) <| o_p rfl (Z6 Zc8 rfl rfl u_1 u_0) <| o_n) (by kernel_rfl) (fun a g hst hb => ?_)
   refine wp_seq ?_
   refine r_s (T := [⟨[.old 2], _, [], [], [30]⟩, ⟨[.op 0 0], _, [], [0], [31]⟩, ⟨[], _, [], [], [32]⟩]) (F := [.old 0, .old 1, .old 3, .op 0 0, .op 1 0, .op 2 0, .old 4]) hst hb Za
     (o_p rfl (Zc rfl rfl u_0) <| o_p rfl (Zca Tryd.underlying60 rfl rfl u_0) <| o_p rfl (Zc rfl rfl c_i) <| o_n) (by kernel_rfl) (fun a g hst hb => ?_)
   obtain ⟨z23, hz1, H0⟩ := Zh H0
   refine Zcf (fun a w => ∃ (y21 : Zw) (y22 : Zx) (g : G), w = g.w ∧ St 96 [(0, (Zfj (some b0) Zbf Zbh hpT 0 y21)), (1, (pInt .i64 a1)), (7, (pBox Z2 7 y22)), (1002, (pST Zbf Zbh Zbt Z2 96 b0 y21))] a g ∧ Base g0 g ∧ (.inr (y21, y22)) = z23) ?_ ?_
   · rintro a w ⟨y21, y22, g, rfl, hst, hb, rfl⟩
     refine Zn ?_
     obtain ⟨e24, h25, H0⟩ := Zh H0
     refine r_s (T := [⟨[.old 0], _, [], [], [89]⟩, ⟨[.op 0 0], _, [], [0], [90]⟩, ⟨[.op 1 0, .old 3], _, [], [0, 1], [91]⟩, ⟨[.op 2 0], _, [], [0, 1, 2], [92]⟩, ⟨[.old 1], _, [], [], [93]⟩, ⟨[.old 2], _, [], [], [94]⟩, ⟨[.op 3 0, .op 4 0], _, [], Lr 6, [95]⟩, ⟨[.op 5 0, .op 6 0, .old 3, .old 0], [(1002, (pST Zbf Zbh Zbt Z2 96 b0 ({ y21 with by_ := y21.by_.set (Int.toNat a1) y22 } : Zw))), (0, (Zfj (some b0) Zbf Zbh hpT 0 ({ y21 with by_ := y21.by_.set (Int.toNat a1) y22 } : Zw)))], [1000001], Lr 7, [0, 91, 92, 95, 1002]⟩]) (F := [.op 7 1, .op 7 0]) hst hb Za
       (o_p rfl (Zc rfl rfl u_0) <| o_p rfl (Z7 rfl rfl u_0 (fun _ _ ⟨_, ⟨_, _, _, e, _⟩, _⟩ => ⟨_, e⟩)) <| o_p rfl (Ziq Zi8 (off := 8) (q := (pArr Z2 96 1000000 (Zbt y21))) (by kernel_rfl) (pr := id) (fun _ => rfl) (fun _ _ h => h) rfl rfl (Opd.joinS u_0 u_1)) <| o_p rfl (Zkl Zln rfl rfl u_0) <| o_p rfl (Zc rfl rfl u_0) <| o_p rfl (Zdd Zc8 rfl rfl u_0) <| o_p rfl (Zor Tryd.underlying92 Zo7 rfl rfl u_0 u_1 h25) <| o_p rfl (Zo1 (lst := Zbt) (xv := y21) (u := e24) (x' := ({ y21 with by_ := y21.by_.set (Int.toNat a1) y22 } : Zw)) (fun _ => rfl) rfl rfl Zc8 rfl rfl u_3 u_2 u_1 u_0 (Zvr h25) (by decide)) <| o_n) (by kernel_rfl) (fun a g hst hb => ?_)
     refine r_s (T := [⟨[], _, [], [], [6]⟩]) (F := [.old 0, .op 0 0, .old 1]) hst hb Za
       (o_p rfl (Zb rfl rfl c_i) <| o_n) (by kernel_rfl) (fun a g hst hb => ?_)
     refine wp_ret ?_
     obtain rfl := Option.some.inj H0
     exact Zko rfl hst hb (Zi (s := 6)) (hst.at 1 rfl) (Zf7 (hst.at 0 rfl) (hst.at 2 rfl))
   · refine wp_block ?_
     refine wp_loop_ghost (fun n a w => ∃ (x4 : Zw) (x5 : Zx) (x6 : Int) (g : G), w = g.w ∧ St 96 [(0, (Zfj (some b0) Zbf Zbh hpT 0 x4)), (1, (pInt .i64 a1)), (7, (pBox Z2 7 x5)), (30, (Z1.sl.pd a2)), (31, (pInt .i64 (a2.length : Int))), (32, (pInt .i64 x6)), (1002, (pST Zbf Zbh Zbt Z2 96 b0 x4))] a g ∧ Base g0 g ∧ Zd0 a2 n x4 x5 x6 = some z23) (Int.toNat ((a2.length : Int) - (0 : Int)) + 1) ⟨a0, e2, (0 : Int), g, rfl, (hst.pick [0, 1, 2, 3, 4, 5, 6] rfl), hb, hz1⟩ (fun n a w hI => ?_)
     obtain ⟨x4, x5, x6, g, rfl, hst, hb, H1⟩ := hI
     cases n with
     | zero => exact absurd H1 (by simp [Zd0])
     | succ n =>
       rw [Zd0] at H1
       refine r_s (T := [⟨[.old 5, .old 4], _, [], [], [33]⟩]) (F := [.old 0, .old 1, .old 2, .old 3, .old 4, .old 5, .op 0 0, .old 6]) hst hb Za
         (o_p rfl (Zce rfl rfl u_0 u_1) <| o_n) (by kernel_rfl) (fun a g hst hb => ?_)
       refine wp_seq ?_
       refine wp_cond_split (hst.bool 6 rfl) (fun hc7 => ?_) (fun hc7 => ?_)
       · replace H1 := Zp hc7 H1
         refine wp_skip ?_
         refine Zn ?_
         refine wp_seq ?_
         refine wp_block ?_
         obtain ⟨e8, h9, H1⟩ := Zh H1
         refine r_s (L := [(0, _), (1, _), (7, _), (30, _), (31, _), (32, _), (1002, _)]) (T := [⟨[.old 3, .old 5], _, [], [], [34]⟩, ⟨[.op 0 0], _, [], [0], [35]⟩, ⟨[], [(9, (pBox Z1 9 (default : Zu)))], [10], [], [9]⟩, ⟨[.op 1 0, .op 2 0], _, [10], [0, 1, 2], [9]⟩]) (F := [.old 0, .old 1, .old 2, .op 3 0, .old 3, .old 4, .old 5, .old 6]) (hst.pick [0, 1, 2, 3, 4, 5, 7] rfl) hb Za
           (o_p rfl (Zbn Tryd.underlying60 Zyl rfl rfl u_0 u_1 h9) <| o_p rfl (Zg Zf9 rfl rfl u_0) <| o_p rfl (Zbj (zs := [.int .i64 0, .string ByteArray.empty, .int .i64 0, .float .f64 0, .string ByteArray.empty, .int .i64 0, .int .i64 0, .int .i64 0, .int .i64 0, .float .f64 0, .int .i64 0, .string ByteArray.empty, .slice none 0 0, .bool false]) (by kernel_rfl) (fun g => Ziy g) rfl rfl) <| o_p rfl (Zb4 Zf9 rfl rfl u_1 u_0) <| o_n) (by kernel_rfl) (fun a g hst hb => ?_)
         refine wp_seq ?_
         obtain ⟨r10, h11, H1⟩ := Zh H1
         refine r_s (T := [⟨[.old 3], _, [], [], [36]⟩, ⟨[.op 0 0], _, [], [0], [37]⟩, ⟨[.op 1 0], _, [], [0, 1], [10]⟩]) (F := [.old 0, .old 1, .old 2, .old 3, .op 2 0, .old 4, .old 5, .old 6, .old 7]) hst hb Za
           (o_p rfl (Zg Zf9 rfl rfl u_0) <| o_p rfl (Zs Zu5 (Zlf _ h11) rfl rfl (.cons u_0 .nil)) <| o_p rfl (Zb rfl rfl u_0) <| o_n) (by kernel_rfl) (fun a g hst hb => ?_)
         refine r_s (T := [⟨[.old 4], _, [], [], [38]⟩, ⟨[.op 0 0], _, [], [0], [39]⟩]) (F := [.old 0, .old 1, .old 2, .old 3, .old 4, .old 5, .old 6, .old 7, .op 1 0, .old 8]) hst hb Za
           (o_p rfl (Zc rfl rfl u_0) <| o_p rfl (Zcv rfl rfl u_0 c_i) <| o_n) (by kernel_rfl) (fun a g hst hb => ?_)
         refine wp_cond_split (hst.bool 8 rfl) (fun hc12 => ?_) (fun hc12 => ?_)
         · replace H1 := Zp hc12 H1
           refine r_s (L := [(0, _), (10, _), (1002, _)]) (T := [⟨[.old 1], _, [], [], [40]⟩, ⟨[.op 0 0], _, [], [0], [6]⟩]) (F := [.old 0, .op 1 0, .old 2]) (hst.pick [0, 4, 9] rfl) hb Za
             (o_p rfl (Zc rfl rfl u_0) <| o_p rfl (Zb rfl rfl u_0) <| o_n) (by kernel_rfl) (fun a g hst hb => ?_)
           refine wp_ret ?_
           refine Zk ?_
           refine Zt ?_
           refine Zk ?_
           refine Zk ?_
           refine Zt ?_
           refine Zk ?_
           refine Zk ?_
           obtain rfl := Option.some.inj H1
           obtain rfl := Option.some.inj H0
           exact Zko rfl hst hb (Zi (s := 6)) (hst.at 1 rfl) (Zf7 (hst.at 0 rfl) (hst.at 2 rfl))
         · replace H1 := Zr hc12 H1
           refine wp_skip ?_
           refine Zn ?_
           refine wp_seq ?_
           obtain ⟨r13, h14, H1⟩ := Zh H1
           refine r_s (L := [(0, _), (1, _), (7, _), (9, _), (30, _), (31, _), (32, _), (1002, _)]) (T := [⟨[.old 0], _, [], [], [41]⟩, ⟨[.op 0 0], _, [], [0], [42]⟩, ⟨[.op 1 0], _, [], [0, 1], [43]⟩, ⟨[.op 2 0], _, [], [0, 1, 2], [44]⟩, ⟨[.op 3 0], _, [], Lr 4, [45]⟩, ⟨[.old 3], _, [], [], [46]⟩, ⟨[.op 5 0], _, [], [5], [47]⟩, ⟨[.op 4 0, .op 6 0], _, [], Lr 7, [48]⟩, ⟨[.op 7 0], _, [], Lr 8, [49]⟩]) (F := [.old 0, .old 1, .old 2, .old 3, .old 4, .old 5, .old 6, .op 8 0, .old 7]) (hst.pick [0, 1, 2, 3, 5, 6, 7, 9] rfl) hb Za
             (o_p rfl (Zc rfl rfl u_0) <| o_p rfl (Z7 rfl rfl u_0 (fun _ _ ⟨_, ⟨_, _, _, e, _⟩, _⟩ => ⟨_, e⟩)) <| o_p rfl (Zr6 Ztz (off := 0) (by kernel_rfl) (fun _ => rfl) rfl rfl u_0) <| o_p rfl (Zry Zcn (off2 := 0) (by kernel_rfl) (by decide) rfl rfl u_0) <| o_p rfl (Zug ty_3 rfl rfl u_0) <| o_p rfl (Ze Zdm rfl rfl u_0) <| o_p rfl (Zg ty_3 rfl rfl u_0) <| o_p rfl (Zs Zr0 (Zhy _ _ h14) rfl rfl (.cons u_0 (.cons u_1 .nil))) <| o_p rfl (Zb7 rfl rfl u_0) <| o_n) (by kernel_rfl) (fun a g hst hb => ?_)
           refine wp_cond_split (hst.bool 7 rfl) (fun hc15 => ?_) (fun hc15 => ?_)
           · replace H1 := Zp hc15 H1
             refine r_s (L := [(0, _), (1002, _)]) (T := [⟨[], _, [], [], [6]⟩]) (F := [.old 0, .op 0 0, .old 1]) (hst.pick [0, 8] rfl) hb Za
               (o_p rfl (Zb rfl rfl c_i) <| o_n) (by kernel_rfl) (fun a g hst hb => ?_)
             refine wp_ret ?_
             refine Zk ?_
             refine Zt ?_
             refine Zk ?_
             refine Zk ?_
             refine Zt ?_
             refine Zk ?_
             refine Zk ?_
             obtain rfl := Option.some.inj H1
             obtain rfl := Option.some.inj H0
             exact Zko rfl hst hb (Zi (s := 6)) (hst.at 1 rfl) (Zf7 (hst.at 0 rfl) (hst.at 2 rfl))
           · replace H1 := Zr hc15 H1
             refine wp_skip ?_
             refine Zn ?_
             obtain ⟨r16, h17, H1⟩ := Zh H1
             refine r_s (L := [(0, _), (1, _), (7, _), (9, _), (30, _), (31, _), (32, _), (1002, _)]) (T := [⟨[.old 0], _, [], [], [50]⟩, ⟨[.old 3], _, [], [], [51]⟩, ⟨[.op 0 0, .op 1 0, .old 7], _, [], [0, 1], [52]⟩, ⟨[], [(11, (pBox Z2 11 (default : Zx)))], [12], [], [11]⟩, ⟨[.op 2 0, .op 3 0], _, [12], Lr 4, [11]⟩]) (F := [.old 0, .old 1, .old 2, .old 3, .op 4 0, .old 4, .old 5, .old 6, .old 7]) (hst.pick [0, 1, 2, 3, 4, 5, 6, 8] rfl) hb Za
               (o_p rfl (Zc rfl rfl u_0) <| o_p rfl (Zg Zf9 rfl rfl u_0) <| o_p rfl (Zp2 Zjo Zzy (Zku _ _ h17) rfl rfl (Opd.joinS u_0 u_2) rfl (.cons u_1 .nil)) <| o_p rfl (Zbj (zs := [.int .u64 0, .int .u64 0]) (by kernel_rfl) (fun g => Zgj g) rfl rfl) <| o_p rfl (Zb4 Zc8 rfl rfl u_1 u_0) <| o_n) (by kernel_rfl) (fun a g hst hb => ?_)
             refine wp_seq ?_
             refine wp_block ?_
             refine r_s (T := [⟨[.old 4], _, [], [], [54]⟩, ⟨[.op 0 0], _, [], [0], [55]⟩, ⟨[.old 2], _, [], [], [56]⟩, ⟨[.op 2 0], _, [], [2], [57]⟩, ⟨[.op 1 0, .op 3 0], _, [], Lr 4, [58]⟩, ⟨[.op 4 0], _, [], Lr 5, [59]⟩, ⟨[.op 5 0, .old 3], _, [], Lr 6, [60]⟩, ⟨[.op 5 0, .op 6 0], _, [], Lr 7, [61]⟩, ⟨[.op 5 0, .op 7 0], _, [], Lr 8, [62]⟩, ⟨[.op 5 0, .op 8 0], _, [], Lr 9, [63]⟩, ⟨[.op 9 0], _, [], Lr 10, [53]⟩]) (F := [.old 0, .old 1, .old 2, .old 4, .old 5, .old 6, .old 7, .op 10 0, .old 8]) hst hb Za
               (o_p rfl (Ze Zg0 rfl rfl u_0) <| o_p rfl (Zg Zfw rfl rfl u_0) <| o_p rfl (Zo Zg0 (off := 0) (by kernel_rfl) rfl rfl u_0) <| o_p rfl (Zbi Zfw rfl rfl u_0) <| o_p rfl (Zb9 rfl rfl u_0 u_1) <| o_p rfl (Zc rfl rfl u_0) <| o_g (g_t rfl rfl rfl (fun hG => Ze Zdm rfl rfl u_0)) <| o_g (g_t rfl rfl rfl (fun hG => Zg ty_3 rfl rfl (Opd.gd hG u_0))) <| o_g (g_t rfl rfl rfl (fun hG => Z8 rfl rfl (Opd.gd hG u_0) c_i)) <| o_p rfl (Zbb rfl rfl u_0 (fun hz => (Opd.gd hz u_1))) <| o_p rfl (Zb rfl rfl u_0) <| o_n) (by kernel_rfl) (fun a g hst hb => ?_)
             refine wp_cond_split (hst.bool 7 rfl) (fun hc18 => ?_) (fun hc18 => ?_)
             · replace H1 := Zp hc18 H1
               refine r_s (L := [(0, _), (1002, _)]) (T := [⟨[], _, [], [], [6]⟩]) (F := [.old 0, .op 0 0, .old 1]) (hst.pick [0, 8] rfl) hb Za
                 (o_p rfl (Zb rfl rfl c_i) <| o_n) (by kernel_rfl) (fun a g hst hb => ?_)
               refine wp_ret ?_
               refine Zt ?_
               refine Zk ?_
               refine Zt ?_
               refine Zk ?_
               refine Zk ?_
               refine Zt ?_
               refine Zk ?_
               refine Zk ?_
               obtain rfl := Option.some.inj H1
               obtain rfl := Option.some.inj H0
               exact Zko rfl hst hb (Zi (s := 6)) (hst.at 1 rfl) (Zf7 (hst.at 0 rfl) (hst.at 2 rfl))
             · replace H1 := Zr hc18 H1
               refine r_s (L := [(0, _), (1, _), (7, _), (11, _), (30, _), (31, _), (32, _), (1002, _)]) (T := [⟨[.old 3], _, [], [], [65]⟩, ⟨[.op 0 0], _, [], [0], [66]⟩, ⟨[.old 2], _, [], [], [67]⟩, ⟨[.op 2 0], _, [], [2], [68]⟩, ⟨[.op 1 0, .op 3 0], _, [], Lr 4, [69]⟩, ⟨[.op 4 0], _, [], Lr 5, [64]⟩]) (F := [.old 0, .old 1, .old 2, .old 3, .old 4, .old 5, .old 6, .op 5 0, .old 7]) (hst.pick [0, 1, 2, 3, 4, 5, 6, 8] rfl) hb Za
                 (o_p rfl (Ze Zg0 rfl rfl u_0) <| o_p rfl (Zg Zfw rfl rfl u_0) <| o_p rfl (Zo Zg0 (off := 0) (by kernel_rfl) rfl rfl u_0) <| o_p rfl (Zbi Zfw rfl rfl u_0) <| o_p rfl (Zb9 rfl rfl u_0 u_1) <| o_p rfl (Zb rfl rfl u_0) <| o_n) (by kernel_rfl) (fun a g hst hb => ?_)
               refine wp_cond_split (hst.bool 7 rfl) (fun hc19 => ?_) (fun hc19 => ?_)
               · replace H1 := Zp hc19 H1
                 refine r_s (L := [(0, _), (1002, _)]) (T := [⟨[], _, [], [], [6]⟩]) (F := [.old 0, .op 0 0, .old 1]) (hst.pick [0, 8] rfl) hb Za
                   (o_p rfl (Zb rfl rfl c_i) <| o_n) (by kernel_rfl) (fun a g hst hb => ?_)
                 refine wp_ret ?_
                 refine Zt ?_
                 refine Zk ?_
                 refine Zt ?_
                 refine Zk ?_
                 refine Zk ?_
                 refine Zt ?_
                 refine Zk ?_
                 refine Zk ?_
                 obtain rfl := Option.some.inj H1
                 obtain rfl := Option.some.inj H0
                 exact Zko rfl hst hb (Zi (s := 6)) (hst.at 1 rfl) (Zf7 (hst.at 0 rfl) (hst.at 2 rfl))
               · replace H1 := Zr hc19 H1
                 refine r_s (L := [(0, _), (1, _), (7, _), (11, _), (30, _), (31, _), (32, _), (1002, _)]) (T := [⟨[.old 3], _, [], [], [71]⟩, ⟨[.op 0 0], _, [], [0], [72]⟩, ⟨[.old 2], _, [], [], [73]⟩, ⟨[.op 2 0], _, [], [2], [74]⟩, ⟨[.op 1 0, .op 3 0], _, [], Lr 4, [75]⟩, ⟨[.op 4 0], _, [], Lr 5, [70]⟩]) (F := [.old 0, .old 1, .old 2, .old 3, .old 4, .old 5, .old 6, .op 5 0, .old 7]) (hst.pick [0, 1, 2, 3, 4, 5, 6, 8] rfl) hb Za
                   (o_p rfl (Ze Zh9 rfl rfl u_0) <| o_p rfl (Zg Zfw rfl rfl u_0) <| o_p rfl (Zo Zh9 (off := 1) (by kernel_rfl) rfl rfl u_0) <| o_p rfl (Zbi Zfw rfl rfl u_0) <| o_p rfl (Zb9 rfl rfl u_0 u_1) <| o_p rfl (Zb rfl rfl u_0) <| o_n) (by kernel_rfl) (fun a g hst hb => ?_)
                 refine wp_cond_split (hst.bool 7 rfl) (fun hc20 => ?_) (fun hc20 => ?_)
                 · replace H1 := Zp hc20 H1
                   refine r_s (L := [(0, _), (1002, _)]) (T := [⟨[], _, [], [], [6]⟩]) (F := [.old 0, .op 0 0, .old 1]) (hst.pick [0, 8] rfl) hb Za
                     (o_p rfl (Zb rfl rfl c_i) <| o_n) (by kernel_rfl) (fun a g hst hb => ?_)
                   refine wp_ret ?_
                   refine Zt ?_
                   refine Zk ?_
                   refine Zt ?_
                   refine Zk ?_
                   refine Zk ?_
                   refine Zt ?_
                   refine Zk ?_
                   refine Zk ?_
                   obtain rfl := Option.some.inj H1
                   obtain rfl := Option.some.inj H0
                   exact Zko rfl hst hb (Zi (s := 6)) (hst.at 1 rfl) (Zf7 (hst.at 0 rfl) (hst.at 2 rfl))
                 · replace H1 := Zr hc20 H1
                   refine wp_skip ?_
                   refine Zbe ?_
                   refine Zn ?_
                   refine r_s (L := [(0, _), (1, _), (7, _), (11, _), (30, _), (31, _), (32, _), (1002, _)]) (T := [⟨[.old 2], _, [], [], [76]⟩, ⟨[.op 0 0], _, [], [0], [77]⟩, ⟨[.old 3], _, [], [], [78]⟩, ⟨[.op 2 0], _, [], [2], [79]⟩, ⟨[.op 1 0, .op 3 0], _, [], Lr 4, [80]⟩, ⟨[.old 2], _, [], Lr 5, [81]⟩, ⟨[.op 4 0, .op 5 0, .old 2], _, [8], Lr 6, [7, 76, 81]⟩]) (F := [.old 0, .old 1, .op 6 0, .old 3, .old 4, .old 5, .old 6, .old 7]) (hst.pick [0, 1, 2, 3, 4, 5, 6, 8] rfl) hb Za
                     (o_p rfl (Zo Zg0 (off := 0) (by kernel_rfl) rfl rfl u_0) <| o_p rfl (Zbi Zfw rfl rfl u_0) <| o_p rfl (Ze Zg0 rfl rfl u_0) <| o_p rfl (Zg Zfw rfl rfl u_0) <| o_p rfl (Zei rfl rfl u_0 u_1 rfl) <| o_p rfl (Zo Zg0 (off := 0) (by kernel_rfl) rfl rfl u_0) <| o_p rfl (Zwv Zfw rfl rfl u_2 u_1 u_0) <| o_n) (by kernel_rfl) (fun a g hst hb => ?_)
                   refine r_g (T := [⟨[.old 2], _, [], [], [82]⟩, ⟨[.op 0 0], _, [], [0], [83]⟩, ⟨[.old 3], _, [], [], [84]⟩, ⟨[.op 2 0], _, [], [2], [85]⟩, ⟨[.op 1 0, .op 3 0], _, [], Lr 4, [86]⟩, ⟨[.old 2], _, [], Lr 5, [87]⟩, ⟨[.op 4 0, .op 5 0, .old 2], _, [8], Lr 6, [7, 82, 87]⟩]) (F := [.old 0, .old 1, .op 6 0, .old 4, .old 5, .old 6, .old 7]) hst hb Za
                     (o_p rfl (Zo Zh9 (off := 1) (by kernel_rfl) rfl rfl u_0) <| o_p rfl (Zbi Zfw rfl rfl u_0) <| o_p rfl (Ze Zh9 rfl rfl u_0) <| o_p rfl (Zg Zfw rfl rfl u_0) <| o_p rfl (Zei rfl rfl u_0 u_1 rfl) <| o_p rfl (Zo Zh9 (off := 1) (by kernel_rfl) rfl rfl u_0) <| o_p rfl (Zw4 Zfw rfl rfl u_2 u_1 u_0) <| o_n) (by kernel_rfl) (fun a g hst hb => ?_)
                   refine Zbe ?_
                   refine Zn ?_
                   refine r_g (T := [⟨[.old 5], _, [], [], [88]⟩, ⟨[.op 0 0], _, [], [0], [32]⟩]) (F := [.old 0, .old 1, .old 2, .old 3, .old 4, .op 1 0, .old 6]) hst hb Za
                     (o_p rfl (Zcq rfl rfl u_0 c_i rfl) <| o_p rfl (Zc rfl rfl u_0) <| o_n) (by kernel_rfl) (fun a g hst hb => ?_)
                   exact ⟨n, Nat.lt_succ_self _, x4, ({ ({ x5 with up := (IntKind.u64.wrap (x5.up - r16.up)) }) with down := (IntKind.u64.wrap (({ x5 with up := (IntKind.u64.wrap (x5.up - r16.up)) }).down - r16.down)) }), (IntKind.i64.wrap (x6 + (1 : Int))), g, rfl, (hst.pick [0, 1, 2, 3, 4, 5, 6] rfl), hb, H1⟩
       · replace H1 := Zr hc7 H1
         refine wp_exit ?_
         refine Zcg ?_
         refine Zcg ?_
         refine Zc4 ?_
         exact ⟨x4, x5, g, rfl, (hst.pick [0, 1, 2, 7] rfl), hb, Option.some.inj H1⟩
theorem Zhv (a0 : Zw) (a1 : Int) (a2 : List Zu) {r : Zw × Int} (h : Zg5 a0 a1 a2 = some r) : FnM Tryd.prog 28 Zc7 a0 r.1 [(pInt .i64 a1), (Z1.sl.pd a2)] (pInt .i64 r.2) := by
 obtain ⟨u, h1, h2⟩ := Zh h
 obtain rfl := Option.some.inj h2
 exact Zjs a0 a1 a2 h1
theorem Zj8 {r : Bool} (h : Zfg = some r) : FnOk Tryd.prog 8 [] (Z5 r) := by
 have H0 := h
 unfold Zfg at H0
 clear h
 refine Zbo (N := 81) Tryd.func8 rfl rfl (Nat.le_of_ble_eq_true rfl) rfl rfl (fun a g0 hst hb => ?_)
 refine r_s (T := [⟨[], _, [], [], [0]⟩]) (F := []) hst hb Za
   (o_p rfl (Zb rfl rfl c_b) <| o_n) (by kernel_rfl) (fun a g hst hb => ?_)
 refine r_s (T := [⟨[], _, [], [], [11]⟩, ⟨[], [(1, (pBox Zf 1 (default : Zd)))], [2], [], [1]⟩, ⟨[.op 0 0, .op 1 0], _, [2], [0, 1], [1]⟩]) (F := [.op 2 0]) hst hb Za
   (o_p rfl (Zqf rfl rfl c_i c_i c_i) <| o_p rfl (Zbj (zs := [.int .i64 0, .int .i64 0, .int .i64 0, .int .i64 0, .float .f64 0, .int .i64 0, .string ByteArray.empty, .slice none 0 0]) (by kernel_rfl) (fun g => Zbr g) rfl rfl) <| o_p rfl (Zb4 Z4 rfl rfl u_1 u_0) <| o_n) (by kernel_rfl) (fun a g hst hb => ?_)
 obtain ⟨r1, h2, H0⟩ := Zh H0
 refine r_s (T := [⟨[.old 0], _, [], [], [13]⟩, ⟨[.op 0 0], [(14, (pTup [(Zi2 Zc7 14 r1.1), (pInt .i64 r1.2)]))], [15, 1000015], [0], [14]⟩, ⟨[.op 1 0], _, [], [0, 1], [12]⟩, ⟨[.op 2 0], _, [], [0, 1, 2], [15]⟩, ⟨[.op 2 0], _, [], [0, 1, 2], [16]⟩, ⟨[.op 3 0], _, [], Lr 4, [2]⟩, ⟨[.op 4 0], _, [], Lr 6, [3]⟩]) (F := [.old 0, .op 5 0, .op 6 0]) hst hb Za
   (o_p rfl (Zg Z4 rfl rfl u_0) <| o_p rfl (Zqo Zzx (Zqb _ _ h2) rfl rfl rfl (.cons u_0 (.cons c_i .nil))) <| o_p rfl (Zc rfl rfl u_0) <| o_p rfl (Z9 rfl rfl u_0 rfl) <| o_p rfl (Z9 rfl rfl u_0 rfl) <| o_p rfl (Zb rfl rfl u_0) <| o_p rfl (Zb rfl rfl u_0) <| o_n) (by kernel_rfl) (fun a g hst hb => ?_)
 refine wp_seq ?_
 refine r_s (T := [⟨[.old 2], _, [], [], [17]⟩, ⟨[.op 0 0], _, [], [0], [18]⟩, ⟨[.op 1 0], _, [], [0, 1], [19]⟩, ⟨[.op 2 0, .old 1], _, [], [0, 1, 2], [20]⟩, ⟨[.op 2 0, .op 3 0], _, [], Lr 4, [21]⟩, ⟨[.op 2 0, .op 4 0], _, [], Lr 5, [22]⟩]) (F := [.old 0, .old 1, .op 5 0]) hst hb Za
   (o_p rfl (Zc rfl rfl u_0) <| o_p rfl (Zcv rfl rfl u_0 c_i) <| o_p rfl (Zc rfl rfl u_0) <| o_g (g_f rfl rfl rfl (fun hG => Zc rfl rfl u_0)) <| o_g (g_f rfl rfl rfl (fun hG => Zxa Tryd.underlying54 rfl rfl (Opd.gd hG u_0) Ztn)) <| o_p rfl (Zbg rfl rfl u_0 (fun hz => (Opd.gd (bNF hz) u_1))) <| o_n) (by kernel_rfl) (fun a g hst hb => ?_)
 refine wp_cond_split (hst.bool 2 rfl) (fun hc3 => ?_) (fun hc3 => ?_)
 · replace H0 := Zp hc3 H0
   refine r_s (L := []) (T := [⟨[], _, [], [], [0]⟩]) (F := [.op 0 0]) (hst.pick [] rfl) hb Za
     (o_p rfl (Zb rfl rfl c_b) <| o_n) (by kernel_rfl) (fun a g hst hb => ?_)
   refine wp_ret ?_
   refine Zk ?_
   obtain rfl := Option.some.inj H0
   exact Zy rfl hst hb (Zi (s := 0)) (hst.at 0 rfl)
 · replace H0 := Zr hc3 H0
   refine wp_skip ?_
   refine Zn ?_
   obtain ⟨n4, h5, H0⟩ := Zh H0; obtain ⟨r6, h7, H0⟩ := Zh H0
   refine r_s (L := [(1, _), (2, _)]) (T := [⟨[.old 1], _, [], [], [24]⟩, ⟨[.op 0 0, .old 1], [(25, (pTup [(pInt .u64 r6.1), (pInt .u64 r6.2)])), (2, (Zi2 Zc7 14 (some n4)))], [15, 1000015], [0], [2, 24, 25]⟩, ⟨[.op 1 0], _, [], [0, 1], [23]⟩, ⟨[.op 2 0], _, [], [0, 1, 2], [26]⟩, ⟨[.op 2 0], _, [], [0, 1, 2], [27]⟩, ⟨[.op 3 0], _, [], Lr 4, [4]⟩, ⟨[.op 4 0], _, [], Lr 6, [5]⟩]) (F := [.old 0, .op 1 1, .op 5 0, .op 6 0]) (hst.pick [0, 1] rfl) hb Za
     (o_p rfl (Zc rfl rfl u_0) <| o_p rfl (OB.objO (Zkm Zuk (Zht _ _ h7) rfl rfl rfl (by decide) (Opd.imp u_1 (fun _ _ h => Zfk h5 h)) (Opd.imp u_0 (fun _ _ h => Zfk h5 h)) (.cons c_i .nil))) <| o_p rfl (Zc rfl rfl u_0) <| o_p rfl (Z9 rfl rfl u_0 rfl) <| o_p rfl (Z9 rfl rfl u_0 rfl) <| o_p rfl (Zb rfl rfl u_0) <| o_p rfl (Zb rfl rfl u_0) <| o_n) (by kernel_rfl) (fun a g hst hb => ?_)
   obtain ⟨r8, h9, H0⟩ := Zh H0
   refine r_s (T := [⟨[.old 1], _, [], [], [29]⟩, ⟨[.op 0 0, .old 1], [(30, (pTup [(pInt .u64 r8.1), (pInt .u64 r8.2)])), (2, (Zi2 Zc7 14 (some n4)))], [15, 1000015], [0], [2, 29, 30]⟩, ⟨[.op 1 0], _, [], [0, 1], [28]⟩, ⟨[.op 2 0], _, [], [0, 1, 2], [31]⟩, ⟨[.op 2 0], _, [], [0, 1, 2], [32]⟩, ⟨[.op 3 0], _, [], Lr 4, [6]⟩, ⟨[.op 4 0], _, [], Lr 6, [7]⟩]) (F := [.old 0, .op 1 1, .old 2, .old 3, .op 5 0, .op 6 0]) hst hb Za
     (o_p rfl (Zc rfl rfl u_0) <| o_p rfl (OB.objO (Zkm Zuk (Zht _ _ h9) rfl rfl rfl (by decide) (Opd.imp u_1 (fun _ _ h => Zfk rfl h)) (Opd.imp u_0 (fun _ _ h => Zfk rfl h)) (.cons c_i .nil))) <| o_p rfl (Zc rfl rfl u_0) <| o_p rfl (Z9 rfl rfl u_0 rfl) <| o_p rfl (Z9 rfl rfl u_0 rfl) <| o_p rfl (Zb rfl rfl u_0) <| o_p rfl (Zb rfl rfl u_0) <| o_n) (by kernel_rfl) (fun a g hst hb => ?_)
   refine wp_seq ?_
   refine r_s (T := ⟨[.old 2], _, [], [], [33]⟩ :: ⟨[.op 0 0], _, [], [0], [34]⟩ :: ⟨[.op 1 0], _, [], [0, 1], [35]⟩ :: ⟨[.op 2 0, .old 3], _, [], [0, 1, 2], [36]⟩ :: ⟨[.op 2 0, .op 3 0], _, [], Lr 4, [37]⟩ :: ⟨[.op 2 0, .op 4 0], _, [], Lr 5, [38]⟩ :: ⟨[.op 5 0], _, [], Lr 6, [39]⟩ :: ⟨[.op 6 0, .old 4], _, [], Lr 7, [40]⟩ :: ⟨[.op 6 0, .op 7 0], _, [], Lr 8, [41]⟩ :: ⟨[.op 6 0, .op 8 0], _, [], Lr 9, [42]⟩ :: ⟨[.op 9 0], _, [], Lr 10, [43]⟩ :: ⟨[.op 10 0, .old 5], _, [], Lr 11, [44]⟩ :: ⟨[.op 10 0, .op 11 0], _, [], Lr 12, [45]⟩ :: ⟨[.op 10 0, .op 12 0], _, [], Lr 13, [46]⟩ :: []) (F := [.old 0, .old 1, .op 13 0]) hst hb Za
     (o_p rfl (Zc rfl rfl u_0) <| o_p rfl (Zcv rfl rfl u_0 c_i) <| o_p rfl (Zc rfl rfl u_0) <| o_g (g_f rfl rfl rfl (fun hG => Zc rfl rfl u_0)) <| o_g (g_f rfl rfl rfl (fun hG => Zcv rfl rfl (Opd.gd hG u_0) c_i)) <| o_p rfl (Zbg rfl rfl u_0 (fun hz => (Opd.gd (bNF hz) u_1))) <| o_p rfl (Zc rfl rfl u_0) <| o_g (g_f rfl rfl rfl (fun hG => Zc rfl rfl u_0)) <| o_g (g_f rfl rfl rfl (fun hG => Zcv rfl rfl (Opd.gd hG u_0) c_i)) <| o_p rfl (Zbg rfl rfl u_0 (fun hz => (Opd.gd (bNF hz) u_1))) <| o_p rfl (Zc rfl rfl u_0) <| o_g (g_f rfl rfl rfl (fun hG => Zc rfl rfl u_0)) <| o_g (g_f rfl rfl rfl (fun hG => Zcv rfl rfl (Opd.gd hG u_0) c_i)) <| o_p rfl (Zbg rfl rfl u_0 (fun hz => (Opd.gd (bNF hz) u_1))) <| o_n) (by kernel_rfl) (fun a g hst hb => ?_)
   refine wp_cond_split (hst.bool 2 rfl) (fun hc10 => ?_) (fun hc10 => ?_)
   · replace H0 := Zp hc10 H0
     refine r_s (L := []) (T := [⟨[], _, [], [], [0]⟩]) (F := [.op 0 0]) (hst.pick [] rfl) hb Za
       (o_p rfl (Zb rfl rfl c_b) <| o_n) (by kernel_rfl) (fun a g hst hb => ?_)
     refine wp_ret ?_
     refine Zk ?_
     obtain rfl := Option.some.inj H0
     exact Zy rfl hst hb (Zi (s := 0)) (hst.at 0 rfl)
   · replace H0 := Zr hc10 H0
     refine wp_skip ?_
     refine Zn ?_
     refine r_s (L := [(1, _), (2, _)]) (T := [⟨[], _, [], [], [47]⟩, ⟨[], [(8, (pBox Z1 8 (default : Zu)))], [9], [], [8]⟩, ⟨[.op 0 0, .op 1 0], _, [9], [0, 1], [8]⟩]) (F := [.old 0, .old 1, .op 2 0]) (hst.pick [0, 1] rfl) hb Za
       (o_p rfl (Zqs rfl rfl c_i c_s c_i) <| o_p rfl (Zbj (zs := [.int .i64 0, .string ByteArray.empty, .int .i64 0, .float .f64 0, .string ByteArray.empty, .int .i64 0, .int .i64 0, .int .i64 0, .int .i64 0, .float .f64 0, .int .i64 0, .string ByteArray.empty, .slice none 0 0, .bool false]) (by kernel_rfl) (fun g => Ziy g) rfl rfl) <| o_p rfl (Zb4 Zf9 rfl rfl u_1 u_0) <| o_n) (by kernel_rfl) (fun a g hst hb => ?_)
     obtain ⟨r11, h12, H0⟩ := Zh H0
     refine r_s (T := [⟨[.old 0], _, [], [], [49]⟩, ⟨[.op 0 0], _, [], [0], [50]⟩, ⟨[.op 1 0], _, [], [0, 1], [48]⟩, ⟨[.op 2 0], _, [], [0, 1, 2], [51]⟩, ⟨[.op 2 0], _, [], [0, 1, 2], [52]⟩, ⟨[], [(9, (pBox Zf 9 (default : Zd)))], [10], [], [9]⟩, ⟨[.op 3 0, .op 5 0], _, [10], [0, 1, 2, 3, 5], [9]⟩, ⟨[.op 4 0], _, [], Lr 7, [10]⟩]) (F := [.old 0, .old 1, .old 2, .op 6 0, .op 7 0]) hst hb Za
       (o_p rfl (Zg Z4 rfl rfl u_0) <| o_p rfl (Zs Zrx (Zia _ h12) rfl rfl (.cons u_0 .nil)) <| o_p rfl (Zc rfl rfl u_0) <| o_p rfl (Z9 rfl rfl u_0 rfl) <| o_p rfl (Z9 rfl rfl u_0 rfl) <| o_p rfl (Zbj (zs := [.int .i64 0, .int .i64 0, .int .i64 0, .int .i64 0, .float .f64 0, .int .i64 0, .string ByteArray.empty, .slice none 0 0]) (by kernel_rfl) (fun g => Zbr g) rfl rfl) <| o_p rfl (Zb4 Z4 rfl rfl u_1 u_0) <| o_p rfl (Zb rfl rfl u_0) <| o_n) (by kernel_rfl) (fun a g hst hb => ?_)
     obtain ⟨r13, h14, H0⟩ := Zh H0; obtain ⟨r15, h16, H0⟩ := Zh H0; obtain ⟨r17, h18, H0⟩ := Zh H0; obtain ⟨r19, h20, H0⟩ := Zh H0; obtain ⟨r21, h22, H0⟩ := Zh H0
     refine r_s (T := ⟨[.old 1], _, [], [], [53]⟩ :: ⟨[.old 2], _, [], [], [54]⟩ :: ⟨[.op 1 0], _, [], [1], [55]⟩ :: ⟨[.op 0 0, .op 2 0, .old 1], [(56, (pInt .i64 r13.2)), (2, (Zi2 Zc7 14 (some r13.1)))], [15, 1000015], [0, 1, 2], [2, 53, 56]⟩ :: ⟨[.op 3 0], _, [], Lr 4, [57]⟩ :: ⟨[.op 4 0], _, [], Lr 5, [58]⟩ :: ⟨[.op 5 0, .op 3 1], _, [], Lr 6, [59]⟩ :: ⟨[.op 5 0, .old 2], _, [], Lr 6, [60]⟩ :: ⟨[.op 5 0, .op 7 0], _, [], [0, 1, 2, 3, 4, 5, 7], [61]⟩ :: ⟨[.op 5 0, .op 6 0, .op 8 0, .op 3 1], [(62, (pIf (r13.2 == (9 : Int)) (pInt .i64 r15.2))), (2, (pObj Zc7 14 (if (r13.2 == (9 : Int)) = true then r15.1 else r13.1)))], [15, 1000015], Lr 9, [2, 53, 59, 62]⟩ :: ⟨[.op 5 0, .op 9 0], _, [], Lr 10, [63]⟩ :: ⟨[.op 5 0, .op 10 0], _, [], Lr 11, [64]⟩ :: ⟨[.op 11 0], _, [], Lr 12, [65]⟩ :: ⟨[.op 12 0, .old 4], _, [], Lr 13, [66]⟩ :: ⟨[.op 12 0, .op 13 0], _, [], Lr 14, [67]⟩ :: ⟨[.op 14 0], _, [], Lr 15, [68]⟩ :: ⟨[.op 15 0, .old 0], _, [], Lr 16, [69]⟩ :: ⟨[.op 15 0, .old 3], _, [], Lr 16, [70]⟩ :: ⟨[.op 15 0, .old 2], _, [], Lr 16, [71]⟩ :: ⟨[.op 15 0, .op 17 0, .op 18 0], _, [], 0 :: 1 :: 2 :: 3 :: 4 :: 5 :: 6 :: 7 :: 8 :: 9 :: 10 :: 11 :: 12 :: 13 :: 14 :: 15 :: 17 :: 18 :: [], [72]⟩ :: ⟨[.op 15 0, .op 19 0], _, [], 0 :: 1 :: 2 :: 3 :: 4 :: 5 :: 6 :: 7 :: 8 :: 9 :: 10 :: 11 :: 12 :: 13 :: 14 :: 15 :: 17 :: 18 :: 19 :: [], [73]⟩ :: ⟨[.op 15 0, .op 16 0, .op 20 0], _, [], Lr 21, [74]⟩ :: ⟨[.op 15 0, .op 21 0], _, [], Lr 22, [75]⟩ :: ⟨[.op 15 0, .op 22 0], _, [], Lr 23, [76]⟩ :: ⟨[.op 15 0, .op 23 0], _, [], Lr 24, [77]⟩ :: ⟨[.op 24 0], _, [], Lr 25, [78]⟩ :: ⟨[.op 25 0], _, [], Lr 26, [79]⟩ :: ⟨[.op 25 0, .op 26 0], _, [], Lr 27, [80]⟩ :: ⟨[.op 27 0], _, [], Lr 28, [0]⟩ :: []) (F := [.op 28 0]) hst hb Za
       (o_p rfl (Zc rfl rfl u_0) <| o_p rfl (Zg Zf9 rfl rfl u_0) <| o_p rfl (Zh1 Zvi (xs := [.tmp 54]) (.cons u_0 .nil) (by decide) rfl rfl) <| o_p rfl (OB.objO (Zkm Zup (Zhv _ _ _ h14) rfl rfl rfl (by decide) (Opd.imp u_2 (fun _ _ h => Zfk rfl h)) (Opd.imp u_0 (fun _ _ h => Zfk rfl h)) (.cons c_i (.cons u_1 .nil)))) <| o_p rfl (Z8 rfl rfl u_0 c_i) <| o_p rfl (Zc rfl rfl u_0) <| o_g (g_t rfl rfl rfl (fun hG => Zc rfl rfl u_0)) <| o_g (g_t rfl rfl rfl (fun hG => Zg Zf9 rfl rfl u_0)) <| o_g (g_t rfl rfl rfl (fun hG => Zh1 Zvi (xs := [.tmp 60]) (.cons (Opd.gd hG u_0) .nil) (by decide) rfl rfl)) <| o_g (OT.guardM (r13.2 == (9 : Int)) (gT (r13.2 == (9 : Int))).1 (gT (r13.2 == (9 : Int))).2 rfl rfl rfl (by decide) (Opd.imp u_2 (fun _ _ h => Zfk rfl h)) (fun hG => Zkm Zup (Zhv _ _ _ (Zbp h16 hG)) rfl rfl rfl (by decide) (Opd.imp u_2 (fun _ _ h => Zfk rfl h)) (Opd.imp (Opd.gd hG u_0) (fun _ _ h => Zfk rfl h)) (.cons c_i (.cons (Opd.gd hG u_1) .nil))) rfl) <| o_g (g_t rfl rfl rfl (fun hG => Z8 rfl rfl (Opd.gd hG u_0) c_i)) <| o_p rfl (Zbb rfl rfl u_0 (fun hz => (Opd.gd hz u_1))) <| o_p rfl (Zc rfl rfl u_0) <| o_g (g_t rfl rfl rfl (fun hG => Zc rfl rfl u_0)) <| o_p rfl (Zbb rfl rfl u_0 (fun hz => (Opd.gd hz u_1))) <| o_p rfl (Zc rfl rfl u_0) <| o_g (g_t rfl rfl rfl (fun hG => Zg Z4 rfl rfl u_0)) <| o_g (g_t rfl rfl rfl (fun hG => Zg Z4 rfl rfl u_0)) <| o_g (g_t rfl rfl rfl (fun hG => Zg Zf9 rfl rfl u_0)) <| o_g (g_t rfl rfl rfl (fun hG => Zs Zza (Zqp _ _ (Zbp h18 hG)) rfl rfl (.cons (Opd.gd hG u_0) (.cons (Opd.gd hG u_1) .nil)))) <| o_g (g_t rfl rfl rfl (fun hG => Zh1 Zrv (xs := [.tmp 72]) (.cons (Opd.gd hG u_0) .nil) (by decide) rfl rfl)) <| o_g (g_t rfl rfl rfl (fun hG => Zs Zu4 (Zj6 _ _ (Zbp h20 hG)) rfl rfl (.cons (Opd.gd hG u_0) (.cons (Opd.gd hG u_1) .nil)))) <| o_g (g_t rfl rfl rfl (fun hG => Zpy Zb6 rfl rfl (Opd.gd hG u_0))) <| o_g (g_t rfl rfl rfl (fun hG => Z8 rfl rfl (Opd.gd hG u_0) c_i)) <| o_p rfl (Zbb rfl rfl u_0 (fun hz => (Opd.gd hz u_1))) <| o_p rfl (Zc rfl rfl u_0) <| o_g (g_t rfl rfl rfl (fun hG => Zs Zr0 (Zhy _ _ (Zbp h22 hG)) rfl rfl (.cons c_i (.cons c_i .nil)))) <| o_p rfl (Zbb rfl rfl u_0 (fun hz => (Opd.gd hz u_1))) <| o_p rfl (Zb rfl rfl u_0) <| o_n) (by kernel_rfl) (fun a g hst hb => ?_)
     refine wp_ret ?_
     obtain rfl := Option.some.inj H0
     exact Zy rfl hst hb (Zi (s := 0)) (hst.at 0 rfl)
theorem Zip (a0 : Zd) {r : Int} (h : Zer a0 = some r) : FnOk Tryd.prog 30 [(Zf.pd a0)] (pInt .i64 r) := by
 have H0 := h
 unfold Zer at H0
 clear h
 refine Zbo (N := 27) Tryd.func30 rfl rfl (Nat.le_of_ble_eq_true rfl) rfl rfl (fun a g0 hst hb => ?_)
 refine r_s (T := [⟨[.old 0], _, [], [], [1]⟩, ⟨[], _, [], [], [2]⟩]) (F := [.op 0 0]) hst hb Za
   (o_p rfl (Zbk rfl rfl u_0) <| o_p rfl (Zb rfl rfl c_i) <| o_n) (by kernel_rfl) (fun a g hst hb => ?_)
 refine wp_seq ?_
 refine r_s (T := [⟨[.old 0], _, [], [], [5]⟩, ⟨[.op 0 0], _, [], [0], [6]⟩, ⟨[.op 1 0], _, [], [0, 1], [7]⟩, ⟨[.op 2 0], _, [], [0, 1, 2], [8]⟩, ⟨[.op 3 0], _, [], Lr 4, [9]⟩, ⟨[.op 4 0, .old 0], _, [], Lr 5, [10]⟩, ⟨[.op 4 0, .op 5 0], _, [], Lr 6, [11]⟩, ⟨[.op 4 0, .op 6 0], _, [], Lr 7, [12]⟩, ⟨[.op 4 0, .op 7 0], _, [], Lr 8, [13]⟩, ⟨[.op 4 0, .op 8 0], _, [], Lr 9, [14]⟩]) (F := [.old 0, .op 9 0]) hst hb Za
   (o_p rfl (Ze Zbu rfl rfl u_0) <| o_p rfl (Zg Zck rfl rfl u_0) <| o_p rfl (Zca Tryd.underlying23 rfl rfl u_0) <| o_p rfl (Zb9 rfl rfl u_0 c_i) <| o_p rfl (Zc rfl rfl u_0) <| o_g (g_f rfl rfl rfl (fun hG => Ze Zf1 rfl rfl u_0)) <| o_g (g_f rfl rfl rfl (fun hG => Zg ty_9 rfl rfl (Opd.gd hG u_0))) <| o_g (g_f rfl rfl rfl (fun hG => Zfa Tryd.underlying9 rfl rfl (Opd.gd hG u_0))) <| o_g (g_f rfl rfl rfl (fun hG => Zb9 rfl rfl (Opd.gd hG u_0) c_i)) <| o_p rfl (Zbg rfl rfl u_0 (fun hz => (Opd.gd (bNF hz) u_1))) <| o_n) (by kernel_rfl) (fun a g hst hb => ?_)
 refine wp_cond_split (hst.bool 1 rfl) (fun hc1 => ?_) (fun hc1 => ?_)
 · replace H0 := Zp hc1 H0
   refine r_s (L := []) (T := [⟨[], _, [], [], [2]⟩]) (F := [.op 0 0]) (hst.pick [] rfl) hb Za
     (o_p rfl (Zb rfl rfl c_i) <| o_n) (by kernel_rfl) (fun a g hst hb => ?_)
   refine wp_ret ?_
   refine Zk ?_
   obtain rfl := Option.some.inj H0
   exact Zy rfl hst hb (Zi (s := 2)) (hst.at 0 rfl)
 · replace H0 := Zr hc1 H0
   refine wp_skip ?_
   refine Zn ?_
   refine wp_seq ?_
   refine r_s (L := [(1, _)]) (T := [⟨[.old 0], _, [], [], [15]⟩, ⟨[.op 0 0], _, [], [0], [16]⟩, ⟨[.op 1 0], _, [], [0, 1], [17]⟩, ⟨[], _, [], [], [18]⟩]) (F := [.op 1 0, .op 2 0, .op 3 0]) (hst.pick [0] rfl) hb Za
     (o_p rfl (Ze Zbu rfl rfl u_0) <| o_p rfl (Zg Zck rfl rfl u_0) <| o_p rfl (Zca Tryd.underlying23 rfl rfl u_0) <| o_p rfl (Zc rfl rfl c_i) <| o_n) (by kernel_rfl) (fun a g hst hb => ?_)
   obtain ⟨z7, hz1, H0⟩ := Zh H0
   refine Zcf (fun a w => ∃ (g : G), w = g.w ∧ St 27 [] a g ∧ Base g0 g ∧ (.inr ()) = z7) ?_ ?_
   · rintro a w ⟨g, rfl, hst, hb, rfl⟩
     refine Zn ?_
     refine r_s (T := [⟨[], _, [], [], [2]⟩]) (F := [.op 0 0]) hst hb Za
       (o_p rfl (Zb rfl rfl c_i) <| o_n) (by kernel_rfl) (fun a g hst hb => ?_)
     refine wp_ret ?_
     obtain rfl := Option.some.inj H0
     exact Zy rfl hst hb (Zi (s := 2)) (hst.at 0 rfl)
   · refine wp_block ?_
     refine wp_loop_ghost (fun n a w => ∃ (x2 : Int) (g : G), w = g.w ∧ St 27 [(16, (Zm.sl.pd a0.List)), (17, (pInt .i64 (a0.List.length : Int))), (18, (pInt .i64 x2))] a g ∧ Base g0 g ∧ Zc0 a0 n x2 = some z7) (Int.toNat ((a0.List.length : Int) - (0 : Int)) + 1) ⟨(0 : Int), g, rfl, (hst.pick [0, 1, 2] rfl), hb, hz1⟩ (fun n a w hI => ?_)
     obtain ⟨x2, g, rfl, hst, hb, H1⟩ := hI
     cases n with
     | zero => exact absurd H1 (by simp [Zc0])
     | succ n =>
       rw [Zc0] at H1
       refine r_s (T := [⟨[.old 2, .old 1], _, [], [], [19]⟩]) (F := [.old 0, .old 1, .old 2, .op 0 0]) hst hb Za
         (o_p rfl (Zce rfl rfl u_0 u_1) <| o_n) (by kernel_rfl) (fun a g hst hb => ?_)
       refine wp_seq ?_
       refine wp_cond_split (hst.bool 3 rfl) (fun hc3 => ?_) (fun hc3 => ?_)
       · replace H1 := Zp hc3 H1
         refine wp_skip ?_
         refine Zn ?_
         refine wp_seq ?_
         refine wp_block ?_
         obtain ⟨e4, h5, H1⟩ := Zh H1
         refine r_s (L := [(16, _), (17, _), (18, _)]) (T := [⟨[.old 0, .old 2], _, [], [], [20]⟩, ⟨[.op 0 0], _, [], [0], [21]⟩, ⟨[], [(4, (pBox Zm 4 (default : Zj)))], [5], [], [4]⟩, ⟨[.op 1 0, .op 2 0], _, [5], [0, 1, 2], [4]⟩]) (F := [.op 3 0, .old 0, .old 1, .old 2]) (hst.pick [0, 1, 2] rfl) hb Za
           (o_p rfl (Zbn Tryd.underlying23 Zen rfl rfl u_0 u_1 h5) <| o_p rfl (Zg Zc9 rfl rfl u_0) <| o_p rfl (Zbj (zs := [.float .f64 0, .string ByteArray.empty]) (by kernel_rfl) (fun g => Zey g) rfl rfl) <| o_p rfl (Zb4 Zc9 rfl rfl u_1 u_0) <| o_n) (by kernel_rfl) (fun a g hst hb => ?_)
         refine r_s (T := [⟨[.old 0], _, [], [], [22]⟩, ⟨[.op 0 0], _, [], [0], [23]⟩, ⟨[.op 1 0], _, [], [0, 1], [24]⟩, ⟨[.op 2 0], _, [], [0, 1, 2], [25]⟩]) (F := [.old 1, .old 2, .old 3, .op 3 0]) hst hb Za
           (o_p rfl (Ze Zdg rfl rfl u_0) <| o_p rfl (Zg ty_9 rfl rfl u_0) <| o_p rfl (Zfa Tryd.underlying9 rfl rfl u_0) <| o_p rfl (Zb9 rfl rfl u_0 c_i) <| o_n) (by kernel_rfl) (fun a g hst hb => ?_)
         refine wp_cond_split (hst.bool 3 rfl) (fun hc6 => ?_) (fun hc6 => ?_)
         · replace H1 := Zp hc6 H1
           refine r_s (L := []) (T := [⟨[], _, [], [], [2]⟩]) (F := [.op 0 0]) (hst.pick [] rfl) hb Za
             (o_p rfl (Zb rfl rfl c_i) <| o_n) (by kernel_rfl) (fun a g hst hb => ?_)
           refine wp_ret ?_
           refine Zt ?_
           refine Zk ?_
           refine Zk ?_
           refine Zt ?_
           refine Zk ?_
           refine Zk ?_
           obtain rfl := Option.some.inj H1
           obtain rfl := Option.some.inj H0
           exact Zy rfl hst hb (Zi (s := 2)) (hst.at 0 rfl)
         · replace H1 := Zr hc6 H1
           refine wp_skip ?_
           refine Zbe ?_
           refine Zn ?_
           refine r_g (L := [(16, _), (17, _), (18, _)]) (T := [⟨[.old 2], _, [], [], [26]⟩, ⟨[.op 0 0], _, [], [0], [18]⟩]) (F := [.old 0, .old 1, .op 1 0]) (hst.pick [0, 1, 2] rfl) hb Za
             (o_p rfl (Zcq rfl rfl u_0 c_i rfl) <| o_p rfl (Zc rfl rfl u_0) <| o_n) (by kernel_rfl) (fun a g hst hb => ?_)
           exact ⟨n, Nat.lt_succ_self _, (IntKind.i64.wrap (x2 + (1 : Int))), g, rfl, (hst.pick [0, 1, 2] rfl), hb, H1⟩
       · replace H1 := Zr hc3 H1
         refine wp_exit ?_
         refine Zcg ?_
         refine Zcg ?_
         refine Zc4 ?_
         exact ⟨g, rfl, (hst.pick [] rfl), hb, Option.some.inj H1⟩
theorem Zlc (a0 : Zu) {r : Int} (h : Zfi a0 = some r) : FnOk Tryd.prog 31 [(Z1.pd a0)] (pInt .i64 r) := by
 have H0 := h
 unfold Zfi at H0
 clear h
 refine Zbo (N := 19) Tryd.func31 rfl rfl (Nat.le_of_ble_eq_true rfl) rfl rfl (fun a g0 hst hb => ?_)
 refine r_s (T := [⟨[.old 0], _, [], [], [1]⟩, ⟨[], _, [], [], [2]⟩]) (F := [.op 0 0]) hst hb Za
   (o_p rfl (Zbk rfl rfl u_0) <| o_p rfl (Zb rfl rfl c_i) <| o_n) (by kernel_rfl) (fun a g hst hb => ?_)
 refine wp_seq ?_
 obtain ⟨r1, h2, H0⟩ := Zh H0
 refine r_s (T := ⟨[.old 0], _, [], [], [3]⟩ :: ⟨[.op 0 0], _, [], [0], [4]⟩ :: ⟨[.op 1 0], _, [], [0, 1], [5]⟩ :: ⟨[.op 2 0], _, [], [0, 1, 2], [6]⟩ :: ⟨[.op 3 0], _, [], Lr 4, [7]⟩ :: ⟨[.op 4 0, .old 0], _, [], Lr 5, [8]⟩ :: ⟨[.op 4 0, .op 5 0], _, [], Lr 6, [9]⟩ :: ⟨[.op 4 0, .op 6 0], _, [], Lr 7, [10]⟩ :: ⟨[.op 4 0, .op 7 0], _, [], Lr 8, [11]⟩ :: ⟨[.op 4 0, .op 8 0], _, [], Lr 9, [12]⟩ :: ⟨[.op 9 0], _, [], Lr 10, [13]⟩ :: ⟨[.op 10 0, .old 0], _, [], Lr 11, [14]⟩ :: ⟨[.op 10 0, .op 11 0], _, [], Lr 12, [15]⟩ :: ⟨[.op 10 0, .op 12 0], _, [], Lr 13, [16]⟩ :: ⟨[.op 10 0, .op 13 0], _, [], Lr 14, [17]⟩ :: ⟨[.op 10 0, .op 14 0], _, [], Lr 15, [18]⟩ :: []) (F := [.op 15 0]) hst hb Za
   (o_p rfl (Ze Zn5 rfl rfl u_0) <| o_p rfl (Zg ty_9 rfl rfl u_0) <| o_p rfl (Zfa Tryd.underlying9 rfl rfl u_0) <| o_p rfl (Zb9 rfl rfl u_0 c_i) <| o_p rfl (Zc rfl rfl u_0) <| o_g (g_f rfl rfl rfl (fun hG => Ze Zf4 rfl rfl u_0)) <| o_g (g_f rfl rfl rfl (fun hG => Zg ty_9 rfl rfl (Opd.gd hG u_0))) <| o_g (g_f rfl rfl rfl (fun hG => Zfa Tryd.underlying9 rfl rfl (Opd.gd hG u_0))) <| o_g (g_f rfl rfl rfl (fun hG => Zb9 rfl rfl (Opd.gd hG u_0) c_i)) <| o_p rfl (Zbg rfl rfl u_0 (fun hz => (Opd.gd (bNF hz) u_1))) <| o_p rfl (Zc rfl rfl u_0) <| o_g (g_f rfl rfl rfl (fun hG => Ze Zl2 rfl rfl u_0)) <| o_g (g_f rfl rfl rfl (fun hG => Zg Z4 rfl rfl (Opd.gd hG u_0))) <| o_g (g_f rfl rfl rfl (fun hG => Zs Zvh (Zip _ (Zbp h2 hG)) rfl rfl (.cons (Opd.gd hG u_0) .nil))) <| o_g (g_f rfl rfl rfl (fun hG => Zb9 rfl rfl (Opd.gd hG u_0) c_i)) <| o_p rfl (Zbg rfl rfl u_0 (fun hz => (Opd.gd (bNF hz) u_1))) <| o_n) (by kernel_rfl) (fun a g hst hb => ?_)
 refine wp_cond_split (hst.bool 0 rfl) (fun hc3 => ?_) (fun hc3 => ?_)
 · replace H0 := Zp hc3 H0
   refine r_s (L := []) (T := [⟨[], _, [], [], [2]⟩]) (F := [.op 0 0]) (hst.pick [] rfl) hb Za
     (o_p rfl (Zb rfl rfl c_i) <| o_n) (by kernel_rfl) (fun a g hst hb => ?_)
   refine wp_ret ?_
   refine Zk ?_
   obtain rfl := Option.some.inj H0
   exact Zy rfl hst hb (Zi (s := 2)) (hst.at 0 rfl)
 · replace H0 := Zr hc3 H0
   refine wp_skip ?_
   refine Zn ?_
   refine r_s (L := []) (T := [⟨[], _, [], [], [2]⟩]) (F := [.op 0 0]) (hst.pick [] rfl) hb Za
     (o_p rfl (Zb rfl rfl c_i) <| o_n) (by kernel_rfl) (fun a g hst hb => ?_)
   refine wp_ret ?_
   obtain rfl := Option.some.inj H0
   exact Zy rfl hst hb (Zi (s := 2)) (hst.at 0 rfl)
theorem Zld (a0 : Zd) (a1 : List Zbw) {r : Bool} (h : Zeq a0 a1 = some r) : FnOk Tryd.prog 9 [(Zf.pd a0), (Zdb.sl.pd a1)] (Z5 r) := by
 have H0 := h
 unfold Zeq at H0
 clear h
 refine Zbo (N := 26) Tryd.func9 rfl rfl (Nat.le_of_ble_eq_true rfl) rfl rfl (fun a g0 hst hb => ?_)
 refine r_s (T := [⟨[.old 0], _, [], [], [2]⟩, ⟨[], _, [], [], [4]⟩]) (F := [.old 1, .op 0 0]) hst hb Za
   (o_p rfl (Zbk rfl rfl u_0) <| o_p rfl (Zb rfl rfl c_b) <| o_n) (by kernel_rfl) (fun a g hst hb => ?_)
 refine wp_seq ?_
 obtain ⟨r1, h2, H0⟩ := Zh H0
 refine r_s (T := [⟨[.old 1], _, [], [], [7]⟩, ⟨[.op 0 0], _, [], [0], [8]⟩, ⟨[.op 1 0], _, [], [0, 1], [9]⟩, ⟨[.op 2 0], _, [], [0, 1, 2], [10]⟩, ⟨[.op 3 0, .old 0], _, [], Lr 4, [11]⟩, ⟨[.op 3 0, .op 4 0], _, [], Lr 5, [12]⟩, ⟨[.op 3 0, .op 5 0], _, [], Lr 6, [13]⟩, ⟨[.op 3 0, .op 6 0], _, [], Lr 7, [14]⟩]) (F := [.old 0, .op 7 0]) hst hb Za
   (o_p rfl (Zg Z4 rfl rfl u_0) <| o_p rfl (Zs Zvh (Zip _ h2) rfl rfl (.cons u_0 .nil)) <| o_p rfl (Zb9 rfl rfl u_0 c_i) <| o_p rfl (Zc rfl rfl u_0) <| o_g (g_f rfl rfl rfl (fun hG => Zc rfl rfl u_0)) <| o_g (g_f rfl rfl rfl (fun hG => Zca Tryd.underlying40 rfl rfl (Opd.gd hG u_0))) <| o_g (g_f rfl rfl rfl (fun hG => Zb9 rfl rfl (Opd.gd hG u_0) c_i)) <| o_p rfl (Zbg rfl rfl u_0 (fun hz => (Opd.gd (bNF hz) u_1))) <| o_n) (by kernel_rfl) (fun a g hst hb => ?_)
 refine wp_cond_split (hst.bool 1 rfl) (fun hc3 => ?_) (fun hc3 => ?_)
 · replace H0 := Zp hc3 H0
   refine r_s (L := []) (T := [⟨[], _, [], [], [4]⟩]) (F := [.op 0 0]) (hst.pick [] rfl) hb Za
     (o_p rfl (Zb rfl rfl c_b) <| o_n) (by kernel_rfl) (fun a g hst hb => ?_)
   refine wp_ret ?_
   refine Zk ?_
   obtain rfl := Option.some.inj H0
   exact Zy rfl hst hb (Zi (s := 4)) (hst.at 0 rfl)
 · replace H0 := Zr hc3 H0
   refine wp_skip ?_
   refine Zn ?_
   refine wp_seq ?_
   refine r_s (L := [(1, _)]) (T := [⟨[.old 0], _, [], [], [15]⟩, ⟨[.op 0 0], _, [], [0], [16]⟩, ⟨[], _, [], [], [17]⟩]) (F := [.op 0 0, .op 1 0, .op 2 0]) (hst.pick [0] rfl) hb Za
     (o_p rfl (Zc rfl rfl u_0) <| o_p rfl (Zca Tryd.underlying40 rfl rfl u_0) <| o_p rfl (Zc rfl rfl c_i) <| o_n) (by kernel_rfl) (fun a g hst hb => ?_)
   obtain ⟨z11, hz1, H0⟩ := Zh H0
   refine Zcf (fun a w => ∃ (g : G), w = g.w ∧ St 26 [] a g ∧ Base g0 g ∧ (.inr ()) = z11) ?_ ?_
   · rintro a w ⟨g, rfl, hst, hb, rfl⟩
     refine Zn ?_
     refine r_s (T := [⟨[], _, [], [], [4]⟩]) (F := [.op 0 0]) hst hb Za
       (o_p rfl (Zb rfl rfl c_b) <| o_n) (by kernel_rfl) (fun a g hst hb => ?_)
     refine wp_ret ?_
     obtain rfl := Option.some.inj H0
     exact Zy rfl hst hb (Zi (s := 4)) (hst.at 0 rfl)
   · refine wp_block ?_
     refine wp_loop_ghost (fun n a w => ∃ (x4 : Int) (g : G), w = g.w ∧ St 26 [(15, (Zdb.sl.pd a1)), (16, (pInt .i64 (a1.length : Int))), (17, (pInt .i64 x4))] a g ∧ Base g0 g ∧ Zcr a1 n x4 = some z11) (Int.toNat ((a1.length : Int) - (0 : Int)) + 1) ⟨(0 : Int), g, rfl, (hst.pick [0, 1, 2] rfl), hb, hz1⟩ (fun n a w hI => ?_)
     obtain ⟨x4, g, rfl, hst, hb, H1⟩ := hI
     cases n with
     | zero => exact absurd H1 (by simp [Zcr])
     | succ n =>
       rw [Zcr] at H1
       refine r_s (T := [⟨[.old 2, .old 1], _, [], [], [18]⟩]) (F := [.old 0, .old 1, .old 2, .op 0 0]) hst hb Za
         (o_p rfl (Zce rfl rfl u_0 u_1) <| o_n) (by kernel_rfl) (fun a g hst hb => ?_)
       refine wp_seq ?_
       refine wp_cond_split (hst.bool 3 rfl) (fun hc5 => ?_) (fun hc5 => ?_)
       · replace H1 := Zp hc5 H1
         refine wp_skip ?_
         refine Zn ?_
         refine wp_seq ?_
         refine wp_block ?_
         obtain ⟨e6, h7, H1⟩ := Zh H1
         refine r_s (L := [(15, _), (16, _), (17, _)]) (T := [⟨[.old 0, .old 2], _, [], [], [19]⟩, ⟨[.op 0 0], _, [], [0], [20]⟩, ⟨[], [(6, (pBox Zdb 6 (default : Zbw)))], [7], [], [6]⟩, ⟨[.op 1 0, .op 2 0], _, [7], [0, 1, 2], [6]⟩]) (F := [.op 3 0, .old 0, .old 1, .old 2]) (hst.pick [0, 1, 2] rfl) hb Za
           (o_p rfl (Zbn Tryd.underlying40 Zyx rfl rfl u_0 u_1 h7) <| o_p rfl (Zg Zva rfl rfl u_0) <| o_p rfl (Zbj (zs := [.int .i64 0, .int .i64 0, .string ByteArray.empty, .int .i64 0, .float .f64 0, .string ByteArray.empty, .int .i64 0, .int .i64 0, .int .i64 0, .int .i64 0, .float .f64 0, .int .i64 0, .string ByteArray.empty, .slice none 0 0, .bool false]) (by kernel_rfl) (fun g => Zk2 g) rfl rfl) <| o_p rfl (Zb4 Zva rfl rfl u_1 u_0) <| o_n) (by kernel_rfl) (fun a g hst hb => ?_)
         obtain ⟨r8, h9, H1⟩ := Zh H1
         refine r_s (T := [⟨[.old 0], _, [], [], [21]⟩, ⟨[.op 0 0], _, [], [0], [22]⟩, ⟨[.op 1 0], _, [], [0, 1], [23]⟩, ⟨[.op 2 0], _, [], [0, 1, 2], [24]⟩]) (F := [.old 1, .old 2, .old 3, .op 3 0]) hst hb Za
           (o_p rfl (Ze Zwg rfl rfl u_0) <| o_p rfl (Zg Zf9 rfl rfl u_0) <| o_p rfl (Zs Zzs (Zlc _ h9) rfl rfl (.cons u_0 .nil)) <| o_p rfl (Zb9 rfl rfl u_0 c_i) <| o_n) (by kernel_rfl) (fun a g hst hb => ?_)
         refine wp_cond_split (hst.bool 3 rfl) (fun hc10 => ?_) (fun hc10 => ?_)
         · replace H1 := Zp hc10 H1
           refine r_s (L := []) (T := [⟨[], _, [], [], [4]⟩]) (F := [.op 0 0]) (hst.pick [] rfl) hb Za
             (o_p rfl (Zb rfl rfl c_b) <| o_n) (by kernel_rfl) (fun a g hst hb => ?_)
           refine wp_ret ?_
           refine Zt ?_
           refine Zk ?_
           refine Zk ?_
           refine Zt ?_
           refine Zk ?_
           refine Zk ?_
           obtain rfl := Option.some.inj H1
           obtain rfl := Option.some.inj H0
           exact Zy rfl hst hb (Zi (s := 4)) (hst.at 0 rfl)
         · replace H1 := Zr hc10 H1
           refine wp_skip ?_
           refine Zbe ?_
           refine Zn ?_
           refine r_g (L := [(15, _), (16, _), (17, _)]) (T := [⟨[.old 2], _, [], [], [25]⟩, ⟨[.op 0 0], _, [], [0], [17]⟩]) (F := [.old 0, .old 1, .op 1 0]) (hst.pick [0, 1, 2] rfl) hb Za
             (o_p rfl (Zcq rfl rfl u_0 c_i rfl) <| o_p rfl (Zc rfl rfl u_0) <| o_n) (by kernel_rfl) (fun a g hst hb => ?_)
           exact ⟨n, Nat.lt_succ_self _, (IntKind.i64.wrap (x4 + (1 : Int))), g, rfl, (hst.pick [0, 1, 2] rfl), hb, H1⟩
       · replace H1 := Zr hc5 H1
         refine wp_exit ?_
         refine Zcg ?_
         refine Zcg ?_
         refine Zc4 ?_
         exact ⟨g, rfl, (hst.pick [] rfl), hb, Option.some.inj H1⟩
theorem Zgn (a0 : Nat) {r : Bool} (h : Zdp a0 = some r) : FnOk Tryd.prog 72 [(pFlt a0)] (Z5 r) := by
 have H0 := h
 unfold Zdp at H0
 clear h
 refine Zbo (N := 6) Tryd.func72 rfl rfl (Nat.le_of_ble_eq_true rfl) rfl rfl (fun a g0 hst hb => ?_)
 refine r_s (T := [⟨[], _, [], [], [2]⟩]) (F := [.old 0]) hst hb Za
   (o_p rfl (Zb rfl rfl c_b) <| o_n) (by kernel_rfl) (fun a g hst hb => ?_)
 refine r_s (T := [⟨[.old 0], _, [], [], [3]⟩, ⟨[.old 0], _, [], [], [4]⟩, ⟨[.op 0 0, .op 1 0], _, [], [0, 1], [5]⟩, ⟨[.op 2 0], _, [], [0, 1, 2], [2]⟩]) (F := [.op 3 0]) hst hb Za
   (o_p rfl (Zc rfl rfl u_0) <| o_p rfl (Zc rfl rfl u_0) <| o_p rfl (Zrm rfl rfl u_0 u_1) <| o_p rfl (Zb rfl rfl u_0) <| o_n) (by kernel_rfl) (fun a g hst hb => ?_)
 refine wp_ret ?_
 obtain rfl := Option.some.inj H0
 exact Zy rfl hst hb (Zi (s := 2)) (hst.at 0 rfl)
theorem Zh3 (a0 : Nat) {r : Bool} (h : Zd3 a0 = some r) : FnOk Tryd.prog 80 [(pFlt a0)] (Z5 r) := by
 have H0 := h
 unfold Zd3 at H0
 clear h
 refine Zbo (N := 10) Tryd.func80 rfl rfl (Nat.le_of_ble_eq_true rfl) rfl rfl (fun a g0 hst hb => ?_)
 refine r_s (T := [⟨[], _, [], [], [2]⟩]) (F := [.old 0]) hst hb Za
   (o_p rfl (Zb rfl rfl c_b) <| o_n) (by kernel_rfl) (fun a g hst hb => ?_)
 refine wp_seq ?_
 refine r_s (T := [⟨[.old 0], _, [], [], [3]⟩, ⟨[.op 0 0], _, [], [0], [4]⟩]) (F := [.old 0, .op 1 0]) hst hb Za
   (o_p rfl (Zc rfl rfl u_0) <| o_p rfl (Zn6 rfl rfl u_0 c_f) <| o_n) (by kernel_rfl) (fun a g hst hb => ?_)
 refine wp_cond_split (hst.bool 1 rfl) (fun hc1 => ?_) (fun hc1 => ?_)
 · replace H0 := Zp hc1 H0
   obtain ⟨f2, h3, H0⟩ := Zh H0
   refine r_s (L := [(0, _)]) (T := [⟨[.old 0], _, [], [], [5]⟩, ⟨[.op 0 0], _, [], [0], [6]⟩, ⟨[.op 1 0], _, [], [0, 1], [7]⟩, ⟨[.op 2 0], _, [], [0, 1, 2], [2]⟩]) (F := [.op 3 0]) (hst.pick [0] rfl) hb Za
     (o_p rfl (Zc rfl rfl u_0) <| o_p rfl (Zvn rfl rfl c_f u_0 h3) <| o_p rfl (Znx rfl rfl u_0 c_f) <| o_p rfl (Zb rfl rfl u_0) <| o_n) (by kernel_rfl) (fun a g hst hb => ?_)
   refine wp_ret ?_
   refine Zk ?_
   obtain rfl := Option.some.inj H0
   exact Zy rfl hst hb (Zi (s := 2)) (hst.at 0 rfl)
 · replace H0 := Zr hc1 H0
   refine wp_skip ?_
   refine Zn ?_
   refine r_s (L := [(0, _)]) (T := [⟨[.old 0], _, [], [], [8]⟩, ⟨[.op 0 0], _, [], [0], [9]⟩, ⟨[.op 1 0], _, [], [0, 1], [2]⟩]) (F := [.op 2 0]) (hst.pick [0] rfl) hb Za
     (o_p rfl (Zc rfl rfl u_0) <| o_p rfl (Znx rfl rfl u_0 c_f) <| o_p rfl (Zb rfl rfl u_0) <| o_n) (by kernel_rfl) (fun a g hst hb => ?_)
   refine wp_ret ?_
   obtain rfl := Option.some.inj H0
   exact Zy rfl hst hb (Zi (s := 2)) (hst.at 0 rfl)
theorem Zgo (a0 : Nat) (a1 : Nat) {r : Bool} (h : Zdq a0 a1 = some r) : FnOk Tryd.prog 63 [(pFlt a0), (pFlt a1)] (Z5 r) := by
 have H0 := h
 unfold Zdq at H0
 clear h
 refine Zbo (N := 25) Tryd.func63 rfl rfl (Nat.le_of_ble_eq_true rfl) rfl rfl (fun a g0 hst hb => ?_)
 refine r_s (T := [⟨[], _, [], [], [4]⟩]) (F := [.old 0, .old 1]) hst hb Za
   (o_p rfl (Zb rfl rfl c_b) <| o_n) (by kernel_rfl) (fun a g hst hb => ?_)
 refine wp_seq ?_
 obtain ⟨r1, h2, H0⟩ := Zh H0
 refine r_s (T := [⟨[.old 0], _, [], [], [5]⟩, ⟨[.op 0 0], _, [], [0], [6]⟩]) (F := [.old 0, .old 1, .op 1 0]) hst hb Za
   (o_p rfl (Zc rfl rfl u_0) <| o_p rfl (Zs Zrp (Zgn _ h2) rfl rfl (.cons u_0 .nil)) <| o_n) (by kernel_rfl) (fun a g hst hb => ?_)
 refine wp_cond_split (hst.bool 2 rfl) (fun hc3 => ?_) (fun hc3 => ?_)
 · replace H0 := Zp hc3 H0
   refine r_s (L := []) (T := [⟨[], _, [], [], [4]⟩]) (F := [.op 0 0]) (hst.pick [] rfl) hb Za
     (o_p rfl (Zb rfl rfl c_b) <| o_n) (by kernel_rfl) (fun a g hst hb => ?_)
   refine wp_ret ?_
   refine Zk ?_
   obtain rfl := Option.some.inj H0
   exact Zy rfl hst hb (Zi (s := 4)) (hst.at 0 rfl)
 · replace H0 := Zr hc3 H0
   refine wp_skip ?_
   refine Zn ?_
   refine wp_seq ?_
   obtain ⟨r4, h5, H0⟩ := Zh H0
   refine r_s (L := [(0, _), (1, _)]) (T := [⟨[.old 1], _, [], [], [7]⟩, ⟨[.op 0 0], _, [], [0], [8]⟩]) (F := [.old 0, .old 1, .op 1 0]) (hst.pick [0, 1] rfl) hb Za
     (o_p rfl (Zc rfl rfl u_0) <| o_p rfl (Zs Zrp (Zgn _ h5) rfl rfl (.cons u_0 .nil)) <| o_n) (by kernel_rfl) (fun a g hst hb => ?_)
   refine wp_cond_split (hst.bool 2 rfl) (fun hc6 => ?_) (fun hc6 => ?_)
   · replace H0 := Zp hc6 H0
     refine r_s (L := []) (T := [⟨[], _, [], [], [4]⟩]) (F := [.op 0 0]) (hst.pick [] rfl) hb Za
       (o_p rfl (Zb rfl rfl c_b) <| o_n) (by kernel_rfl) (fun a g hst hb => ?_)
     refine wp_ret ?_
     refine Zk ?_
     obtain rfl := Option.some.inj H0
     exact Zy rfl hst hb (Zi (s := 4)) (hst.at 0 rfl)
   · replace H0 := Zr hc6 H0
     refine wp_skip ?_
     refine Zn ?_
     refine wp_seq ?_
     refine r_s (L := [(0, _), (1, _)]) (T := [⟨[.old 0], _, [], [], [9]⟩, ⟨[.op 0 0], _, [], [0], [10]⟩, ⟨[.op 1 0], _, [], [0, 1], [11]⟩, ⟨[.op 2 0, .old 1], _, [], [0, 1, 2], [12]⟩, ⟨[.op 2 0, .op 3 0], _, [], Lr 4, [13]⟩, ⟨[.op 2 0, .op 4 0], _, [], Lr 5, [14]⟩]) (F := [.old 0, .old 1, .op 5 0]) (hst.pick [0, 1] rfl) hb Za
       (o_p rfl (Zc rfl rfl u_0) <| o_p rfl (Zn6 rfl rfl u_0 c_f) <| o_p rfl (Zc rfl rfl u_0) <| o_g (g_t rfl rfl rfl (fun hG => Zc rfl rfl u_0)) <| o_g (g_t rfl rfl rfl (fun hG => Zn6 rfl rfl (Opd.gd hG u_0) c_f)) <| o_p rfl (Zbb rfl rfl u_0 (fun hz => (Opd.gd hz u_1))) <| o_n) (by kernel_rfl) (fun a g hst hb => ?_)
     refine wp_cond_split (hst.bool 2 rfl) (fun hc7 => ?_) (fun hc7 => ?_)
     · replace H0 := Zp hc7 H0
       obtain ⟨r8, h9, H0⟩ := Zh H0; obtain ⟨r10, h11, H0⟩ := Zh H0
       refine r_s (L := [(0, _), (1, _)]) (T := [⟨[.old 0], _, [], [], [15]⟩, ⟨[.op 0 0], _, [], [0], [16]⟩, ⟨[.op 1 0], _, [], [0, 1], [17]⟩, ⟨[.op 2 0, .old 1], _, [], [0, 1, 2], [18]⟩, ⟨[.op 2 0, .op 3 0], _, [], Lr 4, [19]⟩, ⟨[.op 2 0, .op 4 0], _, [], Lr 5, [20]⟩, ⟨[.op 2 0, .op 5 0], _, [], Lr 6, [21]⟩, ⟨[.op 6 0], _, [], Lr 7, [4]⟩]) (F := [.op 7 0]) (hst.pick [0, 1] rfl) hb Za
         (o_p rfl (Zc rfl rfl u_0) <| o_p rfl (Zs Zu3 (Zh3 _ h9) rfl rfl (.cons u_0 .nil)) <| o_p rfl (Zc rfl rfl u_0) <| o_g (g_t rfl rfl rfl (fun hG => Zc rfl rfl u_0)) <| o_g (g_t rfl rfl rfl (fun hG => Zs Zu3 (Zh3 _ (Zbp h11 hG)) rfl rfl (.cons (Opd.gd hG u_0) .nil))) <| o_g (g_t rfl rfl rfl (fun hG => Zb7 rfl rfl (Opd.gd hG u_0))) <| o_p rfl (Zbb rfl rfl u_0 (fun hz => (Opd.gd hz u_1))) <| o_p rfl (Zb rfl rfl u_0) <| o_n) (by kernel_rfl) (fun a g hst hb => ?_)
       refine wp_ret ?_
       refine Zk ?_
       obtain rfl := Option.some.inj H0
       exact Zy rfl hst hb (Zi (s := 4)) (hst.at 0 rfl)
     · replace H0 := Zr hc7 H0
       refine wp_skip ?_
       refine Zn ?_
       refine r_s (L := [(0, _), (1, _)]) (T := [⟨[.old 0], _, [], [], [22]⟩, ⟨[.old 1], _, [], [], [23]⟩, ⟨[.op 0 0, .op 1 0], _, [], [0, 1], [24]⟩, ⟨[.op 2 0], _, [], [0, 1, 2], [4]⟩]) (F := [.op 3 0]) (hst.pick [0, 1] rfl) hb Za
         (o_p rfl (Zc rfl rfl u_0) <| o_p rfl (Zc rfl rfl u_0) <| o_p rfl (Znx rfl rfl u_0 u_1) <| o_p rfl (Zb rfl rfl u_0) <| o_n) (by kernel_rfl) (fun a g hst hb => ?_)
       refine wp_ret ?_
       obtain rfl := Option.some.inj H0
       exact Zy rfl hst hb (Zi (s := 4)) (hst.at 0 rfl)
theorem Ze8 (a0 : Nat) (a1 : Nat) {r : Bool} (h : Zda a0 a1 = some r) : FnOk Tryd.prog 36 [(pFlt a0), (pFlt a1)] (Z5 r) := by
 have H0 := h
 unfold Zda at H0
 clear h
 refine Zbo (N := 15) Tryd.func36 rfl rfl (Nat.le_of_ble_eq_true rfl) rfl rfl (fun a g0 hst hb => ?_)
 refine r_s (T := [⟨[], _, [], [], [4]⟩]) (F := [.old 0, .old 1]) hst hb Za
   (o_p rfl (Zb rfl rfl c_b) <| o_n) (by kernel_rfl) (fun a g hst hb => ?_)
 obtain ⟨r1, h2, H0⟩ := Zh H0; obtain ⟨r3, h4, H0⟩ := Zh H0
 refine r_s (T := [⟨[.old 0], _, [], [], [5]⟩, ⟨[.old 1], _, [], [], [6]⟩, ⟨[.op 0 0, .op 1 0], _, [], [0, 1], [7]⟩, ⟨[.op 2 0], _, [], [0, 1, 2], [8]⟩, ⟨[.op 3 0], _, [], Lr 4, [9]⟩, ⟨[.op 4 0, .old 1], _, [], Lr 5, [10]⟩, ⟨[.op 4 0, .old 0], _, [], Lr 5, [11]⟩, ⟨[.op 4 0, .op 5 0, .op 6 0], _, [], Lr 7, [12]⟩, ⟨[.op 4 0, .op 7 0], _, [], Lr 8, [13]⟩, ⟨[.op 4 0, .op 8 0], _, [], Lr 9, [14]⟩, ⟨[.op 9 0], _, [], Lr 10, [4]⟩]) (F := [.op 10 0]) hst hb Za
   (o_p rfl (Zc rfl rfl u_0) <| o_p rfl (Zc rfl rfl u_0) <| o_p rfl (Zs Zr5 (Zgo _ _ h2) rfl rfl (.cons u_0 (.cons u_1 .nil))) <| o_p rfl (Zb7 rfl rfl u_0) <| o_p rfl (Zc rfl rfl u_0) <| o_g (g_t rfl rfl rfl (fun hG => Zc rfl rfl u_0)) <| o_g (g_t rfl rfl rfl (fun hG => Zc rfl rfl u_0)) <| o_g (g_t rfl rfl rfl (fun hG => Zs Zr5 (Zgo _ _ (Zbp h4 hG)) rfl rfl (.cons (Opd.gd hG u_0) (.cons (Opd.gd hG u_1) .nil)))) <| o_g (g_t rfl rfl rfl (fun hG => Zb7 rfl rfl (Opd.gd hG u_0))) <| o_p rfl (Zbb rfl rfl u_0 (fun hz => (Opd.gd hz u_1))) <| o_p rfl (Zb rfl rfl u_0) <| o_n) (by kernel_rfl) (fun a g hst hb => ?_)
 refine wp_ret ?_
 obtain rfl := Option.some.inj H0
 exact Zy rfl hst hb (Zi (s := 4)) (hst.at 0 rfl)
theorem Zh5 (a0 : Nat) {r : Bool} (h : Zeb a0 = some r) : FnOk Tryd.prog 71 [(pFlt a0)] (Z5 r) := by
 have H0 := h
 unfold Zeb at H0
 clear h
 refine Zbo (N := 5) Tryd.func71 rfl rfl (Nat.le_of_ble_eq_true rfl) rfl rfl (fun a g0 hst hb => ?_)
 refine r_s (T := [⟨[], _, [], [], [2]⟩]) (F := [.old 0]) hst hb Za
   (o_p rfl (Zb rfl rfl c_b) <| o_n) (by kernel_rfl) (fun a g hst hb => ?_)
 obtain ⟨r1, h2, H0⟩ := Zh H0
 refine r_s (T := [⟨[.old 0], _, [], [], [3]⟩, ⟨[.op 0 0], _, [], [0], [4]⟩, ⟨[.op 1 0], _, [], [0, 1], [2]⟩]) (F := [.op 2 0]) hst hb Za
   (o_p rfl (Zc rfl rfl u_0) <| o_p rfl (Zs Zpe (Ze8 _ _ h2) rfl rfl (.cons u_0 (.cons c_f .nil))) <| o_p rfl (Zb rfl rfl u_0) <| o_n) (by kernel_rfl) (fun a g hst hb => ?_)
 refine wp_ret ?_
 obtain rfl := Option.some.inj H0
 exact Zy rfl hst hb (Zi (s := 2)) (hst.at 0 rfl)
theorem Zk3 (a0 : Zd) (a1 : ByteArray) {r : Bool} (h : Ze5 a0 a1 = some r) : FnOk Tryd.prog 44 [(Zf.pd a0), (pStr a1)] (Z5 r) := by
 have H0 := h
 unfold Ze5 at H0
 clear h
 refine Zbo (N := 106) Tryd.func44 rfl rfl (Nat.le_of_ble_eq_true rfl) rfl rfl (fun a g0 hst hb => ?_)
 refine r_s (T := [⟨[.old 0], _, [], [], [2]⟩, ⟨[], _, [], [], [4]⟩]) (F := [.old 1, .op 0 0]) hst hb Za
   (o_p rfl (Zbk rfl rfl u_0) <| o_p rfl (Zb rfl rfl c_b) <| o_n) (by kernel_rfl) (fun a g hst hb => ?_)
 refine r_s (T := [⟨[], _, [], [], [5]⟩, ⟨[], _, [], [0], [6]⟩, ⟨[], _, [], [0, 1], [7]⟩, ⟨[], _, [], [0, 1, 2], [8]⟩, ⟨[], _, [], Lr 4, [9]⟩]) (F := [.old 0, .old 1, .op 0 0, .op 1 0, .op 2 0, .op 3 0, .op 4 0]) hst hb Za
   (o_p rfl (Zb rfl rfl c_b) <| o_p rfl (Zb rfl rfl c_b) <| o_p rfl (Zb rfl rfl c_b) <| o_p rfl (Zb rfl rfl c_b) <| o_p rfl (Zb rfl rfl c_b) <| o_n) (by kernel_rfl) (fun a g hst hb => ?_)
 refine wp_seq ?_
 refine r_s (T := [⟨[], _, [], [], [10]⟩]) (F := [.old 0, .old 1, .old 2, .old 3, .old 4, .old 5, .old 6, .op 0 0]) hst hb Za
   (o_p rfl (Zb rfl rfl c_i) <| o_n) (by kernel_rfl) (fun a g hst hb => ?_)
 obtain ⟨z23, hz1, H0⟩ := Zh H0
 refine Zcf (fun a w => ∃ (y18 : Bool) (y19 : Bool) (y20 : Bool) (y21 : Bool) (y22 : Bool) (g : G), w = g.w ∧ St 106 [(2, (Zf.ptr a0)), (5, (Z5 y18)), (6, (Z5 y19)), (7, (Z5 y20)), (8, (Z5 y21)), (9, (Z5 y22))] a g ∧ Base g0 g ∧ (y18, y19, y20, y21, y22) = z23) ?_ ?_
 · rintro a w ⟨y18, y19, y20, y21, y22, g, rfl, hst, hb, rfl⟩
   refine Zn ?_
   refine wp_seq ?_
   refine r_s (T := ⟨[.old 1], _, [], [], [52]⟩ :: ⟨[.op 0 0], _, [], [0], [53]⟩ :: ⟨[.op 1 0], _, [], [0, 1], [54]⟩ :: ⟨[.op 2 0, .old 0], _, [], [0, 1, 2], [55]⟩ :: ⟨[.op 2 0, .op 3 0], _, [], Lr 4, [56]⟩ :: ⟨[.op 2 0, .op 4 0], _, [], Lr 5, [57]⟩ :: ⟨[.op 2 0, .op 5 0], _, [], Lr 6, [58]⟩ :: ⟨[.op 6 0], _, [], Lr 7, [59]⟩ :: ⟨[.op 7 0, .old 2], _, [], Lr 8, [60]⟩ :: ⟨[.op 7 0, .op 8 0], _, [], Lr 9, [61]⟩ :: ⟨[.op 7 0, .op 9 0], _, [], Lr 10, [62]⟩ :: ⟨[.op 10 0, .old 0], _, [], Lr 11, [63]⟩ :: ⟨[.op 10 0, .op 11 0], _, [], Lr 12, [64]⟩ :: ⟨[.op 10 0, .op 12 0], _, [], Lr 13, [65]⟩ :: ⟨[.op 7 0, .op 10 0, .op 13 0], _, [], Lr 14, [66]⟩ :: ⟨[.op 7 0, .op 14 0], _, [], Lr 15, [67]⟩ :: ⟨[.op 15 0], _, [], Lr 16, [68]⟩ :: ⟨[.op 16 0, .old 3], _, [], Lr 17, [69]⟩ :: ⟨[.op 16 0, .op 17 0], _, [], Lr 18, [70]⟩ :: ⟨[.op 16 0, .op 18 0], _, [], Lr 19, [71]⟩ :: ⟨[.op 19 0, .old 0], _, [], Lr 20, [72]⟩ :: ⟨[.op 19 0, .op 20 0], _, [], Lr 21, [73]⟩ :: ⟨[.op 19 0, .op 21 0], _, [], Lr 22, [74]⟩ :: ⟨[.op 16 0, .op 19 0, .op 22 0], _, [], Lr 23, [75]⟩ :: ⟨[.op 16 0, .op 23 0], _, [], Lr 24, [76]⟩ :: ⟨[.op 24 0], _, [], Lr 25, [77]⟩ :: ⟨[.op 25 0, .old 3], _, [], Lr 26, [78]⟩ :: ⟨[.op 25 0, .op 26 0], _, [], Lr 27, [79]⟩ :: ⟨[.op 25 0, .op 27 0], _, [], Lr 28, [80]⟩ :: ⟨[.op 28 0, .old 0], _, [], Lr 29, [81]⟩ :: ⟨[.op 28 0, .op 29 0], _, [], Lr 30, [82]⟩ :: ⟨[.op 28 0, .op 30 0], _, [], Lr 31, [83]⟩ :: ⟨[.op 25 0, .op 28 0, .op 31 0], _, [], Lr 32, [84]⟩ :: ⟨[.op 25 0, .op 32 0], _, [], Lr 33, [85]⟩ :: []) (F := [.old 0, .old 4, .old 5, .op 33 0]) hst hb Za
     (o_p rfl (Zc rfl rfl u_0) <| o_p rfl (Zb7 rfl rfl u_0) <| o_p rfl (Zc rfl rfl u_0) <| o_g (g_t rfl rfl rfl (fun hG => Ze Zf1 rfl rfl u_0)) <| o_g (g_t rfl rfl rfl (fun hG => Zg ty_9 rfl rfl (Opd.gd hG u_0))) <| o_g (g_t rfl rfl rfl (fun hG => Zp6 rfl rfl (Opd.gd hG u_0) c_s)) <| o_p rfl (Zbb rfl rfl u_0 (fun hz => (Opd.gd hz u_1))) <| o_p rfl (Zc rfl rfl u_0) <| o_g (g_f rfl rfl rfl (fun hG => Zc rfl rfl u_0)) <| o_g (g_f rfl rfl rfl (fun hG => Zb7 rfl rfl (Opd.gd hG u_0))) <| o_g (g_f rfl rfl rfl (fun hG => Zc rfl rfl (Opd.gd hG u_0))) <| o_g (g_ti rfl rfl rfl (fun hG => Ze Zb6 rfl rfl u_0)) <| o_g (g_ti rfl rfl rfl (fun hG => Zg ty_2 rfl rfl (Opd.gd hG u_0))) <| o_g (g_ti rfl rfl rfl (fun hG => Zcv rfl rfl (Opd.gd hG u_0) c_i)) <| o_g (g_f rfl rfl rfl (fun hG => Zbb rfl rfl (Opd.gd hG u_0) (fun hz => (Opd.gd (bA hG hz) u_1)))) <| o_p rfl (Zbg rfl rfl u_0 (fun hz => (Opd.gd (bNF hz) u_1))) <| o_p rfl (Zc rfl rfl u_0) <| o_g (g_f rfl rfl rfl (fun hG => Zc rfl rfl u_0)) <| o_g (g_f rfl rfl rfl (fun hG => Zb7 rfl rfl (Opd.gd hG u_0))) <| o_g (g_f rfl rfl rfl (fun hG => Zc rfl rfl (Opd.gd hG u_0))) <| o_g (g_ti rfl rfl rfl (fun hG => Ze Zfc rfl rfl u_0)) <| o_g (g_ti rfl rfl rfl (fun hG => Zg ty_2 rfl rfl (Opd.gd hG u_0))) <| o_g (g_ti rfl rfl rfl (fun hG => Zcv rfl rfl (Opd.gd hG u_0) c_i)) <| o_g (g_f rfl rfl rfl (fun hG => Zbb rfl rfl (Opd.gd hG u_0) (fun hz => (Opd.gd (bA hG hz) u_1)))) <| o_p rfl (Zbg rfl rfl u_0 (fun hz => (Opd.gd (bNF hz) u_1))) <| o_p rfl (Zc rfl rfl u_0) <| o_g (g_f rfl rfl rfl (fun hG => Zc rfl rfl u_0)) <| o_g (g_f rfl rfl rfl (fun hG => Zb7 rfl rfl (Opd.gd hG u_0))) <| o_g (g_f rfl rfl rfl (fun hG => Zc rfl rfl (Opd.gd hG u_0))) <| o_g (g_ti rfl rfl rfl (fun hG => Ze Zfb rfl rfl u_0)) <| o_g (g_ti rfl rfl rfl (fun hG => Zg ty_2 rfl rfl (Opd.gd hG u_0))) <| o_g (g_ti rfl rfl rfl (fun hG => Zcv rfl rfl (Opd.gd hG u_0) c_i)) <| o_g (g_f rfl rfl rfl (fun hG => Zbb rfl rfl (Opd.gd hG u_0) (fun hz => (Opd.gd (bA hG hz) u_1)))) <| o_p rfl (Zbg rfl rfl u_0 (fun hz => (Opd.gd (bNF hz) u_1))) <| o_n) (by kernel_rfl) (fun a g hst hb => ?_)
   refine wp_cond_split (hst.bool 3 rfl) (fun hc24 => ?_) (fun hc24 => ?_)
   · replace H0 := Zp hc24 H0
     refine r_s (L := []) (T := [⟨[], _, [], [], [4]⟩]) (F := [.op 0 0]) (hst.pick [] rfl) hb Za
       (o_p rfl (Zb rfl rfl c_b) <| o_n) (by kernel_rfl) (fun a g hst hb => ?_)
     refine wp_ret ?_
     refine Zk ?_
     obtain rfl := Option.some.inj H0
     exact Zy rfl hst hb (Zi (s := 4)) (hst.at 0 rfl)
   · replace H0 := Zr hc24 H0
     refine wp_skip ?_
     refine Zn ?_
     obtain ⟨r25, h26, H0⟩ := Zh H0
     refine r_s (L := [(2, _), (8, _), (9, _)]) (T := ⟨[.old 1], _, [], [], [86]⟩ :: ⟨[.op 0 0], _, [], [0], [87]⟩ :: ⟨[.op 1 0, .old 0], _, [], [0, 1], [88]⟩ :: ⟨[.op 1 0, .op 2 0], _, [], [0, 1, 2], [89]⟩ :: ⟨[.op 1 0, .op 3 0], _, [], Lr 4, [90]⟩ :: ⟨[.op 1 0, .op 4 0], _, [], Lr 5, [91]⟩ :: ⟨[.op 5 0], _, [], Lr 6, [92]⟩ :: ⟨[.op 6 0, .old 2], _, [], Lr 7, [93]⟩ :: ⟨[.op 6 0, .op 7 0], _, [], Lr 8, [94]⟩ :: ⟨[.op 8 0, .old 0], _, [], Lr 9, [95]⟩ :: ⟨[.op 8 0, .op 9 0], _, [], Lr 10, [96]⟩ :: ⟨[.op 8 0, .op 10 0], _, [], Lr 11, [97]⟩ :: ⟨[.op 8 0, .op 11 0], _, [], Lr 12, [98]⟩ :: ⟨[.op 12 0, .old 0], _, [], Lr 13, [99]⟩ :: ⟨[.op 12 0, .op 13 0], _, [], Lr 14, [100]⟩ :: ⟨[.op 12 0, .op 14 0], _, [], Lr 15, [101]⟩ :: ⟨[.op 12 0, .op 15 0], _, [], Lr 16, [102]⟩ :: ⟨[.op 8 0, .op 12 0, .op 16 0], _, [], Lr 17, [103]⟩ :: ⟨[.op 6 0, .op 8 0, .op 17 0], _, [], Lr 18, [104]⟩ :: ⟨[.op 6 0, .op 18 0], _, [], Lr 19, [105]⟩ :: ⟨[.op 19 0], _, [], Lr 20, [4]⟩ :: []) (F := [.op 20 0]) (hst.pick [0, 1, 2] rfl) hb Za
       (o_p rfl (Zc rfl rfl u_0) <| o_p rfl (Zc rfl rfl u_0) <| o_g (g_f rfl rfl rfl (fun hG => Ze Zd5 rfl rfl u_0)) <| o_g (g_f rfl rfl rfl (fun hG => Zg Zci rfl rfl (Opd.gd hG u_0))) <| o_g (g_f rfl rfl rfl (fun hG => Zs Zu2 (Zh5 _ (Zbp h26 hG)) rfl rfl (.cons (Opd.gd hG u_0) .nil))) <| o_p rfl (Zbg rfl rfl u_0 (fun hz => (Opd.gd (bNF hz) u_1))) <| o_p rfl (Zc rfl rfl u_0) <| o_g (g_t rfl rfl rfl (fun hG => Zc rfl rfl u_0)) <| o_g (g_t rfl rfl rfl (fun hG => Zc rfl rfl (Opd.gd hG u_0))) <| o_g (g_fi rfl rfl rfl (fun hG => Ze Zds rfl rfl u_0)) <| o_g (g_fi rfl rfl rfl (fun hG => Zg ty_3 rfl rfl (Opd.gd hG u_0))) <| o_g (g_fi rfl rfl rfl (fun hG => Z8 rfl rfl (Opd.gd hG u_0) c_i)) <| o_g (g_fi rfl rfl rfl (fun hG => Zc rfl rfl (Opd.gd hG u_0))) <| o_g (g_ti rfl rfl rfl (fun hG => Ze Zbu rfl rfl u_0)) <| o_g (g_ti rfl rfl rfl (fun hG => Zg Zck rfl rfl (Opd.gd hG u_0))) <| o_g (g_ti rfl rfl rfl (fun hG => Zca Tryd.underlying23 rfl rfl (Opd.gd hG u_0))) <| o_g (g_ti rfl rfl rfl (fun hG => Z8 rfl rfl (Opd.gd hG u_0) c_i)) <| o_g (g_fi rfl rfl rfl (fun hG => Zbb rfl rfl (Opd.gd hG u_0) (fun hz => (Opd.gd (bA hG hz) u_1)))) <| o_g (g_t rfl rfl rfl (fun hG => Zbg rfl rfl (Opd.gd hG u_0) (fun hz => (Opd.gd (bA hG (bNF hz)) u_1)))) <| o_p rfl (Zbb rfl rfl u_0 (fun hz => (Opd.gd hz u_1))) <| o_p rfl (Zb rfl rfl u_0) <| o_n) (by kernel_rfl) (fun a g hst hb => ?_)
     refine wp_ret ?_
     obtain rfl := Option.some.inj H0
     exact Zy rfl hst hb (Zi (s := 4)) (hst.at 0 rfl)
 · refine wp_block ?_
   refine wp_loop_ghost (fun n a w => ∃ (x1 : Bool) (x2 : Bool) (x3 : Bool) (x4 : Bool) (x5 : Bool) (x6 : Int) (g : G), w = g.w ∧ St 106 [(1, (pStr a1)), (2, (Zf.ptr a0)), (5, (Z5 x1)), (6, (Z5 x2)), (7, (Z5 x3)), (8, (Z5 x4)), (9, (Z5 x5)), (10, (pInt .i64 x6))] a g ∧ Base g0 g ∧ Zbz a1 n x1 x2 x3 x4 x5 x6 = some z23) (Int.toNat ((a1.size : Int) - (0 : Int)) + 1) ⟨false, false, false, false, false, (0 : Int), g, rfl, (hst.pick [0, 1, 2, 3, 4, 5, 6, 7] rfl), hb, hz1⟩ (fun n a w hI => ?_)
   obtain ⟨x1, x2, x3, x4, x5, x6, g, rfl, hst, hb, H1⟩ := hI
   cases n with
   | zero => exact absurd H1 (by simp [Zbz])
   | succ n =>
     rw [Zbz] at H1
     refine wp_seq ?_
     refine r_s (T := [⟨[.old 7], _, [], [], [11]⟩, ⟨[.old 0], _, [], [], [12]⟩, ⟨[.op 1 0], _, [], [1], [13]⟩, ⟨[.op 0 0, .op 2 0], _, [], [0, 1, 2], [14]⟩]) (F := [.old 0, .old 1, .old 2, .old 3, .old 4, .old 5, .old 6, .old 7, .op 3 0]) hst hb Za
       (o_p rfl (Zc rfl rfl u_0) <| o_p rfl (Zc rfl rfl u_0) <| o_p rfl (Zfa Tryd.underlying9 rfl rfl u_0) <| o_p rfl (Zce rfl rfl u_0 u_1) <| o_n) (by kernel_rfl) (fun a g hst hb => ?_)
     refine wp_cond_split (hst.bool 8 rfl) (fun hc7 => ?_) (fun hc7 => ?_)
     · replace H1 := Zp hc7 H1
       refine wp_skip ?_
       refine Zn ?_
       refine wp_seq ?_
       refine wp_block ?_
       obtain ⟨b8, h9, H1⟩ := Zh H1
       refine r_s (L := [(1, _), (2, _), (5, _), (6, _), (7, _), (8, _), (9, _), (10, _)]) (T := [⟨[.old 2], _, [], [], [17]⟩, ⟨[.op 0 0], _, [], [0], [18]⟩, ⟨[.op 1 0, .old 0], _, [], [0, 1], [19]⟩, ⟨[.op 1 0, .old 7], _, [], [0, 1], [20]⟩, ⟨[.op 1 0, .op 2 0, .op 3 0], _, [], Lr 4, [21]⟩, ⟨[.op 1 0, .op 4 0], _, [], Lr 5, [22]⟩, ⟨[.op 1 0, .op 5 0], _, [], Lr 6, [23]⟩, ⟨[.op 6 0], _, [], Lr 7, [5]⟩]) (F := [.old 0, .old 1, .op 7 0, .old 3, .old 4, .old 5, .old 6, .old 7]) (hst.pick [0, 1, 2, 3, 4, 5, 6, 7] rfl) hb Za
         (o_p rfl (Zc rfl rfl u_0) <| o_p rfl (Zc rfl rfl u_0) <| o_g (g_f rfl rfl rfl (fun hG => Zc rfl rfl u_0)) <| o_g (g_f rfl rfl rfl (fun hG => Zc rfl rfl u_0)) <| o_g (g_f rfl rfl rfl (fun hG => Zi4 Tryd.underlying9 rfl rfl (Opd.gd hG u_0) (Opd.gd hG u_1) (Zbp h9 hG))) <| o_g (g_f rfl rfl rfl (fun hG => Z8 rfl rfl (Opd.gd hG u_0) c_i)) <| o_p rfl (Zbg rfl rfl u_0 (fun hz => (Opd.gd (bNF hz) u_1))) <| o_p rfl (Zb rfl rfl u_0) <| o_n) (by kernel_rfl) (fun a g hst hb => ?_)
       obtain ⟨b10, h11, H1⟩ := Zh H1
       refine r_s (T := [⟨[.old 3], _, [], [], [24]⟩, ⟨[.op 0 0], _, [], [0], [25]⟩, ⟨[.op 1 0, .old 0], _, [], [0, 1], [26]⟩, ⟨[.op 1 0, .old 7], _, [], [0, 1], [27]⟩, ⟨[.op 1 0, .op 2 0, .op 3 0], _, [], Lr 4, [28]⟩, ⟨[.op 1 0, .op 4 0], _, [], Lr 5, [29]⟩, ⟨[.op 1 0, .op 5 0], _, [], Lr 6, [30]⟩, ⟨[.op 6 0], _, [], Lr 7, [6]⟩]) (F := [.old 0, .old 1, .old 2, .op 7 0, .old 4, .old 5, .old 6, .old 7]) hst hb Za
         (o_p rfl (Zc rfl rfl u_0) <| o_p rfl (Zc rfl rfl u_0) <| o_g (g_f rfl rfl rfl (fun hG => Zc rfl rfl u_0)) <| o_g (g_f rfl rfl rfl (fun hG => Zc rfl rfl u_0)) <| o_g (g_f rfl rfl rfl (fun hG => Zi4 Tryd.underlying9 rfl rfl (Opd.gd hG u_0) (Opd.gd hG u_1) (Zbp h11 hG))) <| o_g (g_f rfl rfl rfl (fun hG => Z8 rfl rfl (Opd.gd hG u_0) c_i)) <| o_p rfl (Zbg rfl rfl u_0 (fun hz => (Opd.gd (bNF hz) u_1))) <| o_p rfl (Zb rfl rfl u_0) <| o_n) (by kernel_rfl) (fun a g hst hb => ?_)
       obtain ⟨b12, h13, H1⟩ := Zh H1
       refine r_s (T := [⟨[.old 4], _, [], [], [31]⟩, ⟨[.op 0 0], _, [], [0], [32]⟩, ⟨[.op 1 0, .old 0], _, [], [0, 1], [33]⟩, ⟨[.op 1 0, .old 7], _, [], [0, 1], [34]⟩, ⟨[.op 1 0, .op 2 0, .op 3 0], _, [], Lr 4, [35]⟩, ⟨[.op 1 0, .op 4 0], _, [], Lr 5, [36]⟩, ⟨[.op 1 0, .op 5 0], _, [], Lr 6, [37]⟩, ⟨[.op 6 0], _, [], Lr 7, [7]⟩]) (F := [.old 0, .old 1, .old 2, .old 3, .op 7 0, .old 5, .old 6, .old 7]) hst hb Za
         (o_p rfl (Zc rfl rfl u_0) <| o_p rfl (Zc rfl rfl u_0) <| o_g (g_f rfl rfl rfl (fun hG => Zc rfl rfl u_0)) <| o_g (g_f rfl rfl rfl (fun hG => Zc rfl rfl u_0)) <| o_g (g_f rfl rfl rfl (fun hG => Zi4 Tryd.underlying9 rfl rfl (Opd.gd hG u_0) (Opd.gd hG u_1) (Zbp h13 hG))) <| o_g (g_f rfl rfl rfl (fun hG => Z8 rfl rfl (Opd.gd hG u_0) c_i)) <| o_p rfl (Zbg rfl rfl u_0 (fun hz => (Opd.gd (bNF hz) u_1))) <| o_p rfl (Zb rfl rfl u_0) <| o_n) (by kernel_rfl) (fun a g hst hb => ?_)
       obtain ⟨b14, h15, H1⟩ := Zh H1
       refine r_s (T := [⟨[.old 5], _, [], [], [38]⟩, ⟨[.op 0 0], _, [], [0], [39]⟩, ⟨[.op 1 0, .old 0], _, [], [0, 1], [40]⟩, ⟨[.op 1 0, .old 7], _, [], [0, 1], [41]⟩, ⟨[.op 1 0, .op 2 0, .op 3 0], _, [], Lr 4, [42]⟩, ⟨[.op 1 0, .op 4 0], _, [], Lr 5, [43]⟩, ⟨[.op 1 0, .op 5 0], _, [], Lr 6, [44]⟩, ⟨[.op 6 0], _, [], Lr 7, [8]⟩]) (F := [.old 0, .old 1, .old 2, .old 3, .old 4, .op 7 0, .old 6, .old 7]) hst hb Za
         (o_p rfl (Zc rfl rfl u_0) <| o_p rfl (Zc rfl rfl u_0) <| o_g (g_f rfl rfl rfl (fun hG => Zc rfl rfl u_0)) <| o_g (g_f rfl rfl rfl (fun hG => Zc rfl rfl u_0)) <| o_g (g_f rfl rfl rfl (fun hG => Zi4 Tryd.underlying9 rfl rfl (Opd.gd hG u_0) (Opd.gd hG u_1) (Zbp h15 hG))) <| o_g (g_f rfl rfl rfl (fun hG => Z8 rfl rfl (Opd.gd hG u_0) c_i)) <| o_p rfl (Zbg rfl rfl u_0 (fun hz => (Opd.gd (bNF hz) u_1))) <| o_p rfl (Zb rfl rfl u_0) <| o_n) (by kernel_rfl) (fun a g hst hb => ?_)
       obtain ⟨b16, h17, H1⟩ := Zh H1
       refine r_g (T := [⟨[.old 6], _, [], [], [45]⟩, ⟨[.op 0 0], _, [], [0], [46]⟩, ⟨[.op 1 0, .old 0], _, [], [0, 1], [47]⟩, ⟨[.op 1 0, .old 7], _, [], [0, 1], [48]⟩, ⟨[.op 1 0, .op 2 0, .op 3 0], _, [], Lr 4, [49]⟩, ⟨[.op 1 0, .op 4 0], _, [], Lr 5, [50]⟩, ⟨[.op 1 0, .op 5 0], _, [], Lr 6, [51]⟩, ⟨[.op 6 0], _, [], Lr 7, [9]⟩]) (F := [.old 0, .old 1, .old 2, .old 3, .old 4, .old 5, .op 7 0, .old 7]) hst hb Za
         (o_p rfl (Zc rfl rfl u_0) <| o_p rfl (Zc rfl rfl u_0) <| o_g (g_f rfl rfl rfl (fun hG => Zc rfl rfl u_0)) <| o_g (g_f rfl rfl rfl (fun hG => Zc rfl rfl u_0)) <| o_g (g_f rfl rfl rfl (fun hG => Zi4 Tryd.underlying9 rfl rfl (Opd.gd hG u_0) (Opd.gd hG u_1) (Zbp h17 hG))) <| o_g (g_f rfl rfl rfl (fun hG => Z8 rfl rfl (Opd.gd hG u_0) c_i)) <| o_p rfl (Zbg rfl rfl u_0 (fun hz => (Opd.gd (bNF hz) u_1))) <| o_p rfl (Zb rfl rfl u_0) <| o_n) (by kernel_rfl) (fun a g hst hb => ?_)
       refine Zbe ?_
       refine Zn ?_
       refine r_g (T := [⟨[.old 7], _, [], [], [15]⟩, ⟨[.op 0 0], _, [], [0], [16]⟩, ⟨[.op 1 0], _, [], [0, 1], [10]⟩]) (F := [.old 0, .old 1, .old 2, .old 3, .old 4, .old 5, .old 6, .op 2 0]) hst hb Za
         (o_p rfl (Zc rfl rfl u_0) <| o_p rfl (Zcq rfl rfl u_0 c_i rfl) <| o_p rfl (Zb rfl rfl u_0) <| o_n) (by kernel_rfl) (fun a g hst hb => ?_)
       exact ⟨n, Nat.lt_succ_self _, (x1 || (b8 == (116 : Int))), (x2 || (b10 == (110 : Int))), (x3 || (b12 == (98 : Int))), (x4 || (b14 == (114 : Int))), (x5 || (b16 == (108 : Int))), (IntKind.i64.wrap (x6 + (1 : Int))), g, rfl, (hst.pick [0, 1, 2, 3, 4, 5, 6, 7] rfl), hb, H1⟩
     · replace H1 := Zr hc7 H1
       refine wp_exit ?_
       refine Zcg ?_
       refine Zcg ?_
       refine Zc4 ?_
       exact ⟨x1, x2, x3, x4, x5, g, rfl, (hst.pick [1, 2, 3, 4, 5, 6] rfl), hb, Option.some.inj H1⟩
theorem Zj0 (a0 : Int) {r : ByteArray} (h : Zff a0 = some r) : FnOk Tryd.prog 45 [(pInt .i64 a0)] (pStr r) := by
 have H0 := h
 unfold Zff at H0
 clear h
 refine Zbo (N := 15) Tryd.func45 rfl rfl (Nat.le_of_ble_eq_true rfl) rfl rfl (fun a g0 hst hb => ?_)
 refine r_s (T := [⟨[], _, [], [], [2]⟩]) (F := [.old 0]) hst hb Za
   (o_p rfl (Zb rfl rfl c_s) <| o_n) (by kernel_rfl) (fun a g hst hb => ?_)
 refine r_s (T := [⟨[], _, [], [], [4]⟩, ⟨[.op 0 0], _, [], [0], [3]⟩]) (F := [.old 0, .op 1 0]) hst hb Za
   (o_p rfl (Zh1 Zyi (xs := [.const (.string ⟨#[]⟩), .const (.string ⟨#[116]⟩), .const (.string ⟨#[110]⟩), .const (.string ⟨#[110]⟩), .const (.string ⟨#[110, 98]⟩), .const (.string ⟨#[114]⟩), .const (.string ⟨#[114]⟩), .const (.string ⟨#[114]⟩), .const (.string ⟨#[108]⟩), .const (.string ⟨#[108]⟩)]) (.cons c_s (.cons c_s (.cons c_s (.cons c_s (.cons c_s (.cons c_s (.cons c_s (.cons c_s (.cons c_s (.cons c_s .nil)))))))))) (by decide) rfl rfl) <| o_p rfl (Zb rfl rfl u_0) <| o_n) (by kernel_rfl) (fun a g hst hb => ?_)
 refine wp_seq ?_
 refine r_s (T := [⟨[.old 0], _, [], [], [5]⟩, ⟨[.op 0 0], _, [], [0], [6]⟩, ⟨[.op 1 0], _, [], [0, 1], [7]⟩, ⟨[.op 2 0, .old 0], _, [], [0, 1, 2], [8]⟩, ⟨[.op 2 0, .op 3 0], _, [], Lr 4, [9]⟩, ⟨[.op 2 0, .op 4 0], _, [], Lr 5, [10]⟩]) (F := [.old 0, .old 1, .op 5 0]) hst hb Za
   (o_p rfl (Zc rfl rfl u_0) <| o_p rfl (Zce rfl rfl u_0 c_i) <| o_p rfl (Zc rfl rfl u_0) <| o_g (g_f rfl rfl rfl (fun hG => Zc rfl rfl u_0)) <| o_g (g_f rfl rfl rfl (fun hG => Zb9 rfl rfl (Opd.gd hG u_0) c_i)) <| o_p rfl (Zbg rfl rfl u_0 (fun hz => (Opd.gd (bNF hz) u_1))) <| o_n) (by kernel_rfl) (fun a g hst hb => ?_)
 refine wp_cond_split (hst.bool 2 rfl) (fun hc1 => ?_) (fun hc1 => ?_)
 · replace H0 := Zp hc1 H0
   refine r_s (L := []) (T := [⟨[], _, [], [], [2]⟩]) (F := [.op 0 0]) (hst.pick [] rfl) hb Za
     (o_p rfl (Zb rfl rfl c_s) <| o_n) (by kernel_rfl) (fun a g hst hb => ?_)
   refine wp_ret ?_
   refine Zk ?_
   obtain rfl := Option.some.inj H0
   exact Zy rfl hst hb (Zi (s := 2)) (hst.at 0 rfl)
 · replace H0 := Zr hc1 H0
   refine wp_skip ?_
   refine Zn ?_
   obtain ⟨e2, h3, H0⟩ := Zh H0
   refine r_s (L := [(0, _), (3, _)]) (T := [⟨[.old 1], _, [], [], [11]⟩, ⟨[.old 0], _, [], [], [12]⟩, ⟨[.op 0 0, .op 1 0], _, [], [0, 1], [13]⟩, ⟨[.op 2 0], _, [], [0, 1, 2], [14]⟩, ⟨[.op 3 0], _, [], Lr 4, [2]⟩]) (F := [.op 4 0]) (hst.pick [0, 1] rfl) hb Za
     (o_p rfl (Zc rfl rfl u_0) <| o_p rfl (Zc rfl rfl u_0) <| o_p rfl (Zbn Tryd.underlying122 sz_9 rfl rfl u_0 u_1 h3) <| o_p rfl (Zg ty_9 rfl rfl u_0) <| o_p rfl (Zb rfl rfl u_0) <| o_n) (by kernel_rfl) (fun a g hst hb => ?_)
   refine wp_ret ?_
   obtain rfl := Option.some.inj H0
   exact Zy rfl hst hb (Zi (s := 2)) (hst.at 0 rfl)
theorem Zhl (a0 : Nat) {r : Bool} (h : Zdu a0 = some r) : FnOk Tryd.prog 46 [(pFlt a0)] (Z5 r) := by
 have H0 := h
 unfold Zdu at H0
 clear h
 refine Zbo (N := 11) Tryd.func46 rfl rfl (Nat.le_of_ble_eq_true rfl) rfl rfl (fun a g0 hst hb => ?_)
 refine r_s (T := [⟨[], _, [], [], [2]⟩]) (F := [.old 0]) hst hb Za
   (o_p rfl (Zb rfl rfl c_b) <| o_n) (by kernel_rfl) (fun a g hst hb => ?_)
 obtain ⟨r1, h2, H0⟩ := Zh H0
 refine r_s (T := [⟨[.old 0], _, [], [], [3]⟩, ⟨[.op 0 0], _, [], [0], [4]⟩, ⟨[.op 1 0], _, [], [0, 1], [5]⟩, ⟨[.op 2 0], _, [], [0, 1, 2], [6]⟩, ⟨[.op 3 0, .old 0], _, [], Lr 4, [7]⟩, ⟨[.op 3 0, .op 4 0], _, [], Lr 5, [8]⟩, ⟨[.op 3 0, .op 5 0], _, [], Lr 6, [9]⟩, ⟨[.op 3 0, .op 6 0], _, [], Lr 7, [10]⟩, ⟨[.op 7 0], _, [], Lr 8, [2]⟩]) (F := [.op 8 0]) hst hb Za
   (o_p rfl (Zc rfl rfl u_0) <| o_p rfl (Zs Zrp (Zgn _ h2) rfl rfl (.cons u_0 .nil)) <| o_p rfl (Zb7 rfl rfl u_0) <| o_p rfl (Zc rfl rfl u_0) <| o_g (g_f rfl rfl rfl (fun hG => Zc rfl rfl u_0)) <| o_g (g_f rfl rfl rfl (fun hG => Zl3 Zo4 rfl rfl (Opd.gd hG u_0))) <| o_g (g_f rfl rfl rfl (fun hG => Z8 rfl rfl (Opd.gd hG u_0) c_i)) <| o_p rfl (Zbg rfl rfl u_0 (fun hz => (Opd.gd (bNF hz) u_1))) <| o_p rfl (Zb rfl rfl u_0) <| o_n) (by kernel_rfl) (fun a g hst hb => ?_)
 refine wp_ret ?_
 obtain rfl := Option.some.inj H0
 exact Zy rfl hst hb (Zi (s := 2)) (hst.at 0 rfl)
theorem Zkg (a0 : Zj) (a1 : Zj) {r : Bool} (h : Zes a0 a1 = some r) : FnOk Tryd.prog 74 [(Zm.pd a0), (Zm.pd a1)] (Z5 r) := by
 have H0 := h
 unfold Zes at H0
 clear h
 refine Zbo (N := 22) Tryd.func74 rfl rfl (Nat.le_of_ble_eq_true rfl) rfl rfl (fun a g0 hst hb => ?_)
 refine r_s (T := [⟨[.old 0], _, [], [], [2]⟩, ⟨[.old 1], _, [], [], [3]⟩, ⟨[], _, [], [], [4]⟩]) (F := [.op 0 0, .op 1 0]) hst hb Za
   (o_p rfl (Zbk rfl rfl u_0) <| o_p rfl (Zbk rfl rfl u_0) <| o_p rfl (Zb rfl rfl c_b) <| o_n) (by kernel_rfl) (fun a g hst hb => ?_)
 refine wp_seq ?_
 obtain ⟨r1, h2, H0⟩ := Zh H0
 refine r_s (T := [⟨[.old 1], _, [], [], [5]⟩, ⟨[.op 0 0], _, [], [0], [6]⟩, ⟨[.old 0], _, [], [], [7]⟩, ⟨[.op 2 0], _, [], [2], [8]⟩, ⟨[.op 1 0, .op 3 0], _, [], Lr 4, [9]⟩]) (F := [.old 0, .old 1, .op 4 0]) hst hb Za
   (o_p rfl (Ze Zdr rfl rfl u_0) <| o_p rfl (Zg Zci rfl rfl u_0) <| o_p rfl (Ze Zdr rfl rfl u_0) <| o_p rfl (Zg Zci rfl rfl u_0) <| o_p rfl (Zs Zr5 (Zgo _ _ h2) rfl rfl (.cons u_0 (.cons u_1 .nil))) <| o_n) (by kernel_rfl) (fun a g hst hb => ?_)
 refine wp_cond_split (hst.bool 2 rfl) (fun hc3 => ?_) (fun hc3 => ?_)
 · replace H0 := Zp hc3 H0
   refine r_s (L := []) (T := [⟨[], _, [], [], [4]⟩]) (F := [.op 0 0]) (hst.pick [] rfl) hb Za
     (o_p rfl (Zb rfl rfl c_b) <| o_n) (by kernel_rfl) (fun a g hst hb => ?_)
   refine wp_ret ?_
   refine Zk ?_
   obtain rfl := Option.some.inj H0
   exact Zy rfl hst hb (Zi (s := 4)) (hst.at 0 rfl)
 · replace H0 := Zr hc3 H0
   refine wp_skip ?_
   refine Zn ?_
   obtain ⟨r4, h5, H0⟩ := Zh H0
   refine r_s (L := [(2, _), (3, _)]) (T := ⟨[.old 0], _, [], [], [10]⟩ :: ⟨[.op 0 0], _, [], [0], [11]⟩ :: ⟨[.old 1], _, [], [], [12]⟩ :: ⟨[.op 2 0], _, [], [2], [13]⟩ :: ⟨[.op 1 0, .op 3 0], _, [], Lr 4, [14]⟩ :: ⟨[.op 4 0], _, [], Lr 5, [15]⟩ :: ⟨[.op 5 0, .old 0], _, [], Lr 6, [16]⟩ :: ⟨[.op 5 0, .op 6 0], _, [], Lr 7, [17]⟩ :: ⟨[.op 5 0, .old 1], _, [], Lr 6, [18]⟩ :: ⟨[.op 5 0, .op 8 0], _, [], [0, 1, 2, 3, 4, 5, 8], [19]⟩ :: ⟨[.op 5 0, .op 7 0, .op 9 0], _, [], Lr 10, [20]⟩ :: ⟨[.op 5 0, .op 10 0], _, [], Lr 11, [21]⟩ :: ⟨[.op 11 0], _, [], Lr 12, [4]⟩ :: []) (F := [.op 12 0]) (hst.pick [0, 1] rfl) hb Za
     (o_p rfl (Ze Zdr rfl rfl u_0) <| o_p rfl (Zg Zci rfl rfl u_0) <| o_p rfl (Ze Zdr rfl rfl u_0) <| o_p rfl (Zg Zci rfl rfl u_0) <| o_p rfl (Zs Zpe (Ze8 _ _ h5) rfl rfl (.cons u_0 (.cons u_1 .nil))) <| o_p rfl (Zc rfl rfl u_0) <| o_g (g_t rfl rfl rfl (fun hG => Ze Zdg rfl rfl u_0)) <| o_g (g_t rfl rfl rfl (fun hG => Zg ty_9 rfl rfl (Opd.gd hG u_0))) <| o_g (g_t rfl rfl rfl (fun hG => Ze Zdg rfl rfl u_0)) <| o_g (g_t rfl rfl rfl (fun hG => Zg ty_9 rfl rfl (Opd.gd hG u_0))) <| o_g (g_t rfl rfl rfl (fun hG => Zm9 rfl rfl (Opd.gd hG u_0) (Opd.gd hG u_1))) <| o_p rfl (Zbb rfl rfl u_0 (fun hz => (Opd.gd hz u_1))) <| o_p rfl (Zb rfl rfl u_0) <| o_n) (by kernel_rfl) (fun a g hst hb => ?_)
   refine wp_ret ?_
   obtain rfl := Option.some.inj H0
   exact Zy rfl hst hb (Zi (s := 4)) (hst.at 0 rfl)
theorem Zk1 (a0 : Int) (a1 : List Zj) (a2 : Int) {r : Int} (h : Ze4 a0 a1 a2 = some r) : FnOk Tryd.prog 47 [(pInt .i64 a0), (Zm.sl.pd a1), (pInt .i64 a2)] (pInt .i64 r) := by
 have H0 := h
 unfold Ze4 at H0
 clear h
 refine Zbo (N := 64) Tryd.func47 rfl rfl (Nat.le_of_ble_eq_true rfl) rfl rfl (fun a g0 hst hb => ?_)
 refine r_s (T := [⟨[], _, [], [], [6]⟩]) (F := [.old 0, .old 1, .old 2]) hst hb Za
   (o_p rfl (Zb rfl rfl c_i) <| o_n) (by kernel_rfl) (fun a g hst hb => ?_)
 obtain ⟨e1, h2, H0⟩ := Zh H0
 refine r_s (T := [⟨[.old 1], _, [], [], [8]⟩, ⟨[.old 2], _, [], [], [9]⟩, ⟨[.op 0 0, .op 1 0], _, [], [0, 1], [10]⟩, ⟨[.op 2 0], _, [], [0, 1, 2], [11]⟩, ⟨[], [(7, (pBox Zm 7 (default : Zj)))], [8], [], [7]⟩, ⟨[.op 3 0, .op 4 0], _, [8], Lr 5, [7]⟩]) (F := [.old 0, .old 1, .old 2, .op 5 0]) hst hb Za
   (o_p rfl (Zc rfl rfl u_0) <| o_p rfl (Zc rfl rfl u_0) <| o_p rfl (Zbn Tryd.underlying23 Zen rfl rfl u_0 u_1 h2) <| o_p rfl (Zg Zc9 rfl rfl u_0) <| o_p rfl (Zbj (zs := [.float .f64 0, .string ByteArray.empty]) (by kernel_rfl) (fun g => Zey g) rfl rfl) <| o_p rfl (Zb4 Zc9 rfl rfl u_1 u_0) <| o_n) (by kernel_rfl) (fun a g hst hb => ?_)
 refine wp_seq ?_
 refine r_s (T := [⟨[.old 3], _, [], [], [12]⟩, ⟨[.op 0 0], _, [], [0], [13]⟩, ⟨[.op 1 0], _, [], [0, 1], [14]⟩, ⟨[.op 2 0], _, [], [0, 1, 2], [15]⟩]) (F := [.old 0, .old 1, .old 2, .old 3, .op 3 0]) hst hb Za
   (o_p rfl (Ze Zdg rfl rfl u_0) <| o_p rfl (Zg ty_9 rfl rfl u_0) <| o_p rfl (Zfa Tryd.underlying9 rfl rfl u_0) <| o_p rfl (Zb9 rfl rfl u_0 c_i) <| o_n) (by kernel_rfl) (fun a g hst hb => ?_)
 refine wp_cond_split (hst.bool 4 rfl) (fun hc3 => ?_) (fun hc3 => ?_)
 · replace H0 := Zp hc3 H0
   refine r_s (L := []) (T := [⟨[], _, [], [], [6]⟩]) (F := [.op 0 0]) (hst.pick [] rfl) hb Za
     (o_p rfl (Zb rfl rfl c_i) <| o_n) (by kernel_rfl) (fun a g hst hb => ?_)
   refine wp_ret ?_
   refine Zk ?_
   obtain rfl := Option.some.inj H0
   exact Zy rfl hst hb (Zi (s := 6)) (hst.at 0 rfl)
 · replace H0 := Zr hc3 H0
   refine wp_skip ?_
   refine Zn ?_
   refine wp_seq ?_
   obtain ⟨r4, h5, H0⟩ := Zh H0; obtain ⟨r6, h7, H0⟩ := Zh H0
   refine r_s (L := [(0, _), (1, _), (2, _), (7, _)]) (T := ⟨[.old 0], _, [], [], [16]⟩ :: ⟨[.op 0 0], _, [], [0], [17]⟩ :: ⟨[.op 1 0], _, [], [0, 1], [18]⟩ :: ⟨[.op 2 0, .old 3], _, [], [0, 1, 2], [19]⟩ :: ⟨[.op 2 0, .op 3 0], _, [], Lr 4, [20]⟩ :: ⟨[.op 2 0, .op 4 0], _, [], Lr 5, [21]⟩ :: ⟨[.op 2 0, .op 5 0], _, [], Lr 6, [22]⟩ :: ⟨[.op 2 0, .op 6 0], _, [], Lr 7, [23]⟩ :: ⟨[.op 7 0], _, [], Lr 8, [24]⟩ :: ⟨[.op 8 0, .old 3], _, [], Lr 9, [25]⟩ :: ⟨[.op 8 0, .op 9 0], _, [], Lr 10, [26]⟩ :: ⟨[.op 8 0, .op 10 0], _, [], Lr 11, [27]⟩ :: ⟨[.op 8 0, .op 11 0], _, [], Lr 12, [28]⟩ :: ⟨[.op 8 0, .op 12 0], _, [], Lr 13, [29]⟩ :: []) (F := [.old 0, .old 1, .old 2, .old 3, .op 13 0]) (hst.pick [0, 1, 2, 3] rfl) hb Za
     (o_p rfl (Zc rfl rfl u_0) <| o_p rfl (Z8 rfl rfl u_0 c_i) <| o_p rfl (Zc rfl rfl u_0) <| o_g (g_t rfl rfl rfl (fun hG => Ze Zdr rfl rfl u_0)) <| o_g (g_t rfl rfl rfl (fun hG => Zg Zci rfl rfl (Opd.gd hG u_0))) <| o_g (g_t rfl rfl rfl (fun hG => Zs Zu2 (Zh5 _ (Zbp h5 hG)) rfl rfl (.cons (Opd.gd hG u_0) .nil))) <| o_g (g_t rfl rfl rfl (fun hG => Zb7 rfl rfl (Opd.gd hG u_0))) <| o_p rfl (Zbb rfl rfl u_0 (fun hz => (Opd.gd hz u_1))) <| o_p rfl (Zc rfl rfl u_0) <| o_g (g_f rfl rfl rfl (fun hG => Ze Zdr rfl rfl u_0)) <| o_g (g_f rfl rfl rfl (fun hG => Zg Zci rfl rfl (Opd.gd hG u_0))) <| o_g (g_f rfl rfl rfl (fun hG => Zs Zuw (Zhl _ (Zbp h7 hG)) rfl rfl (.cons (Opd.gd hG u_0) .nil))) <| o_g (g_f rfl rfl rfl (fun hG => Zb7 rfl rfl (Opd.gd hG u_0))) <| o_p rfl (Zbg rfl rfl u_0 (fun hz => (Opd.gd (bNF hz) u_1))) <| o_n) (by kernel_rfl) (fun a g hst hb => ?_)
   refine wp_cond_split (hst.bool 4 rfl) (fun hc8 => ?_) (fun hc8 => ?_)
   · replace H0 := Zp hc8 H0
     refine r_s (L := []) (T := [⟨[], _, [], [], [6]⟩]) (F := [.op 0 0]) (hst.pick [] rfl) hb Za
       (o_p rfl (Zb rfl rfl c_i) <| o_n) (by kernel_rfl) (fun a g hst hb => ?_)
     refine wp_ret ?_
     refine Zk ?_
     obtain rfl := Option.some.inj H0
     exact Zy rfl hst hb (Zi (s := 6)) (hst.at 0 rfl)
   · replace H0 := Zr hc8 H0
     refine wp_skip ?_
     refine Zn ?_
     refine wp_seq ?_
     obtain ⟨e9, h10, H0⟩ := Zh H0
     refine r_s (L := [(0, _), (1, _), (2, _), (7, _)]) (T := ⟨[.old 2], _, [], [], [30]⟩ :: ⟨[.op 0 0], _, [], [0], [31]⟩ :: ⟨[.op 1 0], _, [], [0, 1], [32]⟩ :: ⟨[.op 2 0, .old 0], _, [], [0, 1, 2], [33]⟩ :: ⟨[.op 2 0, .op 3 0], _, [], Lr 4, [34]⟩ :: ⟨[.op 2 0, .op 4 0], _, [], Lr 5, [35]⟩ :: ⟨[.op 5 0], _, [], Lr 6, [36]⟩ :: ⟨[.op 6 0, .old 1], _, [], Lr 7, [37]⟩ :: ⟨[.op 6 0, .old 2], _, [], Lr 7, [38]⟩ :: ⟨[.op 6 0, .op 8 0], _, [], [0, 1, 2, 3, 4, 5, 6, 8], [39]⟩ :: ⟨[.op 6 0, .op 7 0, .op 9 0], _, [], Lr 10, [40]⟩ :: ⟨[.op 6 0, .op 10 0], _, [], Lr 11, [41]⟩ :: ⟨[.op 6 0, .op 11 0], _, [], Lr 12, [42]⟩ :: ⟨[.op 6 0, .old 3], _, [], Lr 7, [43]⟩ :: ⟨[.op 6 0, .op 13 0], _, [], [0, 1, 2, 3, 4, 5, 6, 13], [44]⟩ :: ⟨[.op 6 0, .op 12 0, .op 14 0], _, [], Lr 15, [45]⟩ :: ⟨[.op 6 0, .op 15 0], _, [], Lr 16, [46]⟩ :: ⟨[.op 6 0, .op 16 0], _, [], Lr 17, [47]⟩ :: []) (F := [.old 0, .old 1, .old 2, .old 3, .op 17 0]) (hst.pick [0, 1, 2, 3] rfl) hb Za
       (o_p rfl (Zc rfl rfl u_0) <| o_p rfl (Zb9 rfl rfl u_0 c_i) <| o_p rfl (Zc rfl rfl u_0) <| o_g (g_t rfl rfl rfl (fun hG => Zc rfl rfl u_0)) <| o_g (g_t rfl rfl rfl (fun hG => Z8 rfl rfl (Opd.gd hG u_0) c_i)) <| o_p rfl (Zbb rfl rfl u_0 (fun hz => (Opd.gd hz u_1))) <| o_p rfl (Zc rfl rfl u_0) <| o_g (g_t rfl rfl rfl (fun hG => Zc rfl rfl u_0)) <| o_g (g_t rfl rfl rfl (fun hG => Zc rfl rfl u_0)) <| o_g (g_t rfl rfl rfl (fun hG => Zei rfl rfl (Opd.gd hG u_0) c_i rfl)) <| o_g (g_t rfl rfl rfl (fun hG => Zbn Tryd.underlying23 Zen rfl rfl (Opd.gd hG u_0) (Opd.gd hG u_1) (Zbp h10 hG))) <| o_g (g_t rfl rfl rfl (fun hG => Ze Zdg rfl rfl (Opd.gd hG u_0))) <| o_g (g_t rfl rfl rfl (fun hG => Zg ty_9 rfl rfl (Opd.gd hG u_0))) <| o_g (g_t rfl rfl rfl (fun hG => Ze Zdg rfl rfl u_0)) <| o_g (g_t rfl rfl rfl (fun hG => Zg ty_9 rfl rfl (Opd.gd hG u_0))) <| o_g (g_t rfl rfl rfl (fun hG => Zm9 rfl rfl (Opd.gd hG u_0) (Opd.gd hG u_1))) <| o_g (g_t rfl rfl rfl (fun hG => Zb7 rfl rfl (Opd.gd hG u_0))) <| o_p rfl (Zbb rfl rfl u_0 (fun hz => (Opd.gd hz u_1))) <| o_n) (by kernel_rfl) (fun a g hst hb => ?_)
     refine wp_cond_split (hst.bool 4 rfl) (fun hc11 => ?_) (fun hc11 => ?_)
     · replace H0 := Zp hc11 H0
       refine r_s (L := []) (T := [⟨[], _, [], [], [6]⟩]) (F := [.op 0 0]) (hst.pick [] rfl) hb Za
         (o_p rfl (Zb rfl rfl c_i) <| o_n) (by kernel_rfl) (fun a g hst hb => ?_)
       refine wp_ret ?_
       refine Zk ?_
       obtain rfl := Option.some.inj H0
       exact Zy rfl hst hb (Zi (s := 6)) (hst.at 0 rfl)
     · replace H0 := Zr hc11 H0
       refine wp_skip ?_
       refine Zn ?_
       refine wp_seq ?_
       obtain ⟨e12, h13, H0⟩ := Zh H0; obtain ⟨r14, h15, H0⟩ := Zh H0
       refine r_s (L := [(0, _), (1, _), (2, _), (7, _)]) (T := ⟨[.old 2], _, [], [], [48]⟩ :: ⟨[.op 0 0], _, [], [0], [49]⟩ :: ⟨[.op 1 0], _, [], [0, 1], [50]⟩ :: ⟨[.op 2 0, .old 0], _, [], [0, 1, 2], [51]⟩ :: ⟨[.op 2 0, .op 3 0], _, [], Lr 4, [52]⟩ :: ⟨[.op 2 0, .op 4 0], _, [], Lr 5, [53]⟩ :: ⟨[.op 5 0], _, [], Lr 6, [54]⟩ :: ⟨[.op 6 0, .old 1], _, [], Lr 7, [55]⟩ :: ⟨[.op 6 0, .old 2], _, [], Lr 7, [56]⟩ :: ⟨[.op 6 0, .op 8 0], _, [], [0, 1, 2, 3, 4, 5, 6, 8], [57]⟩ :: ⟨[.op 6 0, .op 7 0, .op 9 0], _, [], Lr 10, [58]⟩ :: ⟨[.op 6 0, .op 10 0], _, [], Lr 11, [59]⟩ :: ⟨[.op 6 0, .old 3], _, [], Lr 7, [60]⟩ :: ⟨[.op 6 0, .op 11 0, .op 12 0], _, [], Lr 13, [61]⟩ :: ⟨[.op 6 0, .op 13 0], _, [], Lr 14, [62]⟩ :: ⟨[.op 6 0, .op 14 0], _, [], Lr 15, [63]⟩ :: []) (F := [.op 15 0]) (hst.pick [0, 1, 2, 3] rfl) hb Za
         (o_p rfl (Zc rfl rfl u_0) <| o_p rfl (Zb9 rfl rfl u_0 c_i) <| o_p rfl (Zc rfl rfl u_0) <| o_g (g_t rfl rfl rfl (fun hG => Zc rfl rfl u_0)) <| o_g (g_t rfl rfl rfl (fun hG => Z8 rfl rfl (Opd.gd hG u_0) c_i)) <| o_p rfl (Zbb rfl rfl u_0 (fun hz => (Opd.gd hz u_1))) <| o_p rfl (Zc rfl rfl u_0) <| o_g (g_t rfl rfl rfl (fun hG => Zc rfl rfl u_0)) <| o_g (g_t rfl rfl rfl (fun hG => Zc rfl rfl u_0)) <| o_g (g_t rfl rfl rfl (fun hG => Zei rfl rfl (Opd.gd hG u_0) c_i rfl)) <| o_g (g_t rfl rfl rfl (fun hG => Zbn Tryd.underlying23 Zen rfl rfl (Opd.gd hG u_0) (Opd.gd hG u_1) (Zbp h13 hG))) <| o_g (g_t rfl rfl rfl (fun hG => Zg Zc9 rfl rfl (Opd.gd hG u_0))) <| o_g (g_t rfl rfl rfl (fun hG => Zg Zc9 rfl rfl u_0)) <| o_g (g_t rfl rfl rfl (fun hG => Zs Zys (Zkg _ _ (Zbp h15 hG)) rfl rfl (.cons (Opd.gd hG u_0) (.cons (Opd.gd hG u_1) .nil)))) <| o_g (g_t rfl rfl rfl (fun hG => Zb7 rfl rfl (Opd.gd hG u_0))) <| o_p rfl (Zbb rfl rfl u_0 (fun hz => (Opd.gd hz u_1))) <| o_n) (by kernel_rfl) (fun a g hst hb => ?_)
       refine wp_cond_split (hst.bool 0 rfl) (fun hc16 => ?_) (fun hc16 => ?_)
       · replace H0 := Zp hc16 H0
         refine r_s (L := []) (T := [⟨[], _, [], [], [6]⟩]) (F := [.op 0 0]) (hst.pick [] rfl) hb Za
           (o_p rfl (Zb rfl rfl c_i) <| o_n) (by kernel_rfl) (fun a g hst hb => ?_)
         refine wp_ret ?_
         refine Zk ?_
         obtain rfl := Option.some.inj H0
         exact Zy rfl hst hb (Zi (s := 6)) (hst.at 0 rfl)
       · replace H0 := Zr hc16 H0
         refine wp_skip ?_
         refine Zn ?_
         refine r_s (L := []) (T := [⟨[], _, [], [], [6]⟩]) (F := [.op 0 0]) (hst.pick [] rfl) hb Za
           (o_p rfl (Zb rfl rfl c_i) <| o_n) (by kernel_rfl) (fun a g hst hb => ?_)
         refine wp_ret ?_
         obtain rfl := Option.some.inj H0
         exact Zy rfl hst hb (Zi (s := 6)) (hst.at 0 rfl)
theorem Zkp (a0 : Zd) {r : Int} (h : Zc5 a0 = some r) : FnOk Tryd.prog 19 [(Zf.pd a0)] (pInt .i64 r) := by
 have H0 := h
 unfold Zc5 at H0
 clear h
 refine Zbo (N := 96) Tryd.func19 rfl rfl (Nat.le_of_ble_eq_true rfl) rfl rfl (fun a g0 hst hb => ?_)
 refine r_s (T := [⟨[.old 0], _, [], [], [1]⟩, ⟨[], _, [], [], [2]⟩]) (F := [.op 0 0]) hst hb Za
   (o_p rfl (Zbk rfl rfl u_0) <| o_p rfl (Zb rfl rfl c_i) <| o_n) (by kernel_rfl) (fun a g hst hb => ?_)
 refine wp_seq ?_
 refine r_s (T := [⟨[.old 0], _, [], [], [6]⟩, ⟨[.op 0 0], _, [], [0], [7]⟩, ⟨[.op 1 0], _, [], [0, 1], [8]⟩, ⟨[.op 2 0], _, [], [0, 1, 2], [9]⟩, ⟨[.op 3 0, .old 0], _, [], Lr 4, [10]⟩, ⟨[.op 3 0, .op 4 0], _, [], Lr 5, [11]⟩, ⟨[.op 3 0, .op 5 0], _, [], Lr 6, [12]⟩, ⟨[.op 3 0, .op 6 0], _, [], Lr 7, [13]⟩]) (F := [.old 0, .op 7 0]) hst hb Za
   (o_p rfl (Ze Zcn rfl rfl u_0) <| o_p rfl (Zg ty_3 rfl rfl u_0) <| o_p rfl (Zce rfl rfl u_0 c_i) <| o_p rfl (Zc rfl rfl u_0) <| o_g (g_f rfl rfl rfl (fun hG => Ze Zcn rfl rfl u_0)) <| o_g (g_f rfl rfl rfl (fun hG => Zg ty_3 rfl rfl (Opd.gd hG u_0))) <| o_g (g_f rfl rfl rfl (fun hG => Zb9 rfl rfl (Opd.gd hG u_0) c_i)) <| o_p rfl (Zbg rfl rfl u_0 (fun hz => (Opd.gd (bNF hz) u_1))) <| o_n) (by kernel_rfl) (fun a g hst hb => ?_)
 refine wp_cond_split (hst.bool 1 rfl) (fun hc1 => ?_) (fun hc1 => ?_)
 · replace H0 := Zp hc1 H0
   refine r_s (L := []) (T := [⟨[], _, [], [], [2]⟩]) (F := [.op 0 0]) (hst.pick [] rfl) hb Za
     (o_p rfl (Zb rfl rfl c_i) <| o_n) (by kernel_rfl) (fun a g hst hb => ?_)
   refine wp_ret ?_
   refine Zk ?_
   obtain rfl := Option.some.inj H0
   exact Zy rfl hst hb (Zi (s := 2)) (hst.at 0 rfl)
 · replace H0 := Zr hc1 H0
   refine wp_skip ?_
   refine Zn ?_
   refine wp_seq ?_
   obtain ⟨r2, h3, H0⟩ := Zh H0; obtain ⟨r4, h5, H0⟩ := Zh H0
   refine r_s (L := [(1, _)]) (T := [⟨[.old 0], _, [], [], [14]⟩, ⟨[.old 0], _, [], [], [15]⟩, ⟨[.op 1 0], _, [], [1], [16]⟩, ⟨[.op 2 0], _, [], [1, 2], [17]⟩, ⟨[.op 0 0, .op 3 0], _, [], Lr 4, [18]⟩, ⟨[.op 4 0], _, [], Lr 5, [19]⟩]) (F := [.old 0, .op 5 0]) (hst.pick [0] rfl) hb Za
     (o_p rfl (Zg Z4 rfl rfl u_0) <| o_p rfl (Ze Zcn rfl rfl u_0) <| o_p rfl (Zg ty_3 rfl rfl u_0) <| o_p rfl (Zs Zzp (Zj0 _ h3) rfl rfl (.cons u_0 .nil)) <| o_p rfl (Zs Zz1 (Zk3 _ _ h5) rfl rfl (.cons u_0 (.cons u_1 .nil))) <| o_p rfl (Zb7 rfl rfl u_0) <| o_n) (by kernel_rfl) (fun a g hst hb => ?_)
   refine wp_cond_split (hst.bool 1 rfl) (fun hc6 => ?_) (fun hc6 => ?_)
   · replace H0 := Zp hc6 H0
     refine r_s (L := []) (T := [⟨[], _, [], [], [2]⟩]) (F := [.op 0 0]) (hst.pick [] rfl) hb Za
       (o_p rfl (Zb rfl rfl c_i) <| o_n) (by kernel_rfl) (fun a g hst hb => ?_)
     refine wp_ret ?_
     refine Zk ?_
     obtain rfl := Option.some.inj H0
     exact Zy rfl hst hb (Zi (s := 2)) (hst.at 0 rfl)
   · replace H0 := Zr hc6 H0
     refine wp_skip ?_
     refine Zn ?_
     refine wp_seq ?_
     refine r_s (L := [(1, _)]) (T := [⟨[.old 0], _, [], [], [20]⟩, ⟨[.op 0 0], _, [], [0], [21]⟩, ⟨[.op 1 0], _, [], [0, 1], [22]⟩, ⟨[.op 2 0], _, [], [0, 1, 2], [23]⟩, ⟨[.op 3 0, .old 0], _, [], Lr 4, [24]⟩, ⟨[.op 3 0, .op 4 0], _, [], Lr 5, [25]⟩, ⟨[.op 3 0, .op 5 0], _, [], Lr 6, [26]⟩, ⟨[.op 3 0, .op 6 0], _, [], Lr 7, [27]⟩, ⟨[.op 3 0, .op 7 0], _, [], Lr 8, [28]⟩]) (F := [.old 0, .op 8 0]) (hst.pick [0] rfl) hb Za
       (o_p rfl (Ze Zcn rfl rfl u_0) <| o_p rfl (Zg ty_3 rfl rfl u_0) <| o_p rfl (Z8 rfl rfl u_0 c_i) <| o_p rfl (Zc rfl rfl u_0) <| o_g (g_t rfl rfl rfl (fun hG => Ze Zf1 rfl rfl u_0)) <| o_g (g_t rfl rfl rfl (fun hG => Zg ty_9 rfl rfl (Opd.gd hG u_0))) <| o_g (g_t rfl rfl rfl (fun hG => Zfa Tryd.underlying9 rfl rfl (Opd.gd hG u_0))) <| o_g (g_t rfl rfl rfl (fun hG => Zb9 rfl rfl (Opd.gd hG u_0) c_i)) <| o_p rfl (Zbb rfl rfl u_0 (fun hz => (Opd.gd hz u_1))) <| o_n) (by kernel_rfl) (fun a g hst hb => ?_)
     refine wp_cond_split (hst.bool 1 rfl) (fun hc7 => ?_) (fun hc7 => ?_)
     · replace H0 := Zp hc7 H0
       refine r_s (L := []) (T := [⟨[], _, [], [], [2]⟩]) (F := [.op 0 0]) (hst.pick [] rfl) hb Za
         (o_p rfl (Zb rfl rfl c_i) <| o_n) (by kernel_rfl) (fun a g hst hb => ?_)
       refine wp_ret ?_
       refine Zk ?_
       obtain rfl := Option.some.inj H0
       exact Zy rfl hst hb (Zi (s := 2)) (hst.at 0 rfl)
     · replace H0 := Zr hc7 H0
       refine wp_skip ?_
       refine Zn ?_
       refine r_s (L := [(1, _)]) (T := [⟨[], _, [], [], [3]⟩]) (F := [.old 0, .op 0 0]) (hst.pick [0] rfl) hb Za
         (o_p rfl (Zb rfl rfl c_i) <| o_n) (by kernel_rfl) (fun a g hst hb => ?_)
       refine wp_seq ?_
       refine r_s (T := ⟨[.old 0], _, [], [], [29]⟩ :: ⟨[.op 0 0], _, [], [0], [30]⟩ :: ⟨[.op 1 0], _, [], [0, 1], [31]⟩ :: ⟨[.op 2 0], _, [], [0, 1, 2], [32]⟩ :: ⟨[.op 3 0, .old 0], _, [], Lr 4, [33]⟩ :: ⟨[.op 3 0, .op 4 0], _, [], Lr 5, [34]⟩ :: ⟨[.op 3 0, .old 1], _, [], Lr 4, [35]⟩ :: ⟨[.op 3 0, .op 6 0], _, [], [0, 1, 2, 3, 6], [36]⟩ :: ⟨[.op 3 0, .op 5 0, .op 7 0], _, [], Lr 8, [37]⟩ :: ⟨[.op 3 0, .op 8 0], _, [], Lr 9, [38]⟩ :: ⟨[.op 9 0, .old 0], _, [], Lr 10, [39]⟩ :: ⟨[.op 9 0, .op 10 0], _, [], Lr 11, [40]⟩ :: ⟨[.op 9 0, .old 1], _, [], Lr 10, [41]⟩ :: ⟨[.op 9 0, .op 11 0, .op 12 0], _, [], Lr 13, [42]⟩ :: ⟨[.op 3 0, .op 9 0, .op 13 0], _, [], Lr 14, [43]⟩ :: ⟨[.op 3 0, .op 14 0], _, [], Lr 15, [44]⟩ :: ⟨[.op 15 0, .old 0], _, [], Lr 16, [45]⟩ :: ⟨[.op 15 0, .op 16 0], _, [], Lr 17, [46]⟩ :: ⟨[.op 15 0, .old 0], _, [], Lr 16, [47]⟩ :: ⟨[.op 15 0, .op 18 0], _, [], 0 :: 1 :: 2 :: 3 :: 4 :: 5 :: 6 :: 7 :: 8 :: 9 :: 10 :: 11 :: 12 :: 13 :: 14 :: 15 :: 18 :: [], [48]⟩ :: ⟨[.op 15 0, .op 17 0, .op 19 0], _, [], Lr 20, [49]⟩ :: ⟨[.op 3 0, .op 15 0, .op 20 0], _, [], Lr 21, [50]⟩ :: ⟨[.op 3 0, .op 21 0], _, [], Lr 22, [51]⟩ :: ⟨[.op 22 0, .old 0], _, [], Lr 23, [52]⟩ :: ⟨[.op 22 0, .op 23 0], _, [], Lr 24, [53]⟩ :: ⟨[.op 22 0, .old 0], _, [], Lr 23, [54]⟩ :: ⟨[.op 22 0, .op 25 0], _, [], 0 :: 1 :: 2 :: 3 :: 4 :: 5 :: 6 :: 7 :: 8 :: 9 :: 10 :: 11 :: 12 :: 13 :: 14 :: 15 :: 16 :: 17 :: 18 :: 19 :: 20 :: 21 :: 22 :: 25 :: [], [55]⟩ :: ⟨[.op 22 0, .op 24 0, .op 26 0], _, [], Lr 27, [56]⟩ :: ⟨[.op 3 0, .op 22 0, .op 27 0], _, [], Lr 28, [57]⟩ :: ⟨[.op 3 0, .op 28 0], _, [], Lr 29, [58]⟩ :: []) (F := [.old 0, .op 29 0]) hst hb Za
         (o_p rfl (Ze Zcn rfl rfl u_0) <| o_p rfl (Zg ty_3 rfl rfl u_0) <| o_p rfl (Z8 rfl rfl u_0 c_i) <| o_p rfl (Zc rfl rfl u_0) <| o_g (g_t rfl rfl rfl (fun hG => Ze Zfc rfl rfl u_0)) <| o_g (g_t rfl rfl rfl (fun hG => Zg ty_2 rfl rfl (Opd.gd hG u_0))) <| o_g (g_t rfl rfl rfl (fun hG => Zc rfl rfl u_0)) <| o_g (g_t rfl rfl rfl (fun hG => Zp4 rfl rfl (Opd.gd hG u_0) rfl)) <| o_g (g_t rfl rfl rfl (fun hG => Zce rfl rfl (Opd.gd hG u_0) (Opd.gd hG u_1))) <| o_g (g_t rfl rfl rfl (fun hG => Zc rfl rfl (Opd.gd hG u_0))) <| o_g (g_fi rfl rfl rfl (fun hG => Ze Zfb rfl rfl u_0)) <| o_g (g_fi rfl rfl rfl (fun hG => Zg ty_2 rfl rfl (Opd.gd hG u_0))) <| o_g (g_fi rfl rfl rfl (fun hG => Zc rfl rfl u_0)) <| o_g (g_fi rfl rfl rfl (fun hG => Zb9 rfl rfl (Opd.gd hG u_0) (Opd.gd hG u_1))) <| o_g (g_t rfl rfl rfl (fun hG => Zbg rfl rfl (Opd.gd hG u_0) (fun hz => (Opd.gd (bA hG (bNF hz)) u_1)))) <| o_g (g_t rfl rfl rfl (fun hG => Zc rfl rfl (Opd.gd hG u_0))) <| o_g (g_fi rfl rfl rfl (fun hG => Ze Zb6 rfl rfl u_0)) <| o_g (g_fi rfl rfl rfl (fun hG => Zg ty_2 rfl rfl (Opd.gd hG u_0))) <| o_g (g_fi rfl rfl rfl (fun hG => Ze Zfc rfl rfl u_0)) <| o_g (g_fi rfl rfl rfl (fun hG => Zg ty_2 rfl rfl (Opd.gd hG u_0))) <| o_g (g_fi rfl rfl rfl (fun hG => Zce rfl rfl (Opd.gd hG u_0) (Opd.gd hG u_1))) <| o_g (g_t rfl rfl rfl (fun hG => Zbg rfl rfl (Opd.gd hG u_0) (fun hz => (Opd.gd (bA hG (bNF hz)) u_1)))) <| o_g (g_t rfl rfl rfl (fun hG => Zc rfl rfl (Opd.gd hG u_0))) <| o_g (g_fi rfl rfl rfl (fun hG => Ze Zb6 rfl rfl u_0)) <| o_g (g_fi rfl rfl rfl (fun hG => Zg ty_2 rfl rfl (Opd.gd hG u_0))) <| o_g (g_fi rfl rfl rfl (fun hG => Ze Zfb rfl rfl u_0)) <| o_g (g_fi rfl rfl rfl (fun hG => Zg ty_2 rfl rfl (Opd.gd hG u_0))) <| o_g (g_fi rfl rfl rfl (fun hG => Zb9 rfl rfl (Opd.gd hG u_0) (Opd.gd hG u_1))) <| o_g (g_t rfl rfl rfl (fun hG => Zbg rfl rfl (Opd.gd hG u_0) (fun hz => (Opd.gd (bA hG (bNF hz)) u_1)))) <| o_p rfl (Zbb rfl rfl u_0 (fun hz => (Opd.gd hz u_1))) <| o_n) (by kernel_rfl) (fun a g hst hb => ?_)
       refine wp_cond_split (hst.bool 1 rfl) (fun hc8 => ?_) (fun hc8 => ?_)
       · replace H0 := Zp hc8 H0
         refine r_s (L := []) (T := [⟨[], _, [], [], [2]⟩]) (F := [.op 0 0]) (hst.pick [] rfl) hb Za
           (o_p rfl (Zb rfl rfl c_i) <| o_n) (by kernel_rfl) (fun a g hst hb => ?_)
         refine wp_ret ?_
         refine Zk ?_
         obtain rfl := Option.some.inj H0
         exact Zy rfl hst hb (Zi (s := 2)) (hst.at 0 rfl)
       · replace H0 := Zr hc8 H0
         refine wp_skip ?_
         refine Zn ?_
         refine wp_seq ?_
         obtain ⟨r9, h10, H0⟩ := Zh H0
         refine r_s (L := [(1, _)]) (T := [⟨[.old 0], _, [], [], [59]⟩, ⟨[.op 0 0], _, [], [0], [60]⟩, ⟨[.op 1 0], _, [], [0, 1], [61]⟩, ⟨[.op 2 0], _, [], [0, 1, 2], [62]⟩]) (F := [.old 0, .op 3 0]) (hst.pick [0] rfl) hb Za
           (o_p rfl (Ze Zd5 rfl rfl u_0) <| o_p rfl (Zg Zci rfl rfl u_0) <| o_p rfl (Zs Zuw (Zhl _ h10) rfl rfl (.cons u_0 .nil)) <| o_p rfl (Zb7 rfl rfl u_0) <| o_n) (by kernel_rfl) (fun a g hst hb => ?_)
         refine wp_cond_split (hst.bool 1 rfl) (fun hc11 => ?_) (fun hc11 => ?_)
         · replace H0 := Zp hc11 H0
           refine r_s (L := []) (T := [⟨[], _, [], [], [2]⟩]) (F := [.op 0 0]) (hst.pick [] rfl) hb Za
             (o_p rfl (Zb rfl rfl c_i) <| o_n) (by kernel_rfl) (fun a g hst hb => ?_)
           refine wp_ret ?_
           refine Zk ?_
           obtain rfl := Option.some.inj H0
           exact Zy rfl hst hb (Zi (s := 2)) (hst.at 0 rfl)
         · replace H0 := Zr hc11 H0
           refine wp_skip ?_
           refine Zn ?_
           refine wp_seq ?_
           refine r_s (L := [(1, _)]) (T := [⟨[.old 0], _, [], [], [63]⟩, ⟨[.op 0 0], _, [], [0], [64]⟩, ⟨[.op 1 0], _, [], [0, 1], [65]⟩]) (F := [.old 0, .op 2 0]) (hst.pick [0] rfl) hb Za
             (o_p rfl (Ze Zcn rfl rfl u_0) <| o_p rfl (Zg ty_3 rfl rfl u_0) <| o_p rfl (Zce rfl rfl u_0 c_i) <| o_n) (by kernel_rfl) (fun a g hst hb => ?_)
           refine wp_cond_split (hst.bool 1 rfl) (fun hc12 => ?_) (fun hc12 => ?_)
           · replace H0 := Zp hc12 H0
             refine r_s (L := []) (T := [⟨[], _, [], [], [2]⟩]) (F := [.op 0 0]) (hst.pick [] rfl) hb Za
               (o_p rfl (Zb rfl rfl c_i) <| o_n) (by kernel_rfl) (fun a g hst hb => ?_)
             refine wp_ret ?_
             refine Zk ?_
             obtain rfl := Option.some.inj H0
             exact Zy rfl hst hb (Zi (s := 2)) (hst.at 0 rfl)
           · replace H0 := Zr hc12 H0
             refine wp_skip ?_
             refine Zn ?_
             refine wp_seq ?_
             refine r_s (L := [(1, _)]) (T := [⟨[.old 0], _, [], [], [66]⟩, ⟨[.op 0 0], _, [], [0], [67]⟩, ⟨[.op 1 0], _, [], [0, 1], [68]⟩, ⟨[.op 2 0], _, [], [0, 1, 2], [69]⟩, ⟨[.op 3 0, .old 0], _, [], Lr 4, [70]⟩, ⟨[.op 3 0, .op 4 0], _, [], Lr 5, [71]⟩, ⟨[.op 3 0, .op 5 0], _, [], Lr 6, [72]⟩, ⟨[.op 3 0, .op 6 0], _, [], Lr 7, [73]⟩]) (F := [.old 0, .op 7 0]) (hst.pick [0] rfl) hb Za
               (o_p rfl (Ze Zds rfl rfl u_0) <| o_p rfl (Zg ty_3 rfl rfl u_0) <| o_p rfl (Zce rfl rfl u_0 c_i) <| o_p rfl (Zc rfl rfl u_0) <| o_g (g_f rfl rfl rfl (fun hG => Ze Zds rfl rfl u_0)) <| o_g (g_f rfl rfl rfl (fun hG => Zg ty_3 rfl rfl (Opd.gd hG u_0))) <| o_g (g_f rfl rfl rfl (fun hG => Zb9 rfl rfl (Opd.gd hG u_0) c_i)) <| o_p rfl (Zbg rfl rfl u_0 (fun hz => (Opd.gd (bNF hz) u_1))) <| o_n) (by kernel_rfl) (fun a g hst hb => ?_)
             refine wp_cond_split (hst.bool 1 rfl) (fun hc13 => ?_) (fun hc13 => ?_)
             · replace H0 := Zp hc13 H0
               refine r_s (L := []) (T := [⟨[], _, [], [], [2]⟩]) (F := [.op 0 0]) (hst.pick [] rfl) hb Za
                 (o_p rfl (Zb rfl rfl c_i) <| o_n) (by kernel_rfl) (fun a g hst hb => ?_)
               refine wp_ret ?_
               refine Zk ?_
               obtain rfl := Option.some.inj H0
               exact Zy rfl hst hb (Zi (s := 2)) (hst.at 0 rfl)
             · replace H0 := Zr hc13 H0
               refine wp_skip ?_
               refine Zn ?_
               refine wp_seq ?_
               refine r_s (L := [(1, _)]) (T := [⟨[.old 0], _, [], [], [74]⟩, ⟨[.op 0 0], _, [], [0], [75]⟩, ⟨[.op 1 0], _, [], [0, 1], [76]⟩, ⟨[.old 0], _, [], [], [77]⟩, ⟨[.op 3 0], _, [], [3], [78]⟩, ⟨[.op 2 0, .op 4 0], _, [], Lr 5, [79]⟩]) (F := [.old 0, .op 5 0]) (hst.pick [0] rfl) hb Za
                 (o_p rfl (Ze Zbu rfl rfl u_0) <| o_p rfl (Zg Zck rfl rfl u_0) <| o_p rfl (Zca Tryd.underlying23 rfl rfl u_0) <| o_p rfl (Ze Zds rfl rfl u_0) <| o_p rfl (Zg ty_3 rfl rfl u_0) <| o_p rfl (Zb9 rfl rfl u_0 u_1) <| o_n) (by kernel_rfl) (fun a g hst hb => ?_)
               refine wp_cond_split (hst.bool 1 rfl) (fun hc14 => ?_) (fun hc14 => ?_)
               · replace H0 := Zp hc14 H0
                 refine r_s (L := []) (T := [⟨[], _, [], [], [2]⟩]) (F := [.op 0 0]) (hst.pick [] rfl) hb Za
                   (o_p rfl (Zb rfl rfl c_i) <| o_n) (by kernel_rfl) (fun a g hst hb => ?_)
                 refine wp_ret ?_
                 refine Zk ?_
                 obtain rfl := Option.some.inj H0
                 exact Zy rfl hst hb (Zi (s := 2)) (hst.at 0 rfl)
               · replace H0 := Zr hc14 H0
                 refine wp_skip ?_
                 refine Zn ?_
                 refine wp_seq ?_
                 refine r_s (L := [(1, _)]) (T := [⟨[], _, [], [], [4]⟩]) (F := [.old 0, .op 0 0]) (hst.pick [0] rfl) hb Za
                   (o_p rfl (Zb rfl rfl c_i) <| o_n) (by kernel_rfl) (fun a g hst hb => ?_)
                 obtain ⟨z20, hz1, H0⟩ := Zh H0
                 refine Zcf (fun a w => ∃ (g : G), w = g.w ∧ St 96 [] a g ∧ Base g0 g ∧ (.inr ()) = z20) ?_ ?_
                 · rintro a w ⟨g, rfl, hst, hb, rfl⟩
                   refine Zn ?_
                   refine r_s (T := [⟨[], _, [], [], [2]⟩]) (F := [.op 0 0]) hst hb Za
                     (o_p rfl (Zb rfl rfl c_i) <| o_n) (by kernel_rfl) (fun a g hst hb => ?_)
                   refine wp_ret ?_
                   obtain rfl := Option.some.inj H0
                   exact Zy rfl hst hb (Zi (s := 2)) (hst.at 0 rfl)
                 · refine wp_block ?_
                   refine wp_loop_ghost (fun n a w => ∃ (x15 : Int) (g : G), w = g.w ∧ St 96 [(1, (Zf.ptr a0)), (4, (pInt .i64 x15))] a g ∧ Base g0 g ∧ Zcs a0 n x15 = some z20) (Int.toNat ((a0.List.length : Int) - (0 : Int)) + 1) ⟨(0 : Int), g, rfl, (hst.pick [0, 1] rfl), hb, hz1⟩ (fun n a w hI => ?_)
                   obtain ⟨x15, g, rfl, hst, hb, H1⟩ := hI
                   cases n with
                   | zero => exact absurd H1 (by simp [Zcs])
                   | succ n =>
                     rw [Zcs] at H1
                     refine wp_seq ?_
                     refine r_s (T := [⟨[.old 1], _, [], [], [80]⟩, ⟨[.old 0], _, [], [], [81]⟩, ⟨[.op 1 0], _, [], [1], [82]⟩, ⟨[.op 2 0], _, [], [1, 2], [83]⟩, ⟨[.op 0 0, .op 3 0], _, [], Lr 4, [84]⟩]) (F := [.old 0, .old 1, .op 4 0]) hst hb Za
                       (o_p rfl (Zc rfl rfl u_0) <| o_p rfl (Ze Zbu rfl rfl u_0) <| o_p rfl (Zg Zck rfl rfl u_0) <| o_p rfl (Zca Tryd.underlying23 rfl rfl u_0) <| o_p rfl (Zce rfl rfl u_0 u_1) <| o_n) (by kernel_rfl) (fun a g hst hb => ?_)
                     refine wp_cond_split (hst.bool 2 rfl) (fun hc16 => ?_) (fun hc16 => ?_)
                     · replace H1 := Zp hc16 H1
                       refine wp_skip ?_
                       refine Zn ?_
                       refine wp_seq ?_
                       refine wp_block ?_
                       obtain ⟨r17, h18, H1⟩ := Zh H1
                       refine r_s (L := [(1, _), (4, _)]) (T := [⟨[.old 0], _, [], [], [87]⟩, ⟨[.op 0 0], _, [], [0], [88]⟩, ⟨[.old 0], _, [], [], [89]⟩, ⟨[.op 2 0], _, [], [2], [90]⟩, ⟨[.old 1], _, [], [], [91]⟩, ⟨[.op 1 0, .op 3 0, .op 4 0], _, [], Lr 5, [92]⟩, ⟨[.op 5 0], _, [], Lr 6, [5]⟩]) (F := [.old 0, .old 1, .op 6 0]) (hst.pick [0, 1] rfl) hb Za
                         (o_p rfl (Ze Zcn rfl rfl u_0) <| o_p rfl (Zg ty_3 rfl rfl u_0) <| o_p rfl (Ze Zbu rfl rfl u_0) <| o_p rfl (Zg Zck rfl rfl u_0) <| o_p rfl (Zc rfl rfl u_0) <| o_p rfl (Zs Zzr (Zk1 _ _ _ h18) rfl rfl (.cons u_0 (.cons u_1 (.cons u_2 .nil)))) <| o_p rfl (Zb rfl rfl u_0) <| o_n) (by kernel_rfl) (fun a g hst hb => ?_)
                       refine r_s (T := [⟨[.old 2], _, [], [], [93]⟩, ⟨[.op 0 0], _, [], [0], [94]⟩]) (F := [.old 0, .old 1, .old 2, .op 1 0]) hst hb Za
                         (o_p rfl (Zc rfl rfl u_0) <| o_p rfl (Zcv rfl rfl u_0 c_i) <| o_n) (by kernel_rfl) (fun a g hst hb => ?_)
                       refine wp_cond_split (hst.bool 3 rfl) (fun hc19 => ?_) (fun hc19 => ?_)
                       · replace H1 := Zp hc19 H1
                         refine r_s (L := [(5, _)]) (T := [⟨[.old 0], _, [], [], [95]⟩, ⟨[.op 0 0], _, [], [0], [2]⟩]) (F := [.op 1 0]) (hst.pick [2] rfl) hb Za
                           (o_p rfl (Zc rfl rfl u_0) <| o_p rfl (Zb rfl rfl u_0) <| o_n) (by kernel_rfl) (fun a g hst hb => ?_)
                         refine wp_ret ?_
                         refine Zt ?_
                         refine Zk ?_
                         refine Zk ?_
                         refine Zt ?_
                         refine Zk ?_
                         refine Zk ?_
                         obtain rfl := Option.some.inj H1
                         obtain rfl := Option.some.inj H0
                         exact Zy rfl hst hb (Zi (s := 2)) (hst.at 0 rfl)
                       · replace H1 := Zr hc19 H1
                         refine wp_skip ?_
                         refine Zbe ?_
                         refine Zn ?_
                         refine r_g (L := [(1, _), (4, _)]) (T := [⟨[.old 1], _, [], [], [85]⟩, ⟨[.op 0 0], _, [], [0], [86]⟩, ⟨[.op 1 0], _, [], [0, 1], [4]⟩]) (F := [.old 0, .op 2 0]) (hst.pick [0, 1] rfl) hb Za
                           (o_p rfl (Zc rfl rfl u_0) <| o_p rfl (Zcq rfl rfl u_0 c_i rfl) <| o_p rfl (Zb rfl rfl u_0) <| o_n) (by kernel_rfl) (fun a g hst hb => ?_)
                         exact ⟨n, Nat.lt_succ_self _, (IntKind.i64.wrap (x15 + (1 : Int))), g, rfl, (hst.pick [0, 1] rfl), hb, H1⟩
                     · replace H1 := Zr hc16 H1
                       refine wp_exit ?_
                       refine Zcg ?_
                       refine Zcg ?_
                       refine Zc4 ?_
                       exact ⟨g, rfl, (hst.pick [] rfl), hb, Option.some.inj H1⟩
theorem Zkw (a0 : Zd) {r : Zd × Bool} (h : Zew a0 = some r) : FnOk Tryd.prog 11 [(Zf.pd a0)] (pTup [(Zf.pd r.1), (Z5 r.2)]) := by
 have H0 := h
 unfold Zew at H0
 clear h
 refine Zbo (N := 37) Tryd.func11 rfl rfl (Nat.le_of_ble_eq_true rfl) rfl rfl (fun a g0 hst hb => ?_)
 refine r_s (T := [⟨[.old 0], _, [], [], [1]⟩, ⟨[], [(2, (pBox Zf 2 (default : Zd)))], [3], [], [2]⟩, ⟨[], _, [], [], [3]⟩]) (F := [.op 0 0, .op 1 0]) hst hb Za
   (o_p rfl (Zbk rfl rfl u_0) <| o_p rfl (Zbj (zs := [.int .i64 0, .int .i64 0, .int .i64 0, .int .i64 0, .float .f64 0, .int .i64 0, .string ByteArray.empty, .slice none 0 0]) (by kernel_rfl) (fun g => Zbr g) rfl rfl) <| o_p rfl (Zb rfl rfl c_b) <| o_n) (by kernel_rfl) (fun a g hst hb => ?_)
 refine wp_seq ?_
 obtain ⟨r1, h2, H0⟩ := Zh H0
 refine r_s (T := ⟨[.old 0], _, [], [], [4]⟩ :: ⟨[.op 0 0], _, [], [0], [5]⟩ :: ⟨[.op 1 0], _, [], [0, 1], [6]⟩ :: ⟨[.op 2 0], _, [], [0, 1, 2], [7]⟩ :: ⟨[.op 3 0, .old 0], _, [], Lr 4, [8]⟩ :: ⟨[.op 3 0, .op 4 0], _, [], Lr 5, [9]⟩ :: ⟨[.op 3 0, .op 5 0], _, [], Lr 6, [10]⟩ :: ⟨[.op 3 0, .op 6 0], _, [], Lr 7, [11]⟩ :: ⟨[.op 7 0], _, [], Lr 8, [12]⟩ :: ⟨[.op 8 0, .old 0], _, [], Lr 9, [13]⟩ :: ⟨[.op 8 0, .op 9 0], _, [], Lr 10, [14]⟩ :: ⟨[.op 8 0, .op 10 0], _, [], Lr 11, [15]⟩ :: ⟨[.op 8 0, .op 11 0], _, [], Lr 12, [16]⟩ :: []) (F := [.old 0, .old 1, .op 12 0]) hst hb Za
   (o_p rfl (Zg Z4 rfl rfl u_0) <| o_p rfl (Zs Zy2 (Zkp _ h2) rfl rfl (.cons u_0 .nil)) <| o_p rfl (Zcv rfl rfl u_0 c_i) <| o_p rfl (Zc rfl rfl u_0) <| o_g (g_f rfl rfl rfl (fun hG => Ze Zcn rfl rfl u_0)) <| o_g (g_f rfl rfl rfl (fun hG => Zg ty_3 rfl rfl (Opd.gd hG u_0))) <| o_g (g_f rfl rfl rfl (fun hG => Z8 rfl rfl (Opd.gd hG u_0) c_i)) <| o_p rfl (Zbg rfl rfl u_0 (fun hz => (Opd.gd (bNF hz) u_1))) <| o_p rfl (Zc rfl rfl u_0) <| o_g (g_f rfl rfl rfl (fun hG => Ze Zcn rfl rfl u_0)) <| o_g (g_f rfl rfl rfl (fun hG => Zg ty_3 rfl rfl (Opd.gd hG u_0))) <| o_g (g_f rfl rfl rfl (fun hG => Z8 rfl rfl (Opd.gd hG u_0) c_i)) <| o_p rfl (Zbg rfl rfl u_0 (fun hz => (Opd.gd (bNF hz) u_1))) <| o_n) (by kernel_rfl) (fun a g hst hb => ?_)
 refine wp_cond_split (hst.bool 2 rfl) (fun hc3 => ?_) (fun hc3 => ?_)
 · replace H0 := Zp hc3 H0
   refine r_s (L := [(2, _)]) (T := [⟨[], _, [], [], [17]⟩, ⟨[.op 0 0, .old 0], _, [3], [0], [2]⟩, ⟨[], _, [], [0, 1], [3]⟩]) (F := [.op 1 0, .op 2 0]) (hst.pick [1] rfl) hb Za
     (o_p rfl (Zka rfl rfl ) <| o_p rfl (Z6 Z4 rfl rfl u_1 u_0) <| o_p rfl (Zb rfl rfl c_b) <| o_n) (by kernel_rfl) (fun a g hst hb => ?_)
   refine wp_ret ?_
   refine Zk ?_
   obtain rfl := Option.some.inj H0
   obtain ⟨u0, hu0, hq0⟩ := Zba (P := Tryd.prog) Z4 (hst.at 0 rfl)
   exact Zef rfl hst hb hu0 (Zi (s := 3)) (Zdi hq0 (hst.at 1 rfl))
 · replace H0 := Zr hc3 H0
   refine wp_skip ?_
   refine Zn ?_
   refine wp_seq ?_
   refine r_s (L := [(1, _), (2, _)]) (T := [⟨[.old 0], _, [], [], [18]⟩, ⟨[.op 0 0], _, [], [0], [19]⟩]) (F := [.old 0, .old 1, .op 1 0]) (hst.pick [0, 1] rfl) hb Za
     (o_p rfl (Ze Zcn rfl rfl u_0) <| o_p rfl (Zg ty_3 rfl rfl u_0) <| o_n) (by kernel_rfl) (fun a g hst hb => ?_)
   refine wp_block ?_
   refine r_s (T := [⟨[.old 2], _, [], [], [21]⟩, ⟨[.op 0 0], _, [], [0], [20]⟩]) (F := [.old 0, .old 1, .old 2, .op 1 0]) hst hb Za
     (o_p rfl (Z8 rfl rfl u_0 c_i) <| o_p rfl (Zb rfl rfl u_0) <| o_n) (by kernel_rfl) (fun a g hst hb => ?_)
   refine wp_cond_split (hst.bool 3 rfl) (fun hc4 => ?_) (fun hc4 => ?_)
   · replace H0 := Zp hc4 H0
     obtain ⟨r5, h6, H0⟩ := Zh H0
     refine r_s (L := [(2, _)]) (T := [⟨[], _, [], [], [22]⟩, ⟨[.op 0 0], _, [], [0], [23]⟩, ⟨[.op 1 0, .old 0], _, [3], [0, 1], [2]⟩, ⟨[], _, [], [0, 1, 2], [3]⟩]) (F := [.op 2 0, .op 3 0]) (hst.pick [1] rfl) hb Za
       (o_p rfl (Zs Zuz (Zml _ h6) rfl rfl (.cons c_i .nil)) <| o_p rfl (Zjl rfl rfl c_i u_0) <| o_p rfl (Z6 Z4 rfl rfl u_1 u_0) <| o_p rfl (Zb rfl rfl c_b) <| o_n) (by kernel_rfl) (fun a g hst hb => ?_)
     refine wp_ret ?_
     refine Zt ?_
     refine Zk ?_
     obtain rfl := Option.some.inj H0
     obtain ⟨u0, hu0, hq0⟩ := Zba (P := Tryd.prog) Z4 (hst.at 0 rfl)
     exact Zef rfl hst hb hu0 (Zi (s := 3)) (Zdi hq0 (hst.at 1 rfl))
   · replace H0 := Zr hc4 H0
     refine r_s (L := [(1, _), (2, _), (19, _)]) (T := [⟨[.old 2], _, [], [], [25]⟩, ⟨[.op 0 0], _, [], [0], [24]⟩]) (F := [.old 0, .old 1, .old 2, .op 1 0]) (hst.pick [0, 1, 2] rfl) hb Za
       (o_p rfl (Z8 rfl rfl u_0 c_i) <| o_p rfl (Zb rfl rfl u_0) <| o_n) (by kernel_rfl) (fun a g hst hb => ?_)
     refine wp_cond_split (hst.bool 3 rfl) (fun hc7 => ?_) (fun hc7 => ?_)
     · replace H0 := Zp hc7 H0
       obtain ⟨r8, h9, H0⟩ := Zh H0
       refine r_s (L := [(2, _)]) (T := [⟨[], _, [], [], [26]⟩, ⟨[.op 0 0], _, [], [0], [27]⟩, ⟨[.op 1 0, .old 0], _, [3], [0, 1], [2]⟩, ⟨[], _, [], [0, 1, 2], [3]⟩]) (F := [.op 2 0, .op 3 0]) (hst.pick [1] rfl) hb Za
         (o_p rfl (Zs Zsd (Zju h9) rfl rfl .nil) <| o_p rfl (Zjl rfl rfl c_i u_0) <| o_p rfl (Z6 Z4 rfl rfl u_1 u_0) <| o_p rfl (Zb rfl rfl c_b) <| o_n) (by kernel_rfl) (fun a g hst hb => ?_)
       refine wp_ret ?_
       refine Zt ?_
       refine Zk ?_
       obtain rfl := Option.some.inj H0
       obtain ⟨u0, hu0, hq0⟩ := Zba (P := Tryd.prog) Z4 (hst.at 0 rfl)
       exact Zef rfl hst hb hu0 (Zi (s := 3)) (Zdi hq0 (hst.at 1 rfl))
     · replace H0 := Zr hc7 H0
       refine r_s (L := [(1, _), (2, _), (19, _)]) (T := [⟨[.old 2], _, [], [], [29]⟩, ⟨[.op 0 0], _, [], [0], [28]⟩]) (F := [.old 0, .old 1, .old 2, .op 1 0]) (hst.pick [0, 1, 2] rfl) hb Za
         (o_p rfl (Z8 rfl rfl u_0 c_i) <| o_p rfl (Zb rfl rfl u_0) <| o_n) (by kernel_rfl) (fun a g hst hb => ?_)
       refine wp_cond_split (hst.bool 3 rfl) (fun hc10 => ?_) (fun hc10 => ?_)
       · replace H0 := Zp hc10 H0
         refine r_s (L := [(2, _)]) (T := [⟨[], _, [], [], [30]⟩, ⟨[.op 0 0, .old 0], _, [3], [0], [2]⟩, ⟨[], _, [], [0, 1], [3]⟩]) (F := [.op 1 0, .op 2 0]) (hst.pick [1] rfl) hb Za
           (o_p rfl (Zjm rfl rfl c_i c_i) <| o_p rfl (Z6 Z4 rfl rfl u_1 u_0) <| o_p rfl (Zb rfl rfl c_b) <| o_n) (by kernel_rfl) (fun a g hst hb => ?_)
         refine wp_ret ?_
         refine Zt ?_
         refine Zk ?_
         obtain rfl := Option.some.inj H0
         obtain ⟨u0, hu0, hq0⟩ := Zba (P := Tryd.prog) Z4 (hst.at 0 rfl)
         exact Zef rfl hst hb hu0 (Zi (s := 3)) (Zdi hq0 (hst.at 1 rfl))
       · replace H0 := Zr hc10 H0
         refine r_s (L := [(1, _), (2, _), (19, _)]) (T := [⟨[.old 2], _, [], [], [32]⟩, ⟨[.op 0 0], _, [], [0], [31]⟩]) (F := [.old 0, .old 1, .op 1 0]) (hst.pick [0, 1, 2] rfl) hb Za
           (o_p rfl (Z8 rfl rfl u_0 c_i) <| o_p rfl (Zb rfl rfl u_0) <| o_n) (by kernel_rfl) (fun a g hst hb => ?_)
         refine wp_cond_split (hst.bool 2 rfl) (fun hc11 => ?_) (fun hc11 => ?_)
         · replace H0 := Zp hc11 H0
           refine r_s (L := [(1, _), (2, _)]) (T := [⟨[.old 0], _, [], [], [33]⟩, ⟨[.op 0 0], _, [], [0], [34]⟩, ⟨[.op 1 0], _, [], [0, 1], [35]⟩, ⟨[.op 2 0, .old 1], _, [3], [0, 1, 2], [2]⟩, ⟨[], _, [], Lr 4, [3]⟩]) (F := [.op 3 0, .op 4 0]) (hst.pick [0, 1] rfl) hb Za
             (o_p rfl (Ze Zds rfl rfl u_0) <| o_p rfl (Zg ty_3 rfl rfl u_0) <| o_p rfl (Zjm rfl rfl c_i u_0) <| o_p rfl (Z6 Z4 rfl rfl u_1 u_0) <| o_p rfl (Zb rfl rfl c_b) <| o_n) (by kernel_rfl) (fun a g hst hb => ?_)
           refine wp_ret ?_
           refine Zt ?_
           refine Zk ?_
           obtain rfl := Option.some.inj H0
           obtain ⟨u0, hu0, hq0⟩ := Zba (P := Tryd.prog) Z4 (hst.at 0 rfl)
           exact Zef rfl hst hb hu0 (Zi (s := 3)) (Zdi hq0 (hst.at 1 rfl))
         · replace H0 := Zr hc11 H0
           refine wp_skip ?_
           refine Zbe ?_
           refine Zn ?_
           refine r_s (L := [(2, _)]) (T := [⟨[], _, [], [], [36]⟩, ⟨[.op 0 0, .old 0], _, [3], [0], [2]⟩, ⟨[], _, [], [0, 1], [3]⟩]) (F := [.op 1 0, .op 2 0]) (hst.pick [1] rfl) hb Za
             (o_p rfl (Zq2 rfl rfl c_i) <| o_p rfl (Z6 Z4 rfl rfl u_1 u_0) <| o_p rfl (Zb rfl rfl c_b) <| o_n) (by kernel_rfl) (fun a g hst hb => ?_)
           refine wp_ret ?_
           obtain rfl := Option.some.inj H0
           obtain ⟨u0, hu0, hq0⟩ := Zba (P := Tryd.prog) Z4 (hst.at 0 rfl)
           exact Zef rfl hst hb hu0 (Zi (s := 3)) (Zdi hq0 (hst.at 1 rfl))
theorem Zl7 (a0 : Int) {r : Int} (h : Zg3 a0 = some r) : FnOk Tryd.prog 35 [(pInt .i64 a0)] (pInt .i64 r) := by
 have H0 := h
 unfold Zg3 at H0
 clear h
 refine Zbo (N := 15) Tryd.func35 rfl rfl (Nat.le_of_ble_eq_true rfl) rfl rfl (fun a g0 hst hb => ?_)
 refine r_s (T := [⟨[], _, [], [], [2]⟩]) (F := [.old 0]) hst hb Za
   (o_p rfl (Zb rfl rfl c_i) <| o_n) (by kernel_rfl) (fun a g hst hb => ?_)
 refine r_s (T := [⟨[], _, [], [], [4]⟩, ⟨[.op 0 0], _, [], [0], [3]⟩]) (F := [.old 0, .op 1 0]) hst hb Za
   (o_p rfl (Zh1 Zye (xs := [.const (.int .i64 0), .const (.int .i64 0), .const (.int .i64 0), .const (.int .i64 0), .const (.int .i64 0), .const (.int .i64 1), .const (.int .i64 1), .const (.int .i64 2), .const (.int .i64 3), .const (.int .i64 3), .const (.int .i64 4), .const (.int .i64 4), .const (.int .i64 4), .const (.int .i64 5), .const (.int .i64 6), .const (.int .i64 7), .const (.int .i64 7), .const (.int .i64 7), .const (.int .i64 8), .const (.int .i64 8), .const (.int .i64 8), .const (.int .i64 9)]) (.cons c_i (.cons c_i (.cons c_i (.cons c_i (.cons c_i (.cons c_i (.cons c_i (.cons c_i (.cons c_i (.cons c_i (.cons c_i (.cons c_i (.cons c_i (.cons c_i (.cons c_i (.cons c_i (.cons c_i (.cons c_i (.cons c_i (.cons c_i (.cons c_i (.cons c_i .nil)))))))))))))))))))))) (by decide) rfl rfl) <| o_p rfl (Zb rfl rfl u_0) <| o_n) (by kernel_rfl) (fun a g hst hb => ?_)
 refine wp_seq ?_
 refine r_s (T := [⟨[.old 0], _, [], [], [5]⟩, ⟨[.op 0 0], _, [], [0], [6]⟩, ⟨[.op 1 0], _, [], [0, 1], [7]⟩, ⟨[.op 2 0, .old 0], _, [], [0, 1, 2], [8]⟩, ⟨[.op 2 0, .op 3 0], _, [], Lr 4, [9]⟩, ⟨[.op 2 0, .op 4 0], _, [], Lr 5, [10]⟩]) (F := [.old 0, .old 1, .op 5 0]) hst hb Za
   (o_p rfl (Zc rfl rfl u_0) <| o_p rfl (Zce rfl rfl u_0 c_i) <| o_p rfl (Zc rfl rfl u_0) <| o_g (g_f rfl rfl rfl (fun hG => Zc rfl rfl u_0)) <| o_g (g_f rfl rfl rfl (fun hG => Zb9 rfl rfl (Opd.gd hG u_0) c_i)) <| o_p rfl (Zbg rfl rfl u_0 (fun hz => (Opd.gd (bNF hz) u_1))) <| o_n) (by kernel_rfl) (fun a g hst hb => ?_)
 refine wp_cond_split (hst.bool 2 rfl) (fun hc1 => ?_) (fun hc1 => ?_)
 · replace H0 := Zp hc1 H0
   refine r_s (L := []) (T := [⟨[], _, [], [], [2]⟩]) (F := [.op 0 0]) (hst.pick [] rfl) hb Za
     (o_p rfl (Zb rfl rfl c_i) <| o_n) (by kernel_rfl) (fun a g hst hb => ?_)
   refine wp_ret ?_
   refine Zk ?_
   obtain rfl := Option.some.inj H0
   exact Zy rfl hst hb (Zi (s := 2)) (hst.at 0 rfl)
 · replace H0 := Zr hc1 H0
   refine wp_skip ?_
   refine Zn ?_
   obtain ⟨e2, h3, H0⟩ := Zh H0
   refine r_s (L := [(0, _), (3, _)]) (T := [⟨[.old 1], _, [], [], [11]⟩, ⟨[.old 0], _, [], [], [12]⟩, ⟨[.op 0 0, .op 1 0], _, [], [0, 1], [13]⟩, ⟨[.op 2 0], _, [], [0, 1, 2], [14]⟩, ⟨[.op 3 0], _, [], Lr 4, [2]⟩]) (F := [.op 4 0]) (hst.pick [0, 1] rfl) hb Za
     (o_p rfl (Zc rfl rfl u_0) <| o_p rfl (Zc rfl rfl u_0) <| o_p rfl (Zbn Tryd.underlying110 sz_3 rfl rfl u_0 u_1 h3) <| o_p rfl (Zg ty_3 rfl rfl u_0) <| o_p rfl (Zb rfl rfl u_0) <| o_n) (by kernel_rfl) (fun a g hst hb => ?_)
   refine wp_ret ?_
   obtain rfl := Option.some.inj H0
   exact Zy rfl hst hb (Zi (s := 2)) (hst.at 0 rfl)
theorem Zj7 (a0 : Int) (a1 : Int) {r : Bool} (h : Zdt a0 a1 = some r) : FnOk Tryd.prog 13 [(pInt .i64 a0), (pInt .i64 a1)] (Z5 r) := by
 have H0 := h
 unfold Zdt at H0
 clear h
 refine Zbo (N := 39) Tryd.func13 rfl rfl (Nat.le_of_ble_eq_true rfl) rfl rfl (fun a g0 hst hb => ?_)
 refine r_s (T := [⟨[], _, [], [], [4]⟩]) (F := [.old 0, .old 1]) hst hb Za
   (o_p rfl (Zb rfl rfl c_b) <| o_n) (by kernel_rfl) (fun a g hst hb => ?_)
 refine wp_seq ?_
 refine r_s (T := ⟨[.old 1], _, [], [], [5]⟩ :: ⟨[.op 0 0], _, [], [0], [6]⟩ :: ⟨[.op 1 0], _, [], [0, 1], [7]⟩ :: ⟨[.op 2 0, .old 1], _, [], [0, 1, 2], [8]⟩ :: ⟨[.op 2 0, .op 3 0], _, [], Lr 4, [9]⟩ :: ⟨[.op 2 0, .op 4 0], _, [], Lr 5, [10]⟩ :: ⟨[.op 5 0], _, [], Lr 6, [11]⟩ :: ⟨[.op 6 0, .old 1], _, [], Lr 7, [12]⟩ :: ⟨[.op 6 0, .op 7 0], _, [], Lr 8, [13]⟩ :: ⟨[.op 6 0, .op 8 0], _, [], Lr 9, [14]⟩ :: ⟨[.op 9 0], _, [], Lr 10, [15]⟩ :: ⟨[.op 10 0, .old 1], _, [], Lr 11, [16]⟩ :: ⟨[.op 10 0, .op 11 0], _, [], Lr 12, [17]⟩ :: ⟨[.op 10 0, .op 12 0], _, [], Lr 13, [18]⟩ :: ⟨[.op 13 0], _, [], Lr 14, [19]⟩ :: ⟨[.op 14 0, .old 1], _, [], Lr 15, [20]⟩ :: ⟨[.op 14 0, .op 15 0], _, [], Lr 16, [21]⟩ :: ⟨[.op 14 0, .op 16 0], _, [], Lr 17, [22]⟩ :: ⟨[.op 17 0], _, [], Lr 18, [23]⟩ :: ⟨[.op 18 0, .old 1], _, [], Lr 19, [24]⟩ :: ⟨[.op 18 0, .op 19 0], _, [], Lr 20, [25]⟩ :: ⟨[.op 18 0, .op 20 0], _, [], Lr 21, [26]⟩ :: ⟨[.op 21 0], _, [], Lr 22, [27]⟩ :: ⟨[.op 22 0, .old 1], _, [], Lr 23, [28]⟩ :: ⟨[.op 22 0, .op 23 0], _, [], Lr 24, [29]⟩ :: ⟨[.op 22 0, .op 24 0], _, [], Lr 25, [30]⟩ :: ⟨[.op 25 0], _, [], Lr 26, [31]⟩ :: ⟨[.op 26 0, .old 1], _, [], Lr 27, [32]⟩ :: ⟨[.op 26 0, .op 27 0], _, [], Lr 28, [33]⟩ :: ⟨[.op 26 0, .op 28 0], _, [], Lr 29, [34]⟩ :: []) (F := [.old 0, .old 1, .op 29 0]) hst hb Za
   (o_p rfl (Zc rfl rfl u_0) <| o_p rfl (Zcv rfl rfl u_0 c_i) <| o_p rfl (Zc rfl rfl u_0) <| o_g (g_t rfl rfl rfl (fun hG => Zc rfl rfl u_0)) <| o_g (g_t rfl rfl rfl (fun hG => Zcv rfl rfl (Opd.gd hG u_0) c_i)) <| o_p rfl (Zbb rfl rfl u_0 (fun hz => (Opd.gd hz u_1))) <| o_p rfl (Zc rfl rfl u_0) <| o_g (g_t rfl rfl rfl (fun hG => Zc rfl rfl u_0)) <| o_g (g_t rfl rfl rfl (fun hG => Zcv rfl rfl (Opd.gd hG u_0) c_i)) <| o_p rfl (Zbb rfl rfl u_0 (fun hz => (Opd.gd hz u_1))) <| o_p rfl (Zc rfl rfl u_0) <| o_g (g_t rfl rfl rfl (fun hG => Zc rfl rfl u_0)) <| o_g (g_t rfl rfl rfl (fun hG => Zcv rfl rfl (Opd.gd hG u_0) c_i)) <| o_p rfl (Zbb rfl rfl u_0 (fun hz => (Opd.gd hz u_1))) <| o_p rfl (Zc rfl rfl u_0) <| o_g (g_t rfl rfl rfl (fun hG => Zc rfl rfl u_0)) <| o_g (g_t rfl rfl rfl (fun hG => Zcv rfl rfl (Opd.gd hG u_0) c_i)) <| o_p rfl (Zbb rfl rfl u_0 (fun hz => (Opd.gd hz u_1))) <| o_p rfl (Zc rfl rfl u_0) <| o_g (g_t rfl rfl rfl (fun hG => Zc rfl rfl u_0)) <| o_g (g_t rfl rfl rfl (fun hG => Zcv rfl rfl (Opd.gd hG u_0) c_i)) <| o_p rfl (Zbb rfl rfl u_0 (fun hz => (Opd.gd hz u_1))) <| o_p rfl (Zc rfl rfl u_0) <| o_g (g_t rfl rfl rfl (fun hG => Zc rfl rfl u_0)) <| o_g (g_t rfl rfl rfl (fun hG => Zcv rfl rfl (Opd.gd hG u_0) c_i)) <| o_p rfl (Zbb rfl rfl u_0 (fun hz => (Opd.gd hz u_1))) <| o_p rfl (Zc rfl rfl u_0) <| o_g (g_t rfl rfl rfl (fun hG => Zc rfl rfl u_0)) <| o_g (g_t rfl rfl rfl (fun hG => Zcv rfl rfl (Opd.gd hG u_0) c_i)) <| o_p rfl (Zbb rfl rfl u_0 (fun hz => (Opd.gd hz u_1))) <| o_n) (by kernel_rfl) (fun a g hst hb => ?_)
 refine wp_cond_split (hst.bool 2 rfl) (fun hc1 => ?_) (fun hc1 => ?_)
 · replace H0 := Zp hc1 H0
   refine r_s (L := []) (T := [⟨[], _, [], [], [4]⟩]) (F := [.op 0 0]) (hst.pick [] rfl) hb Za
     (o_p rfl (Zb rfl rfl c_b) <| o_n) (by kernel_rfl) (fun a g hst hb => ?_)
   refine wp_ret ?_
   refine Zk ?_
   obtain rfl := Option.some.inj H0
   exact Zy rfl hst hb (Zi (s := 4)) (hst.at 0 rfl)
 · replace H0 := Zr hc1 H0
   refine wp_skip ?_
   refine Zn ?_
   obtain ⟨r2, h3, H0⟩ := Zh H0
   refine r_s (L := [(0, _), (1, _)]) (T := [⟨[.old 1], _, [], [], [35]⟩, ⟨[.op 0 0], _, [], [0], [36]⟩, ⟨[.old 0], _, [], [], [37]⟩, ⟨[.op 1 0, .op 2 0], _, [], [0, 1, 2], [38]⟩, ⟨[.op 3 0], _, [], Lr 4, [4]⟩]) (F := [.op 4 0]) (hst.pick [0, 1] rfl) hb Za
     (o_p rfl (Zc rfl rfl u_0) <| o_p rfl (Zs Zyj (Zl7 _ h3) rfl rfl (.cons u_0 .nil)) <| o_p rfl (Zc rfl rfl u_0) <| o_p rfl (Z8 rfl rfl u_0 u_1) <| o_p rfl (Zb rfl rfl u_0) <| o_n) (by kernel_rfl) (fun a g hst hb => ?_)
   refine wp_ret ?_
   obtain rfl := Option.some.inj H0
   exact Zy rfl hst hb (Zi (s := 4)) (hst.at 0 rfl)
theorem Zh6 (a0 : Zd) (a1 : Zd) {r : Bool} (h : Zd8 a0 a1 = some r) : FnOk Tryd.prog 14 [(Zf.pd a0), (Zf.pd a1)] (Z5 r) := by
 have H0 := h
 unfold Zd8 at H0
 clear h
 refine Zbo (N := 97) Tryd.func14 rfl rfl (Nat.le_of_ble_eq_true rfl) rfl rfl (fun a g0 hst hb => ?_)
 refine r_s (T := [⟨[.old 0], _, [], [], [2]⟩, ⟨[.old 1], _, [], [], [3]⟩, ⟨[], _, [], [], [4]⟩]) (F := [.op 0 0, .op 1 0]) hst hb Za
   (o_p rfl (Zbk rfl rfl u_0) <| o_p rfl (Zbk rfl rfl u_0) <| o_p rfl (Zb rfl rfl c_b) <| o_n) (by kernel_rfl) (fun a g hst hb => ?_)
 refine wp_seq ?_
 refine r_s (T := ⟨[.old 0], _, [], [], [6]⟩ :: ⟨[.op 0 0], _, [], [0], [7]⟩ :: ⟨[.old 1], _, [], [], [8]⟩ :: ⟨[.op 2 0], _, [], [2], [9]⟩ :: ⟨[.op 1 0, .op 3 0], _, [], Lr 4, [10]⟩ :: ⟨[.op 4 0], _, [], Lr 5, [11]⟩ :: ⟨[.op 5 0, .old 0], _, [], Lr 6, [12]⟩ :: ⟨[.op 5 0, .op 6 0], _, [], Lr 7, [13]⟩ :: ⟨[.op 5 0, .old 1], _, [], Lr 6, [14]⟩ :: ⟨[.op 5 0, .op 8 0], _, [], [0, 1, 2, 3, 4, 5, 8], [15]⟩ :: ⟨[.op 5 0, .op 7 0, .op 9 0], _, [], Lr 10, [16]⟩ :: ⟨[.op 5 0, .op 10 0], _, [], Lr 11, [17]⟩ :: ⟨[.op 11 0], _, [], Lr 12, [18]⟩ :: ⟨[.op 12 0, .old 0], _, [], Lr 13, [19]⟩ :: ⟨[.op 12 0, .op 13 0], _, [], Lr 14, [20]⟩ :: ⟨[.op 12 0, .old 1], _, [], Lr 13, [21]⟩ :: ⟨[.op 12 0, .op 15 0], _, [], 0 :: 1 :: 2 :: 3 :: 4 :: 5 :: 6 :: 7 :: 8 :: 9 :: 10 :: 11 :: 12 :: 15 :: [], [22]⟩ :: ⟨[.op 12 0, .op 14 0, .op 16 0], _, [], Lr 17, [23]⟩ :: ⟨[.op 12 0, .op 17 0], _, [], Lr 18, [24]⟩ :: ⟨[.op 18 0], _, [], Lr 19, [25]⟩ :: ⟨[.op 19 0, .old 0], _, [], Lr 20, [26]⟩ :: ⟨[.op 19 0, .op 20 0], _, [], Lr 21, [27]⟩ :: ⟨[.op 19 0, .old 1], _, [], Lr 20, [28]⟩ :: ⟨[.op 19 0, .op 22 0], _, [], 0 :: 1 :: 2 :: 3 :: 4 :: 5 :: 6 :: 7 :: 8 :: 9 :: 10 :: 11 :: 12 :: 13 :: 14 :: 15 :: 16 :: 17 :: 18 :: 19 :: 22 :: [], [29]⟩ :: ⟨[.op 19 0, .op 21 0, .op 23 0], _, [], Lr 24, [30]⟩ :: ⟨[.op 19 0, .op 24 0], _, [], Lr 25, [31]⟩ :: ⟨[.op 25 0], _, [], Lr 26, [32]⟩ :: ⟨[.op 26 0, .old 0], _, [], Lr 27, [33]⟩ :: ⟨[.op 26 0, .op 27 0], _, [], Lr 28, [34]⟩ :: ⟨[.op 26 0, .old 1], _, [], Lr 27, [35]⟩ :: ⟨[.op 26 0, .op 29 0], _, [], 0 :: 1 :: 2 :: 3 :: 4 :: 5 :: 6 :: 7 :: 8 :: 9 :: 10 :: 11 :: 12 :: 13 :: 14 :: 15 :: 16 :: 17 :: 18 :: 19 :: 20 :: 21 :: 22 :: 23 :: 24 :: 25 :: 26 :: 29 :: [], [36]⟩ :: ⟨[.op 26 0, .op 28 0, .op 30 0], _, [], Lr 31, [37]⟩ :: ⟨[.op 26 0, .op 31 0], _, [], Lr 32, [38]⟩ :: ⟨[.op 32 0], _, [], Lr 33, [39]⟩ :: ⟨[.op 33 0, .old 0], _, [], Lr 34, [40]⟩ :: ⟨[.op 33 0, .op 34 0], _, [], Lr 35, [41]⟩ :: ⟨[.op 33 0, .old 1], _, [], Lr 34, [42]⟩ :: ⟨[.op 33 0, .op 36 0], _, [], 0 :: 1 :: 2 :: 3 :: 4 :: 5 :: 6 :: 7 :: 8 :: 9 :: 10 :: 11 :: 12 :: 13 :: 14 :: 15 :: 16 :: 17 :: 18 :: 19 :: 20 :: 21 :: 22 :: 23 :: 24 :: 25 :: 26 :: 27 :: 28 :: 29 :: 30 :: 31 :: 32 :: 33 :: 36 :: [], [43]⟩ :: ⟨[.op 33 0, .op 35 0, .op 37 0], _, [], Lr 38, [44]⟩ :: ⟨[.op 33 0, .op 38 0], _, [], Lr 39, [45]⟩ :: []) (F := [.old 0, .old 1, .op 39 0]) hst hb Za
   (o_p rfl (Ze Zcn rfl rfl u_0) <| o_p rfl (Zg ty_3 rfl rfl u_0) <| o_p rfl (Ze Zcn rfl rfl u_0) <| o_p rfl (Zg ty_3 rfl rfl u_0) <| o_p rfl (Zcv rfl rfl u_0 u_1) <| o_p rfl (Zc rfl rfl u_0) <| o_g (g_f rfl rfl rfl (fun hG => Ze Zb6 rfl rfl u_0)) <| o_g (g_f rfl rfl rfl (fun hG => Zg ty_2 rfl rfl (Opd.gd hG u_0))) <| o_g (g_f rfl rfl rfl (fun hG => Ze Zb6 rfl rfl u_0)) <| o_g (g_f rfl rfl rfl (fun hG => Zg ty_2 rfl rfl (Opd.gd hG u_0))) <| o_g (g_f rfl rfl rfl (fun hG => Zcv rfl rfl (Opd.gd hG u_0) (Opd.gd hG u_1))) <| o_p rfl (Zbg rfl rfl u_0 (fun hz => (Opd.gd (bNF hz) u_1))) <| o_p rfl (Zc rfl rfl u_0) <| o_g (g_f rfl rfl rfl (fun hG => Ze Zfc rfl rfl u_0)) <| o_g (g_f rfl rfl rfl (fun hG => Zg ty_2 rfl rfl (Opd.gd hG u_0))) <| o_g (g_f rfl rfl rfl (fun hG => Ze Zfc rfl rfl u_0)) <| o_g (g_f rfl rfl rfl (fun hG => Zg ty_2 rfl rfl (Opd.gd hG u_0))) <| o_g (g_f rfl rfl rfl (fun hG => Zcv rfl rfl (Opd.gd hG u_0) (Opd.gd hG u_1))) <| o_p rfl (Zbg rfl rfl u_0 (fun hz => (Opd.gd (bNF hz) u_1))) <| o_p rfl (Zc rfl rfl u_0) <| o_g (g_f rfl rfl rfl (fun hG => Ze Zfb rfl rfl u_0)) <| o_g (g_f rfl rfl rfl (fun hG => Zg ty_2 rfl rfl (Opd.gd hG u_0))) <| o_g (g_f rfl rfl rfl (fun hG => Ze Zfb rfl rfl u_0)) <| o_g (g_f rfl rfl rfl (fun hG => Zg ty_2 rfl rfl (Opd.gd hG u_0))) <| o_g (g_f rfl rfl rfl (fun hG => Zcv rfl rfl (Opd.gd hG u_0) (Opd.gd hG u_1))) <| o_p rfl (Zbg rfl rfl u_0 (fun hz => (Opd.gd (bNF hz) u_1))) <| o_p rfl (Zc rfl rfl u_0) <| o_g (g_f rfl rfl rfl (fun hG => Ze Zds rfl rfl u_0)) <| o_g (g_f rfl rfl rfl (fun hG => Zg ty_3 rfl rfl (Opd.gd hG u_0))) <| o_g (g_f rfl rfl rfl (fun hG => Ze Zds rfl rfl u_0)) <| o_g (g_f rfl rfl rfl (fun hG => Zg ty_3 rfl rfl (Opd.gd hG u_0))) <| o_g (g_f rfl rfl rfl (fun hG => Zcv rfl rfl (Opd.gd hG u_0) (Opd.gd hG u_1))) <| o_p rfl (Zbg rfl rfl u_0 (fun hz => (Opd.gd (bNF hz) u_1))) <| o_p rfl (Zc rfl rfl u_0) <| o_g (g_f rfl rfl rfl (fun hG => Ze Zf1 rfl rfl u_0)) <| o_g (g_f rfl rfl rfl (fun hG => Zg ty_9 rfl rfl (Opd.gd hG u_0))) <| o_g (g_f rfl rfl rfl (fun hG => Ze Zf1 rfl rfl u_0)) <| o_g (g_f rfl rfl rfl (fun hG => Zg ty_9 rfl rfl (Opd.gd hG u_0))) <| o_g (g_f rfl rfl rfl (fun hG => Zp6 rfl rfl (Opd.gd hG u_0) (Opd.gd hG u_1))) <| o_p rfl (Zbg rfl rfl u_0 (fun hz => (Opd.gd (bNF hz) u_1))) <| o_n) (by kernel_rfl) (fun a g hst hb => ?_)
 refine wp_cond_split (hst.bool 2 rfl) (fun hc1 => ?_) (fun hc1 => ?_)
 · replace H0 := Zp hc1 H0
   refine r_s (L := []) (T := [⟨[], _, [], [], [4]⟩]) (F := [.op 0 0]) (hst.pick [] rfl) hb Za
     (o_p rfl (Zb rfl rfl c_b) <| o_n) (by kernel_rfl) (fun a g hst hb => ?_)
   refine wp_ret ?_
   refine Zk ?_
   obtain rfl := Option.some.inj H0
   exact Zy rfl hst hb (Zi (s := 4)) (hst.at 0 rfl)
 · replace H0 := Zr hc1 H0
   refine wp_skip ?_
   refine Zn ?_
   refine wp_seq ?_
   obtain ⟨r2, h3, H0⟩ := Zh H0
   refine r_s (L := [(2, _), (3, _)]) (T := ⟨[.old 0], _, [], [], [46]⟩ :: ⟨[.op 0 0], _, [], [0], [47]⟩ :: ⟨[.old 1], _, [], [], [48]⟩ :: ⟨[.op 2 0], _, [], [2], [49]⟩ :: ⟨[.op 1 0, .op 3 0], _, [], Lr 4, [50]⟩ :: ⟨[.op 4 0], _, [], Lr 5, [51]⟩ :: ⟨[.op 5 0], _, [], Lr 6, [52]⟩ :: ⟨[.op 6 0, .old 0], _, [], Lr 7, [53]⟩ :: ⟨[.op 6 0, .op 7 0], _, [], Lr 8, [54]⟩ :: ⟨[.op 6 0, .op 8 0], _, [], Lr 9, [55]⟩ :: ⟨[.op 6 0, .old 1], _, [], Lr 7, [56]⟩ :: ⟨[.op 6 0, .op 10 0], _, [], [0, 1, 2, 3, 4, 5, 6, 10], [57]⟩ :: ⟨[.op 6 0, .op 11 0], _, [], [0, 1, 2, 3, 4, 5, 6, 10, 11], [58]⟩ :: ⟨[.op 6 0, .op 9 0, .op 12 0], _, [], Lr 13, [59]⟩ :: ⟨[.op 6 0, .op 13 0], _, [], Lr 14, [60]⟩ :: []) (F := [.old 0, .old 1, .op 14 0]) (hst.pick [0, 1] rfl) hb Za
     (o_p rfl (Ze Zd5 rfl rfl u_0) <| o_p rfl (Zg Zci rfl rfl u_0) <| o_p rfl (Ze Zd5 rfl rfl u_0) <| o_p rfl (Zg Zci rfl rfl u_0) <| o_p rfl (Zs Zpe (Ze8 _ _ h3) rfl rfl (.cons u_0 (.cons u_1 .nil))) <| o_p rfl (Zb7 rfl rfl u_0) <| o_p rfl (Zc rfl rfl u_0) <| o_g (g_f rfl rfl rfl (fun hG => Ze Zbu rfl rfl u_0)) <| o_g (g_f rfl rfl rfl (fun hG => Zg Zck rfl rfl (Opd.gd hG u_0))) <| o_g (g_f rfl rfl rfl (fun hG => Zca Tryd.underlying23 rfl rfl (Opd.gd hG u_0))) <| o_g (g_f rfl rfl rfl (fun hG => Ze Zbu rfl rfl u_0)) <| o_g (g_f rfl rfl rfl (fun hG => Zg Zck rfl rfl (Opd.gd hG u_0))) <| o_g (g_f rfl rfl rfl (fun hG => Zca Tryd.underlying23 rfl rfl (Opd.gd hG u_0))) <| o_g (g_f rfl rfl rfl (fun hG => Zcv rfl rfl (Opd.gd hG u_0) (Opd.gd hG u_1))) <| o_p rfl (Zbg rfl rfl u_0 (fun hz => (Opd.gd (bNF hz) u_1))) <| o_n) (by kernel_rfl) (fun a g hst hb => ?_)
   refine wp_cond_split (hst.bool 2 rfl) (fun hc4 => ?_) (fun hc4 => ?_)
   · replace H0 := Zp hc4 H0
     refine r_s (L := []) (T := [⟨[], _, [], [], [4]⟩]) (F := [.op 0 0]) (hst.pick [] rfl) hb Za
       (o_p rfl (Zb rfl rfl c_b) <| o_n) (by kernel_rfl) (fun a g hst hb => ?_)
     refine wp_ret ?_
     refine Zk ?_
     obtain rfl := Option.some.inj H0
     exact Zy rfl hst hb (Zi (s := 4)) (hst.at 0 rfl)
   · replace H0 := Zr hc4 H0
     refine wp_skip ?_
     refine Zn ?_
     refine wp_seq ?_
     refine r_s (L := [(2, _), (3, _)]) (T := [⟨[], _, [], [], [5]⟩]) (F := [.old 0, .old 1, .op 0 0]) (hst.pick [0, 1] rfl) hb Za
       (o_p rfl (Zb rfl rfl c_i) <| o_n) (by kernel_rfl) (fun a g hst hb => ?_)
     obtain ⟨z18, hz1, H0⟩ := Zh H0
     refine Zcf (fun a w => ∃ (g : G), w = g.w ∧ St 97 [] a g ∧ Base g0 g ∧ (.inr ()) = z18) ?_ ?_
     · rintro a w ⟨g, rfl, hst, hb, rfl⟩
       refine Zn ?_
       refine r_s (T := [⟨[], _, [], [], [4]⟩]) (F := [.op 0 0]) hst hb Za
         (o_p rfl (Zb rfl rfl c_b) <| o_n) (by kernel_rfl) (fun a g hst hb => ?_)
       refine wp_ret ?_
       obtain rfl := Option.some.inj H0
       exact Zy rfl hst hb (Zi (s := 4)) (hst.at 0 rfl)
     · refine wp_block ?_
       refine wp_loop_ghost (fun n a w => ∃ (x5 : Int) (g : G), w = g.w ∧ St 97 [(2, (Zf.ptr a0)), (3, (Zf.ptr a1)), (5, (pInt .i64 x5))] a g ∧ Base g0 g ∧ Zct a0 a1 n x5 = some z18) (Int.toNat ((a0.List.length : Int) - (0 : Int)) + 1) ⟨(0 : Int), g, rfl, (hst.pick [0, 1, 2] rfl), hb, hz1⟩ (fun n a w hI => ?_)
       obtain ⟨x5, g, rfl, hst, hb, H1⟩ := hI
       cases n with
       | zero => exact absurd H1 (by simp [Zct])
       | succ n =>
         rw [Zct] at H1
         refine wp_seq ?_
         refine r_s (T := [⟨[.old 2], _, [], [], [61]⟩, ⟨[.old 0], _, [], [], [62]⟩, ⟨[.op 1 0], _, [], [1], [63]⟩, ⟨[.op 2 0], _, [], [1, 2], [64]⟩, ⟨[.op 0 0, .op 3 0], _, [], Lr 4, [65]⟩]) (F := [.old 0, .old 1, .old 2, .op 4 0]) hst hb Za
           (o_p rfl (Zc rfl rfl u_0) <| o_p rfl (Ze Zbu rfl rfl u_0) <| o_p rfl (Zg Zck rfl rfl u_0) <| o_p rfl (Zca Tryd.underlying23 rfl rfl u_0) <| o_p rfl (Zce rfl rfl u_0 u_1) <| o_n) (by kernel_rfl) (fun a g hst hb => ?_)
         refine wp_cond_split (hst.bool 3 rfl) (fun hc6 => ?_) (fun hc6 => ?_)
         · replace H1 := Zp hc6 H1
           refine wp_skip ?_
           refine Zn ?_
           refine wp_seq ?_
           refine wp_block ?_
           obtain ⟨e7, h8, H1⟩ := Zh H1; obtain ⟨e9, h10, H1⟩ := Zh H1; obtain ⟨e11, h12, H1⟩ := Zh H1; obtain ⟨e13, h14, H1⟩ := Zh H1; obtain ⟨r15, h16, H1⟩ := Zh H1
           refine r_s (L := [(2, _), (3, _), (5, _)]) (T := ⟨[.old 0], _, [], [], [68]⟩ :: ⟨[.op 0 0], _, [], [0], [69]⟩ :: ⟨[.old 2], _, [], [], [70]⟩ :: ⟨[.op 1 0, .op 2 0], _, [], [0, 1, 2], [71]⟩ :: ⟨[.op 3 0], _, [], Lr 4, [72]⟩ :: ⟨[.op 4 0], _, [], Lr 5, [73]⟩ :: ⟨[.old 1], _, [], [], [74]⟩ :: ⟨[.op 6 0], _, [], [6], [75]⟩ :: ⟨[.old 2], _, [], [], [76]⟩ :: ⟨[.op 7 0, .op 8 0], _, [], [6, 7, 8], [77]⟩ :: ⟨[.op 9 0], _, [], List.range' 6 4, [78]⟩ :: ⟨[.op 10 0], _, [], List.range' 6 5, [79]⟩ :: ⟨[.op 5 0, .op 11 0], _, [], Lr 12, [80]⟩ :: ⟨[.op 12 0], _, [], Lr 13, [81]⟩ :: ⟨[.op 13 0, .old 0], _, [], Lr 14, [82]⟩ :: ⟨[.op 13 0, .op 14 0], _, [], Lr 15, [83]⟩ :: ⟨[.op 13 0, .old 2], _, [], Lr 14, [84]⟩ :: ⟨[.op 13 0, .op 15 0, .op 16 0], _, [], Lr 17, [85]⟩ :: ⟨[.op 13 0, .op 17 0], _, [], Lr 18, [86]⟩ :: ⟨[.op 13 0, .op 18 0], _, [], Lr 19, [87]⟩ :: ⟨[.op 13 0, .old 1], _, [], Lr 14, [88]⟩ :: ⟨[.op 13 0, .op 20 0], _, [], 0 :: 1 :: 2 :: 3 :: 4 :: 5 :: 6 :: 7 :: 8 :: 9 :: 10 :: 11 :: 12 :: 13 :: 20 :: [], [89]⟩ :: ⟨[.op 13 0, .old 2], _, [], Lr 14, [90]⟩ :: ⟨[.op 13 0, .op 21 0, .op 22 0], _, [], 0 :: 1 :: 2 :: 3 :: 4 :: 5 :: 6 :: 7 :: 8 :: 9 :: 10 :: 11 :: 12 :: 13 :: 20 :: 21 :: 22 :: [], [91]⟩ :: ⟨[.op 13 0, .op 23 0], _, [], 0 :: 1 :: 2 :: 3 :: 4 :: 5 :: 6 :: 7 :: 8 :: 9 :: 10 :: 11 :: 12 :: 13 :: 20 :: 21 :: 22 :: 23 :: [], [92]⟩ :: ⟨[.op 13 0, .op 24 0], _, [], 0 :: 1 :: 2 :: 3 :: 4 :: 5 :: 6 :: 7 :: 8 :: 9 :: 10 :: 11 :: 12 :: 13 :: 20 :: 21 :: 22 :: 23 :: 24 :: [], [93]⟩ :: ⟨[.op 13 0, .op 19 0, .op 25 0], _, [], Lr 26, [94]⟩ :: ⟨[.op 13 0, .op 26 0], _, [], Lr 27, [95]⟩ :: ⟨[.op 13 0, .op 27 0], _, [], Lr 28, [96]⟩ :: []) (F := [.old 0, .old 1, .old 2, .op 28 0]) (hst.pick [0, 1, 2] rfl) hb Za
             (o_p rfl (Ze Zbu rfl rfl u_0) <| o_p rfl (Zg Zck rfl rfl u_0) <| o_p rfl (Zc rfl rfl u_0) <| o_p rfl (Zbn Tryd.underlying23 Zen rfl rfl u_0 u_1 h8) <| o_p rfl (Ze Zdg rfl rfl u_0) <| o_p rfl (Zg ty_9 rfl rfl u_0) <| o_p rfl (Ze Zbu rfl rfl u_0) <| o_p rfl (Zg Zck rfl rfl u_0) <| o_p rfl (Zc rfl rfl u_0) <| o_p rfl (Zbn Tryd.underlying23 Zen rfl rfl u_0 u_1 h10) <| o_p rfl (Ze Zdg rfl rfl u_0) <| o_p rfl (Zg ty_9 rfl rfl u_0) <| o_p rfl (Zp6 rfl rfl u_0 u_1) <| o_p rfl (Zc rfl rfl u_0) <| o_g (g_f rfl rfl rfl (fun hG => Ze Zbu rfl rfl u_0)) <| o_g (g_f rfl rfl rfl (fun hG => Zg Zck rfl rfl (Opd.gd hG u_0))) <| o_g (g_f rfl rfl rfl (fun hG => Zc rfl rfl u_0)) <| o_g (g_f rfl rfl rfl (fun hG => Zbn Tryd.underlying23 Zen rfl rfl (Opd.gd hG u_0) (Opd.gd hG u_1) (Zbp h12 hG))) <| o_g (g_f rfl rfl rfl (fun hG => Ze Zdr rfl rfl (Opd.gd hG u_0))) <| o_g (g_f rfl rfl rfl (fun hG => Zg Zci rfl rfl (Opd.gd hG u_0))) <| o_g (g_f rfl rfl rfl (fun hG => Ze Zbu rfl rfl u_0)) <| o_g (g_f rfl rfl rfl (fun hG => Zg Zck rfl rfl (Opd.gd hG u_0))) <| o_g (g_f rfl rfl rfl (fun hG => Zc rfl rfl u_0)) <| o_g (g_f rfl rfl rfl (fun hG => Zbn Tryd.underlying23 Zen rfl rfl (Opd.gd hG u_0) (Opd.gd hG u_1) (Zbp h14 hG))) <| o_g (g_f rfl rfl rfl (fun hG => Ze Zdr rfl rfl (Opd.gd hG u_0))) <| o_g (g_f rfl rfl rfl (fun hG => Zg Zci rfl rfl (Opd.gd hG u_0))) <| o_g (g_f rfl rfl rfl (fun hG => Zs Zpe (Ze8 _ _ (Zbp h16 hG)) rfl rfl (.cons (Opd.gd hG u_0) (.cons (Opd.gd hG u_1) .nil)))) <| o_g (g_f rfl rfl rfl (fun hG => Zb7 rfl rfl (Opd.gd hG u_0))) <| o_p rfl (Zbg rfl rfl u_0 (fun hz => (Opd.gd (bNF hz) u_1))) <| o_n) (by kernel_rfl) (fun a g hst hb => ?_)
           refine wp_cond_split (hst.bool 3 rfl) (fun hc17 => ?_) (fun hc17 => ?_)
           · replace H1 := Zp hc17 H1
             refine r_s (L := []) (T := [⟨[], _, [], [], [4]⟩]) (F := [.op 0 0]) (hst.pick [] rfl) hb Za
               (o_p rfl (Zb rfl rfl c_b) <| o_n) (by kernel_rfl) (fun a g hst hb => ?_)
             refine wp_ret ?_
             refine Zt ?_
             refine Zk ?_
             refine Zk ?_
             refine Zt ?_
             refine Zk ?_
             refine Zk ?_
             obtain rfl := Option.some.inj H1
             obtain rfl := Option.some.inj H0
             exact Zy rfl hst hb (Zi (s := 4)) (hst.at 0 rfl)
           · replace H1 := Zr hc17 H1
             refine wp_skip ?_
             refine Zbe ?_
             refine Zn ?_
             refine r_g (L := [(2, _), (3, _), (5, _)]) (T := [⟨[.old 2], _, [], [], [66]⟩, ⟨[.op 0 0], _, [], [0], [67]⟩, ⟨[.op 1 0], _, [], [0, 1], [5]⟩]) (F := [.old 0, .old 1, .op 2 0]) (hst.pick [0, 1, 2] rfl) hb Za
               (o_p rfl (Zc rfl rfl u_0) <| o_p rfl (Zcq rfl rfl u_0 c_i rfl) <| o_p rfl (Zb rfl rfl u_0) <| o_n) (by kernel_rfl) (fun a g hst hb => ?_)
             exact ⟨n, Nat.lt_succ_self _, (IntKind.i64.wrap (x5 + (1 : Int))), g, rfl, (hst.pick [0, 1, 2] rfl), hb, H1⟩
         · replace H1 := Zr hc6 H1
           refine wp_exit ?_
           refine Zcg ?_
           refine Zcg ?_
           refine Zc4 ?_
           exact ⟨g, rfl, (hst.pick [] rfl), hb, Option.some.inj H1⟩
theorem Ziw (a0 : Zd) (a1 : List Int) (a2 : Int) {r : Bool} (h : Zd6 a0 a1 a2 = some r) : FnOk Tryd.prog 3 [(Zf.pd a0), ((Kd.arr 2 (Kd.int .i64)).pd a1), (pInt .i64 a2)] (Z5 r) := by
 have H0 := h
 unfold Zd6 at H0
 clear h
 refine Zbo (N := 71) Tryd.func3 rfl rfl (Nat.le_of_ble_eq_true rfl) rfl rfl (fun a g0 hst hb => ?_)
 refine r_s (T := [⟨[.old 0], _, [], [], [3]⟩, ⟨[.old 1], _, [], [], [4]⟩, ⟨[], _, [], [], [6]⟩]) (F := [.old 2, .op 0 0, .op 1 0]) hst hb Za
   (o_p rfl (Zbk rfl rfl u_0) <| o_p rfl (Zbk rfl rfl u_0) <| o_p rfl (Zb rfl rfl c_b) <| o_n) (by kernel_rfl) (fun a g hst hb => ?_)
 refine wp_seq ?_
 obtain ⟨r1, h2, H0⟩ := Zh H0
 refine r_s (T := [⟨[], _, [], [], [12]⟩, ⟨[.op 0 0], _, [], [0], [13]⟩]) (F := [.old 0, .old 1, .old 2, .op 1 0]) hst hb Za
   (o_p rfl (Zs en_8 (Zj8 h2) rfl rfl .nil) <| o_p rfl (Zb7 rfl rfl u_0) <| o_n) (by kernel_rfl) (fun a g hst hb => ?_)
 refine wp_cond_split (hst.bool 3 rfl) (fun hc3 => ?_) (fun hc3 => ?_)
 · replace H0 := Zp hc3 H0
   refine r_s (L := []) (T := [⟨[], _, [], [], [6]⟩]) (F := [.op 0 0]) (hst.pick [] rfl) hb Za
     (o_p rfl (Zb rfl rfl c_b) <| o_n) (by kernel_rfl) (fun a g hst hb => ?_)
   refine wp_ret ?_
   refine Zk ?_
   obtain rfl := Option.some.inj H0
   exact Zy rfl hst hb (Zi (s := 6)) (hst.at 0 rfl)
 · replace H0 := Zr hc3 H0
   refine wp_skip ?_
   refine Zn ?_
   refine wp_seq ?_
   obtain ⟨r4, h5, H0⟩ := Zh H0
   refine r_s (L := [(2, _), (3, _), (4, _)]) (T := [⟨[.old 1], _, [], [], [14]⟩, ⟨[.op 0 0], [(15, (Z5 r4))], [], [0], [15]⟩]) (F := [.old 0, .old 1, .old 2, .op 1 0]) (hst.pick [0, 1, 2] rfl) hb Za
     (o_p rfl (Zg Z4 rfl rfl u_0) <| o_p rfl (Zs en_9 (Zld _ _ h5) rfl rfl (.cons u_0 (.cons (Opd.c (fun g => Zhj g)) .nil))) <| o_n) (by kernel_rfl) (fun a g hst hb => ?_)
   refine wp_cond_split (hst.bool 3 rfl) (fun hc6 => ?_) (fun hc6 => ?_)
   · replace H0 := Zp hc6 H0
     refine r_s (L := []) (T := [⟨[], _, [], [], [6]⟩]) (F := [.op 0 0]) (hst.pick [] rfl) hb Za
       (o_p rfl (Zb rfl rfl c_b) <| o_n) (by kernel_rfl) (fun a g hst hb => ?_)
     refine wp_ret ?_
     refine Zk ?_
     obtain rfl := Option.some.inj H0
     exact Zy rfl hst hb (Zi (s := 6)) (hst.at 0 rfl)
   · replace H0 := Zr hc6 H0
     refine wp_skip ?_
     refine Zn ?_
     obtain ⟨r7, h8, H0⟩ := Zh H0
     refine r_s (L := [(2, _), (3, _), (4, _)]) (T := [⟨[.old 1], _, [], [], [17]⟩, ⟨[.op 0 0], _, [], [0], [18]⟩, ⟨[.op 1 0], _, [], [0, 1], [16]⟩, ⟨[.op 2 0], _, [], [0, 1, 2], [19]⟩, ⟨[.op 2 0], _, [], [0, 1, 2], [20]⟩, ⟨[], [(7, (pBox Zf 7 (default : Zd)))], [8], [], [7]⟩, ⟨[.op 3 0, .op 5 0], _, [8], [0, 1, 2, 3, 5], [7]⟩, ⟨[.op 4 0], _, [], Lr 7, [8]⟩]) (F := [.old 0, .old 1, .old 2, .op 6 0, .op 7 0]) (hst.pick [0, 1, 2] rfl) hb Za
       (o_p rfl (Zg Z4 rfl rfl u_0) <| o_p rfl (Zs Zrx (Zia _ h8) rfl rfl (.cons u_0 .nil)) <| o_p rfl (Zc rfl rfl u_0) <| o_p rfl (Z9 rfl rfl u_0 rfl) <| o_p rfl (Z9 rfl rfl u_0 rfl) <| o_p rfl (Zbj (zs := [.int .i64 0, .int .i64 0, .int .i64 0, .int .i64 0, .float .f64 0, .int .i64 0, .string ByteArray.empty, .slice none 0 0]) (by kernel_rfl) (fun g => Zbr g) rfl rfl) <| o_p rfl (Zb4 Z4 rfl rfl u_1 u_0) <| o_p rfl (Zb rfl rfl u_0) <| o_n) (by kernel_rfl) (fun a g hst hb => ?_)
     obtain ⟨r9, h10, H0⟩ := Zh H0
     refine r_s (T := [⟨[.old 1], _, [], [], [22]⟩, ⟨[.op 0 0], _, [], [0], [23]⟩, ⟨[.op 1 0], _, [], [0, 1], [21]⟩, ⟨[.op 2 0], _, [], [0, 1, 2], [24]⟩, ⟨[.op 2 0], _, [], [0, 1, 2], [25]⟩, ⟨[], [(9, (pBox Zf 9 (default : Zd)))], [10], [], [9]⟩, ⟨[.op 3 0, .op 5 0], _, [10], [0, 1, 2, 3, 5], [9]⟩, ⟨[.op 4 0], _, [], Lr 7, [10]⟩]) (F := [.old 0, .old 1, .old 2, .old 3, .old 4, .op 6 0, .op 7 0]) hst hb Za
       (o_p rfl (Zg Z4 rfl rfl u_0) <| o_p rfl (Zs Zz0 (Zkw _ h10) rfl rfl (.cons u_0 .nil)) <| o_p rfl (Zc rfl rfl u_0) <| o_p rfl (Z9 rfl rfl u_0 rfl) <| o_p rfl (Z9 rfl rfl u_0 rfl) <| o_p rfl (Zbj (zs := [.int .i64 0, .int .i64 0, .int .i64 0, .int .i64 0, .float .f64 0, .int .i64 0, .string ByteArray.empty, .slice none 0 0]) (by kernel_rfl) (fun g => Zbr g) rfl rfl) <| o_p rfl (Zb4 Z4 rfl rfl u_1 u_0) <| o_p rfl (Zb rfl rfl u_0) <| o_n) (by kernel_rfl) (fun a g hst hb => ?_)
     refine wp_seq ?_
     obtain ⟨e11, h12, H0⟩ := Zh H0; obtain ⟨e13, h14, H0⟩ := Zh H0; obtain ⟨r15, h16, H0⟩ := Zh H0; obtain ⟨e17, h18, H0⟩ := Zh H0; obtain ⟨e19, h20, H0⟩ := Zh H0; obtain ⟨r21, h22, H0⟩ := Zh H0; obtain ⟨r23, h24, H0⟩ := Zh H0
     refine r_s (T := ⟨[.old 2], _, [], [], [26]⟩ :: ⟨[.op 0 0], _, [], [0], [27]⟩ :: ⟨[.old 2], _, [], [], [28]⟩ :: ⟨[.op 2 0], _, [], [2], [29]⟩ :: ⟨[.op 1 0, .op 3 0], _, [], Lr 4, [30]⟩ :: ⟨[.old 2], _, [], [], [31]⟩ :: ⟨[.op 5 0], _, [], [5], [32]⟩ :: ⟨[.old 2], _, [], [], [33]⟩ :: ⟨[.op 7 0], _, [], [7], [34]⟩ :: ⟨[.op 6 0, .op 8 0], _, [], Lr 9, [35]⟩ :: ⟨[.op 4 0, .op 9 0], _, [], Lr 10, [36]⟩ :: ⟨[.op 10 0], _, [], Lr 11, [37]⟩ :: ⟨[.op 11 0, .old 4], _, [], Lr 12, [38]⟩ :: ⟨[.op 11 0, .old 6], _, [], Lr 12, [39]⟩ :: ⟨[.op 11 0, .op 12 0, .op 13 0], _, [], Lr 14, [40]⟩ :: ⟨[.op 11 0, .op 14 0], _, [], Lr 15, [41]⟩ :: ⟨[.op 15 0], _, [], Lr 16, [42]⟩ :: ⟨[.op 16 0, .old 3], _, [], Lr 17, [43]⟩ :: ⟨[.op 16 0, .old 5], _, [], Lr 17, [44]⟩ :: ⟨[.op 16 0, .op 17 0, .op 18 0], _, [], Lr 19, [45]⟩ :: ⟨[.op 16 0, .op 19 0], _, [], Lr 20, [46]⟩ :: ⟨[.op 16 0, .op 20 0], _, [], Lr 21, [47]⟩ :: []) (F := [.old 0, .old 1, .old 3, .old 4, .op 21 0]) hst hb Za
       (o_p rfl (Zg8 Tryd.underlying26 sz_3 rfl rfl u_0 c_i h12) <| o_p rfl (Zg ty_3 rfl rfl u_0) <| o_p rfl (Zg8 Tryd.underlying26 sz_3 rfl rfl u_0 c_i h14) <| o_p rfl (Zg ty_3 rfl rfl u_0) <| o_p rfl (Zs Zr0 (Zhy _ _ h16) rfl rfl (.cons u_0 (.cons u_1 .nil))) <| o_p rfl (Zg8 Tryd.underlying26 sz_3 rfl rfl u_0 c_i h18) <| o_p rfl (Zg ty_3 rfl rfl u_0) <| o_p rfl (Zg8 Tryd.underlying26 sz_3 rfl rfl u_0 c_i h20) <| o_p rfl (Zg ty_3 rfl rfl u_0) <| o_p rfl (Zs Zy5 (Zj7 _ _ h22) rfl rfl (.cons u_0 (.cons u_1 .nil))) <| o_p rfl (Zrg Tryd.underlying4 rfl rfl u_0 u_1) <| o_p rfl (Zc rfl rfl u_0) <| o_g (g_f rfl rfl rfl (fun hG => Zc rfl rfl u_0)) <| o_g (g_f rfl rfl rfl (fun hG => Zc rfl rfl u_0)) <| o_g (g_f rfl rfl rfl (fun hG => Zrg Tryd.underlying4 rfl rfl (Opd.gd hG u_0) (Opd.gd hG u_1))) <| o_p rfl (Zbg rfl rfl u_0 (fun hz => (Opd.gd (bNF hz) u_1))) <| o_p rfl (Zc rfl rfl u_0) <| o_g (g_f rfl rfl rfl (fun hG => Zg Z4 rfl rfl u_0)) <| o_g (g_f rfl rfl rfl (fun hG => Zg Z4 rfl rfl u_0)) <| o_g (g_f rfl rfl rfl (fun hG => Zs Zvd (Zh6 _ _ (Zbp h24 hG)) rfl rfl (.cons (Opd.gd hG u_0) (.cons (Opd.gd hG u_1) .nil)))) <| o_g (g_f rfl rfl rfl (fun hG => Zb7 rfl rfl (Opd.gd hG u_0))) <| o_p rfl (Zbg rfl rfl u_0 (fun hz => (Opd.gd (bNF hz) u_1))) <| o_n) (by kernel_rfl) (fun a g hst hb => ?_)
     refine wp_cond_split (hst.bool 4 rfl) (fun hc25 => ?_) (fun hc25 => ?_)
     · replace H0 := Zp hc25 H0
       refine r_s (L := []) (T := [⟨[], _, [], [], [6]⟩]) (F := [.op 0 0]) (hst.pick [] rfl) hb Za
         (o_p rfl (Zb rfl rfl c_b) <| o_n) (by kernel_rfl) (fun a g hst hb => ?_)
       refine wp_ret ?_
       refine Zk ?_
       obtain rfl := Option.some.inj H0
       exact Zy rfl hst hb (Zi (s := 6)) (hst.at 0 rfl)
     · replace H0 := Zr hc25 H0
       refine wp_skip ?_
       refine Zn ?_
       refine wp_seq ?_
       refine r_s (L := [(2, _), (3, _), (7, _), (8, _)]) (T := [⟨[.old 3], _, [], [], [48]⟩, ⟨[.op 0 0], _, [], [0], [49]⟩, ⟨[.op 1 0], _, [], [0, 1], [50]⟩, ⟨[.op 2 0, .old 0], _, [], [0, 1, 2], [51]⟩, ⟨[.op 2 0, .op 3 0], _, [], Lr 4, [52]⟩, ⟨[.op 2 0, .op 4 0], _, [], Lr 5, [53]⟩, ⟨[.op 5 0], _, [], Lr 6, [54]⟩, ⟨[.op 6 0, .old 0], _, [], Lr 7, [55]⟩, ⟨[.op 6 0, .op 7 0], _, [], Lr 8, [56]⟩, ⟨[.op 6 0, .op 8 0], _, [], Lr 9, [57]⟩]) (F := [.old 0, .old 1, .old 2, .op 9 0]) (hst.pick [0, 1, 2, 3] rfl) hb Za
         (o_p rfl (Zc rfl rfl u_0) <| o_p rfl (Zb7 rfl rfl u_0) <| o_p rfl (Zc rfl rfl u_0) <| o_g (g_f rfl rfl rfl (fun hG => Zc rfl rfl u_0)) <| o_g (g_f rfl rfl rfl (fun hG => Zce rfl rfl (Opd.gd hG u_0) c_i)) <| o_p rfl (Zbg rfl rfl u_0 (fun hz => (Opd.gd (bNF hz) u_1))) <| o_p rfl (Zc rfl rfl u_0) <| o_g (g_f rfl rfl rfl (fun hG => Zc rfl rfl u_0)) <| o_g (g_f rfl rfl rfl (fun hG => Zb9 rfl rfl (Opd.gd hG u_0) c_i)) <| o_p rfl (Zbg rfl rfl u_0 (fun hz => (Opd.gd (bNF hz) u_1))) <| o_n) (by kernel_rfl) (fun a g hst hb => ?_)
       refine wp_cond_split (hst.bool 3 rfl) (fun hc26 => ?_) (fun hc26 => ?_)
       · replace H0 := Zp hc26 H0
         refine r_s (L := []) (T := [⟨[], _, [], [], [6]⟩]) (F := [.op 0 0]) (hst.pick [] rfl) hb Za
           (o_p rfl (Zb rfl rfl c_b) <| o_n) (by kernel_rfl) (fun a g hst hb => ?_)
         refine wp_ret ?_
         refine Zk ?_
         obtain rfl := Option.some.inj H0
         exact Zy rfl hst hb (Zi (s := 6)) (hst.at 0 rfl)
       · replace H0 := Zr hc26 H0
         refine wp_skip ?_
         refine Zn ?_
         refine r_s (L := [(2, _), (3, _), (7, _)]) (T := [⟨[], [(11, (pRow Zf 25 11 ([] : List Zd)))], [], [], [11]⟩]) (F := [.old 0, .old 1, .old 2, .op 0 0]) (hst.pick [0, 1, 2] rfl) hb Za
           (o_p rfl (Zb rfl rfl (Opd.c (fun g => Zt9 11 g))) <| o_n) (by kernel_rfl) (fun a g hst hb => ?_)
         refine wp_seq ?_
         refine r_s (T := [⟨[.old 0], _, [], [], [58]⟩, ⟨[], _, [], [], [59]⟩]) (F := [.old 1, .old 2, .old 3, .op 0 0, .op 1 0]) hst hb Za
           (o_p rfl (Zc rfl rfl u_0) <| o_p rfl (Zc rfl rfl c_i) <| o_n) (by kernel_rfl) (fun a g hst hb => ?_)
         obtain ⟨z32, hz1, H0⟩ := Zh H0
         refine Zcf (fun a w => ∃ (y31 : List Zd) (g : G), w = g.w ∧ St 71 [(3, (Zf.ptr a0)), (11, (pRow Zf 25 11 y31))] a g ∧ Base g0 g ∧ y31 = z32) ?_ ?_
         · rintro a w ⟨y31, g, rfl, hst, hb, rfl⟩
           refine Zn ?_
           obtain ⟨r33, h34, H0⟩ := Zh H0; obtain ⟨r35, h36, H0⟩ := Zh H0
           refine r_s (T := [⟨[.old 0], _, [], [], [66]⟩, ⟨[.old 1], _, [], [], [67]⟩, ⟨[.op 0 0, .op 1 0], _, [], [0, 1], [68]⟩, ⟨[.old 0], _, [], [], [69]⟩, ⟨[.op 2 0, .op 3 0], _, [], Lr 4, [70]⟩, ⟨[.op 4 0], _, [], Lr 5, [6]⟩]) (F := [.op 5 0]) hst hb Za
             (o_p rfl (Zg Z4 rfl rfl u_0) <| o_p rfl (Zc rfl rfl u_0) <| o_p rfl (Zs Zu4 (Zj6 _ _ h34) rfl rfl (.cons u_0 (.cons (Opd.imp u_1 (fun _ _ h => Zoc h)) .nil))) <| o_p rfl (Zg Z4 rfl rfl u_0) <| o_p rfl (Zs Zvd (Zh6 _ _ h36) rfl rfl (.cons u_0 (.cons u_1 .nil))) <| o_p rfl (Zb rfl rfl u_0) <| o_n) (by kernel_rfl) (fun a g hst hb => ?_)
           refine wp_ret ?_
           obtain rfl := Option.some.inj H0
           exact Zy rfl hst hb (Zi (s := 6)) (hst.at 0 rfl)
         · refine wp_block ?_
           refine wp_loop_ghost (fun n a w => ∃ (x27 : List Zd) (x28 : Int) (g : G), w = g.w ∧ St 71 [(3, (Zf.ptr a0)), (7, (Zf.ptr r7.1)), (11, (pRow Zf 25 11 x27)), (58, (pInt .i64 a2)), (59, (pInt .i64 x28))] a g ∧ Base g0 g ∧ Zb1 a2 r7 n x27 x28 = some z32) (Int.toNat (a2 - (0 : Int)) + 1) ⟨([] : List Zd), (0 : Int), g, rfl, (hst.pick [0, 1, 2, 3, 4] rfl), hb, hz1⟩ (fun n a w hI => ?_)
           obtain ⟨x27, x28, g, rfl, hst, hb, H1⟩ := hI
           cases n with
           | zero => exact absurd H1 (by simp [Zb1])
           | succ n =>
             rw [Zb1] at H1
             refine r_s (T := [⟨[.old 4, .old 3], _, [], [], [60]⟩]) (F := [.old 0, .old 1, .old 2, .old 3, .old 4, .op 0 0]) hst hb Za
               (o_p rfl (Zce rfl rfl u_0 u_1) <| o_n) (by kernel_rfl) (fun a g hst hb => ?_)
             refine wp_seq ?_
             refine wp_cond_split (hst.bool 5 rfl) (fun hc29 => ?_) (fun hc29 => ?_)
             · replace H1 := Zp hc29 H1
               refine wp_skip ?_
               refine Zn ?_
               refine wp_seq ?_
               refine wp_block ?_
               obtain ⟨h30, H1⟩ := Zh4 H1
               refine r_g (L := [(3, _), (7, _), (11, _), (58, _), (59, _)]) (T := [⟨[.old 2], _, [], [], [61]⟩, ⟨[.old 1], _, [], [], [62]⟩, ⟨[.op 1 0], _, [], [1], [63]⟩, ⟨[.op 0 0, .op 2 0], _, [12], [0, 1, 2], [11, 61, 64]⟩, ⟨[.op 3 0], _, [], Lr 4, [11]⟩]) (F := [.old 0, .old 1, .op 4 0, .old 3, .old 4]) (hst.pick [0, 1, 2, 3, 4] rfl) hb Za
                 (o_p rfl (Zc rfl rfl u_0) <| o_p rfl (Zg Z4 rfl rfl u_0) <| o_p rfl (Zh1 Zrv (xs := [.tmp 62]) (.cons u_0 .nil) (by decide) rfl rfl) <| o_p rfl (Zoe Zrv rfl rfl u_0 u_1 h30) <| o_p rfl (Zb rfl rfl u_0) <| o_n) (by kernel_rfl) (fun a g hst hb => ?_)
               refine Zbe ?_
               refine Zn ?_
               refine r_g (T := [⟨[.old 4], _, [], [], [65]⟩, ⟨[.op 0 0], _, [], [0], [59]⟩]) (F := [.old 0, .old 1, .old 2, .old 3, .op 1 0]) hst hb Za
                 (o_p rfl (Zcq rfl rfl u_0 c_i rfl) <| o_p rfl (Zc rfl rfl u_0) <| o_n) (by kernel_rfl) (fun a g hst hb => ?_)
               exact ⟨n, Nat.lt_succ_self _, (x27 ++ ([r7.1] : List Zd)), (IntKind.i64.wrap (x28 + (1 : Int))), g, rfl, (hst.pick [0, 1, 2, 3, 4] rfl), hb, H1⟩
             · replace H1 := Zr hc29 H1
               refine wp_exit ?_
               refine Zcg ?_
               refine Zcg ?_
               refine Zc4 ?_
               exact ⟨x27, g, rfl, (hst.pick [0, 2] rfl), hb, Option.some.inj H1⟩
end Go.CL
namespace Go.CL
open Go
inductive shelf_nodeT where
 | nil
 | node (key : ByteArray) (rec_ : Zd) (left : shelf_nodeT) (right : shelf_nodeT) (size : Int)
 deriving Inhabited
structure shelf_node where
 key : ByteArray
 rec_ : Zd
 left : shelf_nodeT
 right : shelf_nodeT
 size : Int
 deriving Inhabited
def shelf_node.up (x : shelf_node) : shelf_nodeT := .node x.key x.rec_ x.left x.right x.size
def shelf_nodeT.hh : shelf_nodeT → Nat
 | .nil => 0
 | .node x0 x1 x2 x3 x4 => max x2.hh x3.hh + 1
def NANB : Nat := 9221120237041090561
def keyf (b : Nat) : Int := if isn b then 18444492273895866369 else if TOP ≤ b then 18446744073709551615 - b else b + 9223372036854775808
def Zcp (b : Nat) : Nat := if isn b then NANB else b
theorem Zoi {b : Nat} (hb : b < 18446744073709551616) : fneq b b = decide (isn b) := by
 unfold fneq
 show (Ieee.double.order b b != some .eq) = _
 by_cases h : isn b
 · rw [Zog (.inl h)]; simp [h]
 · obtain ⟨o, ho, _, he⟩ := Zkf hb hb h h
   rw [ho, he.2 rfl]; simp [h]
theorem Zkd {b : Nat} (hb : b < 18446744073709551616) : Zdj b = some (Zcp b) := by
 unfold Zdj Zcp
 rw [Zoi hb]
 by_cases h : isn b
 · simp [h, Zhi, NANB]
 · simp [h]
theorem Zwa {b : Nat} (hb : b < 18446744073709551616) : (bAnd .u64 (b : Int) 9223372036854775808 != 0) = decide (TOP ≤ b) := by
 have h1 : (BitVec.ofInt 64 (b : Int) &&& BitVec.ofInt 64 9223372036854775808).toNat = b &&& 9223372036854775808 := by
   rw [BitVec.toNat_and]
   have e1 : (BitVec.ofInt 64 (b : Int)).toNat = b := by
     rw [show BitVec.ofInt 64 (b : Int) = BitVec.ofNat 64 b from rfl]
     simp; omega
   rw [e1]; rfl
 have h2 : b &&& 9223372036854775808 = (b.testBit 63).toNat * 9223372036854775808 := by
   apply Nat.eq_of_testBit_eq
   intro i
   rw [Nat.testBit_and, show (9223372036854775808 : Nat) = 2 ^ 63 from rfl, Nat.testBit_two_pow]
   by_cases hi : 63 = i
   · subst hi
     cases b.testBit 63
     · simp
     · rw [Bool.toNat_true, Nat.one_mul, Nat.testBit_two_pow]; simp
   · cases b.testBit 63
     · simp [hi]
     · rw [Bool.toNat_true, Nat.one_mul, Nat.testBit_two_pow]; simp [hi]
 have h3 : b.testBit 63 = decide (TOP ≤ b) := by
   rw [Nat.testBit_eq_decide_div_mod_eq]
   unfold TOP
   by_cases h : 9223372036854775808 ≤ b
   · have : b / 2 ^ 63 % 2 = 1 := by omega
     simp [this, h]
   · have : b / 2 ^ 63 % 2 = 0 := by omega
     simp [this, h]
 unfold bAnd
 show (IntKind.wrap .u64 ((BitVec.ofInt 64 (b : Int) &&& BitVec.ofInt 64 9223372036854775808).toNat : Int) != 0) = _
 rw [h1, h2, h3]
 by_cases h : TOP ≤ b
 · simp only [h, decide_true, Bool.toNat_true, Nat.one_mul]
   rfl
 · simp only [h, decide_false, Bool.toNat_false, Nat.zero_mul]
   rfl
theorem Zvt {b : Nat} (hb : b < 18446744073709551616) : bXor .u64 IntKind.u64.max (b : Int) = 18446744073709551615 - b := by
 have h1 : (BitVec.ofInt 64 18446744073709551615 ^^^ BitVec.ofInt 64 (b : Int)).toNat = 18446744073709551615 - b := by
   have e1 : BitVec.ofInt 64 18446744073709551615 = BitVec.allOnes 64 := by decide
   rw [e1, BitVec.allOnes_xor, BitVec.toNat_not]
   have e2 : (BitVec.ofInt 64 (b : Int)).toNat = b := by
     rw [show BitVec.ofInt 64 (b : Int) = BitVec.ofNat 64 b from rfl]
     simp; omega
   rw [e2]
 unfold bXor
 show IntKind.wrap .u64 ((BitVec.ofInt 64 18446744073709551615 ^^^ BitVec.ofInt 64 (b : Int)).toNat : Int) = _
 rw [h1]
 simp [IntKind.wrap, IntKind.signed, IntKind.bits]
 omega
theorem Zyd {b : Nat} (hb : b < 9223372036854775808) : bOr .u64 (b : Int) 9223372036854775808 = b + 9223372036854775808 := by
 have h1 : (BitVec.ofInt 64 (b : Int) ||| BitVec.ofInt 64 9223372036854775808).toNat = b + 9223372036854775808 := by
   rw [BitVec.toNat_or]
   have e1 : (BitVec.ofInt 64 (b : Int)).toNat = b := by
     rw [show BitVec.ofInt 64 (b : Int) = BitVec.ofNat 64 b from rfl]
     simp; omega
   rw [e1, show (BitVec.ofInt 64 9223372036854775808).toNat = 2 ^ 63 * 1 from rfl, Nat.or_comm]
   rw [← Nat.two_pow_add_eq_or_of_lt (by simpa using hb)]
   omega
 unfold bOr
 show IntKind.wrap .u64 ((BitVec.ofInt 64 (b : Int) ||| BitVec.ofInt 64 9223372036854775808).toNat : Int) = _
 rw [h1]
 simp [IntKind.wrap, IntKind.signed, IntKind.bits]
 omega
theorem Zud {b : Nat} (hb : b < 18446744073709551616) : Zcp b < 18446744073709551616 := by
 unfold Zcp NANB; split <;> omega
theorem Zm2 {b : Nat} (hb : b < 18446744073709551616) : Zhq b = some (keyf b) := by
 unfold Zhq
 rw [Zkd hb]
 simp only [Option.bind_some]
 rw [Zwa (Zud hb)]
 unfold keyf Zcp
 by_cases h : isn b
 · simp only [h, if_true]
   rfl
 · simp only [h, if_false]
   by_cases ht : TOP ≤ b
   · simp only [ht, decide_true, if_true]
     rw [Zvt hb]
   · simp only [ht, decide_false, if_false, Bool.false_eq_true]
     rw [Zyd (by unfold TOP at ht; omega)]
theorem Znv {a b : Nat} (ha : a < 18446744073709551616) (hb : b < 18446744073709551616) : Zfq a b = some (decide (keyf a = keyf b)) := by
 unfold Zfq
 rw [Zm2 ha, Zm2 hb]
 simp [BEq.beq]
theorem Zns {a b : Nat} (ha : a < 18446744073709551616) (hb : b < 18446744073709551616) : Zhk a b = some (decide (keyf a < keyf b)) := by
 unfold Zhk
 rw [Zm2 ha, Zm2 hb]
 simp
theorem Zon {a : Nat} (ha : a < 18446744073709551616) : Zgb a = some (decide (a = Zcp a)) := by
 unfold Zgb
 rw [Zkd ha]
 congr 1
 by_cases h : a = Zcp a
 · simp [← h]
 · have : (a : Int) ≠ (Zcp a : Int) := by omega
   simp [h, this]
theorem Zq5 {a b : Nat} (ha : a < 18446744073709551616) (hb : b < 18446744073709551616) (na : ¬ isn a) (nb : ¬ isn b) : keyf a < keyf b ↔ (sg a < sg b ∨ (a = TOP ∧ b = 0)) := by
 unfold keyf
 rw [if_neg na, if_neg nb]
 unfold sg isn rg INF TOP at *
 split <;> split <;> omega
theorem Zrn {a b : Nat} (ha : a < 18446744073709551616) (hb : b < 18446744073709551616) (na : ¬ isn a) (nb : ¬ isn b) : feql a b = decide (sg a = sg b) := by
 unfold feql
 show (Ieee.double.order a b == some .eq) = _
 obtain ⟨o, ho, _, he⟩ := Zkf ha hb na nb
 rw [ho]
 by_cases h : sg a = sg b
 · rw [he.2 h]; simp [h]
 · have : o ≠ .eq := fun h' => h (he.1 h')
   simp [h, this]
theorem Zvq {a b : Nat} (ha : a < 18446744073709551616) (hb : b < 18446744073709551616) (na : ¬ isn a) (nb : ¬ isn b) : flss a b = decide (sg a < sg b) := by
 unfold flss
 show (Ieee.double.order a b == some .lt) = _
 obtain ⟨o, ho, hl, _⟩ := Zkf ha hb na nb
 rw [ho]
 by_cases h : sg a < sg b
 · rw [hl.2 h]; simp [h]
 · have : o ≠ .lt := fun h' => h (hl.1 h')
   simp [h, this]
theorem Zxu : Zd3 0 = some false := by kernel_rfl
theorem Zxj : Zd3 TOP = some true := by kernel_rfl
theorem nan0 : ¬ isn 0 := by decide
theorem Zra {a : Nat} (ha : a < 18446744073709551616) : sg a = sg 0 ↔ a = 0 ∨ a = TOP := by
 unfold sg TOP
 split <;> simp <;> omega
theorem Zmt {a : Nat} (ha : a < 18446744073709551616) : Zdp a = some (decide (isn a)) := by
 unfold Zdp; rw [Zoi ha]
theorem Zmy {a b : Nat} (ha : a < 18446744073709551616) (hb : b < 18446744073709551616) : Zdq a b = some (decide (keyf a < keyf b)) := by
 unfold Zdq
 rw [Zmt ha, Zmt hb]
 simp only [Option.bind_some]
 have kb : ∀ x, x < 18446744073709551616 → ¬ isn x → keyf x < 18444492273895866369 := by
   intro x hx nx
   unfold keyf
   rw [if_neg nx]
   unfold isn rg INF TOP at *
   split <;> omega
 have kn : ∀ x, isn x → keyf x = 18444492273895866369 := fun x h => by unfold keyf; rw [if_pos h]
 by_cases na : isn a
 · simp only [na, decide_true, if_true]
   by_cases nb : isn b
   · rw [kn a na, kn b nb]; simp
   · have := kb b hb nb
     rw [kn a na]; simp; omega
 · simp only [na, decide_false, Bool.false_eq_true, if_false]
   by_cases nb : isn b
   · have := kb a ha na
     rw [kn b nb]; simp [nb, this]
   · simp only [nb, decide_false, Bool.false_eq_true, if_false]
     rw [Zrn ha (by decide) na nan0, Zrn hb (by decide) nb nan0, Zvq ha hb na nb]
     by_cases hz : sg a = sg 0 ∧ sg b = sg 0
     · rw [if_pos (by simp [hz])]
       have hk := Zq5 ha hb na nb
       have h0T : (0 : Nat) ≠ TOP := by decide
       rcases (Zra ha).1 hz.1 with rfl | rfl <;> rcases (Zra hb).1 hz.2 with rfl | rfl <;> simp only [Zxu, Zxj, gd, Option.bind_some, if_true, if_false, Bool.false_eq_true, Option.some.injEq] <;> decide
     · rw [if_neg (by simpa using hz)]
       have hk := Zq5 ha hb na nb
       congr 1
       apply decide_eq_decide.2
       rw [hk]
       constructor
       · intro h; exact .inl h
       · rintro (h | ⟨rfl, rfl⟩)
         · exact h
         · exact absurd ⟨rfl, rfl⟩ hz
theorem Zkn {a b : Nat} (ha : a < 18446744073709551616) (hb : b < 18446744073709551616) : Zda a b = some (decide (keyf a = keyf b)) := by
 unfold Zda
 rw [Zmy ha hb, Zmy hb ha]
 simp only [Option.bind_some, gd]
 by_cases h1 : keyf a < keyf b
 · have : keyf a ≠ keyf b := by omega
   simp [h1, this]
 · by_cases h2 : keyf b < keyf a
   · have : keyf a ≠ keyf b := by omega
     simp [h1, h2, this]
   · have : keyf a = keyf b := by omega
     simp [this]
theorem Znf {a : Nat} (ha : a < 18446744073709551616) : Zdu a = some (decide (a = Zcp a)) := by
 unfold Zdu
 rw [Zmt ha]
 unfold Zcp NANB
 by_cases h : isn a
 · by_cases h2 : a = 9221120237041090561
   · simp [h, h2]
   · have : (a : Int) ≠ 9221120237041090561 := by omega
     simp [h, h2, this]
 · simp [h]
theorem wr {x : Int} (h1 : -9223372036854775808 ≤ x) (h2 : x ≤ 9223372036854775807) : IntKind.i64.wrap x = x := by
 rw [IntKind.wrap_i64]; omega
theorem wr1 {i : Nat} (h : i < 9223372036854775807) : IntKind.i64.wrap ((i : Int) + 1) = ((i + 1 : Nat) : Int) := by
 rw [wr (by omega) (by omega)]; omega
theorem wrm {i : Nat} (h : i < 9223372036854775807) (h0 : 0 < i) : IntKind.i64.wrap ((i : Int) - 1) = ((i - 1 : Nat) : Int) := by
 rw [wr (by omega) (by omega)]; omega
theorem idxn {α : Type} (xs : List α) (i : Nat) : idx xs (i : Int) = xs[i]? := by
 unfold idx
 rw [if_pos (by omega)]
 simp
theorem Zgx {α : Type} {xs : List α} {i : Nat} (h : i < xs.length) : idx xs (i : Int) = some xs[i] := by
 rw [idxn, List.getElem?_eq_getElem h]
theorem gd_t {β : Type} [Inhabited β] (x : Option β) : gd true x = x := rfl
theorem gd_f {β : Type} [Inhabited β] (x : Option β) : gd false x = some default := rfl
theorem Zr4 {a b : ByteArray} (h : a.toList = b.toList) : a = b := by
 rw [_root_.Go.ByteArray.toList_eq, _root_.Go.ByteArray.toList_eq] at h
 exact ByteArray.ext (Array.toList_inj.1 h)
theorem Zrd {a b : ByteArray} : sEq a b = true ↔ a = b := by
 unfold sEq
 constructor
 · intro h; exact Zr4 (by simpa using h)
 · rintro rfl; simp
theorem Zpz (a : ByteArray) : sEq a a = true := Zrd.2 rfl
abbrev W64 : Nat := 18446744073709551616
structure Zg2 (a : Zd) : Prop where
 real : a.Real < W64
 len : a.List.length < 4611686018427387904
 sc : ∀ e ∈ a.List, e.Score < W64
def Zig (a b : Zj) : Bool := if keyf a.Score = keyf b.Score then sLt a.Name b.Name else decide (keyf b.Score < keyf a.Score)
theorem Zs5 {a b : Zj} (ha : a.Score < W64) (hb : b.Score < W64) : Zga a b = some (Zig a b) := by
 unfold Zga Zig
 rw [Znv ha hb, Zns hb ha]
 by_cases h : keyf a.Score = keyf b.Score <;> simp [h]
theorem Zt0 {a b : Zj} (ha : a.Score < W64) (hb : b.Score < W64) : Zes a b = some (Zig a b) := by
 unfold Zes Zig
 rw [Zmy hb ha, Zkn ha hb]
 by_cases h : keyf a.Score = keyf b.Score
 · simp [h]
 · by_cases h2 : keyf b.Score < keyf a.Score <;> simp [h, h2]
theorem Zq1 {a : Nat} (ha : a < W64) : Zeb a = some (decide (keyf a = keyf 0)) := by
 unfold Zeb
 rw [Zkn ha (by decide)]
 rfl
def Zf0 (k : Int) (l : List Zj) (i : Nat) : Int :=
 match l[i]? with
 | none => 0
 | some x =>
   let p := (l[i - 1]?).getD default
   if (16 : Int) < x.Name.size then 3
   else if (k = 8 ∧ keyf x.Score ≠ keyf 0) ∨ x.Score ≠ Zcp x.Score then 4
   else if 0 < i ∧ k = 8 ∧ sLt p.Name x.Name = false then 4
   else if 0 < i ∧ k = 9 ∧ Zig p x = false then 4
   else 0
theorem Ztg {k : Int} {l : List Zj} {i n : Nat} (hi : i < l.length) (hl : l.length < 4611686018427387904) (hs : ∀ e ∈ l, e.Score < W64) :
   Zdn k l (n + 1) (i : Int) = if Zf0 k l i = 0 then Zdn k l n ((i + 1 : Nat) : Int) else some (.inl (Zf0 k l i)) := by
 have hx : l[i].Score < W64 := hs _ (List.getElem_mem hi)
 rw [Zdn, if_pos (by simp; omega), Zgx hi, wr1 (by omega)]
 simp only [Option.bind_some]
 rw [Znv hx (by decide), Zon hx]
 simp only [Zf0, List.getElem?_eq_getElem hi]
 by_cases h1 : (16 : Int) < l[i].Name.size
 · simp [h1]
 · simp only [h1, decide_false, if_false, Bool.false_eq_true]
   have hz : ((0 : Nat) : Int) = 0 := rfl
   by_cases h0 : 0 < i
   · have hp : i - 1 < l.length := by omega
     have hps : l[i - 1].Score < W64 := hs _ (List.getElem_mem hp)
     have hd : (decide ((0 : Int) < (i : Int))) = true := by simp; omega
     rw [hd, wrm (by omega) h0, Zgx hp]
     simp only [List.getElem?_eq_getElem hp, Option.getD_some, h0, true_and, Bool.true_and]
     by_cases h8 : k = 8
     · subst h8
       simp only [beq_self_eq_true, gd_t, Option.bind_some, true_and, Bool.true_and]
       by_cases hk : keyf l[i].Score = keyf 0
       · by_cases hc : l[i].Score = Zcp l[i].Score
         · simp [hk, ← hc, gd]
           cases sLt l[i - 1].Name l[i].Name <;> simp
         · simp [hk, hc, gd]
       · simp [hk, gd]
     · have h8' : (k == 8) = false := by simpa using h8
       simp only [h8', h8, gd_f, gd_t, Option.bind_some, false_and, false_or, Bool.false_and, Bool.not_false, Bool.false_or]
       by_cases hc : l[i].Score = Zcp l[i].Score
       · by_cases h9 : k = 9
         · subst h9
           simp [← hc, gd, Zs5 hps hx]
           cases Zig l[i - 1] l[i] <;> simp
         · simp [← hc, gd, h9]
       · simp [hc]
   · have h00 : i = 0 := by omega
     subst h00
     simp only [Nat.lt_irrefl, false_and, if_false, Int.ofNat_zero, Int.lt_irrefl, decide_false, Bool.false_and, gd_f, Option.bind_some, Int.natCast_zero]
     by_cases h8 : k = 8
     · subst h8
       simp only [beq_self_eq_true, gd_t, Option.bind_some, true_and, Bool.true_and]
       by_cases hk : keyf l[0].Score = keyf 0
       · by_cases hc : l[0].Score = Zcp l[0].Score
         · simp [hk, ← hc, gd]
         · simp [hk, hc, gd]
       · simp [hk, gd]
     · have h8' : (k == 8) = false := by simpa using h8
       simp only [h8', h8, gd_f, gd_t, Option.bind_some, false_and, false_or, Bool.false_and, Bool.not_false, Bool.false_or]
       by_cases hc : l[0].Score = Zcp l[0].Score
       · simp [← hc, gd]
       · simp [hc]
theorem Zue {k : Int} {l : List Zj} {i : Nat} (hi : i < l.length) (hl : l.length < 4611686018427387904) (hs : ∀ e ∈ l, e.Score < W64) : Ze4 k l (i : Int) = some (Zf0 k l i) := by
 have hx : l[i].Score < W64 := hs _ (List.getElem_mem hi)
 unfold Ze4
 rw [Zgx hi]
 simp only [Option.bind_some]
 rw [Zq1 hx, Znf hx]
 simp only [Zf0, List.getElem?_eq_getElem hi]
 by_cases h1 : (16 : Int) < l[i].Name.size
 · simp [h1]
 · simp only [h1, decide_false, if_false, Bool.false_eq_true]
   by_cases h0 : 0 < i
   · have hp : i - 1 < l.length := by omega
     have hps : l[i - 1].Score < W64 := hs _ (List.getElem_mem hp)
     have hd : (decide ((0 : Int) < (i : Int))) = true := by simp; omega
     rw [hd, wrm (by omega) h0, Zgx hp]
     simp only [List.getElem?_eq_getElem hp, Option.getD_some, h0, true_and, Bool.true_and]
     by_cases h8 : k = 8
     · subst h8
       simp only [beq_self_eq_true, gd_t, Option.bind_some, true_and, Bool.true_and]
       by_cases hk : keyf l[i].Score = keyf 0
       · by_cases hc : l[i].Score = Zcp l[i].Score
         · simp [hk, ← hc, gd]
           cases sLt l[i - 1].Name l[i].Name <;> simp
         · simp [hk, hc, gd]
       · simp [hk, gd]
     · have h8' : (k == 8) = false := by simpa using h8
       simp only [h8', h8, gd_f, gd_t, Option.bind_some, false_and, false_or, Bool.false_and, Bool.not_false, Bool.false_or]
       by_cases hc : l[i].Score = Zcp l[i].Score
       · by_cases h9 : k = 9
         · subst h9
           simp [← hc, gd, Zt0 hps hx]
           cases Zig l[i - 1] l[i] <;> simp
         · simp [← hc, gd, h9]
       · simp [hc]
   · have h00 : i = 0 := by omega
     subst h00
     simp only [Nat.lt_irrefl, false_and, if_false, Int.ofNat_zero, Int.lt_irrefl, decide_false, Bool.false_and, gd_f, Option.bind_some, Int.natCast_zero]
     by_cases h8 : k = 8
     · subst h8
       simp only [beq_self_eq_true, gd_t, Option.bind_some, true_and, Bool.true_and]
       by_cases hk : keyf l[0].Score = keyf 0
       · by_cases hc : l[0].Score = Zcp l[0].Score
         · simp [hk, ← hc, gd]
         · simp [hk, hc, gd]
       · simp [hk, gd]
     · have h8' : (k == 8) = false := by simpa using h8
       simp only [h8', h8, gd_f, gd_t, Option.bind_some, false_and, false_or, Bool.false_and, Bool.not_false, Bool.false_or]
       by_cases hc : l[0].Score = Zcp l[0].Score
       · simp [← hc, gd]
       · simp [hc]
end Go.CL
