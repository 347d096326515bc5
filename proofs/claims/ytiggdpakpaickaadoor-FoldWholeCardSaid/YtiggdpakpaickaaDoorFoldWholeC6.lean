/- A part of the proof of FoldWhole. -/
import Derived.Test.YtiggdpakpaickaaDoorFoldWholeC5
import Derived.KernelRfl
import Derived.Laws.Strings
set_option linter.unusedVariables false
set_option linter.unusedSimpArgs false
set_option maxRecDepth 100000
namespace Go.CL
open Go Go.RowKit Go.Proofs
theorem Zoi (a0 : Int) (a1 : List Z5) {r : Zk × (Option Zl)} (h : Zfs a0 a1 = some r) : FnOk Tryd.prog 6 [(pInt .i64 a0), (Zbx.sl.pd a1)] (pTup [(Zt.pd r.1), (Zbr.opt.pd r.2)]) := by
 have H0 := h
 unfold Zfs at H0
 clear h
 refine Zbu (N := 63) Tryd.func6 rfl rfl (Nat.le_of_ble_eq_true rfl) rfl rfl (fun a g0 hst hb => ?_)
 refine r_s (T := [⟨[], [(4, (pBox Zt 4 (default : Zk)))], [5], [], [4]⟩, ⟨[], [(5, (Zbr.opt.pd (none : Option Zl)))], [], [], [5]⟩]) (F := [.old 0, .old 1, .op 0 0]) hst hb Zb
   (o_p rfl (Zbb (zs := [.pointer none, .int .i64 0]) (by kernel_rfl) (fun g => Zci g) rfl rfl) <| o_p rfl (Zc rfl rfl (Opd.c (fun g => Zps g))) <| o_n) (by kernel_rfl) (fun a g hst hb => ?_)
 obtain ⟨r1, h2, H0⟩ := Zh H0
 refine r_s (T := [⟨[.old 0], _, [], [], [12]⟩, ⟨[.op 0 0], _, [], [0], [13]⟩, ⟨[.op 1 0], _, [], [0, 1], [11]⟩, ⟨[.op 2 0], _, [], [0, 1, 2], [14]⟩, ⟨[.op 2 0], _, [], [0, 1, 2], [15]⟩, ⟨[], [(6, (pBox Zt 6 (default : Zk)))], [7], [], [6]⟩, ⟨[.op 3 0, .op 5 0], _, [7], [0, 1, 2, 3, 5], [6]⟩, ⟨[.op 4 0], _, [], Lr 7, [7]⟩]) (F := [.old 0, .old 1, .old 2, .op 6 0, .op 7 0]) hst hb Zb
   (o_p rfl (Za rfl rfl u_0) <| o_p rfl (Zp Z3n (Zp2 _ h2) rfl rfl (.cons u_0 .nil)) <| o_p rfl (Za rfl rfl u_0) <| o_p rfl (Z4 rfl rfl u_0 rfl) <| o_p rfl (Z4 rfl rfl u_0 rfl) <| o_p rfl (Zbb (zs := [.pointer none, .int .i64 0]) (by kernel_rfl) (fun g => Zci g) rfl rfl) <| o_p rfl (Z6 Zbf rfl rfl u_1 u_0) <| o_p rfl (Zc rfl rfl u_0) <| o_n) (by kernel_rfl) (fun a g hst hb => ?_)
 refine wp_seq ?_
 refine r_s (T := [⟨[.old 4], _, [], [], [16]⟩, ⟨[.op 0 0], _, [], [0], [17]⟩, ⟨[.op 1 0], _, [], [0, 1], [18]⟩, ⟨[.op 2 0, .old 1], _, [], [0, 1, 2], [19]⟩, ⟨[.op 2 0, .op 3 0], _, [], Lr 4, [20]⟩, ⟨[.op 2 0, .op 4 0], _, [], Lr 5, [21]⟩, ⟨[.op 2 0, .op 5 0], _, [], Lr 6, [22]⟩]) (F := [.old 0, .old 1, .old 2, .old 3, .op 6 0]) hst hb Zb
   (o_p rfl (Za rfl rfl u_0) <| o_p rfl (Zer rfl rfl u_0 c_i) <| o_p rfl (Za rfl rfl u_0) <| o_g (g_f rfl rfl rfl (fun hG => Za rfl rfl u_0)) <| o_g (g_f rfl rfl rfl (fun hG => Zb3 Tryd.underlying22 rfl rfl (Opd.gd hG u_0))) <| o_g (g_f rfl rfl rfl (fun hG => Zcr rfl rfl (Opd.gd hG u_0) c_i)) <| o_p rfl (Zbz rfl rfl u_0 (fun hz => (Opd.gd (bNF hz) u_1))) <| o_n) (by kernel_rfl) (fun a g hst hb => ?_)
 refine wp_cond_split (hst.bool 4 rfl) (fun hc3 => ?_) (fun hc3 => ?_)
 · replace H0 := Z0 hc3 H0
   refine r_s (L := [(4, _), (6, _)]) (T := [⟨[.old 1], _, [], [], [23]⟩, ⟨[.op 0 0, .old 0], _, [5], [0], [4]⟩, ⟨[], [(5, (Zbr.opt.pd (none : Option Zl)))], [], [0, 1], [5]⟩]) (F := [.op 1 0, .op 2 0]) (hst.pick [2, 3] rfl) hb Zb
     (o_p rfl (Zb8 Zbf rfl rfl u_0) <| o_p rfl (Z6 Zbf rfl rfl u_1 u_0) <| o_p rfl (Zc rfl rfl (Opd.c (fun g => Zps g))) <| o_n) (by kernel_rfl) (fun a g hst hb => ?_)
   refine wp_ret ?_
   refine Zn ?_
   obtain rfl := Option.some.inj H0
   obtain ⟨u0, hu0, hq0⟩ := Zbh (P := Tryd.prog) Zbf (hst.at 0 rfl)
   exact Zex rfl hst hb hu0 (Zm (s := 5)) (Zde hq0 (hst.at 1 rfl))
 · replace H0 := Zz hc3 H0
   refine wp_skip ?_
   refine Zu ?_
   refine r_s (L := [(0, _), (1, _), (4, _), (6, _)]) (T := [⟨[.old 0], _, [], [], [24]⟩, ⟨[.op 0 0], _, [], [0], [25]⟩, ⟨[], [(8, (pBox Zbr 8 (default : Zl)))], [9], [], [8]⟩, ⟨[.op 1 0, .op 2 0], _, [9], [0, 1, 2], [8]⟩]) (F := [.old 1, .old 2, .old 3, .op 3 0]) (hst.pick [0, 1, 2, 3] rfl) hb Zb
     (o_p rfl (Za rfl rfl u_0) <| o_p rfl (Z36 rfl rfl u_0) <| o_p rfl (Zbb (zs := [.slice none 0 0, .int .i64 0]) (by kernel_rfl) (fun g => Zk9 g) rfl rfl) <| o_p rfl (Z6 Zis rfl rfl u_1 u_0) <| o_n) (by kernel_rfl) (fun a g hst hb => ?_)
   refine wp_seq ?_
   refine r_s (T := [⟨[.old 0], _, [], [], [26]⟩, ⟨[.op 0 0], _, [], [0], [27]⟩, ⟨[], _, [], [], [28]⟩]) (F := [.old 1, .old 2, .old 3, .op 0 0, .op 1 0, .op 2 0]) hst hb Zb
     (o_p rfl (Za rfl rfl u_0) <| o_p rfl (Zb3 Tryd.underlying22 rfl rfl u_0) <| o_p rfl (Za rfl rfl c_i) <| o_n) (by kernel_rfl) (fun a g hst hb => ?_)
   obtain ⟨z21, hz1, H0⟩ := Zh H0
   refine Zc0 (fun a w => ∃ (y18 : Zk) (y19 : Zk) (y20 : Zl) (g : G), w = g.w ∧ St 63 [(4, (pBox Zt 4 y18)), (6, (pBox Zt 6 y19)), (8, (pBox Zbr 8 y20))] a g ∧ Base g0 g ∧ (.inr (y18, y19, y20)) = z21) ?_ ?_
   · rintro a w ⟨y18, y19, y20, g, rfl, hst, hb, rfl⟩
     refine Zu ?_
     refine r_s (T := [⟨[.old 1], _, [], [], [62]⟩, ⟨[.op 0 0, .old 0], _, [5], [0], [4]⟩, ⟨[.old 2], _, [9], [0, 1], [5, 8]⟩]) (F := [.op 1 0, .op 2 0]) hst hb Zb
       (o_p rfl (Zb8 Zbf rfl rfl u_0) <| o_p rfl (Z6 Zbf rfl rfl u_1 u_0) <| o_p rfl (Z18 (.inr rfl) rfl u_0) <| o_n) (by kernel_rfl) (fun a g hst hb => ?_)
     refine wp_ret ?_
     obtain rfl := Option.some.inj H0
     obtain ⟨u0, hu0, hq0⟩ := Zbh (P := Tryd.prog) Zbf (hst.at 0 rfl)
     exact Zex rfl hst hb hu0 (Zm (s := 5)) (Zde hq0 (hst.at 1 rfl))
   · refine wp_block ?_
     refine wp_loop_ghost (fun n a w => ∃ (x4 : Zk) (x5 : Zk) (x6 : Zl) (x7 : Int) (g : G), w = g.w ∧ St 63 [(4, (pBox Zt 4 x4)), (6, (pBox Zt 6 x5)), (8, (pBox Zbr 8 x6)), (26, (Zbx.sl.pd a1)), (27, (pInt .i64 (a1.length : Int))), (28, (pInt .i64 x7))] a g ∧ Base g0 g ∧ Zdb a1 n x4 x5 x6 x7 = some z21) (Int.toNat ((a1.length : Int) - (0 : Int)) + 1) ⟨(default : Zk), r1.1, ({ L := ([] : List Z5), Room := a0 } : Zl), (0 : Int), g, rfl, (hst.pick [0, 1, 2, 3, 4, 5] rfl), hb, hz1⟩ (fun n a w hI => ?_)
     obtain ⟨x4, x5, x6, x7, g, rfl, hst, hb, H1⟩ := hI
     cases n with
     | zero => exact absurd H1 (by simp [Zdb])
     | succ n =>
       rw [Zdb] at H1
       refine r_s (T := [⟨[.old 5, .old 4], _, [], [], [29]⟩]) (F := [.old 0, .old 1, .old 2, .old 3, .old 4, .old 5, .op 0 0]) hst hb Zb
         (o_p rfl (Zc2 rfl rfl u_0 u_1) <| o_n) (by kernel_rfl) (fun a g hst hb => ?_)
       refine wp_seq ?_
       refine wp_cond_split (hst.bool 6 rfl) (fun hc8 => ?_) (fun hc8 => ?_)
       · replace H1 := Z0 hc8 H1
         refine wp_skip ?_
         refine Zu ?_
         refine wp_seq ?_
         refine wp_block ?_
         obtain ⟨e9, h10, H1⟩ := Zh H1
         refine r_s (L := [(4, _), (6, _), (8, _), (26, _), (27, _), (28, _)]) (T := [⟨[.old 3, .old 5], _, [], [], [30]⟩, ⟨[.op 0 0], _, [], [0], [31]⟩, ⟨[], [(10, (pBox Zbx 10 (default : Z5)))], [11], [], [10]⟩, ⟨[.op 1 0, .op 2 0], _, [11], [0, 1, 2], [10]⟩]) (F := [.old 0, .old 1, .old 2, .op 3 0, .old 3, .old 4, .old 5]) (hst.pick [0, 1, 2, 3, 4, 5] rfl) hb Zb
           (o_p rfl (Zbv Tryd.underlying22 Zsm rfl rfl u_0 u_1 h10) <| o_p rfl (Zf Z28 rfl rfl u_0) <| o_p rfl (Zbb (zs := [.string ByteArray.empty, .int .i64 0, .int .i64 0, .int .i64 0, .int .i64 0, .float .f64 0, .int .i64 0, .string ByteArray.empty, .slice none 0 0]) (by kernel_rfl) (fun g => Zo7 g) rfl rfl) <| o_p rfl (Zby Z28 rfl rfl u_1 u_0) <| o_n) (by kernel_rfl) (fun a g hst hb => ?_)
         refine wp_seq ?_
         obtain ⟨r11, h12, H1⟩ := Zh H1
         refine r_s (T := [⟨[.old 3], _, [], [], [32]⟩, ⟨[.op 0 0], _, [], [0], [33]⟩, ⟨[.op 1 0], _, [], [0, 1], [34]⟩, ⟨[.op 2 0], _, [], [0, 1, 2], [35]⟩, ⟨[.op 3 0], _, [], Lr 4, [36]⟩, ⟨[.op 4 0, .old 3], _, [], Lr 5, [37]⟩, ⟨[.op 4 0, .op 5 0], _, [], Lr 6, [38]⟩, ⟨[.op 4 0, .op 6 0], _, [], Lr 7, [39]⟩, ⟨[.op 4 0, .op 7 0], _, [], Lr 8, [40]⟩, ⟨[.op 4 0, .op 8 0], _, [], Lr 9, [41]⟩]) (F := [.old 0, .old 1, .old 2, .old 3, .old 4, .old 5, .old 6, .op 9 0]) hst hb Zb
           (o_p rfl (Ze Zoc rfl rfl u_0) <| o_p rfl (Zf ty_9 rfl rfl u_0) <| o_p rfl (Zft Tryd.underlying9 rfl rfl u_0) <| o_p rfl (Zcr rfl rfl u_0 c_i) <| o_p rfl (Za rfl rfl u_0) <| o_g (g_f rfl rfl rfl (fun hG => Ze Ztw rfl rfl u_0)) <| o_g (g_f rfl rfl rfl (fun hG => Zf Zbi rfl rfl (Opd.gd hG u_0))) <| o_g (g_f rfl rfl rfl (fun hG => Zp Z3t (Zma _ (Zbq h12 hG)) rfl rfl (.cons (Opd.gd hG u_0) .nil))) <| o_g (g_f rfl rfl rfl (fun hG => Zcr rfl rfl (Opd.gd hG u_0) c_i)) <| o_p rfl (Zbz rfl rfl u_0 (fun hz => (Opd.gd (bNF hz) u_1))) <| o_n) (by kernel_rfl) (fun a g hst hb => ?_)
         refine wp_cond_split (hst.bool 7 rfl) (fun hc13 => ?_) (fun hc13 => ?_)
         · replace H1 := Z0 hc13 H1
           refine r_s (L := [(4, _), (6, _)]) (T := [⟨[.old 1], _, [], [], [42]⟩, ⟨[.op 0 0, .old 0], _, [5], [0], [4]⟩, ⟨[], [(5, (Zbr.opt.pd (none : Option Zl)))], [], [0, 1], [5]⟩]) (F := [.op 1 0, .op 2 0]) (hst.pick [0, 1] rfl) hb Zb
             (o_p rfl (Zb8 Zbf rfl rfl u_0) <| o_p rfl (Z6 Zbf rfl rfl u_1 u_0) <| o_p rfl (Zc rfl rfl (Opd.c (fun g => Zps g))) <| o_n) (by kernel_rfl) (fun a g hst hb => ?_)
           refine wp_ret ?_
           refine Zn ?_
           refine Zw ?_
           refine Zn ?_
           refine Zn ?_
           refine Zw ?_
           refine Zn ?_
           refine Zn ?_
           obtain rfl := Option.some.inj H1
           obtain rfl := Option.some.inj H0
           obtain ⟨u0, hu0, hq0⟩ := Zbh (P := Tryd.prog) Zbf (hst.at 0 rfl)
           exact Zex rfl hst hb hu0 (Zm (s := 5)) (Zde hq0 (hst.at 1 rfl))
         · replace H1 := Zz hc13 H1
           refine wp_skip ?_
           refine Zu ?_
           obtain ⟨r14, h15, H1⟩ := Zh H1
           refine r_s (L := [(4, _), (6, _), (8, _), (10, _), (26, _), (27, _), (28, _)]) (T := [⟨[.old 1], _, [], [], [44]⟩, ⟨[.old 3], _, [], [], [45]⟩, ⟨[.op 1 0], _, [], [1], [46]⟩, ⟨[.old 3], _, [], [], [47]⟩, ⟨[.op 3 0], _, [], [3], [48]⟩, ⟨[.op 0 0, .op 2 0, .op 4 0], _, [], Lr 5, [49]⟩, ⟨[.op 5 0], _, [], Lr 6, [43]⟩, ⟨[.op 6 0], _, [], Lr 7, [50]⟩, ⟨[.op 6 0], _, [], Lr 7, [51]⟩, ⟨[.op 7 0, .old 1], _, [7], Lr 8, [6]⟩]) (F := [.old 0, .op 9 0, .old 2, .old 3, .old 4, .old 5, .old 6]) (hst.pick [0, 1, 2, 3, 4, 5, 6] rfl) hb Zb
             (o_p rfl (Zb8 Zbf rfl rfl u_0) <| o_p rfl (Ze Zoc rfl rfl u_0) <| o_p rfl (Zf ty_9 rfl rfl u_0) <| o_p rfl (Ze Ztw rfl rfl u_0) <| o_p rfl (Zf Zbi rfl rfl u_0) <| o_p rfl (Zp Z3q (Zl3 _ _ _ h15) rfl rfl (.cons u_0 (.cons u_1 (.cons u_2 .nil)))) <| o_p rfl (Za rfl rfl u_0) <| o_p rfl (Z4 rfl rfl u_0 rfl) <| o_p rfl (Z4 rfl rfl u_0 rfl) <| o_p rfl (Z6 Zbf rfl rfl u_1 u_0) <| o_n) (by kernel_rfl) (fun a g hst hb => ?_)
           obtain ⟨r16, h17, H1⟩ := Zh H1
           refine r_g (T := [⟨[.old 2], _, [], [], [53]⟩, ⟨[.old 3], _, [], [], [54]⟩, ⟨[.op 1 0], _, [], [1], [55]⟩, ⟨[.old 3], _, [], [], [56]⟩, ⟨[.op 3 0], _, [], [3], [57]⟩, ⟨[.op 0 0, .op 2 0, .op 4 0], _, [], Lr 5, [58]⟩, ⟨[.op 5 0], _, [], Lr 6, [52]⟩, ⟨[.op 6 0], _, [], Lr 7, [59]⟩, ⟨[.op 6 0], _, [], Lr 7, [60]⟩, ⟨[.op 7 0, .old 2], _, [9], Lr 8, [8]⟩]) (F := [.old 0, .old 1, .op 9 0, .old 4, .old 5, .old 6]) hst hb Zb
             (o_p rfl (Zb8 Zis rfl rfl u_0) <| o_p rfl (Ze Zoc rfl rfl u_0) <| o_p rfl (Zf ty_9 rfl rfl u_0) <| o_p rfl (Ze Ztw rfl rfl u_0) <| o_p rfl (Zf Zbi rfl rfl u_0) <| o_p rfl (Zp Z8j (Zmx _ _ _ h17) rfl rfl (.cons u_0 (.cons u_1 (.cons u_2 .nil)))) <| o_p rfl (Za rfl rfl u_0) <| o_p rfl (Z4 rfl rfl u_0 rfl) <| o_p rfl (Z4 rfl rfl u_0 rfl) <| o_p rfl (Z6 Zis rfl rfl u_1 u_0) <| o_n) (by kernel_rfl) (fun a g hst hb => ?_)
           refine Zbt ?_
           refine Zu ?_
           refine r_g (T := [⟨[.old 5], _, [], [], [61]⟩, ⟨[.op 0 0], _, [], [0], [28]⟩]) (F := [.old 0, .old 1, .old 2, .old 3, .old 4, .op 1 0]) hst hb Zb
             (o_p rfl (Zce rfl rfl u_0 c_i rfl) <| o_p rfl (Za rfl rfl u_0) <| o_n) (by kernel_rfl) (fun a g hst hb => ?_)
           exact ⟨n, Nat.lt_succ_self _, x4, r14.1, r16.1, (IntKind.i64.wrap (x7 + (1 : Int))), g, rfl, (hst.pick [0, 1, 2, 3, 4, 5] rfl), hb, H1⟩
       · replace H1 := Zz hc8 H1
         refine wp_exit ?_
         refine Zca ?_
         refine Zca ?_
         refine Zcz ?_
         exact ⟨x4, x5, x6, g, rfl, (hst.pick [0, 1, 2] rfl), hb, Option.some.inj H1⟩
theorem Zpv (a0 : Zx) {r : Int} (h : Zh2 a0 = some r) : FnOk Tryd.prog 41 [(Z7.pd a0)] (pInt .i64 r) := by
 have H0 := h
 unfold Zh2 at H0
 clear h
 refine Zbu (N := 19) Tryd.func41 rfl rfl (Nat.le_of_ble_eq_true rfl) rfl rfl (fun a g0 hst hb => ?_)
 refine r_s (T := [⟨[.old 0], _, [], [], [1]⟩, ⟨[], _, [], [], [2]⟩]) (F := [.op 0 0]) hst hb Zb
   (o_p rfl (Zbl rfl rfl u_0) <| o_p rfl (Zc rfl rfl c_i) <| o_n) (by kernel_rfl) (fun a g hst hb => ?_)
 refine wp_seq ?_
 obtain ⟨r1, h2, H0⟩ := Zh H0
 refine r_s (T := ⟨[.old 0], _, [], [], [3]⟩ :: ⟨[.op 0 0], _, [], [0], [4]⟩ :: ⟨[.op 1 0], _, [], [0, 1], [5]⟩ :: ⟨[.op 2 0], _, [], [0, 1, 2], [6]⟩ :: ⟨[.op 3 0], _, [], Lr 4, [7]⟩ :: ⟨[.op 4 0, .old 0], _, [], Lr 5, [8]⟩ :: ⟨[.op 4 0, .op 5 0], _, [], Lr 6, [9]⟩ :: ⟨[.op 4 0, .op 6 0], _, [], Lr 7, [10]⟩ :: ⟨[.op 4 0, .op 7 0], _, [], Lr 8, [11]⟩ :: ⟨[.op 4 0, .op 8 0], _, [], Lr 9, [12]⟩ :: ⟨[.op 9 0], _, [], Lr 10, [13]⟩ :: ⟨[.op 10 0, .old 0], _, [], Lr 11, [14]⟩ :: ⟨[.op 10 0, .op 11 0], _, [], Lr 12, [15]⟩ :: ⟨[.op 10 0, .op 12 0], _, [], Lr 13, [16]⟩ :: ⟨[.op 10 0, .op 13 0], _, [], Lr 14, [17]⟩ :: ⟨[.op 10 0, .op 14 0], _, [], Lr 15, [18]⟩ :: []) (F := [.op 15 0]) hst hb Zb
   (o_p rfl (Ze Zmn rfl rfl u_0) <| o_p rfl (Zf ty_9 rfl rfl u_0) <| o_p rfl (Zft Tryd.underlying9 rfl rfl u_0) <| o_p rfl (Zcr rfl rfl u_0 c_i) <| o_p rfl (Za rfl rfl u_0) <| o_g (g_f rfl rfl rfl (fun hG => Ze Zi6 rfl rfl u_0)) <| o_g (g_f rfl rfl rfl (fun hG => Zf ty_9 rfl rfl (Opd.gd hG u_0))) <| o_g (g_f rfl rfl rfl (fun hG => Zft Tryd.underlying9 rfl rfl (Opd.gd hG u_0))) <| o_g (g_f rfl rfl rfl (fun hG => Zcr rfl rfl (Opd.gd hG u_0) c_i)) <| o_p rfl (Zbz rfl rfl u_0 (fun hz => (Opd.gd (bNF hz) u_1))) <| o_p rfl (Za rfl rfl u_0) <| o_g (g_f rfl rfl rfl (fun hG => Ze Zqe rfl rfl u_0)) <| o_g (g_f rfl rfl rfl (fun hG => Zf Zbi rfl rfl (Opd.gd hG u_0))) <| o_g (g_f rfl rfl rfl (fun hG => Zp Z3t (Zma _ (Zbq h2 hG)) rfl rfl (.cons (Opd.gd hG u_0) .nil))) <| o_g (g_f rfl rfl rfl (fun hG => Zcr rfl rfl (Opd.gd hG u_0) c_i)) <| o_p rfl (Zbz rfl rfl u_0 (fun hz => (Opd.gd (bNF hz) u_1))) <| o_n) (by kernel_rfl) (fun a g hst hb => ?_)
 refine wp_cond_split (hst.bool 0 rfl) (fun hc3 => ?_) (fun hc3 => ?_)
 · replace H0 := Z0 hc3 H0
   refine r_s (L := []) (T := [⟨[], _, [], [], [2]⟩]) (F := [.op 0 0]) (hst.pick [] rfl) hb Zb
     (o_p rfl (Zc rfl rfl c_i) <| o_n) (by kernel_rfl) (fun a g hst hb => ?_)
   refine wp_ret ?_
   refine Zn ?_
   obtain rfl := Option.some.inj H0
   exact Z3 rfl hst hb (Zm (s := 2)) (hst.at 0 rfl)
 · replace H0 := Zz hc3 H0
   refine wp_skip ?_
   refine Zu ?_
   refine r_s (L := []) (T := [⟨[], _, [], [], [2]⟩]) (F := [.op 0 0]) (hst.pick [] rfl) hb Zb
     (o_p rfl (Zc rfl rfl c_i) <| o_n) (by kernel_rfl) (fun a g hst hb => ?_)
   refine wp_ret ?_
   obtain rfl := Option.some.inj H0
   exact Z3 rfl hst hb (Zm (s := 2)) (hst.at 0 rfl)
theorem Zpm (a0 : Zbn) {r : Int} (h : Zhz a0 = some r) : FnOk Tryd.prog 21 [(Zck.pd a0)] (pInt .i64 r) := by
 have H0 := h
 unfold Zhz at H0
 clear h
 refine Zbu (N := 20) Tryd.func21 rfl rfl (Nat.le_of_ble_eq_true rfl) rfl rfl (fun a g0 hst hb => ?_)
 refine r_s (T := [⟨[.old 0], _, [], [], [1]⟩, ⟨[], _, [], [], [2]⟩]) (F := [.op 0 0]) hst hb Zb
   (o_p rfl (Zbl rfl rfl u_0) <| o_p rfl (Zc rfl rfl c_i) <| o_n) (by kernel_rfl) (fun a g hst hb => ?_)
 refine wp_seq ?_
 refine r_s (T := [⟨[.old 0], _, [], [], [5]⟩, ⟨[.op 0 0], _, [], [0], [6]⟩, ⟨[.op 1 0], _, [], [0, 1], [7]⟩, ⟨[.op 2 0], _, [], [0, 1, 2], [8]⟩]) (F := [.old 0, .op 3 0]) hst hb Zb
   (o_p rfl (Ze Zks rfl rfl u_0) <| o_p rfl (Zf Znj rfl rfl u_0) <| o_p rfl (Zb3 Tryd.underlying32 rfl rfl u_0) <| o_p rfl (Zcr rfl rfl u_0 c_i) <| o_n) (by kernel_rfl) (fun a g hst hb => ?_)
 refine wp_cond_split (hst.bool 1 rfl) (fun hc1 => ?_) (fun hc1 => ?_)
 · replace H0 := Z0 hc1 H0
   refine r_s (L := []) (T := [⟨[], _, [], [], [2]⟩]) (F := [.op 0 0]) (hst.pick [] rfl) hb Zb
     (o_p rfl (Zc rfl rfl c_i) <| o_n) (by kernel_rfl) (fun a g hst hb => ?_)
   refine wp_ret ?_
   refine Zn ?_
   obtain rfl := Option.some.inj H0
   exact Z3 rfl hst hb (Zm (s := 2)) (hst.at 0 rfl)
 · replace H0 := Zz hc1 H0
   refine wp_skip ?_
   refine Zu ?_
   refine wp_seq ?_
   refine r_s (L := [(1, _)]) (T := [⟨[.old 0], _, [], [], [9]⟩, ⟨[.op 0 0], _, [], [0], [10]⟩, ⟨[.op 1 0], _, [], [0, 1], [11]⟩, ⟨[], _, [], [], [12]⟩]) (F := [.op 1 0, .op 2 0, .op 3 0]) (hst.pick [0] rfl) hb Zb
     (o_p rfl (Ze Zks rfl rfl u_0) <| o_p rfl (Zf Znj rfl rfl u_0) <| o_p rfl (Zb3 Tryd.underlying32 rfl rfl u_0) <| o_p rfl (Za rfl rfl c_i) <| o_n) (by kernel_rfl) (fun a g hst hb => ?_)
   obtain ⟨z9, hz1, H0⟩ := Zh H0
   refine Zc0 (fun a w => ∃ (g : G), w = g.w ∧ St 20 [] a g ∧ Base g0 g ∧ (.inr ()) = z9) ?_ ?_
   · rintro a w ⟨g, rfl, hst, hb, rfl⟩
     refine Zu ?_
     refine r_s (T := [⟨[], _, [], [], [2]⟩]) (F := [.op 0 0]) hst hb Zb
       (o_p rfl (Zc rfl rfl c_i) <| o_n) (by kernel_rfl) (fun a g hst hb => ?_)
     refine wp_ret ?_
     obtain rfl := Option.some.inj H0
     exact Z3 rfl hst hb (Zm (s := 2)) (hst.at 0 rfl)
   · refine wp_block ?_
     refine wp_loop_ghost (fun n a w => ∃ (x2 : Int) (g : G), w = g.w ∧ St 20 [(10, (Z7.sl.pd a0.Acts)), (11, (pInt .i64 (a0.Acts.length : Int))), (12, (pInt .i64 x2))] a g ∧ Base g0 g ∧ Zdp a0 n x2 = some z9) (Int.toNat ((a0.Acts.length : Int) - (0 : Int)) + 1) ⟨(0 : Int), g, rfl, (hst.pick [0, 1, 2] rfl), hb, hz1⟩ (fun n a w hI => ?_)
     obtain ⟨x2, g, rfl, hst, hb, H1⟩ := hI
     cases n with
     | zero => exact absurd H1 (by simp [Zdp])
     | succ n =>
       rw [Zdp] at H1
       refine r_s (T := [⟨[.old 2, .old 1], _, [], [], [13]⟩]) (F := [.old 0, .old 1, .old 2, .op 0 0]) hst hb Zb
         (o_p rfl (Zc2 rfl rfl u_0 u_1) <| o_n) (by kernel_rfl) (fun a g hst hb => ?_)
       refine wp_seq ?_
       refine wp_cond_split (hst.bool 3 rfl) (fun hc3 => ?_) (fun hc3 => ?_)
       · replace H1 := Z0 hc3 H1
         refine wp_skip ?_
         refine Zu ?_
         refine wp_seq ?_
         refine wp_block ?_
         obtain ⟨e4, h5, H1⟩ := Zh H1
         refine r_s (L := [(10, _), (11, _), (12, _)]) (T := [⟨[.old 0, .old 2], _, [], [], [14]⟩, ⟨[.op 0 0], _, [], [0], [15]⟩, ⟨[], [(4, (pBox Z7 4 (default : Zx)))], [5], [], [4]⟩, ⟨[.op 1 0, .op 2 0], _, [5], [0, 1, 2], [4]⟩]) (F := [.op 3 0, .old 0, .old 1, .old 2]) (hst.pick [0, 1, 2] rfl) hb Zb
           (o_p rfl (Zbv Tryd.underlying32 Zvd rfl rfl u_0 u_1 h5) <| o_p rfl (Zf Ze9 rfl rfl u_0) <| o_p rfl (Zbb (zs := [.int .i64 0, .string ByteArray.empty, .int .i64 0, .float .f64 0, .string ByteArray.empty, .int .i64 0, .int .i64 0, .int .i64 0, .int .i64 0, .float .f64 0, .int .i64 0, .string ByteArray.empty, .slice none 0 0, .bool false]) (by kernel_rfl) (fun g => Zjv g) rfl rfl) <| o_p rfl (Zby Ze9 rfl rfl u_1 u_0) <| o_n) (by kernel_rfl) (fun a g hst hb => ?_)
         obtain ⟨r6, h7, H1⟩ := Zh H1
         refine r_s (T := [⟨[.old 0], _, [], [], [16]⟩, ⟨[.op 0 0], _, [], [0], [17]⟩, ⟨[.op 1 0], _, [], [0, 1], [18]⟩]) (F := [.old 1, .old 2, .old 3, .op 2 0]) hst hb Zb
           (o_p rfl (Zf Ze9 rfl rfl u_0) <| o_p rfl (Zp Z68 (Zpv _ h7) rfl rfl (.cons u_0 .nil)) <| o_p rfl (Zcr rfl rfl u_0 c_i) <| o_n) (by kernel_rfl) (fun a g hst hb => ?_)
         refine wp_cond_split (hst.bool 3 rfl) (fun hc8 => ?_) (fun hc8 => ?_)
         · replace H1 := Z0 hc8 H1
           refine r_s (L := []) (T := [⟨[], _, [], [], [2]⟩]) (F := [.op 0 0]) (hst.pick [] rfl) hb Zb
             (o_p rfl (Zc rfl rfl c_i) <| o_n) (by kernel_rfl) (fun a g hst hb => ?_)
           refine wp_ret ?_
           refine Zw ?_
           refine Zn ?_
           refine Zn ?_
           refine Zw ?_
           refine Zn ?_
           refine Zn ?_
           obtain rfl := Option.some.inj H1
           obtain rfl := Option.some.inj H0
           exact Z3 rfl hst hb (Zm (s := 2)) (hst.at 0 rfl)
         · replace H1 := Zz hc8 H1
           refine wp_skip ?_
           refine Zbt ?_
           refine Zu ?_
           refine r_g (L := [(10, _), (11, _), (12, _)]) (T := [⟨[.old 2], _, [], [], [19]⟩, ⟨[.op 0 0], _, [], [0], [12]⟩]) (F := [.old 0, .old 1, .op 1 0]) (hst.pick [0, 1, 2] rfl) hb Zb
             (o_p rfl (Zce rfl rfl u_0 c_i rfl) <| o_p rfl (Za rfl rfl u_0) <| o_n) (by kernel_rfl) (fun a g hst hb => ?_)
           exact ⟨n, Nat.lt_succ_self _, (IntKind.i64.wrap (x2 + (1 : Int))), g, rfl, (hst.pick [0, 1, 2] rfl), hb, H1⟩
       · replace H1 := Zz hc3 H1
         refine wp_exit ?_
         refine Zca ?_
         refine Zca ?_
         refine Zcz ?_
         exact ⟨g, rfl, (hst.pick [] rfl), hb, Option.some.inj H1⟩
theorem Zpx (a0 : List Zbn) {r : Int} (h : Zh4 a0 = some r) : FnOk Tryd.prog 7 [(Zck.sl.pd a0)] (pInt .i64 r) := by
 have H0 := h
 unfold Zh4 at H0
 clear h
 refine Zbu (N := 18) Tryd.func7 rfl rfl (Nat.le_of_ble_eq_true rfl) rfl rfl (fun a g0 hst hb => ?_)
 refine r_s (T := [⟨[], _, [], [], [2]⟩]) (F := [.old 0]) hst hb Zb
   (o_p rfl (Zc rfl rfl c_i) <| o_n) (by kernel_rfl) (fun a g hst hb => ?_)
 refine wp_seq ?_
 refine r_s (T := [⟨[.old 0], _, [], [], [5]⟩, ⟨[.op 0 0], _, [], [0], [6]⟩, ⟨[.op 1 0], _, [], [0, 1], [7]⟩]) (F := [.old 0, .op 2 0]) hst hb Zb
   (o_p rfl (Za rfl rfl u_0) <| o_p rfl (Zb3 Tryd.underlying23 rfl rfl u_0) <| o_p rfl (Zcr rfl rfl u_0 c_i) <| o_n) (by kernel_rfl) (fun a g hst hb => ?_)
 refine wp_cond_split (hst.bool 1 rfl) (fun hc1 => ?_) (fun hc1 => ?_)
 · replace H0 := Z0 hc1 H0
   refine r_s (L := []) (T := [⟨[], _, [], [], [2]⟩]) (F := [.op 0 0]) (hst.pick [] rfl) hb Zb
     (o_p rfl (Zc rfl rfl c_i) <| o_n) (by kernel_rfl) (fun a g hst hb => ?_)
   refine wp_ret ?_
   refine Zn ?_
   obtain rfl := Option.some.inj H0
   exact Z3 rfl hst hb (Zm (s := 2)) (hst.at 0 rfl)
 · replace H0 := Zz hc1 H0
   refine wp_skip ?_
   refine Zu ?_
   refine wp_seq ?_
   refine r_s (L := [(0, _)]) (T := [⟨[.old 0], _, [], [], [8]⟩, ⟨[.op 0 0], _, [], [0], [9]⟩, ⟨[], _, [], [], [10]⟩]) (F := [.op 0 0, .op 1 0, .op 2 0]) (hst.pick [0] rfl) hb Zb
     (o_p rfl (Za rfl rfl u_0) <| o_p rfl (Zb3 Tryd.underlying23 rfl rfl u_0) <| o_p rfl (Za rfl rfl c_i) <| o_n) (by kernel_rfl) (fun a g hst hb => ?_)
   obtain ⟨z9, hz1, H0⟩ := Zh H0
   refine Zc0 (fun a w => ∃ (g : G), w = g.w ∧ St 18 [] a g ∧ Base g0 g ∧ (.inr ()) = z9) ?_ ?_
   · rintro a w ⟨g, rfl, hst, hb, rfl⟩
     refine Zu ?_
     refine r_s (T := [⟨[], _, [], [], [2]⟩]) (F := [.op 0 0]) hst hb Zb
       (o_p rfl (Zc rfl rfl c_i) <| o_n) (by kernel_rfl) (fun a g hst hb => ?_)
     refine wp_ret ?_
     obtain rfl := Option.some.inj H0
     exact Z3 rfl hst hb (Zm (s := 2)) (hst.at 0 rfl)
   · refine wp_block ?_
     refine wp_loop_ghost (fun n a w => ∃ (x2 : Int) (g : G), w = g.w ∧ St 18 [(8, (Zck.sl.pd a0)), (9, (pInt .i64 (a0.length : Int))), (10, (pInt .i64 x2))] a g ∧ Base g0 g ∧ Zdq a0 n x2 = some z9) (Int.toNat ((a0.length : Int) - (0 : Int)) + 1) ⟨(0 : Int), g, rfl, (hst.pick [0, 1, 2] rfl), hb, hz1⟩ (fun n a w hI => ?_)
     obtain ⟨x2, g, rfl, hst, hb, H1⟩ := hI
     cases n with
     | zero => exact absurd H1 (by simp [Zdq])
     | succ n =>
       rw [Zdq] at H1
       refine r_s (T := [⟨[.old 2, .old 1], _, [], [], [11]⟩]) (F := [.old 0, .old 1, .old 2, .op 0 0]) hst hb Zb
         (o_p rfl (Zc2 rfl rfl u_0 u_1) <| o_n) (by kernel_rfl) (fun a g hst hb => ?_)
       refine wp_seq ?_
       refine wp_cond_split (hst.bool 3 rfl) (fun hc3 => ?_) (fun hc3 => ?_)
       · replace H1 := Z0 hc3 H1
         refine wp_skip ?_
         refine Zu ?_
         refine wp_seq ?_
         refine wp_block ?_
         obtain ⟨e4, h5, H1⟩ := Zh H1
         refine r_s (L := [(8, _), (9, _), (10, _)]) (T := [⟨[.old 0, .old 2], _, [], [], [12]⟩, ⟨[.op 0 0], _, [], [0], [13]⟩, ⟨[], [(4, (pBox Zck 4 (default : Zbn)))], [5], [], [4]⟩, ⟨[.op 1 0, .op 2 0], _, [5], [0, 1, 2], [4]⟩]) (F := [.op 3 0, .old 0, .old 1, .old 2]) (hst.pick [0, 1, 2] rfl) hb Zb
           (o_p rfl (Zbv Tryd.underlying23 Zzw rfl rfl u_0 u_1 h5) <| o_p rfl (Zf Zlt rfl rfl u_0) <| o_p rfl (Zbb (zs := [.slice none 0 0]) (by kernel_rfl) (fun g => Zns g) rfl rfl) <| o_p rfl (Zby Zlt rfl rfl u_1 u_0) <| o_n) (by kernel_rfl) (fun a g hst hb => ?_)
         obtain ⟨r6, h7, H1⟩ := Zh H1
         refine r_s (T := [⟨[.old 0], _, [], [], [14]⟩, ⟨[.op 0 0], _, [], [0], [15]⟩, ⟨[.op 1 0], _, [], [0, 1], [16]⟩]) (F := [.old 1, .old 2, .old 3, .op 2 0]) hst hb Zb
           (o_p rfl (Zf Zlt rfl rfl u_0) <| o_p rfl (Zp Z73 (Zpm _ h7) rfl rfl (.cons u_0 .nil)) <| o_p rfl (Zcr rfl rfl u_0 c_i) <| o_n) (by kernel_rfl) (fun a g hst hb => ?_)
         refine wp_cond_split (hst.bool 3 rfl) (fun hc8 => ?_) (fun hc8 => ?_)
         · replace H1 := Z0 hc8 H1
           refine r_s (L := []) (T := [⟨[], _, [], [], [2]⟩]) (F := [.op 0 0]) (hst.pick [] rfl) hb Zb
             (o_p rfl (Zc rfl rfl c_i) <| o_n) (by kernel_rfl) (fun a g hst hb => ?_)
           refine wp_ret ?_
           refine Zw ?_
           refine Zn ?_
           refine Zn ?_
           refine Zw ?_
           refine Zn ?_
           refine Zn ?_
           obtain rfl := Option.some.inj H1
           obtain rfl := Option.some.inj H0
           exact Z3 rfl hst hb (Zm (s := 2)) (hst.at 0 rfl)
         · replace H1 := Zz hc8 H1
           refine wp_skip ?_
           refine Zbt ?_
           refine Zu ?_
           refine r_g (L := [(8, _), (9, _), (10, _)]) (T := [⟨[.old 2], _, [], [], [17]⟩, ⟨[.op 0 0], _, [], [0], [10]⟩]) (F := [.old 0, .old 1, .op 1 0]) (hst.pick [0, 1, 2] rfl) hb Zb
             (o_p rfl (Zce rfl rfl u_0 c_i rfl) <| o_p rfl (Za rfl rfl u_0) <| o_n) (by kernel_rfl) (fun a g hst hb => ?_)
           exact ⟨n, Nat.lt_succ_self _, (IntKind.i64.wrap (x2 + (1 : Int))), g, rfl, (hst.pick [0, 1, 2] rfl), hb, H1⟩
       · replace H1 := Zz hc3 H1
         refine wp_exit ?_
         refine Zca ?_
         refine Zca ?_
         refine Zcz ?_
         exact ⟨g, rfl, (hst.pick [] rfl), hb, Option.some.inj H1⟩
theorem Zmh (a0 : Zk) (a1 : Int) {r : ByteArray × Zd × Bool} (h : Zhd a0 a1 = some r) : FnOk Tryd.prog 11 [(Zt.pd a0), (pInt .i64 a1)] (pTup [(pStr r.1), (Zi.pd r.2.1), (Zbd r.2.2)]) := by
 have H0 := h
 unfold Zhd at H0
 clear h
 refine Zbu (N := 48) Tryd.func11 rfl rfl (Nat.le_of_ble_eq_true rfl) rfl rfl (fun a g0 hst hb => ?_)
 refine r_s (T := [⟨[.old 0], _, [], [], [2]⟩, ⟨[], _, [], [], [4]⟩, ⟨[], [(5, (pBox Zi 5 (default : Zd)))], [6], [], [5]⟩, ⟨[], _, [], [1], [6]⟩]) (F := [.old 1, .op 0 0, .op 2 0]) hst hb Zb
   (o_p rfl (Zbl rfl rfl u_0) <| o_p rfl (Zc rfl rfl c_s) <| o_p rfl (Zbb (zs := [.int .i64 0, .int .i64 0, .int .i64 0, .int .i64 0, .float .f64 0, .int .i64 0, .string ByteArray.empty, .slice none 0 0]) (by kernel_rfl) (fun g => Zch g) rfl rfl) <| o_p rfl (Zc rfl rfl c_b) <| o_n) (by kernel_rfl) (fun a g hst hb => ?_)
 refine wp_seq ?_
 refine r_s (T := [⟨[.old 1], _, [], [], [9]⟩, ⟨[.op 0 0], _, [], [0], [10]⟩, ⟨[.op 1 0], _, [], [0, 1], [7]⟩]) (F := [.old 0, .old 2, .op 2 0]) hst hb Zb
   (o_p rfl (Ze Zn9 rfl rfl u_0) <| o_p rfl (Zf Zcv rfl rfl u_0) <| o_p rfl (Zc rfl rfl u_0) <| o_n) (by kernel_rfl) (fun a g hst hb => ?_)
 obtain ⟨z16, hz1, H0⟩ := Zh H0
 refine Zc0 (fun a w => ∃ (y15 : Zd) (g : G), w = g.w ∧ St 48 [(5, (pBox Zi 5 y15))] a g ∧ Base g0 g ∧ (.inr y15) = z16) ?_ ?_
 · rintro a w ⟨y15, g, rfl, hst, hb, rfl⟩
   refine Zu ?_
   refine r_s (T := [⟨[], _, [], [], [47]⟩, ⟨[], _, [], [], [4]⟩, ⟨[.op 0 0, .old 0], _, [6], [0, 1], [5]⟩, ⟨[], _, [], [0, 1, 2], [6]⟩]) (F := [.op 1 0, .op 2 0, .op 3 0]) hst hb Zb
     (o_p rfl (Zpj rfl rfl ) <| o_p rfl (Zc rfl rfl c_s) <| o_p rfl (Z6 Zbi rfl rfl u_1 u_0) <| o_p rfl (Zc rfl rfl c_b) <| o_n) (by kernel_rfl) (fun a g hst hb => ?_)
   refine wp_ret ?_
   obtain rfl := Option.some.inj H0
   obtain ⟨u1, hu1, hq1⟩ := Zbh (P := Tryd.prog) Zbi (hst.at 1 rfl)
   exact Zju rfl hst hb (Zm (s := 4)) hu1 (Zm (s := 6)) (Zhs (hst.at 0 rfl) hq1 (hst.at 2 rfl))
 · refine wp_block ?_
   refine wp_loop_ghost (fun n a w => ∃ (x1 : Int) (x2 : Zd) (x3 : shelf_nodeT) (g : G), w = g.w ∧ St 48 [(1, (pInt .i64 x1)), (5, (pBox Zi 5 x2)), (7, (Z2.pd x3))] a g ∧ Base g0 g ∧ Zdh n x1 x2 x3 = some z16) (a0.top.hh + 1) ⟨a1, (default : Zd), a0.top, g, rfl, (hst.pick [0, 1, 2] rfl), hb, hz1⟩ (fun n a w hI => ?_)
   obtain ⟨x1, x2, x3, g, rfl, hst, hb, H1⟩ := hI
   cases n with
   | zero => exact absurd H1 (by simp [Zdh])
   | succ n =>
     rw [Zdh] at H1
     refine wp_seq ?_
     refine r_s (T := [⟨[.old 2], _, [], [], [11]⟩, ⟨[.op 0 0], _, [], [0], [12]⟩]) (F := [.old 0, .old 1, .old 2, .op 1 0]) hst hb Zb
       (o_p rfl (Za rfl rfl u_0) <| o_p rfl (Zvv Tryd.underlying25 rfl rfl u_0 (Zeb _)) <| o_n) (by kernel_rfl) (fun a g hst hb => ?_)
     refine wp_cond_split (hst.bool 3 rfl) (fun hc4 => ?_) (fun hc4 => ?_)
     · replace H1 := Z0 hc4 H1
       refine wp_skip ?_
       refine Zu ?_
       refine Zc0 (fun a w => ∃ (j13 : Int) (j14 : shelf_nodeT) (g : G), w = g.w ∧ St 48 [(1, (pInt .i64 j13)), (5, (pBox Zi 5 x2)), (7, (Z2.pd j14))] a g ∧ Base g0 g ∧ Zg1 x2 (Zdh n) j13 j14 = some z16) ?_ ?_
       · rintro a w ⟨j13, j14, g, rfl, hst, hb, H1⟩
         unfold Zg1 at H1
         exact ⟨n, Nat.lt_succ_self _, j13, x2, j14, g, rfl, (hst.pick [0, 1, 2] rfl), hb, H1⟩
       · refine wp_block ?_
         obtain ⟨n5, h6, H1⟩ := Zh H1; obtain ⟨r7, h8, H1⟩ := Zh H1
         refine r_s (L := [(1, _), (5, _), (7, _)]) (T := [⟨[.old 2], _, [], [], [13]⟩, ⟨[.op 0 0], _, [], [0], [14]⟩, ⟨[.op 1 0], _, [], [0, 1], [15]⟩, ⟨[.op 2 0], _, [], [0, 1, 2], [16]⟩, ⟨[.op 3 0], _, [], Lr 4, [17]⟩, ⟨[.op 4 0], _, [], Lr 5, [8]⟩]) (F := [.old 0, .old 1, .old 2, .op 5 0]) (hst.pick [0, 1, 2] rfl) hb Zb
           (o_p rfl (Za rfl rfl u_0) <| o_p rfl (Zo rfl rfl (Opd.imp u_0 (fun _ _ h => Zr h6 h)) (fun _ _ ⟨_, _, _, e, _⟩ => ⟨_, e⟩)) <| o_p rfl (Ze Zd9 rfl rfl u_0) <| o_p rfl (Zf Zcv rfl rfl u_0) <| o_p rfl (Zp Zlu (Zc7 _ h8) rfl rfl (.cons u_0 .nil)) <| o_p rfl (Zc rfl rfl u_0) <| o_n) (by kernel_rfl) (fun a g hst hb => ?_)
         refine wp_block ?_
         refine r_s (T := [⟨[.old 0], _, [], [], [28]⟩, ⟨[.old 3], _, [], [], [29]⟩, ⟨[.op 0 0, .op 1 0], _, [], [0, 1], [30]⟩, ⟨[.op 2 0], _, [], [0, 1, 2], [27]⟩]) (F := [.old 0, .old 1, .old 2, .old 3, .op 3 0]) hst hb Zb
           (o_p rfl (Za rfl rfl u_0) <| o_p rfl (Za rfl rfl u_0) <| o_p rfl (Zc2 rfl rfl u_0 u_1) <| o_p rfl (Zc rfl rfl u_0) <| o_n) (by kernel_rfl) (fun a g hst hb => ?_)
         refine wp_cond_split (hst.bool 4 rfl) (fun hc9 => ?_) (fun hc9 => ?_)
         · replace H1 := Z0 hc9 H1
           refine r_g (L := [(1, _), (5, _), (7, _)]) (T := [⟨[.old 2], _, [], [], [31]⟩, ⟨[.op 0 0], _, [], [0], [32]⟩, ⟨[.op 1 0], _, [], [0, 1], [33]⟩, ⟨[.op 2 0], _, [], [0, 1, 2], [34]⟩, ⟨[.op 3 0], _, [], Lr 4, [7]⟩]) (F := [.old 0, .old 1, .op 4 0]) (hst.pick [0, 1, 2] rfl) hb Zb
             (o_p rfl (Za rfl rfl u_0) <| o_p rfl (Zo rfl rfl (Opd.imp u_0 (fun _ _ h => Zr h6 h)) (fun _ _ ⟨_, _, _, e, _⟩ => ⟨_, e⟩)) <| o_p rfl (Ze Zd9 rfl rfl u_0) <| o_p rfl (Zf Zcv rfl rfl u_0) <| o_p rfl (Zc rfl rfl u_0) <| o_n) (by kernel_rfl) (fun a g hst hb => ?_)
           refine Zbt ?_
           refine Zbt ?_
           exact ⟨x1, n5.left, g, rfl, (hst.pick [0, 1, 2] rfl), hb, H1⟩
         · replace H1 := Zz hc9 H1
           refine r_s (L := [(1, _), (5, _), (7, _), (8, _)]) (T := [⟨[.old 0], _, [], [], [36]⟩, ⟨[.old 3], _, [], [], [37]⟩, ⟨[.op 0 0, .op 1 0], _, [], [0, 1], [38]⟩, ⟨[.op 2 0], _, [], [0, 1, 2], [35]⟩]) (F := [.old 0, .old 1, .old 2, .old 3, .op 3 0]) (hst.pick [0, 1, 2, 3] rfl) hb Zb
             (o_p rfl (Za rfl rfl u_0) <| o_p rfl (Za rfl rfl u_0) <| o_p rfl (Zcr rfl rfl u_0 u_1) <| o_p rfl (Zc rfl rfl u_0) <| o_n) (by kernel_rfl) (fun a g hst hb => ?_)
           refine wp_cond_split (hst.bool 4 rfl) (fun hc10 => ?_) (fun hc10 => ?_)
           · replace H1 := Z0 hc10 H1
             refine r_s (L := [(1, _), (5, _), (7, _), (8, _)]) (T := [⟨[.old 0], _, [], [], [39]⟩, ⟨[.old 3], _, [], [], [40]⟩, ⟨[.op 1 0], _, [], [1], [41]⟩, ⟨[.op 0 0, .op 2 0], _, [], [0, 1, 2], [42]⟩, ⟨[.op 3 0], _, [], Lr 4, [1]⟩]) (F := [.op 4 0, .old 1, .old 2]) (hst.pick [0, 1, 2, 3] rfl) hb Zb
               (o_p rfl (Za rfl rfl u_0) <| o_p rfl (Za rfl rfl u_0) <| o_p rfl (Zce rfl rfl u_0 c_i rfl) <| o_p rfl (Zjj rfl rfl u_0 u_1 rfl) <| o_p rfl (Zc rfl rfl u_0) <| o_n) (by kernel_rfl) (fun a g hst hb => ?_)
             refine r_g (T := [⟨[.old 2], _, [], [], [43]⟩, ⟨[.op 0 0], _, [], [0], [44]⟩, ⟨[.op 1 0], _, [], [0, 1], [45]⟩, ⟨[.op 2 0], _, [], [0, 1, 2], [46]⟩, ⟨[.op 3 0], _, [], Lr 4, [7]⟩]) (F := [.old 0, .old 1, .op 4 0]) hst hb Zb
               (o_p rfl (Za rfl rfl u_0) <| o_p rfl (Zo rfl rfl (Opd.imp u_0 (fun _ _ h => Zr h6 h)) (fun _ _ ⟨_, _, _, e, _⟩ => ⟨_, e⟩)) <| o_p rfl (Ze Zeu rfl rfl u_0) <| o_p rfl (Zf Zcv rfl rfl u_0) <| o_p rfl (Zc rfl rfl u_0) <| o_n) (by kernel_rfl) (fun a g hst hb => ?_)
             refine Zbt ?_
             refine Zbt ?_
             exact ⟨(IntKind.i64.wrap (x1 - (IntKind.i64.wrap (r7 + (1 : Int))))), n5.right, g, rfl, (hst.pick [0, 1, 2] rfl), hb, H1⟩
           · replace H1 := Zz hc10 H1
             obtain ⟨r11, h12, H1⟩ := Zh H1
             refine r_s (L := [(5, _), (7, _)]) (T := ⟨[.old 1], _, [], [], [18]⟩ :: ⟨[.op 0 0], _, [], [0], [19]⟩ :: ⟨[.op 1 0], _, [], [0, 1], [20]⟩ :: ⟨[.op 2 0], _, [], [0, 1, 2], [21]⟩ :: ⟨[.old 1], _, [], [], [22]⟩ :: ⟨[.op 4 0], _, [], [4], [23]⟩ :: ⟨[.op 5 0], _, [], [4, 5], [24]⟩ :: ⟨[.op 6 0], _, [], [4, 5, 6], [25]⟩ :: ⟨[.op 7 0], _, [], List.range' 4 4, [26]⟩ :: ⟨[.op 3 0], _, [], Lr 9, [4]⟩ :: ⟨[.op 8 0, .old 0], _, [6], Lr 10, [5]⟩ :: ⟨[], _, [], Lr 11, [6]⟩ :: []) (F := [.op 9 0, .op 10 0, .op 11 0]) (hst.pick [1, 2] rfl) hb Zb
               (o_p rfl (Za rfl rfl u_0) <| o_p rfl (Zo rfl rfl (Opd.imp u_0 (fun _ _ h => Zr h6 h)) (fun _ _ ⟨_, _, _, e, _⟩ => ⟨_, e⟩)) <| o_p rfl (Ze Zes rfl rfl u_0) <| o_p rfl (Zf ty_9 rfl rfl u_0) <| o_p rfl (Za rfl rfl u_0) <| o_p rfl (Zo rfl rfl (Opd.imp u_0 (fun _ _ h => Zr h6 h)) (fun _ _ ⟨_, _, _, e, _⟩ => ⟨_, e⟩)) <| o_p rfl (Ze Zhf rfl rfl u_0) <| o_p rfl (Zf Zbi rfl rfl u_0) <| o_p rfl (Zp Znk (Zgf _ h12) rfl rfl (.cons u_0 .nil)) <| o_p rfl (Zc rfl rfl u_0) <| o_p rfl (Z6 Zbi rfl rfl u_1 u_0) <| o_p rfl (Zc rfl rfl c_b) <| o_n) (by kernel_rfl) (fun a g hst hb => ?_)
             refine wp_ret ?_
             refine Zw ?_
             refine Zw ?_
             refine Zn ?_
             refine Zn ?_
             refine Zw ?_
             refine Zn ?_
             refine Zn ?_
             obtain rfl := Option.some.inj H1
             obtain rfl := Option.some.inj H0
             obtain ⟨u1, hu1, hq1⟩ := Zbh (P := Tryd.prog) Zbi (hst.at 1 rfl)
             exact Zju rfl hst hb (Zm (s := 4)) hu1 (Zm (s := 6)) (Zhs (hst.at 0 rfl) hq1 (hst.at 2 rfl))
     · replace H1 := Zz hc4 H1
       refine wp_exit ?_
       refine Zca ?_
       refine Zca ?_
       refine Zcz ?_
       exact ⟨x2, g, rfl, (hst.pick [1] rfl), hb, Option.some.inj H1⟩
theorem Zmf (a0 : Zk) (a1 : Zk) {r : Bool} (h : Zhu a0 a1 = some r) : FnOk Tryd.prog 15 [(Zt.pd a0), (Zt.pd a1)] (Zbd r) := by
 have H0 := h
 unfold Zhu at H0
 clear h
 refine Zbu (N := 46) Tryd.func15 rfl rfl (Nat.le_of_ble_eq_true rfl) rfl rfl (fun a g0 hst hb => ?_)
 refine r_s (T := [⟨[.old 0], _, [], [], [2]⟩, ⟨[.old 1], _, [], [], [3]⟩, ⟨[], _, [], [], [4]⟩]) (F := [.op 0 0, .op 1 0]) hst hb Zb
   (o_p rfl (Zbl rfl rfl u_0) <| o_p rfl (Zbl rfl rfl u_0) <| o_p rfl (Zc rfl rfl c_b) <| o_n) (by kernel_rfl) (fun a g hst hb => ?_)
 refine wp_seq ?_
 obtain ⟨r1, h2, H0⟩ := Zh H0; obtain ⟨r3, h4, H0⟩ := Zh H0
 refine r_s (T := [⟨[.old 0], _, [], [], [12]⟩, ⟨[.op 0 0], _, [], [0], [13]⟩, ⟨[.old 1], _, [], [], [14]⟩, ⟨[.op 2 0], _, [], [0, 1, 2], [15]⟩, ⟨[.op 1 0, .op 3 0], _, [], Lr 4, [16]⟩]) (F := [.old 0, .old 1, .op 4 0]) hst hb Zb
   (o_p rfl (Zf Zbf rfl rfl u_0) <| o_p rfl (Zp en_9 (Zfd _ h2) rfl rfl (.cons u_0 .nil)) <| o_p rfl (Zf Zbf rfl rfl u_0) <| o_p rfl (Zp en_9 (Zfd _ h4) rfl rfl (.cons u_0 .nil)) <| o_p rfl (Zer rfl rfl u_0 u_1) <| o_n) (by kernel_rfl) (fun a g hst hb => ?_)
 refine wp_cond_split (hst.bool 2 rfl) (fun hc5 => ?_) (fun hc5 => ?_)
 · replace H0 := Z0 hc5 H0
   refine r_s (L := []) (T := [⟨[], _, [], [], [4]⟩]) (F := [.op 0 0]) (hst.pick [] rfl) hb Zb
     (o_p rfl (Zc rfl rfl c_b) <| o_n) (by kernel_rfl) (fun a g hst hb => ?_)
   refine wp_ret ?_
   refine Zn ?_
   obtain rfl := Option.some.inj H0
   exact Z3 rfl hst hb (Zm (s := 4)) (hst.at 0 rfl)
 · replace H0 := Zz hc5 H0
   refine wp_skip ?_
   refine Zu ?_
   refine wp_seq ?_
   obtain ⟨r6, h7, H0⟩ := Zh H0
   refine r_s (L := [(2, _), (3, _)]) (T := [⟨[.old 0], _, [], [], [17]⟩, ⟨[.op 0 0], _, [], [0], [18]⟩, ⟨[], _, [], [], [19]⟩]) (F := [.old 0, .old 1, .op 1 0, .op 2 0]) (hst.pick [0, 1] rfl) hb Zb
     (o_p rfl (Zf Zbf rfl rfl u_0) <| o_p rfl (Zp en_9 (Zfd _ h7) rfl rfl (.cons u_0 .nil)) <| o_p rfl (Za rfl rfl c_i) <| o_n) (by kernel_rfl) (fun a g hst hb => ?_)
   obtain ⟨z17, hz1, H0⟩ := Zh H0
   refine Zc0 (fun a w => ∃ (g : G), w = g.w ∧ St 46 [] a g ∧ Base g0 g ∧ (.inr ()) = z17) ?_ ?_
   · rintro a w ⟨g, rfl, hst, hb, rfl⟩
     refine Zu ?_
     refine r_s (T := [⟨[], _, [], [], [4]⟩]) (F := [.op 0 0]) hst hb Zb
       (o_p rfl (Zc rfl rfl c_b) <| o_n) (by kernel_rfl) (fun a g hst hb => ?_)
     refine wp_ret ?_
     obtain rfl := Option.some.inj H0
     exact Z3 rfl hst hb (Zm (s := 4)) (hst.at 0 rfl)
   · refine wp_block ?_
     refine wp_loop_ghost (fun n a w => ∃ (x8 : Int) (g : G), w = g.w ∧ St 46 [(2, (Zt.ptr a0)), (3, (Zt.ptr a1)), (18, (pInt .i64 r6)), (19, (pInt .i64 x8))] a g ∧ Base g0 g ∧ Zfx a0 a1 r6 n x8 = some z17) (Int.toNat (r6 - (0 : Int)) + 1) ⟨(0 : Int), g, rfl, (hst.pick [0, 1, 2, 3] rfl), hb, hz1⟩ (fun n a w hI => ?_)
     obtain ⟨x8, g, rfl, hst, hb, H1⟩ := hI
     cases n with
     | zero => exact absurd H1 (by simp [Zfx])
     | succ n =>
       rw [Zfx] at H1
       refine r_s (T := [⟨[.old 3, .old 2], _, [], [], [20]⟩]) (F := [.old 0, .old 1, .old 2, .old 3, .op 0 0]) hst hb Zb
         (o_p rfl (Zc2 rfl rfl u_0 u_1) <| o_n) (by kernel_rfl) (fun a g hst hb => ?_)
       refine wp_seq ?_
       refine wp_cond_split (hst.bool 4 rfl) (fun hc9 => ?_) (fun hc9 => ?_)
       · replace H1 := Z0 hc9 H1
         refine wp_skip ?_
         refine Zu ?_
         refine wp_seq ?_
         refine wp_block ?_
         refine r_s (L := [(2, _), (3, _), (18, _), (19, _)]) (T := [⟨[.old 3], _, [], [], [21]⟩, ⟨[.op 0 0], _, [], [0], [5]⟩]) (F := [.old 0, .old 1, .op 1 0, .old 2, .old 3]) (hst.pick [0, 1, 2, 3] rfl) hb Zb
           (o_p rfl (Za rfl rfl u_0) <| o_p rfl (Zc rfl rfl u_0) <| o_n) (by kernel_rfl) (fun a g hst hb => ?_)
         obtain ⟨r10, h11, H1⟩ := Zh H1
         refine r_s (T := [⟨[.old 0], _, [], [], [23]⟩, ⟨[.old 2], _, [], [], [24]⟩, ⟨[.op 0 0, .op 1 0], _, [], [0, 1], [25]⟩, ⟨[.op 2 0], _, [], [0, 1, 2], [22]⟩, ⟨[.op 3 0], _, [], Lr 4, [26]⟩, ⟨[.op 3 0], _, [], Lr 4, [27]⟩, ⟨[.op 3 0], _, [], Lr 4, [28]⟩, ⟨[], [(7, (pBox Zi 7 (default : Zd)))], [8], [], [7]⟩, ⟨[.op 4 0], _, [], [0, 1, 2, 3, 4, 7], [6]⟩, ⟨[.op 5 0, .op 7 0], _, [8], [0, 1, 2, 3, 4, 5, 7, 8], [7]⟩, ⟨[.op 6 0], _, [], Lr 10, [8]⟩]) (F := [.old 0, .old 1, .old 2, .op 8 0, .op 9 0, .old 3, .old 4]) hst hb Zb
           (o_p rfl (Zf Zbf rfl rfl u_0) <| o_p rfl (Za rfl rfl u_0) <| o_p rfl (Zp Z3m (Zmh _ _ h11) rfl rfl (.cons u_0 (.cons u_1 .nil))) <| o_p rfl (Za rfl rfl u_0) <| o_p rfl (Z4 rfl rfl u_0 rfl) <| o_p rfl (Z4 rfl rfl u_0 rfl) <| o_p rfl (Z4 rfl rfl u_0 rfl) <| o_p rfl (Zbb (zs := [.int .i64 0, .int .i64 0, .int .i64 0, .int .i64 0, .float .f64 0, .int .i64 0, .string ByteArray.empty, .slice none 0 0]) (by kernel_rfl) (fun g => Zch g) rfl rfl) <| o_p rfl (Zc rfl rfl u_0) <| o_p rfl (Zby Zbi rfl rfl u_1 u_0) <| o_p rfl (Zc rfl rfl u_0) <| o_n) (by kernel_rfl) (fun a g hst hb => ?_)
         obtain ⟨r12, h13, H1⟩ := Zh H1
         refine r_s (T := [⟨[.old 1], _, [], [], [30]⟩, ⟨[.old 2], _, [], [], [31]⟩, ⟨[.op 0 0, .op 1 0], _, [], [0, 1], [32]⟩, ⟨[.op 2 0], _, [], [0, 1, 2], [29]⟩, ⟨[.op 3 0], _, [], Lr 4, [33]⟩, ⟨[.op 3 0], _, [], Lr 4, [34]⟩, ⟨[.op 3 0], _, [], Lr 4, [35]⟩, ⟨[], [(10, (pBox Zi 10 (default : Zd)))], [11], [], [10]⟩, ⟨[.op 4 0], _, [], [0, 1, 2, 3, 4, 7], [9]⟩, ⟨[.op 5 0, .op 7 0], _, [11], [0, 1, 2, 3, 4, 5, 7, 8], [10]⟩, ⟨[.op 6 0], _, [], Lr 10, [11]⟩]) (F := [.old 0, .old 1, .old 3, .old 4, .op 8 0, .op 9 0, .old 5, .old 6]) hst hb Zb
           (o_p rfl (Zf Zbf rfl rfl u_0) <| o_p rfl (Za rfl rfl u_0) <| o_p rfl (Zp Z3m (Zmh _ _ h13) rfl rfl (.cons u_0 (.cons u_1 .nil))) <| o_p rfl (Za rfl rfl u_0) <| o_p rfl (Z4 rfl rfl u_0 rfl) <| o_p rfl (Z4 rfl rfl u_0 rfl) <| o_p rfl (Z4 rfl rfl u_0 rfl) <| o_p rfl (Zbb (zs := [.int .i64 0, .int .i64 0, .int .i64 0, .int .i64 0, .float .f64 0, .int .i64 0, .string ByteArray.empty, .slice none 0 0]) (by kernel_rfl) (fun g => Zch g) rfl rfl) <| o_p rfl (Zc rfl rfl u_0) <| o_p rfl (Zby Zbi rfl rfl u_1 u_0) <| o_p rfl (Zc rfl rfl u_0) <| o_n) (by kernel_rfl) (fun a g hst hb => ?_)
         obtain ⟨r14, h15, H1⟩ := Zh H1
         refine r_s (T := [⟨[.old 2], _, [], [], [36]⟩, ⟨[.old 4], _, [], [], [37]⟩, ⟨[.op 0 0, .op 1 0], _, [], [0, 1], [38]⟩, ⟨[.op 2 0], _, [], [0, 1, 2], [39]⟩, ⟨[.op 3 0, .old 3], _, [], Lr 4, [40]⟩, ⟨[.op 3 0, .old 5], _, [], Lr 4, [41]⟩, ⟨[.op 3 0, .op 4 0, .op 5 0], _, [], Lr 6, [42]⟩, ⟨[.op 3 0, .op 6 0], _, [], Lr 7, [43]⟩, ⟨[.op 3 0, .op 7 0], _, [], Lr 8, [44]⟩]) (F := [.old 0, .old 1, .old 6, .old 7, .op 8 0]) hst hb Zb
           (o_p rfl (Za rfl rfl u_0) <| o_p rfl (Za rfl rfl u_0) <| o_p rfl (Z0i rfl rfl u_0 u_1) <| o_p rfl (Za rfl rfl u_0) <| o_g (g_f rfl rfl rfl (fun hG => Zf Zbi rfl rfl u_0)) <| o_g (g_f rfl rfl rfl (fun hG => Zf Zbi rfl rfl u_0)) <| o_g (g_f rfl rfl rfl (fun hG => Zp Zzz (Znr _ _ (Zbq h15 hG)) rfl rfl (.cons (Opd.gd hG u_0) (.cons (Opd.gd hG u_1) .nil)))) <| o_g (g_f rfl rfl rfl (fun hG => Zcn rfl rfl (Opd.gd hG u_0))) <| o_p rfl (Zbz rfl rfl u_0 (fun hz => (Opd.gd (bNF hz) u_1))) <| o_n) (by kernel_rfl) (fun a g hst hb => ?_)
         refine wp_cond_split (hst.bool 4 rfl) (fun hc16 => ?_) (fun hc16 => ?_)
         · replace H1 := Z0 hc16 H1
           refine r_s (L := []) (T := [⟨[], _, [], [], [4]⟩]) (F := [.op 0 0]) (hst.pick [] rfl) hb Zb
             (o_p rfl (Zc rfl rfl c_b) <| o_n) (by kernel_rfl) (fun a g hst hb => ?_)
           refine wp_ret ?_
           refine Zw ?_
           refine Zn ?_
           refine Zn ?_
           refine Zw ?_
           refine Zn ?_
           refine Zn ?_
           obtain rfl := Option.some.inj H1
           obtain rfl := Option.some.inj H0
           exact Z3 rfl hst hb (Zm (s := 4)) (hst.at 0 rfl)
         · replace H1 := Zz hc16 H1
           refine wp_skip ?_
           refine Zbt ?_
           refine Zu ?_
           refine r_g (L := [(2, _), (3, _), (18, _), (19, _)]) (T := [⟨[.old 3], _, [], [], [45]⟩, ⟨[.op 0 0], _, [], [0], [19]⟩]) (F := [.old 0, .old 1, .old 2, .op 1 0]) (hst.pick [0, 1, 2, 3] rfl) hb Zb
             (o_p rfl (Zce rfl rfl u_0 c_i rfl) <| o_p rfl (Za rfl rfl u_0) <| o_n) (by kernel_rfl) (fun a g hst hb => ?_)
           exact ⟨n, Nat.lt_succ_self _, (IntKind.i64.wrap (x8 + (1 : Int))), g, rfl, (hst.pick [0, 1, 2, 3] rfl), hb, H1⟩
       · replace H1 := Zz hc9 H1
         refine wp_exit ?_
         refine Zca ?_
         refine Zca ?_
         refine Zcz ?_
         exact ⟨g, rfl, (hst.pick [] rfl), hb, Option.some.inj H1⟩
theorem Zm7 (a0 : Int) (a1 : List Z5) (a2 : List Zbn) {r : Bool} (h : Zgm a0 a1 a2 = some r) : FnOk Tryd.prog 4 [(pInt .i64 a0), (Zbx.sl.pd a1), (Zck.sl.pd a2)] (Zbd r) := by
 have H0 := h
 unfold Zgm at H0
 clear h
 refine Zbu (N := 134) Tryd.func4 rfl rfl (Nat.le_of_ble_eq_true rfl) rfl rfl (fun a g0 hst hb => ?_)
 refine r_s (T := [⟨[], _, [], [], [6]⟩]) (F := [.old 0, .old 1, .old 2]) hst hb Zb
   (o_p rfl (Zc rfl rfl c_b) <| o_n) (by kernel_rfl) (fun a g hst hb => ?_)
 refine wp_seq ?_
 obtain ⟨r1, h2, H0⟩ := Zh H0
 refine r_s (T := [⟨[], _, [], [], [18]⟩, ⟨[.op 0 0], _, [], [0], [19]⟩]) (F := [.old 0, .old 1, .old 2, .op 1 0]) hst hb Zb
   (o_p rfl (Zp en_5 (Znv h2) rfl rfl .nil) <| o_p rfl (Zcn rfl rfl u_0) <| o_n) (by kernel_rfl) (fun a g hst hb => ?_)
 refine wp_cond_split (hst.bool 3 rfl) (fun hc3 => ?_) (fun hc3 => ?_)
 · replace H0 := Z0 hc3 H0
   refine r_s (L := []) (T := [⟨[], _, [], [], [6]⟩]) (F := [.op 0 0]) (hst.pick [] rfl) hb Zb
     (o_p rfl (Zc rfl rfl c_b) <| o_n) (by kernel_rfl) (fun a g hst hb => ?_)
   refine wp_ret ?_
   refine Zn ?_
   obtain rfl := Option.some.inj H0
   exact Z3 rfl hst hb (Zm (s := 6)) (hst.at 0 rfl)
 · replace H0 := Zz hc3 H0
   refine wp_skip ?_
   refine Zu ?_
   obtain ⟨r4, h5, H0⟩ := Zh H0
   refine r_s (L := [(0, _), (1, _), (2, _)]) (T := [⟨[.old 0], _, [], [], [21]⟩, ⟨[.old 1], _, [], [], [22]⟩, ⟨[.op 0 0, .op 1 0], _, [], [0, 1], [23]⟩, ⟨[.op 2 0], _, [], [0, 1, 2], [20]⟩, ⟨[.op 3 0], _, [], Lr 4, [24]⟩, ⟨[.op 3 0], _, [], Lr 4, [25]⟩, ⟨[], [(7, (pBox Zt 7 (default : Zk)))], [8], [], [7]⟩, ⟨[.op 4 0, .op 6 0], _, [8], [0, 1, 2, 3, 4, 6], [7]⟩, ⟨[.op 5 0], _, [], Lr 8, [8]⟩]) (F := [.old 2, .op 7 0, .op 8 0]) (hst.pick [0, 1, 2] rfl) hb Zb
     (o_p rfl (Za rfl rfl u_0) <| o_p rfl (Za rfl rfl u_0) <| o_p rfl (Zp en_6 (Zoi _ _ h5) rfl rfl (.cons u_0 (.cons u_1 .nil))) <| o_p rfl (Za rfl rfl u_0) <| o_p rfl (Z4 rfl rfl u_0 rfl) <| o_p rfl (Z4 rfl rfl u_0 rfl) <| o_p rfl (Zbb (zs := [.pointer none, .int .i64 0]) (by kernel_rfl) (fun g => Zci g) rfl rfl) <| o_p rfl (Z6 Zbf rfl rfl u_1 u_0) <| o_p rfl (Zc rfl rfl u_0) <| o_n) (by kernel_rfl) (fun a g hst hb => ?_)
   refine wp_seq ?_
   obtain ⟨r6, h7, H0⟩ := Zh H0
   refine r_s (T := [⟨[.old 2], _, [], [], [26]⟩, ⟨[.op 0 0], _, [], [0], [27]⟩, ⟨[.op 1 0], _, [], [0, 1], [28]⟩, ⟨[.op 2 0, .old 0], _, [], [0, 1, 2], [29]⟩, ⟨[.op 2 0, .op 3 0], _, [], Lr 4, [30]⟩, ⟨[.op 2 0, .op 4 0], _, [], Lr 5, [31]⟩, ⟨[.op 2 0, .op 5 0], _, [], Lr 6, [32]⟩]) (F := [.old 0, .old 1, .op 6 0]) hst hb Zb
     (o_p rfl (Za rfl rfl u_0) <| o_p rfl (Zn8 Tryd.underlying28 rfl rfl u_0 Z0d) <| o_p rfl (Za rfl rfl u_0) <| o_g (g_f rfl rfl rfl (fun hG => Za rfl rfl u_0)) <| o_g (g_f rfl rfl rfl (fun hG => Zp en_7 (Zpx _ (Zbq h7 hG)) rfl rfl (.cons (Opd.gd hG u_0) .nil))) <| o_g (g_f rfl rfl rfl (fun hG => Zcr rfl rfl (Opd.gd hG u_0) c_i)) <| o_p rfl (Zbz rfl rfl u_0 (fun hz => (Opd.gd (bNF hz) u_1))) <| o_n) (by kernel_rfl) (fun a g hst hb => ?_)
   refine wp_cond_split (hst.bool 2 rfl) (fun hc8 => ?_) (fun hc8 => ?_)
   · replace H0 := Z0 hc8 H0
     refine r_s (L := []) (T := [⟨[], _, [], [], [6]⟩]) (F := [.op 0 0]) (hst.pick [] rfl) hb Zb
       (o_p rfl (Zc rfl rfl c_b) <| o_n) (by kernel_rfl) (fun a g hst hb => ?_)
     refine wp_ret ?_
     refine Zn ?_
     obtain rfl := Option.some.inj H0
     exact Z3 rfl hst hb (Zm (s := 6)) (hst.at 0 rfl)
   · replace H0 := Zz hc8 H0
     refine wp_skip ?_
     refine Zu ?_
     obtain ⟨r9, h10, H0⟩ := Zh H0
     refine r_s (L := [(2, _), (7, _)]) (T := [⟨[.old 1], _, [], [], [34]⟩, ⟨[.old 0], _, [], [], [35]⟩, ⟨[.op 0 0, .op 1 0], _, [], [0, 1], [36]⟩, ⟨[.op 2 0], _, [], [0, 1, 2], [33]⟩, ⟨[.op 3 0], _, [], Lr 4, [37]⟩, ⟨[.op 3 0], _, [], Lr 4, [38]⟩, ⟨[], [(9, (pBox Zt 9 (default : Zk)))], [10], [], [9]⟩, ⟨[.op 4 0, .op 6 0], _, [10], [0, 1, 2, 3, 4, 6], [9]⟩, ⟨[.op 5 0], _, [], Lr 8, [10]⟩]) (F := [.old 0, .old 1, .op 7 0, .op 8 0]) (hst.pick [0, 1] rfl) hb Zb
       (o_p rfl (Zb8 Zbf rfl rfl u_0) <| o_p rfl (Za rfl rfl u_0) <| o_p rfl (Zp Z3b (Zra _ _ h10) rfl rfl (.cons u_0 (.cons u_1 .nil))) <| o_p rfl (Za rfl rfl u_0) <| o_p rfl (Z4 rfl rfl u_0 rfl) <| o_p rfl (Z4 rfl rfl u_0 rfl) <| o_p rfl (Zbb (zs := [.pointer none, .int .i64 0]) (by kernel_rfl) (fun g => Zci g) rfl rfl) <| o_p rfl (Zby Zbf rfl rfl u_1 u_0) <| o_p rfl (Zc rfl rfl u_0) <| o_n) (by kernel_rfl) (fun a g hst hb => ?_)
     refine wp_seq ?_
     refine r_s (T := [⟨[.old 3], _, [], [], [39]⟩, ⟨[.op 0 0], _, [], [0], [40]⟩, ⟨[.old 0], _, [], [], [41]⟩, ⟨[.op 2 0], _, [], [2], [42]⟩, ⟨[.op 1 0, .op 3 0], _, [], Lr 4, [43]⟩]) (F := [.old 0, .old 1, .old 2, .old 3, .op 4 0]) hst hb Zb
       (o_p rfl (Za rfl rfl u_0) <| o_p rfl (Zb3 Tryd.underlying50 rfl rfl u_0) <| o_p rfl (Za rfl rfl u_0) <| o_p rfl (Zb3 Tryd.underlying23 rfl rfl u_0) <| o_p rfl (Zer rfl rfl u_0 u_1) <| o_n) (by kernel_rfl) (fun a g hst hb => ?_)
     refine wp_cond_split (hst.bool 4 rfl) (fun hc11 => ?_) (fun hc11 => ?_)
     · replace H0 := Z0 hc11 H0
       refine r_s (L := []) (T := [⟨[], _, [], [], [6]⟩]) (F := [.op 0 0]) (hst.pick [] rfl) hb Zb
         (o_p rfl (Zc rfl rfl c_b) <| o_n) (by kernel_rfl) (fun a g hst hb => ?_)
       refine wp_ret ?_
       refine Zn ?_
       obtain rfl := Option.some.inj H0
       exact Z3 rfl hst hb (Zm (s := 6)) (hst.at 0 rfl)
     · replace H0 := Zz hc11 H0
       refine wp_skip ?_
       refine Zu ?_
       refine wp_seq ?_
       refine r_s (L := [(2, _), (7, _), (9, _), (10, _)]) (T := [⟨[.old 0], _, [], [], [44]⟩, ⟨[.op 0 0], _, [], [0], [45]⟩, ⟨[], _, [], [], [46]⟩]) (F := [.old 1, .old 2, .old 3, .op 0 0, .op 1 0, .op 2 0]) (hst.pick [0, 1, 2, 3] rfl) hb Zb
         (o_p rfl (Za rfl rfl u_0) <| o_p rfl (Zb3 Tryd.underlying23 rfl rfl u_0) <| o_p rfl (Za rfl rfl c_i) <| o_n) (by kernel_rfl) (fun a g hst hb => ?_)
       obtain ⟨z48, hz1, H0⟩ := Zh H0
       refine Zc0 (fun a w => ∃ (y47 : Zk) (g : G), w = g.w ∧ St 134 [(7, (pBox Zt 7 y47)), (9, (Zt.ptr r9.1))] a g ∧ Base g0 g ∧ (.inr y47) = z48) ?_ ?_
       · rintro a w ⟨y47, g, rfl, hst, hb, rfl⟩
         refine Zu ?_
         obtain ⟨r49, h50, H0⟩ := Zh H0
         refine r_s (T := [⟨[.old 0], _, [], [], [131]⟩, ⟨[.old 1], _, [], [], [132]⟩, ⟨[.op 0 0, .op 1 0], _, [], [0, 1], [133]⟩, ⟨[.op 2 0], _, [], [0, 1, 2], [6]⟩]) (F := [.op 3 0]) hst hb Zb
           (o_p rfl (Zb8 Zbf rfl rfl u_0) <| o_p rfl (Zf Zbf rfl rfl u_0) <| o_p rfl (Zp Zze (Zmf _ _ h50) rfl rfl (.cons u_0 (.cons u_1 .nil))) <| o_p rfl (Zc rfl rfl u_0) <| o_n) (by kernel_rfl) (fun a g hst hb => ?_)
         refine wp_ret ?_
         obtain rfl := Option.some.inj H0
         exact Z3 rfl hst hb (Zm (s := 6)) (hst.at 0 rfl)
       · refine wp_block ?_
         refine wp_loop_ghost (fun n a w => ∃ (x12 : Zk) (x13 : Int) (g : G), w = g.w ∧ St 134 [(7, (pBox Zt 7 x12)), (9, (Zt.ptr r9.1)), (10, (Zb0.sl.pd r9.2)), (44, (Zck.sl.pd a2)), (45, (pInt .i64 (a2.length : Int))), (46, (pInt .i64 x13))] a g ∧ Base g0 g ∧ Zcf a2 r9 n x12 x13 = some z48) (Int.toNat ((a2.length : Int) - (0 : Int)) + 1) ⟨r4.1, (0 : Int), g, rfl, (hst.pick [0, 1, 2, 3, 4, 5] rfl), hb, hz1⟩ (fun n a w hI => ?_)
         obtain ⟨x12, x13, g, rfl, hst, hb, H1⟩ := hI
         cases n with
         | zero => exact absurd H1 (by simp [Zcf])
         | succ n =>
           rw [Zcf] at H1
           refine r_s (T := [⟨[.old 5, .old 4], _, [], [], [47]⟩]) (F := [.old 0, .old 1, .old 2, .old 3, .old 4, .old 5, .op 0 0]) hst hb Zb
             (o_p rfl (Zc2 rfl rfl u_0 u_1) <| o_n) (by kernel_rfl) (fun a g hst hb => ?_)
           refine wp_seq ?_
           refine wp_cond_split (hst.bool 6 rfl) (fun hc14 => ?_) (fun hc14 => ?_)
           · replace H1 := Z0 hc14 H1
             refine wp_skip ?_
             refine Zu ?_
             refine wp_seq ?_
             refine Zc0 (fun a w => ∃ (j46 : Zk) (g : G), w = g.w ∧ St 134 [(7, (pBox Zt 7 j46)), (9, (Zt.ptr r9.1)), (10, (Zb0.sl.pd r9.2)), (44, (Zck.sl.pd a2)), (45, (pInt .i64 (a2.length : Int))), (46, (pInt .i64 x13))] a g ∧ Base g0 g ∧ Zel x13 (Zcf a2 r9 n) j46 = some z48) ?_ ?_
             · rintro a w ⟨j46, g, rfl, hst, hb, H1⟩
               unfold Zel at H1
               refine Zu ?_
               refine r_g (T := [⟨[.old 5], _, [], [], [130]⟩, ⟨[.op 0 0], _, [], [0], [46]⟩]) (F := [.old 0, .old 1, .old 2, .old 3, .old 4, .op 1 0]) hst hb Zb
                 (o_p rfl (Zce rfl rfl u_0 c_i rfl) <| o_p rfl (Za rfl rfl u_0) <| o_n) (by kernel_rfl) (fun a g hst hb => ?_)
               exact ⟨n, Nat.lt_succ_self _, j46, (IntKind.i64.wrap (x13 + (1 : Int))), g, rfl, (hst.pick [0, 1, 2, 3, 4, 5] rfl), hb, H1⟩
             · refine wp_block ?_
               obtain ⟨e15, h16, H1⟩ := Zh H1
               refine r_s (L := [(7, _), (9, _), (10, _), (44, _), (45, _), (46, _)]) (T := [⟨[.old 5], _, [], [], [48]⟩, ⟨[.old 3, .old 5], _, [], [], [49]⟩, ⟨[.op 1 0], _, [], [1], [50]⟩, ⟨[], [(12, (pBox Zck 12 (default : Zbn)))], [13], [], [12]⟩, ⟨[.op 0 0], _, [], Lr 4, [11]⟩, ⟨[.op 2 0, .op 3 0], _, [13], Lr 5, [12]⟩]) (F := [.old 0, .old 1, .old 2, .op 4 0, .op 5 0, .old 3, .old 4, .old 5]) (hst.pick [0, 1, 2, 3, 4, 5] rfl) hb Zb
                 (o_p rfl (Za rfl rfl u_0) <| o_p rfl (Zbv Tryd.underlying23 Zzw rfl rfl u_0 u_1 h16) <| o_p rfl (Zf Zlt rfl rfl u_0) <| o_p rfl (Zbb (zs := [.slice none 0 0]) (by kernel_rfl) (fun g => Zns g) rfl rfl) <| o_p rfl (Zc rfl rfl u_0) <| o_p rfl (Zby Zlt rfl rfl u_1 u_0) <| o_n) (by kernel_rfl) (fun a g hst hb => ?_)
               obtain ⟨r17, h18, H1⟩ := Zh H1
               refine r_s (T := [⟨[.old 0], _, [], [], [52]⟩, ⟨[.old 4], _, [], [], [53]⟩, ⟨[.op 0 0, .op 1 0], _, [], [0, 1], [54]⟩, ⟨[.op 2 0], _, [], [0, 1, 2], [51]⟩, ⟨[.op 3 0], _, [], Lr 4, [55]⟩, ⟨[.op 3 0], _, [], Lr 4, [56]⟩, ⟨[], [(13, (pBox Zt 13 (default : Zk)))], [14], [], [13]⟩, ⟨[], [(14, (pBox Zb0 14 (default : Zv)))], [15], [], [14]⟩, ⟨[.op 4 0, .op 6 0], _, [14], [0, 1, 2, 3, 4, 6, 7], [13]⟩, ⟨[.op 5 0, .op 7 0], _, [15], Lr 9, [14]⟩]) (F := [.old 0, .old 1, .old 2, .old 3, .old 4, .op 8 0, .op 9 0, .old 5, .old 6, .old 7]) hst hb Zb
                 (o_p rfl (Zb8 Zbf rfl rfl u_0) <| o_p rfl (Zf Zlt rfl rfl u_0) <| o_p rfl (Zp en_8 (Znq _ _ h18) rfl rfl (.cons u_0 (.cons u_1 .nil))) <| o_p rfl (Za rfl rfl u_0) <| o_p rfl (Z4 rfl rfl u_0 rfl) <| o_p rfl (Z4 rfl rfl u_0 rfl) <| o_p rfl (Zbb (zs := [.pointer none, .int .i64 0]) (by kernel_rfl) (fun g => Zci g) rfl rfl) <| o_p rfl (Zbb (zs := [.int .i64 0, .int .i64 0, .slice none 0 0]) (by kernel_rfl) (fun g => Zmg g) rfl rfl) <| o_p rfl (Zby Zbf rfl rfl u_1 u_0) <| o_p rfl (Zby Zjf rfl rfl u_1 u_0) <| o_n) (by kernel_rfl) (fun a g hst hb => ?_)
               refine wp_seq ?_
               obtain ⟨e19, h20, H1⟩ := Zh H1; obtain ⟨r21, h22, H1⟩ := Zh H1
               refine r_s (T := [⟨[.old 6], _, [], [], [57]⟩, ⟨[.old 2], _, [], [], [58]⟩, ⟨[.old 3], _, [], [], [59]⟩, ⟨[.op 1 0, .op 2 0], _, [], [1, 2], [60]⟩, ⟨[.op 3 0], _, [], [1, 2, 3], [61]⟩, ⟨[.op 0 0, .op 4 0], _, [], Lr 5, [62]⟩, ⟨[.op 5 0], _, [], Lr 6, [63]⟩]) (F := [.old 0, .old 1, .old 2, .old 4, .old 5, .old 6, .old 7, .old 8, .old 9, .op 6 0]) hst hb Zb
                 (o_p rfl (Zf Zjf rfl rfl u_0) <| o_p rfl (Za rfl rfl u_0) <| o_p rfl (Za rfl rfl u_0) <| o_p rfl (Zbv Tryd.underlying50 Zvf rfl rfl u_0 u_1 h20) <| o_p rfl (Zf Zjf rfl rfl u_0) <| o_p rfl (Zp Zz1 (Zme _ _ h22) rfl rfl (.cons u_0 (.cons u_1 .nil))) <| o_p rfl (Zcn rfl rfl u_0) <| o_n) (by kernel_rfl) (fun a g hst hb => ?_)
               refine wp_cond_split (hst.bool 9 rfl) (fun hc23 => ?_) (fun hc23 => ?_)
               · replace H1 := Z0 hc23 H1
                 refine r_s (L := []) (T := [⟨[], _, [], [], [6]⟩]) (F := [.op 0 0]) (hst.pick [] rfl) hb Zb
                   (o_p rfl (Zc rfl rfl c_b) <| o_n) (by kernel_rfl) (fun a g hst hb => ?_)
                 refine wp_ret ?_
                 refine Zn ?_
                 refine Zw ?_
                 refine Zn ?_
                 refine Zn ?_
                 refine Zn ?_
                 refine Zw ?_
                 refine Zn ?_
                 refine Zn ?_
                 obtain rfl := Option.some.inj H1
                 obtain rfl := Option.some.inj H0
                 exact Z3 rfl hst hb (Zm (s := 6)) (hst.at 0 rfl)
               · replace H1 := Zz hc23 H1
                 refine wp_skip ?_
                 refine Zu ?_
                 refine wp_seq ?_
                 refine r_s (L := [(7, _), (9, _), (10, _), (12, _), (13, _), (14, _), (44, _), (45, _), (46, _)]) (T := [⟨[.old 5], _, [], [], [64]⟩, ⟨[.op 0 0], _, [], [0], [65]⟩, ⟨[.op 1 0], _, [], [0, 1], [66]⟩]) (F := [.old 0, .old 1, .old 2, .old 3, .old 4, .old 5, .old 6, .old 7, .old 8, .op 2 0]) (hst.pick [0, 1, 2, 3, 4, 5, 6, 7, 8] rfl) hb Zb
                   (o_p rfl (Ze Zqb rfl rfl u_0) <| o_p rfl (Zf Zj0 rfl rfl u_0) <| o_p rfl (Zer rfl rfl u_0 c_i) <| o_n) (by kernel_rfl) (fun a g hst hb => ?_)
                 refine wp_cond_split (hst.bool 9 rfl) (fun hc24 => ?_) (fun hc24 => ?_)
                 · replace H1 := Z0 hc24 H1
                   refine wp_seq ?_
                   obtain ⟨r25, h26, H1⟩ := Zh H1
                   refine r_s (L := [(7, _), (9, _), (10, _), (13, _), (14, _), (44, _), (45, _), (46, _)]) (T := [⟨[.old 3], _, [], [], [67]⟩, ⟨[.old 0], _, [], [], [68]⟩, ⟨[.op 0 0, .op 1 0], _, [], [0, 1], [69]⟩, ⟨[.op 2 0], _, [], [0, 1, 2], [70]⟩, ⟨[.op 3 0], _, [], Lr 4, [71]⟩, ⟨[.op 4 0, .old 4], _, [], Lr 5, [72]⟩, ⟨[.op 4 0, .op 5 0], _, [], Lr 6, [73]⟩, ⟨[.op 4 0, .op 6 0], _, [], Lr 7, [74]⟩, ⟨[.op 4 0, .op 7 0], _, [], Lr 8, [75]⟩, ⟨[.op 4 0, .op 8 0], _, [], Lr 9, [76]⟩]) (F := [.old 0, .old 1, .old 2, .old 5, .old 6, .old 7, .op 9 0]) (hst.pick [0, 1, 2, 4, 5, 6, 7, 8] rfl) hb Zb
                     (o_p rfl (Zf Zbf rfl rfl u_0) <| o_p rfl (Zb8 Zbf rfl rfl u_0) <| o_p rfl (Zp Zze (Zmf _ _ h26) rfl rfl (.cons u_0 (.cons u_1 .nil))) <| o_p rfl (Zcn rfl rfl u_0) <| o_p rfl (Za rfl rfl u_0) <| o_g (g_f rfl rfl rfl (fun hG => Ze Zmo rfl rfl u_0)) <| o_g (g_f rfl rfl rfl (fun hG => Zf Zqd rfl rfl (Opd.gd hG u_0))) <| o_g (g_f rfl rfl rfl (fun hG => Zb3 Tryd.underlying36 rfl rfl (Opd.gd hG u_0))) <| o_g (g_f rfl rfl rfl (fun hG => Zer rfl rfl (Opd.gd hG u_0) c_i)) <| o_p rfl (Zbz rfl rfl u_0 (fun hz => (Opd.gd (bNF hz) u_1))) <| o_n) (by kernel_rfl) (fun a g hst hb => ?_)
                   refine wp_cond_split (hst.bool 6 rfl) (fun hc27 => ?_) (fun hc27 => ?_)
                   · replace H1 := Z0 hc27 H1
                     refine r_s (L := []) (T := [⟨[], _, [], [], [6]⟩]) (F := [.op 0 0]) (hst.pick [] rfl) hb Zb
                       (o_p rfl (Zc rfl rfl c_b) <| o_n) (by kernel_rfl) (fun a g hst hb => ?_)
                     refine wp_ret ?_
                     refine Zn ?_
                     refine Zn ?_
                     refine Zw ?_
                     refine Zn ?_
                     refine Zn ?_
                     refine Zn ?_
                     refine Zw ?_
                     refine Zn ?_
                     refine Zn ?_
                     obtain rfl := Option.some.inj H1
                     obtain rfl := Option.some.inj H0
                     exact Z3 rfl hst hb (Zm (s := 6)) (hst.at 0 rfl)
                   · replace H1 := Zz hc27 H1
                     refine wp_skip ?_
                     refine Zu ?_
                     refine wp_exit ?_
                     refine Zca ?_
                     refine Zcz ?_
                     exact ⟨x12, g, rfl, (hst.pick [0, 1, 2, 3, 4, 5] rfl), hb, H1⟩
                 · replace H1 := Zz hc24 H1
                   refine wp_skip ?_
                   refine Zu ?_
                   refine wp_seq ?_
                   refine r_s (L := [(7, _), (9, _), (10, _), (12, _), (13, _), (14, _), (44, _), (45, _), (46, _)]) (T := ⟨[.old 5], _, [], [], [77]⟩ :: ⟨[.op 0 0], _, [], [0], [78]⟩ :: ⟨[.op 1 0], _, [], [0, 1], [79]⟩ :: ⟨[.old 3], _, [], [], [80]⟩ :: ⟨[.op 3 0], _, [], [3], [81]⟩ :: ⟨[.op 4 0], _, [], [3, 4], [82]⟩ :: ⟨[.op 2 0, .op 5 0], _, [], Lr 6, [83]⟩ :: ⟨[.op 6 0], _, [], Lr 7, [84]⟩ :: ⟨[.op 7 0, .old 5], _, [], Lr 8, [85]⟩ :: ⟨[.op 7 0, .op 8 0], _, [], Lr 9, [86]⟩ :: ⟨[.op 7 0, .op 9 0], _, [], Lr 10, [87]⟩ :: ⟨[.op 7 0, .op 10 0], _, [], Lr 11, [88]⟩ :: []) (F := [.old 0, .old 1, .old 2, .old 3, .old 4, .old 5, .old 6, .old 7, .old 8, .op 11 0]) (hst.pick [0, 1, 2, 3, 4, 5, 6, 7, 8] rfl) hb Zb
                     (o_p rfl (Ze Zmo rfl rfl u_0) <| o_p rfl (Zf Zqd rfl rfl u_0) <| o_p rfl (Zb3 Tryd.underlying36 rfl rfl u_0) <| o_p rfl (Ze Zks rfl rfl u_0) <| o_p rfl (Zf Znj rfl rfl u_0) <| o_p rfl (Zb3 Tryd.underlying32 rfl rfl u_0) <| o_p rfl (Zer rfl rfl u_0 u_1) <| o_p rfl (Za rfl rfl u_0) <| o_g (g_f rfl rfl rfl (fun hG => Ze Zqi rfl rfl u_0)) <| o_g (g_f rfl rfl rfl (fun hG => Zf ty_3 rfl rfl (Opd.gd hG u_0))) <| o_g (g_f rfl rfl rfl (fun hG => Zer rfl rfl (Opd.gd hG u_0) c_i)) <| o_p rfl (Zbz rfl rfl u_0 (fun hz => (Opd.gd (bNF hz) u_1))) <| o_n) (by kernel_rfl) (fun a g hst hb => ?_)
                   refine wp_cond_split (hst.bool 9 rfl) (fun hc28 => ?_) (fun hc28 => ?_)
                   · replace H1 := Z0 hc28 H1
                     refine r_s (L := []) (T := [⟨[], _, [], [], [6]⟩]) (F := [.op 0 0]) (hst.pick [] rfl) hb Zb
                       (o_p rfl (Zc rfl rfl c_b) <| o_n) (by kernel_rfl) (fun a g hst hb => ?_)
                     refine wp_ret ?_
                     refine Zn ?_
                     refine Zw ?_
                     refine Zn ?_
                     refine Zn ?_
                     refine Zn ?_
                     refine Zw ?_
                     refine Zn ?_
                     refine Zn ?_
                     obtain rfl := Option.some.inj H1
                     obtain rfl := Option.some.inj H0
                     exact Z3 rfl hst hb (Zm (s := 6)) (hst.at 0 rfl)
                   · replace H1 := Zz hc28 H1
                     refine wp_skip ?_
                     refine Zu ?_
                     refine wp_seq ?_
                     refine r_s (L := [(7, _), (9, _), (10, _), (12, _), (13, _), (14, _), (44, _), (45, _), (46, _)]) (T := [⟨[.old 3], _, [], [], [89]⟩, ⟨[.op 0 0], _, [], [0], [90]⟩, ⟨[.op 1 0], _, [], [0, 1], [91]⟩, ⟨[], _, [], [], [92]⟩]) (F := [.old 0, .old 1, .old 2, .old 4, .old 5, .old 6, .old 7, .old 8, .op 1 0, .op 2 0, .op 3 0]) (hst.pick [0, 1, 2, 3, 4, 5, 6, 7, 8] rfl) hb Zb
                       (o_p rfl (Ze Zks rfl rfl u_0) <| o_p rfl (Zf Znj rfl rfl u_0) <| o_p rfl (Zb3 Tryd.underlying32 rfl rfl u_0) <| o_p rfl (Za rfl rfl c_i) <| o_n) (by kernel_rfl) (fun a g hst hb => ?_)
                     obtain ⟨z42, hz2, H1⟩ := Zh H1
                     refine Zc0 (fun a w => ∃ (y41 : Zk) (g : G), w = g.w ∧ St 134 [(7, (pBox Zt 7 y41)), (9, (Zt.ptr r9.1)), (10, (Zb0.sl.pd r9.2)), (13, (Zt.ptr r17.1)), (44, (Zck.sl.pd a2)), (45, (pInt .i64 (a2.length : Int))), (46, (pInt .i64 x13))] a g ∧ Base g0 g ∧ (.inr y41) = z42) ?_ ?_
                     · rintro a w ⟨y41, g, rfl, hst, hb, rfl⟩
                       refine Zu ?_
                       refine wp_seq ?_
                       obtain ⟨r43, h44, H1⟩ := Zh H1
                       refine r_s (T := [⟨[.old 3], _, [], [], [125]⟩, ⟨[.old 0], _, [], [], [126]⟩, ⟨[.op 0 0, .op 1 0], _, [], [0, 1], [127]⟩, ⟨[.op 2 0], _, [], [0, 1, 2], [128]⟩]) (F := [.old 0, .old 1, .old 2, .old 3, .old 4, .old 5, .old 6, .op 3 0]) hst hb Zb
                         (o_p rfl (Zf Zbf rfl rfl u_0) <| o_p rfl (Zb8 Zbf rfl rfl u_0) <| o_p rfl (Zp Zze (Zmf _ _ h44) rfl rfl (.cons u_0 (.cons u_1 .nil))) <| o_p rfl (Zcn rfl rfl u_0) <| o_n) (by kernel_rfl) (fun a g hst hb => ?_)
                       refine wp_cond_split (hst.bool 7 rfl) (fun hc45 => ?_) (fun hc45 => ?_)
                       · replace H1 := Z0 hc45 H1
                         refine r_s (L := []) (T := [⟨[], _, [], [], [6]⟩]) (F := [.op 0 0]) (hst.pick [] rfl) hb Zb
                           (o_p rfl (Zc rfl rfl c_b) <| o_n) (by kernel_rfl) (fun a g hst hb => ?_)
                         refine wp_ret ?_
                         refine Zn ?_
                         refine Zw ?_
                         refine Zn ?_
                         refine Zn ?_
                         refine Zn ?_
                         refine Zw ?_
                         refine Zn ?_
                         refine Zn ?_
                         obtain rfl := Option.some.inj H1
                         obtain rfl := Option.some.inj H0
                         exact Z3 rfl hst hb (Zm (s := 6)) (hst.at 0 rfl)
                       · replace H1 := Zz hc45 H1
                         refine wp_skip ?_
                         refine Zu ?_
                         refine r_g (L := [(7, _), (9, _), (10, _), (13, _), (44, _), (45, _), (46, _)]) (T := [⟨[.old 3], _, [], [], [129]⟩, ⟨[.op 0 0, .old 0], _, [8], [0], [7]⟩]) (F := [.op 1 0, .old 1, .old 2, .old 4, .old 5, .old 6]) (hst.pick [0, 1, 2, 3, 4, 5, 6] rfl) hb Zb
                           (o_p rfl (Zf Zbf rfl rfl u_0) <| o_p rfl (Z6 Zbf rfl rfl u_1 u_0) <| o_n) (by kernel_rfl) (fun a g hst hb => ?_)
                         refine Zbt ?_
                         exact ⟨r17.1, g, rfl, (hst.pick [0, 1, 2, 3, 4, 5] rfl), hb, H1⟩
                     · refine wp_block ?_
                       refine wp_loop_ghost (fun n a w => ∃ (x29 : Zk) (x30 : Int) (g : G), w = g.w ∧ St 134 [(7, (pBox Zt 7 x29)), (9, (Zt.ptr r9.1)), (10, (Zb0.sl.pd r9.2)), (13, (Zt.ptr r17.1)), (14, (Zb0.ptr r17.2)), (44, (Zck.sl.pd a2)), (45, (pInt .i64 (a2.length : Int))), (46, (pInt .i64 x13)), (90, (Z7.sl.pd e15.Acts)), (91, (pInt .i64 (e15.Acts.length : Int))), (92, (pInt .i64 x30))] a g ∧ Base g0 g ∧ Zcp e15 r17 n x29 x30 = some z42) (Int.toNat ((e15.Acts.length : Int) - (0 : Int)) + 1) ⟨x12, (0 : Int), g, rfl, (hst.pick [0, 1, 2, 3, 4, 5, 6, 7, 8, 9, 10] rfl), hb, hz2⟩ (fun n a w hI => ?_)
                       obtain ⟨x29, x30, g, rfl, hst, hb, H2⟩ := hI
                       cases n with
                       | zero => exact absurd H2 (by simp [Zcp])
                       | succ n =>
                         rw [Zcp] at H2
                         refine r_s (T := [⟨[.old 10, .old 9], _, [], [], [93]⟩]) (F := [.old 0, .old 1, .old 2, .old 3, .old 4, .old 5, .old 6, .old 7, .old 8, .old 9, .old 10, .op 0 0]) hst hb Zb
                           (o_p rfl (Zc2 rfl rfl u_0 u_1) <| o_n) (by kernel_rfl) (fun a g hst hb => ?_)
                         refine wp_seq ?_
                         refine wp_cond_split (hst.bool 11 rfl) (fun hc31 => ?_) (fun hc31 => ?_)
                         · replace H2 := Z0 hc31 H2
                           refine wp_skip ?_
                           refine Zu ?_
                           refine wp_seq ?_
                           refine wp_block ?_
                           obtain ⟨e32, h33, H2⟩ := Zh H2
                           refine r_s (L := [(7, _), (9, _), (10, _), (13, _), (14, _), (44, _), (45, _), (46, _), (90, _), (91, _), (92, _)]) (T := [⟨[.old 10], _, [], [], [94]⟩, ⟨[.old 8, .old 10], _, [], [], [95]⟩, ⟨[.op 1 0], _, [], [1], [96]⟩, ⟨[], [(16, (pBox Z7 16 (default : Zx)))], [17], [], [16]⟩, ⟨[.op 0 0], _, [], Lr 4, [15]⟩, ⟨[.op 2 0, .op 3 0], _, [17], Lr 5, [16]⟩]) (F := [.old 0, .old 1, .old 2, .old 3, .old 4, .op 4 0, .op 5 0, .old 5, .old 6, .old 7, .old 8, .old 9, .old 10]) (hst.pick [0, 1, 2, 3, 4, 5, 6, 7, 8, 9, 10] rfl) hb Zb
                             (o_p rfl (Za rfl rfl u_0) <| o_p rfl (Zbv Tryd.underlying32 Zvd rfl rfl u_0 u_1 h33) <| o_p rfl (Zf Ze9 rfl rfl u_0) <| o_p rfl (Zbb (zs := [.int .i64 0, .string ByteArray.empty, .int .i64 0, .float .f64 0, .string ByteArray.empty, .int .i64 0, .int .i64 0, .int .i64 0, .int .i64 0, .float .f64 0, .int .i64 0, .string ByteArray.empty, .slice none 0 0, .bool false]) (by kernel_rfl) (fun g => Zjv g) rfl rfl) <| o_p rfl (Zc rfl rfl u_0) <| o_p rfl (Zby Ze9 rfl rfl u_1 u_0) <| o_n) (by kernel_rfl) (fun a g hst hb => ?_)
                           refine r_s (T := [⟨[], [(17, (pBox Zs 17 (default : Zg)))], [18], [], [17]⟩]) (F := [.old 0, .old 1, .old 2, .old 3, .old 4, .old 5, .old 6, .op 0 0, .old 7, .old 8, .old 9, .old 10, .old 11, .old 12]) hst hb Zb
                             (o_p rfl (Zbb (zs := [.int .i64 0, .int .i64 0, .int .i64 0, .int .i64 0, .int .i64 0, .int .i64 0, .float .f64 0, .int .i64 0, .string ByteArray.empty, .slice none 0 0]) (by kernel_rfl) (fun g => Zdy g) rfl rfl) <| o_n) (by kernel_rfl) (fun a g hst hb => ?_)
                           obtain ⟨r34, h35, H2⟩ := Zh H2
                           refine r_s (T := [⟨[.old 0], _, [], [], [98]⟩, ⟨[.old 6], _, [], [], [99]⟩, ⟨[.op 0 0, .op 1 0], _, [], [0, 1], [100]⟩, ⟨[.op 2 0], _, [], [0, 1, 2], [97]⟩, ⟨[.op 3 0], _, [], Lr 4, [101]⟩, ⟨[.op 3 0], _, [], Lr 4, [102]⟩, ⟨[.op 4 0, .old 0], _, [8], Lr 5, [7]⟩, ⟨[.op 5 0, .old 7], _, [18], Lr 7, [17]⟩]) (F := [.op 6 0, .old 1, .old 2, .old 3, .old 4, .old 5, .old 6, .op 7 0, .old 8, .old 9, .old 10, .old 11, .old 12, .old 13]) hst hb Zb
                             (o_p rfl (Zb8 Zbf rfl rfl u_0) <| o_p rfl (Zf Ze9 rfl rfl u_0) <| o_p rfl (Zp Zzs (Znu _ _ h35) rfl rfl (.cons u_0 (.cons u_1 .nil))) <| o_p rfl (Za rfl rfl u_0) <| o_p rfl (Z4 rfl rfl u_0 rfl) <| o_p rfl (Z4 rfl rfl u_0 rfl) <| o_p rfl (Z6 Zbf rfl rfl u_1 u_0) <| o_p rfl (Z6 Zcb rfl rfl u_1 u_0) <| o_n) (by kernel_rfl) (fun a g hst hb => ?_)
                           obtain ⟨c36, h37, H2⟩ := Zh H2; obtain ⟨r38, h39, H2⟩ := Zh H2
                           refine r_s (T := ⟨[.old 7], _, [], [], [103]⟩ :: ⟨[.op 0 0], _, [], [0], [104]⟩ :: ⟨[.op 1 0], _, [], [0, 1], [105]⟩ :: ⟨[.old 4], _, [], [], [106]⟩ :: ⟨[.op 3 0], _, [], [3], [107]⟩ :: ⟨[.old 5], _, [], [], [108]⟩ :: ⟨[.old 5], _, [], [], [109]⟩ :: ⟨[.op 6 0], _, [], [6], [110]⟩ :: ⟨[.op 4 0, .op 5 0, .op 7 0], _, [], List.range' 3 5, [111]⟩ :: ⟨[.op 8 0], _, [], List.range' 3 6, [112]⟩ :: ⟨[.op 2 0, .op 9 0], _, [], Lr 10, [113]⟩ :: ⟨[.op 10 0], _, [], Lr 11, [114]⟩ :: ⟨[.op 11 0], _, [], Lr 12, [115]⟩ :: ⟨[.op 12 0, .old 6], _, [], Lr 13, [116]⟩ :: ⟨[.op 12 0, .op 13 0], _, [], Lr 14, [117]⟩ :: ⟨[.op 12 0, .op 14 0], _, [], Lr 15, [118]⟩ :: ⟨[.op 15 0, .old 7], _, [], Lr 16, [119]⟩ :: ⟨[.op 15 0, .op 16 0], _, [], Lr 17, [120]⟩ :: ⟨[.op 15 0, .op 17 0], _, [], Lr 18, [121]⟩ :: ⟨[.op 12 0, .op 15 0, .op 18 0], _, [], Lr 19, [122]⟩ :: ⟨[.op 12 0, .op 19 0], _, [], Lr 20, [123]⟩ :: []) (F := [.old 0, .old 1, .old 2, .old 3, .old 4, .old 8, .old 9, .old 10, .old 11, .old 12, .old 13, .op 20 0]) hst hb Zb
                             (o_p rfl (Zb8 Zcb rfl rfl u_0) <| o_p rfl (Zjl Zzc (xs := [.tmp 103]) (.cons u_0 .nil) (by decide) rfl rfl) <| o_p rfl (Zxt rfl rfl u_0) <| o_p rfl (Ze Zmo rfl rfl u_0) <| o_p rfl (Zf Zqd rfl rfl u_0) <| o_p rfl (Za rfl rfl u_0) <| o_p rfl (Za rfl rfl u_0) <| o_p rfl (Zce rfl rfl u_0 c_i rfl) <| o_p rfl (Z2h Tryd.underlying36 Zzl rfl rfl u_0 u_1 u_2 h37) <| o_p rfl (Zxt rfl rfl u_0) <| o_p rfl (Zp Zz1 (Zme _ _ h39) rfl rfl (.cons u_0 (.cons u_1 .nil))) <| o_p rfl (Zcn rfl rfl u_0) <| o_p rfl (Za rfl rfl u_0) <| o_g (g_f rfl rfl rfl (fun hG => Ze Ztd rfl rfl u_0)) <| o_g (g_f rfl rfl rfl (fun hG => Zf ty_4 rfl rfl (Opd.gd hG u_0))) <| o_g (g_f rfl rfl rfl (fun hG => Za rfl rfl (Opd.gd hG u_0))) <| o_g (g_ti rfl rfl rfl (fun hG => Zbc Zkw (off := 0) (by kernel_rfl) rfl rfl u_0)) <| o_g (g_ti rfl rfl rfl (fun hG => Zcl Zj0 rfl rfl (Opd.gd hG u_0))) <| o_g (g_ti rfl rfl rfl (fun hG => Zer rfl rfl (Opd.gd hG u_0) c_i)) <| o_g (g_f rfl rfl rfl (fun hG => Zbj rfl rfl (Opd.gd hG u_0) (fun hz => (Opd.gd (bA hG hz) u_1)))) <| o_p rfl (Zbz rfl rfl u_0 (fun hz => (Opd.gd (bNF hz) u_1))) <| o_n) (by kernel_rfl) (fun a g hst hb => ?_)
                           refine wp_cond_split (hst.bool 11 rfl) (fun hc40 => ?_) (fun hc40 => ?_)
                           · replace H2 := Z0 hc40 H2
                             refine r_s (L := []) (T := [⟨[], _, [], [], [6]⟩]) (F := [.op 0 0]) (hst.pick [] rfl) hb Zb
                               (o_p rfl (Zc rfl rfl c_b) <| o_n) (by kernel_rfl) (fun a g hst hb => ?_)
                             refine wp_ret ?_
                             refine Zw ?_
                             refine Zn ?_
                             refine Zn ?_
                             refine Zw ?_
                             refine Zn ?_
                             refine Zn ?_
                             refine Zw ?_
                             refine Zn ?_
                             refine Zn ?_
                             refine Zn ?_
                             refine Zw ?_
                             refine Zn ?_
                             refine Zn ?_
                             obtain rfl := Option.some.inj H2
                             obtain rfl := Option.some.inj H1
                             obtain rfl := Option.some.inj H0
                             exact Z3 rfl hst hb (Zm (s := 6)) (hst.at 0 rfl)
                           · replace H2 := Zz hc40 H2
                             refine wp_skip ?_
                             refine Zbt ?_
                             refine Zu ?_
                             refine r_g (L := [(7, _), (9, _), (10, _), (13, _), (14, _), (44, _), (45, _), (46, _), (90, _), (91, _), (92, _)]) (T := [⟨[.old 10], _, [], [], [124]⟩, ⟨[.op 0 0], _, [], [0], [92]⟩]) (F := [.old 0, .old 1, .old 2, .old 3, .old 4, .old 5, .old 6, .old 7, .old 8, .old 9, .op 1 0]) (hst.pick [0, 1, 2, 3, 4, 5, 6, 7, 8, 9, 10] rfl) hb Zb
                               (o_p rfl (Zce rfl rfl u_0 c_i rfl) <| o_p rfl (Za rfl rfl u_0) <| o_n) (by kernel_rfl) (fun a g hst hb => ?_)
                             exact ⟨n, Nat.lt_succ_self _, r34.1, (IntKind.i64.wrap (x30 + (1 : Int))), g, rfl, (hst.pick [0, 1, 2, 3, 4, 5, 6, 7, 8, 9, 10] rfl), hb, H2⟩
                         · replace H2 := Zz hc31 H2
                           refine wp_exit ?_
                           refine Zca ?_
                           refine Zca ?_
                           refine Zcz ?_
                           exact ⟨x29, g, rfl, (hst.pick [0, 1, 2, 3, 5, 6, 7] rfl), hb, Option.some.inj H2⟩
           · replace H1 := Zz hc14 H1
             refine wp_exit ?_
             refine Zca ?_
             refine Zca ?_
             refine Zcz ?_
             exact ⟨x12, g, rfl, (hst.pick [0, 1] rfl), hb, Option.some.inj H1⟩
end Go.CL
namespace Go.CL
open Go
def Zil (a0 : Zl) (a1 : ByteArray) : Option (Zl × Bool) := ((Zdr a0 a1).bind fun r1 => ((gd (!(decide ((a0.L.length : Int) ≤ r1))) (idx a0.L r1)).bind fun e3 => (if ((decide ((a0.L.length : Int) ≤ r1)) || (!sEq e3.Key a1)) then (some (a0, false)) else ((cut a0.L (0 : Int) r1).bind fun c6 => (if (([] : List Z5).length + c6.length) * 104 ≤ 140737488355328 then ((cut a0.L (IntKind.i64.wrap (r1 + (1 : Int))) (a0.L.length : Int)).bind fun c9 => (if ((([] : List Z5) ++ c6).length + c9.length) * 104 ≤ 140737488355328 then (some (({ L := ((([] : List Z5) ++ c6) ++ c9), Room := a0.Room } : Zl), true)) else none)) else none)))))
def Zf1 (a0 : Zd) (a1 : Zd) : Nat → (Int) → Option ((Bool) ⊕ (Unit))
 | 0, _ => none
 | n + 1, x5 => (if (decide (x5 < (a0.List.length : Int))) then ((idx a0.List x5).bind fun e7 => ((idx a1.List x5).bind fun e9 => ((gd (!(!sEq e7.Name e9.Name)) (idx a0.List x5)).bind fun e11 => ((gd (!(!sEq e7.Name e9.Name)) (idx a1.List x5)).bind fun e13 => ((gd (!(!sEq e7.Name e9.Name)) (Zdd e11.Score e13.Score)).bind fun r15 => (if ((!sEq e7.Name e9.Name) || (!r15)) then (some (.inl false)) else ((Zf1 a0 a1 n) (IntKind.i64.wrap (x5 + (1 : Int)))))))))) else (some (.inr ())))
def Zkn (a0 : Zd) (a1 : Zd) : Option (Bool) := (if ((((((a0.Kind != a1.Kind) || (a0.Num != a1.Num)) || (a0.Low != a1.Low)) || (a0.High != a1.High)) || (a0.Cap != a1.Cap)) || (!sEq a0.Text a1.Text)) then (some false) else ((Zdd a0.Real a1.Real).bind fun r2 => (if ((!r2) || ((a0.List.length : Int) != (a1.List.length : Int))) then (some false) else ((Zf1 a0 a1 (Int.toNat ((a0.List.length : Int) - (0 : Int)) + 1) (0 : Int)).bind fun z18 => match z18 with | .inl r => some r | .inr () => (some true)))))
def Zij (a0 : Zl) (a1 : ByteArray) : Option (Zd × Bool) := ((Zdr a0 a1).bind fun r1 => ((gd (decide (r1 < (a0.L.length : Int))) (idx a0.L r1)).bind fun e3 => (if ((decide (r1 < (a0.L.length : Int))) && (sEq e3.Key a1)) then ((idx a0.L r1).bind fun e6 => (some (e6.Rec, true))) else (some (({ Kind := (0 : Int), Num := (0 : Int), Low := (0 : Int), High := (0 : Int), Real := (0 : Nat), Cap := (0 : Int), Text := ByteArray.empty, List := ([] : List Zj) } : Zd), false)))))
def Zew (a0 : Int) : Option (Int) := (if ((decide (a0 < (0 : Int))) || (decide ((21 : Int) < a0))) then (some (0 : Int)) else ((idx ([(0 : Int), (0 : Int), (0 : Int), (0 : Int), (0 : Int), (1 : Int), (1 : Int), (2 : Int), (3 : Int), (3 : Int), (4 : Int), (4 : Int), (4 : Int), (5 : Int), (6 : Int), (7 : Int), (7 : Int), (7 : Int), (8 : Int), (8 : Int), (8 : Int), (9 : Int)] : List Int) a0).bind fun e2 => (some e2)))
def Zpc (a0 : Int) : Option (ByteArray) := (if ((decide (a0 < (0 : Int))) || (decide ((21 : Int) < a0))) then (some (⟨#[]⟩ : ByteArray)) else ((idx ([(⟨#[]⟩ : ByteArray), (⟨#[109]⟩ : ByteArray), (⟨#[]⟩ : ByteArray), (⟨#[]⟩ : ByteArray), (⟨#[]⟩ : ByteArray), (⟨#[115]⟩ : ByteArray), (⟨#[115]⟩ : ByteArray), (⟨#[110]⟩ : ByteArray), (⟨#[110]⟩ : ByteArray), (⟨#[110]⟩ : ByteArray), (⟨#[110]⟩ : ByteArray), (⟨#[110]⟩ : ByteArray), (⟨#[110]⟩ : ByteArray), (⟨#[120]⟩ : ByteArray), (⟨#[120]⟩ : ByteArray), (⟨#[120]⟩ : ByteArray), (⟨#[120]⟩ : ByteArray), (⟨#[120]⟩ : ByteArray), (⟨#[115]⟩ : ByteArray), (⟨#[115]⟩ : ByteArray), (⟨#[115]⟩ : ByteArray), (⟨#[120, 115]⟩ : ByteArray)] : List ByteArray) a0).bind fun e2 => (some e2)))
def Zlw (a1 : Int) (r1 : ByteArray) : Nat → (Int) → Option ((Bool) ⊕ (Unit))
 | 0, _ => none
 | n + 1, x3 => (if (decide (x3 < (r1.size : Int))) then ((sidx r1 x3).bind fun b5 => (if (b5 == a1) then (some (.inl true)) else ((Zlw a1 r1 n) (IntKind.i64.wrap (x3 + (1 : Int)))))) else (some (.inr ())))
def Zeh (a0 : Int) (a1 : Int) : Option (Bool) := ((Zpc a0).bind fun r1 => ((Zlw a1 r1 (Int.toNat ((r1.size : Int) - (0 : Int)) + 1) (0 : Int)).bind fun z8 => match z8 with | .inl r => some r | .inr () => (some false)))
def Zez (a0 : Zx) : Option (Int) := (if ((decide (a0.Kind < (1 : Int))) || (decide ((21 : Int) < a0.Kind))) then (some (5 : Int)) else (if ((decide ((a0.Key.size : Int) < (1 : Int))) || (decide ((24 : Int) < (a0.Key.size : Int)))) then (some (1 : Int)) else ((Zeh a0.Kind (110 : Int)).bind fun r3 => ((gd (!((!r3) && (a0.N != (0 : Int)))) (Zeh a0.Kind (120 : Int))).bind fun r5 => ((gd ((!((!r3) && (a0.N != (0 : Int)))) && (!r5)) (Zdd a0.X (0 : Nat))).bind fun r7 => ((gd (!(((!r3) && (a0.N != (0 : Int))) || ((!r5) && (!r7)))) (Zeh a0.Kind (115 : Int))).bind fun r9 => (if ((((!r3) && (a0.N != (0 : Int))) || ((!r5) && (!r7))) || ((!r9) && (!sEq a0.S (⟨#[]⟩ : ByteArray)))) then (some (4 : Int)) else ((gd (a0.Kind != (1 : Int)) (Zkn a0.Make ({ Kind := (0 : Int), Num := (0 : Int), Low := (0 : Int), High := (0 : Int), Real := (0 : Nat), Cap := (0 : Int), Text := ByteArray.empty, List := ([] : List Zj) } : Zd))).bind fun r12 => (if ((a0.Kind != (1 : Int)) && (!r12)) then (some (4 : Int)) else ((Zew a0.Kind).bind fun r15 => ((gd (!((r15 == (1 : Int)) && (decide ((64 : Int) < (a0.S.size : Int))))) (Zew a0.Kind)).bind fun r17 => (if (((r15 == (1 : Int)) && (decide ((64 : Int) < (a0.S.size : Int)))) || ((r17 != (1 : Int)) && (decide ((16 : Int) < (a0.S.size : Int))))) then (some (3 : Int)) else (if (((a0.Kind == (10 : Int)) || (a0.Kind == (11 : Int))) && ((decide (a0.N < (0 : Int))) || (decide ((2305843009213693952 : Int) < a0.N)))) then (some (1 : Int)) else ((Zej a0.X).bind fun r21 => (if (!r21) then (some (4 : Int)) else (if (a0.Kind == (1 : Int)) then ((Zc9 a0.Make).bind fun r25 => (some r25)) else (some (0 : Int))))))))))))))))))
def Zfi (a0 : Zd) : Option (Zd) := (if (([] : List Zj).length + a0.List.length) * 24 ≤ 140737488355328 then (some ({ a0 with List := (([] : List Zj) ++ a0.List) })) else none)
def Zki (a0 : Int) (a1 : Int) : Option (Bool) := (some ((((decide ((0 : Int) < a0)) && (decide ((0 : Int) < a1))) && (decide ((IntKind.i64.wrap (a0 + a1)) < (0 : Int)))) || (((decide (a0 < (0 : Int))) && (decide (a1 < (0 : Int)))) && (decide ((0 : Int) ≤ (IntKind.i64.wrap (a0 + a1)))))))
def Zlg (a0 : Nat) (a1 : Nat) : Option (Nat) := ((Zd6 a0 a1).bind fun r1 => (if r1 then (some a1) else (some a0)))
def Zlb (a0 : Nat) (a1 : Nat) : Option (Nat) := ((Zd6 a1 a0).bind fun r1 => (if r1 then (some a1) else (some a0)))
def Zfe (a0 : Int) : Option (Nat) := (if (decide ((9223372036854775808 : Int) ≤ a0)) then (some (Int.toNat (IntKind.u64.wrap (a0 - (9223372036854775808 : Int))))) else (some (Int.toNat (IntKind.u64.wrap ((9223372036854775808 : Int) + (IntKind.u64.wrap ((IntKind.u64.wrap ((9223372036854775808 : Int) - (1 : Int))) - a0)))))))
def Zie (a0 : Nat) : Option (Int) := ((Zen a0).bind fun r1 => (if r1 then (some (IntKind.u64.wrap ((9223372036854775808 : Int) + (9221120237041090561 : Int)))) else (if (decide ((9223372036854775808 : Int) ≤ (a0 : Int))) then (some (IntKind.u64.wrap ((IntKind.u64.wrap ((9223372036854775808 : Int) - (1 : Int))) - (IntKind.u64.wrap ((a0 : Int) - (9223372036854775808 : Int)))))) else (some (IntKind.u64.wrap ((9223372036854775808 : Int) + (a0 : Int)))))))
def Zgg (a0 : List Zj) (a1 : ByteArray) : Nat → (Int) → Option ((Bool) ⊕ (Unit))
 | 0, _ => none
 | n + 1, x1 => (if (decide (x1 < (a0.length : Int))) then ((idx a0 x1).bind fun e3 => (if (sEq e3.Name a1) then (some (.inl true)) else ((Zgg a0 a1 n) (IntKind.i64.wrap (x1 + (1 : Int)))))) else (some (.inr ())))
def Zgq (a0 : List Zj) (a1 : ByteArray) : Option (Bool) := ((Zgg a0 a1 (Int.toNat ((a0.length : Int) - (0 : Int)) + 1) (0 : Int)).bind fun z6 => match z6 with | .inl r => some r | .inr () => (some false))
def Zhn (j30 : List Zj) : Option (List Zj) := (some j30)
def Zee (a0 : List Zj) (x3 : Int) (kk : (List Zj) → (Bool) → (Int) → Option ((List Zj) × Bool)) (j20 : List Zj) (j21 : Bool) : Option ((List Zj) × Bool) := ((idx a0 x3).bind fun e22 => (if (j20.length + ([e22] : List Zj).length) * 24 ≤ 140737488355328 then (kk (j20 ++ ([e22] : List Zj)) j21 (IntKind.i64.wrap (x3 + (1 : Int)))) else none))
def Zcw (a0 : List Zj) (a1 : Zj) (a2 : Bool) : Nat → (List Zj) → (Bool) → (Int) → Option ((List Zj) × Bool)
 | 0, _, _, _ => none
 | n + 1, x1, x2, x3 => (if (decide (x3 < (a0.length : Int))) then ((gd (!a2) (idx a0 x3)).bind fun e5 => ((gd (!a2) (Zey e5 a1)).bind fun r7 => ((gd ((!((!a2) && r7)) && a2) (idx a0 x3)).bind fun e9 => ((idx a0 x3).bind fun e11 => ((gd ((sEq e11.Name a1.Name) && (!a2)) (idx a0 x3)).bind fun e13 => ((gd ((sEq e11.Name a1.Name) && (!a2)) (Zdd e13.Score a1.Score)).bind fun r15 => (if ((!x2) && (!(((!a2) && r7) || (a2 && (sLt e9.Name a1.Name))))) then (if (!((sEq e11.Name a1.Name) && (a2 || r15))) then (if (x1.length + ([a1] : List Zj).length) * 24 ≤ 140737488355328 then (Zee a0 x3 (Zcw a0 a1 a2 n) (x1 ++ ([a1] : List Zj)) true) else none) else (Zee a0 x3 (Zcw a0 a1 a2 n) x1 true)) else (Zee a0 x3 (Zcw a0 a1 a2 n) x1 x2)))))))) else (some (x1, x2)))
def Zf3 (a0 : List Zj) (a1 : Zj) (a2 : Bool) : Option (List Zj) := ((Zcw a0 a1 a2 (Int.toNat ((a0.length : Int) - (0 : Int)) + 1) ([] : List Zj) false (0 : Int)).bind fun z27 => match z27 with | (y25, y26) => (if (!y26) then (if (y25.length + ([a1] : List Zj).length) * 24 ≤ 140737488355328 then (Zhn (y25 ++ ([a1] : List Zj))) else none) else (Zhn y25)))
def Z1 (j65 : Zd) (j66 : Zg) : Option (Zd × Zg) := (some (j65, j66))
def Zj6 (x43 : Int) (kk : (List Zj) → (Int) → Option (List Zj)) (j51 : List Zj) : Option (List Zj) := (kk j51 (IntKind.i64.wrap (x43 + (1 : Int))))
def Zec (a0 : Zd) (a1 : Zx) : Nat → (List Zj) → (Int) → Option (List Zj)
 | 0, _, _ => none
 | n + 1, x42, x43 => (if (decide (x43 < (a0.List.length : Int))) then ((idx a0.List x43).bind fun e45 => (if (!sEq e45.Name a1.S) then ((idx a0.List x43).bind fun e48 => (if (x42.length + ([e48] : List Zj).length) * 24 ≤ 140737488355328 then (Zj6 x43 (Zec a0 a1 n) (x42 ++ ([e48] : List Zj))) else none)) else (Zj6 x43 (Zec a0 a1 n) x42))) else (some x42))
def Ze0 (a0 : Zd) (j64 : List Zj) : Option (Zd × Zg) := (Z1 ({ a0 with List := j64 }) ({ Code := (0 : Int), Num := (0 : Int), Rec := (default : Zd) } : Zg))
def Zcd (a0 : Zd) (a1 : Zx) (j11 : Bool) : Option (Zd × Zg) := (if j11 then (if (decide (a0.Num < a1.N)) then (Z1 a0 ({ ({ Code := (0 : Int), Num := (0 : Int), Rec := (default : Zd) } : Zg) with Code := (11 : Int) })) else (Z1 a0 ({ Code := (0 : Int), Num := (0 : Int), Rec := (default : Zd) } : Zg))) else (if (a1.Kind == (10 : Int)) then (if (decide (a0.High < (IntKind.i64.wrap (a0.Num + a1.N)))) then (Z1 a0 ({ ({ Code := (0 : Int), Num := (0 : Int), Rec := (default : Zd) } : Zg) with Code := (9 : Int) })) else (Z1 ({ a0 with Num := (IntKind.i64.wrap (a0.Num + a1.N)) }) ({ Code := (0 : Int), Num := (0 : Int), Rec := (default : Zd) } : Zg))) else (if (a1.Kind == (11 : Int)) then (if (decide ((IntKind.i64.wrap (a0.Num - a1.N)) < a0.Low)) then (Z1 a0 ({ ({ Code := (0 : Int), Num := (0 : Int), Rec := (default : Zd) } : Zg) with Code := (10 : Int) })) else (Z1 ({ a0 with Num := (IntKind.i64.wrap (a0.Num - a1.N)) }) ({ Code := (0 : Int), Num := (0 : Int), Rec := (default : Zd) } : Zg))) else (if (a1.Kind == (13 : Int)) then ((Zlg a0.Real a1.X).bind fun r19 => (Z1 ({ a0 with Real := r19 }) ({ Code := (0 : Int), Num := (0 : Int), Rec := (default : Zd) } : Zg))) else (if (a1.Kind == (14 : Int)) then ((Zlb a0.Real a1.X).bind fun r22 => (Z1 ({ a0 with Real := r22 }) ({ Code := (0 : Int), Num := (0 : Int), Rec := (default : Zd) } : Zg))) else (if (a1.Kind == (15 : Int)) then ((Zie (fadd a0.Real a1.X)).bind fun r25 => ((Zfe r25).bind fun r27 => (Z1 ({ a0 with Real := r27 }) ({ Code := (0 : Int), Num := (0 : Int), Rec := (default : Zd) } : Zg)))) else (if (a1.Kind == (16 : Int)) then ((Zie (fmul a0.Real a1.X)).bind fun r30 => ((Zfe r30).bind fun r32 => (Z1 ({ a0 with Real := r32 }) ({ Code := (0 : Int), Num := (0 : Int), Rec := (default : Zd) } : Zg)))) else (if (a1.Kind == (17 : Int)) then (Z1 ({ a0 with Real := a1.X }) ({ Code := (0 : Int), Num := (0 : Int), Rec := (default : Zd) } : Zg)) else (if (a1.Kind == (18 : Int)) then ((Zgq a0.List a1.S).bind fun r36 => (if ((!r36) && (decide (a0.Cap ≤ (a0.List.length : Int)))) then (Z1 a0 ({ ({ Code := (0 : Int), Num := (0 : Int), Rec := (default : Zd) } : Zg) with Code := (8 : Int) })) else ((Zf3 a0.List ({ Score := (0 : Nat), Name := a1.S } : Zj) true).bind fun r39 => (Z1 ({ a0 with List := r39 }) ({ Code := (0 : Int), Num := (0 : Int), Rec := (default : Zd) } : Zg))))) else (if (a1.Kind == (19 : Int)) then ((Zec a0 a1 (Int.toNat ((a0.List.length : Int) - (0 : Int)) + 1) ([] : List Zj) (0 : Int)).bind fun z53 => match z53 with | y52 => (Z1 ({ a0 with List := y52 }) ({ Code := (0 : Int), Num := (0 : Int), Rec := (default : Zd) } : Zg))) else (if (a1.Kind == (20 : Int)) then ((Zgq a0.List a1.S).bind fun r55 => (if (!r55) then (Z1 a0 ({ ({ Code := (0 : Int), Num := (0 : Int), Rec := (default : Zd) } : Zg) with Code := (11 : Int) })) else (Z1 a0 ({ Code := (0 : Int), Num := (0 : Int), Rec := (default : Zd) } : Zg)))) else (if (a1.Kind == (21 : Int)) then ((Zf3 a0.List ({ Score := a1.X, Name := a1.S } : Zj) false).bind fun r59 => (if (decide (a0.Cap < (r59.length : Int))) then ((cut r59 (0 : Int) a0.Cap).bind fun c62 => (Ze0 a0 c62)) else (Ze0 a0 r59))) else (Z1 a0 ({ Code := (0 : Int), Num := (0 : Int), Rec := (default : Zd) } : Zg))))))))))))))
def Zbo (a0 : Zd) (a1 : Zx) : Option (Zd × Zg) := (if (a1.Kind == (5 : Int)) then (Z1 ({ a0 with Text := a1.S }) ({ Code := (0 : Int), Num := (0 : Int), Rec := (default : Zd) } : Zg)) else (if (a1.Kind == (6 : Int)) then ((Zfi a0).bind fun r3 => (Z1 ({ a0 with Text := a1.S }) ({ ({ Code := (0 : Int), Num := (0 : Int), Rec := (default : Zd) } : Zg) with Rec := r3 }))) else (if (a1.Kind == (7 : Int)) then (Z1 ({ a0 with Num := (IntKind.i64.wrap (a0.Num + a1.N)) }) ({ Code := (0 : Int), Num := (0 : Int), Rec := (default : Zd) } : Zg)) else (if (a1.Kind == (8 : Int)) then ((Zki a0.Num a1.N).bind fun r7 => (if r7 then (Z1 a0 ({ ({ Code := (0 : Int), Num := (0 : Int), Rec := (default : Zd) } : Zg) with Code := (9 : Int) })) else (Z1 ({ a0 with Num := (IntKind.i64.wrap (a0.Num + a1.N)) }) ({ Code := (0 : Int), Num := (0 : Int), Rec := (default : Zd) } : Zg)))) else (if (a1.Kind == (9 : Int)) then (Zcd a0 a1 (a1.Kind == (9 : Int))) else (Zcd a0 a1 (a1.Kind == (12 : Int))))))))
def Zg9 (a1 : Bool) (a2 : Zx) (r3 : Zd) (j18 : Int) : Option (Zd × Bool × Zg) := (if (j18 != (0 : Int)) then (some (r3, a1, ({ Code := j18, Num := (0 : Int), Rec := (default : Zd) } : Zg))) else (if (a2.Kind == (1 : Int)) then ((Zfi a2.Make).bind fun r21 => (some (r21, true, ({ Code := (0 : Int), Num := (0 : Int), Rec := (default : Zd) } : Zg)))) else (if (a2.Kind == (2 : Int)) then (some (({ Kind := (0 : Int), Num := (0 : Int), Low := (0 : Int), High := (0 : Int), Real := (0 : Nat), Cap := (0 : Int), Text := ByteArray.empty, List := ([] : List Zj) } : Zd), false, ({ Code := (0 : Int), Num := (0 : Int), Rec := (default : Zd) } : Zg))) else (if (a2.Kind == (3 : Int)) then (some (r3, a1, ({ Code := (0 : Int), Num := r3.Kind, Rec := (default : Zd) } : Zg))) else (if (a2.Kind == (4 : Int)) then ((Zfi r3).bind fun r26 => (some (r3, a1, ({ Code := (0 : Int), Num := (0 : Int), Rec := r26 } : Zg)))) else ((Zbo r3 a2).bind fun r28 => (some (r28.1, a1, r28.2))))))))
def Zg8 (a1 : Bool) (a2 : Zx) (r3 : Zd) (j14 : Int) : Option (Zd × Bool × Zg) := ((Zew a2.Kind).bind fun r15 => (if (((j14 == (0 : Int)) && (r15 != (0 : Int))) && (r15 != r3.Kind)) then (Zg9 a1 a2 r3 (5 : Int)) else (Zg9 a1 a2 r3 j14)))
def Zg6 (a1 : Bool) (a2 : Zx) (r3 : Zd) (j12 : Int) : Option (Zd × Bool × Zg) := (if ((((j12 == (0 : Int)) && (!a1)) && (a2.Kind != (1 : Int))) && (a2.Kind != (3 : Int))) then (Zg8 a1 a2 r3 (6 : Int)) else (Zg8 a1 a2 r3 j12))
def Zep (a1 : Bool) (a2 : Zx) (r3 : Zd) (j10 : Int) : Option (Zd × Bool × Zg) := (if (((j10 == (0 : Int)) && (a2.Kind == (1 : Int))) && a1) then (Zg6 a1 a2 r3 (7 : Int)) else (Zg6 a1 a2 r3 j10))
def Zg5 (a1 : Bool) (a2 : Zx) (j2 : Zd) : Option (Zd × Bool × Zg) := ((Zfi j2).bind fun r3 => ((Zez a2).bind fun r5 => (if ((r5 == (0 : Int)) && a1) then ((Zc9 r3).bind fun r8 => (Zep a1 a2 r3 r8)) else (Zep a1 a2 r3 r5))))
def Zj7 (a0 : Zd) (a1 : Bool) (a2 : Zx) : Option (Zd × Bool × Zg) := (if (!a1) then (Zg5 a1 a2 ({ Kind := (0 : Int), Num := (0 : Int), Low := (0 : Int), High := (0 : Int), Real := (0 : Nat), Cap := (0 : Int), Text := ByteArray.empty, List := ([] : List Zj) } : Zd)) else (Zg5 a1 a2 a0))
def Zfq (a0 : Zbn) : Nat → (Int) → Option ((Int × Int) ⊕ (Unit))
 | 0, _ => none
 | n + 1, x2 => (if (decide (x2 < (a0.Acts.length : Int))) then ((idx a0.Acts x2).bind fun e4 => ((Zez e4).bind fun r6 => (if (r6 != (0 : Int)) then (some (.inl (r6, (IntKind.i64.wrap (x2 + (1 : Int)))))) else ((Zfq a0 n) (IntKind.i64.wrap (x2 + (1 : Int))))))) else (some (.inr ())))
def Zj8 (a0 : Zbn) : Option (Int × Int) := (if ((decide ((a0.Acts.length : Int) < (1 : Int))) || (decide ((12 : Int) < (a0.Acts.length : Int)))) then (some ((1 : Int), (0 : Int))) else ((Zfq a0 (Int.toNat ((a0.Acts.length : Int) - (0 : Int)) + 1) (0 : Int)).bind fun z9 => match z9 with | .inl r => some r | .inr () => (some ((0 : Int), (0 : Int)))))
def Zk8 (a0 : Zl) (a1 : Zx) : Option (Zl × Zg) := ((Zij a0 a1.Key).bind fun r1 => ((Zj7 r1.1 r1.2 a1).bind fun r3 => (if (r3.2.2.Code != (0 : Int)) then (some (a0, r3.2.2)) else (if ((a1.Kind == (1 : Int)) && (decide (a0.Room ≤ (a0.L.length : Int)))) then (some (a0, ({ Code := (8 : Int), Num := (0 : Int), Rec := (default : Zd) } : Zg))) else (if (!r3.2.1) then ((Zil a0 a1.Key).bind fun r8 => (some (r8.1, r3.2.2))) else ((Zdz a0 a1.Key r3.1).bind fun r10 => (some (r10.1, r3.2.2))))))))
def Zff (a0 : Zl) (a1 : Zbn) : Nat → (Zl) → (Zv) → (Zl) → (List Zg) → (Int) → Option ((Zl × Zv) ⊕ (Zl × Zv × Zl × (List Zg)))
 | 0, _, _, _, _, _ => none
 | n + 1, x4, x5, x6, x7, x8 => (if (decide (x8 < (a1.Acts.length : Int))) then ((idx a1.Acts x8).bind fun e10 => ((Zk8 x6 e10).bind fun r12 => ((gd (r12.2.Code != (0 : Int)) (idx a1.Acts x8)).bind fun e14 => (if ((r12.2.Code != (0 : Int)) && e14.Must) then (some (.inl (a0, ({ Code := r12.2.Code, At := (IntKind.i64.wrap (x8 + (1 : Int))), Answers := ([] : List Zg) } : Zv)))) else (if (x7.length + ([r12.2] : List Zg).length) * 104 ≤ 140737488355328 then ((Zff a0 a1 n) x4 x5 r12.1 (x7 ++ ([r12.2] : List Zg)) (IntKind.i64.wrap (x8 + (1 : Int)))) else none))))) else (some (.inr (x4, x5, x6, x7))))
def Zk7 (a0 : Zl) (a1 : Zbn) : Option (Zl × Zv) := ((Zj8 a1).bind fun r1 => (if (r1.1 != (0 : Int)) then (some (a0, ({ Code := r1.1, At := r1.2, Answers := ([] : List Zg) } : Zv))) else ((Zff a0 a1 (Int.toNat ((a1.Acts.length : Int) - (0 : Int)) + 1) (default : Zl) (default : Zv) a0 ([] : List Zg) (0 : Int)).bind fun z22 => match z22 with | .inl r => some r | .inr (y18, y19, y20, y21) => (some (y20, ({ Code := (0 : Int), At := (0 : Int), Answers := y21 } : Zv))))))
def Zgi (a1 : List Zbn) : Nat → (Zl) → (List Zv) → (Int) → Option (Zl × (List Zv))
 | 0, _, _, _ => none
 | n + 1, x1, x2, x3 => (if (decide (x3 < (a1.length : Int))) then ((idx a1 x3).bind fun e5 => ((Zk7 x1 e5).bind fun r7 => (if (x2.length + ([r7.2] : List Zv).length) * 40 ≤ 140737488355328 then ((Zgi a1 n) r7.1 (x2 ++ ([r7.2] : List Zv)) (IntKind.i64.wrap (x3 + (1 : Int)))) else none))) else (some (x1, x2)))
def Znn (a0 : Zl) (a1 : List Zbn) : Option (Zl × (List Zv)) := ((Zgi a1 (Int.toNat ((a1.length : Int) - (0 : Int)) + 1) a0 ([] : List Zv) (0 : Int)).bind fun z12 => match z12 with | (y10, y11) => (some (y10, y11)))
def NANB : Nat := 9221120237041090561
def keyf (b : Nat) : Int := if isn b then 18444492273895866369 else if TOP ≤ b then 18446744073709551615 - b else b + 9223372036854775808
def Zb2 (b : Nat) : Nat := if isn b then NANB else b
theorem Zt6 {b : Nat} (hb : b < 18446744073709551616) : fneq b b = decide (isn b) := by
 unfold fneq
 show (Ieee.double.order b b != some .eq) = _
 by_cases h : isn b
 · rw [Zt5 (.inl h)]; simp [h]
 · obtain ⟨o, ho, _, he⟩ := Zox hb hb h h
   rw [ho, he.2 rfl]; simp [h]
theorem Zh9 {b : Nat} (hb : b < 18446744073709551616) : Ze3 b = some (Zb2 b) := by
 unfold Ze3 Zb2
 rw [Zt6 hb]
 by_cases h : isn b
 · simp [h, Zos, NANB]
 · simp [h]
theorem Z3y {b : Nat} (hb : b < 18446744073709551616) : (bAnd .u64 (b : Int) 9223372036854775808 != 0) = decide (TOP ≤ b) := by
 have h1 : (BitVec.ofInt 64 (b : Int) &&& BitVec.ofInt 64 9223372036854775808).toNat = b &&& 9223372036854775808 := by
   rw [BitVec.toNat_and]
   have e1 : (BitVec.ofInt 64 (b : Int)).toNat = b := by
     rw [show BitVec.ofInt 64 (b : Int) = BitVec.ofNat 64 b from rfl]
     simp; omega
   rw [e1]; rfl
 have h2 : b &&& 9223372036854775808 = (b.testBit 63).toNat * 9223372036854775808 := by
   apply Nat.eq_of_testBit_eq
   intro i
   rw [Nat.testBit_and, show (9223372036854775808 : Nat) = 2 ^ 63 from rfl, Nat.testBit_two_pow]
   by_cases hi : 63 = i
   · subst hi
     cases b.testBit 63
     · simp
     · rw [Bool.toNat_true, Nat.one_mul, Nat.testBit_two_pow]; simp
   · cases b.testBit 63
     · simp [hi]
     · rw [Bool.toNat_true, Nat.one_mul, Nat.testBit_two_pow]; simp [hi]
 have h3 : b.testBit 63 = decide (TOP ≤ b) := by
   rw [Nat.testBit_eq_decide_div_mod_eq]
   unfold TOP
   by_cases h : 9223372036854775808 ≤ b
   · have : b / 2 ^ 63 % 2 = 1 := by omega
     simp [this, h]
   · have : b / 2 ^ 63 % 2 = 0 := by omega
     simp [this, h]
 unfold bAnd
 show (IntKind.wrap .u64 ((BitVec.ofInt 64 (b : Int) &&& BitVec.ofInt 64 9223372036854775808).toNat : Int) != 0) = _
 rw [h1, h2, h3]
 by_cases h : TOP ≤ b
 · simp only [h, decide_true, Bool.toNat_true, Nat.one_mul]
   rfl
 · simp only [h, decide_false, Bool.toNat_false, Nat.zero_mul]
   rfl
theorem Z5n {b : Nat} (hb : b < 18446744073709551616) : bXor .u64 IntKind.u64.max (b : Int) = 18446744073709551615 - b := by
 have h1 : (BitVec.ofInt 64 18446744073709551615 ^^^ BitVec.ofInt 64 (b : Int)).toNat = 18446744073709551615 - b := by
   have e1 : BitVec.ofInt 64 18446744073709551615 = BitVec.allOnes 64 := by decide
   rw [e1, BitVec.allOnes_xor, BitVec.toNat_not]
   have e2 : (BitVec.ofInt 64 (b : Int)).toNat = b := by
     rw [show BitVec.ofInt 64 (b : Int) = BitVec.ofNat 64 b from rfl]
     simp; omega
   rw [e2]
 unfold bXor
 show IntKind.wrap .u64 ((BitVec.ofInt 64 18446744073709551615 ^^^ BitVec.ofInt 64 (b : Int)).toNat : Int) = _
 rw [h1]
 simp [IntKind.wrap, IntKind.signed, IntKind.bits]
 omega
theorem Z5x {b : Nat} (hb : b < 9223372036854775808) : bOr .u64 (b : Int) 9223372036854775808 = b + 9223372036854775808 := by
 have h1 : (BitVec.ofInt 64 (b : Int) ||| BitVec.ofInt 64 9223372036854775808).toNat = b + 9223372036854775808 := by
   rw [BitVec.toNat_or]
   have e1 : (BitVec.ofInt 64 (b : Int)).toNat = b := by
     rw [show BitVec.ofInt 64 (b : Int) = BitVec.ofNat 64 b from rfl]
     simp; omega
   rw [e1, show (BitVec.ofInt 64 9223372036854775808).toNat = 2 ^ 63 * 1 from rfl, Nat.or_comm]
   rw [← Nat.two_pow_add_eq_or_of_lt (by simpa using hb)]
   omega
 unfold bOr
 show IntKind.wrap .u64 ((BitVec.ofInt 64 (b : Int) ||| BitVec.ofInt 64 9223372036854775808).toNat : Int) = _
 rw [h1]
 simp [IntKind.wrap, IntKind.signed, IntKind.bits]
 omega
theorem Zrl {b : Nat} (hb : b < 18446744073709551616) : Zb2 b < 18446744073709551616 := by
 unfold Zb2 NANB; split <;> omega
theorem Zr1 {b : Nat} (hb : b < 18446744073709551616) : Zkv b = some (keyf b) := by
 unfold Zkv
 rw [Zh9 hb]
 simp only [Option.bind_some]
 rw [Z3y (Zrl hb)]
 unfold keyf Zb2
 by_cases h : isn b
 · simp only [h, if_true]
   rfl
 · simp only [h, if_false]
   by_cases ht : TOP ≤ b
   · simp only [ht, decide_true, if_true]
     rw [Z5n hb]
   · simp only [ht, decide_false, if_false, Bool.false_eq_true]
     rw [Z5x (by unfold TOP at ht; omega)]
theorem Zml {a b : Nat} (ha : a < 18446744073709551616) (hb : b < 18446744073709551616) : Zh8 a b = some (decide (keyf a = keyf b)) := by
 unfold Zh8
 rw [Zr1 ha, Zr1 hb]
 simp [BEq.beq]
theorem Zte {a b : Nat} (ha : a < 18446744073709551616) (hb : b < 18446744073709551616) : Zko a b = some (decide (keyf a < keyf b)) := by
 unfold Zko
 rw [Zr1 ha, Zr1 hb]
 simp
theorem Zpz {a : Nat} (ha : a < 18446744073709551616) : Zi0 a = some (decide (a = Zb2 a)) := by
 unfold Zi0
 rw [Zh9 ha]
 congr 1
 by_cases h : a = Zb2 a
 · simp [← h]
 · have : (a : Int) ≠ (Zb2 a : Int) := by omega
   simp [h, this]
theorem Zxw {a b : Nat} (ha : a < 18446744073709551616) (hb : b < 18446744073709551616) (na : ¬ isn a) (nb : ¬ isn b) : keyf a < keyf b ↔ (sg a < sg b ∨ (a = TOP ∧ b = 0)) := by
 unfold keyf
 rw [if_neg na, if_neg nb]
 unfold sg isn rg INF TOP at *
 split <;> split <;> omega
theorem Zyg {a b : Nat} (ha : a < 18446744073709551616) (hb : b < 18446744073709551616) (na : ¬ isn a) (nb : ¬ isn b) : feql a b = decide (sg a = sg b) := by
 unfold feql
 show (Ieee.double.order a b == some .eq) = _
 obtain ⟨o, ho, _, he⟩ := Zox ha hb na nb
 rw [ho]
 by_cases h : sg a = sg b
 · rw [he.2 h]; simp [h]
 · have : o ≠ .eq := fun h' => h (he.1 h')
   simp [h, this]
theorem Z4h {a b : Nat} (ha : a < 18446744073709551616) (hb : b < 18446744073709551616) (na : ¬ isn a) (nb : ¬ isn b) : flss a b = decide (sg a < sg b) := by
 unfold flss
 show (Ieee.double.order a b == some .lt) = _
 obtain ⟨o, ho, hl, _⟩ := Zox ha hb na nb
 rw [ho]
 by_cases h : sg a < sg b
 · rw [hl.2 h]; simp [h]
 · have : o ≠ .lt := fun h' => h (hl.1 h')
   simp [h, this]
theorem Z5t : Zfr 0 = some false := by kernel_rfl
theorem Z6n : Zfr TOP = some true := by kernel_rfl
theorem nan0 : ¬ isn 0 := by decide
theorem Zyo {a : Nat} (ha : a < 18446744073709551616) : sg a = sg 0 ↔ a = 0 ∨ a = TOP := by
 unfold sg TOP
 split <;> simp <;> omega
theorem Zor {a : Nat} (ha : a < 18446744073709551616) : Zen a = some (decide (isn a)) := by
 unfold Zen; rw [Zt6 ha]
theorem Zms {a b : Nat} (ha : a < 18446744073709551616) (hb : b < 18446744073709551616) : Zd6 a b = some (decide (keyf a < keyf b)) := by
 unfold Zd6
 rw [Zor ha, Zor hb]
 simp only [Option.bind_some]
 have kb : ∀ x, x < 18446744073709551616 → ¬ isn x → keyf x < 18444492273895866369 := by
   intro x hx nx
   unfold keyf
   rw [if_neg nx]
   unfold isn rg INF TOP at *
   split <;> omega
 have kn : ∀ x, isn x → keyf x = 18444492273895866369 := fun x h => by unfold keyf; rw [if_pos h]
 by_cases na : isn a
 · simp only [na, decide_true, if_true]
   by_cases nb : isn b
   · rw [kn a na, kn b nb]; simp
   · have := kb b hb nb
     rw [kn a na]; simp; omega
 · simp only [na, decide_false, Bool.false_eq_true, if_false]
   by_cases nb : isn b
   · have := kb a ha na
     rw [kn b nb]; simp [nb, this]
   · simp only [nb, decide_false, Bool.false_eq_true, if_false]
     rw [Zyg ha (by decide) na nan0, Zyg hb (by decide) nb nan0, Z4h ha hb na nb]
     by_cases hz : sg a = sg 0 ∧ sg b = sg 0
     · rw [if_pos (by simp [hz])]
       have hk := Zxw ha hb na nb
       have h0T : (0 : Nat) ≠ TOP := by decide
       rcases (Zyo ha).1 hz.1 with rfl | rfl <;> rcases (Zyo hb).1 hz.2 with rfl | rfl <;> simp only [Z5t, Z6n, gd, Option.bind_some, if_true, if_false, Bool.false_eq_true, Option.some.injEq] <;> decide
     · rw [if_neg (by simpa using hz)]
       have hk := Zxw ha hb na nb
       congr 1
       apply decide_eq_decide.2
       rw [hk]
       constructor
       · intro h; exact .inl h
       · rintro (h | ⟨rfl, rfl⟩)
         · exact h
         · exact absurd ⟨rfl, rfl⟩ hz
theorem Zlp {a b : Nat} (ha : a < 18446744073709551616) (hb : b < 18446744073709551616) : Zdd a b = some (decide (keyf a = keyf b)) := by
 unfold Zdd
 rw [Zms ha hb, Zms hb ha]
 simp only [Option.bind_some, gd]
 by_cases h1 : keyf a < keyf b
 · have : keyf a ≠ keyf b := by omega
   simp [h1, this]
 · by_cases h2 : keyf b < keyf a
   · have : keyf a ≠ keyf b := by omega
     simp [h1, h2, this]
   · have : keyf a = keyf b := by omega
     simp [this]
theorem Zou {a : Nat} (ha : a < 18446744073709551616) : Zej a = some (decide (a = Zb2 a)) := by
 unfold Zej
 rw [Zor ha]
 unfold Zb2 NANB
 by_cases h : isn a
 · by_cases h2 : a = 9221120237041090561
   · simp [h, h2]
   · have : (a : Int) ≠ 9221120237041090561 := by omega
     simp [h, h2, this]
 · simp [h]
theorem wr {x : Int} (h1 : -9223372036854775808 ≤ x) (h2 : x ≤ 9223372036854775807) : IntKind.i64.wrap x = x := by
 rw [IntKind.wrap_i64]; omega
theorem wr1 {i : Nat} (h : i < 9223372036854775807) : IntKind.i64.wrap ((i : Int) + 1) = ((i + 1 : Nat) : Int) := by
 rw [wr (by omega) (by omega)]; omega
theorem Z74 (n : Int) : IntKind.u64.wrap n = n % 18446744073709551616 := by simp [IntKind.wrap, IntKind.bits, IntKind.signed]
theorem wru {x : Int} (h1 : 0 ≤ x) (h2 : x < 18446744073709551616) : IntKind.u64.wrap x = x := by rw [Z74]; omega
theorem wrm {i : Nat} (h : i < 9223372036854775807) (h0 : 0 < i) : IntKind.i64.wrap ((i : Int) - 1) = ((i - 1 : Nat) : Int) := by
 rw [wr (by omega) (by omega)]; omega
theorem idxn {α : Type} (xs : List α) (i : Nat) : idx xs (i : Int) = xs[i]? := by
 unfold idx
 rw [if_pos (by omega)]
 simp
theorem Zcy {α : Type} {xs : List α} {i : Nat} (h : i < xs.length) : idx xs (i : Int) = some xs[i] := by
 rw [idxn, List.getElem?_eq_getElem h]
theorem gd_t {β : Type} [Inhabited β] (x : Option β) : gd true x = x := rfl
theorem gd_f {β : Type} [Inhabited β] (x : Option β) : gd false x = some default := rfl
theorem Zkm {α : Type} {xs : List α} {l h : Nat} (h1 : l ≤ h) (h2 : h ≤ xs.length) : cut xs (l : Int) (h : Int) = some ((xs.drop l).take (h - l)) := by
 unfold cut
 rw [if_pos (by omega)]
 simp
theorem Zsp {a b : ByteArray} (h : a.toList = b.toList) : a = b := by
 rw [_root_.Go.ByteArray.toList_eq, _root_.Go.ByteArray.toList_eq] at h
 exact ByteArray.ext (Array.toList_inj.1 h)
theorem Zhe {a b : ByteArray} : sEq a b = true ↔ a = b := by
 unfold sEq
 constructor
 · intro h; exact Zsp (by simpa using h)
 · rintro rfl; simp
theorem Zef (a : ByteArray) : sEq a a = true := Zhe.2 rfl
theorem Zd1 {a b : ByteArray} : sEq a b = false ↔ a ≠ b := by
 cases h : sEq a b
 · simp; intro e; rw [Zhe.2 e] at h; cases h
 · simp; exact Zhe.1 h
theorem Z0n : ∀ l : List UInt8, Op.bytesLess l l = false
 | [] => rfl
 | x :: l => by simp [Op.bytesLess, Z0n l]
theorem Zwj : ∀ {a b c : List UInt8}, Op.bytesLess a b = true → Op.bytesLess b c = true → Op.bytesLess a c = true
 | [], [], c, h, _ => by simp [Op.bytesLess] at h
 | [], y :: b, [], _, k => by simp [Op.bytesLess] at k
 | [], y :: b, z :: c, _, _ => rfl
 | x :: a, [], c, h, _ => by simp [Op.bytesLess] at h
 | x :: a, y :: b, [], _, k => by simp [Op.bytesLess] at k
 | x :: a, y :: b, z :: c, h, k => by
   simp only [Op.bytesLess, Bool.or_eq_true, Bool.and_eq_true, decide_eq_true_eq, beq_iff_eq] at h k ⊢
   rcases h with h | ⟨h1, h2⟩ <;> rcases k with k | ⟨k1, k2⟩
   · exact .inl (UInt8.lt_trans h k)
   · subst k1; exact .inl h
   · subst h1; exact .inl k
   · subst h1; subst k1; exact .inr ⟨rfl, Zwj h2 k2⟩
theorem Zz8 : ∀ (a b : List UInt8), Op.bytesLess a b = false → a ≠ b → Op.bytesLess b a = true
 | [], [], _, h => absurd rfl h
 | [], y :: b, h, _ => by simp [Op.bytesLess] at h
 | x :: a, [], _, _ => rfl
 | x :: a, y :: b, h, hn => by
   simp only [Op.bytesLess, Bool.or_eq_false_iff, decide_eq_false_iff_not, Bool.and_eq_false_iff] at h
   simp only [Op.bytesLess, Bool.or_eq_true, Bool.and_eq_true, decide_eq_true_eq, beq_iff_eq]
   by_cases e : x = y
   · subst e
     right
     refine ⟨rfl, Zz8 a b ?_ (fun h' => hn (by rw [h']))⟩
     rcases h.2 with h | h
     · simp at h
     · exact h
   · left
     rcases UInt8.lt_or_lt_of_ne e with h' | h'
     · exact absurd h' h.1
     · exact h'
theorem Zky (a : ByteArray) : sLt a a = false := Z0n _
theorem Zfc {a b c : ByteArray} (h : sLt a b = true) (k : sLt b c = true) : sLt a c = true := Zwj h k
theorem Zlo {a b : ByteArray} (h : sLt a b = false) (hn : a ≠ b) : sLt b a = true := Zz8 _ _ h (fun e => hn (Zsp e))
theorem Zrs {a b : ByteArray} (h : sLt a b = true) : sLt b a = false := by
 cases k : sLt b a
 · rfl
 · have := Zfc h k
   rw [Zky] at this; cases this
theorem Zk2 {a b : ByteArray} (h : sLt a b = true) : a ≠ b := fun e => by subst e; rw [Zky] at h; cases h
abbrev W64 : Nat := 18446744073709551616
structure Zg4 (a : Zd) : Prop where
 real : a.Real < W64
 len : a.List.length < 4611686018427387904
 sc : ∀ e ∈ a.List, e.Score < W64
def Zc5 (a b : Zj) : Bool := if keyf a.Score = keyf b.Score then sLt a.Name b.Name else decide (keyf b.Score < keyf a.Score)
theorem Znf {a b : Zj} (ha : a.Score < W64) (hb : b.Score < W64) : Ziq a b = some (Zc5 a b) := by
 unfold Ziq Zc5
 rw [Zml ha hb, Zte hb ha]
 by_cases h : keyf a.Score = keyf b.Score <;> simp [h]
theorem Zvz {a b : Zj} (ha : a.Score < W64) (hb : b.Score < W64) : Zey a b = some (Zc5 a b) := by
 unfold Zey Zc5
 rw [Zms hb ha, Zlp ha hb]
 by_cases h : keyf a.Score = keyf b.Score
 · simp [h]
 · by_cases h2 : keyf b.Score < keyf a.Score <;> simp [h, h2]
theorem Zyd {a : Nat} (ha : a < W64) : Zf6 a = some (decide (keyf a = keyf 0)) := by
 unfold Zf6
 rw [Zlp ha (by decide)]
 rfl
def Zgt (k : Int) (l : List Zj) (i : Nat) : Int :=
 match l[i]? with
 | none => 0
 | some x =>
   let p := (l[i - 1]?).getD default
   if (16 : Int) < x.Name.size then 3
   else if (k = 8 ∧ keyf x.Score ≠ keyf 0) ∨ x.Score ≠ Zb2 x.Score then 4
   else if 0 < i ∧ k = 8 ∧ sLt p.Name x.Name = false then 4
   else if 0 < i ∧ k = 9 ∧ Zc5 p x = false then 4
   else 0
theorem Z05 {k : Int} {l : List Zj} {i n : Nat} (hi : i < l.length) (hl : l.length < 4611686018427387904) (hs : ∀ e ∈ l, e.Score < W64) :
   Ze7 k l (n + 1) (i : Int) = if Zgt k l i = 0 then Ze7 k l n ((i + 1 : Nat) : Int) else some (.inl (Zgt k l i)) := by
 have hx : l[i].Score < W64 := hs _ (List.getElem_mem hi)
 rw [Ze7, if_pos (by simp; omega), Zcy hi, wr1 (by omega)]
 simp only [Option.bind_some]
 rw [Zml hx (by decide), Zpz hx]
 simp only [Zgt, List.getElem?_eq_getElem hi]
 by_cases h1 : (16 : Int) < l[i].Name.size
 · simp [h1]
 · simp only [h1, decide_false, if_false, Bool.false_eq_true]
   have hz : ((0 : Nat) : Int) = 0 := rfl
   by_cases h0 : 0 < i
   · have hp : i - 1 < l.length := by omega
     have hps : l[i - 1].Score < W64 := hs _ (List.getElem_mem hp)
     have hd : (decide ((0 : Int) < (i : Int))) = true := by simp; omega
     rw [hd, wrm (by omega) h0, Zcy hp]
     simp only [List.getElem?_eq_getElem hp, Option.getD_some, h0, true_and, Bool.true_and]
     by_cases h8 : k = 8
     · subst h8
       simp only [beq_self_eq_true, gd_t, Option.bind_some, true_and, Bool.true_and]
       by_cases hk : keyf l[i].Score = keyf 0
       · by_cases hc : l[i].Score = Zb2 l[i].Score
         · simp [hk, ← hc, gd]
           cases sLt l[i - 1].Name l[i].Name <;> simp
         · simp [hk, hc, gd]
       · simp [hk, gd]
     · have h8' : (k == 8) = false := by simpa using h8
       simp only [h8', h8, gd_f, gd_t, Option.bind_some, false_and, false_or, Bool.false_and, Bool.not_false, Bool.false_or]
       by_cases hc : l[i].Score = Zb2 l[i].Score
       · by_cases h9 : k = 9
         · subst h9
           simp [← hc, gd, Znf hps hx]
           cases Zc5 l[i - 1] l[i] <;> simp
         · simp [← hc, gd, h9]
       · simp [hc]
   · have h00 : i = 0 := by omega
     subst h00
     simp only [Nat.lt_irrefl, false_and, if_false, Int.ofNat_zero, Int.lt_irrefl, decide_false, Bool.false_and, gd_f, Option.bind_some, Int.natCast_zero]
     by_cases h8 : k = 8
     · subst h8
       simp only [beq_self_eq_true, gd_t, Option.bind_some, true_and, Bool.true_and]
       by_cases hk : keyf l[0].Score = keyf 0
       · by_cases hc : l[0].Score = Zb2 l[0].Score
         · simp [hk, ← hc, gd]
         · simp [hk, hc, gd]
       · simp [hk, gd]
     · have h8' : (k == 8) = false := by simpa using h8
       simp only [h8', h8, gd_f, gd_t, Option.bind_some, false_and, false_or, Bool.false_and, Bool.not_false, Bool.false_or]
       by_cases hc : l[0].Score = Zb2 l[0].Score
       · simp [← hc, gd]
       · simp [hc]
theorem Z2f {k : Int} {l : List Zj} {i : Nat} (hi : i < l.length) (hl : l.length < 4611686018427387904) (hs : ∀ e ∈ l, e.Score < W64) : Zhj k l (i : Int) = some (Zgt k l i) := by
 have hx : l[i].Score < W64 := hs _ (List.getElem_mem hi)
 unfold Zhj
 rw [Zcy hi]
 simp only [Option.bind_some]
 rw [Zyd hx, Zou hx]
 simp only [Zgt, List.getElem?_eq_getElem hi]
 by_cases h1 : (16 : Int) < l[i].Name.size
 · simp [h1]
 · simp only [h1, decide_false, if_false, Bool.false_eq_true]
   by_cases h0 : 0 < i
   · have hp : i - 1 < l.length := by omega
     have hps : l[i - 1].Score < W64 := hs _ (List.getElem_mem hp)
     have hd : (decide ((0 : Int) < (i : Int))) = true := by simp; omega
     rw [hd, wrm (by omega) h0, Zcy hp]
     simp only [List.getElem?_eq_getElem hp, Option.getD_some, h0, true_and, Bool.true_and]
     by_cases h8 : k = 8
     · subst h8
       simp only [beq_self_eq_true, gd_t, Option.bind_some, true_and, Bool.true_and]
       by_cases hk : keyf l[i].Score = keyf 0
       · by_cases hc : l[i].Score = Zb2 l[i].Score
         · simp [hk, ← hc, gd]
           cases sLt l[i - 1].Name l[i].Name <;> simp
         · simp [hk, hc, gd]
       · simp [hk, gd]
     · have h8' : (k == 8) = false := by simpa using h8
       simp only [h8', h8, gd_f, gd_t, Option.bind_some, false_and, false_or, Bool.false_and, Bool.not_false, Bool.false_or]
       by_cases hc : l[i].Score = Zb2 l[i].Score
       · by_cases h9 : k = 9
         · subst h9
           simp [← hc, gd, Zvz hps hx]
           cases Zc5 l[i - 1] l[i] <;> simp
         · simp [← hc, gd, h9]
       · simp [hc]
   · have h00 : i = 0 := by omega
     subst h00
     simp only [Nat.lt_irrefl, false_and, if_false, Int.ofNat_zero, Int.lt_irrefl, decide_false, Bool.false_and, gd_f, Option.bind_some, Int.natCast_zero]
     by_cases h8 : k = 8
     · subst h8
       simp only [beq_self_eq_true, gd_t, Option.bind_some, true_and, Bool.true_and]
       by_cases hk : keyf l[0].Score = keyf 0
       · by_cases hc : l[0].Score = Zb2 l[0].Score
         · simp [hk, ← hc, gd]
         · simp [hk, hc, gd]
       · simp [hk, gd]
     · have h8' : (k == 8) = false := by simpa using h8
       simp only [h8', h8, gd_f, gd_t, Option.bind_some, false_and, false_or, Bool.false_and, Bool.not_false, Bool.false_or]
       by_cases hc : l[0].Score = Zb2 l[0].Score
       · simp [← hc, gd]
       · simp [hc]
def Zhy (k : Int) (l : List Zj) : Nat → Nat → Int
 | _, 0 => 0
 | i, n + 1 => if Zgt k l i = 0 then Zhy k l (i + 1) n else Zgt k l i
def endC (c : Int) : Int ⊕ Unit := if c = 0 then .inr () else .inl c
theorem Zrp {k : Int} {l : List Zj} {i n : Nat} (h : Zgt k l i = 0) : Zhy k l i (n + 1) = Zhy k l (i + 1) n := by simp [Zhy, h]
theorem Zrg {k : Int} {l : List Zj} {i n : Nat} (h : ¬ Zgt k l i = 0) : Zhy k l i (n + 1) = Zgt k l i := by simp [Zhy, h]
theorem Z0f {c : Int} (h : ¬ c = 0) : endC c = .inl c := if_neg h
theorem Zsw {k : Int} {l : List Zj} (hl : l.length < 4611686018427387904) (hs : ∀ e ∈ l, e.Score < W64) : ∀ (n i : Nat), i + n = l.length →
   Ze7 k l (n + 1) (i : Int) = some (endC (Zhy k l i n))
 | 0, i, h => by
   rw [Ze7, if_neg (by simp; omega)]
   rfl
 | n + 1, i, h => by
   rw [Z05 (by omega) hl hs]
   by_cases hc : Zgt k l i = 0
   · rw [if_pos hc, Zrp hc, Zsw hl hs n (i + 1) (by omega)]
   · rw [if_neg hc, Zrg hc, Z0f hc]
theorem Z2o {k : Int} {l : List Zj} (hl : l.length < 4611686018427387904) (hs : ∀ e ∈ l, e.Score < W64) : Zl0 k l = some (Zhy k l 0 l.length) := by
 unfold Zl0
 rw [show (Int.toNat ((l.length : Int) - (0 : Int)) + 1) = l.length + 1 by omega, show (0 : Int) = ((0 : Nat) : Int) from rfl, Zsw hl hs l.length 0 (by omega)]
 unfold endC
 by_cases h : Zhy k l 0 l.length = 0 <;> simp [h]
theorem Zq4 {a : Zd} (ha : Zg4 a) : ∀ (n i : Nat), i + n = a.List.length →
   Zdk a (n + 1) (i : Int) = some (endC (Zhy a.Kind a.List i n))
 | 0, i, h => by
   rw [Zdk, if_neg (by simp; omega)]
   rfl
 | n + 1, i, h => by
   have hl := ha.len
   rw [Zdk, if_pos (by simp; omega), Z2f (by omega) hl ha.sc, wr1 (by omega)]
   simp only [Option.bind_some]
   by_cases hc : Zgt a.Kind a.List i = 0
   · rw [if_neg (by simp [hc]), Zrp hc, Zq4 ha n (i + 1) (by omega)]
   · rw [if_pos (by simp [hc]), Zrg hc, Z0f hc]
def Zgd (t n b r l : Bool) (a : Zd) : Bool := (t || sEq a.Text ⟨#[]⟩) && (n || a.Num == 0) && (b || (a.Low == 0 && a.High == 0)) && (r || decide (keyf a.Real = keyf 0)) && (l || (a.Cap == 0 && (a.List.length : Int) == 0))
theorem Z5f {a : Zd} (ha : Zg4 a) (t n b r l : Bool) : Zna a ⟨t, n, b, r, l⟩ = some (Zgd t n b r l a) := by
 unfold Zna Zgd
 rw [Zml ha.real (by decide)]
 simp only
 generalize sEq a.Text ⟨#[]⟩ = x1
 generalize (a.Num == 0) = x2
 generalize (a.Low == 0) = x3
 generalize (a.High == 0) = x4
 generalize decide (keyf a.Real = keyf 0) = x5
 generalize (a.Cap == 0) = x6
 generalize ((a.List.length : Int) == 0) = x7
 revert t n b r l x1 x2 x3 x4 x5 x6 x7
 decide
theorem Z34 {a : Zd} (ha : Zg4 a) {s : ByteArray} {t n b r l : Bool} (h : Zcm s (Int.toNat ((s.size : Int) - (0 : Int)) + 1) false false false false false 0 = some (t, n, b, r, l)) : Zhl a s = some (Zgd t n b r l a) := by
 unfold Zhl Zgd
 rw [h, Zyd ha.real]
 simp only [Option.bind_some, bne]
 generalize sEq a.Text ⟨#[]⟩ = x1
 generalize (a.Num == 0) = x2
 generalize (a.Low == 0) = x3
 generalize (a.High == 0) = x4
 generalize decide (keyf a.Real = keyf 0) = x5
 generalize (a.Cap == 0) = x6
 generalize ((a.List.length : Int) == 0) = x7
 clear h
 revert t n b r l x1 x2 x3 x4 x5 x6 x7
 decide
theorem Z8k : Zcm ⟨#[116]⟩ (Int.toNat (((⟨#[116]⟩ : ByteArray).size : Int) - (0 : Int)) + 1) false false false false false 0 = some (true, false, false, false, false) := by kernel_rfl
theorem Z24 : Zcm ⟨#[110]⟩ (Int.toNat (((⟨#[110]⟩ : ByteArray).size : Int) - (0 : Int)) + 1) false false false false false 0 = some (false, true, false, false, false) := by kernel_rfl
theorem Z6b : Zcm ⟨#[110, 98]⟩ (Int.toNat (((⟨#[110, 98]⟩ : ByteArray).size : Int) - (0 : Int)) + 1) false false false false false 0 = some (false, true, true, false, false) := by kernel_rfl
theorem Zzn : Zcm ⟨#[114]⟩ (Int.toNat (((⟨#[114]⟩ : ByteArray).size : Int) - (0 : Int)) + 1) false false false false false 0 = some (false, false, false, true, false) := by kernel_rfl
theorem Z3p : Zcm ⟨#[108]⟩ (Int.toNat (((⟨#[108]⟩ : ByteArray).size : Int) - (0 : Int)) + 1) false false false false false 0 = some (false, false, false, false, true) := by kernel_rfl
def Znz (t n b r l : Bool) (a : Zd) : Int :=
 if Zgd t n b r l a = false then 4
 else if (64 : Int) < a.Text.size then 3
 else if b = true ∧ (a.Low < -2305843009213693952 ∨ 2305843009213693952 < a.High ∨ a.Num < a.Low ∨ a.High < a.Num) then 1
 else if a.Real ≠ Zb2 a.Real then 4
 else if l = false then 0
 else if a.Cap < 1 ∨ 32 < a.Cap then 1
 else if a.Cap < a.List.length then 8
 else Zhy a.Kind a.List 0 a.List.length
theorem Zfl {a : Zd} (ha : Zg4 a) {t n b r l : Bool} (hk : ¬ (a.Kind ≤ 0 ∨ 10 ≤ a.Kind)) (hs : Zdv a.Kind = some ⟨t, n, b, r, l⟩) : Zdu a = some (Znz t n b r l a) := by
 unfold Zdu Znz
 rw [hs]
 simp only [Option.bind_some]
 rw [Z5f ha, Zpz ha.real, Z2o ha.len ha.sc]
 simp only [Option.bind_some]
 rw [if_neg (by simpa using hk)]
 by_cases h1 : Zgd t n b r l a = false
 · rw [if_pos h1, if_pos (by simp [h1])]
 · rw [if_neg h1, if_neg (by simpa using h1)]
   by_cases h2 : (64 : Int) < a.Text.size
   · rw [if_pos h2, if_pos (by simpa using h2)]
   · rw [if_neg h2, if_neg (by simpa using h2)]
     by_cases h3 : b = true ∧ (a.Low < -2305843009213693952 ∨ 2305843009213693952 < a.High ∨ a.Num < a.Low ∨ a.High < a.Num)
     · rw [if_pos h3, if_pos (by simpa [or_assoc] using h3)]
     · rw [if_neg h3, if_neg (by simpa [or_assoc] using h3)]
       by_cases h4 : a.Real = Zb2 a.Real
       · rw [if_neg (show ¬ (a.Real ≠ Zb2 a.Real) from fun h => h h4), decide_eq_true h4]
         simp only [Bool.not_true, Bool.false_eq_true, if_false]
         cases l
         · simp
         · simp only [Bool.not_true, Bool.false_eq_true, if_false, Bool.true_eq_false]
           by_cases h5 : a.Cap < 1 ∨ 32 < a.Cap
           · rw [if_pos h5, if_pos (by simpa using h5)]
           · rw [if_neg h5, if_neg (by simpa using h5)]
             by_cases h6 : a.Cap < a.List.length
             · rw [if_pos h6, if_pos (by simpa using h6)]
             · rw [if_neg h6, if_neg (by simpa using h6)]
       · rw [if_pos (show a.Real ≠ Zb2 a.Real from h4), decide_eq_false h4]
         rfl
theorem Zz3 : Zdv 1 = some ⟨true, false, false, false, false⟩ := by kernel_rfl
theorem Z0s : Zdv 2 = some ⟨false, true, false, false, false⟩ := by kernel_rfl
theorem Z0p : Zdv 3 = some ⟨false, true, false, false, false⟩ := by kernel_rfl
theorem Z1r : Zdv 4 = some ⟨false, true, true, false, false⟩ := by kernel_rfl
theorem Z1u : Zdv 5 = some ⟨false, false, false, true, false⟩ := by kernel_rfl
theorem Zz5 : Zdv 6 = some ⟨false, false, false, true, false⟩ := by kernel_rfl
theorem Z1w : Zdv 7 = some ⟨false, false, false, true, false⟩ := by kernel_rfl
theorem Z1d : Zdv 8 = some ⟨false, false, false, false, true⟩ := by kernel_rfl
theorem Z00 : Zdv 9 = some ⟨false, false, false, false, true⟩ := by kernel_rfl
def Zqm (t n b r l : Bool) (k : Int) (a : Zd) : Int :=
 if Zgd t n b r l a = false then 4
 else if k = 1 ∧ (64 : Int) < a.Text.size then 3
 else if k = 4 ∧ (a.Low < -2305843009213693952 ∨ 2305843009213693952 < a.High ∨ a.Num < a.Low ∨ a.High < a.Num) then 1
 else if a.Real ≠ Zb2 a.Real then 4
 else if k < 8 then 0
 else if a.Cap < 1 ∨ 32 < a.Cap then 1
 else if a.Cap < a.List.length then 8
 else Zhy a.Kind a.List 0 a.List.length
theorem Zfm {a : Zd} (ha : Zg4 a) {t n b r l : Bool} {s : ByteArray} (hk : ¬ (a.Kind < 1 ∨ 9 < a.Kind)) (hf : Zhv a.Kind = some s)
   (ho : Zcm s (Int.toNat ((s.size : Int) - (0 : Int)) + 1) false false false false false 0 = some (t, n, b, r, l)) : Zc9 a = some (Zqm t n b r l a.Kind a) := by
 unfold Zc9 Zqm
 have hw : IntKind.i64.wrap (0 - (2305843009213693952 : Int)) = -2305843009213693952 := by decide
 rw [hf, Zou ha.real, hw, show (Int.toNat ((a.List.length : Int) - (0 : Int)) + 1) = a.List.length + 1 by omega]
 have hloop := Zq4 ha a.List.length 0 (by omega)
 rw [show ((0 : Nat) : Int) = 0 from rfl] at hloop
 rw [hloop]
 simp only [Option.bind_some]
 rw [if_neg (by simpa using hk), Z34 ha ho]
 simp only [Option.bind_some]
 by_cases h1 : Zgd t n b r l a = false
 · rw [if_pos h1, if_pos (by simp [h1])]
 · rw [if_neg h1, if_neg (by simpa using h1)]
   by_cases h2 : a.Kind = 1 ∧ (64 : Int) < a.Text.size
   · rw [if_pos h2, if_pos (by simpa using h2)]
   · rw [if_neg h2, if_neg (by simpa using h2)]
     by_cases h3 : a.Kind = 4 ∧ (a.Low < -2305843009213693952 ∨ 2305843009213693952 < a.High ∨ a.Num < a.Low ∨ a.High < a.Num)
     · rw [if_pos h3, if_pos (by simpa [or_assoc] using h3)]
     · rw [if_neg h3, if_neg (by simpa [or_assoc] using h3)]
       by_cases h4 : a.Real = Zb2 a.Real
       · rw [if_neg (show ¬ (a.Real ≠ Zb2 a.Real) from fun h => h h4), decide_eq_true h4]
         simp only [Bool.not_true, Bool.false_eq_true, if_false]
         by_cases h7 : a.Kind < 8
         · rw [if_pos h7, if_pos (by simpa using h7)]
         · rw [if_neg h7, if_neg (by simpa using h7)]
           by_cases h5 : a.Cap < 1 ∨ 32 < a.Cap
           · rw [if_pos h5, if_pos (by simpa using h5)]
           · rw [if_neg h5, if_neg (by simpa using h5)]
             by_cases h6 : a.Cap < a.List.length
             · rw [if_pos h6, if_pos (by simpa using h6)]
             · rw [if_neg h6, if_neg (by simpa using h6)]
               unfold endC
               by_cases h : Zhy a.Kind a.List 0 a.List.length = 0 <;> simp [h]
       · rw [if_pos (show a.Real ≠ Zb2 a.Real from h4), decide_eq_false h4]
         rfl
theorem Z5p {t n b r l : Bool} {a : Zd} (h : ¬ Zgd t n b r l a = false) (ht : t = false) : a.Text.size = 0 := by
 subst ht
 have : Zgd false n b r l a = true := by simpa using h
 unfold Zgd at this
 simp only [Bool.false_or, Bool.and_eq_true] at this
 have := Zhe.1 this.1.1.1.1
 rw [this]; rfl
theorem D_eq (t n b r l : Bool) (k : Int) (a : Zd) (ht : t = true ↔ k = 1) (hb : b = true ↔ k = 4) (hl : l = false ↔ k < 8) : Zqm t n b r l k a = Znz t n b r l a := by
 unfold Zqm Znz
 by_cases h1 : Zgd t n b r l a = false
 · rw [if_pos h1, if_pos h1]
 · rw [if_neg h1, if_neg h1]
   have e2 : (k = 1 ∧ (64 : Int) < a.Text.size) ↔ (64 : Int) < a.Text.size := by
     constructor
     · exact fun h => h.2
     · intro h
       refine ⟨ht.1 ?_, h⟩
       cases t
       · have := Z5p h1 rfl; omega
       · rfl
   simp only [e2, hb, hl]
theorem Zk6 {a : Zd} (ha : Zg4 a) : ∃ c, Zdu a = some c ∧ Zc9 a = some c := by
 by_cases hk : a.Kind ≤ 0 ∨ 10 ≤ a.Kind
 · refine ⟨5, ?_, ?_⟩
   · unfold Zdu
     have hs : ∃ s, Zdv a.Kind = some s := by
       have h1 : ¬ a.Kind = 1 := by omega
       have h2 : ¬ a.Kind = 2 := by omega
       have h3 : ¬ a.Kind = 3 := by omega
       have h4 : ¬ a.Kind = 4 := by omega
       have h5 : ¬ a.Kind = 5 := by omega
       have h6 : ¬ a.Kind = 6 := by omega
       have h7 : ¬ a.Kind = 7 := by omega
       have h8 : ¬ a.Kind = 8 := by omega
       have h9 : ¬ a.Kind = 9 := by omega
       exact ⟨⟨false, false, false, false, false⟩, by simp [Zdv, Zi5, Zho, Zi3, h1, h2, h3, h4, h5, h6, h7, h8, h9]⟩
     obtain ⟨s, hs⟩ := hs
     rw [hs]
     simp only [Option.bind_some]
     rw [if_pos (by simpa using hk)]
   · unfold Zc9
     rw [if_pos (by simp; omega)]
 · have hk2 : ¬ (a.Kind < 1 ∨ 9 < a.Kind) := by omega
   have hk' : a.Kind = 1 ∨ a.Kind = 2 ∨ a.Kind = 3 ∨ a.Kind = 4 ∨ a.Kind = 5 ∨ a.Kind = 6 ∨ a.Kind = 7 ∨ a.Kind = 8 ∨ a.Kind = 9 := by omega
   rcases hk' with h | h | h | h | h | h | h | h | h
   · exact ⟨_, Zfl ha hk (by rw [h]; exact Zz3), by rw [Zfm ha hk2 (by rw [h]; kernel_rfl) Z8k, D_eq _ _ _ _ _ _ _ (by simp [h]) (by simp [h]) (by simp [h])]⟩
   · exact ⟨_, Zfl ha hk (by rw [h]; exact Z0s), by rw [Zfm ha hk2 (by rw [h]; kernel_rfl) Z24, D_eq _ _ _ _ _ _ _ (by simp [h]) (by simp [h]) (by simp [h])]⟩
   · exact ⟨_, Zfl ha hk (by rw [h]; exact Z0p), by rw [Zfm ha hk2 (by rw [h]; kernel_rfl) Z24, D_eq _ _ _ _ _ _ _ (by simp [h]) (by simp [h]) (by simp [h])]⟩
   · exact ⟨_, Zfl ha hk (by rw [h]; exact Z1r), by rw [Zfm ha hk2 (by rw [h]; kernel_rfl) Z6b, D_eq _ _ _ _ _ _ _ (by simp [h]) (by simp [h]) (by simp [h])]⟩
   · exact ⟨_, Zfl ha hk (by rw [h]; exact Z1u), by rw [Zfm ha hk2 (by rw [h]; kernel_rfl) Zzn, D_eq _ _ _ _ _ _ _ (by simp [h]) (by simp [h]) (by simp [h])]⟩
   · exact ⟨_, Zfl ha hk (by rw [h]; exact Zz5), by rw [Zfm ha hk2 (by rw [h]; kernel_rfl) Zzn, D_eq _ _ _ _ _ _ _ (by simp [h]) (by simp [h]) (by simp [h])]⟩
   · exact ⟨_, Zfl ha hk (by rw [h]; exact Z1w), by rw [Zfm ha hk2 (by rw [h]; kernel_rfl) Zzn, D_eq _ _ _ _ _ _ _ (by simp [h]) (by simp [h]) (by simp [h])]⟩
   · exact ⟨_, Zfl ha hk (by rw [h]; exact Z1d), by rw [Zfm ha hk2 (by rw [h]; kernel_rfl) Z3p, D_eq _ _ _ _ _ _ _ (by simp [h]) (by simp [h]) (by simp [h])]⟩
   · exact ⟨_, Zfl ha hk (by rw [h]; exact Z00), by rw [Zfm ha hk2 (by rw [h]; kernel_rfl) Z3p, D_eq _ _ _ _ _ _ _ (by simp [h]) (by simp [h]) (by simp [h])]⟩
def endB : Bool → Bool ⊕ Unit
 | true => .inr ()
 | false => .inl false
def eqI (x y : Zj) : Bool := sEq x.Name y.Name && decide (keyf x.Score = keyf y.Score)
def eqL : List Zj → List Zj → Bool
 | [], [] => true
 | x :: xs, y :: ys => eqI x y && eqL xs ys
 | _, _ => false
def Ziu (a b : Zd) : Bool := (a.Kind == b.Kind) && (a.Num == b.Num) && (a.Low == b.Low) && (a.High == b.High) && decide (keyf a.Real = keyf b.Real) && (a.Cap == b.Cap) && sEq a.Text b.Text && eqL a.List b.List
theorem Ztr : ∀ {a b : List Zj}, eqL a b = true → a.length = b.length
 | [], [], _ => rfl
 | x :: xs, y :: ys, h => by
   simp only [eqL, Bool.and_eq_true] at h
   simp [Ztr h.2]
 | [], _ :: _, h => by simp [eqL] at h
 | _ :: _, [], h => by simp [eqL] at h
theorem Z2p {x y : Zj} (hx : x.Score < W64) (hy : y.Score < W64) : Zht x y = some (eqI x y) := by
 unfold Zht eqI
 rw [Zml hx hy]
 cases sEq x.Name y.Name <;> simp [gd]
theorem Zwb {a b : List Zj} (ha : ∀ e ∈ a, e.Score < W64) (hb : ∀ e ∈ b, e.Score < W64) (hl : a.length < 4611686018427387904) (he : a.length = b.length) : ∀ (n i : Nat), i + n = a.length →
   Zbg a b (fun y0 y1 => Zht y0 y1) (n + 1) (i : Int) = some (endB (eqL (a.drop i) (b.drop i)))
 | 0, i, h => by
   rw [Zbg, if_neg (by simp; omega), List.drop_of_length_le (by omega), List.drop_of_length_le (by omega)]
   rfl
 | n + 1, i, h => by
   have h1 : i < a.length := by omega
   have h2 : i < b.length := by omega
   rw [Zbg, if_pos (by simp; omega), Zcy h1, Zcy h2, wr1 (by omega)]
   simp only [Option.bind_some]
   rw [Z2p (ha _ (List.getElem_mem h1)) (hb _ (List.getElem_mem h2)), List.drop_eq_getElem_cons h1, List.drop_eq_getElem_cons h2]
   simp only [Option.bind_some, eqL]
   cases hq : eqI a[i] b[i]
   · simp [endB]
   · simp only [Bool.not_true, Bool.false_eq_true, if_false, Bool.true_and]
     exact Zwb ha hb hl he n (i + 1) (by omega)
theorem Z5y {a b : List Zj} (ha : ∀ e ∈ a, e.Score < W64) (hb : ∀ e ∈ b, e.Score < W64) (hl : a.length < 4611686018427387904) : Zb4 a b (fun y0 y1 => Zht y0 y1) = some (eqL a b) := by
 unfold Zb4
 by_cases he : a.length = b.length
 · rw [if_neg (by simp; omega), show (Int.toNat ((a.length : Int) - (0 : Int)) + 1) = a.length + 1 by omega]
   have := Zwb ha hb hl he a.length 0 (by omega)
   rw [show ((0 : Nat) : Int) = 0 from rfl] at this
   rw [this]
   simp only [List.drop_zero]
   cases eqL a b <;> simp [endB]
 · rw [if_pos (by simp; omega)]
   cases h : eqL a b
   · rfl
   · exact absurd (Ztr h) he
theorem Zrh {a b : Zd} (ha : Zg4 a) (hb : Zg4 b) : Zkj a b = some (Ziu a b) := by
 unfold Zkj Ziu
 rw [Zml ha.real hb.real, Z5y ha.sc hb.sc ha.len]
 generalize (a.Kind == b.Kind) = x1
 generalize (a.Num == b.Num) = x2
 generalize (a.Low == b.Low) = x3
 generalize (a.High == b.High) = x4
 generalize decide (keyf a.Real = keyf b.Real) = x5
 generalize (a.Cap == b.Cap) = x6
 generalize sEq a.Text b.Text = x7
 generalize eqL a.List b.List = x8
 revert x1 x2 x3 x4 x5 x6 x7 x8
 decide
theorem Zsg {a b : Zd} (ha : Zg4 a) (hb : Zg4 b) (he : a.List.length = b.List.length) : ∀ (n i : Nat), i + n = a.List.length →
   Zf1 a b (n + 1) (i : Int) = some (endB (eqL (a.List.drop i) (b.List.drop i)))
 | 0, i, h => by
   rw [Zf1, if_neg (by simp; omega), List.drop_of_length_le (by omega), List.drop_of_length_le (by omega)]
   rfl
 | n + 1, i, h => by
   have h1 : i < a.List.length := by omega
   have h2 : i < b.List.length := by omega
   have hl := ha.len
   have hs1 := ha.sc _ (List.getElem_mem h1)
   have hs2 := hb.sc _ (List.getElem_mem h2)
   rw [Zf1, if_pos (by simp; omega), Zcy h1, Zcy h2, wr1 (by omega), List.drop_eq_getElem_cons h1, List.drop_eq_getElem_cons h2]
   simp only [Option.bind_some, eqL, eqI]
   cases hn : sEq a.List[i].Name b.List[i].Name
   · simp [gd, endB]
   · simp only [Bool.not_true, Bool.not_false, gd_t, Option.bind_some]
     rw [Zlp hs1 hs2]
     simp only [Option.bind_some, Bool.false_or, Bool.true_and]
     by_cases hk : keyf a.List[i].Score = keyf b.List[i].Score
     · simp only [hk, decide_true, Bool.not_true, Bool.false_eq_true, if_false, Bool.true_and]
       exact Zsg ha hb he n (i + 1) (by omega)
     · simp [hk, endB]
theorem Z0j {a b : Zd} (ha : Zg4 a) (hb : Zg4 b) : Zkn a b = some (Ziu a b) := by
 unfold Zkn Ziu
 rw [Zlp ha.real hb.real]
 by_cases he : a.List.length = b.List.length
 · have := Zsg ha hb he a.List.length 0 (by omega)
   rw [show ((0 : Nat) : Int) = 0 from rfl] at this
   rw [show (Int.toNat ((a.List.length : Int) - (0 : Int)) + 1) = a.List.length + 1 by omega, this]
   have hn : ((a.List.length : Int) != (b.List.length : Int)) = false := by simp; omega
   rw [hn]
   simp only [List.drop_zero, bne]
   generalize (a.Kind == b.Kind) = x1
   generalize (a.Num == b.Num) = x2
   generalize (a.Low == b.Low) = x3
   generalize (a.High == b.High) = x4
   generalize decide (keyf a.Real = keyf b.Real) = x5
   generalize (a.Cap == b.Cap) = x6
   generalize sEq a.Text b.Text = x7
   generalize eqL a.List b.List = x8
   clear this hn he
   revert x1 x2 x3 x4 x5 x6 x7 x8
   decide
 · have h8 : eqL a.List b.List = false := by
     cases h : eqL a.List b.List
     · rfl
     · exact absurd (Ztr h) he
   have hn : ((a.List.length : Int) != (b.List.length : Int)) = true := by simp; omega
   rw [hn, h8]
   simp only [bne, Bool.or_true, Option.bind_some, if_true, Bool.and_false, ite_self]
theorem Zsu {a : Zd} (hl : a.List.length ≤ 9223372036854775807) : ∀ (n i : Nat), i + n = a.List.length → ∃ z, Zd5 a (n + 1) (i : Int) = some z ∧ (z = .inl 1 ∨ z = .inr ())
 | 0, i, h => by
   rw [Zd5, if_neg (by simp; omega)]
   exact ⟨_, rfl, .inr rfl⟩
 | n + 1, i, h => by
   rw [Zd5, if_pos (by simp; omega), Zcy (by omega), wr1 (by omega)]
   simp only [Option.bind_some]
   split
   · exact ⟨_, rfl, .inl rfl⟩
   · exact Zsu hl n (i + 1) (by omega)
theorem Z3o {a : Zd} (hl : a.List.length ≤ 9223372036854775807) : ∃ c, Zgr a = some c ∧ (c = 0 ∨ c = 1) ∧ (c = 0 → a.List.length ≤ 100) := by
 unfold Zgr
 by_cases h : (100 : Int) < a.List.length ∨ (1000 : Int) < a.Text.size
 · rw [if_pos (by simpa using h)]
   exact ⟨1, rfl, .inr rfl, fun h => by cases h⟩
 · rw [if_neg (by simpa using h), show (Int.toNat ((a.List.length : Int) - (0 : Int)) + 1) = a.List.length + 1 by omega]
   obtain ⟨z, hz, hc⟩ := Zsu hl a.List.length 0 (by omega)
   rw [show ((0 : Nat) : Int) = 0 from rfl] at hz
   rw [hz]
   rcases hc with rfl | rfl
   · exact ⟨1, rfl, .inr rfl, fun h => by cases h⟩
   · exact ⟨0, rfl, .inl rfl, fun _ => by omega⟩
abbrev KV := ByteArray × Zd
def toL : shelf_nodeT → List KV
 | .nil => []
 | .node k r l rr _ => toL l ++ (k, r) :: toL rr
def Szd : shelf_nodeT → Prop
 | .nil => True
 | .node k r l rr s => Szd l ∧ Szd rr ∧ s = (((toL l).length + (toL rr).length + 1 : Nat) : Int)
def Srt (l : List KV) : Prop := l.Pairwise fun p q => sLt p.1 q.1 = true
theorem Zgw {t : shelf_nodeT} (h : Szd t) : Zcc t = some ((toL t).length : Int) := by
 cases t with
 | nil => rfl
 | node k r l rr s =>
   obtain ⟨_, _, h3⟩ := h
   simp [Zcc, shelf_nodeT.isNil, shelf_nodeT.un, toL, h3]
   omega
theorem Z5j {k : ByteArray} {x : Zd} {l r : shelf_nodeT} (hl : Szd l) (hr : Szd r) (bl : (toL l).length < 1099511627776) (br : (toL r).length < 1099511627776) :
   Zdg k x l r = some (.node k x l r (((toL l).length + (toL r).length + 1 : Nat) : Int)) := by
 unfold Zdg
 rw [Zgw hl, Zgw hr]
 simp only [Option.bind_some, shelf_node.up]
 rw [wr (x := (toL l).length + (toL r).length) (by omega) (by omega), wr (by omega) (by omega)]
 rfl
theorem Zhg {k : ByteArray} {x : Zd} {l r : shelf_nodeT} (hl : Szd l) (hr : Szd r) (bl : (toL l).length < 1099511627776) (br : (toL r).length < 1099511627776) :
   ∃ t, Zdg k x l r = some t ∧ Szd t ∧ toL t = toL l ++ (k, x) :: toL r := ⟨_, Z5j hl hr bl br, ⟨hl, hr, rfl⟩, rfl⟩
def Zl5 (a b : shelf_nodeT) : Bool := decide (3 * ((toL b).length + 1) < (toL a).length + 1)
theorem Zvo {a b : shelf_nodeT} (ha : Szd a) (hb : Szd b) (ba : (toL a).length < 1099511627776) (bb : (toL b).length < 1099511627776) : Zhc a b = some (Zl5 a b) := by
 unfold Zhc Zl5
 rw [Zgw ha, Zgw hb]
 simp only [Option.bind_some]
 rw [wr (x := ((toL b).length : Int) + 1) (by omega) (by omega), wr (x := ((toL a).length : Int) + 1) (by omega) (by omega), wr (by omega) (by omega)]
 congr 1
 apply decide_eq_decide.2
 omega
theorem Zsb {t : shelf_nodeT} (h : 0 < (toL t).length) : ∃ k r l rr s, t = .node k r l rr s := by
 cases t with
 | nil => simp [toL] at h
 | node k r l rr s => exact ⟨k, r, l, rr, s, rfl⟩
theorem Znx {k : ByteArray} {x : Zd} {l r : shelf_nodeT} (hl : Szd l) (hr : Szd r) (bl : (toL l).length < 1099511627776) (br : (toL r).length < 1099511627776) (bs : (toL l).length + (toL r).length + 1 < 1099511627776) :
   ∃ t, Zg3 k x l r = some t ∧ Szd t ∧ toL t = toL l ++ (k, x) :: toL r := by
 unfold Zg3
 rw [Zvo hr hl br bl, Zvo hl hr bl br]
 simp only [Option.bind_some]
 by_cases h1 : Zl5 r l = true
 · have hlen : 0 < (toL r).length := by
     unfold Zl5 at h1
     have := of_decide_eq_true h1
     omega
   obtain ⟨rk, rx, rl, rr, rs, rfl⟩ := Zsb hlen
   obtain ⟨s1, s2, s3⟩ := hr
   have e : (toL (shelf_nodeT.node rk rx rl rr rs)).length = (toL rl).length + (toL rr).length + 1 := by simp [toL]; omega
   rw [e] at br bs
   simp only [h1, gd_t, shelf_nodeT.un, Option.bind_some, if_true]
   rw [Zgw s1, Zgw s2]
   simp only [Option.bind_some, Bool.true_and]
   by_cases h2 : (decide (IntKind.i64.wrap (((toL rl).length : Int) + 1) < IntKind.i64.wrap (2 * IntKind.i64.wrap (((toL rr).length : Int) + 1)))) = true
   · rw [if_pos h2]
     obtain ⟨t1, e1, z1, l1⟩ := Zhg (k := k) (x := x) hl s1 bl (by omega)
     have b1 : (toL t1).length < 1099511627776 := by rw [l1]; simp; omega
     obtain ⟨t2, e2, z2, l2⟩ := Zhg (k := rk) (x := rx) z1 s2 b1 (by omega)
     exact ⟨t2, by rw [e1]; simp only [Option.bind_some]; rw [e2]; rfl, z2, by rw [l2, l1]; simp [toL]⟩
   · rw [if_neg h2]
     have hlen2 : 0 < (toL rl).length := by
       rw [wr (x := ((toL rr).length : Int) + 1) (by omega) (by omega), wr (x := ((toL rl).length : Int) + 1) (by omega) (by omega), wr (by omega) (by omega)] at h2
       have : ¬ ((toL rl).length : Int) + 1 < 2 * ((toL rr).length + 1) := by simpa using h2
       omega
     obtain ⟨lk, lx, ll, lr, ls, rfl⟩ := Zsb hlen2
     obtain ⟨q1, q2, q3⟩ := s1
     have e' : (toL (shelf_nodeT.node lk lx ll lr ls)).length = (toL ll).length + (toL lr).length + 1 := by simp [toL]; omega
     rw [e'] at br bs
     simp only [shelf_nodeT.un, Option.bind_some]
     obtain ⟨t1, e1, z1, l1⟩ := Zhg (k := k) (x := x) hl q1 bl (by omega)
     obtain ⟨t2, e2, z2, l2⟩ := Zhg (k := rk) (x := rx) q2 s2 (by omega) (by omega)
     have b1 : (toL t1).length < 1099511627776 := by rw [l1]; simp; omega
     have b2 : (toL t2).length < 1099511627776 := by rw [l2]; simp; omega
     obtain ⟨t3, e3, z3, l3⟩ := Zhg (k := lk) (x := lx) z1 z2 b1 b2
     exact ⟨t3, by rw [e1]; simp only [Option.bind_some]; rw [e2]; simp only [Option.bind_some]; rw [e3]; rfl, z3, by rw [l3, l1, l2]; simp [toL]⟩
 · have h1' : Zl5 r l = false := by simpa using h1
   simp only [h1', gd_f, Option.bind_some, Bool.false_and, Bool.false_eq_true, if_false]
   by_cases h3 : Zl5 l r = true
   · have hlen : 0 < (toL l).length := by
       unfold Zl5 at h3
       have := of_decide_eq_true h3
       omega
     obtain ⟨rk, rx, rl, rr, rs, rfl⟩ := Zsb hlen
     obtain ⟨s1, s2, s3⟩ := hl
     have e : (toL (shelf_nodeT.node rk rx rl rr rs)).length = (toL rl).length + (toL rr).length + 1 := by simp [toL]; omega
     rw [e] at bl bs
     simp only [h3, gd_t, shelf_nodeT.un, Option.bind_some, if_true]
     rw [Zgw s2, Zgw s1]
     simp only [Zcc, shelf_nodeT.isNil, if_true, Option.bind_some, Bool.true_and]
     by_cases h2 : (decide (IntKind.i64.wrap (((toL rr).length : Int) + 1) < IntKind.i64.wrap (2 * IntKind.i64.wrap (((toL rl).length : Int) + 1)))) = true
     · rw [if_pos h2]
       obtain ⟨t1, e1, z1, l1⟩ := Zhg (k := k) (x := x) s2 hr (by omega) br
       have b1 : (toL t1).length < 1099511627776 := by rw [l1]; simp; omega
       obtain ⟨t2, e2, z2, l2⟩ := Zhg (k := rk) (x := rx) s1 z1 (by omega) b1
       exact ⟨t2, by rw [e1]; simp only [Option.bind_some]; rw [e2]; rfl, z2, by rw [l2, l1]; simp [toL]⟩
     · rw [if_neg h2]
       have hlen2 : 0 < (toL rr).length := by
         rw [wr (x := ((toL rl).length : Int) + 1) (by omega) (by omega), wr (x := ((toL rr).length : Int) + 1) (by omega) (by omega), wr (by omega) (by omega)] at h2
         have : ¬ ((toL rr).length : Int) + 1 < 2 * ((toL rl).length + 1) := by simpa using h2
         omega
       obtain ⟨lk, lx, ll, lr, ls, rfl⟩ := Zsb hlen2
       obtain ⟨q1, q2, q3⟩ := s2
       have e' : (toL (shelf_nodeT.node lk lx ll lr ls)).length = (toL ll).length + (toL lr).length + 1 := by simp [toL]; omega
       rw [e'] at bl bs
       simp only [shelf_nodeT.un, Option.bind_some]
       obtain ⟨t1, e1, z1, l1⟩ := Zhg (k := rk) (x := rx) s1 q1 (by omega) (by omega)
       obtain ⟨t2, e2, z2, l2⟩ := Zhg (k := k) (x := x) q2 hr (by omega) br
       have b1 : (toL t1).length < 1099511627776 := by rw [l1]; simp; omega
       have b2 : (toL t2).length < 1099511627776 := by rw [l2]; simp; omega
       obtain ⟨t3, e3, z3, l3⟩ := Zhg (k := lk) (x := lx) z1 z2 b1 b2
       exact ⟨t3, by rw [e1]; simp only [Option.bind_some]; rw [e2]; simp only [Option.bind_some]; rw [e3]; rfl, z3, by rw [l3, l1, l2]; simp [toL]⟩
   · have h3' : Zl5 l r = false := by simpa using h3
     simp only [h3', gd_f, Option.bind_some, Bool.false_and, Bool.false_eq_true, if_false]
     obtain ⟨t1, e1, z1, l1⟩ := Zhg (k := k) (x := x) hl hr bl br
     exact ⟨t1, by rw [e1]; simp [Zcc, shelf_nodeT.isNil, shelf_nodeT.un, Option.bind_some, gd], z1, l1⟩
def insL (k : ByteArray) (x : Zd) : List KV → List KV
 | [] => [(k, x)]
 | p :: l => if sLt k p.1 then (k, x) :: p :: l else if sEq k p.1 then (k, x) :: l else p :: insL k x l
def delL (k : ByteArray) : List KV → List KV
 | [] => []
 | p :: l => if sEq k p.1 then l else p :: delL k l
theorem Zmq (k : ByteArray) (x : Zd) : ∀ l : List KV, (insL k x l).length ≤ l.length + 1
 | [] => by simp [insL]
 | p :: l => by
   have := Zmq k x l
   simp only [insL]
   split
   · simp
   · split <;> simp <;> omega
theorem Zot (k : ByteArray) : ∀ l : List KV, (delL k l).length ≤ l.length
 | [] => by simp [delL]
 | p :: l => by
   have := Zot k l
   simp only [delL]
   split <;> simp <;> omega
theorem Zyq {k : ByteArray} {x : Zd} {p : KV} {B : List KV} (h : sLt k p.1 = true) : ∀ A : List KV, insL k x (A ++ p :: B) = insL k x A ++ p :: B
 | [] => by simp [insL, h]
 | q :: A => by
   simp only [List.cons_append, insL]
   split
   · rfl
   · split
     · rfl
     · rw [Zyq h A]; rfl
theorem Zpk {k : ByteArray} {x : Zd} {B : List KV} : ∀ A : List KV, (∀ q ∈ A, sLt q.1 k = true) → insL k x (A ++ B) = A ++ insL k x B
 | [], _ => rfl
 | q :: A, h => by
   have hq := h q (by simp)
   have h1 : sLt k q.1 = false := Zrs hq
   have h2 : sEq k q.1 = false := Zd1.2 (fun e => Zk2 hq e.symm)
   simp only [List.cons_append, insL, h1, h2, Bool.false_eq_true, if_false]
   rw [Zpk A fun q hq => h q (by simp [hq])]
theorem Z32 {k : ByteArray} {x : Zd} {p : KV} {B : List KV} (h : k = p.1) : insL k x (p :: B) = (k, x) :: B := by
 simp [insL, h, Zky, Zef]
theorem Z5d {k : ByteArray} {x : Zd} {p : KV} {B : List KV} (h : sLt p.1 k = true) : insL k x (p :: B) = p :: insL k x B := by
 have h1 : sLt k p.1 = false := Zrs h
 have h2 : sEq k p.1 = false := Zd1.2 (fun e => Zk2 h e.symm)
 simp [insL, h1, h2]
theorem Zoq {k : ByteArray} : ∀ l : List KV, (∀ q ∈ l, q.1 ≠ k) → delL k l = l
 | [], _ => rfl
 | p :: l, h => by
   have : sEq k p.1 = false := Zd1.2 (fun e => h p (by simp) e.symm)
   simp only [delL, this, Bool.false_eq_true, if_false]
   rw [Zoq l fun q hq => h q (by simp [hq])]
theorem Zyp {k : ByteArray} {p : KV} {B : List KV} (h : sLt k p.1 = true) (hB : ∀ q ∈ B, sLt p.1 q.1 = true) : ∀ A : List KV, delL k (A ++ p :: B) = delL k A ++ p :: B
 | [] => by
   have h1 : sEq k p.1 = false := Zd1.2 (Zk2 h)
   simp only [List.nil_append, delL, h1, Bool.false_eq_true, if_false]
   rw [Zoq B fun q hq e => by
     have := Zfc h (hB q hq)
     rw [e, Zky] at this; cases this]
 | q :: A => by
   simp only [List.cons_append, delL]
   split
   · rfl
   · rw [Zyp h hB A]; rfl
theorem Zpn {k : ByteArray} {B : List KV} : ∀ A : List KV, (∀ q ∈ A, sLt q.1 k = true) → delL k (A ++ B) = A ++ delL k B
 | [], _ => rfl
 | q :: A, h => by
   have hq := h q (by simp)
   have h2 : sEq k q.1 = false := Zd1.2 (fun e => Zk2 hq e.symm)
   simp only [List.cons_append, delL, h2, Bool.false_eq_true, if_false]
   rw [Zpn A fun q hq => h q (by simp [hq])]
theorem Ztg {A B : List KV} {p : KV} (h : Srt (A ++ p :: B)) : Srt A ∧ Srt B ∧ (∀ q ∈ A, sLt q.1 p.1 = true) ∧ (∀ q ∈ B, sLt p.1 q.1 = true) := by
 obtain ⟨h1, h2, h3⟩ := List.pairwise_append.1 h
 obtain ⟨h4, h5⟩ := List.pairwise_cons.1 h2
 exact ⟨h1, h5, fun q hq => h3 q hq p (by simp), h4⟩
theorem Zqn {k : ByteArray} {x : Zd} : ∀ {l : List KV} {q : KV}, q ∈ insL k x l → q = (k, x) ∨ q ∈ l
 | [], q, h => by simp [insL] at h; exact .inl h
 | p :: l, q, h => by
   simp only [insL] at h
   split at h
   · rcases List.mem_cons.1 h with h | h
     · exact .inl h
     · exact .inr h
   · split at h
     · rcases List.mem_cons.1 h with h | h
       · exact .inl h
       · exact .inr (List.mem_cons_of_mem _ h)
     · rcases List.mem_cons.1 h with h | h
       · exact .inr (by simp [h])
       · rcases Zqn h with h | h
         · exact .inl h
         · exact .inr (List.mem_cons_of_mem _ h)
theorem Zp8 {k : ByteArray} : ∀ {l : List KV} {q : KV}, q ∈ delL k l → q ∈ l
 | [], q, h => by simp [delL] at h
 | p :: l, q, h => by
   simp only [delL] at h
   split at h
   · exact List.mem_cons_of_mem _ h
   · rcases List.mem_cons.1 h with h | h
     · simp [h]
     · exact List.mem_cons_of_mem _ (Zp8 h)
theorem Zx8 {k : ByteArray} {x : Zd} : ∀ {l : List KV}, Srt l → Srt (insL k x l)
 | [], _ => List.pairwise_singleton ..
 | p :: l, h => by
   obtain ⟨h1, h2⟩ := List.pairwise_cons.1 h
   simp only [insL]
   split
   · rename_i hk
     refine List.pairwise_cons.2 ⟨fun q hq => ?_, h⟩
     rcases List.mem_cons.1 hq with rfl | hq
     · exact hk
     · exact Zfc hk (h1 q hq)
   · rename_i hk
     split
     · rename_i he
       have he := Zhe.1 he
       exact List.pairwise_cons.2 ⟨fun q hq => by rw [he]; exact h1 q hq, h2⟩
     · rename_i he
       have hlt : sLt p.1 k = true := Zlo (by simpa using hk) (fun e => he (Zhe.2 e))
       refine List.pairwise_cons.2 ⟨fun q hq => ?_, Zx8 h2⟩
       rcases Zqn hq with rfl | hq
       · exact hlt
       · exact h1 q hq
theorem Zxy {k : ByteArray} : ∀ {l : List KV}, Srt l → Srt (delL k l)
 | [], h => h
 | p :: l, h => by
   obtain ⟨h1, h2⟩ := List.pairwise_cons.1 h
   simp only [delL]
   split
   · exact h2
   · exact List.pairwise_cons.2 ⟨fun q hq => h1 q (Zp8 hq), Zxy h2⟩
theorem Zwz : ∀ (n : Nat) (t : shelf_nodeT) (k : ByteArray) (x : Zd), t.hh < n → Szd t → Srt (toL t) → (toL t).length + 2 < 1099511627776 →
   ∃ t', Zek n t k x = some t' ∧ Szd t' ∧ toL t' = insL k x (toL t)
 | 0, t, k, x, h, _, _, _ => by omega
 | n + 1, .nil, k, x, _, _, _, _ => by
   obtain ⟨t1, e1, z1, l1⟩ := Zhg (k := k) (x := x) (l := .nil) (r := .nil) trivial trivial (by simp [toL]) (by simp [toL])
   refine ⟨t1, ?_, z1, by rw [l1]; rfl⟩
   simp only [Zek, Zhk, shelf_nodeT.isNil, if_true]
   rw [e1]; rfl
 | n + 1, .node nk nx l r s, k, x, hh, hz, hs, hb => by
   obtain ⟨z1, z2, z3⟩ := hz
   simp only [toL] at hs hb
   obtain ⟨s1, s2, sA, sB⟩ := Ztg hs
   have hlen : (toL l ++ (nk, nx) :: toL r).length = (toL l).length + (toL r).length + 1 := by simp; omega
   rw [hlen] at hb
   simp only [shelf_nodeT.hh] at hh
   simp only [Zek, Zhk, shelf_nodeT.isNil, shelf_nodeT.un, Bool.false_eq_true, if_false, Option.bind_some]
   by_cases h1 : sLt k nk = true
   · rw [if_pos h1]
     obtain ⟨t1, e1, y1, l1⟩ := Zwz n l k x (by omega) z1 s1 (by omega)
     have b1 := Zmq k x (toL l)
     rw [← l1] at b1
     obtain ⟨t2, e2, y2, l2⟩ := Znx (k := nk) (x := nx) y1 z2 (by omega) (by omega) (by omega)
     refine ⟨t2, by rw [e1]; simp only [Option.bind_some]; rw [e2]; rfl, y2, ?_⟩
     rw [l2, l1]; simp only [toL]; rw [Zyq (by exact h1)]
   · rw [if_neg h1]
     by_cases h2 : k = nk
     · subst h2
       have he : (!(sLt k k || sEq k k)) = false := by simp [Zef]
       rw [he]
       simp only [Bool.false_eq_true, if_false]
       obtain ⟨t1, e1, y1, l1⟩ := Zhg (k := k) (x := x) z1 z2 (by omega) (by omega)
       refine ⟨t1, by rw [e1]; rfl, y1, ?_⟩
       rw [l1]; simp only [toL]
       rw [Zpk _ (fun q hq => sA q hq), Z32 rfl]
     · have h3 : sLt nk k = true := Zlo (by simpa using h1) h2
       have he : (!(sLt k nk || sEq k nk)) = true := by simp [Zd1.2 h2]; simpa using h1
       rw [he]
       simp only [if_true]
       obtain ⟨t1, e1, y1, l1⟩ := Zwz n r k x (by omega) z2 s2 (by omega)
       have b1 := Zmq k x (toL r)
       rw [← l1] at b1
       obtain ⟨t2, e2, y2, l2⟩ := Znx (k := nk) (x := nx) z1 y1 (by omega) (by omega) (by omega)
       refine ⟨t2, by rw [e1]; simp only [Option.bind_some]; rw [e2]; rfl, y2, ?_⟩
       rw [l2, l1]; simp only [toL]
       rw [Zpk _ (fun q hq => Zfc (sA q hq) h3), Z5d h3]
theorem Zxr {t : shelf_nodeT} {k : ByteArray} {x : Zd} (hz : Szd t) (hs : Srt (toL t)) (hb : (toL t).length + 2 < 1099511627776) :
   ∃ t', Zln t k x = some t' ∧ Szd t' ∧ toL t' = insL k x (toL t) := Zwz _ t k x (Nat.lt_succ_self _) hz hs hb
theorem Zv5 : ∀ (n : Nat) (t : shelf_nodeT), t.hh < n → t.isNil = false → ∃ t' k x l r s B, Zed n t = some t' ∧ t' = .node k x l r s ∧ toL t = (k, x) :: B
 | 0, t, h, _ => by omega
 | n + 1, .nil, _, h => by cases h
 | n + 1, .node k x l r s, hh, _ => by
   simp only [shelf_nodeT.hh] at hh
   simp only [Zed, shelf_nodeT.un, Option.bind_some]
   cases l with
   | nil => exact ⟨_, k, x, .nil, r, s, toL r, rfl, rfl, rfl⟩
   | node k2 x2 l2 r2 s2 =>
     obtain ⟨t', k', x', l', r', s', B, e1, e2, e3⟩ := Zv5 n (.node k2 x2 l2 r2 s2) (by omega) rfl
     exact ⟨t', k', x', l', r', s', B ++ (k, x) :: toL r, by simp [shelf_nodeT.isNil]; exact e1, e2, by
       simp only [toL] at e3 ⊢
       rw [e3]; rfl⟩
theorem Zsn : ∀ (n : Nat) (t : shelf_nodeT) (k : ByteArray), t.hh < n → Szd t → Srt (toL t) → (toL t).length + 2 < 1099511627776 →
   ∃ t', Zfb n t k = some t' ∧ Szd t' ∧ toL t' = delL k (toL t)
 | 0, t, k, h, _, _, _ => by omega
 | n + 1, .nil, k, _, _, _, _ => ⟨.nil, rfl, trivial, rfl⟩
 | n + 1, .node nk nx l r s, k, hh, hz, hs, hb => by
   obtain ⟨z1, z2, z3⟩ := hz
   simp only [toL] at hs hb
   obtain ⟨s1, s2, sA, sB⟩ := Ztg hs
   have hlen : (toL l ++ (nk, nx) :: toL r).length = (toL l).length + (toL r).length + 1 := by simp; omega
   rw [hlen] at hb
   simp only [shelf_nodeT.hh] at hh
   simp only [Zfb, Ziy, shelf_nodeT.isNil, shelf_nodeT.un, Bool.false_eq_true, if_false, Option.bind_some]
   by_cases h1 : sLt k nk = true
   · rw [if_pos h1]
     obtain ⟨t1, e1, y1, l1⟩ := Zsn n l k (by omega) z1 s1 (by omega)
     have b1 := Zot k (toL l)
     rw [← l1] at b1
     obtain ⟨t2, e2, y2, l2⟩ := Znx (k := nk) (x := nx) y1 z2 (by omega) (by omega) (by omega)
     refine ⟨t2, by rw [e1]; simp only [Option.bind_some]; rw [e2]; rfl, y2, ?_⟩
     rw [l2, l1]; simp only [toL]; rw [Zyp (by exact h1) (fun q hq => sB q hq)]
   · rw [if_neg h1]
     by_cases h2 : k = nk
     · subst h2
       have he : (!(sLt k k || sEq k k)) = false := by simp [Zef]
       rw [he]
       simp only [Bool.false_eq_true, if_false]
       have hdel : delL k (toL l ++ (k, nx) :: toL r) = toL l ++ toL r := by
         rw [Zpn _ (fun q hq => sA q hq)]
         simp [delL, Zef]
       cases hl : l with
       | nil => exact ⟨r, by simp [shelf_nodeT.isNil, shelf_nodeT.un], z2, by show toL r = delL k (toL .nil ++ (k, nx) :: toL r); rw [← hl, hdel, hl]; rfl⟩
       | node k2 x2 l2 r2 q2 =>
         cases hr : r with
         | nil => exact ⟨l, by simp [shelf_nodeT.isNil, shelf_nodeT.un, hl], z1, by rw [← hl, ← hr]; show toL l = delL k (toL l ++ (k, nx) :: toL r); rw [hdel, hr]; simp [toL]⟩
         | node k3 x3 l3 r3 q3 =>
           rw [← hl, ← hr]
           have hn : r.isNil = false := by rw [hr]; rfl
           have hn1 : l.isNil = false := by rw [hl]; rfl
           obtain ⟨t', k', x', l', r', s', B, e1, e2, e3⟩ := Zv5 (r.hh + 1) r (Nat.lt_succ_self _) hn
           subst e2
           have hf : Zhi r = some (.node k' x' l' r' s') := by
             unfold Zhi; rw [e1]; rfl
           obtain ⟨t1, c1, y1, l1⟩ := Zsn n r k' (by omega) z2 s2 (by omega)
           have hB : toL t1 = B := by rw [l1, e3]; simp [delL, Zef]
           have hBl : B.length + 1 = (toL r).length := by rw [e3]; simp
           obtain ⟨t2, c2, y2, l2⟩ := Znx (k := k') (x := x') z1 y1 (by omega) (by rw [hB]; omega) (by rw [hB]; omega)
           refine ⟨t2, ?_, y2, ?_⟩
           · simp only [hf, Option.bind_some, shelf_nodeT.un, c1, c2]
             show (if l.isNil = true then some r else if r.isNil = true then some l else some t2) = some t2
             rw [hn, hn1]; rfl
           · show toL t2 = delL k (toL l ++ (k, nx) :: toL r)
             rw [hdel, l2, hB, e3]
     · have h3 : sLt nk k = true := Zlo (by simpa using h1) h2
       have he : (!(sLt k nk || sEq k nk)) = true := by simp [Zd1.2 h2]; simpa using h1
       rw [he]
       simp only [if_true]
       obtain ⟨t1, e1, y1, l1⟩ := Zsn n r k (by omega) z2 s2 (by omega)
       have b1 := Zot k (toL r)
       rw [← l1] at b1
       obtain ⟨t2, e2, y2, l2⟩ := Znx (k := nk) (x := nx) z1 y1 (by omega) (by omega) (by omega)
       refine ⟨t2, by rw [e1]; simp only [Option.bind_some]; rw [e2]; rfl, y2, ?_⟩
       rw [l2, l1]; simp only [toL]
       rw [Zpn _ (fun q hq => Zfc (sA q hq) h3)]
       simp [delL, Zd1.2 h2]
theorem Z4u {t : shelf_nodeT} {k : ByteArray} (hz : Szd t) (hs : Srt (toL t)) (hb : (toL t).length + 2 < 1099511627776) :
   ∃ t', Zlm t k = some t' ∧ Szd t' ∧ toL t' = delL k (toL t) := Zsn _ t k (Nat.lt_succ_self _) hz hs hb
def lk (k : ByteArray) : List KV → Option Zd
 | [] => none
 | p :: l => if sEq k p.1 then some p.2 else lk k l
def rk (k : ByteArray) : List KV → Nat
 | [] => 0
 | p :: l => if sLt p.1 k then rk k l + 1 else 0
theorem Zrv {k : ByteArray} : ∀ {l : List KV}, (∀ q ∈ l, q.1 ≠ k) → lk k l = none
 | [], _ => rfl
 | p :: l, h => by
   have : sEq k p.1 = false := Zd1.2 (fun e => h p (by simp) e.symm)
   simp only [lk, this, Bool.false_eq_true, if_false]
   exact Zrv fun q hq => h q (by simp [hq])
theorem Z3i {k : ByteArray} {p : KV} {B : List KV} (h : sLt k p.1 = true) (hB : ∀ q ∈ B, sLt p.1 q.1 = true) : ∀ A : List KV, lk k (A ++ p :: B) = lk k A
 | [] => by
   have h1 : sEq k p.1 = false := Zd1.2 (Zk2 h)
   simp only [List.nil_append, lk, h1, Bool.false_eq_true, if_false]
   exact Zrv fun q hq e => by
     have := Zfc h (hB q hq)
     rw [e, Zky] at this; cases this
 | q :: A => by
   simp only [List.cons_append, lk]
   split
   · rfl
   · exact Z3i h hB A
theorem Zta {k : ByteArray} {B : List KV} : ∀ A : List KV, (∀ q ∈ A, sLt q.1 k = true) → lk k (A ++ B) = lk k B
 | [], _ => rfl
 | q :: A, h => by
   have hq := h q (by simp)
   have h2 : sEq k q.1 = false := Zd1.2 (fun e => Zk2 hq e.symm)
   simp only [List.cons_append, lk, h2, Bool.false_eq_true, if_false]
   exact Zta A fun q hq => h q (by simp [hq])
theorem Zsk (k : ByteArray) : ∀ l : List KV, rk k l ≤ l.length
 | [] => by simp [rk]
 | p :: l => by
   have := Zsk k l
   simp only [rk]
   split <;> simp <;> omega
def Cl (x : Zd) : Prop := x.List.length ≤ 1000
theorem Zog {x : Zd} (h : Cl x) : Ze1 x = some x := by
 unfold Ze1 Zbs
 unfold Cl at h
 rw [if_pos (by omega)]
 rfl
abbrev zrec : Zd := { Kind := 0, Num := 0, Low := 0, High := 0, Real := 0, Cap := 0, Text := ByteArray.empty, List := [] }
def getR : Option Zd → Zd × Bool
 | some r => (r, true)
 | none => (zrec, false)
def getE (x : Zd) : Option Zd → (Zd × Bool) ⊕ Zd
 | some r => .inl (r, true)
 | none => .inr x
theorem Zrx (k : ByteArray) (x : Zd) : ∀ (n : Nat) (t : shelf_nodeT), t.hh < n → Srt (toL t) → (∀ q ∈ toL t, Cl q.2) → Zdo k n x t = some (getE x (lk k (toL t)))
 | 0, t, h, _, _ => by omega
 | n + 1, .nil, _, _, _ => rfl
 | n + 1, .node nk nx l r s, hh, hs, hc => by
   simp only [toL] at hs hc
   obtain ⟨s1, s2, sA, sB⟩ := Ztg hs
   simp only [shelf_nodeT.hh] at hh
   simp only [Zdo, shelf_nodeT.isNil, shelf_nodeT.un, Bool.not_false, if_true, Option.bind_some, Zgj, toL]
   by_cases h1 : sLt k nk = true
   · rw [if_pos h1, Zrx k x n l (by omega) s1 (fun q hq => hc q (by simp [hq])), Z3i (by exact h1) (fun q hq => sB q hq)]
   · rw [if_neg h1]
     by_cases h2 : k = nk
     · subst h2
       have he : (!(sLt k k || sEq k k)) = false := by simp [Zef]
       rw [he]
       simp only [Bool.false_eq_true, if_false]
       rw [Zog (hc (k, nx) (by simp)), Zta _ (fun q hq => sA q hq)]
       simp [lk, Zef, getE]
     · have h3 : sLt nk k = true := Zlo (by simpa using h1) h2
       have he : (!(sLt k nk || sEq k nk)) = true := by simp [Zd1.2 h2]; simpa using h1
       rw [he]
       simp only [if_true]
       rw [Zrx k x n r (by omega) s2 (fun q hq => hc q (by simp [hq])), Zta _ (fun q hq => Zfc (sA q hq) h3)]
       simp [lk, Zd1.2 h2]
theorem Z56 {s : Zk} {k : ByteArray} (hs : Srt (toL s.top)) (hc : ∀ q ∈ toL s.top, Cl q.2) : Ze2 s k = some (getR (lk k (toL s.top))) := by
 unfold Ze2
 rw [Zrx k _ _ _ (Nat.lt_succ_self _) hs hc]
 cases lk k (toL s.top) <;> rfl
def atE (x : Zd) : Option KV → (ByteArray × Zd × Bool) ⊕ Zd
 | some p => .inl (p.1, p.2, true)
 | none => .inr x
theorem Zzo {α : Type} {A B : List α} {i : Int} (h : i < A.length) : idx (A ++ B) i = idx A i := by
 unfold idx
 split
 · rw [List.getElem?_append_left (by omega)]
 · rfl
theorem Zxh {α : Type} {A B : List α} {p : α} : idx (A ++ p :: B) (A.length : Int) = some p := by
 rw [idxn]; simp
theorem Zy6 {α : Type} {A B : List α} {p : α} {i : Int} (h : (A.length : Int) < i) : idx (A ++ p :: B) i = idx B (i - (A.length + 1)) := by
 unfold idx
 rw [if_pos (by omega), if_pos (by omega), List.getElem?_append_right (by omega)]
 rw [show i.toNat - A.length = (i - (A.length + 1)).toNat + 1 by omega, List.getElem?_cons_succ]
theorem Ztz (x : Zd) : ∀ (n : Nat) (t : shelf_nodeT) (i : Int), t.hh < n → Szd t → (toL t).length + 2 < 1099511627776 → -1099511627776 < i → i < 1099511627776 → (∀ q ∈ toL t, Cl q.2) → Zdh n i x t = some (atE x (idx (toL t) i))
 | 0, t, i, h, _, _, _, _, _ => by omega
 | n + 1, .nil, i, _, _, _, _, _, _ => by
   simp only [Zdh, shelf_nodeT.isNil, toL]
   have hn : idx ([] : List KV) i = none := by
     unfold idx
     split <;> simp
   rw [hn]
   rfl
 | n + 1, .node nk nx l r s, i, hh, hz, hb, i1, i2, hc => by
   obtain ⟨z1, z2, z3⟩ := hz
   simp only [toL] at hb hc
   have hlen : (toL l ++ (nk, nx) :: toL r).length = (toL l).length + (toL r).length + 1 := by simp; omega
   rw [hlen] at hb
   simp only [shelf_nodeT.hh] at hh
   simp only [Zdh, shelf_nodeT.isNil, shelf_nodeT.un, Bool.not_false, if_true, Option.bind_some, Zg1, toL]
   rw [Zgw z1]
   simp only [Option.bind_some]
   by_cases h1 : i < (toL l).length
   · rw [if_pos (by simpa using h1), Ztz x n l i (by omega) z1 (by omega) i1 i2 (fun q hq => hc q (by simp [hq])), Zzo h1]
   · rw [if_neg (by simpa using h1)]
     by_cases h2 : ((toL l).length : Int) < i
     · rw [if_pos (by simpa using h2), wr (x := ((toL l).length : Int) + 1) (by omega) (by omega), wr (by omega) (by omega), Ztz x n r _ (by omega) z2 (by omega) (by omega) (by omega) (fun q hq => hc q (by simp [hq])), Zy6 h2]
     · rw [if_neg (by simpa using h2), Zog (hc (nk, nx) (by simp))]
       have : i = (toL l).length := by omega
       subst this
       rw [Zxh]; rfl
def atR : Option KV → ByteArray × Zd × Bool
 | some p => (p.1, p.2, true)
 | none => (⟨#[]⟩, zrec, false)
theorem Z21 {s : Zk} {i : Int} (hz : Szd s.top) (hb : (toL s.top).length + 2 < 1099511627776) (i1 : -1099511627776 < i) (i2 : i < 1099511627776) (hc : ∀ q ∈ toL s.top, Cl q.2) : Zhd s i = some (atR (idx (toL s.top) i)) := by
 unfold Zhd
 rw [Ztz _ _ _ _ (Nat.lt_succ_self _) hz hb i1 i2 hc]
 cases idx (toL s.top) i <;> rfl
theorem Zlf {k : ByteArray} (x : Zd) : ∀ {l : List KV}, Srt l →
   (∃ p, l[rk k l]? = some p ∧ p.1 = k ∧ lk k l = some p.2 ∧ insL k x l = l.take (rk k l) ++ (k, x) :: l.drop (rk k l + 1) ∧ delL k l = l.take (rk k l) ++ l.drop (rk k l + 1)) ∨
   ((∀ p, l[rk k l]? = some p → p.1 ≠ k) ∧ lk k l = none ∧ insL k x l = l.take (rk k l) ++ (k, x) :: l.drop (rk k l) ∧ delL k l = l)
 | [], _ => .inr ⟨fun p h => by simp at h, rfl, rfl, rfl⟩
 | p :: l, hs => by
   obtain ⟨h1, h2⟩ := List.pairwise_cons.1 hs
   by_cases h : sLt p.1 k = true
   · have e1 : sLt k p.1 = false := Zrs h
     have e2 : sEq k p.1 = false := Zd1.2 (fun e => Zk2 h e.symm)
     simp only [rk, h, if_true, lk, insL, delL, e1, e2, Bool.false_eq_true, if_false, List.getElem?_cons_succ, List.take_succ_cons, List.drop_succ_cons]
     rcases Zlf x h2 with ⟨q, a1, a2, a3, a4, a5⟩ | ⟨a1, a2, a3, a4⟩
     · exact .inl ⟨q, a1, a2, a3, by rw [a4]; rfl, by rw [a5]; rfl⟩
     · exact .inr ⟨a1, a2, by rw [a3]; rfl, by rw [a4]⟩
   · have h' : sLt p.1 k = false := by simpa using h
     simp only [rk, h', Bool.false_eq_true, if_false]
     by_cases he : k = p.1
     · left
       exact ⟨p, rfl, he.symm, by simp [lk, he, Zef], by simp [insL, he, Zky, Zef], by simp [delL, he, Zef]⟩
     · right
       have hlt : sLt k p.1 = true := Zlo h' (fun e => he e.symm)
       have hne : ∀ q ∈ l, q.1 ≠ k := fun q hq e => by
         have := Zfc hlt (h1 q hq)
         rw [e, Zky] at this; cases this
       refine ⟨fun q hq e => ?_, ?_, by simp [insL, hlt], ?_⟩
       · simp at hq; subst hq; exact he e.symm
       · simp only [lk, Zd1.2 he, Bool.false_eq_true, if_false]; exact Zrv hne
       · simp only [delL, Zd1.2 he, Bool.false_eq_true, if_false]; rw [Zoq l hne]
def kv (p : Z5) : KV := (p.Key, p.Rec)
def pl (t : Zl) : List KV := t.L.map kv
theorem Zpy (t : Zl) (i : Nat) : (pl t)[i]? = (t.L[i]?).map kv := by simp [pl]
theorem Zfh (t : Zl) : (pl t).length = t.L.length := by simp [pl]
theorem Zuk {t : Zl} {k : ByteArray} (hb : t.L.length < 1099511627776) : ∀ (n i : Nat), i + n = t.L.length →
   Zcx t k (n + 1) (i : Int) = some ((i + rk k ((pl t).drop i) : Nat) : Int)
 | 0, i, h => by
   have hd : decide ((i : Int) < (t.L.length : Int)) = false := by simp; omega
   rw [Zcx, hd, List.drop_of_length_le (by rw [Zfh]; omega)]
   simp [gd, rk]
 | n + 1, i, h => by
   have hd : decide ((i : Int) < (t.L.length : Int)) = true := by simp; omega
   have hi : i < t.L.length := by omega
   have hi' : i < (pl t).length := by rw [Zfh]; exact hi
   rw [Zcx, hd, Zcy hi, List.drop_eq_getElem_cons hi', wr1 (by omega)]
   have hg : (pl t)[i] = kv t.L[i] := by simp [pl]
   rw [hg]
   simp only [gd_t, Option.bind_some, Bool.true_and, rk]
   by_cases hk : sLt t.L[i].Key k = true
   · have hk' : sLt (kv t.L[i]).1 k = true := hk
     rw [if_pos hk, if_pos hk', Zuk hb n (i + 1) (by omega)]
     congr 2; omega
   · have hk' : ¬ sLt (kv t.L[i]).1 k = true := hk
     rw [if_neg hk, if_neg hk']; rfl
theorem Zrj {t : Zl} {k : ByteArray} (hb : t.L.length < 1099511627776) : Zdr t k = some (rk k (pl t) : Int) := by
 unfold Zdr
 have := Zuk (k := k) hb t.L.length 0 (by omega)
 rw [show ((0 : Nat) : Int) = 0 from rfl] at this
 rw [show (Int.toNat ((t.L.length : Int) - (0 : Int)) + 1) = t.L.length + 1 by omega, this]
 simp
structure Rel (s : Zk) (t : Zl) (n : Nat) : Prop where
 top : toL s.top = pl t
 sz : Szd s.top
 srt : Srt (pl t)
 len : t.L.length ≤ n
 room : s.room = t.Room
 ok : ∀ q ∈ pl t, Zg4 q.2 ∧ q.2.List.length ≤ 100
theorem Rel.cl {s : Zk} {t : Zl} {n : Nat} (h : Rel s t n) : ∀ q ∈ toL s.top, Cl q.2 := fun q hq => by
 rw [h.top] at hq
 have := (h.ok q hq).2
 unfold Cl; omega
theorem Rel.mono {s : Zk} {t : Zl} {n m : Nat} (h : Rel s t n) (hm : n ≤ m) : Rel s t m := ⟨h.top, h.sz, h.srt, Nat.le_trans h.len hm, h.room, h.ok⟩
theorem Rel.tl {s : Zk} {t : Zl} {n : Nat} (h : Rel s t n) : (toL s.top).length = t.L.length := by rw [h.top, Zfh]
theorem Z4t (r : Int) : Rel { top := .nil, room := r } { L := [], Room := r } 0 := ⟨rfl, trivial, List.Pairwise.nil, Nat.le_refl _, rfl, fun q h => by simp [pl] at h⟩
theorem Z4c {s : Zk} {t : Zl} {n : Nat} (h : Rel s t n) (hn : n < 1000000) (k : ByteArray) : Zij t k = some (getR (lk k (pl t))) := by
 have hb := h.len
 unfold Zij
 rw [Zrj (by omega)]
 simp only [Option.bind_some]
 have hle := Zsk k (pl t)
 rw [Zfh] at hle
 by_cases hi : rk k (pl t) < t.L.length
 · have hd : decide (((rk k (pl t) : Nat) : Int) < (t.L.length : Int)) = true := by simp; omega
   rw [hd, Zcy hi]
   simp only [gd_t, Option.bind_some, Bool.true_and]
   have hg : (pl t)[rk k (pl t)]? = some (kv t.L[rk k (pl t)]) := by rw [Zpy, List.getElem?_eq_getElem hi]; rfl
   rcases Zlf default h.srt with ⟨p, a1, a2, a3, _, _⟩ | ⟨a1, a2, _, _⟩
   · rw [hg] at a1
     obtain rfl := Option.some.inj a1
     have : sEq (t.L[rk k (pl t)]).Key k = true := Zhe.2 a2
     rw [if_pos this, a3]; rfl
   · have : sEq (t.L[rk k (pl t)]).Key k = false := Zd1.2 (a1 _ hg)
     rw [if_neg (by simp [this]), a2]; rfl
 · have hd : decide (((rk k (pl t) : Nat) : Int) < (t.L.length : Int)) = false := by simp; omega
   rw [hd]
   simp only [gd_f, Option.bind_some, Bool.false_and, Bool.false_eq_true, if_false]
   rcases Zlf (k := k) default h.srt with ⟨p, a1, _⟩ | ⟨_, a2, _, _⟩
   · have := (List.getElem?_eq_some_iff.1 a1).1
     rw [Zfh] at this; omega
   · rw [a2]; rfl
theorem Zqq {s : Zk} {t : Zl} {n : Nat} (h : Rel s t n) (k : ByteArray) : Ze2 s k = some (getR (lk k (pl t))) := by
 rw [Z56 (by rw [h.top]; exact h.srt) h.cl, h.top]
theorem Zx0 {s : Zk} {t : Zl} {n : Nat} (h : Rel s t n) : Zdn s = some (t.L.length : Int) := by
 unfold Zdn
 rw [Zgw h.sz, h.tl]; rfl
theorem Zri (t : Zl) (i : Nat) : (t.L.take i).map kv = (pl t).take i := by simp [pl]
theorem Zrn (t : Zl) (i : Nat) : (t.L.drop i).map kv = (pl t).drop i := by simp [pl]
theorem Zvu {s : Zk} {t : Zl} {n : Nat} (h : Rel s t n) (hn : n < 1000000) (k : ByteArray) : ∃ s' t' b, Zfp s k = some (s', b) ∧ Zil t k = some (t', b) ∧ Rel s' t' n ∧ (pl t' = pl t ∨ pl t' = delL k (pl t)) := by
 have hb := h.len
 have hle := Zsk k (pl t)
 rw [Zfh] at hle
 unfold Zfp Zil
 rw [Zqq h, Zrj (by omega)]
 simp only [Option.bind_some]
 rcases Zlf default h.srt with ⟨p, a1, a2, a3, _, a5⟩ | ⟨a1, a2, _, a4⟩
 · have hi : rk k (pl t) < t.L.length := by
     have := (List.getElem?_eq_some_iff.1 a1).1
     rwa [Zfh] at this
   rw [a3]
   have hd : decide ((t.L.length : Int) ≤ ((rk k (pl t) : Nat) : Int)) = false := by simp; omega
   have hg : (pl t)[rk k (pl t)]? = some (kv t.L[rk k (pl t)]) := by rw [Zpy, List.getElem?_eq_getElem hi]; rfl
   rw [hg] at a1
   obtain rfl := Option.some.inj a1
   have he : sEq (t.L[rk k (pl t)]).Key k = true := Zhe.2 a2
   rw [hd, Zcy hi]
   obtain ⟨t1, c1, z1, l1⟩ := Z4u (k := k) h.sz (by rw [h.top]; exact h.srt) (by rw [h.tl]; omega)
   rw [c1]
   simp only [getR, Bool.not_true, Bool.false_eq_true, if_false, Option.bind_some, Bool.not_false, gd_t, he, Bool.or_false, Bool.or_self]
   rw [show (0 : Int) = ((0 : Nat) : Int) from rfl, Zkm (by omega) (by omega), wr1 (by omega), Zkm (by omega) (by omega)]
   simp only [Option.bind_some, List.nil_append, List.drop_zero, Nat.sub_zero, List.length_nil, Nat.zero_add]
   have ht : (List.take (t.L.length - (rk k (pl t) + 1)) (List.drop (rk k (pl t) + 1) t.L)) = List.drop (rk k (pl t) + 1) t.L := List.take_of_length_le (by simp)
   rw [ht, if_pos (by simp; omega), if_pos (by simp; omega)]
   have hpl : pl { L := List.take (rk k (pl t)) t.L ++ List.drop (rk k (pl t) + 1) t.L, Room := t.Room } = delL k (pl t) := by
     rw [a5, ← Zri, ← Zrn, ← List.map_append]; rfl
   refine ⟨_, _, true, rfl, rfl, ⟨?_, z1, ?_, ?_, h.room, ?_⟩, .inr hpl⟩
   · rw [hpl, l1, h.top]
   · rw [hpl]; exact Zxy h.srt
   · simp; omega
   · intro q hq
     rw [hpl] at hq
     exact h.ok q (Zp8 hq)
 · rw [a2]
   simp only [getR, Bool.not_false, if_true]
   by_cases hi : rk k (pl t) < t.L.length
   · have hd : decide ((t.L.length : Int) ≤ ((rk k (pl t) : Nat) : Int)) = false := by simp; omega
     have hg : (pl t)[rk k (pl t)]? = some (kv t.L[rk k (pl t)]) := by rw [Zpy, List.getElem?_eq_getElem hi]; rfl
     have he : sEq (t.L[rk k (pl t)]).Key k = false := Zd1.2 (a1 _ hg)
     rw [hd, Zcy hi]
     simp only [Bool.not_false, gd_t, Option.bind_some, he, Bool.false_or, if_true]
     exact ⟨s, t, false, rfl, rfl, h, .inl rfl⟩
   · have hd : decide ((t.L.length : Int) ≤ ((rk k (pl t) : Nat) : Int)) = true := by simp; omega
     rw [hd]
     simp only [Bool.not_true, gd_f, Option.bind_some, Bool.true_or, if_true]
     exact ⟨s, t, false, rfl, rfl, h, .inl rfl⟩
theorem Zul (k : ByteArray) : sEq k (⟨#[]⟩ : ByteArray) = decide ((k.size : Int) < 1) := by
 by_cases h : k = ⟨#[]⟩
 · subst h; rw [Zef]; decide
 · rw [Zd1.2 h]
   have : k.size ≠ 0 := fun e => h (by
     apply ByteArray.ext
     exact Array.size_eq_zero_iff.1 e)
   simp; omega
theorem Zrw {s : Zk} {t : Zl} {n : Nat} (h : Rel s t n) (hn : n < 1000000) (k : ByteArray) {x : Zd} (hx : Zg4 x) (hx2 : x.List.length ≤ 100) :
   ∃ s' t' c, Zdl s k x = some (s', c) ∧ Zdz t k x = some (t', c) ∧ Rel s' t' (n + 1) ∧ (pl t' = pl t ∨ (pl t' = insL k x (pl t) ∧ Zdu x = some 0 ∧ ¬ (k.size : Int) < 1 ∧ ¬ (24 : Int) < (k.size : Int))) := by
 have hb := h.len
 have hle := Zsk k (pl t)
 rw [Zfh] at hle
 obtain ⟨c, hc1, hc2⟩ := Zk6 hx
 unfold Zdl Zdz
 rw [hc1, hc2, Zqq h, Zrj (by omega), Zx0 h, Zog (by unfold Cl; omega), Zul, h.room]
 by_cases h1 : (decide ((k.size : Int) < 1) || decide ((24 : Int) < (k.size : Int))) = true
 · rw [if_pos h1, if_pos h1]
   exact ⟨s, t, 1, rfl, rfl, h.mono (by omega), .inl rfl⟩
 · rw [if_neg h1, if_neg h1]
   simp only [Option.bind_some]
   by_cases h2 : (c != 0) = true
   · rw [if_pos h2, if_pos h2]
     exact ⟨s, t, c, rfl, rfl, h.mono (by omega), .inl rfl⟩
   · rw [if_neg h2, if_neg h2]
     obtain ⟨t1, e1, z1, l1⟩ := Zxr (k := k) (x := x) h.sz (by rw [h.top]; exact h.srt) (by rw [h.tl]; omega)
     rw [e1]
     have h20 : c = 0 := by simpa using h2
     have h11 : ¬ (k.size : Int) < 1 := fun h' => h1 (by simp [h'])
     have h12 : ¬ (24 : Int) < (k.size : Int) := fun h' => h1 (by simp [h'])
     have hmk : ∀ L' : List Z5, L'.map kv = insL k x (pl t) → Rel { top := t1, room := t.Room } { L := L', Room := t.Room } (n + 1) ∧ (pl { L := L', Room := t.Room } = pl t ∨ (pl { L := L', Room := t.Room } = insL k x (pl t) ∧ some c = some (0 : Int) ∧ ¬ (k.size : Int) < 1 ∧ ¬ (24 : Int) < (k.size : Int))) := fun L' hL => by
       have hpl : pl { L := L', Room := t.Room } = insL k x (pl t) := hL
       refine ⟨⟨by rw [hpl, l1, h.top], z1, by rw [hpl]; exact Zx8 h.srt, ?_, rfl, ?_⟩, .inr ⟨hpl, by rw [h20], h11, h12⟩⟩
       · have := Zmq k x (pl t)
         rw [← hL, Zfh] at this
         simp at this
         show L'.length ≤ n + 1
         omega
       · intro q hq
         rw [hpl] at hq
         rcases Zqn hq with rfl | hq
         · exact ⟨hx, hx2⟩
         · exact h.ok q hq
     rcases Zlf x h.srt with ⟨p, a1, a2, a3, a4, _⟩ | ⟨a1, a2, a3, _⟩
     · have hi : rk k (pl t) < t.L.length := by
         have := (List.getElem?_eq_some_iff.1 a1).1
         rwa [Zfh] at this
       have hd : decide (((rk k (pl t) : Nat) : Int) < (t.L.length : Int)) = true := by simp; omega
       have hg : (pl t)[rk k (pl t)]? = some (kv t.L[rk k (pl t)]) := by rw [Zpy, List.getElem?_eq_getElem hi]; rfl
       rw [hg] at a1
       obtain rfl := Option.some.inj a1
       have he : sEq (t.L[rk k (pl t)]).Key k = true := Zhe.2 a2
       rw [a3, hd, Zcy hi]
       simp only [getR, Bool.not_true, Bool.false_and, Bool.false_eq_true, if_false, gd_f, gd_t, Option.bind_some, he, Bool.and_self, Bool.true_and, if_true]
       rw [show (0 : Int) = ((0 : Nat) : Int) from rfl, Zkm (by omega) (by omega), wr1 (by omega)]
       simp only [Option.bind_some, List.nil_append, List.drop_zero, Nat.sub_zero, List.length_nil, Nat.zero_add, Zd0]
       rw [if_pos (by simp; omega), if_pos (by simp; omega), Zkm (by omega) (by omega)]
       have ht : (List.take (t.L.length - (rk k (pl t) + 1)) (List.drop (rk k (pl t) + 1) t.L)) = List.drop (rk k (pl t) + 1) t.L := List.take_of_length_le (by simp)
       simp only [Option.bind_some, ht, List.nil_append]
       rw [if_pos (by simp; omega)]
       refine ⟨_, _, 0, rfl, rfl, hmk _ ?_⟩
       rw [a4]; simp [Zri, Zrn, kv, pl]
     · rw [a2]
       simp only [getR, Bool.not_false, gd_t, Option.bind_some, Bool.true_and]
       have hne : (decide (((rk k (pl t) : Nat) : Int) < (t.L.length : Int)) && sEq (((gd (decide (((rk k (pl t) : Nat) : Int) < (t.L.length : Int))) (idx t.L ((rk k (pl t) : Nat) : Int))).getD default).Key) k) = false := by
         by_cases hi : rk k (pl t) < t.L.length
         · have hg : (pl t)[rk k (pl t)]? = some (kv t.L[rk k (pl t)]) := by rw [Zpy, List.getElem?_eq_getElem hi]; rfl
           have he : sEq (t.L[rk k (pl t)]).Key k = false := Zd1.2 (a1 _ hg)
           have hd : decide (((rk k (pl t) : Nat) : Int) < (t.L.length : Int)) = true := by simp; omega
           rw [hd, Zcy hi]
           simp [gd, he]
         · have hd : decide (((rk k (pl t) : Nat) : Int) < (t.L.length : Int)) = false := by simp; omega
           rw [hd]; rfl
       have hex : ∃ e, gd (decide (((rk k (pl t) : Nat) : Int) < (t.L.length : Int))) (idx t.L ((rk k (pl t) : Nat) : Int)) = some e := by
         by_cases hi : rk k (pl t) < t.L.length
         · rw [Zcy hi]
           cases decide (((rk k (pl t) : Nat) : Int) < (t.L.length : Int)) <;> exact ⟨_, rfl⟩
         · have hd : decide (((rk k (pl t) : Nat) : Int) < (t.L.length : Int)) = false := by simp; omega
           rw [hd]; exact ⟨_, rfl⟩
       obtain ⟨e, hee⟩ := hex
       rw [hee] at hne ⊢
       simp only [Option.getD_some] at hne
       simp only [Option.bind_some, hne, Bool.not_false, Bool.true_and]
       by_cases h5 : decide (t.Room ≤ (t.L.length : Int)) = true
       · rw [if_pos h5, if_pos h5]
         exact ⟨s, t, 8, rfl, rfl, h.mono (by omega), .inl rfl⟩
       · rw [if_neg h5, if_neg h5]
         rw [show (0 : Int) = ((0 : Nat) : Int) from rfl, Zkm (by omega) (by omega)]
         simp only [Option.bind_some, List.nil_append, List.drop_zero, Nat.sub_zero, List.length_nil, Nat.zero_add, Zd0, Bool.false_eq_true, if_false]
         rw [if_pos (by simp; omega), if_pos (by simp; omega), Zkm (by omega) (by omega)]
         have ht : (List.take (t.L.length - rk k (pl t)) (List.drop (rk k (pl t)) t.L)) = List.drop (rk k (pl t)) t.L := List.take_of_length_le (by simp)
         simp only [Option.bind_some, ht, List.nil_append]
         rw [if_pos (by simp; omega)]
         refine ⟨_, _, 0, rfl, rfl, hmk _ ?_⟩
         rw [a3]; simp [Zri, Zrn, kv, pl]
theorem Zv0 : ∀ l : List Zj, eqL l l = true
 | [] => rfl
 | x :: l => by simp [eqL, eqI, Zef, Zv0 l]
theorem Zy4 (a : Zd) : Ziu a a = true := by simp [Ziu, Zef, Zv0]
theorem Zn7 {β : Type} [Inhabited β] (c : Bool) (v : β) : gd c (some v) = some (if c then v else default) := by cases c <;> rfl
def Zr5 (a : Zx) : Prop := Zg4 a.Make ∧ a.X < W64
abbrev zrc : Zd := { Kind := 0, Num := 0, Low := 0, High := 0, Real := 0, Cap := 0, Text := ByteArray.empty, List := [] }
theorem Z1l : Zg4 zrc := ⟨by decide, by decide, fun e he => by cases he⟩
def actD (n x s m o1 k1 k2 : Bool) (c : Int) (a : Zx) : Int :=
 if (sEq a.Key ⟨#[]⟩ || decide ((24 : Int) < a.Key.size)) = true then 1
 else if (!(((n || a.N == 0) && (x || decide (keyf a.X = keyf 0))) && (s || sEq a.S ⟨#[]⟩) && (m || Ziu a.Make zrc))) = true then 4
 else if decide ((if o1 = true then (64 : Int) else 16) < a.S.size) = true then 3
 else if (k2 && (decide (a.N < 0) || decide (2305843009213693952 < a.N))) = true then 1
 else if (!decide (a.X = Zb2 a.X)) = true then 4
 else if k1 = true then c else 0
theorem Z4n (k : ByteArray) : (decide ((k.size : Int) < 1)) = sEq k ⟨#[]⟩ := by
 by_cases h : k = ⟨#[]⟩
 · subst h; rw [Zef]; decide
 · rw [Zd1.2 h]
   have : k.size ≠ 0 := fun e => h (by
     apply ByteArray.ext
     exact Array.size_eq_zero_iff.1 e)
   simp; omega
theorem Z0x {a : Zx} (ha : Zr5 a) {w has : ByteArray} {on c : Int} {n x s m : Bool} (hc : Zdu a.Make = some c) (h1 : Zm0 a.Kind = some ⟨w, on, has⟩) (hw : sEq w ⟨#[]⟩ = false)
   (fn : Zc4 ⟨w, on, has⟩ 110 = some n) (fx : Zc4 ⟨w, on, has⟩ 120 = some x) (fs : Zc4 ⟨w, on, has⟩ 115 = some s) (fm : Zc4 ⟨w, on, has⟩ 109 = some m) :
   Zgl a = some (actD n x s m (on == 1) (a.Kind == 1) (a.Kind == 10 || a.Kind == 11) c a) := by
 have h0 : (0 : Nat) < W64 := by decide
 unfold Zgl Zov Zok
 rw [h1]
 simp only [Option.bind_some, hw, Bool.false_eq_true, if_false, fn, fx, fs, fm, Zn7]
 rw [Zml ha.2 h0, Zrh ha.1 Z1l, Zpz ha.2, hc]
 simp only [Option.bind_some, Zn7]
 unfold actD
 generalize (sEq a.Key ⟨#[]⟩ || decide ((24 : Int) < a.Key.size)) = b1
 generalize (a.N == 0) = b2
 generalize decide (keyf a.X = keyf 0) = b3
 generalize sEq a.S ⟨#[]⟩ = b4
 generalize Ziu a.Make zrc = b5
 generalize (a.Kind == 10 || a.Kind == 11) = b6
 generalize (a.Kind == 1) = b7
 generalize (decide (a.N < 0) || decide (2305843009213693952 < a.N)) = b8
 generalize decide (a.X = Zb2 a.X) = b9
 have e1 : decide ((64 : Int) < a.S.size) = decide ((if true = true then (64 : Int) else 16) < a.S.size) := rfl
 cases b1
 · have hm : ∀ (z : Bool), ((if z = true then some (64 : Int) else some 16).bind fun r8 => (if decide (r8 < (a.S.size : Int)) = true then some (3 : Int) else if (b6 && b8) = true then some 1 else if (!b9) = true then some 4 else if b7 = true then some c else some 0)) = some (if decide ((if z = true then (64 : Int) else 16) < a.S.size) = true then 3 else if (b6 && b8) = true then 1 else if (!b9) = true then 4 else if b7 = true then c else 0) := by
     intro z
     cases z <;> simp only [Bool.false_eq_true, if_false, if_true, Option.bind_some] <;> (repeat' split) <;> rfl
   rw [hm]
   cases n <;> cases x <;> cases s <;> cases m <;> cases b2 <;> cases b3 <;> cases b4 <;> cases b5 <;> rfl
 · rfl
theorem Zz2 {a : Zx} (ha : Zr5 a) {on c : Int} {n x s m : Bool} (hc : Zc9 a.Make = some c) (hk : ¬ (a.Kind < 1 ∨ 21 < a.Kind)) (ro : Zew a.Kind = some on)
   (fn : Zeh a.Kind 110 = some n) (fx : Zeh a.Kind 120 = some x) (fs : Zeh a.Kind 115 = some s) (fm : m = (a.Kind == 1)) :
   Zez a = some (actD n x s m (on == 1) (a.Kind == 1) (a.Kind == 10 || a.Kind == 11) c a) := by
 have h0 : (0 : Nat) < W64 := by decide
 unfold Zez
 rw [if_neg (by simpa using hk), fn, fx, fs, ro]
 simp only [Option.bind_some, Zn7, Z4n]
 rw [Zlp ha.2 h0, Z0j ha.1 Z1l, Zou ha.2, hc]
 simp only [Option.bind_some, Zn7]
 unfold actD
 subst fm
 have hmid : ((on == 1 && decide ((64 : Int) < a.S.size)) || ((if (!(on == 1 && decide ((64 : Int) < a.S.size))) = true then on else default) != 1 && decide ((16 : Int) < a.S.size))) = decide ((if (on == 1) = true then (64 : Int) else 16) < a.S.size) := by
   by_cases ho : on = 1
   · subst ho
     by_cases h64 : (64 : Int) < a.S.size <;> simp [h64]
   · have hb1 : (on == 1) = false := by simpa using ho
     have hb2 : (on != 1) = true := by simpa using ho
     simp [hb1, hb2]
 rw [hmid, show (a.N != 0) = !(a.N == 0) from rfl, show (a.Kind != 1) = !(a.Kind == 1) from rfl]
 generalize decide ((if (on == 1) = true then (64 : Int) else 16) < a.S.size) = b10
 generalize (sEq a.Key ⟨#[]⟩ || decide ((24 : Int) < a.Key.size)) = b1
 generalize (a.N == 0) = b2
 generalize decide (keyf a.X = keyf 0) = b3
 generalize sEq a.S ⟨#[]⟩ = b4
 generalize Ziu a.Make zrc = b5
 generalize (a.Kind == 10 || a.Kind == 11) = b6
 generalize (a.Kind == 1) = b7
 generalize (decide (a.N < 0) || decide (2305843009213693952 < a.N)) = b8
 generalize decide (a.X = Zb2 a.X) = b9
 have htail : (if b10 = true then some (3 : Int) else if (b6 && b8) = true then some 1 else if (!b9) = true then some 4 else if b7 = true then some c else some 0) = some (if b10 = true then 3 else if (b6 && b8) = true then 1 else if (!b9) = true then 4 else if b7 = true then c else 0) := by
   (repeat' split) <;> rfl
 rw [htail]
 cases b1
 · cases n <;> cases x <;> cases s <;> cases b7 <;> cases b2 <;> cases b3 <;> cases b4 <;> cases b5 <;> rfl
 · rfl
theorem Z0b {n x s m o1 k1 k2 : Bool} {c : Int} {a : Zx} (h : actD n x s m o1 k1 k2 c a = 0) : (sEq a.Key ⟨#[]⟩ || decide ((24 : Int) < a.Key.size)) = false ∧ decide ((if o1 = true then (64 : Int) else 16) < a.S.size) = false ∧ (k2 && (decide (a.N < 0) || decide (2305843009213693952 < a.N))) = false ∧ decide (a.X = Zb2 a.X) = true ∧ (k1 = true → c = 0) := by
 unfold actD at h
 revert h
 generalize (sEq a.Key ⟨#[]⟩ || decide ((24 : Int) < a.Key.size)) = b1
 generalize decide ((if o1 = true then (64 : Int) else 16) < a.S.size) = b3
 generalize (k2 && (decide (a.N < 0) || decide (2305843009213693952 < a.N))) = b4
 generalize decide (a.X = Zb2 a.X) = b5
 generalize (!(((n || a.N == 0) && (x || decide (keyf a.X = keyf 0))) && (s || sEq a.S ⟨#[]⟩) && (m || Ziu a.Make zrc))) = b2
 cases b1 <;> cases b2 <;> cases b3 <;> cases b4 <;> cases b5 <;> cases k1 <;> simp
theorem Znc {a : Zx} (ha : Zr5 a) : ∃ c, Zgl a = some c ∧ Zez a = some c ∧ (c = 0 → 1 ≤ a.Kind ∧ a.Kind ≤ 21 ∧ a.X = Zb2 a.X ∧ a.S.size ≤ 64 ∧ ((a.Kind = 10 ∨ a.Kind = 11) → 0 ≤ a.N ∧ a.N ≤ 2305843009213693952) ∧ (a.Kind = 1 → Zdu a.Make = some 0) ∧ (¬ (5 ≤ a.Kind ∧ a.Kind ≤ 6) → a.S.size ≤ 16) ∧ sEq a.Key ⟨#[]⟩ = false ∧ a.Key.size ≤ 24) := by
 by_cases hk : a.Kind < 1 ∨ 21 < a.Kind
 · refine ⟨5, ?_, ?_, fun h => by cases h⟩
   · unfold Zgl Zm0
     rw [if_pos (by simp; omega)]
     simp only [Option.bind_some]
     rw [if_pos (show sEq ByteArray.empty ⟨#[]⟩ = true by kernel_rfl)]
   · unfold Zez
     rw [if_pos (by simpa using hk)]
 · obtain ⟨c, hc1, hc2⟩ := Zk6 ha.1
   have fin : ∀ {w has : ByteArray} {on : Int} {n x s m : Bool}, Zm0 a.Kind = some ⟨w, on, has⟩ → sEq w ⟨#[]⟩ = false → Zc4 ⟨w, on, has⟩ 110 = some n → Zc4 ⟨w, on, has⟩ 120 = some x → Zc4 ⟨w, on, has⟩ 115 = some s → Zc4 ⟨w, on, has⟩ 109 = some m →
       Zew a.Kind = some on → Zeh a.Kind 110 = some n → Zeh a.Kind 120 = some x → Zeh a.Kind 115 = some s → m = (a.Kind == 1) → ((on == 1) = true → 5 ≤ a.Kind ∧ a.Kind ≤ 6) →
       ∃ c, Zgl a = some c ∧ Zez a = some c ∧ (c = 0 → 1 ≤ a.Kind ∧ a.Kind ≤ 21 ∧ a.X = Zb2 a.X ∧ a.S.size ≤ 64 ∧ ((a.Kind = 10 ∨ a.Kind = 11) → 0 ≤ a.N ∧ a.N ≤ 2305843009213693952) ∧ (a.Kind = 1 → Zdu a.Make = some 0) ∧ (¬ (5 ≤ a.Kind ∧ a.Kind ≤ 6) → a.S.size ≤ 16) ∧ sEq a.Key ⟨#[]⟩ = false ∧ a.Key.size ≤ 24) := by
     intro w has on n x s m h1 hw fn fx fs fm ro rn rx rs hm hon
     refine ⟨_, Z0x ha hc1 h1 hw fn fx fs fm, by rw [hm]; exact Zz2 ha hc2 hk ro rn rx rs rfl, fun h0 => ?_⟩
     obtain ⟨g1, g3, g4, g5, g6⟩ := Z0b h0
     simp only [Bool.or_eq_false_iff, decide_eq_false_iff_not] at g1
     have g3' : ¬ (if (on == 1) = true then (64 : Int) else 16) < a.S.size := of_decide_eq_false g3
     refine ⟨by omega, by omega, of_decide_eq_true g5, ?_, fun h => ?_, fun h => ?_, fun h => ?_, g1.1, by omega⟩
     · split at g3' <;> omega
     · have h11 : (a.Kind == 10 || a.Kind == 11) = true := by simpa using h
       rw [h11] at g4
       simp only [Bool.true_and, Bool.or_eq_false_iff, decide_eq_false_iff_not] at g4
       omega
     · rw [hc1, g6 (by simp [h])]
     · rw [if_neg (fun h2 => h (hon h2))] at g3'
       omega
   have hk' : a.Kind = 1 ∨ a.Kind = 2 ∨ a.Kind = 3 ∨ a.Kind = 4 ∨ a.Kind = 5 ∨ a.Kind = 6 ∨ a.Kind = 7 ∨ a.Kind = 8 ∨ a.Kind = 9 ∨ a.Kind = 10 ∨ a.Kind = 11 ∨ a.Kind = 12 ∨ a.Kind = 13 ∨ a.Kind = 14 ∨ a.Kind = 15 ∨ a.Kind = 16 ∨ a.Kind = 17 ∨ a.Kind = 18 ∨ a.Kind = 19 ∨ a.Kind = 20 ∨ a.Kind = 21 := by omega
   rcases hk' with h | h | h | h | h | h | h | h | h | h | h | h | h | h | h | h | h | h | h | h | h <;> rw [h] at fin ⊢
   · exact fin (w := ⟨#[110, 101, 119]⟩) (on := 0) (has := ⟨#[109]⟩) (n := false) (x := false) (s := false) (m := true) (by kernel_rfl) (by kernel_rfl) (by kernel_rfl) (by kernel_rfl) (by kernel_rfl) (by kernel_rfl) (by kernel_rfl) (by kernel_rfl) (by kernel_rfl) (by kernel_rfl) (by decide) (by decide)
   · exact fin (w := ⟨#[100, 114, 111, 112]⟩) (on := 0) (has := ⟨#[]⟩) (n := false) (x := false) (s := false) (m := false) (by kernel_rfl) (by kernel_rfl) (by kernel_rfl) (by kernel_rfl) (by kernel_rfl) (by kernel_rfl) (by kernel_rfl) (by kernel_rfl) (by kernel_rfl) (by kernel_rfl) (by decide) (by decide)
   · exact fin (w := ⟨#[105, 115]⟩) (on := 0) (has := ⟨#[]⟩) (n := false) (x := false) (s := false) (m := false) (by kernel_rfl) (by kernel_rfl) (by kernel_rfl) (by kernel_rfl) (by kernel_rfl) (by kernel_rfl) (by kernel_rfl) (by kernel_rfl) (by kernel_rfl) (by kernel_rfl) (by decide) (by decide)
   · exact fin (w := ⟨#[108, 111, 111, 107]⟩) (on := 0) (has := ⟨#[]⟩) (n := false) (x := false) (s := false) (m := false) (by kernel_rfl) (by kernel_rfl) (by kernel_rfl) (by kernel_rfl) (by kernel_rfl) (by kernel_rfl) (by kernel_rfl) (by kernel_rfl) (by kernel_rfl) (by kernel_rfl) (by decide) (by decide)
   · exact fin (w := ⟨#[112, 117, 116]⟩) (on := 1) (has := ⟨#[115]⟩) (n := false) (x := false) (s := true) (m := false) (by kernel_rfl) (by kernel_rfl) (by kernel_rfl) (by kernel_rfl) (by kernel_rfl) (by kernel_rfl) (by kernel_rfl) (by kernel_rfl) (by kernel_rfl) (by kernel_rfl) (by decide) (by decide)
   · exact fin (w := ⟨#[115, 119, 97, 112]⟩) (on := 1) (has := ⟨#[115]⟩) (n := false) (x := false) (s := true) (m := false) (by kernel_rfl) (by kernel_rfl) (by kernel_rfl) (by kernel_rfl) (by kernel_rfl) (by kernel_rfl) (by kernel_rfl) (by kernel_rfl) (by kernel_rfl) (by kernel_rfl) (by decide) (by decide)
   · exact fin (w := ⟨#[97, 100, 100]⟩) (on := 2) (has := ⟨#[110]⟩) (n := true) (x := false) (s := false) (m := false) (by kernel_rfl) (by kernel_rfl) (by kernel_rfl) (by kernel_rfl) (by kernel_rfl) (by kernel_rfl) (by kernel_rfl) (by kernel_rfl) (by kernel_rfl) (by kernel_rfl) (by decide) (by decide)
   · exact fin (w := ⟨#[112, 108, 117, 115]⟩) (on := 3) (has := ⟨#[110]⟩) (n := true) (x := false) (s := false) (m := false) (by kernel_rfl) (by kernel_rfl) (by kernel_rfl) (by kernel_rfl) (by kernel_rfl) (by kernel_rfl) (by kernel_rfl) (by kernel_rfl) (by kernel_rfl) (by kernel_rfl) (by decide) (by decide)
   · exact fin (w := ⟨#[114, 101, 97, 99, 104]⟩) (on := 3) (has := ⟨#[110]⟩) (n := true) (x := false) (s := false) (m := false) (by kernel_rfl) (by kernel_rfl) (by kernel_rfl) (by kernel_rfl) (by kernel_rfl) (by kernel_rfl) (by kernel_rfl) (by kernel_rfl) (by kernel_rfl) (by kernel_rfl) (by decide) (by decide)
   · exact fin (w := ⟨#[105, 110]⟩) (on := 4) (has := ⟨#[110]⟩) (n := true) (x := false) (s := false) (m := false) (by kernel_rfl) (by kernel_rfl) (by kernel_rfl) (by kernel_rfl) (by kernel_rfl) (by kernel_rfl) (by kernel_rfl) (by kernel_rfl) (by kernel_rfl) (by kernel_rfl) (by decide) (by decide)
   · exact fin (w := ⟨#[111, 117, 116]⟩) (on := 4) (has := ⟨#[110]⟩) (n := true) (x := false) (s := false) (m := false) (by kernel_rfl) (by kernel_rfl) (by kernel_rfl) (by kernel_rfl) (by kernel_rfl) (by kernel_rfl) (by kernel_rfl) (by kernel_rfl) (by kernel_rfl) (by kernel_rfl) (by decide) (by decide)
   · exact fin (w := ⟨#[101, 110, 111, 117, 103, 104]⟩) (on := 4) (has := ⟨#[110]⟩) (n := true) (x := false) (s := false) (m := false) (by kernel_rfl) (by kernel_rfl) (by kernel_rfl) (by kernel_rfl) (by kernel_rfl) (by kernel_rfl) (by kernel_rfl) (by kernel_rfl) (by kernel_rfl) (by kernel_rfl) (by decide) (by decide)
   · exact fin (w := ⟨#[114, 97, 105, 115, 101]⟩) (on := 5) (has := ⟨#[120]⟩) (n := false) (x := true) (s := false) (m := false) (by kernel_rfl) (by kernel_rfl) (by kernel_rfl) (by kernel_rfl) (by kernel_rfl) (by kernel_rfl) (by kernel_rfl) (by kernel_rfl) (by kernel_rfl) (by kernel_rfl) (by decide) (by decide)
   · exact fin (w := ⟨#[108, 111, 119, 101, 114]⟩) (on := 6) (has := ⟨#[120]⟩) (n := false) (x := true) (s := false) (m := false) (by kernel_rfl) (by kernel_rfl) (by kernel_rfl) (by kernel_rfl) (by kernel_rfl) (by kernel_rfl) (by kernel_rfl) (by kernel_rfl) (by kernel_rfl) (by kernel_rfl) (by decide) (by decide)
   · exact fin (w := ⟨#[115, 104, 105, 102, 116]⟩) (on := 7) (has := ⟨#[120]⟩) (n := false) (x := true) (s := false) (m := false) (by kernel_rfl) (by kernel_rfl) (by kernel_rfl) (by kernel_rfl) (by kernel_rfl) (by kernel_rfl) (by kernel_rfl) (by kernel_rfl) (by kernel_rfl) (by kernel_rfl) (by decide) (by decide)
   · exact fin (w := ⟨#[115, 99, 97, 108, 101]⟩) (on := 7) (has := ⟨#[120]⟩) (n := false) (x := true) (s := false) (m := false) (by kernel_rfl) (by kernel_rfl) (by kernel_rfl) (by kernel_rfl) (by kernel_rfl) (by kernel_rfl) (by kernel_rfl) (by kernel_rfl) (by kernel_rfl) (by kernel_rfl) (by decide) (by decide)
   · exact fin (w := ⟨#[102, 105, 120]⟩) (on := 7) (has := ⟨#[120]⟩) (n := false) (x := true) (s := false) (m := false) (by kernel_rfl) (by kernel_rfl) (by kernel_rfl) (by kernel_rfl) (by kernel_rfl) (by kernel_rfl) (by kernel_rfl) (by kernel_rfl) (by kernel_rfl) (by kernel_rfl) (by decide) (by decide)
   · exact fin (w := ⟨#[106, 111, 105, 110]⟩) (on := 8) (has := ⟨#[115]⟩) (n := false) (x := false) (s := true) (m := false) (by kernel_rfl) (by kernel_rfl) (by kernel_rfl) (by kernel_rfl) (by kernel_rfl) (by kernel_rfl) (by kernel_rfl) (by kernel_rfl) (by kernel_rfl) (by kernel_rfl) (by decide) (by decide)
   · exact fin (w := ⟨#[108, 101, 97, 118, 101]⟩) (on := 8) (has := ⟨#[115]⟩) (n := false) (x := false) (s := true) (m := false) (by kernel_rfl) (by kernel_rfl) (by kernel_rfl) (by kernel_rfl) (by kernel_rfl) (by kernel_rfl) (by kernel_rfl) (by kernel_rfl) (by kernel_rfl) (by kernel_rfl) (by decide) (by decide)
   · exact fin (w := ⟨#[104, 97, 115]⟩) (on := 8) (has := ⟨#[115]⟩) (n := false) (x := false) (s := true) (m := false) (by kernel_rfl) (by kernel_rfl) (by kernel_rfl) (by kernel_rfl) (by kernel_rfl) (by kernel_rfl) (by kernel_rfl) (by kernel_rfl) (by kernel_rfl) (by kernel_rfl) (by decide) (by decide)
   · exact fin (w := ⟨#[111, 102, 102, 101, 114]⟩) (on := 9) (has := ⟨#[120, 115]⟩) (n := false) (x := true) (s := true) (m := false) (by kernel_rfl) (by kernel_rfl) (by kernel_rfl) (by kernel_rfl) (by kernel_rfl) (by kernel_rfl) (by kernel_rfl) (by kernel_rfl) (by kernel_rfl) (by kernel_rfl) (by decide) (by decide)
end Go.CL
