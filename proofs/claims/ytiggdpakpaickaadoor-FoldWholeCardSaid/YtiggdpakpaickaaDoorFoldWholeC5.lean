/- A part of the proof of FoldWhole. -/
import Derived.Test.YtiggdpakpaickaaDoorFoldWholeC4
import Derived.Defers
import Derived.Recover
set_option linter.unusedVariables false
set_option linter.unusedSimpArgs false
set_option maxRecDepth 100000
namespace Go.CL
open Go Go.RowKit Go.Proofs
theorem Znu (a0 : Zk) (a1 : Zx) {r : Zk × Zg} (h : Zkl a0 a1 = some r) : FnOk Tryd.prog 16 [(Zt.pd a0), (Z7.pd a1)] (pTup [(Zt.pd r.1), (Zs.pd r.2)]) := by
 have H0 := h
 unfold Zkl at H0
 clear h
 refine Zbu (N := 66) Tryd.func16 rfl rfl (Nat.le_of_ble_eq_true rfl) rfl rfl (fun a g0 hst hb => ?_)
 refine r_s (T := [⟨[.old 0], _, [3], [], [2]⟩, ⟨[.old 1], _, [], [], [3]⟩, ⟨[], [(4, (pBox Zt 4 (default : Zk)))], [5], [], [4]⟩, ⟨[], [(5, (pBox Zs 5 (default : Zg)))], [6], [], [5]⟩]) (F := [.op 0 0, .op 1 0, .op 2 0, .op 3 0]) hst hb Zb
   (o_p rfl (Zqh rfl rfl u_0) <| o_p rfl (Zbl rfl rfl u_0) <| o_p rfl (Zbb (zs := [.pointer none, .int .i64 0]) (by kernel_rfl) (fun g => Zci g) rfl rfl) <| o_p rfl (Zbb (zs := [.int .i64 0, .int .i64 0, .int .i64 0, .int .i64 0, .int .i64 0, .int .i64 0, .float .f64 0, .int .i64 0, .string ByteArray.empty, .slice none 0 0]) (by kernel_rfl) (fun g => Zdy g) rfl rfl) <| o_n) (by kernel_rfl) (fun a g hst hb => ?_)
 obtain ⟨r1, h2, H0⟩ := Zh H0
 refine r_s (T := [⟨[.old 0], _, [], [], [14]⟩, ⟨[.old 1], _, [], [], [15]⟩, ⟨[.op 1 0], _, [], [1], [16]⟩, ⟨[.op 0 0, .op 2 0], _, [], [0, 1, 2], [17]⟩, ⟨[.op 3 0], _, [], Lr 4, [13]⟩, ⟨[.op 4 0], _, [], Lr 5, [18]⟩, ⟨[.op 4 0], _, [], Lr 5, [19]⟩, ⟨[], [(6, (pBox Zi 6 (default : Zd)))], [7], [], [6]⟩, ⟨[.op 5 0, .op 7 0], _, [7], [0, 1, 2, 3, 4, 5, 7], [6]⟩, ⟨[.op 6 0], _, [], Lr 9, [7]⟩]) (F := [.old 0, .old 1, .old 2, .old 3, .op 8 0, .op 9 0]) hst hb Zb
   (o_p rfl (Zb8 Zbf rfl rfl u_0) <| o_p rfl (Ze Zmn rfl rfl u_0) <| o_p rfl (Zf ty_9 rfl rfl u_0) <| o_p rfl (Zp Zzk (Zjq _ _ h2) rfl rfl (.cons u_0 (.cons u_1 .nil))) <| o_p rfl (Za rfl rfl u_0) <| o_p rfl (Z4 rfl rfl u_0 rfl) <| o_p rfl (Z4 rfl rfl u_0 rfl) <| o_p rfl (Zbb (zs := [.int .i64 0, .int .i64 0, .int .i64 0, .int .i64 0, .float .f64 0, .int .i64 0, .string ByteArray.empty, .slice none 0 0]) (by kernel_rfl) (fun g => Zch g) rfl rfl) <| o_p rfl (Zby Zbi rfl rfl u_1 u_0) <| o_p rfl (Zc rfl rfl u_0) <| o_n) (by kernel_rfl) (fun a g hst hb => ?_)
 obtain ⟨r3, h4, H0⟩ := Zh H0
 refine r_s (T := ⟨[.old 4], _, [], [], [21]⟩ :: ⟨[.old 5], _, [], [], [22]⟩ :: ⟨[.old 1], _, [], [], [23]⟩ :: ⟨[.op 0 0, .op 1 0, .op 2 0], _, [], [0, 1, 2], [24]⟩ :: ⟨[.op 3 0], _, [], Lr 4, [20]⟩ :: ⟨[.op 4 0], _, [], Lr 5, [25]⟩ :: ⟨[.op 4 0], _, [], Lr 5, [26]⟩ :: ⟨[.op 4 0], _, [], Lr 5, [27]⟩ :: ⟨[], [(8, (pBox Zi 8 (default : Zd)))], [9], [], [8]⟩ :: ⟨[], [(10, (pBox Zs 10 (default : Zg)))], [11], [], [10]⟩ :: ⟨[.op 5 0, .op 8 0], _, [9], [0, 1, 2, 3, 4, 5, 8, 9], [8]⟩ :: ⟨[.op 6 0], _, [], [0, 1, 2, 3, 4, 5, 6, 8, 9, 10], [9]⟩ :: ⟨[.op 7 0, .op 9 0], _, [11], Lr 12, [10]⟩ :: []) (F := [.old 0, .old 1, .old 2, .old 3, .op 10 0, .op 11 0, .op 12 0]) hst hb Zb
   (o_p rfl (Zf Zbi rfl rfl u_0) <| o_p rfl (Za rfl rfl u_0) <| o_p rfl (Zf Ze9 rfl rfl u_0) <| o_p rfl (Zp Z61 (Zux _ _ _ h4) rfl rfl (.cons u_0 (.cons u_1 (.cons u_2 .nil)))) <| o_p rfl (Za rfl rfl u_0) <| o_p rfl (Z4 rfl rfl u_0 rfl) <| o_p rfl (Z4 rfl rfl u_0 rfl) <| o_p rfl (Z4 rfl rfl u_0 rfl) <| o_p rfl (Zbb (zs := [.int .i64 0, .int .i64 0, .int .i64 0, .int .i64 0, .float .f64 0, .int .i64 0, .string ByteArray.empty, .slice none 0 0]) (by kernel_rfl) (fun g => Zch g) rfl rfl) <| o_p rfl (Zbb (zs := [.int .i64 0, .int .i64 0, .int .i64 0, .int .i64 0, .int .i64 0, .int .i64 0, .float .f64 0, .int .i64 0, .string ByteArray.empty, .slice none 0 0]) (by kernel_rfl) (fun g => Zdy g) rfl rfl) <| o_p rfl (Zby Zbi rfl rfl u_1 u_0) <| o_p rfl (Zc rfl rfl u_0) <| o_p rfl (Zby Zcb rfl rfl u_1 u_0) <| o_n) (by kernel_rfl) (fun a g hst hb => ?_)
 refine wp_seq ?_
 refine wp_block ?_
 obtain ⟨r5, h6, H0⟩ := Zh H0
 refine r_s (T := [⟨[.old 6], _, [], [], [29]⟩, ⟨[.op 0 0], _, [], [0], [30]⟩, ⟨[.op 1 0], _, [], [0, 1], [31]⟩, ⟨[.op 2 0], _, [], [0, 1, 2], [32]⟩, ⟨[.op 3 0, .old 1], _, [], Lr 4, [33]⟩, ⟨[.op 3 0, .op 4 0], _, [], Lr 5, [34]⟩, ⟨[.op 3 0, .op 5 0], _, [], Lr 6, [35]⟩, ⟨[.op 3 0, .op 6 0], _, [], Lr 7, [36]⟩, ⟨[.op 7 0], _, [], Lr 8, [28]⟩]) (F := [.old 0, .old 1, .old 2, .old 3, .old 4, .old 5, .old 6, .op 8 0]) hst hb Zb
   (o_p rfl (Ze Zkw rfl rfl u_0) <| o_p rfl (Zf Zj0 rfl rfl u_0) <| o_p rfl (Zer rfl rfl u_0 c_i) <| o_p rfl (Za rfl rfl u_0) <| o_g (g_f rfl rfl rfl (fun hG => Ze Zhq rfl rfl u_0)) <| o_g (g_f rfl rfl rfl (fun hG => Zf ty_3 rfl rfl (Opd.gd hG u_0))) <| o_g (g_f rfl rfl rfl (fun hG => Zp Z64 (Zww _ (Zbq h6 hG)) rfl rfl (.cons (Opd.gd hG u_0) .nil))) <| o_p rfl (Zbz rfl rfl u_0 (fun hz => (Opd.gd (bNF hz) u_1))) <| o_p rfl (Zc rfl rfl u_0) <| o_n) (by kernel_rfl) (fun a g hst hb => ?_)
 refine wp_cond_split (hst.bool 7 rfl) (fun hc7 => ?_) (fun hc7 => ?_)
 · replace H0 := Z0 hc7 H0
   refine r_s (L := [(2, _), (4, _), (5, _), (10, _)]) (T := [⟨[.old 0], _, [], [], [37]⟩, ⟨[.old 3], _, [], [], [38]⟩, ⟨[.op 0 0, .old 1], _, [5], [0], [4]⟩, ⟨[.op 1 0, .old 2], _, [6], [0, 1, 2], [5]⟩]) (F := [.op 2 0, .op 3 0]) (hst.pick [0, 2, 3, 6] rfl) hb Zb
     (o_p rfl (Zb8 Zbf rfl rfl u_0) <| o_p rfl (Zf Zcb rfl rfl u_0) <| o_p rfl (Z6 Zbf rfl rfl u_1 u_0) <| o_p rfl (Z6 Zcb rfl rfl u_1 u_0) <| o_n) (by kernel_rfl) (fun a g hst hb => ?_)
   refine wp_ret ?_
   refine Zw ?_
   refine Zn ?_
   obtain rfl := Option.some.inj H0
   obtain ⟨u0, hu0, hq0⟩ := Zbh (P := Tryd.prog) Zbf (hst.at 0 rfl)
   obtain ⟨u1, hu1, hq1⟩ := Zbh (P := Tryd.prog) Zcb (hst.at 1 rfl)
   exact Zex rfl hst hb hu0 hu1 (Zde hq0 hq1)
 · replace H0 := Zz hc7 H0
   refine r_s (L := [(2, _), (3, _), (4, _), (5, _), (8, _), (9, _), (10, _)]) (T := [⟨[.old 5], _, [], [], [40]⟩, ⟨[.op 0 0], _, [], [0], [41]⟩, ⟨[.op 1 0], _, [], [0, 1], [39]⟩]) (F := [.old 0, .old 1, .old 2, .old 3, .old 4, .old 6, .op 2 0]) (hst.pick [0, 1, 2, 3, 4, 5, 6] rfl) hb Zb
     (o_p rfl (Za rfl rfl u_0) <| o_p rfl (Zcn rfl rfl u_0) <| o_p rfl (Zc rfl rfl u_0) <| o_n) (by kernel_rfl) (fun a g hst hb => ?_)
   refine wp_cond_split (hst.bool 6 rfl) (fun hc8 => ?_) (fun hc8 => ?_)
   · replace H0 := Z0 hc8 H0
     obtain ⟨r9, h10, H0⟩ := Zh H0
     refine r_s (L := [(2, _), (3, _), (4, _), (5, _), (10, _)]) (T := [⟨[.old 0], _, [], [], [43]⟩, ⟨[.old 1], _, [], [], [44]⟩, ⟨[.op 1 0], _, [], [1], [45]⟩, ⟨[.op 0 0, .op 2 0], _, [], [0, 1, 2], [46]⟩, ⟨[.op 3 0], _, [], Lr 4, [42]⟩, ⟨[.op 4 0], _, [], Lr 5, [47]⟩, ⟨[.op 4 0], _, [], Lr 5, [48]⟩, ⟨[.op 5 0, .old 0], _, [3], Lr 6, [2]⟩]) (F := [.op 7 0, .old 2, .old 3, .old 4]) (hst.pick [0, 1, 2, 3, 5] rfl) hb Zb
       (o_p rfl (Zb8 Zbf rfl rfl u_0) <| o_p rfl (Ze Zmn rfl rfl u_0) <| o_p rfl (Zf ty_9 rfl rfl u_0) <| o_p rfl (Zp Z8t (Zo8 _ _ h10) rfl rfl (.cons u_0 (.cons u_1 .nil))) <| o_p rfl (Za rfl rfl u_0) <| o_p rfl (Z4 rfl rfl u_0 rfl) <| o_p rfl (Z4 rfl rfl u_0 rfl) <| o_p rfl (Z6 Zbf rfl rfl u_1 u_0) <| o_n) (by kernel_rfl) (fun a g hst hb => ?_)
     refine r_s (T := [⟨[.old 0], _, [], [], [49]⟩, ⟨[.old 3], _, [], [], [50]⟩, ⟨[.op 0 0, .old 1], _, [5], [0], [4]⟩, ⟨[.op 1 0, .old 2], _, [6], [0, 1, 2], [5]⟩]) (F := [.op 2 0, .op 3 0]) hst hb Zb
       (o_p rfl (Zb8 Zbf rfl rfl u_0) <| o_p rfl (Zf Zcb rfl rfl u_0) <| o_p rfl (Z6 Zbf rfl rfl u_1 u_0) <| o_p rfl (Z6 Zcb rfl rfl u_1 u_0) <| o_n) (by kernel_rfl) (fun a g hst hb => ?_)
     refine wp_ret ?_
     refine Zw ?_
     refine Zn ?_
     obtain rfl := Option.some.inj H0
     obtain ⟨u0, hu0, hq0⟩ := Zbh (P := Tryd.prog) Zbf (hst.at 0 rfl)
     obtain ⟨u1, hu1, hq1⟩ := Zbh (P := Tryd.prog) Zcb (hst.at 1 rfl)
     exact Zex rfl hst hb hu0 hu1 (Zde hq0 hq1)
   · replace H0 := Zz hc8 H0
     refine wp_skip ?_
     refine Zbt ?_
     refine Zu ?_
     obtain ⟨r11, h12, H0⟩ := Zh H0
     refine r_s (L := [(2, _), (3, _), (4, _), (5, _), (8, _), (10, _)]) (T := [⟨[.old 0], _, [], [], [52]⟩, ⟨[.old 1], _, [], [], [53]⟩, ⟨[.op 1 0], _, [], [1], [54]⟩, ⟨[.old 4], _, [], [], [55]⟩, ⟨[.op 0 0, .op 2 0, .op 3 0], _, [], Lr 4, [56]⟩, ⟨[.op 4 0], _, [], Lr 5, [51]⟩, ⟨[.op 5 0], _, [], Lr 6, [57]⟩, ⟨[.op 5 0], _, [], Lr 6, [58]⟩, ⟨[], [(11, (pBox Zt 11 (default : Zk)))], [12], [], [11]⟩, ⟨[.op 6 0, .op 8 0], _, [12], [0, 1, 2, 3, 4, 5, 6, 8], [11]⟩, ⟨[.op 7 0], _, [], Lr 10, [12]⟩]) (F := [.old 0, .old 2, .old 3, .old 5, .op 9 0, .op 10 0]) (hst.pick [0, 1, 2, 3, 4, 5] rfl) hb Zb
       (o_p rfl (Zb8 Zbf rfl rfl u_0) <| o_p rfl (Ze Zmn rfl rfl u_0) <| o_p rfl (Zf ty_9 rfl rfl u_0) <| o_p rfl (Zf Zbi rfl rfl u_0) <| o_p rfl (Zp Z3q (Zl3 _ _ _ h12) rfl rfl (.cons u_0 (.cons u_1 (.cons u_2 .nil)))) <| o_p rfl (Za rfl rfl u_0) <| o_p rfl (Z4 rfl rfl u_0 rfl) <| o_p rfl (Z4 rfl rfl u_0 rfl) <| o_p rfl (Zbb (zs := [.pointer none, .int .i64 0]) (by kernel_rfl) (fun g => Zci g) rfl rfl) <| o_p rfl (Zby Zbf rfl rfl u_1 u_0) <| o_p rfl (Zc rfl rfl u_0) <| o_n) (by kernel_rfl) (fun a g hst hb => ?_)
     refine wp_seq ?_
     refine r_s (T := [⟨[.old 5], _, [], [], [59]⟩, ⟨[.op 0 0], _, [], [0], [60]⟩]) (F := [.old 0, .old 1, .old 2, .old 3, .old 4, .old 5, .op 1 0]) hst hb Zb
       (o_p rfl (Za rfl rfl u_0) <| o_p rfl (Zer rfl rfl u_0 c_i) <| o_n) (by kernel_rfl) (fun a g hst hb => ?_)
     refine wp_cond_split (hst.bool 6 rfl) (fun hc13 => ?_) (fun hc13 => ?_)
     · replace H0 := Z0 hc13 H0
       refine r_s (L := [(2, _), (4, _), (5, _), (12, _)]) (T := [⟨[.old 0], _, [], [], [61]⟩, ⟨[.old 3], _, [], [], [62]⟩, ⟨[.op 1 0], _, [], [1], [63]⟩, ⟨[.op 0 0, .old 1], _, [5], [0], [4]⟩, ⟨[.op 2 0, .old 2], _, [6], Lr 4, [5]⟩]) (F := [.op 3 0, .op 4 0]) (hst.pick [0, 1, 2, 5] rfl) hb Zb
         (o_p rfl (Zb8 Zbf rfl rfl u_0) <| o_p rfl (Za rfl rfl u_0) <| o_p rfl (Ztf rfl rfl u_0) <| o_p rfl (Z6 Zbf rfl rfl u_1 u_0) <| o_p rfl (Z6 Zcb rfl rfl u_1 u_0) <| o_n) (by kernel_rfl) (fun a g hst hb => ?_)
       refine wp_ret ?_
       refine Zn ?_
       obtain rfl := Option.some.inj H0
       obtain ⟨u0, hu0, hq0⟩ := Zbh (P := Tryd.prog) Zbf (hst.at 0 rfl)
       obtain ⟨u1, hu1, hq1⟩ := Zbh (P := Tryd.prog) Zcb (hst.at 1 rfl)
       exact Zex rfl hst hb hu0 hu1 (Zde hq0 hq1)
     · replace H0 := Zz hc13 H0
       refine wp_skip ?_
       refine Zu ?_
       refine r_s (L := [(4, _), (5, _), (10, _), (11, _)]) (T := [⟨[.old 3], _, [], [], [64]⟩, ⟨[.old 2], _, [], [], [65]⟩, ⟨[.op 0 0, .old 0], _, [5], [0], [4]⟩, ⟨[.op 1 0, .old 1], _, [6], [0, 1, 2], [5]⟩]) (F := [.op 2 0, .op 3 0]) (hst.pick [1, 2, 3, 4] rfl) hb Zb
         (o_p rfl (Zf Zbf rfl rfl u_0) <| o_p rfl (Zf Zcb rfl rfl u_0) <| o_p rfl (Z6 Zbf rfl rfl u_1 u_0) <| o_p rfl (Z6 Zcb rfl rfl u_1 u_0) <| o_n) (by kernel_rfl) (fun a g hst hb => ?_)
       refine wp_ret ?_
       obtain rfl := Option.some.inj H0
       obtain ⟨u0, hu0, hq0⟩ := Zbh (P := Tryd.prog) Zbf (hst.at 0 rfl)
       obtain ⟨u1, hu1, hq1⟩ := Zbh (P := Tryd.prog) Zcb (hst.at 1 rfl)
       exact Zex rfl hst hb hu0 hu1 (Zde hq0 hq1)
theorem Zuw (a0 : Zbn) {r : Int × Int} (h : Zk3 a0 = some r) : FnOk Tryd.prog 22 [(Zck.pd a0)] (pTup [(pInt .i64 r.1), (pInt .i64 r.2)]) := by
 have H0 := h
 unfold Zk3 at H0
 clear h
 refine Zbu (N := 33) Tryd.func22 rfl rfl (Nat.le_of_ble_eq_true rfl) rfl rfl (fun a g0 hst hb => ?_)
 refine r_s (T := [⟨[.old 0], _, [], [], [1]⟩, ⟨[], _, [], [], [2]⟩, ⟨[], _, [], [1], [3]⟩]) (F := [.op 0 0]) hst hb Zb
   (o_p rfl (Zbl rfl rfl u_0) <| o_p rfl (Zc rfl rfl c_i) <| o_p rfl (Zc rfl rfl c_i) <| o_n) (by kernel_rfl) (fun a g hst hb => ?_)
 refine wp_seq ?_
 refine r_s (T := [⟨[.old 0], _, [], [], [7]⟩, ⟨[.op 0 0], _, [], [0], [8]⟩, ⟨[.op 1 0], _, [], [0, 1], [9]⟩, ⟨[.op 2 0], _, [], [0, 1, 2], [10]⟩, ⟨[.op 3 0], _, [], Lr 4, [11]⟩, ⟨[.op 4 0, .old 0], _, [], Lr 5, [12]⟩, ⟨[.op 4 0, .op 5 0], _, [], Lr 6, [13]⟩, ⟨[.op 4 0, .op 6 0], _, [], Lr 7, [14]⟩, ⟨[.op 4 0, .op 7 0], _, [], Lr 8, [15]⟩, ⟨[.op 4 0, .op 8 0], _, [], Lr 9, [16]⟩]) (F := [.old 0, .op 9 0]) hst hb Zb
   (o_p rfl (Ze Zks rfl rfl u_0) <| o_p rfl (Zf Znj rfl rfl u_0) <| o_p rfl (Zb3 Tryd.underlying32 rfl rfl u_0) <| o_p rfl (Zbw rfl rfl u_0 c_i) <| o_p rfl (Za rfl rfl u_0) <| o_g (g_f rfl rfl rfl (fun hG => Ze Zks rfl rfl u_0)) <| o_g (g_f rfl rfl rfl (fun hG => Zf Znj rfl rfl (Opd.gd hG u_0))) <| o_g (g_f rfl rfl rfl (fun hG => Zb3 Tryd.underlying32 rfl rfl (Opd.gd hG u_0))) <| o_g (g_f rfl rfl rfl (fun hG => Zcr rfl rfl (Opd.gd hG u_0) c_i)) <| o_p rfl (Zbz rfl rfl u_0 (fun hz => (Opd.gd (bNF hz) u_1))) <| o_n) (by kernel_rfl) (fun a g hst hb => ?_)
 refine wp_cond_split (hst.bool 1 rfl) (fun hc1 => ?_) (fun hc1 => ?_)
 · replace H0 := Z0 hc1 H0
   refine r_s (L := []) (T := [⟨[], _, [], [], [2]⟩, ⟨[], _, [], [0], [3]⟩]) (F := [.op 0 0, .op 1 0]) (hst.pick [] rfl) hb Zb
     (o_p rfl (Zc rfl rfl c_i) <| o_p rfl (Zc rfl rfl c_i) <| o_n) (by kernel_rfl) (fun a g hst hb => ?_)
   refine wp_ret ?_
   refine Zn ?_
   obtain rfl := Option.some.inj H0
   exact Zex rfl hst hb (Zm (s := 2)) (Zm (s := 3)) (Zde (hst.at 0 rfl) (hst.at 1 rfl))
 · replace H0 := Zz hc1 H0
   refine wp_skip ?_
   refine Zu ?_
   refine wp_seq ?_
   refine r_s (L := [(1, _)]) (T := [⟨[.old 0], _, [], [], [17]⟩, ⟨[.op 0 0], _, [], [0], [18]⟩, ⟨[.op 1 0], _, [], [0, 1], [19]⟩, ⟨[], _, [], [], [20]⟩]) (F := [.op 1 0, .op 2 0, .op 3 0]) (hst.pick [0] rfl) hb Zb
     (o_p rfl (Ze Zks rfl rfl u_0) <| o_p rfl (Zf Znj rfl rfl u_0) <| o_p rfl (Zb3 Tryd.underlying32 rfl rfl u_0) <| o_p rfl (Za rfl rfl c_i) <| o_n) (by kernel_rfl) (fun a g hst hb => ?_)
   obtain ⟨z9, hz1, H0⟩ := Zh H0
   refine Zc0 (fun a w => ∃ (g : G), w = g.w ∧ St 33 [] a g ∧ Base g0 g ∧ (.inr ()) = z9) ?_ ?_
   · rintro a w ⟨g, rfl, hst, hb, rfl⟩
     refine Zu ?_
     refine r_s (T := [⟨[], _, [], [], [2]⟩, ⟨[], _, [], [0], [3]⟩]) (F := [.op 0 0, .op 1 0]) hst hb Zb
       (o_p rfl (Zc rfl rfl c_i) <| o_p rfl (Zc rfl rfl c_i) <| o_n) (by kernel_rfl) (fun a g hst hb => ?_)
     refine wp_ret ?_
     obtain rfl := Option.some.inj H0
     exact Zex rfl hst hb (Zm (s := 2)) (Zm (s := 3)) (Zde (hst.at 0 rfl) (hst.at 1 rfl))
   · refine wp_block ?_
     refine wp_loop_ghost (fun n a w => ∃ (x2 : Int) (g : G), w = g.w ∧ St 33 [(18, (Z7.sl.pd a0.Acts)), (19, (pInt .i64 (a0.Acts.length : Int))), (20, (pInt .i64 x2))] a g ∧ Base g0 g ∧ Zfy a0 n x2 = some z9) (Int.toNat ((a0.Acts.length : Int) - (0 : Int)) + 1) ⟨(0 : Int), g, rfl, (hst.pick [0, 1, 2] rfl), hb, hz1⟩ (fun n a w hI => ?_)
     obtain ⟨x2, g, rfl, hst, hb, H1⟩ := hI
     cases n with
     | zero => exact absurd H1 (by simp [Zfy])
     | succ n =>
       rw [Zfy] at H1
       refine r_s (T := [⟨[.old 2, .old 1], _, [], [], [21]⟩]) (F := [.old 0, .old 1, .old 2, .op 0 0]) hst hb Zb
         (o_p rfl (Zc2 rfl rfl u_0 u_1) <| o_n) (by kernel_rfl) (fun a g hst hb => ?_)
       refine wp_seq ?_
       refine wp_cond_split (hst.bool 3 rfl) (fun hc3 => ?_) (fun hc3 => ?_)
       · replace H1 := Z0 hc3 H1
         refine wp_skip ?_
         refine Zu ?_
         refine wp_seq ?_
         refine wp_block ?_
         obtain ⟨e4, h5, H1⟩ := Zh H1
         refine r_s (L := [(18, _), (19, _), (20, _)]) (T := [⟨[.old 2], _, [], [], [22]⟩, ⟨[.old 0, .old 2], _, [], [], [23]⟩, ⟨[.op 1 0], _, [], [1], [24]⟩, ⟨[], [(5, (pBox Z7 5 (default : Zx)))], [6], [], [5]⟩, ⟨[.op 0 0], _, [], Lr 4, [4]⟩, ⟨[.op 2 0, .op 3 0], _, [6], Lr 5, [5]⟩]) (F := [.op 4 0, .op 5 0, .old 0, .old 1, .old 2]) (hst.pick [0, 1, 2] rfl) hb Zb
           (o_p rfl (Za rfl rfl u_0) <| o_p rfl (Zbv Tryd.underlying32 Zvd rfl rfl u_0 u_1 h5) <| o_p rfl (Zf Ze9 rfl rfl u_0) <| o_p rfl (Zbb (zs := [.int .i64 0, .string ByteArray.empty, .int .i64 0, .float .f64 0, .string ByteArray.empty, .int .i64 0, .int .i64 0, .int .i64 0, .int .i64 0, .float .f64 0, .int .i64 0, .string ByteArray.empty, .slice none 0 0, .bool false]) (by kernel_rfl) (fun g => Zjv g) rfl rfl) <| o_p rfl (Zc rfl rfl u_0) <| o_p rfl (Zby Ze9 rfl rfl u_1 u_0) <| o_n) (by kernel_rfl) (fun a g hst hb => ?_)
         obtain ⟨r6, h7, H1⟩ := Zh H1
         refine r_s (T := [⟨[.old 1], _, [], [], [25]⟩, ⟨[.op 0 0], _, [], [0], [26]⟩, ⟨[.op 1 0], _, [], [0, 1], [6]⟩]) (F := [.old 0, .op 2 0, .old 2, .old 3, .old 4]) hst hb Zb
           (o_p rfl (Zf Ze9 rfl rfl u_0) <| o_p rfl (Zp Z29 (Zpe _ h7) rfl rfl (.cons u_0 .nil)) <| o_p rfl (Zc rfl rfl u_0) <| o_n) (by kernel_rfl) (fun a g hst hb => ?_)
         refine r_s (T := [⟨[.old 1], _, [], [], [27]⟩, ⟨[.op 0 0], _, [], [0], [28]⟩]) (F := [.old 0, .old 1, .old 2, .old 3, .old 4, .op 1 0]) hst hb Zb
           (o_p rfl (Za rfl rfl u_0) <| o_p rfl (Zer rfl rfl u_0 c_i) <| o_n) (by kernel_rfl) (fun a g hst hb => ?_)
         refine wp_cond_split (hst.bool 5 rfl) (fun hc8 => ?_) (fun hc8 => ?_)
         · replace H1 := Z0 hc8 H1
           refine r_s (L := [(4, _), (6, _)]) (T := [⟨[.old 1], _, [], [], [29]⟩, ⟨[.old 0], _, [], [], [30]⟩, ⟨[.op 1 0], _, [], [1], [31]⟩, ⟨[.op 0 0], _, [], [0], [2]⟩, ⟨[.op 2 0], _, [], Lr 4, [3]⟩]) (F := [.op 3 0, .op 4 0]) (hst.pick [0, 1] rfl) hb Zb
             (o_p rfl (Za rfl rfl u_0) <| o_p rfl (Za rfl rfl u_0) <| o_p rfl (Zce rfl rfl u_0 c_i rfl) <| o_p rfl (Zc rfl rfl u_0) <| o_p rfl (Zc rfl rfl u_0) <| o_n) (by kernel_rfl) (fun a g hst hb => ?_)
           refine wp_ret ?_
           refine Zw ?_
           refine Zn ?_
           refine Zn ?_
           refine Zw ?_
           refine Zn ?_
           refine Zn ?_
           obtain rfl := Option.some.inj H1
           obtain rfl := Option.some.inj H0
           exact Zex rfl hst hb (Zm (s := 2)) (Zm (s := 3)) (Zde (hst.at 0 rfl) (hst.at 1 rfl))
         · replace H1 := Zz hc8 H1
           refine wp_skip ?_
           refine Zbt ?_
           refine Zu ?_
           refine r_g (L := [(18, _), (19, _), (20, _)]) (T := [⟨[.old 2], _, [], [], [32]⟩, ⟨[.op 0 0], _, [], [0], [20]⟩]) (F := [.old 0, .old 1, .op 1 0]) (hst.pick [2, 3, 4] rfl) hb Zb
             (o_p rfl (Zce rfl rfl u_0 c_i rfl) <| o_p rfl (Za rfl rfl u_0) <| o_n) (by kernel_rfl) (fun a g hst hb => ?_)
           exact ⟨n, Nat.lt_succ_self _, (IntKind.i64.wrap (x2 + (1 : Int))), g, rfl, (hst.pick [0, 1, 2] rfl), hb, H1⟩
       · replace H1 := Zz hc3 H1
         refine wp_exit ?_
         refine Zca ?_
         refine Zca ?_
         refine Zcz ?_
         exact ⟨g, rfl, (hst.pick [] rfl), hb, Option.some.inj H1⟩
end Go.CL
namespace Go.CL
open Go Go.RowKit
section
variable {P : Program} {N : Nat} {o : Oper} {uses outs : Z9} {S : List Nat} {d : Nat} {q : Pd} {x y z : Operand} {Q : Exit → Act → World → Prop} {a : Act} {w : World} {K : Act → World → Prop} {D : List Deferred} {g0 : G} {ops : Array Oper} {L : Z9} {T : List Spec} {F : List Ref} {os : List Oper} {X : Spec} {Xs : List Spec}
theorem Zn3 {ch : List PanicEntry} (h : Q (.panic ch) a w) : Exit.then K Q (.panic ch) a w := h
theorem Zuc {id : Nat} {ch : List PanicEntry} (h : Q (.panic ch) a w) : Exit.inBlock id Q (.panic ch) a w := h
theorem r_gQ {id : Nat} {draw : Bool} {a : Act} {g : G} {Q : Exit → Act → World → Prop} (h : StD D N L a g) (hb : Base g0 g) (hm : P.follows .mixedOrders = true) (hT : Zim P ops N L T D g0 Q ops.toList T) (hc : chk N ops L T F = true)
   (hQ : ∀ a g, StD D N (F.map (Zh1 L T)) a g → Base g0 g → Q .normal a g.w) : (Code.region id ops draw).wp P Q a g.w := Zyj hm hc hT h hb hQ
theorem q_p (hg : o.guard = none) (h : OB P N o (X.refs.map (Zh1 L T)) X.outs X.S) (hs : Zim P ops N L T D g0 Q os Xs) : Zim P ops N L T D g0 Q (o :: os) (X :: Xs) := ⟨(OT.plain hg h).q, hs⟩
theorem q_q (h : OTQ P ops N o (X.refs.map (Zh1 L T)) X.outs X.S D g0 Q) (hs : Zim P ops N L T D g0 Q os Xs) : Zim P ops N L T D g0 Q (o :: os) (X :: Xs) := ⟨h, hs⟩
theorem q_n : Zim P ops N L T D g0 Q [] [] := trivial
def pNo : Pd := ⟨fun _ _ => False, [], fun _ _ h => h⟩
theorem Zs2 (hx : Opd uses x pNo) : OB P N o uses outs S := fun a g K Q hN hdN hu hK => (hx a g hu).elim
def Zka (t : TypeId) (q : Pd) : Pd := ⟨fun g v => ∃ u, v = .iface t u ∧ q.p g u, q.fp, fun st hd ⟨u, e, h⟩ => ⟨u, e, q.st st hd h⟩⟩
theorem Z2x {t : TypeId} (ht : (P.underlying t).map (fun u => match u with | .interface _ => true | _ => false) = some false) (hop : o.op = .makeInterface t x) (hd : o.dst = some d) (hx : Opd uses x q) : OB P N o uses [(d, Zka t q)] [] :=
 Zb7 hd fun a g hh => by
   refine ⟨.iface t (a.eval x), ?_, _, rfl, hx a g hh⟩
   cases hu : P.underlying t with
   | none => rw [hu] at ht; cases ht
   | some u =>
     rw [hu] at ht
     cases u <;> first | (simp at ht; done) | simp [execOp, hop, Instr.makeInterface, run_underlying hu]
theorem Z0g {t : TypeId} (hop : o.op = .panic x) (hg : o.guard = none) (hx : Opd uses x (Zka t q)) (hQ : ∀ (a : Act) g v, a.tmps.size = N → a.defers = D → Base g0 g → Zd2 uses a g → (Zka t q).p g v → Q (.panic [{ v := v, recovered := false }]) a g.w) : OTQ P ops N o uses outs S D g0 Q := by
 intro a g K hN hD hb hdN hu hK
 have : Region.wanted o (yielded ops a.tmps) = true := by simp [Region.wanted, hg]
 rw [if_pos this]
 obtain ⟨u, hv, hq⟩ := hx a g hu
 have hr : (execOp a.eval o).run P g.w = .halt (.panic (.iface t u)) g.w := by simp [execOp, hop, hv, Instr.panic, goPanic]
 unfold Oper.wp
 rw [hr]
 exact hQ a g _ hN hD hb hu ⟨u, rfl, hq⟩
def Zy5 (P : Program) (f : FuncId) (A : List Pd) (q : Pd) : Prop := ∀ (g : G) (args : List Value), ArgsOk A g args → Calls P f args.toArray g.w (fun e w' => ∃ g' v, e = .panicked [{ v := v, recovered := false }] ∧ w' = g'.w ∧ Step [] g g' ∧ q.p g' v)
def Z1b (g0 : G) (q : Pd) : Ending → World → Prop := fun e w' => ∃ g1 v, e = .panicked [{ v := v, recovered := false }] ∧ w' = g1.w ∧ Base g0 g1 ∧ q.p g1 v
theorem Z0u {g g0 : G} {A : List Pd} {args : List Value} {n : Nat} (hle : g.le g0) (hw : g0.w = g.w) (hargs : ArgsOk A g args) (hA : A.all (fun q => q.fp.isEmpty) = true) (hAN : A.length ≤ N) (hn : n = N) : St N (Zkf A 0) { tmps := args.toArray ++ Array.replicate (n - args.toArray.size) undef, defers := [] } g0 := by
 refine ⟨?_, rfl, ?_⟩
 · have := hargs.1
   simp [hn]; omega
 · intro e he
   obtain ⟨i, h1, h2⟩ := Zm3 he
   have hi : i < args.length := by rw [hargs.1]; exact (List.getElem?_eq_some_iff.1 h2).1
   have hfp : e.2.fp = [] := by
     have := List.all_eq_true.1 hA e.2 (List.mem_of_getElem? h2)
     simpa using this
   have hv : Act.at { tmps := args.toArray ++ Array.replicate (n - args.toArray.size) undef, defers := [] } e.1 = args[i] := by
     rw [h1, Nat.zero_add]
     simp only [Act.at, Array.getD_eq_getD_getElem?]
     rw [Array.getElem?_append, if_pos (by simpa using hi)]
     simp [hi]
   rw [hv]
   exact Pd.le hfp hle (by rw [hw]) (by rw [hw]) (by rw [hw]) (hargs.2 i e.2 _ h2 (List.getElem?_eq_getElem hi))
def G.bare (g : G) : G := ⟨g.w, g.pr, fun _ => 0, g.hpr, g.gl⟩
theorem Zny (g : G) : g.le g.bare := ⟨Nat.le_refl _, fun _ _ h => h, fun _ _ _ => rfl, fun _ _ => rfl⟩
theorem Zp4 (g : G) : Base g.bare g.bare := ⟨.refl _, rfl, rfl, rfl, fun _ _ _ => ⟨rfl, rfl, rfl⟩⟩
theorem Zpg {g g1 : G} (hB : Base g.bare g1) : ∃ g2 : G, g2.w = g1.w ∧ Step [] g g2 ∧ g1.le g2 :=
 ⟨⟨g1.w, g1.pr, fun b => if b < g.w.heap.size then g.own b else 0, g1.hpr, g1.gl⟩, rfl, ⟨⟨hB.le.size, hB.le.pr, hB.le.cell, hB.le.blk⟩, hB.os, hB.tape, hB.output, fun b hb _ => ⟨(hB.same b hb rfl).1, (hB.same b hb rfl).2.1, if_pos hb⟩, fun b hb _ => .inl (if_neg (by omega)), fun _ _ h => by cases h⟩, ⟨Nat.le_refl _, fun _ _ h => h, fun _ _ _ => rfl, fun _ _ => rfl⟩⟩
theorem Z13 {f : FuncId} {fn : Func} {c : Code} {A : List Pd} (hf : P.funcs[f]? = some fn) (hb : fn.body = some c) (hn : fn.ntmps = N) (hAN : A.length ≤ N) (hA : A.all (fun q => q.fp.isEmpty) = true) (hq : q.fp = [])
   (h : ∀ (a : Act) (g : G), St N (Zkf A 0) a g → Base g g → c.wp P (bodyPost P fn (Z1b g q)) a g.w) : Zy5 P f A q := by
 intro g args hargs
 refine Calls.mono (calls_of_wp hf hb (h _ g.bare (Z0u (Zny g) rfl hargs hA hAN hn) (Zp4 g))) ?_
 rintro e w' ⟨g1, v, rfl, rfl, hB, hv⟩
 obtain ⟨g2, e2, hS, hle⟩ := Zpg hB
 exact ⟨g2, v, rfl, e2.symm, hS, Pd.le hq hle (by rw [e2]) (by rw [e2]) (by rw [e2]) hv⟩
theorem Z50 {fn : Func} {a : Act} {g : G} {v : Value} (hd : a.defers = []) (hb : Base g0 g) (hq : q.p g v) : bodyPost P fn (Z1b g0 q) (.panic [{ v := v, recovered := false }]) a g.w := ⟨hd, g, v, rfl, rfl, hb, hq⟩
theorem Zw4 {f : FuncId} {xs : List Operand} {A : List Pd} {ty : Array TypeId} (he : Zq P f) (hok : Zy5 P f A q) (hop : o.op = .call { callee := .value (.func f), args := xs.toArray, argTypes := ty }) (hg : o.guard = none) (hargs : OpdL uses xs A)
   (hQ : ∀ (a : Act) g v, a.tmps.size = N → a.defers = D → Base g0 g → Zd2 uses a g → q.p g v → Q (.panic [{ v := v, recovered := false }]) a g.w) : OTQ P ops N o uses outs S D g0 Q := by
 intro a g K hN hD hb hdN hu hK
 have : Region.wanted o (yielded ops a.tmps) = true := by simp [Region.wanted, hg]
 rw [if_pos this]
 have hr : (execOp a.eval o).run P g.w = .ok (.enter f (xs.map a.eval).toArray) g.w := by
   simp [execOp, hop, resolve, Zql, Deferred.ofValue, invoke, Zin he]
 unfold Oper.wp
 rw [hr]
 show Calls P f _ g.w _
 refine Calls.mono (hok g _ (hargs.ok hu)) ?_
 rintro e w' ⟨g', v, rfl, rfl, hs, hq⟩
 exact hQ a g' v hN hD (hb.step hs (by simp)) (fun e he => e.2.st hs (fun _ _ h => by cases h) (hu e he)) hq
theorem Z6a {f : FuncId} {fn : Func} {c : Code} {A : List Pd} (hf : P.funcs[f]? = some fn) (hb : fn.body = some c) (hn : fn.ntmps = N) (hAN : A.length ≤ N) (hA : A.all (fun q => q.fp.isEmpty) = true) (hq : q.fp = [])
   (h : ∀ (a : Act) (g : G), (∀ b, g.own b = 0) → St N (Zkf A 0) a g → Base g g → c.wp P (bodyPostD P fn (Fin g q)) a g.w) : FnOk P f A q := by
 intro g args hargs
 refine Calls.mono (calls_of_wp_defers hf hb (h _ g.bare (fun _ => rfl) (Z0u (Zny g) rfl hargs hA hAN hn) (Zp4 g))) ?_
 rintro e w' ⟨g1, v, rfl, rfl, hB, hv⟩
 obtain ⟨g2, e2, hS, hle⟩ := Zpg hB
 exact ⟨g2, v, rfl, e2.symm, hS, Pd.le hq hle (by rw [e2]) (by rw [e2]) (by rw [e2]) hv⟩
def dfr3 (f : FuncId) (v1 : Value) (b2 b3 : Nat) : List Deferred := [{ target := .fn (.func f) #[v1, .pointer (some ⟨b2, 0, none⟩), .pointer (some ⟨b3, 0, none⟩)], args := #[] }]
theorem Z1v {id f x1 x2 x3 d1 : Nat} {o1 o2 : Oper} {a : Act} {w : World} (h1 : o1.op = .makeFunc (.func f) #[] #[.tmp x1, .tmp x2, .tmp x3]) (hg1 : o1.guard = none) (hd1 : o1.dst = some d1) (h2 : o2.op = .defer { callee := .value (.tmp d1), args := #[], argTypes := #[] }) (hg2 : o2.guard = none) (hd2 : o2.dst = none) (hlt : d1 < a.tmps.size)
   {b2 b3 : Nat} {v1 : Value} (e1 : Act.at a x1 = v1) (e2 : Act.at a x2 = .pointer (some ⟨b2, 0, none⟩)) (e3 : Act.at a x3 = .pointer (some ⟨b3, 0, none⟩)) (hD : a.defers = [])
   (hK : Q .normal { tmps := (a.put (some d1) (.func (.func f) #[] #[v1, .pointer (some ⟨b2, 0, none⟩), .pointer (some ⟨b3, 0, none⟩)])).tmps, defers := dfr3 f v1 b2 b3 } w) : (Code.region id #[o1, o2] false).wp P Q a w := by
 refine wp_region ?_
 have q1 : a.eval (.tmp x1) = v1 := e1
 have q2 : a.eval (.tmp x2) = _ := e2
 have q3 : a.eval (.tmp x3) = _ := e3
 have hr1 : (execOp a.eval o1).run P w = .ok (.value (.func (.func f) #[] #[v1, .pointer (some ⟨b2, 0, none⟩), .pointer (some ⟨b3, 0, none⟩)])) w := by
   simp [execOp, h1, Instr.makeFunc, q1, q2, q3]
 have hev : (a.put (some d1) (.func (.func f) #[] #[v1, .pointer (some ⟨b2, 0, none⟩), .pointer (some ⟨b3, 0, none⟩)])).eval (.tmp d1) = .func (.func f) #[] #[v1, .pointer (some ⟨b2, 0, none⟩), .pointer (some ⟨b3, 0, none⟩)] := Ze6 _ hlt
 have hr2 : (execOp (a.put (some d1) (.func (.func f) #[] #[v1, .pointer (some ⟨b2, 0, none⟩), .pointer (some ⟨b3, 0, none⟩)])).eval o2).run P w = .ok (.defer { target := .fn (.func f) #[v1, .pointer (some ⟨b2, 0, none⟩), .pointer (some ⟨b3, 0, none⟩)], args := #[] }) w := by
   simp [execOp, h2, resolve, hev, Deferred.ofValue]
 have w1 : ∀ m, Region.wanted o1 m = true := fun m => by simp [Region.wanted, hg1]
 have w2 : ∀ m, Region.wanted o2 m = true := fun m => by simp [Region.wanted, hg2]
 show wpOps P #[o1, o2] _ (Lr 2) a w
 simp only [show Lr 2 = [0, 1] from rfl, wpOps, List.getElem?_toArray, List.getElem?_cons_zero, List.getElem?_cons_succ, w1, if_true]
 refine .inl ?_
 unfold Oper.wp
 rw [hr1, Oper.upon_value, hd1]
 simp only [w2, if_true]
 refine .inl ?_
 rw [hr2, Oper.upon_defer, hd2]
 have : ∀ (d : Deferred) (v : Value), ({ (a.put (some d1) v) with defers := d :: (a.put (some d1) v).defers } : Act) = { tmps := (a.put (some d1) v).tmps, defers := [d] } := fun d v => by
   rw [Zss, hD]
 have h3 := this { target := .fn (.func f) #[v1, .pointer (some ⟨b2, 0, none⟩), .pointer (some ⟨b3, 0, none⟩)], args := #[] } (.func (.func f) #[] #[v1, .pointer (some ⟨b2, 0, none⟩), .pointer (some ⟨b3, 0, none⟩)])
 show Q .normal (Act.put { (a.put (some d1) (.func (.func f) #[] #[v1, .pointer (some ⟨b2, 0, none⟩), .pointer (some ⟨b3, 0, none⟩)])) with defers := _ :: (a.put (some d1) _).defers } none undef) w
 rw [h3]; exact hK
theorem Zxx {α : Type} {dk : Kd α} {j : Nat} {v : α} {g : G} {u : Value} (h : (pBox dk j v).p g u) : ∃ b, u = .pointer (some ⟨b, 0, none⟩) ∧ (Zbm (some b) dk j v).p g u := by
 obtain ⟨b, cs, t, e, hm, _⟩ := h
 exact ⟨b, e, b, cs, t, e, hm, fun b' hb => Option.some.inj hb⟩
theorem Z4a {α γ σ : Type} {kV : Kd γ} {raw : α → σ → γ} {R : Hp σ} {j : Nat} {x : α} {g : G} {u : Value} (h : (pBxS kV raw R j x).p g u) : ∃ b, u = .pointer (some ⟨b, 0, none⟩) ∧ (Zhm (some b) kV raw R j x).p g u := by
 obtain ⟨s, h1, h2⟩ := h
 obtain ⟨b, e, h3⟩ := Zxx h1
 exact ⟨b, e, s, h3, h2⟩
theorem Z1j {α : Type} {dk : Kd α} {j b : Nat} {v : α} {g : G} {u : Value} (h : (Zbm (some b) dk j v).p g u) : u = .pointer (some ⟨b, 0, none⟩) := by
 obtain ⟨b', cs, t, e, hm, hb⟩ := h
 rw [e, hb b rfl]
section
variable {α β φ γ σ : Type} {kS : Kd α} {kR : Kd β} {kF : Kd φ} {kV : Kd γ} {raw : β → σ → γ} {R : Hp σ} {f : FuncId} {tf t4 t5 s4 s5 j4 j5 b4 b5 : Nat} {v2 v : Value}
abbrev ptrV (b : Nat) : Value := .pointer (some ⟨b, 0, none⟩)
def Zx7 (P : Program) (f : FuncId) : Prop := ∀ (g : G) (v2 : Value) (b4 b5 : Nat), CallsD P f #[v2, ptrV b4, ptrV b5] .returning g.w (fun e u' w' => e = .returned (.tuple #[]) ∧ u' = .returning ∧ ∃ g', w' = g'.w ∧ Step [] g g')
def Zx3 (P : Program) (f : FuncId) (kS : Kd α) (kV : Kd γ) (raw : β → σ → γ) (kR : Kd β) (tf : TypeId) (kF : Kd φ) (mk : φ → β) : Prop := ∀ (g : G) (v2 v : Value) (b4 b5 : Nat) (s z4 : α) (x : β) (r : φ), (kS.ptr s).p g v2 → (Zbm (some b4) kS 0 z4).p g (ptrV b4) → (Zhm (some b5) kV raw hpT 1 x).p g (ptrV b5) → (Zka tf (kF.pd r)).p g v →
 CallsD P f #[v2, ptrV b4, ptrV b5] (.panicking [{ v := v, recovered := false }]) g.w (fun e u' w' => e = .returned (.tuple #[]) ∧ u' = .panicking [{ v := v, recovered := true }] ∧ ∃ g', w' = g'.w ∧ Base g g' ∧ (Zbm (some b4) kS 0 s).p g' (ptrV b4) ∧ (Zbm (some b5) kR 1 (mk r)).p g' (ptrV b5))
theorem Z6p {fn : Func} {r1 r2 : ResultVar} {v1 v2 : Value} {a : Act} {g g0 : G} {L : Z9} (hr : fn.results = #[r1, r2]) (h : St N L a g) (hb : Base g0 g) (h1 : Zha P a g r1 v1) (h2 : Zha P a g r2 v2) (hq : q.p g (.tuple #[v1, v2])) : bodyPostD P fn (Fin g0 q) .ret a g.w := by
 show Leaves P fn a.tmps _ a.defers .returning g.w
 rw [h.df]
 have h1' : (Zfj a.tmps r1).run P g.w = .ok v1 g.w := h1
 have h2' : (Zfj a.tmps r2).run P g.w = .ok v2 g.w := h2
 exact ⟨.tuple #[v1, v2], by simp [Zg2, hr, h1', h2'], g, _, rfl, rfl, hb, hq⟩
theorem Z08 (he : Zq P f) (caps : Array Value) (w : World) : (invoke (.fn (.func f) caps) #[]).run P w = .ok (.enter f caps) w := by
 simp [invoke, Zin he]
theorem Z4p {fn : Func} {a : Act} {g g0 : G} {L : Z9} {c4 c5 : Option Nat} {x : α} {y : β} (hc : Zx7 P f) (he : Zq P f) (hr : fn.results = #[.cell s4 t4, .cell s5 t5]) (hT4 : Ty P t4 kS) (hT5 : Ty P t5 kR) (h : StD (dfr3 f v2 b4 b5) N L a g) (hb : Base g0 g)
   (h4 : (Zbm c4 kS j4 x).p g (Act.at a s4)) (h5 : (Zbm c5 kR j5 y).p g (Act.at a s5)) : bodyPostD P fn (Fin g0 (pTup [kS.pd x, kR.pd y])) .ret a g.w := by
 show Leaves P fn a.tmps _ a.defers .returning g.w
 rw [h.df]
 refine leaves_cons (f := f) (args := #[v2, ptrV b4, ptrV b5]) (by simp) (Z08 he _ _) ?_
 refine (hc g v2 b4 b5).mono ?_
 rintro e u' w' ⟨rfl, rfl, g', rfl, hs⟩
 obtain ⟨u4, r4, q4⟩ := Zbh (P := P) hT4 ((Zbm c4 kS j4 x).st hs (fun _ _ h => by cases h) h4)
 obtain ⟨u5, r5, q5⟩ := Zbh (P := P) hT5 ((Zbm c5 kR j5 y).st hs (fun _ _ h => by cases h) h5)
 have r4' : (Zfj a.tmps (.cell s4 t4)).run P g'.w = .ok u4 g'.w := r4
 have r5' : (Zfj a.tmps (.cell s5 t5)).run P g'.w = .ok u5 g'.w := r5
 exact ⟨.tuple #[u4, u5], by simp [Zg2, hr, r4', r5'], g', _, rfl, rfl, hb.step hs (by simp), Zde q4 q5⟩
theorem Z07 {fn : Func} {a : Act} {g g0 : G} {z4 s : α} {x : β} {r : φ} {mk : φ → β} (hc : Zx3 P f kS kV raw kR tf kF mk) (he : Zq P f) (hr : fn.results = #[.cell s4 t4, .cell s5 t5]) (hT4 : Ty P t4 kS) (hT5 : Ty P t5 kR) (h0 : ∀ b, g0.own b = 0) (hD : a.defers = dfr3 f v2 b4 b5) (hb : Base g0 g) (hj : j4 ≠ j5)
   (hs : (kS.ptr s).p g v2) (h4 : (Zbm (some b4) kS j4 z4).p g (Act.at a s4)) (h5 : (Zhm (some b5) kV raw R j5 x).p g (Act.at a s5)) (hv : (Zka tf (kF.pd r)).p g v) : bodyPostD P fn (Fin g0 (pTup [kS.pd s, kR.pd (mk r)])) (.panic [{ v := v, recovered := false }]) a g.w := by
 show Leaves P fn a.tmps _ a.defers (.panicking _) g.w
 rw [hD]
 refine leaves_cons (f := f) (args := #[v2, ptrV b4, ptrV b5]) (by simp) (Z08 he _ _) ?_
 obtain ⟨bb, cs4, ty4, e4, ⟨m1, m2, m3, m4, m5, m6⟩, hbb⟩ := h4
 obtain rfl := hbb _ rfl
 obtain ⟨sg, ⟨bb', cs5, ty5, e5, ⟨n1, n2, n3, n4, n5, n6⟩, hbb'⟩, _⟩ := h5
 obtain rfl := hbb' _ rfl
 have hne : bb ≠ bb' := fun h => by rw [h, n2] at m2; omega
 let gc : G := ⟨g.w, g.pr, fun c => if c = bb then 1 else if c = bb' then 2 else 0, g.hpr, g.gl⟩
 have hle : g.le gc := ⟨Nat.le_refl _, fun _ _ h => h, fun _ _ _ => rfl, fun _ _ => rfl⟩
 have own : ∀ c, gc.own c = if c = bb then 1 else if c = bb' then 2 else 0 := fun _ => rfl
 have k4 : (Zbm (some bb) kS 0 z4).p gc (ptrV bb) := ⟨bb, cs4, ty4, rfl, ⟨m1, by rw [own, if_pos rfl], fun b' _ ho => by
   rw [own] at ho
   split at ho
   · assumption
   · split at ho <;> omega, m4, kS.mono hle m5, m6⟩, hbb⟩
 have k5 : (Zhm (some bb') kV raw hpT 1 x).p gc (ptrV bb') := ⟨sg, ⟨bb', cs5, ty5, rfl, ⟨n1, by rw [own, if_neg (Ne.symm hne), if_pos rfl], fun b' _ ho => by
   rw [own] at ho
   split at ho
   · omega
   · split at ho
     · assumption
     · omega, n4, kV.mono hle n5, n6⟩, hbb'⟩, trivial⟩
 refine (hc gc v2 v bb bb' s z4 x r (Pd.le (q := kS.ptr s) rfl hle rfl rfl rfl hs) k4 k5 (Pd.le (q := Zka tf (kF.pd r)) rfl hle rfl rfl rfl hv)).mono ?_
 rintro e u' w' ⟨rfl, rfl, g', rfl, hB, q4, q5⟩
 have a4 : (Zbm (some bb) kS 0 s).p g' (Act.at a s4) := by rw [e4]; exact q4
 have a5 : (Zbm (some bb') kR 1 (mk r)).p g' (Act.at a s5) := by rw [e5]; exact q5
 obtain ⟨u4, r4, p4⟩ := Zbh (P := P) hT4 a4
 obtain ⟨u5, r5, p5⟩ := Zbh (P := P) hT5 a5
 have r4' : (Zfj a.tmps (.cell s4 t4)).run P g'.w = .ok u4 g'.w := r4
 have r5' : (Zfj a.tmps (.cell s5 t5)).run P g'.w = .ok u5 g'.w := r5
 have hle' : g.le g' := hle.trans hB.le
 show ∃ v, (results fn a.tmps).run P g'.w = .ok v g'.w ∧ _
 refine ⟨.tuple #[u4, u5], by simp [Zg2, hr, r4', r5'], g'.bare, _, rfl, rfl, ⟨hb.le.trans (hle'.trans (Zny g')), hB.os.trans hb.os, hB.tape.trans hb.tape, hB.output.trans hb.output, fun c hcl hc0 => ?_⟩, Zde (Pd.le (q := kS.pd s) rfl (Zny g') rfl rfl rfl p4) (Pd.le (q := kR.pd (mk r)) rfl (Zny g') rfl rfl rfl p5)⟩
 obtain ⟨k1, k2, k3⟩ := hb.same c hcl hc0
 have h1 : c ≠ bb := fun h => by rw [h, m2] at k3; omega
 have h2 : c ≠ bb' := fun h => by rw [h, n2] at k3; omega
 obtain ⟨l1, l2, l3⟩ := hB.same c (Nat.lt_of_lt_of_le hcl hb.le.size) (by rw [own, if_neg h1, if_neg h2])
 exact ⟨l1.trans k1, l2.trans k2, rfl⟩
theorem Zrf {t : TypeId} {ms : _} (w : World) (k : Nat) (hu : P.underlying t = some (.interface ms)) : (Op.equalIn (k + 1) t .nilIface .nilIface).run P w = .ok true w := by simp [Op.equalIn, run_underlying hu]
theorem Zq2 {t t2 : TypeId} {u2 : Value} {ms : _} (w : World) (k : Nat) (hu : P.underlying t = some (.interface ms)) : (Op.equalIn (k + 1) t (.iface t2 u2) .nilIface).run P w = .ok false w := by simp [Op.equalIn, run_underlying hu]
theorem Z48 {t ty : TypeId} (ht : (P.underlying t).map (fun u => match u with | .interface _ => true | _ => false) = some true) (hop : o.op = .binOp .eql t x (.const .nilIface) ty) (hd : o.dst = some d) (hx : Opd uses x (pEq .nilIface)) : OB P N o uses [(d, Zbd true)] [] :=
 Zb7 hd fun a g hh => by
   have hv : a.eval x = .nilIface := hx a g hh
   refine ⟨.bool true, ?_, Zei _ g⟩
   cases hu : P.underlying t with
   | none => rw [hu] at ht; cases ht
   | some u =>
     rw [hu] at ht
     cases u <;> try (simp at ht; done)
     have hg : (eqGuard .eql t x (.const .nilIface) .nilIface .nilIface).run P g.w = .ok () g.w := by
       unfold eqGuard
       cases x <;> rfl
     have hb : (binOp .eql t .nilIface .nilIface).run P g.w = .ok (.bool true) g.w := by
       show (do pure (.bool (← Op.equal t .nilIface .nilIface)) : Sem Value).run P g.w = _
       have : (Op.equal t .nilIface .nilIface).run P g.w = .ok true g.w := by
         exact Zrf g.w 9999 hu
       simp only [Sem.run_bind, this, Result.andThen_ok, Sem.run_pure]
     have hc : a.eval (.const .nilIface) = .nilIface := rfl
     simp [execOp, hop, hv, hc, hg, hb]
theorem Z2c {t ty t2 : TypeId} (ht : (P.underlying t).map (fun u => match u with | .interface _ => true | _ => false) = some true) (hop : o.op = .binOp .eql t x (.const .nilIface) ty) (hd : o.dst = some d) (hx : Opd uses x (Zka t2 q)) : OB P N o uses [(d, Zbd false)] [] :=
 Zb7 hd fun a g hh => by
   obtain ⟨u2, hv, _⟩ := hx a g hh
   refine ⟨.bool false, ?_, Zei _ g⟩
   cases hu : P.underlying t with
   | none => rw [hu] at ht; cases ht
   | some u =>
     rw [hu] at ht
     cases u <;> try (simp at ht; done)
     have hg : (eqGuard .eql t x (.const .nilIface) (.iface t2 u2) .nilIface).run P g.w = .ok () g.w := by
       unfold eqGuard
       split <;> rfl
     have hb : (binOp .eql t (.iface t2 u2) .nilIface).run P g.w = .ok (.bool false) g.w := by
       show (do pure (.bool (← Op.equal t (.iface t2 u2) .nilIface)) : Sem Value).run P g.w = _
       have : (Op.equal t (.iface t2 u2) .nilIface).run P g.w = .ok false g.w := by
         exact Zq2 g.w 9999 hu
       simp only [Sem.run_bind, this, Result.andThen_ok, Sem.run_pure]
     have hc : a.eval (.const .nilIface) = .nilIface := rfl
     simp [execOp, hop, hv, hc, hg, hb]
theorem Z1h {t t2 : TypeId} (ht : (P.underlying t2).map (fun u => match u with | .interface _ => true | _ => false) = some false) (hop : o.op = .typeAssert x t t2 true) (hd : o.dst = some d) (hx : Opd uses x (Zka t2 q)) : OB P N o uses [(d, pTup [q, Zbd true])] [] :=
 Zb7 hd fun a g hh => by
   obtain ⟨u2, hv, hq⟩ := hx a g hh
   refine ⟨.tuple #[u2, .bool true], ?_, Zde hq (Zei _ g)⟩
   cases hu : P.underlying t2 with
   | none => rw [hu] at ht; cases ht
   | some u =>
     rw [hu] at ht
     cases u <;> first | (simp at ht; done) | simp [execOp, hop, hv, Instr.typeAssert, run_underlying hu]
end
theorem Z1e {c : Code} {a : Act} {w : World} (J : Act → Prop) (hJ : J a) (h : ∀ a, J a → c.wp P Q a w) : c.wp P Q a w := h a hJ
theorem Zu4 {a : Act} {n : Nat} {g : G} {v : Value} (e : Act.at a n = v) (h : q.p g v) : q.p g (Act.at a n) := e ▸ h
abbrev dact (a : Act) (d1 : Nat) (v : Value) (D : List Deferred) : Act := { tmps := (a.put (some d1) v).tmps, defers := D }
theorem Zqo {a : Act} {d1 n : Nat} {v : Value} {D : List Deferred} {g : G} (h : n ≠ d1) (hq : q.p g (Act.at a n)) : q.p g (Act.at (dact a d1 v D) n) := by
 have : Act.at (dact a d1 v D) n = Act.at a n := Zio (a := a) v (fun e => h (Option.some.inj e).symm)
 rw [this]; exact hq
theorem Z2g {a : Act} {g : G} {v u : Value} (h : q.p g u) (e : u = v) : (pAt v q).p g (Act.at a 1000) := e ▸ h
theorem Z71 {k a b : Nat} (h : k = a) (h' : k = b) (hn : a ≠ b) : False := hn (h.symm.trans h')
end
end Go.CL
namespace Go.CL
open Go Go.RowKit Go.Proofs
theorem Zti : Zx7 Tryd.prog 23 := by
 intro g v2 b4 b5
 refine callsD_of_wpS Tryd.func23 rfl fun c₀ cs hu => ?_
 apply wpS_seq
 apply wpS_region
 simp [wpOpsS, go_sem, recoverD, hu, Tryd.ntmps23, Exit.thenS]
 refine wpS_of_wp ?_
 refine Z1e (fun a => St 18 [(6, pEq .nilIface)] a g.bare) ?_ (fun a hst => ?_)
 · exact ⟨by simp, rfl, Ze8 (show Act.at _ _ = _ by simp [Act.at, Array.getD_eq_getD_getElem?, Array.getElem?_append, Array.getElem?_setIfInBounds]) Znd⟩
 have hb := Zp4 g
 refine (show (Code.block _ _).wp Tryd.prog _ a g.bare.w from ?_)
 refine wp_block ?_
 refine r_s (T := [⟨[.old 0], _, [], [], [8]⟩]) (F := [.op 0 0, .old 0]) hst hb Zb
   (o_p rfl (Z48 (by kernel_rfl) rfl rfl u_0) <| o_n) (by kernel_rfl) (fun a g1 hst hb => ?_)
 refine wp_cond_split (hst.bool 0 rfl) (fun _ => ?_) (fun hc => by cases hc)
 refine r_g (L := [(6, _)]) (T := [⟨[.old 0], _, [], [], [3]⟩]) (F := [.old 0]) (hst.pick [1] rfl) hb Zb
   (o_p rfl (Zc rfl rfl u_0) <| o_n) (by kernel_rfl) (fun a g1 hst hb => ?_)
 refine Zbt ?_
 obtain ⟨g2, e2, hs, _⟩ := Zpg hb
 refine ⟨hst.df, .returning, ?_, .tuple #[], by simp [results, Tryd.results23], rfl, rfl, g2, e2.symm, hs⟩
 rw [← hu]
theorem Ztl : Zx3 Tryd.prog 23 Zt Zc3 Zds Zb0 75 Zeq (fun r => ({ Code := r.code, At := r.at_, Answers := ([] : List Zg) } : Zv)) := by
 intro g v2 v b4 b5 s z4 x r hs h4 h5 hv
 refine callsD_of_wpS Tryd.func23 rfl fun c₀ cs hu => ?_
 apply wpS_seq
 apply wpS_region
 simp [wpOpsS, go_sem, recoverD, hu, Tryd.ntmps23, Exit.thenS]
 refine wpS_of_wp ?_
 refine Z1e (fun a => St 18 [(0, Zt.ptr s), (1, Zbm (some b4) Zt 0 z4), (2, Zhm (some b5) Zc3 Zds hpT 1 x), (6, Zka 75 (Zeq.pd r))] a g) ?_ (fun a hst => ?_)
 · exact ⟨by simp, rfl, Ze8 (Zu4 (v := v2) (by simp [Act.at, Array.getD_eq_getD_getElem?, Array.getElem?_append, Array.getElem?_setIfInBounds]) hs) (Ze8 (Zu4 (v := ptrV b4) (by simp [Act.at, Array.getD_eq_getD_getElem?, Array.getElem?_append, Array.getElem?_setIfInBounds]) h4) (Ze8 (Zu4 (v := ptrV b5) (by simp [Act.at, Array.getD_eq_getD_getElem?, Array.getElem?_append, Array.getElem?_setIfInBounds]) h5) (Ze8 (Zu4 (v := v) (by simp [Act.at, Array.getD_eq_getD_getElem?, Array.getElem?_append, Array.getElem?_setIfInBounds]) hv) Znd)))⟩
 have hb : Base g g := ⟨.refl _, rfl, rfl, rfl, fun _ _ h => ⟨rfl, rfl, h⟩⟩
 refine (show (Code.block _ _).wp Tryd.prog _ a g.w from ?_)
 refine wp_block ?_
 refine r_s (T := [⟨[.old 3], _, [], [], [8]⟩]) (F := [.old 0, .old 1, .old 2, .old 3, .op 0 0]) hst hb Zb
   (o_p rfl (Z2c (by kernel_rfl) rfl rfl u_0) <| o_n) (by kernel_rfl) (fun a g1 hst hb => ?_)
 refine wp_cond_split (hst.bool 4 rfl) (fun hc => by cases hc) (fun _ => ?_)
 refine r_s (L := [(0, _), (1, _), (2, _), (6, _)]) (T := [⟨[.old 3], _, [], [], [9]⟩, ⟨[.op 0 0], _, [], [0], [10]⟩, ⟨[.op 0 0], _, [], [0], [11]⟩]) (F := [.old 0, .old 1, .old 2, .op 1 0, .op 2 0]) (hst.pick [0, 1, 2, 3] rfl) hb Zb
   (o_p rfl (Z1h (by kernel_rfl) rfl rfl u_0) <| o_p rfl (Z4 rfl rfl u_0 rfl) <| o_p rfl (Z4 rfl rfl u_0 rfl) <| o_n) (by kernel_rfl) (fun a g1 hst hb => ?_)
 refine wp_cond_split (hst.bool 3 rfl) (fun _ => ?_) (fun hc => by cases hc)
 refine r_s (L := [(0, _), (1, _), (2, _), (11, _)]) (T := [⟨[], [(4, (pBox Zeq 90 (default : Zdf)))], [91], [], [4]⟩, ⟨[.op 0 0, .old 3], _, [91], [0], [4]⟩]) (F := [.old 0, .old 1, .old 2, .op 1 0]) (hst.pick [0, 1, 2, 4] rfl) hb Zb
   (o_p rfl (Zbb (zs := [.int .i64 0, .int .i64 0]) (by kernel_rfl) (fun g => Zs3 g) rfl rfl) <| o_p rfl (Zby Z7t rfl rfl u_0 u_1) <| o_n) (by kernel_rfl) (fun a g1 hst hb => ?_)
 refine r_g (T := [⟨[.old 0], _, [], [], [12]⟩, ⟨[.old 3], _, [], [], [13]⟩, ⟨[.op 1 0], _, [], [1], [14]⟩, ⟨[.old 3], _, [], [], [15]⟩, ⟨[.op 3 0], _, [], [3], [16]⟩, ⟨[.op 2 0, .op 4 0], _, [], [1, 2, 3, 4], [17]⟩, ⟨[.old 1, .op 0 0], _, [1], [0], [1]⟩, ⟨[.old 2, .op 5 0], _, [2], [0, 1, 2, 3, 4, 5, 6], [2]⟩]) (F := [.op 6 0, .op 7 0]) hst hb Zb
   (o_p rfl (Zf Zbf rfl rfl u_0) <| o_p rfl (Ze Z3x rfl rfl u_0) <| o_p rfl (Zf Zj0 rfl rfl u_0) <| o_p rfl (Ze Z4x rfl rfl u_0) <| o_p rfl (Zf ty_3 rfl rfl u_0) <| o_p rfl (Zpp rfl rfl u_0 u_1) <| o_p rfl (Z6 Zbf rfl rfl u_0 u_1) <| o_p rfl (Zoj (kV := Zc3) (by rfl) Zjf rfl rfl u_0 u_1) <| o_n) (by kernel_rfl) (fun a g1 hst hb => ?_)
 refine Zbt ?_
 have k4 := hst.at 0 rfl
 have k5 := hst.at 1 rfl
 have w4 : Act.at a 1 = ptrV b4 := Z1j k4
 have w5 : Act.at a 2 = ptrV b5 := Z1j k5
 exact ⟨hst.df, .panicking [{ v := v, recovered := true }], rfl, .tuple #[], by simp [results, Tryd.results23], rfl, rfl, g1, rfl, hb, w4 ▸ k4, w5 ▸ k5⟩
theorem Zwh (a0 : Zx) (a1 : Zg) (a2 : Int) {r : Zg} (h : Zl1 a0 a1 a2 = some r) : FnOk Tryd.prog 24 [(Z7.pd a0), (Zs.pd a1), (pInt .i64 a2)] (Zs.pd r) := by
 have H0 := h
 unfold Zl1 at H0
 clear h
 refine Zbu (N := 20) Tryd.func24 rfl rfl (Nat.le_of_ble_eq_true rfl) rfl rfl (fun a g0 hst hb => ?_)
 refine r_s (T := [⟨[.old 0], _, [], [], [3]⟩, ⟨[.old 1], _, [], [], [4]⟩, ⟨[], [(6, (pBox Zs 6 (default : Zg)))], [7], [], [6]⟩]) (F := [.old 2, .op 0 0, .op 1 0, .op 2 0]) hst hb Zb
   (o_p rfl (Zbl rfl rfl u_0) <| o_p rfl (Zbl rfl rfl u_0) <| o_p rfl (Zbb (zs := [.int .i64 0, .int .i64 0, .int .i64 0, .int .i64 0, .int .i64 0, .int .i64 0, .float .f64 0, .int .i64 0, .string ByteArray.empty, .slice none 0 0]) (by kernel_rfl) (fun g => Zdy g) rfl rfl) <| o_n) (by kernel_rfl) (fun a g hst hb => ?_)
 refine wp_seq ?_
 refine r_s (T := [⟨[.old 1], _, [], [], [7]⟩, ⟨[.op 0 0], _, [], [0], [8]⟩, ⟨[.op 1 0], _, [], [0, 1], [9]⟩, ⟨[.op 2 0, .old 2], _, [], [0, 1, 2], [10]⟩, ⟨[.op 2 0, .op 3 0], _, [], Lr 4, [11]⟩, ⟨[.op 2 0, .op 4 0], _, [], Lr 5, [12]⟩, ⟨[.op 2 0, .op 5 0], _, [], Lr 6, [13]⟩]) (F := [.old 0, .old 2, .old 3, .op 6 0]) hst hb Zb
   (o_p rfl (Ze Ztd rfl rfl u_0) <| o_p rfl (Zf ty_4 rfl rfl u_0) <| o_p rfl (Za rfl rfl u_0) <| o_g (g_t rfl rfl rfl (fun hG => Ze Zkw rfl rfl u_0)) <| o_g (g_t rfl rfl rfl (fun hG => Zf Zj0 rfl rfl (Opd.gd hG u_0))) <| o_g (g_t rfl rfl rfl (fun hG => Zer rfl rfl (Opd.gd hG u_0) c_i)) <| o_p rfl (Zbj rfl rfl u_0 (fun hz => (Opd.gd hz u_1))) <| o_n) (by kernel_rfl) (fun a g hst hb => ?_)
 refine Zc0 (fun a w => ∃ (g : G), w = g.w ∧ St 20 [(4, (Zs.ptr a1)), (6, (pBox Zs 6 (default : Zg)))] a g ∧ Base g0 g ∧ Zm9 a1 = some r) ?_ ?_
 · rintro a w ⟨g, rfl, hst, hb, H0⟩
   unfold Zm9 at H0
   refine Zu ?_
   refine r_s (T := [⟨[.old 0], _, [], [], [19]⟩, ⟨[.op 0 0, .old 1], _, [7], [0], [6]⟩]) (F := [.op 1 0]) hst hb Zb
     (o_p rfl (Zf Zcb rfl rfl u_0) <| o_p rfl (Z6 Zcb rfl rfl u_1 u_0) <| o_n) (by kernel_rfl) (fun a g hst hb => ?_)
   refine wp_ret ?_
   obtain rfl := Option.some.inj H0
   obtain ⟨u0, hu0, hq0⟩ := Zbh (P := Tryd.prog) Zcb (hst.at 0 rfl)
   exact Z3 rfl hst hb hu0 hq0
 · refine wp_cond_split (hst.bool 3 rfl) (fun hc1 => ?_) (fun hc1 => ?_)
   · replace H0 := Z0 hc1 H0
     cases H0
   · replace H0 := Zz hc1 H0
     refine wp_skip ?_
     exact ⟨g, rfl, (hst.pick [1, 2] rfl), hb, H0⟩
theorem Ztc (a0 : Zx) (a1 : Zg) (a2 : Int) {r : Zdf} (h : Zke a0 a1 a2 = some r) : Zy5 Tryd.prog 24 [(Z7.pd a0), (Zs.pd a1), (pInt .i64 a2)] (Zka 75 (Zeq.pd r)) := by
 have H0 := h
 unfold Zke at H0
 clear h
 refine Z13 (N := 20) Tryd.func24 rfl rfl (Nat.le_of_ble_eq_true rfl) rfl rfl (fun a g0 hst hb => ?_)
 refine r_s (T := [⟨[.old 0], _, [], [], [3]⟩, ⟨[.old 1], _, [], [], [4]⟩, ⟨[], [(6, (pBox Zs 6 (default : Zg)))], [7], [], [6]⟩]) (F := [.old 2, .op 0 0, .op 1 0, .op 2 0]) hst hb Zb
   (o_p rfl (Zbl rfl rfl u_0) <| o_p rfl (Zbl rfl rfl u_0) <| o_p rfl (Zbb (zs := [.int .i64 0, .int .i64 0, .int .i64 0, .int .i64 0, .int .i64 0, .int .i64 0, .float .f64 0, .int .i64 0, .string ByteArray.empty, .slice none 0 0]) (by kernel_rfl) (fun g => Zdy g) rfl rfl) <| o_n) (by kernel_rfl) (fun a g hst hb => ?_)
 refine wp_seq ?_
 refine r_s (T := [⟨[.old 1], _, [], [], [7]⟩, ⟨[.op 0 0], _, [], [0], [8]⟩, ⟨[.op 1 0], _, [], [0, 1], [9]⟩, ⟨[.op 2 0, .old 2], _, [], [0, 1, 2], [10]⟩, ⟨[.op 2 0, .op 3 0], _, [], Lr 4, [11]⟩, ⟨[.op 2 0, .op 4 0], _, [], Lr 5, [12]⟩, ⟨[.op 2 0, .op 5 0], _, [], Lr 6, [13]⟩]) (F := [.old 0, .old 2, .old 3, .op 6 0]) hst hb Zb
   (o_p rfl (Ze Ztd rfl rfl u_0) <| o_p rfl (Zf ty_4 rfl rfl u_0) <| o_p rfl (Za rfl rfl u_0) <| o_g (g_t rfl rfl rfl (fun hG => Ze Zkw rfl rfl u_0)) <| o_g (g_t rfl rfl rfl (fun hG => Zf Zj0 rfl rfl (Opd.gd hG u_0))) <| o_g (g_t rfl rfl rfl (fun hG => Zer rfl rfl (Opd.gd hG u_0) c_i)) <| o_p rfl (Zbj rfl rfl u_0 (fun hz => (Opd.gd hz u_1))) <| o_n) (by kernel_rfl) (fun a g hst hb => ?_)
 refine Zc0 (fun a w => ∃ (g : G), w = g.w ∧ St 20 [(4, (Zs.ptr a1)), (6, (pBox Zs 6 (default : Zg)))] a g ∧ Base g0 g ∧ Zll = some r) ?_ ?_
 · rintro a w ⟨g, rfl, hst, hb, H0⟩
   unfold Zll at H0
   refine Zu ?_
   refine r_s (T := [⟨[.old 0], _, [], [], [19]⟩, ⟨[.op 0 0, .old 1], _, [7], [0], [6]⟩]) (F := [.op 1 0]) hst hb Zb
     (o_p rfl (Zf Zcb rfl rfl u_0) <| o_p rfl (Z6 Zcb rfl rfl u_1 u_0) <| o_n) (by kernel_rfl) (fun a g hst hb => ?_)
   cases H0
 · refine wp_cond_split (hst.bool 3 rfl) (fun hc1 => ?_) (fun hc1 => ?_)
   · replace H0 := Z0 hc1 H0
     obtain rfl := Option.some.inj H0
     refine r_gQ (L := [(2, _), (4, _), (6, _)]) (T := [⟨[.old 1], _, [], [], [14]⟩, ⟨[.op 0 0], _, [], [0], [15]⟩, ⟨[.old 0], _, [], [], [16]⟩, ⟨[.op 1 0, .op 2 0], _, [], [0, 1, 2], [17]⟩, ⟨[.op 3 0], _, [], Lr 4, [18]⟩, ⟨[.op 4 0], [(1001, pNo)], [], Lr 5, [1001]⟩]) (F := [.op 5 0]) (hst.pick [0, 1, 2] rfl) hb Zb
       (q_p rfl (Ze Zkw rfl rfl u_0) <| q_p rfl (Zf Zj0 rfl rfl u_0) <| q_p rfl (Za rfl rfl u_0) <| q_p rfl (Z0r rfl rfl u_0 u_1) <| q_p rfl (Z2x (by kernel_rfl) rfl rfl u_0) <| q_q (Z0g rfl rfl u_0 (fun a g v hN hD hb hu hv => by refine Zn3 ?_; refine Zn3 ?_; exact Z50 hD hb hv)) <| q_n) (by kernel_rfl) (fun a g hst hb => (hst.at 0 rfl).elim)
   · replace H0 := Zz hc1 H0
     refine wp_skip ?_
     exact ⟨g, rfl, (hst.pick [1, 2] rfl), hb, H0⟩
theorem Znq (a0 : Zk) (a1 : Zbn) {r : Zk × Zv} (h : Ziz a0 a1 = some r) : FnOk Tryd.prog 8 [(Zt.pd a0), (Zck.pd a1)] (pTup [(Zt.pd r.1), (Zb0.pd r.2)]) := by
 have H0 := h
 unfold Ziz at H0
 clear h
 refine Z6a (N := 52) Tryd.func8 rfl rfl (Nat.le_of_ble_eq_true rfl) rfl rfl (fun a g0 h0 hst hb => ?_)
 refine r_s (T := [⟨[.old 0], _, [], [], [2]⟩, ⟨[.old 1], _, [], [], [3]⟩, ⟨[], [(4, (pBox Zt 4 (default : Zk)))], [5], [], [4]⟩, ⟨[], [(5, (Zhm none Zc3 Zds (hpL (pRow Zs 58 505 ((default : Zv).Answers))) 5 (default : Zv)))], [6], [], [5]⟩]) (F := [.op 0 0, .op 1 0, .op 2 0, .op 3 0]) hst hb Zb
   (o_p rfl (Zbl rfl rfl u_0) <| o_p rfl (Zbl rfl rfl u_0) <| o_p rfl (Zbb (zs := [.pointer none, .int .i64 0]) (by kernel_rfl) (fun g => Zci g) rfl rfl) <| o_p rfl (Z0h (R := hpL (pRow Zs 58 505 ((default : Zv).Answers))) (zs := [.int .i64 0, .int .i64 0, .slice none 0 0]) (none, 0, 0) (by kernel_rfl) Zsv (fun g => Zwr 505 g) rfl rfl) <| o_n) (by kernel_rfl) (fun a g hst hb => ?_)
 refine wp_seq ?_
 obtain ⟨r1, h2, H0⟩ := Zh H0
 refine r_s (T := [⟨[.old 1], _, [], [], [13]⟩, ⟨[.op 0 0], _, [], [0], [14]⟩, ⟨[.op 1 0], _, [], [0, 1], [12]⟩, ⟨[.op 2 0], _, [], [0, 1, 2], [15]⟩, ⟨[.op 2 0], _, [], [0, 1, 2], [16]⟩, ⟨[.op 3 0], _, [], Lr 4, [6]⟩, ⟨[.op 4 0], _, [], Lr 6, [7]⟩]) (F := [.old 0, .old 1, .old 2, .old 3, .op 5 0, .op 6 0]) hst hb Zb
   (o_p rfl (Zf Zlt rfl rfl u_0) <| o_p rfl (Zp Z7i (Zuw _ h2) rfl rfl (.cons u_0 .nil)) <| o_p rfl (Za rfl rfl u_0) <| o_p rfl (Z4 rfl rfl u_0 rfl) <| o_p rfl (Z4 rfl rfl u_0 rfl) <| o_p rfl (Zc rfl rfl u_0) <| o_p rfl (Zc rfl rfl u_0) <| o_n) (by kernel_rfl) (fun a g hst hb => ?_)
 refine r_s (T := [⟨[.old 4], _, [], [], [17]⟩, ⟨[.op 0 0], _, [], [0], [18]⟩]) (F := [.old 0, .old 1, .old 2, .old 3, .old 4, .old 5, .op 1 0]) hst hb Zb
   (o_p rfl (Za rfl rfl u_0) <| o_p rfl (Zer rfl rfl u_0 c_i) <| o_n) (by kernel_rfl) (fun a g hst hb => ?_)
 refine wp_cond_split (hst.bool 6 rfl) (fun hc3 => ?_) (fun hc3 => ?_)
 · replace H0 := Z0 hc3 H0
   refine r_s (L := [(2, _), (4, _), (5, _), (6, _), (7, _)]) (T := [⟨[.old 0], _, [], [], [19]⟩, ⟨[.old 3], _, [], [], [20]⟩, ⟨[.old 4], _, [], [], [21]⟩, ⟨[.op 1 0, .op 2 0], _, [], [1, 2], [22]⟩, ⟨[.op 0 0, .old 1], _, [5], [0], [4]⟩, ⟨[.op 3 0, .old 2], _, [6], Lr 5, [5]⟩]) (F := [.old 0, .op 4 0, .op 5 0]) (hst.pick [0, 2, 3, 4, 5] rfl) hb Zb
     (o_p rfl (Zf Zbf rfl rfl u_0) <| o_p rfl (Za rfl rfl u_0) <| o_p rfl (Za rfl rfl u_0) <| o_p rfl (Zpp rfl rfl u_0 u_1) <| o_p rfl (Z6 Zbf rfl rfl u_1 u_0) <| o_p rfl (Zoj (kV := Zc3) (by rfl) Zjf rfl rfl u_1 u_0) <| o_n) (by kernel_rfl) (fun a g hst hb => ?_)
   refine wp_ret ?_
   refine Zn ?_
   obtain rfl := Option.some.inj H0
   obtain ⟨u0, hu0, hq0⟩ := Zbh (P := Tryd.prog) Zbf (hst.at 1 rfl)
   obtain ⟨u1, hu1, hq1⟩ := Zbh (P := Tryd.prog) Zjf (hst.at 2 rfl)
   exact Z6p rfl hst hb hu0 hu1 (Zde hq0 hq1)
 · replace H0 := Zz hc3 H0
   refine wp_skip ?_
   refine Zu ?_
   obtain ⟨b4, e4, q4⟩ := Zxx (hst.at 2 rfl)
   obtain ⟨b5, e5, q5⟩ := Z4a (hst.at 3 rfl)
   refine wp_seq ?_
   have q2 := (hst.at 0 rfl)
   obtain ⟨v2, hv2⟩ : ∃ v2, Act.at a 2 = v2 := ⟨_, rfl⟩
   refine Z1v (f := 23) (d1 := 23) (x1 := 2) (x2 := 4) (x3 := 5) ?_ ?_ ?_ ?_ ?_ ?_ ?_ hv2 e4 e5 hst.df ?_
   · rfl
   · rfl
   · rfl
   · rfl
   · rfl
   · rfl
   · rw [hst.size]; decide
   replace hst : StD (dfr3 23 v2 b4 b5) 52 [(2, (Zt.ptr a0)), (3, (Zck.ptr a1)), (4, (Zbm (some b4) Zt 4 (default : Zk))), (5, (Zhm (some b5) Zc3 Zds (hpL (pRow Zs 58 505 ((default : Zv).Answers))) 5 (default : Zv))), (1000, (pAt v2 (Zt.ptr a0)))] (dact a 23 (.func (.func 23) #[] #[v2, .pointer (some ⟨b4, 0, none⟩), .pointer (some ⟨b5, 0, none⟩)]) (dfr3 23 v2 b4 b5)) g := ⟨(Zwf ..).trans hst.size, rfl, (Ze8 (Zqo (by decide) (hst.at 0 rfl)) (Ze8 (Zqo (by decide) (hst.at 1 rfl)) (Ze8 (Zqo (by decide) q4) (Ze8 (Zqo (by decide) q5) (Ze8 (Z2g q2 hv2) Znd)))))⟩
   refine Zu ?_
   refine r_s (T := [⟨[.old 0], _, [], [], [24]⟩, ⟨[], [(8, (pBox Zt 8 (default : Zk)))], [9], [], [8]⟩, ⟨[.op 0 0, .op 1 0], _, [9], [0, 1], [8]⟩]) (F := [.old 0, .old 1, .old 2, .old 3, .op 2 0, .old 4]) hst hb Zb
     (o_p rfl (Zf Zbf rfl rfl u_0) <| o_p rfl (Zbb (zs := [.pointer none, .int .i64 0]) (by kernel_rfl) (fun g => Zci g) rfl rfl) <| o_p rfl (Z6 Zbf rfl rfl u_1 u_0) <| o_n) (by kernel_rfl) (fun a g hst hb => ?_)
   refine wp_seq ?_
   refine r_s (T := [⟨[.old 1], _, [], [], [25]⟩, ⟨[.op 0 0], _, [], [0], [26]⟩, ⟨[.op 1 0], _, [], [0, 1], [27]⟩, ⟨[], _, [], [], [28]⟩]) (F := [.old 0, .old 2, .old 3, .old 4, .op 1 0, .op 2 0, .op 3 0, .old 5]) hst hb Zb
     (o_p rfl (Ze Zks rfl rfl u_0) <| o_p rfl (Zf Znj rfl rfl u_0) <| o_p rfl (Zb3 Tryd.underlying32 rfl rfl u_0) <| o_p rfl (Za rfl rfl c_i) <| o_n) (by kernel_rfl) (fun a g hst hb => ?_)
   obtain ⟨z19, hz1, H0⟩ := Zh H0
   refine Zc0 (fun a w => ∃ (y17 : Zv) (y18 : Zk) (g : G), w = g.w ∧ StD (dfr3 23 v2 b4 b5) 52 [(2, (Zt.ptr a0)), (4, (Zbm (some b4) Zt 4 (default : Zk))), (5, (Zhm (some b5) Zc3 Zds (hpL (pRow Zs 58 505 y17.Answers)) 5 y17)), (8, (pBox Zt 8 y18)), (1000, (pAt v2 (Zt.ptr a0)))] a g ∧ Base g0 g ∧ (.inr (y17, y18)) = z19) ?_ ?_
   · rintro a w ⟨y17, y18, g, rfl, hst, hb, rfl⟩
     refine Zu ?_
     refine r_s (T := [⟨[.old 3], _, [], [], [50]⟩, ⟨[.old 2], _, [], [], [51]⟩, ⟨[.op 0 0, .old 1], _, [5], [0], [4]⟩, ⟨[.op 1 0, .old 2], _, [6], [0, 1, 2], [5]⟩]) (F := [.old 0, .op 2 0, .op 3 0, .old 4]) hst hb Zb
       (o_p rfl (Zb8 Zbf rfl rfl u_0) <| o_p rfl (Z2e Zsi Zjf rfl rfl u_0) <| o_p rfl (Z6 Zbf rfl rfl u_1 u_0) <| o_p rfl (Zoj (kV := Zc3) (by rfl) Zjf rfl rfl u_1 u_0) <| o_n) (by kernel_rfl) (fun a g hst hb => ?_)
     refine wp_ret ?_
     obtain rfl := Option.some.inj H0
     exact Z4p Zti Z3j rfl Zbf Zjf hst hb (hst.at 1 rfl) (hst.at 2 rfl)
   · refine wp_block ?_
     refine wp_loop_ghost (fun n a w => ∃ (x4 : Zv) (x5 : Zk) (x6 : Int) (g : G), w = g.w ∧ StD (dfr3 23 v2 b4 b5) 52 [(2, (Zt.ptr a0)), (4, (Zbm (some b4) Zt 4 (default : Zk))), (5, (Zhm (some b5) Zc3 Zds (hpL (pRow Zs 58 505 x4.Answers)) 5 x4)), (8, (pBox Zt 8 x5)), (26, (Z7.sl.pd a1.Acts)), (27, (pInt .i64 (a1.Acts.length : Int))), (28, (pInt .i64 x6)), (1000, (pAt v2 (Zt.ptr a0)))] a g ∧ Base g0 g ∧ Zeo a0 a1 n x4 x5 x6 = some z19) (Int.toNat ((a1.Acts.length : Int) - (0 : Int)) + 1) ⟨(default : Zv), a0, (0 : Int), g, rfl, (hst.pick [0, 1, 2, 3, 4, 5, 6, 7] rfl), hb, hz1⟩ (fun n a w hI => ?_)
     obtain ⟨x4, x5, x6, g, rfl, hst, hb, H1⟩ := hI
     cases n with
     | zero => exact absurd H1 (by simp [Zeo])
     | succ n =>
       rw [Zeo] at H1
       refine r_s (T := [⟨[.old 6, .old 5], _, [], [], [29]⟩]) (F := [.old 0, .old 1, .old 2, .old 3, .old 4, .old 5, .old 6, .op 0 0, .old 7]) hst hb Zb
         (o_p rfl (Zc2 rfl rfl u_0 u_1) <| o_n) (by kernel_rfl) (fun a g hst hb => ?_)
       refine wp_seq ?_
       refine wp_cond_split (hst.bool 7 rfl) (fun hc7 => ?_) (fun hc7 => ?_)
       · replace H1 := Z0 hc7 H1
         refine wp_skip ?_
         refine Zu ?_
         refine wp_seq ?_
         refine wp_block ?_
         obtain ⟨e8, h9, H1⟩ := Zh H1
         refine r_s (L := [(2, _), (4, _), (5, _), (8, _), (26, _), (27, _), (28, _), (1000, _)]) (T := [⟨[.old 6], _, [], [], [30]⟩, ⟨[.old 4, .old 6], _, [], [], [31]⟩, ⟨[.op 1 0], _, [], [1], [32]⟩, ⟨[], [(10, (pBox Z7 10 (default : Zx)))], [11], [], [10]⟩, ⟨[.op 0 0], _, [], Lr 4, [9]⟩, ⟨[.op 2 0, .op 3 0], _, [11], Lr 5, [10]⟩]) (F := [.old 0, .old 1, .old 2, .old 3, .op 4 0, .op 5 0, .old 4, .old 5, .old 6, .old 7]) (hst.pick [0, 1, 2, 3, 4, 5, 6, 8] rfl) hb Zb
           (o_p rfl (Za rfl rfl u_0) <| o_p rfl (Zbv Tryd.underlying32 Zvd rfl rfl u_0 u_1 h9) <| o_p rfl (Zf Ze9 rfl rfl u_0) <| o_p rfl (Zbb (zs := [.int .i64 0, .string ByteArray.empty, .int .i64 0, .float .f64 0, .string ByteArray.empty, .int .i64 0, .int .i64 0, .int .i64 0, .int .i64 0, .float .f64 0, .int .i64 0, .string ByteArray.empty, .slice none 0 0, .bool false]) (by kernel_rfl) (fun g => Zjv g) rfl rfl) <| o_p rfl (Zc rfl rfl u_0) <| o_p rfl (Zby Ze9 rfl rfl u_1 u_0) <| o_n) (by kernel_rfl) (fun a g hst hb => ?_)
         refine r_s (T := [⟨[], [(11, (pBox Zs 11 (default : Zg)))], [12], [], [11]⟩]) (F := [.old 0, .old 1, .old 2, .old 3, .old 4, .old 5, .op 0 0, .old 6, .old 7, .old 8, .old 9]) hst hb Zb
           (o_p rfl (Zbb (zs := [.int .i64 0, .int .i64 0, .int .i64 0, .int .i64 0, .int .i64 0, .int .i64 0, .float .f64 0, .int .i64 0, .string ByteArray.empty, .slice none 0 0]) (by kernel_rfl) (fun g => Zdy g) rfl rfl) <| o_n) (by kernel_rfl) (fun a g hst hb => ?_)
         obtain ⟨r10, h11, H1⟩ := Zh H1
         refine r_s (T := [⟨[.old 3], _, [], [], [34]⟩, ⟨[.old 5], _, [], [], [35]⟩, ⟨[.op 0 0, .op 1 0], _, [], [0, 1], [36]⟩, ⟨[.op 2 0], _, [], [0, 1, 2], [33]⟩, ⟨[.op 3 0], _, [], Lr 4, [37]⟩, ⟨[.op 3 0], _, [], Lr 4, [38]⟩, ⟨[.op 4 0, .old 3], _, [9], Lr 5, [8]⟩, ⟨[.op 5 0, .old 6], _, [12], Lr 7, [11]⟩]) (F := [.old 0, .old 1, .old 2, .op 6 0, .old 4, .old 5, .op 7 0, .old 7, .old 8, .old 9, .old 10]) hst hb Zb
           (o_p rfl (Zb8 Zbf rfl rfl u_0) <| o_p rfl (Zf Ze9 rfl rfl u_0) <| o_p rfl (Zp Zzs (Znu _ _ h11) rfl rfl (.cons u_0 (.cons u_1 .nil))) <| o_p rfl (Za rfl rfl u_0) <| o_p rfl (Z4 rfl rfl u_0 rfl) <| o_p rfl (Z4 rfl rfl u_0 rfl) <| o_p rfl (Z6 Zbf rfl rfl u_1 u_0) <| o_p rfl (Z6 Zcb rfl rfl u_1 u_0) <| o_n) (by kernel_rfl) (fun a g hst hb => ?_)
         rcases Z17 H1 with ⟨p12, h13, H1⟩ | ⟨h13, H1⟩
         · obtain rfl := Option.some.inj H1
           obtain rfl := Option.some.inj H0
           refine r_gQ (L := [(2, _), (4, _), (5, _), (8, _), (9, _), (10, _), (11, _), (26, _), (27, _), (28, _), (1000, _)]) (T := [⟨[.old 2], _, [], [], [39]⟩, ⟨[.op 0 0], _, [], [0], [40]⟩, ⟨[.old 5], _, [], [], [41]⟩, ⟨[.old 6], _, [], [], [42]⟩, ⟨[.old 4], _, [], [], [43]⟩, ⟨[.op 4 0], _, [], [4], [44]⟩, ⟨[.op 2 0, .op 3 0, .op 5 0, .old 1, .old 2, .old 10], [(45, pNo)], [], List.range' 2 4, [45]⟩, ⟨[.op 6 0], [], [], List.range' 2 5, [46]⟩, ⟨[.op 6 0], [], [], Lr 8, [47]⟩, ⟨[.op 6 0], [], [], Lr 9, [48]⟩, ⟨[.op 6 0], [], [], Lr 10, []⟩]) (F := [.op 6 0]) hst hb Zb
             (q_p rfl (Zpf Zru (off := 2) (q := (pRow Zs 58 505 x4.Answers)) (by kernel_rfl) (pr := id) (fun _ => rfl) (fun _ _ h => h) rfl rfl u_0) <| q_p rfl (Zw0 Zvk rfl rfl u_0) <| q_p rfl (Zf Ze9 rfl rfl u_0) <| q_p rfl (Zb8 Zcb rfl rfl u_0) <| q_p rfl (Za rfl rfl u_0) <| q_p rfl (Zce rfl rfl u_0 c_i rfl) <| q_q (Zw4 Z3a (Ztc _ _ _ h13) rfl rfl (.cons u_0 (.cons u_1 (.cons u_2 .nil))) (fun a g v hN hD hb hu hv => by refine Zuc ?_; refine Zn3 ?_; refine Zn3 ?_; refine Zuc ?_; refine Zn3 ?_; refine Zn3 ?_; exact Z07 (r := p12) (s4 := 4) (s5 := 5) Ztl Z3j rfl Zbf Zjf h0 hD hb (by decide) (hu _ (List.mem_of_getElem? (i := 5) rfl)) (hu _ (List.mem_of_getElem? (i := 3) rfl)) (hu _ (List.mem_of_getElem? (i := 4) rfl)) hv)) <| q_p rfl (Zs2 u_0) <| q_p rfl (Zs2 u_0) <| q_p rfl (Zs2 u_0) <| q_p rfl (Zs2 u_0) <| q_n) (by kernel_rfl) (fun a g hst hb => (hst.at 0 rfl).elim)
         · obtain ⟨r14, h15, H1⟩ := Zh H1; obtain ⟨h16, H1⟩ := Zkd H1
           refine r_g (T := [⟨[.old 2], _, [], [], [39]⟩, ⟨[.op 0 0], _, [], [0], [40]⟩, ⟨[.old 5], _, [], [], [41]⟩, ⟨[.old 6], _, [], [], [42]⟩, ⟨[.old 4], _, [], [], [43]⟩, ⟨[.op 4 0], _, [], [4], [44]⟩, ⟨[.op 2 0, .op 3 0, .op 5 0], _, [], List.range' 2 4, [45]⟩, ⟨[.op 6 0], _, [], List.range' 2 5, [46]⟩, ⟨[.op 1 0, .op 7 0, .old 2], _, [506], Lr 8, [5, 39, 40, 47]⟩, ⟨[.op 8 0], _, [], Lr 9, [48]⟩, ⟨[.op 8 1, .op 9 0, .op 8 0], _, [6], Lr 10, [5, 39, 48]⟩]) (F := [.old 0, .old 1, .op 10 0, .old 3, .old 7, .old 8, .old 9, .old 10]) hst hb Zb
             (o_p rfl (Zpf Zru (off := 2) (q := (pRow Zs 58 505 x4.Answers)) (by kernel_rfl) (pr := id) (fun _ => rfl) (fun _ _ h => h) rfl rfl u_0) <| o_p rfl (Zw0 Zvk rfl rfl u_0) <| o_p rfl (Zf Ze9 rfl rfl u_0) <| o_p rfl (Zb8 Zcb rfl rfl u_0) <| o_p rfl (Za rfl rfl u_0) <| o_p rfl (Zce rfl rfl u_0 c_i rfl) <| o_p rfl (Zp Z3a (Zwh _ _ _ h15) rfl rfl (.cons u_0 (.cons u_1 (.cons u_2 .nil)))) <| o_p rfl (Zjl Zzc (xs := [.tmp 45]) (.cons u_0 .nil) (by decide) rfl rfl) <| o_p rfl (OB.frameU (Zk0 Zzc rfl rfl u_0 u_1 h16) (Opd.imp u_2 (fun _ _ h => Z8z h)) (fun k hk hS => Z71 (List.mem_singleton.1 hk) (List.mem_singleton.1 hS) (by decide)) (fun h => by cases h)) <| o_p rfl (Zpf Zru (off := 2) (q := pAny) (by kernel_rfl) (pr := id) (fun _ => rfl) (fun _ _ _ => trivial) rfl rfl u_0) <| o_p rfl (Z0t (x' := ({ x4 with Answers := (x4.Answers ++ ([r14] : List Zg)) } : Zv)) (R2 := hpL (pRow Zs 58 505 (({ x4 with Answers := (x4.Answers ++ ([r14] : List Zg)) } : Zv).Answers))) (upd := fun _ s2 => s2) Zvk rfl rfl (fun _ _ h => Z43 h) (fun k hk => by rw [List.mem_singleton.1 hk]; decide) (fun k hk => by cases hk) u_2 (fun a g hh => Z5e (u_1 a g hh)) u_0 (fun _ _ _ _ h => h) (fun g cs s0 s1 ys h k => Zst h k)) <| o_n) (by kernel_rfl) (fun a g hst hb => ?_)
           refine Zbt ?_
           refine Zu ?_
           refine r_g (T := [⟨[.old 6], _, [], [], [49]⟩, ⟨[.op 0 0], _, [], [0], [28]⟩]) (F := [.old 0, .old 1, .old 2, .old 3, .old 4, .old 5, .op 1 0, .old 7]) hst hb Zb
             (o_p rfl (Zce rfl rfl u_0 c_i rfl) <| o_p rfl (Za rfl rfl u_0) <| o_n) (by kernel_rfl) (fun a g hst hb => ?_)
           exact ⟨n, Nat.lt_succ_self _, ({ x4 with Answers := (x4.Answers ++ ([r14] : List Zg)) } : Zv), r10.1, (IntKind.i64.wrap (x6 + (1 : Int))), g, rfl, (hst.pick [0, 1, 2, 3, 4, 5, 6, 7] rfl), hb, H1⟩
       · replace H1 := Zz hc7 H1
         refine wp_exit ?_
         refine Zca ?_
         refine Zca ?_
         refine Zcz ?_
         exact ⟨x4, x5, g, rfl, (hst.pick [0, 1, 2, 3, 8] rfl), hb, Option.some.inj H1⟩
theorem Zra (a0 : Zk) (a1 : List Zbn) {r : Zk × (List Zv)} (h : Zkk a0 a1 = some r) : FnOk Tryd.prog 13 [(Zt.pd a0), (Zck.sl.pd a1)] (pTup [(Zt.pd r.1), (Zb0.sl.pd r.2)]) := by
 have H0 := h
 unfold Zkk at H0
 clear h
 refine Zbu (N := 29) Tryd.func13 rfl rfl (Nat.le_of_ble_eq_true rfl) rfl rfl (fun a g0 hst hb => ?_)
 refine r_s (T := [⟨[.old 0], _, [3], [], [2]⟩, ⟨[], [(4, (pBox Zt 4 (default : Zk)))], [5], [], [4]⟩, ⟨[], [(5, (Zb0.sl.pd ([] : List Zv)))], [], [], [5]⟩]) (F := [.old 1, .op 0 0, .op 1 0]) hst hb Zb
   (o_p rfl (Zqh rfl rfl u_0) <| o_p rfl (Zbb (zs := [.pointer none, .int .i64 0]) (by kernel_rfl) (fun g => Zci g) rfl rfl) <| o_p rfl (Zc rfl rfl (Opd.c (fun g => Zkr g))) <| o_n) (by kernel_rfl) (fun a g hst hb => ?_)
 refine r_s (T := [⟨[], [(6, (pRow Zb0 38 6 ([] : List Zv)))], [], [], [6]⟩]) (F := [.old 0, .old 1, .old 2, .op 0 0]) hst hb Zb
   (o_p rfl (Zc rfl rfl (Opd.c (fun g => Zwr 6 g))) <| o_n) (by kernel_rfl) (fun a g hst hb => ?_)
 refine wp_seq ?_
 refine r_s (T := [⟨[.old 0], _, [], [], [10]⟩, ⟨[.op 0 0], _, [], [0], [11]⟩, ⟨[], _, [], [], [12]⟩]) (F := [.old 1, .old 2, .old 3, .op 0 0, .op 1 0, .op 2 0]) hst hb Zb
   (o_p rfl (Za rfl rfl u_0) <| o_p rfl (Zb3 Tryd.underlying23 rfl rfl u_0) <| o_p rfl (Za rfl rfl c_i) <| o_n) (by kernel_rfl) (fun a g hst hb => ?_)
 obtain ⟨z12, hz1, H0⟩ := Zh H0
 refine Zc0 (fun a w => ∃ (y10 : Zk) (y11 : List Zv) (g : G), w = g.w ∧ St 29 [(2, (pBox Zt 2 y10)), (4, (pBox Zt 4 (default : Zk))), (6, (pRow Zb0 38 6 y11))] a g ∧ Base g0 g ∧ (y10, y11) = z12) ?_ ?_
 · rintro a w ⟨y10, y11, g, rfl, hst, hb, rfl⟩
   refine Zu ?_
   refine r_s (T := [⟨[.old 0], _, [], [], [27]⟩, ⟨[.old 2], _, [], [], [28]⟩, ⟨[.op 0 0, .old 1], _, [5], [0], [4]⟩, ⟨[.op 1 0], _, [], [0, 1, 2], [5]⟩]) (F := [.op 2 0, .op 3 0]) hst hb Zb
     (o_p rfl (Zb8 Zbf rfl rfl u_0) <| o_p rfl (Za rfl rfl u_0) <| o_p rfl (Z6 Zbf rfl rfl u_1 u_0) <| o_p rfl (Zc rfl rfl u_0) <| o_n) (by kernel_rfl) (fun a g hst hb => ?_)
   refine wp_ret ?_
   obtain rfl := Option.some.inj H0
   obtain ⟨u0, hu0, hq0⟩ := Zbh (P := Tryd.prog) Zbf (hst.at 0 rfl)
   exact Zex rfl hst hb hu0 (Zm (s := 5)) (Zde hq0 (Zpl (hst.at 1 rfl)))
 · refine wp_block ?_
   refine wp_loop_ghost (fun n a w => ∃ (x1 : Zk) (x2 : List Zv) (x3 : Int) (g : G), w = g.w ∧ St 29 [(2, (pBox Zt 2 x1)), (4, (pBox Zt 4 (default : Zk))), (6, (pRow Zb0 38 6 x2)), (10, (Zck.sl.pd a1)), (11, (pInt .i64 (a1.length : Int))), (12, (pInt .i64 x3))] a g ∧ Base g0 g ∧ Ze5 a1 n x1 x2 x3 = some z12) (Int.toNat ((a1.length : Int) - (0 : Int)) + 1) ⟨a0, ([] : List Zv), (0 : Int), g, rfl, (hst.pick [0, 1, 2, 3, 4, 5] rfl), hb, hz1⟩ (fun n a w hI => ?_)
   obtain ⟨x1, x2, x3, g, rfl, hst, hb, H1⟩ := hI
   cases n with
   | zero => exact absurd H1 (by simp [Ze5])
   | succ n =>
     rw [Ze5] at H1
     refine r_s (T := [⟨[.old 5, .old 4], _, [], [], [13]⟩]) (F := [.old 0, .old 1, .old 2, .old 3, .old 4, .old 5, .op 0 0]) hst hb Zb
       (o_p rfl (Zc2 rfl rfl u_0 u_1) <| o_n) (by kernel_rfl) (fun a g hst hb => ?_)
     refine wp_seq ?_
     refine wp_cond_split (hst.bool 6 rfl) (fun hc4 => ?_) (fun hc4 => ?_)
     · replace H1 := Z0 hc4 H1
       refine wp_skip ?_
       refine Zu ?_
       refine wp_seq ?_
       refine wp_block ?_
       obtain ⟨e5, h6, H1⟩ := Zh H1
       refine r_s (L := [(2, _), (4, _), (6, _), (10, _), (11, _), (12, _)]) (T := [⟨[.old 3, .old 5], _, [], [], [14]⟩, ⟨[.op 0 0], _, [], [0], [15]⟩, ⟨[], [(8, (pBox Zck 8 (default : Zbn)))], [9], [], [8]⟩, ⟨[.op 1 0, .op 2 0], _, [9], [0, 1, 2], [8]⟩]) (F := [.old 0, .old 1, .old 2, .op 3 0, .old 3, .old 4, .old 5]) (hst.pick [0, 1, 2, 3, 4, 5] rfl) hb Zb
         (o_p rfl (Zbv Tryd.underlying23 Zzw rfl rfl u_0 u_1 h6) <| o_p rfl (Zf Zlt rfl rfl u_0) <| o_p rfl (Zbb (zs := [.slice none 0 0]) (by kernel_rfl) (fun g => Zns g) rfl rfl) <| o_p rfl (Zby Zlt rfl rfl u_1 u_0) <| o_n) (by kernel_rfl) (fun a g hst hb => ?_)
       refine r_s (T := [⟨[], [(9, (pBox Zb0 9 (default : Zv)))], [10], [], [9]⟩]) (F := [.old 0, .old 1, .old 2, .old 3, .op 0 0, .old 4, .old 5, .old 6]) hst hb Zb
         (o_p rfl (Zbb (zs := [.int .i64 0, .int .i64 0, .slice none 0 0]) (by kernel_rfl) (fun g => Zmg g) rfl rfl) <| o_n) (by kernel_rfl) (fun a g hst hb => ?_)
       obtain ⟨r7, h8, H1⟩ := Zh H1
       refine r_s (T := [⟨[.old 0], _, [], [], [17]⟩, ⟨[.old 3], _, [], [], [18]⟩, ⟨[.op 0 0, .op 1 0], _, [], [0, 1], [19]⟩, ⟨[.op 2 0], _, [], [0, 1, 2], [16]⟩, ⟨[.op 3 0], _, [], Lr 4, [20]⟩, ⟨[.op 3 0], _, [], Lr 4, [21]⟩, ⟨[.op 4 0, .old 0], _, [3], Lr 5, [2]⟩, ⟨[.op 5 0, .old 4], _, [10], Lr 7, [9]⟩]) (F := [.op 6 0, .old 1, .old 2, .op 7 0, .old 5, .old 6, .old 7]) hst hb Zb
         (o_p rfl (Zb8 Zbf rfl rfl u_0) <| o_p rfl (Zf Zlt rfl rfl u_0) <| o_p rfl (Zp en_8 (Znq _ _ h8) rfl rfl (.cons u_0 (.cons u_1 .nil))) <| o_p rfl (Za rfl rfl u_0) <| o_p rfl (Z4 rfl rfl u_0 rfl) <| o_p rfl (Z4 rfl rfl u_0 rfl) <| o_p rfl (Z6 Zbf rfl rfl u_1 u_0) <| o_p rfl (Z6 Zjf rfl rfl u_1 u_0) <| o_n) (by kernel_rfl) (fun a g hst hb => ?_)
       obtain ⟨h9, H1⟩ := Zkd H1
       refine r_g (T := [⟨[.old 2], _, [], [], [22]⟩, ⟨[.old 3], _, [], [], [23]⟩, ⟨[.op 1 0], _, [], [1], [24]⟩, ⟨[.op 0 0, .op 2 0], _, [7], [0, 1, 2], [6, 22, 25]⟩, ⟨[.op 3 0], _, [], Lr 4, [6]⟩]) (F := [.old 0, .old 1, .op 4 0, .old 4, .old 5, .old 6]) hst hb Zb
         (o_p rfl (Za rfl rfl u_0) <| o_p rfl (Zb8 Zjf rfl rfl u_0) <| o_p rfl (Zjl Z3c (xs := [.tmp 23]) (.cons u_0 .nil) (by decide) rfl rfl) <| o_p rfl (Zk0 Z3c rfl rfl u_0 u_1 h9) <| o_p rfl (Zc rfl rfl u_0) <| o_n) (by kernel_rfl) (fun a g hst hb => ?_)
       refine Zbt ?_
       refine Zu ?_
       refine r_g (T := [⟨[.old 5], _, [], [], [26]⟩, ⟨[.op 0 0], _, [], [0], [12]⟩]) (F := [.old 0, .old 1, .old 2, .old 3, .old 4, .op 1 0]) hst hb Zb
         (o_p rfl (Zce rfl rfl u_0 c_i rfl) <| o_p rfl (Za rfl rfl u_0) <| o_n) (by kernel_rfl) (fun a g hst hb => ?_)
       exact ⟨n, Nat.lt_succ_self _, r7.1, (x2 ++ ([r7.2] : List Zv)), (IntKind.i64.wrap (x3 + (1 : Int))), g, rfl, (hst.pick [0, 1, 2, 3, 4, 5] rfl), hb, H1⟩
     · replace H1 := Zz hc4 H1
       refine wp_exit ?_
       refine Zca ?_
       refine Zca ?_
       refine Zcz ?_
       exact ⟨x1, x2, g, rfl, (hst.pick [0, 1, 2] rfl), hb, Option.some.inj H1⟩
theorem Zfg (f2 : Nat) (C2 : List Pd) (hC2 : Free C2) (e2_ : Zq Tryd.prog f2) (φ2 : Zg → Zg → Option Bool) (hφ2 : ∀ (y0 : Zg) (y1 : Zg) (r : Bool), φ2 y0 y1 = some r → FnOk Tryd.prog f2 ([(Zs.pd y0), (Zs.pd y1)] ++ C2) (Zbd r)) (a0 : List Zg) (a1 : List Zg) {r : Bool} (h : Zb9 a0 a1 φ2 = some r) : FnOk Tryd.prog 31 [(Zs.sl.pd a0), (Zs.sl.pd a1), (pClo f2 C2 hC2)] (Zbd r) := by
 have H0 := h
 unfold Zb9 at H0
 clear h
 refine Zbu (N := 32) Tryd.func31 rfl rfl (Nat.le_of_ble_eq_true rfl) rfl rfl (fun a g0 hst hb => ?_)
 refine r_s (T := [⟨[], _, [], [], [6]⟩]) (F := [.old 0, .old 1, .old 2]) hst hb Zb
   (o_p rfl (Zc rfl rfl c_b) <| o_n) (by kernel_rfl) (fun a g hst hb => ?_)
 refine wp_seq ?_
 refine r_s (T := [⟨[.old 0], _, [], [], [10]⟩, ⟨[.op 0 0], _, [], [0], [11]⟩, ⟨[.old 1], _, [], [], [12]⟩, ⟨[.op 2 0], _, [], [2], [13]⟩, ⟨[.op 1 0, .op 3 0], _, [], Lr 4, [14]⟩]) (F := [.old 0, .old 1, .old 2, .op 4 0]) hst hb Zb
   (o_p rfl (Za rfl rfl u_0) <| o_p rfl (Zb3 Tryd.underlying36 rfl rfl u_0) <| o_p rfl (Za rfl rfl u_0) <| o_p rfl (Zb3 Tryd.underlying36 rfl rfl u_0) <| o_p rfl (Zer rfl rfl u_0 u_1) <| o_n) (by kernel_rfl) (fun a g hst hb => ?_)
 refine wp_cond_split (hst.bool 3 rfl) (fun hc1 => ?_) (fun hc1 => ?_)
 · replace H0 := Z0 hc1 H0
   refine r_s (L := []) (T := [⟨[], _, [], [], [6]⟩]) (F := [.op 0 0]) (hst.pick [] rfl) hb Zb
     (o_p rfl (Zc rfl rfl c_b) <| o_n) (by kernel_rfl) (fun a g hst hb => ?_)
   refine wp_ret ?_
   refine Zn ?_
   obtain rfl := Option.some.inj H0
   exact Z3 rfl hst hb (Zm (s := 6)) (hst.at 0 rfl)
 · replace H0 := Zz hc1 H0
   refine wp_skip ?_
   refine Zu ?_
   refine wp_seq ?_
   refine r_s (L := [(0, _), (1, _), (2, _)]) (T := [⟨[.old 0], _, [], [], [15]⟩, ⟨[.op 0 0], _, [], [0], [16]⟩, ⟨[], _, [], [], [17]⟩]) (F := [.old 1, .old 2, .op 0 0, .op 1 0, .op 2 0]) (hst.pick [0, 1, 2] rfl) hb Zb
     (o_p rfl (Za rfl rfl u_0) <| o_p rfl (Zb3 Tryd.underlying36 rfl rfl u_0) <| o_p rfl (Za rfl rfl c_i) <| o_n) (by kernel_rfl) (fun a g hst hb => ?_)
   obtain ⟨z11, hz1, H0⟩ := Zh H0
   refine Zc0 (fun a w => ∃ (g : G), w = g.w ∧ St 32 [] a g ∧ Base g0 g ∧ (.inr ()) = z11) ?_ ?_
   · rintro a w ⟨g, rfl, hst, hb, rfl⟩
     refine Zu ?_
     refine r_s (T := [⟨[], _, [], [], [6]⟩]) (F := [.op 0 0]) hst hb Zb
       (o_p rfl (Zc rfl rfl c_b) <| o_n) (by kernel_rfl) (fun a g hst hb => ?_)
     refine wp_ret ?_
     obtain rfl := Option.some.inj H0
     exact Z3 rfl hst hb (Zm (s := 6)) (hst.at 0 rfl)
   · refine wp_block ?_
     refine wp_loop_ghost (fun n a w => ∃ (x2 : Int) (g : G), w = g.w ∧ St 32 [(1, (Zs.sl.pd a1)), (2, (pClo f2 C2 hC2)), (15, (Zs.sl.pd a0)), (16, (pInt .i64 (a0.length : Int))), (17, (pInt .i64 x2))] a g ∧ Base g0 g ∧ Zba a0 a1 φ2 n x2 = some z11) (Int.toNat ((a0.length : Int) - (0 : Int)) + 1) ⟨(0 : Int), g, rfl, (hst.pick [0, 1, 2, 3, 4] rfl), hb, hz1⟩ (fun n a w hI => ?_)
     obtain ⟨x2, g, rfl, hst, hb, H1⟩ := hI
     cases n with
     | zero => exact absurd H1 (by simp [Zba])
     | succ n =>
       rw [Zba] at H1
       refine r_s (T := [⟨[.old 4, .old 3], _, [], [], [18]⟩]) (F := [.old 0, .old 1, .old 2, .old 3, .old 4, .op 0 0]) hst hb Zb
         (o_p rfl (Zc2 rfl rfl u_0 u_1) <| o_n) (by kernel_rfl) (fun a g hst hb => ?_)
       refine wp_seq ?_
       refine wp_cond_split (hst.bool 5 rfl) (fun hc3 => ?_) (fun hc3 => ?_)
       · replace H1 := Z0 hc3 H1
         refine wp_skip ?_
         refine Zu ?_
         refine wp_seq ?_
         refine wp_block ?_
         obtain ⟨e4, h5, H1⟩ := Zh H1
         refine r_s (L := [(1, _), (2, _), (15, _), (16, _), (17, _)]) (T := [⟨[.old 4], _, [], [], [19]⟩, ⟨[.old 2, .old 4], _, [], [], [20]⟩, ⟨[.op 1 0], _, [], [1], [21]⟩, ⟨[], [(8, (pBox Zs 8 (default : Zg)))], [9], [], [8]⟩, ⟨[.op 0 0], _, [], Lr 4, [7]⟩, ⟨[.op 2 0, .op 3 0], _, [9], Lr 5, [8]⟩]) (F := [.old 0, .old 1, .op 4 0, .op 5 0, .old 2, .old 3, .old 4]) (hst.pick [0, 1, 2, 3, 4] rfl) hb Zb
           (o_p rfl (Za rfl rfl u_0) <| o_p rfl (Zbv Tryd.underlying36 Zzl rfl rfl u_0 u_1 h5) <| o_p rfl (Zf Zcb rfl rfl u_0) <| o_p rfl (Zbb (zs := [.int .i64 0, .int .i64 0, .int .i64 0, .int .i64 0, .int .i64 0, .int .i64 0, .float .f64 0, .int .i64 0, .string ByteArray.empty, .slice none 0 0]) (by kernel_rfl) (fun g => Zdy g) rfl rfl) <| o_p rfl (Zc rfl rfl u_0) <| o_p rfl (Zby Zcb rfl rfl u_1 u_0) <| o_n) (by kernel_rfl) (fun a g hst hb => ?_)
         obtain ⟨e6, h7, H1⟩ := Zh H1
         refine r_s (T := [⟨[.old 0], _, [], [], [22]⟩, ⟨[.old 2], _, [], [], [23]⟩, ⟨[.op 0 0, .op 1 0], _, [], [0, 1], [24]⟩, ⟨[.op 2 0], _, [], [0, 1, 2], [25]⟩, ⟨[], [(9, (pBox Zs 9 (default : Zg)))], [10], [], [9]⟩, ⟨[.op 3 0, .op 4 0], _, [10], Lr 5, [9]⟩]) (F := [.old 0, .old 1, .old 3, .op 5 0, .old 4, .old 5, .old 6]) hst hb Zb
           (o_p rfl (Za rfl rfl u_0) <| o_p rfl (Za rfl rfl u_0) <| o_p rfl (Zbv Tryd.underlying36 Zzl rfl rfl u_0 u_1 h7) <| o_p rfl (Zf Zcb rfl rfl u_0) <| o_p rfl (Zbb (zs := [.int .i64 0, .int .i64 0, .int .i64 0, .int .i64 0, .int .i64 0, .int .i64 0, .float .f64 0, .int .i64 0, .string ByteArray.empty, .slice none 0 0]) (by kernel_rfl) (fun g => Zdy g) rfl rfl) <| o_p rfl (Zby Zcb rfl rfl u_1 u_0) <| o_n) (by kernel_rfl) (fun a g hst hb => ?_)
         obtain ⟨r8, h9, H1⟩ := Zh H1
         refine r_s (T := [⟨[.old 1], _, [], [], [26]⟩, ⟨[.old 2], _, [], [], [27]⟩, ⟨[.old 3], _, [], [], [28]⟩, ⟨[.op 0 0, .op 1 0, .op 2 0], _, [], [0, 1, 2], [29]⟩, ⟨[.op 3 0], _, [], Lr 4, [30]⟩]) (F := [.old 0, .old 1, .old 4, .old 5, .old 6, .op 4 0]) hst hb Zb
           (o_p rfl (Za rfl rfl u_0) <| o_p rfl (Zf Zcb rfl rfl u_0) <| o_p rfl (Zf Zcb rfl rfl u_0) <| o_p rfl (Zmt e2_ (hφ2 _ _ _ h9) rfl rfl u_0 (.cons u_1 (.cons u_2 .nil))) <| o_p rfl (Zcn rfl rfl u_0) <| o_n) (by kernel_rfl) (fun a g hst hb => ?_)
         refine wp_cond_split (hst.bool 5 rfl) (fun hc10 => ?_) (fun hc10 => ?_)
         · replace H1 := Z0 hc10 H1
           refine r_s (L := []) (T := [⟨[], _, [], [], [6]⟩]) (F := [.op 0 0]) (hst.pick [] rfl) hb Zb
             (o_p rfl (Zc rfl rfl c_b) <| o_n) (by kernel_rfl) (fun a g hst hb => ?_)
           refine wp_ret ?_
           refine Zw ?_
           refine Zn ?_
           refine Zn ?_
           refine Zw ?_
           refine Zn ?_
           refine Zn ?_
           obtain rfl := Option.some.inj H1
           obtain rfl := Option.some.inj H0
           exact Z3 rfl hst hb (Zm (s := 6)) (hst.at 0 rfl)
         · replace H1 := Zz hc10 H1
           refine wp_skip ?_
           refine Zbt ?_
           refine Zu ?_
           refine r_g (L := [(1, _), (2, _), (15, _), (16, _), (17, _)]) (T := [⟨[.old 4], _, [], [], [31]⟩, ⟨[.op 0 0], _, [], [0], [17]⟩]) (F := [.old 0, .old 1, .old 2, .old 3, .op 1 0]) (hst.pick [0, 1, 2, 3, 4] rfl) hb Zb
             (o_p rfl (Zce rfl rfl u_0 c_i rfl) <| o_p rfl (Za rfl rfl u_0) <| o_n) (by kernel_rfl) (fun a g hst hb => ?_)
           exact ⟨n, Nat.lt_succ_self _, (IntKind.i64.wrap (x2 + (1 : Int))), g, rfl, (hst.pick [0, 1, 2, 3, 4] rfl), hb, H1⟩
       · replace H1 := Zz hc3 H1
         refine wp_exit ?_
         refine Zca ?_
         refine Zca ?_
         refine Zcz ?_
         exact ⟨g, rfl, (hst.pick [] rfl), hb, Option.some.inj H1⟩
theorem Zwx (a0 : Zg) (a1 : Zg) {r : Bool} (h : Zjr a0 a1 = some r) : FnOk Tryd.prog 32 [(Zs.pd a0), (Zs.pd a1)] (Zbd r) := by
 have H0 := h
 unfold Zjr at H0
 clear h
 refine Zbu (N := 24) Tryd.func32 rfl rfl (Nat.le_of_ble_eq_true rfl) rfl rfl (fun a g0 hst hb => ?_)
 refine r_s (T := [⟨[.old 0], _, [], [], [2]⟩, ⟨[.old 1], _, [], [], [3]⟩, ⟨[], _, [], [], [4]⟩]) (F := [.op 0 0, .op 1 0]) hst hb Zb
   (o_p rfl (Zbl rfl rfl u_0) <| o_p rfl (Zbl rfl rfl u_0) <| o_p rfl (Zc rfl rfl c_b) <| o_n) (by kernel_rfl) (fun a g hst hb => ?_)
 obtain ⟨r1, h2, H0⟩ := Zh H0
 refine r_s (T := ⟨[.old 0], _, [], [], [5]⟩ :: ⟨[.op 0 0], _, [], [0], [6]⟩ :: ⟨[.old 1], _, [], [], [7]⟩ :: ⟨[.op 2 0], _, [], [2], [8]⟩ :: ⟨[.op 1 0, .op 3 0], _, [], Lr 4, [9]⟩ :: ⟨[.op 4 0], _, [], Lr 5, [10]⟩ :: ⟨[.op 5 0, .old 0], _, [], Lr 6, [11]⟩ :: ⟨[.op 5 0, .op 6 0], _, [], Lr 7, [12]⟩ :: ⟨[.op 5 0, .old 1], _, [], Lr 6, [13]⟩ :: ⟨[.op 5 0, .op 8 0], _, [], [0, 1, 2, 3, 4, 5, 8], [14]⟩ :: ⟨[.op 5 0, .op 7 0, .op 9 0], _, [], Lr 10, [15]⟩ :: ⟨[.op 5 0, .op 10 0], _, [], Lr 11, [16]⟩ :: ⟨[.op 11 0], _, [], Lr 12, [17]⟩ :: ⟨[.op 12 0, .old 0], _, [], Lr 13, [18]⟩ :: ⟨[.op 12 0, .op 13 0], _, [], Lr 14, [19]⟩ :: ⟨[.op 12 0, .old 1], _, [], Lr 13, [20]⟩ :: ⟨[.op 12 0, .op 15 0], _, [], 0 :: 1 :: 2 :: 3 :: 4 :: 5 :: 6 :: 7 :: 8 :: 9 :: 10 :: 11 :: 12 :: 15 :: [], [21]⟩ :: ⟨[.op 12 0, .op 14 0, .op 16 0], _, [], Lr 17, [22]⟩ :: ⟨[.op 12 0, .op 17 0], _, [], Lr 18, [23]⟩ :: ⟨[.op 18 0], _, [], Lr 19, [4]⟩ :: []) (F := [.op 19 0]) hst hb Zb
   (o_p rfl (Ze Zkw rfl rfl u_0) <| o_p rfl (Zf Zj0 rfl rfl u_0) <| o_p rfl (Ze Zkw rfl rfl u_0) <| o_p rfl (Zf Zj0 rfl rfl u_0) <| o_p rfl (Zbw rfl rfl u_0 u_1) <| o_p rfl (Za rfl rfl u_0) <| o_g (g_t rfl rfl rfl (fun hG => Ze Zyl rfl rfl u_0)) <| o_g (g_t rfl rfl rfl (fun hG => Zf ty_2 rfl rfl (Opd.gd hG u_0))) <| o_g (g_t rfl rfl rfl (fun hG => Ze Zyl rfl rfl u_0)) <| o_g (g_t rfl rfl rfl (fun hG => Zf ty_2 rfl rfl (Opd.gd hG u_0))) <| o_g (g_t rfl rfl rfl (fun hG => Zbw rfl rfl (Opd.gd hG u_0) (Opd.gd hG u_1))) <| o_p rfl (Zbj rfl rfl u_0 (fun hz => (Opd.gd hz u_1))) <| o_p rfl (Za rfl rfl u_0) <| o_g (g_t rfl rfl rfl (fun hG => Ze Ztu rfl rfl u_0)) <| o_g (g_t rfl rfl rfl (fun hG => Zf Zbi rfl rfl (Opd.gd hG u_0))) <| o_g (g_t rfl rfl rfl (fun hG => Ze Ztu rfl rfl u_0)) <| o_g (g_t rfl rfl rfl (fun hG => Zf Zbi rfl rfl (Opd.gd hG u_0))) <| o_g (g_t rfl rfl rfl (fun hG => Zp Zzz (Znr _ _ (Zbq h2 hG)) rfl rfl (.cons (Opd.gd hG u_0) (.cons (Opd.gd hG u_1) .nil)))) <| o_p rfl (Zbj rfl rfl u_0 (fun hz => (Opd.gd hz u_1))) <| o_p rfl (Zc rfl rfl u_0) <| o_n) (by kernel_rfl) (fun a g hst hb => ?_)
 refine wp_ret ?_
 obtain rfl := Option.some.inj H0
 exact Z3 rfl hst hb (Zm (s := 4)) (hst.at 0 rfl)
theorem Zme (a0 : Zv) (a1 : Zv) {r : Bool} (h : Ziv a0 a1 = some r) : FnOk Tryd.prog 14 [(Zb0.pd a0), (Zb0.pd a1)] (Zbd r) := by
 have H0 := h
 unfold Ziv at H0
 clear h
 refine Zbu (N := 24) Tryd.func14 rfl rfl (Nat.le_of_ble_eq_true rfl) rfl rfl (fun a g0 hst hb => ?_)
 refine r_s (T := [⟨[.old 0], _, [], [], [2]⟩, ⟨[.old 1], _, [], [], [3]⟩, ⟨[], _, [], [], [4]⟩]) (F := [.op 0 0, .op 1 0]) hst hb Zb
   (o_p rfl (Zbl rfl rfl u_0) <| o_p rfl (Zbl rfl rfl u_0) <| o_p rfl (Zc rfl rfl c_b) <| o_n) (by kernel_rfl) (fun a g hst hb => ?_)
 obtain ⟨r1, h2, H0⟩ := Zh H0
 refine r_s (T := ⟨[.old 0], _, [], [], [5]⟩ :: ⟨[.op 0 0], _, [], [0], [6]⟩ :: ⟨[.old 1], _, [], [], [7]⟩ :: ⟨[.op 2 0], _, [], [2], [8]⟩ :: ⟨[.op 1 0, .op 3 0], _, [], Lr 4, [9]⟩ :: ⟨[.op 4 0], _, [], Lr 5, [10]⟩ :: ⟨[.op 5 0, .old 0], _, [], Lr 6, [11]⟩ :: ⟨[.op 5 0, .op 6 0], _, [], Lr 7, [12]⟩ :: ⟨[.op 5 0, .old 1], _, [], Lr 6, [13]⟩ :: ⟨[.op 5 0, .op 8 0], _, [], [0, 1, 2, 3, 4, 5, 8], [14]⟩ :: ⟨[.op 5 0, .op 7 0, .op 9 0], _, [], Lr 10, [15]⟩ :: ⟨[.op 5 0, .op 10 0], _, [], Lr 11, [16]⟩ :: ⟨[.op 11 0], _, [], Lr 12, [17]⟩ :: ⟨[.op 12 0, .old 0], _, [], Lr 13, [18]⟩ :: ⟨[.op 12 0, .op 13 0], _, [], Lr 14, [19]⟩ :: ⟨[.op 12 0, .old 1], _, [], Lr 13, [20]⟩ :: ⟨[.op 12 0, .op 15 0], _, [], 0 :: 1 :: 2 :: 3 :: 4 :: 5 :: 6 :: 7 :: 8 :: 9 :: 10 :: 11 :: 12 :: 15 :: [], [21]⟩ :: ⟨[.op 12 0, .op 14 0, .op 16 0], _, [], Lr 17, [22]⟩ :: ⟨[.op 12 0, .op 17 0], _, [], Lr 18, [23]⟩ :: ⟨[.op 18 0], _, [], Lr 19, [4]⟩ :: []) (F := [.op 19 0]) hst hb Zb
   (o_p rfl (Ze Zqb rfl rfl u_0) <| o_p rfl (Zf Zj0 rfl rfl u_0) <| o_p rfl (Ze Zqb rfl rfl u_0) <| o_p rfl (Zf Zj0 rfl rfl u_0) <| o_p rfl (Zbw rfl rfl u_0 u_1) <| o_p rfl (Za rfl rfl u_0) <| o_g (g_t rfl rfl rfl (fun hG => Ze Zqi rfl rfl u_0)) <| o_g (g_t rfl rfl rfl (fun hG => Zf ty_3 rfl rfl (Opd.gd hG u_0))) <| o_g (g_t rfl rfl rfl (fun hG => Ze Zqi rfl rfl u_0)) <| o_g (g_t rfl rfl rfl (fun hG => Zf ty_3 rfl rfl (Opd.gd hG u_0))) <| o_g (g_t rfl rfl rfl (fun hG => Zbw rfl rfl (Opd.gd hG u_0) (Opd.gd hG u_1))) <| o_p rfl (Zbj rfl rfl u_0 (fun hz => (Opd.gd hz u_1))) <| o_p rfl (Za rfl rfl u_0) <| o_g (g_t rfl rfl rfl (fun hG => Ze Zmo rfl rfl u_0)) <| o_g (g_t rfl rfl rfl (fun hG => Zf Zqd rfl rfl (Opd.gd hG u_0))) <| o_g (g_t rfl rfl rfl (fun hG => Ze Zmo rfl rfl u_0)) <| o_g (g_t rfl rfl rfl (fun hG => Zf Zqd rfl rfl (Opd.gd hG u_0))) <| o_g (g_t rfl rfl rfl (fun hG => Zp Z7r (Zfg 32 [] rfl Z7x (fun y0 y1 => Zjr y0 y1) (fun y0 y1 r h => Zwx y0 y1 h) _ _ (Zbq h2 hG)) rfl rfl (.cons (Opd.gd hG u_0) (.cons (Opd.gd hG u_1) (.cons Opd.fnc .nil))))) <| o_p rfl (Zbj rfl rfl u_0 (fun hz => (Opd.gd hz u_1))) <| o_p rfl (Zc rfl rfl u_0) <| o_n) (by kernel_rfl) (fun a g hst hb => ?_)
 refine wp_ret ?_
 obtain rfl := Option.some.inj H0
 exact Z3 rfl hst hb (Zm (s := 4)) (hst.at 0 rfl)
theorem Zp2 (a0 : Int) {r : Zk × Int} (h : Zlx a0 = some r) : FnOk Tryd.prog 17 [(pInt .i64 a0)] (pTup [(Zt.pd r.1), (pInt .i64 r.2)]) := by
 have H0 := h
 unfold Zlx at H0
 clear h
 refine Zbu (N := 13) Tryd.func17 rfl rfl (Nat.le_of_ble_eq_true rfl) rfl rfl (fun a g0 hst hb => ?_)
 refine r_s (T := [⟨[], [(2, (pBox Zt 2 (default : Zk)))], [3], [], [2]⟩, ⟨[], _, [], [], [3]⟩]) (F := [.old 0, .op 0 0]) hst hb Zb
   (o_p rfl (Zbb (zs := [.pointer none, .int .i64 0]) (by kernel_rfl) (fun g => Zci g) rfl rfl) <| o_p rfl (Zc rfl rfl c_i) <| o_n) (by kernel_rfl) (fun a g hst hb => ?_)
 refine wp_seq ?_
 refine r_s (T := [⟨[.old 0], _, [], [], [4]⟩, ⟨[.op 0 0], _, [], [0], [5]⟩, ⟨[.op 1 0], _, [], [0, 1], [6]⟩, ⟨[.op 2 0, .old 0], _, [], [0, 1, 2], [7]⟩, ⟨[.op 2 0, .op 3 0], _, [], Lr 4, [8]⟩, ⟨[.op 2 0, .op 4 0], _, [], Lr 5, [9]⟩]) (F := [.old 0, .old 1, .op 5 0]) hst hb Zb
   (o_p rfl (Za rfl rfl u_0) <| o_p rfl (Zc2 rfl rfl u_0 c_i) <| o_p rfl (Za rfl rfl u_0) <| o_g (g_f rfl rfl rfl (fun hG => Za rfl rfl u_0)) <| o_g (g_f rfl rfl rfl (fun hG => Zcr rfl rfl (Opd.gd hG u_0) c_i)) <| o_p rfl (Zbz rfl rfl u_0 (fun hz => (Opd.gd (bNF hz) u_1))) <| o_n) (by kernel_rfl) (fun a g hst hb => ?_)
 refine wp_cond_split (hst.bool 2 rfl) (fun hc1 => ?_) (fun hc1 => ?_)
 · replace H0 := Z0 hc1 H0
   refine r_s (L := [(2, _)]) (T := [⟨[], _, [], [], [10]⟩, ⟨[.op 0 0, .old 0], _, [3], [0], [2]⟩, ⟨[], _, [], [0, 1], [3]⟩]) (F := [.op 1 0, .op 2 0]) (hst.pick [1] rfl) hb Zb
     (o_p rfl (Z5w rfl rfl ) <| o_p rfl (Z6 Zbf rfl rfl u_1 u_0) <| o_p rfl (Zc rfl rfl c_i) <| o_n) (by kernel_rfl) (fun a g hst hb => ?_)
   refine wp_ret ?_
   refine Zn ?_
   obtain rfl := Option.some.inj H0
   obtain ⟨u0, hu0, hq0⟩ := Zbh (P := Tryd.prog) Zbf (hst.at 0 rfl)
   exact Zex rfl hst hb hu0 (Zm (s := 3)) (Zde hq0 (hst.at 1 rfl))
 · replace H0 := Zz hc1 H0
   refine wp_skip ?_
   refine Zu ?_
   refine r_s (L := [(0, _), (2, _)]) (T := [⟨[.old 0], _, [], [], [11]⟩, ⟨[.op 0 0], _, [], [0], [12]⟩, ⟨[.op 1 0, .old 1], _, [3], [0, 1], [2]⟩, ⟨[], _, [], [0, 1, 2], [3]⟩]) (F := [.op 2 0, .op 3 0]) (hst.pick [0, 1] rfl) hb Zb
     (o_p rfl (Za rfl rfl u_0) <| o_p rfl (Z31 rfl rfl u_0) <| o_p rfl (Z6 Zbf rfl rfl u_1 u_0) <| o_p rfl (Zc rfl rfl c_i) <| o_n) (by kernel_rfl) (fun a g hst hb => ?_)
   refine wp_ret ?_
   obtain rfl := Option.some.inj H0
   obtain ⟨u0, hu0, hq0⟩ := Zbh (P := Tryd.prog) Zbf (hst.at 0 rfl)
   exact Zex rfl hst hb hu0 (Zm (s := 3)) (Zde hq0 (hst.at 1 rfl))
theorem Znv {r : Bool} (h : Zhw = some r) : FnOk Tryd.prog 5 [] (Zbd r) := by
 have H0 := h
 unfold Zhw at H0
 clear h
 refine Zbu (N := 94) Tryd.func5 rfl rfl (Nat.le_of_ble_eq_true rfl) rfl rfl (fun a g0 hst hb => ?_)
 refine r_s (T := [⟨[], _, [], [], [0]⟩]) (F := []) hst hb Zb
   (o_p rfl (Zc rfl rfl c_b) <| o_n) (by kernel_rfl) (fun a g hst hb => ?_)
 obtain ⟨r1, h2, H0⟩ := Zh H0
 refine r_s (T := [⟨[], _, [], [], [12]⟩, ⟨[.op 0 0], _, [], [0], [11]⟩, ⟨[.op 1 0], _, [], [0, 1], [13]⟩, ⟨[.op 1 0], _, [], [0, 1], [14]⟩, ⟨[], [(1, (pBox Zt 1 (default : Zk)))], [2], [], [1]⟩, ⟨[.op 2 0, .op 4 0], _, [2], [0, 1, 2, 4], [1]⟩, ⟨[.op 3 0], _, [], Lr 6, [2]⟩]) (F := [.op 5 0, .op 6 0]) hst hb Zb
   (o_p rfl (Zp Z3n (Zp2 _ h2) rfl rfl (.cons c_i .nil)) <| o_p rfl (Za rfl rfl u_0) <| o_p rfl (Z4 rfl rfl u_0 rfl) <| o_p rfl (Z4 rfl rfl u_0 rfl) <| o_p rfl (Zbb (zs := [.pointer none, .int .i64 0]) (by kernel_rfl) (fun g => Zci g) rfl rfl) <| o_p rfl (Zby Zbf rfl rfl u_1 u_0) <| o_p rfl (Zc rfl rfl u_0) <| o_n) (by kernel_rfl) (fun a g hst hb => ?_)
 refine r_s (T := [⟨[], _, [], [], [15]⟩, ⟨[.op 0 0], _, [], [0], [16]⟩, ⟨[], [(3, (pBox Z7 3 (default : Zx)))], [4], [], [3]⟩, ⟨[.op 1 0, .op 2 0], _, [4], [0, 1, 2], [3]⟩]) (F := [.old 0, .old 1, .op 3 0]) hst hb Zb
   (o_p rfl (Z1x rfl rfl c_i c_i) <| o_p rfl (Zxe rfl rfl c_i c_s u_0) <| o_p rfl (Zbb (zs := [.int .i64 0, .string ByteArray.empty, .int .i64 0, .float .f64 0, .string ByteArray.empty, .int .i64 0, .int .i64 0, .int .i64 0, .int .i64 0, .float .f64 0, .int .i64 0, .string ByteArray.empty, .slice none 0 0, .bool false]) (by kernel_rfl) (fun g => Zjv g) rfl rfl) <| o_p rfl (Zby Ze9 rfl rfl u_1 u_0) <| o_n) (by kernel_rfl) (fun a g hst hb => ?_)
 refine r_s (T := [⟨[], _, [], [], [17]⟩, ⟨[], [(4, (pBox Z7 4 (default : Zx)))], [5], [], [4]⟩, ⟨[.op 0 0, .op 1 0], _, [5], [0, 1], [4]⟩]) (F := [.old 0, .old 1, .old 2, .op 2 0]) hst hb Zb
   (o_p rfl (Zur rfl rfl c_i c_s c_i c_b) <| o_p rfl (Zbb (zs := [.int .i64 0, .string ByteArray.empty, .int .i64 0, .float .f64 0, .string ByteArray.empty, .int .i64 0, .int .i64 0, .int .i64 0, .int .i64 0, .float .f64 0, .int .i64 0, .string ByteArray.empty, .slice none 0 0, .bool false]) (by kernel_rfl) (fun g => Zjv g) rfl rfl) <| o_p rfl (Zby Ze9 rfl rfl u_1 u_0) <| o_n) (by kernel_rfl) (fun a g hst hb => ?_)
 obtain ⟨r3, h4, H0⟩ := Zh H0
 refine r_s (T := ⟨[.old 0], _, [], [], [19]⟩ :: ⟨[.old 2], _, [], [], [20]⟩ :: ⟨[.old 3], _, [], [], [21]⟩ :: ⟨[.op 1 0, .op 2 0], _, [], [1, 2], [22]⟩ :: ⟨[.op 3 0], _, [], [1, 2, 3], [23]⟩ :: ⟨[.op 0 0, .op 4 0], _, [], Lr 5, [24]⟩ :: ⟨[.op 5 0], _, [], Lr 6, [18]⟩ :: ⟨[.op 6 0], _, [], Lr 7, [25]⟩ :: ⟨[.op 6 0], _, [], Lr 7, [26]⟩ :: ⟨[], [(5, (pBox Zt 5 (default : Zk)))], [6], [], [5]⟩ :: ⟨[], [(6, (pBox Zb0 6 (default : Zv)))], [7], [], [6]⟩ :: ⟨[.op 7 0, .op 9 0], _, [6], [0, 1, 2, 3, 4, 5, 6, 7, 9, 10], [5]⟩ :: ⟨[.op 8 0, .op 10 0], _, [7], Lr 12, [6]⟩ :: []) (F := [.old 0, .old 1, .old 2, .old 3, .op 11 0, .op 12 0]) hst hb Zb
   (o_p rfl (Zf Zbf rfl rfl u_0) <| o_p rfl (Zf Ze9 rfl rfl u_0) <| o_p rfl (Zf Ze9 rfl rfl u_0) <| o_p rfl (Zjl Zzp (xs := [.tmp 20, .tmp 21]) (.cons u_0 (.cons u_1 .nil)) (by decide) rfl rfl) <| o_p rfl (Ztj rfl rfl u_0) <| o_p rfl (Zp en_8 (Znq _ _ h4) rfl rfl (.cons u_0 (.cons u_1 .nil))) <| o_p rfl (Za rfl rfl u_0) <| o_p rfl (Z4 rfl rfl u_0 rfl) <| o_p rfl (Z4 rfl rfl u_0 rfl) <| o_p rfl (Zbb (zs := [.pointer none, .int .i64 0]) (by kernel_rfl) (fun g => Zci g) rfl rfl) <| o_p rfl (Zbb (zs := [.int .i64 0, .int .i64 0, .slice none 0 0]) (by kernel_rfl) (fun g => Zmg g) rfl rfl) <| o_p rfl (Zby Zbf rfl rfl u_1 u_0) <| o_p rfl (Zby Zjf rfl rfl u_1 u_0) <| o_n) (by kernel_rfl) (fun a g hst hb => ?_)
 obtain ⟨r5, h6, H0⟩ := Zh H0
 refine r_s (T := ⟨[.old 0], _, [], [], [28]⟩ :: ⟨[.old 2], _, [], [], [29]⟩ :: ⟨[.op 1 0], _, [], [1], [30]⟩ :: ⟨[.op 2 0], _, [], [1, 2], [31]⟩ :: ⟨[.old 3], _, [], [], [32]⟩ :: ⟨[.op 4 0], _, [], [4], [33]⟩ :: ⟨[.op 5 0], _, [], [4, 5], [34]⟩ :: ⟨[.op 3 0, .op 6 0], _, [], List.range' 1 6, [35]⟩ :: ⟨[.op 0 0, .op 7 0], _, [], Lr 8, [36]⟩ :: ⟨[.op 8 0], _, [], Lr 9, [27]⟩ :: ⟨[.op 9 0], _, [], Lr 10, [37]⟩ :: ⟨[.op 9 0], _, [], Lr 10, [38]⟩ :: ⟨[], [(7, (pBox Zt 7 (default : Zk)))], [8], [], [7]⟩ :: ⟨[.op 10 0, .op 12 0], _, [8], 0 :: 1 :: 2 :: 3 :: 4 :: 5 :: 6 :: 7 :: 8 :: 9 :: 10 :: 12 :: [], [7]⟩ :: ⟨[.op 11 0], _, [], Lr 14, [8]⟩ :: []) (F := [.old 1, .old 2, .old 4, .old 5, .op 13 0, .op 14 0]) hst hb Zb
   (o_p rfl (Zf Zbf rfl rfl u_0) <| o_p rfl (Zf Ze9 rfl rfl u_0) <| o_p rfl (Zjl Zzp (xs := [.tmp 29]) (.cons u_0 .nil) (by decide) rfl rfl) <| o_p rfl (Ztj rfl rfl u_0) <| o_p rfl (Zf Ze9 rfl rfl u_0) <| o_p rfl (Zjl Zzp (xs := [.tmp 32]) (.cons u_0 .nil) (by decide) rfl rfl) <| o_p rfl (Ztj rfl rfl u_0) <| o_p rfl (Zjl Z7n (xs := [.tmp 31, .tmp 34]) (.cons u_0 (.cons u_1 .nil)) (by decide) rfl rfl) <| o_p rfl (Zp Z3b (Zra _ _ h6) rfl rfl (.cons u_0 (.cons u_1 .nil))) <| o_p rfl (Za rfl rfl u_0) <| o_p rfl (Z4 rfl rfl u_0 rfl) <| o_p rfl (Z4 rfl rfl u_0 rfl) <| o_p rfl (Zbb (zs := [.pointer none, .int .i64 0]) (by kernel_rfl) (fun g => Zci g) rfl rfl) <| o_p rfl (Zby Zbf rfl rfl u_1 u_0) <| o_p rfl (Zc rfl rfl u_0) <| o_n) (by kernel_rfl) (fun a g hst hb => ?_)
 obtain ⟨r7, h8, H0⟩ := Zh H0
 refine r_s (T := [⟨[.old 4], _, [], [], [40]⟩, ⟨[.old 1], _, [], [], [41]⟩, ⟨[.op 0 0, .op 1 0], _, [], [0, 1], [42]⟩, ⟨[.op 2 0], _, [], [0, 1, 2], [39]⟩, ⟨[.op 3 0], _, [], Lr 4, [43]⟩, ⟨[.op 3 0], _, [], Lr 4, [44]⟩, ⟨[], [(9, (pBox Zt 9 (default : Zk)))], [10], [], [9]⟩, ⟨[], [(10, (pBox Zs 10 (default : Zg)))], [11], [], [10]⟩, ⟨[.op 4 0, .op 6 0], _, [10], [0, 1, 2, 3, 4, 6, 7], [9]⟩, ⟨[.op 5 0, .op 7 0], _, [11], Lr 9, [10]⟩]) (F := [.old 0, .old 2, .old 3, .old 4, .old 5, .op 9 0]) hst hb Zb
   (o_p rfl (Zf Zbf rfl rfl u_0) <| o_p rfl (Zf Ze9 rfl rfl u_0) <| o_p rfl (Zp Zzs (Znu _ _ h8) rfl rfl (.cons u_0 (.cons u_1 .nil))) <| o_p rfl (Za rfl rfl u_0) <| o_p rfl (Z4 rfl rfl u_0 rfl) <| o_p rfl (Z4 rfl rfl u_0 rfl) <| o_p rfl (Zbb (zs := [.pointer none, .int .i64 0]) (by kernel_rfl) (fun g => Zci g) rfl rfl) <| o_p rfl (Zbb (zs := [.int .i64 0, .int .i64 0, .int .i64 0, .int .i64 0, .int .i64 0, .int .i64 0, .float .f64 0, .int .i64 0, .string ByteArray.empty, .slice none 0 0]) (by kernel_rfl) (fun g => Zdy g) rfl rfl) <| o_p rfl (Zby Zbf rfl rfl u_1 u_0) <| o_p rfl (Zby Zcb rfl rfl u_1 u_0) <| o_n) (by kernel_rfl) (fun a g hst hb => ?_)
 obtain ⟨r9, h10, H0⟩ := Zh H0; obtain ⟨r11, h12, H0⟩ := Zh H0; obtain ⟨r13, h14, H0⟩ := Zh H0; obtain ⟨e15, h16, H0⟩ := Zh H0; obtain ⟨e17, h18, H0⟩ := Zh H0; obtain ⟨e19, h20, H0⟩ := Zh H0
 refine r_s (T := ⟨[.old 0], _, [], [], [45]⟩ :: ⟨[.op 0 0], _, [], [0], [46]⟩ :: ⟨[.op 1 0], _, [], [0, 1], [47]⟩ :: ⟨[.op 2 0, .old 1], _, [], [0, 1, 2], [48]⟩ :: ⟨[.op 2 0, .op 3 0], _, [], Lr 4, [49]⟩ :: ⟨[.op 2 0, .op 4 0], _, [], Lr 5, [50]⟩ :: ⟨[.op 2 0, .op 5 0], _, [], Lr 6, [51]⟩ :: ⟨[.op 6 0], _, [], Lr 7, [52]⟩ :: ⟨[.op 7 0, .old 2], _, [], Lr 8, [53]⟩ :: ⟨[.op 7 0], _, [], Lr 8, [54]⟩ :: ⟨[.op 7 0, .op 8 0, .op 9 0], _, [], Lr 10, [55]⟩ :: ⟨[.op 7 0, .op 10 0], _, [], Lr 11, [56]⟩ :: ⟨[.op 11 0], _, [], Lr 12, [57]⟩ :: ⟨[.op 12 0, .old 3], _, [], Lr 13, [58]⟩ :: ⟨[.op 12 0, .op 13 0], _, [], Lr 14, [59]⟩ :: ⟨[.op 12 0, .op 14 0], _, [], Lr 15, [60]⟩ :: ⟨[.op 12 0, .op 15 0], _, [], Lr 16, [61]⟩ :: ⟨[.op 16 0], _, [], Lr 17, [62]⟩ :: ⟨[.op 17 0, .old 4], _, [], Lr 18, [63]⟩ :: ⟨[.op 17 0, .op 18 0], _, [], Lr 19, [64]⟩ :: ⟨[.op 17 0, .op 19 0], _, [], Lr 20, [65]⟩ :: ⟨[.op 17 0, .op 20 0], _, [], Lr 21, [66]⟩ :: ⟨[.op 21 0], _, [], Lr 22, [67]⟩ :: ⟨[.op 22 0, .old 4], _, [], Lr 23, [68]⟩ :: ⟨[.op 22 0, .op 23 0], _, [], Lr 24, [69]⟩ :: ⟨[.op 22 0, .op 24 0], _, [], Lr 25, [70]⟩ :: ⟨[.op 22 0, .op 25 0], _, [], Lr 26, [71]⟩ :: ⟨[.op 22 0, .op 26 0], _, [], Lr 27, [72]⟩ :: ⟨[.op 22 0, .op 27 0], _, [], Lr 28, [73]⟩ :: ⟨[.op 22 0, .op 28 0], _, [], Lr 29, [74]⟩ :: ⟨[.op 29 0], _, [], Lr 30, [75]⟩ :: ⟨[.op 30 0, .old 4], _, [], Lr 31, [76]⟩ :: ⟨[.op 30 0, .op 31 0], _, [], Lr 32, [77]⟩ :: ⟨[.op 30 0, .op 32 0], _, [], Lr 33, [78]⟩ :: ⟨[.op 30 0, .op 33 0], _, [], Lr 34, [79]⟩ :: ⟨[.op 30 0, .op 34 0], _, [], Lr 35, [80]⟩ :: ⟨[.op 30 0, .op 35 0], _, [], Lr 36, [81]⟩ :: ⟨[.op 36 0], _, [], Lr 37, [82]⟩ :: ⟨[.op 37 0, .old 4], _, [], Lr 38, [83]⟩ :: ⟨[.op 37 0, .op 38 0], _, [], Lr 39, [84]⟩ :: ⟨[.op 37 0, .op 39 0], _, [], Lr 40, [85]⟩ :: ⟨[.op 37 0, .op 40 0], _, [], Lr 41, [86]⟩ :: ⟨[.op 37 0, .op 41 0], _, [], Lr 42, [87]⟩ :: ⟨[.op 37 0, .op 42 0], _, [], Lr 43, [88]⟩ :: ⟨[.op 43 0], _, [], Lr 44, [89]⟩ :: ⟨[.op 44 0, .old 5], _, [], Lr 45, [90]⟩ :: ⟨[.op 44 0, .op 45 0], _, [], Lr 46, [91]⟩ :: ⟨[.op 44 0, .op 46 0], _, [], Lr 47, [92]⟩ :: ⟨[.op 44 0, .op 47 0], _, [], Lr 48, [93]⟩ :: ⟨[.op 48 0], _, [], Lr 49, [0]⟩ :: []) (F := [.op 49 0]) hst hb Zb
   (o_p rfl (Za rfl rfl u_0) <| o_p rfl (Zbw rfl rfl u_0 c_i) <| o_p rfl (Za rfl rfl u_0) <| o_g (g_t rfl rfl rfl (fun hG => Zf Zbf rfl rfl u_0)) <| o_g (g_t rfl rfl rfl (fun hG => Zp en_9 (Zfd _ (Zbq h10 hG)) rfl rfl (.cons (Opd.gd hG u_0) .nil))) <| o_g (g_t rfl rfl rfl (fun hG => Zbw rfl rfl (Opd.gd hG u_0) c_i)) <| o_p rfl (Zbj rfl rfl u_0 (fun hz => (Opd.gd hz u_1))) <| o_p rfl (Za rfl rfl u_0) <| o_g (g_t rfl rfl rfl (fun hG => Zf Zjf rfl rfl u_0)) <| o_g (g_t rfl rfl rfl (fun hG => Zpp rfl rfl c_i c_i)) <| o_g (g_t rfl rfl rfl (fun hG => Zp Zz1 (Zme _ _ (Zbq h12 hG)) rfl rfl (.cons (Opd.gd hG u_0) (.cons (Opd.gd hG u_1) .nil)))) <| o_p rfl (Zbj rfl rfl u_0 (fun hz => (Opd.gd hz u_1))) <| o_p rfl (Za rfl rfl u_0) <| o_g (g_t rfl rfl rfl (fun hG => Zf Zbf rfl rfl u_0)) <| o_g (g_t rfl rfl rfl (fun hG => Zp en_9 (Zfd _ (Zbq h14 hG)) rfl rfl (.cons (Opd.gd hG u_0) .nil))) <| o_g (g_t rfl rfl rfl (fun hG => Zbw rfl rfl (Opd.gd hG u_0) c_i)) <| o_p rfl (Zbj rfl rfl u_0 (fun hz => (Opd.gd hz u_1))) <| o_p rfl (Za rfl rfl u_0) <| o_g (g_t rfl rfl rfl (fun hG => Za rfl rfl u_0)) <| o_g (g_t rfl rfl rfl (fun hG => Zb3 Tryd.underlying50 rfl rfl (Opd.gd hG u_0))) <| o_g (g_t rfl rfl rfl (fun hG => Zbw rfl rfl (Opd.gd hG u_0) c_i)) <| o_p rfl (Zbj rfl rfl u_0 (fun hz => (Opd.gd hz u_1))) <| o_p rfl (Za rfl rfl u_0) <| o_g (g_t rfl rfl rfl (fun hG => Za rfl rfl u_0)) <| o_g (g_t rfl rfl rfl (fun hG => Zbv Tryd.underlying50 Zvf rfl rfl (Opd.gd hG u_0) c_i (Zbq h16 hG))) <| o_g (g_t rfl rfl rfl (fun hG => Ze Zmo rfl rfl (Opd.gd hG u_0))) <| o_g (g_t rfl rfl rfl (fun hG => Zf Zqd rfl rfl (Opd.gd hG u_0))) <| o_g (g_t rfl rfl rfl (fun hG => Zb3 Tryd.underlying36 rfl rfl (Opd.gd hG u_0))) <| o_g (g_t rfl rfl rfl (fun hG => Zbw rfl rfl (Opd.gd hG u_0) c_i)) <| o_p rfl (Zbj rfl rfl u_0 (fun hz => (Opd.gd hz u_1))) <| o_p rfl (Za rfl rfl u_0) <| o_g (g_t rfl rfl rfl (fun hG => Za rfl rfl u_0)) <| o_g (g_t rfl rfl rfl (fun hG => Zbv Tryd.underlying50 Zvf rfl rfl (Opd.gd hG u_0) c_i (Zbq h18 hG))) <| o_g (g_t rfl rfl rfl (fun hG => Ze Zqb rfl rfl (Opd.gd hG u_0))) <| o_g (g_t rfl rfl rfl (fun hG => Zf Zj0 rfl rfl (Opd.gd hG u_0))) <| o_g (g_t rfl rfl rfl (fun hG => Zbw rfl rfl (Opd.gd hG u_0) c_i)) <| o_p rfl (Zbj rfl rfl u_0 (fun hz => (Opd.gd hz u_1))) <| o_p rfl (Za rfl rfl u_0) <| o_g (g_t rfl rfl rfl (fun hG => Za rfl rfl u_0)) <| o_g (g_t rfl rfl rfl (fun hG => Zbv Tryd.underlying50 Zvf rfl rfl (Opd.gd hG u_0) c_i (Zbq h20 hG))) <| o_g (g_t rfl rfl rfl (fun hG => Ze Zqi rfl rfl (Opd.gd hG u_0))) <| o_g (g_t rfl rfl rfl (fun hG => Zf ty_3 rfl rfl (Opd.gd hG u_0))) <| o_g (g_t rfl rfl rfl (fun hG => Zbw rfl rfl (Opd.gd hG u_0) c_i)) <| o_p rfl (Zbj rfl rfl u_0 (fun hz => (Opd.gd hz u_1))) <| o_p rfl (Za rfl rfl u_0) <| o_g (g_t rfl rfl rfl (fun hG => Ze Zkw rfl rfl u_0)) <| o_g (g_t rfl rfl rfl (fun hG => Zf Zj0 rfl rfl (Opd.gd hG u_0))) <| o_g (g_t rfl rfl rfl (fun hG => Zbw rfl rfl (Opd.gd hG u_0) c_i)) <| o_p rfl (Zbj rfl rfl u_0 (fun hz => (Opd.gd hz u_1))) <| o_p rfl (Zc rfl rfl u_0) <| o_n) (by kernel_rfl) (fun a g hst hb => ?_)
 refine wp_ret ?_
 obtain rfl := Option.some.inj H0
 exact Z3 rfl hst hb (Zm (s := 0)) (hst.at 0 rfl)
theorem Zma (a0 : Zd) {r : Int} (h : Zgr a0 = some r) : FnOk Tryd.prog 18 [(Zi.pd a0)] (pInt .i64 r) := by
 have H0 := h
 unfold Zgr at H0
 clear h
 refine Zbu (N := 27) Tryd.func18 rfl rfl (Nat.le_of_ble_eq_true rfl) rfl rfl (fun a g0 hst hb => ?_)
 refine r_s (T := [⟨[.old 0], _, [], [], [1]⟩, ⟨[], _, [], [], [2]⟩]) (F := [.op 0 0]) hst hb Zb
   (o_p rfl (Zbl rfl rfl u_0) <| o_p rfl (Zc rfl rfl c_i) <| o_n) (by kernel_rfl) (fun a g hst hb => ?_)
 refine wp_seq ?_
 refine r_s (T := [⟨[.old 0], _, [], [], [5]⟩, ⟨[.op 0 0], _, [], [0], [6]⟩, ⟨[.op 1 0], _, [], [0, 1], [7]⟩, ⟨[.op 2 0], _, [], [0, 1, 2], [8]⟩, ⟨[.op 3 0], _, [], Lr 4, [9]⟩, ⟨[.op 4 0, .old 0], _, [], Lr 5, [10]⟩, ⟨[.op 4 0, .op 5 0], _, [], Lr 6, [11]⟩, ⟨[.op 4 0, .op 6 0], _, [], Lr 7, [12]⟩, ⟨[.op 4 0, .op 7 0], _, [], Lr 8, [13]⟩, ⟨[.op 4 0, .op 8 0], _, [], Lr 9, [14]⟩]) (F := [.old 0, .op 9 0]) hst hb Zb
   (o_p rfl (Ze Zdc rfl rfl u_0) <| o_p rfl (Zf Zev rfl rfl u_0) <| o_p rfl (Zb3 Tryd.underlying43 rfl rfl u_0) <| o_p rfl (Zcr rfl rfl u_0 c_i) <| o_p rfl (Za rfl rfl u_0) <| o_g (g_f rfl rfl rfl (fun hG => Ze Zjs rfl rfl u_0)) <| o_g (g_f rfl rfl rfl (fun hG => Zf ty_9 rfl rfl (Opd.gd hG u_0))) <| o_g (g_f rfl rfl rfl (fun hG => Zft Tryd.underlying9 rfl rfl (Opd.gd hG u_0))) <| o_g (g_f rfl rfl rfl (fun hG => Zcr rfl rfl (Opd.gd hG u_0) c_i)) <| o_p rfl (Zbz rfl rfl u_0 (fun hz => (Opd.gd (bNF hz) u_1))) <| o_n) (by kernel_rfl) (fun a g hst hb => ?_)
 refine wp_cond_split (hst.bool 1 rfl) (fun hc1 => ?_) (fun hc1 => ?_)
 · replace H0 := Z0 hc1 H0
   refine r_s (L := []) (T := [⟨[], _, [], [], [2]⟩]) (F := [.op 0 0]) (hst.pick [] rfl) hb Zb
     (o_p rfl (Zc rfl rfl c_i) <| o_n) (by kernel_rfl) (fun a g hst hb => ?_)
   refine wp_ret ?_
   refine Zn ?_
   obtain rfl := Option.some.inj H0
   exact Z3 rfl hst hb (Zm (s := 2)) (hst.at 0 rfl)
 · replace H0 := Zz hc1 H0
   refine wp_skip ?_
   refine Zu ?_
   refine wp_seq ?_
   refine r_s (L := [(1, _)]) (T := [⟨[.old 0], _, [], [], [15]⟩, ⟨[.op 0 0], _, [], [0], [16]⟩, ⟨[.op 1 0], _, [], [0, 1], [17]⟩, ⟨[], _, [], [], [18]⟩]) (F := [.op 1 0, .op 2 0, .op 3 0]) (hst.pick [0] rfl) hb Zb
     (o_p rfl (Ze Zdc rfl rfl u_0) <| o_p rfl (Zf Zev rfl rfl u_0) <| o_p rfl (Zb3 Tryd.underlying43 rfl rfl u_0) <| o_p rfl (Za rfl rfl c_i) <| o_n) (by kernel_rfl) (fun a g hst hb => ?_)
   obtain ⟨z7, hz1, H0⟩ := Zh H0
   refine Zc0 (fun a w => ∃ (g : G), w = g.w ∧ St 27 [] a g ∧ Base g0 g ∧ (.inr ()) = z7) ?_ ?_
   · rintro a w ⟨g, rfl, hst, hb, rfl⟩
     refine Zu ?_
     refine r_s (T := [⟨[], _, [], [], [2]⟩]) (F := [.op 0 0]) hst hb Zb
       (o_p rfl (Zc rfl rfl c_i) <| o_n) (by kernel_rfl) (fun a g hst hb => ?_)
     refine wp_ret ?_
     obtain rfl := Option.some.inj H0
     exact Z3 rfl hst hb (Zm (s := 2)) (hst.at 0 rfl)
   · refine wp_block ?_
     refine wp_loop_ghost (fun n a w => ∃ (x2 : Int) (g : G), w = g.w ∧ St 27 [(16, (Zy.sl.pd a0.List)), (17, (pInt .i64 (a0.List.length : Int))), (18, (pInt .i64 x2))] a g ∧ Base g0 g ∧ Zd5 a0 n x2 = some z7) (Int.toNat ((a0.List.length : Int) - (0 : Int)) + 1) ⟨(0 : Int), g, rfl, (hst.pick [0, 1, 2] rfl), hb, hz1⟩ (fun n a w hI => ?_)
     obtain ⟨x2, g, rfl, hst, hb, H1⟩ := hI
     cases n with
     | zero => exact absurd H1 (by simp [Zd5])
     | succ n =>
       rw [Zd5] at H1
       refine r_s (T := [⟨[.old 2, .old 1], _, [], [], [19]⟩]) (F := [.old 0, .old 1, .old 2, .op 0 0]) hst hb Zb
         (o_p rfl (Zc2 rfl rfl u_0 u_1) <| o_n) (by kernel_rfl) (fun a g hst hb => ?_)
       refine wp_seq ?_
       refine wp_cond_split (hst.bool 3 rfl) (fun hc3 => ?_) (fun hc3 => ?_)
       · replace H1 := Z0 hc3 H1
         refine wp_skip ?_
         refine Zu ?_
         refine wp_seq ?_
         refine wp_block ?_
         obtain ⟨e4, h5, H1⟩ := Zh H1
         refine r_s (L := [(16, _), (17, _), (18, _)]) (T := [⟨[.old 0, .old 2], _, [], [], [20]⟩, ⟨[.op 0 0], _, [], [0], [21]⟩, ⟨[], [(4, (pBox Zy 4 (default : Zj)))], [5], [], [4]⟩, ⟨[.op 1 0, .op 2 0], _, [5], [0, 1, 2], [4]⟩]) (F := [.op 3 0, .old 0, .old 1, .old 2]) (hst.pick [0, 1, 2] rfl) hb Zb
           (o_p rfl (Zbv Tryd.underlying43 Zjc rfl rfl u_0 u_1 h5) <| o_p rfl (Zf Zfk rfl rfl u_0) <| o_p rfl (Zbb (zs := [.float .f64 0, .string ByteArray.empty]) (by kernel_rfl) (fun g => Zi8 g) rfl rfl) <| o_p rfl (Zby Zfk rfl rfl u_1 u_0) <| o_n) (by kernel_rfl) (fun a g hst hb => ?_)
         refine r_s (T := [⟨[.old 0], _, [], [], [22]⟩, ⟨[.op 0 0], _, [], [0], [23]⟩, ⟨[.op 1 0], _, [], [0, 1], [24]⟩, ⟨[.op 2 0], _, [], [0, 1, 2], [25]⟩]) (F := [.old 1, .old 2, .old 3, .op 3 0]) hst hb Zb
           (o_p rfl (Ze Zf2 rfl rfl u_0) <| o_p rfl (Zf ty_9 rfl rfl u_0) <| o_p rfl (Zft Tryd.underlying9 rfl rfl u_0) <| o_p rfl (Zcr rfl rfl u_0 c_i) <| o_n) (by kernel_rfl) (fun a g hst hb => ?_)
         refine wp_cond_split (hst.bool 3 rfl) (fun hc6 => ?_) (fun hc6 => ?_)
         · replace H1 := Z0 hc6 H1
           refine r_s (L := []) (T := [⟨[], _, [], [], [2]⟩]) (F := [.op 0 0]) (hst.pick [] rfl) hb Zb
             (o_p rfl (Zc rfl rfl c_i) <| o_n) (by kernel_rfl) (fun a g hst hb => ?_)
           refine wp_ret ?_
           refine Zw ?_
           refine Zn ?_
           refine Zn ?_
           refine Zw ?_
           refine Zn ?_
           refine Zn ?_
           obtain rfl := Option.some.inj H1
           obtain rfl := Option.some.inj H0
           exact Z3 rfl hst hb (Zm (s := 2)) (hst.at 0 rfl)
         · replace H1 := Zz hc6 H1
           refine wp_skip ?_
           refine Zbt ?_
           refine Zu ?_
           refine r_g (L := [(16, _), (17, _), (18, _)]) (T := [⟨[.old 2], _, [], [], [26]⟩, ⟨[.op 0 0], _, [], [0], [18]⟩]) (F := [.old 0, .old 1, .op 1 0]) (hst.pick [0, 1, 2] rfl) hb Zb
             (o_p rfl (Zce rfl rfl u_0 c_i rfl) <| o_p rfl (Za rfl rfl u_0) <| o_n) (by kernel_rfl) (fun a g hst hb => ?_)
           exact ⟨n, Nat.lt_succ_self _, (IntKind.i64.wrap (x2 + (1 : Int))), g, rfl, (hst.pick [0, 1, 2] rfl), hb, H1⟩
       · replace H1 := Zz hc3 H1
         refine wp_exit ?_
         refine Zca ?_
         refine Zca ?_
         refine Zcz ?_
         exact ⟨g, rfl, (hst.pick [] rfl), hb, Option.some.inj H1⟩
theorem Zja (a0 : Nat) {r : Bool} (h : Zen a0 = some r) : FnOk Tryd.prog 88 [(pFlt a0)] (Zbd r) := by
 have H0 := h
 unfold Zen at H0
 clear h
 refine Zbu (N := 6) Tryd.func88 rfl rfl (Nat.le_of_ble_eq_true rfl) rfl rfl (fun a g0 hst hb => ?_)
 refine r_s (T := [⟨[], _, [], [], [2]⟩]) (F := [.old 0]) hst hb Zb
   (o_p rfl (Zc rfl rfl c_b) <| o_n) (by kernel_rfl) (fun a g hst hb => ?_)
 refine r_s (T := [⟨[.old 0], _, [], [], [3]⟩, ⟨[.old 0], _, [], [], [4]⟩, ⟨[.op 0 0, .op 1 0], _, [], [0, 1], [5]⟩, ⟨[.op 2 0], _, [], [0, 1, 2], [2]⟩]) (F := [.op 3 0]) hst hb Zb
   (o_p rfl (Za rfl rfl u_0) <| o_p rfl (Za rfl rfl u_0) <| o_p rfl (Zxs rfl rfl u_0 u_1) <| o_p rfl (Zc rfl rfl u_0) <| o_n) (by kernel_rfl) (fun a g hst hb => ?_)
 refine wp_ret ?_
 obtain rfl := Option.some.inj H0
 exact Z3 rfl hst hb (Zm (s := 2)) (hst.at 0 rfl)
theorem Zla (a0 : Nat) {r : Bool} (h : Zfr a0 = some r) : FnOk Tryd.prog 100 [(pFlt a0)] (Zbd r) := by
 have H0 := h
 unfold Zfr at H0
 clear h
 refine Zbu (N := 10) Tryd.func100 rfl rfl (Nat.le_of_ble_eq_true rfl) rfl rfl (fun a g0 hst hb => ?_)
 refine r_s (T := [⟨[], _, [], [], [2]⟩]) (F := [.old 0]) hst hb Zb
   (o_p rfl (Zc rfl rfl c_b) <| o_n) (by kernel_rfl) (fun a g hst hb => ?_)
 refine wp_seq ?_
 refine r_s (T := [⟨[.old 0], _, [], [], [3]⟩, ⟨[.op 0 0], _, [], [0], [4]⟩]) (F := [.old 0, .op 1 0]) hst hb Zb
   (o_p rfl (Za rfl rfl u_0) <| o_p rfl (Zt0 rfl rfl u_0 c_f) <| o_n) (by kernel_rfl) (fun a g hst hb => ?_)
 refine wp_cond_split (hst.bool 1 rfl) (fun hc1 => ?_) (fun hc1 => ?_)
 · replace H0 := Z0 hc1 H0
   obtain ⟨f2, h3, H0⟩ := Zh H0
   refine r_s (L := [(0, _)]) (T := [⟨[.old 0], _, [], [], [5]⟩, ⟨[.op 0 0], _, [], [0], [6]⟩, ⟨[.op 1 0], _, [], [0, 1], [7]⟩, ⟨[.op 2 0], _, [], [0, 1, 2], [2]⟩]) (F := [.op 3 0]) (hst.pick [0] rfl) hb Zb
     (o_p rfl (Za rfl rfl u_0) <| o_p rfl (Z5c rfl rfl c_f u_0 h3) <| o_p rfl (Ztb rfl rfl u_0 c_f) <| o_p rfl (Zc rfl rfl u_0) <| o_n) (by kernel_rfl) (fun a g hst hb => ?_)
   refine wp_ret ?_
   refine Zn ?_
   obtain rfl := Option.some.inj H0
   exact Z3 rfl hst hb (Zm (s := 2)) (hst.at 0 rfl)
 · replace H0 := Zz hc1 H0
   refine wp_skip ?_
   refine Zu ?_
   refine r_s (L := [(0, _)]) (T := [⟨[.old 0], _, [], [], [8]⟩, ⟨[.op 0 0], _, [], [0], [9]⟩, ⟨[.op 1 0], _, [], [0, 1], [2]⟩]) (F := [.op 2 0]) (hst.pick [0] rfl) hb Zb
     (o_p rfl (Za rfl rfl u_0) <| o_p rfl (Ztb rfl rfl u_0 c_f) <| o_p rfl (Zc rfl rfl u_0) <| o_n) (by kernel_rfl) (fun a g hst hb => ?_)
   refine wp_ret ?_
   obtain rfl := Option.some.inj H0
   exact Z3 rfl hst hb (Zm (s := 2)) (hst.at 0 rfl)
theorem Zjb (a0 : Nat) (a1 : Nat) {r : Bool} (h : Zd6 a0 a1 = some r) : FnOk Tryd.prog 97 [(pFlt a0), (pFlt a1)] (Zbd r) := by
 have H0 := h
 unfold Zd6 at H0
 clear h
 refine Zbu (N := 25) Tryd.func97 rfl rfl (Nat.le_of_ble_eq_true rfl) rfl rfl (fun a g0 hst hb => ?_)
 refine r_s (T := [⟨[], _, [], [], [4]⟩]) (F := [.old 0, .old 1]) hst hb Zb
   (o_p rfl (Zc rfl rfl c_b) <| o_n) (by kernel_rfl) (fun a g hst hb => ?_)
 refine wp_seq ?_
 obtain ⟨r1, h2, H0⟩ := Zh H0
 refine r_s (T := [⟨[.old 0], _, [], [], [5]⟩, ⟨[.op 0 0], _, [], [0], [6]⟩]) (F := [.old 0, .old 1, .op 1 0]) hst hb Zb
   (o_p rfl (Za rfl rfl u_0) <| o_p rfl (Zp Zzy (Zja _ h2) rfl rfl (.cons u_0 .nil)) <| o_n) (by kernel_rfl) (fun a g hst hb => ?_)
 refine wp_cond_split (hst.bool 2 rfl) (fun hc3 => ?_) (fun hc3 => ?_)
 · replace H0 := Z0 hc3 H0
   refine r_s (L := []) (T := [⟨[], _, [], [], [4]⟩]) (F := [.op 0 0]) (hst.pick [] rfl) hb Zb
     (o_p rfl (Zc rfl rfl c_b) <| o_n) (by kernel_rfl) (fun a g hst hb => ?_)
   refine wp_ret ?_
   refine Zn ?_
   obtain rfl := Option.some.inj H0
   exact Z3 rfl hst hb (Zm (s := 4)) (hst.at 0 rfl)
 · replace H0 := Zz hc3 H0
   refine wp_skip ?_
   refine Zu ?_
   refine wp_seq ?_
   obtain ⟨r4, h5, H0⟩ := Zh H0
   refine r_s (L := [(0, _), (1, _)]) (T := [⟨[.old 1], _, [], [], [7]⟩, ⟨[.op 0 0], _, [], [0], [8]⟩]) (F := [.old 0, .old 1, .op 1 0]) (hst.pick [0, 1] rfl) hb Zb
     (o_p rfl (Za rfl rfl u_0) <| o_p rfl (Zp Zzy (Zja _ h5) rfl rfl (.cons u_0 .nil)) <| o_n) (by kernel_rfl) (fun a g hst hb => ?_)
   refine wp_cond_split (hst.bool 2 rfl) (fun hc6 => ?_) (fun hc6 => ?_)
   · replace H0 := Z0 hc6 H0
     refine r_s (L := []) (T := [⟨[], _, [], [], [4]⟩]) (F := [.op 0 0]) (hst.pick [] rfl) hb Zb
       (o_p rfl (Zc rfl rfl c_b) <| o_n) (by kernel_rfl) (fun a g hst hb => ?_)
     refine wp_ret ?_
     refine Zn ?_
     obtain rfl := Option.some.inj H0
     exact Z3 rfl hst hb (Zm (s := 4)) (hst.at 0 rfl)
   · replace H0 := Zz hc6 H0
     refine wp_skip ?_
     refine Zu ?_
     refine wp_seq ?_
     refine r_s (L := [(0, _), (1, _)]) (T := [⟨[.old 0], _, [], [], [9]⟩, ⟨[.op 0 0], _, [], [0], [10]⟩, ⟨[.op 1 0], _, [], [0, 1], [11]⟩, ⟨[.op 2 0, .old 1], _, [], [0, 1, 2], [12]⟩, ⟨[.op 2 0, .op 3 0], _, [], Lr 4, [13]⟩, ⟨[.op 2 0, .op 4 0], _, [], Lr 5, [14]⟩]) (F := [.old 0, .old 1, .op 5 0]) (hst.pick [0, 1] rfl) hb Zb
       (o_p rfl (Za rfl rfl u_0) <| o_p rfl (Zt0 rfl rfl u_0 c_f) <| o_p rfl (Za rfl rfl u_0) <| o_g (g_t rfl rfl rfl (fun hG => Za rfl rfl u_0)) <| o_g (g_t rfl rfl rfl (fun hG => Zt0 rfl rfl (Opd.gd hG u_0) c_f)) <| o_p rfl (Zbj rfl rfl u_0 (fun hz => (Opd.gd hz u_1))) <| o_n) (by kernel_rfl) (fun a g hst hb => ?_)
     refine wp_cond_split (hst.bool 2 rfl) (fun hc7 => ?_) (fun hc7 => ?_)
     · replace H0 := Z0 hc7 H0
       obtain ⟨r8, h9, H0⟩ := Zh H0; obtain ⟨r10, h11, H0⟩ := Zh H0
       refine r_s (L := [(0, _), (1, _)]) (T := [⟨[.old 0], _, [], [], [15]⟩, ⟨[.op 0 0], _, [], [0], [16]⟩, ⟨[.op 1 0], _, [], [0, 1], [17]⟩, ⟨[.op 2 0, .old 1], _, [], [0, 1, 2], [18]⟩, ⟨[.op 2 0, .op 3 0], _, [], Lr 4, [19]⟩, ⟨[.op 2 0, .op 4 0], _, [], Lr 5, [20]⟩, ⟨[.op 2 0, .op 5 0], _, [], Lr 6, [21]⟩, ⟨[.op 6 0], _, [], Lr 7, [4]⟩]) (F := [.op 7 0]) (hst.pick [0, 1] rfl) hb Zb
         (o_p rfl (Za rfl rfl u_0) <| o_p rfl (Zp Z1a (Zla _ h9) rfl rfl (.cons u_0 .nil)) <| o_p rfl (Za rfl rfl u_0) <| o_g (g_t rfl rfl rfl (fun hG => Za rfl rfl u_0)) <| o_g (g_t rfl rfl rfl (fun hG => Zp Z1a (Zla _ (Zbq h11 hG)) rfl rfl (.cons (Opd.gd hG u_0) .nil))) <| o_g (g_t rfl rfl rfl (fun hG => Zcn rfl rfl (Opd.gd hG u_0))) <| o_p rfl (Zbj rfl rfl u_0 (fun hz => (Opd.gd hz u_1))) <| o_p rfl (Zc rfl rfl u_0) <| o_n) (by kernel_rfl) (fun a g hst hb => ?_)
       refine wp_ret ?_
       refine Zn ?_
       obtain rfl := Option.some.inj H0
       exact Z3 rfl hst hb (Zm (s := 4)) (hst.at 0 rfl)
     · replace H0 := Zz hc7 H0
       refine wp_skip ?_
       refine Zu ?_
       refine r_s (L := [(0, _), (1, _)]) (T := [⟨[.old 0], _, [], [], [22]⟩, ⟨[.old 1], _, [], [], [23]⟩, ⟨[.op 0 0, .op 1 0], _, [], [0, 1], [24]⟩, ⟨[.op 2 0], _, [], [0, 1, 2], [4]⟩]) (F := [.op 3 0]) (hst.pick [0, 1] rfl) hb Zb
         (o_p rfl (Za rfl rfl u_0) <| o_p rfl (Za rfl rfl u_0) <| o_p rfl (Ztb rfl rfl u_0 u_1) <| o_p rfl (Zc rfl rfl u_0) <| o_n) (by kernel_rfl) (fun a g hst hb => ?_)
       refine wp_ret ?_
       obtain rfl := Option.some.inj H0
       exact Z3 rfl hst hb (Zm (s := 4)) (hst.at 0 rfl)
theorem Zlj (a0 : Nat) (a1 : Nat) {r : Bool} (h : Zdd a0 a1 = some r) : FnOk Tryd.prog 96 [(pFlt a0), (pFlt a1)] (Zbd r) := by
 have H0 := h
 unfold Zdd at H0
 clear h
 refine Zbu (N := 15) Tryd.func96 rfl rfl (Nat.le_of_ble_eq_true rfl) rfl rfl (fun a g0 hst hb => ?_)
 refine r_s (T := [⟨[], _, [], [], [4]⟩]) (F := [.old 0, .old 1]) hst hb Zb
   (o_p rfl (Zc rfl rfl c_b) <| o_n) (by kernel_rfl) (fun a g hst hb => ?_)
 obtain ⟨r1, h2, H0⟩ := Zh H0; obtain ⟨r3, h4, H0⟩ := Zh H0
 refine r_s (T := [⟨[.old 0], _, [], [], [5]⟩, ⟨[.old 1], _, [], [], [6]⟩, ⟨[.op 0 0, .op 1 0], _, [], [0, 1], [7]⟩, ⟨[.op 2 0], _, [], [0, 1, 2], [8]⟩, ⟨[.op 3 0], _, [], Lr 4, [9]⟩, ⟨[.op 4 0, .old 1], _, [], Lr 5, [10]⟩, ⟨[.op 4 0, .old 0], _, [], Lr 5, [11]⟩, ⟨[.op 4 0, .op 5 0, .op 6 0], _, [], Lr 7, [12]⟩, ⟨[.op 4 0, .op 7 0], _, [], Lr 8, [13]⟩, ⟨[.op 4 0, .op 8 0], _, [], Lr 9, [14]⟩, ⟨[.op 9 0], _, [], Lr 10, [4]⟩]) (F := [.op 10 0]) hst hb Zb
   (o_p rfl (Za rfl rfl u_0) <| o_p rfl (Za rfl rfl u_0) <| o_p rfl (Zp Zzx (Zjb _ _ h2) rfl rfl (.cons u_0 (.cons u_1 .nil))) <| o_p rfl (Zcn rfl rfl u_0) <| o_p rfl (Za rfl rfl u_0) <| o_g (g_t rfl rfl rfl (fun hG => Za rfl rfl u_0)) <| o_g (g_t rfl rfl rfl (fun hG => Za rfl rfl u_0)) <| o_g (g_t rfl rfl rfl (fun hG => Zp Zzx (Zjb _ _ (Zbq h4 hG)) rfl rfl (.cons (Opd.gd hG u_0) (.cons (Opd.gd hG u_1) .nil)))) <| o_g (g_t rfl rfl rfl (fun hG => Zcn rfl rfl (Opd.gd hG u_0))) <| o_p rfl (Zbj rfl rfl u_0 (fun hz => (Opd.gd hz u_1))) <| o_p rfl (Zc rfl rfl u_0) <| o_n) (by kernel_rfl) (fun a g hst hb => ?_)
 refine wp_ret ?_
 obtain rfl := Option.some.inj H0
 exact Z3 rfl hst hb (Zm (s := 4)) (hst.at 0 rfl)
theorem Zli (a0 : Nat) {r : Bool} (h : Zf6 a0 = some r) : FnOk Tryd.prog 87 [(pFlt a0)] (Zbd r) := by
 have H0 := h
 unfold Zf6 at H0
 clear h
 refine Zbu (N := 5) Tryd.func87 rfl rfl (Nat.le_of_ble_eq_true rfl) rfl rfl (fun a g0 hst hb => ?_)
 refine r_s (T := [⟨[], _, [], [], [2]⟩]) (F := [.old 0]) hst hb Zb
   (o_p rfl (Zc rfl rfl c_b) <| o_n) (by kernel_rfl) (fun a g hst hb => ?_)
 obtain ⟨r1, h2, H0⟩ := Zh H0
 refine r_s (T := [⟨[.old 0], _, [], [], [3]⟩, ⟨[.op 0 0], _, [], [0], [4]⟩, ⟨[.op 1 0], _, [], [0, 1], [2]⟩]) (F := [.op 2 0]) hst hb Zb
   (o_p rfl (Za rfl rfl u_0) <| o_p rfl (Zp Z22 (Zlj _ _ h2) rfl rfl (.cons u_0 (.cons c_f .nil))) <| o_p rfl (Zc rfl rfl u_0) <| o_n) (by kernel_rfl) (fun a g hst hb => ?_)
 refine wp_ret ?_
 obtain rfl := Option.some.inj H0
 exact Z3 rfl hst hb (Zm (s := 2)) (hst.at 0 rfl)
theorem Zo5 (a0 : Zd) (a1 : ByteArray) {r : Bool} (h : Zhl a0 a1 = some r) : FnOk Tryd.prog 56 [(Zi.pd a0), (pStr a1)] (Zbd r) := by
 have H0 := h
 unfold Zhl at H0
 clear h
 refine Zbu (N := 106) Tryd.func56 rfl rfl (Nat.le_of_ble_eq_true rfl) rfl rfl (fun a g0 hst hb => ?_)
 refine r_s (T := [⟨[.old 0], _, [], [], [2]⟩, ⟨[], _, [], [], [4]⟩]) (F := [.old 1, .op 0 0]) hst hb Zb
   (o_p rfl (Zbl rfl rfl u_0) <| o_p rfl (Zc rfl rfl c_b) <| o_n) (by kernel_rfl) (fun a g hst hb => ?_)
 refine r_s (T := [⟨[], _, [], [], [5]⟩, ⟨[], _, [], [0], [6]⟩, ⟨[], _, [], [0, 1], [7]⟩, ⟨[], _, [], [0, 1, 2], [8]⟩, ⟨[], _, [], Lr 4, [9]⟩]) (F := [.old 0, .old 1, .op 0 0, .op 1 0, .op 2 0, .op 3 0, .op 4 0]) hst hb Zb
   (o_p rfl (Zc rfl rfl c_b) <| o_p rfl (Zc rfl rfl c_b) <| o_p rfl (Zc rfl rfl c_b) <| o_p rfl (Zc rfl rfl c_b) <| o_p rfl (Zc rfl rfl c_b) <| o_n) (by kernel_rfl) (fun a g hst hb => ?_)
 refine wp_seq ?_
 refine r_s (T := [⟨[], _, [], [], [10]⟩]) (F := [.old 0, .old 1, .old 2, .old 3, .old 4, .old 5, .old 6, .op 0 0]) hst hb Zb
   (o_p rfl (Zc rfl rfl c_i) <| o_n) (by kernel_rfl) (fun a g hst hb => ?_)
 obtain ⟨z23, hz1, H0⟩ := Zh H0
 refine Zc0 (fun a w => ∃ (y18 : Bool) (y19 : Bool) (y20 : Bool) (y21 : Bool) (y22 : Bool) (g : G), w = g.w ∧ St 106 [(2, (Zi.ptr a0)), (5, (Zbd y18)), (6, (Zbd y19)), (7, (Zbd y20)), (8, (Zbd y21)), (9, (Zbd y22))] a g ∧ Base g0 g ∧ (y18, y19, y20, y21, y22) = z23) ?_ ?_
 · rintro a w ⟨y18, y19, y20, y21, y22, g, rfl, hst, hb, rfl⟩
   refine Zu ?_
   refine wp_seq ?_
   refine r_s (T := ⟨[.old 1], _, [], [], [52]⟩ :: ⟨[.op 0 0], _, [], [0], [53]⟩ :: ⟨[.op 1 0], _, [], [0, 1], [54]⟩ :: ⟨[.op 2 0, .old 0], _, [], [0, 1, 2], [55]⟩ :: ⟨[.op 2 0, .op 3 0], _, [], Lr 4, [56]⟩ :: ⟨[.op 2 0, .op 4 0], _, [], Lr 5, [57]⟩ :: ⟨[.op 2 0, .op 5 0], _, [], Lr 6, [58]⟩ :: ⟨[.op 6 0], _, [], Lr 7, [59]⟩ :: ⟨[.op 7 0, .old 2], _, [], Lr 8, [60]⟩ :: ⟨[.op 7 0, .op 8 0], _, [], Lr 9, [61]⟩ :: ⟨[.op 7 0, .op 9 0], _, [], Lr 10, [62]⟩ :: ⟨[.op 10 0, .old 0], _, [], Lr 11, [63]⟩ :: ⟨[.op 10 0, .op 11 0], _, [], Lr 12, [64]⟩ :: ⟨[.op 10 0, .op 12 0], _, [], Lr 13, [65]⟩ :: ⟨[.op 7 0, .op 10 0, .op 13 0], _, [], Lr 14, [66]⟩ :: ⟨[.op 7 0, .op 14 0], _, [], Lr 15, [67]⟩ :: ⟨[.op 15 0], _, [], Lr 16, [68]⟩ :: ⟨[.op 16 0, .old 3], _, [], Lr 17, [69]⟩ :: ⟨[.op 16 0, .op 17 0], _, [], Lr 18, [70]⟩ :: ⟨[.op 16 0, .op 18 0], _, [], Lr 19, [71]⟩ :: ⟨[.op 19 0, .old 0], _, [], Lr 20, [72]⟩ :: ⟨[.op 19 0, .op 20 0], _, [], Lr 21, [73]⟩ :: ⟨[.op 19 0, .op 21 0], _, [], Lr 22, [74]⟩ :: ⟨[.op 16 0, .op 19 0, .op 22 0], _, [], Lr 23, [75]⟩ :: ⟨[.op 16 0, .op 23 0], _, [], Lr 24, [76]⟩ :: ⟨[.op 24 0], _, [], Lr 25, [77]⟩ :: ⟨[.op 25 0, .old 3], _, [], Lr 26, [78]⟩ :: ⟨[.op 25 0, .op 26 0], _, [], Lr 27, [79]⟩ :: ⟨[.op 25 0, .op 27 0], _, [], Lr 28, [80]⟩ :: ⟨[.op 28 0, .old 0], _, [], Lr 29, [81]⟩ :: ⟨[.op 28 0, .op 29 0], _, [], Lr 30, [82]⟩ :: ⟨[.op 28 0, .op 30 0], _, [], Lr 31, [83]⟩ :: ⟨[.op 25 0, .op 28 0, .op 31 0], _, [], Lr 32, [84]⟩ :: ⟨[.op 25 0, .op 32 0], _, [], Lr 33, [85]⟩ :: []) (F := [.old 0, .old 4, .old 5, .op 33 0]) hst hb Zb
     (o_p rfl (Za rfl rfl u_0) <| o_p rfl (Zcn rfl rfl u_0) <| o_p rfl (Za rfl rfl u_0) <| o_g (g_t rfl rfl rfl (fun hG => Ze Zjs rfl rfl u_0)) <| o_g (g_t rfl rfl rfl (fun hG => Zf ty_9 rfl rfl (Opd.gd hG u_0))) <| o_g (g_t rfl rfl rfl (fun hG => Z0i rfl rfl (Opd.gd hG u_0) c_s)) <| o_p rfl (Zbj rfl rfl u_0 (fun hz => (Opd.gd hz u_1))) <| o_p rfl (Za rfl rfl u_0) <| o_g (g_f rfl rfl rfl (fun hG => Za rfl rfl u_0)) <| o_g (g_f rfl rfl rfl (fun hG => Zcn rfl rfl (Opd.gd hG u_0))) <| o_g (g_f rfl rfl rfl (fun hG => Za rfl rfl (Opd.gd hG u_0))) <| o_g (g_ti rfl rfl rfl (fun hG => Ze Zea rfl rfl u_0)) <| o_g (g_ti rfl rfl rfl (fun hG => Zf ty_2 rfl rfl (Opd.gd hG u_0))) <| o_g (g_ti rfl rfl rfl (fun hG => Zer rfl rfl (Opd.gd hG u_0) c_i)) <| o_g (g_f rfl rfl rfl (fun hG => Zbj rfl rfl (Opd.gd hG u_0) (fun hz => (Opd.gd (bA hG hz) u_1)))) <| o_p rfl (Zbz rfl rfl u_0 (fun hz => (Opd.gd (bNF hz) u_1))) <| o_p rfl (Za rfl rfl u_0) <| o_g (g_f rfl rfl rfl (fun hG => Za rfl rfl u_0)) <| o_g (g_f rfl rfl rfl (fun hG => Zcn rfl rfl (Opd.gd hG u_0))) <| o_g (g_f rfl rfl rfl (fun hG => Za rfl rfl (Opd.gd hG u_0))) <| o_g (g_ti rfl rfl rfl (fun hG => Ze Zj1 rfl rfl u_0)) <| o_g (g_ti rfl rfl rfl (fun hG => Zf ty_2 rfl rfl (Opd.gd hG u_0))) <| o_g (g_ti rfl rfl rfl (fun hG => Zer rfl rfl (Opd.gd hG u_0) c_i)) <| o_g (g_f rfl rfl rfl (fun hG => Zbj rfl rfl (Opd.gd hG u_0) (fun hz => (Opd.gd (bA hG hz) u_1)))) <| o_p rfl (Zbz rfl rfl u_0 (fun hz => (Opd.gd (bNF hz) u_1))) <| o_p rfl (Za rfl rfl u_0) <| o_g (g_f rfl rfl rfl (fun hG => Za rfl rfl u_0)) <| o_g (g_f rfl rfl rfl (fun hG => Zcn rfl rfl (Opd.gd hG u_0))) <| o_g (g_f rfl rfl rfl (fun hG => Za rfl rfl (Opd.gd hG u_0))) <| o_g (g_ti rfl rfl rfl (fun hG => Ze Zj3 rfl rfl u_0)) <| o_g (g_ti rfl rfl rfl (fun hG => Zf ty_2 rfl rfl (Opd.gd hG u_0))) <| o_g (g_ti rfl rfl rfl (fun hG => Zer rfl rfl (Opd.gd hG u_0) c_i)) <| o_g (g_f rfl rfl rfl (fun hG => Zbj rfl rfl (Opd.gd hG u_0) (fun hz => (Opd.gd (bA hG hz) u_1)))) <| o_p rfl (Zbz rfl rfl u_0 (fun hz => (Opd.gd (bNF hz) u_1))) <| o_n) (by kernel_rfl) (fun a g hst hb => ?_)
   refine wp_cond_split (hst.bool 3 rfl) (fun hc24 => ?_) (fun hc24 => ?_)
   · replace H0 := Z0 hc24 H0
     refine r_s (L := []) (T := [⟨[], _, [], [], [4]⟩]) (F := [.op 0 0]) (hst.pick [] rfl) hb Zb
       (o_p rfl (Zc rfl rfl c_b) <| o_n) (by kernel_rfl) (fun a g hst hb => ?_)
     refine wp_ret ?_
     refine Zn ?_
     obtain rfl := Option.some.inj H0
     exact Z3 rfl hst hb (Zm (s := 4)) (hst.at 0 rfl)
   · replace H0 := Zz hc24 H0
     refine wp_skip ?_
     refine Zu ?_
     obtain ⟨r25, h26, H0⟩ := Zh H0
     refine r_s (L := [(2, _), (8, _), (9, _)]) (T := ⟨[.old 1], _, [], [], [86]⟩ :: ⟨[.op 0 0], _, [], [0], [87]⟩ :: ⟨[.op 1 0, .old 0], _, [], [0, 1], [88]⟩ :: ⟨[.op 1 0, .op 2 0], _, [], [0, 1, 2], [89]⟩ :: ⟨[.op 1 0, .op 3 0], _, [], Lr 4, [90]⟩ :: ⟨[.op 1 0, .op 4 0], _, [], Lr 5, [91]⟩ :: ⟨[.op 5 0], _, [], Lr 6, [92]⟩ :: ⟨[.op 6 0, .old 2], _, [], Lr 7, [93]⟩ :: ⟨[.op 6 0, .op 7 0], _, [], Lr 8, [94]⟩ :: ⟨[.op 8 0, .old 0], _, [], Lr 9, [95]⟩ :: ⟨[.op 8 0, .op 9 0], _, [], Lr 10, [96]⟩ :: ⟨[.op 8 0, .op 10 0], _, [], Lr 11, [97]⟩ :: ⟨[.op 8 0, .op 11 0], _, [], Lr 12, [98]⟩ :: ⟨[.op 12 0, .old 0], _, [], Lr 13, [99]⟩ :: ⟨[.op 12 0, .op 13 0], _, [], Lr 14, [100]⟩ :: ⟨[.op 12 0, .op 14 0], _, [], Lr 15, [101]⟩ :: ⟨[.op 12 0, .op 15 0], _, [], Lr 16, [102]⟩ :: ⟨[.op 8 0, .op 12 0, .op 16 0], _, [], Lr 17, [103]⟩ :: ⟨[.op 6 0, .op 8 0, .op 17 0], _, [], Lr 18, [104]⟩ :: ⟨[.op 6 0, .op 18 0], _, [], Lr 19, [105]⟩ :: ⟨[.op 19 0], _, [], Lr 20, [4]⟩ :: []) (F := [.op 20 0]) (hst.pick [0, 1, 2] rfl) hb Zb
       (o_p rfl (Za rfl rfl u_0) <| o_p rfl (Za rfl rfl u_0) <| o_g (g_f rfl rfl rfl (fun hG => Ze Zkx rfl rfl u_0)) <| o_g (g_f rfl rfl rfl (fun hG => Zf Ze4 rfl rfl (Opd.gd hG u_0))) <| o_g (g_f rfl rfl rfl (fun hG => Zp Z27 (Zli _ (Zbq h26 hG)) rfl rfl (.cons (Opd.gd hG u_0) .nil))) <| o_p rfl (Zbz rfl rfl u_0 (fun hz => (Opd.gd (bNF hz) u_1))) <| o_p rfl (Za rfl rfl u_0) <| o_g (g_t rfl rfl rfl (fun hG => Za rfl rfl u_0)) <| o_g (g_t rfl rfl rfl (fun hG => Za rfl rfl (Opd.gd hG u_0))) <| o_g (g_fi rfl rfl rfl (fun hG => Ze Zhp rfl rfl u_0)) <| o_g (g_fi rfl rfl rfl (fun hG => Zf ty_3 rfl rfl (Opd.gd hG u_0))) <| o_g (g_fi rfl rfl rfl (fun hG => Zbw rfl rfl (Opd.gd hG u_0) c_i)) <| o_g (g_fi rfl rfl rfl (fun hG => Za rfl rfl (Opd.gd hG u_0))) <| o_g (g_ti rfl rfl rfl (fun hG => Ze Zdc rfl rfl u_0)) <| o_g (g_ti rfl rfl rfl (fun hG => Zf Zev rfl rfl (Opd.gd hG u_0))) <| o_g (g_ti rfl rfl rfl (fun hG => Zb3 Tryd.underlying43 rfl rfl (Opd.gd hG u_0))) <| o_g (g_ti rfl rfl rfl (fun hG => Zbw rfl rfl (Opd.gd hG u_0) c_i)) <| o_g (g_fi rfl rfl rfl (fun hG => Zbj rfl rfl (Opd.gd hG u_0) (fun hz => (Opd.gd (bA hG hz) u_1)))) <| o_g (g_t rfl rfl rfl (fun hG => Zbz rfl rfl (Opd.gd hG u_0) (fun hz => (Opd.gd (bA hG (bNF hz)) u_1)))) <| o_p rfl (Zbj rfl rfl u_0 (fun hz => (Opd.gd hz u_1))) <| o_p rfl (Zc rfl rfl u_0) <| o_n) (by kernel_rfl) (fun a g hst hb => ?_)
     refine wp_ret ?_
     obtain rfl := Option.some.inj H0
     exact Z3 rfl hst hb (Zm (s := 4)) (hst.at 0 rfl)
 · refine wp_block ?_
   refine wp_loop_ghost (fun n a w => ∃ (x1 : Bool) (x2 : Bool) (x3 : Bool) (x4 : Bool) (x5 : Bool) (x6 : Int) (g : G), w = g.w ∧ St 106 [(1, (pStr a1)), (2, (Zi.ptr a0)), (5, (Zbd x1)), (6, (Zbd x2)), (7, (Zbd x3)), (8, (Zbd x4)), (9, (Zbd x5)), (10, (pInt .i64 x6))] a g ∧ Base g0 g ∧ Zcm a1 n x1 x2 x3 x4 x5 x6 = some z23) (Int.toNat ((a1.size : Int) - (0 : Int)) + 1) ⟨false, false, false, false, false, (0 : Int), g, rfl, (hst.pick [0, 1, 2, 3, 4, 5, 6, 7] rfl), hb, hz1⟩ (fun n a w hI => ?_)
   obtain ⟨x1, x2, x3, x4, x5, x6, g, rfl, hst, hb, H1⟩ := hI
   cases n with
   | zero => exact absurd H1 (by simp [Zcm])
   | succ n =>
     rw [Zcm] at H1
     refine wp_seq ?_
     refine r_s (T := [⟨[.old 7], _, [], [], [11]⟩, ⟨[.old 0], _, [], [], [12]⟩, ⟨[.op 1 0], _, [], [1], [13]⟩, ⟨[.op 0 0, .op 2 0], _, [], [0, 1, 2], [14]⟩]) (F := [.old 0, .old 1, .old 2, .old 3, .old 4, .old 5, .old 6, .old 7, .op 3 0]) hst hb Zb
       (o_p rfl (Za rfl rfl u_0) <| o_p rfl (Za rfl rfl u_0) <| o_p rfl (Zft Tryd.underlying9 rfl rfl u_0) <| o_p rfl (Zc2 rfl rfl u_0 u_1) <| o_n) (by kernel_rfl) (fun a g hst hb => ?_)
     refine wp_cond_split (hst.bool 8 rfl) (fun hc7 => ?_) (fun hc7 => ?_)
     · replace H1 := Z0 hc7 H1
       refine wp_skip ?_
       refine Zu ?_
       refine wp_seq ?_
       refine wp_block ?_
       obtain ⟨b8, h9, H1⟩ := Zh H1
       refine r_s (L := [(1, _), (2, _), (5, _), (6, _), (7, _), (8, _), (9, _), (10, _)]) (T := [⟨[.old 2], _, [], [], [17]⟩, ⟨[.op 0 0], _, [], [0], [18]⟩, ⟨[.op 1 0, .old 0], _, [], [0, 1], [19]⟩, ⟨[.op 1 0, .old 7], _, [], [0, 1], [20]⟩, ⟨[.op 1 0, .op 2 0, .op 3 0], _, [], Lr 4, [21]⟩, ⟨[.op 1 0, .op 4 0], _, [], Lr 5, [22]⟩, ⟨[.op 1 0, .op 5 0], _, [], Lr 6, [23]⟩, ⟨[.op 6 0], _, [], Lr 7, [5]⟩]) (F := [.old 0, .old 1, .op 7 0, .old 3, .old 4, .old 5, .old 6, .old 7]) (hst.pick [0, 1, 2, 3, 4, 5, 6, 7] rfl) hb Zb
         (o_p rfl (Za rfl rfl u_0) <| o_p rfl (Za rfl rfl u_0) <| o_g (g_f rfl rfl rfl (fun hG => Za rfl rfl u_0)) <| o_g (g_f rfl rfl rfl (fun hG => Za rfl rfl u_0)) <| o_g (g_f rfl rfl rfl (fun hG => Zmp Tryd.underlying9 rfl rfl (Opd.gd hG u_0) (Opd.gd hG u_1) (Zbq h9 hG))) <| o_g (g_f rfl rfl rfl (fun hG => Zbw rfl rfl (Opd.gd hG u_0) c_i)) <| o_p rfl (Zbz rfl rfl u_0 (fun hz => (Opd.gd (bNF hz) u_1))) <| o_p rfl (Zc rfl rfl u_0) <| o_n) (by kernel_rfl) (fun a g hst hb => ?_)
       obtain ⟨b10, h11, H1⟩ := Zh H1
       refine r_s (T := [⟨[.old 3], _, [], [], [24]⟩, ⟨[.op 0 0], _, [], [0], [25]⟩, ⟨[.op 1 0, .old 0], _, [], [0, 1], [26]⟩, ⟨[.op 1 0, .old 7], _, [], [0, 1], [27]⟩, ⟨[.op 1 0, .op 2 0, .op 3 0], _, [], Lr 4, [28]⟩, ⟨[.op 1 0, .op 4 0], _, [], Lr 5, [29]⟩, ⟨[.op 1 0, .op 5 0], _, [], Lr 6, [30]⟩, ⟨[.op 6 0], _, [], Lr 7, [6]⟩]) (F := [.old 0, .old 1, .old 2, .op 7 0, .old 4, .old 5, .old 6, .old 7]) hst hb Zb
         (o_p rfl (Za rfl rfl u_0) <| o_p rfl (Za rfl rfl u_0) <| o_g (g_f rfl rfl rfl (fun hG => Za rfl rfl u_0)) <| o_g (g_f rfl rfl rfl (fun hG => Za rfl rfl u_0)) <| o_g (g_f rfl rfl rfl (fun hG => Zmp Tryd.underlying9 rfl rfl (Opd.gd hG u_0) (Opd.gd hG u_1) (Zbq h11 hG))) <| o_g (g_f rfl rfl rfl (fun hG => Zbw rfl rfl (Opd.gd hG u_0) c_i)) <| o_p rfl (Zbz rfl rfl u_0 (fun hz => (Opd.gd (bNF hz) u_1))) <| o_p rfl (Zc rfl rfl u_0) <| o_n) (by kernel_rfl) (fun a g hst hb => ?_)
       obtain ⟨b12, h13, H1⟩ := Zh H1
       refine r_s (T := [⟨[.old 4], _, [], [], [31]⟩, ⟨[.op 0 0], _, [], [0], [32]⟩, ⟨[.op 1 0, .old 0], _, [], [0, 1], [33]⟩, ⟨[.op 1 0, .old 7], _, [], [0, 1], [34]⟩, ⟨[.op 1 0, .op 2 0, .op 3 0], _, [], Lr 4, [35]⟩, ⟨[.op 1 0, .op 4 0], _, [], Lr 5, [36]⟩, ⟨[.op 1 0, .op 5 0], _, [], Lr 6, [37]⟩, ⟨[.op 6 0], _, [], Lr 7, [7]⟩]) (F := [.old 0, .old 1, .old 2, .old 3, .op 7 0, .old 5, .old 6, .old 7]) hst hb Zb
         (o_p rfl (Za rfl rfl u_0) <| o_p rfl (Za rfl rfl u_0) <| o_g (g_f rfl rfl rfl (fun hG => Za rfl rfl u_0)) <| o_g (g_f rfl rfl rfl (fun hG => Za rfl rfl u_0)) <| o_g (g_f rfl rfl rfl (fun hG => Zmp Tryd.underlying9 rfl rfl (Opd.gd hG u_0) (Opd.gd hG u_1) (Zbq h13 hG))) <| o_g (g_f rfl rfl rfl (fun hG => Zbw rfl rfl (Opd.gd hG u_0) c_i)) <| o_p rfl (Zbz rfl rfl u_0 (fun hz => (Opd.gd (bNF hz) u_1))) <| o_p rfl (Zc rfl rfl u_0) <| o_n) (by kernel_rfl) (fun a g hst hb => ?_)
       obtain ⟨b14, h15, H1⟩ := Zh H1
       refine r_s (T := [⟨[.old 5], _, [], [], [38]⟩, ⟨[.op 0 0], _, [], [0], [39]⟩, ⟨[.op 1 0, .old 0], _, [], [0, 1], [40]⟩, ⟨[.op 1 0, .old 7], _, [], [0, 1], [41]⟩, ⟨[.op 1 0, .op 2 0, .op 3 0], _, [], Lr 4, [42]⟩, ⟨[.op 1 0, .op 4 0], _, [], Lr 5, [43]⟩, ⟨[.op 1 0, .op 5 0], _, [], Lr 6, [44]⟩, ⟨[.op 6 0], _, [], Lr 7, [8]⟩]) (F := [.old 0, .old 1, .old 2, .old 3, .old 4, .op 7 0, .old 6, .old 7]) hst hb Zb
         (o_p rfl (Za rfl rfl u_0) <| o_p rfl (Za rfl rfl u_0) <| o_g (g_f rfl rfl rfl (fun hG => Za rfl rfl u_0)) <| o_g (g_f rfl rfl rfl (fun hG => Za rfl rfl u_0)) <| o_g (g_f rfl rfl rfl (fun hG => Zmp Tryd.underlying9 rfl rfl (Opd.gd hG u_0) (Opd.gd hG u_1) (Zbq h15 hG))) <| o_g (g_f rfl rfl rfl (fun hG => Zbw rfl rfl (Opd.gd hG u_0) c_i)) <| o_p rfl (Zbz rfl rfl u_0 (fun hz => (Opd.gd (bNF hz) u_1))) <| o_p rfl (Zc rfl rfl u_0) <| o_n) (by kernel_rfl) (fun a g hst hb => ?_)
       obtain ⟨b16, h17, H1⟩ := Zh H1
       refine r_g (T := [⟨[.old 6], _, [], [], [45]⟩, ⟨[.op 0 0], _, [], [0], [46]⟩, ⟨[.op 1 0, .old 0], _, [], [0, 1], [47]⟩, ⟨[.op 1 0, .old 7], _, [], [0, 1], [48]⟩, ⟨[.op 1 0, .op 2 0, .op 3 0], _, [], Lr 4, [49]⟩, ⟨[.op 1 0, .op 4 0], _, [], Lr 5, [50]⟩, ⟨[.op 1 0, .op 5 0], _, [], Lr 6, [51]⟩, ⟨[.op 6 0], _, [], Lr 7, [9]⟩]) (F := [.old 0, .old 1, .old 2, .old 3, .old 4, .old 5, .op 7 0, .old 7]) hst hb Zb
         (o_p rfl (Za rfl rfl u_0) <| o_p rfl (Za rfl rfl u_0) <| o_g (g_f rfl rfl rfl (fun hG => Za rfl rfl u_0)) <| o_g (g_f rfl rfl rfl (fun hG => Za rfl rfl u_0)) <| o_g (g_f rfl rfl rfl (fun hG => Zmp Tryd.underlying9 rfl rfl (Opd.gd hG u_0) (Opd.gd hG u_1) (Zbq h17 hG))) <| o_g (g_f rfl rfl rfl (fun hG => Zbw rfl rfl (Opd.gd hG u_0) c_i)) <| o_p rfl (Zbz rfl rfl u_0 (fun hz => (Opd.gd (bNF hz) u_1))) <| o_p rfl (Zc rfl rfl u_0) <| o_n) (by kernel_rfl) (fun a g hst hb => ?_)
       refine Zbt ?_
       refine Zu ?_
       refine r_g (T := [⟨[.old 7], _, [], [], [15]⟩, ⟨[.op 0 0], _, [], [0], [16]⟩, ⟨[.op 1 0], _, [], [0, 1], [10]⟩]) (F := [.old 0, .old 1, .old 2, .old 3, .old 4, .old 5, .old 6, .op 2 0]) hst hb Zb
         (o_p rfl (Za rfl rfl u_0) <| o_p rfl (Zce rfl rfl u_0 c_i rfl) <| o_p rfl (Zc rfl rfl u_0) <| o_n) (by kernel_rfl) (fun a g hst hb => ?_)
       exact ⟨n, Nat.lt_succ_self _, (x1 || (b8 == (116 : Int))), (x2 || (b10 == (110 : Int))), (x3 || (b12 == (98 : Int))), (x4 || (b14 == (114 : Int))), (x5 || (b16 == (108 : Int))), (IntKind.i64.wrap (x6 + (1 : Int))), g, rfl, (hst.pick [0, 1, 2, 3, 4, 5, 6, 7] rfl), hb, H1⟩
     · replace H1 := Zz hc7 H1
       refine wp_exit ?_
       refine Zca ?_
       refine Zca ?_
       refine Zcz ?_
       exact ⟨x1, x2, x3, x4, x5, g, rfl, (hst.pick [1, 2, 3, 4, 5, 6] rfl), hb, Option.some.inj H1⟩
theorem Znw (a0 : Int) {r : ByteArray} (h : Zhv a0 = some r) : FnOk Tryd.prog 57 [(pInt .i64 a0)] (pStr r) := by
 have H0 := h
 unfold Zhv at H0
 clear h
 refine Zbu (N := 15) Tryd.func57 rfl rfl (Nat.le_of_ble_eq_true rfl) rfl rfl (fun a g0 hst hb => ?_)
 refine r_s (T := [⟨[], _, [], [], [2]⟩]) (F := [.old 0]) hst hb Zb
   (o_p rfl (Zc rfl rfl c_s) <| o_n) (by kernel_rfl) (fun a g hst hb => ?_)
 refine r_s (T := [⟨[], _, [], [], [4]⟩, ⟨[.op 0 0], _, [], [0], [3]⟩]) (F := [.old 0, .op 1 0]) hst hb Zb
   (o_p rfl (Zjl Z6f (xs := [.const (.string ⟨#[]⟩), .const (.string ⟨#[116]⟩), .const (.string ⟨#[110]⟩), .const (.string ⟨#[110]⟩), .const (.string ⟨#[110, 98]⟩), .const (.string ⟨#[114]⟩), .const (.string ⟨#[114]⟩), .const (.string ⟨#[114]⟩), .const (.string ⟨#[108]⟩), .const (.string ⟨#[108]⟩)]) (.cons c_s (.cons c_s (.cons c_s (.cons c_s (.cons c_s (.cons c_s (.cons c_s (.cons c_s (.cons c_s (.cons c_s .nil)))))))))) (by decide) rfl rfl) <| o_p rfl (Zc rfl rfl u_0) <| o_n) (by kernel_rfl) (fun a g hst hb => ?_)
 refine wp_seq ?_
 refine r_s (T := [⟨[.old 0], _, [], [], [5]⟩, ⟨[.op 0 0], _, [], [0], [6]⟩, ⟨[.op 1 0], _, [], [0, 1], [7]⟩, ⟨[.op 2 0, .old 0], _, [], [0, 1, 2], [8]⟩, ⟨[.op 2 0, .op 3 0], _, [], Lr 4, [9]⟩, ⟨[.op 2 0, .op 4 0], _, [], Lr 5, [10]⟩]) (F := [.old 0, .old 1, .op 5 0]) hst hb Zb
   (o_p rfl (Za rfl rfl u_0) <| o_p rfl (Zc2 rfl rfl u_0 c_i) <| o_p rfl (Za rfl rfl u_0) <| o_g (g_f rfl rfl rfl (fun hG => Za rfl rfl u_0)) <| o_g (g_f rfl rfl rfl (fun hG => Zcr rfl rfl (Opd.gd hG u_0) c_i)) <| o_p rfl (Zbz rfl rfl u_0 (fun hz => (Opd.gd (bNF hz) u_1))) <| o_n) (by kernel_rfl) (fun a g hst hb => ?_)
 refine wp_cond_split (hst.bool 2 rfl) (fun hc1 => ?_) (fun hc1 => ?_)
 · replace H0 := Z0 hc1 H0
   refine r_s (L := []) (T := [⟨[], _, [], [], [2]⟩]) (F := [.op 0 0]) (hst.pick [] rfl) hb Zb
     (o_p rfl (Zc rfl rfl c_s) <| o_n) (by kernel_rfl) (fun a g hst hb => ?_)
   refine wp_ret ?_
   refine Zn ?_
   obtain rfl := Option.some.inj H0
   exact Z3 rfl hst hb (Zm (s := 2)) (hst.at 0 rfl)
 · replace H0 := Zz hc1 H0
   refine wp_skip ?_
   refine Zu ?_
   obtain ⟨e2, h3, H0⟩ := Zh H0
   refine r_s (L := [(0, _), (3, _)]) (T := [⟨[.old 1], _, [], [], [11]⟩, ⟨[.old 0], _, [], [], [12]⟩, ⟨[.op 0 0, .op 1 0], _, [], [0, 1], [13]⟩, ⟨[.op 2 0], _, [], [0, 1, 2], [14]⟩, ⟨[.op 3 0], _, [], Lr 4, [2]⟩]) (F := [.op 4 0]) (hst.pick [0, 1] rfl) hb Zb
     (o_p rfl (Za rfl rfl u_0) <| o_p rfl (Za rfl rfl u_0) <| o_p rfl (Zbv Tryd.underlying135 sz_9 rfl rfl u_0 u_1 h3) <| o_p rfl (Zf ty_9 rfl rfl u_0) <| o_p rfl (Zc rfl rfl u_0) <| o_n) (by kernel_rfl) (fun a g hst hb => ?_)
   refine wp_ret ?_
   obtain rfl := Option.some.inj H0
   exact Z3 rfl hst hb (Zm (s := 2)) (hst.at 0 rfl)
theorem Zk1 (a0 : Nat) {r : Bool} (h : Zej a0 = some r) : FnOk Tryd.prog 58 [(pFlt a0)] (Zbd r) := by
 have H0 := h
 unfold Zej at H0
 clear h
 refine Zbu (N := 11) Tryd.func58 rfl rfl (Nat.le_of_ble_eq_true rfl) rfl rfl (fun a g0 hst hb => ?_)
 refine r_s (T := [⟨[], _, [], [], [2]⟩]) (F := [.old 0]) hst hb Zb
   (o_p rfl (Zc rfl rfl c_b) <| o_n) (by kernel_rfl) (fun a g hst hb => ?_)
 obtain ⟨r1, h2, H0⟩ := Zh H0
 refine r_s (T := [⟨[.old 0], _, [], [], [3]⟩, ⟨[.op 0 0], _, [], [0], [4]⟩, ⟨[.op 1 0], _, [], [0, 1], [5]⟩, ⟨[.op 2 0], _, [], [0, 1, 2], [6]⟩, ⟨[.op 3 0, .old 0], _, [], Lr 4, [7]⟩, ⟨[.op 3 0, .op 4 0], _, [], Lr 5, [8]⟩, ⟨[.op 3 0, .op 5 0], _, [], Lr 6, [9]⟩, ⟨[.op 3 0, .op 6 0], _, [], Lr 7, [10]⟩, ⟨[.op 7 0], _, [], Lr 8, [2]⟩]) (F := [.op 8 0]) hst hb Zb
   (o_p rfl (Za rfl rfl u_0) <| o_p rfl (Zp Zzy (Zja _ h2) rfl rfl (.cons u_0 .nil)) <| o_p rfl (Zcn rfl rfl u_0) <| o_p rfl (Za rfl rfl u_0) <| o_g (g_f rfl rfl rfl (fun hG => Za rfl rfl u_0)) <| o_g (g_f rfl rfl rfl (fun hG => Zp9 Zvc rfl rfl (Opd.gd hG u_0))) <| o_g (g_f rfl rfl rfl (fun hG => Zbw rfl rfl (Opd.gd hG u_0) c_i)) <| o_p rfl (Zbz rfl rfl u_0 (fun hz => (Opd.gd (bNF hz) u_1))) <| o_p rfl (Zc rfl rfl u_0) <| o_n) (by kernel_rfl) (fun a g hst hb => ?_)
 refine wp_ret ?_
 obtain rfl := Option.some.inj H0
 exact Z3 rfl hst hb (Zm (s := 2)) (hst.at 0 rfl)
theorem Zop (a0 : Zj) (a1 : Zj) {r : Bool} (h : Zey a0 a1 = some r) : FnOk Tryd.prog 89 [(Zy.pd a0), (Zy.pd a1)] (Zbd r) := by
 have H0 := h
 unfold Zey at H0
 clear h
 refine Zbu (N := 22) Tryd.func89 rfl rfl (Nat.le_of_ble_eq_true rfl) rfl rfl (fun a g0 hst hb => ?_)
 refine r_s (T := [⟨[.old 0], _, [], [], [2]⟩, ⟨[.old 1], _, [], [], [3]⟩, ⟨[], _, [], [], [4]⟩]) (F := [.op 0 0, .op 1 0]) hst hb Zb
   (o_p rfl (Zbl rfl rfl u_0) <| o_p rfl (Zbl rfl rfl u_0) <| o_p rfl (Zc rfl rfl c_b) <| o_n) (by kernel_rfl) (fun a g hst hb => ?_)
 refine wp_seq ?_
 obtain ⟨r1, h2, H0⟩ := Zh H0
 refine r_s (T := [⟨[.old 1], _, [], [], [5]⟩, ⟨[.op 0 0], _, [], [0], [6]⟩, ⟨[.old 0], _, [], [], [7]⟩, ⟨[.op 2 0], _, [], [2], [8]⟩, ⟨[.op 1 0, .op 3 0], _, [], Lr 4, [9]⟩]) (F := [.old 0, .old 1, .op 4 0]) hst hb Zb
   (o_p rfl (Ze Zgn rfl rfl u_0) <| o_p rfl (Zf Ze4 rfl rfl u_0) <| o_p rfl (Ze Zgn rfl rfl u_0) <| o_p rfl (Zf Ze4 rfl rfl u_0) <| o_p rfl (Zp Zzx (Zjb _ _ h2) rfl rfl (.cons u_0 (.cons u_1 .nil))) <| o_n) (by kernel_rfl) (fun a g hst hb => ?_)
 refine wp_cond_split (hst.bool 2 rfl) (fun hc3 => ?_) (fun hc3 => ?_)
 · replace H0 := Z0 hc3 H0
   refine r_s (L := []) (T := [⟨[], _, [], [], [4]⟩]) (F := [.op 0 0]) (hst.pick [] rfl) hb Zb
     (o_p rfl (Zc rfl rfl c_b) <| o_n) (by kernel_rfl) (fun a g hst hb => ?_)
   refine wp_ret ?_
   refine Zn ?_
   obtain rfl := Option.some.inj H0
   exact Z3 rfl hst hb (Zm (s := 4)) (hst.at 0 rfl)
 · replace H0 := Zz hc3 H0
   refine wp_skip ?_
   refine Zu ?_
   obtain ⟨r4, h5, H0⟩ := Zh H0
   refine r_s (L := [(2, _), (3, _)]) (T := ⟨[.old 0], _, [], [], [10]⟩ :: ⟨[.op 0 0], _, [], [0], [11]⟩ :: ⟨[.old 1], _, [], [], [12]⟩ :: ⟨[.op 2 0], _, [], [2], [13]⟩ :: ⟨[.op 1 0, .op 3 0], _, [], Lr 4, [14]⟩ :: ⟨[.op 4 0], _, [], Lr 5, [15]⟩ :: ⟨[.op 5 0, .old 0], _, [], Lr 6, [16]⟩ :: ⟨[.op 5 0, .op 6 0], _, [], Lr 7, [17]⟩ :: ⟨[.op 5 0, .old 1], _, [], Lr 6, [18]⟩ :: ⟨[.op 5 0, .op 8 0], _, [], [0, 1, 2, 3, 4, 5, 8], [19]⟩ :: ⟨[.op 5 0, .op 7 0, .op 9 0], _, [], Lr 10, [20]⟩ :: ⟨[.op 5 0, .op 10 0], _, [], Lr 11, [21]⟩ :: ⟨[.op 11 0], _, [], Lr 12, [4]⟩ :: []) (F := [.op 12 0]) (hst.pick [0, 1] rfl) hb Zb
     (o_p rfl (Ze Zgn rfl rfl u_0) <| o_p rfl (Zf Ze4 rfl rfl u_0) <| o_p rfl (Ze Zgn rfl rfl u_0) <| o_p rfl (Zf Ze4 rfl rfl u_0) <| o_p rfl (Zp Z22 (Zlj _ _ h5) rfl rfl (.cons u_0 (.cons u_1 .nil))) <| o_p rfl (Za rfl rfl u_0) <| o_g (g_t rfl rfl rfl (fun hG => Ze Zf2 rfl rfl u_0)) <| o_g (g_t rfl rfl rfl (fun hG => Zf ty_9 rfl rfl (Opd.gd hG u_0))) <| o_g (g_t rfl rfl rfl (fun hG => Ze Zf2 rfl rfl u_0)) <| o_g (g_t rfl rfl rfl (fun hG => Zf ty_9 rfl rfl (Opd.gd hG u_0))) <| o_g (g_t rfl rfl rfl (fun hG => Zl8 rfl rfl (Opd.gd hG u_0) (Opd.gd hG u_1))) <| o_p rfl (Zbj rfl rfl u_0 (fun hz => (Opd.gd hz u_1))) <| o_p rfl (Zc rfl rfl u_0) <| o_n) (by kernel_rfl) (fun a g hst hb => ?_)
   refine wp_ret ?_
   obtain rfl := Option.some.inj H0
   exact Z3 rfl hst hb (Zm (s := 4)) (hst.at 0 rfl)
theorem Zo4 (a0 : Int) (a1 : List Zj) (a2 : Int) {r : Int} (h : Zhj a0 a1 a2 = some r) : FnOk Tryd.prog 59 [(pInt .i64 a0), (Zy.sl.pd a1), (pInt .i64 a2)] (pInt .i64 r) := by
 have H0 := h
 unfold Zhj at H0
 clear h
 refine Zbu (N := 64) Tryd.func59 rfl rfl (Nat.le_of_ble_eq_true rfl) rfl rfl (fun a g0 hst hb => ?_)
 refine r_s (T := [⟨[], _, [], [], [6]⟩]) (F := [.old 0, .old 1, .old 2]) hst hb Zb
   (o_p rfl (Zc rfl rfl c_i) <| o_n) (by kernel_rfl) (fun a g hst hb => ?_)
 obtain ⟨e1, h2, H0⟩ := Zh H0
 refine r_s (T := [⟨[.old 1], _, [], [], [8]⟩, ⟨[.old 2], _, [], [], [9]⟩, ⟨[.op 0 0, .op 1 0], _, [], [0, 1], [10]⟩, ⟨[.op 2 0], _, [], [0, 1, 2], [11]⟩, ⟨[], [(7, (pBox Zy 7 (default : Zj)))], [8], [], [7]⟩, ⟨[.op 3 0, .op 4 0], _, [8], Lr 5, [7]⟩]) (F := [.old 0, .old 1, .old 2, .op 5 0]) hst hb Zb
   (o_p rfl (Za rfl rfl u_0) <| o_p rfl (Za rfl rfl u_0) <| o_p rfl (Zbv Tryd.underlying43 Zjc rfl rfl u_0 u_1 h2) <| o_p rfl (Zf Zfk rfl rfl u_0) <| o_p rfl (Zbb (zs := [.float .f64 0, .string ByteArray.empty]) (by kernel_rfl) (fun g => Zi8 g) rfl rfl) <| o_p rfl (Zby Zfk rfl rfl u_1 u_0) <| o_n) (by kernel_rfl) (fun a g hst hb => ?_)
 refine wp_seq ?_
 refine r_s (T := [⟨[.old 3], _, [], [], [12]⟩, ⟨[.op 0 0], _, [], [0], [13]⟩, ⟨[.op 1 0], _, [], [0, 1], [14]⟩, ⟨[.op 2 0], _, [], [0, 1, 2], [15]⟩]) (F := [.old 0, .old 1, .old 2, .old 3, .op 3 0]) hst hb Zb
   (o_p rfl (Ze Zf2 rfl rfl u_0) <| o_p rfl (Zf ty_9 rfl rfl u_0) <| o_p rfl (Zft Tryd.underlying9 rfl rfl u_0) <| o_p rfl (Zcr rfl rfl u_0 c_i) <| o_n) (by kernel_rfl) (fun a g hst hb => ?_)
 refine wp_cond_split (hst.bool 4 rfl) (fun hc3 => ?_) (fun hc3 => ?_)
 · replace H0 := Z0 hc3 H0
   refine r_s (L := []) (T := [⟨[], _, [], [], [6]⟩]) (F := [.op 0 0]) (hst.pick [] rfl) hb Zb
     (o_p rfl (Zc rfl rfl c_i) <| o_n) (by kernel_rfl) (fun a g hst hb => ?_)
   refine wp_ret ?_
   refine Zn ?_
   obtain rfl := Option.some.inj H0
   exact Z3 rfl hst hb (Zm (s := 6)) (hst.at 0 rfl)
 · replace H0 := Zz hc3 H0
   refine wp_skip ?_
   refine Zu ?_
   refine wp_seq ?_
   obtain ⟨r4, h5, H0⟩ := Zh H0; obtain ⟨r6, h7, H0⟩ := Zh H0
   refine r_s (L := [(0, _), (1, _), (2, _), (7, _)]) (T := ⟨[.old 0], _, [], [], [16]⟩ :: ⟨[.op 0 0], _, [], [0], [17]⟩ :: ⟨[.op 1 0], _, [], [0, 1], [18]⟩ :: ⟨[.op 2 0, .old 3], _, [], [0, 1, 2], [19]⟩ :: ⟨[.op 2 0, .op 3 0], _, [], Lr 4, [20]⟩ :: ⟨[.op 2 0, .op 4 0], _, [], Lr 5, [21]⟩ :: ⟨[.op 2 0, .op 5 0], _, [], Lr 6, [22]⟩ :: ⟨[.op 2 0, .op 6 0], _, [], Lr 7, [23]⟩ :: ⟨[.op 7 0], _, [], Lr 8, [24]⟩ :: ⟨[.op 8 0, .old 3], _, [], Lr 9, [25]⟩ :: ⟨[.op 8 0, .op 9 0], _, [], Lr 10, [26]⟩ :: ⟨[.op 8 0, .op 10 0], _, [], Lr 11, [27]⟩ :: ⟨[.op 8 0, .op 11 0], _, [], Lr 12, [28]⟩ :: ⟨[.op 8 0, .op 12 0], _, [], Lr 13, [29]⟩ :: []) (F := [.old 0, .old 1, .old 2, .old 3, .op 13 0]) (hst.pick [0, 1, 2, 3] rfl) hb Zb
     (o_p rfl (Za rfl rfl u_0) <| o_p rfl (Zbw rfl rfl u_0 c_i) <| o_p rfl (Za rfl rfl u_0) <| o_g (g_t rfl rfl rfl (fun hG => Ze Zgn rfl rfl u_0)) <| o_g (g_t rfl rfl rfl (fun hG => Zf Ze4 rfl rfl (Opd.gd hG u_0))) <| o_g (g_t rfl rfl rfl (fun hG => Zp Z27 (Zli _ (Zbq h5 hG)) rfl rfl (.cons (Opd.gd hG u_0) .nil))) <| o_g (g_t rfl rfl rfl (fun hG => Zcn rfl rfl (Opd.gd hG u_0))) <| o_p rfl (Zbj rfl rfl u_0 (fun hz => (Opd.gd hz u_1))) <| o_p rfl (Za rfl rfl u_0) <| o_g (g_f rfl rfl rfl (fun hG => Ze Zgn rfl rfl u_0)) <| o_g (g_f rfl rfl rfl (fun hG => Zf Ze4 rfl rfl (Opd.gd hG u_0))) <| o_g (g_f rfl rfl rfl (fun hG => Zp Z23 (Zk1 _ (Zbq h7 hG)) rfl rfl (.cons (Opd.gd hG u_0) .nil))) <| o_g (g_f rfl rfl rfl (fun hG => Zcn rfl rfl (Opd.gd hG u_0))) <| o_p rfl (Zbz rfl rfl u_0 (fun hz => (Opd.gd (bNF hz) u_1))) <| o_n) (by kernel_rfl) (fun a g hst hb => ?_)
   refine wp_cond_split (hst.bool 4 rfl) (fun hc8 => ?_) (fun hc8 => ?_)
   · replace H0 := Z0 hc8 H0
     refine r_s (L := []) (T := [⟨[], _, [], [], [6]⟩]) (F := [.op 0 0]) (hst.pick [] rfl) hb Zb
       (o_p rfl (Zc rfl rfl c_i) <| o_n) (by kernel_rfl) (fun a g hst hb => ?_)
     refine wp_ret ?_
     refine Zn ?_
     obtain rfl := Option.some.inj H0
     exact Z3 rfl hst hb (Zm (s := 6)) (hst.at 0 rfl)
   · replace H0 := Zz hc8 H0
     refine wp_skip ?_
     refine Zu ?_
     refine wp_seq ?_
     obtain ⟨e9, h10, H0⟩ := Zh H0
     refine r_s (L := [(0, _), (1, _), (2, _), (7, _)]) (T := ⟨[.old 2], _, [], [], [30]⟩ :: ⟨[.op 0 0], _, [], [0], [31]⟩ :: ⟨[.op 1 0], _, [], [0, 1], [32]⟩ :: ⟨[.op 2 0, .old 0], _, [], [0, 1, 2], [33]⟩ :: ⟨[.op 2 0, .op 3 0], _, [], Lr 4, [34]⟩ :: ⟨[.op 2 0, .op 4 0], _, [], Lr 5, [35]⟩ :: ⟨[.op 5 0], _, [], Lr 6, [36]⟩ :: ⟨[.op 6 0, .old 1], _, [], Lr 7, [37]⟩ :: ⟨[.op 6 0, .old 2], _, [], Lr 7, [38]⟩ :: ⟨[.op 6 0, .op 8 0], _, [], [0, 1, 2, 3, 4, 5, 6, 8], [39]⟩ :: ⟨[.op 6 0, .op 7 0, .op 9 0], _, [], Lr 10, [40]⟩ :: ⟨[.op 6 0, .op 10 0], _, [], Lr 11, [41]⟩ :: ⟨[.op 6 0, .op 11 0], _, [], Lr 12, [42]⟩ :: ⟨[.op 6 0, .old 3], _, [], Lr 7, [43]⟩ :: ⟨[.op 6 0, .op 13 0], _, [], [0, 1, 2, 3, 4, 5, 6, 13], [44]⟩ :: ⟨[.op 6 0, .op 12 0, .op 14 0], _, [], Lr 15, [45]⟩ :: ⟨[.op 6 0, .op 15 0], _, [], Lr 16, [46]⟩ :: ⟨[.op 6 0, .op 16 0], _, [], Lr 17, [47]⟩ :: []) (F := [.old 0, .old 1, .old 2, .old 3, .op 17 0]) (hst.pick [0, 1, 2, 3] rfl) hb Zb
       (o_p rfl (Za rfl rfl u_0) <| o_p rfl (Zcr rfl rfl u_0 c_i) <| o_p rfl (Za rfl rfl u_0) <| o_g (g_t rfl rfl rfl (fun hG => Za rfl rfl u_0)) <| o_g (g_t rfl rfl rfl (fun hG => Zbw rfl rfl (Opd.gd hG u_0) c_i)) <| o_p rfl (Zbj rfl rfl u_0 (fun hz => (Opd.gd hz u_1))) <| o_p rfl (Za rfl rfl u_0) <| o_g (g_t rfl rfl rfl (fun hG => Za rfl rfl u_0)) <| o_g (g_t rfl rfl rfl (fun hG => Za rfl rfl u_0)) <| o_g (g_t rfl rfl rfl (fun hG => Zjj rfl rfl (Opd.gd hG u_0) c_i rfl)) <| o_g (g_t rfl rfl rfl (fun hG => Zbv Tryd.underlying43 Zjc rfl rfl (Opd.gd hG u_0) (Opd.gd hG u_1) (Zbq h10 hG))) <| o_g (g_t rfl rfl rfl (fun hG => Ze Zf2 rfl rfl (Opd.gd hG u_0))) <| o_g (g_t rfl rfl rfl (fun hG => Zf ty_9 rfl rfl (Opd.gd hG u_0))) <| o_g (g_t rfl rfl rfl (fun hG => Ze Zf2 rfl rfl u_0)) <| o_g (g_t rfl rfl rfl (fun hG => Zf ty_9 rfl rfl (Opd.gd hG u_0))) <| o_g (g_t rfl rfl rfl (fun hG => Zl8 rfl rfl (Opd.gd hG u_0) (Opd.gd hG u_1))) <| o_g (g_t rfl rfl rfl (fun hG => Zcn rfl rfl (Opd.gd hG u_0))) <| o_p rfl (Zbj rfl rfl u_0 (fun hz => (Opd.gd hz u_1))) <| o_n) (by kernel_rfl) (fun a g hst hb => ?_)
     refine wp_cond_split (hst.bool 4 rfl) (fun hc11 => ?_) (fun hc11 => ?_)
     · replace H0 := Z0 hc11 H0
       refine r_s (L := []) (T := [⟨[], _, [], [], [6]⟩]) (F := [.op 0 0]) (hst.pick [] rfl) hb Zb
         (o_p rfl (Zc rfl rfl c_i) <| o_n) (by kernel_rfl) (fun a g hst hb => ?_)
       refine wp_ret ?_
       refine Zn ?_
       obtain rfl := Option.some.inj H0
       exact Z3 rfl hst hb (Zm (s := 6)) (hst.at 0 rfl)
     · replace H0 := Zz hc11 H0
       refine wp_skip ?_
       refine Zu ?_
       refine wp_seq ?_
       obtain ⟨e12, h13, H0⟩ := Zh H0; obtain ⟨r14, h15, H0⟩ := Zh H0
       refine r_s (L := [(0, _), (1, _), (2, _), (7, _)]) (T := ⟨[.old 2], _, [], [], [48]⟩ :: ⟨[.op 0 0], _, [], [0], [49]⟩ :: ⟨[.op 1 0], _, [], [0, 1], [50]⟩ :: ⟨[.op 2 0, .old 0], _, [], [0, 1, 2], [51]⟩ :: ⟨[.op 2 0, .op 3 0], _, [], Lr 4, [52]⟩ :: ⟨[.op 2 0, .op 4 0], _, [], Lr 5, [53]⟩ :: ⟨[.op 5 0], _, [], Lr 6, [54]⟩ :: ⟨[.op 6 0, .old 1], _, [], Lr 7, [55]⟩ :: ⟨[.op 6 0, .old 2], _, [], Lr 7, [56]⟩ :: ⟨[.op 6 0, .op 8 0], _, [], [0, 1, 2, 3, 4, 5, 6, 8], [57]⟩ :: ⟨[.op 6 0, .op 7 0, .op 9 0], _, [], Lr 10, [58]⟩ :: ⟨[.op 6 0, .op 10 0], _, [], Lr 11, [59]⟩ :: ⟨[.op 6 0, .old 3], _, [], Lr 7, [60]⟩ :: ⟨[.op 6 0, .op 11 0, .op 12 0], _, [], Lr 13, [61]⟩ :: ⟨[.op 6 0, .op 13 0], _, [], Lr 14, [62]⟩ :: ⟨[.op 6 0, .op 14 0], _, [], Lr 15, [63]⟩ :: []) (F := [.op 15 0]) (hst.pick [0, 1, 2, 3] rfl) hb Zb
         (o_p rfl (Za rfl rfl u_0) <| o_p rfl (Zcr rfl rfl u_0 c_i) <| o_p rfl (Za rfl rfl u_0) <| o_g (g_t rfl rfl rfl (fun hG => Za rfl rfl u_0)) <| o_g (g_t rfl rfl rfl (fun hG => Zbw rfl rfl (Opd.gd hG u_0) c_i)) <| o_p rfl (Zbj rfl rfl u_0 (fun hz => (Opd.gd hz u_1))) <| o_p rfl (Za rfl rfl u_0) <| o_g (g_t rfl rfl rfl (fun hG => Za rfl rfl u_0)) <| o_g (g_t rfl rfl rfl (fun hG => Za rfl rfl u_0)) <| o_g (g_t rfl rfl rfl (fun hG => Zjj rfl rfl (Opd.gd hG u_0) c_i rfl)) <| o_g (g_t rfl rfl rfl (fun hG => Zbv Tryd.underlying43 Zjc rfl rfl (Opd.gd hG u_0) (Opd.gd hG u_1) (Zbq h13 hG))) <| o_g (g_t rfl rfl rfl (fun hG => Zf Zfk rfl rfl (Opd.gd hG u_0))) <| o_g (g_t rfl rfl rfl (fun hG => Zf Zfk rfl rfl u_0)) <| o_g (g_t rfl rfl rfl (fun hG => Zp Z8g (Zop _ _ (Zbq h15 hG)) rfl rfl (.cons (Opd.gd hG u_0) (.cons (Opd.gd hG u_1) .nil)))) <| o_g (g_t rfl rfl rfl (fun hG => Zcn rfl rfl (Opd.gd hG u_0))) <| o_p rfl (Zbj rfl rfl u_0 (fun hz => (Opd.gd hz u_1))) <| o_n) (by kernel_rfl) (fun a g hst hb => ?_)
       refine wp_cond_split (hst.bool 0 rfl) (fun hc16 => ?_) (fun hc16 => ?_)
       · replace H0 := Z0 hc16 H0
         refine r_s (L := []) (T := [⟨[], _, [], [], [6]⟩]) (F := [.op 0 0]) (hst.pick [] rfl) hb Zb
           (o_p rfl (Zc rfl rfl c_i) <| o_n) (by kernel_rfl) (fun a g hst hb => ?_)
         refine wp_ret ?_
         refine Zn ?_
         obtain rfl := Option.some.inj H0
         exact Z3 rfl hst hb (Zm (s := 6)) (hst.at 0 rfl)
       · replace H0 := Zz hc16 H0
         refine wp_skip ?_
         refine Zu ?_
         refine r_s (L := []) (T := [⟨[], _, [], [], [6]⟩]) (F := [.op 0 0]) (hst.pick [] rfl) hb Zb
           (o_p rfl (Zc rfl rfl c_i) <| o_n) (by kernel_rfl) (fun a g hst hb => ?_)
         refine wp_ret ?_
         obtain rfl := Option.some.inj H0
         exact Z3 rfl hst hb (Zm (s := 6)) (hst.at 0 rfl)
theorem Zof (a0 : Zd) {r : Int} (h : Zc9 a0 = some r) : FnOk Tryd.prog 39 [(Zi.pd a0)] (pInt .i64 r) := by
 have H0 := h
 unfold Zc9 at H0
 clear h
 refine Zbu (N := 96) Tryd.func39 rfl rfl (Nat.le_of_ble_eq_true rfl) rfl rfl (fun a g0 hst hb => ?_)
 refine r_s (T := [⟨[.old 0], _, [], [], [1]⟩, ⟨[], _, [], [], [2]⟩]) (F := [.op 0 0]) hst hb Zb
   (o_p rfl (Zbl rfl rfl u_0) <| o_p rfl (Zc rfl rfl c_i) <| o_n) (by kernel_rfl) (fun a g hst hb => ?_)
 refine wp_seq ?_
 refine r_s (T := [⟨[.old 0], _, [], [], [6]⟩, ⟨[.op 0 0], _, [], [0], [7]⟩, ⟨[.op 1 0], _, [], [0, 1], [8]⟩, ⟨[.op 2 0], _, [], [0, 1, 2], [9]⟩, ⟨[.op 3 0, .old 0], _, [], Lr 4, [10]⟩, ⟨[.op 3 0, .op 4 0], _, [], Lr 5, [11]⟩, ⟨[.op 3 0, .op 5 0], _, [], Lr 6, [12]⟩, ⟨[.op 3 0, .op 6 0], _, [], Lr 7, [13]⟩]) (F := [.old 0, .op 7 0]) hst hb Zb
   (o_p rfl (Ze Zf9 rfl rfl u_0) <| o_p rfl (Zf ty_3 rfl rfl u_0) <| o_p rfl (Zc2 rfl rfl u_0 c_i) <| o_p rfl (Za rfl rfl u_0) <| o_g (g_f rfl rfl rfl (fun hG => Ze Zf9 rfl rfl u_0)) <| o_g (g_f rfl rfl rfl (fun hG => Zf ty_3 rfl rfl (Opd.gd hG u_0))) <| o_g (g_f rfl rfl rfl (fun hG => Zcr rfl rfl (Opd.gd hG u_0) c_i)) <| o_p rfl (Zbz rfl rfl u_0 (fun hz => (Opd.gd (bNF hz) u_1))) <| o_n) (by kernel_rfl) (fun a g hst hb => ?_)
 refine wp_cond_split (hst.bool 1 rfl) (fun hc1 => ?_) (fun hc1 => ?_)
 · replace H0 := Z0 hc1 H0
   refine r_s (L := []) (T := [⟨[], _, [], [], [2]⟩]) (F := [.op 0 0]) (hst.pick [] rfl) hb Zb
     (o_p rfl (Zc rfl rfl c_i) <| o_n) (by kernel_rfl) (fun a g hst hb => ?_)
   refine wp_ret ?_
   refine Zn ?_
   obtain rfl := Option.some.inj H0
   exact Z3 rfl hst hb (Zm (s := 2)) (hst.at 0 rfl)
 · replace H0 := Zz hc1 H0
   refine wp_skip ?_
   refine Zu ?_
   refine wp_seq ?_
   obtain ⟨r2, h3, H0⟩ := Zh H0; obtain ⟨r4, h5, H0⟩ := Zh H0
   refine r_s (L := [(1, _)]) (T := [⟨[.old 0], _, [], [], [14]⟩, ⟨[.old 0], _, [], [], [15]⟩, ⟨[.op 1 0], _, [], [1], [16]⟩, ⟨[.op 2 0], _, [], [1, 2], [17]⟩, ⟨[.op 0 0, .op 3 0], _, [], Lr 4, [18]⟩, ⟨[.op 4 0], _, [], Lr 5, [19]⟩]) (F := [.old 0, .op 5 0]) (hst.pick [0] rfl) hb Zb
     (o_p rfl (Zf Zbi rfl rfl u_0) <| o_p rfl (Ze Zf9 rfl rfl u_0) <| o_p rfl (Zf ty_3 rfl rfl u_0) <| o_p rfl (Zp Z8v (Znw _ h3) rfl rfl (.cons u_0 .nil)) <| o_p rfl (Zp Z8u (Zo5 _ _ h5) rfl rfl (.cons u_0 (.cons u_1 .nil))) <| o_p rfl (Zcn rfl rfl u_0) <| o_n) (by kernel_rfl) (fun a g hst hb => ?_)
   refine wp_cond_split (hst.bool 1 rfl) (fun hc6 => ?_) (fun hc6 => ?_)
   · replace H0 := Z0 hc6 H0
     refine r_s (L := []) (T := [⟨[], _, [], [], [2]⟩]) (F := [.op 0 0]) (hst.pick [] rfl) hb Zb
       (o_p rfl (Zc rfl rfl c_i) <| o_n) (by kernel_rfl) (fun a g hst hb => ?_)
     refine wp_ret ?_
     refine Zn ?_
     obtain rfl := Option.some.inj H0
     exact Z3 rfl hst hb (Zm (s := 2)) (hst.at 0 rfl)
   · replace H0 := Zz hc6 H0
     refine wp_skip ?_
     refine Zu ?_
     refine wp_seq ?_
     refine r_s (L := [(1, _)]) (T := [⟨[.old 0], _, [], [], [20]⟩, ⟨[.op 0 0], _, [], [0], [21]⟩, ⟨[.op 1 0], _, [], [0, 1], [22]⟩, ⟨[.op 2 0], _, [], [0, 1, 2], [23]⟩, ⟨[.op 3 0, .old 0], _, [], Lr 4, [24]⟩, ⟨[.op 3 0, .op 4 0], _, [], Lr 5, [25]⟩, ⟨[.op 3 0, .op 5 0], _, [], Lr 6, [26]⟩, ⟨[.op 3 0, .op 6 0], _, [], Lr 7, [27]⟩, ⟨[.op 3 0, .op 7 0], _, [], Lr 8, [28]⟩]) (F := [.old 0, .op 8 0]) (hst.pick [0] rfl) hb Zb
       (o_p rfl (Ze Zf9 rfl rfl u_0) <| o_p rfl (Zf ty_3 rfl rfl u_0) <| o_p rfl (Zbw rfl rfl u_0 c_i) <| o_p rfl (Za rfl rfl u_0) <| o_g (g_t rfl rfl rfl (fun hG => Ze Zjs rfl rfl u_0)) <| o_g (g_t rfl rfl rfl (fun hG => Zf ty_9 rfl rfl (Opd.gd hG u_0))) <| o_g (g_t rfl rfl rfl (fun hG => Zft Tryd.underlying9 rfl rfl (Opd.gd hG u_0))) <| o_g (g_t rfl rfl rfl (fun hG => Zcr rfl rfl (Opd.gd hG u_0) c_i)) <| o_p rfl (Zbj rfl rfl u_0 (fun hz => (Opd.gd hz u_1))) <| o_n) (by kernel_rfl) (fun a g hst hb => ?_)
     refine wp_cond_split (hst.bool 1 rfl) (fun hc7 => ?_) (fun hc7 => ?_)
     · replace H0 := Z0 hc7 H0
       refine r_s (L := []) (T := [⟨[], _, [], [], [2]⟩]) (F := [.op 0 0]) (hst.pick [] rfl) hb Zb
         (o_p rfl (Zc rfl rfl c_i) <| o_n) (by kernel_rfl) (fun a g hst hb => ?_)
       refine wp_ret ?_
       refine Zn ?_
       obtain rfl := Option.some.inj H0
       exact Z3 rfl hst hb (Zm (s := 2)) (hst.at 0 rfl)
     · replace H0 := Zz hc7 H0
       refine wp_skip ?_
       refine Zu ?_
       refine r_s (L := [(1, _)]) (T := [⟨[], _, [], [], [3]⟩]) (F := [.old 0, .op 0 0]) (hst.pick [0] rfl) hb Zb
         (o_p rfl (Zc rfl rfl c_i) <| o_n) (by kernel_rfl) (fun a g hst hb => ?_)
       refine wp_seq ?_
       refine r_s (T := ⟨[.old 0], _, [], [], [29]⟩ :: ⟨[.op 0 0], _, [], [0], [30]⟩ :: ⟨[.op 1 0], _, [], [0, 1], [31]⟩ :: ⟨[.op 2 0], _, [], [0, 1, 2], [32]⟩ :: ⟨[.op 3 0, .old 0], _, [], Lr 4, [33]⟩ :: ⟨[.op 3 0, .op 4 0], _, [], Lr 5, [34]⟩ :: ⟨[.op 3 0, .old 1], _, [], Lr 4, [35]⟩ :: ⟨[.op 3 0, .op 6 0], _, [], [0, 1, 2, 3, 6], [36]⟩ :: ⟨[.op 3 0, .op 5 0, .op 7 0], _, [], Lr 8, [37]⟩ :: ⟨[.op 3 0, .op 8 0], _, [], Lr 9, [38]⟩ :: ⟨[.op 9 0, .old 0], _, [], Lr 10, [39]⟩ :: ⟨[.op 9 0, .op 10 0], _, [], Lr 11, [40]⟩ :: ⟨[.op 9 0, .old 1], _, [], Lr 10, [41]⟩ :: ⟨[.op 9 0, .op 11 0, .op 12 0], _, [], Lr 13, [42]⟩ :: ⟨[.op 3 0, .op 9 0, .op 13 0], _, [], Lr 14, [43]⟩ :: ⟨[.op 3 0, .op 14 0], _, [], Lr 15, [44]⟩ :: ⟨[.op 15 0, .old 0], _, [], Lr 16, [45]⟩ :: ⟨[.op 15 0, .op 16 0], _, [], Lr 17, [46]⟩ :: ⟨[.op 15 0, .old 0], _, [], Lr 16, [47]⟩ :: ⟨[.op 15 0, .op 18 0], _, [], 0 :: 1 :: 2 :: 3 :: 4 :: 5 :: 6 :: 7 :: 8 :: 9 :: 10 :: 11 :: 12 :: 13 :: 14 :: 15 :: 18 :: [], [48]⟩ :: ⟨[.op 15 0, .op 17 0, .op 19 0], _, [], Lr 20, [49]⟩ :: ⟨[.op 3 0, .op 15 0, .op 20 0], _, [], Lr 21, [50]⟩ :: ⟨[.op 3 0, .op 21 0], _, [], Lr 22, [51]⟩ :: ⟨[.op 22 0, .old 0], _, [], Lr 23, [52]⟩ :: ⟨[.op 22 0, .op 23 0], _, [], Lr 24, [53]⟩ :: ⟨[.op 22 0, .old 0], _, [], Lr 23, [54]⟩ :: ⟨[.op 22 0, .op 25 0], _, [], 0 :: 1 :: 2 :: 3 :: 4 :: 5 :: 6 :: 7 :: 8 :: 9 :: 10 :: 11 :: 12 :: 13 :: 14 :: 15 :: 16 :: 17 :: 18 :: 19 :: 20 :: 21 :: 22 :: 25 :: [], [55]⟩ :: ⟨[.op 22 0, .op 24 0, .op 26 0], _, [], Lr 27, [56]⟩ :: ⟨[.op 3 0, .op 22 0, .op 27 0], _, [], Lr 28, [57]⟩ :: ⟨[.op 3 0, .op 28 0], _, [], Lr 29, [58]⟩ :: []) (F := [.old 0, .op 29 0]) hst hb Zb
         (o_p rfl (Ze Zf9 rfl rfl u_0) <| o_p rfl (Zf ty_3 rfl rfl u_0) <| o_p rfl (Zbw rfl rfl u_0 c_i) <| o_p rfl (Za rfl rfl u_0) <| o_g (g_t rfl rfl rfl (fun hG => Ze Zj1 rfl rfl u_0)) <| o_g (g_t rfl rfl rfl (fun hG => Zf ty_2 rfl rfl (Opd.gd hG u_0))) <| o_g (g_t rfl rfl rfl (fun hG => Za rfl rfl u_0)) <| o_g (g_t rfl rfl rfl (fun hG => Z5r rfl rfl (Opd.gd hG u_0) rfl)) <| o_g (g_t rfl rfl rfl (fun hG => Zc2 rfl rfl (Opd.gd hG u_0) (Opd.gd hG u_1))) <| o_g (g_t rfl rfl rfl (fun hG => Za rfl rfl (Opd.gd hG u_0))) <| o_g (g_fi rfl rfl rfl (fun hG => Ze Zj3 rfl rfl u_0)) <| o_g (g_fi rfl rfl rfl (fun hG => Zf ty_2 rfl rfl (Opd.gd hG u_0))) <| o_g (g_fi rfl rfl rfl (fun hG => Za rfl rfl u_0)) <| o_g (g_fi rfl rfl rfl (fun hG => Zcr rfl rfl (Opd.gd hG u_0) (Opd.gd hG u_1))) <| o_g (g_t rfl rfl rfl (fun hG => Zbz rfl rfl (Opd.gd hG u_0) (fun hz => (Opd.gd (bA hG (bNF hz)) u_1)))) <| o_g (g_t rfl rfl rfl (fun hG => Za rfl rfl (Opd.gd hG u_0))) <| o_g (g_fi rfl rfl rfl (fun hG => Ze Zea rfl rfl u_0)) <| o_g (g_fi rfl rfl rfl (fun hG => Zf ty_2 rfl rfl (Opd.gd hG u_0))) <| o_g (g_fi rfl rfl rfl (fun hG => Ze Zj1 rfl rfl u_0)) <| o_g (g_fi rfl rfl rfl (fun hG => Zf ty_2 rfl rfl (Opd.gd hG u_0))) <| o_g (g_fi rfl rfl rfl (fun hG => Zc2 rfl rfl (Opd.gd hG u_0) (Opd.gd hG u_1))) <| o_g (g_t rfl rfl rfl (fun hG => Zbz rfl rfl (Opd.gd hG u_0) (fun hz => (Opd.gd (bA hG (bNF hz)) u_1)))) <| o_g (g_t rfl rfl rfl (fun hG => Za rfl rfl (Opd.gd hG u_0))) <| o_g (g_fi rfl rfl rfl (fun hG => Ze Zea rfl rfl u_0)) <| o_g (g_fi rfl rfl rfl (fun hG => Zf ty_2 rfl rfl (Opd.gd hG u_0))) <| o_g (g_fi rfl rfl rfl (fun hG => Ze Zj3 rfl rfl u_0)) <| o_g (g_fi rfl rfl rfl (fun hG => Zf ty_2 rfl rfl (Opd.gd hG u_0))) <| o_g (g_fi rfl rfl rfl (fun hG => Zcr rfl rfl (Opd.gd hG u_0) (Opd.gd hG u_1))) <| o_g (g_t rfl rfl rfl (fun hG => Zbz rfl rfl (Opd.gd hG u_0) (fun hz => (Opd.gd (bA hG (bNF hz)) u_1)))) <| o_p rfl (Zbj rfl rfl u_0 (fun hz => (Opd.gd hz u_1))) <| o_n) (by kernel_rfl) (fun a g hst hb => ?_)
       refine wp_cond_split (hst.bool 1 rfl) (fun hc8 => ?_) (fun hc8 => ?_)
       · replace H0 := Z0 hc8 H0
         refine r_s (L := []) (T := [⟨[], _, [], [], [2]⟩]) (F := [.op 0 0]) (hst.pick [] rfl) hb Zb
           (o_p rfl (Zc rfl rfl c_i) <| o_n) (by kernel_rfl) (fun a g hst hb => ?_)
         refine wp_ret ?_
         refine Zn ?_
         obtain rfl := Option.some.inj H0
         exact Z3 rfl hst hb (Zm (s := 2)) (hst.at 0 rfl)
       · replace H0 := Zz hc8 H0
         refine wp_skip ?_
         refine Zu ?_
         refine wp_seq ?_
         obtain ⟨r9, h10, H0⟩ := Zh H0
         refine r_s (L := [(1, _)]) (T := [⟨[.old 0], _, [], [], [59]⟩, ⟨[.op 0 0], _, [], [0], [60]⟩, ⟨[.op 1 0], _, [], [0, 1], [61]⟩, ⟨[.op 2 0], _, [], [0, 1, 2], [62]⟩]) (F := [.old 0, .op 3 0]) (hst.pick [0] rfl) hb Zb
           (o_p rfl (Ze Zkx rfl rfl u_0) <| o_p rfl (Zf Ze4 rfl rfl u_0) <| o_p rfl (Zp Z23 (Zk1 _ h10) rfl rfl (.cons u_0 .nil)) <| o_p rfl (Zcn rfl rfl u_0) <| o_n) (by kernel_rfl) (fun a g hst hb => ?_)
         refine wp_cond_split (hst.bool 1 rfl) (fun hc11 => ?_) (fun hc11 => ?_)
         · replace H0 := Z0 hc11 H0
           refine r_s (L := []) (T := [⟨[], _, [], [], [2]⟩]) (F := [.op 0 0]) (hst.pick [] rfl) hb Zb
             (o_p rfl (Zc rfl rfl c_i) <| o_n) (by kernel_rfl) (fun a g hst hb => ?_)
           refine wp_ret ?_
           refine Zn ?_
           obtain rfl := Option.some.inj H0
           exact Z3 rfl hst hb (Zm (s := 2)) (hst.at 0 rfl)
         · replace H0 := Zz hc11 H0
           refine wp_skip ?_
           refine Zu ?_
           refine wp_seq ?_
           refine r_s (L := [(1, _)]) (T := [⟨[.old 0], _, [], [], [63]⟩, ⟨[.op 0 0], _, [], [0], [64]⟩, ⟨[.op 1 0], _, [], [0, 1], [65]⟩]) (F := [.old 0, .op 2 0]) (hst.pick [0] rfl) hb Zb
             (o_p rfl (Ze Zf9 rfl rfl u_0) <| o_p rfl (Zf ty_3 rfl rfl u_0) <| o_p rfl (Zc2 rfl rfl u_0 c_i) <| o_n) (by kernel_rfl) (fun a g hst hb => ?_)
           refine wp_cond_split (hst.bool 1 rfl) (fun hc12 => ?_) (fun hc12 => ?_)
           · replace H0 := Z0 hc12 H0
             refine r_s (L := []) (T := [⟨[], _, [], [], [2]⟩]) (F := [.op 0 0]) (hst.pick [] rfl) hb Zb
               (o_p rfl (Zc rfl rfl c_i) <| o_n) (by kernel_rfl) (fun a g hst hb => ?_)
             refine wp_ret ?_
             refine Zn ?_
             obtain rfl := Option.some.inj H0
             exact Z3 rfl hst hb (Zm (s := 2)) (hst.at 0 rfl)
           · replace H0 := Zz hc12 H0
             refine wp_skip ?_
             refine Zu ?_
             refine wp_seq ?_
             refine r_s (L := [(1, _)]) (T := [⟨[.old 0], _, [], [], [66]⟩, ⟨[.op 0 0], _, [], [0], [67]⟩, ⟨[.op 1 0], _, [], [0, 1], [68]⟩, ⟨[.op 2 0], _, [], [0, 1, 2], [69]⟩, ⟨[.op 3 0, .old 0], _, [], Lr 4, [70]⟩, ⟨[.op 3 0, .op 4 0], _, [], Lr 5, [71]⟩, ⟨[.op 3 0, .op 5 0], _, [], Lr 6, [72]⟩, ⟨[.op 3 0, .op 6 0], _, [], Lr 7, [73]⟩]) (F := [.old 0, .op 7 0]) (hst.pick [0] rfl) hb Zb
               (o_p rfl (Ze Zhp rfl rfl u_0) <| o_p rfl (Zf ty_3 rfl rfl u_0) <| o_p rfl (Zc2 rfl rfl u_0 c_i) <| o_p rfl (Za rfl rfl u_0) <| o_g (g_f rfl rfl rfl (fun hG => Ze Zhp rfl rfl u_0)) <| o_g (g_f rfl rfl rfl (fun hG => Zf ty_3 rfl rfl (Opd.gd hG u_0))) <| o_g (g_f rfl rfl rfl (fun hG => Zcr rfl rfl (Opd.gd hG u_0) c_i)) <| o_p rfl (Zbz rfl rfl u_0 (fun hz => (Opd.gd (bNF hz) u_1))) <| o_n) (by kernel_rfl) (fun a g hst hb => ?_)
             refine wp_cond_split (hst.bool 1 rfl) (fun hc13 => ?_) (fun hc13 => ?_)
             · replace H0 := Z0 hc13 H0
               refine r_s (L := []) (T := [⟨[], _, [], [], [2]⟩]) (F := [.op 0 0]) (hst.pick [] rfl) hb Zb
                 (o_p rfl (Zc rfl rfl c_i) <| o_n) (by kernel_rfl) (fun a g hst hb => ?_)
               refine wp_ret ?_
               refine Zn ?_
               obtain rfl := Option.some.inj H0
               exact Z3 rfl hst hb (Zm (s := 2)) (hst.at 0 rfl)
             · replace H0 := Zz hc13 H0
               refine wp_skip ?_
               refine Zu ?_
               refine wp_seq ?_
               refine r_s (L := [(1, _)]) (T := [⟨[.old 0], _, [], [], [74]⟩, ⟨[.op 0 0], _, [], [0], [75]⟩, ⟨[.op 1 0], _, [], [0, 1], [76]⟩, ⟨[.old 0], _, [], [], [77]⟩, ⟨[.op 3 0], _, [], [3], [78]⟩, ⟨[.op 2 0, .op 4 0], _, [], Lr 5, [79]⟩]) (F := [.old 0, .op 5 0]) (hst.pick [0] rfl) hb Zb
                 (o_p rfl (Ze Zdc rfl rfl u_0) <| o_p rfl (Zf Zev rfl rfl u_0) <| o_p rfl (Zb3 Tryd.underlying43 rfl rfl u_0) <| o_p rfl (Ze Zhp rfl rfl u_0) <| o_p rfl (Zf ty_3 rfl rfl u_0) <| o_p rfl (Zcr rfl rfl u_0 u_1) <| o_n) (by kernel_rfl) (fun a g hst hb => ?_)
               refine wp_cond_split (hst.bool 1 rfl) (fun hc14 => ?_) (fun hc14 => ?_)
               · replace H0 := Z0 hc14 H0
                 refine r_s (L := []) (T := [⟨[], _, [], [], [2]⟩]) (F := [.op 0 0]) (hst.pick [] rfl) hb Zb
                   (o_p rfl (Zc rfl rfl c_i) <| o_n) (by kernel_rfl) (fun a g hst hb => ?_)
                 refine wp_ret ?_
                 refine Zn ?_
                 obtain rfl := Option.some.inj H0
                 exact Z3 rfl hst hb (Zm (s := 2)) (hst.at 0 rfl)
               · replace H0 := Zz hc14 H0
                 refine wp_skip ?_
                 refine Zu ?_
                 refine wp_seq ?_
                 refine r_s (L := [(1, _)]) (T := [⟨[], _, [], [], [4]⟩]) (F := [.old 0, .op 0 0]) (hst.pick [0] rfl) hb Zb
                   (o_p rfl (Zc rfl rfl c_i) <| o_n) (by kernel_rfl) (fun a g hst hb => ?_)
                 obtain ⟨z20, hz1, H0⟩ := Zh H0
                 refine Zc0 (fun a w => ∃ (g : G), w = g.w ∧ St 96 [] a g ∧ Base g0 g ∧ (.inr ()) = z20) ?_ ?_
                 · rintro a w ⟨g, rfl, hst, hb, rfl⟩
                   refine Zu ?_
                   refine r_s (T := [⟨[], _, [], [], [2]⟩]) (F := [.op 0 0]) hst hb Zb
                     (o_p rfl (Zc rfl rfl c_i) <| o_n) (by kernel_rfl) (fun a g hst hb => ?_)
                   refine wp_ret ?_
                   obtain rfl := Option.some.inj H0
                   exact Z3 rfl hst hb (Zm (s := 2)) (hst.at 0 rfl)
                 · refine wp_block ?_
                   refine wp_loop_ghost (fun n a w => ∃ (x15 : Int) (g : G), w = g.w ∧ St 96 [(1, (Zi.ptr a0)), (4, (pInt .i64 x15))] a g ∧ Base g0 g ∧ Zdk a0 n x15 = some z20) (Int.toNat ((a0.List.length : Int) - (0 : Int)) + 1) ⟨(0 : Int), g, rfl, (hst.pick [0, 1] rfl), hb, hz1⟩ (fun n a w hI => ?_)
                   obtain ⟨x15, g, rfl, hst, hb, H1⟩ := hI
                   cases n with
                   | zero => exact absurd H1 (by simp [Zdk])
                   | succ n =>
                     rw [Zdk] at H1
                     refine wp_seq ?_
                     refine r_s (T := [⟨[.old 1], _, [], [], [80]⟩, ⟨[.old 0], _, [], [], [81]⟩, ⟨[.op 1 0], _, [], [1], [82]⟩, ⟨[.op 2 0], _, [], [1, 2], [83]⟩, ⟨[.op 0 0, .op 3 0], _, [], Lr 4, [84]⟩]) (F := [.old 0, .old 1, .op 4 0]) hst hb Zb
                       (o_p rfl (Za rfl rfl u_0) <| o_p rfl (Ze Zdc rfl rfl u_0) <| o_p rfl (Zf Zev rfl rfl u_0) <| o_p rfl (Zb3 Tryd.underlying43 rfl rfl u_0) <| o_p rfl (Zc2 rfl rfl u_0 u_1) <| o_n) (by kernel_rfl) (fun a g hst hb => ?_)
                     refine wp_cond_split (hst.bool 2 rfl) (fun hc16 => ?_) (fun hc16 => ?_)
                     · replace H1 := Z0 hc16 H1
                       refine wp_skip ?_
                       refine Zu ?_
                       refine wp_seq ?_
                       refine wp_block ?_
                       obtain ⟨r17, h18, H1⟩ := Zh H1
                       refine r_s (L := [(1, _), (4, _)]) (T := [⟨[.old 0], _, [], [], [87]⟩, ⟨[.op 0 0], _, [], [0], [88]⟩, ⟨[.old 0], _, [], [], [89]⟩, ⟨[.op 2 0], _, [], [2], [90]⟩, ⟨[.old 1], _, [], [], [91]⟩, ⟨[.op 1 0, .op 3 0, .op 4 0], _, [], Lr 5, [92]⟩, ⟨[.op 5 0], _, [], Lr 6, [5]⟩]) (F := [.old 0, .old 1, .op 6 0]) (hst.pick [0, 1] rfl) hb Zb
                         (o_p rfl (Ze Zf9 rfl rfl u_0) <| o_p rfl (Zf ty_3 rfl rfl u_0) <| o_p rfl (Ze Zdc rfl rfl u_0) <| o_p rfl (Zf Zev rfl rfl u_0) <| o_p rfl (Za rfl rfl u_0) <| o_p rfl (Zp Z7f (Zo4 _ _ _ h18) rfl rfl (.cons u_0 (.cons u_1 (.cons u_2 .nil)))) <| o_p rfl (Zc rfl rfl u_0) <| o_n) (by kernel_rfl) (fun a g hst hb => ?_)
                       refine r_s (T := [⟨[.old 2], _, [], [], [93]⟩, ⟨[.op 0 0], _, [], [0], [94]⟩]) (F := [.old 0, .old 1, .old 2, .op 1 0]) hst hb Zb
                         (o_p rfl (Za rfl rfl u_0) <| o_p rfl (Zer rfl rfl u_0 c_i) <| o_n) (by kernel_rfl) (fun a g hst hb => ?_)
                       refine wp_cond_split (hst.bool 3 rfl) (fun hc19 => ?_) (fun hc19 => ?_)
                       · replace H1 := Z0 hc19 H1
                         refine r_s (L := [(5, _)]) (T := [⟨[.old 0], _, [], [], [95]⟩, ⟨[.op 0 0], _, [], [0], [2]⟩]) (F := [.op 1 0]) (hst.pick [2] rfl) hb Zb
                           (o_p rfl (Za rfl rfl u_0) <| o_p rfl (Zc rfl rfl u_0) <| o_n) (by kernel_rfl) (fun a g hst hb => ?_)
                         refine wp_ret ?_
                         refine Zw ?_
                         refine Zn ?_
                         refine Zn ?_
                         refine Zw ?_
                         refine Zn ?_
                         refine Zn ?_
                         obtain rfl := Option.some.inj H1
                         obtain rfl := Option.some.inj H0
                         exact Z3 rfl hst hb (Zm (s := 2)) (hst.at 0 rfl)
                       · replace H1 := Zz hc19 H1
                         refine wp_skip ?_
                         refine Zbt ?_
                         refine Zu ?_
                         refine r_g (L := [(1, _), (4, _)]) (T := [⟨[.old 1], _, [], [], [85]⟩, ⟨[.op 0 0], _, [], [0], [86]⟩, ⟨[.op 1 0], _, [], [0, 1], [4]⟩]) (F := [.old 0, .op 2 0]) (hst.pick [0, 1] rfl) hb Zb
                           (o_p rfl (Za rfl rfl u_0) <| o_p rfl (Zce rfl rfl u_0 c_i rfl) <| o_p rfl (Zc rfl rfl u_0) <| o_n) (by kernel_rfl) (fun a g hst hb => ?_)
                         exact ⟨n, Nat.lt_succ_self _, (IntKind.i64.wrap (x15 + (1 : Int))), g, rfl, (hst.pick [0, 1] rfl), hb, H1⟩
                     · replace H1 := Zz hc16 H1
                       refine wp_exit ?_
                       refine Zca ?_
                       refine Zca ?_
                       refine Zcz ?_
                       exact ⟨g, rfl, (hst.pick [] rfl), hb, Option.some.inj H1⟩
theorem Zmj (a0 : Zl) (a1 : ByteArray) {r : Int} (h : Zdr a0 a1 = some r) : FnOk Tryd.prog 40 [(Zbr.pd a0), (pStr a1)] (pInt .i64 r) := by
 have H0 := h
 unfold Zdr at H0
 clear h
 refine Zbu (N := 24) Tryd.func40 rfl rfl (Nat.le_of_ble_eq_true rfl) rfl rfl (fun a g0 hst hb => ?_)
 refine r_s (T := [⟨[.old 0], _, [], [], [2]⟩, ⟨[], _, [], [], [4]⟩]) (F := [.old 1, .op 0 0]) hst hb Zb
   (o_p rfl (Zbl rfl rfl u_0) <| o_p rfl (Zc rfl rfl c_i) <| o_n) (by kernel_rfl) (fun a g hst hb => ?_)
 refine r_s (T := [⟨[], _, [], [], [5]⟩]) (F := [.old 0, .old 1, .op 0 0]) hst hb Zb
   (o_p rfl (Zc rfl rfl c_i) <| o_n) (by kernel_rfl) (fun a g hst hb => ?_)
 obtain ⟨z6, hz1, H0⟩ := Zh H0
 refine wp_seq ?_
 refine Zc0 (fun a w => ∃ (y5 : Int) (g : G), w = g.w ∧ St 24 [(5, (pInt .i64 y5))] a g ∧ Base g0 g ∧ y5 = z6) ?_ ?_
 · rintro a w ⟨y5, g, rfl, hst, hb, rfl⟩
   refine Zu ?_
   refine r_s (T := [⟨[.old 0], _, [], [], [23]⟩, ⟨[.op 0 0], _, [], [0], [4]⟩]) (F := [.op 1 0]) hst hb Zb
     (o_p rfl (Za rfl rfl u_0) <| o_p rfl (Zc rfl rfl u_0) <| o_n) (by kernel_rfl) (fun a g hst hb => ?_)
   refine wp_ret ?_
   obtain rfl := Option.some.inj H0
   exact Z3 rfl hst hb (Zm (s := 4)) (hst.at 0 rfl)
 · refine wp_block ?_
   refine wp_loop_ghost (fun n a w => ∃ (x1 : Int) (g : G), w = g.w ∧ St 24 [(1, (pStr a1)), (2, (Zbr.ptr a0)), (5, (pInt .i64 x1))] a g ∧ Base g0 g ∧ Zcx a0 a1 n x1 = some z6) (Int.toNat ((a0.L.length : Int) - (0 : Int)) + 1) ⟨(0 : Int), g, rfl, (hst.pick [0, 1, 2] rfl), hb, hz1⟩ (fun n a w hI => ?_)
   obtain ⟨x1, g, rfl, hst, hb, H1⟩ := hI
   cases n with
   | zero => exact absurd H1 (by simp [Zcx])
   | succ n =>
     rw [Zcx] at H1
     refine wp_seq ?_
     obtain ⟨e2, h3, H1⟩ := Zh H1
     refine r_s (T := ⟨[.old 2], _, [], [], [6]⟩ :: ⟨[.old 1], _, [], [], [7]⟩ :: ⟨[.op 1 0], _, [], [1], [8]⟩ :: ⟨[.op 2 0], _, [], [1, 2], [9]⟩ :: ⟨[.op 0 0, .op 3 0], _, [], Lr 4, [10]⟩ :: ⟨[.op 4 0], _, [], Lr 5, [11]⟩ :: ⟨[.op 5 0, .old 1], _, [], Lr 6, [12]⟩ :: ⟨[.op 5 0, .op 6 0], _, [], Lr 7, [13]⟩ :: ⟨[.op 5 0, .old 2], _, [], Lr 6, [14]⟩ :: ⟨[.op 5 0, .op 7 0, .op 8 0], _, [], Lr 9, [15]⟩ :: ⟨[.op 5 0, .op 9 0], _, [], Lr 10, [16]⟩ :: ⟨[.op 5 0, .op 10 0], _, [], Lr 11, [17]⟩ :: ⟨[.op 5 0, .old 0], _, [], Lr 6, [18]⟩ :: ⟨[.op 5 0, .op 11 0, .op 12 0], _, [], Lr 13, [19]⟩ :: ⟨[.op 5 0, .op 13 0], _, [], Lr 14, [20]⟩ :: []) (F := [.old 0, .old 1, .old 2, .op 14 0]) hst hb Zb
       (o_p rfl (Za rfl rfl u_0) <| o_p rfl (Ze Zlq rfl rfl u_0) <| o_p rfl (Zf Zom rfl rfl u_0) <| o_p rfl (Zb3 Tryd.underlying22 rfl rfl u_0) <| o_p rfl (Zc2 rfl rfl u_0 u_1) <| o_p rfl (Za rfl rfl u_0) <| o_g (g_t rfl rfl rfl (fun hG => Ze Zlq rfl rfl u_0)) <| o_g (g_t rfl rfl rfl (fun hG => Zf Zom rfl rfl (Opd.gd hG u_0))) <| o_g (g_t rfl rfl rfl (fun hG => Za rfl rfl u_0)) <| o_g (g_t rfl rfl rfl (fun hG => Zbv Tryd.underlying22 Zsm rfl rfl (Opd.gd hG u_0) (Opd.gd hG u_1) (Zbq h3 hG))) <| o_g (g_t rfl rfl rfl (fun hG => Ze Zoc rfl rfl (Opd.gd hG u_0))) <| o_g (g_t rfl rfl rfl (fun hG => Zf ty_9 rfl rfl (Opd.gd hG u_0))) <| o_g (g_t rfl rfl rfl (fun hG => Za rfl rfl u_0)) <| o_g (g_t rfl rfl rfl (fun hG => Zl8 rfl rfl (Opd.gd hG u_0) (Opd.gd hG u_1))) <| o_p rfl (Zbj rfl rfl u_0 (fun hz => (Opd.gd hz u_1))) <| o_n) (by kernel_rfl) (fun a g hst hb => ?_)
     refine wp_cond_split (hst.bool 3 rfl) (fun hc4 => ?_) (fun hc4 => ?_)
     · replace H1 := Z0 hc4 H1
       refine wp_skip ?_
       refine Zu ?_
       refine wp_block ?_
       refine r_g (L := [(1, _), (2, _), (5, _)]) (T := [⟨[.old 2], _, [], [], [21]⟩, ⟨[.op 0 0], _, [], [0], [22]⟩, ⟨[.op 1 0], _, [], [0, 1], [5]⟩]) (F := [.old 0, .old 1, .op 2 0]) (hst.pick [0, 1, 2] rfl) hb Zb
         (o_p rfl (Za rfl rfl u_0) <| o_p rfl (Zce rfl rfl u_0 c_i rfl) <| o_p rfl (Zc rfl rfl u_0) <| o_n) (by kernel_rfl) (fun a g hst hb => ?_)
       refine Zbt ?_
       exact ⟨n, Nat.lt_succ_self _, (IntKind.i64.wrap (x1 + (1 : Int))), g, rfl, (hst.pick [0, 1, 2] rfl), hb, H1⟩
     · replace H1 := Zz hc4 H1
       refine wp_exit ?_
       refine Zca ?_
       refine Zca ?_
       refine Zcz ?_
       exact ⟨x1, g, rfl, (hst.pick [2] rfl), hb, Option.some.inj H1⟩
theorem Zmx (a0 : Zl) (a1 : ByteArray) (a2 : Zd) {r : Zl × Int} (h : Zdz a0 a1 a2 = some r) : FnOk Tryd.prog 20 [(Zbr.pd a0), (pStr a1), (Zi.pd a2)] (pTup [(Zbr.pd r.1), (pInt .i64 r.2)]) := by
 have H0 := h
 unfold Zdz at H0
 clear h
 refine Zbu (N := 80) Tryd.func20 rfl rfl (Nat.le_of_ble_eq_true rfl) rfl rfl (fun a g0 hst hb => ?_)
 refine r_s (T := [⟨[.old 0], _, [], [], [3]⟩, ⟨[.old 2], _, [], [], [5]⟩, ⟨[], [(6, (pBox Zbr 6 (default : Zl)))], [7], [], [6]⟩, ⟨[], _, [], [], [7]⟩]) (F := [.old 1, .op 0 0, .op 1 0, .op 2 0]) hst hb Zb
   (o_p rfl (Zbl rfl rfl u_0) <| o_p rfl (Zbl rfl rfl u_0) <| o_p rfl (Zbb (zs := [.slice none 0 0, .int .i64 0]) (by kernel_rfl) (fun g => Zk9 g) rfl rfl) <| o_p rfl (Zc rfl rfl c_i) <| o_n) (by kernel_rfl) (fun a g hst hb => ?_)
 refine wp_seq ?_
 refine r_s (T := [⟨[.old 0], _, [], [], [12]⟩, ⟨[.op 0 0], _, [], [0], [13]⟩, ⟨[.op 1 0], _, [], [0, 1], [14]⟩, ⟨[.op 2 0], _, [], [0, 1, 2], [15]⟩, ⟨[.op 3 0, .old 0], _, [], Lr 4, [16]⟩, ⟨[.op 3 0, .op 4 0], _, [], Lr 5, [17]⟩, ⟨[.op 3 0, .op 5 0], _, [], Lr 6, [18]⟩, ⟨[.op 3 0, .op 6 0], _, [], Lr 7, [19]⟩]) (F := [.old 0, .old 1, .old 2, .old 3, .op 7 0]) hst hb Zb
   (o_p rfl (Za rfl rfl u_0) <| o_p rfl (Zft Tryd.underlying9 rfl rfl u_0) <| o_p rfl (Zc2 rfl rfl u_0 c_i) <| o_p rfl (Za rfl rfl u_0) <| o_g (g_f rfl rfl rfl (fun hG => Za rfl rfl u_0)) <| o_g (g_f rfl rfl rfl (fun hG => Zft Tryd.underlying9 rfl rfl (Opd.gd hG u_0))) <| o_g (g_f rfl rfl rfl (fun hG => Zcr rfl rfl (Opd.gd hG u_0) c_i)) <| o_p rfl (Zbz rfl rfl u_0 (fun hz => (Opd.gd (bNF hz) u_1))) <| o_n) (by kernel_rfl) (fun a g hst hb => ?_)
 refine wp_cond_split (hst.bool 4 rfl) (fun hc1 => ?_) (fun hc1 => ?_)
 · replace H0 := Z0 hc1 H0
   refine r_s (L := [(3, _), (6, _)]) (T := [⟨[.old 0], _, [], [], [20]⟩, ⟨[.op 0 0, .old 1], _, [7], [0], [6]⟩, ⟨[], _, [], [0, 1], [7]⟩]) (F := [.op 1 0, .op 2 0]) (hst.pick [1, 3] rfl) hb Zb
     (o_p rfl (Zf Zis rfl rfl u_0) <| o_p rfl (Z6 Zis rfl rfl u_1 u_0) <| o_p rfl (Zc rfl rfl c_i) <| o_n) (by kernel_rfl) (fun a g hst hb => ?_)
   refine wp_ret ?_
   refine Zn ?_
   obtain rfl := Option.some.inj H0
   obtain ⟨u0, hu0, hq0⟩ := Zbh (P := Tryd.prog) Zis (hst.at 0 rfl)
   exact Zex rfl hst hb hu0 (Zm (s := 7)) (Zde hq0 (hst.at 1 rfl))
 · replace H0 := Zz hc1 H0
   refine wp_skip ?_
   refine Zu ?_
   obtain ⟨r2, h3, H0⟩ := Zh H0
   refine r_s (L := [(1, _), (3, _), (5, _), (6, _)]) (T := [⟨[.old 2], _, [], [], [21]⟩, ⟨[.op 0 0], _, [], [0], [22]⟩, ⟨[.op 1 0], _, [], [0, 1], [8]⟩]) (F := [.old 0, .old 1, .old 2, .old 3, .op 2 0]) (hst.pick [0, 1, 2, 3] rfl) hb Zb
     (o_p rfl (Zf Zbi rfl rfl u_0) <| o_p rfl (Zp Z62 (Zof _ h3) rfl rfl (.cons u_0 .nil)) <| o_p rfl (Zc rfl rfl u_0) <| o_n) (by kernel_rfl) (fun a g hst hb => ?_)
   refine wp_seq ?_
   refine r_s (T := [⟨[.old 4], _, [], [], [23]⟩, ⟨[.op 0 0], _, [], [0], [24]⟩]) (F := [.old 0, .old 1, .old 2, .old 3, .old 4, .op 1 0]) hst hb Zb
     (o_p rfl (Za rfl rfl u_0) <| o_p rfl (Zer rfl rfl u_0 c_i) <| o_n) (by kernel_rfl) (fun a g hst hb => ?_)
   refine wp_cond_split (hst.bool 5 rfl) (fun hc4 => ?_) (fun hc4 => ?_)
   · replace H0 := Z0 hc4 H0
     refine r_s (L := [(3, _), (6, _), (8, _)]) (T := [⟨[.old 0], _, [], [], [25]⟩, ⟨[.old 2], _, [], [], [26]⟩, ⟨[.op 0 0, .old 1], _, [7], [0], [6]⟩, ⟨[.op 1 0], _, [], [0, 1, 2], [7]⟩]) (F := [.op 2 0, .op 3 0]) (hst.pick [1, 3, 4] rfl) hb Zb
       (o_p rfl (Zf Zis rfl rfl u_0) <| o_p rfl (Za rfl rfl u_0) <| o_p rfl (Z6 Zis rfl rfl u_1 u_0) <| o_p rfl (Zc rfl rfl u_0) <| o_n) (by kernel_rfl) (fun a g hst hb => ?_)
     refine wp_ret ?_
     refine Zn ?_
     obtain rfl := Option.some.inj H0
     obtain ⟨u0, hu0, hq0⟩ := Zbh (P := Tryd.prog) Zis (hst.at 0 rfl)
     exact Zex rfl hst hb hu0 (Zm (s := 7)) (Zde hq0 (hst.at 1 rfl))
   · replace H0 := Zz hc4 H0
     refine wp_skip ?_
     refine Zu ?_
     obtain ⟨r5, h6, H0⟩ := Zh H0
     refine r_s (L := [(1, _), (3, _), (5, _), (6, _)]) (T := [⟨[.old 1], _, [], [], [27]⟩, ⟨[.old 0], _, [], [], [28]⟩, ⟨[.op 0 0, .op 1 0], _, [], [0, 1], [29]⟩, ⟨[.op 2 0], _, [], [0, 1, 2], [9]⟩]) (F := [.old 0, .old 1, .old 2, .old 3, .op 3 0]) (hst.pick [0, 1, 2, 3] rfl) hb Zb
       (o_p rfl (Zf Zis rfl rfl u_0) <| o_p rfl (Za rfl rfl u_0) <| o_p rfl (Zp Z8r (Zmj _ _ h6) rfl rfl (.cons u_0 (.cons u_1 .nil))) <| o_p rfl (Zc rfl rfl u_0) <| o_n) (by kernel_rfl) (fun a g hst hb => ?_)
     obtain ⟨e7, h8, H0⟩ := Zh H0
     refine r_s (T := ⟨[.old 4], _, [], [], [30]⟩ :: ⟨[.old 1], _, [], [], [31]⟩ :: ⟨[.op 1 0], _, [], [1], [32]⟩ :: ⟨[.op 2 0], _, [], [1, 2], [33]⟩ :: ⟨[.op 0 0, .op 3 0], _, [], Lr 4, [34]⟩ :: ⟨[.op 4 0], _, [], Lr 5, [35]⟩ :: ⟨[.op 5 0, .old 1], _, [], Lr 6, [36]⟩ :: ⟨[.op 5 0, .op 6 0], _, [], Lr 7, [37]⟩ :: ⟨[.op 5 0, .old 4], _, [], Lr 6, [38]⟩ :: ⟨[.op 5 0, .op 7 0, .op 8 0], _, [], Lr 9, [39]⟩ :: ⟨[.op 5 0, .op 9 0], _, [], Lr 10, [40]⟩ :: ⟨[.op 5 0, .op 10 0], _, [], Lr 11, [41]⟩ :: ⟨[.op 5 0, .old 0], _, [], Lr 6, [42]⟩ :: ⟨[.op 5 0, .op 11 0, .op 12 0], _, [], Lr 13, [43]⟩ :: ⟨[.op 5 0, .op 13 0], _, [], Lr 14, [44]⟩ :: ⟨[.op 14 0], _, [], Lr 15, [10]⟩ :: []) (F := [.old 0, .old 1, .old 2, .old 3, .old 4, .op 15 0]) hst hb Zb
       (o_p rfl (Za rfl rfl u_0) <| o_p rfl (Ze Zlq rfl rfl u_0) <| o_p rfl (Zf Zom rfl rfl u_0) <| o_p rfl (Zb3 Tryd.underlying22 rfl rfl u_0) <| o_p rfl (Zc2 rfl rfl u_0 u_1) <| o_p rfl (Za rfl rfl u_0) <| o_g (g_t rfl rfl rfl (fun hG => Ze Zlq rfl rfl u_0)) <| o_g (g_t rfl rfl rfl (fun hG => Zf Zom rfl rfl (Opd.gd hG u_0))) <| o_g (g_t rfl rfl rfl (fun hG => Za rfl rfl u_0)) <| o_g (g_t rfl rfl rfl (fun hG => Zbv Tryd.underlying22 Zsm rfl rfl (Opd.gd hG u_0) (Opd.gd hG u_1) (Zbq h8 hG))) <| o_g (g_t rfl rfl rfl (fun hG => Ze Zoc rfl rfl (Opd.gd hG u_0))) <| o_g (g_t rfl rfl rfl (fun hG => Zf ty_9 rfl rfl (Opd.gd hG u_0))) <| o_g (g_t rfl rfl rfl (fun hG => Za rfl rfl u_0)) <| o_g (g_t rfl rfl rfl (fun hG => Zl2 rfl rfl (Opd.gd hG u_0) (Opd.gd hG u_1))) <| o_p rfl (Zbj rfl rfl u_0 (fun hz => (Opd.gd hz u_1))) <| o_p rfl (Zc rfl rfl u_0) <| o_n) (by kernel_rfl) (fun a g hst hb => ?_)
     refine wp_seq ?_
     refine r_s (T := [⟨[.old 5], _, [], [], [45]⟩, ⟨[.op 0 0], _, [], [0], [46]⟩, ⟨[.op 1 0], _, [], [0, 1], [47]⟩, ⟨[.op 2 0, .old 1], _, [], [0, 1, 2], [48]⟩, ⟨[.op 2 0, .op 3 0], _, [], Lr 4, [49]⟩, ⟨[.op 2 0, .op 4 0], _, [], Lr 5, [50]⟩, ⟨[.op 2 0, .old 1], _, [], [0, 1, 2], [51]⟩, ⟨[.op 2 0, .op 6 0], _, [], [0, 1, 2, 6], [52]⟩, ⟨[.op 2 0, .op 5 0, .op 7 0], _, [], Lr 8, [53]⟩, ⟨[.op 2 0, .op 8 0], _, [], Lr 9, [54]⟩]) (F := [.old 0, .old 1, .old 2, .old 3, .old 4, .old 5, .op 9 0]) hst hb Zb
       (o_p rfl (Za rfl rfl u_0) <| o_p rfl (Zcn rfl rfl u_0) <| o_p rfl (Za rfl rfl u_0) <| o_g (g_t rfl rfl rfl (fun hG => Ze Zlq rfl rfl u_0)) <| o_g (g_t rfl rfl rfl (fun hG => Zf Zom rfl rfl (Opd.gd hG u_0))) <| o_g (g_t rfl rfl rfl (fun hG => Zb3 Tryd.underlying22 rfl rfl (Opd.gd hG u_0))) <| o_g (g_t rfl rfl rfl (fun hG => Ze Zx1 rfl rfl u_0)) <| o_g (g_t rfl rfl rfl (fun hG => Zf ty_3 rfl rfl (Opd.gd hG u_0))) <| o_g (g_t rfl rfl rfl (fun hG => Zso rfl rfl (Opd.gd hG u_0) (Opd.gd hG u_1))) <| o_p rfl (Zbj rfl rfl u_0 (fun hz => (Opd.gd hz u_1))) <| o_n) (by kernel_rfl) (fun a g hst hb => ?_)
     refine wp_cond_split (hst.bool 6 rfl) (fun hc9 => ?_) (fun hc9 => ?_)
     · replace H0 := Z0 hc9 H0
       refine r_s (L := [(3, _), (6, _)]) (T := [⟨[.old 0], _, [], [], [55]⟩, ⟨[.op 0 0, .old 1], _, [7], [0], [6]⟩, ⟨[], _, [], [0, 1], [7]⟩]) (F := [.op 1 0, .op 2 0]) (hst.pick [1, 3] rfl) hb Zb
         (o_p rfl (Zf Zis rfl rfl u_0) <| o_p rfl (Z6 Zis rfl rfl u_1 u_0) <| o_p rfl (Zc rfl rfl c_i) <| o_n) (by kernel_rfl) (fun a g hst hb => ?_)
       refine wp_ret ?_
       refine Zn ?_
       obtain rfl := Option.some.inj H0
       obtain ⟨u0, hu0, hq0⟩ := Zbh (P := Tryd.prog) Zis (hst.at 0 rfl)
       exact Zex rfl hst hb hu0 (Zm (s := 7)) (Zde hq0 (hst.at 1 rfl))
     · replace H0 := Zz hc9 H0
       refine wp_skip ?_
       refine Zu ?_
       obtain ⟨c10, h11, H0⟩ := Zh H0; obtain ⟨h12, H0⟩ := Zkd H0
       refine r_s (L := [(1, _), (3, _), (5, _), (6, _), (9, _), (10, _)]) (T := [⟨[], _, [57], [], [56]⟩, ⟨[.old 1], _, [], [], [57]⟩, ⟨[.op 1 0], _, [], [1], [58]⟩, ⟨[.old 4], _, [], [], [59]⟩, ⟨[.op 2 0, .op 3 0], _, [], [1, 2, 3], [60]⟩, ⟨[.op 0 0, .op 4 0], _, [57], Lr 5, [56, 61]⟩, ⟨[.op 5 0], _, [], Lr 6, [11]⟩]) (F := [.old 0, .old 1, .old 2, .old 3, .old 4, .old 5, .op 6 0]) (hst.pick [0, 1, 2, 3, 4, 5] rfl) hb Zb
         (o_p rfl (Zt1 56 Zs0 (xs := []) .nil (by decide) rfl rfl) <| o_p rfl (Ze Zlq rfl rfl u_0) <| o_p rfl (Zf Zom rfl rfl u_0) <| o_p rfl (Za rfl rfl u_0) <| o_p rfl (Zx6 Tryd.underlying22 Zsm rfl rfl u_0 u_1 h11) <| o_p rfl (Zk0 Zs0 rfl rfl u_0 u_1 h12) <| o_p rfl (Zc rfl rfl u_0) <| o_n) (by kernel_rfl) (fun a g hst hb => ?_)
       obtain ⟨h13, H0⟩ := Zkd H0
       refine r_s (T := [⟨[.old 6], _, [], [], [62]⟩, ⟨[.old 0], _, [], [], [63]⟩, ⟨[.old 2], _, [], [], [64]⟩, ⟨[.op 1 0, .op 2 0], _, [], [1, 2], [65]⟩, ⟨[.op 3 0], _, [], [1, 2, 3], [66]⟩, ⟨[.op 0 0, .op 4 0], _, [57], Lr 5, [11, 62, 67]⟩, ⟨[.op 5 0], _, [], Lr 6, [11]⟩]) (F := [.old 1, .old 3, .old 4, .old 5, .op 6 0]) hst hb Zb
         (o_p rfl (Za rfl rfl u_0) <| o_p rfl (Za rfl rfl u_0) <| o_p rfl (Zf Zbi rfl rfl u_0) <| o_p rfl (Z1n rfl rfl u_0 u_1) <| o_p rfl (Zjl Zs0 (xs := [.tmp 65]) (.cons u_0 .nil) (by decide) rfl rfl) <| o_p rfl (Zk0 Zs0 rfl rfl u_0 u_1 h13) <| o_p rfl (Zc rfl rfl u_0) <| o_n) (by kernel_rfl) (fun a g hst hb => ?_)
       refine wp_seq ?_
       refine r_s (T := [⟨[.old 3], _, [], [], [68]⟩]) (F := [.old 0, .old 1, .old 2, .old 4, .op 0 0]) hst hb Zb
         (o_p rfl (Za rfl rfl u_0) <| o_n) (by kernel_rfl) (fun a g hst hb => ?_)
       refine Zc0 (fun a w => ∃ (j15 : Int) (g : G), w = g.w ∧ St 80 [(3, (Zbr.ptr a0)), (6, (pBox Zbr 6 (default : Zl))), (9, (pInt .i64 j15)), (11, (pRow Zbx 66 56 ((([] : List Z5) ++ c10) ++ ([({ Key := a1, Rec := a2 } : Z5)] : List Z5))))] a g ∧ Base g0 g ∧ Zd0 a0 a1 a2 c10 j15 = some r) ?_ ?_
       · rintro a w ⟨j15, g, rfl, hst, hb, H0⟩
         unfold Zd0 at H0
         refine Zu ?_
         obtain ⟨c16, h17, H0⟩ := Zh H0; obtain ⟨h18, H0⟩ := Zkd H0
         refine r_s (T := [⟨[.old 3], _, [], [], [71]⟩, ⟨[.old 0], _, [], [], [72]⟩, ⟨[.op 1 0], _, [], [1], [73]⟩, ⟨[.old 2], _, [], [], [74]⟩, ⟨[.op 2 0, .op 3 0], _, [], [1, 2, 3], [75]⟩, ⟨[.op 0 0, .op 4 0], _, [57], Lr 5, [11, 71, 76]⟩, ⟨[.old 0], _, [], [], [77]⟩, ⟨[.op 6 0], _, [], [6], [78]⟩, ⟨[.op 5 0, .op 7 0], _, [], Lr 8, [79]⟩, ⟨[.op 8 0, .old 1], _, [7], Lr 9, [6]⟩, ⟨[], _, [], Lr 10, [7]⟩]) (F := [.op 9 0, .op 10 0]) hst hb Zb
           (o_p rfl (Za rfl rfl u_0) <| o_p rfl (Ze Zlq rfl rfl u_0) <| o_p rfl (Zf Zom rfl rfl u_0) <| o_p rfl (Za rfl rfl u_0) <| o_p rfl (Z5g Tryd.underlying22 Zsm rfl rfl u_0 u_1 h17) <| o_p rfl (Zk0 Zs0 rfl rfl u_0 u_1 h18) <| o_p rfl (Ze Zx1 rfl rfl u_0) <| o_p rfl (Zf ty_3 rfl rfl u_0) <| o_p rfl (Z1c rfl rfl (Opd.imp u_0 (fun _ _ h => Zpl h)) u_1) <| o_p rfl (Z6 Zis rfl rfl u_1 u_0) <| o_p rfl (Zc rfl rfl c_i) <| o_n) (by kernel_rfl) (fun a g hst hb => ?_)
         refine wp_ret ?_
         obtain rfl := Option.some.inj H0
         obtain ⟨u0, hu0, hq0⟩ := Zbh (P := Tryd.prog) Zis (hst.at 0 rfl)
         exact Zex rfl hst hb hu0 (Zm (s := 7)) (Zde hq0 (hst.at 1 rfl))
       · refine wp_cond_split (hst.bool 4 rfl) (fun hc14 => ?_) (fun hc14 => ?_)
         · replace H0 := Z0 hc14 H0
           refine r_g (L := [(3, _), (6, _), (9, _), (11, _)]) (T := [⟨[.old 2], _, [], [], [69]⟩, ⟨[.op 0 0], _, [], [0], [70]⟩, ⟨[.op 1 0], _, [], [0, 1], [9]⟩]) (F := [.old 0, .old 1, .op 2 0, .old 3]) (hst.pick [0, 1, 2, 3] rfl) hb Zb
             (o_p rfl (Za rfl rfl u_0) <| o_p rfl (Zce rfl rfl u_0 c_i rfl) <| o_p rfl (Zc rfl rfl u_0) <| o_n) (by kernel_rfl) (fun a g hst hb => ?_)
           exact ⟨(IntKind.i64.wrap (r5 + (1 : Int))), g, rfl, (hst.pick [0, 1, 2, 3] rfl), hb, H0⟩
         · replace H0 := Zz hc14 H0
           refine wp_skip ?_
           exact ⟨r5, g, rfl, (hst.pick [0, 1, 2, 3] rfl), hb, H0⟩
end Go.CL
