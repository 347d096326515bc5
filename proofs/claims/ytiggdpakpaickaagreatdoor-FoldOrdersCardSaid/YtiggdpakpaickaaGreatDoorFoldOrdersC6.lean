/- A part of the proof of FoldOrders. -/
import Derived.Test.YtiggdpakpaickaaGreatDoorFoldOrdersC5
set_option linter.unusedVariables false
set_option linter.unusedSimpArgs false
set_option maxRecDepth 100000
namespace Go.CL
open Go Go.RowKit Go.Proofs
theorem Zko (a0 : Zj) (a1 : ByteArray) (a2 : Ze) {r : Zj × Int} (h : Zem a0 a1 a2 = some r) : FnOk Tryz.prog 25 [(Z6.pd a0), (pStr a1), (Zi.pd a2)] (pTup [(Z6.pd r.1), (pInt .i64 r.2)]) := by
 have H0 := h
 unfold Zem at H0
 clear h
 refine Zbp (N := 80) Tryz.func25 rfl rfl (Nat.le_of_ble_eq_true rfl) rfl rfl (fun a g0 hst hb => ?_)
 refine r_s (T := [⟨[.old 0], _, [], [], [3]⟩, ⟨[.old 2], _, [], [], [5]⟩, ⟨[], [(6, (pBox Z6 6 (default : Zj)))], [7], [], [6]⟩, ⟨[], _, [], [], [7]⟩]) (F := [.old 1, .op 0 0, .op 1 0, .op 2 0]) hst hb Za
   (o_p rfl (Zbj rfl rfl u_0) <| o_p rfl (Zbj rfl rfl u_0) <| o_p rfl (Zbd (zs := [.slice none 0 0, .int .i64 0]) (by kernel_rfl) (fun g => Zez g) rfl rfl) <| o_p rfl (Zc rfl rfl c_i) <| o_n) (by kernel_rfl) (fun a g hst hb => ?_)
 refine wp_seq ?_
 refine r_s (T := [⟨[.old 0], _, [], [], [12]⟩, ⟨[.op 0 0], _, [], [0], [13]⟩, ⟨[.op 1 0], _, [], [0, 1], [14]⟩, ⟨[.op 2 0], _, [], [0, 1, 2], [15]⟩, ⟨[.op 3 0, .old 0], _, [], Lr 4, [16]⟩, ⟨[.op 3 0, .op 4 0], _, [], Lr 5, [17]⟩, ⟨[.op 3 0, .op 5 0], _, [], Lr 6, [18]⟩, ⟨[.op 3 0, .op 6 0], _, [], Lr 7, [19]⟩]) (F := [.old 0, .old 1, .old 2, .old 3, .op 7 0]) hst hb Za
   (o_p rfl (Zb rfl rfl u_0) <| o_p rfl (Ze3 Tryz.underlying9 rfl rfl u_0) <| o_p rfl (Zcc rfl rfl u_0 c_i) <| o_p rfl (Zb rfl rfl u_0) <| o_g (g_f rfl rfl rfl (fun hG => Zb rfl rfl u_0)) <| o_g (g_f rfl rfl rfl (fun hG => Ze3 Tryz.underlying9 rfl rfl (Opd.gd hG u_0))) <| o_g (g_f rfl rfl rfl (fun hG => Zck rfl rfl (Opd.gd hG u_0) c_i)) <| o_p rfl (Zbt rfl rfl u_0 (fun hz => (Opd.gd (bNF hz) u_1))) <| o_n) (by kernel_rfl) (fun a g hst hb => ?_)
 refine wp_cond_split (hst.bool 4 rfl) (fun hc1 => ?_) (fun hc1 => ?_)
 · replace H0 := Zw hc1 H0
   refine r_s (L := [(3, _), (6, _)]) (T := [⟨[.old 0], _, [], [], [20]⟩, ⟨[.op 0 0, .old 1], _, [7], [0], [6]⟩, ⟨[], _, [], [0, 1], [7]⟩]) (F := [.op 1 0, .op 2 0]) (hst.pick [1, 3] rfl) hb Za
     (o_p rfl (Zf Zcl rfl rfl u_0) <| o_p rfl (Zz Zcl rfl rfl u_1 u_0) <| o_p rfl (Zc rfl rfl c_i) <| o_n) (by kernel_rfl) (fun a g hst hb => ?_)
   refine wp_ret ?_
   refine Zq ?_
   obtain rfl := Option.some.inj H0
   obtain ⟨u0, hu0, hq0⟩ := Z8 (P := Tryz.prog) Zcl (hst.at 0 rfl)
   exact Zda rfl hst hb hu0 (Zk (s := 7)) (Zcn hq0 (hst.at 1 rfl))
 · replace H0 := Zx hc1 H0
   refine wp_skip ?_
   refine Zr ?_
   obtain ⟨r2, h3, H0⟩ := Zh H0
   refine r_s (L := [(1, _), (3, _), (5, _), (6, _)]) (T := [⟨[.old 2], _, [], [], [21]⟩, ⟨[.op 0 0], _, [], [0], [22]⟩, ⟨[.op 1 0], _, [], [0, 1], [8]⟩]) (F := [.old 0, .old 1, .old 2, .old 3, .op 2 0]) (hst.pick [0, 1, 2, 3] rfl) hb Za
     (o_p rfl (Zf Zbb rfl rfl u_0) <| o_p rfl (Zn Z1f (Zj5 _ h3) rfl rfl (.cons u_0 .nil)) <| o_p rfl (Zc rfl rfl u_0) <| o_n) (by kernel_rfl) (fun a g hst hb => ?_)
   refine wp_seq ?_
   refine r_s (T := [⟨[.old 4], _, [], [], [23]⟩, ⟨[.op 0 0], _, [], [0], [24]⟩]) (F := [.old 0, .old 1, .old 2, .old 3, .old 4, .op 1 0]) hst hb Za
     (o_p rfl (Zb rfl rfl u_0) <| o_p rfl (Zc6 rfl rfl u_0 c_i) <| o_n) (by kernel_rfl) (fun a g hst hb => ?_)
   refine wp_cond_split (hst.bool 5 rfl) (fun hc4 => ?_) (fun hc4 => ?_)
   · replace H0 := Zw hc4 H0
     refine r_s (L := [(3, _), (6, _), (8, _)]) (T := [⟨[.old 0], _, [], [], [25]⟩, ⟨[.old 2], _, [], [], [26]⟩, ⟨[.op 0 0, .old 1], _, [7], [0], [6]⟩, ⟨[.op 1 0], _, [], [0, 1, 2], [7]⟩]) (F := [.op 2 0, .op 3 0]) (hst.pick [1, 3, 4] rfl) hb Za
       (o_p rfl (Zf Zcl rfl rfl u_0) <| o_p rfl (Zb rfl rfl u_0) <| o_p rfl (Zz Zcl rfl rfl u_1 u_0) <| o_p rfl (Zc rfl rfl u_0) <| o_n) (by kernel_rfl) (fun a g hst hb => ?_)
     refine wp_ret ?_
     refine Zq ?_
     obtain rfl := Option.some.inj H0
     obtain ⟨u0, hu0, hq0⟩ := Z8 (P := Tryz.prog) Zcl (hst.at 0 rfl)
     exact Zda rfl hst hb hu0 (Zk (s := 7)) (Zcn hq0 (hst.at 1 rfl))
   · replace H0 := Zx hc4 H0
     refine wp_skip ?_
     refine Zr ?_
     obtain ⟨r5, h6, H0⟩ := Zh H0
     refine r_s (L := [(1, _), (3, _), (5, _), (6, _)]) (T := [⟨[.old 1], _, [], [], [27]⟩, ⟨[.old 0], _, [], [], [28]⟩, ⟨[.op 0 0, .op 1 0], _, [], [0, 1], [29]⟩, ⟨[.op 2 0], _, [], [0, 1, 2], [9]⟩]) (F := [.old 0, .old 1, .old 2, .old 3, .op 3 0]) (hst.pick [0, 1, 2, 3] rfl) hb Za
       (o_p rfl (Zf Zcl rfl rfl u_0) <| o_p rfl (Zb rfl rfl u_0) <| o_p rfl (Zn Z0p (Zh5 _ _ h6) rfl rfl (.cons u_0 (.cons u_1 .nil))) <| o_p rfl (Zc rfl rfl u_0) <| o_n) (by kernel_rfl) (fun a g hst hb => ?_)
     obtain ⟨e7, h8, H0⟩ := Zh H0
     refine r_s (T := ⟨[.old 4], _, [], [], [30]⟩ :: ⟨[.old 1], _, [], [], [31]⟩ :: ⟨[.op 1 0], _, [], [1], [32]⟩ :: ⟨[.op 2 0], _, [], [1, 2], [33]⟩ :: ⟨[.op 0 0, .op 3 0], _, [], Lr 4, [34]⟩ :: ⟨[.op 4 0], _, [], Lr 5, [35]⟩ :: ⟨[.op 5 0, .old 1], _, [], Lr 6, [36]⟩ :: ⟨[.op 5 0, .op 6 0], _, [], Lr 7, [37]⟩ :: ⟨[.op 5 0, .old 4], _, [], Lr 6, [38]⟩ :: ⟨[.op 5 0, .op 7 0, .op 8 0], _, [], Lr 9, [39]⟩ :: ⟨[.op 5 0, .op 9 0], _, [], Lr 10, [40]⟩ :: ⟨[.op 5 0, .op 10 0], _, [], Lr 11, [41]⟩ :: ⟨[.op 5 0, .old 0], _, [], Lr 6, [42]⟩ :: ⟨[.op 5 0, .op 11 0, .op 12 0], _, [], Lr 13, [43]⟩ :: ⟨[.op 5 0, .op 13 0], _, [], Lr 14, [44]⟩ :: ⟨[.op 14 0], _, [], Lr 15, [10]⟩ :: []) (F := [.old 0, .old 1, .old 2, .old 3, .old 4, .op 15 0]) hst hb Za
       (o_p rfl (Zb rfl rfl u_0) <| o_p rfl (Zd Zgc rfl rfl u_0) <| o_p rfl (Zf Zi0 rfl rfl u_0) <| o_p rfl (Zbu Tryz.underlying22 rfl rfl u_0) <| o_p rfl (Zcc rfl rfl u_0 u_1) <| o_p rfl (Zb rfl rfl u_0) <| o_g (g_t rfl rfl rfl (fun hG => Zd Zgc rfl rfl u_0)) <| o_g (g_t rfl rfl rfl (fun hG => Zf Zi0 rfl rfl (Opd.gd hG u_0))) <| o_g (g_t rfl rfl rfl (fun hG => Zb rfl rfl u_0)) <| o_g (g_t rfl rfl rfl (fun hG => Zbf Tryz.underlying22 Zl4 rfl rfl (Opd.gd hG u_0) (Opd.gd hG u_1) (Zbm h8 hG))) <| o_g (g_t rfl rfl rfl (fun hG => Zd Zlp rfl rfl (Opd.gd hG u_0))) <| o_g (g_t rfl rfl rfl (fun hG => Zf ty_9 rfl rfl (Opd.gd hG u_0))) <| o_g (g_t rfl rfl rfl (fun hG => Zb rfl rfl u_0)) <| o_g (g_t rfl rfl rfl (fun hG => Zkl rfl rfl (Opd.gd hG u_0) (Opd.gd hG u_1))) <| o_p rfl (Zbc rfl rfl u_0 (fun hz => (Opd.gd hz u_1))) <| o_p rfl (Zc rfl rfl u_0) <| o_n) (by kernel_rfl) (fun a g hst hb => ?_)
     refine wp_seq ?_
     refine r_s (T := [⟨[.old 5], _, [], [], [45]⟩, ⟨[.op 0 0], _, [], [0], [46]⟩, ⟨[.op 1 0], _, [], [0, 1], [47]⟩, ⟨[.op 2 0, .old 1], _, [], [0, 1, 2], [48]⟩, ⟨[.op 2 0, .op 3 0], _, [], Lr 4, [49]⟩, ⟨[.op 2 0, .op 4 0], _, [], Lr 5, [50]⟩, ⟨[.op 2 0, .old 1], _, [], [0, 1, 2], [51]⟩, ⟨[.op 2 0, .op 6 0], _, [], [0, 1, 2, 6], [52]⟩, ⟨[.op 2 0, .op 5 0, .op 7 0], _, [], Lr 8, [53]⟩, ⟨[.op 2 0, .op 8 0], _, [], Lr 9, [54]⟩]) (F := [.old 0, .old 1, .old 2, .old 3, .old 4, .old 5, .op 9 0]) hst hb Za
       (o_p rfl (Zb rfl rfl u_0) <| o_p rfl (Zb7 rfl rfl u_0) <| o_p rfl (Zb rfl rfl u_0) <| o_g (g_t rfl rfl rfl (fun hG => Zd Zgc rfl rfl u_0)) <| o_g (g_t rfl rfl rfl (fun hG => Zf Zi0 rfl rfl (Opd.gd hG u_0))) <| o_g (g_t rfl rfl rfl (fun hG => Zbu Tryz.underlying22 rfl rfl (Opd.gd hG u_0))) <| o_g (g_t rfl rfl rfl (fun hG => Zd Zpg rfl rfl u_0)) <| o_g (g_t rfl rfl rfl (fun hG => Zf ty_3 rfl rfl (Opd.gd hG u_0))) <| o_g (g_t rfl rfl rfl (fun hG => Zk4 rfl rfl (Opd.gd hG u_0) (Opd.gd hG u_1))) <| o_p rfl (Zbc rfl rfl u_0 (fun hz => (Opd.gd hz u_1))) <| o_n) (by kernel_rfl) (fun a g hst hb => ?_)
     refine wp_cond_split (hst.bool 6 rfl) (fun hc9 => ?_) (fun hc9 => ?_)
     · replace H0 := Zw hc9 H0
       refine r_s (L := [(3, _), (6, _)]) (T := [⟨[.old 0], _, [], [], [55]⟩, ⟨[.op 0 0, .old 1], _, [7], [0], [6]⟩, ⟨[], _, [], [0, 1], [7]⟩]) (F := [.op 1 0, .op 2 0]) (hst.pick [1, 3] rfl) hb Za
         (o_p rfl (Zf Zcl rfl rfl u_0) <| o_p rfl (Zz Zcl rfl rfl u_1 u_0) <| o_p rfl (Zc rfl rfl c_i) <| o_n) (by kernel_rfl) (fun a g hst hb => ?_)
       refine wp_ret ?_
       refine Zq ?_
       obtain rfl := Option.some.inj H0
       obtain ⟨u0, hu0, hq0⟩ := Z8 (P := Tryz.prog) Zcl (hst.at 0 rfl)
       exact Zda rfl hst hb hu0 (Zk (s := 7)) (Zcn hq0 (hst.at 1 rfl))
     · replace H0 := Zx hc9 H0
       refine wp_skip ?_
       refine Zr ?_
       obtain ⟨c10, h11, H0⟩ := Zh H0; obtain ⟨h12, H0⟩ := Zge H0
       refine r_s (L := [(1, _), (3, _), (5, _), (6, _), (9, _), (10, _)]) (T := [⟨[], _, [57], [], [56]⟩, ⟨[.old 1], _, [], [], [57]⟩, ⟨[.op 1 0], _, [], [1], [58]⟩, ⟨[.old 4], _, [], [], [59]⟩, ⟨[.op 2 0, .op 3 0], _, [], [1, 2, 3], [60]⟩, ⟨[.op 0 0, .op 4 0], _, [57], Lr 5, [56, 61]⟩, ⟨[.op 5 0], _, [], Lr 6, [11]⟩]) (F := [.old 0, .old 1, .old 2, .old 3, .old 4, .old 5, .op 6 0]) (hst.pick [0, 1, 2, 3, 4, 5] rfl) hb Za
         (o_p rfl (Zkz 56 Zog (xs := []) .nil (by decide) rfl rfl) <| o_p rfl (Zd Zgc rfl rfl u_0) <| o_p rfl (Zf Zi0 rfl rfl u_0) <| o_p rfl (Zb rfl rfl u_0) <| o_p rfl (Zrr Tryz.underlying22 Zl4 rfl rfl u_0 u_1 h11) <| o_p rfl (Zft Zog rfl rfl u_0 u_1 h12) <| o_p rfl (Zc rfl rfl u_0) <| o_n) (by kernel_rfl) (fun a g hst hb => ?_)
       obtain ⟨h13, H0⟩ := Zge H0
       refine r_s (T := [⟨[.old 6], _, [], [], [62]⟩, ⟨[.old 0], _, [], [], [63]⟩, ⟨[.old 2], _, [], [], [64]⟩, ⟨[.op 1 0, .op 2 0], _, [], [1, 2], [65]⟩, ⟨[.op 3 0], _, [], [1, 2, 3], [66]⟩, ⟨[.op 0 0, .op 4 0], _, [57], Lr 5, [11, 62, 67]⟩, ⟨[.op 5 0], _, [], Lr 6, [11]⟩]) (F := [.old 1, .old 3, .old 4, .old 5, .op 6 0]) hst hb Za
         (o_p rfl (Zb rfl rfl u_0) <| o_p rfl (Zb rfl rfl u_0) <| o_p rfl (Zf Zbb rfl rfl u_0) <| o_p rfl (Z2t rfl rfl u_0 u_1) <| o_p rfl (Zhi Zog (xs := [.tmp 65]) (.cons u_0 .nil) (by decide) rfl rfl) <| o_p rfl (Zft Zog rfl rfl u_0 u_1 h13) <| o_p rfl (Zc rfl rfl u_0) <| o_n) (by kernel_rfl) (fun a g hst hb => ?_)
       refine wp_seq ?_
       refine r_s (T := [⟨[.old 3], _, [], [], [68]⟩]) (F := [.old 0, .old 1, .old 2, .old 4, .op 0 0]) hst hb Za
         (o_p rfl (Zb rfl rfl u_0) <| o_n) (by kernel_rfl) (fun a g hst hb => ?_)
       refine Zb8 (fun a w => ∃ (j15 : Int) (g : G), w = g.w ∧ St 80 [(3, (Z6.ptr a0)), (6, (pBox Z6 6 (default : Zj))), (9, (pInt .i64 j15)), (11, (pRow Zb1 75 56 ((([] : List Z9) ++ c10) ++ ([({ Key := a1, Rec := a2 } : Z9)] : List Z9))))] a g ∧ Base g0 g ∧ Zeo a0 a1 a2 c10 j15 = some r) ?_ ?_
       · rintro a w ⟨j15, g, rfl, hst, hb, H0⟩
         unfold Zeo at H0
         refine Zr ?_
         obtain ⟨c16, h17, H0⟩ := Zh H0; obtain ⟨h18, H0⟩ := Zge H0
         refine r_s (T := [⟨[.old 3], _, [], [], [71]⟩, ⟨[.old 0], _, [], [], [72]⟩, ⟨[.op 1 0], _, [], [1], [73]⟩, ⟨[.old 2], _, [], [], [74]⟩, ⟨[.op 2 0, .op 3 0], _, [], [1, 2, 3], [75]⟩, ⟨[.op 0 0, .op 4 0], _, [57], Lr 5, [11, 71, 76]⟩, ⟨[.old 0], _, [], [], [77]⟩, ⟨[.op 6 0], _, [], [6], [78]⟩, ⟨[.op 5 0, .op 7 0], _, [], Lr 8, [79]⟩, ⟨[.op 8 0, .old 1], _, [7], Lr 9, [6]⟩, ⟨[], _, [], Lr 10, [7]⟩]) (F := [.op 9 0, .op 10 0]) hst hb Za
           (o_p rfl (Zb rfl rfl u_0) <| o_p rfl (Zd Zgc rfl rfl u_0) <| o_p rfl (Zf Zi0 rfl rfl u_0) <| o_p rfl (Zb rfl rfl u_0) <| o_p rfl (Zzq Tryz.underlying22 Zl4 rfl rfl u_0 u_1 h17) <| o_p rfl (Zft Zog rfl rfl u_0 u_1 h18) <| o_p rfl (Zd Zpg rfl rfl u_0) <| o_p rfl (Zf ty_3 rfl rfl u_0) <| o_p rfl (Zvo rfl rfl (Opd.imp u_0 (fun _ _ h => Zjw h)) u_1) <| o_p rfl (Zz Zcl rfl rfl u_1 u_0) <| o_p rfl (Zc rfl rfl c_i) <| o_n) (by kernel_rfl) (fun a g hst hb => ?_)
         refine wp_ret ?_
         obtain rfl := Option.some.inj H0
         obtain ⟨u0, hu0, hq0⟩ := Z8 (P := Tryz.prog) Zcl (hst.at 0 rfl)
         exact Zda rfl hst hb hu0 (Zk (s := 7)) (Zcn hq0 (hst.at 1 rfl))
       · refine wp_cond_split (hst.bool 4 rfl) (fun hc14 => ?_) (fun hc14 => ?_)
         · replace H0 := Zw hc14 H0
           refine r_g (L := [(3, _), (6, _), (9, _), (11, _)]) (T := [⟨[.old 2], _, [], [], [69]⟩, ⟨[.op 0 0], _, [], [0], [70]⟩, ⟨[.op 1 0], _, [], [0, 1], [9]⟩]) (F := [.old 0, .old 1, .op 2 0, .old 3]) (hst.pick [0, 1, 2, 3] rfl) hb Za
             (o_p rfl (Zb rfl rfl u_0) <| o_p rfl (Zb3 rfl rfl u_0 c_i rfl) <| o_p rfl (Zc rfl rfl u_0) <| o_n) (by kernel_rfl) (fun a g hst hb => ?_)
           exact ⟨(IntKind.i64.wrap (r5 + (1 : Int))), g, rfl, (hst.pick [0, 1, 2, 3] rfl), hb, H0⟩
         · replace H0 := Zx hc14 H0
           refine wp_skip ?_
           exact ⟨r5, g, rfl, (hst.pick [0, 1, 2, 3] rfl), hb, H0⟩
theorem Zpn (a0 : Int) (a1 : List Z9) {r : Zo × (Option Zj)} (h : Zgs a0 a1 = some r) : FnOk Tryz.prog 7 [(pInt .i64 a0), (Zb1.sl.pd a1)] (pTup [(Z0.pd r.1), (Z6.opt.pd r.2)]) := by
 have H0 := h
 unfold Zgs at H0
 clear h
 refine Zbp (N := 63) Tryz.func7 rfl rfl (Nat.le_of_ble_eq_true rfl) rfl rfl (fun a g0 hst hb => ?_)
 refine r_s (T := [⟨[], [(4, (pBox Z0 4 (default : Zo)))], [5], [], [4]⟩, ⟨[], [(5, (Z6.opt.pd (none : Option Zj)))], [], [], [5]⟩]) (F := [.old 0, .old 1, .op 0 0]) hst hb Za
   (o_p rfl (Zbd (zs := [.pointer none, .int .i64 0]) (by kernel_rfl) (fun g => Zct g) rfl rfl) <| o_p rfl (Zc rfl rfl (Opd.c (fun g => Zq6 g))) <| o_n) (by kernel_rfl) (fun a g hst hb => ?_)
 obtain ⟨r1, h2, H0⟩ := Zh H0
 refine r_s (T := [⟨[.old 0], _, [], [], [12]⟩, ⟨[.op 0 0], _, [], [0], [13]⟩, ⟨[.op 1 0], _, [], [0, 1], [11]⟩, ⟨[.op 2 0], _, [], [0, 1, 2], [14]⟩, ⟨[.op 2 0], _, [], [0, 1, 2], [15]⟩, ⟨[], [(6, (pBox Z0 6 (default : Zo)))], [7], [], [6]⟩, ⟨[.op 3 0, .op 5 0], _, [7], [0, 1, 2, 3, 5], [6]⟩, ⟨[.op 4 0], _, [], Lr 7, [7]⟩]) (F := [.old 0, .old 1, .old 2, .op 6 0, .op 7 0]) hst hb Za
   (o_p rfl (Zb rfl rfl u_0) <| o_p rfl (Zn Z5b (Zql _ h2) rfl rfl (.cons u_0 .nil)) <| o_p rfl (Zb rfl rfl u_0) <| o_p rfl (Z4 rfl rfl u_0 rfl) <| o_p rfl (Z4 rfl rfl u_0 rfl) <| o_p rfl (Zbd (zs := [.pointer none, .int .i64 0]) (by kernel_rfl) (fun g => Zct g) rfl rfl) <| o_p rfl (Zz Zbv rfl rfl u_1 u_0) <| o_p rfl (Zc rfl rfl u_0) <| o_n) (by kernel_rfl) (fun a g hst hb => ?_)
 refine wp_seq ?_
 refine r_s (T := [⟨[.old 4], _, [], [], [16]⟩, ⟨[.op 0 0], _, [], [0], [17]⟩, ⟨[.op 1 0], _, [], [0, 1], [18]⟩, ⟨[.op 2 0, .old 1], _, [], [0, 1, 2], [19]⟩, ⟨[.op 2 0, .op 3 0], _, [], Lr 4, [20]⟩, ⟨[.op 2 0, .op 4 0], _, [], Lr 5, [21]⟩, ⟨[.op 2 0, .op 5 0], _, [], Lr 6, [22]⟩]) (F := [.old 0, .old 1, .old 2, .old 3, .op 6 0]) hst hb Za
   (o_p rfl (Zb rfl rfl u_0) <| o_p rfl (Zc6 rfl rfl u_0 c_i) <| o_p rfl (Zb rfl rfl u_0) <| o_g (g_f rfl rfl rfl (fun hG => Zb rfl rfl u_0)) <| o_g (g_f rfl rfl rfl (fun hG => Zbu Tryz.underlying22 rfl rfl (Opd.gd hG u_0))) <| o_g (g_f rfl rfl rfl (fun hG => Zck rfl rfl (Opd.gd hG u_0) c_i)) <| o_p rfl (Zbt rfl rfl u_0 (fun hz => (Opd.gd (bNF hz) u_1))) <| o_n) (by kernel_rfl) (fun a g hst hb => ?_)
 refine wp_cond_split (hst.bool 4 rfl) (fun hc3 => ?_) (fun hc3 => ?_)
 · replace H0 := Zw hc3 H0
   refine r_s (L := [(4, _), (6, _)]) (T := [⟨[.old 1], _, [], [], [23]⟩, ⟨[.op 0 0, .old 0], _, [5], [0], [4]⟩, ⟨[], [(5, (Z6.opt.pd (none : Option Zj)))], [], [0, 1], [5]⟩]) (F := [.op 1 0, .op 2 0]) (hst.pick [2, 3] rfl) hb Za
     (o_p rfl (Zbw Zbv rfl rfl u_0) <| o_p rfl (Zz Zbv rfl rfl u_1 u_0) <| o_p rfl (Zc rfl rfl (Opd.c (fun g => Zq6 g))) <| o_n) (by kernel_rfl) (fun a g hst hb => ?_)
   refine wp_ret ?_
   refine Zq ?_
   obtain rfl := Option.some.inj H0
   obtain ⟨u0, hu0, hq0⟩ := Z8 (P := Tryz.prog) Zbv (hst.at 0 rfl)
   exact Zda rfl hst hb hu0 (Zk (s := 5)) (Zcn hq0 (hst.at 1 rfl))
 · replace H0 := Zx hc3 H0
   refine wp_skip ?_
   refine Zr ?_
   refine r_s (L := [(0, _), (1, _), (4, _), (6, _)]) (T := [⟨[.old 0], _, [], [], [24]⟩, ⟨[.op 0 0], _, [], [0], [25]⟩, ⟨[], [(8, (pBox Z6 8 (default : Zj)))], [9], [], [8]⟩, ⟨[.op 1 0, .op 2 0], _, [9], [0, 1, 2], [8]⟩]) (F := [.old 1, .old 2, .old 3, .op 3 0]) (hst.pick [0, 1, 2, 3] rfl) hb Za
     (o_p rfl (Zb rfl rfl u_0) <| o_p rfl (Z5v rfl rfl u_0) <| o_p rfl (Zbd (zs := [.slice none 0 0, .int .i64 0]) (by kernel_rfl) (fun g => Zez g) rfl rfl) <| o_p rfl (Zz Zcl rfl rfl u_1 u_0) <| o_n) (by kernel_rfl) (fun a g hst hb => ?_)
   refine wp_seq ?_
   refine r_s (T := [⟨[.old 0], _, [], [], [26]⟩, ⟨[.op 0 0], _, [], [0], [27]⟩, ⟨[], _, [], [], [28]⟩]) (F := [.old 1, .old 2, .old 3, .op 0 0, .op 1 0, .op 2 0]) hst hb Za
     (o_p rfl (Zb rfl rfl u_0) <| o_p rfl (Zbu Tryz.underlying22 rfl rfl u_0) <| o_p rfl (Zb rfl rfl c_i) <| o_n) (by kernel_rfl) (fun a g hst hb => ?_)
   obtain ⟨z21, hz1, H0⟩ := Zh H0
   refine Zb8 (fun a w => ∃ (y18 : Zo) (y19 : Zo) (y20 : Zj) (g : G), w = g.w ∧ St 63 [(4, (pBox Z0 4 y18)), (6, (pBox Z0 6 y19)), (8, (pBox Z6 8 y20))] a g ∧ Base g0 g ∧ (.inr (y18, y19, y20)) = z21) ?_ ?_
   · rintro a w ⟨y18, y19, y20, g, rfl, hst, hb, rfl⟩
     refine Zr ?_
     refine r_s (T := [⟨[.old 1], _, [], [], [62]⟩, ⟨[.op 0 0, .old 0], _, [5], [0], [4]⟩, ⟨[.old 2], _, [9], [0, 1], [5, 8]⟩]) (F := [.op 1 0, .op 2 0]) hst hb Za
       (o_p rfl (Zbw Zbv rfl rfl u_0) <| o_p rfl (Zz Zbv rfl rfl u_1 u_0) <| o_p rfl (Z32 (.inr rfl) rfl u_0) <| o_n) (by kernel_rfl) (fun a g hst hb => ?_)
     refine wp_ret ?_
     obtain rfl := Option.some.inj H0
     obtain ⟨u0, hu0, hq0⟩ := Z8 (P := Tryz.prog) Zbv (hst.at 0 rfl)
     exact Zda rfl hst hb hu0 (Zk (s := 5)) (Zcn hq0 (hst.at 1 rfl))
   · refine wp_block ?_
     refine wp_loop_ghost (fun n a w => ∃ (x4 : Zo) (x5 : Zo) (x6 : Zj) (x7 : Int) (g : G), w = g.w ∧ St 63 [(4, (pBox Z0 4 x4)), (6, (pBox Z0 6 x5)), (8, (pBox Z6 8 x6)), (26, (Zb1.sl.pd a1)), (27, (pInt .i64 (a1.length : Int))), (28, (pInt .i64 x7))] a g ∧ Base g0 g ∧ Zdm a1 n x4 x5 x6 x7 = some z21) (Int.toNat ((a1.length : Int) - (0 : Int)) + 1) ⟨(default : Zo), r1.1, ({ L := ([] : List Z9), Room := a0 } : Zj), (0 : Int), g, rfl, (hst.pick [0, 1, 2, 3, 4, 5] rfl), hb, hz1⟩ (fun n a w hI => ?_)
     obtain ⟨x4, x5, x6, x7, g, rfl, hst, hb, H1⟩ := hI
     cases n with
     | zero => exact absurd H1 (by simp [Zdm])
     | succ n =>
       rw [Zdm] at H1
       refine r_s (T := [⟨[.old 5, .old 4], _, [], [], [29]⟩]) (F := [.old 0, .old 1, .old 2, .old 3, .old 4, .old 5, .op 0 0]) hst hb Za
         (o_p rfl (Zcc rfl rfl u_0 u_1) <| o_n) (by kernel_rfl) (fun a g hst hb => ?_)
       refine wp_seq ?_
       refine wp_cond_split (hst.bool 6 rfl) (fun hc8 => ?_) (fun hc8 => ?_)
       · replace H1 := Zw hc8 H1
         refine wp_skip ?_
         refine Zr ?_
         refine wp_seq ?_
         refine wp_block ?_
         obtain ⟨e9, h10, H1⟩ := Zh H1
         refine r_s (L := [(4, _), (6, _), (8, _), (26, _), (27, _), (28, _)]) (T := [⟨[.old 3, .old 5], _, [], [], [30]⟩, ⟨[.op 0 0], _, [], [0], [31]⟩, ⟨[], [(10, (pBox Zb1 10 (default : Z9)))], [11], [], [10]⟩, ⟨[.op 1 0, .op 2 0], _, [11], [0, 1, 2], [10]⟩]) (F := [.old 0, .old 1, .old 2, .op 3 0, .old 3, .old 4, .old 5]) (hst.pick [0, 1, 2, 3, 4, 5] rfl) hb Za
           (o_p rfl (Zbf Tryz.underlying22 Zl4 rfl rfl u_0 u_1 h10) <| o_p rfl (Zf Zwy rfl rfl u_0) <| o_p rfl (Zbd (zs := [.string ByteArray.empty, .int .i64 0, .int .i64 0, .int .i64 0, .int .i64 0, .float .f64 0, .int .i64 0, .string ByteArray.empty, .slice none 0 0]) (by kernel_rfl) (fun g => Zmd g) rfl rfl) <| o_p rfl (Zb5 Zwy rfl rfl u_1 u_0) <| o_n) (by kernel_rfl) (fun a g hst hb => ?_)
         refine wp_seq ?_
         obtain ⟨r11, h12, H1⟩ := Zh H1
         refine r_s (T := [⟨[.old 3], _, [], [], [32]⟩, ⟨[.op 0 0], _, [], [0], [33]⟩, ⟨[.op 1 0], _, [], [0, 1], [34]⟩, ⟨[.op 2 0], _, [], [0, 1, 2], [35]⟩, ⟨[.op 3 0], _, [], Lr 4, [36]⟩, ⟨[.op 4 0, .old 3], _, [], Lr 5, [37]⟩, ⟨[.op 4 0, .op 5 0], _, [], Lr 6, [38]⟩, ⟨[.op 4 0, .op 6 0], _, [], Lr 7, [39]⟩, ⟨[.op 4 0, .op 7 0], _, [], Lr 8, [40]⟩, ⟨[.op 4 0, .op 8 0], _, [], Lr 9, [41]⟩]) (F := [.old 0, .old 1, .old 2, .old 3, .old 4, .old 5, .old 6, .op 9 0]) hst hb Za
           (o_p rfl (Zd Zlp rfl rfl u_0) <| o_p rfl (Zf ty_9 rfl rfl u_0) <| o_p rfl (Ze3 Tryz.underlying9 rfl rfl u_0) <| o_p rfl (Zck rfl rfl u_0 c_i) <| o_p rfl (Zb rfl rfl u_0) <| o_g (g_f rfl rfl rfl (fun hG => Zd Zo1 rfl rfl u_0)) <| o_g (g_f rfl rfl rfl (fun hG => Zf Zbb rfl rfl (Opd.gd hG u_0))) <| o_g (g_f rfl rfl rfl (fun hG => Zn Z5a (Zm7 _ (Zbm h12 hG)) rfl rfl (.cons (Opd.gd hG u_0) .nil))) <| o_g (g_f rfl rfl rfl (fun hG => Zck rfl rfl (Opd.gd hG u_0) c_i)) <| o_p rfl (Zbt rfl rfl u_0 (fun hz => (Opd.gd (bNF hz) u_1))) <| o_n) (by kernel_rfl) (fun a g hst hb => ?_)
         refine wp_cond_split (hst.bool 7 rfl) (fun hc13 => ?_) (fun hc13 => ?_)
         · replace H1 := Zw hc13 H1
           refine r_s (L := [(4, _), (6, _)]) (T := [⟨[.old 1], _, [], [], [42]⟩, ⟨[.op 0 0, .old 0], _, [5], [0], [4]⟩, ⟨[], [(5, (Z6.opt.pd (none : Option Zj)))], [], [0, 1], [5]⟩]) (F := [.op 1 0, .op 2 0]) (hst.pick [0, 1] rfl) hb Za
             (o_p rfl (Zbw Zbv rfl rfl u_0) <| o_p rfl (Zz Zbv rfl rfl u_1 u_0) <| o_p rfl (Zc rfl rfl (Opd.c (fun g => Zq6 g))) <| o_n) (by kernel_rfl) (fun a g hst hb => ?_)
           refine wp_ret ?_
           refine Zq ?_
           refine Z2 ?_
           refine Zq ?_
           refine Zq ?_
           refine Z2 ?_
           refine Zq ?_
           refine Zq ?_
           obtain rfl := Option.some.inj H1
           obtain rfl := Option.some.inj H0
           obtain ⟨u0, hu0, hq0⟩ := Z8 (P := Tryz.prog) Zbv (hst.at 0 rfl)
           exact Zda rfl hst hb hu0 (Zk (s := 5)) (Zcn hq0 (hst.at 1 rfl))
         · replace H1 := Zx hc13 H1
           refine wp_skip ?_
           refine Zr ?_
           obtain ⟨r14, h15, H1⟩ := Zh H1
           refine r_s (L := [(4, _), (6, _), (8, _), (10, _), (26, _), (27, _), (28, _)]) (T := [⟨[.old 1], _, [], [], [44]⟩, ⟨[.old 3], _, [], [], [45]⟩, ⟨[.op 1 0], _, [], [1], [46]⟩, ⟨[.old 3], _, [], [], [47]⟩, ⟨[.op 3 0], _, [], [3], [48]⟩, ⟨[.op 0 0, .op 2 0, .op 4 0], _, [], Lr 5, [49]⟩, ⟨[.op 5 0], _, [], Lr 6, [43]⟩, ⟨[.op 6 0], _, [], Lr 7, [50]⟩, ⟨[.op 6 0], _, [], Lr 7, [51]⟩, ⟨[.op 7 0, .old 1], _, [7], Lr 8, [6]⟩]) (F := [.old 0, .op 9 0, .old 2, .old 3, .old 4, .old 5, .old 6]) (hst.pick [0, 1, 2, 3, 4, 5, 6] rfl) hb Za
             (o_p rfl (Zbw Zbv rfl rfl u_0) <| o_p rfl (Zd Zlp rfl rfl u_0) <| o_p rfl (Zf ty_9 rfl rfl u_0) <| o_p rfl (Zd Zo1 rfl rfl u_0) <| o_p rfl (Zf Zbb rfl rfl u_0) <| o_p rfl (Zn Z5d (Zm6 _ _ _ h15) rfl rfl (.cons u_0 (.cons u_1 (.cons u_2 .nil)))) <| o_p rfl (Zb rfl rfl u_0) <| o_p rfl (Z4 rfl rfl u_0 rfl) <| o_p rfl (Z4 rfl rfl u_0 rfl) <| o_p rfl (Zz Zbv rfl rfl u_1 u_0) <| o_n) (by kernel_rfl) (fun a g hst hb => ?_)
           obtain ⟨r16, h17, H1⟩ := Zh H1
           refine r_g (T := [⟨[.old 2], _, [], [], [53]⟩, ⟨[.old 3], _, [], [], [54]⟩, ⟨[.op 1 0], _, [], [1], [55]⟩, ⟨[.old 3], _, [], [], [56]⟩, ⟨[.op 3 0], _, [], [3], [57]⟩, ⟨[.op 0 0, .op 2 0, .op 4 0], _, [], Lr 5, [58]⟩, ⟨[.op 5 0], _, [], Lr 6, [52]⟩, ⟨[.op 6 0], _, [], Lr 7, [59]⟩, ⟨[.op 6 0], _, [], Lr 7, [60]⟩, ⟨[.op 7 0, .old 2], _, [9], Lr 8, [8]⟩]) (F := [.old 0, .old 1, .op 9 0, .old 4, .old 5, .old 6]) hst hb Za
             (o_p rfl (Zbw Zcl rfl rfl u_0) <| o_p rfl (Zd Zlp rfl rfl u_0) <| o_p rfl (Zf ty_9 rfl rfl u_0) <| o_p rfl (Zd Zo1 rfl rfl u_0) <| o_p rfl (Zf Zbb rfl rfl u_0) <| o_p rfl (Zn Z41 (Zko _ _ _ h17) rfl rfl (.cons u_0 (.cons u_1 (.cons u_2 .nil)))) <| o_p rfl (Zb rfl rfl u_0) <| o_p rfl (Z4 rfl rfl u_0 rfl) <| o_p rfl (Z4 rfl rfl u_0 rfl) <| o_p rfl (Zz Zcl rfl rfl u_1 u_0) <| o_n) (by kernel_rfl) (fun a g hst hb => ?_)
           refine Zba ?_
           refine Zr ?_
           refine r_g (T := [⟨[.old 5], _, [], [], [61]⟩, ⟨[.op 0 0], _, [], [0], [28]⟩]) (F := [.old 0, .old 1, .old 2, .old 3, .old 4, .op 1 0]) hst hb Za
             (o_p rfl (Zb3 rfl rfl u_0 c_i rfl) <| o_p rfl (Zb rfl rfl u_0) <| o_n) (by kernel_rfl) (fun a g hst hb => ?_)
           exact ⟨n, Nat.lt_succ_self _, x4, r14.1, r16.1, (IntKind.i64.wrap (x7 + (1 : Int))), g, rfl, (hst.pick [0, 1, 2, 3, 4, 5] rfl), hb, H1⟩
       · replace H1 := Zx hc8 H1
         refine wp_exit ?_
         refine Zb6 ?_
         refine Zb6 ?_
         refine Zco ?_
         exact ⟨x4, x5, x6, g, rfl, (hst.pick [0, 1, 2] rfl), hb, Option.some.inj H1⟩
theorem Zqv (a0 : Z3) {r : Int} (h : Zi3 a0 = some r) : FnOk Tryz.prog 53 [(Zbe.pd a0)] (pInt .i64 r) := by
 have H0 := h
 unfold Zi3 at H0
 clear h
 refine Zbp (N := 19) Tryz.func53 rfl rfl (Nat.le_of_ble_eq_true rfl) rfl rfl (fun a g0 hst hb => ?_)
 refine r_s (T := [⟨[.old 0], _, [], [], [1]⟩, ⟨[], _, [], [], [2]⟩]) (F := [.op 0 0]) hst hb Za
   (o_p rfl (Zbj rfl rfl u_0) <| o_p rfl (Zc rfl rfl c_i) <| o_n) (by kernel_rfl) (fun a g hst hb => ?_)
 refine wp_seq ?_
 obtain ⟨r1, h2, H0⟩ := Zh H0
 refine r_s (T := ⟨[.old 0], _, [], [], [3]⟩ :: ⟨[.op 0 0], _, [], [0], [4]⟩ :: ⟨[.op 1 0], _, [], [0, 1], [5]⟩ :: ⟨[.op 2 0], _, [], [0, 1, 2], [6]⟩ :: ⟨[.op 3 0], _, [], Lr 4, [7]⟩ :: ⟨[.op 4 0, .old 0], _, [], Lr 5, [8]⟩ :: ⟨[.op 4 0, .op 5 0], _, [], Lr 6, [9]⟩ :: ⟨[.op 4 0, .op 6 0], _, [], Lr 7, [10]⟩ :: ⟨[.op 4 0, .op 7 0], _, [], Lr 8, [11]⟩ :: ⟨[.op 4 0, .op 8 0], _, [], Lr 9, [12]⟩ :: ⟨[.op 9 0], _, [], Lr 10, [13]⟩ :: ⟨[.op 10 0, .old 0], _, [], Lr 11, [14]⟩ :: ⟨[.op 10 0, .op 11 0], _, [], Lr 12, [15]⟩ :: ⟨[.op 10 0, .op 12 0], _, [], Lr 13, [16]⟩ :: ⟨[.op 10 0, .op 13 0], _, [], Lr 14, [17]⟩ :: ⟨[.op 10 0, .op 14 0], _, [], Lr 15, [18]⟩ :: []) (F := [.op 15 0]) hst hb Za
   (o_p rfl (Zd Zjn rfl rfl u_0) <| o_p rfl (Zf ty_9 rfl rfl u_0) <| o_p rfl (Ze3 Tryz.underlying9 rfl rfl u_0) <| o_p rfl (Zck rfl rfl u_0 c_i) <| o_p rfl (Zb rfl rfl u_0) <| o_g (g_f rfl rfl rfl (fun hG => Zd Zfc rfl rfl u_0)) <| o_g (g_f rfl rfl rfl (fun hG => Zf ty_9 rfl rfl (Opd.gd hG u_0))) <| o_g (g_f rfl rfl rfl (fun hG => Ze3 Tryz.underlying9 rfl rfl (Opd.gd hG u_0))) <| o_g (g_f rfl rfl rfl (fun hG => Zck rfl rfl (Opd.gd hG u_0) c_i)) <| o_p rfl (Zbt rfl rfl u_0 (fun hz => (Opd.gd (bNF hz) u_1))) <| o_p rfl (Zb rfl rfl u_0) <| o_g (g_f rfl rfl rfl (fun hG => Zd Zmm rfl rfl u_0)) <| o_g (g_f rfl rfl rfl (fun hG => Zf Zbb rfl rfl (Opd.gd hG u_0))) <| o_g (g_f rfl rfl rfl (fun hG => Zn Z5a (Zm7 _ (Zbm h2 hG)) rfl rfl (.cons (Opd.gd hG u_0) .nil))) <| o_g (g_f rfl rfl rfl (fun hG => Zck rfl rfl (Opd.gd hG u_0) c_i)) <| o_p rfl (Zbt rfl rfl u_0 (fun hz => (Opd.gd (bNF hz) u_1))) <| o_n) (by kernel_rfl) (fun a g hst hb => ?_)
 refine wp_cond_split (hst.bool 0 rfl) (fun hc3 => ?_) (fun hc3 => ?_)
 · replace H0 := Zw hc3 H0
   refine r_s (L := []) (T := [⟨[], _, [], [], [2]⟩]) (F := [.op 0 0]) (hst.pick [] rfl) hb Za
     (o_p rfl (Zc rfl rfl c_i) <| o_n) (by kernel_rfl) (fun a g hst hb => ?_)
   refine wp_ret ?_
   refine Zq ?_
   obtain rfl := Option.some.inj H0
   exact Z1 rfl hst hb (Zk (s := 2)) (hst.at 0 rfl)
 · replace H0 := Zx hc3 H0
   refine wp_skip ?_
   refine Zr ?_
   refine r_s (L := []) (T := [⟨[], _, [], [], [2]⟩]) (F := [.op 0 0]) (hst.pick [] rfl) hb Za
     (o_p rfl (Zc rfl rfl c_i) <| o_n) (by kernel_rfl) (fun a g hst hb => ?_)
   refine wp_ret ?_
   obtain rfl := Option.some.inj H0
   exact Z1 rfl hst hb (Zk (s := 2)) (hst.at 0 rfl)
theorem Zqq (a0 : Zb0) {r : Int} (h : Zjb a0 = some r) : FnOk Tryz.prog 26 [(Zcm.pd a0)] (pInt .i64 r) := by
 have H0 := h
 unfold Zjb at H0
 clear h
 refine Zbp (N := 20) Tryz.func26 rfl rfl (Nat.le_of_ble_eq_true rfl) rfl rfl (fun a g0 hst hb => ?_)
 refine r_s (T := [⟨[.old 0], _, [], [], [1]⟩, ⟨[], _, [], [], [2]⟩]) (F := [.op 0 0]) hst hb Za
   (o_p rfl (Zbj rfl rfl u_0) <| o_p rfl (Zc rfl rfl c_i) <| o_n) (by kernel_rfl) (fun a g hst hb => ?_)
 refine wp_seq ?_
 refine r_s (T := [⟨[.old 0], _, [], [], [5]⟩, ⟨[.op 0 0], _, [], [0], [6]⟩, ⟨[.op 1 0], _, [], [0, 1], [7]⟩, ⟨[.op 2 0], _, [], [0, 1, 2], [8]⟩]) (F := [.old 0, .op 3 0]) hst hb Za
   (o_p rfl (Zd Zib rfl rfl u_0) <| o_p rfl (Zf Zla rfl rfl u_0) <| o_p rfl (Zbu Tryz.underlying50 rfl rfl u_0) <| o_p rfl (Zck rfl rfl u_0 c_i) <| o_n) (by kernel_rfl) (fun a g hst hb => ?_)
 refine wp_cond_split (hst.bool 1 rfl) (fun hc1 => ?_) (fun hc1 => ?_)
 · replace H0 := Zw hc1 H0
   refine r_s (L := []) (T := [⟨[], _, [], [], [2]⟩]) (F := [.op 0 0]) (hst.pick [] rfl) hb Za
     (o_p rfl (Zc rfl rfl c_i) <| o_n) (by kernel_rfl) (fun a g hst hb => ?_)
   refine wp_ret ?_
   refine Zq ?_
   obtain rfl := Option.some.inj H0
   exact Z1 rfl hst hb (Zk (s := 2)) (hst.at 0 rfl)
 · replace H0 := Zx hc1 H0
   refine wp_skip ?_
   refine Zr ?_
   refine wp_seq ?_
   refine r_s (L := [(1, _)]) (T := [⟨[.old 0], _, [], [], [9]⟩, ⟨[.op 0 0], _, [], [0], [10]⟩, ⟨[.op 1 0], _, [], [0, 1], [11]⟩, ⟨[], _, [], [], [12]⟩]) (F := [.op 1 0, .op 2 0, .op 3 0]) (hst.pick [0] rfl) hb Za
     (o_p rfl (Zd Zib rfl rfl u_0) <| o_p rfl (Zf Zla rfl rfl u_0) <| o_p rfl (Zbu Tryz.underlying50 rfl rfl u_0) <| o_p rfl (Zb rfl rfl c_i) <| o_n) (by kernel_rfl) (fun a g hst hb => ?_)
   obtain ⟨z9, hz1, H0⟩ := Zh H0
   refine Zb8 (fun a w => ∃ (g : G), w = g.w ∧ St 20 [] a g ∧ Base g0 g ∧ (.inr ()) = z9) ?_ ?_
   · rintro a w ⟨g, rfl, hst, hb, rfl⟩
     refine Zr ?_
     refine r_s (T := [⟨[], _, [], [], [2]⟩]) (F := [.op 0 0]) hst hb Za
       (o_p rfl (Zc rfl rfl c_i) <| o_n) (by kernel_rfl) (fun a g hst hb => ?_)
     refine wp_ret ?_
     obtain rfl := Option.some.inj H0
     exact Z1 rfl hst hb (Zk (s := 2)) (hst.at 0 rfl)
   · refine wp_block ?_
     refine wp_loop_ghost (fun n a w => ∃ (x2 : Int) (g : G), w = g.w ∧ St 20 [(10, (Zbe.sl.pd a0.Acts)), (11, (pInt .i64 (a0.Acts.length : Int))), (12, (pInt .i64 x2))] a g ∧ Base g0 g ∧ Zd6 a0 n x2 = some z9) (Int.toNat ((a0.Acts.length : Int) - (0 : Int)) + 1) ⟨(0 : Int), g, rfl, (hst.pick [0, 1, 2] rfl), hb, hz1⟩ (fun n a w hI => ?_)
     obtain ⟨x2, g, rfl, hst, hb, H1⟩ := hI
     cases n with
     | zero => exact absurd H1 (by simp [Zd6])
     | succ n =>
       rw [Zd6] at H1
       refine r_s (T := [⟨[.old 2, .old 1], _, [], [], [13]⟩]) (F := [.old 0, .old 1, .old 2, .op 0 0]) hst hb Za
         (o_p rfl (Zcc rfl rfl u_0 u_1) <| o_n) (by kernel_rfl) (fun a g hst hb => ?_)
       refine wp_seq ?_
       refine wp_cond_split (hst.bool 3 rfl) (fun hc3 => ?_) (fun hc3 => ?_)
       · replace H1 := Zw hc3 H1
         refine wp_skip ?_
         refine Zr ?_
         refine wp_seq ?_
         refine wp_block ?_
         obtain ⟨e4, h5, H1⟩ := Zh H1
         refine r_s (L := [(10, _), (11, _), (12, _)]) (T := [⟨[.old 0, .old 2], _, [], [], [14]⟩, ⟨[.op 0 0], _, [], [0], [15]⟩, ⟨[], [(4, (pBox Zbe 4 (default : Z3)))], [5], [], [4]⟩, ⟨[.op 1 0, .op 2 0], _, [5], [0, 1, 2], [4]⟩]) (F := [.op 3 0, .old 0, .old 1, .old 2]) (hst.pick [0, 1, 2] rfl) hb Za
           (o_p rfl (Zbf Tryz.underlying50 Zr0 rfl rfl u_0 u_1 h5) <| o_p rfl (Zf Zfl rfl rfl u_0) <| o_p rfl (Zbd (zs := [.int .i64 0, .string ByteArray.empty, .int .i64 0, .float .f64 0, .string ByteArray.empty, .int .i64 0, .int .i64 0, .int .i64 0, .int .i64 0, .float .f64 0, .int .i64 0, .string ByteArray.empty, .slice none 0 0, .bool false]) (by kernel_rfl) (fun g => Zlw g) rfl rfl) <| o_p rfl (Zb5 Zfl rfl rfl u_1 u_0) <| o_n) (by kernel_rfl) (fun a g hst hb => ?_)
         obtain ⟨r6, h7, H1⟩ := Zh H1
         refine r_s (T := [⟨[.old 0], _, [], [], [16]⟩, ⟨[.op 0 0], _, [], [0], [17]⟩, ⟨[.op 1 0], _, [], [0, 1], [18]⟩]) (F := [.old 1, .old 2, .old 3, .op 2 0]) hst hb Za
           (o_p rfl (Zf Zfl rfl rfl u_0) <| o_p rfl (Zn Z9f (Zqv _ h7) rfl rfl (.cons u_0 .nil)) <| o_p rfl (Zck rfl rfl u_0 c_i) <| o_n) (by kernel_rfl) (fun a g hst hb => ?_)
         refine wp_cond_split (hst.bool 3 rfl) (fun hc8 => ?_) (fun hc8 => ?_)
         · replace H1 := Zw hc8 H1
           refine r_s (L := []) (T := [⟨[], _, [], [], [2]⟩]) (F := [.op 0 0]) (hst.pick [] rfl) hb Za
             (o_p rfl (Zc rfl rfl c_i) <| o_n) (by kernel_rfl) (fun a g hst hb => ?_)
           refine wp_ret ?_
           refine Z2 ?_
           refine Zq ?_
           refine Zq ?_
           refine Z2 ?_
           refine Zq ?_
           refine Zq ?_
           obtain rfl := Option.some.inj H1
           obtain rfl := Option.some.inj H0
           exact Z1 rfl hst hb (Zk (s := 2)) (hst.at 0 rfl)
         · replace H1 := Zx hc8 H1
           refine wp_skip ?_
           refine Zba ?_
           refine Zr ?_
           refine r_g (L := [(10, _), (11, _), (12, _)]) (T := [⟨[.old 2], _, [], [], [19]⟩, ⟨[.op 0 0], _, [], [0], [12]⟩]) (F := [.old 0, .old 1, .op 1 0]) (hst.pick [0, 1, 2] rfl) hb Za
             (o_p rfl (Zb3 rfl rfl u_0 c_i rfl) <| o_p rfl (Zb rfl rfl u_0) <| o_n) (by kernel_rfl) (fun a g hst hb => ?_)
           exact ⟨n, Nat.lt_succ_self _, (IntKind.i64.wrap (x2 + (1 : Int))), g, rfl, (hst.pick [0, 1, 2] rfl), hb, H1⟩
       · replace H1 := Zx hc3 H1
         refine wp_exit ?_
         refine Zb6 ?_
         refine Zb6 ?_
         refine Zco ?_
         exact ⟨g, rfl, (hst.pick [] rfl), hb, Option.some.inj H1⟩
theorem Zrb (a0 : List Zb0) {r : Int} (h : Zit a0 = some r) : FnOk Tryz.prog 8 [(Zcm.sl.pd a0)] (pInt .i64 r) := by
 have H0 := h
 unfold Zit at H0
 clear h
 refine Zbp (N := 18) Tryz.func8 rfl rfl (Nat.le_of_ble_eq_true rfl) rfl rfl (fun a g0 hst hb => ?_)
 refine r_s (T := [⟨[], _, [], [], [2]⟩]) (F := [.old 0]) hst hb Za
   (o_p rfl (Zc rfl rfl c_i) <| o_n) (by kernel_rfl) (fun a g hst hb => ?_)
 refine wp_seq ?_
 refine r_s (T := [⟨[.old 0], _, [], [], [5]⟩, ⟨[.op 0 0], _, [], [0], [6]⟩, ⟨[.op 1 0], _, [], [0, 1], [7]⟩]) (F := [.old 0, .op 2 0]) hst hb Za
   (o_p rfl (Zb rfl rfl u_0) <| o_p rfl (Zbu Tryz.underlying23 rfl rfl u_0) <| o_p rfl (Zck rfl rfl u_0 c_i) <| o_n) (by kernel_rfl) (fun a g hst hb => ?_)
 refine wp_cond_split (hst.bool 1 rfl) (fun hc1 => ?_) (fun hc1 => ?_)
 · replace H0 := Zw hc1 H0
   refine r_s (L := []) (T := [⟨[], _, [], [], [2]⟩]) (F := [.op 0 0]) (hst.pick [] rfl) hb Za
     (o_p rfl (Zc rfl rfl c_i) <| o_n) (by kernel_rfl) (fun a g hst hb => ?_)
   refine wp_ret ?_
   refine Zq ?_
   obtain rfl := Option.some.inj H0
   exact Z1 rfl hst hb (Zk (s := 2)) (hst.at 0 rfl)
 · replace H0 := Zx hc1 H0
   refine wp_skip ?_
   refine Zr ?_
   refine wp_seq ?_
   refine r_s (L := [(0, _)]) (T := [⟨[.old 0], _, [], [], [8]⟩, ⟨[.op 0 0], _, [], [0], [9]⟩, ⟨[], _, [], [], [10]⟩]) (F := [.op 0 0, .op 1 0, .op 2 0]) (hst.pick [0] rfl) hb Za
     (o_p rfl (Zb rfl rfl u_0) <| o_p rfl (Zbu Tryz.underlying23 rfl rfl u_0) <| o_p rfl (Zb rfl rfl c_i) <| o_n) (by kernel_rfl) (fun a g hst hb => ?_)
   obtain ⟨z9, hz1, H0⟩ := Zh H0
   refine Zb8 (fun a w => ∃ (g : G), w = g.w ∧ St 18 [] a g ∧ Base g0 g ∧ (.inr ()) = z9) ?_ ?_
   · rintro a w ⟨g, rfl, hst, hb, rfl⟩
     refine Zr ?_
     refine r_s (T := [⟨[], _, [], [], [2]⟩]) (F := [.op 0 0]) hst hb Za
       (o_p rfl (Zc rfl rfl c_i) <| o_n) (by kernel_rfl) (fun a g hst hb => ?_)
     refine wp_ret ?_
     obtain rfl := Option.some.inj H0
     exact Z1 rfl hst hb (Zk (s := 2)) (hst.at 0 rfl)
   · refine wp_block ?_
     refine wp_loop_ghost (fun n a w => ∃ (x2 : Int) (g : G), w = g.w ∧ St 18 [(8, (Zcm.sl.pd a0)), (9, (pInt .i64 (a0.length : Int))), (10, (pInt .i64 x2))] a g ∧ Base g0 g ∧ Zdx a0 n x2 = some z9) (Int.toNat ((a0.length : Int) - (0 : Int)) + 1) ⟨(0 : Int), g, rfl, (hst.pick [0, 1, 2] rfl), hb, hz1⟩ (fun n a w hI => ?_)
     obtain ⟨x2, g, rfl, hst, hb, H1⟩ := hI
     cases n with
     | zero => exact absurd H1 (by simp [Zdx])
     | succ n =>
       rw [Zdx] at H1
       refine r_s (T := [⟨[.old 2, .old 1], _, [], [], [11]⟩]) (F := [.old 0, .old 1, .old 2, .op 0 0]) hst hb Za
         (o_p rfl (Zcc rfl rfl u_0 u_1) <| o_n) (by kernel_rfl) (fun a g hst hb => ?_)
       refine wp_seq ?_
       refine wp_cond_split (hst.bool 3 rfl) (fun hc3 => ?_) (fun hc3 => ?_)
       · replace H1 := Zw hc3 H1
         refine wp_skip ?_
         refine Zr ?_
         refine wp_seq ?_
         refine wp_block ?_
         obtain ⟨e4, h5, H1⟩ := Zh H1
         refine r_s (L := [(8, _), (9, _), (10, _)]) (T := [⟨[.old 0, .old 2], _, [], [], [12]⟩, ⟨[.op 0 0], _, [], [0], [13]⟩, ⟨[], [(4, (pBox Zcm 4 (default : Zb0)))], [5], [], [4]⟩, ⟨[.op 1 0, .op 2 0], _, [5], [0, 1, 2], [4]⟩]) (F := [.op 3 0, .old 0, .old 1, .old 2]) (hst.pick [0, 1, 2] rfl) hb Za
           (o_p rfl (Zbf Tryz.underlying23 Zwn rfl rfl u_0 u_1 h5) <| o_p rfl (Zf Zmw rfl rfl u_0) <| o_p rfl (Zbd (zs := [.slice none 0 0]) (by kernel_rfl) (fun g => Zso g) rfl rfl) <| o_p rfl (Zb5 Zmw rfl rfl u_1 u_0) <| o_n) (by kernel_rfl) (fun a g hst hb => ?_)
         obtain ⟨r6, h7, H1⟩ := Zh H1
         refine r_s (T := [⟨[.old 0], _, [], [], [14]⟩, ⟨[.op 0 0], _, [], [0], [15]⟩, ⟨[.op 1 0], _, [], [0, 1], [16]⟩]) (F := [.old 1, .old 2, .old 3, .op 2 0]) hst hb Za
           (o_p rfl (Zf Zmw rfl rfl u_0) <| o_p rfl (Zn Zbau (Zqq _ h7) rfl rfl (.cons u_0 .nil)) <| o_p rfl (Zck rfl rfl u_0 c_i) <| o_n) (by kernel_rfl) (fun a g hst hb => ?_)
         refine wp_cond_split (hst.bool 3 rfl) (fun hc8 => ?_) (fun hc8 => ?_)
         · replace H1 := Zw hc8 H1
           refine r_s (L := []) (T := [⟨[], _, [], [], [2]⟩]) (F := [.op 0 0]) (hst.pick [] rfl) hb Za
             (o_p rfl (Zc rfl rfl c_i) <| o_n) (by kernel_rfl) (fun a g hst hb => ?_)
           refine wp_ret ?_
           refine Z2 ?_
           refine Zq ?_
           refine Zq ?_
           refine Z2 ?_
           refine Zq ?_
           refine Zq ?_
           obtain rfl := Option.some.inj H1
           obtain rfl := Option.some.inj H0
           exact Z1 rfl hst hb (Zk (s := 2)) (hst.at 0 rfl)
         · replace H1 := Zx hc8 H1
           refine wp_skip ?_
           refine Zba ?_
           refine Zr ?_
           refine r_g (L := [(8, _), (9, _), (10, _)]) (T := [⟨[.old 2], _, [], [], [17]⟩, ⟨[.op 0 0], _, [], [0], [10]⟩]) (F := [.old 0, .old 1, .op 1 0]) (hst.pick [0, 1, 2] rfl) hb Za
             (o_p rfl (Zb3 rfl rfl u_0 c_i rfl) <| o_p rfl (Zb rfl rfl u_0) <| o_n) (by kernel_rfl) (fun a g hst hb => ?_)
           exact ⟨n, Nat.lt_succ_self _, (IntKind.i64.wrap (x2 + (1 : Int))), g, rfl, (hst.pick [0, 1, 2] rfl), hb, H1⟩
       · replace H1 := Zx hc3 H1
         refine wp_exit ?_
         refine Zb6 ?_
         refine Zb6 ?_
         refine Zco ?_
         exact ⟨g, rfl, (hst.pick [] rfl), hb, Option.some.inj H1⟩
theorem Zqe (a0 : Zo) {r : Int} (h : Zj7 a0 = some r) : FnOk Tryz.prog 27 [(Z0.pd a0)] (pInt .i64 r) := by
 have H0 := h
 unfold Zj7 at H0
 clear h
 refine Zbp (N := 5) Tryz.func27 rfl rfl (Nat.le_of_ble_eq_true rfl) rfl rfl (fun a g0 hst hb => ?_)
 refine r_s (T := [⟨[.old 0], _, [], [], [1]⟩, ⟨[], _, [], [], [2]⟩]) (F := [.op 0 0]) hst hb Za
   (o_p rfl (Zbj rfl rfl u_0) <| o_p rfl (Zc rfl rfl c_i) <| o_n) (by kernel_rfl) (fun a g hst hb => ?_)
 refine r_s (T := [⟨[.old 0], _, [], [], [3]⟩, ⟨[.op 0 0], _, [], [0], [4]⟩, ⟨[.op 1 0], _, [], [0, 1], [2]⟩]) (F := [.op 2 0]) hst hb Za
   (o_p rfl (Zd Zrv rfl rfl u_0) <| o_p rfl (Zf ty_3 rfl rfl u_0) <| o_p rfl (Zc rfl rfl u_0) <| o_n) (by kernel_rfl) (fun a g hst hb => ?_)
 refine wp_ret ?_
 obtain rfl := Option.some.inj H0
 exact Z1 rfl hst hb (Zk (s := 2)) (hst.at 0 rfl)
theorem Zsd (a0 : Zo) (a1 : Int) {r : ByteArray × Ze × Bool} (h : Zjr a0 a1 = some r) : FnOk Tryz.prog 28 [(Z0.pd a0), (pInt .i64 a1)] (pTup [(pStr r.1), (Zi.pd r.2.1), (Zbg r.2.2)]) := by
 have H0 := h
 unfold Zjr at H0
 clear h
 refine Zbp (N := 48) Tryz.func28 rfl rfl (Nat.le_of_ble_eq_true rfl) rfl rfl (fun a g0 hst hb => ?_)
 refine r_s (T := [⟨[.old 0], _, [], [], [2]⟩, ⟨[], _, [], [], [4]⟩, ⟨[], [(5, (pBox Zi 5 (default : Ze)))], [6], [], [5]⟩, ⟨[], _, [], [1], [6]⟩]) (F := [.old 1, .op 0 0, .op 2 0]) hst hb Za
   (o_p rfl (Zbj rfl rfl u_0) <| o_p rfl (Zc rfl rfl c_s) <| o_p rfl (Zbd (zs := [.int .i64 0, .int .i64 0, .int .i64 0, .int .i64 0, .float .f64 0, .int .i64 0, .string ByteArray.empty, .slice none 0 0]) (by kernel_rfl) (fun g => Zb9 g) rfl rfl) <| o_p rfl (Zc rfl rfl c_b) <| o_n) (by kernel_rfl) (fun a g hst hb => ?_)
 refine wp_seq ?_
 refine r_s (T := [⟨[.old 1], _, [], [], [9]⟩, ⟨[.op 0 0], _, [], [0], [10]⟩, ⟨[.op 1 0], _, [], [0, 1], [7]⟩]) (F := [.old 0, .old 2, .op 2 0]) hst hb Za
   (o_p rfl (Zd Zo0 rfl rfl u_0) <| o_p rfl (Zf Zc5 rfl rfl u_0) <| o_p rfl (Zc rfl rfl u_0) <| o_n) (by kernel_rfl) (fun a g hst hb => ?_)
 obtain ⟨z16, hz1, H0⟩ := Zh H0
 refine Zb8 (fun a w => ∃ (y15 : Ze) (g : G), w = g.w ∧ St 48 [(5, (pBox Zi 5 y15))] a g ∧ Base g0 g ∧ (.inr y15) = z16) ?_ ?_
 · rintro a w ⟨y15, g, rfl, hst, hb, rfl⟩
   refine Zr ?_
   refine r_s (T := [⟨[], _, [], [], [47]⟩, ⟨[], _, [], [], [4]⟩, ⟨[.op 0 0, .old 0], _, [6], [0, 1], [5]⟩, ⟨[], _, [], [0, 1, 2], [6]⟩]) (F := [.op 1 0, .op 2 0, .op 3 0]) hst hb Za
     (o_p rfl (Zma rfl rfl ) <| o_p rfl (Zc rfl rfl c_s) <| o_p rfl (Zz Zbb rfl rfl u_1 u_0) <| o_p rfl (Zc rfl rfl c_b) <| o_n) (by kernel_rfl) (fun a g hst hb => ?_)
   refine wp_ret ?_
   obtain rfl := Option.some.inj H0
   obtain ⟨u1, hu1, hq1⟩ := Z8 (P := Tryz.prog) Zbb (hst.at 1 rfl)
   exact Zh4 rfl hst hb (Zk (s := 4)) hu1 (Zk (s := 6)) (Zgh (hst.at 0 rfl) hq1 (hst.at 2 rfl))
 · refine wp_block ?_
   refine wp_loop_ghost (fun n a w => ∃ (x1 : Int) (x2 : Ze) (x3 : shelf_nodeT) (g : G), w = g.w ∧ St 48 [(1, (pInt .i64 x1)), (5, (pBox Zi 5 x2)), (7, (Z7.pd x3))] a g ∧ Base g0 g ∧ Zds n x1 x2 x3 = some z16) (a0.top.hh + 1) ⟨a1, (default : Ze), a0.top, g, rfl, (hst.pick [0, 1, 2] rfl), hb, hz1⟩ (fun n a w hI => ?_)
   obtain ⟨x1, x2, x3, g, rfl, hst, hb, H1⟩ := hI
   cases n with
   | zero => exact absurd H1 (by simp [Zds])
   | succ n =>
     rw [Zds] at H1
     refine wp_seq ?_
     refine r_s (T := [⟨[.old 2], _, [], [], [11]⟩, ⟨[.op 0 0], _, [], [0], [12]⟩]) (F := [.old 0, .old 1, .old 2, .op 1 0]) hst hb Za
       (o_p rfl (Zb rfl rfl u_0) <| o_p rfl (Zxa Tryz.underlying25 rfl rfl u_0 (Ze4 _)) <| o_n) (by kernel_rfl) (fun a g hst hb => ?_)
     refine wp_cond_split (hst.bool 3 rfl) (fun hc4 => ?_) (fun hc4 => ?_)
     · replace H1 := Zw hc4 H1
       refine wp_skip ?_
       refine Zr ?_
       refine Zb8 (fun a w => ∃ (j13 : Int) (j14 : shelf_nodeT) (g : G), w = g.w ∧ St 48 [(1, (pInt .i64 j13)), (5, (pBox Zi 5 x2)), (7, (Z7.pd j14))] a g ∧ Base g0 g ∧ Zhq x2 (Zds n) j13 j14 = some z16) ?_ ?_
       · rintro a w ⟨j13, j14, g, rfl, hst, hb, H1⟩
         unfold Zhq at H1
         exact ⟨n, Nat.lt_succ_self _, j13, x2, j14, g, rfl, (hst.pick [0, 1, 2] rfl), hb, H1⟩
       · refine wp_block ?_
         obtain ⟨n5, h6, H1⟩ := Zh H1; obtain ⟨r7, h8, H1⟩ := Zh H1
         refine r_s (L := [(1, _), (5, _), (7, _)]) (T := [⟨[.old 2], _, [], [], [13]⟩, ⟨[.op 0 0], _, [], [0], [14]⟩, ⟨[.op 1 0], _, [], [0, 1], [15]⟩, ⟨[.op 2 0], _, [], [0, 1, 2], [16]⟩, ⟨[.op 3 0], _, [], Lr 4, [17]⟩, ⟨[.op 4 0], _, [], Lr 5, [8]⟩]) (F := [.old 0, .old 1, .old 2, .op 5 0]) (hst.pick [0, 1, 2] rfl) hb Za
           (o_p rfl (Zb rfl rfl u_0) <| o_p rfl (Zu rfl rfl (Opd.imp u_0 (fun _ _ h => Zv h6 h)) (fun _ _ ⟨_, _, _, e, _⟩ => ⟨_, e⟩)) <| o_p rfl (Zd Zea rfl rfl u_0) <| o_p rfl (Zf Zc5 rfl rfl u_0) <| o_p rfl (Zn Zmv (Zdi _ h8) rfl rfl (.cons u_0 .nil)) <| o_p rfl (Zc rfl rfl u_0) <| o_n) (by kernel_rfl) (fun a g hst hb => ?_)
         refine wp_block ?_
         refine r_s (T := [⟨[.old 0], _, [], [], [28]⟩, ⟨[.old 3], _, [], [], [29]⟩, ⟨[.op 0 0, .op 1 0], _, [], [0, 1], [30]⟩, ⟨[.op 2 0], _, [], [0, 1, 2], [27]⟩]) (F := [.old 0, .old 1, .old 2, .old 3, .op 3 0]) hst hb Za
           (o_p rfl (Zb rfl rfl u_0) <| o_p rfl (Zb rfl rfl u_0) <| o_p rfl (Zcc rfl rfl u_0 u_1) <| o_p rfl (Zc rfl rfl u_0) <| o_n) (by kernel_rfl) (fun a g hst hb => ?_)
         refine wp_cond_split (hst.bool 4 rfl) (fun hc9 => ?_) (fun hc9 => ?_)
         · replace H1 := Zw hc9 H1
           refine r_g (L := [(1, _), (5, _), (7, _)]) (T := [⟨[.old 2], _, [], [], [31]⟩, ⟨[.op 0 0], _, [], [0], [32]⟩, ⟨[.op 1 0], _, [], [0, 1], [33]⟩, ⟨[.op 2 0], _, [], [0, 1, 2], [34]⟩, ⟨[.op 3 0], _, [], Lr 4, [7]⟩]) (F := [.old 0, .old 1, .op 4 0]) (hst.pick [0, 1, 2] rfl) hb Za
             (o_p rfl (Zb rfl rfl u_0) <| o_p rfl (Zu rfl rfl (Opd.imp u_0 (fun _ _ h => Zv h6 h)) (fun _ _ ⟨_, _, _, e, _⟩ => ⟨_, e⟩)) <| o_p rfl (Zd Zea rfl rfl u_0) <| o_p rfl (Zf Zc5 rfl rfl u_0) <| o_p rfl (Zc rfl rfl u_0) <| o_n) (by kernel_rfl) (fun a g hst hb => ?_)
           refine Zba ?_
           refine Zba ?_
           exact ⟨x1, n5.left, g, rfl, (hst.pick [0, 1, 2] rfl), hb, H1⟩
         · replace H1 := Zx hc9 H1
           refine r_s (L := [(1, _), (5, _), (7, _), (8, _)]) (T := [⟨[.old 0], _, [], [], [36]⟩, ⟨[.old 3], _, [], [], [37]⟩, ⟨[.op 0 0, .op 1 0], _, [], [0, 1], [38]⟩, ⟨[.op 2 0], _, [], [0, 1, 2], [35]⟩]) (F := [.old 0, .old 1, .old 2, .old 3, .op 3 0]) (hst.pick [0, 1, 2, 3] rfl) hb Za
             (o_p rfl (Zb rfl rfl u_0) <| o_p rfl (Zb rfl rfl u_0) <| o_p rfl (Zck rfl rfl u_0 u_1) <| o_p rfl (Zc rfl rfl u_0) <| o_n) (by kernel_rfl) (fun a g hst hb => ?_)
           refine wp_cond_split (hst.bool 4 rfl) (fun hc10 => ?_) (fun hc10 => ?_)
           · replace H1 := Zw hc10 H1
             refine r_s (L := [(1, _), (5, _), (7, _), (8, _)]) (T := [⟨[.old 0], _, [], [], [39]⟩, ⟨[.old 3], _, [], [], [40]⟩, ⟨[.op 1 0], _, [], [1], [41]⟩, ⟨[.op 0 0, .op 2 0], _, [], [0, 1, 2], [42]⟩, ⟨[.op 3 0], _, [], Lr 4, [1]⟩]) (F := [.op 4 0, .old 1, .old 2]) (hst.pick [0, 1, 2, 3] rfl) hb Za
               (o_p rfl (Zb rfl rfl u_0) <| o_p rfl (Zb rfl rfl u_0) <| o_p rfl (Zb3 rfl rfl u_0 c_i rfl) <| o_p rfl (Zgn rfl rfl u_0 u_1 rfl) <| o_p rfl (Zc rfl rfl u_0) <| o_n) (by kernel_rfl) (fun a g hst hb => ?_)
             refine r_g (T := [⟨[.old 2], _, [], [], [43]⟩, ⟨[.op 0 0], _, [], [0], [44]⟩, ⟨[.op 1 0], _, [], [0, 1], [45]⟩, ⟨[.op 2 0], _, [], [0, 1, 2], [46]⟩, ⟨[.op 3 0], _, [], Lr 4, [7]⟩]) (F := [.old 0, .old 1, .op 4 0]) hst hb Za
               (o_p rfl (Zb rfl rfl u_0) <| o_p rfl (Zu rfl rfl (Opd.imp u_0 (fun _ _ h => Zv h6 h)) (fun _ _ ⟨_, _, _, e, _⟩ => ⟨_, e⟩)) <| o_p rfl (Zd Zey rfl rfl u_0) <| o_p rfl (Zf Zc5 rfl rfl u_0) <| o_p rfl (Zc rfl rfl u_0) <| o_n) (by kernel_rfl) (fun a g hst hb => ?_)
             refine Zba ?_
             refine Zba ?_
             exact ⟨(IntKind.i64.wrap (x1 - (IntKind.i64.wrap (r7 + (1 : Int))))), n5.right, g, rfl, (hst.pick [0, 1, 2] rfl), hb, H1⟩
           · replace H1 := Zx hc10 H1
             obtain ⟨r11, h12, H1⟩ := Zh H1
             refine r_s (L := [(5, _), (7, _)]) (T := ⟨[.old 1], _, [], [], [18]⟩ :: ⟨[.op 0 0], _, [], [0], [19]⟩ :: ⟨[.op 1 0], _, [], [0, 1], [20]⟩ :: ⟨[.op 2 0], _, [], [0, 1, 2], [21]⟩ :: ⟨[.old 1], _, [], [], [22]⟩ :: ⟨[.op 4 0], _, [], [4], [23]⟩ :: ⟨[.op 5 0], _, [], [4, 5], [24]⟩ :: ⟨[.op 6 0], _, [], [4, 5, 6], [25]⟩ :: ⟨[.op 7 0], _, [], List.range' 4 4, [26]⟩ :: ⟨[.op 3 0], _, [], Lr 9, [4]⟩ :: ⟨[.op 8 0, .old 0], _, [6], Lr 10, [5]⟩ :: ⟨[], _, [], Lr 11, [6]⟩ :: []) (F := [.op 9 0, .op 10 0, .op 11 0]) (hst.pick [1, 2] rfl) hb Za
               (o_p rfl (Zb rfl rfl u_0) <| o_p rfl (Zu rfl rfl (Opd.imp u_0 (fun _ _ h => Zv h6 h)) (fun _ _ ⟨_, _, _, e, _⟩ => ⟨_, e⟩)) <| o_p rfl (Zd Ze0 rfl rfl u_0) <| o_p rfl (Zf ty_9 rfl rfl u_0) <| o_p rfl (Zb rfl rfl u_0) <| o_p rfl (Zu rfl rfl (Opd.imp u_0 (fun _ _ h => Zv h6 h)) (fun _ _ ⟨_, _, _, e, _⟩ => ⟨_, e⟩)) <| o_p rfl (Zd Zg4 rfl rfl u_0) <| o_p rfl (Zf Zbb rfl rfl u_0) <| o_p rfl (Zn Zok (Zhk _ h12) rfl rfl (.cons u_0 .nil)) <| o_p rfl (Zc rfl rfl u_0) <| o_p rfl (Zz Zbb rfl rfl u_1 u_0) <| o_p rfl (Zc rfl rfl c_b) <| o_n) (by kernel_rfl) (fun a g hst hb => ?_)
             refine wp_ret ?_
             refine Z2 ?_
             refine Z2 ?_
             refine Zq ?_
             refine Zq ?_
             refine Z2 ?_
             refine Zq ?_
             refine Zq ?_
             obtain rfl := Option.some.inj H1
             obtain rfl := Option.some.inj H0
             obtain ⟨u1, hu1, hq1⟩ := Z8 (P := Tryz.prog) Zbb (hst.at 1 rfl)
             exact Zh4 rfl hst hb (Zk (s := 4)) hu1 (Zk (s := 6)) (Zgh (hst.at 0 rfl) hq1 (hst.at 2 rfl))
     · replace H1 := Zx hc4 H1
       refine wp_exit ?_
       refine Zb6 ?_
       refine Zb6 ?_
       refine Zco ?_
       exact ⟨x2, g, rfl, (hst.pick [1] rfl), hb, Option.some.inj H1⟩
theorem Zkh (a0 : Ze) (a1 : Ze) {r : Bool} (h : Zf8 a0 a1 = some r) : FnOk Tryz.prog 29 [(Zi.pd a0), (Zi.pd a1)] (Zbg r) := by
 have H0 := h
 unfold Zf8 at H0
 clear h
 refine Zbp (N := 97) Tryz.func29 rfl rfl (Nat.le_of_ble_eq_true rfl) rfl rfl (fun a g0 hst hb => ?_)
 refine r_s (T := [⟨[.old 0], _, [], [], [2]⟩, ⟨[.old 1], _, [], [], [3]⟩, ⟨[], _, [], [], [4]⟩]) (F := [.op 0 0, .op 1 0]) hst hb Za
   (o_p rfl (Zbj rfl rfl u_0) <| o_p rfl (Zbj rfl rfl u_0) <| o_p rfl (Zc rfl rfl c_b) <| o_n) (by kernel_rfl) (fun a g hst hb => ?_)
 refine wp_seq ?_
 refine r_s (T := ⟨[.old 0], _, [], [], [6]⟩ :: ⟨[.op 0 0], _, [], [0], [7]⟩ :: ⟨[.old 1], _, [], [], [8]⟩ :: ⟨[.op 2 0], _, [], [2], [9]⟩ :: ⟨[.op 1 0, .op 3 0], _, [], Lr 4, [10]⟩ :: ⟨[.op 4 0], _, [], Lr 5, [11]⟩ :: ⟨[.op 5 0, .old 0], _, [], Lr 6, [12]⟩ :: ⟨[.op 5 0, .op 6 0], _, [], Lr 7, [13]⟩ :: ⟨[.op 5 0, .old 1], _, [], Lr 6, [14]⟩ :: ⟨[.op 5 0, .op 8 0], _, [], [0, 1, 2, 3, 4, 5, 8], [15]⟩ :: ⟨[.op 5 0, .op 7 0, .op 9 0], _, [], Lr 10, [16]⟩ :: ⟨[.op 5 0, .op 10 0], _, [], Lr 11, [17]⟩ :: ⟨[.op 11 0], _, [], Lr 12, [18]⟩ :: ⟨[.op 12 0, .old 0], _, [], Lr 13, [19]⟩ :: ⟨[.op 12 0, .op 13 0], _, [], Lr 14, [20]⟩ :: ⟨[.op 12 0, .old 1], _, [], Lr 13, [21]⟩ :: ⟨[.op 12 0, .op 15 0], _, [], 0 :: 1 :: 2 :: 3 :: 4 :: 5 :: 6 :: 7 :: 8 :: 9 :: 10 :: 11 :: 12 :: 15 :: [], [22]⟩ :: ⟨[.op 12 0, .op 14 0, .op 16 0], _, [], Lr 17, [23]⟩ :: ⟨[.op 12 0, .op 17 0], _, [], Lr 18, [24]⟩ :: ⟨[.op 18 0], _, [], Lr 19, [25]⟩ :: ⟨[.op 19 0, .old 0], _, [], Lr 20, [26]⟩ :: ⟨[.op 19 0, .op 20 0], _, [], Lr 21, [27]⟩ :: ⟨[.op 19 0, .old 1], _, [], Lr 20, [28]⟩ :: ⟨[.op 19 0, .op 22 0], _, [], 0 :: 1 :: 2 :: 3 :: 4 :: 5 :: 6 :: 7 :: 8 :: 9 :: 10 :: 11 :: 12 :: 13 :: 14 :: 15 :: 16 :: 17 :: 18 :: 19 :: 22 :: [], [29]⟩ :: ⟨[.op 19 0, .op 21 0, .op 23 0], _, [], Lr 24, [30]⟩ :: ⟨[.op 19 0, .op 24 0], _, [], Lr 25, [31]⟩ :: ⟨[.op 25 0], _, [], Lr 26, [32]⟩ :: ⟨[.op 26 0, .old 0], _, [], Lr 27, [33]⟩ :: ⟨[.op 26 0, .op 27 0], _, [], Lr 28, [34]⟩ :: ⟨[.op 26 0, .old 1], _, [], Lr 27, [35]⟩ :: ⟨[.op 26 0, .op 29 0], _, [], 0 :: 1 :: 2 :: 3 :: 4 :: 5 :: 6 :: 7 :: 8 :: 9 :: 10 :: 11 :: 12 :: 13 :: 14 :: 15 :: 16 :: 17 :: 18 :: 19 :: 20 :: 21 :: 22 :: 23 :: 24 :: 25 :: 26 :: 29 :: [], [36]⟩ :: ⟨[.op 26 0, .op 28 0, .op 30 0], _, [], Lr 31, [37]⟩ :: ⟨[.op 26 0, .op 31 0], _, [], Lr 32, [38]⟩ :: ⟨[.op 32 0], _, [], Lr 33, [39]⟩ :: ⟨[.op 33 0, .old 0], _, [], Lr 34, [40]⟩ :: ⟨[.op 33 0, .op 34 0], _, [], Lr 35, [41]⟩ :: ⟨[.op 33 0, .old 1], _, [], Lr 34, [42]⟩ :: ⟨[.op 33 0, .op 36 0], _, [], 0 :: 1 :: 2 :: 3 :: 4 :: 5 :: 6 :: 7 :: 8 :: 9 :: 10 :: 11 :: 12 :: 13 :: 14 :: 15 :: 16 :: 17 :: 18 :: 19 :: 20 :: 21 :: 22 :: 23 :: 24 :: 25 :: 26 :: 27 :: 28 :: 29 :: 30 :: 31 :: 32 :: 33 :: 36 :: [], [43]⟩ :: ⟨[.op 33 0, .op 35 0, .op 37 0], _, [], Lr 38, [44]⟩ :: ⟨[.op 33 0, .op 38 0], _, [], Lr 39, [45]⟩ :: []) (F := [.old 0, .old 1, .op 39 0]) hst hb Za
   (o_p rfl (Zd Zfq rfl rfl u_0) <| o_p rfl (Zf ty_3 rfl rfl u_0) <| o_p rfl (Zd Zfq rfl rfl u_0) <| o_p rfl (Zf ty_3 rfl rfl u_0) <| o_p rfl (Zc6 rfl rfl u_0 u_1) <| o_p rfl (Zb rfl rfl u_0) <| o_g (g_f rfl rfl rfl (fun hG => Zd Zcs rfl rfl u_0)) <| o_g (g_f rfl rfl rfl (fun hG => Zf ty_2 rfl rfl (Opd.gd hG u_0))) <| o_g (g_f rfl rfl rfl (fun hG => Zd Zcs rfl rfl u_0)) <| o_g (g_f rfl rfl rfl (fun hG => Zf ty_2 rfl rfl (Opd.gd hG u_0))) <| o_g (g_f rfl rfl rfl (fun hG => Zc6 rfl rfl (Opd.gd hG u_0) (Opd.gd hG u_1))) <| o_p rfl (Zbt rfl rfl u_0 (fun hz => (Opd.gd (bNF hz) u_1))) <| o_p rfl (Zb rfl rfl u_0) <| o_g (g_f rfl rfl rfl (fun hG => Zd Ziq rfl rfl u_0)) <| o_g (g_f rfl rfl rfl (fun hG => Zf ty_2 rfl rfl (Opd.gd hG u_0))) <| o_g (g_f rfl rfl rfl (fun hG => Zd Ziq rfl rfl u_0)) <| o_g (g_f rfl rfl rfl (fun hG => Zf ty_2 rfl rfl (Opd.gd hG u_0))) <| o_g (g_f rfl rfl rfl (fun hG => Zc6 rfl rfl (Opd.gd hG u_0) (Opd.gd hG u_1))) <| o_p rfl (Zbt rfl rfl u_0 (fun hz => (Opd.gd (bNF hz) u_1))) <| o_p rfl (Zb rfl rfl u_0) <| o_g (g_f rfl rfl rfl (fun hG => Zd Zip rfl rfl u_0)) <| o_g (g_f rfl rfl rfl (fun hG => Zf ty_2 rfl rfl (Opd.gd hG u_0))) <| o_g (g_f rfl rfl rfl (fun hG => Zd Zip rfl rfl u_0)) <| o_g (g_f rfl rfl rfl (fun hG => Zf ty_2 rfl rfl (Opd.gd hG u_0))) <| o_g (g_f rfl rfl rfl (fun hG => Zc6 rfl rfl (Opd.gd hG u_0) (Opd.gd hG u_1))) <| o_p rfl (Zbt rfl rfl u_0 (fun hz => (Opd.gd (bNF hz) u_1))) <| o_p rfl (Zb rfl rfl u_0) <| o_g (g_f rfl rfl rfl (fun hG => Zd Zf9 rfl rfl u_0)) <| o_g (g_f rfl rfl rfl (fun hG => Zf ty_3 rfl rfl (Opd.gd hG u_0))) <| o_g (g_f rfl rfl rfl (fun hG => Zd Zf9 rfl rfl u_0)) <| o_g (g_f rfl rfl rfl (fun hG => Zf ty_3 rfl rfl (Opd.gd hG u_0))) <| o_g (g_f rfl rfl rfl (fun hG => Zc6 rfl rfl (Opd.gd hG u_0) (Opd.gd hG u_1))) <| o_p rfl (Zbt rfl rfl u_0 (fun hz => (Opd.gd (bNF hz) u_1))) <| o_p rfl (Zb rfl rfl u_0) <| o_g (g_f rfl rfl rfl (fun hG => Zd Zia rfl rfl u_0)) <| o_g (g_f rfl rfl rfl (fun hG => Zf ty_9 rfl rfl (Opd.gd hG u_0))) <| o_g (g_f rfl rfl rfl (fun hG => Zd Zia rfl rfl u_0)) <| o_g (g_f rfl rfl rfl (fun hG => Zf ty_9 rfl rfl (Opd.gd hG u_0))) <| o_g (g_f rfl rfl rfl (fun hG => Zob rfl rfl (Opd.gd hG u_0) (Opd.gd hG u_1))) <| o_p rfl (Zbt rfl rfl u_0 (fun hz => (Opd.gd (bNF hz) u_1))) <| o_n) (by kernel_rfl) (fun a g hst hb => ?_)
 refine wp_cond_split (hst.bool 2 rfl) (fun hc1 => ?_) (fun hc1 => ?_)
 · replace H0 := Zw hc1 H0
   refine r_s (L := []) (T := [⟨[], _, [], [], [4]⟩]) (F := [.op 0 0]) (hst.pick [] rfl) hb Za
     (o_p rfl (Zc rfl rfl c_b) <| o_n) (by kernel_rfl) (fun a g hst hb => ?_)
   refine wp_ret ?_
   refine Zq ?_
   obtain rfl := Option.some.inj H0
   exact Z1 rfl hst hb (Zk (s := 4)) (hst.at 0 rfl)
 · replace H0 := Zx hc1 H0
   refine wp_skip ?_
   refine Zr ?_
   refine wp_seq ?_
   obtain ⟨r2, h3, H0⟩ := Zh H0
   refine r_s (L := [(2, _), (3, _)]) (T := ⟨[.old 0], _, [], [], [46]⟩ :: ⟨[.op 0 0], _, [], [0], [47]⟩ :: ⟨[.old 1], _, [], [], [48]⟩ :: ⟨[.op 2 0], _, [], [2], [49]⟩ :: ⟨[.op 1 0, .op 3 0], _, [], Lr 4, [50]⟩ :: ⟨[.op 4 0], _, [], Lr 5, [51]⟩ :: ⟨[.op 5 0], _, [], Lr 6, [52]⟩ :: ⟨[.op 6 0, .old 0], _, [], Lr 7, [53]⟩ :: ⟨[.op 6 0, .op 7 0], _, [], Lr 8, [54]⟩ :: ⟨[.op 6 0, .op 8 0], _, [], Lr 9, [55]⟩ :: ⟨[.op 6 0, .old 1], _, [], Lr 7, [56]⟩ :: ⟨[.op 6 0, .op 10 0], _, [], [0, 1, 2, 3, 4, 5, 6, 10], [57]⟩ :: ⟨[.op 6 0, .op 11 0], _, [], [0, 1, 2, 3, 4, 5, 6, 10, 11], [58]⟩ :: ⟨[.op 6 0, .op 9 0, .op 12 0], _, [], Lr 13, [59]⟩ :: ⟨[.op 6 0, .op 13 0], _, [], Lr 14, [60]⟩ :: []) (F := [.old 0, .old 1, .op 14 0]) (hst.pick [0, 1] rfl) hb Za
     (o_p rfl (Zd Zfj rfl rfl u_0) <| o_p rfl (Zf Zcv rfl rfl u_0) <| o_p rfl (Zd Zfj rfl rfl u_0) <| o_p rfl (Zf Zcv rfl rfl u_0) <| o_p rfl (Zn Zr6 (Zfz _ _ h3) rfl rfl (.cons u_0 (.cons u_1 .nil))) <| o_p rfl (Zb7 rfl rfl u_0) <| o_p rfl (Zb rfl rfl u_0) <| o_g (g_f rfl rfl rfl (fun hG => Zd Zca rfl rfl u_0)) <| o_g (g_f rfl rfl rfl (fun hG => Zf Zc1 rfl rfl (Opd.gd hG u_0))) <| o_g (g_f rfl rfl rfl (fun hG => Zbu Tryz.underlying62 rfl rfl (Opd.gd hG u_0))) <| o_g (g_f rfl rfl rfl (fun hG => Zd Zca rfl rfl u_0)) <| o_g (g_f rfl rfl rfl (fun hG => Zf Zc1 rfl rfl (Opd.gd hG u_0))) <| o_g (g_f rfl rfl rfl (fun hG => Zbu Tryz.underlying62 rfl rfl (Opd.gd hG u_0))) <| o_g (g_f rfl rfl rfl (fun hG => Zc6 rfl rfl (Opd.gd hG u_0) (Opd.gd hG u_1))) <| o_p rfl (Zbt rfl rfl u_0 (fun hz => (Opd.gd (bNF hz) u_1))) <| o_n) (by kernel_rfl) (fun a g hst hb => ?_)
   refine wp_cond_split (hst.bool 2 rfl) (fun hc4 => ?_) (fun hc4 => ?_)
   · replace H0 := Zw hc4 H0
     refine r_s (L := []) (T := [⟨[], _, [], [], [4]⟩]) (F := [.op 0 0]) (hst.pick [] rfl) hb Za
       (o_p rfl (Zc rfl rfl c_b) <| o_n) (by kernel_rfl) (fun a g hst hb => ?_)
     refine wp_ret ?_
     refine Zq ?_
     obtain rfl := Option.some.inj H0
     exact Z1 rfl hst hb (Zk (s := 4)) (hst.at 0 rfl)
   · replace H0 := Zx hc4 H0
     refine wp_skip ?_
     refine Zr ?_
     refine wp_seq ?_
     refine r_s (L := [(2, _), (3, _)]) (T := [⟨[], _, [], [], [5]⟩]) (F := [.old 0, .old 1, .op 0 0]) (hst.pick [0, 1] rfl) hb Za
       (o_p rfl (Zc rfl rfl c_i) <| o_n) (by kernel_rfl) (fun a g hst hb => ?_)
     obtain ⟨z18, hz1, H0⟩ := Zh H0
     refine Zb8 (fun a w => ∃ (g : G), w = g.w ∧ St 97 [] a g ∧ Base g0 g ∧ (.inr ()) = z18) ?_ ?_
     · rintro a w ⟨g, rfl, hst, hb, rfl⟩
       refine Zr ?_
       refine r_s (T := [⟨[], _, [], [], [4]⟩]) (F := [.op 0 0]) hst hb Za
         (o_p rfl (Zc rfl rfl c_b) <| o_n) (by kernel_rfl) (fun a g hst hb => ?_)
       refine wp_ret ?_
       obtain rfl := Option.some.inj H0
       exact Z1 rfl hst hb (Zk (s := 4)) (hst.at 0 rfl)
     · refine wp_block ?_
       refine wp_loop_ghost (fun n a w => ∃ (x5 : Int) (g : G), w = g.w ∧ St 97 [(2, (Zi.ptr a0)), (3, (Zi.ptr a1)), (5, (pInt .i64 x5))] a g ∧ Base g0 g ∧ Zef a0 a1 n x5 = some z18) (Int.toNat ((a0.List.length : Int) - (0 : Int)) + 1) ⟨(0 : Int), g, rfl, (hst.pick [0, 1, 2] rfl), hb, hz1⟩ (fun n a w hI => ?_)
       obtain ⟨x5, g, rfl, hst, hb, H1⟩ := hI
       cases n with
       | zero => exact absurd H1 (by simp [Zef])
       | succ n =>
         rw [Zef] at H1
         refine wp_seq ?_
         refine r_s (T := [⟨[.old 2], _, [], [], [61]⟩, ⟨[.old 0], _, [], [], [62]⟩, ⟨[.op 1 0], _, [], [1], [63]⟩, ⟨[.op 2 0], _, [], [1, 2], [64]⟩, ⟨[.op 0 0, .op 3 0], _, [], Lr 4, [65]⟩]) (F := [.old 0, .old 1, .old 2, .op 4 0]) hst hb Za
           (o_p rfl (Zb rfl rfl u_0) <| o_p rfl (Zd Zca rfl rfl u_0) <| o_p rfl (Zf Zc1 rfl rfl u_0) <| o_p rfl (Zbu Tryz.underlying62 rfl rfl u_0) <| o_p rfl (Zcc rfl rfl u_0 u_1) <| o_n) (by kernel_rfl) (fun a g hst hb => ?_)
         refine wp_cond_split (hst.bool 3 rfl) (fun hc6 => ?_) (fun hc6 => ?_)
         · replace H1 := Zw hc6 H1
           refine wp_skip ?_
           refine Zr ?_
           refine wp_seq ?_
           refine wp_block ?_
           obtain ⟨e7, h8, H1⟩ := Zh H1; obtain ⟨e9, h10, H1⟩ := Zh H1; obtain ⟨e11, h12, H1⟩ := Zh H1; obtain ⟨e13, h14, H1⟩ := Zh H1; obtain ⟨r15, h16, H1⟩ := Zh H1
           refine r_s (L := [(2, _), (3, _), (5, _)]) (T := ⟨[.old 0], _, [], [], [68]⟩ :: ⟨[.op 0 0], _, [], [0], [69]⟩ :: ⟨[.old 2], _, [], [], [70]⟩ :: ⟨[.op 1 0, .op 2 0], _, [], [0, 1, 2], [71]⟩ :: ⟨[.op 3 0], _, [], Lr 4, [72]⟩ :: ⟨[.op 4 0], _, [], Lr 5, [73]⟩ :: ⟨[.old 1], _, [], [], [74]⟩ :: ⟨[.op 6 0], _, [], [6], [75]⟩ :: ⟨[.old 2], _, [], [], [76]⟩ :: ⟨[.op 7 0, .op 8 0], _, [], [6, 7, 8], [77]⟩ :: ⟨[.op 9 0], _, [], List.range' 6 4, [78]⟩ :: ⟨[.op 10 0], _, [], List.range' 6 5, [79]⟩ :: ⟨[.op 5 0, .op 11 0], _, [], Lr 12, [80]⟩ :: ⟨[.op 12 0], _, [], Lr 13, [81]⟩ :: ⟨[.op 13 0, .old 0], _, [], Lr 14, [82]⟩ :: ⟨[.op 13 0, .op 14 0], _, [], Lr 15, [83]⟩ :: ⟨[.op 13 0, .old 2], _, [], Lr 14, [84]⟩ :: ⟨[.op 13 0, .op 15 0, .op 16 0], _, [], Lr 17, [85]⟩ :: ⟨[.op 13 0, .op 17 0], _, [], Lr 18, [86]⟩ :: ⟨[.op 13 0, .op 18 0], _, [], Lr 19, [87]⟩ :: ⟨[.op 13 0, .old 1], _, [], Lr 14, [88]⟩ :: ⟨[.op 13 0, .op 20 0], _, [], 0 :: 1 :: 2 :: 3 :: 4 :: 5 :: 6 :: 7 :: 8 :: 9 :: 10 :: 11 :: 12 :: 13 :: 20 :: [], [89]⟩ :: ⟨[.op 13 0, .old 2], _, [], Lr 14, [90]⟩ :: ⟨[.op 13 0, .op 21 0, .op 22 0], _, [], 0 :: 1 :: 2 :: 3 :: 4 :: 5 :: 6 :: 7 :: 8 :: 9 :: 10 :: 11 :: 12 :: 13 :: 20 :: 21 :: 22 :: [], [91]⟩ :: ⟨[.op 13 0, .op 23 0], _, [], 0 :: 1 :: 2 :: 3 :: 4 :: 5 :: 6 :: 7 :: 8 :: 9 :: 10 :: 11 :: 12 :: 13 :: 20 :: 21 :: 22 :: 23 :: [], [92]⟩ :: ⟨[.op 13 0, .op 24 0], _, [], 0 :: 1 :: 2 :: 3 :: 4 :: 5 :: 6 :: 7 :: 8 :: 9 :: 10 :: 11 :: 12 :: 13 :: 20 :: 21 :: 22 :: 23 :: 24 :: [], [93]⟩ :: ⟨[.op 13 0, .op 19 0, .op 25 0], _, [], Lr 26, [94]⟩ :: ⟨[.op 13 0, .op 26 0], _, [], Lr 27, [95]⟩ :: ⟨[.op 13 0, .op 27 0], _, [], Lr 28, [96]⟩ :: []) (F := [.old 0, .old 1, .old 2, .op 28 0]) (hst.pick [0, 1, 2] rfl) hb Za
             (o_p rfl (Zd Zca rfl rfl u_0) <| o_p rfl (Zf Zc1 rfl rfl u_0) <| o_p rfl (Zb rfl rfl u_0) <| o_p rfl (Zbf Tryz.underlying62 Zeq rfl rfl u_0 u_1 h8) <| o_p rfl (Zd Zdo rfl rfl u_0) <| o_p rfl (Zf ty_9 rfl rfl u_0) <| o_p rfl (Zd Zca rfl rfl u_0) <| o_p rfl (Zf Zc1 rfl rfl u_0) <| o_p rfl (Zb rfl rfl u_0) <| o_p rfl (Zbf Tryz.underlying62 Zeq rfl rfl u_0 u_1 h10) <| o_p rfl (Zd Zdo rfl rfl u_0) <| o_p rfl (Zf ty_9 rfl rfl u_0) <| o_p rfl (Zob rfl rfl u_0 u_1) <| o_p rfl (Zb rfl rfl u_0) <| o_g (g_f rfl rfl rfl (fun hG => Zd Zca rfl rfl u_0)) <| o_g (g_f rfl rfl rfl (fun hG => Zf Zc1 rfl rfl (Opd.gd hG u_0))) <| o_g (g_f rfl rfl rfl (fun hG => Zb rfl rfl u_0)) <| o_g (g_f rfl rfl rfl (fun hG => Zbf Tryz.underlying62 Zeq rfl rfl (Opd.gd hG u_0) (Opd.gd hG u_1) (Zbm h12 hG))) <| o_g (g_f rfl rfl rfl (fun hG => Zd Ze8 rfl rfl (Opd.gd hG u_0))) <| o_g (g_f rfl rfl rfl (fun hG => Zf Zcv rfl rfl (Opd.gd hG u_0))) <| o_g (g_f rfl rfl rfl (fun hG => Zd Zca rfl rfl u_0)) <| o_g (g_f rfl rfl rfl (fun hG => Zf Zc1 rfl rfl (Opd.gd hG u_0))) <| o_g (g_f rfl rfl rfl (fun hG => Zb rfl rfl u_0)) <| o_g (g_f rfl rfl rfl (fun hG => Zbf Tryz.underlying62 Zeq rfl rfl (Opd.gd hG u_0) (Opd.gd hG u_1) (Zbm h14 hG))) <| o_g (g_f rfl rfl rfl (fun hG => Zd Ze8 rfl rfl (Opd.gd hG u_0))) <| o_g (g_f rfl rfl rfl (fun hG => Zf Zcv rfl rfl (Opd.gd hG u_0))) <| o_g (g_f rfl rfl rfl (fun hG => Zn Zr6 (Zfz _ _ (Zbm h16 hG)) rfl rfl (.cons (Opd.gd hG u_0) (.cons (Opd.gd hG u_1) .nil)))) <| o_g (g_f rfl rfl rfl (fun hG => Zb7 rfl rfl (Opd.gd hG u_0))) <| o_p rfl (Zbt rfl rfl u_0 (fun hz => (Opd.gd (bNF hz) u_1))) <| o_n) (by kernel_rfl) (fun a g hst hb => ?_)
           refine wp_cond_split (hst.bool 3 rfl) (fun hc17 => ?_) (fun hc17 => ?_)
           · replace H1 := Zw hc17 H1
             refine r_s (L := []) (T := [⟨[], _, [], [], [4]⟩]) (F := [.op 0 0]) (hst.pick [] rfl) hb Za
               (o_p rfl (Zc rfl rfl c_b) <| o_n) (by kernel_rfl) (fun a g hst hb => ?_)
             refine wp_ret ?_
             refine Z2 ?_
             refine Zq ?_
             refine Zq ?_
             refine Z2 ?_
             refine Zq ?_
             refine Zq ?_
             obtain rfl := Option.some.inj H1
             obtain rfl := Option.some.inj H0
             exact Z1 rfl hst hb (Zk (s := 4)) (hst.at 0 rfl)
           · replace H1 := Zx hc17 H1
             refine wp_skip ?_
             refine Zba ?_
             refine Zr ?_
             refine r_g (L := [(2, _), (3, _), (5, _)]) (T := [⟨[.old 2], _, [], [], [66]⟩, ⟨[.op 0 0], _, [], [0], [67]⟩, ⟨[.op 1 0], _, [], [0, 1], [5]⟩]) (F := [.old 0, .old 1, .op 2 0]) (hst.pick [0, 1, 2] rfl) hb Za
               (o_p rfl (Zb rfl rfl u_0) <| o_p rfl (Zb3 rfl rfl u_0 c_i rfl) <| o_p rfl (Zc rfl rfl u_0) <| o_n) (by kernel_rfl) (fun a g hst hb => ?_)
             exact ⟨n, Nat.lt_succ_self _, (IntKind.i64.wrap (x5 + (1 : Int))), g, rfl, (hst.pick [0, 1, 2] rfl), hb, H1⟩
         · replace H1 := Zx hc6 H1
           refine wp_exit ?_
           refine Zb6 ?_
           refine Zb6 ?_
           refine Zco ?_
           exact ⟨g, rfl, (hst.pick [] rfl), hb, Option.some.inj H1⟩
theorem Zsc (a0 : Zo) (a1 : Zj) {r : Int} (h : Zju a0 a1 = some r) : FnOk Tryz.prog 11 [(Z0.pd a0), (Z6.pd a1)] (pInt .i64 r) := by
 have H0 := h
 unfold Zju at H0
 clear h
 refine Zbp (N := 54) Tryz.func11 rfl rfl (Nat.le_of_ble_eq_true rfl) rfl rfl (fun a g0 hst hb => ?_)
 refine r_s (T := [⟨[.old 0], _, [], [], [2]⟩, ⟨[.old 1], _, [], [], [3]⟩, ⟨[], _, [], [], [4]⟩]) (F := [.op 0 0, .op 1 0]) hst hb Za
   (o_p rfl (Zbj rfl rfl u_0) <| o_p rfl (Zbj rfl rfl u_0) <| o_p rfl (Zc rfl rfl c_i) <| o_n) (by kernel_rfl) (fun a g hst hb => ?_)
 refine wp_seq ?_
 obtain ⟨r1, h2, H0⟩ := Zh H0; obtain ⟨r3, h4, H0⟩ := Zh H0
 refine r_s (T := ⟨[.old 0], _, [], [], [10]⟩ :: ⟨[.op 0 0], _, [], [0], [11]⟩ :: ⟨[.old 1], _, [], [], [12]⟩ :: ⟨[.op 2 0], _, [], [2], [13]⟩ :: ⟨[.op 3 0], _, [], [2, 3], [14]⟩ :: ⟨[.op 1 0, .op 4 0], _, [], Lr 5, [15]⟩ :: ⟨[.op 5 0], _, [], Lr 6, [16]⟩ :: ⟨[.op 6 0, .old 0], _, [], Lr 7, [17]⟩ :: ⟨[.op 6 0, .op 7 0], _, [], Lr 8, [18]⟩ :: ⟨[.op 6 0, .old 1], _, [], Lr 7, [19]⟩ :: ⟨[.op 6 0, .op 9 0], _, [], [0, 1, 2, 3, 4, 5, 6, 9], [20]⟩ :: ⟨[.op 6 0, .op 8 0, .op 10 0], _, [], Lr 11, [21]⟩ :: ⟨[.op 6 0, .op 11 0], _, [], Lr 12, [22]⟩ :: []) (F := [.old 0, .old 1, .op 12 0]) hst hb Za
   (o_p rfl (Zf Zbv rfl rfl u_0) <| o_p rfl (Zn Zwm (Zix _ h2) rfl rfl (.cons u_0 .nil)) <| o_p rfl (Zd Zgc rfl rfl u_0) <| o_p rfl (Zf Zi0 rfl rfl u_0) <| o_p rfl (Zbu Tryz.underlying22 rfl rfl u_0) <| o_p rfl (Zc6 rfl rfl u_0 u_1) <| o_p rfl (Zb rfl rfl u_0) <| o_g (g_f rfl rfl rfl (fun hG => Zf Zbv rfl rfl u_0)) <| o_g (g_f rfl rfl rfl (fun hG => Zn Zbad (Zqe _ (Zbm h4 hG)) rfl rfl (.cons (Opd.gd hG u_0) .nil))) <| o_g (g_f rfl rfl rfl (fun hG => Zd Zpg rfl rfl u_0)) <| o_g (g_f rfl rfl rfl (fun hG => Zf ty_3 rfl rfl (Opd.gd hG u_0))) <| o_g (g_f rfl rfl rfl (fun hG => Zc6 rfl rfl (Opd.gd hG u_0) (Opd.gd hG u_1))) <| o_p rfl (Zbt rfl rfl u_0 (fun hz => (Opd.gd (bNF hz) u_1))) <| o_n) (by kernel_rfl) (fun a g hst hb => ?_)
 refine wp_cond_split (hst.bool 2 rfl) (fun hc5 => ?_) (fun hc5 => ?_)
 · replace H0 := Zw hc5 H0
   refine r_s (L := []) (T := [⟨[], _, [], [], [4]⟩]) (F := [.op 0 0]) (hst.pick [] rfl) hb Za
     (o_p rfl (Zc rfl rfl c_i) <| o_n) (by kernel_rfl) (fun a g hst hb => ?_)
   refine wp_ret ?_
   refine Zq ?_
   obtain rfl := Option.some.inj H0
   exact Z1 rfl hst hb (Zk (s := 4)) (hst.at 0 rfl)
 · replace H0 := Zx hc5 H0
   refine wp_skip ?_
   refine Zr ?_
   refine wp_seq ?_
   refine r_s (L := [(2, _), (3, _)]) (T := [⟨[.old 1], _, [], [], [23]⟩, ⟨[.op 0 0], _, [], [0], [24]⟩, ⟨[.op 1 0], _, [], [0, 1], [25]⟩, ⟨[], _, [], [], [26]⟩]) (F := [.old 0, .op 1 0, .op 2 0, .op 3 0]) (hst.pick [0, 1] rfl) hb Za
     (o_p rfl (Zd Zgc rfl rfl u_0) <| o_p rfl (Zf Zi0 rfl rfl u_0) <| o_p rfl (Zbu Tryz.underlying22 rfl rfl u_0) <| o_p rfl (Zb rfl rfl c_i) <| o_n) (by kernel_rfl) (fun a g hst hb => ?_)
   obtain ⟨z15, hz1, H0⟩ := Zh H0
   refine Zb8 (fun a w => ∃ (g : G), w = g.w ∧ St 54 [] a g ∧ Base g0 g ∧ (.inr ()) = z15) ?_ ?_
   · rintro a w ⟨g, rfl, hst, hb, rfl⟩
     refine Zr ?_
     refine r_s (T := [⟨[], _, [], [], [4]⟩]) (F := [.op 0 0]) hst hb Za
       (o_p rfl (Zc rfl rfl c_i) <| o_n) (by kernel_rfl) (fun a g hst hb => ?_)
     refine wp_ret ?_
     obtain rfl := Option.some.inj H0
     exact Z1 rfl hst hb (Zk (s := 4)) (hst.at 0 rfl)
   · refine wp_block ?_
     refine wp_loop_ghost (fun n a w => ∃ (x6 : Int) (g : G), w = g.w ∧ St 54 [(2, (Z0.ptr a0)), (24, (Zb1.sl.pd a1.L)), (25, (pInt .i64 (a1.L.length : Int))), (26, (pInt .i64 x6))] a g ∧ Base g0 g ∧ Ze6 a0 a1 n x6 = some z15) (Int.toNat ((a1.L.length : Int) - (0 : Int)) + 1) ⟨(0 : Int), g, rfl, (hst.pick [0, 1, 2, 3] rfl), hb, hz1⟩ (fun n a w hI => ?_)
     obtain ⟨x6, g, rfl, hst, hb, H1⟩ := hI
     cases n with
     | zero => exact absurd H1 (by simp [Ze6])
     | succ n =>
       rw [Ze6] at H1
       refine r_s (T := [⟨[.old 3, .old 2], _, [], [], [27]⟩]) (F := [.old 0, .old 1, .old 2, .old 3, .op 0 0]) hst hb Za
         (o_p rfl (Zcc rfl rfl u_0 u_1) <| o_n) (by kernel_rfl) (fun a g hst hb => ?_)
       refine wp_seq ?_
       refine wp_cond_split (hst.bool 4 rfl) (fun hc7 => ?_) (fun hc7 => ?_)
       · replace H1 := Zw hc7 H1
         refine wp_skip ?_
         refine Zr ?_
         refine wp_seq ?_
         refine wp_block ?_
         obtain ⟨e8, h9, H1⟩ := Zh H1
         refine r_s (L := [(2, _), (24, _), (25, _), (26, _)]) (T := [⟨[.old 3], _, [], [], [28]⟩, ⟨[.old 1, .old 3], _, [], [], [29]⟩, ⟨[.op 1 0], _, [], [1], [30]⟩, ⟨[], [(6, (pBox Zb1 6 (default : Z9)))], [7], [], [6]⟩, ⟨[.op 0 0], _, [], Lr 4, [5]⟩, ⟨[.op 2 0, .op 3 0], _, [7], Lr 5, [6]⟩]) (F := [.old 0, .op 4 0, .op 5 0, .old 1, .old 2, .old 3]) (hst.pick [0, 1, 2, 3] rfl) hb Za
           (o_p rfl (Zb rfl rfl u_0) <| o_p rfl (Zbf Tryz.underlying22 Zl4 rfl rfl u_0 u_1 h9) <| o_p rfl (Zf Zwy rfl rfl u_0) <| o_p rfl (Zbd (zs := [.string ByteArray.empty, .int .i64 0, .int .i64 0, .int .i64 0, .int .i64 0, .float .f64 0, .int .i64 0, .string ByteArray.empty, .slice none 0 0]) (by kernel_rfl) (fun g => Zmd g) rfl rfl) <| o_p rfl (Zc rfl rfl u_0) <| o_p rfl (Zb5 Zwy rfl rfl u_1 u_0) <| o_n) (by kernel_rfl) (fun a g hst hb => ?_)
         obtain ⟨r10, h11, H1⟩ := Zh H1
         refine r_s (T := [⟨[.old 0], _, [], [], [32]⟩, ⟨[.old 1], _, [], [], [33]⟩, ⟨[.op 0 0, .op 1 0], _, [], [0, 1], [34]⟩, ⟨[.op 2 0], _, [], [0, 1, 2], [31]⟩, ⟨[.op 3 0], _, [], Lr 4, [35]⟩, ⟨[.op 3 0], _, [], Lr 4, [36]⟩, ⟨[.op 3 0], _, [], Lr 4, [37]⟩, ⟨[], [(8, (pBox Zi 8 (default : Ze)))], [9], [], [8]⟩, ⟨[.op 4 0], _, [], [0, 1, 2, 3, 4, 7], [7]⟩, ⟨[.op 5 0, .op 7 0], _, [9], [0, 1, 2, 3, 4, 5, 7, 8], [8]⟩, ⟨[.op 6 0], _, [], Lr 10, [9]⟩]) (F := [.old 0, .old 2, .op 8 0, .op 9 0, .op 10 0, .old 3, .old 4, .old 5]) hst hb Za
           (o_p rfl (Zf Zbv rfl rfl u_0) <| o_p rfl (Zb rfl rfl u_0) <| o_p rfl (Zn Zbae (Zsd _ _ h11) rfl rfl (.cons u_0 (.cons u_1 .nil))) <| o_p rfl (Zb rfl rfl u_0) <| o_p rfl (Z4 rfl rfl u_0 rfl) <| o_p rfl (Z4 rfl rfl u_0 rfl) <| o_p rfl (Z4 rfl rfl u_0 rfl) <| o_p rfl (Zbd (zs := [.int .i64 0, .int .i64 0, .int .i64 0, .int .i64 0, .float .f64 0, .int .i64 0, .string ByteArray.empty, .slice none 0 0]) (by kernel_rfl) (fun g => Zb9 g) rfl rfl) <| o_p rfl (Zc rfl rfl u_0) <| o_p rfl (Zb5 Zbb rfl rfl u_1 u_0) <| o_p rfl (Zc rfl rfl u_0) <| o_n) (by kernel_rfl) (fun a g hst hb => ?_)
         obtain ⟨r12, h13, H1⟩ := Zh H1
         refine r_s (T := ⟨[.old 4], _, [], [], [38]⟩ :: ⟨[.op 0 0], _, [], [0], [39]⟩ :: ⟨[.op 1 0], _, [], [0, 1], [40]⟩ :: ⟨[.op 2 0, .old 2], _, [], [0, 1, 2], [41]⟩ :: ⟨[.op 2 0, .old 1], _, [], [0, 1, 2], [42]⟩ :: ⟨[.op 2 0, .op 4 0], _, [], [0, 1, 2, 4], [43]⟩ :: ⟨[.op 2 0, .op 3 0, .op 5 0], _, [], Lr 6, [44]⟩ :: ⟨[.op 2 0, .op 6 0], _, [], Lr 7, [45]⟩ :: ⟨[.op 7 0], _, [], Lr 8, [46]⟩ :: ⟨[.op 8 0, .old 3], _, [], Lr 9, [47]⟩ :: ⟨[.op 8 0, .old 1], _, [], Lr 9, [48]⟩ :: ⟨[.op 8 0, .op 10 0], _, [], [0, 1, 2, 3, 4, 5, 6, 7, 8, 10], [49]⟩ :: ⟨[.op 8 0, .op 9 0, .op 11 0], _, [], Lr 12, [50]⟩ :: ⟨[.op 8 0, .op 12 0], _, [], Lr 13, [51]⟩ :: ⟨[.op 8 0, .op 13 0], _, [], Lr 14, [52]⟩ :: []) (F := [.old 0, .old 5, .old 6, .old 7, .op 14 0]) hst hb Za
           (o_p rfl (Zb rfl rfl u_0) <| o_p rfl (Zb7 rfl rfl u_0) <| o_p rfl (Zb rfl rfl u_0) <| o_g (g_f rfl rfl rfl (fun hG => Zb rfl rfl u_0)) <| o_g (g_f rfl rfl rfl (fun hG => Zd Zlp rfl rfl u_0)) <| o_g (g_f rfl rfl rfl (fun hG => Zf ty_9 rfl rfl (Opd.gd hG u_0))) <| o_g (g_f rfl rfl rfl (fun hG => Zob rfl rfl (Opd.gd hG u_0) (Opd.gd hG u_1))) <| o_p rfl (Zbt rfl rfl u_0 (fun hz => (Opd.gd (bNF hz) u_1))) <| o_p rfl (Zb rfl rfl u_0) <| o_g (g_f rfl rfl rfl (fun hG => Zf Zbb rfl rfl u_0)) <| o_g (g_f rfl rfl rfl (fun hG => Zd Zo1 rfl rfl u_0)) <| o_g (g_f rfl rfl rfl (fun hG => Zf Zbb rfl rfl (Opd.gd hG u_0))) <| o_g (g_f rfl rfl rfl (fun hG => Zn Z0v (Zkh _ _ (Zbm h13 hG)) rfl rfl (.cons (Opd.gd hG u_0) (.cons (Opd.gd hG u_1) .nil)))) <| o_g (g_f rfl rfl rfl (fun hG => Zb7 rfl rfl (Opd.gd hG u_0))) <| o_p rfl (Zbt rfl rfl u_0 (fun hz => (Opd.gd (bNF hz) u_1))) <| o_n) (by kernel_rfl) (fun a g hst hb => ?_)
         refine wp_cond_split (hst.bool 4 rfl) (fun hc14 => ?_) (fun hc14 => ?_)
         · replace H1 := Zw hc14 H1
           refine r_s (L := []) (T := [⟨[], _, [], [], [4]⟩]) (F := [.op 0 0]) (hst.pick [] rfl) hb Za
             (o_p rfl (Zc rfl rfl c_i) <| o_n) (by kernel_rfl) (fun a g hst hb => ?_)
           refine wp_ret ?_
           refine Z2 ?_
           refine Zq ?_
           refine Zq ?_
           refine Z2 ?_
           refine Zq ?_
           refine Zq ?_
           obtain rfl := Option.some.inj H1
           obtain rfl := Option.some.inj H0
           exact Z1 rfl hst hb (Zk (s := 4)) (hst.at 0 rfl)
         · replace H1 := Zx hc14 H1
           refine wp_skip ?_
           refine Zba ?_
           refine Zr ?_
           refine r_g (L := [(2, _), (24, _), (25, _), (26, _)]) (T := [⟨[.old 3], _, [], [], [53]⟩, ⟨[.op 0 0], _, [], [0], [26]⟩]) (F := [.old 0, .old 1, .old 2, .op 1 0]) (hst.pick [0, 1, 2, 3] rfl) hb Za
             (o_p rfl (Zb3 rfl rfl u_0 c_i rfl) <| o_p rfl (Zb rfl rfl u_0) <| o_n) (by kernel_rfl) (fun a g hst hb => ?_)
           exact ⟨n, Nat.lt_succ_self _, (IntKind.i64.wrap (x6 + (1 : Int))), g, rfl, (hst.pick [0, 1, 2, 3] rfl), hb, H1⟩
       · replace H1 := Zx hc7 H1
         refine wp_exit ?_
         refine Zb6 ?_
         refine Zb6 ?_
         refine Zco ?_
         exact ⟨g, rfl, (hst.pick [] rfl), hb, Option.some.inj H1⟩
theorem Zqg (a0 : Zg) (a1 : Zg) {r : Bool} (h : Zik a0 a1 = some r) : FnOk Tryz.prog 55 [(Zm.pd a0), (Zm.pd a1)] (Zbg r) := by
 have H0 := h
 unfold Zik at H0
 clear h
 refine Zbp (N := 24) Tryz.func55 rfl rfl (Nat.le_of_ble_eq_true rfl) rfl rfl (fun a g0 hst hb => ?_)
 refine r_s (T := [⟨[.old 0], _, [], [], [2]⟩, ⟨[.old 1], _, [], [], [3]⟩, ⟨[], _, [], [], [4]⟩]) (F := [.op 0 0, .op 1 0]) hst hb Za
   (o_p rfl (Zbj rfl rfl u_0) <| o_p rfl (Zbj rfl rfl u_0) <| o_p rfl (Zc rfl rfl c_b) <| o_n) (by kernel_rfl) (fun a g hst hb => ?_)
 obtain ⟨r1, h2, H0⟩ := Zh H0
 refine r_s (T := ⟨[.old 0], _, [], [], [5]⟩ :: ⟨[.op 0 0], _, [], [0], [6]⟩ :: ⟨[.old 1], _, [], [], [7]⟩ :: ⟨[.op 2 0], _, [], [2], [8]⟩ :: ⟨[.op 1 0, .op 3 0], _, [], Lr 4, [9]⟩ :: ⟨[.op 4 0], _, [], Lr 5, [10]⟩ :: ⟨[.op 5 0, .old 0], _, [], Lr 6, [11]⟩ :: ⟨[.op 5 0, .op 6 0], _, [], Lr 7, [12]⟩ :: ⟨[.op 5 0, .old 1], _, [], Lr 6, [13]⟩ :: ⟨[.op 5 0, .op 8 0], _, [], [0, 1, 2, 3, 4, 5, 8], [14]⟩ :: ⟨[.op 5 0, .op 7 0, .op 9 0], _, [], Lr 10, [15]⟩ :: ⟨[.op 5 0, .op 10 0], _, [], Lr 11, [16]⟩ :: ⟨[.op 11 0], _, [], Lr 12, [17]⟩ :: ⟨[.op 12 0, .old 0], _, [], Lr 13, [18]⟩ :: ⟨[.op 12 0, .op 13 0], _, [], Lr 14, [19]⟩ :: ⟨[.op 12 0, .old 1], _, [], Lr 13, [20]⟩ :: ⟨[.op 12 0, .op 15 0], _, [], 0 :: 1 :: 2 :: 3 :: 4 :: 5 :: 6 :: 7 :: 8 :: 9 :: 10 :: 11 :: 12 :: 15 :: [], [21]⟩ :: ⟨[.op 12 0, .op 14 0, .op 16 0], _, [], Lr 17, [22]⟩ :: ⟨[.op 12 0, .op 17 0], _, [], Lr 18, [23]⟩ :: ⟨[.op 18 0], _, [], Lr 19, [4]⟩ :: []) (F := [.op 19 0]) hst hb Za
   (o_p rfl (Zd Zf0 rfl rfl u_0) <| o_p rfl (Zf Zgj rfl rfl u_0) <| o_p rfl (Zd Zf0 rfl rfl u_0) <| o_p rfl (Zf Zgj rfl rfl u_0) <| o_p rfl (Zbl rfl rfl u_0 u_1) <| o_p rfl (Zb rfl rfl u_0) <| o_g (g_t rfl rfl rfl (fun hG => Zd Zrz rfl rfl u_0)) <| o_g (g_t rfl rfl rfl (fun hG => Zf ty_2 rfl rfl (Opd.gd hG u_0))) <| o_g (g_t rfl rfl rfl (fun hG => Zd Zrz rfl rfl u_0)) <| o_g (g_t rfl rfl rfl (fun hG => Zf ty_2 rfl rfl (Opd.gd hG u_0))) <| o_g (g_t rfl rfl rfl (fun hG => Zbl rfl rfl (Opd.gd hG u_0) (Opd.gd hG u_1))) <| o_p rfl (Zbc rfl rfl u_0 (fun hz => (Opd.gd hz u_1))) <| o_p rfl (Zb rfl rfl u_0) <| o_g (g_t rfl rfl rfl (fun hG => Zd Znm rfl rfl u_0)) <| o_g (g_t rfl rfl rfl (fun hG => Zf Zbb rfl rfl (Opd.gd hG u_0))) <| o_g (g_t rfl rfl rfl (fun hG => Zd Znm rfl rfl u_0)) <| o_g (g_t rfl rfl rfl (fun hG => Zf Zbb rfl rfl (Opd.gd hG u_0))) <| o_g (g_t rfl rfl rfl (fun hG => Zn Z0v (Zkh _ _ (Zbm h2 hG)) rfl rfl (.cons (Opd.gd hG u_0) (.cons (Opd.gd hG u_1) .nil)))) <| o_p rfl (Zbc rfl rfl u_0 (fun hz => (Opd.gd hz u_1))) <| o_p rfl (Zc rfl rfl u_0) <| o_n) (by kernel_rfl) (fun a g hst hb => ?_)
 refine wp_ret ?_
 obtain rfl := Option.some.inj H0
 exact Z1 rfl hst hb (Zk (s := 4)) (hst.at 0 rfl)
theorem Zps (a0 : Zt) (a1 : Zt) {r : Bool} (h : Zhy a0 a1 = some r) : FnOk Tryz.prog 30 [(Zbk.pd a0), (Zbk.pd a1)] (Zbg r) := by
 have H0 := h
 unfold Zhy at H0
 clear h
 refine Zbp (N := 46) Tryz.func30 rfl rfl (Nat.le_of_ble_eq_true rfl) rfl rfl (fun a g0 hst hb => ?_)
 refine r_s (T := [⟨[.old 0], _, [], [], [2]⟩, ⟨[.old 1], _, [], [], [3]⟩, ⟨[], _, [], [], [4]⟩]) (F := [.op 0 0, .op 1 0]) hst hb Za
   (o_p rfl (Zbj rfl rfl u_0) <| o_p rfl (Zbj rfl rfl u_0) <| o_p rfl (Zc rfl rfl c_b) <| o_n) (by kernel_rfl) (fun a g hst hb => ?_)
 refine wp_seq ?_
 refine r_s (T := ⟨[.old 0], _, [], [], [6]⟩ :: ⟨[.op 0 0], _, [], [0], [7]⟩ :: ⟨[.old 1], _, [], [], [8]⟩ :: ⟨[.op 2 0], _, [], [2], [9]⟩ :: ⟨[.op 1 0, .op 3 0], _, [], Lr 4, [10]⟩ :: ⟨[.op 4 0], _, [], Lr 5, [11]⟩ :: ⟨[.op 5 0, .old 0], _, [], Lr 6, [12]⟩ :: ⟨[.op 5 0, .op 6 0], _, [], Lr 7, [13]⟩ :: ⟨[.op 5 0, .old 1], _, [], Lr 6, [14]⟩ :: ⟨[.op 5 0, .op 8 0], _, [], [0, 1, 2, 3, 4, 5, 8], [15]⟩ :: ⟨[.op 5 0, .op 7 0, .op 9 0], _, [], Lr 10, [16]⟩ :: ⟨[.op 5 0, .op 10 0], _, [], Lr 11, [17]⟩ :: ⟨[.op 11 0], _, [], Lr 12, [18]⟩ :: ⟨[.op 12 0, .old 0], _, [], Lr 13, [19]⟩ :: ⟨[.op 12 0, .op 13 0], _, [], Lr 14, [20]⟩ :: ⟨[.op 12 0, .op 14 0], _, [], Lr 15, [21]⟩ :: ⟨[.op 12 0, .old 1], _, [], Lr 13, [22]⟩ :: ⟨[.op 12 0, .op 16 0], _, [], 0 :: 1 :: 2 :: 3 :: 4 :: 5 :: 6 :: 7 :: 8 :: 9 :: 10 :: 11 :: 12 :: 16 :: [], [23]⟩ :: ⟨[.op 12 0, .op 17 0], _, [], 0 :: 1 :: 2 :: 3 :: 4 :: 5 :: 6 :: 7 :: 8 :: 9 :: 10 :: 11 :: 12 :: 16 :: 17 :: [], [24]⟩ :: ⟨[.op 12 0, .op 15 0, .op 18 0], _, [], Lr 19, [25]⟩ :: ⟨[.op 12 0, .op 19 0], _, [], Lr 20, [26]⟩ :: []) (F := [.old 0, .old 1, .op 20 0]) hst hb Za
   (o_p rfl (Zd Zoy rfl rfl u_0) <| o_p rfl (Zf Zgj rfl rfl u_0) <| o_p rfl (Zd Zoy rfl rfl u_0) <| o_p rfl (Zf Zgj rfl rfl u_0) <| o_p rfl (Zc6 rfl rfl u_0 u_1) <| o_p rfl (Zb rfl rfl u_0) <| o_g (g_f rfl rfl rfl (fun hG => Zd Zpc rfl rfl u_0)) <| o_g (g_f rfl rfl rfl (fun hG => Zf ty_3 rfl rfl (Opd.gd hG u_0))) <| o_g (g_f rfl rfl rfl (fun hG => Zd Zpc rfl rfl u_0)) <| o_g (g_f rfl rfl rfl (fun hG => Zf ty_3 rfl rfl (Opd.gd hG u_0))) <| o_g (g_f rfl rfl rfl (fun hG => Zc6 rfl rfl (Opd.gd hG u_0) (Opd.gd hG u_1))) <| o_p rfl (Zbt rfl rfl u_0 (fun hz => (Opd.gd (bNF hz) u_1))) <| o_p rfl (Zb rfl rfl u_0) <| o_g (g_f rfl rfl rfl (fun hG => Zd Zlr rfl rfl u_0)) <| o_g (g_f rfl rfl rfl (fun hG => Zf Zoj rfl rfl (Opd.gd hG u_0))) <| o_g (g_f rfl rfl rfl (fun hG => Zbu Tryz.underlying45 rfl rfl (Opd.gd hG u_0))) <| o_g (g_f rfl rfl rfl (fun hG => Zd Zlr rfl rfl u_0)) <| o_g (g_f rfl rfl rfl (fun hG => Zf Zoj rfl rfl (Opd.gd hG u_0))) <| o_g (g_f rfl rfl rfl (fun hG => Zbu Tryz.underlying45 rfl rfl (Opd.gd hG u_0))) <| o_g (g_f rfl rfl rfl (fun hG => Zc6 rfl rfl (Opd.gd hG u_0) (Opd.gd hG u_1))) <| o_p rfl (Zbt rfl rfl u_0 (fun hz => (Opd.gd (bNF hz) u_1))) <| o_n) (by kernel_rfl) (fun a g hst hb => ?_)
 refine wp_cond_split (hst.bool 2 rfl) (fun hc1 => ?_) (fun hc1 => ?_)
 · replace H0 := Zw hc1 H0
   refine r_s (L := []) (T := [⟨[], _, [], [], [4]⟩]) (F := [.op 0 0]) (hst.pick [] rfl) hb Za
     (o_p rfl (Zc rfl rfl c_b) <| o_n) (by kernel_rfl) (fun a g hst hb => ?_)
   refine wp_ret ?_
   refine Zq ?_
   obtain rfl := Option.some.inj H0
   exact Z1 rfl hst hb (Zk (s := 4)) (hst.at 0 rfl)
 · replace H0 := Zx hc1 H0
   refine wp_skip ?_
   refine Zr ?_
   refine wp_seq ?_
   refine r_s (L := [(2, _), (3, _)]) (T := [⟨[], _, [], [], [5]⟩]) (F := [.old 0, .old 1, .op 0 0]) (hst.pick [0, 1] rfl) hb Za
     (o_p rfl (Zc rfl rfl c_i) <| o_n) (by kernel_rfl) (fun a g hst hb => ?_)
   obtain ⟨z11, hz1, H0⟩ := Zh H0
   refine Zb8 (fun a w => ∃ (g : G), w = g.w ∧ St 46 [] a g ∧ Base g0 g ∧ (.inr ()) = z11) ?_ ?_
   · rintro a w ⟨g, rfl, hst, hb, rfl⟩
     refine Zr ?_
     refine r_s (T := [⟨[], _, [], [], [4]⟩]) (F := [.op 0 0]) hst hb Za
       (o_p rfl (Zc rfl rfl c_b) <| o_n) (by kernel_rfl) (fun a g hst hb => ?_)
     refine wp_ret ?_
     obtain rfl := Option.some.inj H0
     exact Z1 rfl hst hb (Zk (s := 4)) (hst.at 0 rfl)
   · refine wp_block ?_
     refine wp_loop_ghost (fun n a w => ∃ (x2 : Int) (g : G), w = g.w ∧ St 46 [(2, (Zbk.ptr a0)), (3, (Zbk.ptr a1)), (5, (pInt .i64 x2))] a g ∧ Base g0 g ∧ Zd4 a0 a1 n x2 = some z11) (Int.toNat ((a0.Answers.length : Int) - (0 : Int)) + 1) ⟨(0 : Int), g, rfl, (hst.pick [0, 1, 2] rfl), hb, hz1⟩ (fun n a w hI => ?_)
     obtain ⟨x2, g, rfl, hst, hb, H1⟩ := hI
     cases n with
     | zero => exact absurd H1 (by simp [Zd4])
     | succ n =>
       rw [Zd4] at H1
       refine wp_seq ?_
       refine r_s (T := [⟨[.old 2], _, [], [], [27]⟩, ⟨[.old 0], _, [], [], [28]⟩, ⟨[.op 1 0], _, [], [1], [29]⟩, ⟨[.op 2 0], _, [], [1, 2], [30]⟩, ⟨[.op 0 0, .op 3 0], _, [], Lr 4, [31]⟩]) (F := [.old 0, .old 1, .old 2, .op 4 0]) hst hb Za
         (o_p rfl (Zb rfl rfl u_0) <| o_p rfl (Zd Zlr rfl rfl u_0) <| o_p rfl (Zf Zoj rfl rfl u_0) <| o_p rfl (Zbu Tryz.underlying45 rfl rfl u_0) <| o_p rfl (Zcc rfl rfl u_0 u_1) <| o_n) (by kernel_rfl) (fun a g hst hb => ?_)
       refine wp_cond_split (hst.bool 3 rfl) (fun hc3 => ?_) (fun hc3 => ?_)
       · replace H1 := Zw hc3 H1
         refine wp_skip ?_
         refine Zr ?_
         refine wp_seq ?_
         refine wp_block ?_
         obtain ⟨e4, h5, H1⟩ := Zh H1; obtain ⟨e6, h7, H1⟩ := Zh H1; obtain ⟨r8, h9, H1⟩ := Zh H1
         refine r_s (L := [(2, _), (3, _), (5, _)]) (T := ⟨[.old 0], _, [], [], [34]⟩ :: ⟨[.op 0 0], _, [], [0], [35]⟩ :: ⟨[.old 2], _, [], [], [36]⟩ :: ⟨[.op 1 0, .op 2 0], _, [], [0, 1, 2], [37]⟩ :: ⟨[.op 3 0], _, [], Lr 4, [38]⟩ :: ⟨[.old 1], _, [], [], [39]⟩ :: ⟨[.op 5 0], _, [], [5], [40]⟩ :: ⟨[.old 2], _, [], [], [41]⟩ :: ⟨[.op 6 0, .op 7 0], _, [], [5, 6, 7], [42]⟩ :: ⟨[.op 8 0], _, [], List.range' 5 4, [43]⟩ :: ⟨[.op 4 0, .op 9 0], _, [], Lr 10, [44]⟩ :: ⟨[.op 10 0], _, [], Lr 11, [45]⟩ :: []) (F := [.old 0, .old 1, .old 2, .op 11 0]) (hst.pick [0, 1, 2] rfl) hb Za
           (o_p rfl (Zd Zlr rfl rfl u_0) <| o_p rfl (Zf Zoj rfl rfl u_0) <| o_p rfl (Zb rfl rfl u_0) <| o_p rfl (Zbf Tryz.underlying45 Zww rfl rfl u_0 u_1 h5) <| o_p rfl (Zf Zbz rfl rfl u_0) <| o_p rfl (Zd Zlr rfl rfl u_0) <| o_p rfl (Zf Zoj rfl rfl u_0) <| o_p rfl (Zb rfl rfl u_0) <| o_p rfl (Zbf Tryz.underlying45 Zww rfl rfl u_0 u_1 h7) <| o_p rfl (Zf Zbz rfl rfl u_0) <| o_p rfl (Zn Z9n (Zqg _ _ h9) rfl rfl (.cons u_0 (.cons u_1 .nil))) <| o_p rfl (Zb7 rfl rfl u_0) <| o_n) (by kernel_rfl) (fun a g hst hb => ?_)
         refine wp_cond_split (hst.bool 3 rfl) (fun hc10 => ?_) (fun hc10 => ?_)
         · replace H1 := Zw hc10 H1
           refine r_s (L := []) (T := [⟨[], _, [], [], [4]⟩]) (F := [.op 0 0]) (hst.pick [] rfl) hb Za
             (o_p rfl (Zc rfl rfl c_b) <| o_n) (by kernel_rfl) (fun a g hst hb => ?_)
           refine wp_ret ?_
           refine Z2 ?_
           refine Zq ?_
           refine Zq ?_
           refine Z2 ?_
           refine Zq ?_
           refine Zq ?_
           obtain rfl := Option.some.inj H1
           obtain rfl := Option.some.inj H0
           exact Z1 rfl hst hb (Zk (s := 4)) (hst.at 0 rfl)
         · replace H1 := Zx hc10 H1
           refine wp_skip ?_
           refine Zba ?_
           refine Zr ?_
           refine r_g (L := [(2, _), (3, _), (5, _)]) (T := [⟨[.old 2], _, [], [], [32]⟩, ⟨[.op 0 0], _, [], [0], [33]⟩, ⟨[.op 1 0], _, [], [0, 1], [5]⟩]) (F := [.old 0, .old 1, .op 2 0]) (hst.pick [0, 1, 2] rfl) hb Za
             (o_p rfl (Zb rfl rfl u_0) <| o_p rfl (Zb3 rfl rfl u_0 c_i rfl) <| o_p rfl (Zc rfl rfl u_0) <| o_n) (by kernel_rfl) (fun a g hst hb => ?_)
           exact ⟨n, Nat.lt_succ_self _, (IntKind.i64.wrap (x2 + (1 : Int))), g, rfl, (hst.pick [0, 1, 2] rfl), hb, H1⟩
       · replace H1 := Zx hc3 H1
         refine wp_exit ?_
         refine Zb6 ?_
         refine Zb6 ?_
         refine Zco ?_
         exact ⟨g, rfl, (hst.pick [] rfl), hb, Option.some.inj H1⟩
theorem Zpu (a0 : List Zt) (a1 : List Zt) {r : Bool} (h : Zhx a0 a1 = some r) : FnOk Tryz.prog 12 [(Zbk.sl.pd a0), (Zbk.sl.pd a1)] (Zbg r) := by
 have H0 := h
 unfold Zhx at H0
 clear h
 refine Zbp (N := 27) Tryz.func12 rfl rfl (Nat.le_of_ble_eq_true rfl) rfl rfl (fun a g0 hst hb => ?_)
 refine r_s (T := [⟨[], _, [], [], [4]⟩]) (F := [.old 0, .old 1]) hst hb Za
   (o_p rfl (Zc rfl rfl c_b) <| o_n) (by kernel_rfl) (fun a g hst hb => ?_)
 refine wp_seq ?_
 refine r_s (T := [⟨[.old 0], _, [], [], [6]⟩, ⟨[.op 0 0], _, [], [0], [7]⟩, ⟨[.old 1], _, [], [], [8]⟩, ⟨[.op 2 0], _, [], [2], [9]⟩, ⟨[.op 1 0, .op 3 0], _, [], Lr 4, [10]⟩]) (F := [.old 0, .old 1, .op 4 0]) hst hb Za
   (o_p rfl (Zb rfl rfl u_0) <| o_p rfl (Zbu Tryz.underlying32 rfl rfl u_0) <| o_p rfl (Zb rfl rfl u_0) <| o_p rfl (Zbu Tryz.underlying32 rfl rfl u_0) <| o_p rfl (Zc6 rfl rfl u_0 u_1) <| o_n) (by kernel_rfl) (fun a g hst hb => ?_)
 refine wp_cond_split (hst.bool 2 rfl) (fun hc1 => ?_) (fun hc1 => ?_)
 · replace H0 := Zw hc1 H0
   refine r_s (L := []) (T := [⟨[], _, [], [], [4]⟩]) (F := [.op 0 0]) (hst.pick [] rfl) hb Za
     (o_p rfl (Zc rfl rfl c_b) <| o_n) (by kernel_rfl) (fun a g hst hb => ?_)
   refine wp_ret ?_
   refine Zq ?_
   obtain rfl := Option.some.inj H0
   exact Z1 rfl hst hb (Zk (s := 4)) (hst.at 0 rfl)
 · replace H0 := Zx hc1 H0
   refine wp_skip ?_
   refine Zr ?_
   refine wp_seq ?_
   refine r_s (L := [(0, _), (1, _)]) (T := [⟨[], _, [], [], [5]⟩]) (F := [.old 0, .old 1, .op 0 0]) (hst.pick [0, 1] rfl) hb Za
     (o_p rfl (Zc rfl rfl c_i) <| o_n) (by kernel_rfl) (fun a g hst hb => ?_)
   obtain ⟨z11, hz1, H0⟩ := Zh H0
   refine Zb8 (fun a w => ∃ (g : G), w = g.w ∧ St 27 [] a g ∧ Base g0 g ∧ (.inr ()) = z11) ?_ ?_
   · rintro a w ⟨g, rfl, hst, hb, rfl⟩
     refine Zr ?_
     refine r_s (T := [⟨[], _, [], [], [4]⟩]) (F := [.op 0 0]) hst hb Za
       (o_p rfl (Zc rfl rfl c_b) <| o_n) (by kernel_rfl) (fun a g hst hb => ?_)
     refine wp_ret ?_
     obtain rfl := Option.some.inj H0
     exact Z1 rfl hst hb (Zk (s := 4)) (hst.at 0 rfl)
   · refine wp_block ?_
     refine wp_loop_ghost (fun n a w => ∃ (x2 : Int) (g : G), w = g.w ∧ St 27 [(0, (Zbk.sl.pd a0)), (1, (Zbk.sl.pd a1)), (5, (pInt .i64 x2))] a g ∧ Base g0 g ∧ Zd2 a0 a1 n x2 = some z11) (Int.toNat ((a0.length : Int) - (0 : Int)) + 1) ⟨(0 : Int), g, rfl, (hst.pick [0, 1, 2] rfl), hb, hz1⟩ (fun n a w hI => ?_)
     obtain ⟨x2, g, rfl, hst, hb, H1⟩ := hI
     cases n with
     | zero => exact absurd H1 (by simp [Zd2])
     | succ n =>
       rw [Zd2] at H1
       refine wp_seq ?_
       refine r_s (T := [⟨[.old 2], _, [], [], [11]⟩, ⟨[.old 0], _, [], [], [12]⟩, ⟨[.op 1 0], _, [], [1], [13]⟩, ⟨[.op 0 0, .op 2 0], _, [], [0, 1, 2], [14]⟩]) (F := [.old 0, .old 1, .old 2, .op 3 0]) hst hb Za
         (o_p rfl (Zb rfl rfl u_0) <| o_p rfl (Zb rfl rfl u_0) <| o_p rfl (Zbu Tryz.underlying32 rfl rfl u_0) <| o_p rfl (Zcc rfl rfl u_0 u_1) <| o_n) (by kernel_rfl) (fun a g hst hb => ?_)
       refine wp_cond_split (hst.bool 3 rfl) (fun hc3 => ?_) (fun hc3 => ?_)
       · replace H1 := Zw hc3 H1
         refine wp_skip ?_
         refine Zr ?_
         refine wp_seq ?_
         refine wp_block ?_
         obtain ⟨e4, h5, H1⟩ := Zh H1; obtain ⟨e6, h7, H1⟩ := Zh H1; obtain ⟨r8, h9, H1⟩ := Zh H1
         refine r_s (L := [(0, _), (1, _), (5, _)]) (T := [⟨[.old 0], _, [], [], [17]⟩, ⟨[.old 2], _, [], [], [18]⟩, ⟨[.op 0 0, .op 1 0], _, [], [0, 1], [19]⟩, ⟨[.op 2 0], _, [], [0, 1, 2], [20]⟩, ⟨[.old 1], _, [], [], [21]⟩, ⟨[.old 2], _, [], [], [22]⟩, ⟨[.op 4 0, .op 5 0], _, [], [4, 5], [23]⟩, ⟨[.op 6 0], _, [], [4, 5, 6], [24]⟩, ⟨[.op 3 0, .op 7 0], _, [], Lr 8, [25]⟩, ⟨[.op 8 0], _, [], Lr 9, [26]⟩]) (F := [.old 0, .old 1, .old 2, .op 9 0]) (hst.pick [0, 1, 2] rfl) hb Za
           (o_p rfl (Zb rfl rfl u_0) <| o_p rfl (Zb rfl rfl u_0) <| o_p rfl (Zbf Tryz.underlying32 Zp0 rfl rfl u_0 u_1 h5) <| o_p rfl (Zf Zhc rfl rfl u_0) <| o_p rfl (Zb rfl rfl u_0) <| o_p rfl (Zb rfl rfl u_0) <| o_p rfl (Zbf Tryz.underlying32 Zp0 rfl rfl u_0 u_1 h7) <| o_p rfl (Zf Zhc rfl rfl u_0) <| o_p rfl (Zn Z9x (Zps _ _ h9) rfl rfl (.cons u_0 (.cons u_1 .nil))) <| o_p rfl (Zb7 rfl rfl u_0) <| o_n) (by kernel_rfl) (fun a g hst hb => ?_)
         refine wp_cond_split (hst.bool 3 rfl) (fun hc10 => ?_) (fun hc10 => ?_)
         · replace H1 := Zw hc10 H1
           refine r_s (L := []) (T := [⟨[], _, [], [], [4]⟩]) (F := [.op 0 0]) (hst.pick [] rfl) hb Za
             (o_p rfl (Zc rfl rfl c_b) <| o_n) (by kernel_rfl) (fun a g hst hb => ?_)
           refine wp_ret ?_
           refine Z2 ?_
           refine Zq ?_
           refine Zq ?_
           refine Z2 ?_
           refine Zq ?_
           refine Zq ?_
           obtain rfl := Option.some.inj H1
           obtain rfl := Option.some.inj H0
           exact Z1 rfl hst hb (Zk (s := 4)) (hst.at 0 rfl)
         · replace H1 := Zx hc10 H1
           refine wp_skip ?_
           refine Zba ?_
           refine Zr ?_
           refine r_g (L := [(0, _), (1, _), (5, _)]) (T := [⟨[.old 2], _, [], [], [15]⟩, ⟨[.op 0 0], _, [], [0], [16]⟩, ⟨[.op 1 0], _, [], [0, 1], [5]⟩]) (F := [.old 0, .old 1, .op 2 0]) (hst.pick [0, 1, 2] rfl) hb Za
             (o_p rfl (Zb rfl rfl u_0) <| o_p rfl (Zb3 rfl rfl u_0 c_i rfl) <| o_p rfl (Zc rfl rfl u_0) <| o_n) (by kernel_rfl) (fun a g hst hb => ?_)
           exact ⟨n, Nat.lt_succ_self _, (IntKind.i64.wrap (x2 + (1 : Int))), g, rfl, (hst.pick [0, 1, 2] rfl), hb, H1⟩
       · replace H1 := Zx hc3 H1
         refine wp_exit ?_
         refine Zb6 ?_
         refine Zb6 ?_
         refine Zco ?_
         exact ⟨g, rfl, (hst.pick [] rfl), hb, Option.some.inj H1⟩
theorem Zwe (a0 : Zo) (a1 : List Zb0) (a2 : List Int) {r : Zo × (List Zt)} (h : Znh a0 a1 a2 = some r) : FnOk Tryz.prog 13 [(Z0.pd a0), (Zcm.sl.pd a1), ((Kd.int .i64).sl.pd a2)] (pTup [(Z0.pd r.1), (Zbk.sl.pd r.2)]) := by
 have H0 := h
 unfold Znh at H0
 clear h
 refine Zbp (N := 43) Tryz.func13 rfl rfl (Nat.le_of_ble_eq_true rfl) rfl rfl (fun a g0 hst hb => ?_)
 refine r_s (T := [⟨[.old 0], _, [4], [], [3]⟩, ⟨[], [(6, (pBox Z0 6 (default : Zo)))], [7], [], [6]⟩, ⟨[], [(7, (Zbk.sl.pd ([] : List Zt)))], [], [], [7]⟩]) (F := [.old 1, .old 2, .op 0 0, .op 1 0]) hst hb Za
   (o_p rfl (Zk3 rfl rfl u_0) <| o_p rfl (Zbd (zs := [.pointer none, .int .i64 0]) (by kernel_rfl) (fun g => Zct g) rfl rfl) <| o_p rfl (Zc rfl rfl (Opd.c (fun g => Zj0 g))) <| o_n) (by kernel_rfl) (fun a g hst hb => ?_)
 obtain ⟨h1, H0⟩ := Zge H0
 refine r_s (T := [⟨[.old 0], _, [], [], [11]⟩, ⟨[.op 0 0], _, [], [0], [12]⟩, ⟨[.op 1 0], [(13, (pArr Zbk 47 13 (List.replicate (Int.toNat (a1.length : Int)) (default : Zt))))], [14], [0, 1], [13]⟩, ⟨[.op 2 0], _, [], [0, 1, 2], [8]⟩]) (F := [.old 0, .old 1, .old 2, .old 3, .op 3 0]) hst hb Za
   (o_p rfl (Zb rfl rfl u_0) <| o_p rfl (Zbu Tryz.underlying23 rfl rfl u_0) <| o_p rfl (Zz1 (zs := [.int .i64 0, .int .i64 0, .slice none 0 0]) (zv := (default : Zt)) Zwz (by kernel_rfl) (fun g => Zkd g) (by decide) rfl rfl (Opd.to u_0 (congrArg (pInt .i64) (Int.toNat_of_nonneg h1.1).symm)) (Opd.to u_0 (congrArg (pInt .i64) (Int.toNat_of_nonneg h1.1).symm)) h1.2 (Nat.le_trans (Nat.le_mul_of_pos_right _ (by decide)) h1.2)) <| o_p rfl (Zc rfl rfl u_0) <| o_n) (by kernel_rfl) (fun a g hst hb => ?_)
 refine wp_seq ?_
 refine r_s (T := [⟨[.old 1], _, [], [], [14]⟩, ⟨[.op 0 0], _, [], [0], [15]⟩, ⟨[], _, [], [], [16]⟩]) (F := [.old 0, .old 2, .old 3, .old 4, .op 0 0, .op 1 0, .op 2 0]) hst hb Za
   (o_p rfl (Zb rfl rfl u_0) <| o_p rfl (Zbu Tryz.underlying42 rfl rfl u_0) <| o_p rfl (Zb rfl rfl c_i) <| o_n) (by kernel_rfl) (fun a g hst hb => ?_)
 obtain ⟨z19, hz1, H0⟩ := Zh H0
 refine Zb8 (fun a w => ∃ (y17 : Zo) (y18 : List Zt) (g : G), w = g.w ∧ St 43 [(3, (pBox Z0 3 y17)), (6, (pBox Z0 6 (default : Zo))), (8, (pArr Zbk 47 13 y18))] a g ∧ Base g0 g ∧ (y17, y18) = z19) ?_ ?_
 · rintro a w ⟨y17, y18, g, rfl, hst, hb, rfl⟩
   refine Zr ?_
   refine r_s (T := [⟨[.old 0], _, [], [], [41]⟩, ⟨[.old 2], _, [], [], [42]⟩, ⟨[.op 0 0, .old 1], _, [7], [0], [6]⟩, ⟨[.op 1 0], _, [14], [0, 1, 2], [7, 8, 42]⟩]) (F := [.op 2 0, .op 3 0]) hst hb Za
     (o_p rfl (Zbw Zbv rfl rfl u_0) <| o_p rfl (Zb rfl rfl u_0) <| o_p rfl (Zz Zbv rfl rfl u_1 u_0) <| o_p rfl (Zxg (.inr rfl) rfl u_0) <| o_n) (by kernel_rfl) (fun a g hst hb => ?_)
   refine wp_ret ?_
   obtain rfl := Option.some.inj H0
   obtain ⟨u0, hu0, hq0⟩ := Z8 (P := Tryz.prog) Zbv (hst.at 0 rfl)
   exact Zda rfl hst hb hu0 (Zk (s := 7)) (Zcn hq0 (hst.at 1 rfl))
 · refine wp_block ?_
   refine wp_loop_ghost (fun n a w => ∃ (x2 : Zo) (x3 : List Zt) (x4 : Int) (g : G), w = g.w ∧ St 43 [(1, (Zcm.sl.pd a1)), (3, (pBox Z0 3 x2)), (6, (pBox Z0 6 (default : Zo))), (8, (pArr Zbk 47 13 x3)), (14, ((Kd.int .i64).sl.pd a2)), (15, (pInt .i64 (a2.length : Int))), (16, (pInt .i64 x4))] a g ∧ Base g0 g ∧ Zfh a1 a2 n x2 x3 x4 = some z19) (Int.toNat ((a2.length : Int) - (0 : Int)) + 1) ⟨a0, (List.replicate (Int.toNat (a1.length : Int)) (default : Zt)), (0 : Int), g, rfl, (hst.pick [0, 1, 2, 3, 4, 5, 6] rfl), hb, hz1⟩ (fun n a w hI => ?_)
   obtain ⟨x2, x3, x4, g, rfl, hst, hb, H1⟩ := hI
   cases n with
   | zero => exact absurd H1 (by simp [Zfh])
   | succ n =>
     rw [Zfh] at H1
     refine r_s (T := [⟨[.old 6, .old 5], _, [], [], [17]⟩]) (F := [.old 0, .old 1, .old 2, .old 3, .old 4, .old 5, .old 6, .op 0 0]) hst hb Za
       (o_p rfl (Zcc rfl rfl u_0 u_1) <| o_n) (by kernel_rfl) (fun a g hst hb => ?_)
     refine wp_seq ?_
     refine wp_cond_split (hst.bool 7 rfl) (fun hc5 => ?_) (fun hc5 => ?_)
     · replace H1 := Zw hc5 H1
       refine wp_skip ?_
       refine Zr ?_
       refine wp_seq ?_
       refine Zb8 (fun a w => ∃ (j15 : Zo) (j16 : List Zt) (g : G), w = g.w ∧ St 43 [(1, (Zcm.sl.pd a1)), (3, (pBox Z0 3 j15)), (6, (pBox Z0 6 (default : Zo))), (8, (pArr Zbk 47 13 j16)), (14, ((Kd.int .i64).sl.pd a2)), (15, (pInt .i64 (a2.length : Int))), (16, (pInt .i64 x4))] a g ∧ Base g0 g ∧ Zio x4 (Zfh a1 a2 n) j15 j16 = some z19) ?_ ?_
       · rintro a w ⟨j15, j16, g, rfl, hst, hb, H1⟩
         unfold Zio at H1
         refine Zr ?_
         refine r_g (T := [⟨[.old 6], _, [], [], [40]⟩, ⟨[.op 0 0], _, [], [0], [16]⟩]) (F := [.old 0, .old 1, .old 2, .old 3, .old 4, .old 5, .op 1 0]) hst hb Za
           (o_p rfl (Zb3 rfl rfl u_0 c_i rfl) <| o_p rfl (Zb rfl rfl u_0) <| o_n) (by kernel_rfl) (fun a g hst hb => ?_)
         exact ⟨n, Nat.lt_succ_self _, j15, j16, (IntKind.i64.wrap (x4 + (1 : Int))), g, rfl, (hst.pick [0, 1, 2, 3, 4, 5, 6] rfl), hb, H1⟩
       · refine wp_block ?_
         obtain ⟨e6, h7, H1⟩ := Zh H1
         refine r_s (L := [(1, _), (3, _), (6, _), (8, _), (14, _), (15, _), (16, _)]) (T := [⟨[.old 4, .old 6], _, [], [], [18]⟩, ⟨[.op 0 0], _, [], [0], [19]⟩, ⟨[.op 1 0], _, [], [0, 1], [10]⟩]) (F := [.old 0, .old 1, .old 2, .old 3, .op 2 0, .old 4, .old 5, .old 6]) (hst.pick [0, 1, 2, 3, 4, 5, 6] rfl) hb Za
           (o_p rfl (Zbf Tryz.underlying42 sz_3 rfl rfl u_0 u_1 h7) <| o_p rfl (Zf ty_3 rfl rfl u_0) <| o_p rfl (Zc rfl rfl u_0) <| o_n) (by kernel_rfl) (fun a g hst hb => ?_)
         refine r_s (T := [⟨[.old 4], _, [], [], [20]⟩, ⟨[.op 0 0], _, [], [0], [21]⟩, ⟨[.op 1 0], _, [], [0, 1], [22]⟩, ⟨[.op 2 0, .old 4], _, [], [0, 1, 2], [23]⟩, ⟨[.op 2 0, .old 0], _, [], [0, 1, 2], [24]⟩, ⟨[.op 2 0, .op 4 0], _, [], [0, 1, 2, 4], [25]⟩, ⟨[.op 2 0, .op 3 0, .op 5 0], _, [], Lr 6, [26]⟩, ⟨[.op 2 0, .op 6 0], _, [], Lr 7, [27]⟩]) (F := [.old 0, .old 1, .old 2, .old 3, .old 4, .old 5, .old 6, .old 7, .op 7 0]) hst hb Za
           (o_p rfl (Zb rfl rfl u_0) <| o_p rfl (Zk4 rfl rfl u_0 c_i) <| o_p rfl (Zb rfl rfl u_0) <| o_g (g_t rfl rfl rfl (fun hG => Zb rfl rfl u_0)) <| o_g (g_t rfl rfl rfl (fun hG => Zb rfl rfl u_0)) <| o_g (g_t rfl rfl rfl (fun hG => Zbu Tryz.underlying23 rfl rfl (Opd.gd hG u_0))) <| o_g (g_t rfl rfl rfl (fun hG => Zcc rfl rfl (Opd.gd hG u_0) (Opd.gd hG u_1))) <| o_p rfl (Zbc rfl rfl u_0 (fun hz => (Opd.gd hz u_1))) <| o_n) (by kernel_rfl) (fun a g hst hb => ?_)
         refine wp_cond_split (hst.bool 8 rfl) (fun hc8 => ?_) (fun hc8 => ?_)
         · replace H1 := Zw hc8 H1
           obtain ⟨e9, h10, H1⟩ := Zh H1; obtain ⟨r11, h12, H1⟩ := Zh H1; obtain ⟨e13, h14, H1⟩ := Zh H1
           refine r_g (L := [(1, _), (3, _), (6, _), (8, _), (10, _), (14, _), (15, _), (16, _)]) (T := ⟨[.old 3], _, [], [], [29]⟩ :: ⟨[.old 4], _, [], [], [30]⟩ :: ⟨[.old 1], _, [], [], [31]⟩ :: ⟨[.old 0], _, [], [], [32]⟩ :: ⟨[.old 4], _, [], [], [33]⟩ :: ⟨[.op 3 0, .op 4 0], _, [], [3, 4], [34]⟩ :: ⟨[.op 5 0], _, [], [3, 4, 5], [35]⟩ :: ⟨[.op 2 0, .op 6 0], _, [], List.range' 2 5, [36]⟩ :: ⟨[.op 7 0], _, [], List.range' 2 6, [28]⟩ :: ⟨[.op 8 0], _, [], List.range' 2 7, [37]⟩ :: ⟨[.op 8 0], _, [], List.range' 2 7, [38]⟩ :: ⟨[.op 9 0, .old 1], _, [4], List.range' 2 8, [3]⟩ :: ⟨[.op 0 0, .op 1 0], _, [], Lr 12, [39]⟩ :: ⟨[.op 10 0, .op 12 0, .old 3], _, [14], Lr 13, [8, 29, 39]⟩ :: []) (F := [.old 0, .op 11 0, .old 2, .op 13 0, .old 5, .old 6, .old 7]) (hst.pick [0, 1, 2, 3, 4, 5, 6, 7] rfl) hb Za
             (o_p rfl (Zb rfl rfl u_0) <| o_p rfl (Zb rfl rfl u_0) <| o_p rfl (Zbw Zbv rfl rfl u_0) <| o_p rfl (Zb rfl rfl u_0) <| o_p rfl (Zb rfl rfl u_0) <| o_p rfl (Zbf Tryz.underlying23 Zwn rfl rfl u_0 u_1 h10) <| o_p rfl (Zf Zmw rfl rfl u_0) <| o_p rfl (Zn Z07 (Zos _ _ h12) rfl rfl (.cons u_0 (.cons u_1 .nil))) <| o_p rfl (Zb rfl rfl u_0) <| o_p rfl (Z4 rfl rfl u_0 rfl) <| o_p rfl (Z4 rfl rfl u_0 rfl) <| o_p rfl (Zz Zbv rfl rfl u_1 u_0) <| o_p rfl (Zvz Tryz.underlying32 Zp0 rfl rfl u_0 u_1 h14) <| o_p rfl (Zsy (u := e13) Zhc rfl rfl u_2 u_1 u_0 (Z0c h14) (by decide)) <| o_n) (by kernel_rfl) (fun a g hst hb => ?_)
           refine Zba ?_
           exact ⟨r11.1, (x3.set (Int.toNat e6) r11.2), g, rfl, (hst.pick [0, 1, 2, 3, 4, 5, 6] rfl), hb, H1⟩
         · replace H1 := Zx hc8 H1
           refine wp_skip ?_
           refine Zba ?_
           exact ⟨x2, x3, g, rfl, (hst.pick [0, 1, 2, 3, 5, 6, 7] rfl), hb, H1⟩
     · replace H1 := Zx hc5 H1
       refine wp_exit ?_
       refine Zb6 ?_
       refine Zb6 ?_
       refine Zco ?_
       exact ⟨x2, x3, g, rfl, (hst.pick [1, 2, 3] rfl), hb, Option.some.inj H1⟩
theorem Zo4 (a0 : Int) {r : ByteArray} (h : Zkt a0 = some r) : FnOk Tryz.prog 123 [(pInt .i64 a0)] (pStr r) := by
 have H0 := h
 unfold Zkt at H0
 clear h
 refine Zbp (N := 15) Tryz.func123 rfl rfl (Nat.le_of_ble_eq_true rfl) rfl rfl (fun a g0 hst hb => ?_)
 refine r_s (T := [⟨[], _, [], [], [2]⟩]) (F := [.old 0]) hst hb Za
   (o_p rfl (Zc rfl rfl c_s) <| o_n) (by kernel_rfl) (fun a g hst hb => ?_)
 refine r_s (T := [⟨[], _, [], [], [4]⟩, ⟨[.op 0 0], _, [], [0], [3]⟩]) (F := [.old 0, .op 1 0]) hst hb Za
   (o_p rfl (Zhi Z2a (xs := [.const (.string ⟨#[]⟩), .const (.string ⟨#[109]⟩), .const (.string ⟨#[]⟩), .const (.string ⟨#[]⟩), .const (.string ⟨#[]⟩), .const (.string ⟨#[115]⟩), .const (.string ⟨#[115]⟩), .const (.string ⟨#[110]⟩), .const (.string ⟨#[110]⟩), .const (.string ⟨#[110]⟩), .const (.string ⟨#[110]⟩), .const (.string ⟨#[110]⟩), .const (.string ⟨#[110]⟩), .const (.string ⟨#[120]⟩), .const (.string ⟨#[120]⟩), .const (.string ⟨#[120]⟩), .const (.string ⟨#[120]⟩), .const (.string ⟨#[120]⟩), .const (.string ⟨#[115]⟩), .const (.string ⟨#[115]⟩), .const (.string ⟨#[115]⟩), .const (.string ⟨#[120, 115]⟩)]) (.cons c_s (.cons c_s (.cons c_s (.cons c_s (.cons c_s (.cons c_s (.cons c_s (.cons c_s (.cons c_s (.cons c_s (.cons c_s (.cons c_s (.cons c_s (.cons c_s (.cons c_s (.cons c_s (.cons c_s (.cons c_s (.cons c_s (.cons c_s (.cons c_s (.cons c_s .nil)))))))))))))))))))))) (by decide) rfl rfl) <| o_p rfl (Zc rfl rfl u_0) <| o_n) (by kernel_rfl) (fun a g hst hb => ?_)
 refine wp_seq ?_
 refine r_s (T := [⟨[.old 0], _, [], [], [5]⟩, ⟨[.op 0 0], _, [], [0], [6]⟩, ⟨[.op 1 0], _, [], [0, 1], [7]⟩, ⟨[.op 2 0, .old 0], _, [], [0, 1, 2], [8]⟩, ⟨[.op 2 0, .op 3 0], _, [], Lr 4, [9]⟩, ⟨[.op 2 0, .op 4 0], _, [], Lr 5, [10]⟩]) (F := [.old 0, .old 1, .op 5 0]) hst hb Za
   (o_p rfl (Zb rfl rfl u_0) <| o_p rfl (Zcc rfl rfl u_0 c_i) <| o_p rfl (Zb rfl rfl u_0) <| o_g (g_f rfl rfl rfl (fun hG => Zb rfl rfl u_0)) <| o_g (g_f rfl rfl rfl (fun hG => Zck rfl rfl (Opd.gd hG u_0) c_i)) <| o_p rfl (Zbt rfl rfl u_0 (fun hz => (Opd.gd (bNF hz) u_1))) <| o_n) (by kernel_rfl) (fun a g hst hb => ?_)
 refine wp_cond_split (hst.bool 2 rfl) (fun hc1 => ?_) (fun hc1 => ?_)
 · replace H0 := Zw hc1 H0
   refine r_s (L := []) (T := [⟨[], _, [], [], [2]⟩]) (F := [.op 0 0]) (hst.pick [] rfl) hb Za
     (o_p rfl (Zc rfl rfl c_s) <| o_n) (by kernel_rfl) (fun a g hst hb => ?_)
   refine wp_ret ?_
   refine Zq ?_
   obtain rfl := Option.some.inj H0
   exact Z1 rfl hst hb (Zk (s := 2)) (hst.at 0 rfl)
 · replace H0 := Zx hc1 H0
   refine wp_skip ?_
   refine Zr ?_
   obtain ⟨e2, h3, H0⟩ := Zh H0
   refine r_s (L := [(0, _), (3, _)]) (T := [⟨[.old 1], _, [], [], [11]⟩, ⟨[.old 0], _, [], [], [12]⟩, ⟨[.op 0 0, .op 1 0], _, [], [0, 1], [13]⟩, ⟨[.op 2 0], _, [], [0, 1, 2], [14]⟩, ⟨[.op 3 0], _, [], Lr 4, [2]⟩]) (F := [.op 4 0]) (hst.pick [0, 1] rfl) hb Za
     (o_p rfl (Zb rfl rfl u_0) <| o_p rfl (Zb rfl rfl u_0) <| o_p rfl (Zbf Tryz.underlying162 sz_9 rfl rfl u_0 u_1 h3) <| o_p rfl (Zf ty_9 rfl rfl u_0) <| o_p rfl (Zc rfl rfl u_0) <| o_n) (by kernel_rfl) (fun a g hst hb => ?_)
   refine wp_ret ?_
   obtain rfl := Option.some.inj H0
   exact Z1 rfl hst hb (Zk (s := 2)) (hst.at 0 rfl)
theorem Zkw (a0 : Int) (a1 : Int) {r : Bool} (h : Zd3 a0 a1 = some r) : FnOk Tryz.prog 84 [(pInt .i64 a0), (pInt .u8 a1)] (Zbg r) := by
 have H0 := h
 unfold Zd3 at H0
 clear h
 refine Zbp (N := 20) Tryz.func84 rfl rfl (Nat.le_of_ble_eq_true rfl) rfl rfl (fun a g0 hst hb => ?_)
 refine r_s (T := [⟨[], _, [], [], [4]⟩]) (F := [.old 0, .old 1]) hst hb Za
   (o_p rfl (Zc rfl rfl c_b) <| o_n) (by kernel_rfl) (fun a g hst hb => ?_)
 obtain ⟨r1, h2, H0⟩ := Zh H0
 refine r_s (T := [⟨[.old 0], _, [], [], [7]⟩, ⟨[.op 0 0], _, [], [0], [8]⟩, ⟨[.op 1 0], _, [], [0, 1], [5]⟩]) (F := [.old 1, .op 2 0]) hst hb Za
   (o_p rfl (Zb rfl rfl u_0) <| o_p rfl (Zn Z7e (Zo4 _ h2) rfl rfl (.cons u_0 .nil)) <| o_p rfl (Zc rfl rfl u_0) <| o_n) (by kernel_rfl) (fun a g hst hb => ?_)
 refine wp_seq ?_
 refine r_s (T := [⟨[], _, [], [], [6]⟩]) (F := [.old 0, .old 1, .op 0 0]) hst hb Za
   (o_p rfl (Zc rfl rfl c_i) <| o_n) (by kernel_rfl) (fun a g hst hb => ?_)
 obtain ⟨z8, hz1, H0⟩ := Zh H0
 refine Zb8 (fun a w => ∃ (g : G), w = g.w ∧ St 20 [] a g ∧ Base g0 g ∧ (.inr ()) = z8) ?_ ?_
 · rintro a w ⟨g, rfl, hst, hb, rfl⟩
   refine Zr ?_
   refine r_s (T := [⟨[], _, [], [], [4]⟩]) (F := [.op 0 0]) hst hb Za
     (o_p rfl (Zc rfl rfl c_b) <| o_n) (by kernel_rfl) (fun a g hst hb => ?_)
   refine wp_ret ?_
   obtain rfl := Option.some.inj H0
   exact Z1 rfl hst hb (Zk (s := 4)) (hst.at 0 rfl)
 · refine wp_block ?_
   refine wp_loop_ghost (fun n a w => ∃ (x3 : Int) (g : G), w = g.w ∧ St 20 [(1, (pInt .u8 a1)), (5, (pStr r1)), (6, (pInt .i64 x3))] a g ∧ Base g0 g ∧ Zhe a1 r1 n x3 = some z8) (Int.toNat ((r1.size : Int) - (0 : Int)) + 1) ⟨(0 : Int), g, rfl, (hst.pick [0, 1, 2] rfl), hb, hz1⟩ (fun n a w hI => ?_)
   obtain ⟨x3, g, rfl, hst, hb, H1⟩ := hI
   cases n with
   | zero => exact absurd H1 (by simp [Zhe])
   | succ n =>
     rw [Zhe] at H1
     refine wp_seq ?_
     refine r_s (T := [⟨[.old 2], _, [], [], [9]⟩, ⟨[.old 1], _, [], [], [10]⟩, ⟨[.op 1 0], _, [], [1], [11]⟩, ⟨[.op 0 0, .op 2 0], _, [], [0, 1, 2], [12]⟩]) (F := [.old 0, .old 1, .old 2, .op 3 0]) hst hb Za
       (o_p rfl (Zb rfl rfl u_0) <| o_p rfl (Zb rfl rfl u_0) <| o_p rfl (Ze3 Tryz.underlying9 rfl rfl u_0) <| o_p rfl (Zcc rfl rfl u_0 u_1) <| o_n) (by kernel_rfl) (fun a g hst hb => ?_)
     refine wp_cond_split (hst.bool 3 rfl) (fun hc4 => ?_) (fun hc4 => ?_)
     · replace H1 := Zw hc4 H1
       refine wp_skip ?_
       refine Zr ?_
       refine wp_seq ?_
       refine wp_block ?_
       obtain ⟨b5, h6, H1⟩ := Zh H1
       refine r_s (L := [(1, _), (5, _), (6, _)]) (T := [⟨[.old 1], _, [], [], [15]⟩, ⟨[.old 2], _, [], [], [16]⟩, ⟨[.op 0 0, .op 1 0], _, [], [0, 1], [17]⟩, ⟨[.old 0], _, [], [], [18]⟩, ⟨[.op 2 0, .op 3 0], _, [], Lr 4, [19]⟩]) (F := [.old 0, .old 1, .old 2, .op 4 0]) (hst.pick [0, 1, 2] rfl) hb Za
         (o_p rfl (Zb rfl rfl u_0) <| o_p rfl (Zb rfl rfl u_0) <| o_p rfl (Zmn Tryz.underlying9 rfl rfl u_0 u_1 h6) <| o_p rfl (Zb rfl rfl u_0) <| o_p rfl (Zbl rfl rfl u_0 u_1) <| o_n) (by kernel_rfl) (fun a g hst hb => ?_)
       refine wp_cond_split (hst.bool 3 rfl) (fun hc7 => ?_) (fun hc7 => ?_)
       · replace H1 := Zw hc7 H1
         refine r_s (L := []) (T := [⟨[], _, [], [], [4]⟩]) (F := [.op 0 0]) (hst.pick [] rfl) hb Za
           (o_p rfl (Zc rfl rfl c_b) <| o_n) (by kernel_rfl) (fun a g hst hb => ?_)
         refine wp_ret ?_
         refine Z2 ?_
         refine Zq ?_
         refine Zq ?_
         refine Z2 ?_
         refine Zq ?_
         refine Zq ?_
         obtain rfl := Option.some.inj H1
         obtain rfl := Option.some.inj H0
         exact Z1 rfl hst hb (Zk (s := 4)) (hst.at 0 rfl)
       · replace H1 := Zx hc7 H1
         refine wp_skip ?_
         refine Zba ?_
         refine Zr ?_
         refine r_g (L := [(1, _), (5, _), (6, _)]) (T := [⟨[.old 2], _, [], [], [13]⟩, ⟨[.op 0 0], _, [], [0], [14]⟩, ⟨[.op 1 0], _, [], [0, 1], [6]⟩]) (F := [.old 0, .old 1, .op 2 0]) (hst.pick [0, 1, 2] rfl) hb Za
           (o_p rfl (Zb rfl rfl u_0) <| o_p rfl (Zb3 rfl rfl u_0 c_i rfl) <| o_p rfl (Zc rfl rfl u_0) <| o_n) (by kernel_rfl) (fun a g hst hb => ?_)
         exact ⟨n, Nat.lt_succ_self _, (IntKind.i64.wrap (x3 + (1 : Int))), g, rfl, (hst.pick [0, 1, 2] rfl), hb, H1⟩
     · replace H1 := Zx hc4 H1
       refine wp_exit ?_
       refine Zb6 ?_
       refine Zb6 ?_
       refine Zco ?_
       exact ⟨g, rfl, (hst.pick [] rfl), hb, Option.some.inj H1⟩
theorem Zlc (a0 : Int) {r : Int} (h : Zen a0 = some r) : FnOk Tryz.prog 85 [(pInt .i64 a0)] (pInt .i64 r) := by
 have H0 := h
 unfold Zen at H0
 clear h
 refine Zbp (N := 15) Tryz.func85 rfl rfl (Nat.le_of_ble_eq_true rfl) rfl rfl (fun a g0 hst hb => ?_)
 refine r_s (T := [⟨[], _, [], [], [2]⟩]) (F := [.old 0]) hst hb Za
   (o_p rfl (Zc rfl rfl c_i) <| o_n) (by kernel_rfl) (fun a g hst hb => ?_)
 refine r_s (T := [⟨[], _, [], [], [4]⟩, ⟨[.op 0 0], _, [], [0], [3]⟩]) (F := [.old 0, .op 1 0]) hst hb Za
   (o_p rfl (Zhi Zbai (xs := [.const (.int .i64 0), .const (.int .i64 0), .const (.int .i64 0), .const (.int .i64 0), .const (.int .i64 0), .const (.int .i64 1), .const (.int .i64 1), .const (.int .i64 2), .const (.int .i64 3), .const (.int .i64 3), .const (.int .i64 4), .const (.int .i64 4), .const (.int .i64 4), .const (.int .i64 5), .const (.int .i64 6), .const (.int .i64 7), .const (.int .i64 7), .const (.int .i64 7), .const (.int .i64 8), .const (.int .i64 8), .const (.int .i64 8), .const (.int .i64 9)]) (.cons c_i (.cons c_i (.cons c_i (.cons c_i (.cons c_i (.cons c_i (.cons c_i (.cons c_i (.cons c_i (.cons c_i (.cons c_i (.cons c_i (.cons c_i (.cons c_i (.cons c_i (.cons c_i (.cons c_i (.cons c_i (.cons c_i (.cons c_i (.cons c_i (.cons c_i .nil)))))))))))))))))))))) (by decide) rfl rfl) <| o_p rfl (Zc rfl rfl u_0) <| o_n) (by kernel_rfl) (fun a g hst hb => ?_)
 refine wp_seq ?_
 refine r_s (T := [⟨[.old 0], _, [], [], [5]⟩, ⟨[.op 0 0], _, [], [0], [6]⟩, ⟨[.op 1 0], _, [], [0, 1], [7]⟩, ⟨[.op 2 0, .old 0], _, [], [0, 1, 2], [8]⟩, ⟨[.op 2 0, .op 3 0], _, [], Lr 4, [9]⟩, ⟨[.op 2 0, .op 4 0], _, [], Lr 5, [10]⟩]) (F := [.old 0, .old 1, .op 5 0]) hst hb Za
   (o_p rfl (Zb rfl rfl u_0) <| o_p rfl (Zcc rfl rfl u_0 c_i) <| o_p rfl (Zb rfl rfl u_0) <| o_g (g_f rfl rfl rfl (fun hG => Zb rfl rfl u_0)) <| o_g (g_f rfl rfl rfl (fun hG => Zck rfl rfl (Opd.gd hG u_0) c_i)) <| o_p rfl (Zbt rfl rfl u_0 (fun hz => (Opd.gd (bNF hz) u_1))) <| o_n) (by kernel_rfl) (fun a g hst hb => ?_)
 refine wp_cond_split (hst.bool 2 rfl) (fun hc1 => ?_) (fun hc1 => ?_)
 · replace H0 := Zw hc1 H0
   refine r_s (L := []) (T := [⟨[], _, [], [], [2]⟩]) (F := [.op 0 0]) (hst.pick [] rfl) hb Za
     (o_p rfl (Zc rfl rfl c_i) <| o_n) (by kernel_rfl) (fun a g hst hb => ?_)
   refine wp_ret ?_
   refine Zq ?_
   obtain rfl := Option.some.inj H0
   exact Z1 rfl hst hb (Zk (s := 2)) (hst.at 0 rfl)
 · replace H0 := Zx hc1 H0
   refine wp_skip ?_
   refine Zr ?_
   obtain ⟨e2, h3, H0⟩ := Zh H0
   refine r_s (L := [(0, _), (3, _)]) (T := [⟨[.old 1], _, [], [], [11]⟩, ⟨[.old 0], _, [], [], [12]⟩, ⟨[.op 0 0, .op 1 0], _, [], [0, 1], [13]⟩, ⟨[.op 2 0], _, [], [0, 1, 2], [14]⟩, ⟨[.op 3 0], _, [], Lr 4, [2]⟩]) (F := [.op 4 0]) (hst.pick [0, 1] rfl) hb Za
     (o_p rfl (Zb rfl rfl u_0) <| o_p rfl (Zb rfl rfl u_0) <| o_p rfl (Zbf Tryz.underlying42 sz_3 rfl rfl u_0 u_1 h3) <| o_p rfl (Zf ty_3 rfl rfl u_0) <| o_p rfl (Zc rfl rfl u_0) <| o_n) (by kernel_rfl) (fun a g hst hb => ?_)
   refine wp_ret ?_
   obtain rfl := Option.some.inj H0
   exact Z1 rfl hst hb (Zk (s := 2)) (hst.at 0 rfl)
theorem Zmc (a0 : Z3) {r : Int} (h : Zei a0 = some r) : FnOk Tryz.prog 56 [(Zbe.pd a0)] (pInt .i64 r) := by
 have H0 := h
 unfold Zei at H0
 clear h
 refine Zbp (N := 113) Tryz.func56 rfl rfl (Nat.le_of_ble_eq_true rfl) rfl rfl (fun a g0 hst hb => ?_)
 refine r_s (T := [⟨[.old 0], _, [], [], [1]⟩, ⟨[], _, [], [], [2]⟩]) (F := [.op 0 0]) hst hb Za
   (o_p rfl (Zbj rfl rfl u_0) <| o_p rfl (Zc rfl rfl c_i) <| o_n) (by kernel_rfl) (fun a g hst hb => ?_)
 refine wp_seq ?_
 refine r_s (T := [⟨[.old 0], _, [], [], [3]⟩, ⟨[.op 0 0], _, [], [0], [4]⟩, ⟨[.op 1 0], _, [], [0, 1], [5]⟩, ⟨[.op 2 0], _, [], [0, 1, 2], [6]⟩, ⟨[.op 3 0, .old 0], _, [], Lr 4, [7]⟩, ⟨[.op 3 0, .op 4 0], _, [], Lr 5, [8]⟩, ⟨[.op 3 0, .op 5 0], _, [], Lr 6, [9]⟩, ⟨[.op 3 0, .op 6 0], _, [], Lr 7, [10]⟩]) (F := [.old 0, .op 7 0]) hst hb Za
   (o_p rfl (Zd Zdc rfl rfl u_0) <| o_p rfl (Zf ty_3 rfl rfl u_0) <| o_p rfl (Zcc rfl rfl u_0 c_i) <| o_p rfl (Zb rfl rfl u_0) <| o_g (g_f rfl rfl rfl (fun hG => Zd Zdc rfl rfl u_0)) <| o_g (g_f rfl rfl rfl (fun hG => Zf ty_3 rfl rfl (Opd.gd hG u_0))) <| o_g (g_f rfl rfl rfl (fun hG => Zck rfl rfl (Opd.gd hG u_0) c_i)) <| o_p rfl (Zbt rfl rfl u_0 (fun hz => (Opd.gd (bNF hz) u_1))) <| o_n) (by kernel_rfl) (fun a g hst hb => ?_)
 refine wp_cond_split (hst.bool 1 rfl) (fun hc1 => ?_) (fun hc1 => ?_)
 · replace H0 := Zw hc1 H0
   refine r_s (L := []) (T := [⟨[], _, [], [], [2]⟩]) (F := [.op 0 0]) (hst.pick [] rfl) hb Za
     (o_p rfl (Zc rfl rfl c_i) <| o_n) (by kernel_rfl) (fun a g hst hb => ?_)
   refine wp_ret ?_
   refine Zq ?_
   obtain rfl := Option.some.inj H0
   exact Z1 rfl hst hb (Zk (s := 2)) (hst.at 0 rfl)
 · replace H0 := Zx hc1 H0
   refine wp_skip ?_
   refine Zr ?_
   refine wp_seq ?_
   refine r_s (L := [(1, _)]) (T := [⟨[.old 0], _, [], [], [11]⟩, ⟨[.op 0 0], _, [], [0], [12]⟩, ⟨[.op 1 0], _, [], [0, 1], [13]⟩, ⟨[.op 2 0], _, [], [0, 1, 2], [14]⟩, ⟨[.op 3 0], _, [], Lr 4, [15]⟩, ⟨[.op 4 0, .old 0], _, [], Lr 5, [16]⟩, ⟨[.op 4 0, .op 5 0], _, [], Lr 6, [17]⟩, ⟨[.op 4 0, .op 6 0], _, [], Lr 7, [18]⟩, ⟨[.op 4 0, .op 7 0], _, [], Lr 8, [19]⟩, ⟨[.op 4 0, .op 8 0], _, [], Lr 9, [20]⟩]) (F := [.old 0, .op 9 0]) (hst.pick [0] rfl) hb Za
     (o_p rfl (Zd Zjn rfl rfl u_0) <| o_p rfl (Zf ty_9 rfl rfl u_0) <| o_p rfl (Ze3 Tryz.underlying9 rfl rfl u_0) <| o_p rfl (Zcc rfl rfl u_0 c_i) <| o_p rfl (Zb rfl rfl u_0) <| o_g (g_f rfl rfl rfl (fun hG => Zd Zjn rfl rfl u_0)) <| o_g (g_f rfl rfl rfl (fun hG => Zf ty_9 rfl rfl (Opd.gd hG u_0))) <| o_g (g_f rfl rfl rfl (fun hG => Ze3 Tryz.underlying9 rfl rfl (Opd.gd hG u_0))) <| o_g (g_f rfl rfl rfl (fun hG => Zck rfl rfl (Opd.gd hG u_0) c_i)) <| o_p rfl (Zbt rfl rfl u_0 (fun hz => (Opd.gd (bNF hz) u_1))) <| o_n) (by kernel_rfl) (fun a g hst hb => ?_)
   refine wp_cond_split (hst.bool 1 rfl) (fun hc2 => ?_) (fun hc2 => ?_)
   · replace H0 := Zw hc2 H0
     refine r_s (L := []) (T := [⟨[], _, [], [], [2]⟩]) (F := [.op 0 0]) (hst.pick [] rfl) hb Za
       (o_p rfl (Zc rfl rfl c_i) <| o_n) (by kernel_rfl) (fun a g hst hb => ?_)
     refine wp_ret ?_
     refine Zq ?_
     obtain rfl := Option.some.inj H0
     exact Z1 rfl hst hb (Zk (s := 2)) (hst.at 0 rfl)
   · replace H0 := Zx hc2 H0
     refine wp_skip ?_
     refine Zr ?_
     refine wp_seq ?_
     obtain ⟨r3, h4, H0⟩ := Zh H0; obtain ⟨r5, h6, H0⟩ := Zh H0; obtain ⟨r7, h8, H0⟩ := Zh H0; obtain ⟨r9, h10, H0⟩ := Zh H0
     refine r_s (L := [(1, _)]) (T := ⟨[.old 0], _, [], [], [21]⟩ :: ⟨[.op 0 0], _, [], [0], [22]⟩ :: ⟨[.op 1 0], _, [], [0, 1], [23]⟩ :: ⟨[.op 2 0], _, [], [0, 1, 2], [24]⟩ :: ⟨[.op 3 0], _, [], Lr 4, [25]⟩ :: ⟨[.op 4 0, .old 0], _, [], Lr 5, [26]⟩ :: ⟨[.op 4 0, .op 5 0], _, [], Lr 6, [27]⟩ :: ⟨[.op 4 0, .op 6 0], _, [], Lr 7, [28]⟩ :: ⟨[.op 4 0, .op 7 0], _, [], Lr 8, [29]⟩ :: ⟨[.op 8 0], _, [], Lr 9, [30]⟩ :: ⟨[.op 9 0, .old 0], _, [], Lr 10, [31]⟩ :: ⟨[.op 9 0, .op 10 0], _, [], Lr 11, [32]⟩ :: ⟨[.op 9 0, .op 11 0], _, [], Lr 12, [33]⟩ :: ⟨[.op 9 0, .op 12 0], _, [], Lr 13, [34]⟩ :: ⟨[.op 9 0, .op 13 0], _, [], Lr 14, [35]⟩ :: ⟨[.op 14 0, .old 0], _, [], Lr 15, [36]⟩ :: ⟨[.op 14 0, .op 15 0], _, [], Lr 16, [37]⟩ :: ⟨[.op 14 0, .op 16 0], _, [], Lr 17, [38]⟩ :: ⟨[.op 14 0, .op 17 0], _, [], Lr 18, [39]⟩ :: ⟨[.op 9 0, .op 14 0, .op 18 0], _, [], Lr 19, [40]⟩ :: ⟨[.op 9 0, .op 19 0], _, [], Lr 20, [41]⟩ :: ⟨[.op 20 0], _, [], Lr 21, [42]⟩ :: ⟨[.op 21 0, .old 0], _, [], Lr 22, [43]⟩ :: ⟨[.op 21 0, .op 22 0], _, [], Lr 23, [44]⟩ :: ⟨[.op 21 0, .op 23 0], _, [], Lr 24, [45]⟩ :: ⟨[.op 21 0, .op 24 0], _, [], Lr 25, [46]⟩ :: ⟨[.op 21 0, .op 25 0], _, [], Lr 26, [47]⟩ :: ⟨[.op 26 0, .old 0], _, [], Lr 27, [48]⟩ :: ⟨[.op 26 0, .op 27 0], _, [], Lr 28, [49]⟩ :: ⟨[.op 26 0, .op 28 0], _, [], Lr 29, [50]⟩ :: ⟨[.op 21 0, .op 26 0, .op 29 0], _, [], Lr 30, [51]⟩ :: ⟨[.op 21 0, .op 30 0], _, [], Lr 31, [52]⟩ :: []) (F := [.old 0, .op 31 0]) (hst.pick [0] rfl) hb Za
       (o_p rfl (Zd Zdc rfl rfl u_0) <| o_p rfl (Zf ty_3 rfl rfl u_0) <| o_p rfl (Zn Z0m (Zkw _ _ h4) rfl rfl (.cons u_0 (.cons c_i .nil))) <| o_p rfl (Zb7 rfl rfl u_0) <| o_p rfl (Zb rfl rfl u_0) <| o_g (g_t rfl rfl rfl (fun hG => Zd Zdv rfl rfl u_0)) <| o_g (g_t rfl rfl rfl (fun hG => Zf ty_2 rfl rfl (Opd.gd hG u_0))) <| o_g (g_t rfl rfl rfl (fun hG => Zc6 rfl rfl (Opd.gd hG u_0) c_i)) <| o_p rfl (Zbc rfl rfl u_0 (fun hz => (Opd.gd hz u_1))) <| o_p rfl (Zb rfl rfl u_0) <| o_g (g_f rfl rfl rfl (fun hG => Zd Zdc rfl rfl u_0)) <| o_g (g_f rfl rfl rfl (fun hG => Zf ty_3 rfl rfl (Opd.gd hG u_0))) <| o_g (g_f rfl rfl rfl (fun hG => Zn Z0m (Zkw _ _ (Zbm h6 hG)) rfl rfl (.cons (Opd.gd hG u_0) (.cons c_i .nil)))) <| o_g (g_f rfl rfl rfl (fun hG => Zb7 rfl rfl (Opd.gd hG u_0))) <| o_g (g_f rfl rfl rfl (fun hG => Zb rfl rfl (Opd.gd hG u_0))) <| o_g (g_ti rfl rfl rfl (fun hG => Zd Zin rfl rfl u_0)) <| o_g (g_ti rfl rfl rfl (fun hG => Zf Zcv rfl rfl (Opd.gd hG u_0))) <| o_g (g_ti rfl rfl rfl (fun hG => Zn Zr6 (Zfz _ _ (Zbm h8 hG)) rfl rfl (.cons (Opd.gd hG u_0) (.cons c_f .nil)))) <| o_g (g_ti rfl rfl rfl (fun hG => Zb7 rfl rfl (Opd.gd hG u_0))) <| o_g (g_f rfl rfl rfl (fun hG => Zbc rfl rfl (Opd.gd hG u_0) (fun hz => (Opd.gd (bA hG hz) u_1)))) <| o_p rfl (Zbt rfl rfl u_0 (fun hz => (Opd.gd (bNF hz) u_1))) <| o_p rfl (Zb rfl rfl u_0) <| o_g (g_f rfl rfl rfl (fun hG => Zd Zdc rfl rfl u_0)) <| o_g (g_f rfl rfl rfl (fun hG => Zf ty_3 rfl rfl (Opd.gd hG u_0))) <| o_g (g_f rfl rfl rfl (fun hG => Zn Z0m (Zkw _ _ (Zbm h10 hG)) rfl rfl (.cons (Opd.gd hG u_0) (.cons c_i .nil)))) <| o_g (g_f rfl rfl rfl (fun hG => Zb7 rfl rfl (Opd.gd hG u_0))) <| o_g (g_f rfl rfl rfl (fun hG => Zb rfl rfl (Opd.gd hG u_0))) <| o_g (g_ti rfl rfl rfl (fun hG => Zd Zfc rfl rfl u_0)) <| o_g (g_ti rfl rfl rfl (fun hG => Zf ty_9 rfl rfl (Opd.gd hG u_0))) <| o_g (g_ti rfl rfl rfl (fun hG => Zob rfl rfl (Opd.gd hG u_0) c_s)) <| o_g (g_f rfl rfl rfl (fun hG => Zbc rfl rfl (Opd.gd hG u_0) (fun hz => (Opd.gd (bA hG hz) u_1)))) <| o_p rfl (Zbt rfl rfl u_0 (fun hz => (Opd.gd (bNF hz) u_1))) <| o_n) (by kernel_rfl) (fun a g hst hb => ?_)
     refine wp_cond_split (hst.bool 1 rfl) (fun hc11 => ?_) (fun hc11 => ?_)
     · replace H0 := Zw hc11 H0
       refine r_s (L := []) (T := [⟨[], _, [], [], [2]⟩]) (F := [.op 0 0]) (hst.pick [] rfl) hb Za
         (o_p rfl (Zc rfl rfl c_i) <| o_n) (by kernel_rfl) (fun a g hst hb => ?_)
       refine wp_ret ?_
       refine Zq ?_
       obtain rfl := Option.some.inj H0
       exact Z1 rfl hst hb (Zk (s := 2)) (hst.at 0 rfl)
     · replace H0 := Zx hc11 H0
       refine wp_skip ?_
       refine Zr ?_
       refine wp_seq ?_
       obtain ⟨r12, h13, H0⟩ := Zh H0
       refine r_s (L := [(1, _)]) (T := [⟨[.old 0], _, [], [], [53]⟩, ⟨[.op 0 0], _, [], [0], [54]⟩, ⟨[.op 1 0], _, [], [0, 1], [55]⟩, ⟨[.op 2 0], _, [], [0, 1, 2], [56]⟩, ⟨[.op 3 0, .old 0], _, [], Lr 4, [57]⟩, ⟨[.op 3 0, .op 4 0], _, [], Lr 5, [58]⟩, ⟨[.op 3 0], _, [], Lr 4, [59]⟩, ⟨[.op 3 0, .op 5 0, .op 6 0], _, [], Lr 7, [60]⟩, ⟨[.op 3 0, .op 7 0], _, [], Lr 8, [61]⟩, ⟨[.op 3 0, .op 8 0], _, [], Lr 9, [62]⟩]) (F := [.old 0, .op 9 0]) (hst.pick [0] rfl) hb Za
         (o_p rfl (Zd Zdc rfl rfl u_0) <| o_p rfl (Zf ty_3 rfl rfl u_0) <| o_p rfl (Zc6 rfl rfl u_0 c_i) <| o_p rfl (Zb rfl rfl u_0) <| o_g (g_t rfl rfl rfl (fun hG => Zd Zmm rfl rfl u_0)) <| o_g (g_t rfl rfl rfl (fun hG => Zf Zbb rfl rfl (Opd.gd hG u_0))) <| o_g (g_t rfl rfl rfl (fun hG => Zma rfl rfl )) <| o_g (g_t rfl rfl rfl (fun hG => Zn Z0v (Zkh _ _ (Zbm h13 hG)) rfl rfl (.cons (Opd.gd hG u_0) (.cons (Opd.gd hG u_1) .nil)))) <| o_g (g_t rfl rfl rfl (fun hG => Zb7 rfl rfl (Opd.gd hG u_0))) <| o_p rfl (Zbc rfl rfl u_0 (fun hz => (Opd.gd hz u_1))) <| o_n) (by kernel_rfl) (fun a g hst hb => ?_)
       refine wp_cond_split (hst.bool 1 rfl) (fun hc14 => ?_) (fun hc14 => ?_)
       · replace H0 := Zw hc14 H0
         refine r_s (L := []) (T := [⟨[], _, [], [], [2]⟩]) (F := [.op 0 0]) (hst.pick [] rfl) hb Za
           (o_p rfl (Zc rfl rfl c_i) <| o_n) (by kernel_rfl) (fun a g hst hb => ?_)
         refine wp_ret ?_
         refine Zq ?_
         obtain rfl := Option.some.inj H0
         exact Z1 rfl hst hb (Zk (s := 2)) (hst.at 0 rfl)
       · replace H0 := Zx hc14 H0
         refine wp_skip ?_
         refine Zr ?_
         refine wp_seq ?_
         obtain ⟨r15, h16, H0⟩ := Zh H0; obtain ⟨r17, h18, H0⟩ := Zh H0
         refine r_s (L := [(1, _)]) (T := ⟨[.old 0], _, [], [], [63]⟩ :: ⟨[.op 0 0], _, [], [0], [64]⟩ :: ⟨[.op 1 0], _, [], [0, 1], [65]⟩ :: ⟨[.op 2 0], _, [], [0, 1, 2], [66]⟩ :: ⟨[.op 3 0], _, [], Lr 4, [67]⟩ :: ⟨[.op 4 0, .old 0], _, [], Lr 5, [68]⟩ :: ⟨[.op 4 0, .op 5 0], _, [], Lr 6, [69]⟩ :: ⟨[.op 4 0, .op 6 0], _, [], Lr 7, [70]⟩ :: ⟨[.op 4 0, .op 7 0], _, [], Lr 8, [71]⟩ :: ⟨[.op 4 0, .op 8 0], _, [], Lr 9, [72]⟩ :: ⟨[.op 9 0], _, [], Lr 10, [73]⟩ :: ⟨[.op 10 0, .old 0], _, [], Lr 11, [74]⟩ :: ⟨[.op 10 0, .op 11 0], _, [], Lr 12, [75]⟩ :: ⟨[.op 10 0, .op 12 0], _, [], Lr 13, [76]⟩ :: ⟨[.op 10 0, .op 13 0], _, [], Lr 14, [77]⟩ :: ⟨[.op 10 0, .op 14 0], _, [], Lr 15, [78]⟩ :: ⟨[.op 15 0, .old 0], _, [], Lr 16, [79]⟩ :: ⟨[.op 15 0, .op 16 0], _, [], Lr 17, [80]⟩ :: ⟨[.op 15 0, .op 17 0], _, [], Lr 18, [81]⟩ :: ⟨[.op 15 0, .op 18 0], _, [], Lr 19, [82]⟩ :: ⟨[.op 10 0, .op 15 0, .op 19 0], _, [], Lr 20, [83]⟩ :: ⟨[.op 10 0, .op 20 0], _, [], Lr 21, [84]⟩ :: []) (F := [.old 0, .op 21 0]) (hst.pick [0] rfl) hb Za
           (o_p rfl (Zd Zdc rfl rfl u_0) <| o_p rfl (Zf ty_3 rfl rfl u_0) <| o_p rfl (Zn Z1a (Zlc _ h16) rfl rfl (.cons u_0 .nil)) <| o_p rfl (Zbl rfl rfl u_0 c_i) <| o_p rfl (Zb rfl rfl u_0) <| o_g (g_t rfl rfl rfl (fun hG => Zd Zfc rfl rfl u_0)) <| o_g (g_t rfl rfl rfl (fun hG => Zf ty_9 rfl rfl (Opd.gd hG u_0))) <| o_g (g_t rfl rfl rfl (fun hG => Ze3 Tryz.underlying9 rfl rfl (Opd.gd hG u_0))) <| o_g (g_t rfl rfl rfl (fun hG => Zck rfl rfl (Opd.gd hG u_0) c_i)) <| o_p rfl (Zbc rfl rfl u_0 (fun hz => (Opd.gd hz u_1))) <| o_p rfl (Zb rfl rfl u_0) <| o_g (g_f rfl rfl rfl (fun hG => Zd Zdc rfl rfl u_0)) <| o_g (g_f rfl rfl rfl (fun hG => Zf ty_3 rfl rfl (Opd.gd hG u_0))) <| o_g (g_f rfl rfl rfl (fun hG => Zn Z1a (Zlc _ (Zbm h18 hG)) rfl rfl (.cons (Opd.gd hG u_0) .nil))) <| o_g (g_f rfl rfl rfl (fun hG => Zc6 rfl rfl (Opd.gd hG u_0) c_i)) <| o_g (g_f rfl rfl rfl (fun hG => Zb rfl rfl (Opd.gd hG u_0))) <| o_g (g_ti rfl rfl rfl (fun hG => Zd Zfc rfl rfl u_0)) <| o_g (g_ti rfl rfl rfl (fun hG => Zf ty_9 rfl rfl (Opd.gd hG u_0))) <| o_g (g_ti rfl rfl rfl (fun hG => Ze3 Tryz.underlying9 rfl rfl (Opd.gd hG u_0))) <| o_g (g_ti rfl rfl rfl (fun hG => Zck rfl rfl (Opd.gd hG u_0) c_i)) <| o_g (g_f rfl rfl rfl (fun hG => Zbc rfl rfl (Opd.gd hG u_0) (fun hz => (Opd.gd (bA hG hz) u_1)))) <| o_p rfl (Zbt rfl rfl u_0 (fun hz => (Opd.gd (bNF hz) u_1))) <| o_n) (by kernel_rfl) (fun a g hst hb => ?_)
         refine wp_cond_split (hst.bool 1 rfl) (fun hc19 => ?_) (fun hc19 => ?_)
         · replace H0 := Zw hc19 H0
           refine r_s (L := []) (T := [⟨[], _, [], [], [2]⟩]) (F := [.op 0 0]) (hst.pick [] rfl) hb Za
             (o_p rfl (Zc rfl rfl c_i) <| o_n) (by kernel_rfl) (fun a g hst hb => ?_)
           refine wp_ret ?_
           refine Zq ?_
           obtain rfl := Option.some.inj H0
           exact Z1 rfl hst hb (Zk (s := 2)) (hst.at 0 rfl)
         · replace H0 := Zx hc19 H0
           refine wp_skip ?_
           refine Zr ?_
           refine wp_seq ?_
           refine r_s (L := [(1, _)]) (T := ⟨[.old 0], _, [], [], [85]⟩ :: ⟨[.op 0 0], _, [], [0], [86]⟩ :: ⟨[.op 1 0], _, [], [0, 1], [87]⟩ :: ⟨[.op 2 0], _, [], [0, 1, 2], [88]⟩ :: ⟨[.op 3 0, .old 0], _, [], Lr 4, [89]⟩ :: ⟨[.op 3 0, .op 4 0], _, [], Lr 5, [90]⟩ :: ⟨[.op 3 0, .op 5 0], _, [], Lr 6, [91]⟩ :: ⟨[.op 3 0, .op 6 0], _, [], Lr 7, [92]⟩ :: ⟨[.op 7 0], _, [], Lr 8, [93]⟩ :: ⟨[.op 8 0, .old 0], _, [], Lr 9, [94]⟩ :: ⟨[.op 8 0, .op 9 0], _, [], Lr 10, [95]⟩ :: ⟨[.op 8 0, .op 10 0], _, [], Lr 11, [96]⟩ :: ⟨[.op 8 0, .op 11 0], _, [], Lr 12, [97]⟩ :: ⟨[.op 12 0, .old 0], _, [], Lr 13, [98]⟩ :: ⟨[.op 12 0, .op 13 0], _, [], Lr 14, [99]⟩ :: ⟨[.op 12 0, .op 14 0], _, [], Lr 15, [100]⟩ :: ⟨[.op 8 0, .op 12 0, .op 15 0], _, [], Lr 16, [101]⟩ :: ⟨[.op 8 0, .op 16 0], _, [], Lr 17, [102]⟩ :: []) (F := [.old 0, .op 17 0]) (hst.pick [0] rfl) hb Za
             (o_p rfl (Zd Zdc rfl rfl u_0) <| o_p rfl (Zf ty_3 rfl rfl u_0) <| o_p rfl (Zbl rfl rfl u_0 c_i) <| o_p rfl (Zb rfl rfl u_0) <| o_g (g_f rfl rfl rfl (fun hG => Zd Zdc rfl rfl u_0)) <| o_g (g_f rfl rfl rfl (fun hG => Zf ty_3 rfl rfl (Opd.gd hG u_0))) <| o_g (g_f rfl rfl rfl (fun hG => Zbl rfl rfl (Opd.gd hG u_0) c_i)) <| o_p rfl (Zbt rfl rfl u_0 (fun hz => (Opd.gd (bNF hz) u_1))) <| o_p rfl (Zb rfl rfl u_0) <| o_g (g_t rfl rfl rfl (fun hG => Zd Zdv rfl rfl u_0)) <| o_g (g_t rfl rfl rfl (fun hG => Zf ty_2 rfl rfl (Opd.gd hG u_0))) <| o_g (g_t rfl rfl rfl (fun hG => Zcc rfl rfl (Opd.gd hG u_0) c_i)) <| o_g (g_t rfl rfl rfl (fun hG => Zb rfl rfl (Opd.gd hG u_0))) <| o_g (g_fi rfl rfl rfl (fun hG => Zd Zdv rfl rfl u_0)) <| o_g (g_fi rfl rfl rfl (fun hG => Zf ty_2 rfl rfl (Opd.gd hG u_0))) <| o_g (g_fi rfl rfl rfl (fun hG => Zck rfl rfl (Opd.gd hG u_0) c_i)) <| o_g (g_t rfl rfl rfl (fun hG => Zbt rfl rfl (Opd.gd hG u_0) (fun hz => (Opd.gd (bA hG (bNF hz)) u_1)))) <| o_p rfl (Zbc rfl rfl u_0 (fun hz => (Opd.gd hz u_1))) <| o_n) (by kernel_rfl) (fun a g hst hb => ?_)
           refine wp_cond_split (hst.bool 1 rfl) (fun hc20 => ?_) (fun hc20 => ?_)
           · replace H0 := Zw hc20 H0
             refine r_s (L := []) (T := [⟨[], _, [], [], [2]⟩]) (F := [.op 0 0]) (hst.pick [] rfl) hb Za
               (o_p rfl (Zc rfl rfl c_i) <| o_n) (by kernel_rfl) (fun a g hst hb => ?_)
             refine wp_ret ?_
             refine Zq ?_
             obtain rfl := Option.some.inj H0
             exact Z1 rfl hst hb (Zk (s := 2)) (hst.at 0 rfl)
           · replace H0 := Zx hc20 H0
             refine wp_skip ?_
             refine Zr ?_
             refine wp_seq ?_
             obtain ⟨r21, h22, H0⟩ := Zh H0
             refine r_s (L := [(1, _)]) (T := [⟨[.old 0], _, [], [], [103]⟩, ⟨[.op 0 0], _, [], [0], [104]⟩, ⟨[.op 1 0], _, [], [0, 1], [105]⟩, ⟨[.op 2 0], _, [], [0, 1, 2], [106]⟩]) (F := [.old 0, .op 3 0]) (hst.pick [0] rfl) hb Za
               (o_p rfl (Zd Zin rfl rfl u_0) <| o_p rfl (Zf Zcv rfl rfl u_0) <| o_p rfl (Zn Z1d (Zjt _ h22) rfl rfl (.cons u_0 .nil)) <| o_p rfl (Zb7 rfl rfl u_0) <| o_n) (by kernel_rfl) (fun a g hst hb => ?_)
             refine wp_cond_split (hst.bool 1 rfl) (fun hc23 => ?_) (fun hc23 => ?_)
             · replace H0 := Zw hc23 H0
               refine r_s (L := []) (T := [⟨[], _, [], [], [2]⟩]) (F := [.op 0 0]) (hst.pick [] rfl) hb Za
                 (o_p rfl (Zc rfl rfl c_i) <| o_n) (by kernel_rfl) (fun a g hst hb => ?_)
               refine wp_ret ?_
               refine Zq ?_
               obtain rfl := Option.some.inj H0
               exact Z1 rfl hst hb (Zk (s := 2)) (hst.at 0 rfl)
             · replace H0 := Zx hc23 H0
               refine wp_skip ?_
               refine Zr ?_
               refine wp_seq ?_
               refine r_s (L := [(1, _)]) (T := [⟨[.old 0], _, [], [], [107]⟩, ⟨[.op 0 0], _, [], [0], [108]⟩, ⟨[.op 1 0], _, [], [0, 1], [109]⟩]) (F := [.old 0, .op 2 0]) (hst.pick [0] rfl) hb Za
                 (o_p rfl (Zd Zdc rfl rfl u_0) <| o_p rfl (Zf ty_3 rfl rfl u_0) <| o_p rfl (Zbl rfl rfl u_0 c_i) <| o_n) (by kernel_rfl) (fun a g hst hb => ?_)
               refine wp_cond_split (hst.bool 1 rfl) (fun hc24 => ?_) (fun hc24 => ?_)
               · replace H0 := Zw hc24 H0
                 obtain ⟨r25, h26, H0⟩ := Zh H0
                 refine r_s (L := [(1, _)]) (T := [⟨[.old 0], _, [], [], [110]⟩, ⟨[.op 0 0], _, [], [0], [111]⟩, ⟨[.op 1 0], _, [], [0, 1], [112]⟩, ⟨[.op 2 0], _, [], [0, 1, 2], [2]⟩]) (F := [.op 3 0]) (hst.pick [0] rfl) hb Za
                   (o_p rfl (Zd Zmm rfl rfl u_0) <| o_p rfl (Zf Zbb rfl rfl u_0) <| o_p rfl (Zn Z1f (Zj5 _ h26) rfl rfl (.cons u_0 .nil)) <| o_p rfl (Zc rfl rfl u_0) <| o_n) (by kernel_rfl) (fun a g hst hb => ?_)
                 refine wp_ret ?_
                 refine Zq ?_
                 obtain rfl := Option.some.inj H0
                 exact Z1 rfl hst hb (Zk (s := 2)) (hst.at 0 rfl)
               · replace H0 := Zx hc24 H0
                 refine wp_skip ?_
                 refine Zr ?_
                 refine r_s (L := []) (T := [⟨[], _, [], [], [2]⟩]) (F := [.op 0 0]) (hst.pick [] rfl) hb Za
                   (o_p rfl (Zc rfl rfl c_i) <| o_n) (by kernel_rfl) (fun a g hst hb => ?_)
                 refine wp_ret ?_
                 obtain rfl := Option.some.inj H0
                 exact Z1 rfl hst hb (Zk (s := 2)) (hst.at 0 rfl)
theorem Zpx (a0 : Zb0) {r : Int × Int} (h : Zhz a0 = some r) : FnOk Tryz.prog 31 [(Zcm.pd a0)] (pTup [(pInt .i64 r.1), (pInt .i64 r.2)]) := by
 have H0 := h
 unfold Zhz at H0
 clear h
 refine Zbp (N := 34) Tryz.func31 rfl rfl (Nat.le_of_ble_eq_true rfl) rfl rfl (fun a g0 hst hb => ?_)
 refine r_s (T := [⟨[.old 0], _, [], [], [1]⟩, ⟨[], _, [], [], [2]⟩, ⟨[], _, [], [1], [3]⟩]) (F := [.op 0 0]) hst hb Za
   (o_p rfl (Zbj rfl rfl u_0) <| o_p rfl (Zc rfl rfl c_i) <| o_p rfl (Zc rfl rfl c_i) <| o_n) (by kernel_rfl) (fun a g hst hb => ?_)
 refine wp_seq ?_
 refine r_s (T := [⟨[.old 0], _, [], [], [6]⟩, ⟨[.op 0 0], _, [], [0], [7]⟩, ⟨[.op 1 0], _, [], [0, 1], [8]⟩, ⟨[.op 2 0], _, [], [0, 1, 2], [9]⟩, ⟨[.op 3 0], _, [], Lr 4, [10]⟩, ⟨[.op 4 0, .old 0], _, [], Lr 5, [11]⟩, ⟨[.op 4 0, .op 5 0], _, [], Lr 6, [12]⟩, ⟨[.op 4 0, .op 6 0], _, [], Lr 7, [13]⟩, ⟨[.op 4 0, .op 7 0], _, [], Lr 8, [14]⟩, ⟨[.op 4 0, .op 8 0], _, [], Lr 9, [15]⟩]) (F := [.old 0, .op 9 0]) hst hb Za
   (o_p rfl (Zd Zib rfl rfl u_0) <| o_p rfl (Zf Zla rfl rfl u_0) <| o_p rfl (Zbu Tryz.underlying50 rfl rfl u_0) <| o_p rfl (Zcc rfl rfl u_0 c_i) <| o_p rfl (Zb rfl rfl u_0) <| o_g (g_f rfl rfl rfl (fun hG => Zd Zib rfl rfl u_0)) <| o_g (g_f rfl rfl rfl (fun hG => Zf Zla rfl rfl (Opd.gd hG u_0))) <| o_g (g_f rfl rfl rfl (fun hG => Zbu Tryz.underlying50 rfl rfl (Opd.gd hG u_0))) <| o_g (g_f rfl rfl rfl (fun hG => Zck rfl rfl (Opd.gd hG u_0) c_i)) <| o_p rfl (Zbt rfl rfl u_0 (fun hz => (Opd.gd (bNF hz) u_1))) <| o_n) (by kernel_rfl) (fun a g hst hb => ?_)
 refine wp_cond_split (hst.bool 1 rfl) (fun hc1 => ?_) (fun hc1 => ?_)
 · replace H0 := Zw hc1 H0
   refine r_s (L := []) (T := [⟨[], _, [], [], [2]⟩, ⟨[], _, [], [0], [3]⟩]) (F := [.op 0 0, .op 1 0]) (hst.pick [] rfl) hb Za
     (o_p rfl (Zc rfl rfl c_i) <| o_p rfl (Zc rfl rfl c_i) <| o_n) (by kernel_rfl) (fun a g hst hb => ?_)
   refine wp_ret ?_
   refine Zq ?_
   obtain rfl := Option.some.inj H0
   exact Zda rfl hst hb (Zk (s := 2)) (Zk (s := 3)) (Zcn (hst.at 0 rfl) (hst.at 1 rfl))
 · replace H0 := Zx hc1 H0
   refine wp_skip ?_
   refine Zr ?_
   refine wp_seq ?_
   refine r_s (L := [(1, _)]) (T := [⟨[], _, [], [], [4]⟩]) (F := [.old 0, .op 0 0]) (hst.pick [0] rfl) hb Za
     (o_p rfl (Zc rfl rfl c_i) <| o_n) (by kernel_rfl) (fun a g hst hb => ?_)
   obtain ⟨z9, hz1, H0⟩ := Zh H0
   refine Zb8 (fun a w => ∃ (g : G), w = g.w ∧ St 34 [] a g ∧ Base g0 g ∧ (.inr ()) = z9) ?_ ?_
   · rintro a w ⟨g, rfl, hst, hb, rfl⟩
     refine Zr ?_
     refine r_s (T := [⟨[], _, [], [], [2]⟩, ⟨[], _, [], [0], [3]⟩]) (F := [.op 0 0, .op 1 0]) hst hb Za
       (o_p rfl (Zc rfl rfl c_i) <| o_p rfl (Zc rfl rfl c_i) <| o_n) (by kernel_rfl) (fun a g hst hb => ?_)
     refine wp_ret ?_
     obtain rfl := Option.some.inj H0
     exact Zda rfl hst hb (Zk (s := 2)) (Zk (s := 3)) (Zcn (hst.at 0 rfl) (hst.at 1 rfl))
   · refine wp_block ?_
     refine wp_loop_ghost (fun n a w => ∃ (x2 : Int) (g : G), w = g.w ∧ St 34 [(1, (Zcm.ptr a0)), (4, (pInt .i64 x2))] a g ∧ Base g0 g ∧ Zd8 a0 n x2 = some z9) (Int.toNat ((a0.Acts.length : Int) - (0 : Int)) + 1) ⟨(0 : Int), g, rfl, (hst.pick [0, 1] rfl), hb, hz1⟩ (fun n a w hI => ?_)
     obtain ⟨x2, g, rfl, hst, hb, H1⟩ := hI
     cases n with
     | zero => exact absurd H1 (by simp [Zd8])
     | succ n =>
       rw [Zd8] at H1
       refine wp_seq ?_
       refine r_s (T := [⟨[.old 1], _, [], [], [16]⟩, ⟨[.old 0], _, [], [], [17]⟩, ⟨[.op 1 0], _, [], [1], [18]⟩, ⟨[.op 2 0], _, [], [1, 2], [19]⟩, ⟨[.op 0 0, .op 3 0], _, [], Lr 4, [20]⟩]) (F := [.old 0, .old 1, .op 4 0]) hst hb Za
         (o_p rfl (Zb rfl rfl u_0) <| o_p rfl (Zd Zib rfl rfl u_0) <| o_p rfl (Zf Zla rfl rfl u_0) <| o_p rfl (Zbu Tryz.underlying50 rfl rfl u_0) <| o_p rfl (Zcc rfl rfl u_0 u_1) <| o_n) (by kernel_rfl) (fun a g hst hb => ?_)
       refine wp_cond_split (hst.bool 2 rfl) (fun hc3 => ?_) (fun hc3 => ?_)
       · replace H1 := Zw hc3 H1
         refine wp_skip ?_
         refine Zr ?_
         refine wp_seq ?_
         refine wp_block ?_
         obtain ⟨e4, h5, H1⟩ := Zh H1; obtain ⟨r6, h7, H1⟩ := Zh H1
         refine r_s (L := [(1, _), (4, _)]) (T := [⟨[.old 0], _, [], [], [23]⟩, ⟨[.op 0 0], _, [], [0], [24]⟩, ⟨[.old 1], _, [], [], [25]⟩, ⟨[.op 1 0, .op 2 0], _, [], [0, 1, 2], [26]⟩, ⟨[.op 3 0], _, [], Lr 4, [27]⟩, ⟨[.op 4 0], _, [], Lr 5, [28]⟩, ⟨[.op 5 0], _, [], Lr 6, [5]⟩]) (F := [.old 0, .old 1, .op 6 0]) (hst.pick [0, 1] rfl) hb Za
           (o_p rfl (Zd Zib rfl rfl u_0) <| o_p rfl (Zf Zla rfl rfl u_0) <| o_p rfl (Zb rfl rfl u_0) <| o_p rfl (Zbf Tryz.underlying50 Zr0 rfl rfl u_0 u_1 h5) <| o_p rfl (Zf Zfl rfl rfl u_0) <| o_p rfl (Zn Z48 (Zmc _ h7) rfl rfl (.cons u_0 .nil)) <| o_p rfl (Zc rfl rfl u_0) <| o_n) (by kernel_rfl) (fun a g hst hb => ?_)
         refine r_s (T := [⟨[.old 2], _, [], [], [29]⟩, ⟨[.op 0 0], _, [], [0], [30]⟩]) (F := [.old 0, .old 1, .old 2, .op 1 0]) hst hb Za
           (o_p rfl (Zb rfl rfl u_0) <| o_p rfl (Zc6 rfl rfl u_0 c_i) <| o_n) (by kernel_rfl) (fun a g hst hb => ?_)
         refine wp_cond_split (hst.bool 3 rfl) (fun hc8 => ?_) (fun hc8 => ?_)
         · replace H1 := Zw hc8 H1
           refine r_s (L := [(4, _), (5, _)]) (T := [⟨[.old 1], _, [], [], [31]⟩, ⟨[.old 0], _, [], [], [32]⟩, ⟨[.op 1 0], _, [], [1], [33]⟩, ⟨[.op 0 0], _, [], [0], [2]⟩, ⟨[.op 2 0], _, [], Lr 4, [3]⟩]) (F := [.op 3 0, .op 4 0]) (hst.pick [1, 2] rfl) hb Za
             (o_p rfl (Zb rfl rfl u_0) <| o_p rfl (Zb rfl rfl u_0) <| o_p rfl (Zb3 rfl rfl u_0 c_i rfl) <| o_p rfl (Zc rfl rfl u_0) <| o_p rfl (Zc rfl rfl u_0) <| o_n) (by kernel_rfl) (fun a g hst hb => ?_)
           refine wp_ret ?_
           refine Z2 ?_
           refine Zq ?_
           refine Zq ?_
           refine Z2 ?_
           refine Zq ?_
           refine Zq ?_
           obtain rfl := Option.some.inj H1
           obtain rfl := Option.some.inj H0
           exact Zda rfl hst hb (Zk (s := 2)) (Zk (s := 3)) (Zcn (hst.at 0 rfl) (hst.at 1 rfl))
         · replace H1 := Zx hc8 H1
           refine wp_skip ?_
           refine Zba ?_
           refine Zr ?_
           refine r_g (L := [(1, _), (4, _)]) (T := [⟨[.old 1], _, [], [], [21]⟩, ⟨[.op 0 0], _, [], [0], [22]⟩, ⟨[.op 1 0], _, [], [0, 1], [4]⟩]) (F := [.old 0, .op 2 0]) (hst.pick [0, 1] rfl) hb Za
             (o_p rfl (Zb rfl rfl u_0) <| o_p rfl (Zb3 rfl rfl u_0 c_i rfl) <| o_p rfl (Zc rfl rfl u_0) <| o_n) (by kernel_rfl) (fun a g hst hb => ?_)
           exact ⟨n, Nat.lt_succ_self _, (IntKind.i64.wrap (x2 + (1 : Int))), g, rfl, (hst.pick [0, 1] rfl), hb, H1⟩
       · replace H1 := Zx hc3 H1
         refine wp_exit ?_
         refine Zb6 ?_
         refine Zb6 ?_
         refine Zco ?_
         exact ⟨g, rfl, (hst.pick [] rfl), hb, Option.some.inj H1⟩
theorem Znu (a0 : Zj) (a1 : ByteArray) {r : Ze × Bool} (h : Zgb a0 a1 = some r) : FnOk Tryz.prog 57 [(Z6.pd a0), (pStr a1)] (pTup [(Zi.pd r.1), (Zbg r.2)]) := by
 have H0 := h
 unfold Zgb at H0
 clear h
 refine Zbp (N := 32) Tryz.func57 rfl rfl (Nat.le_of_ble_eq_true rfl) rfl rfl (fun a g0 hst hb => ?_)
 refine r_s (T := [⟨[.old 0], _, [], [], [2]⟩, ⟨[], [(4, (pBox Zi 4 (default : Ze)))], [5], [], [4]⟩, ⟨[], _, [], [], [5]⟩]) (F := [.old 1, .op 0 0, .op 1 0]) hst hb Za
   (o_p rfl (Zbj rfl rfl u_0) <| o_p rfl (Zbd (zs := [.int .i64 0, .int .i64 0, .int .i64 0, .int .i64 0, .float .f64 0, .int .i64 0, .string ByteArray.empty, .slice none 0 0]) (by kernel_rfl) (fun g => Zb9 g) rfl rfl) <| o_p rfl (Zc rfl rfl c_b) <| o_n) (by kernel_rfl) (fun a g hst hb => ?_)
 obtain ⟨r1, h2, H0⟩ := Zh H0
 refine r_s (T := [⟨[.old 1], _, [], [], [7]⟩, ⟨[.old 0], _, [], [], [8]⟩, ⟨[.op 0 0, .op 1 0], _, [], [0, 1], [9]⟩, ⟨[.op 2 0], _, [], [0, 1, 2], [6]⟩]) (F := [.old 0, .old 1, .old 2, .op 3 0]) hst hb Za
   (o_p rfl (Zf Zcl rfl rfl u_0) <| o_p rfl (Zb rfl rfl u_0) <| o_p rfl (Zn Z0p (Zh5 _ _ h2) rfl rfl (.cons u_0 (.cons u_1 .nil))) <| o_p rfl (Zc rfl rfl u_0) <| o_n) (by kernel_rfl) (fun a g hst hb => ?_)
 refine wp_seq ?_
 obtain ⟨e3, h4, H0⟩ := Zh H0
 refine r_s (T := ⟨[.old 3], _, [], [], [10]⟩ :: ⟨[.old 1], _, [], [], [11]⟩ :: ⟨[.op 1 0], _, [], [1], [12]⟩ :: ⟨[.op 2 0], _, [], [1, 2], [13]⟩ :: ⟨[.op 0 0, .op 3 0], _, [], Lr 4, [14]⟩ :: ⟨[.op 4 0], _, [], Lr 5, [15]⟩ :: ⟨[.op 5 0, .old 1], _, [], Lr 6, [16]⟩ :: ⟨[.op 5 0, .op 6 0], _, [], Lr 7, [17]⟩ :: ⟨[.op 5 0, .old 3], _, [], Lr 6, [18]⟩ :: ⟨[.op 5 0, .op 7 0, .op 8 0], _, [], Lr 9, [19]⟩ :: ⟨[.op 5 0, .op 9 0], _, [], Lr 10, [20]⟩ :: ⟨[.op 5 0, .op 10 0], _, [], Lr 11, [21]⟩ :: ⟨[.op 5 0, .old 0], _, [], Lr 6, [22]⟩ :: ⟨[.op 5 0, .op 11 0, .op 12 0], _, [], Lr 13, [23]⟩ :: ⟨[.op 5 0, .op 13 0], _, [], Lr 14, [24]⟩ :: []) (F := [.old 1, .old 2, .old 3, .op 14 0]) hst hb Za
   (o_p rfl (Zb rfl rfl u_0) <| o_p rfl (Zd Zgc rfl rfl u_0) <| o_p rfl (Zf Zi0 rfl rfl u_0) <| o_p rfl (Zbu Tryz.underlying22 rfl rfl u_0) <| o_p rfl (Zcc rfl rfl u_0 u_1) <| o_p rfl (Zb rfl rfl u_0) <| o_g (g_t rfl rfl rfl (fun hG => Zd Zgc rfl rfl u_0)) <| o_g (g_t rfl rfl rfl (fun hG => Zf Zi0 rfl rfl (Opd.gd hG u_0))) <| o_g (g_t rfl rfl rfl (fun hG => Zb rfl rfl u_0)) <| o_g (g_t rfl rfl rfl (fun hG => Zbf Tryz.underlying22 Zl4 rfl rfl (Opd.gd hG u_0) (Opd.gd hG u_1) (Zbm h4 hG))) <| o_g (g_t rfl rfl rfl (fun hG => Zd Zlp rfl rfl (Opd.gd hG u_0))) <| o_g (g_t rfl rfl rfl (fun hG => Zf ty_9 rfl rfl (Opd.gd hG u_0))) <| o_g (g_t rfl rfl rfl (fun hG => Zb rfl rfl u_0)) <| o_g (g_t rfl rfl rfl (fun hG => Zkl rfl rfl (Opd.gd hG u_0) (Opd.gd hG u_1))) <| o_p rfl (Zbc rfl rfl u_0 (fun hz => (Opd.gd hz u_1))) <| o_n) (by kernel_rfl) (fun a g hst hb => ?_)
 refine wp_cond_split (hst.bool 3 rfl) (fun hc5 => ?_) (fun hc5 => ?_)
 · replace H0 := Zw hc5 H0
   obtain ⟨e6, h7, H0⟩ := Zh H0
   refine r_s (L := [(2, _), (4, _), (6, _)]) (T := [⟨[.old 0], _, [], [], [25]⟩, ⟨[.op 0 0], _, [], [0], [26]⟩, ⟨[.old 2], _, [], [], [27]⟩, ⟨[.op 1 0, .op 2 0], _, [], [0, 1, 2], [28]⟩, ⟨[.op 3 0], _, [], Lr 4, [29]⟩, ⟨[.op 4 0], _, [], Lr 5, [30]⟩, ⟨[.op 5 0, .old 1], _, [5], Lr 6, [4]⟩, ⟨[], _, [], Lr 7, [5]⟩]) (F := [.op 6 0, .op 7 0]) (hst.pick [0, 1, 2] rfl) hb Za
     (o_p rfl (Zd Zgc rfl rfl u_0) <| o_p rfl (Zf Zi0 rfl rfl u_0) <| o_p rfl (Zb rfl rfl u_0) <| o_p rfl (Zbf Tryz.underlying22 Zl4 rfl rfl u_0 u_1 h7) <| o_p rfl (Zd Zo1 rfl rfl u_0) <| o_p rfl (Zf Zbb rfl rfl u_0) <| o_p rfl (Zz Zbb rfl rfl u_1 u_0) <| o_p rfl (Zc rfl rfl c_b) <| o_n) (by kernel_rfl) (fun a g hst hb => ?_)
   refine wp_ret ?_
   refine Zq ?_
   obtain rfl := Option.some.inj H0
   obtain ⟨u0, hu0, hq0⟩ := Z8 (P := Tryz.prog) Zbb (hst.at 0 rfl)
   exact Zda rfl hst hb hu0 (Zk (s := 5)) (Zcn hq0 (hst.at 1 rfl))
 · replace H0 := Zx hc5 H0
   refine wp_skip ?_
   refine Zr ?_
   refine r_s (L := [(4, _)]) (T := [⟨[], _, [], [], [31]⟩, ⟨[.op 0 0, .old 0], _, [5], [0], [4]⟩, ⟨[], _, [], [0, 1], [5]⟩]) (F := [.op 1 0, .op 2 0]) (hst.pick [1] rfl) hb Za
     (o_p rfl (Zma rfl rfl ) <| o_p rfl (Zz Zbb rfl rfl u_1 u_0) <| o_p rfl (Zc rfl rfl c_b) <| o_n) (by kernel_rfl) (fun a g hst hb => ?_)
   refine wp_ret ?_
   obtain rfl := Option.some.inj H0
   obtain ⟨u0, hu0, hq0⟩ := Z8 (P := Tryz.prog) Zbb (hst.at 0 rfl)
   exact Zda rfl hst hb hu0 (Zk (s := 5)) (Zcn hq0 (hst.at 1 rfl))
theorem Zhl (a0 : Ze) {r : Ze} (h : Zeu a0 = some r) : FnOk Tryz.prog 86 [(Zi.pd a0)] (Zi.pd r) := by
 have H0 := h
 unfold Zeu at H0
 clear h
 refine Zbp (N := 9) Tryz.func86 rfl rfl (Nat.le_of_ble_eq_true rfl) rfl rfl (fun a g0 hst hb => ?_)
 refine r_s (T := [⟨[.old 0], _, [2], [], [1]⟩, ⟨[], [(2, (pBox Zi 2 (default : Ze)))], [3], [], [2]⟩]) (F := [.op 0 0, .op 1 0]) hst hb Za
   (o_p rfl (Zk3 rfl rfl u_0) <| o_p rfl (Zbd (zs := [.int .i64 0, .int .i64 0, .int .i64 0, .int .i64 0, .float .f64 0, .int .i64 0, .string ByteArray.empty, .slice none 0 0]) (by kernel_rfl) (fun g => Zb9 g) rfl rfl) <| o_n) (by kernel_rfl) (fun a g hst hb => ?_)
 obtain ⟨h1, H0⟩ := Zge H0
 refine r_s (T := [⟨[], _, [4], [], [3]⟩, ⟨[.old 0], _, [], [], [4]⟩, ⟨[.op 1 0], _, [], [1], [5]⟩, ⟨[.op 0 0, .op 2 0], _, [4], [0, 1, 2], [3, 6]⟩, ⟨[.old 0], _, [], Lr 4, [7]⟩, ⟨[.op 3 0, .op 4 0, .old 0], _, [2], Lr 5, [1, 4, 7]⟩]) (F := [.op 5 0, .old 1]) hst hb Za
   (o_p rfl (Zkz 3 Zdb (xs := []) .nil (by decide) rfl rfl) <| o_p rfl (Zs Zca (off := 7) (by kernel_rfl) rfl rfl u_0) <| o_p rfl (Zbq Zc1 rfl rfl u_0) <| o_p rfl (Zft Zdb rfl rfl u_0 u_1 h1) <| o_p rfl (Zs Zca (off := 7) (by kernel_rfl) rfl rfl u_0) <| o_p rfl (Zlq Zc1 rfl rfl u_2 u_1 (Opd.imp u_0 (fun _ _ h => Zjw h))) <| o_n) (by kernel_rfl) (fun a g hst hb => ?_)
 refine r_s (T := [⟨[.old 0], _, [], [], [8]⟩, ⟨[.op 0 0, .old 1], _, [3], [0], [2]⟩]) (F := [.op 1 0]) hst hb Za
   (o_p rfl (Zbw Zbb rfl rfl u_0) <| o_p rfl (Zz Zbb rfl rfl u_1 u_0) <| o_n) (by kernel_rfl) (fun a g hst hb => ?_)
 refine wp_ret ?_
 obtain rfl := Option.some.inj H0
 obtain ⟨u0, hu0, hq0⟩ := Z8 (P := Tryz.prog) Zbb (hst.at 0 rfl)
 exact Z1 rfl hst hb hu0 hq0
theorem Zqd (a0 : Int) (a1 : Int) {r : Bool} (h : Zie a0 a1 = some r) : FnOk Tryz.prog 124 [(pInt .i64 a0), (pInt .i64 a1)] (Zbg r) := by
 have H0 := h
 unfold Zie at H0
 clear h
 refine Zbp (N := 31) Tryz.func124 rfl rfl (Nat.le_of_ble_eq_true rfl) rfl rfl (fun a g0 hst hb => ?_)
 refine r_s (T := [⟨[], _, [], [], [4]⟩]) (F := [.old 0, .old 1]) hst hb Za
   (o_p rfl (Zc rfl rfl c_b) <| o_n) (by kernel_rfl) (fun a g hst hb => ?_)
 refine r_s (T := [⟨[.old 0], _, [], [], [6]⟩, ⟨[.old 1], _, [], [], [7]⟩, ⟨[.op 0 0, .op 1 0], _, [], [0, 1], [8]⟩, ⟨[.op 2 0], _, [], [0, 1, 2], [5]⟩]) (F := [.old 0, .old 1, .op 3 0]) hst hb Za
   (o_p rfl (Zb rfl rfl u_0) <| o_p rfl (Zb rfl rfl u_0) <| o_p rfl (Zb3 rfl rfl u_0 u_1 rfl) <| o_p rfl (Zc rfl rfl u_0) <| o_n) (by kernel_rfl) (fun a g hst hb => ?_)
 refine r_s (T := ⟨[.old 0], _, [], [], [9]⟩ :: ⟨[.op 0 0], _, [], [0], [10]⟩ :: ⟨[.op 1 0], _, [], [0, 1], [11]⟩ :: ⟨[.op 2 0, .old 1], _, [], [0, 1, 2], [12]⟩ :: ⟨[.op 2 0, .op 3 0], _, [], Lr 4, [13]⟩ :: ⟨[.op 2 0, .op 4 0], _, [], Lr 5, [14]⟩ :: ⟨[.op 5 0], _, [], Lr 6, [15]⟩ :: ⟨[.op 6 0, .old 2], _, [], Lr 7, [16]⟩ :: ⟨[.op 6 0, .op 7 0], _, [], Lr 8, [17]⟩ :: ⟨[.op 6 0, .op 8 0], _, [], Lr 9, [18]⟩ :: ⟨[.op 9 0], _, [], Lr 10, [19]⟩ :: ⟨[.op 10 0, .old 0], _, [], Lr 11, [20]⟩ :: ⟨[.op 10 0, .op 11 0], _, [], Lr 12, [21]⟩ :: ⟨[.op 10 0, .op 12 0], _, [], Lr 13, [22]⟩ :: ⟨[.op 13 0, .old 1], _, [], Lr 14, [23]⟩ :: ⟨[.op 13 0, .op 14 0], _, [], Lr 15, [24]⟩ :: ⟨[.op 10 0, .op 13 0, .op 15 0], _, [], Lr 16, [25]⟩ :: ⟨[.op 10 0, .op 16 0], _, [], Lr 17, [26]⟩ :: ⟨[.op 17 0, .old 2], _, [], Lr 18, [27]⟩ :: ⟨[.op 17 0, .op 18 0], _, [], Lr 19, [28]⟩ :: ⟨[.op 10 0, .op 17 0, .op 19 0], _, [], Lr 20, [29]⟩ :: ⟨[.op 10 0, .op 20 0], _, [], Lr 21, [30]⟩ :: ⟨[.op 21 0], _, [], Lr 22, [4]⟩ :: []) (F := [.op 22 0]) hst hb Za
   (o_p rfl (Zb rfl rfl u_0) <| o_p rfl (Zck rfl rfl u_0 c_i) <| o_p rfl (Zb rfl rfl u_0) <| o_g (g_t rfl rfl rfl (fun hG => Zb rfl rfl u_0)) <| o_g (g_t rfl rfl rfl (fun hG => Zck rfl rfl (Opd.gd hG u_0) c_i)) <| o_p rfl (Zbc rfl rfl u_0 (fun hz => (Opd.gd hz u_1))) <| o_p rfl (Zb rfl rfl u_0) <| o_g (g_t rfl rfl rfl (fun hG => Zb rfl rfl u_0)) <| o_g (g_t rfl rfl rfl (fun hG => Zcc rfl rfl (Opd.gd hG u_0) c_i)) <| o_p rfl (Zbc rfl rfl u_0 (fun hz => (Opd.gd hz u_1))) <| o_p rfl (Zb rfl rfl u_0) <| o_g (g_f rfl rfl rfl (fun hG => Zb rfl rfl u_0)) <| o_g (g_f rfl rfl rfl (fun hG => Zcc rfl rfl (Opd.gd hG u_0) c_i)) <| o_g (g_f rfl rfl rfl (fun hG => Zb rfl rfl (Opd.gd hG u_0))) <| o_g (g_ti rfl rfl rfl (fun hG => Zb rfl rfl u_0)) <| o_g (g_ti rfl rfl rfl (fun hG => Zcc rfl rfl (Opd.gd hG u_0) c_i)) <| o_g (g_f rfl rfl rfl (fun hG => Zbc rfl rfl (Opd.gd hG u_0) (fun hz => (Opd.gd (bA hG hz) u_1)))) <| o_g (g_f rfl rfl rfl (fun hG => Zb rfl rfl (Opd.gd hG u_0))) <| o_g (g_ti rfl rfl rfl (fun hG => Zb rfl rfl u_0)) <| o_g (g_ti rfl rfl rfl (fun hG => Zk4 rfl rfl (Opd.gd hG u_0) c_i)) <| o_g (g_f rfl rfl rfl (fun hG => Zbc rfl rfl (Opd.gd hG u_0) (fun hz => (Opd.gd (bA hG hz) u_1)))) <| o_p rfl (Zbt rfl rfl u_0 (fun hz => (Opd.gd (bNF hz) u_1))) <| o_p rfl (Zc rfl rfl u_0) <| o_n) (by kernel_rfl) (fun a g hst hb => ?_)
 refine wp_ret ?_
 obtain rfl := Option.some.inj H0
 exact Z1 rfl hst hb (Zk (s := 4)) (hst.at 0 rfl)
theorem Zrf (a0 : Nat) (a1 : Nat) {r : Nat} (h : Zja a0 a1 = some r) : FnOk Tryz.prog 125 [(pFlt a0), (pFlt a1)] (pFlt r) := by
 have H0 := h
 unfold Zja at H0
 clear h
 refine Zbp (N := 10) Tryz.func125 rfl rfl (Nat.le_of_ble_eq_true rfl) rfl rfl (fun a g0 hst hb => ?_)
 refine r_s (T := [⟨[], _, [], [], [4]⟩]) (F := [.old 0, .old 1]) hst hb Za
   (o_p rfl (Zc rfl rfl c_f) <| o_n) (by kernel_rfl) (fun a g hst hb => ?_)
 refine wp_seq ?_
 obtain ⟨r1, h2, H0⟩ := Zh H0
 refine r_s (T := [⟨[.old 0], _, [], [], [5]⟩, ⟨[.old 1], _, [], [], [6]⟩, ⟨[.op 0 0, .op 1 0], _, [], [0, 1], [7]⟩]) (F := [.old 0, .old 1, .op 2 0]) hst hb Za
   (o_p rfl (Zb rfl rfl u_0) <| o_p rfl (Zb rfl rfl u_0) <| o_p rfl (Zn Zun (Zgy _ _ h2) rfl rfl (.cons u_0 (.cons u_1 .nil))) <| o_n) (by kernel_rfl) (fun a g hst hb => ?_)
 refine wp_cond_split (hst.bool 2 rfl) (fun hc3 => ?_) (fun hc3 => ?_)
 · replace H0 := Zw hc3 H0
   refine r_s (L := [(1, _)]) (T := [⟨[.old 0], _, [], [], [8]⟩, ⟨[.op 0 0], _, [], [0], [4]⟩]) (F := [.op 1 0]) (hst.pick [1] rfl) hb Za
     (o_p rfl (Zb rfl rfl u_0) <| o_p rfl (Zc rfl rfl u_0) <| o_n) (by kernel_rfl) (fun a g hst hb => ?_)
   refine wp_ret ?_
   refine Zq ?_
   obtain rfl := Option.some.inj H0
   exact Z1 rfl hst hb (Zk (s := 4)) (hst.at 0 rfl)
 · replace H0 := Zx hc3 H0
   refine wp_skip ?_
   refine Zr ?_
   refine r_s (L := [(0, _)]) (T := [⟨[.old 0], _, [], [], [9]⟩, ⟨[.op 0 0], _, [], [0], [4]⟩]) (F := [.op 1 0]) (hst.pick [0] rfl) hb Za
     (o_p rfl (Zb rfl rfl u_0) <| o_p rfl (Zc rfl rfl u_0) <| o_n) (by kernel_rfl) (fun a g hst hb => ?_)
   refine wp_ret ?_
   obtain rfl := Option.some.inj H0
   exact Z1 rfl hst hb (Zk (s := 4)) (hst.at 0 rfl)
theorem Zq4 (a0 : Nat) (a1 : Nat) {r : Nat} (h : Zi1 a0 a1 = some r) : FnOk Tryz.prog 126 [(pFlt a0), (pFlt a1)] (pFlt r) := by
 have H0 := h
 unfold Zi1 at H0
 clear h
 refine Zbp (N := 10) Tryz.func126 rfl rfl (Nat.le_of_ble_eq_true rfl) rfl rfl (fun a g0 hst hb => ?_)
 refine r_s (T := [⟨[], _, [], [], [4]⟩]) (F := [.old 0, .old 1]) hst hb Za
   (o_p rfl (Zc rfl rfl c_f) <| o_n) (by kernel_rfl) (fun a g hst hb => ?_)
 refine wp_seq ?_
 obtain ⟨r1, h2, H0⟩ := Zh H0
 refine r_s (T := [⟨[.old 1], _, [], [], [5]⟩, ⟨[.old 0], _, [], [], [6]⟩, ⟨[.op 0 0, .op 1 0], _, [], [0, 1], [7]⟩]) (F := [.old 0, .old 1, .op 2 0]) hst hb Za
   (o_p rfl (Zb rfl rfl u_0) <| o_p rfl (Zb rfl rfl u_0) <| o_p rfl (Zn Zun (Zgy _ _ h2) rfl rfl (.cons u_0 (.cons u_1 .nil))) <| o_n) (by kernel_rfl) (fun a g hst hb => ?_)
 refine wp_cond_split (hst.bool 2 rfl) (fun hc3 => ?_) (fun hc3 => ?_)
 · replace H0 := Zw hc3 H0
   refine r_s (L := [(1, _)]) (T := [⟨[.old 0], _, [], [], [8]⟩, ⟨[.op 0 0], _, [], [0], [4]⟩]) (F := [.op 1 0]) (hst.pick [1] rfl) hb Za
     (o_p rfl (Zb rfl rfl u_0) <| o_p rfl (Zc rfl rfl u_0) <| o_n) (by kernel_rfl) (fun a g hst hb => ?_)
   refine wp_ret ?_
   refine Zq ?_
   obtain rfl := Option.some.inj H0
   exact Z1 rfl hst hb (Zk (s := 4)) (hst.at 0 rfl)
 · replace H0 := Zx hc3 H0
   refine wp_skip ?_
   refine Zr ?_
   refine r_s (L := [(0, _)]) (T := [⟨[.old 0], _, [], [], [9]⟩, ⟨[.op 0 0], _, [], [0], [4]⟩]) (F := [.op 1 0]) (hst.pick [0] rfl) hb Za
     (o_p rfl (Zb rfl rfl u_0) <| o_p rfl (Zc rfl rfl u_0) <| o_n) (by kernel_rfl) (fun a g hst hb => ?_)
   refine wp_ret ?_
   obtain rfl := Option.some.inj H0
   exact Z1 rfl hst hb (Zk (s := 4)) (hst.at 0 rfl)
theorem Zlv (a0 : Int) {r : Nat} (h : Zew a0 = some r) : FnOk Tryz.prog 127 [(pInt .u64 a0)] (pFlt r) := by
 have H0 := h
 unfold Zew at H0
 clear h
 refine Zbp (N := 18) Tryz.func127 rfl rfl (Nat.le_of_ble_eq_true rfl) rfl rfl (fun a g0 hst hb => ?_)
 refine r_s (T := [⟨[], _, [], [], [2]⟩]) (F := [.old 0]) hst hb Za
   (o_p rfl (Zc rfl rfl c_f) <| o_n) (by kernel_rfl) (fun a g hst hb => ?_)
 refine r_s (T := [⟨[], _, [], [], [3]⟩]) (F := [.old 0, .op 0 0]) hst hb Za
   (o_p rfl (Zc rfl rfl c_i) <| o_n) (by kernel_rfl) (fun a g hst hb => ?_)
 refine wp_seq ?_
 refine r_s (T := [⟨[.old 0], _, [], [], [4]⟩, ⟨[.old 1], _, [], [], [5]⟩, ⟨[.op 0 0, .op 1 0], _, [], [0, 1], [6]⟩]) (F := [.old 0, .old 1, .op 2 0]) hst hb Za
   (o_p rfl (Zb rfl rfl u_0) <| o_p rfl (Zb rfl rfl u_0) <| o_p rfl (Zk4 rfl rfl u_0 u_1) <| o_n) (by kernel_rfl) (fun a g hst hb => ?_)
 refine wp_cond_split (hst.bool 2 rfl) (fun hc1 => ?_) (fun hc1 => ?_)
 · replace H0 := Zw hc1 H0
   refine r_s (L := [(0, _), (3, _)]) (T := [⟨[.old 0], _, [], [], [7]⟩, ⟨[.old 1], _, [], [], [8]⟩, ⟨[.op 0 0, .op 1 0], _, [], [0, 1], [9]⟩, ⟨[.op 2 0], _, [], [0, 1, 2], [10]⟩, ⟨[.op 3 0], _, [], Lr 4, [2]⟩]) (F := [.op 4 0]) (hst.pick [0, 1] rfl) hb Za
     (o_p rfl (Zb rfl rfl u_0) <| o_p rfl (Zb rfl rfl u_0) <| o_p rfl (Zgn rfl rfl u_0 u_1 rfl) <| o_p rfl (Zoq Zw6 rfl rfl u_0) <| o_p rfl (Zc rfl rfl u_0) <| o_n) (by kernel_rfl) (fun a g hst hb => ?_)
   refine wp_ret ?_
   refine Zq ?_
   obtain rfl := Option.some.inj H0
   exact Z1 rfl hst hb (Zk (s := 2)) (hst.at 0 rfl)
 · replace H0 := Zx hc1 H0
   refine wp_skip ?_
   refine Zr ?_
   refine r_s (L := [(0, _), (3, _)]) (T := [⟨[.old 1], _, [], [], [11]⟩, ⟨[.old 1], _, [], [], [12]⟩, ⟨[.op 1 0], _, [], [1], [13]⟩, ⟨[.old 0], _, [], [], [14]⟩, ⟨[.op 2 0, .op 3 0], _, [], [1, 2, 3], [15]⟩, ⟨[.op 0 0, .op 4 0], _, [], Lr 5, [16]⟩, ⟨[.op 5 0], _, [], Lr 6, [17]⟩, ⟨[.op 6 0], _, [], Lr 7, [2]⟩]) (F := [.op 7 0]) (hst.pick [0, 1] rfl) hb Za
     (o_p rfl (Zb rfl rfl u_0) <| o_p rfl (Zb rfl rfl u_0) <| o_p rfl (Zgn rfl rfl u_0 c_i rfl) <| o_p rfl (Zb rfl rfl u_0) <| o_p rfl (Zgn rfl rfl u_0 u_1 rfl) <| o_p rfl (Zb3 rfl rfl u_0 u_1 rfl) <| o_p rfl (Zoq Zw6 rfl rfl u_0) <| o_p rfl (Zc rfl rfl u_0) <| o_n) (by kernel_rfl) (fun a g hst hb => ?_)
   refine wp_ret ?_
   obtain rfl := Option.some.inj H0
   exact Z1 rfl hst hb (Zk (s := 2)) (hst.at 0 rfl)
theorem Zmb (a0 : Nat) {r : Int} (h : Ze5 a0 = some r) : FnOk Tryz.prog 128 [(pFlt a0)] (pInt .u64 r) := by
 have H0 := h
 unfold Ze5 at H0
 clear h
 refine Zbp (N := 23) Tryz.func128 rfl rfl (Nat.le_of_ble_eq_true rfl) rfl rfl (fun a g0 hst hb => ?_)
 refine r_s (T := [⟨[], _, [], [], [2]⟩]) (F := [.old 0]) hst hb Za
   (o_p rfl (Zc rfl rfl c_i) <| o_n) (by kernel_rfl) (fun a g hst hb => ?_)
 refine r_s (T := [⟨[], _, [], [], [3]⟩]) (F := [.old 0, .op 0 0]) hst hb Za
   (o_p rfl (Zc rfl rfl c_i) <| o_n) (by kernel_rfl) (fun a g hst hb => ?_)
 refine wp_seq ?_
 obtain ⟨r1, h2, H0⟩ := Zh H0
 refine r_s (T := [⟨[.old 0], _, [], [], [5]⟩, ⟨[.op 0 0], _, [], [0], [6]⟩]) (F := [.old 0, .old 1, .op 1 0]) hst hb Za
   (o_p rfl (Zb rfl rfl u_0) <| o_p rfl (Zn Zum (Zim _ h2) rfl rfl (.cons u_0 .nil)) <| o_n) (by kernel_rfl) (fun a g hst hb => ?_)
 refine wp_cond_split (hst.bool 2 rfl) (fun hc3 => ?_) (fun hc3 => ?_)
 · replace H0 := Zw hc3 H0
   refine r_s (L := [(3, _)]) (T := [⟨[.old 0], _, [], [], [7]⟩, ⟨[.op 0 0], _, [], [0], [8]⟩, ⟨[.op 1 0], _, [], [0, 1], [2]⟩]) (F := [.op 2 0]) (hst.pick [1] rfl) hb Za
     (o_p rfl (Zb rfl rfl u_0) <| o_p rfl (Zb3 rfl rfl u_0 c_i rfl) <| o_p rfl (Zc rfl rfl u_0) <| o_n) (by kernel_rfl) (fun a g hst hb => ?_)
   refine wp_ret ?_
   refine Zq ?_
   obtain rfl := Option.some.inj H0
   exact Z1 rfl hst hb (Zk (s := 2)) (hst.at 0 rfl)
 · replace H0 := Zx hc3 H0
   refine wp_skip ?_
   refine Zr ?_
   refine r_s (L := [(0, _), (3, _)]) (T := [⟨[.old 0], _, [], [], [9]⟩, ⟨[.op 0 0], _, [], [0], [10]⟩, ⟨[.op 1 0], _, [], [0, 1], [4]⟩]) (F := [.old 1, .op 2 0]) (hst.pick [0, 1] rfl) hb Za
     (o_p rfl (Zb rfl rfl u_0) <| o_p rfl (Zo3 Zqp rfl rfl u_0) <| o_p rfl (Zc rfl rfl u_0) <| o_n) (by kernel_rfl) (fun a g hst hb => ?_)
   refine wp_seq ?_
   refine r_s (T := [⟨[.old 1], _, [], [], [11]⟩, ⟨[.old 0], _, [], [], [12]⟩, ⟨[.op 0 0, .op 1 0], _, [], [0, 1], [13]⟩]) (F := [.old 0, .old 1, .op 2 0]) hst hb Za
     (o_p rfl (Zb rfl rfl u_0) <| o_p rfl (Zb rfl rfl u_0) <| o_p rfl (Zk4 rfl rfl u_0 u_1) <| o_n) (by kernel_rfl) (fun a g hst hb => ?_)
   refine wp_cond_split (hst.bool 2 rfl) (fun hc4 => ?_) (fun hc4 => ?_)
   · replace H0 := Zw hc4 H0
     refine r_s (L := [(3, _), (4, _)]) (T := [⟨[.old 0], _, [], [], [14]⟩, ⟨[.op 0 0], _, [], [0], [15]⟩, ⟨[.old 1], _, [], [], [16]⟩, ⟨[.old 0], _, [], [], [17]⟩, ⟨[.op 2 0, .op 3 0], _, [], [2, 3], [18]⟩, ⟨[.op 1 0, .op 4 0], _, [], Lr 5, [19]⟩, ⟨[.op 5 0], _, [], Lr 6, [2]⟩]) (F := [.op 6 0]) (hst.pick [0, 1] rfl) hb Za
       (o_p rfl (Zb rfl rfl u_0) <| o_p rfl (Zgn rfl rfl u_0 c_i rfl) <| o_p rfl (Zb rfl rfl u_0) <| o_p rfl (Zb rfl rfl u_0) <| o_p rfl (Zgn rfl rfl u_0 u_1 rfl) <| o_p rfl (Zgn rfl rfl u_0 u_1 rfl) <| o_p rfl (Zc rfl rfl u_0) <| o_n) (by kernel_rfl) (fun a g hst hb => ?_)
     refine wp_ret ?_
     refine Zq ?_
     obtain rfl := Option.some.inj H0
     exact Z1 rfl hst hb (Zk (s := 2)) (hst.at 0 rfl)
   · replace H0 := Zx hc4 H0
     refine wp_skip ?_
     refine Zr ?_
     refine r_s (L := [(3, _), (4, _)]) (T := [⟨[.old 0], _, [], [], [20]⟩, ⟨[.old 1], _, [], [], [21]⟩, ⟨[.op 0 0, .op 1 0], _, [], [0, 1], [22]⟩, ⟨[.op 2 0], _, [], [0, 1, 2], [2]⟩]) (F := [.op 3 0]) (hst.pick [0, 1] rfl) hb Za
       (o_p rfl (Zb rfl rfl u_0) <| o_p rfl (Zb rfl rfl u_0) <| o_p rfl (Zb3 rfl rfl u_0 u_1 rfl) <| o_p rfl (Zc rfl rfl u_0) <| o_n) (by kernel_rfl) (fun a g hst hb => ?_)
     refine wp_ret ?_
     obtain rfl := Option.some.inj H0
     exact Z1 rfl hst hb (Zk (s := 2)) (hst.at 0 rfl)
theorem Zmx (a0 : List Zl) (a1 : ByteArray) {r : Bool} (h : Zfw a0 a1 = some r) : FnOk Tryz.prog 129 [(Zy.sl.pd a0), (pStr a1)] (Zbg r) := by
 have H0 := h
 unfold Zfw at H0
 clear h
 refine Zbp (N := 19) Tryz.func129 rfl rfl (Nat.le_of_ble_eq_true rfl) rfl rfl (fun a g0 hst hb => ?_)
 refine r_s (T := [⟨[], _, [], [], [4]⟩]) (F := [.old 0, .old 1]) hst hb Za
   (o_p rfl (Zc rfl rfl c_b) <| o_n) (by kernel_rfl) (fun a g hst hb => ?_)
 refine wp_seq ?_
 refine r_s (T := [⟨[], _, [], [], [5]⟩]) (F := [.old 0, .old 1, .op 0 0]) hst hb Za
   (o_p rfl (Zc rfl rfl c_i) <| o_n) (by kernel_rfl) (fun a g hst hb => ?_)
 obtain ⟨z6, hz1, H0⟩ := Zh H0
 refine Zb8 (fun a w => ∃ (g : G), w = g.w ∧ St 19 [] a g ∧ Base g0 g ∧ (.inr ()) = z6) ?_ ?_
 · rintro a w ⟨g, rfl, hst, hb, rfl⟩
   refine Zr ?_
   refine r_s (T := [⟨[], _, [], [], [4]⟩]) (F := [.op 0 0]) hst hb Za
     (o_p rfl (Zc rfl rfl c_b) <| o_n) (by kernel_rfl) (fun a g hst hb => ?_)
   refine wp_ret ?_
   obtain rfl := Option.some.inj H0
   exact Z1 rfl hst hb (Zk (s := 4)) (hst.at 0 rfl)
 · refine wp_block ?_
   refine wp_loop_ghost (fun n a w => ∃ (x1 : Int) (g : G), w = g.w ∧ St 19 [(0, (Zy.sl.pd a0)), (1, (pStr a1)), (5, (pInt .i64 x1))] a g ∧ Base g0 g ∧ Zex a0 a1 n x1 = some z6) (Int.toNat ((a0.length : Int) - (0 : Int)) + 1) ⟨(0 : Int), g, rfl, (hst.pick [0, 1, 2] rfl), hb, hz1⟩ (fun n a w hI => ?_)
   obtain ⟨x1, g, rfl, hst, hb, H1⟩ := hI
   cases n with
   | zero => exact absurd H1 (by simp [Zex])
   | succ n =>
     rw [Zex] at H1
     refine wp_seq ?_
     refine r_s (T := [⟨[.old 2], _, [], [], [6]⟩, ⟨[.old 0], _, [], [], [7]⟩, ⟨[.op 1 0], _, [], [1], [8]⟩, ⟨[.op 0 0, .op 2 0], _, [], [0, 1, 2], [9]⟩]) (F := [.old 0, .old 1, .old 2, .op 3 0]) hst hb Za
       (o_p rfl (Zb rfl rfl u_0) <| o_p rfl (Zb rfl rfl u_0) <| o_p rfl (Zbu Tryz.underlying62 rfl rfl u_0) <| o_p rfl (Zcc rfl rfl u_0 u_1) <| o_n) (by kernel_rfl) (fun a g hst hb => ?_)
     refine wp_cond_split (hst.bool 3 rfl) (fun hc2 => ?_) (fun hc2 => ?_)
     · replace H1 := Zw hc2 H1
       refine wp_skip ?_
       refine Zr ?_
       refine wp_seq ?_
       refine wp_block ?_
       obtain ⟨e3, h4, H1⟩ := Zh H1
       refine r_s (L := [(0, _), (1, _), (5, _)]) (T := [⟨[.old 0], _, [], [], [12]⟩, ⟨[.old 2], _, [], [], [13]⟩, ⟨[.op 0 0, .op 1 0], _, [], [0, 1], [14]⟩, ⟨[.op 2 0], _, [], [0, 1, 2], [15]⟩, ⟨[.op 3 0], _, [], Lr 4, [16]⟩, ⟨[.old 1], _, [], [], [17]⟩, ⟨[.op 4 0, .op 5 0], _, [], Lr 6, [18]⟩]) (F := [.old 0, .old 1, .old 2, .op 6 0]) (hst.pick [0, 1, 2] rfl) hb Za
         (o_p rfl (Zb rfl rfl u_0) <| o_p rfl (Zb rfl rfl u_0) <| o_p rfl (Zbf Tryz.underlying62 Zeq rfl rfl u_0 u_1 h4) <| o_p rfl (Zd Zdo rfl rfl u_0) <| o_p rfl (Zf ty_9 rfl rfl u_0) <| o_p rfl (Zb rfl rfl u_0) <| o_p rfl (Zkl rfl rfl u_0 u_1) <| o_n) (by kernel_rfl) (fun a g hst hb => ?_)
       refine wp_cond_split (hst.bool 3 rfl) (fun hc5 => ?_) (fun hc5 => ?_)
       · replace H1 := Zw hc5 H1
         refine r_s (L := []) (T := [⟨[], _, [], [], [4]⟩]) (F := [.op 0 0]) (hst.pick [] rfl) hb Za
           (o_p rfl (Zc rfl rfl c_b) <| o_n) (by kernel_rfl) (fun a g hst hb => ?_)
         refine wp_ret ?_
         refine Z2 ?_
         refine Zq ?_
         refine Zq ?_
         refine Z2 ?_
         refine Zq ?_
         refine Zq ?_
         obtain rfl := Option.some.inj H1
         obtain rfl := Option.some.inj H0
         exact Z1 rfl hst hb (Zk (s := 4)) (hst.at 0 rfl)
       · replace H1 := Zx hc5 H1
         refine wp_skip ?_
         refine Zba ?_
         refine Zr ?_
         refine r_g (L := [(0, _), (1, _), (5, _)]) (T := [⟨[.old 2], _, [], [], [10]⟩, ⟨[.op 0 0], _, [], [0], [11]⟩, ⟨[.op 1 0], _, [], [0, 1], [5]⟩]) (F := [.old 0, .old 1, .op 2 0]) (hst.pick [0, 1, 2] rfl) hb Za
           (o_p rfl (Zb rfl rfl u_0) <| o_p rfl (Zb3 rfl rfl u_0 c_i rfl) <| o_p rfl (Zc rfl rfl u_0) <| o_n) (by kernel_rfl) (fun a g hst hb => ?_)
         exact ⟨n, Nat.lt_succ_self _, (IntKind.i64.wrap (x1 + (1 : Int))), g, rfl, (hst.pick [0, 1, 2] rfl), hb, H1⟩
     · replace H1 := Zx hc2 H1
       refine wp_exit ?_
       refine Zb6 ?_
       refine Zb6 ?_
       refine Zco ?_
       exact ⟨g, rfl, (hst.pick [] rfl), hb, Option.some.inj H1⟩
theorem Zmh (a0 : List Zl) (a1 : Zl) (a2 : Bool) {r : List Zl} (h : Zfg a0 a1 a2 = some r) : FnOk Tryz.prog 130 [(Zy.sl.pd a0), (Zy.pd a1), (Zbg a2)] (Zy.sl.pd r) := by
 have H0 := h
 unfold Zfg at H0
 clear h
 refine Zbp (N := 89) Tryz.func130 rfl rfl (Nat.le_of_ble_eq_true rfl) rfl rfl (fun a g0 hst hb => ?_)
 refine r_s (T := [⟨[.old 1], _, [], [], [4]⟩, ⟨[], [(6, (Zy.sl.pd ([] : List Zl)))], [], [], [6]⟩]) (F := [.old 0, .old 2, .op 0 0]) hst hb Za
   (o_p rfl (Zbj rfl rfl u_0) <| o_p rfl (Zc rfl rfl (Opd.c (fun g => Zj0 g))) <| o_n) (by kernel_rfl) (fun a g hst hb => ?_)
 refine r_s (T := [⟨[], _, [13], [], [12]⟩, ⟨[.op 0 0], _, [], [0], [7]⟩, ⟨[], _, [], [0, 1], [8]⟩]) (F := [.old 0, .old 1, .old 2, .op 1 0, .op 2 0]) hst hb Za
   (o_p rfl (Zkz 12 Zdb (xs := []) .nil (by decide) rfl rfl) <| o_p rfl (Zc rfl rfl u_0) <| o_p rfl (Zc rfl rfl c_b) <| o_n) (by kernel_rfl) (fun a g hst hb => ?_)
 refine wp_seq ?_
 refine r_s (T := [⟨[], _, [], [], [9]⟩]) (F := [.old 0, .old 1, .old 2, .old 3, .old 4, .op 0 0]) hst hb Za
   (o_p rfl (Zc rfl rfl c_i) <| o_n) (by kernel_rfl) (fun a g hst hb => ?_)
 obtain ⟨z27, hz1, H0⟩ := Zh H0
 refine Zb8 (fun a w => ∃ (y25 : List Zl) (y26 : Bool) (g : G), w = g.w ∧ St 89 [(4, (Zy.ptr a1)), (7, (pRow Zy 105 12 y25)), (8, (Zbg y26))] a g ∧ Base g0 g ∧ (y25, y26) = z27) ?_ ?_
 · rintro a w ⟨y25, y26, g, rfl, hst, hb, rfl⟩
   refine Zr ?_
   refine wp_seq ?_
   refine r_s (T := [⟨[.old 2], _, [], [], [82]⟩, ⟨[.op 0 0], _, [], [0], [83]⟩]) (F := [.old 0, .old 1, .op 1 0]) hst hb Za
     (o_p rfl (Zb rfl rfl u_0) <| o_p rfl (Zb7 rfl rfl u_0) <| o_n) (by kernel_rfl) (fun a g hst hb => ?_)
   refine Zb8 (fun a w => ∃ (j30 : List Zl) (g : G), w = g.w ∧ St 89 [(7, (pRow Zy 105 12 j30))] a g ∧ Base g0 g ∧ Zfy j30 = some r) ?_ ?_
   · rintro a w ⟨j30, g, rfl, hst, hb, H0⟩
     unfold Zfy at H0
     refine Zr ?_
     refine r_s (T := [⟨[.old 0], _, [], [], [88]⟩, ⟨[.op 0 0], _, [], [0], [6]⟩]) (F := [.op 1 0]) hst hb Za
       (o_p rfl (Zb rfl rfl u_0) <| o_p rfl (Zc rfl rfl u_0) <| o_n) (by kernel_rfl) (fun a g hst hb => ?_)
     refine wp_ret ?_
     obtain rfl := Option.some.inj H0
     exact Z1 rfl hst hb (Zk (s := 6)) (Zjw (hst.at 0 rfl))
   · refine wp_cond_split (hst.bool 2 rfl) (fun hc28 => ?_) (fun hc28 => ?_)
     · replace H0 := Zw hc28 H0
       obtain ⟨h29, H0⟩ := Zge H0
       refine r_g (L := [(4, _), (7, _)]) (T := [⟨[.old 1], _, [], [], [84]⟩, ⟨[.old 0], _, [], [], [85]⟩, ⟨[.op 1 0], _, [], [1], [86]⟩, ⟨[.op 0 0, .op 2 0], _, [13], [0, 1, 2], [7, 84, 87]⟩, ⟨[.op 3 0], _, [], Lr 4, [7]⟩]) (F := [.op 4 0]) (hst.pick [0, 1] rfl) hb Za
         (o_p rfl (Zb rfl rfl u_0) <| o_p rfl (Zf Zdt rfl rfl u_0) <| o_p rfl (Zhi Zdb (xs := [.tmp 85]) (.cons u_0 .nil) (by decide) rfl rfl) <| o_p rfl (Zft Zdb rfl rfl u_0 u_1 h29) <| o_p rfl (Zc rfl rfl u_0) <| o_n) (by kernel_rfl) (fun a g hst hb => ?_)
       exact ⟨(y25 ++ ([a1] : List Zl)), g, rfl, (hst.pick [0] rfl), hb, H0⟩
     · replace H0 := Zx hc28 H0
       refine wp_skip ?_
       exact ⟨y25, g, rfl, (hst.pick [1] rfl), hb, H0⟩
 · refine wp_block ?_
   refine wp_loop_ghost (fun n a w => ∃ (x1 : List Zl) (x2 : Bool) (x3 : Int) (g : G), w = g.w ∧ St 89 [(0, (Zy.sl.pd a0)), (2, (Zbg a2)), (4, (Zy.ptr a1)), (7, (pRow Zy 105 12 x1)), (8, (Zbg x2)), (9, (pInt .i64 x3))] a g ∧ Base g0 g ∧ Zcj a0 a1 a2 n x1 x2 x3 = some z27) (Int.toNat ((a0.length : Int) - (0 : Int)) + 1) ⟨([] : List Zl), false, (0 : Int), g, rfl, (hst.pick [0, 1, 2, 3, 4, 5] rfl), hb, hz1⟩ (fun n a w hI => ?_)
   obtain ⟨x1, x2, x3, g, rfl, hst, hb, H1⟩ := hI
   cases n with
   | zero => exact absurd H1 (by simp [Zcj])
   | succ n =>
     rw [Zcj] at H1
     refine wp_seq ?_
     refine r_s (T := [⟨[.old 5], _, [], [], [13]⟩, ⟨[.old 0], _, [], [], [14]⟩, ⟨[.op 1 0], _, [], [1], [15]⟩, ⟨[.op 0 0, .op 2 0], _, [], [0, 1, 2], [16]⟩]) (F := [.old 0, .old 1, .old 2, .old 3, .old 4, .old 5, .op 3 0]) hst hb Za
       (o_p rfl (Zb rfl rfl u_0) <| o_p rfl (Zb rfl rfl u_0) <| o_p rfl (Zbu Tryz.underlying62 rfl rfl u_0) <| o_p rfl (Zcc rfl rfl u_0 u_1) <| o_n) (by kernel_rfl) (fun a g hst hb => ?_)
     refine wp_cond_split (hst.bool 6 rfl) (fun hc4 => ?_) (fun hc4 => ?_)
     · replace H1 := Zw hc4 H1
       refine wp_skip ?_
       refine Zr ?_
       refine wp_seq ?_
       refine wp_block ?_
       obtain ⟨e5, h6, H1⟩ := Zh H1; obtain ⟨r7, h8, H1⟩ := Zh H1; obtain ⟨e9, h10, H1⟩ := Zh H1
       refine r_s (L := [(0, _), (2, _), (4, _), (7, _), (8, _), (9, _)]) (T := ⟨[.old 1], _, [], [], [19]⟩ :: ⟨[.op 0 0], _, [], [0], [20]⟩ :: ⟨[.op 1 0], _, [], [0, 1], [21]⟩ :: ⟨[.op 2 0, .old 0], _, [], [0, 1, 2], [22]⟩ :: ⟨[.op 2 0, .old 5], _, [], [0, 1, 2], [23]⟩ :: ⟨[.op 2 0, .op 3 0, .op 4 0], _, [], Lr 5, [24]⟩ :: ⟨[.op 2 0, .op 5 0], _, [], Lr 6, [25]⟩ :: ⟨[.op 2 0, .old 2], _, [], [0, 1, 2], [26]⟩ :: ⟨[.op 2 0, .op 6 0, .op 7 0], _, [], Lr 8, [27]⟩ :: ⟨[.op 2 0, .op 8 0], _, [], Lr 9, [28]⟩ :: ⟨[.op 9 0], _, [], Lr 10, [29]⟩ :: ⟨[.op 10 0, .old 1], _, [], Lr 11, [30]⟩ :: ⟨[.op 10 0, .op 11 0], _, [], Lr 12, [31]⟩ :: ⟨[.op 12 0, .old 0], _, [], Lr 13, [32]⟩ :: ⟨[.op 12 0, .old 5], _, [], Lr 13, [33]⟩ :: ⟨[.op 12 0, .op 13 0, .op 14 0], _, [], Lr 15, [34]⟩ :: ⟨[.op 12 0, .op 15 0], _, [], Lr 16, [35]⟩ :: ⟨[.op 12 0, .op 16 0], _, [], Lr 17, [36]⟩ :: ⟨[.op 12 0, .old 2], _, [], Lr 13, [37]⟩ :: ⟨[.op 12 0, .op 18 0], _, [], 0 :: 1 :: 2 :: 3 :: 4 :: 5 :: 6 :: 7 :: 8 :: 9 :: 10 :: 11 :: 12 :: 18 :: [], [38]⟩ :: ⟨[.op 12 0, .op 17 0, .op 19 0], _, [], Lr 20, [39]⟩ :: ⟨[.op 10 0, .op 12 0, .op 20 0], _, [], Lr 21, [40]⟩ :: ⟨[.op 10 0, .op 21 0], _, [], Lr 22, [41]⟩ :: ⟨[.op 22 0], _, [], Lr 23, [10]⟩ :: []) (F := [.old 0, .old 1, .old 2, .old 3, .old 4, .old 5, .op 23 0]) (hst.pick [0, 1, 2, 3, 4, 5] rfl) hb Za
         (o_p rfl (Zb rfl rfl u_0) <| o_p rfl (Zb7 rfl rfl u_0) <| o_p rfl (Zb rfl rfl u_0) <| o_g (g_t rfl rfl rfl (fun hG => Zb rfl rfl u_0)) <| o_g (g_t rfl rfl rfl (fun hG => Zb rfl rfl u_0)) <| o_g (g_t rfl rfl rfl (fun hG => Zbf Tryz.underlying62 Zeq rfl rfl (Opd.gd hG u_0) (Opd.gd hG u_1) (Zbm h6 hG))) <| o_g (g_t rfl rfl rfl (fun hG => Zf Zdt rfl rfl (Opd.gd hG u_0))) <| o_g (g_t rfl rfl rfl (fun hG => Zf Zdt rfl rfl u_0)) <| o_g (g_t rfl rfl rfl (fun hG => Zn Z2p (Zl7 _ _ (Zbm h8 hG)) rfl rfl (.cons (Opd.gd hG u_0) (.cons (Opd.gd hG u_1) .nil)))) <| o_p rfl (Zbc rfl rfl u_0 (fun hz => (Opd.gd hz u_1))) <| o_p rfl (Zb rfl rfl u_0) <| o_g (g_f rfl rfl rfl (fun hG => Zb rfl rfl u_0)) <| o_g (g_f rfl rfl rfl (fun hG => Zb rfl rfl (Opd.gd hG u_0))) <| o_g (g_ti rfl rfl rfl (fun hG => Zb rfl rfl u_0)) <| o_g (g_ti rfl rfl rfl (fun hG => Zb rfl rfl u_0)) <| o_g (g_ti rfl rfl rfl (fun hG => Zbf Tryz.underlying62 Zeq rfl rfl (Opd.gd hG u_0) (Opd.gd hG u_1) (Zbm h10 hG))) <| o_g (g_ti rfl rfl rfl (fun hG => Zd Zdo rfl rfl (Opd.gd hG u_0))) <| o_g (g_ti rfl rfl rfl (fun hG => Zf ty_9 rfl rfl (Opd.gd hG u_0))) <| o_g (g_ti rfl rfl rfl (fun hG => Zd Zdo rfl rfl u_0)) <| o_g (g_ti rfl rfl rfl (fun hG => Zf ty_9 rfl rfl (Opd.gd hG u_0))) <| o_g (g_ti rfl rfl rfl (fun hG => Zl9 rfl rfl (Opd.gd hG u_0) (Opd.gd hG u_1))) <| o_g (g_f rfl rfl rfl (fun hG => Zbc rfl rfl (Opd.gd hG u_0) (fun hz => (Opd.gd (bA hG hz) u_1)))) <| o_p rfl (Zbt rfl rfl u_0 (fun hz => (Opd.gd (bNF hz) u_1))) <| o_p rfl (Zc rfl rfl u_0) <| o_n) (by kernel_rfl) (fun a g hst hb => ?_)
       obtain ⟨e11, h12, H1⟩ := Zh H1; obtain ⟨e13, h14, H1⟩ := Zh H1; obtain ⟨r15, h16, H1⟩ := Zh H1
       refine r_s (T := ⟨[.old 0], _, [], [], [42]⟩ :: ⟨[.old 5], _, [], [], [43]⟩ :: ⟨[.op 0 0, .op 1 0], _, [], [0, 1], [44]⟩ :: ⟨[.op 2 0], _, [], [0, 1, 2], [45]⟩ :: ⟨[.op 3 0], _, [], Lr 4, [46]⟩ :: ⟨[.old 2], _, [], [], [47]⟩ :: ⟨[.op 5 0], _, [], [5], [48]⟩ :: ⟨[.op 4 0, .op 6 0], _, [], Lr 7, [49]⟩ :: ⟨[.op 7 0], _, [], Lr 8, [50]⟩ :: ⟨[.op 8 0, .old 1], _, [], Lr 9, [51]⟩ :: ⟨[.op 8 0, .op 9 0], _, [], Lr 10, [52]⟩ :: ⟨[.op 10 0, .old 0], _, [], Lr 11, [53]⟩ :: ⟨[.op 10 0, .old 5], _, [], Lr 11, [54]⟩ :: ⟨[.op 10 0, .op 11 0, .op 12 0], _, [], Lr 13, [55]⟩ :: ⟨[.op 10 0, .op 13 0], _, [], Lr 14, [56]⟩ :: ⟨[.op 10 0, .op 14 0], _, [], Lr 15, [57]⟩ :: ⟨[.op 10 0, .old 2], _, [], Lr 11, [58]⟩ :: ⟨[.op 10 0, .op 16 0], _, [], 0 :: 1 :: 2 :: 3 :: 4 :: 5 :: 6 :: 7 :: 8 :: 9 :: 10 :: 16 :: [], [59]⟩ :: ⟨[.op 10 0, .op 15 0, .op 17 0], _, [], Lr 18, [60]⟩ :: ⟨[.op 8 0, .op 10 0, .op 18 0], _, [], Lr 19, [61]⟩ :: ⟨[.op 8 0, .op 19 0], _, [], Lr 20, [62]⟩ :: ⟨[.op 20 0], _, [], Lr 21, [11]⟩ :: []) (F := [.old 0, .old 1, .old 2, .old 3, .old 4, .old 5, .old 6, .op 21 0]) hst hb Za
         (o_p rfl (Zb rfl rfl u_0) <| o_p rfl (Zb rfl rfl u_0) <| o_p rfl (Zbf Tryz.underlying62 Zeq rfl rfl u_0 u_1 h12) <| o_p rfl (Zd Zdo rfl rfl u_0) <| o_p rfl (Zf ty_9 rfl rfl u_0) <| o_p rfl (Zd Zdo rfl rfl u_0) <| o_p rfl (Zf ty_9 rfl rfl u_0) <| o_p rfl (Zkl rfl rfl u_0 u_1) <| o_p rfl (Zb rfl rfl u_0) <| o_g (g_t rfl rfl rfl (fun hG => Zb rfl rfl u_0)) <| o_g (g_t rfl rfl rfl (fun hG => Zb rfl rfl (Opd.gd hG u_0))) <| o_g (g_fi rfl rfl rfl (fun hG => Zb rfl rfl u_0)) <| o_g (g_fi rfl rfl rfl (fun hG => Zb rfl rfl u_0)) <| o_g (g_fi rfl rfl rfl (fun hG => Zbf Tryz.underlying62 Zeq rfl rfl (Opd.gd hG u_0) (Opd.gd hG u_1) (Zbm h14 hG))) <| o_g (g_fi rfl rfl rfl (fun hG => Zd Ze8 rfl rfl (Opd.gd hG u_0))) <| o_g (g_fi rfl rfl rfl (fun hG => Zf Zcv rfl rfl (Opd.gd hG u_0))) <| o_g (g_fi rfl rfl rfl (fun hG => Zd Ze8 rfl rfl u_0)) <| o_g (g_fi rfl rfl rfl (fun hG => Zf Zcv rfl rfl (Opd.gd hG u_0))) <| o_g (g_fi rfl rfl rfl (fun hG => Zn Zr6 (Zfz _ _ (Zbm h16 hG)) rfl rfl (.cons (Opd.gd hG u_0) (.cons (Opd.gd hG u_1) .nil)))) <| o_g (g_t rfl rfl rfl (fun hG => Zbt rfl rfl (Opd.gd hG u_0) (fun hz => (Opd.gd (bA hG (bNF hz)) u_1)))) <| o_p rfl (Zbc rfl rfl u_0 (fun hz => (Opd.gd hz u_1))) <| o_p rfl (Zc rfl rfl u_0) <| o_n) (by kernel_rfl) (fun a g hst hb => ?_)
       refine wp_seq ?_
       refine r_s (T := [⟨[.old 4], _, [], [], [63]⟩, ⟨[.op 0 0], _, [], [0], [64]⟩, ⟨[.op 1 0], _, [], [0, 1], [65]⟩, ⟨[.op 2 0, .old 6], _, [], [0, 1, 2], [66]⟩, ⟨[.op 2 0, .op 3 0], _, [], Lr 4, [67]⟩, ⟨[.op 2 0, .op 4 0], _, [], Lr 5, [68]⟩]) (F := [.old 0, .old 1, .old 2, .old 3, .old 4, .old 5, .old 7, .op 5 0]) hst hb Za
         (o_p rfl (Zb rfl rfl u_0) <| o_p rfl (Zb7 rfl rfl u_0) <| o_p rfl (Zb rfl rfl u_0) <| o_g (g_t rfl rfl rfl (fun hG => Zb rfl rfl u_0)) <| o_g (g_t rfl rfl rfl (fun hG => Zb7 rfl rfl (Opd.gd hG u_0))) <| o_p rfl (Zbc rfl rfl u_0 (fun hz => (Opd.gd hz u_1))) <| o_n) (by kernel_rfl) (fun a g hst hb => ?_)
       refine Zb8 (fun a w => ∃ (j20 : List Zl) (j21 : Bool) (g : G), w = g.w ∧ St 89 [(0, (Zy.sl.pd a0)), (2, (Zbg a2)), (4, (Zy.ptr a1)), (7, (pRow Zy 105 12 j20)), (8, (Zbg j21)), (9, (pInt .i64 x3))] a g ∧ Base g0 g ∧ Zdr a0 x3 (Zcj a0 a1 a2 n) j20 j21 = some z27) ?_ ?_
       · rintro a w ⟨j20, j21, g, rfl, hst, hb, H1⟩
         unfold Zdr at H1
         refine Zr ?_
         obtain ⟨e22, h23, H1⟩ := Zh H1; obtain ⟨h24, H1⟩ := Zge H1
         refine r_g (T := [⟨[.old 3], _, [], [], [75]⟩, ⟨[.old 0], _, [], [], [76]⟩, ⟨[.old 5], _, [], [], [77]⟩, ⟨[.op 1 0, .op 2 0], _, [], [1, 2], [78]⟩, ⟨[.op 3 0], _, [], [1, 2, 3], [79]⟩, ⟨[.op 4 0], _, [], List.range' 1 4, [80]⟩, ⟨[.op 0 0, .op 5 0], _, [13], Lr 6, [7, 75, 81]⟩, ⟨[.op 6 0], _, [], Lr 7, [7]⟩]) (F := [.old 0, .old 1, .old 2, .op 7 0, .old 4, .old 5]) hst hb Za
           (o_p rfl (Zb rfl rfl u_0) <| o_p rfl (Zb rfl rfl u_0) <| o_p rfl (Zb rfl rfl u_0) <| o_p rfl (Zbf Tryz.underlying62 Zeq rfl rfl u_0 u_1 h23) <| o_p rfl (Zf Zdt rfl rfl u_0) <| o_p rfl (Zhi Zdb (xs := [.tmp 79]) (.cons u_0 .nil) (by decide) rfl rfl) <| o_p rfl (Zft Zdb rfl rfl u_0 u_1 h24) <| o_p rfl (Zc rfl rfl u_0) <| o_n) (by kernel_rfl) (fun a g hst hb => ?_)
         refine Zba ?_
         refine Zr ?_
         refine r_g (T := [⟨[.old 5], _, [], [], [17]⟩, ⟨[.op 0 0], _, [], [0], [18]⟩, ⟨[.op 1 0], _, [], [0, 1], [9]⟩]) (F := [.old 0, .old 1, .old 2, .old 3, .old 4, .op 2 0]) hst hb Za
           (o_p rfl (Zb rfl rfl u_0) <| o_p rfl (Zb3 rfl rfl u_0 c_i rfl) <| o_p rfl (Zc rfl rfl u_0) <| o_n) (by kernel_rfl) (fun a g hst hb => ?_)
         exact ⟨n, Nat.lt_succ_self _, (j20 ++ ([e22] : List Zl)), j21, (IntKind.i64.wrap (x3 + (1 : Int))), g, rfl, (hst.pick [0, 1, 2, 3, 4, 5] rfl), hb, H1⟩
       · refine wp_cond_split (hst.bool 7 rfl) (fun hc17 => ?_) (fun hc17 => ?_)
         · replace H1 := Zw hc17 H1
           refine r_s (L := [(0, _), (2, _), (4, _), (7, _), (9, _), (11, _)]) (T := [⟨[], _, [], [], [8]⟩]) (F := [.old 0, .old 1, .old 2, .old 3, .op 0 0, .old 4, .old 5]) (hst.pick [0, 1, 2, 3, 5, 6] rfl) hb Za
             (o_p rfl (Zc rfl rfl c_b) <| o_n) (by kernel_rfl) (fun a g hst hb => ?_)
           refine r_s (T := [⟨[.old 6], _, [], [], [69]⟩, ⟨[.op 0 0], _, [], [0], [70]⟩]) (F := [.old 0, .old 1, .old 2, .old 3, .old 4, .old 5, .op 1 0]) hst hb Za
             (o_p rfl (Zb rfl rfl u_0) <| o_p rfl (Zb7 rfl rfl u_0) <| o_n) (by kernel_rfl) (fun a g hst hb => ?_)
           refine wp_cond_split (hst.bool 6 rfl) (fun hc18 => ?_) (fun hc18 => ?_)
           · replace H1 := Zw hc18 H1
             obtain ⟨h19, H1⟩ := Zge H1
             refine r_g (L := [(0, _), (2, _), (4, _), (7, _), (8, _), (9, _)]) (T := [⟨[.old 3], _, [], [], [71]⟩, ⟨[.old 2], _, [], [], [72]⟩, ⟨[.op 1 0], _, [], [1], [73]⟩, ⟨[.op 0 0, .op 2 0], _, [13], [0, 1, 2], [7, 71, 74]⟩, ⟨[.op 3 0], _, [], Lr 4, [7]⟩]) (F := [.old 0, .old 1, .old 2, .op 4 0, .old 4, .old 5]) (hst.pick [0, 1, 2, 3, 4, 5] rfl) hb Za
               (o_p rfl (Zb rfl rfl u_0) <| o_p rfl (Zf Zdt rfl rfl u_0) <| o_p rfl (Zhi Zdb (xs := [.tmp 72]) (.cons u_0 .nil) (by decide) rfl rfl) <| o_p rfl (Zft Zdb rfl rfl u_0 u_1 h19) <| o_p rfl (Zc rfl rfl u_0) <| o_n) (by kernel_rfl) (fun a g hst hb => ?_)
             exact ⟨(x1 ++ ([a1] : List Zl)), true, g, rfl, (hst.pick [0, 1, 2, 3, 4, 5] rfl), hb, H1⟩
           · replace H1 := Zx hc18 H1
             refine wp_skip ?_
             exact ⟨x1, true, g, rfl, (hst.pick [0, 1, 2, 3, 4, 5] rfl), hb, H1⟩
         · replace H1 := Zx hc17 H1
           refine wp_skip ?_
           exact ⟨x1, x2, g, rfl, (hst.pick [0, 1, 2, 3, 4, 5] rfl), hb, H1⟩
     · replace H1 := Zx hc4 H1
       refine wp_exit ?_
       refine Zb6 ?_
       refine Zb6 ?_
       refine Zco ?_
       exact ⟨x1, x2, g, rfl, (hst.pick [2, 3, 4] rfl), hb, Option.some.inj H1⟩
end Go.CL
