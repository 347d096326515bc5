/- A part of the proof of FoldRuns. -/
import Derived.Test.YtiggdpakpaickaaGreatDoorFoldRunsC5
set_option linter.unusedVariables false
set_option linter.unusedSimpArgs false
set_option maxRecDepth 100000
namespace Go.CL
open Go Go.RowKit Go.Proofs
theorem Zks (a0 : Zj) (a1 : ByteArray) (a2 : Ze) {r : Zj × Int} (h : Zep a0 a1 a2 = some r) : FnOk Tryz.prog 25 [(Z3.pd a0), (pStr a1), (Zi.pd a2)] (pTup [(Z3.pd r.1), (pInt .i64 r.2)]) := by
 have H0 := h
 unfold Zep at H0
 clear h
 refine Zbn (N := 80) Tryz.func25 rfl rfl (Nat.le_of_ble_eq_true rfl) rfl rfl (fun a g0 hst hb => ?_)
 refine r_s (T := [⟨[.old 0], _, [], [], [3]⟩, ⟨[.old 2], _, [], [], [5]⟩, ⟨[], [(6, (pBox Z3 6 (default : Zj)))], [7], [], [6]⟩, ⟨[], _, [], [], [7]⟩]) (F := [.old 1, .op 0 0, .op 1 0, .op 2 0]) hst hb Za
   (o_p rfl (Zbj rfl rfl u_0) <| o_p rfl (Zbj rfl rfl u_0) <| o_p rfl (Zbb (zs := [.slice none 0 0, .int .i64 0]) (by kernel_rfl) (fun g => Zdz g) rfl rfl) <| o_p rfl (Zc rfl rfl c_i) <| o_n) (by kernel_rfl) (fun a g hst hb => ?_)
 refine wp_seq ?_
 refine r_s (T := [⟨[.old 0], _, [], [], [12]⟩, ⟨[.op 0 0], _, [], [0], [13]⟩, ⟨[.op 1 0], _, [], [0, 1], [14]⟩, ⟨[.op 2 0], _, [], [0, 1, 2], [15]⟩, ⟨[.op 3 0, .old 0], _, [], List.range 4, [16]⟩, ⟨[.op 3 0, .op 4 0], _, [], List.range 5, [17]⟩, ⟨[.op 3 0, .op 5 0], _, [], List.range 6, [18]⟩, ⟨[.op 3 0, .op 6 0], _, [], List.range 7, [19]⟩]) (F := [.old 0, .old 1, .old 2, .old 3, .op 7 0]) hst hb Za
   (o_p rfl (Zb rfl rfl u_0) <| o_p rfl (Ze2 Tryz.underlying9 rfl rfl u_0) <| o_p rfl (Zcd rfl rfl u_0 c_i) <| o_p rfl (Zb rfl rfl u_0) <| o_g (g_f rfl rfl rfl (fun hG => Zb rfl rfl u_0)) <| o_g (g_f rfl rfl rfl (fun hG => Ze2 Tryz.underlying9 rfl rfl (Opd.gd hG u_0))) <| o_g (g_f rfl rfl rfl (fun hG => Zcl rfl rfl (Opd.gd hG u_0) c_i)) <| o_p rfl (Zbr rfl rfl u_0 (fun hz => (Opd.gd (bNF hz) u_1))) <| o_n) (by kernel_rfl) (fun a g hst hb => ?_)
 refine wp_cond_split (hst.bool 4 rfl) (fun hc1 => ?_) (fun hc1 => ?_)
 · replace H0 := Zv hc1 H0
   refine r_s (L := [(3, _), (6, _)]) (T := [⟨[.old 0], _, [], [], [20]⟩, ⟨[.op 0 0, .old 1], _, [7], [0], [6]⟩, ⟨[], _, [], [0, 1], [7]⟩]) (F := [.op 1 0, .op 2 0]) (hst.pick [1, 3] rfl) hb Za
     (o_p rfl (Zf Zci rfl rfl u_0) <| o_p rfl (Zz Zci rfl rfl u_1 u_0) <| o_p rfl (Zc rfl rfl c_i) <| o_n) (by kernel_rfl) (fun a g hst hb => ?_)
   refine wp_ret ?_
   refine Zp ?_
   obtain rfl := Option.some.inj H0
   obtain ⟨u0, hu0, hq0⟩ := Z8 (P := Tryz.prog) Zci (hst.at 0 rfl)
   exact Zc9 rfl hst hb hu0 (Zk (s := 7)) (Zcm hq0 (hst.at 1 rfl))
 · replace H0 := Zw hc1 H0
   refine wp_skip ?_
   refine Zr ?_
   obtain ⟨r2, h3, H0⟩ := Zh H0
   refine r_s (L := [(1, _), (3, _), (5, _), (6, _)]) (T := [⟨[.old 2], _, [], [], [21]⟩, ⟨[.op 0 0], _, [], [0], [22]⟩, ⟨[.op 1 0], _, [], [0, 1], [8]⟩]) (F := [.old 0, .old 1, .old 2, .old 3, .op 2 0]) (hst.pick [0, 1, 2, 3] rfl) hb Za
     (o_p rfl (Zf Zba rfl rfl u_0) <| o_p rfl (Zn Z0f (Zj1 _ h3) rfl rfl (.cons u_0 .nil)) <| o_p rfl (Zc rfl rfl u_0) <| o_n) (by kernel_rfl) (fun a g hst hb => ?_)
   refine wp_seq ?_
   refine r_s (T := [⟨[.old 4], _, [], [], [23]⟩, ⟨[.op 0 0], _, [], [0], [24]⟩]) (F := [.old 0, .old 1, .old 2, .old 3, .old 4, .op 1 0]) hst hb Za
     (o_p rfl (Zb rfl rfl u_0) <| o_p rfl (Zc5 rfl rfl u_0 c_i) <| o_n) (by kernel_rfl) (fun a g hst hb => ?_)
   refine wp_cond_split (hst.bool 5 rfl) (fun hc4 => ?_) (fun hc4 => ?_)
   · replace H0 := Zv hc4 H0
     refine r_s (L := [(3, _), (6, _), (8, _)]) (T := [⟨[.old 0], _, [], [], [25]⟩, ⟨[.old 2], _, [], [], [26]⟩, ⟨[.op 0 0, .old 1], _, [7], [0], [6]⟩, ⟨[.op 1 0], _, [], [0, 1, 2], [7]⟩]) (F := [.op 2 0, .op 3 0]) (hst.pick [1, 3, 4] rfl) hb Za
       (o_p rfl (Zf Zci rfl rfl u_0) <| o_p rfl (Zb rfl rfl u_0) <| o_p rfl (Zz Zci rfl rfl u_1 u_0) <| o_p rfl (Zc rfl rfl u_0) <| o_n) (by kernel_rfl) (fun a g hst hb => ?_)
     refine wp_ret ?_
     refine Zp ?_
     obtain rfl := Option.some.inj H0
     obtain ⟨u0, hu0, hq0⟩ := Z8 (P := Tryz.prog) Zci (hst.at 0 rfl)
     exact Zc9 rfl hst hb hu0 (Zk (s := 7)) (Zcm hq0 (hst.at 1 rfl))
   · replace H0 := Zw hc4 H0
     refine wp_skip ?_
     refine Zr ?_
     obtain ⟨r5, h6, H0⟩ := Zh H0
     refine r_s (L := [(1, _), (3, _), (5, _), (6, _)]) (T := [⟨[.old 1], _, [], [], [27]⟩, ⟨[.old 0], _, [], [], [28]⟩, ⟨[.op 0 0, .op 1 0], _, [], [0, 1], [29]⟩, ⟨[.op 2 0], _, [], [0, 1, 2], [9]⟩]) (F := [.old 0, .old 1, .old 2, .old 3, .op 3 0]) (hst.pick [0, 1, 2, 3] rfl) hb Za
       (o_p rfl (Zf Zci rfl rfl u_0) <| o_p rfl (Zb rfl rfl u_0) <| o_p rfl (Zn Z0g (Zhx _ _ h6) rfl rfl (.cons u_0 (.cons u_1 .nil))) <| o_p rfl (Zc rfl rfl u_0) <| o_n) (by kernel_rfl) (fun a g hst hb => ?_)
     obtain ⟨e7, h8, H0⟩ := Zh H0
     refine r_s (T := ⟨[.old 4], _, [], [], [30]⟩ :: ⟨[.old 1], _, [], [], [31]⟩ :: ⟨[.op 1 0], _, [], [1], [32]⟩ :: ⟨[.op 2 0], _, [], [1, 2], [33]⟩ :: ⟨[.op 0 0, .op 3 0], _, [], List.range 4, [34]⟩ :: ⟨[.op 4 0], _, [], List.range 5, [35]⟩ :: ⟨[.op 5 0, .old 1], _, [], List.range 6, [36]⟩ :: ⟨[.op 5 0, .op 6 0], _, [], List.range 7, [37]⟩ :: ⟨[.op 5 0, .old 4], _, [], List.range 6, [38]⟩ :: ⟨[.op 5 0, .op 7 0, .op 8 0], _, [], List.range 9, [39]⟩ :: ⟨[.op 5 0, .op 9 0], _, [], List.range 10, [40]⟩ :: ⟨[.op 5 0, .op 10 0], _, [], List.range 11, [41]⟩ :: ⟨[.op 5 0, .old 0], _, [], List.range 6, [42]⟩ :: ⟨[.op 5 0, .op 11 0, .op 12 0], _, [], List.range 13, [43]⟩ :: ⟨[.op 5 0, .op 13 0], _, [], List.range 14, [44]⟩ :: ⟨[.op 14 0], _, [], List.range 15, [10]⟩ :: []) (F := [.old 0, .old 1, .old 2, .old 3, .old 4, .op 15 0]) hst hb Za
       (o_p rfl (Zb rfl rfl u_0) <| o_p rfl (Zd Zga rfl rfl u_0) <| o_p rfl (Zf Zi2 rfl rfl u_0) <| o_p rfl (Zby Tryz.underlying22 rfl rfl u_0) <| o_p rfl (Zcd rfl rfl u_0 u_1) <| o_p rfl (Zb rfl rfl u_0) <| o_g (g_t rfl rfl rfl (fun hG => Zd Zga rfl rfl u_0)) <| o_g (g_t rfl rfl rfl (fun hG => Zf Zi2 rfl rfl (Opd.gd hG u_0))) <| o_g (g_t rfl rfl rfl (fun hG => Zb rfl rfl u_0)) <| o_g (g_t rfl rfl rfl (fun hG => Zbf Tryz.underlying22 Zl0 rfl rfl (Opd.gd hG u_0) (Opd.gd hG u_1) (Zbl h8 hG))) <| o_g (g_t rfl rfl rfl (fun hG => Zd Zlm rfl rfl (Opd.gd hG u_0))) <| o_g (g_t rfl rfl rfl (fun hG => Zf ty_9 rfl rfl (Opd.gd hG u_0))) <| o_g (g_t rfl rfl rfl (fun hG => Zb rfl rfl u_0)) <| o_g (g_t rfl rfl rfl (fun hG => Zkr rfl rfl (Opd.gd hG u_0) (Opd.gd hG u_1))) <| o_p rfl (Zbc rfl rfl u_0 (fun hz => (Opd.gd hz u_1))) <| o_p rfl (Zc rfl rfl u_0) <| o_n) (by kernel_rfl) (fun a g hst hb => ?_)
     refine wp_seq ?_
     refine r_s (T := [⟨[.old 5], _, [], [], [45]⟩, ⟨[.op 0 0], _, [], [0], [46]⟩, ⟨[.op 1 0], _, [], [0, 1], [47]⟩, ⟨[.op 2 0, .old 1], _, [], [0, 1, 2], [48]⟩, ⟨[.op 2 0, .op 3 0], _, [], List.range 4, [49]⟩, ⟨[.op 2 0, .op 4 0], _, [], List.range 5, [50]⟩, ⟨[.op 2 0, .old 1], _, [], [0, 1, 2], [51]⟩, ⟨[.op 2 0, .op 6 0], _, [], [0, 1, 2, 6], [52]⟩, ⟨[.op 2 0, .op 5 0, .op 7 0], _, [], List.range 8, [53]⟩, ⟨[.op 2 0, .op 8 0], _, [], List.range 9, [54]⟩]) (F := [.old 0, .old 1, .old 2, .old 3, .old 4, .old 5, .op 9 0]) hst hb Za
       (o_p rfl (Zb rfl rfl u_0) <| o_p rfl (Zb7 rfl rfl u_0) <| o_p rfl (Zb rfl rfl u_0) <| o_g (g_t rfl rfl rfl (fun hG => Zd Zga rfl rfl u_0)) <| o_g (g_t rfl rfl rfl (fun hG => Zf Zi2 rfl rfl (Opd.gd hG u_0))) <| o_g (g_t rfl rfl rfl (fun hG => Zby Tryz.underlying22 rfl rfl (Opd.gd hG u_0))) <| o_g (g_t rfl rfl rfl (fun hG => Zd Zop rfl rfl u_0)) <| o_g (g_t rfl rfl rfl (fun hG => Zf ty_3 rfl rfl (Opd.gd hG u_0))) <| o_g (g_t rfl rfl rfl (fun hG => Zly rfl rfl (Opd.gd hG u_0) (Opd.gd hG u_1))) <| o_p rfl (Zbc rfl rfl u_0 (fun hz => (Opd.gd hz u_1))) <| o_n) (by kernel_rfl) (fun a g hst hb => ?_)
     refine wp_cond_split (hst.bool 6 rfl) (fun hc9 => ?_) (fun hc9 => ?_)
     · replace H0 := Zv hc9 H0
       refine r_s (L := [(3, _), (6, _)]) (T := [⟨[.old 0], _, [], [], [55]⟩, ⟨[.op 0 0, .old 1], _, [7], [0], [6]⟩, ⟨[], _, [], [0, 1], [7]⟩]) (F := [.op 1 0, .op 2 0]) (hst.pick [1, 3] rfl) hb Za
         (o_p rfl (Zf Zci rfl rfl u_0) <| o_p rfl (Zz Zci rfl rfl u_1 u_0) <| o_p rfl (Zc rfl rfl c_i) <| o_n) (by kernel_rfl) (fun a g hst hb => ?_)
       refine wp_ret ?_
       refine Zp ?_
       obtain rfl := Option.some.inj H0
       obtain ⟨u0, hu0, hq0⟩ := Z8 (P := Tryz.prog) Zci (hst.at 0 rfl)
       exact Zc9 rfl hst hb hu0 (Zk (s := 7)) (Zcm hq0 (hst.at 1 rfl))
     · replace H0 := Zw hc9 H0
       refine wp_skip ?_
       refine Zr ?_
       obtain ⟨c10, h11, H0⟩ := Zh H0; obtain ⟨h12, H0⟩ := Zgg H0
       refine r_s (L := [(1, _), (3, _), (5, _), (6, _), (9, _), (10, _)]) (T := [⟨[], _, [57], [], [56]⟩, ⟨[.old 1], _, [], [], [57]⟩, ⟨[.op 1 0], _, [], [1], [58]⟩, ⟨[.old 4], _, [], [], [59]⟩, ⟨[.op 2 0, .op 3 0], _, [], [1, 2, 3], [60]⟩, ⟨[.op 0 0, .op 4 0], _, [57], List.range 5, [56, 61]⟩, ⟨[.op 5 0], _, [], List.range 6, [11]⟩]) (F := [.old 0, .old 1, .old 2, .old 3, .old 4, .old 5, .op 6 0]) (hst.pick [0, 1, 2, 3, 4, 5] rfl) hb Za
         (o_p rfl (Zjv 56 Zof (xs := []) .nil (by decide) rfl rfl) <| o_p rfl (Zd Zga rfl rfl u_0) <| o_p rfl (Zf Zi2 rfl rfl u_0) <| o_p rfl (Zb rfl rfl u_0) <| o_p rfl (Zrv Tryz.underlying22 Zl0 rfl rfl u_0 u_1 h11) <| o_p rfl (Zff Zof rfl rfl u_0 u_1 h12) <| o_p rfl (Zc rfl rfl u_0) <| o_n) (by kernel_rfl) (fun a g hst hb => ?_)
       obtain ⟨h13, H0⟩ := Zgg H0
       refine r_s (T := [⟨[.old 6], _, [], [], [62]⟩, ⟨[.old 0], _, [], [], [63]⟩, ⟨[.old 2], _, [], [], [64]⟩, ⟨[.op 1 0, .op 2 0], _, [], [1, 2], [65]⟩, ⟨[.op 3 0], _, [], [1, 2, 3], [66]⟩, ⟨[.op 0 0, .op 4 0], _, [57], List.range 5, [11, 62, 67]⟩, ⟨[.op 5 0], _, [], List.range 6, [11]⟩]) (F := [.old 1, .old 3, .old 4, .old 5, .op 6 0]) hst hb Za
         (o_p rfl (Zb rfl rfl u_0) <| o_p rfl (Zb rfl rfl u_0) <| o_p rfl (Zf Zba rfl rfl u_0) <| o_p rfl (Z1q rfl rfl u_0 u_1) <| o_p rfl (Zgt Zof (xs := [.tmp 65]) (.cons u_0 .nil) (by decide) rfl rfl) <| o_p rfl (Zff Zof rfl rfl u_0 u_1 h13) <| o_p rfl (Zc rfl rfl u_0) <| o_n) (by kernel_rfl) (fun a g hst hb => ?_)
       refine wp_seq ?_
       refine r_s (T := [⟨[.old 3], _, [], [], [68]⟩]) (F := [.old 0, .old 1, .old 2, .old 4, .op 0 0]) hst hb Za
         (o_p rfl (Zb rfl rfl u_0) <| o_n) (by kernel_rfl) (fun a g hst hb => ?_)
       refine Zcb (fun a w => ∃ (j15 : Int) (g : G), w = g.w ∧ St 80 [(3, (Z3.ptr a0)), (6, (pBox Z3 6 (default : Zj))), (9, (pInt .i64 j15)), (11, (pRow Zb1 75 56 ((([] : List Z9) ++ c10) ++ ([({ Key := a1, Rec := a2 } : Z9)] : List Z9))))] a g ∧ Base g0 g ∧ Zem a0 a1 a2 c10 j15 = some r) ?_ ?_
       · rintro a w ⟨j15, g, rfl, hst, hb, H0⟩
         unfold Zem at H0
         refine Zr ?_
         obtain ⟨c16, h17, H0⟩ := Zh H0; obtain ⟨h18, H0⟩ := Zgg H0
         refine r_s (T := [⟨[.old 3], _, [], [], [71]⟩, ⟨[.old 0], _, [], [], [72]⟩, ⟨[.op 1 0], _, [], [1], [73]⟩, ⟨[.old 2], _, [], [], [74]⟩, ⟨[.op 2 0, .op 3 0], _, [], [1, 2, 3], [75]⟩, ⟨[.op 0 0, .op 4 0], _, [57], List.range 5, [11, 71, 76]⟩, ⟨[.old 0], _, [], [], [77]⟩, ⟨[.op 6 0], _, [], [6], [78]⟩, ⟨[.op 5 0, .op 7 0], _, [], List.range 8, [79]⟩, ⟨[.op 8 0, .old 1], _, [7], List.range 9, [6]⟩, ⟨[], _, [], List.range 10, [7]⟩]) (F := [.op 9 0, .op 10 0]) hst hb Za
           (o_p rfl (Zb rfl rfl u_0) <| o_p rfl (Zd Zga rfl rfl u_0) <| o_p rfl (Zf Zi2 rfl rfl u_0) <| o_p rfl (Zb rfl rfl u_0) <| o_p rfl (Zze Tryz.underlying22 Zl0 rfl rfl u_0 u_1 h17) <| o_p rfl (Zff Zof rfl rfl u_0 u_1 h18) <| o_p rfl (Zd Zop rfl rfl u_0) <| o_p rfl (Zf ty_3 rfl rfl u_0) <| o_p rfl (Zvr rfl rfl (Opd.imp u_0 (fun _ _ h => Zit h)) u_1) <| o_p rfl (Zz Zci rfl rfl u_1 u_0) <| o_p rfl (Zc rfl rfl c_i) <| o_n) (by kernel_rfl) (fun a g hst hb => ?_)
         refine wp_ret ?_
         obtain rfl := Option.some.inj H0
         obtain ⟨u0, hu0, hq0⟩ := Z8 (P := Tryz.prog) Zci (hst.at 0 rfl)
         exact Zc9 rfl hst hb hu0 (Zk (s := 7)) (Zcm hq0 (hst.at 1 rfl))
       · refine wp_cond_split (hst.bool 4 rfl) (fun hc14 => ?_) (fun hc14 => ?_)
         · replace H0 := Zv hc14 H0
           refine r_g (L := [(3, _), (6, _), (9, _), (11, _)]) (T := [⟨[.old 2], _, [], [], [69]⟩, ⟨[.op 0 0], _, [], [0], [70]⟩, ⟨[.op 1 0], _, [], [0, 1], [9]⟩]) (F := [.old 0, .old 1, .op 2 0, .old 3]) (hst.pick [0, 1, 2, 3] rfl) hb Za
             (o_p rfl (Zb rfl rfl u_0) <| o_p rfl (Zb4 rfl rfl u_0 c_i rfl) <| o_p rfl (Zc rfl rfl u_0) <| o_n) (by kernel_rfl) (fun a g hst hb => ?_)
           exact ⟨(IntKind.i64.wrap (r5 + (1 : Int))), g, rfl, (hst.pick [0, 1, 2, 3] rfl), hb, H0⟩
         · replace H0 := Zw hc14 H0
           refine wp_skip ?_
           exact ⟨r5, g, rfl, (hst.pick [0, 1, 2, 3] rfl), hb, H0⟩
end Go.CL
set_option linter.unusedVariables false
set_option linter.unusedSimpArgs false
set_option maxRecDepth 100000
namespace Go.CL
open Go Go.RowKit Go.Proofs
theorem Zpr (a0 : Int) (a1 : List Z9) {r : Zq × (Option Zj)} (h : Zgo a0 a1 = some r) : FnOk Tryz.prog 7 [(pInt .i64 a0), (Zb1.sl.pd a1)] (pTup [(Z6.pd r.1), (Z3.opt.pd r.2)]) := by
 have H0 := h
 unfold Zgo at H0
 clear h
 refine Zbn (N := 63) Tryz.func7 rfl rfl (Nat.le_of_ble_eq_true rfl) rfl rfl (fun a g0 hst hb => ?_)
 refine r_s (T := [⟨[], [(4, (pBox Z6 4 (default : Zq)))], [5], [], [4]⟩, ⟨[], [(5, (Z3.opt.pd (none : Option Zj)))], [], [], [5]⟩]) (F := [.old 0, .old 1, .op 0 0]) hst hb Za
   (o_p rfl (Zbb (zs := [.pointer none, .int .i64 0]) (by kernel_rfl) (fun g => Zc0 g) rfl rfl) <| o_p rfl (Zc rfl rfl (Opd.c (fun g => Zq1 g))) <| o_n) (by kernel_rfl) (fun a g hst hb => ?_)
 obtain ⟨r1, h2, H0⟩ := Zh H0
 refine r_s (T := [⟨[.old 0], _, [], [], [12]⟩, ⟨[.op 0 0], _, [], [0], [13]⟩, ⟨[.op 1 0], _, [], [0, 1], [11]⟩, ⟨[.op 2 0], _, [], [0, 1, 2], [14]⟩, ⟨[.op 2 0], _, [], [0, 1, 2], [15]⟩, ⟨[], [(6, (pBox Z6 6 (default : Zq)))], [7], [], [6]⟩, ⟨[.op 3 0, .op 5 0], _, [7], [0, 1, 2, 3, 5], [6]⟩, ⟨[.op 4 0], _, [], List.range 7, [7]⟩]) (F := [.old 0, .old 1, .old 2, .op 6 0, .op 7 0]) hst hb Za
   (o_p rfl (Zb rfl rfl u_0) <| o_p rfl (Zn Z4e (Zq0 _ h2) rfl rfl (.cons u_0 .nil)) <| o_p rfl (Zb rfl rfl u_0) <| o_p rfl (Z4 rfl rfl u_0 rfl) <| o_p rfl (Z4 rfl rfl u_0 rfl) <| o_p rfl (Zbb (zs := [.pointer none, .int .i64 0]) (by kernel_rfl) (fun g => Zc0 g) rfl rfl) <| o_p rfl (Zz Zbx rfl rfl u_1 u_0) <| o_p rfl (Zc rfl rfl u_0) <| o_n) (by kernel_rfl) (fun a g hst hb => ?_)
 refine wp_seq ?_
 refine r_s (T := [⟨[.old 4], _, [], [], [16]⟩, ⟨[.op 0 0], _, [], [0], [17]⟩, ⟨[.op 1 0], _, [], [0, 1], [18]⟩, ⟨[.op 2 0, .old 1], _, [], [0, 1, 2], [19]⟩, ⟨[.op 2 0, .op 3 0], _, [], List.range 4, [20]⟩, ⟨[.op 2 0, .op 4 0], _, [], List.range 5, [21]⟩, ⟨[.op 2 0, .op 5 0], _, [], List.range 6, [22]⟩]) (F := [.old 0, .old 1, .old 2, .old 3, .op 6 0]) hst hb Za
   (o_p rfl (Zb rfl rfl u_0) <| o_p rfl (Zc5 rfl rfl u_0 c_i) <| o_p rfl (Zb rfl rfl u_0) <| o_g (g_f rfl rfl rfl (fun hG => Zb rfl rfl u_0)) <| o_g (g_f rfl rfl rfl (fun hG => Zby Tryz.underlying22 rfl rfl (Opd.gd hG u_0))) <| o_g (g_f rfl rfl rfl (fun hG => Zcl rfl rfl (Opd.gd hG u_0) c_i)) <| o_p rfl (Zbr rfl rfl u_0 (fun hz => (Opd.gd (bNF hz) u_1))) <| o_n) (by kernel_rfl) (fun a g hst hb => ?_)
 refine wp_cond_split (hst.bool 4 rfl) (fun hc3 => ?_) (fun hc3 => ?_)
 · replace H0 := Zv hc3 H0
   refine r_s (L := [(4, _), (6, _)]) (T := [⟨[.old 1], _, [], [], [23]⟩, ⟨[.op 0 0, .old 0], _, [5], [0], [4]⟩, ⟨[], [(5, (Z3.opt.pd (none : Option Zj)))], [], [0, 1], [5]⟩]) (F := [.op 1 0, .op 2 0]) (hst.pick [2, 3] rfl) hb Za
     (o_p rfl (Zbw Zbx rfl rfl u_0) <| o_p rfl (Zz Zbx rfl rfl u_1 u_0) <| o_p rfl (Zc rfl rfl (Opd.c (fun g => Zq1 g))) <| o_n) (by kernel_rfl) (fun a g hst hb => ?_)
   refine wp_ret ?_
   refine Zp ?_
   obtain rfl := Option.some.inj H0
   obtain ⟨u0, hu0, hq0⟩ := Z8 (P := Tryz.prog) Zbx (hst.at 0 rfl)
   exact Zc9 rfl hst hb hu0 (Zk (s := 5)) (Zcm hq0 (hst.at 1 rfl))
 · replace H0 := Zw hc3 H0
   refine wp_skip ?_
   refine Zr ?_
   refine r_s (L := [(0, _), (1, _), (4, _), (6, _)]) (T := [⟨[.old 0], _, [], [], [24]⟩, ⟨[.op 0 0], _, [], [0], [25]⟩, ⟨[], [(8, (pBox Z3 8 (default : Zj)))], [9], [], [8]⟩, ⟨[.op 1 0, .op 2 0], _, [9], [0, 1, 2], [8]⟩]) (F := [.old 1, .old 2, .old 3, .op 3 0]) (hst.pick [0, 1, 2, 3] rfl) hb Za
     (o_p rfl (Zb rfl rfl u_0) <| o_p rfl (Z6l rfl rfl u_0) <| o_p rfl (Zbb (zs := [.slice none 0 0, .int .i64 0]) (by kernel_rfl) (fun g => Zdz g) rfl rfl) <| o_p rfl (Zz Zci rfl rfl u_1 u_0) <| o_n) (by kernel_rfl) (fun a g hst hb => ?_)
   refine wp_seq ?_
   refine r_s (T := [⟨[.old 0], _, [], [], [26]⟩, ⟨[.op 0 0], _, [], [0], [27]⟩, ⟨[], _, [], [], [28]⟩]) (F := [.old 1, .old 2, .old 3, .op 0 0, .op 1 0, .op 2 0]) hst hb Za
     (o_p rfl (Zb rfl rfl u_0) <| o_p rfl (Zby Tryz.underlying22 rfl rfl u_0) <| o_p rfl (Zb rfl rfl c_i) <| o_n) (by kernel_rfl) (fun a g hst hb => ?_)
   obtain ⟨z21, hz1, H0⟩ := Zh H0
   refine Zcb (fun a w => ∃ (y18 : Zq) (y19 : Zq) (y20 : Zj) (g : G), w = g.w ∧ St 63 [(4, (pBox Z6 4 y18)), (6, (pBox Z6 6 y19)), (8, (pBox Z3 8 y20))] a g ∧ Base g0 g ∧ (.inr (y18, y19, y20)) = z21) ?_ ?_
   · rintro a w ⟨y18, y19, y20, g, rfl, hst, hb, rfl⟩
     refine Zr ?_
     refine r_s (T := [⟨[.old 1], _, [], [], [62]⟩, ⟨[.op 0 0, .old 0], _, [5], [0], [4]⟩, ⟨[.old 2], _, [9], [0, 1], [5, 8]⟩]) (F := [.op 1 0, .op 2 0]) hst hb Za
       (o_p rfl (Zbw Zbx rfl rfl u_0) <| o_p rfl (Zz Zbx rfl rfl u_1 u_0) <| o_p rfl (Z3e (.inr rfl) rfl u_0) <| o_n) (by kernel_rfl) (fun a g hst hb => ?_)
     refine wp_ret ?_
     obtain rfl := Option.some.inj H0
     obtain ⟨u0, hu0, hq0⟩ := Z8 (P := Tryz.prog) Zbx (hst.at 0 rfl)
     exact Zc9 rfl hst hb hu0 (Zk (s := 5)) (Zcm hq0 (hst.at 1 rfl))
   · refine wp_block ?_
     refine wp_loop_ghost (fun n a w => ∃ (x4 : Zq) (x5 : Zq) (x6 : Zj) (x7 : Int) (g : G), w = g.w ∧ St 63 [(4, (pBox Z6 4 x4)), (6, (pBox Z6 6 x5)), (8, (pBox Z3 8 x6)), (26, (Zb1.sl.pd a1)), (27, (pInt .i64 (a1.length : Int))), (28, (pInt .i64 x7))] a g ∧ Base g0 g ∧ Zdl a1 n x4 x5 x6 x7 = some z21) (Int.toNat ((a1.length : Int) - (0 : Int)) + 1) ⟨(default : Zq), r1.1, ({ L := ([] : List Z9), Room := a0 } : Zj), (0 : Int), g, rfl, (hst.pick [0, 1, 2, 3, 4, 5] rfl), hb, hz1⟩ (fun n a w hI => ?_)
     obtain ⟨x4, x5, x6, x7, g, rfl, hst, hb, H1⟩ := hI
     cases n with
     | zero => exact absurd H1 (by simp [Zdl])
     | succ n =>
       rw [Zdl] at H1
       refine r_s (T := [⟨[.old 5, .old 4], _, [], [], [29]⟩]) (F := [.old 0, .old 1, .old 2, .old 3, .old 4, .old 5, .op 0 0]) hst hb Za
         (o_p rfl (Zcd rfl rfl u_0 u_1) <| o_n) (by kernel_rfl) (fun a g hst hb => ?_)
       refine wp_seq ?_
       refine wp_cond_split (hst.bool 6 rfl) (fun hc8 => ?_) (fun hc8 => ?_)
       · replace H1 := Zv hc8 H1
         refine wp_skip ?_
         refine Zr ?_
         refine wp_seq ?_
         refine wp_block ?_
         obtain ⟨e9, h10, H1⟩ := Zh H1
         refine r_s (L := [(4, _), (6, _), (8, _), (26, _), (27, _), (28, _)]) (T := [⟨[.old 3, .old 5], _, [], [], [30]⟩, ⟨[.op 0 0], _, [], [0], [31]⟩, ⟨[], [(10, (pBox Zb1 10 (default : Z9)))], [11], [], [10]⟩, ⟨[.op 1 0, .op 2 0], _, [11], [0, 1, 2], [10]⟩]) (F := [.old 0, .old 1, .old 2, .op 3 0, .old 3, .old 4, .old 5]) (hst.pick [0, 1, 2, 3, 4, 5] rfl) hb Za
           (o_p rfl (Zbf Tryz.underlying22 Zl0 rfl rfl u_0 u_1 h10) <| o_p rfl (Zf Zwm rfl rfl u_0) <| o_p rfl (Zbb (zs := [.string ByteArray.empty, .int .i64 0, .int .i64 0, .int .i64 0, .int .i64 0, .float .f64 0, .int .i64 0, .string ByteArray.empty, .slice none 0 0]) (by kernel_rfl) (fun g => Zmb g) rfl rfl) <| o_p rfl (Zb3 Zwm rfl rfl u_1 u_0) <| o_n) (by kernel_rfl) (fun a g hst hb => ?_)
         refine wp_seq ?_
         obtain ⟨r11, h12, H1⟩ := Zh H1
         refine r_s (T := [⟨[.old 3], _, [], [], [32]⟩, ⟨[.op 0 0], _, [], [0], [33]⟩, ⟨[.op 1 0], _, [], [0, 1], [34]⟩, ⟨[.op 2 0], _, [], [0, 1, 2], [35]⟩, ⟨[.op 3 0], _, [], List.range 4, [36]⟩, ⟨[.op 4 0, .old 3], _, [], List.range 5, [37]⟩, ⟨[.op 4 0, .op 5 0], _, [], List.range 6, [38]⟩, ⟨[.op 4 0, .op 6 0], _, [], List.range 7, [39]⟩, ⟨[.op 4 0, .op 7 0], _, [], List.range 8, [40]⟩, ⟨[.op 4 0, .op 8 0], _, [], List.range 9, [41]⟩]) (F := [.old 0, .old 1, .old 2, .old 3, .old 4, .old 5, .old 6, .op 9 0]) hst hb Za
           (o_p rfl (Zd Zlm rfl rfl u_0) <| o_p rfl (Zf ty_9 rfl rfl u_0) <| o_p rfl (Ze2 Tryz.underlying9 rfl rfl u_0) <| o_p rfl (Zcl rfl rfl u_0 c_i) <| o_p rfl (Zb rfl rfl u_0) <| o_g (g_f rfl rfl rfl (fun hG => Zd Zov rfl rfl u_0)) <| o_g (g_f rfl rfl rfl (fun hG => Zf Zba rfl rfl (Opd.gd hG u_0))) <| o_g (g_f rfl rfl rfl (fun hG => Zn Z4y (Zm2 _ (Zbl h12 hG)) rfl rfl (.cons (Opd.gd hG u_0) .nil))) <| o_g (g_f rfl rfl rfl (fun hG => Zcl rfl rfl (Opd.gd hG u_0) c_i)) <| o_p rfl (Zbr rfl rfl u_0 (fun hz => (Opd.gd (bNF hz) u_1))) <| o_n) (by kernel_rfl) (fun a g hst hb => ?_)
         refine wp_cond_split (hst.bool 7 rfl) (fun hc13 => ?_) (fun hc13 => ?_)
         · replace H1 := Zv hc13 H1
           refine r_s (L := [(4, _), (6, _)]) (T := [⟨[.old 1], _, [], [], [42]⟩, ⟨[.op 0 0, .old 0], _, [5], [0], [4]⟩, ⟨[], [(5, (Z3.opt.pd (none : Option Zj)))], [], [0, 1], [5]⟩]) (F := [.op 1 0, .op 2 0]) (hst.pick [0, 1] rfl) hb Za
             (o_p rfl (Zbw Zbx rfl rfl u_0) <| o_p rfl (Zz Zbx rfl rfl u_1 u_0) <| o_p rfl (Zc rfl rfl (Opd.c (fun g => Zq1 g))) <| o_n) (by kernel_rfl) (fun a g hst hb => ?_)
           refine wp_ret ?_
           refine Zp ?_
           refine Z1 ?_
           refine Zp ?_
           refine Zp ?_
           refine Z1 ?_
           refine Zp ?_
           refine Zp ?_
           obtain rfl := Option.some.inj H1
           obtain rfl := Option.some.inj H0
           obtain ⟨u0, hu0, hq0⟩ := Z8 (P := Tryz.prog) Zbx (hst.at 0 rfl)
           exact Zc9 rfl hst hb hu0 (Zk (s := 5)) (Zcm hq0 (hst.at 1 rfl))
         · replace H1 := Zw hc13 H1
           refine wp_skip ?_
           refine Zr ?_
           obtain ⟨r14, h15, H1⟩ := Zh H1
           refine r_s (L := [(4, _), (6, _), (8, _), (10, _), (26, _), (27, _), (28, _)]) (T := [⟨[.old 1], _, [], [], [44]⟩, ⟨[.old 3], _, [], [], [45]⟩, ⟨[.op 1 0], _, [], [1], [46]⟩, ⟨[.old 3], _, [], [], [47]⟩, ⟨[.op 3 0], _, [], [3], [48]⟩, ⟨[.op 0 0, .op 2 0, .op 4 0], _, [], List.range 5, [49]⟩, ⟨[.op 5 0], _, [], List.range 6, [43]⟩, ⟨[.op 6 0], _, [], List.range 7, [50]⟩, ⟨[.op 6 0], _, [], List.range 7, [51]⟩, ⟨[.op 7 0, .old 1], _, [7], List.range 8, [6]⟩]) (F := [.old 0, .op 9 0, .old 2, .old 3, .old 4, .old 5, .old 6]) (hst.pick [0, 1, 2, 3, 4, 5, 6] rfl) hb Za
             (o_p rfl (Zbw Zbx rfl rfl u_0) <| o_p rfl (Zd Zlm rfl rfl u_0) <| o_p rfl (Zf ty_9 rfl rfl u_0) <| o_p rfl (Zd Zov rfl rfl u_0) <| o_p rfl (Zf Zba rfl rfl u_0) <| o_p rfl (Zn Z4u (Zmt _ _ _ h15) rfl rfl (.cons u_0 (.cons u_1 (.cons u_2 .nil)))) <| o_p rfl (Zb rfl rfl u_0) <| o_p rfl (Z4 rfl rfl u_0 rfl) <| o_p rfl (Z4 rfl rfl u_0 rfl) <| o_p rfl (Zz Zbx rfl rfl u_1 u_0) <| o_n) (by kernel_rfl) (fun a g hst hb => ?_)
           obtain ⟨r16, h17, H1⟩ := Zh H1
           refine r_g (T := [⟨[.old 2], _, [], [], [53]⟩, ⟨[.old 3], _, [], [], [54]⟩, ⟨[.op 1 0], _, [], [1], [55]⟩, ⟨[.old 3], _, [], [], [56]⟩, ⟨[.op 3 0], _, [], [3], [57]⟩, ⟨[.op 0 0, .op 2 0, .op 4 0], _, [], List.range 5, [58]⟩, ⟨[.op 5 0], _, [], List.range 6, [52]⟩, ⟨[.op 6 0], _, [], List.range 7, [59]⟩, ⟨[.op 6 0], _, [], List.range 7, [60]⟩, ⟨[.op 7 0, .old 2], _, [9], List.range 8, [8]⟩]) (F := [.old 0, .old 1, .op 9 0, .old 4, .old 5, .old 6]) hst hb Za
             (o_p rfl (Zbw Zci rfl rfl u_0) <| o_p rfl (Zd Zlm rfl rfl u_0) <| o_p rfl (Zf ty_9 rfl rfl u_0) <| o_p rfl (Zd Zov rfl rfl u_0) <| o_p rfl (Zf Zba rfl rfl u_0) <| o_p rfl (Zn Z4p (Zks _ _ _ h17) rfl rfl (.cons u_0 (.cons u_1 (.cons u_2 .nil)))) <| o_p rfl (Zb rfl rfl u_0) <| o_p rfl (Z4 rfl rfl u_0 rfl) <| o_p rfl (Z4 rfl rfl u_0 rfl) <| o_p rfl (Zz Zci rfl rfl u_1 u_0) <| o_n) (by kernel_rfl) (fun a g hst hb => ?_)
           refine Zbe ?_
           refine Zr ?_
           refine r_g (T := [⟨[.old 5], _, [], [], [61]⟩, ⟨[.op 0 0], _, [], [0], [28]⟩]) (F := [.old 0, .old 1, .old 2, .old 3, .old 4, .op 1 0]) hst hb Za
             (o_p rfl (Zb4 rfl rfl u_0 c_i rfl) <| o_p rfl (Zb rfl rfl u_0) <| o_n) (by kernel_rfl) (fun a g hst hb => ?_)
           exact ⟨n, Nat.lt_succ_self _, x4, r14.1, r16.1, (IntKind.i64.wrap (x7 + (1 : Int))), g, rfl, (hst.pick [0, 1, 2, 3, 4, 5] rfl), hb, H1⟩
       · replace H1 := Zw hc8 H1
         refine wp_exit ?_
         refine Zb6 ?_
         refine Zb6 ?_
         refine Zcn ?_
         exact ⟨x4, x5, x6, g, rfl, (hst.pick [0, 1, 2] rfl), hb, Option.some.inj H1⟩
end Go.CL
set_option linter.unusedVariables false
set_option linter.unusedSimpArgs false
set_option maxRecDepth 100000
namespace Go.CL
open Go Go.RowKit Go.Proofs
theorem Zqy (a0 : Z2) {r : Int} (h : Zin a0 = some r) : FnOk Tryz.prog 53 [(Zbd.pd a0)] (pInt .i64 r) := by
 have H0 := h
 unfold Zin at H0
 clear h
 refine Zbn (N := 19) Tryz.func53 rfl rfl (Nat.le_of_ble_eq_true rfl) rfl rfl (fun a g0 hst hb => ?_)
 refine r_s (T := [⟨[.old 0], _, [], [], [1]⟩, ⟨[], _, [], [], [2]⟩]) (F := [.op 0 0]) hst hb Za
   (o_p rfl (Zbj rfl rfl u_0) <| o_p rfl (Zc rfl rfl c_i) <| o_n) (by kernel_rfl) (fun a g hst hb => ?_)
 refine wp_seq ?_
 obtain ⟨r1, h2, H0⟩ := Zh H0
 refine r_s (T := ⟨[.old 0], _, [], [], [3]⟩ :: ⟨[.op 0 0], _, [], [0], [4]⟩ :: ⟨[.op 1 0], _, [], [0, 1], [5]⟩ :: ⟨[.op 2 0], _, [], [0, 1, 2], [6]⟩ :: ⟨[.op 3 0], _, [], List.range 4, [7]⟩ :: ⟨[.op 4 0, .old 0], _, [], List.range 5, [8]⟩ :: ⟨[.op 4 0, .op 5 0], _, [], List.range 6, [9]⟩ :: ⟨[.op 4 0, .op 6 0], _, [], List.range 7, [10]⟩ :: ⟨[.op 4 0, .op 7 0], _, [], List.range 8, [11]⟩ :: ⟨[.op 4 0, .op 8 0], _, [], List.range 9, [12]⟩ :: ⟨[.op 9 0], _, [], List.range 10, [13]⟩ :: ⟨[.op 10 0, .old 0], _, [], List.range 11, [14]⟩ :: ⟨[.op 10 0, .op 11 0], _, [], List.range 12, [15]⟩ :: ⟨[.op 10 0, .op 12 0], _, [], List.range 13, [16]⟩ :: ⟨[.op 10 0, .op 13 0], _, [], List.range 14, [17]⟩ :: ⟨[.op 10 0, .op 14 0], _, [], List.range 15, [18]⟩ :: []) (F := [.op 15 0]) hst hb Za
   (o_p rfl (Zd Zjq rfl rfl u_0) <| o_p rfl (Zf ty_9 rfl rfl u_0) <| o_p rfl (Ze2 Tryz.underlying9 rfl rfl u_0) <| o_p rfl (Zcl rfl rfl u_0 c_i) <| o_p rfl (Zb rfl rfl u_0) <| o_g (g_f rfl rfl rfl (fun hG => Zd Zfb rfl rfl u_0)) <| o_g (g_f rfl rfl rfl (fun hG => Zf ty_9 rfl rfl (Opd.gd hG u_0))) <| o_g (g_f rfl rfl rfl (fun hG => Ze2 Tryz.underlying9 rfl rfl (Opd.gd hG u_0))) <| o_g (g_f rfl rfl rfl (fun hG => Zcl rfl rfl (Opd.gd hG u_0) c_i)) <| o_p rfl (Zbr rfl rfl u_0 (fun hz => (Opd.gd (bNF hz) u_1))) <| o_p rfl (Zb rfl rfl u_0) <| o_g (g_f rfl rfl rfl (fun hG => Zd Zmp rfl rfl u_0)) <| o_g (g_f rfl rfl rfl (fun hG => Zf Zba rfl rfl (Opd.gd hG u_0))) <| o_g (g_f rfl rfl rfl (fun hG => Zn Z4y (Zm2 _ (Zbl h2 hG)) rfl rfl (.cons (Opd.gd hG u_0) .nil))) <| o_g (g_f rfl rfl rfl (fun hG => Zcl rfl rfl (Opd.gd hG u_0) c_i)) <| o_p rfl (Zbr rfl rfl u_0 (fun hz => (Opd.gd (bNF hz) u_1))) <| o_n) (by kernel_rfl) (fun a g hst hb => ?_)
 refine wp_cond_split (hst.bool 0 rfl) (fun hc3 => ?_) (fun hc3 => ?_)
 · replace H0 := Zv hc3 H0
   refine r_s (L := []) (T := [⟨[], _, [], [], [2]⟩]) (F := [.op 0 0]) (hst.pick [] rfl) hb Za
     (o_p rfl (Zc rfl rfl c_i) <| o_n) (by kernel_rfl) (fun a g hst hb => ?_)
   refine wp_ret ?_
   refine Zp ?_
   obtain rfl := Option.some.inj H0
   exact Z0 rfl hst hb (Zk (s := 2)) (hst.at 0 rfl)
 · replace H0 := Zw hc3 H0
   refine wp_skip ?_
   refine Zr ?_
   refine r_s (L := []) (T := [⟨[], _, [], [], [2]⟩]) (F := [.op 0 0]) (hst.pick [] rfl) hb Za
     (o_p rfl (Zc rfl rfl c_i) <| o_n) (by kernel_rfl) (fun a g hst hb => ?_)
   refine wp_ret ?_
   obtain rfl := Option.some.inj H0
   exact Z0 rfl hst hb (Zk (s := 2)) (hst.at 0 rfl)
end Go.CL
set_option linter.unusedVariables false
set_option linter.unusedSimpArgs false
set_option maxRecDepth 100000
namespace Go.CL
open Go Go.RowKit Go.Proofs
theorem Zq8 (a0 : Zb0) {r : Int} (h : Zir a0 = some r) : FnOk Tryz.prog 26 [(Zcq.pd a0)] (pInt .i64 r) := by
 have H0 := h
 unfold Zir at H0
 clear h
 refine Zbn (N := 20) Tryz.func26 rfl rfl (Nat.le_of_ble_eq_true rfl) rfl rfl (fun a g0 hst hb => ?_)
 refine r_s (T := [⟨[.old 0], _, [], [], [1]⟩, ⟨[], _, [], [], [2]⟩]) (F := [.op 0 0]) hst hb Za
   (o_p rfl (Zbj rfl rfl u_0) <| o_p rfl (Zc rfl rfl c_i) <| o_n) (by kernel_rfl) (fun a g hst hb => ?_)
 refine wp_seq ?_
 refine r_s (T := [⟨[.old 0], _, [], [], [5]⟩, ⟨[.op 0 0], _, [], [0], [6]⟩, ⟨[.op 1 0], _, [], [0, 1], [7]⟩, ⟨[.op 2 0], _, [], [0, 1, 2], [8]⟩]) (F := [.old 0, .op 3 0]) hst hb Za
   (o_p rfl (Zd Zh7 rfl rfl u_0) <| o_p rfl (Zf Zkw rfl rfl u_0) <| o_p rfl (Zby Tryz.underlying50 rfl rfl u_0) <| o_p rfl (Zcl rfl rfl u_0 c_i) <| o_n) (by kernel_rfl) (fun a g hst hb => ?_)
 refine wp_cond_split (hst.bool 1 rfl) (fun hc1 => ?_) (fun hc1 => ?_)
 · replace H0 := Zv hc1 H0
   refine r_s (L := []) (T := [⟨[], _, [], [], [2]⟩]) (F := [.op 0 0]) (hst.pick [] rfl) hb Za
     (o_p rfl (Zc rfl rfl c_i) <| o_n) (by kernel_rfl) (fun a g hst hb => ?_)
   refine wp_ret ?_
   refine Zp ?_
   obtain rfl := Option.some.inj H0
   exact Z0 rfl hst hb (Zk (s := 2)) (hst.at 0 rfl)
 · replace H0 := Zw hc1 H0
   refine wp_skip ?_
   refine Zr ?_
   refine wp_seq ?_
   refine r_s (L := [(1, _)]) (T := [⟨[.old 0], _, [], [], [9]⟩, ⟨[.op 0 0], _, [], [0], [10]⟩, ⟨[.op 1 0], _, [], [0, 1], [11]⟩, ⟨[], _, [], [], [12]⟩]) (F := [.op 1 0, .op 2 0, .op 3 0]) (hst.pick [0] rfl) hb Za
     (o_p rfl (Zd Zh7 rfl rfl u_0) <| o_p rfl (Zf Zkw rfl rfl u_0) <| o_p rfl (Zby Tryz.underlying50 rfl rfl u_0) <| o_p rfl (Zb rfl rfl c_i) <| o_n) (by kernel_rfl) (fun a g hst hb => ?_)
   obtain ⟨z9, hz1, H0⟩ := Zh H0
   refine Zcb (fun a w => ∃ (g : G), w = g.w ∧ St 20 [] a g ∧ Base g0 g ∧ (.inr ()) = z9) ?_ ?_
   · rintro a w ⟨g, rfl, hst, hb, rfl⟩
     refine Zr ?_
     refine r_s (T := [⟨[], _, [], [], [2]⟩]) (F := [.op 0 0]) hst hb Za
       (o_p rfl (Zc rfl rfl c_i) <| o_n) (by kernel_rfl) (fun a g hst hb => ?_)
     refine wp_ret ?_
     obtain rfl := Option.some.inj H0
     exact Z0 rfl hst hb (Zk (s := 2)) (hst.at 0 rfl)
   · refine wp_block ?_
     refine wp_loop_ghost (fun n a w => ∃ (x2 : Int) (g : G), w = g.w ∧ St 20 [(10, (Zbd.sl.pd a0.Acts)), (11, (pInt .i64 (a0.Acts.length : Int))), (12, (pInt .i64 x2))] a g ∧ Base g0 g ∧ Zd3 a0 n x2 = some z9) (Int.toNat ((a0.Acts.length : Int) - (0 : Int)) + 1) ⟨(0 : Int), g, rfl, (hst.pick [0, 1, 2] rfl), hb, hz1⟩ (fun n a w hI => ?_)
     obtain ⟨x2, g, rfl, hst, hb, H1⟩ := hI
     cases n with
     | zero => exact absurd H1 (by simp [Zd3])
     | succ n =>
       rw [Zd3] at H1
       refine r_s (T := [⟨[.old 2, .old 1], _, [], [], [13]⟩]) (F := [.old 0, .old 1, .old 2, .op 0 0]) hst hb Za
         (o_p rfl (Zcd rfl rfl u_0 u_1) <| o_n) (by kernel_rfl) (fun a g hst hb => ?_)
       refine wp_seq ?_
       refine wp_cond_split (hst.bool 3 rfl) (fun hc3 => ?_) (fun hc3 => ?_)
       · replace H1 := Zv hc3 H1
         refine wp_skip ?_
         refine Zr ?_
         refine wp_seq ?_
         refine wp_block ?_
         obtain ⟨e4, h5, H1⟩ := Zh H1
         refine r_s (L := [(10, _), (11, _), (12, _)]) (T := [⟨[.old 0, .old 2], _, [], [], [14]⟩, ⟨[.op 0 0], _, [], [0], [15]⟩, ⟨[], [(4, (pBox Zbd 4 (default : Z2)))], [5], [], [4]⟩, ⟨[.op 1 0, .op 2 0], _, [5], [0, 1, 2], [4]⟩]) (F := [.op 3 0, .old 0, .old 1, .old 2]) (hst.pick [0, 1, 2] rfl) hb Za
           (o_p rfl (Zbf Tryz.underlying50 Zrn rfl rfl u_0 u_1 h5) <| o_p rfl (Zf Zfi rfl rfl u_0) <| o_p rfl (Zbb (zs := [.int .i64 0, .string ByteArray.empty, .int .i64 0, .float .f64 0, .string ByteArray.empty, .int .i64 0, .int .i64 0, .int .i64 0, .int .i64 0, .float .f64 0, .int .i64 0, .string ByteArray.empty, .slice none 0 0, .bool false]) (by kernel_rfl) (fun g => Zlt g) rfl rfl) <| o_p rfl (Zb3 Zfi rfl rfl u_1 u_0) <| o_n) (by kernel_rfl) (fun a g hst hb => ?_)
         obtain ⟨r6, h7, H1⟩ := Zh H1
         refine r_s (T := [⟨[.old 0], _, [], [], [16]⟩, ⟨[.op 0 0], _, [], [0], [17]⟩, ⟨[.op 1 0], _, [], [0, 1], [18]⟩]) (F := [.old 1, .old 2, .old 3, .op 2 0]) hst hb Za
           (o_p rfl (Zf Zfi rfl rfl u_0) <| o_p rfl (Zn Z9g (Zqy _ h7) rfl rfl (.cons u_0 .nil)) <| o_p rfl (Zcl rfl rfl u_0 c_i) <| o_n) (by kernel_rfl) (fun a g hst hb => ?_)
         refine wp_cond_split (hst.bool 3 rfl) (fun hc8 => ?_) (fun hc8 => ?_)
         · replace H1 := Zv hc8 H1
           refine r_s (L := []) (T := [⟨[], _, [], [], [2]⟩]) (F := [.op 0 0]) (hst.pick [] rfl) hb Za
             (o_p rfl (Zc rfl rfl c_i) <| o_n) (by kernel_rfl) (fun a g hst hb => ?_)
           refine wp_ret ?_
           refine Z1 ?_
           refine Zp ?_
           refine Zp ?_
           refine Z1 ?_
           refine Zp ?_
           refine Zp ?_
           obtain rfl := Option.some.inj H1
           obtain rfl := Option.some.inj H0
           exact Z0 rfl hst hb (Zk (s := 2)) (hst.at 0 rfl)
         · replace H1 := Zw hc8 H1
           refine wp_skip ?_
           refine Zbe ?_
           refine Zr ?_
           refine r_g (L := [(10, _), (11, _), (12, _)]) (T := [⟨[.old 2], _, [], [], [19]⟩, ⟨[.op 0 0], _, [], [0], [12]⟩]) (F := [.old 0, .old 1, .op 1 0]) (hst.pick [0, 1, 2] rfl) hb Za
             (o_p rfl (Zb4 rfl rfl u_0 c_i rfl) <| o_p rfl (Zb rfl rfl u_0) <| o_n) (by kernel_rfl) (fun a g hst hb => ?_)
           exact ⟨n, Nat.lt_succ_self _, (IntKind.i64.wrap (x2 + (1 : Int))), g, rfl, (hst.pick [0, 1, 2] rfl), hb, H1⟩
       · replace H1 := Zw hc3 H1
         refine wp_exit ?_
         refine Zb6 ?_
         refine Zb6 ?_
         refine Zcn ?_
         exact ⟨g, rfl, (hst.pick [] rfl), hb, Option.some.inj H1⟩
end Go.CL
set_option linter.unusedVariables false
set_option linter.unusedSimpArgs false
set_option maxRecDepth 100000
namespace Go.CL
open Go Go.RowKit Go.Proofs
theorem Zq9 (a0 : List Zb0) {r : Int} (h : Zi4 a0 = some r) : FnOk Tryz.prog 8 [(Zcq.sl.pd a0)] (pInt .i64 r) := by
 have H0 := h
 unfold Zi4 at H0
 clear h
 refine Zbn (N := 18) Tryz.func8 rfl rfl (Nat.le_of_ble_eq_true rfl) rfl rfl (fun a g0 hst hb => ?_)
 refine r_s (T := [⟨[], _, [], [], [2]⟩]) (F := [.old 0]) hst hb Za
   (o_p rfl (Zc rfl rfl c_i) <| o_n) (by kernel_rfl) (fun a g hst hb => ?_)
 refine wp_seq ?_
 refine r_s (T := [⟨[.old 0], _, [], [], [5]⟩, ⟨[.op 0 0], _, [], [0], [6]⟩, ⟨[.op 1 0], _, [], [0, 1], [7]⟩]) (F := [.old 0, .op 2 0]) hst hb Za
   (o_p rfl (Zb rfl rfl u_0) <| o_p rfl (Zby Tryz.underlying23 rfl rfl u_0) <| o_p rfl (Zcl rfl rfl u_0 c_i) <| o_n) (by kernel_rfl) (fun a g hst hb => ?_)
 refine wp_cond_split (hst.bool 1 rfl) (fun hc1 => ?_) (fun hc1 => ?_)
 · replace H0 := Zv hc1 H0
   refine r_s (L := []) (T := [⟨[], _, [], [], [2]⟩]) (F := [.op 0 0]) (hst.pick [] rfl) hb Za
     (o_p rfl (Zc rfl rfl c_i) <| o_n) (by kernel_rfl) (fun a g hst hb => ?_)
   refine wp_ret ?_
   refine Zp ?_
   obtain rfl := Option.some.inj H0
   exact Z0 rfl hst hb (Zk (s := 2)) (hst.at 0 rfl)
 · replace H0 := Zw hc1 H0
   refine wp_skip ?_
   refine Zr ?_
   refine wp_seq ?_
   refine r_s (L := [(0, _)]) (T := [⟨[.old 0], _, [], [], [8]⟩, ⟨[.op 0 0], _, [], [0], [9]⟩, ⟨[], _, [], [], [10]⟩]) (F := [.op 0 0, .op 1 0, .op 2 0]) (hst.pick [0] rfl) hb Za
     (o_p rfl (Zb rfl rfl u_0) <| o_p rfl (Zby Tryz.underlying23 rfl rfl u_0) <| o_p rfl (Zb rfl rfl c_i) <| o_n) (by kernel_rfl) (fun a g hst hb => ?_)
   obtain ⟨z9, hz1, H0⟩ := Zh H0
   refine Zcb (fun a w => ∃ (g : G), w = g.w ∧ St 18 [] a g ∧ Base g0 g ∧ (.inr ()) = z9) ?_ ?_
   · rintro a w ⟨g, rfl, hst, hb, rfl⟩
     refine Zr ?_
     refine r_s (T := [⟨[], _, [], [], [2]⟩]) (F := [.op 0 0]) hst hb Za
       (o_p rfl (Zc rfl rfl c_i) <| o_n) (by kernel_rfl) (fun a g hst hb => ?_)
     refine wp_ret ?_
     obtain rfl := Option.some.inj H0
     exact Z0 rfl hst hb (Zk (s := 2)) (hst.at 0 rfl)
   · refine wp_block ?_
     refine wp_loop_ghost (fun n a w => ∃ (x2 : Int) (g : G), w = g.w ∧ St 18 [(8, (Zcq.sl.pd a0)), (9, (pInt .i64 (a0.length : Int))), (10, (pInt .i64 x2))] a g ∧ Base g0 g ∧ Zd7 a0 n x2 = some z9) (Int.toNat ((a0.length : Int) - (0 : Int)) + 1) ⟨(0 : Int), g, rfl, (hst.pick [0, 1, 2] rfl), hb, hz1⟩ (fun n a w hI => ?_)
     obtain ⟨x2, g, rfl, hst, hb, H1⟩ := hI
     cases n with
     | zero => exact absurd H1 (by simp [Zd7])
     | succ n =>
       rw [Zd7] at H1
       refine r_s (T := [⟨[.old 2, .old 1], _, [], [], [11]⟩]) (F := [.old 0, .old 1, .old 2, .op 0 0]) hst hb Za
         (o_p rfl (Zcd rfl rfl u_0 u_1) <| o_n) (by kernel_rfl) (fun a g hst hb => ?_)
       refine wp_seq ?_
       refine wp_cond_split (hst.bool 3 rfl) (fun hc3 => ?_) (fun hc3 => ?_)
       · replace H1 := Zv hc3 H1
         refine wp_skip ?_
         refine Zr ?_
         refine wp_seq ?_
         refine wp_block ?_
         obtain ⟨e4, h5, H1⟩ := Zh H1
         refine r_s (L := [(8, _), (9, _), (10, _)]) (T := [⟨[.old 0, .old 2], _, [], [], [12]⟩, ⟨[.op 0 0], _, [], [0], [13]⟩, ⟨[], [(4, (pBox Zcq 4 (default : Zb0)))], [5], [], [4]⟩, ⟨[.op 1 0, .op 2 0], _, [5], [0, 1, 2], [4]⟩]) (F := [.op 3 0, .old 0, .old 1, .old 2]) (hst.pick [0, 1, 2] rfl) hb Za
           (o_p rfl (Zbf Tryz.underlying23 Zz2 rfl rfl u_0 u_1 h5) <| o_p rfl (Zf Znb rfl rfl u_0) <| o_p rfl (Zbb (zs := [.slice none 0 0]) (by kernel_rfl) (fun g => Zsc g) rfl rfl) <| o_p rfl (Zb3 Znb rfl rfl u_1 u_0) <| o_n) (by kernel_rfl) (fun a g hst hb => ?_)
         obtain ⟨r6, h7, H1⟩ := Zh H1
         refine r_s (T := [⟨[.old 0], _, [], [], [14]⟩, ⟨[.op 0 0], _, [], [0], [15]⟩, ⟨[.op 1 0], _, [], [0, 1], [16]⟩]) (F := [.old 1, .old 2, .old 3, .op 2 0]) hst hb Za
           (o_p rfl (Zf Znb rfl rfl u_0) <| o_p rfl (Zn Z8k (Zq8 _ h7) rfl rfl (.cons u_0 .nil)) <| o_p rfl (Zcl rfl rfl u_0 c_i) <| o_n) (by kernel_rfl) (fun a g hst hb => ?_)
         refine wp_cond_split (hst.bool 3 rfl) (fun hc8 => ?_) (fun hc8 => ?_)
         · replace H1 := Zv hc8 H1
           refine r_s (L := []) (T := [⟨[], _, [], [], [2]⟩]) (F := [.op 0 0]) (hst.pick [] rfl) hb Za
             (o_p rfl (Zc rfl rfl c_i) <| o_n) (by kernel_rfl) (fun a g hst hb => ?_)
           refine wp_ret ?_
           refine Z1 ?_
           refine Zp ?_
           refine Zp ?_
           refine Z1 ?_
           refine Zp ?_
           refine Zp ?_
           obtain rfl := Option.some.inj H1
           obtain rfl := Option.some.inj H0
           exact Z0 rfl hst hb (Zk (s := 2)) (hst.at 0 rfl)
         · replace H1 := Zw hc8 H1
           refine wp_skip ?_
           refine Zbe ?_
           refine Zr ?_
           refine r_g (L := [(8, _), (9, _), (10, _)]) (T := [⟨[.old 2], _, [], [], [17]⟩, ⟨[.op 0 0], _, [], [0], [10]⟩]) (F := [.old 0, .old 1, .op 1 0]) (hst.pick [0, 1, 2] rfl) hb Za
             (o_p rfl (Zb4 rfl rfl u_0 c_i rfl) <| o_p rfl (Zb rfl rfl u_0) <| o_n) (by kernel_rfl) (fun a g hst hb => ?_)
           exact ⟨n, Nat.lt_succ_self _, (IntKind.i64.wrap (x2 + (1 : Int))), g, rfl, (hst.pick [0, 1, 2] rfl), hb, H1⟩
       · replace H1 := Zw hc3 H1
         refine wp_exit ?_
         refine Zb6 ?_
         refine Zb6 ?_
         refine Zcn ?_
         exact ⟨g, rfl, (hst.pick [] rfl), hb, Option.some.inj H1⟩
end Go.CL
set_option linter.unusedVariables false
set_option linter.unusedSimpArgs false
set_option maxRecDepth 100000
namespace Go.CL
open Go Go.RowKit Go.Proofs
theorem Zke (a0 : Ze) (a1 : Ze) {r : Bool} (h : Zf4 a0 a1 = some r) : FnOk Tryz.prog 29 [(Zi.pd a0), (Zi.pd a1)] (Zbg r) := by
 have H0 := h
 unfold Zf4 at H0
 clear h
 refine Zbn (N := 97) Tryz.func29 rfl rfl (Nat.le_of_ble_eq_true rfl) rfl rfl (fun a g0 hst hb => ?_)
 refine r_s (T := [⟨[.old 0], _, [], [], [2]⟩, ⟨[.old 1], _, [], [], [3]⟩, ⟨[], _, [], [], [4]⟩]) (F := [.op 0 0, .op 1 0]) hst hb Za
   (o_p rfl (Zbj rfl rfl u_0) <| o_p rfl (Zbj rfl rfl u_0) <| o_p rfl (Zc rfl rfl c_b) <| o_n) (by kernel_rfl) (fun a g hst hb => ?_)
 refine wp_seq ?_
 refine r_s (T := ⟨[.old 0], _, [], [], [6]⟩ :: ⟨[.op 0 0], _, [], [0], [7]⟩ :: ⟨[.old 1], _, [], [], [8]⟩ :: ⟨[.op 2 0], _, [], [2], [9]⟩ :: ⟨[.op 1 0, .op 3 0], _, [], List.range 4, [10]⟩ :: ⟨[.op 4 0], _, [], List.range 5, [11]⟩ :: ⟨[.op 5 0, .old 0], _, [], List.range 6, [12]⟩ :: ⟨[.op 5 0, .op 6 0], _, [], List.range 7, [13]⟩ :: ⟨[.op 5 0, .old 1], _, [], List.range 6, [14]⟩ :: ⟨[.op 5 0, .op 8 0], _, [], [0, 1, 2, 3, 4, 5, 8], [15]⟩ :: ⟨[.op 5 0, .op 7 0, .op 9 0], _, [], List.range 10, [16]⟩ :: ⟨[.op 5 0, .op 10 0], _, [], List.range 11, [17]⟩ :: ⟨[.op 11 0], _, [], List.range 12, [18]⟩ :: ⟨[.op 12 0, .old 0], _, [], List.range 13, [19]⟩ :: ⟨[.op 12 0, .op 13 0], _, [], List.range 14, [20]⟩ :: ⟨[.op 12 0, .old 1], _, [], List.range 13, [21]⟩ :: ⟨[.op 12 0, .op 15 0], _, [], 0 :: 1 :: 2 :: 3 :: 4 :: 5 :: 6 :: 7 :: 8 :: 9 :: 10 :: 11 :: 12 :: 15 :: [], [22]⟩ :: ⟨[.op 12 0, .op 14 0, .op 16 0], _, [], List.range 17, [23]⟩ :: ⟨[.op 12 0, .op 17 0], _, [], List.range 18, [24]⟩ :: ⟨[.op 18 0], _, [], List.range 19, [25]⟩ :: ⟨[.op 19 0, .old 0], _, [], List.range 20, [26]⟩ :: ⟨[.op 19 0, .op 20 0], _, [], List.range 21, [27]⟩ :: ⟨[.op 19 0, .old 1], _, [], List.range 20, [28]⟩ :: ⟨[.op 19 0, .op 22 0], _, [], 0 :: 1 :: 2 :: 3 :: 4 :: 5 :: 6 :: 7 :: 8 :: 9 :: 10 :: 11 :: 12 :: 13 :: 14 :: 15 :: 16 :: 17 :: 18 :: 19 :: 22 :: [], [29]⟩ :: ⟨[.op 19 0, .op 21 0, .op 23 0], _, [], List.range 24, [30]⟩ :: ⟨[.op 19 0, .op 24 0], _, [], List.range 25, [31]⟩ :: ⟨[.op 25 0], _, [], List.range 26, [32]⟩ :: ⟨[.op 26 0, .old 0], _, [], List.range 27, [33]⟩ :: ⟨[.op 26 0, .op 27 0], _, [], List.range 28, [34]⟩ :: ⟨[.op 26 0, .old 1], _, [], List.range 27, [35]⟩ :: ⟨[.op 26 0, .op 29 0], _, [], 0 :: 1 :: 2 :: 3 :: 4 :: 5 :: 6 :: 7 :: 8 :: 9 :: 10 :: 11 :: 12 :: 13 :: 14 :: 15 :: 16 :: 17 :: 18 :: 19 :: 20 :: 21 :: 22 :: 23 :: 24 :: 25 :: 26 :: 29 :: [], [36]⟩ :: ⟨[.op 26 0, .op 28 0, .op 30 0], _, [], List.range 31, [37]⟩ :: ⟨[.op 26 0, .op 31 0], _, [], List.range 32, [38]⟩ :: ⟨[.op 32 0], _, [], List.range 33, [39]⟩ :: ⟨[.op 33 0, .old 0], _, [], List.range 34, [40]⟩ :: ⟨[.op 33 0, .op 34 0], _, [], List.range 35, [41]⟩ :: ⟨[.op 33 0, .old 1], _, [], List.range 34, [42]⟩ :: ⟨[.op 33 0, .op 36 0], _, [], 0 :: 1 :: 2 :: 3 :: 4 :: 5 :: 6 :: 7 :: 8 :: 9 :: 10 :: 11 :: 12 :: 13 :: 14 :: 15 :: 16 :: 17 :: 18 :: 19 :: 20 :: 21 :: 22 :: 23 :: 24 :: 25 :: 26 :: 27 :: 28 :: 29 :: 30 :: 31 :: 32 :: 33 :: 36 :: [], [43]⟩ :: ⟨[.op 33 0, .op 35 0, .op 37 0], _, [], List.range 38, [44]⟩ :: ⟨[.op 33 0, .op 38 0], _, [], List.range 39, [45]⟩ :: []) (F := [.old 0, .old 1, .op 39 0]) hst hb Za
   (o_p rfl (Zd Zfp rfl rfl u_0) <| o_p rfl (Zf ty_3 rfl rfl u_0) <| o_p rfl (Zd Zfp rfl rfl u_0) <| o_p rfl (Zf ty_3 rfl rfl u_0) <| o_p rfl (Zc5 rfl rfl u_0 u_1) <| o_p rfl (Zb rfl rfl u_0) <| o_g (g_f rfl rfl rfl (fun hG => Zd Zcr rfl rfl u_0)) <| o_g (g_f rfl rfl rfl (fun hG => Zf ty_2 rfl rfl (Opd.gd hG u_0))) <| o_g (g_f rfl rfl rfl (fun hG => Zd Zcr rfl rfl u_0)) <| o_g (g_f rfl rfl rfl (fun hG => Zf ty_2 rfl rfl (Opd.gd hG u_0))) <| o_g (g_f rfl rfl rfl (fun hG => Zc5 rfl rfl (Opd.gd hG u_0) (Opd.gd hG u_1))) <| o_p rfl (Zbr rfl rfl u_0 (fun hz => (Opd.gd (bNF hz) u_1))) <| o_p rfl (Zb rfl rfl u_0) <| o_g (g_f rfl rfl rfl (fun hG => Zd Zil rfl rfl u_0)) <| o_g (g_f rfl rfl rfl (fun hG => Zf ty_2 rfl rfl (Opd.gd hG u_0))) <| o_g (g_f rfl rfl rfl (fun hG => Zd Zil rfl rfl u_0)) <| o_g (g_f rfl rfl rfl (fun hG => Zf ty_2 rfl rfl (Opd.gd hG u_0))) <| o_g (g_f rfl rfl rfl (fun hG => Zc5 rfl rfl (Opd.gd hG u_0) (Opd.gd hG u_1))) <| o_p rfl (Zbr rfl rfl u_0 (fun hz => (Opd.gd (bNF hz) u_1))) <| o_p rfl (Zb rfl rfl u_0) <| o_g (g_f rfl rfl rfl (fun hG => Zd Zik rfl rfl u_0)) <| o_g (g_f rfl rfl rfl (fun hG => Zf ty_2 rfl rfl (Opd.gd hG u_0))) <| o_g (g_f rfl rfl rfl (fun hG => Zd Zik rfl rfl u_0)) <| o_g (g_f rfl rfl rfl (fun hG => Zf ty_2 rfl rfl (Opd.gd hG u_0))) <| o_g (g_f rfl rfl rfl (fun hG => Zc5 rfl rfl (Opd.gd hG u_0) (Opd.gd hG u_1))) <| o_p rfl (Zbr rfl rfl u_0 (fun hz => (Opd.gd (bNF hz) u_1))) <| o_p rfl (Zb rfl rfl u_0) <| o_g (g_f rfl rfl rfl (fun hG => Zd Zf8 rfl rfl u_0)) <| o_g (g_f rfl rfl rfl (fun hG => Zf ty_3 rfl rfl (Opd.gd hG u_0))) <| o_g (g_f rfl rfl rfl (fun hG => Zd Zf8 rfl rfl u_0)) <| o_g (g_f rfl rfl rfl (fun hG => Zf ty_3 rfl rfl (Opd.gd hG u_0))) <| o_g (g_f rfl rfl rfl (fun hG => Zc5 rfl rfl (Opd.gd hG u_0) (Opd.gd hG u_1))) <| o_p rfl (Zbr rfl rfl u_0 (fun hz => (Opd.gd (bNF hz) u_1))) <| o_p rfl (Zb rfl rfl u_0) <| o_g (g_f rfl rfl rfl (fun hG => Zd Zh6 rfl rfl u_0)) <| o_g (g_f rfl rfl rfl (fun hG => Zf ty_9 rfl rfl (Opd.gd hG u_0))) <| o_g (g_f rfl rfl rfl (fun hG => Zd Zh6 rfl rfl u_0)) <| o_g (g_f rfl rfl rfl (fun hG => Zf ty_9 rfl rfl (Opd.gd hG u_0))) <| o_g (g_f rfl rfl rfl (fun hG => Znk rfl rfl (Opd.gd hG u_0) (Opd.gd hG u_1))) <| o_p rfl (Zbr rfl rfl u_0 (fun hz => (Opd.gd (bNF hz) u_1))) <| o_n) (by kernel_rfl) (fun a g hst hb => ?_)
 refine wp_cond_split (hst.bool 2 rfl) (fun hc1 => ?_) (fun hc1 => ?_)
 · replace H0 := Zv hc1 H0
   refine r_s (L := []) (T := [⟨[], _, [], [], [4]⟩]) (F := [.op 0 0]) (hst.pick [] rfl) hb Za
     (o_p rfl (Zc rfl rfl c_b) <| o_n) (by kernel_rfl) (fun a g hst hb => ?_)
   refine wp_ret ?_
   refine Zp ?_
   obtain rfl := Option.some.inj H0
   exact Z0 rfl hst hb (Zk (s := 4)) (hst.at 0 rfl)
 · replace H0 := Zw hc1 H0
   refine wp_skip ?_
   refine Zr ?_
   refine wp_seq ?_
   obtain ⟨r2, h3, H0⟩ := Zh H0
   refine r_s (L := [(2, _), (3, _)]) (T := ⟨[.old 0], _, [], [], [46]⟩ :: ⟨[.op 0 0], _, [], [0], [47]⟩ :: ⟨[.old 1], _, [], [], [48]⟩ :: ⟨[.op 2 0], _, [], [2], [49]⟩ :: ⟨[.op 1 0, .op 3 0], _, [], List.range 4, [50]⟩ :: ⟨[.op 4 0], _, [], List.range 5, [51]⟩ :: ⟨[.op 5 0], _, [], List.range 6, [52]⟩ :: ⟨[.op 6 0, .old 0], _, [], List.range 7, [53]⟩ :: ⟨[.op 6 0, .op 7 0], _, [], List.range 8, [54]⟩ :: ⟨[.op 6 0, .op 8 0], _, [], List.range 9, [55]⟩ :: ⟨[.op 6 0, .old 1], _, [], List.range 7, [56]⟩ :: ⟨[.op 6 0, .op 10 0], _, [], [0, 1, 2, 3, 4, 5, 6, 10], [57]⟩ :: ⟨[.op 6 0, .op 11 0], _, [], [0, 1, 2, 3, 4, 5, 6, 10, 11], [58]⟩ :: ⟨[.op 6 0, .op 9 0, .op 12 0], _, [], List.range 13, [59]⟩ :: ⟨[.op 6 0, .op 13 0], _, [], List.range 14, [60]⟩ :: []) (F := [.old 0, .old 1, .op 14 0]) (hst.pick [0, 1] rfl) hb Za
     (o_p rfl (Zd Zfl rfl rfl u_0) <| o_p rfl (Zf Zct rfl rfl u_0) <| o_p rfl (Zd Zfl rfl rfl u_0) <| o_p rfl (Zf Zct rfl rfl u_0) <| o_p rfl (Zn Zri (Zfw _ _ h3) rfl rfl (.cons u_0 (.cons u_1 .nil))) <| o_p rfl (Zb7 rfl rfl u_0) <| o_p rfl (Zb rfl rfl u_0) <| o_g (g_f rfl rfl rfl (fun hG => Zd Zb9 rfl rfl u_0)) <| o_g (g_f rfl rfl rfl (fun hG => Zf Zcz rfl rfl (Opd.gd hG u_0))) <| o_g (g_f rfl rfl rfl (fun hG => Zby Tryz.underlying62 rfl rfl (Opd.gd hG u_0))) <| o_g (g_f rfl rfl rfl (fun hG => Zd Zb9 rfl rfl u_0)) <| o_g (g_f rfl rfl rfl (fun hG => Zf Zcz rfl rfl (Opd.gd hG u_0))) <| o_g (g_f rfl rfl rfl (fun hG => Zby Tryz.underlying62 rfl rfl (Opd.gd hG u_0))) <| o_g (g_f rfl rfl rfl (fun hG => Zc5 rfl rfl (Opd.gd hG u_0) (Opd.gd hG u_1))) <| o_p rfl (Zbr rfl rfl u_0 (fun hz => (Opd.gd (bNF hz) u_1))) <| o_n) (by kernel_rfl) (fun a g hst hb => ?_)
   refine wp_cond_split (hst.bool 2 rfl) (fun hc4 => ?_) (fun hc4 => ?_)
   · replace H0 := Zv hc4 H0
     refine r_s (L := []) (T := [⟨[], _, [], [], [4]⟩]) (F := [.op 0 0]) (hst.pick [] rfl) hb Za
       (o_p rfl (Zc rfl rfl c_b) <| o_n) (by kernel_rfl) (fun a g hst hb => ?_)
     refine wp_ret ?_
     refine Zp ?_
     obtain rfl := Option.some.inj H0
     exact Z0 rfl hst hb (Zk (s := 4)) (hst.at 0 rfl)
   · replace H0 := Zw hc4 H0
     refine wp_skip ?_
     refine Zr ?_
     refine wp_seq ?_
     refine r_s (L := [(2, _), (3, _)]) (T := [⟨[], _, [], [], [5]⟩]) (F := [.old 0, .old 1, .op 0 0]) (hst.pick [0, 1] rfl) hb Za
       (o_p rfl (Zc rfl rfl c_i) <| o_n) (by kernel_rfl) (fun a g hst hb => ?_)
     obtain ⟨z18, hz1, H0⟩ := Zh H0
     refine Zcb (fun a w => ∃ (g : G), w = g.w ∧ St 97 [] a g ∧ Base g0 g ∧ (.inr ()) = z18) ?_ ?_
     · rintro a w ⟨g, rfl, hst, hb, rfl⟩
       refine Zr ?_
       refine r_s (T := [⟨[], _, [], [], [4]⟩]) (F := [.op 0 0]) hst hb Za
         (o_p rfl (Zc rfl rfl c_b) <| o_n) (by kernel_rfl) (fun a g hst hb => ?_)
       refine wp_ret ?_
       obtain rfl := Option.some.inj H0
       exact Z0 rfl hst hb (Zk (s := 4)) (hst.at 0 rfl)
     · refine wp_block ?_
       refine wp_loop_ghost (fun n a w => ∃ (x5 : Int) (g : G), w = g.w ∧ St 97 [(2, (Zi.ptr a0)), (3, (Zi.ptr a1)), (5, (pInt .i64 x5))] a g ∧ Base g0 g ∧ Zef a0 a1 n x5 = some z18) (Int.toNat ((a0.List.length : Int) - (0 : Int)) + 1) ⟨(0 : Int), g, rfl, (hst.pick [0, 1, 2] rfl), hb, hz1⟩ (fun n a w hI => ?_)
       obtain ⟨x5, g, rfl, hst, hb, H1⟩ := hI
       cases n with
       | zero => exact absurd H1 (by simp [Zef])
       | succ n =>
         rw [Zef] at H1
         refine wp_seq ?_
         refine r_s (T := [⟨[.old 2], _, [], [], [61]⟩, ⟨[.old 0], _, [], [], [62]⟩, ⟨[.op 1 0], _, [], [1], [63]⟩, ⟨[.op 2 0], _, [], [1, 2], [64]⟩, ⟨[.op 0 0, .op 3 0], _, [], List.range 4, [65]⟩]) (F := [.old 0, .old 1, .old 2, .op 4 0]) hst hb Za
           (o_p rfl (Zb rfl rfl u_0) <| o_p rfl (Zd Zb9 rfl rfl u_0) <| o_p rfl (Zf Zcz rfl rfl u_0) <| o_p rfl (Zby Tryz.underlying62 rfl rfl u_0) <| o_p rfl (Zcd rfl rfl u_0 u_1) <| o_n) (by kernel_rfl) (fun a g hst hb => ?_)
         refine wp_cond_split (hst.bool 3 rfl) (fun hc6 => ?_) (fun hc6 => ?_)
         · replace H1 := Zv hc6 H1
           refine wp_skip ?_
           refine Zr ?_
           refine wp_seq ?_
           refine wp_block ?_
           obtain ⟨e7, h8, H1⟩ := Zh H1; obtain ⟨e9, h10, H1⟩ := Zh H1; obtain ⟨e11, h12, H1⟩ := Zh H1; obtain ⟨e13, h14, H1⟩ := Zh H1; obtain ⟨r15, h16, H1⟩ := Zh H1
           refine r_s (L := [(2, _), (3, _), (5, _)]) (T := ⟨[.old 0], _, [], [], [68]⟩ :: ⟨[.op 0 0], _, [], [0], [69]⟩ :: ⟨[.old 2], _, [], [], [70]⟩ :: ⟨[.op 1 0, .op 2 0], _, [], [0, 1, 2], [71]⟩ :: ⟨[.op 3 0], _, [], List.range 4, [72]⟩ :: ⟨[.op 4 0], _, [], List.range 5, [73]⟩ :: ⟨[.old 1], _, [], [], [74]⟩ :: ⟨[.op 6 0], _, [], [6], [75]⟩ :: ⟨[.old 2], _, [], [], [76]⟩ :: ⟨[.op 7 0, .op 8 0], _, [], [6, 7, 8], [77]⟩ :: ⟨[.op 9 0], _, [], List.range' 6 4, [78]⟩ :: ⟨[.op 10 0], _, [], List.range' 6 5, [79]⟩ :: ⟨[.op 5 0, .op 11 0], _, [], List.range 12, [80]⟩ :: ⟨[.op 12 0], _, [], List.range 13, [81]⟩ :: ⟨[.op 13 0, .old 0], _, [], List.range 14, [82]⟩ :: ⟨[.op 13 0, .op 14 0], _, [], List.range 15, [83]⟩ :: ⟨[.op 13 0, .old 2], _, [], List.range 14, [84]⟩ :: ⟨[.op 13 0, .op 15 0, .op 16 0], _, [], List.range 17, [85]⟩ :: ⟨[.op 13 0, .op 17 0], _, [], List.range 18, [86]⟩ :: ⟨[.op 13 0, .op 18 0], _, [], List.range 19, [87]⟩ :: ⟨[.op 13 0, .old 1], _, [], List.range 14, [88]⟩ :: ⟨[.op 13 0, .op 20 0], _, [], 0 :: 1 :: 2 :: 3 :: 4 :: 5 :: 6 :: 7 :: 8 :: 9 :: 10 :: 11 :: 12 :: 13 :: 20 :: [], [89]⟩ :: ⟨[.op 13 0, .old 2], _, [], List.range 14, [90]⟩ :: ⟨[.op 13 0, .op 21 0, .op 22 0], _, [], 0 :: 1 :: 2 :: 3 :: 4 :: 5 :: 6 :: 7 :: 8 :: 9 :: 10 :: 11 :: 12 :: 13 :: 20 :: 21 :: 22 :: [], [91]⟩ :: ⟨[.op 13 0, .op 23 0], _, [], 0 :: 1 :: 2 :: 3 :: 4 :: 5 :: 6 :: 7 :: 8 :: 9 :: 10 :: 11 :: 12 :: 13 :: 20 :: 21 :: 22 :: 23 :: [], [92]⟩ :: ⟨[.op 13 0, .op 24 0], _, [], 0 :: 1 :: 2 :: 3 :: 4 :: 5 :: 6 :: 7 :: 8 :: 9 :: 10 :: 11 :: 12 :: 13 :: 20 :: 21 :: 22 :: 23 :: 24 :: [], [93]⟩ :: ⟨[.op 13 0, .op 19 0, .op 25 0], _, [], List.range 26, [94]⟩ :: ⟨[.op 13 0, .op 26 0], _, [], List.range 27, [95]⟩ :: ⟨[.op 13 0, .op 27 0], _, [], List.range 28, [96]⟩ :: []) (F := [.old 0, .old 1, .old 2, .op 28 0]) (hst.pick [0, 1, 2] rfl) hb Za
             (o_p rfl (Zd Zb9 rfl rfl u_0) <| o_p rfl (Zf Zcz rfl rfl u_0) <| o_p rfl (Zb rfl rfl u_0) <| o_p rfl (Zbf Tryz.underlying62 Zen rfl rfl u_0 u_1 h8) <| o_p rfl (Zd Zdm rfl rfl u_0) <| o_p rfl (Zf ty_9 rfl rfl u_0) <| o_p rfl (Zd Zb9 rfl rfl u_0) <| o_p rfl (Zf Zcz rfl rfl u_0) <| o_p rfl (Zb rfl rfl u_0) <| o_p rfl (Zbf Tryz.underlying62 Zen rfl rfl u_0 u_1 h10) <| o_p rfl (Zd Zdm rfl rfl u_0) <| o_p rfl (Zf ty_9 rfl rfl u_0) <| o_p rfl (Znk rfl rfl u_0 u_1) <| o_p rfl (Zb rfl rfl u_0) <| o_g (g_f rfl rfl rfl (fun hG => Zd Zb9 rfl rfl u_0)) <| o_g (g_f rfl rfl rfl (fun hG => Zf Zcz rfl rfl (Opd.gd hG u_0))) <| o_g (g_f rfl rfl rfl (fun hG => Zb rfl rfl u_0)) <| o_g (g_f rfl rfl rfl (fun hG => Zbf Tryz.underlying62 Zen rfl rfl (Opd.gd hG u_0) (Opd.gd hG u_1) (Zbl h12 hG))) <| o_g (g_f rfl rfl rfl (fun hG => Zd Ze7 rfl rfl (Opd.gd hG u_0))) <| o_g (g_f rfl rfl rfl (fun hG => Zf Zct rfl rfl (Opd.gd hG u_0))) <| o_g (g_f rfl rfl rfl (fun hG => Zd Zb9 rfl rfl u_0)) <| o_g (g_f rfl rfl rfl (fun hG => Zf Zcz rfl rfl (Opd.gd hG u_0))) <| o_g (g_f rfl rfl rfl (fun hG => Zb rfl rfl u_0)) <| o_g (g_f rfl rfl rfl (fun hG => Zbf Tryz.underlying62 Zen rfl rfl (Opd.gd hG u_0) (Opd.gd hG u_1) (Zbl h14 hG))) <| o_g (g_f rfl rfl rfl (fun hG => Zd Ze7 rfl rfl (Opd.gd hG u_0))) <| o_g (g_f rfl rfl rfl (fun hG => Zf Zct rfl rfl (Opd.gd hG u_0))) <| o_g (g_f rfl rfl rfl (fun hG => Zn Zri (Zfw _ _ (Zbl h16 hG)) rfl rfl (.cons (Opd.gd hG u_0) (.cons (Opd.gd hG u_1) .nil)))) <| o_g (g_f rfl rfl rfl (fun hG => Zb7 rfl rfl (Opd.gd hG u_0))) <| o_p rfl (Zbr rfl rfl u_0 (fun hz => (Opd.gd (bNF hz) u_1))) <| o_n) (by kernel_rfl) (fun a g hst hb => ?_)
           refine wp_cond_split (hst.bool 3 rfl) (fun hc17 => ?_) (fun hc17 => ?_)
           · replace H1 := Zv hc17 H1
             refine r_s (L := []) (T := [⟨[], _, [], [], [4]⟩]) (F := [.op 0 0]) (hst.pick [] rfl) hb Za
               (o_p rfl (Zc rfl rfl c_b) <| o_n) (by kernel_rfl) (fun a g hst hb => ?_)
             refine wp_ret ?_
             refine Z1 ?_
             refine Zp ?_
             refine Zp ?_
             refine Z1 ?_
             refine Zp ?_
             refine Zp ?_
             obtain rfl := Option.some.inj H1
             obtain rfl := Option.some.inj H0
             exact Z0 rfl hst hb (Zk (s := 4)) (hst.at 0 rfl)
           · replace H1 := Zw hc17 H1
             refine wp_skip ?_
             refine Zbe ?_
             refine Zr ?_
             refine r_g (L := [(2, _), (3, _), (5, _)]) (T := [⟨[.old 2], _, [], [], [66]⟩, ⟨[.op 0 0], _, [], [0], [67]⟩, ⟨[.op 1 0], _, [], [0, 1], [5]⟩]) (F := [.old 0, .old 1, .op 2 0]) (hst.pick [0, 1, 2] rfl) hb Za
               (o_p rfl (Zb rfl rfl u_0) <| o_p rfl (Zb4 rfl rfl u_0 c_i rfl) <| o_p rfl (Zc rfl rfl u_0) <| o_n) (by kernel_rfl) (fun a g hst hb => ?_)
             exact ⟨n, Nat.lt_succ_self _, (IntKind.i64.wrap (x5 + (1 : Int))), g, rfl, (hst.pick [0, 1, 2] rfl), hb, H1⟩
         · replace H1 := Zw hc6 H1
           refine wp_exit ?_
           refine Zb6 ?_
           refine Zb6 ?_
           refine Zcn ?_
           exact ⟨g, rfl, (hst.pick [] rfl), hb, Option.some.inj H1⟩
end Go.CL
set_option linter.unusedVariables false
set_option linter.unusedSimpArgs false
set_option maxRecDepth 100000
namespace Go.CL
open Go Go.RowKit Go.Proofs
theorem Zpc (a0 : Int) {r : ByteArray} (h : Zkp a0 = some r) : FnOk Tryz.prog 123 [(pInt .i64 a0)] (pStr r) := by
 have H0 := h
 unfold Zkp at H0
 clear h
 refine Zbn (N := 15) Tryz.func123 rfl rfl (Nat.le_of_ble_eq_true rfl) rfl rfl (fun a g0 hst hb => ?_)
 refine r_s (T := [⟨[], _, [], [], [2]⟩]) (F := [.old 0]) hst hb Za
   (o_p rfl (Zc rfl rfl c_s) <| o_n) (by kernel_rfl) (fun a g hst hb => ?_)
 refine r_s (T := [⟨[], _, [], [], [4]⟩, ⟨[.op 0 0], _, [], [0], [3]⟩]) (F := [.old 0, .op 1 0]) hst hb Za
   (o_p rfl (Zgt Z1z (xs := [.const (.string ⟨#[]⟩), .const (.string ⟨#[109]⟩), .const (.string ⟨#[]⟩), .const (.string ⟨#[]⟩), .const (.string ⟨#[]⟩), .const (.string ⟨#[115]⟩), .const (.string ⟨#[115]⟩), .const (.string ⟨#[110]⟩), .const (.string ⟨#[110]⟩), .const (.string ⟨#[110]⟩), .const (.string ⟨#[110]⟩), .const (.string ⟨#[110]⟩), .const (.string ⟨#[110]⟩), .const (.string ⟨#[120]⟩), .const (.string ⟨#[120]⟩), .const (.string ⟨#[120]⟩), .const (.string ⟨#[120]⟩), .const (.string ⟨#[120]⟩), .const (.string ⟨#[115]⟩), .const (.string ⟨#[115]⟩), .const (.string ⟨#[115]⟩), .const (.string ⟨#[120, 115]⟩)]) (.cons c_s (.cons c_s (.cons c_s (.cons c_s (.cons c_s (.cons c_s (.cons c_s (.cons c_s (.cons c_s (.cons c_s (.cons c_s (.cons c_s (.cons c_s (.cons c_s (.cons c_s (.cons c_s (.cons c_s (.cons c_s (.cons c_s (.cons c_s (.cons c_s (.cons c_s .nil)))))))))))))))))))))) (by decide) rfl rfl) <| o_p rfl (Zc rfl rfl u_0) <| o_n) (by kernel_rfl) (fun a g hst hb => ?_)
 refine wp_seq ?_
 refine r_s (T := [⟨[.old 0], _, [], [], [5]⟩, ⟨[.op 0 0], _, [], [0], [6]⟩, ⟨[.op 1 0], _, [], [0, 1], [7]⟩, ⟨[.op 2 0, .old 0], _, [], [0, 1, 2], [8]⟩, ⟨[.op 2 0, .op 3 0], _, [], List.range 4, [9]⟩, ⟨[.op 2 0, .op 4 0], _, [], List.range 5, [10]⟩]) (F := [.old 0, .old 1, .op 5 0]) hst hb Za
   (o_p rfl (Zb rfl rfl u_0) <| o_p rfl (Zcd rfl rfl u_0 c_i) <| o_p rfl (Zb rfl rfl u_0) <| o_g (g_f rfl rfl rfl (fun hG => Zb rfl rfl u_0)) <| o_g (g_f rfl rfl rfl (fun hG => Zcl rfl rfl (Opd.gd hG u_0) c_i)) <| o_p rfl (Zbr rfl rfl u_0 (fun hz => (Opd.gd (bNF hz) u_1))) <| o_n) (by kernel_rfl) (fun a g hst hb => ?_)
 refine wp_cond_split (hst.bool 2 rfl) (fun hc1 => ?_) (fun hc1 => ?_)
 · replace H0 := Zv hc1 H0
   refine r_s (L := []) (T := [⟨[], _, [], [], [2]⟩]) (F := [.op 0 0]) (hst.pick [] rfl) hb Za
     (o_p rfl (Zc rfl rfl c_s) <| o_n) (by kernel_rfl) (fun a g hst hb => ?_)
   refine wp_ret ?_
   refine Zp ?_
   obtain rfl := Option.some.inj H0
   exact Z0 rfl hst hb (Zk (s := 2)) (hst.at 0 rfl)
 · replace H0 := Zw hc1 H0
   refine wp_skip ?_
   refine Zr ?_
   obtain ⟨e2, h3, H0⟩ := Zh H0
   refine r_s (L := [(0, _), (3, _)]) (T := [⟨[.old 1], _, [], [], [11]⟩, ⟨[.old 0], _, [], [], [12]⟩, ⟨[.op 0 0, .op 1 0], _, [], [0, 1], [13]⟩, ⟨[.op 2 0], _, [], [0, 1, 2], [14]⟩, ⟨[.op 3 0], _, [], List.range 4, [2]⟩]) (F := [.op 4 0]) (hst.pick [0, 1] rfl) hb Za
     (o_p rfl (Zb rfl rfl u_0) <| o_p rfl (Zb rfl rfl u_0) <| o_p rfl (Zbf Tryz.underlying162 sz_9 rfl rfl u_0 u_1 h3) <| o_p rfl (Zf ty_9 rfl rfl u_0) <| o_p rfl (Zc rfl rfl u_0) <| o_n) (by kernel_rfl) (fun a g hst hb => ?_)
   refine wp_ret ?_
   obtain rfl := Option.some.inj H0
   exact Z0 rfl hst hb (Zk (s := 2)) (hst.at 0 rfl)
end Go.CL
set_option linter.unusedVariables false
set_option linter.unusedSimpArgs false
set_option maxRecDepth 100000
namespace Go.CL
open Go Go.RowKit Go.Proofs
theorem Zkk (a0 : Int) (a1 : Int) {r : Bool} (h : Zdx a0 a1 = some r) : FnOk Tryz.prog 84 [(pInt .i64 a0), (pInt .u8 a1)] (Zbg r) := by
 have H0 := h
 unfold Zdx at H0
 clear h
 refine Zbn (N := 20) Tryz.func84 rfl rfl (Nat.le_of_ble_eq_true rfl) rfl rfl (fun a g0 hst hb => ?_)
 refine r_s (T := [⟨[], _, [], [], [4]⟩]) (F := [.old 0, .old 1]) hst hb Za
   (o_p rfl (Zc rfl rfl c_b) <| o_n) (by kernel_rfl) (fun a g hst hb => ?_)
 obtain ⟨r1, h2, H0⟩ := Zh H0
 refine r_s (T := [⟨[.old 0], _, [], [], [7]⟩, ⟨[.op 0 0], _, [], [0], [8]⟩, ⟨[.op 1 0], _, [], [0, 1], [5]⟩]) (F := [.old 1, .op 2 0]) hst hb Za
   (o_p rfl (Zb rfl rfl u_0) <| o_p rfl (Zn Z7i (Zpc _ h2) rfl rfl (.cons u_0 .nil)) <| o_p rfl (Zc rfl rfl u_0) <| o_n) (by kernel_rfl) (fun a g hst hb => ?_)
 refine wp_seq ?_
 refine r_s (T := [⟨[], _, [], [], [6]⟩]) (F := [.old 0, .old 1, .op 0 0]) hst hb Za
   (o_p rfl (Zc rfl rfl c_i) <| o_n) (by kernel_rfl) (fun a g hst hb => ?_)
 obtain ⟨z8, hz1, H0⟩ := Zh H0
 refine Zcb (fun a w => ∃ (g : G), w = g.w ∧ St 20 [] a g ∧ Base g0 g ∧ (.inr ()) = z8) ?_ ?_
 · rintro a w ⟨g, rfl, hst, hb, rfl⟩
   refine Zr ?_
   refine r_s (T := [⟨[], _, [], [], [4]⟩]) (F := [.op 0 0]) hst hb Za
     (o_p rfl (Zc rfl rfl c_b) <| o_n) (by kernel_rfl) (fun a g hst hb => ?_)
   refine wp_ret ?_
   obtain rfl := Option.some.inj H0
   exact Z0 rfl hst hb (Zk (s := 4)) (hst.at 0 rfl)
 · refine wp_block ?_
   refine wp_loop_ghost (fun n a w => ∃ (x3 : Int) (g : G), w = g.w ∧ St 20 [(1, (pInt .u8 a1)), (5, (pStr r1)), (6, (pInt .i64 x3))] a g ∧ Base g0 g ∧ Zhb a1 r1 n x3 = some z8) (Int.toNat ((r1.size : Int) - (0 : Int)) + 1) ⟨(0 : Int), g, rfl, (hst.pick [0, 1, 2] rfl), hb, hz1⟩ (fun n a w hI => ?_)
   obtain ⟨x3, g, rfl, hst, hb, H1⟩ := hI
   cases n with
   | zero => exact absurd H1 (by simp [Zhb])
   | succ n =>
     rw [Zhb] at H1
     refine wp_seq ?_
     refine r_s (T := [⟨[.old 2], _, [], [], [9]⟩, ⟨[.old 1], _, [], [], [10]⟩, ⟨[.op 1 0], _, [], [1], [11]⟩, ⟨[.op 0 0, .op 2 0], _, [], [0, 1, 2], [12]⟩]) (F := [.old 0, .old 1, .old 2, .op 3 0]) hst hb Za
       (o_p rfl (Zb rfl rfl u_0) <| o_p rfl (Zb rfl rfl u_0) <| o_p rfl (Ze2 Tryz.underlying9 rfl rfl u_0) <| o_p rfl (Zcd rfl rfl u_0 u_1) <| o_n) (by kernel_rfl) (fun a g hst hb => ?_)
     refine wp_cond_split (hst.bool 3 rfl) (fun hc4 => ?_) (fun hc4 => ?_)
     · replace H1 := Zv hc4 H1
       refine wp_skip ?_
       refine Zr ?_
       refine wp_seq ?_
       refine wp_block ?_
       obtain ⟨b5, h6, H1⟩ := Zh H1
       refine r_s (L := [(1, _), (5, _), (6, _)]) (T := [⟨[.old 1], _, [], [], [15]⟩, ⟨[.old 2], _, [], [], [16]⟩, ⟨[.op 0 0, .op 1 0], _, [], [0, 1], [17]⟩, ⟨[.old 0], _, [], [], [18]⟩, ⟨[.op 2 0, .op 3 0], _, [], List.range 4, [19]⟩]) (F := [.old 0, .old 1, .old 2, .op 4 0]) (hst.pick [0, 1, 2] rfl) hb Za
         (o_p rfl (Zb rfl rfl u_0) <| o_p rfl (Zb rfl rfl u_0) <| o_p rfl (Zmf Tryz.underlying9 rfl rfl u_0 u_1 h6) <| o_p rfl (Zb rfl rfl u_0) <| o_p rfl (Zbk rfl rfl u_0 u_1) <| o_n) (by kernel_rfl) (fun a g hst hb => ?_)
       refine wp_cond_split (hst.bool 3 rfl) (fun hc7 => ?_) (fun hc7 => ?_)
       · replace H1 := Zv hc7 H1
         refine r_s (L := []) (T := [⟨[], _, [], [], [4]⟩]) (F := [.op 0 0]) (hst.pick [] rfl) hb Za
           (o_p rfl (Zc rfl rfl c_b) <| o_n) (by kernel_rfl) (fun a g hst hb => ?_)
         refine wp_ret ?_
         refine Z1 ?_
         refine Zp ?_
         refine Zp ?_
         refine Z1 ?_
         refine Zp ?_
         refine Zp ?_
         obtain rfl := Option.some.inj H1
         obtain rfl := Option.some.inj H0
         exact Z0 rfl hst hb (Zk (s := 4)) (hst.at 0 rfl)
       · replace H1 := Zw hc7 H1
         refine wp_skip ?_
         refine Zbe ?_
         refine Zr ?_
         refine r_g (L := [(1, _), (5, _), (6, _)]) (T := [⟨[.old 2], _, [], [], [13]⟩, ⟨[.op 0 0], _, [], [0], [14]⟩, ⟨[.op 1 0], _, [], [0, 1], [6]⟩]) (F := [.old 0, .old 1, .op 2 0]) (hst.pick [0, 1, 2] rfl) hb Za
           (o_p rfl (Zb rfl rfl u_0) <| o_p rfl (Zb4 rfl rfl u_0 c_i rfl) <| o_p rfl (Zc rfl rfl u_0) <| o_n) (by kernel_rfl) (fun a g hst hb => ?_)
         exact ⟨n, Nat.lt_succ_self _, (IntKind.i64.wrap (x3 + (1 : Int))), g, rfl, (hst.pick [0, 1, 2] rfl), hb, H1⟩
     · replace H1 := Zw hc4 H1
       refine wp_exit ?_
       refine Zb6 ?_
       refine Zb6 ?_
       refine Zcn ?_
       exact ⟨g, rfl, (hst.pick [] rfl), hb, Option.some.inj H1⟩
end Go.CL
set_option linter.unusedVariables false
set_option linter.unusedSimpArgs false
set_option maxRecDepth 100000
namespace Go.CL
open Go Go.RowKit Go.Proofs
theorem Zk6 (a0 : Int) {r : Int} (h : Zel a0 = some r) : FnOk Tryz.prog 85 [(pInt .i64 a0)] (pInt .i64 r) := by
 have H0 := h
 unfold Zel at H0
 clear h
 refine Zbn (N := 15) Tryz.func85 rfl rfl (Nat.le_of_ble_eq_true rfl) rfl rfl (fun a g0 hst hb => ?_)
 refine r_s (T := [⟨[], _, [], [], [2]⟩]) (F := [.old 0]) hst hb Za
   (o_p rfl (Zc rfl rfl c_i) <| o_n) (by kernel_rfl) (fun a g hst hb => ?_)
 refine r_s (T := [⟨[], _, [], [], [4]⟩, ⟨[.op 0 0], _, [], [0], [3]⟩]) (F := [.old 0, .op 1 0]) hst hb Za
   (o_p rfl (Zgt Z96 (xs := [.const (.int .i64 0), .const (.int .i64 0), .const (.int .i64 0), .const (.int .i64 0), .const (.int .i64 0), .const (.int .i64 1), .const (.int .i64 1), .const (.int .i64 2), .const (.int .i64 3), .const (.int .i64 3), .const (.int .i64 4), .const (.int .i64 4), .const (.int .i64 4), .const (.int .i64 5), .const (.int .i64 6), .const (.int .i64 7), .const (.int .i64 7), .const (.int .i64 7), .const (.int .i64 8), .const (.int .i64 8), .const (.int .i64 8), .const (.int .i64 9)]) (.cons c_i (.cons c_i (.cons c_i (.cons c_i (.cons c_i (.cons c_i (.cons c_i (.cons c_i (.cons c_i (.cons c_i (.cons c_i (.cons c_i (.cons c_i (.cons c_i (.cons c_i (.cons c_i (.cons c_i (.cons c_i (.cons c_i (.cons c_i (.cons c_i (.cons c_i .nil)))))))))))))))))))))) (by decide) rfl rfl) <| o_p rfl (Zc rfl rfl u_0) <| o_n) (by kernel_rfl) (fun a g hst hb => ?_)
 refine wp_seq ?_
 refine r_s (T := [⟨[.old 0], _, [], [], [5]⟩, ⟨[.op 0 0], _, [], [0], [6]⟩, ⟨[.op 1 0], _, [], [0, 1], [7]⟩, ⟨[.op 2 0, .old 0], _, [], [0, 1, 2], [8]⟩, ⟨[.op 2 0, .op 3 0], _, [], List.range 4, [9]⟩, ⟨[.op 2 0, .op 4 0], _, [], List.range 5, [10]⟩]) (F := [.old 0, .old 1, .op 5 0]) hst hb Za
   (o_p rfl (Zb rfl rfl u_0) <| o_p rfl (Zcd rfl rfl u_0 c_i) <| o_p rfl (Zb rfl rfl u_0) <| o_g (g_f rfl rfl rfl (fun hG => Zb rfl rfl u_0)) <| o_g (g_f rfl rfl rfl (fun hG => Zcl rfl rfl (Opd.gd hG u_0) c_i)) <| o_p rfl (Zbr rfl rfl u_0 (fun hz => (Opd.gd (bNF hz) u_1))) <| o_n) (by kernel_rfl) (fun a g hst hb => ?_)
 refine wp_cond_split (hst.bool 2 rfl) (fun hc1 => ?_) (fun hc1 => ?_)
 · replace H0 := Zv hc1 H0
   refine r_s (L := []) (T := [⟨[], _, [], [], [2]⟩]) (F := [.op 0 0]) (hst.pick [] rfl) hb Za
     (o_p rfl (Zc rfl rfl c_i) <| o_n) (by kernel_rfl) (fun a g hst hb => ?_)
   refine wp_ret ?_
   refine Zp ?_
   obtain rfl := Option.some.inj H0
   exact Z0 rfl hst hb (Zk (s := 2)) (hst.at 0 rfl)
 · replace H0 := Zw hc1 H0
   refine wp_skip ?_
   refine Zr ?_
   obtain ⟨e2, h3, H0⟩ := Zh H0
   refine r_s (L := [(0, _), (3, _)]) (T := [⟨[.old 1], _, [], [], [11]⟩, ⟨[.old 0], _, [], [], [12]⟩, ⟨[.op 0 0, .op 1 0], _, [], [0, 1], [13]⟩, ⟨[.op 2 0], _, [], [0, 1, 2], [14]⟩, ⟨[.op 3 0], _, [], List.range 4, [2]⟩]) (F := [.op 4 0]) (hst.pick [0, 1] rfl) hb Za
     (o_p rfl (Zb rfl rfl u_0) <| o_p rfl (Zb rfl rfl u_0) <| o_p rfl (Zbf Tryz.underlying42 sz_3 rfl rfl u_0 u_1 h3) <| o_p rfl (Zf ty_3 rfl rfl u_0) <| o_p rfl (Zc rfl rfl u_0) <| o_n) (by kernel_rfl) (fun a g hst hb => ?_)
   refine wp_ret ?_
   obtain rfl := Option.some.inj H0
   exact Z0 rfl hst hb (Zk (s := 2)) (hst.at 0 rfl)
end Go.CL
set_option linter.unusedVariables false
set_option linter.unusedSimpArgs false
set_option maxRecDepth 100000
namespace Go.CL
open Go Go.RowKit Go.Proofs
theorem Zl1 (a0 : Z2) {r : Int} (h : Zeg a0 = some r) : FnOk Tryz.prog 56 [(Zbd.pd a0)] (pInt .i64 r) := by
 have H0 := h
 unfold Zeg at H0
 clear h
 refine Zbn (N := 113) Tryz.func56 rfl rfl (Nat.le_of_ble_eq_true rfl) rfl rfl (fun a g0 hst hb => ?_)
 refine r_s (T := [⟨[.old 0], _, [], [], [1]⟩, ⟨[], _, [], [], [2]⟩]) (F := [.op 0 0]) hst hb Za
   (o_p rfl (Zbj rfl rfl u_0) <| o_p rfl (Zc rfl rfl c_i) <| o_n) (by kernel_rfl) (fun a g hst hb => ?_)
 refine wp_seq ?_
 refine r_s (T := [⟨[.old 0], _, [], [], [3]⟩, ⟨[.op 0 0], _, [], [0], [4]⟩, ⟨[.op 1 0], _, [], [0, 1], [5]⟩, ⟨[.op 2 0], _, [], [0, 1, 2], [6]⟩, ⟨[.op 3 0, .old 0], _, [], List.range 4, [7]⟩, ⟨[.op 3 0, .op 4 0], _, [], List.range 5, [8]⟩, ⟨[.op 3 0, .op 5 0], _, [], List.range 6, [9]⟩, ⟨[.op 3 0, .op 6 0], _, [], List.range 7, [10]⟩]) (F := [.old 0, .op 7 0]) hst hb Za
   (o_p rfl (Zd Zda rfl rfl u_0) <| o_p rfl (Zf ty_3 rfl rfl u_0) <| o_p rfl (Zcd rfl rfl u_0 c_i) <| o_p rfl (Zb rfl rfl u_0) <| o_g (g_f rfl rfl rfl (fun hG => Zd Zda rfl rfl u_0)) <| o_g (g_f rfl rfl rfl (fun hG => Zf ty_3 rfl rfl (Opd.gd hG u_0))) <| o_g (g_f rfl rfl rfl (fun hG => Zcl rfl rfl (Opd.gd hG u_0) c_i)) <| o_p rfl (Zbr rfl rfl u_0 (fun hz => (Opd.gd (bNF hz) u_1))) <| o_n) (by kernel_rfl) (fun a g hst hb => ?_)
 refine wp_cond_split (hst.bool 1 rfl) (fun hc1 => ?_) (fun hc1 => ?_)
 · replace H0 := Zv hc1 H0
   refine r_s (L := []) (T := [⟨[], _, [], [], [2]⟩]) (F := [.op 0 0]) (hst.pick [] rfl) hb Za
     (o_p rfl (Zc rfl rfl c_i) <| o_n) (by kernel_rfl) (fun a g hst hb => ?_)
   refine wp_ret ?_
   refine Zp ?_
   obtain rfl := Option.some.inj H0
   exact Z0 rfl hst hb (Zk (s := 2)) (hst.at 0 rfl)
 · replace H0 := Zw hc1 H0
   refine wp_skip ?_
   refine Zr ?_
   refine wp_seq ?_
   refine r_s (L := [(1, _)]) (T := [⟨[.old 0], _, [], [], [11]⟩, ⟨[.op 0 0], _, [], [0], [12]⟩, ⟨[.op 1 0], _, [], [0, 1], [13]⟩, ⟨[.op 2 0], _, [], [0, 1, 2], [14]⟩, ⟨[.op 3 0], _, [], List.range 4, [15]⟩, ⟨[.op 4 0, .old 0], _, [], List.range 5, [16]⟩, ⟨[.op 4 0, .op 5 0], _, [], List.range 6, [17]⟩, ⟨[.op 4 0, .op 6 0], _, [], List.range 7, [18]⟩, ⟨[.op 4 0, .op 7 0], _, [], List.range 8, [19]⟩, ⟨[.op 4 0, .op 8 0], _, [], List.range 9, [20]⟩]) (F := [.old 0, .op 9 0]) (hst.pick [0] rfl) hb Za
     (o_p rfl (Zd Zjq rfl rfl u_0) <| o_p rfl (Zf ty_9 rfl rfl u_0) <| o_p rfl (Ze2 Tryz.underlying9 rfl rfl u_0) <| o_p rfl (Zcd rfl rfl u_0 c_i) <| o_p rfl (Zb rfl rfl u_0) <| o_g (g_f rfl rfl rfl (fun hG => Zd Zjq rfl rfl u_0)) <| o_g (g_f rfl rfl rfl (fun hG => Zf ty_9 rfl rfl (Opd.gd hG u_0))) <| o_g (g_f rfl rfl rfl (fun hG => Ze2 Tryz.underlying9 rfl rfl (Opd.gd hG u_0))) <| o_g (g_f rfl rfl rfl (fun hG => Zcl rfl rfl (Opd.gd hG u_0) c_i)) <| o_p rfl (Zbr rfl rfl u_0 (fun hz => (Opd.gd (bNF hz) u_1))) <| o_n) (by kernel_rfl) (fun a g hst hb => ?_)
   refine wp_cond_split (hst.bool 1 rfl) (fun hc2 => ?_) (fun hc2 => ?_)
   · replace H0 := Zv hc2 H0
     refine r_s (L := []) (T := [⟨[], _, [], [], [2]⟩]) (F := [.op 0 0]) (hst.pick [] rfl) hb Za
       (o_p rfl (Zc rfl rfl c_i) <| o_n) (by kernel_rfl) (fun a g hst hb => ?_)
     refine wp_ret ?_
     refine Zp ?_
     obtain rfl := Option.some.inj H0
     exact Z0 rfl hst hb (Zk (s := 2)) (hst.at 0 rfl)
   · replace H0 := Zw hc2 H0
     refine wp_skip ?_
     refine Zr ?_
     refine wp_seq ?_
     obtain ⟨r3, h4, H0⟩ := Zh H0; obtain ⟨r5, h6, H0⟩ := Zh H0; obtain ⟨r7, h8, H0⟩ := Zh H0; obtain ⟨r9, h10, H0⟩ := Zh H0
     refine r_s (L := [(1, _)]) (T := ⟨[.old 0], _, [], [], [21]⟩ :: ⟨[.op 0 0], _, [], [0], [22]⟩ :: ⟨[.op 1 0], _, [], [0, 1], [23]⟩ :: ⟨[.op 2 0], _, [], [0, 1, 2], [24]⟩ :: ⟨[.op 3 0], _, [], List.range 4, [25]⟩ :: ⟨[.op 4 0, .old 0], _, [], List.range 5, [26]⟩ :: ⟨[.op 4 0, .op 5 0], _, [], List.range 6, [27]⟩ :: ⟨[.op 4 0, .op 6 0], _, [], List.range 7, [28]⟩ :: ⟨[.op 4 0, .op 7 0], _, [], List.range 8, [29]⟩ :: ⟨[.op 8 0], _, [], List.range 9, [30]⟩ :: ⟨[.op 9 0, .old 0], _, [], List.range 10, [31]⟩ :: ⟨[.op 9 0, .op 10 0], _, [], List.range 11, [32]⟩ :: ⟨[.op 9 0, .op 11 0], _, [], List.range 12, [33]⟩ :: ⟨[.op 9 0, .op 12 0], _, [], List.range 13, [34]⟩ :: ⟨[.op 9 0, .op 13 0], _, [], List.range 14, [35]⟩ :: ⟨[.op 14 0, .old 0], _, [], List.range 15, [36]⟩ :: ⟨[.op 14 0, .op 15 0], _, [], List.range 16, [37]⟩ :: ⟨[.op 14 0, .op 16 0], _, [], List.range 17, [38]⟩ :: ⟨[.op 14 0, .op 17 0], _, [], List.range 18, [39]⟩ :: ⟨[.op 9 0, .op 14 0, .op 18 0], _, [], List.range 19, [40]⟩ :: ⟨[.op 9 0, .op 19 0], _, [], List.range 20, [41]⟩ :: ⟨[.op 20 0], _, [], List.range 21, [42]⟩ :: ⟨[.op 21 0, .old 0], _, [], List.range 22, [43]⟩ :: ⟨[.op 21 0, .op 22 0], _, [], List.range 23, [44]⟩ :: ⟨[.op 21 0, .op 23 0], _, [], List.range 24, [45]⟩ :: ⟨[.op 21 0, .op 24 0], _, [], List.range 25, [46]⟩ :: ⟨[.op 21 0, .op 25 0], _, [], List.range 26, [47]⟩ :: ⟨[.op 26 0, .old 0], _, [], List.range 27, [48]⟩ :: ⟨[.op 26 0, .op 27 0], _, [], List.range 28, [49]⟩ :: ⟨[.op 26 0, .op 28 0], _, [], List.range 29, [50]⟩ :: ⟨[.op 21 0, .op 26 0, .op 29 0], _, [], List.range 30, [51]⟩ :: ⟨[.op 21 0, .op 30 0], _, [], List.range 31, [52]⟩ :: []) (F := [.old 0, .op 31 0]) (hst.pick [0] rfl) hb Za
       (o_p rfl (Zd Zda rfl rfl u_0) <| o_p rfl (Zf ty_3 rfl rfl u_0) <| o_p rfl (Zn Z0r (Zkk _ _ h4) rfl rfl (.cons u_0 (.cons c_i .nil))) <| o_p rfl (Zb7 rfl rfl u_0) <| o_p rfl (Zb rfl rfl u_0) <| o_g (g_t rfl rfl rfl (fun hG => Zd Zdu rfl rfl u_0)) <| o_g (g_t rfl rfl rfl (fun hG => Zf ty_2 rfl rfl (Opd.gd hG u_0))) <| o_g (g_t rfl rfl rfl (fun hG => Zc5 rfl rfl (Opd.gd hG u_0) c_i)) <| o_p rfl (Zbc rfl rfl u_0 (fun hz => (Opd.gd hz u_1))) <| o_p rfl (Zb rfl rfl u_0) <| o_g (g_f rfl rfl rfl (fun hG => Zd Zda rfl rfl u_0)) <| o_g (g_f rfl rfl rfl (fun hG => Zf ty_3 rfl rfl (Opd.gd hG u_0))) <| o_g (g_f rfl rfl rfl (fun hG => Zn Z0r (Zkk _ _ (Zbl h6 hG)) rfl rfl (.cons (Opd.gd hG u_0) (.cons c_i .nil)))) <| o_g (g_f rfl rfl rfl (fun hG => Zb7 rfl rfl (Opd.gd hG u_0))) <| o_g (g_f rfl rfl rfl (fun hG => Zb rfl rfl (Opd.gd hG u_0))) <| o_g (g_ti rfl rfl rfl (fun hG => Zd Zij rfl rfl u_0)) <| o_g (g_ti rfl rfl rfl (fun hG => Zf Zct rfl rfl (Opd.gd hG u_0))) <| o_g (g_ti rfl rfl rfl (fun hG => Zn Zri (Zfw _ _ (Zbl h8 hG)) rfl rfl (.cons (Opd.gd hG u_0) (.cons c_f .nil)))) <| o_g (g_ti rfl rfl rfl (fun hG => Zb7 rfl rfl (Opd.gd hG u_0))) <| o_g (g_f rfl rfl rfl (fun hG => Zbc rfl rfl (Opd.gd hG u_0) (fun hz => (Opd.gd (bA hG hz) u_1)))) <| o_p rfl (Zbr rfl rfl u_0 (fun hz => (Opd.gd (bNF hz) u_1))) <| o_p rfl (Zb rfl rfl u_0) <| o_g (g_f rfl rfl rfl (fun hG => Zd Zda rfl rfl u_0)) <| o_g (g_f rfl rfl rfl (fun hG => Zf ty_3 rfl rfl (Opd.gd hG u_0))) <| o_g (g_f rfl rfl rfl (fun hG => Zn Z0r (Zkk _ _ (Zbl h10 hG)) rfl rfl (.cons (Opd.gd hG u_0) (.cons c_i .nil)))) <| o_g (g_f rfl rfl rfl (fun hG => Zb7 rfl rfl (Opd.gd hG u_0))) <| o_g (g_f rfl rfl rfl (fun hG => Zb rfl rfl (Opd.gd hG u_0))) <| o_g (g_ti rfl rfl rfl (fun hG => Zd Zfb rfl rfl u_0)) <| o_g (g_ti rfl rfl rfl (fun hG => Zf ty_9 rfl rfl (Opd.gd hG u_0))) <| o_g (g_ti rfl rfl rfl (fun hG => Znk rfl rfl (Opd.gd hG u_0) c_s)) <| o_g (g_f rfl rfl rfl (fun hG => Zbc rfl rfl (Opd.gd hG u_0) (fun hz => (Opd.gd (bA hG hz) u_1)))) <| o_p rfl (Zbr rfl rfl u_0 (fun hz => (Opd.gd (bNF hz) u_1))) <| o_n) (by kernel_rfl) (fun a g hst hb => ?_)
     refine wp_cond_split (hst.bool 1 rfl) (fun hc11 => ?_) (fun hc11 => ?_)
     · replace H0 := Zv hc11 H0
       refine r_s (L := []) (T := [⟨[], _, [], [], [2]⟩]) (F := [.op 0 0]) (hst.pick [] rfl) hb Za
         (o_p rfl (Zc rfl rfl c_i) <| o_n) (by kernel_rfl) (fun a g hst hb => ?_)
       refine wp_ret ?_
       refine Zp ?_
       obtain rfl := Option.some.inj H0
       exact Z0 rfl hst hb (Zk (s := 2)) (hst.at 0 rfl)
     · replace H0 := Zw hc11 H0
       refine wp_skip ?_
       refine Zr ?_
       refine wp_seq ?_
       obtain ⟨r12, h13, H0⟩ := Zh H0
       refine r_s (L := [(1, _)]) (T := [⟨[.old 0], _, [], [], [53]⟩, ⟨[.op 0 0], _, [], [0], [54]⟩, ⟨[.op 1 0], _, [], [0, 1], [55]⟩, ⟨[.op 2 0], _, [], [0, 1, 2], [56]⟩, ⟨[.op 3 0, .old 0], _, [], List.range 4, [57]⟩, ⟨[.op 3 0, .op 4 0], _, [], List.range 5, [58]⟩, ⟨[.op 3 0], _, [], List.range 4, [59]⟩, ⟨[.op 3 0, .op 5 0, .op 6 0], _, [], List.range 7, [60]⟩, ⟨[.op 3 0, .op 7 0], _, [], List.range 8, [61]⟩, ⟨[.op 3 0, .op 8 0], _, [], List.range 9, [62]⟩]) (F := [.old 0, .op 9 0]) (hst.pick [0] rfl) hb Za
         (o_p rfl (Zd Zda rfl rfl u_0) <| o_p rfl (Zf ty_3 rfl rfl u_0) <| o_p rfl (Zc5 rfl rfl u_0 c_i) <| o_p rfl (Zb rfl rfl u_0) <| o_g (g_t rfl rfl rfl (fun hG => Zd Zmp rfl rfl u_0)) <| o_g (g_t rfl rfl rfl (fun hG => Zf Zba rfl rfl (Opd.gd hG u_0))) <| o_g (g_t rfl rfl rfl (fun hG => Zlw rfl rfl )) <| o_g (g_t rfl rfl rfl (fun hG => Zn Z03 (Zke _ _ (Zbl h13 hG)) rfl rfl (.cons (Opd.gd hG u_0) (.cons (Opd.gd hG u_1) .nil)))) <| o_g (g_t rfl rfl rfl (fun hG => Zb7 rfl rfl (Opd.gd hG u_0))) <| o_p rfl (Zbc rfl rfl u_0 (fun hz => (Opd.gd hz u_1))) <| o_n) (by kernel_rfl) (fun a g hst hb => ?_)
       refine wp_cond_split (hst.bool 1 rfl) (fun hc14 => ?_) (fun hc14 => ?_)
       · replace H0 := Zv hc14 H0
         refine r_s (L := []) (T := [⟨[], _, [], [], [2]⟩]) (F := [.op 0 0]) (hst.pick [] rfl) hb Za
           (o_p rfl (Zc rfl rfl c_i) <| o_n) (by kernel_rfl) (fun a g hst hb => ?_)
         refine wp_ret ?_
         refine Zp ?_
         obtain rfl := Option.some.inj H0
         exact Z0 rfl hst hb (Zk (s := 2)) (hst.at 0 rfl)
       · replace H0 := Zw hc14 H0
         refine wp_skip ?_
         refine Zr ?_
         refine wp_seq ?_
         obtain ⟨r15, h16, H0⟩ := Zh H0; obtain ⟨r17, h18, H0⟩ := Zh H0
         refine r_s (L := [(1, _)]) (T := ⟨[.old 0], _, [], [], [63]⟩ :: ⟨[.op 0 0], _, [], [0], [64]⟩ :: ⟨[.op 1 0], _, [], [0, 1], [65]⟩ :: ⟨[.op 2 0], _, [], [0, 1, 2], [66]⟩ :: ⟨[.op 3 0], _, [], List.range 4, [67]⟩ :: ⟨[.op 4 0, .old 0], _, [], List.range 5, [68]⟩ :: ⟨[.op 4 0, .op 5 0], _, [], List.range 6, [69]⟩ :: ⟨[.op 4 0, .op 6 0], _, [], List.range 7, [70]⟩ :: ⟨[.op 4 0, .op 7 0], _, [], List.range 8, [71]⟩ :: ⟨[.op 4 0, .op 8 0], _, [], List.range 9, [72]⟩ :: ⟨[.op 9 0], _, [], List.range 10, [73]⟩ :: ⟨[.op 10 0, .old 0], _, [], List.range 11, [74]⟩ :: ⟨[.op 10 0, .op 11 0], _, [], List.range 12, [75]⟩ :: ⟨[.op 10 0, .op 12 0], _, [], List.range 13, [76]⟩ :: ⟨[.op 10 0, .op 13 0], _, [], List.range 14, [77]⟩ :: ⟨[.op 10 0, .op 14 0], _, [], List.range 15, [78]⟩ :: ⟨[.op 15 0, .old 0], _, [], List.range 16, [79]⟩ :: ⟨[.op 15 0, .op 16 0], _, [], List.range 17, [80]⟩ :: ⟨[.op 15 0, .op 17 0], _, [], List.range 18, [81]⟩ :: ⟨[.op 15 0, .op 18 0], _, [], List.range 19, [82]⟩ :: ⟨[.op 10 0, .op 15 0, .op 19 0], _, [], List.range 20, [83]⟩ :: ⟨[.op 10 0, .op 20 0], _, [], List.range 21, [84]⟩ :: []) (F := [.old 0, .op 21 0]) (hst.pick [0] rfl) hb Za
           (o_p rfl (Zd Zda rfl rfl u_0) <| o_p rfl (Zf ty_3 rfl rfl u_0) <| o_p rfl (Zn Z0w (Zk6 _ h16) rfl rfl (.cons u_0 .nil)) <| o_p rfl (Zbk rfl rfl u_0 c_i) <| o_p rfl (Zb rfl rfl u_0) <| o_g (g_t rfl rfl rfl (fun hG => Zd Zfb rfl rfl u_0)) <| o_g (g_t rfl rfl rfl (fun hG => Zf ty_9 rfl rfl (Opd.gd hG u_0))) <| o_g (g_t rfl rfl rfl (fun hG => Ze2 Tryz.underlying9 rfl rfl (Opd.gd hG u_0))) <| o_g (g_t rfl rfl rfl (fun hG => Zcl rfl rfl (Opd.gd hG u_0) c_i)) <| o_p rfl (Zbc rfl rfl u_0 (fun hz => (Opd.gd hz u_1))) <| o_p rfl (Zb rfl rfl u_0) <| o_g (g_f rfl rfl rfl (fun hG => Zd Zda rfl rfl u_0)) <| o_g (g_f rfl rfl rfl (fun hG => Zf ty_3 rfl rfl (Opd.gd hG u_0))) <| o_g (g_f rfl rfl rfl (fun hG => Zn Z0w (Zk6 _ (Zbl h18 hG)) rfl rfl (.cons (Opd.gd hG u_0) .nil))) <| o_g (g_f rfl rfl rfl (fun hG => Zc5 rfl rfl (Opd.gd hG u_0) c_i)) <| o_g (g_f rfl rfl rfl (fun hG => Zb rfl rfl (Opd.gd hG u_0))) <| o_g (g_ti rfl rfl rfl (fun hG => Zd Zfb rfl rfl u_0)) <| o_g (g_ti rfl rfl rfl (fun hG => Zf ty_9 rfl rfl (Opd.gd hG u_0))) <| o_g (g_ti rfl rfl rfl (fun hG => Ze2 Tryz.underlying9 rfl rfl (Opd.gd hG u_0))) <| o_g (g_ti rfl rfl rfl (fun hG => Zcl rfl rfl (Opd.gd hG u_0) c_i)) <| o_g (g_f rfl rfl rfl (fun hG => Zbc rfl rfl (Opd.gd hG u_0) (fun hz => (Opd.gd (bA hG hz) u_1)))) <| o_p rfl (Zbr rfl rfl u_0 (fun hz => (Opd.gd (bNF hz) u_1))) <| o_n) (by kernel_rfl) (fun a g hst hb => ?_)
         refine wp_cond_split (hst.bool 1 rfl) (fun hc19 => ?_) (fun hc19 => ?_)
         · replace H0 := Zv hc19 H0
           refine r_s (L := []) (T := [⟨[], _, [], [], [2]⟩]) (F := [.op 0 0]) (hst.pick [] rfl) hb Za
             (o_p rfl (Zc rfl rfl c_i) <| o_n) (by kernel_rfl) (fun a g hst hb => ?_)
           refine wp_ret ?_
           refine Zp ?_
           obtain rfl := Option.some.inj H0
           exact Z0 rfl hst hb (Zk (s := 2)) (hst.at 0 rfl)
         · replace H0 := Zw hc19 H0
           refine wp_skip ?_
           refine Zr ?_
           refine wp_seq ?_
           refine r_s (L := [(1, _)]) (T := ⟨[.old 0], _, [], [], [85]⟩ :: ⟨[.op 0 0], _, [], [0], [86]⟩ :: ⟨[.op 1 0], _, [], [0, 1], [87]⟩ :: ⟨[.op 2 0], _, [], [0, 1, 2], [88]⟩ :: ⟨[.op 3 0, .old 0], _, [], List.range 4, [89]⟩ :: ⟨[.op 3 0, .op 4 0], _, [], List.range 5, [90]⟩ :: ⟨[.op 3 0, .op 5 0], _, [], List.range 6, [91]⟩ :: ⟨[.op 3 0, .op 6 0], _, [], List.range 7, [92]⟩ :: ⟨[.op 7 0], _, [], List.range 8, [93]⟩ :: ⟨[.op 8 0, .old 0], _, [], List.range 9, [94]⟩ :: ⟨[.op 8 0, .op 9 0], _, [], List.range 10, [95]⟩ :: ⟨[.op 8 0, .op 10 0], _, [], List.range 11, [96]⟩ :: ⟨[.op 8 0, .op 11 0], _, [], List.range 12, [97]⟩ :: ⟨[.op 12 0, .old 0], _, [], List.range 13, [98]⟩ :: ⟨[.op 12 0, .op 13 0], _, [], List.range 14, [99]⟩ :: ⟨[.op 12 0, .op 14 0], _, [], List.range 15, [100]⟩ :: ⟨[.op 8 0, .op 12 0, .op 15 0], _, [], List.range 16, [101]⟩ :: ⟨[.op 8 0, .op 16 0], _, [], List.range 17, [102]⟩ :: []) (F := [.old 0, .op 17 0]) (hst.pick [0] rfl) hb Za
             (o_p rfl (Zd Zda rfl rfl u_0) <| o_p rfl (Zf ty_3 rfl rfl u_0) <| o_p rfl (Zbk rfl rfl u_0 c_i) <| o_p rfl (Zb rfl rfl u_0) <| o_g (g_f rfl rfl rfl (fun hG => Zd Zda rfl rfl u_0)) <| o_g (g_f rfl rfl rfl (fun hG => Zf ty_3 rfl rfl (Opd.gd hG u_0))) <| o_g (g_f rfl rfl rfl (fun hG => Zbk rfl rfl (Opd.gd hG u_0) c_i)) <| o_p rfl (Zbr rfl rfl u_0 (fun hz => (Opd.gd (bNF hz) u_1))) <| o_p rfl (Zb rfl rfl u_0) <| o_g (g_t rfl rfl rfl (fun hG => Zd Zdu rfl rfl u_0)) <| o_g (g_t rfl rfl rfl (fun hG => Zf ty_2 rfl rfl (Opd.gd hG u_0))) <| o_g (g_t rfl rfl rfl (fun hG => Zcd rfl rfl (Opd.gd hG u_0) c_i)) <| o_g (g_t rfl rfl rfl (fun hG => Zb rfl rfl (Opd.gd hG u_0))) <| o_g (g_fi rfl rfl rfl (fun hG => Zd Zdu rfl rfl u_0)) <| o_g (g_fi rfl rfl rfl (fun hG => Zf ty_2 rfl rfl (Opd.gd hG u_0))) <| o_g (g_fi rfl rfl rfl (fun hG => Zcl rfl rfl (Opd.gd hG u_0) c_i)) <| o_g (g_t rfl rfl rfl (fun hG => Zbr rfl rfl (Opd.gd hG u_0) (fun hz => (Opd.gd (bA hG (bNF hz)) u_1)))) <| o_p rfl (Zbc rfl rfl u_0 (fun hz => (Opd.gd hz u_1))) <| o_n) (by kernel_rfl) (fun a g hst hb => ?_)
           refine wp_cond_split (hst.bool 1 rfl) (fun hc20 => ?_) (fun hc20 => ?_)
           · replace H0 := Zv hc20 H0
             refine r_s (L := []) (T := [⟨[], _, [], [], [2]⟩]) (F := [.op 0 0]) (hst.pick [] rfl) hb Za
               (o_p rfl (Zc rfl rfl c_i) <| o_n) (by kernel_rfl) (fun a g hst hb => ?_)
             refine wp_ret ?_
             refine Zp ?_
             obtain rfl := Option.some.inj H0
             exact Z0 rfl hst hb (Zk (s := 2)) (hst.at 0 rfl)
           · replace H0 := Zw hc20 H0
             refine wp_skip ?_
             refine Zr ?_
             refine wp_seq ?_
             obtain ⟨r21, h22, H0⟩ := Zh H0
             refine r_s (L := [(1, _)]) (T := [⟨[.old 0], _, [], [], [103]⟩, ⟨[.op 0 0], _, [], [0], [104]⟩, ⟨[.op 1 0], _, [], [0, 1], [105]⟩, ⟨[.op 2 0], _, [], [0, 1, 2], [106]⟩]) (F := [.old 0, .op 3 0]) (hst.pick [0] rfl) hb Za
               (o_p rfl (Zd Zij rfl rfl u_0) <| o_p rfl (Zf Zct rfl rfl u_0) <| o_p rfl (Zn Z0y (Zjm _ h22) rfl rfl (.cons u_0 .nil)) <| o_p rfl (Zb7 rfl rfl u_0) <| o_n) (by kernel_rfl) (fun a g hst hb => ?_)
             refine wp_cond_split (hst.bool 1 rfl) (fun hc23 => ?_) (fun hc23 => ?_)
             · replace H0 := Zv hc23 H0
               refine r_s (L := []) (T := [⟨[], _, [], [], [2]⟩]) (F := [.op 0 0]) (hst.pick [] rfl) hb Za
                 (o_p rfl (Zc rfl rfl c_i) <| o_n) (by kernel_rfl) (fun a g hst hb => ?_)
               refine wp_ret ?_
               refine Zp ?_
               obtain rfl := Option.some.inj H0
               exact Z0 rfl hst hb (Zk (s := 2)) (hst.at 0 rfl)
             · replace H0 := Zw hc23 H0
               refine wp_skip ?_
               refine Zr ?_
               refine wp_seq ?_
               refine r_s (L := [(1, _)]) (T := [⟨[.old 0], _, [], [], [107]⟩, ⟨[.op 0 0], _, [], [0], [108]⟩, ⟨[.op 1 0], _, [], [0, 1], [109]⟩]) (F := [.old 0, .op 2 0]) (hst.pick [0] rfl) hb Za
                 (o_p rfl (Zd Zda rfl rfl u_0) <| o_p rfl (Zf ty_3 rfl rfl u_0) <| o_p rfl (Zbk rfl rfl u_0 c_i) <| o_n) (by kernel_rfl) (fun a g hst hb => ?_)
               refine wp_cond_split (hst.bool 1 rfl) (fun hc24 => ?_) (fun hc24 => ?_)
               · replace H0 := Zv hc24 H0
                 obtain ⟨r25, h26, H0⟩ := Zh H0
                 refine r_s (L := [(1, _)]) (T := [⟨[.old 0], _, [], [], [110]⟩, ⟨[.op 0 0], _, [], [0], [111]⟩, ⟨[.op 1 0], _, [], [0, 1], [112]⟩, ⟨[.op 2 0], _, [], [0, 1, 2], [2]⟩]) (F := [.op 3 0]) (hst.pick [0] rfl) hb Za
                   (o_p rfl (Zd Zmp rfl rfl u_0) <| o_p rfl (Zf Zba rfl rfl u_0) <| o_p rfl (Zn Z0f (Zj1 _ h26) rfl rfl (.cons u_0 .nil)) <| o_p rfl (Zc rfl rfl u_0) <| o_n) (by kernel_rfl) (fun a g hst hb => ?_)
                 refine wp_ret ?_
                 refine Zp ?_
                 obtain rfl := Option.some.inj H0
                 exact Z0 rfl hst hb (Zk (s := 2)) (hst.at 0 rfl)
               · replace H0 := Zw hc24 H0
                 refine wp_skip ?_
                 refine Zr ?_
                 refine r_s (L := []) (T := [⟨[], _, [], [], [2]⟩]) (F := [.op 0 0]) (hst.pick [] rfl) hb Za
                   (o_p rfl (Zc rfl rfl c_i) <| o_n) (by kernel_rfl) (fun a g hst hb => ?_)
                 refine wp_ret ?_
                 obtain rfl := Option.some.inj H0
                 exact Z0 rfl hst hb (Zk (s := 2)) (hst.at 0 rfl)
end Go.CL
set_option linter.unusedVariables false
set_option linter.unusedSimpArgs false
set_option maxRecDepth 100000
namespace Go.CL
open Go Go.RowKit Go.Proofs
theorem Zpi (a0 : Zb0) {r : Int × Int} (h : Zhs a0 = some r) : FnOk Tryz.prog 31 [(Zcq.pd a0)] (pTup [(pInt .i64 r.1), (pInt .i64 r.2)]) := by
 have H0 := h
 unfold Zhs at H0
 clear h
 refine Zbn (N := 34) Tryz.func31 rfl rfl (Nat.le_of_ble_eq_true rfl) rfl rfl (fun a g0 hst hb => ?_)
 refine r_s (T := [⟨[.old 0], _, [], [], [1]⟩, ⟨[], _, [], [], [2]⟩, ⟨[], _, [], [1], [3]⟩]) (F := [.op 0 0]) hst hb Za
   (o_p rfl (Zbj rfl rfl u_0) <| o_p rfl (Zc rfl rfl c_i) <| o_p rfl (Zc rfl rfl c_i) <| o_n) (by kernel_rfl) (fun a g hst hb => ?_)
 refine wp_seq ?_
 refine r_s (T := [⟨[.old 0], _, [], [], [6]⟩, ⟨[.op 0 0], _, [], [0], [7]⟩, ⟨[.op 1 0], _, [], [0, 1], [8]⟩, ⟨[.op 2 0], _, [], [0, 1, 2], [9]⟩, ⟨[.op 3 0], _, [], List.range 4, [10]⟩, ⟨[.op 4 0, .old 0], _, [], List.range 5, [11]⟩, ⟨[.op 4 0, .op 5 0], _, [], List.range 6, [12]⟩, ⟨[.op 4 0, .op 6 0], _, [], List.range 7, [13]⟩, ⟨[.op 4 0, .op 7 0], _, [], List.range 8, [14]⟩, ⟨[.op 4 0, .op 8 0], _, [], List.range 9, [15]⟩]) (F := [.old 0, .op 9 0]) hst hb Za
   (o_p rfl (Zd Zh7 rfl rfl u_0) <| o_p rfl (Zf Zkw rfl rfl u_0) <| o_p rfl (Zby Tryz.underlying50 rfl rfl u_0) <| o_p rfl (Zcd rfl rfl u_0 c_i) <| o_p rfl (Zb rfl rfl u_0) <| o_g (g_f rfl rfl rfl (fun hG => Zd Zh7 rfl rfl u_0)) <| o_g (g_f rfl rfl rfl (fun hG => Zf Zkw rfl rfl (Opd.gd hG u_0))) <| o_g (g_f rfl rfl rfl (fun hG => Zby Tryz.underlying50 rfl rfl (Opd.gd hG u_0))) <| o_g (g_f rfl rfl rfl (fun hG => Zcl rfl rfl (Opd.gd hG u_0) c_i)) <| o_p rfl (Zbr rfl rfl u_0 (fun hz => (Opd.gd (bNF hz) u_1))) <| o_n) (by kernel_rfl) (fun a g hst hb => ?_)
 refine wp_cond_split (hst.bool 1 rfl) (fun hc1 => ?_) (fun hc1 => ?_)
 · replace H0 := Zv hc1 H0
   refine r_s (L := []) (T := [⟨[], _, [], [], [2]⟩, ⟨[], _, [], [0], [3]⟩]) (F := [.op 0 0, .op 1 0]) (hst.pick [] rfl) hb Za
     (o_p rfl (Zc rfl rfl c_i) <| o_p rfl (Zc rfl rfl c_i) <| o_n) (by kernel_rfl) (fun a g hst hb => ?_)
   refine wp_ret ?_
   refine Zp ?_
   obtain rfl := Option.some.inj H0
   exact Zc9 rfl hst hb (Zk (s := 2)) (Zk (s := 3)) (Zcm (hst.at 0 rfl) (hst.at 1 rfl))
 · replace H0 := Zw hc1 H0
   refine wp_skip ?_
   refine Zr ?_
   refine wp_seq ?_
   refine r_s (L := [(1, _)]) (T := [⟨[], _, [], [], [4]⟩]) (F := [.old 0, .op 0 0]) (hst.pick [0] rfl) hb Za
     (o_p rfl (Zc rfl rfl c_i) <| o_n) (by kernel_rfl) (fun a g hst hb => ?_)
   obtain ⟨z9, hz1, H0⟩ := Zh H0
   refine Zcb (fun a w => ∃ (g : G), w = g.w ∧ St 34 [] a g ∧ Base g0 g ∧ (.inr ()) = z9) ?_ ?_
   · rintro a w ⟨g, rfl, hst, hb, rfl⟩
     refine Zr ?_
     refine r_s (T := [⟨[], _, [], [], [2]⟩, ⟨[], _, [], [0], [3]⟩]) (F := [.op 0 0, .op 1 0]) hst hb Za
       (o_p rfl (Zc rfl rfl c_i) <| o_p rfl (Zc rfl rfl c_i) <| o_n) (by kernel_rfl) (fun a g hst hb => ?_)
     refine wp_ret ?_
     obtain rfl := Option.some.inj H0
     exact Zc9 rfl hst hb (Zk (s := 2)) (Zk (s := 3)) (Zcm (hst.at 0 rfl) (hst.at 1 rfl))
   · refine wp_block ?_
     refine wp_loop_ghost (fun n a w => ∃ (x2 : Int) (g : G), w = g.w ∧ St 34 [(1, (Zcq.ptr a0)), (4, (pInt .i64 x2))] a g ∧ Base g0 g ∧ Zd5 a0 n x2 = some z9) (Int.toNat ((a0.Acts.length : Int) - (0 : Int)) + 1) ⟨(0 : Int), g, rfl, (hst.pick [0, 1] rfl), hb, hz1⟩ (fun n a w hI => ?_)
     obtain ⟨x2, g, rfl, hst, hb, H1⟩ := hI
     cases n with
     | zero => exact absurd H1 (by simp [Zd5])
     | succ n =>
       rw [Zd5] at H1
       refine wp_seq ?_
       refine r_s (T := [⟨[.old 1], _, [], [], [16]⟩, ⟨[.old 0], _, [], [], [17]⟩, ⟨[.op 1 0], _, [], [1], [18]⟩, ⟨[.op 2 0], _, [], [1, 2], [19]⟩, ⟨[.op 0 0, .op 3 0], _, [], List.range 4, [20]⟩]) (F := [.old 0, .old 1, .op 4 0]) hst hb Za
         (o_p rfl (Zb rfl rfl u_0) <| o_p rfl (Zd Zh7 rfl rfl u_0) <| o_p rfl (Zf Zkw rfl rfl u_0) <| o_p rfl (Zby Tryz.underlying50 rfl rfl u_0) <| o_p rfl (Zcd rfl rfl u_0 u_1) <| o_n) (by kernel_rfl) (fun a g hst hb => ?_)
       refine wp_cond_split (hst.bool 2 rfl) (fun hc3 => ?_) (fun hc3 => ?_)
       · replace H1 := Zv hc3 H1
         refine wp_skip ?_
         refine Zr ?_
         refine wp_seq ?_
         refine wp_block ?_
         obtain ⟨e4, h5, H1⟩ := Zh H1; obtain ⟨r6, h7, H1⟩ := Zh H1
         refine r_s (L := [(1, _), (4, _)]) (T := [⟨[.old 0], _, [], [], [23]⟩, ⟨[.op 0 0], _, [], [0], [24]⟩, ⟨[.old 1], _, [], [], [25]⟩, ⟨[.op 1 0, .op 2 0], _, [], [0, 1, 2], [26]⟩, ⟨[.op 3 0], _, [], List.range 4, [27]⟩, ⟨[.op 4 0], _, [], List.range 5, [28]⟩, ⟨[.op 5 0], _, [], List.range 6, [5]⟩]) (F := [.old 0, .old 1, .op 6 0]) (hst.pick [0, 1] rfl) hb Za
           (o_p rfl (Zd Zh7 rfl rfl u_0) <| o_p rfl (Zf Zkw rfl rfl u_0) <| o_p rfl (Zb rfl rfl u_0) <| o_p rfl (Zbf Tryz.underlying50 Zrn rfl rfl u_0 u_1 h5) <| o_p rfl (Zf Zfi rfl rfl u_0) <| o_p rfl (Zn Z4w (Zl1 _ h7) rfl rfl (.cons u_0 .nil)) <| o_p rfl (Zc rfl rfl u_0) <| o_n) (by kernel_rfl) (fun a g hst hb => ?_)
         refine r_s (T := [⟨[.old 2], _, [], [], [29]⟩, ⟨[.op 0 0], _, [], [0], [30]⟩]) (F := [.old 0, .old 1, .old 2, .op 1 0]) hst hb Za
           (o_p rfl (Zb rfl rfl u_0) <| o_p rfl (Zc5 rfl rfl u_0 c_i) <| o_n) (by kernel_rfl) (fun a g hst hb => ?_)
         refine wp_cond_split (hst.bool 3 rfl) (fun hc8 => ?_) (fun hc8 => ?_)
         · replace H1 := Zv hc8 H1
           refine r_s (L := [(4, _), (5, _)]) (T := [⟨[.old 1], _, [], [], [31]⟩, ⟨[.old 0], _, [], [], [32]⟩, ⟨[.op 1 0], _, [], [1], [33]⟩, ⟨[.op 0 0], _, [], [0], [2]⟩, ⟨[.op 2 0], _, [], List.range 4, [3]⟩]) (F := [.op 3 0, .op 4 0]) (hst.pick [1, 2] rfl) hb Za
             (o_p rfl (Zb rfl rfl u_0) <| o_p rfl (Zb rfl rfl u_0) <| o_p rfl (Zb4 rfl rfl u_0 c_i rfl) <| o_p rfl (Zc rfl rfl u_0) <| o_p rfl (Zc rfl rfl u_0) <| o_n) (by kernel_rfl) (fun a g hst hb => ?_)
           refine wp_ret ?_
           refine Z1 ?_
           refine Zp ?_
           refine Zp ?_
           refine Z1 ?_
           refine Zp ?_
           refine Zp ?_
           obtain rfl := Option.some.inj H1
           obtain rfl := Option.some.inj H0
           exact Zc9 rfl hst hb (Zk (s := 2)) (Zk (s := 3)) (Zcm (hst.at 0 rfl) (hst.at 1 rfl))
         · replace H1 := Zw hc8 H1
           refine wp_skip ?_
           refine Zbe ?_
           refine Zr ?_
           refine r_g (L := [(1, _), (4, _)]) (T := [⟨[.old 1], _, [], [], [21]⟩, ⟨[.op 0 0], _, [], [0], [22]⟩, ⟨[.op 1 0], _, [], [0, 1], [4]⟩]) (F := [.old 0, .op 2 0]) (hst.pick [0, 1] rfl) hb Za
             (o_p rfl (Zb rfl rfl u_0) <| o_p rfl (Zb4 rfl rfl u_0 c_i rfl) <| o_p rfl (Zc rfl rfl u_0) <| o_n) (by kernel_rfl) (fun a g hst hb => ?_)
           exact ⟨n, Nat.lt_succ_self _, (IntKind.i64.wrap (x2 + (1 : Int))), g, rfl, (hst.pick [0, 1] rfl), hb, H1⟩
       · replace H1 := Zw hc3 H1
         refine wp_exit ?_
         refine Zb6 ?_
         refine Zb6 ?_
         refine Zcn ?_
         exact ⟨g, rfl, (hst.pick [] rfl), hb, Option.some.inj H1⟩
end Go.CL
set_option linter.unusedVariables false
set_option linter.unusedSimpArgs false
set_option maxRecDepth 100000
namespace Go.CL
open Go Go.RowKit Go.Proofs
theorem Znt (a0 : Zj) (a1 : ByteArray) {r : Ze × Bool} (h : Zgd a0 a1 = some r) : FnOk Tryz.prog 57 [(Z3.pd a0), (pStr a1)] (pTup [(Zi.pd r.1), (Zbg r.2)]) := by
 have H0 := h
 unfold Zgd at H0
 clear h
 refine Zbn (N := 32) Tryz.func57 rfl rfl (Nat.le_of_ble_eq_true rfl) rfl rfl (fun a g0 hst hb => ?_)
 refine r_s (T := [⟨[.old 0], _, [], [], [2]⟩, ⟨[], [(4, (pBox Zi 4 (default : Ze)))], [5], [], [4]⟩, ⟨[], _, [], [], [5]⟩]) (F := [.old 1, .op 0 0, .op 1 0]) hst hb Za
   (o_p rfl (Zbj rfl rfl u_0) <| o_p rfl (Zbb (zs := [.int .i64 0, .int .i64 0, .int .i64 0, .int .i64 0, .float .f64 0, .int .i64 0, .string ByteArray.empty, .slice none 0 0]) (by kernel_rfl) (fun g => Zb8 g) rfl rfl) <| o_p rfl (Zc rfl rfl c_b) <| o_n) (by kernel_rfl) (fun a g hst hb => ?_)
 obtain ⟨r1, h2, H0⟩ := Zh H0
 refine r_s (T := [⟨[.old 1], _, [], [], [7]⟩, ⟨[.old 0], _, [], [], [8]⟩, ⟨[.op 0 0, .op 1 0], _, [], [0, 1], [9]⟩, ⟨[.op 2 0], _, [], [0, 1, 2], [6]⟩]) (F := [.old 0, .old 1, .old 2, .op 3 0]) hst hb Za
   (o_p rfl (Zf Zci rfl rfl u_0) <| o_p rfl (Zb rfl rfl u_0) <| o_p rfl (Zn Z0g (Zhx _ _ h2) rfl rfl (.cons u_0 (.cons u_1 .nil))) <| o_p rfl (Zc rfl rfl u_0) <| o_n) (by kernel_rfl) (fun a g hst hb => ?_)
 refine wp_seq ?_
 obtain ⟨e3, h4, H0⟩ := Zh H0
 refine r_s (T := ⟨[.old 3], _, [], [], [10]⟩ :: ⟨[.old 1], _, [], [], [11]⟩ :: ⟨[.op 1 0], _, [], [1], [12]⟩ :: ⟨[.op 2 0], _, [], [1, 2], [13]⟩ :: ⟨[.op 0 0, .op 3 0], _, [], List.range 4, [14]⟩ :: ⟨[.op 4 0], _, [], List.range 5, [15]⟩ :: ⟨[.op 5 0, .old 1], _, [], List.range 6, [16]⟩ :: ⟨[.op 5 0, .op 6 0], _, [], List.range 7, [17]⟩ :: ⟨[.op 5 0, .old 3], _, [], List.range 6, [18]⟩ :: ⟨[.op 5 0, .op 7 0, .op 8 0], _, [], List.range 9, [19]⟩ :: ⟨[.op 5 0, .op 9 0], _, [], List.range 10, [20]⟩ :: ⟨[.op 5 0, .op 10 0], _, [], List.range 11, [21]⟩ :: ⟨[.op 5 0, .old 0], _, [], List.range 6, [22]⟩ :: ⟨[.op 5 0, .op 11 0, .op 12 0], _, [], List.range 13, [23]⟩ :: ⟨[.op 5 0, .op 13 0], _, [], List.range 14, [24]⟩ :: []) (F := [.old 1, .old 2, .old 3, .op 14 0]) hst hb Za
   (o_p rfl (Zb rfl rfl u_0) <| o_p rfl (Zd Zga rfl rfl u_0) <| o_p rfl (Zf Zi2 rfl rfl u_0) <| o_p rfl (Zby Tryz.underlying22 rfl rfl u_0) <| o_p rfl (Zcd rfl rfl u_0 u_1) <| o_p rfl (Zb rfl rfl u_0) <| o_g (g_t rfl rfl rfl (fun hG => Zd Zga rfl rfl u_0)) <| o_g (g_t rfl rfl rfl (fun hG => Zf Zi2 rfl rfl (Opd.gd hG u_0))) <| o_g (g_t rfl rfl rfl (fun hG => Zb rfl rfl u_0)) <| o_g (g_t rfl rfl rfl (fun hG => Zbf Tryz.underlying22 Zl0 rfl rfl (Opd.gd hG u_0) (Opd.gd hG u_1) (Zbl h4 hG))) <| o_g (g_t rfl rfl rfl (fun hG => Zd Zlm rfl rfl (Opd.gd hG u_0))) <| o_g (g_t rfl rfl rfl (fun hG => Zf ty_9 rfl rfl (Opd.gd hG u_0))) <| o_g (g_t rfl rfl rfl (fun hG => Zb rfl rfl u_0)) <| o_g (g_t rfl rfl rfl (fun hG => Zkr rfl rfl (Opd.gd hG u_0) (Opd.gd hG u_1))) <| o_p rfl (Zbc rfl rfl u_0 (fun hz => (Opd.gd hz u_1))) <| o_n) (by kernel_rfl) (fun a g hst hb => ?_)
 refine wp_cond_split (hst.bool 3 rfl) (fun hc5 => ?_) (fun hc5 => ?_)
 · replace H0 := Zv hc5 H0
   obtain ⟨e6, h7, H0⟩ := Zh H0
   refine r_s (L := [(2, _), (4, _), (6, _)]) (T := [⟨[.old 0], _, [], [], [25]⟩, ⟨[.op 0 0], _, [], [0], [26]⟩, ⟨[.old 2], _, [], [], [27]⟩, ⟨[.op 1 0, .op 2 0], _, [], [0, 1, 2], [28]⟩, ⟨[.op 3 0], _, [], List.range 4, [29]⟩, ⟨[.op 4 0], _, [], List.range 5, [30]⟩, ⟨[.op 5 0, .old 1], _, [5], List.range 6, [4]⟩, ⟨[], _, [], List.range 7, [5]⟩]) (F := [.op 6 0, .op 7 0]) (hst.pick [0, 1, 2] rfl) hb Za
     (o_p rfl (Zd Zga rfl rfl u_0) <| o_p rfl (Zf Zi2 rfl rfl u_0) <| o_p rfl (Zb rfl rfl u_0) <| o_p rfl (Zbf Tryz.underlying22 Zl0 rfl rfl u_0 u_1 h7) <| o_p rfl (Zd Zov rfl rfl u_0) <| o_p rfl (Zf Zba rfl rfl u_0) <| o_p rfl (Zz Zba rfl rfl u_1 u_0) <| o_p rfl (Zc rfl rfl c_b) <| o_n) (by kernel_rfl) (fun a g hst hb => ?_)
   refine wp_ret ?_
   refine Zp ?_
   obtain rfl := Option.some.inj H0
   obtain ⟨u0, hu0, hq0⟩ := Z8 (P := Tryz.prog) Zba (hst.at 0 rfl)
   exact Zc9 rfl hst hb hu0 (Zk (s := 5)) (Zcm hq0 (hst.at 1 rfl))
 · replace H0 := Zw hc5 H0
   refine wp_skip ?_
   refine Zr ?_
   refine r_s (L := [(4, _)]) (T := [⟨[], _, [], [], [31]⟩, ⟨[.op 0 0, .old 0], _, [5], [0], [4]⟩, ⟨[], _, [], [0, 1], [5]⟩]) (F := [.op 1 0, .op 2 0]) (hst.pick [1] rfl) hb Za
     (o_p rfl (Zlw rfl rfl ) <| o_p rfl (Zz Zba rfl rfl u_1 u_0) <| o_p rfl (Zc rfl rfl c_b) <| o_n) (by kernel_rfl) (fun a g hst hb => ?_)
   refine wp_ret ?_
   obtain rfl := Option.some.inj H0
   obtain ⟨u0, hu0, hq0⟩ := Z8 (P := Tryz.prog) Zba (hst.at 0 rfl)
   exact Zc9 rfl hst hb hu0 (Zk (s := 5)) (Zcm hq0 (hst.at 1 rfl))
end Go.CL
set_option linter.unusedVariables false
set_option linter.unusedSimpArgs false
set_option maxRecDepth 100000
namespace Go.CL
open Go Go.RowKit Go.Proofs
theorem Zhj (a0 : Ze) {r : Ze} (h : Zet a0 = some r) : FnOk Tryz.prog 86 [(Zi.pd a0)] (Zi.pd r) := by
 have H0 := h
 unfold Zet at H0
 clear h
 refine Zbn (N := 9) Tryz.func86 rfl rfl (Nat.le_of_ble_eq_true rfl) rfl rfl (fun a g0 hst hb => ?_)
 refine r_s (T := [⟨[.old 0], _, [2], [], [1]⟩, ⟨[], [(2, (pBox Zi 2 (default : Ze)))], [3], [], [2]⟩]) (F := [.op 0 0, .op 1 0]) hst hb Za
   (o_p rfl (Zkz rfl rfl u_0) <| o_p rfl (Zbb (zs := [.int .i64 0, .int .i64 0, .int .i64 0, .int .i64 0, .float .f64 0, .int .i64 0, .string ByteArray.empty, .slice none 0 0]) (by kernel_rfl) (fun g => Zb8 g) rfl rfl) <| o_n) (by kernel_rfl) (fun a g hst hb => ?_)
 obtain ⟨h1, H0⟩ := Zgg H0
 refine r_s (T := [⟨[], _, [4], [], [3]⟩, ⟨[.old 0], _, [], [], [4]⟩, ⟨[.op 1 0], _, [], [1], [5]⟩, ⟨[.op 0 0, .op 2 0], _, [4], [0, 1, 2], [3, 6]⟩, ⟨[.old 0], _, [], List.range 4, [7]⟩, ⟨[.op 3 0, .op 4 0, .old 0], _, [2], List.range 5, [1, 4, 7]⟩]) (F := [.op 5 0, .old 1]) hst hb Za
   (o_p rfl (Zjv 3 Zc8 (xs := []) .nil (by decide) rfl rfl) <| o_p rfl (Zs Zb9 (off := 7) (by kernel_rfl) rfl rfl u_0) <| o_p rfl (Zbo Zcz rfl rfl u_0) <| o_p rfl (Zff Zc8 rfl rfl u_0 u_1 h1) <| o_p rfl (Zs Zb9 (off := 7) (by kernel_rfl) rfl rfl u_0) <| o_p rfl (Zlp Zcz rfl rfl u_2 u_1 (Opd.imp u_0 (fun _ _ h => Zit h))) <| o_n) (by kernel_rfl) (fun a g hst hb => ?_)
 refine r_s (T := [⟨[.old 0], _, [], [], [8]⟩, ⟨[.op 0 0, .old 1], _, [3], [0], [2]⟩]) (F := [.op 1 0]) hst hb Za
   (o_p rfl (Zbw Zba rfl rfl u_0) <| o_p rfl (Zz Zba rfl rfl u_1 u_0) <| o_n) (by kernel_rfl) (fun a g hst hb => ?_)
 refine wp_ret ?_
 obtain rfl := Option.some.inj H0
 obtain ⟨u0, hu0, hq0⟩ := Z8 (P := Tryz.prog) Zba (hst.at 0 rfl)
 exact Z0 rfl hst hb hu0 hq0
end Go.CL
set_option linter.unusedVariables false
set_option linter.unusedSimpArgs false
set_option maxRecDepth 100000
namespace Go.CL
open Go Go.RowKit Go.Proofs
theorem Zqc (a0 : Int) (a1 : Int) {r : Bool} (h : Zh9 a0 a1 = some r) : FnOk Tryz.prog 124 [(pInt .i64 a0), (pInt .i64 a1)] (Zbg r) := by
 have H0 := h
 unfold Zh9 at H0
 clear h
 refine Zbn (N := 31) Tryz.func124 rfl rfl (Nat.le_of_ble_eq_true rfl) rfl rfl (fun a g0 hst hb => ?_)
 refine r_s (T := [⟨[], _, [], [], [4]⟩]) (F := [.old 0, .old 1]) hst hb Za
   (o_p rfl (Zc rfl rfl c_b) <| o_n) (by kernel_rfl) (fun a g hst hb => ?_)
 refine r_s (T := [⟨[.old 0], _, [], [], [6]⟩, ⟨[.old 1], _, [], [], [7]⟩, ⟨[.op 0 0, .op 1 0], _, [], [0, 1], [8]⟩, ⟨[.op 2 0], _, [], [0, 1, 2], [5]⟩]) (F := [.old 0, .old 1, .op 3 0]) hst hb Za
   (o_p rfl (Zb rfl rfl u_0) <| o_p rfl (Zb rfl rfl u_0) <| o_p rfl (Zb4 rfl rfl u_0 u_1 rfl) <| o_p rfl (Zc rfl rfl u_0) <| o_n) (by kernel_rfl) (fun a g hst hb => ?_)
 refine r_s (T := ⟨[.old 0], _, [], [], [9]⟩ :: ⟨[.op 0 0], _, [], [0], [10]⟩ :: ⟨[.op 1 0], _, [], [0, 1], [11]⟩ :: ⟨[.op 2 0, .old 1], _, [], [0, 1, 2], [12]⟩ :: ⟨[.op 2 0, .op 3 0], _, [], List.range 4, [13]⟩ :: ⟨[.op 2 0, .op 4 0], _, [], List.range 5, [14]⟩ :: ⟨[.op 5 0], _, [], List.range 6, [15]⟩ :: ⟨[.op 6 0, .old 2], _, [], List.range 7, [16]⟩ :: ⟨[.op 6 0, .op 7 0], _, [], List.range 8, [17]⟩ :: ⟨[.op 6 0, .op 8 0], _, [], List.range 9, [18]⟩ :: ⟨[.op 9 0], _, [], List.range 10, [19]⟩ :: ⟨[.op 10 0, .old 0], _, [], List.range 11, [20]⟩ :: ⟨[.op 10 0, .op 11 0], _, [], List.range 12, [21]⟩ :: ⟨[.op 10 0, .op 12 0], _, [], List.range 13, [22]⟩ :: ⟨[.op 13 0, .old 1], _, [], List.range 14, [23]⟩ :: ⟨[.op 13 0, .op 14 0], _, [], List.range 15, [24]⟩ :: ⟨[.op 10 0, .op 13 0, .op 15 0], _, [], List.range 16, [25]⟩ :: ⟨[.op 10 0, .op 16 0], _, [], List.range 17, [26]⟩ :: ⟨[.op 17 0, .old 2], _, [], List.range 18, [27]⟩ :: ⟨[.op 17 0, .op 18 0], _, [], List.range 19, [28]⟩ :: ⟨[.op 10 0, .op 17 0, .op 19 0], _, [], List.range 20, [29]⟩ :: ⟨[.op 10 0, .op 20 0], _, [], List.range 21, [30]⟩ :: ⟨[.op 21 0], _, [], List.range 22, [4]⟩ :: []) (F := [.op 22 0]) hst hb Za
   (o_p rfl (Zb rfl rfl u_0) <| o_p rfl (Zcl rfl rfl u_0 c_i) <| o_p rfl (Zb rfl rfl u_0) <| o_g (g_t rfl rfl rfl (fun hG => Zb rfl rfl u_0)) <| o_g (g_t rfl rfl rfl (fun hG => Zcl rfl rfl (Opd.gd hG u_0) c_i)) <| o_p rfl (Zbc rfl rfl u_0 (fun hz => (Opd.gd hz u_1))) <| o_p rfl (Zb rfl rfl u_0) <| o_g (g_t rfl rfl rfl (fun hG => Zb rfl rfl u_0)) <| o_g (g_t rfl rfl rfl (fun hG => Zcd rfl rfl (Opd.gd hG u_0) c_i)) <| o_p rfl (Zbc rfl rfl u_0 (fun hz => (Opd.gd hz u_1))) <| o_p rfl (Zb rfl rfl u_0) <| o_g (g_f rfl rfl rfl (fun hG => Zb rfl rfl u_0)) <| o_g (g_f rfl rfl rfl (fun hG => Zcd rfl rfl (Opd.gd hG u_0) c_i)) <| o_g (g_f rfl rfl rfl (fun hG => Zb rfl rfl (Opd.gd hG u_0))) <| o_g (g_ti rfl rfl rfl (fun hG => Zb rfl rfl u_0)) <| o_g (g_ti rfl rfl rfl (fun hG => Zcd rfl rfl (Opd.gd hG u_0) c_i)) <| o_g (g_f rfl rfl rfl (fun hG => Zbc rfl rfl (Opd.gd hG u_0) (fun hz => (Opd.gd (bA hG hz) u_1)))) <| o_g (g_f rfl rfl rfl (fun hG => Zb rfl rfl (Opd.gd hG u_0))) <| o_g (g_ti rfl rfl rfl (fun hG => Zb rfl rfl u_0)) <| o_g (g_ti rfl rfl rfl (fun hG => Zly rfl rfl (Opd.gd hG u_0) c_i)) <| o_g (g_f rfl rfl rfl (fun hG => Zbc rfl rfl (Opd.gd hG u_0) (fun hz => (Opd.gd (bA hG hz) u_1)))) <| o_p rfl (Zbr rfl rfl u_0 (fun hz => (Opd.gd (bNF hz) u_1))) <| o_p rfl (Zc rfl rfl u_0) <| o_n) (by kernel_rfl) (fun a g hst hb => ?_)
 refine wp_ret ?_
 obtain rfl := Option.some.inj H0
 exact Z0 rfl hst hb (Zk (s := 4)) (hst.at 0 rfl)
end Go.CL
set_option linter.unusedVariables false
set_option linter.unusedSimpArgs false
set_option maxRecDepth 100000
namespace Go.CL
open Go Go.RowKit Go.Proofs
theorem Zrg (a0 : Nat) (a1 : Nat) {r : Nat} (h : Zim a0 a1 = some r) : FnOk Tryz.prog 125 [(pFlt a0), (pFlt a1)] (pFlt r) := by
 have H0 := h
 unfold Zim at H0
 clear h
 refine Zbn (N := 10) Tryz.func125 rfl rfl (Nat.le_of_ble_eq_true rfl) rfl rfl (fun a g0 hst hb => ?_)
 refine r_s (T := [⟨[], _, [], [], [4]⟩]) (F := [.old 0, .old 1]) hst hb Za
   (o_p rfl (Zc rfl rfl c_f) <| o_n) (by kernel_rfl) (fun a g hst hb => ?_)
 refine wp_seq ?_
 obtain ⟨r1, h2, H0⟩ := Zh H0
 refine r_s (T := [⟨[.old 0], _, [], [], [5]⟩, ⟨[.old 1], _, [], [], [6]⟩, ⟨[.op 0 0, .op 1 0], _, [], [0, 1], [7]⟩]) (F := [.old 0, .old 1, .op 2 0]) hst hb Za
   (o_p rfl (Zb rfl rfl u_0) <| o_p rfl (Zb rfl rfl u_0) <| o_p rfl (Zn Zt8 (Zgw _ _ h2) rfl rfl (.cons u_0 (.cons u_1 .nil))) <| o_n) (by kernel_rfl) (fun a g hst hb => ?_)
 refine wp_cond_split (hst.bool 2 rfl) (fun hc3 => ?_) (fun hc3 => ?_)
 · replace H0 := Zv hc3 H0
   refine r_s (L := [(1, _)]) (T := [⟨[.old 0], _, [], [], [8]⟩, ⟨[.op 0 0], _, [], [0], [4]⟩]) (F := [.op 1 0]) (hst.pick [1] rfl) hb Za
     (o_p rfl (Zb rfl rfl u_0) <| o_p rfl (Zc rfl rfl u_0) <| o_n) (by kernel_rfl) (fun a g hst hb => ?_)
   refine wp_ret ?_
   refine Zp ?_
   obtain rfl := Option.some.inj H0
   exact Z0 rfl hst hb (Zk (s := 4)) (hst.at 0 rfl)
 · replace H0 := Zw hc3 H0
   refine wp_skip ?_
   refine Zr ?_
   refine r_s (L := [(0, _)]) (T := [⟨[.old 0], _, [], [], [9]⟩, ⟨[.op 0 0], _, [], [0], [4]⟩]) (F := [.op 1 0]) (hst.pick [0] rfl) hb Za
     (o_p rfl (Zb rfl rfl u_0) <| o_p rfl (Zc rfl rfl u_0) <| o_n) (by kernel_rfl) (fun a g hst hb => ?_)
   refine wp_ret ?_
   obtain rfl := Option.some.inj H0
   exact Z0 rfl hst hb (Zk (s := 4)) (hst.at 0 rfl)
end Go.CL
set_option linter.unusedVariables false
set_option linter.unusedSimpArgs false
set_option maxRecDepth 100000
namespace Go.CL
open Go Go.RowKit Go.Proofs
theorem Zq3 (a0 : Nat) (a1 : Nat) {r : Nat} (h : Ziw a0 a1 = some r) : FnOk Tryz.prog 126 [(pFlt a0), (pFlt a1)] (pFlt r) := by
 have H0 := h
 unfold Ziw at H0
 clear h
 refine Zbn (N := 10) Tryz.func126 rfl rfl (Nat.le_of_ble_eq_true rfl) rfl rfl (fun a g0 hst hb => ?_)
 refine r_s (T := [⟨[], _, [], [], [4]⟩]) (F := [.old 0, .old 1]) hst hb Za
   (o_p rfl (Zc rfl rfl c_f) <| o_n) (by kernel_rfl) (fun a g hst hb => ?_)
 refine wp_seq ?_
 obtain ⟨r1, h2, H0⟩ := Zh H0
 refine r_s (T := [⟨[.old 1], _, [], [], [5]⟩, ⟨[.old 0], _, [], [], [6]⟩, ⟨[.op 0 0, .op 1 0], _, [], [0, 1], [7]⟩]) (F := [.old 0, .old 1, .op 2 0]) hst hb Za
   (o_p rfl (Zb rfl rfl u_0) <| o_p rfl (Zb rfl rfl u_0) <| o_p rfl (Zn Zt8 (Zgw _ _ h2) rfl rfl (.cons u_0 (.cons u_1 .nil))) <| o_n) (by kernel_rfl) (fun a g hst hb => ?_)
 refine wp_cond_split (hst.bool 2 rfl) (fun hc3 => ?_) (fun hc3 => ?_)
 · replace H0 := Zv hc3 H0
   refine r_s (L := [(1, _)]) (T := [⟨[.old 0], _, [], [], [8]⟩, ⟨[.op 0 0], _, [], [0], [4]⟩]) (F := [.op 1 0]) (hst.pick [1] rfl) hb Za
     (o_p rfl (Zb rfl rfl u_0) <| o_p rfl (Zc rfl rfl u_0) <| o_n) (by kernel_rfl) (fun a g hst hb => ?_)
   refine wp_ret ?_
   refine Zp ?_
   obtain rfl := Option.some.inj H0
   exact Z0 rfl hst hb (Zk (s := 4)) (hst.at 0 rfl)
 · replace H0 := Zw hc3 H0
   refine wp_skip ?_
   refine Zr ?_
   refine r_s (L := [(0, _)]) (T := [⟨[.old 0], _, [], [], [9]⟩, ⟨[.op 0 0], _, [], [0], [4]⟩]) (F := [.op 1 0]) (hst.pick [0] rfl) hb Za
     (o_p rfl (Zb rfl rfl u_0) <| o_p rfl (Zc rfl rfl u_0) <| o_n) (by kernel_rfl) (fun a g hst hb => ?_)
   refine wp_ret ?_
   obtain rfl := Option.some.inj H0
   exact Z0 rfl hst hb (Zk (s := 4)) (hst.at 0 rfl)
end Go.CL
set_option linter.unusedVariables false
set_option linter.unusedSimpArgs false
set_option maxRecDepth 100000
namespace Go.CL
open Go Go.RowKit Go.Proofs
theorem Zlo (a0 : Int) {r : Nat} (h : Zeu a0 = some r) : FnOk Tryz.prog 127 [(pInt .u64 a0)] (pFlt r) := by
 have H0 := h
 unfold Zeu at H0
 clear h
 refine Zbn (N := 18) Tryz.func127 rfl rfl (Nat.le_of_ble_eq_true rfl) rfl rfl (fun a g0 hst hb => ?_)
 refine r_s (T := [⟨[], _, [], [], [2]⟩]) (F := [.old 0]) hst hb Za
   (o_p rfl (Zc rfl rfl c_f) <| o_n) (by kernel_rfl) (fun a g hst hb => ?_)
 refine r_s (T := [⟨[], _, [], [], [3]⟩]) (F := [.old 0, .op 0 0]) hst hb Za
   (o_p rfl (Zc rfl rfl c_i) <| o_n) (by kernel_rfl) (fun a g hst hb => ?_)
 refine wp_seq ?_
 refine r_s (T := [⟨[.old 0], _, [], [], [4]⟩, ⟨[.old 1], _, [], [], [5]⟩, ⟨[.op 0 0, .op 1 0], _, [], [0, 1], [6]⟩]) (F := [.old 0, .old 1, .op 2 0]) hst hb Za
   (o_p rfl (Zb rfl rfl u_0) <| o_p rfl (Zb rfl rfl u_0) <| o_p rfl (Zly rfl rfl u_0 u_1) <| o_n) (by kernel_rfl) (fun a g hst hb => ?_)
 refine wp_cond_split (hst.bool 2 rfl) (fun hc1 => ?_) (fun hc1 => ?_)
 · replace H0 := Zv hc1 H0
   refine r_s (L := [(0, _), (3, _)]) (T := [⟨[.old 0], _, [], [], [7]⟩, ⟨[.old 1], _, [], [], [8]⟩, ⟨[.op 0 0, .op 1 0], _, [], [0, 1], [9]⟩, ⟨[.op 2 0], _, [], [0, 1, 2], [10]⟩, ⟨[.op 3 0], _, [], List.range 4, [2]⟩]) (F := [.op 4 0]) (hst.pick [0, 1] rfl) hb Za
     (o_p rfl (Zb rfl rfl u_0) <| o_p rfl (Zb rfl rfl u_0) <| o_p rfl (Zgm rfl rfl u_0 u_1 rfl) <| o_p rfl (Zom Zxr rfl rfl u_0) <| o_p rfl (Zc rfl rfl u_0) <| o_n) (by kernel_rfl) (fun a g hst hb => ?_)
   refine wp_ret ?_
   refine Zp ?_
   obtain rfl := Option.some.inj H0
   exact Z0 rfl hst hb (Zk (s := 2)) (hst.at 0 rfl)
 · replace H0 := Zw hc1 H0
   refine wp_skip ?_
   refine Zr ?_
   refine r_s (L := [(0, _), (3, _)]) (T := [⟨[.old 1], _, [], [], [11]⟩, ⟨[.old 1], _, [], [], [12]⟩, ⟨[.op 1 0], _, [], [1], [13]⟩, ⟨[.old 0], _, [], [], [14]⟩, ⟨[.op 2 0, .op 3 0], _, [], [1, 2, 3], [15]⟩, ⟨[.op 0 0, .op 4 0], _, [], List.range 5, [16]⟩, ⟨[.op 5 0], _, [], List.range 6, [17]⟩, ⟨[.op 6 0], _, [], List.range 7, [2]⟩]) (F := [.op 7 0]) (hst.pick [0, 1] rfl) hb Za
     (o_p rfl (Zb rfl rfl u_0) <| o_p rfl (Zb rfl rfl u_0) <| o_p rfl (Zgm rfl rfl u_0 c_i rfl) <| o_p rfl (Zb rfl rfl u_0) <| o_p rfl (Zgm rfl rfl u_0 u_1 rfl) <| o_p rfl (Zb4 rfl rfl u_0 u_1 rfl) <| o_p rfl (Zom Zxr rfl rfl u_0) <| o_p rfl (Zc rfl rfl u_0) <| o_n) (by kernel_rfl) (fun a g hst hb => ?_)
   refine wp_ret ?_
   obtain rfl := Option.some.inj H0
   exact Z0 rfl hst hb (Zk (s := 2)) (hst.at 0 rfl)
end Go.CL
set_option linter.unusedVariables false
set_option linter.unusedSimpArgs false
set_option maxRecDepth 100000
namespace Go.CL
open Go Go.RowKit Go.Proofs
theorem Zlx (a0 : Nat) {r : Int} (h : Ze5 a0 = some r) : FnOk Tryz.prog 128 [(pFlt a0)] (pInt .u64 r) := by
 have H0 := h
 unfold Ze5 at H0
 clear h
 refine Zbn (N := 23) Tryz.func128 rfl rfl (Nat.le_of_ble_eq_true rfl) rfl rfl (fun a g0 hst hb => ?_)
 refine r_s (T := [⟨[], _, [], [], [2]⟩]) (F := [.old 0]) hst hb Za
   (o_p rfl (Zc rfl rfl c_i) <| o_n) (by kernel_rfl) (fun a g hst hb => ?_)
 refine r_s (T := [⟨[], _, [], [], [3]⟩]) (F := [.old 0, .op 0 0]) hst hb Za
   (o_p rfl (Zc rfl rfl c_i) <| o_n) (by kernel_rfl) (fun a g hst hb => ?_)
 refine wp_seq ?_
 obtain ⟨r1, h2, H0⟩ := Zh H0
 refine r_s (T := [⟨[.old 0], _, [], [], [5]⟩, ⟨[.op 0 0], _, [], [0], [6]⟩]) (F := [.old 0, .old 1, .op 1 0]) hst hb Za
   (o_p rfl (Zb rfl rfl u_0) <| o_p rfl (Zn Zt0 (Zih _ h2) rfl rfl (.cons u_0 .nil)) <| o_n) (by kernel_rfl) (fun a g hst hb => ?_)
 refine wp_cond_split (hst.bool 2 rfl) (fun hc3 => ?_) (fun hc3 => ?_)
 · replace H0 := Zv hc3 H0
   refine r_s (L := [(3, _)]) (T := [⟨[.old 0], _, [], [], [7]⟩, ⟨[.op 0 0], _, [], [0], [8]⟩, ⟨[.op 1 0], _, [], [0, 1], [2]⟩]) (F := [.op 2 0]) (hst.pick [1] rfl) hb Za
     (o_p rfl (Zb rfl rfl u_0) <| o_p rfl (Zb4 rfl rfl u_0 c_i rfl) <| o_p rfl (Zc rfl rfl u_0) <| o_n) (by kernel_rfl) (fun a g hst hb => ?_)
   refine wp_ret ?_
   refine Zp ?_
   obtain rfl := Option.some.inj H0
   exact Z0 rfl hst hb (Zk (s := 2)) (hst.at 0 rfl)
 · replace H0 := Zw hc3 H0
   refine wp_skip ?_
   refine Zr ?_
   refine r_s (L := [(0, _), (3, _)]) (T := [⟨[.old 0], _, [], [], [9]⟩, ⟨[.op 0 0], _, [], [0], [10]⟩, ⟨[.op 1 0], _, [], [0, 1], [4]⟩]) (F := [.old 1, .op 2 0]) (hst.pick [0, 1] rfl) hb Za
     (o_p rfl (Zb rfl rfl u_0) <| o_p rfl (Zoz Zqv rfl rfl u_0) <| o_p rfl (Zc rfl rfl u_0) <| o_n) (by kernel_rfl) (fun a g hst hb => ?_)
   refine wp_seq ?_
   refine r_s (T := [⟨[.old 1], _, [], [], [11]⟩, ⟨[.old 0], _, [], [], [12]⟩, ⟨[.op 0 0, .op 1 0], _, [], [0, 1], [13]⟩]) (F := [.old 0, .old 1, .op 2 0]) hst hb Za
     (o_p rfl (Zb rfl rfl u_0) <| o_p rfl (Zb rfl rfl u_0) <| o_p rfl (Zly rfl rfl u_0 u_1) <| o_n) (by kernel_rfl) (fun a g hst hb => ?_)
   refine wp_cond_split (hst.bool 2 rfl) (fun hc4 => ?_) (fun hc4 => ?_)
   · replace H0 := Zv hc4 H0
     refine r_s (L := [(3, _), (4, _)]) (T := [⟨[.old 0], _, [], [], [14]⟩, ⟨[.op 0 0], _, [], [0], [15]⟩, ⟨[.old 1], _, [], [], [16]⟩, ⟨[.old 0], _, [], [], [17]⟩, ⟨[.op 2 0, .op 3 0], _, [], [2, 3], [18]⟩, ⟨[.op 1 0, .op 4 0], _, [], List.range 5, [19]⟩, ⟨[.op 5 0], _, [], List.range 6, [2]⟩]) (F := [.op 6 0]) (hst.pick [0, 1] rfl) hb Za
       (o_p rfl (Zb rfl rfl u_0) <| o_p rfl (Zgm rfl rfl u_0 c_i rfl) <| o_p rfl (Zb rfl rfl u_0) <| o_p rfl (Zb rfl rfl u_0) <| o_p rfl (Zgm rfl rfl u_0 u_1 rfl) <| o_p rfl (Zgm rfl rfl u_0 u_1 rfl) <| o_p rfl (Zc rfl rfl u_0) <| o_n) (by kernel_rfl) (fun a g hst hb => ?_)
     refine wp_ret ?_
     refine Zp ?_
     obtain rfl := Option.some.inj H0
     exact Z0 rfl hst hb (Zk (s := 2)) (hst.at 0 rfl)
   · replace H0 := Zw hc4 H0
     refine wp_skip ?_
     refine Zr ?_
     refine r_s (L := [(3, _), (4, _)]) (T := [⟨[.old 0], _, [], [], [20]⟩, ⟨[.old 1], _, [], [], [21]⟩, ⟨[.op 0 0, .op 1 0], _, [], [0, 1], [22]⟩, ⟨[.op 2 0], _, [], [0, 1, 2], [2]⟩]) (F := [.op 3 0]) (hst.pick [0, 1] rfl) hb Za
       (o_p rfl (Zb rfl rfl u_0) <| o_p rfl (Zb rfl rfl u_0) <| o_p rfl (Zb4 rfl rfl u_0 u_1 rfl) <| o_p rfl (Zc rfl rfl u_0) <| o_n) (by kernel_rfl) (fun a g hst hb => ?_)
     refine wp_ret ?_
     obtain rfl := Option.some.inj H0
     exact Z0 rfl hst hb (Zk (s := 2)) (hst.at 0 rfl)
end Go.CL
set_option linter.unusedVariables false
set_option linter.unusedSimpArgs false
set_option maxRecDepth 100000
namespace Go.CL
open Go Go.RowKit Go.Proofs
theorem Zmy (a0 : List Zl) (a1 : ByteArray) {r : Bool} (h : Zfr a0 a1 = some r) : FnOk Tryz.prog 129 [(Zy.sl.pd a0), (pStr a1)] (Zbg r) := by
 have H0 := h
 unfold Zfr at H0
 clear h
 refine Zbn (N := 19) Tryz.func129 rfl rfl (Nat.le_of_ble_eq_true rfl) rfl rfl (fun a g0 hst hb => ?_)
 refine r_s (T := [⟨[], _, [], [], [4]⟩]) (F := [.old 0, .old 1]) hst hb Za
   (o_p rfl (Zc rfl rfl c_b) <| o_n) (by kernel_rfl) (fun a g hst hb => ?_)
 refine wp_seq ?_
 refine r_s (T := [⟨[], _, [], [], [5]⟩]) (F := [.old 0, .old 1, .op 0 0]) hst hb Za
   (o_p rfl (Zc rfl rfl c_i) <| o_n) (by kernel_rfl) (fun a g hst hb => ?_)
 obtain ⟨z6, hz1, H0⟩ := Zh H0
 refine Zcb (fun a w => ∃ (g : G), w = g.w ∧ St 19 [] a g ∧ Base g0 g ∧ (.inr ()) = z6) ?_ ?_
 · rintro a w ⟨g, rfl, hst, hb, rfl⟩
   refine Zr ?_
   refine r_s (T := [⟨[], _, [], [], [4]⟩]) (F := [.op 0 0]) hst hb Za
     (o_p rfl (Zc rfl rfl c_b) <| o_n) (by kernel_rfl) (fun a g hst hb => ?_)
   refine wp_ret ?_
   obtain rfl := Option.some.inj H0
   exact Z0 rfl hst hb (Zk (s := 4)) (hst.at 0 rfl)
 · refine wp_block ?_
   refine wp_loop_ghost (fun n a w => ∃ (x1 : Int) (g : G), w = g.w ∧ St 19 [(0, (Zy.sl.pd a0)), (1, (pStr a1)), (5, (pInt .i64 x1))] a g ∧ Base g0 g ∧ Zew a0 a1 n x1 = some z6) (Int.toNat ((a0.length : Int) - (0 : Int)) + 1) ⟨(0 : Int), g, rfl, (hst.pick [0, 1, 2] rfl), hb, hz1⟩ (fun n a w hI => ?_)
   obtain ⟨x1, g, rfl, hst, hb, H1⟩ := hI
   cases n with
   | zero => exact absurd H1 (by simp [Zew])
   | succ n =>
     rw [Zew] at H1
     refine wp_seq ?_
     refine r_s (T := [⟨[.old 2], _, [], [], [6]⟩, ⟨[.old 0], _, [], [], [7]⟩, ⟨[.op 1 0], _, [], [1], [8]⟩, ⟨[.op 0 0, .op 2 0], _, [], [0, 1, 2], [9]⟩]) (F := [.old 0, .old 1, .old 2, .op 3 0]) hst hb Za
       (o_p rfl (Zb rfl rfl u_0) <| o_p rfl (Zb rfl rfl u_0) <| o_p rfl (Zby Tryz.underlying62 rfl rfl u_0) <| o_p rfl (Zcd rfl rfl u_0 u_1) <| o_n) (by kernel_rfl) (fun a g hst hb => ?_)
     refine wp_cond_split (hst.bool 3 rfl) (fun hc2 => ?_) (fun hc2 => ?_)
     · replace H1 := Zv hc2 H1
       refine wp_skip ?_
       refine Zr ?_
       refine wp_seq ?_
       refine wp_block ?_
       obtain ⟨e3, h4, H1⟩ := Zh H1
       refine r_s (L := [(0, _), (1, _), (5, _)]) (T := [⟨[.old 0], _, [], [], [12]⟩, ⟨[.old 2], _, [], [], [13]⟩, ⟨[.op 0 0, .op 1 0], _, [], [0, 1], [14]⟩, ⟨[.op 2 0], _, [], [0, 1, 2], [15]⟩, ⟨[.op 3 0], _, [], List.range 4, [16]⟩, ⟨[.old 1], _, [], [], [17]⟩, ⟨[.op 4 0, .op 5 0], _, [], List.range 6, [18]⟩]) (F := [.old 0, .old 1, .old 2, .op 6 0]) (hst.pick [0, 1, 2] rfl) hb Za
         (o_p rfl (Zb rfl rfl u_0) <| o_p rfl (Zb rfl rfl u_0) <| o_p rfl (Zbf Tryz.underlying62 Zen rfl rfl u_0 u_1 h4) <| o_p rfl (Zd Zdm rfl rfl u_0) <| o_p rfl (Zf ty_9 rfl rfl u_0) <| o_p rfl (Zb rfl rfl u_0) <| o_p rfl (Zkr rfl rfl u_0 u_1) <| o_n) (by kernel_rfl) (fun a g hst hb => ?_)
       refine wp_cond_split (hst.bool 3 rfl) (fun hc5 => ?_) (fun hc5 => ?_)
       · replace H1 := Zv hc5 H1
         refine r_s (L := []) (T := [⟨[], _, [], [], [4]⟩]) (F := [.op 0 0]) (hst.pick [] rfl) hb Za
           (o_p rfl (Zc rfl rfl c_b) <| o_n) (by kernel_rfl) (fun a g hst hb => ?_)
         refine wp_ret ?_
         refine Z1 ?_
         refine Zp ?_
         refine Zp ?_
         refine Z1 ?_
         refine Zp ?_
         refine Zp ?_
         obtain rfl := Option.some.inj H1
         obtain rfl := Option.some.inj H0
         exact Z0 rfl hst hb (Zk (s := 4)) (hst.at 0 rfl)
       · replace H1 := Zw hc5 H1
         refine wp_skip ?_
         refine Zbe ?_
         refine Zr ?_
         refine r_g (L := [(0, _), (1, _), (5, _)]) (T := [⟨[.old 2], _, [], [], [10]⟩, ⟨[.op 0 0], _, [], [0], [11]⟩, ⟨[.op 1 0], _, [], [0, 1], [5]⟩]) (F := [.old 0, .old 1, .op 2 0]) (hst.pick [0, 1, 2] rfl) hb Za
           (o_p rfl (Zb rfl rfl u_0) <| o_p rfl (Zb4 rfl rfl u_0 c_i rfl) <| o_p rfl (Zc rfl rfl u_0) <| o_n) (by kernel_rfl) (fun a g hst hb => ?_)
         exact ⟨n, Nat.lt_succ_self _, (IntKind.i64.wrap (x1 + (1 : Int))), g, rfl, (hst.pick [0, 1, 2] rfl), hb, H1⟩
     · replace H1 := Zw hc2 H1
       refine wp_exit ?_
       refine Zb6 ?_
       refine Zb6 ?_
       refine Zcn ?_
       exact ⟨g, rfl, (hst.pick [] rfl), hb, Option.some.inj H1⟩
end Go.CL
set_option linter.unusedVariables false
set_option linter.unusedSimpArgs false
set_option maxRecDepth 100000
namespace Go.CL
open Go Go.RowKit Go.Proofs
theorem Zl9 (a0 : List Zl) (a1 : Zl) (a2 : Bool) {r : List Zl} (h : Zfe a0 a1 a2 = some r) : FnOk Tryz.prog 130 [(Zy.sl.pd a0), (Zy.pd a1), (Zbg a2)] (Zy.sl.pd r) := by
 have H0 := h
 unfold Zfe at H0
 clear h
 refine Zbn (N := 89) Tryz.func130 rfl rfl (Nat.le_of_ble_eq_true rfl) rfl rfl (fun a g0 hst hb => ?_)
 refine r_s (T := [⟨[.old 1], _, [], [], [4]⟩, ⟨[], [(6, (Zy.sl.pd ([] : List Zl)))], [], [], [6]⟩]) (F := [.old 0, .old 2, .op 0 0]) hst hb Za
   (o_p rfl (Zbj rfl rfl u_0) <| o_p rfl (Zc rfl rfl (Opd.c (fun g => Zj4 g))) <| o_n) (by kernel_rfl) (fun a g hst hb => ?_)
 refine r_s (T := [⟨[], _, [13], [], [12]⟩, ⟨[.op 0 0], _, [], [0], [7]⟩, ⟨[], _, [], [0, 1], [8]⟩]) (F := [.old 0, .old 1, .old 2, .op 1 0, .op 2 0]) hst hb Za
   (o_p rfl (Zjv 12 Zc8 (xs := []) .nil (by decide) rfl rfl) <| o_p rfl (Zc rfl rfl u_0) <| o_p rfl (Zc rfl rfl c_b) <| o_n) (by kernel_rfl) (fun a g hst hb => ?_)
 refine wp_seq ?_
 refine r_s (T := [⟨[], _, [], [], [9]⟩]) (F := [.old 0, .old 1, .old 2, .old 3, .old 4, .op 0 0]) hst hb Za
   (o_p rfl (Zc rfl rfl c_i) <| o_n) (by kernel_rfl) (fun a g hst hb => ?_)
 obtain ⟨z27, hz1, H0⟩ := Zh H0
 refine Zcb (fun a w => ∃ (y25 : List Zl) (y26 : Bool) (g : G), w = g.w ∧ St 89 [(4, (Zy.ptr a1)), (7, (pRow Zy 105 12 y25)), (8, (Zbg y26))] a g ∧ Base g0 g ∧ (y25, y26) = z27) ?_ ?_
 · rintro a w ⟨y25, y26, g, rfl, hst, hb, rfl⟩
   refine Zr ?_
   refine wp_seq ?_
   refine r_s (T := [⟨[.old 2], _, [], [], [82]⟩, ⟨[.op 0 0], _, [], [0], [83]⟩]) (F := [.old 0, .old 1, .op 1 0]) hst hb Za
     (o_p rfl (Zb rfl rfl u_0) <| o_p rfl (Zb7 rfl rfl u_0) <| o_n) (by kernel_rfl) (fun a g hst hb => ?_)
   refine Zcb (fun a w => ∃ (j30 : List Zl) (g : G), w = g.w ∧ St 89 [(7, (pRow Zy 105 12 j30))] a g ∧ Base g0 g ∧ Zfx j30 = some r) ?_ ?_
   · rintro a w ⟨j30, g, rfl, hst, hb, H0⟩
     unfold Zfx at H0
     refine Zr ?_
     refine r_s (T := [⟨[.old 0], _, [], [], [88]⟩, ⟨[.op 0 0], _, [], [0], [6]⟩]) (F := [.op 1 0]) hst hb Za
       (o_p rfl (Zb rfl rfl u_0) <| o_p rfl (Zc rfl rfl u_0) <| o_n) (by kernel_rfl) (fun a g hst hb => ?_)
     refine wp_ret ?_
     obtain rfl := Option.some.inj H0
     exact Z0 rfl hst hb (Zk (s := 6)) (Zit (hst.at 0 rfl))
   · refine wp_cond_split (hst.bool 2 rfl) (fun hc28 => ?_) (fun hc28 => ?_)
     · replace H0 := Zv hc28 H0
       obtain ⟨h29, H0⟩ := Zgg H0
       refine r_g (L := [(4, _), (7, _)]) (T := [⟨[.old 1], _, [], [], [84]⟩, ⟨[.old 0], _, [], [], [85]⟩, ⟨[.op 1 0], _, [], [1], [86]⟩, ⟨[.op 0 0, .op 2 0], _, [13], [0, 1, 2], [7, 84, 87]⟩, ⟨[.op 3 0], _, [], List.range 4, [7]⟩]) (F := [.op 4 0]) (hst.pick [0, 1] rfl) hb Za
         (o_p rfl (Zb rfl rfl u_0) <| o_p rfl (Zf Zds rfl rfl u_0) <| o_p rfl (Zgt Zc8 (xs := [.tmp 85]) (.cons u_0 .nil) (by decide) rfl rfl) <| o_p rfl (Zff Zc8 rfl rfl u_0 u_1 h29) <| o_p rfl (Zc rfl rfl u_0) <| o_n) (by kernel_rfl) (fun a g hst hb => ?_)
       exact ⟨(y25 ++ ([a1] : List Zl)), g, rfl, (hst.pick [0] rfl), hb, H0⟩
     · replace H0 := Zw hc28 H0
       refine wp_skip ?_
       exact ⟨y25, g, rfl, (hst.pick [1] rfl), hb, H0⟩
 · refine wp_block ?_
   refine wp_loop_ghost (fun n a w => ∃ (x1 : List Zl) (x2 : Bool) (x3 : Int) (g : G), w = g.w ∧ St 89 [(0, (Zy.sl.pd a0)), (2, (Zbg a2)), (4, (Zy.ptr a1)), (7, (pRow Zy 105 12 x1)), (8, (Zbg x2)), (9, (pInt .i64 x3))] a g ∧ Base g0 g ∧ Zcj a0 a1 a2 n x1 x2 x3 = some z27) (Int.toNat ((a0.length : Int) - (0 : Int)) + 1) ⟨([] : List Zl), false, (0 : Int), g, rfl, (hst.pick [0, 1, 2, 3, 4, 5] rfl), hb, hz1⟩ (fun n a w hI => ?_)
   obtain ⟨x1, x2, x3, g, rfl, hst, hb, H1⟩ := hI
   cases n with
   | zero => exact absurd H1 (by simp [Zcj])
   | succ n =>
     rw [Zcj] at H1
     refine wp_seq ?_
     refine r_s (T := [⟨[.old 5], _, [], [], [13]⟩, ⟨[.old 0], _, [], [], [14]⟩, ⟨[.op 1 0], _, [], [1], [15]⟩, ⟨[.op 0 0, .op 2 0], _, [], [0, 1, 2], [16]⟩]) (F := [.old 0, .old 1, .old 2, .old 3, .old 4, .old 5, .op 3 0]) hst hb Za
       (o_p rfl (Zb rfl rfl u_0) <| o_p rfl (Zb rfl rfl u_0) <| o_p rfl (Zby Tryz.underlying62 rfl rfl u_0) <| o_p rfl (Zcd rfl rfl u_0 u_1) <| o_n) (by kernel_rfl) (fun a g hst hb => ?_)
     refine wp_cond_split (hst.bool 6 rfl) (fun hc4 => ?_) (fun hc4 => ?_)
     · replace H1 := Zv hc4 H1
       refine wp_skip ?_
       refine Zr ?_
       refine wp_seq ?_
       refine wp_block ?_
       obtain ⟨e5, h6, H1⟩ := Zh H1; obtain ⟨r7, h8, H1⟩ := Zh H1; obtain ⟨e9, h10, H1⟩ := Zh H1
       refine r_s (L := [(0, _), (2, _), (4, _), (7, _), (8, _), (9, _)]) (T := ⟨[.old 1], _, [], [], [19]⟩ :: ⟨[.op 0 0], _, [], [0], [20]⟩ :: ⟨[.op 1 0], _, [], [0, 1], [21]⟩ :: ⟨[.op 2 0, .old 0], _, [], [0, 1, 2], [22]⟩ :: ⟨[.op 2 0, .old 5], _, [], [0, 1, 2], [23]⟩ :: ⟨[.op 2 0, .op 3 0, .op 4 0], _, [], List.range 5, [24]⟩ :: ⟨[.op 2 0, .op 5 0], _, [], List.range 6, [25]⟩ :: ⟨[.op 2 0, .old 2], _, [], [0, 1, 2], [26]⟩ :: ⟨[.op 2 0, .op 6 0, .op 7 0], _, [], List.range 8, [27]⟩ :: ⟨[.op 2 0, .op 8 0], _, [], List.range 9, [28]⟩ :: ⟨[.op 9 0], _, [], List.range 10, [29]⟩ :: ⟨[.op 10 0, .old 1], _, [], List.range 11, [30]⟩ :: ⟨[.op 10 0, .op 11 0], _, [], List.range 12, [31]⟩ :: ⟨[.op 12 0, .old 0], _, [], List.range 13, [32]⟩ :: ⟨[.op 12 0, .old 5], _, [], List.range 13, [33]⟩ :: ⟨[.op 12 0, .op 13 0, .op 14 0], _, [], List.range 15, [34]⟩ :: ⟨[.op 12 0, .op 15 0], _, [], List.range 16, [35]⟩ :: ⟨[.op 12 0, .op 16 0], _, [], List.range 17, [36]⟩ :: ⟨[.op 12 0, .old 2], _, [], List.range 13, [37]⟩ :: ⟨[.op 12 0, .op 18 0], _, [], 0 :: 1 :: 2 :: 3 :: 4 :: 5 :: 6 :: 7 :: 8 :: 9 :: 10 :: 11 :: 12 :: 18 :: [], [38]⟩ :: ⟨[.op 12 0, .op 17 0, .op 19 0], _, [], List.range 20, [39]⟩ :: ⟨[.op 10 0, .op 12 0, .op 20 0], _, [], List.range 21, [40]⟩ :: ⟨[.op 10 0, .op 21 0], _, [], List.range 22, [41]⟩ :: ⟨[.op 22 0], _, [], List.range 23, [10]⟩ :: []) (F := [.old 0, .old 1, .old 2, .old 3, .old 4, .old 5, .op 23 0]) (hst.pick [0, 1, 2, 3, 4, 5] rfl) hb Za
         (o_p rfl (Zb rfl rfl u_0) <| o_p rfl (Zb7 rfl rfl u_0) <| o_p rfl (Zb rfl rfl u_0) <| o_g (g_t rfl rfl rfl (fun hG => Zb rfl rfl u_0)) <| o_g (g_t rfl rfl rfl (fun hG => Zb rfl rfl u_0)) <| o_g (g_t rfl rfl rfl (fun hG => Zbf Tryz.underlying62 Zen rfl rfl (Opd.gd hG u_0) (Opd.gd hG u_1) (Zbl h6 hG))) <| o_g (g_t rfl rfl rfl (fun hG => Zf Zds rfl rfl (Opd.gd hG u_0))) <| o_g (g_t rfl rfl rfl (fun hG => Zf Zds rfl rfl u_0)) <| o_g (g_t rfl rfl rfl (fun hG => Zn Z1o (Zl6 _ _ (Zbl h8 hG)) rfl rfl (.cons (Opd.gd hG u_0) (.cons (Opd.gd hG u_1) .nil)))) <| o_p rfl (Zbc rfl rfl u_0 (fun hz => (Opd.gd hz u_1))) <| o_p rfl (Zb rfl rfl u_0) <| o_g (g_f rfl rfl rfl (fun hG => Zb rfl rfl u_0)) <| o_g (g_f rfl rfl rfl (fun hG => Zb rfl rfl (Opd.gd hG u_0))) <| o_g (g_ti rfl rfl rfl (fun hG => Zb rfl rfl u_0)) <| o_g (g_ti rfl rfl rfl (fun hG => Zb rfl rfl u_0)) <| o_g (g_ti rfl rfl rfl (fun hG => Zbf Tryz.underlying62 Zen rfl rfl (Opd.gd hG u_0) (Opd.gd hG u_1) (Zbl h10 hG))) <| o_g (g_ti rfl rfl rfl (fun hG => Zd Zdm rfl rfl (Opd.gd hG u_0))) <| o_g (g_ti rfl rfl rfl (fun hG => Zf ty_9 rfl rfl (Opd.gd hG u_0))) <| o_g (g_ti rfl rfl rfl (fun hG => Zd Zdm rfl rfl u_0)) <| o_g (g_ti rfl rfl rfl (fun hG => Zf ty_9 rfl rfl (Opd.gd hG u_0))) <| o_g (g_ti rfl rfl rfl (fun hG => Zl3 rfl rfl (Opd.gd hG u_0) (Opd.gd hG u_1))) <| o_g (g_f rfl rfl rfl (fun hG => Zbc rfl rfl (Opd.gd hG u_0) (fun hz => (Opd.gd (bA hG hz) u_1)))) <| o_p rfl (Zbr rfl rfl u_0 (fun hz => (Opd.gd (bNF hz) u_1))) <| o_p rfl (Zc rfl rfl u_0) <| o_n) (by kernel_rfl) (fun a g hst hb => ?_)
       obtain ⟨e11, h12, H1⟩ := Zh H1; obtain ⟨e13, h14, H1⟩ := Zh H1; obtain ⟨r15, h16, H1⟩ := Zh H1
       refine r_s (T := ⟨[.old 0], _, [], [], [42]⟩ :: ⟨[.old 5], _, [], [], [43]⟩ :: ⟨[.op 0 0, .op 1 0], _, [], [0, 1], [44]⟩ :: ⟨[.op 2 0], _, [], [0, 1, 2], [45]⟩ :: ⟨[.op 3 0], _, [], List.range 4, [46]⟩ :: ⟨[.old 2], _, [], [], [47]⟩ :: ⟨[.op 5 0], _, [], [5], [48]⟩ :: ⟨[.op 4 0, .op 6 0], _, [], List.range 7, [49]⟩ :: ⟨[.op 7 0], _, [], List.range 8, [50]⟩ :: ⟨[.op 8 0, .old 1], _, [], List.range 9, [51]⟩ :: ⟨[.op 8 0, .op 9 0], _, [], List.range 10, [52]⟩ :: ⟨[.op 10 0, .old 0], _, [], List.range 11, [53]⟩ :: ⟨[.op 10 0, .old 5], _, [], List.range 11, [54]⟩ :: ⟨[.op 10 0, .op 11 0, .op 12 0], _, [], List.range 13, [55]⟩ :: ⟨[.op 10 0, .op 13 0], _, [], List.range 14, [56]⟩ :: ⟨[.op 10 0, .op 14 0], _, [], List.range 15, [57]⟩ :: ⟨[.op 10 0, .old 2], _, [], List.range 11, [58]⟩ :: ⟨[.op 10 0, .op 16 0], _, [], 0 :: 1 :: 2 :: 3 :: 4 :: 5 :: 6 :: 7 :: 8 :: 9 :: 10 :: 16 :: [], [59]⟩ :: ⟨[.op 10 0, .op 15 0, .op 17 0], _, [], List.range 18, [60]⟩ :: ⟨[.op 8 0, .op 10 0, .op 18 0], _, [], List.range 19, [61]⟩ :: ⟨[.op 8 0, .op 19 0], _, [], List.range 20, [62]⟩ :: ⟨[.op 20 0], _, [], List.range 21, [11]⟩ :: []) (F := [.old 0, .old 1, .old 2, .old 3, .old 4, .old 5, .old 6, .op 21 0]) hst hb Za
         (o_p rfl (Zb rfl rfl u_0) <| o_p rfl (Zb rfl rfl u_0) <| o_p rfl (Zbf Tryz.underlying62 Zen rfl rfl u_0 u_1 h12) <| o_p rfl (Zd Zdm rfl rfl u_0) <| o_p rfl (Zf ty_9 rfl rfl u_0) <| o_p rfl (Zd Zdm rfl rfl u_0) <| o_p rfl (Zf ty_9 rfl rfl u_0) <| o_p rfl (Zkr rfl rfl u_0 u_1) <| o_p rfl (Zb rfl rfl u_0) <| o_g (g_t rfl rfl rfl (fun hG => Zb rfl rfl u_0)) <| o_g (g_t rfl rfl rfl (fun hG => Zb rfl rfl (Opd.gd hG u_0))) <| o_g (g_fi rfl rfl rfl (fun hG => Zb rfl rfl u_0)) <| o_g (g_fi rfl rfl rfl (fun hG => Zb rfl rfl u_0)) <| o_g (g_fi rfl rfl rfl (fun hG => Zbf Tryz.underlying62 Zen rfl rfl (Opd.gd hG u_0) (Opd.gd hG u_1) (Zbl h14 hG))) <| o_g (g_fi rfl rfl rfl (fun hG => Zd Ze7 rfl rfl (Opd.gd hG u_0))) <| o_g (g_fi rfl rfl rfl (fun hG => Zf Zct rfl rfl (Opd.gd hG u_0))) <| o_g (g_fi rfl rfl rfl (fun hG => Zd Ze7 rfl rfl u_0)) <| o_g (g_fi rfl rfl rfl (fun hG => Zf Zct rfl rfl (Opd.gd hG u_0))) <| o_g (g_fi rfl rfl rfl (fun hG => Zn Zri (Zfw _ _ (Zbl h16 hG)) rfl rfl (.cons (Opd.gd hG u_0) (.cons (Opd.gd hG u_1) .nil)))) <| o_g (g_t rfl rfl rfl (fun hG => Zbr rfl rfl (Opd.gd hG u_0) (fun hz => (Opd.gd (bA hG (bNF hz)) u_1)))) <| o_p rfl (Zbc rfl rfl u_0 (fun hz => (Opd.gd hz u_1))) <| o_p rfl (Zc rfl rfl u_0) <| o_n) (by kernel_rfl) (fun a g hst hb => ?_)
       refine wp_seq ?_
       refine r_s (T := [⟨[.old 4], _, [], [], [63]⟩, ⟨[.op 0 0], _, [], [0], [64]⟩, ⟨[.op 1 0], _, [], [0, 1], [65]⟩, ⟨[.op 2 0, .old 6], _, [], [0, 1, 2], [66]⟩, ⟨[.op 2 0, .op 3 0], _, [], List.range 4, [67]⟩, ⟨[.op 2 0, .op 4 0], _, [], List.range 5, [68]⟩]) (F := [.old 0, .old 1, .old 2, .old 3, .old 4, .old 5, .old 7, .op 5 0]) hst hb Za
         (o_p rfl (Zb rfl rfl u_0) <| o_p rfl (Zb7 rfl rfl u_0) <| o_p rfl (Zb rfl rfl u_0) <| o_g (g_t rfl rfl rfl (fun hG => Zb rfl rfl u_0)) <| o_g (g_t rfl rfl rfl (fun hG => Zb7 rfl rfl (Opd.gd hG u_0))) <| o_p rfl (Zbc rfl rfl u_0 (fun hz => (Opd.gd hz u_1))) <| o_n) (by kernel_rfl) (fun a g hst hb => ?_)
       refine Zcb (fun a w => ∃ (j20 : List Zl) (j21 : Bool) (g : G), w = g.w ∧ St 89 [(0, (Zy.sl.pd a0)), (2, (Zbg a2)), (4, (Zy.ptr a1)), (7, (pRow Zy 105 12 j20)), (8, (Zbg j21)), (9, (pInt .i64 x3))] a g ∧ Base g0 g ∧ Zdp a0 x3 (Zcj a0 a1 a2 n) j20 j21 = some z27) ?_ ?_
       · rintro a w ⟨j20, j21, g, rfl, hst, hb, H1⟩
         unfold Zdp at H1
         refine Zr ?_
         obtain ⟨e22, h23, H1⟩ := Zh H1; obtain ⟨h24, H1⟩ := Zgg H1
         refine r_g (T := [⟨[.old 3], _, [], [], [75]⟩, ⟨[.old 0], _, [], [], [76]⟩, ⟨[.old 5], _, [], [], [77]⟩, ⟨[.op 1 0, .op 2 0], _, [], [1, 2], [78]⟩, ⟨[.op 3 0], _, [], [1, 2, 3], [79]⟩, ⟨[.op 4 0], _, [], List.range' 1 4, [80]⟩, ⟨[.op 0 0, .op 5 0], _, [13], List.range 6, [7, 75, 81]⟩, ⟨[.op 6 0], _, [], List.range 7, [7]⟩]) (F := [.old 0, .old 1, .old 2, .op 7 0, .old 4, .old 5]) hst hb Za
           (o_p rfl (Zb rfl rfl u_0) <| o_p rfl (Zb rfl rfl u_0) <| o_p rfl (Zb rfl rfl u_0) <| o_p rfl (Zbf Tryz.underlying62 Zen rfl rfl u_0 u_1 h23) <| o_p rfl (Zf Zds rfl rfl u_0) <| o_p rfl (Zgt Zc8 (xs := [.tmp 79]) (.cons u_0 .nil) (by decide) rfl rfl) <| o_p rfl (Zff Zc8 rfl rfl u_0 u_1 h24) <| o_p rfl (Zc rfl rfl u_0) <| o_n) (by kernel_rfl) (fun a g hst hb => ?_)
         refine Zbe ?_
         refine Zr ?_
         refine r_g (T := [⟨[.old 5], _, [], [], [17]⟩, ⟨[.op 0 0], _, [], [0], [18]⟩, ⟨[.op 1 0], _, [], [0, 1], [9]⟩]) (F := [.old 0, .old 1, .old 2, .old 3, .old 4, .op 2 0]) hst hb Za
           (o_p rfl (Zb rfl rfl u_0) <| o_p rfl (Zb4 rfl rfl u_0 c_i rfl) <| o_p rfl (Zc rfl rfl u_0) <| o_n) (by kernel_rfl) (fun a g hst hb => ?_)
         exact ⟨n, Nat.lt_succ_self _, (j20 ++ ([e22] : List Zl)), j21, (IntKind.i64.wrap (x3 + (1 : Int))), g, rfl, (hst.pick [0, 1, 2, 3, 4, 5] rfl), hb, H1⟩
       · refine wp_cond_split (hst.bool 7 rfl) (fun hc17 => ?_) (fun hc17 => ?_)
         · replace H1 := Zv hc17 H1
           refine r_s (L := [(0, _), (2, _), (4, _), (7, _), (9, _), (11, _)]) (T := [⟨[], _, [], [], [8]⟩]) (F := [.old 0, .old 1, .old 2, .old 3, .op 0 0, .old 4, .old 5]) (hst.pick [0, 1, 2, 3, 5, 6] rfl) hb Za
             (o_p rfl (Zc rfl rfl c_b) <| o_n) (by kernel_rfl) (fun a g hst hb => ?_)
           refine r_s (T := [⟨[.old 6], _, [], [], [69]⟩, ⟨[.op 0 0], _, [], [0], [70]⟩]) (F := [.old 0, .old 1, .old 2, .old 3, .old 4, .old 5, .op 1 0]) hst hb Za
             (o_p rfl (Zb rfl rfl u_0) <| o_p rfl (Zb7 rfl rfl u_0) <| o_n) (by kernel_rfl) (fun a g hst hb => ?_)
           refine wp_cond_split (hst.bool 6 rfl) (fun hc18 => ?_) (fun hc18 => ?_)
           · replace H1 := Zv hc18 H1
             obtain ⟨h19, H1⟩ := Zgg H1
             refine r_g (L := [(0, _), (2, _), (4, _), (7, _), (8, _), (9, _)]) (T := [⟨[.old 3], _, [], [], [71]⟩, ⟨[.old 2], _, [], [], [72]⟩, ⟨[.op 1 0], _, [], [1], [73]⟩, ⟨[.op 0 0, .op 2 0], _, [13], [0, 1, 2], [7, 71, 74]⟩, ⟨[.op 3 0], _, [], List.range 4, [7]⟩]) (F := [.old 0, .old 1, .old 2, .op 4 0, .old 4, .old 5]) (hst.pick [0, 1, 2, 3, 4, 5] rfl) hb Za
               (o_p rfl (Zb rfl rfl u_0) <| o_p rfl (Zf Zds rfl rfl u_0) <| o_p rfl (Zgt Zc8 (xs := [.tmp 72]) (.cons u_0 .nil) (by decide) rfl rfl) <| o_p rfl (Zff Zc8 rfl rfl u_0 u_1 h19) <| o_p rfl (Zc rfl rfl u_0) <| o_n) (by kernel_rfl) (fun a g hst hb => ?_)
             exact ⟨(x1 ++ ([a1] : List Zl)), true, g, rfl, (hst.pick [0, 1, 2, 3, 4, 5] rfl), hb, H1⟩
           · replace H1 := Zw hc18 H1
             refine wp_skip ?_
             exact ⟨x1, true, g, rfl, (hst.pick [0, 1, 2, 3, 4, 5] rfl), hb, H1⟩
         · replace H1 := Zw hc17 H1
           refine wp_skip ?_
           exact ⟨x1, x2, g, rfl, (hst.pick [0, 1, 2, 3, 4, 5] rfl), hb, H1⟩
     · replace H1 := Zw hc4 H1
       refine wp_exit ?_
       refine Zb6 ?_
       refine Zb6 ?_
       refine Zcn ?_
       exact ⟨x1, x2, g, rfl, (hst.pick [2, 3, 4] rfl), hb, Option.some.inj H1⟩
end Go.CL
set_option linter.unusedVariables false
set_option linter.unusedSimpArgs false
set_option maxRecDepth 100000
namespace Go.CL
open Go Go.RowKit Go.Proofs
theorem Zr8 (a0 : Ze) (a1 : Z2) {r : Ze × Zg} (h : Zbt a0 a1 = some r) : FnOk Tryz.prog 87 [(Zi.pd a0), (Zbd.pd a1)] (pTup [(Zi.pd r.1), (Zm.pd r.2)]) := by
 have H0 := h
 unfold Zbt at H0
 clear h
 refine Zbn (N := 217) Tryz.func87 rfl rfl (Nat.le_of_ble_eq_true rfl) rfl rfl (fun a g0 hst hb => ?_)
 refine r_s (T := [⟨[.old 0], _, [3], [], [2]⟩, ⟨[.old 1], _, [], [], [3]⟩, ⟨[], [(4, (pBox Zi 4 (default : Ze)))], [5], [], [4]⟩, ⟨[], [(5, (pBox Zm 5 (default : Zg)))], [6], [], [5]⟩]) (F := [.op 0 0, .op 1 0, .op 2 0, .op 3 0]) hst hb Za
   (o_p rfl (Zkz rfl rfl u_0) <| o_p rfl (Zbj rfl rfl u_0) <| o_p rfl (Zbb (zs := [.int .i64 0, .int .i64 0, .int .i64 0, .int .i64 0, .float .f64 0, .int .i64 0, .string ByteArray.empty, .slice none 0 0]) (by kernel_rfl) (fun g => Zb8 g) rfl rfl) <| o_p rfl (Zbb (zs := [.int .i64 0, .int .i64 0, .int .i64 0, .int .i64 0, .int .i64 0, .int .i64 0, .float .f64 0, .int .i64 0, .string ByteArray.empty, .slice none 0 0]) (by kernel_rfl) (fun g => Zcv g) rfl rfl) <| o_n) (by kernel_rfl) (fun a g hst hb => ?_)
 refine r_s (T := [⟨[], _, [], [], [10]⟩, ⟨[], [(6, (pBox Zm 6 (default : Zg)))], [7], [], [6]⟩, ⟨[.op 0 0, .op 1 0], _, [7], [0, 1], [6]⟩]) (F := [.old 0, .old 1, .old 2, .old 3, .op 2 0]) hst hb Za
   (o_p rfl (Zoq rfl rfl ) <| o_p rfl (Zbb (zs := [.int .i64 0, .int .i64 0, .int .i64 0, .int .i64 0, .int .i64 0, .int .i64 0, .float .f64 0, .int .i64 0, .string ByteArray.empty, .slice none 0 0]) (by kernel_rfl) (fun g => Zcv g) rfl rfl) <| o_p rfl (Zz Zbv rfl rfl u_1 u_0) <| o_n) (by kernel_rfl) (fun a g hst hb => ?_)
 refine wp_seq ?_
 refine r_s (T := [⟨[.old 1], _, [], [], [11]⟩, ⟨[.op 0 0], _, [], [0], [12]⟩]) (F := [.old 0, .old 1, .old 2, .old 3, .old 4, .op 1 0]) hst hb Za
   (o_p rfl (Zd Zda rfl rfl u_0) <| o_p rfl (Zf ty_3 rfl rfl u_0) <| o_n) (by kernel_rfl) (fun a g hst hb => ?_)
 refine Zcb (fun a w => ∃ (j65 : Ze) (j66 : Zg) (g : G), w = g.w ∧ St 217 [(2, (pBox Zi 2 j65)), (4, (pBox Zi 4 (default : Ze))), (5, (pBox Zm 5 (default : Zg))), (6, (pBox Zm 6 j66))] a g ∧ Base g0 g ∧ Z5 j65 j66 = some r) ?_ ?_
 · rintro a w ⟨j65, j66, g, rfl, hst, hb, H0⟩
   unfold Z5 at H0
   refine Zr ?_
   refine r_s (T := [⟨[.old 0], _, [], [], [215]⟩, ⟨[.old 3], _, [], [], [216]⟩, ⟨[.op 0 0, .old 1], _, [5], [0], [4]⟩, ⟨[.op 1 0, .old 2], _, [6], [0, 1, 2], [5]⟩]) (F := [.op 2 0, .op 3 0]) hst hb Za
     (o_p rfl (Zbw Zba rfl rfl u_0) <| o_p rfl (Zbw Zbv rfl rfl u_0) <| o_p rfl (Zz Zba rfl rfl u_1 u_0) <| o_p rfl (Zz Zbv rfl rfl u_1 u_0) <| o_n) (by kernel_rfl) (fun a g hst hb => ?_)
   refine wp_ret ?_
   obtain rfl := Option.some.inj H0
   obtain ⟨u0, hu0, hq0⟩ := Z8 (P := Tryz.prog) Zba (hst.at 0 rfl)
   obtain ⟨u1, hu1, hq1⟩ := Z8 (P := Tryz.prog) Zbv (hst.at 1 rfl)
   exact Zc9 rfl hst hb hu0 hu1 (Zcm hq0 hq1)
 · refine wp_block ?_
   refine r_s (T := [⟨[.old 5], _, [], [], [14]⟩, ⟨[.op 0 0], _, [], [0], [13]⟩]) (F := [.old 0, .old 1, .old 2, .old 3, .old 4, .old 5, .op 1 0]) hst hb Za
     (o_p rfl (Zbk rfl rfl u_0 c_i) <| o_p rfl (Zc rfl rfl u_0) <| o_n) (by kernel_rfl) (fun a g hst hb => ?_)
   refine wp_cond_split (hst.bool 6 rfl) (fun hc1 => ?_) (fun hc1 => ?_)
   · replace H0 := Zv hc1 H0
     refine r_g (L := [(2, _), (3, _), (4, _), (5, _), (6, _)]) (T := [⟨[.old 1], _, [], [], [15]⟩, ⟨[.op 0 0], _, [], [0], [16]⟩, ⟨[.old 0], _, [], [0, 1], [17]⟩, ⟨[.op 1 0, .op 2 0, .old 0], _, [3], [0, 1, 2], [2, 17]⟩]) (F := [.op 3 0, .old 2, .old 3, .old 4]) (hst.pick [0, 1, 2, 3, 4] rfl) hb Za
       (o_p rfl (Zd Zfb rfl rfl u_0) <| o_p rfl (Zf ty_9 rfl rfl u_0) <| o_p rfl (Zs Zh6 (off := 6) (by kernel_rfl) rfl rfl u_0) <| o_p rfl (Zrt ty_9 rfl rfl u_2 u_1 u_0) <| o_n) (by kernel_rfl) (fun a g hst hb => ?_)
     refine Zbe ?_
     exact ⟨({ a0 with Text := a1.S }), ({ Code := (0 : Int), Num := (0 : Int), Rec := (default : Ze) } : Zg), g, rfl, (hst.pick [0, 1, 2, 3] rfl), hb, H0⟩
   · replace H0 := Zw hc1 H0
     refine r_s (L := [(2, _), (3, _), (4, _), (5, _), (6, _), (12, _)]) (T := [⟨[.old 5], _, [], [], [19]⟩, ⟨[.op 0 0], _, [], [0], [18]⟩]) (F := [.old 0, .old 1, .old 2, .old 3, .old 4, .old 5, .op 1 0]) (hst.pick [0, 1, 2, 3, 4, 5] rfl) hb Za
       (o_p rfl (Zbk rfl rfl u_0 c_i) <| o_p rfl (Zc rfl rfl u_0) <| o_n) (by kernel_rfl) (fun a g hst hb => ?_)
     refine wp_cond_split (hst.bool 6 rfl) (fun hc2 => ?_) (fun hc2 => ?_)
     · replace H0 := Zv hc2 H0
       obtain ⟨r3, h4, H0⟩ := Zh H0
       refine r_s (L := [(2, _), (3, _), (4, _), (5, _), (6, _)]) (T := [⟨[.old 0], _, [], [], [20]⟩, ⟨[.op 0 0], _, [], [0], [21]⟩, ⟨[.old 4], _, [], [0, 1], [22]⟩, ⟨[.op 1 0, .op 2 0, .old 4], _, [7], [0, 1, 2], [6, 22]⟩]) (F := [.old 0, .old 1, .old 2, .old 3, .op 3 0]) (hst.pick [0, 1, 2, 3, 4] rfl) hb Za
         (o_p rfl (Zbw Zba rfl rfl u_0) <| o_p rfl (Zn Zwb (Zhj _ h4) rfl rfl (.cons u_0 .nil)) <| o_p rfl (Zs Znf (off := 2) (by kernel_rfl) rfl rfl u_0) <| o_p rfl (Zza Zba rfl rfl u_2 u_1 u_0) <| o_n) (by kernel_rfl) (fun a g hst hb => ?_)
       refine r_g (T := [⟨[.old 1], _, [], [], [23]⟩, ⟨[.op 0 0], _, [], [0], [24]⟩, ⟨[.old 0], _, [], [0, 1], [25]⟩, ⟨[.op 1 0, .op 2 0, .old 0], _, [3], [0, 1, 2], [2, 25]⟩]) (F := [.op 3 0, .old 2, .old 3, .old 4]) hst hb Za
         (o_p rfl (Zd Zfb rfl rfl u_0) <| o_p rfl (Zf ty_9 rfl rfl u_0) <| o_p rfl (Zs Zh6 (off := 6) (by kernel_rfl) rfl rfl u_0) <| o_p rfl (Zrt ty_9 rfl rfl u_2 u_1 u_0) <| o_n) (by kernel_rfl) (fun a g hst hb => ?_)
       refine Zbe ?_
       exact ⟨({ a0 with Text := a1.S }), ({ ({ Code := (0 : Int), Num := (0 : Int), Rec := (default : Ze) } : Zg) with Rec := r3 }), g, rfl, (hst.pick [0, 1, 2, 3] rfl), hb, H0⟩
     · replace H0 := Zw hc2 H0
       refine r_s (L := [(2, _), (3, _), (4, _), (5, _), (6, _), (12, _)]) (T := [⟨[.old 5], _, [], [], [27]⟩, ⟨[.op 0 0], _, [], [0], [26]⟩]) (F := [.old 0, .old 1, .old 2, .old 3, .old 4, .old 5, .op 1 0]) (hst.pick [0, 1, 2, 3, 4, 5] rfl) hb Za
         (o_p rfl (Zbk rfl rfl u_0 c_i) <| o_p rfl (Zc rfl rfl u_0) <| o_n) (by kernel_rfl) (fun a g hst hb => ?_)
       refine wp_cond_split (hst.bool 6 rfl) (fun hc5 => ?_) (fun hc5 => ?_)
       · replace H0 := Zv hc5 H0
         refine r_g (L := [(2, _), (3, _), (4, _), (5, _), (6, _)]) (T := [⟨[.old 0], _, [], [], [28]⟩, ⟨[.op 0 0], _, [], [0], [29]⟩, ⟨[.old 1], _, [], [], [30]⟩, ⟨[.op 2 0], _, [], [2], [31]⟩, ⟨[.op 1 0, .op 3 0], _, [], List.range 4, [32]⟩, ⟨[.old 0], _, [], List.range 5, [33]⟩, ⟨[.op 4 0, .op 5 0, .old 0], _, [3], List.range 6, [2, 28, 33]⟩]) (F := [.op 6 0, .old 2, .old 3, .old 4]) (hst.pick [0, 1, 2, 3, 4] rfl) hb Za
           (o_p rfl (Zs Zcr (off := 1) (by kernel_rfl) rfl rfl u_0) <| o_p rfl (Zbo ty_2 rfl rfl u_0) <| o_p rfl (Zd Zdu rfl rfl u_0) <| o_p rfl (Zf ty_2 rfl rfl u_0) <| o_p rfl (Zb4 rfl rfl u_0 u_1 rfl) <| o_p rfl (Zs Zcr (off := 1) (by kernel_rfl) rfl rfl u_0) <| o_p rfl (Zlj ty_2 rfl rfl u_2 u_1 u_0) <| o_n) (by kernel_rfl) (fun a g hst hb => ?_)
         refine Zbe ?_
         exact ⟨({ a0 with Num := (IntKind.i64.wrap (a0.Num + a1.N)) }), ({ Code := (0 : Int), Num := (0 : Int), Rec := (default : Ze) } : Zg), g, rfl, (hst.pick [0, 1, 2, 3] rfl), hb, H0⟩
       · replace H0 := Zw hc5 H0
         refine r_s (L := [(2, _), (3, _), (4, _), (5, _), (6, _), (12, _)]) (T := [⟨[.old 5], _, [], [], [35]⟩, ⟨[.op 0 0], _, [], [0], [34]⟩]) (F := [.old 0, .old 1, .old 2, .old 3, .old 4, .old 5, .op 1 0]) (hst.pick [0, 1, 2, 3, 4, 5] rfl) hb Za
           (o_p rfl (Zbk rfl rfl u_0 c_i) <| o_p rfl (Zc rfl rfl u_0) <| o_n) (by kernel_rfl) (fun a g hst hb => ?_)
         refine wp_cond_split (hst.bool 6 rfl) (fun hc6 => ?_) (fun hc6 => ?_)
         · replace H0 := Zv hc6 H0
           obtain ⟨r7, h8, H0⟩ := Zh H0
           refine r_s (L := [(2, _), (3, _), (4, _), (5, _), (6, _)]) (T := [⟨[.old 0], _, [], [], [36]⟩, ⟨[.op 0 0], _, [], [0], [37]⟩, ⟨[.old 1], _, [], [], [38]⟩, ⟨[.op 2 0], _, [], [2], [39]⟩, ⟨[.op 1 0, .op 3 0], _, [], List.range 4, [40]⟩]) (F := [.old 0, .old 1, .old 2, .old 3, .old 4, .op 4 0]) (hst.pick [0, 1, 2, 3, 4] rfl) hb Za
             (o_p rfl (Zs Zcr (off := 1) (by kernel_rfl) rfl rfl u_0) <| o_p rfl (Zbo ty_2 rfl rfl u_0) <| o_p rfl (Zd Zdu rfl rfl u_0) <| o_p rfl (Zf ty_2 rfl rfl u_0) <| o_p rfl (Zn Z77 (Zqc _ _ h8) rfl rfl (.cons u_0 (.cons u_1 .nil))) <| o_n) (by kernel_rfl) (fun a g hst hb => ?_)
           refine wp_cond_split (hst.bool 5 rfl) (fun hc9 => ?_) (fun hc9 => ?_)
           · replace H0 := Zv hc9 H0
             refine r_g (L := [(2, _), (4, _), (5, _), (6, _)]) (T := [⟨[.old 3], _, [], [], [41]⟩, ⟨[.op 0 0, .old 3], _, [7], [0], [6, 41]⟩]) (F := [.old 0, .old 1, .old 2, .op 1 0]) (hst.pick [0, 2, 3, 4] rfl) hb Za
               (o_p rfl (Zs Zfy (off := 0) (by kernel_rfl) rfl rfl u_0) <| o_p rfl (Znh Zge rfl rfl u_1 u_0 c_i) <| o_n) (by kernel_rfl) (fun a g hst hb => ?_)
             refine Zbe ?_
             exact ⟨a0, ({ ({ Code := (0 : Int), Num := (0 : Int), Rec := (default : Ze) } : Zg) with Code := (9 : Int) }), g, rfl, (hst.pick [0, 1, 2, 3] rfl), hb, H0⟩
           · replace H0 := Zw hc9 H0
             refine r_g (L := [(2, _), (3, _), (4, _), (5, _), (6, _)]) (T := [⟨[.old 0], _, [], [], [42]⟩, ⟨[.op 0 0], _, [], [0], [43]⟩, ⟨[.old 1], _, [], [], [44]⟩, ⟨[.op 2 0], _, [], [2], [45]⟩, ⟨[.op 1 0, .op 3 0], _, [], List.range 4, [46]⟩, ⟨[.old 0], _, [], List.range 5, [47]⟩, ⟨[.op 4 0, .op 5 0, .old 0], _, [3], List.range 6, [2, 42, 47]⟩]) (F := [.op 6 0, .old 2, .old 3, .old 4]) (hst.pick [0, 1, 2, 3, 4] rfl) hb Za
               (o_p rfl (Zs Zcr (off := 1) (by kernel_rfl) rfl rfl u_0) <| o_p rfl (Zbo ty_2 rfl rfl u_0) <| o_p rfl (Zd Zdu rfl rfl u_0) <| o_p rfl (Zf ty_2 rfl rfl u_0) <| o_p rfl (Zb4 rfl rfl u_0 u_1 rfl) <| o_p rfl (Zs Zcr (off := 1) (by kernel_rfl) rfl rfl u_0) <| o_p rfl (Zlj ty_2 rfl rfl u_2 u_1 u_0) <| o_n) (by kernel_rfl) (fun a g hst hb => ?_)
             refine Zbe ?_
             exact ⟨({ a0 with Num := (IntKind.i64.wrap (a0.Num + a1.N)) }), ({ Code := (0 : Int), Num := (0 : Int), Rec := (default : Ze) } : Zg), g, rfl, (hst.pick [0, 1, 2, 3] rfl), hb, H0⟩
         · replace H0 := Zw hc6 H0
           refine wp_seq ?_
           refine r_s (L := [(2, _), (3, _), (4, _), (5, _), (6, _), (12, _)]) (T := [⟨[.old 5], _, [], [], [49]⟩, ⟨[.op 0 0], _, [], [0], [48]⟩]) (F := [.old 0, .old 1, .old 2, .old 3, .old 4, .old 5, .op 1 0]) (hst.pick [0, 1, 2, 3, 4, 5] rfl) hb Za
             (o_p rfl (Zbk rfl rfl u_0 c_i) <| o_p rfl (Zc rfl rfl u_0) <| o_n) (by kernel_rfl) (fun a g hst hb => ?_)
           refine Zcb (fun a w => ∃ (j11 : Bool) (g : G), w = g.w ∧ St 217 [(2, (pBox Zi 2 a0)), (3, (Zbd.ptr a1)), (4, (pBox Zi 4 (default : Ze))), (5, (pBox Zm 5 (default : Zg))), (6, (pBox Zm 6 ({ Code := (0 : Int), Num := (0 : Int), Rec := (default : Ze) } : Zg))), (12, (pInt .i64 a1.Kind)), (48, (Zbg j11))] a g ∧ Base g0 g ∧ Zcg a0 a1 j11 = some r) ?_ ?_
           · rintro a w ⟨j11, g, rfl, hst, hb, H0⟩
             unfold Zcg at H0
             refine Zr ?_
             refine wp_cond_split (hst.bool 6 rfl) (fun hc12 => ?_) (fun hc12 => ?_)
             · replace H0 := Zv hc12 H0
               refine r_s (L := [(2, _), (3, _), (4, _), (5, _), (6, _)]) (T := [⟨[.old 0], _, [], [], [51]⟩, ⟨[.op 0 0], _, [], [0], [52]⟩, ⟨[.old 1], _, [], [], [53]⟩, ⟨[.op 2 0], _, [], [2], [54]⟩, ⟨[.op 1 0, .op 3 0], _, [], List.range 4, [55]⟩]) (F := [.old 0, .old 2, .old 3, .old 4, .op 4 0]) (hst.pick [0, 1, 2, 3, 4] rfl) hb Za
                 (o_p rfl (Zs Zcr (off := 1) (by kernel_rfl) rfl rfl u_0) <| o_p rfl (Zbo ty_2 rfl rfl u_0) <| o_p rfl (Zd Zdu rfl rfl u_0) <| o_p rfl (Zf ty_2 rfl rfl u_0) <| o_p rfl (Zcd rfl rfl u_0 u_1) <| o_n) (by kernel_rfl) (fun a g hst hb => ?_)
               refine wp_cond_split (hst.bool 4 rfl) (fun hc13 => ?_) (fun hc13 => ?_)
               · replace H0 := Zv hc13 H0
                 refine r_g (L := [(2, _), (4, _), (5, _), (6, _)]) (T := [⟨[.old 3], _, [], [], [56]⟩, ⟨[.op 0 0, .old 3], _, [7], [0], [6, 56]⟩]) (F := [.old 0, .old 1, .old 2, .op 1 0]) (hst.pick [0, 1, 2, 3] rfl) hb Za
                   (o_p rfl (Zs Zfy (off := 0) (by kernel_rfl) rfl rfl u_0) <| o_p rfl (Znh Zge rfl rfl u_1 u_0 c_i) <| o_n) (by kernel_rfl) (fun a g hst hb => ?_)
                 refine Zbe ?_
                 exact ⟨a0, ({ ({ Code := (0 : Int), Num := (0 : Int), Rec := (default : Ze) } : Zg) with Code := (11 : Int) }), g, rfl, (hst.pick [0, 1, 2, 3] rfl), hb, H0⟩
               · replace H0 := Zw hc13 H0
                 refine wp_skip ?_
                 refine Zbe ?_
                 exact ⟨a0, ({ Code := (0 : Int), Num := (0 : Int), Rec := (default : Ze) } : Zg), g, rfl, (hst.pick [0, 1, 2, 3] rfl), hb, H0⟩
             · replace H0 := Zw hc12 H0
               refine r_s (L := [(2, _), (3, _), (4, _), (5, _), (6, _), (12, _)]) (T := [⟨[.old 5], _, [], [], [58]⟩, ⟨[.op 0 0], _, [], [0], [57]⟩]) (F := [.old 0, .old 1, .old 2, .old 3, .old 4, .old 5, .op 1 0]) (hst.pick [0, 1, 2, 3, 4, 5] rfl) hb Za
                 (o_p rfl (Zbk rfl rfl u_0 c_i) <| o_p rfl (Zc rfl rfl u_0) <| o_n) (by kernel_rfl) (fun a g hst hb => ?_)
               refine wp_cond_split (hst.bool 6 rfl) (fun hc14 => ?_) (fun hc14 => ?_)
               · replace H0 := Zv hc14 H0
                 refine r_s (L := [(2, _), (3, _), (4, _), (5, _), (6, _)]) (T := [⟨[.old 0], _, [], [], [59]⟩, ⟨[.op 0 0], _, [], [0], [60]⟩, ⟨[.old 1], _, [], [], [61]⟩, ⟨[.op 2 0], _, [], [2], [62]⟩, ⟨[.op 1 0, .op 3 0], _, [], List.range 4, [63]⟩, ⟨[.old 0], _, [], [], [64]⟩, ⟨[.op 5 0], _, [], [5], [65]⟩, ⟨[.op 4 0, .op 6 0], _, [], List.range 7, [66]⟩]) (F := [.old 0, .old 1, .old 2, .old 3, .old 4, .op 7 0]) (hst.pick [0, 1, 2, 3, 4] rfl) hb Za
                   (o_p rfl (Zs Zcr (off := 1) (by kernel_rfl) rfl rfl u_0) <| o_p rfl (Zbo ty_2 rfl rfl u_0) <| o_p rfl (Zd Zdu rfl rfl u_0) <| o_p rfl (Zf ty_2 rfl rfl u_0) <| o_p rfl (Zb4 rfl rfl u_0 u_1 rfl) <| o_p rfl (Zs Zik (off := 3) (by kernel_rfl) rfl rfl u_0) <| o_p rfl (Zbo ty_2 rfl rfl u_0) <| o_p rfl (Zcl rfl rfl u_0 u_1) <| o_n) (by kernel_rfl) (fun a g hst hb => ?_)
                 refine wp_cond_split (hst.bool 5 rfl) (fun hc15 => ?_) (fun hc15 => ?_)
                 · replace H0 := Zv hc15 H0
                   refine r_g (L := [(2, _), (4, _), (5, _), (6, _)]) (T := [⟨[.old 3], _, [], [], [67]⟩, ⟨[.op 0 0, .old 3], _, [7], [0], [6, 67]⟩]) (F := [.old 0, .old 1, .old 2, .op 1 0]) (hst.pick [0, 2, 3, 4] rfl) hb Za
                     (o_p rfl (Zs Zfy (off := 0) (by kernel_rfl) rfl rfl u_0) <| o_p rfl (Znh Zge rfl rfl u_1 u_0 c_i) <| o_n) (by kernel_rfl) (fun a g hst hb => ?_)
                   refine Zbe ?_
                   exact ⟨a0, ({ ({ Code := (0 : Int), Num := (0 : Int), Rec := (default : Ze) } : Zg) with Code := (9 : Int) }), g, rfl, (hst.pick [0, 1, 2, 3] rfl), hb, H0⟩
                 · replace H0 := Zw hc15 H0
                   refine r_g (L := [(2, _), (3, _), (4, _), (5, _), (6, _)]) (T := [⟨[.old 0], _, [], [], [68]⟩, ⟨[.op 0 0], _, [], [0], [69]⟩, ⟨[.old 1], _, [], [], [70]⟩, ⟨[.op 2 0], _, [], [2], [71]⟩, ⟨[.op 1 0, .op 3 0], _, [], List.range 4, [72]⟩, ⟨[.old 0], _, [], List.range 5, [73]⟩, ⟨[.op 4 0, .op 5 0, .old 0], _, [3], List.range 6, [2, 68, 73]⟩]) (F := [.op 6 0, .old 2, .old 3, .old 4]) (hst.pick [0, 1, 2, 3, 4] rfl) hb Za
                     (o_p rfl (Zs Zcr (off := 1) (by kernel_rfl) rfl rfl u_0) <| o_p rfl (Zbo ty_2 rfl rfl u_0) <| o_p rfl (Zd Zdu rfl rfl u_0) <| o_p rfl (Zf ty_2 rfl rfl u_0) <| o_p rfl (Zb4 rfl rfl u_0 u_1 rfl) <| o_p rfl (Zs Zcr (off := 1) (by kernel_rfl) rfl rfl u_0) <| o_p rfl (Zlj ty_2 rfl rfl u_2 u_1 u_0) <| o_n) (by kernel_rfl) (fun a g hst hb => ?_)
                   refine Zbe ?_
                   exact ⟨({ a0 with Num := (IntKind.i64.wrap (a0.Num + a1.N)) }), ({ Code := (0 : Int), Num := (0 : Int), Rec := (default : Ze) } : Zg), g, rfl, (hst.pick [0, 1, 2, 3] rfl), hb, H0⟩
               · replace H0 := Zw hc14 H0
                 refine r_s (L := [(2, _), (3, _), (4, _), (5, _), (6, _), (12, _)]) (T := [⟨[.old 5], _, [], [], [75]⟩, ⟨[.op 0 0], _, [], [0], [74]⟩]) (F := [.old 0, .old 1, .old 2, .old 3, .old 4, .old 5, .op 1 0]) (hst.pick [0, 1, 2, 3, 4, 5] rfl) hb Za
                   (o_p rfl (Zbk rfl rfl u_0 c_i) <| o_p rfl (Zc rfl rfl u_0) <| o_n) (by kernel_rfl) (fun a g hst hb => ?_)
                 refine wp_cond_split (hst.bool 6 rfl) (fun hc16 => ?_) (fun hc16 => ?_)
                 · replace H0 := Zv hc16 H0
                   refine r_s (L := [(2, _), (3, _), (4, _), (5, _), (6, _)]) (T := [⟨[.old 0], _, [], [], [76]⟩, ⟨[.op 0 0], _, [], [0], [77]⟩, ⟨[.old 1], _, [], [], [78]⟩, ⟨[.op 2 0], _, [], [2], [79]⟩, ⟨[.op 1 0, .op 3 0], _, [], List.range 4, [80]⟩, ⟨[.old 0], _, [], [], [81]⟩, ⟨[.op 5 0], _, [], [5], [82]⟩, ⟨[.op 4 0, .op 6 0], _, [], List.range 7, [83]⟩]) (F := [.old 0, .old 1, .old 2, .old 3, .old 4, .op 7 0]) (hst.pick [0, 1, 2, 3, 4] rfl) hb Za
                     (o_p rfl (Zs Zcr (off := 1) (by kernel_rfl) rfl rfl u_0) <| o_p rfl (Zbo ty_2 rfl rfl u_0) <| o_p rfl (Zd Zdu rfl rfl u_0) <| o_p rfl (Zf ty_2 rfl rfl u_0) <| o_p rfl (Zgm rfl rfl u_0 u_1 rfl) <| o_p rfl (Zs Zil (off := 2) (by kernel_rfl) rfl rfl u_0) <| o_p rfl (Zbo ty_2 rfl rfl u_0) <| o_p rfl (Zcd rfl rfl u_0 u_1) <| o_n) (by kernel_rfl) (fun a g hst hb => ?_)
                   refine wp_cond_split (hst.bool 5 rfl) (fun hc17 => ?_) (fun hc17 => ?_)
                   · replace H0 := Zv hc17 H0
                     refine r_g (L := [(2, _), (4, _), (5, _), (6, _)]) (T := [⟨[.old 3], _, [], [], [84]⟩, ⟨[.op 0 0, .old 3], _, [7], [0], [6, 84]⟩]) (F := [.old 0, .old 1, .old 2, .op 1 0]) (hst.pick [0, 2, 3, 4] rfl) hb Za
                       (o_p rfl (Zs Zfy (off := 0) (by kernel_rfl) rfl rfl u_0) <| o_p rfl (Znh Zge rfl rfl u_1 u_0 c_i) <| o_n) (by kernel_rfl) (fun a g hst hb => ?_)
                     refine Zbe ?_
                     exact ⟨a0, ({ ({ Code := (0 : Int), Num := (0 : Int), Rec := (default : Ze) } : Zg) with Code := (10 : Int) }), g, rfl, (hst.pick [0, 1, 2, 3] rfl), hb, H0⟩
                   · replace H0 := Zw hc17 H0
                     refine r_g (L := [(2, _), (3, _), (4, _), (5, _), (6, _)]) (T := [⟨[.old 0], _, [], [], [85]⟩, ⟨[.op 0 0], _, [], [0], [86]⟩, ⟨[.old 1], _, [], [], [87]⟩, ⟨[.op 2 0], _, [], [2], [88]⟩, ⟨[.op 1 0, .op 3 0], _, [], List.range 4, [89]⟩, ⟨[.old 0], _, [], List.range 5, [90]⟩, ⟨[.op 4 0, .op 5 0, .old 0], _, [3], List.range 6, [2, 85, 90]⟩]) (F := [.op 6 0, .old 2, .old 3, .old 4]) (hst.pick [0, 1, 2, 3, 4] rfl) hb Za
                       (o_p rfl (Zs Zcr (off := 1) (by kernel_rfl) rfl rfl u_0) <| o_p rfl (Zbo ty_2 rfl rfl u_0) <| o_p rfl (Zd Zdu rfl rfl u_0) <| o_p rfl (Zf ty_2 rfl rfl u_0) <| o_p rfl (Zgm rfl rfl u_0 u_1 rfl) <| o_p rfl (Zs Zcr (off := 1) (by kernel_rfl) rfl rfl u_0) <| o_p rfl (Zlj ty_2 rfl rfl u_2 u_1 u_0) <| o_n) (by kernel_rfl) (fun a g hst hb => ?_)
                     refine Zbe ?_
                     exact ⟨({ a0 with Num := (IntKind.i64.wrap (a0.Num - a1.N)) }), ({ Code := (0 : Int), Num := (0 : Int), Rec := (default : Ze) } : Zg), g, rfl, (hst.pick [0, 1, 2, 3] rfl), hb, H0⟩
                 · replace H0 := Zw hc16 H0
                   refine r_s (L := [(2, _), (3, _), (4, _), (5, _), (6, _), (12, _)]) (T := [⟨[.old 5], _, [], [], [92]⟩, ⟨[.op 0 0], _, [], [0], [91]⟩]) (F := [.old 0, .old 1, .old 2, .old 3, .old 4, .old 5, .op 1 0]) (hst.pick [0, 1, 2, 3, 4, 5] rfl) hb Za
                     (o_p rfl (Zbk rfl rfl u_0 c_i) <| o_p rfl (Zc rfl rfl u_0) <| o_n) (by kernel_rfl) (fun a g hst hb => ?_)
                   refine wp_cond_split (hst.bool 6 rfl) (fun hc18 => ?_) (fun hc18 => ?_)
                   · replace H0 := Zv hc18 H0
                     obtain ⟨r19, h20, H0⟩ := Zh H0
                     refine r_g (L := [(2, _), (3, _), (4, _), (5, _), (6, _)]) (T := [⟨[.old 0], _, [], [], [93]⟩, ⟨[.op 0 0], _, [], [0], [94]⟩, ⟨[.old 1], _, [], [], [95]⟩, ⟨[.op 2 0], _, [], [2], [96]⟩, ⟨[.op 1 0, .op 3 0], _, [], List.range 4, [97]⟩, ⟨[.old 0], _, [], List.range 5, [98]⟩, ⟨[.op 4 0, .op 5 0, .old 0], _, [3], List.range 6, [2, 93, 98]⟩]) (F := [.op 6 0, .old 2, .old 3, .old 4]) (hst.pick [0, 1, 2, 3, 4] rfl) hb Za
                       (o_p rfl (Zs Zfl (off := 4) (by kernel_rfl) rfl rfl u_0) <| o_p rfl (Zbo Zct rfl rfl u_0) <| o_p rfl (Zd Zij rfl rfl u_0) <| o_p rfl (Zf Zct rfl rfl u_0) <| o_p rfl (Zn Z8f (Zrg _ _ h20) rfl rfl (.cons u_0 (.cons u_1 .nil))) <| o_p rfl (Zs Zfl (off := 4) (by kernel_rfl) rfl rfl u_0) <| o_p rfl (Zng Zct rfl rfl u_2 u_1 u_0) <| o_n) (by kernel_rfl) (fun a g hst hb => ?_)
                     refine Zbe ?_
                     exact ⟨({ a0 with Real := r19 }), ({ Code := (0 : Int), Num := (0 : Int), Rec := (default : Ze) } : Zg), g, rfl, (hst.pick [0, 1, 2, 3] rfl), hb, H0⟩
                   · replace H0 := Zw hc18 H0
                     refine r_s (L := [(2, _), (3, _), (4, _), (5, _), (6, _), (12, _)]) (T := [⟨[.old 5], _, [], [], [100]⟩, ⟨[.op 0 0], _, [], [0], [99]⟩]) (F := [.old 0, .old 1, .old 2, .old 3, .old 4, .old 5, .op 1 0]) (hst.pick [0, 1, 2, 3, 4, 5] rfl) hb Za
                       (o_p rfl (Zbk rfl rfl u_0 c_i) <| o_p rfl (Zc rfl rfl u_0) <| o_n) (by kernel_rfl) (fun a g hst hb => ?_)
                     refine wp_cond_split (hst.bool 6 rfl) (fun hc21 => ?_) (fun hc21 => ?_)
                     · replace H0 := Zv hc21 H0
                       obtain ⟨r22, h23, H0⟩ := Zh H0
                       refine r_g (L := [(2, _), (3, _), (4, _), (5, _), (6, _)]) (T := [⟨[.old 0], _, [], [], [101]⟩, ⟨[.op 0 0], _, [], [0], [102]⟩, ⟨[.old 1], _, [], [], [103]⟩, ⟨[.op 2 0], _, [], [2], [104]⟩, ⟨[.op 1 0, .op 3 0], _, [], List.range 4, [105]⟩, ⟨[.old 0], _, [], List.range 5, [106]⟩, ⟨[.op 4 0, .op 5 0, .old 0], _, [3], List.range 6, [2, 101, 106]⟩]) (F := [.op 6 0, .old 2, .old 3, .old 4]) (hst.pick [0, 1, 2, 3, 4] rfl) hb Za
                         (o_p rfl (Zs Zfl (off := 4) (by kernel_rfl) rfl rfl u_0) <| o_p rfl (Zbo Zct rfl rfl u_0) <| o_p rfl (Zd Zij rfl rfl u_0) <| o_p rfl (Zf Zct rfl rfl u_0) <| o_p rfl (Zn Z7x (Zq3 _ _ h23) rfl rfl (.cons u_0 (.cons u_1 .nil))) <| o_p rfl (Zs Zfl (off := 4) (by kernel_rfl) rfl rfl u_0) <| o_p rfl (Zng Zct rfl rfl u_2 u_1 u_0) <| o_n) (by kernel_rfl) (fun a g hst hb => ?_)
                       refine Zbe ?_
                       exact ⟨({ a0 with Real := r22 }), ({ Code := (0 : Int), Num := (0 : Int), Rec := (default : Ze) } : Zg), g, rfl, (hst.pick [0, 1, 2, 3] rfl), hb, H0⟩
                     · replace H0 := Zw hc21 H0
                       refine r_s (L := [(2, _), (3, _), (4, _), (5, _), (6, _), (12, _)]) (T := [⟨[.old 5], _, [], [], [108]⟩, ⟨[.op 0 0], _, [], [0], [107]⟩]) (F := [.old 0, .old 1, .old 2, .old 3, .old 4, .old 5, .op 1 0]) (hst.pick [0, 1, 2, 3, 4, 5] rfl) hb Za
                         (o_p rfl (Zbk rfl rfl u_0 c_i) <| o_p rfl (Zc rfl rfl u_0) <| o_n) (by kernel_rfl) (fun a g hst hb => ?_)
                       refine wp_cond_split (hst.bool 6 rfl) (fun hc24 => ?_) (fun hc24 => ?_)
                       · replace H0 := Zv hc24 H0
                         obtain ⟨r25, h26, H0⟩ := Zh H0; obtain ⟨r27, h28, H0⟩ := Zh H0
                         refine r_g (L := [(2, _), (3, _), (4, _), (5, _), (6, _)]) (T := [⟨[.old 0], _, [], [], [109]⟩, ⟨[.op 0 0], _, [], [0], [110]⟩, ⟨[.old 1], _, [], [], [111]⟩, ⟨[.op 2 0], _, [], [2], [112]⟩, ⟨[.op 1 0, .op 3 0], _, [], List.range 4, [113]⟩, ⟨[.op 4 0], _, [], List.range 5, [114]⟩, ⟨[.op 5 0], _, [], List.range 6, [115]⟩, ⟨[.old 0], _, [], List.range 7, [116]⟩, ⟨[.op 6 0, .op 7 0, .old 0], _, [3], List.range 8, [2, 109, 116]⟩]) (F := [.op 8 0, .old 2, .old 3, .old 4]) (hst.pick [0, 1, 2, 3, 4] rfl) hb Za
                           (o_p rfl (Zs Zfl (off := 4) (by kernel_rfl) rfl rfl u_0) <| o_p rfl (Zbo Zct rfl rfl u_0) <| o_p rfl (Zd Zij rfl rfl u_0) <| o_p rfl (Zf Zct rfl rfl u_0) <| o_p rfl (Zwt rfl rfl u_0 u_1) <| o_p rfl (Zn Z08 (Zpk (fun r z hr hz => by simp only [Ze5, Zec, hr, hz, Option.bind_some, if_true]) (fun z r h => Zlx z h) h26) rfl rfl (.cons u_0 .nil)) <| o_p rfl (Zn Z1h (Zlo _ h28) rfl rfl (.cons u_0 .nil)) <| o_p rfl (Zs Zfl (off := 4) (by kernel_rfl) rfl rfl u_0) <| o_p rfl (Zng Zct rfl rfl u_2 u_1 u_0) <| o_n) (by kernel_rfl) (fun a g hst hb => ?_)
                         refine Zbe ?_
                         exact ⟨({ a0 with Real := r27 }), ({ Code := (0 : Int), Num := (0 : Int), Rec := (default : Ze) } : Zg), g, rfl, (hst.pick [0, 1, 2, 3] rfl), hb, H0⟩
                       · replace H0 := Zw hc24 H0
                         refine r_s (L := [(2, _), (3, _), (4, _), (5, _), (6, _), (12, _)]) (T := [⟨[.old 5], _, [], [], [118]⟩, ⟨[.op 0 0], _, [], [0], [117]⟩]) (F := [.old 0, .old 1, .old 2, .old 3, .old 4, .old 5, .op 1 0]) (hst.pick [0, 1, 2, 3, 4, 5] rfl) hb Za
                           (o_p rfl (Zbk rfl rfl u_0 c_i) <| o_p rfl (Zc rfl rfl u_0) <| o_n) (by kernel_rfl) (fun a g hst hb => ?_)
                         refine wp_cond_split (hst.bool 6 rfl) (fun hc29 => ?_) (fun hc29 => ?_)
                         · replace H0 := Zv hc29 H0
                           obtain ⟨r30, h31, H0⟩ := Zh H0; obtain ⟨r32, h33, H0⟩ := Zh H0
                           refine r_g (L := [(2, _), (3, _), (4, _), (5, _), (6, _)]) (T := [⟨[.old 0], _, [], [], [119]⟩, ⟨[.op 0 0], _, [], [0], [120]⟩, ⟨[.old 1], _, [], [], [121]⟩, ⟨[.op 2 0], _, [], [2], [122]⟩, ⟨[.op 1 0, .op 3 0], _, [], List.range 4, [123]⟩, ⟨[.op 4 0], _, [], List.range 5, [124]⟩, ⟨[.op 5 0], _, [], List.range 6, [125]⟩, ⟨[.old 0], _, [], List.range 7, [126]⟩, ⟨[.op 6 0, .op 7 0, .old 0], _, [3], List.range 8, [2, 119, 126]⟩]) (F := [.op 8 0, .old 2, .old 3, .old 4]) (hst.pick [0, 1, 2, 3, 4] rfl) hb Za
                             (o_p rfl (Zs Zfl (off := 4) (by kernel_rfl) rfl rfl u_0) <| o_p rfl (Zbo Zct rfl rfl u_0) <| o_p rfl (Zd Zij rfl rfl u_0) <| o_p rfl (Zf Zct rfl rfl u_0) <| o_p rfl (Zxk rfl rfl u_0 u_1) <| o_p rfl (Zn Z08 (Zpk (fun r z hr hz => by simp only [Ze5, Zec, hr, hz, Option.bind_some, if_true]) (fun z r h => Zlx z h) h31) rfl rfl (.cons u_0 .nil)) <| o_p rfl (Zn Z1h (Zlo _ h33) rfl rfl (.cons u_0 .nil)) <| o_p rfl (Zs Zfl (off := 4) (by kernel_rfl) rfl rfl u_0) <| o_p rfl (Zng Zct rfl rfl u_2 u_1 u_0) <| o_n) (by kernel_rfl) (fun a g hst hb => ?_)
                           refine Zbe ?_
                           exact ⟨({ a0 with Real := r32 }), ({ Code := (0 : Int), Num := (0 : Int), Rec := (default : Ze) } : Zg), g, rfl, (hst.pick [0, 1, 2, 3] rfl), hb, H0⟩
                         · replace H0 := Zw hc29 H0
                           refine r_s (L := [(2, _), (3, _), (4, _), (5, _), (6, _), (12, _)]) (T := [⟨[.old 5], _, [], [], [128]⟩, ⟨[.op 0 0], _, [], [0], [127]⟩]) (F := [.old 0, .old 1, .old 2, .old 3, .old 4, .old 5, .op 1 0]) (hst.pick [0, 1, 2, 3, 4, 5] rfl) hb Za
                             (o_p rfl (Zbk rfl rfl u_0 c_i) <| o_p rfl (Zc rfl rfl u_0) <| o_n) (by kernel_rfl) (fun a g hst hb => ?_)
                           refine wp_cond_split (hst.bool 6 rfl) (fun hc34 => ?_) (fun hc34 => ?_)
                           · replace H0 := Zv hc34 H0
                             refine r_g (L := [(2, _), (3, _), (4, _), (5, _), (6, _)]) (T := [⟨[.old 1], _, [], [], [129]⟩, ⟨[.op 0 0], _, [], [0], [130]⟩, ⟨[.old 0], _, [], [0, 1], [131]⟩, ⟨[.op 1 0, .op 2 0, .old 0], _, [3], [0, 1, 2], [2, 131]⟩]) (F := [.op 3 0, .old 2, .old 3, .old 4]) (hst.pick [0, 1, 2, 3, 4] rfl) hb Za
                               (o_p rfl (Zd Zij rfl rfl u_0) <| o_p rfl (Zf Zct rfl rfl u_0) <| o_p rfl (Zs Zfl (off := 4) (by kernel_rfl) rfl rfl u_0) <| o_p rfl (Zng Zct rfl rfl u_2 u_1 u_0) <| o_n) (by kernel_rfl) (fun a g hst hb => ?_)
                             refine Zbe ?_
                             exact ⟨({ a0 with Real := a1.X }), ({ Code := (0 : Int), Num := (0 : Int), Rec := (default : Ze) } : Zg), g, rfl, (hst.pick [0, 1, 2, 3] rfl), hb, H0⟩
                           · replace H0 := Zw hc34 H0
                             refine r_s (L := [(2, _), (3, _), (4, _), (5, _), (6, _), (12, _)]) (T := [⟨[.old 5], _, [], [], [133]⟩, ⟨[.op 0 0], _, [], [0], [132]⟩]) (F := [.old 0, .old 1, .old 2, .old 3, .old 4, .old 5, .op 1 0]) (hst.pick [0, 1, 2, 3, 4, 5] rfl) hb Za
                               (o_p rfl (Zbk rfl rfl u_0 c_i) <| o_p rfl (Zc rfl rfl u_0) <| o_n) (by kernel_rfl) (fun a g hst hb => ?_)
                             refine wp_cond_split (hst.bool 6 rfl) (fun hc35 => ?_) (fun hc35 => ?_)
                             · replace H0 := Zv hc35 H0
                               obtain ⟨r36, h37, H0⟩ := Zh H0
                               refine r_s (L := [(2, _), (3, _), (4, _), (5, _), (6, _)]) (T := ⟨[.old 0], _, [], [], [134]⟩ :: ⟨[.op 0 0], _, [], [0], [135]⟩ :: ⟨[.old 1], _, [], [], [136]⟩ :: ⟨[.op 2 0], _, [], [2], [137]⟩ :: ⟨[.op 1 0, .op 3 0], _, [], List.range 4, [138]⟩ :: ⟨[.op 4 0], _, [], List.range 5, [139]⟩ :: ⟨[.op 5 0], _, [], List.range 6, [140]⟩ :: ⟨[.op 6 0, .old 0], _, [], List.range 7, [141]⟩ :: ⟨[.op 6 0, .op 7 0], _, [], List.range 8, [142]⟩ :: ⟨[.op 6 0, .op 8 0], _, [], List.range 9, [143]⟩ :: ⟨[.op 6 0, .old 0], _, [], List.range 7, [144]⟩ :: ⟨[.op 6 0, .op 10 0], _, [], [0, 1, 2, 3, 4, 5, 6, 10], [145]⟩ :: ⟨[.op 6 0, .op 9 0, .op 11 0], _, [], List.range 12, [146]⟩ :: ⟨[.op 6 0, .op 12 0], _, [], List.range 13, [147]⟩ :: []) (F := [.old 0, .old 1, .old 2, .old 3, .old 4, .op 13 0]) (hst.pick [0, 1, 2, 3, 4] rfl) hb Za
                                 (o_p rfl (Zs Zb9 (off := 7) (by kernel_rfl) rfl rfl u_0) <| o_p rfl (Zbo Zcz rfl rfl u_0) <| o_p rfl (Zd Zfb rfl rfl u_0) <| o_p rfl (Zf ty_9 rfl rfl u_0) <| o_p rfl (Zn Z20 (Zmy _ _ h37) rfl rfl (.cons u_0 (.cons u_1 .nil))) <| o_p rfl (Zb7 rfl rfl u_0) <| o_p rfl (Zb rfl rfl u_0) <| o_g (g_t rfl rfl rfl (fun hG => Zs Zb9 (off := 7) (by kernel_rfl) rfl rfl u_0)) <| o_g (g_t rfl rfl rfl (fun hG => Zbo Zcz rfl rfl (Opd.gd hG u_0))) <| o_g (g_t rfl rfl rfl (fun hG => Zby Tryz.underlying62 rfl rfl (Opd.gd hG u_0))) <| o_g (g_t rfl rfl rfl (fun hG => Zs Zf8 (off := 5) (by kernel_rfl) rfl rfl u_0)) <| o_g (g_t rfl rfl rfl (fun hG => Zbo ty_3 rfl rfl (Opd.gd hG u_0))) <| o_g (g_t rfl rfl rfl (fun hG => Zly rfl rfl (Opd.gd hG u_0) (Opd.gd hG u_1))) <| o_p rfl (Zbc rfl rfl u_0 (fun hz => (Opd.gd hz u_1))) <| o_n) (by kernel_rfl) (fun a g hst hb => ?_)
                               refine wp_cond_split (hst.bool 5 rfl) (fun hc38 => ?_) (fun hc38 => ?_)
                               · replace H0 := Zv hc38 H0
                                 refine r_g (L := [(2, _), (4, _), (5, _), (6, _)]) (T := [⟨[.old 3], _, [], [], [148]⟩, ⟨[.op 0 0, .old 3], _, [7], [0], [6, 148]⟩]) (F := [.old 0, .old 1, .old 2, .op 1 0]) (hst.pick [0, 2, 3, 4] rfl) hb Za
                                   (o_p rfl (Zs Zfy (off := 0) (by kernel_rfl) rfl rfl u_0) <| o_p rfl (Znh Zge rfl rfl u_1 u_0 c_i) <| o_n) (by kernel_rfl) (fun a g hst hb => ?_)
                                 refine Zbe ?_
                                 exact ⟨a0, ({ ({ Code := (0 : Int), Num := (0 : Int), Rec := (default : Ze) } : Zg) with Code := (8 : Int) }), g, rfl, (hst.pick [0, 1, 2, 3] rfl), hb, H0⟩
                               · replace H0 := Zw hc38 H0
                                 obtain ⟨r39, h40, H0⟩ := Zh H0
                                 refine r_g (L := [(2, _), (3, _), (4, _), (5, _), (6, _)]) (T := [⟨[.old 0], _, [], [], [149]⟩, ⟨[.op 0 0], _, [], [0], [150]⟩, ⟨[.old 1], _, [], [], [151]⟩, ⟨[.op 2 0], _, [], [2], [152]⟩, ⟨[.op 3 0], _, [], [2, 3], [153]⟩, ⟨[.op 1 0, .op 4 0], _, [], List.range 5, [154]⟩, ⟨[.old 0], _, [], List.range 6, [155]⟩, ⟨[.op 5 0, .op 6 0, .old 0], _, [3], List.range 7, [2, 149, 155]⟩]) (F := [.op 7 0, .old 2, .old 3, .old 4]) (hst.pick [0, 1, 2, 3, 4] rfl) hb Za
                                   (o_p rfl (Zs Zb9 (off := 7) (by kernel_rfl) rfl rfl u_0) <| o_p rfl (Zbo Zcz rfl rfl u_0) <| o_p rfl (Zd Zfb rfl rfl u_0) <| o_p rfl (Zf ty_9 rfl rfl u_0) <| o_p rfl (Zx8 rfl rfl u_0) <| o_p rfl (Zn Z17 (Zl9 _ _ _ h40) rfl rfl (.cons u_0 (.cons u_1 (.cons c_b .nil)))) <| o_p rfl (Zs Zb9 (off := 7) (by kernel_rfl) rfl rfl u_0) <| o_p rfl (Zlp Zcz rfl rfl u_2 u_1 u_0) <| o_n) (by kernel_rfl) (fun a g hst hb => ?_)
                                 refine Zbe ?_
                                 exact ⟨({ a0 with List := r39 }), ({ Code := (0 : Int), Num := (0 : Int), Rec := (default : Ze) } : Zg), g, rfl, (hst.pick [0, 1, 2, 3] rfl), hb, H0⟩
                             · replace H0 := Zw hc35 H0
                               refine r_s (L := [(2, _), (3, _), (4, _), (5, _), (6, _), (12, _)]) (T := [⟨[.old 5], _, [], [], [157]⟩, ⟨[.op 0 0], _, [], [0], [156]⟩]) (F := [.old 0, .old 1, .old 2, .old 3, .old 4, .old 5, .op 1 0]) (hst.pick [0, 1, 2, 3, 4, 5] rfl) hb Za
                                 (o_p rfl (Zbk rfl rfl u_0 c_i) <| o_p rfl (Zc rfl rfl u_0) <| o_n) (by kernel_rfl) (fun a g hst hb => ?_)
                               refine wp_cond_split (hst.bool 6 rfl) (fun hc41 => ?_) (fun hc41 => ?_)
                               · replace H0 := Zv hc41 H0
                                 refine r_s (L := [(2, _), (3, _), (4, _), (5, _), (6, _)]) (T := [⟨[], _, [159], [], [158]⟩, ⟨[.op 0 0], _, [], [0], [7]⟩]) (F := [.old 0, .old 1, .old 2, .old 3, .old 4, .op 1 0]) (hst.pick [0, 1, 2, 3, 4] rfl) hb Za
                                   (o_p rfl (Zjv 158 Zc8 (xs := []) .nil (by decide) rfl rfl) <| o_p rfl (Zc rfl rfl u_0) <| o_n) (by kernel_rfl) (fun a g hst hb => ?_)
                                 refine wp_seq ?_
                                 refine r_s (T := [⟨[], _, [], [], [8]⟩]) (F := [.old 0, .old 1, .old 2, .old 3, .old 4, .old 5, .op 0 0]) hst hb Za
                                   (o_p rfl (Zc rfl rfl c_i) <| o_n) (by kernel_rfl) (fun a g hst hb => ?_)
                                 obtain ⟨z53, hz1, H0⟩ := Zh H0
                                 refine Zcb (fun a w => ∃ (y52 : List Zl) (g : G), w = g.w ∧ St 217 [(2, (pBox Zi 2 a0)), (4, (pBox Zi 4 (default : Ze))), (5, (pBox Zm 5 (default : Zg))), (6, (pBox Zm 6 ({ Code := (0 : Int), Num := (0 : Int), Rec := (default : Ze) } : Zg))), (7, (pRow Zy 105 158 y52))] a g ∧ Base g0 g ∧ y52 = z53) ?_ ?_
                                 · rintro a w ⟨y52, g, rfl, hst, hb, rfl⟩
                                   refine Zr ?_
                                   refine r_g (T := [⟨[.old 4], _, [], [], [183]⟩, ⟨[.old 0], _, [], [0], [184]⟩, ⟨[.op 0 0, .op 1 0, .old 0], _, [3], [0, 1], [2, 184]⟩]) (F := [.op 2 0, .old 1, .old 2, .old 3]) hst hb Za
                                     (o_p rfl (Zb rfl rfl u_0) <| o_p rfl (Zs Zb9 (off := 7) (by kernel_rfl) rfl rfl u_0) <| o_p rfl (Zlp Zcz rfl rfl u_2 u_1 (Opd.imp u_0 (fun _ _ h => Zit h))) <| o_n) (by kernel_rfl) (fun a g hst hb => ?_)
                                   refine Zbe ?_
                                   exact ⟨({ a0 with List := y52 }), ({ Code := (0 : Int), Num := (0 : Int), Rec := (default : Ze) } : Zg), g, rfl, (hst.pick [0, 1, 2, 3] rfl), hb, H0⟩
                                 · refine wp_block ?_
                                   refine wp_loop_ghost (fun n a w => ∃ (x42 : List Zl) (x43 : Int) (g : G), w = g.w ∧ St 217 [(2, (pBox Zi 2 a0)), (3, (Zbd.ptr a1)), (4, (pBox Zi 4 (default : Ze))), (5, (pBox Zm 5 (default : Zg))), (6, (pBox Zm 6 ({ Code := (0 : Int), Num := (0 : Int), Rec := (default : Ze) } : Zg))), (7, (pRow Zy 105 158 x42)), (8, (pInt .i64 x43))] a g ∧ Base g0 g ∧ Zc7 a0 a1 n x42 x43 = some z53) (Int.toNat ((a0.List.length : Int) - (0 : Int)) + 1) ⟨([] : List Zl), (0 : Int), g, rfl, (hst.pick [0, 1, 2, 3, 4, 5, 6] rfl), hb, hz1⟩ (fun n a w hI => ?_)
                                   obtain ⟨x42, x43, g, rfl, hst, hb, H1⟩ := hI
                                   cases n with
                                   | zero => exact absurd H1 (by simp [Zc7])
                                   | succ n =>
                                     rw [Zc7] at H1
                                     refine wp_seq ?_
                                     refine r_s (T := [⟨[.old 6], _, [], [], [159]⟩, ⟨[.old 0], _, [], [], [160]⟩, ⟨[.op 1 0], _, [], [1], [161]⟩, ⟨[.op 2 0], _, [], [1, 2], [162]⟩, ⟨[.op 0 0, .op 3 0], _, [], List.range 4, [163]⟩]) (F := [.old 0, .old 1, .old 2, .old 3, .old 4, .old 5, .old 6, .op 4 0]) hst hb Za
                                       (o_p rfl (Zb rfl rfl u_0) <| o_p rfl (Zs Zb9 (off := 7) (by kernel_rfl) rfl rfl u_0) <| o_p rfl (Zbo Zcz rfl rfl u_0) <| o_p rfl (Zby Tryz.underlying62 rfl rfl u_0) <| o_p rfl (Zcd rfl rfl u_0 u_1) <| o_n) (by kernel_rfl) (fun a g hst hb => ?_)
                                     refine wp_cond_split (hst.bool 7 rfl) (fun hc44 => ?_) (fun hc44 => ?_)
                                     · replace H1 := Zv hc44 H1
                                       refine wp_skip ?_
                                       refine Zr ?_
                                       refine wp_seq ?_
                                       refine Zcb (fun a w => ∃ (j51 : List Zl) (g : G), w = g.w ∧ St 217 [(2, (pBox Zi 2 a0)), (3, (Zbd.ptr a1)), (4, (pBox Zi 4 (default : Ze))), (5, (pBox Zm 5 (default : Zg))), (6, (pBox Zm 6 ({ Code := (0 : Int), Num := (0 : Int), Rec := (default : Ze) } : Zg))), (7, (pRow Zy 105 158 j51)), (8, (pInt .i64 x43))] a g ∧ Base g0 g ∧ Zht x43 (Zc7 a0 a1 n) j51 = some z53) ?_ ?_
                                       · rintro a w ⟨j51, g, rfl, hst, hb, H1⟩
                                         unfold Zht at H1
                                         refine Zr ?_
                                         refine r_g (T := [⟨[.old 6], _, [], [], [164]⟩, ⟨[.op 0 0], _, [], [0], [165]⟩, ⟨[.op 1 0], _, [], [0, 1], [8]⟩]) (F := [.old 0, .old 1, .old 2, .old 3, .old 4, .old 5, .op 2 0]) hst hb Za
                                           (o_p rfl (Zb rfl rfl u_0) <| o_p rfl (Zb4 rfl rfl u_0 c_i rfl) <| o_p rfl (Zc rfl rfl u_0) <| o_n) (by kernel_rfl) (fun a g hst hb => ?_)
                                         exact ⟨n, Nat.lt_succ_self _, j51, (IntKind.i64.wrap (x43 + (1 : Int))), g, rfl, (hst.pick [0, 1, 2, 3, 4, 5, 6] rfl), hb, H1⟩
                                       · refine wp_block ?_
                                         obtain ⟨e45, h46, H1⟩ := Zh H1
                                         refine r_s (L := [(2, _), (3, _), (4, _), (5, _), (6, _), (7, _), (8, _)]) (T := [⟨[.old 0], _, [], [], [166]⟩, ⟨[.op 0 0], _, [], [0], [167]⟩, ⟨[.old 6], _, [], [], [168]⟩, ⟨[.op 1 0, .op 2 0], _, [], [0, 1, 2], [169]⟩, ⟨[.op 3 0], _, [], List.range 4, [170]⟩, ⟨[.op 4 0], _, [], List.range 5, [171]⟩, ⟨[.old 1], _, [], [], [172]⟩, ⟨[.op 6 0], _, [], [6], [173]⟩, ⟨[.op 5 0, .op 7 0], _, [], List.range 8, [174]⟩]) (F := [.old 0, .old 1, .old 2, .old 3, .old 4, .old 5, .old 6, .op 8 0]) (hst.pick [0, 1, 2, 3, 4, 5, 6] rfl) hb Za
                                           (o_p rfl (Zs Zb9 (off := 7) (by kernel_rfl) rfl rfl u_0) <| o_p rfl (Zbo Zcz rfl rfl u_0) <| o_p rfl (Zb rfl rfl u_0) <| o_p rfl (Zbf Tryz.underlying62 Zen rfl rfl u_0 u_1 h46) <| o_p rfl (Zd Zdm rfl rfl u_0) <| o_p rfl (Zf ty_9 rfl rfl u_0) <| o_p rfl (Zd Zfb rfl rfl u_0) <| o_p rfl (Zf ty_9 rfl rfl u_0) <| o_p rfl (Znk rfl rfl u_0 u_1) <| o_n) (by kernel_rfl) (fun a g hst hb => ?_)
                                         refine wp_cond_split (hst.bool 7 rfl) (fun hc47 => ?_) (fun hc47 => ?_)
                                         · replace H1 := Zv hc47 H1
                                           obtain ⟨e48, h49, H1⟩ := Zh H1; obtain ⟨h50, H1⟩ := Zgg H1
                                           refine r_g (L := [(2, _), (3, _), (4, _), (5, _), (6, _), (7, _), (8, _)]) (T := [⟨[.old 5], _, [], [], [175]⟩, ⟨[.old 0], _, [], [], [176]⟩, ⟨[.op 1 0], _, [], [1], [177]⟩, ⟨[.old 6], _, [], [], [178]⟩, ⟨[.op 2 0, .op 3 0], _, [], [1, 2, 3], [179]⟩, ⟨[.op 4 0], _, [], List.range' 1 4, [180]⟩, ⟨[.op 5 0], _, [], List.range' 1 5, [181]⟩, ⟨[.op 0 0, .op 6 0], _, [159], List.range 7, [7, 175, 182]⟩, ⟨[.op 7 0], _, [], List.range 8, [7]⟩]) (F := [.old 0, .old 1, .old 2, .old 3, .old 4, .op 8 0, .old 6]) (hst.pick [0, 1, 2, 3, 4, 5, 6] rfl) hb Za
                                             (o_p rfl (Zb rfl rfl u_0) <| o_p rfl (Zs Zb9 (off := 7) (by kernel_rfl) rfl rfl u_0) <| o_p rfl (Zbo Zcz rfl rfl u_0) <| o_p rfl (Zb rfl rfl u_0) <| o_p rfl (Zbf Tryz.underlying62 Zen rfl rfl u_0 u_1 h49) <| o_p rfl (Zf Zds rfl rfl u_0) <| o_p rfl (Zgt Zc8 (xs := [.tmp 180]) (.cons u_0 .nil) (by decide) rfl rfl) <| o_p rfl (Zff Zc8 rfl rfl u_0 u_1 h50) <| o_p rfl (Zc rfl rfl u_0) <| o_n) (by kernel_rfl) (fun a g hst hb => ?_)
                                           refine Zbe ?_
                                           exact ⟨(x42 ++ ([e48] : List Zl)), g, rfl, (hst.pick [0, 1, 2, 3, 4, 5, 6] rfl), hb, H1⟩
                                         · replace H1 := Zw hc47 H1
                                           refine wp_skip ?_
                                           refine Zbe ?_
                                           exact ⟨x42, g, rfl, (hst.pick [0, 1, 2, 3, 4, 5, 6] rfl), hb, H1⟩
                                     · replace H1 := Zw hc44 H1
                                       refine wp_exit ?_
                                       refine Zb6 ?_
                                       refine Zb6 ?_
                                       refine Zcn ?_
                                       exact ⟨x42, g, rfl, (hst.pick [0, 2, 3, 4, 5] rfl), hb, Option.some.inj H1⟩
                               · replace H0 := Zw hc41 H0
                                 refine r_s (L := [(2, _), (3, _), (4, _), (5, _), (6, _), (12, _)]) (T := [⟨[.old 5], _, [], [], [186]⟩, ⟨[.op 0 0], _, [], [0], [185]⟩]) (F := [.old 0, .old 1, .old 2, .old 3, .old 4, .old 5, .op 1 0]) (hst.pick [0, 1, 2, 3, 4, 5] rfl) hb Za
                                   (o_p rfl (Zbk rfl rfl u_0 c_i) <| o_p rfl (Zc rfl rfl u_0) <| o_n) (by kernel_rfl) (fun a g hst hb => ?_)
                                 refine wp_cond_split (hst.bool 6 rfl) (fun hc54 => ?_) (fun hc54 => ?_)
                                 · replace H0 := Zv hc54 H0
                                   obtain ⟨r55, h56, H0⟩ := Zh H0
                                   refine r_s (L := [(2, _), (3, _), (4, _), (5, _), (6, _)]) (T := [⟨[.old 0], _, [], [], [187]⟩, ⟨[.op 0 0], _, [], [0], [188]⟩, ⟨[.old 1], _, [], [], [189]⟩, ⟨[.op 2 0], _, [], [2], [190]⟩, ⟨[.op 1 0, .op 3 0], _, [], List.range 4, [191]⟩, ⟨[.op 4 0], _, [], List.range 5, [192]⟩]) (F := [.old 0, .old 2, .old 3, .old 4, .op 5 0]) (hst.pick [0, 1, 2, 3, 4] rfl) hb Za
                                     (o_p rfl (Zs Zb9 (off := 7) (by kernel_rfl) rfl rfl u_0) <| o_p rfl (Zbo Zcz rfl rfl u_0) <| o_p rfl (Zd Zfb rfl rfl u_0) <| o_p rfl (Zf ty_9 rfl rfl u_0) <| o_p rfl (Zn Z20 (Zmy _ _ h56) rfl rfl (.cons u_0 (.cons u_1 .nil))) <| o_p rfl (Zb7 rfl rfl u_0) <| o_n) (by kernel_rfl) (fun a g hst hb => ?_)
                                   refine wp_cond_split (hst.bool 4 rfl) (fun hc57 => ?_) (fun hc57 => ?_)
                                   · replace H0 := Zv hc57 H0
                                     refine r_g (L := [(2, _), (4, _), (5, _), (6, _)]) (T := [⟨[.old 3], _, [], [], [193]⟩, ⟨[.op 0 0, .old 3], _, [7], [0], [6, 193]⟩]) (F := [.old 0, .old 1, .old 2, .op 1 0]) (hst.pick [0, 1, 2, 3] rfl) hb Za
                                       (o_p rfl (Zs Zfy (off := 0) (by kernel_rfl) rfl rfl u_0) <| o_p rfl (Znh Zge rfl rfl u_1 u_0 c_i) <| o_n) (by kernel_rfl) (fun a g hst hb => ?_)
                                     refine Zbe ?_
                                     exact ⟨a0, ({ ({ Code := (0 : Int), Num := (0 : Int), Rec := (default : Ze) } : Zg) with Code := (11 : Int) }), g, rfl, (hst.pick [0, 1, 2, 3] rfl), hb, H0⟩
                                   · replace H0 := Zw hc57 H0
                                     refine wp_skip ?_
                                     refine Zbe ?_
                                     exact ⟨a0, ({ Code := (0 : Int), Num := (0 : Int), Rec := (default : Ze) } : Zg), g, rfl, (hst.pick [0, 1, 2, 3] rfl), hb, H0⟩
                                 · replace H0 := Zw hc54 H0
                                   refine r_s (L := [(2, _), (3, _), (4, _), (5, _), (6, _), (12, _)]) (T := [⟨[.old 5], _, [], [], [195]⟩, ⟨[.op 0 0], _, [], [0], [194]⟩]) (F := [.old 0, .old 1, .old 2, .old 3, .old 4, .op 1 0]) (hst.pick [0, 1, 2, 3, 4, 5] rfl) hb Za
                                     (o_p rfl (Zbk rfl rfl u_0 c_i) <| o_p rfl (Zc rfl rfl u_0) <| o_n) (by kernel_rfl) (fun a g hst hb => ?_)
                                   refine wp_cond_split (hst.bool 5 rfl) (fun hc58 => ?_) (fun hc58 => ?_)
                                   · replace H0 := Zv hc58 H0
                                     obtain ⟨r59, h60, H0⟩ := Zh H0
                                     refine r_s (L := [(2, _), (3, _), (4, _), (5, _), (6, _)]) (T := [⟨[.old 0], _, [], [], [196]⟩, ⟨[.op 0 0], _, [], [0], [197]⟩, ⟨[.old 1], _, [], [], [198]⟩, ⟨[.op 2 0], _, [], [2], [199]⟩, ⟨[.old 1], _, [], [], [200]⟩, ⟨[.op 4 0], _, [], [4], [201]⟩, ⟨[.op 3 0, .op 5 0], _, [], List.range' 2 4, [202]⟩, ⟨[.op 1 0, .op 6 0], _, [], List.range 7, [203]⟩, ⟨[.op 7 0], _, [], List.range 8, [9]⟩]) (F := [.old 0, .old 2, .old 3, .old 4, .op 8 0]) (hst.pick [0, 1, 2, 3, 4] rfl) hb Za
                                       (o_p rfl (Zs Zb9 (off := 7) (by kernel_rfl) rfl rfl u_0) <| o_p rfl (Zbo Zcz rfl rfl u_0) <| o_p rfl (Zd Zij rfl rfl u_0) <| o_p rfl (Zf Zct rfl rfl u_0) <| o_p rfl (Zd Zfb rfl rfl u_0) <| o_p rfl (Zf ty_9 rfl rfl u_0) <| o_p rfl (Zt4 rfl rfl u_0 u_1) <| o_p rfl (Zn Z17 (Zl9 _ _ _ h60) rfl rfl (.cons u_0 (.cons u_1 (.cons c_b .nil)))) <| o_p rfl (Zc rfl rfl u_0) <| o_n) (by kernel_rfl) (fun a g hst hb => ?_)
                                     refine wp_seq ?_
                                     refine r_s (T := [⟨[.old 4], _, [], [], [204]⟩, ⟨[.op 0 0], _, [], [0], [205]⟩, ⟨[.old 0], _, [], [], [206]⟩, ⟨[.op 2 0], _, [], [2], [207]⟩, ⟨[.op 1 0, .op 3 0], _, [], List.range 4, [208]⟩]) (F := [.old 0, .old 1, .old 2, .old 3, .old 4, .op 4 0]) hst hb Za
                                       (o_p rfl (Zb rfl rfl u_0) <| o_p rfl (Zby Tryz.underlying62 rfl rfl u_0) <| o_p rfl (Zs Zf8 (off := 5) (by kernel_rfl) rfl rfl u_0) <| o_p rfl (Zbo ty_3 rfl rfl u_0) <| o_p rfl (Zcl rfl rfl u_0 u_1) <| o_n) (by kernel_rfl) (fun a g hst hb => ?_)
                                     refine Zcb (fun a w => ∃ (j64 : List Zl) (g : G), w = g.w ∧ St 217 [(2, (pBox Zi 2 a0)), (4, (pBox Zi 4 (default : Ze))), (5, (pBox Zm 5 (default : Zg))), (6, (pBox Zm 6 ({ Code := (0 : Int), Num := (0 : Int), Rec := (default : Ze) } : Zg))), (9, (Zy.sl.pd j64))] a g ∧ Base g0 g ∧ Zek a0 j64 = some r) ?_ ?_
                                     · rintro a w ⟨j64, g, rfl, hst, hb, H0⟩
                                       unfold Zek at H0
                                       refine Zr ?_
                                       refine r_g (T := [⟨[.old 4], _, [], [], [213]⟩, ⟨[.old 0], _, [], [0], [214]⟩, ⟨[.op 0 0, .op 1 0, .old 0], _, [3], [0, 1], [2, 214]⟩]) (F := [.op 2 0, .old 1, .old 2, .old 3]) hst hb Za
                                         (o_p rfl (Zb rfl rfl u_0) <| o_p rfl (Zs Zb9 (off := 7) (by kernel_rfl) rfl rfl u_0) <| o_p rfl (Zlp Zcz rfl rfl u_2 u_1 u_0) <| o_n) (by kernel_rfl) (fun a g hst hb => ?_)
                                       refine Zbe ?_
                                       exact ⟨({ a0 with List := j64 }), ({ Code := (0 : Int), Num := (0 : Int), Rec := (default : Ze) } : Zg), g, rfl, (hst.pick [0, 1, 2, 3] rfl), hb, H0⟩
                                     · refine wp_cond_split (hst.bool 5 rfl) (fun hc61 => ?_) (fun hc61 => ?_)
                                       · replace H0 := Zv hc61 H0
                                         obtain ⟨c62, h63, H0⟩ := Zh H0
                                         refine r_g (L := [(2, _), (4, _), (5, _), (6, _), (9, _)]) (T := [⟨[.old 4], _, [], [], [209]⟩, ⟨[.old 0], _, [], [], [210]⟩, ⟨[.op 1 0], _, [], [1], [211]⟩, ⟨[.op 0 0, .op 2 0], _, [], [0, 1, 2], [212]⟩, ⟨[.op 3 0], _, [], List.range 4, [9]⟩]) (F := [.old 0, .old 1, .old 2, .old 3, .op 4 0]) (hst.pick [0, 1, 2, 3, 4] rfl) hb Za
                                           (o_p rfl (Zb rfl rfl u_0) <| o_p rfl (Zs Zf8 (off := 5) (by kernel_rfl) rfl rfl u_0) <| o_p rfl (Zbo ty_3 rfl rfl u_0) <| o_p rfl (Zrv Tryz.underlying62 Zen rfl rfl u_0 u_1 h63) <| o_p rfl (Zc rfl rfl u_0) <| o_n) (by kernel_rfl) (fun a g hst hb => ?_)
                                         exact ⟨c62, g, rfl, (hst.pick [0, 1, 2, 3, 4] rfl), hb, H0⟩
                                       · replace H0 := Zw hc61 H0
                                         refine wp_skip ?_
                                         exact ⟨r59, g, rfl, (hst.pick [0, 1, 2, 3, 4] rfl), hb, H0⟩
                                   · replace H0 := Zw hc58 H0
                                     refine wp_skip ?_
                                     refine Zbe ?_
                                     exact ⟨a0, ({ Code := (0 : Int), Num := (0 : Int), Rec := (default : Ze) } : Zg), g, rfl, (hst.pick [0, 2, 3, 4] rfl), hb, H0⟩
           · refine wp_cond_split (hst.bool 6 rfl) (fun hc10 => ?_) (fun hc10 => ?_)
             · replace H0 := Zv hc10 H0
               refine wp_skip ?_
               exact ⟨(a1.Kind == (9 : Int)), g, rfl, (hst.pick [0, 1, 2, 3, 4, 5, 6] rfl), hb, H0⟩
             · replace H0 := Zw hc10 H0
               refine r_g (L := [(2, _), (3, _), (4, _), (5, _), (6, _), (12, _)]) (T := [⟨[.old 5], _, [], [], [50]⟩, ⟨[.op 0 0], _, [], [0], [48]⟩]) (F := [.old 0, .old 1, .old 2, .old 3, .old 4, .old 5, .op 1 0]) (hst.pick [0, 1, 2, 3, 4, 5] rfl) hb Za
                 (o_p rfl (Zbk rfl rfl u_0 c_i) <| o_p rfl (Zc rfl rfl u_0) <| o_n) (by kernel_rfl) (fun a g hst hb => ?_)
               exact ⟨(a1.Kind == (12 : Int)), g, rfl, (hst.pick [0, 1, 2, 3, 4, 5, 6] rfl), hb, H0⟩
end Go.CL
