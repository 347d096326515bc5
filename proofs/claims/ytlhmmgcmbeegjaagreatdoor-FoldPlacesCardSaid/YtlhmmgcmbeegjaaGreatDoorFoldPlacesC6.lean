/- A part of the proof of FoldPlaces. -/
import Derived.Test.YtlhmmgcmbeegjaaGreatDoorFoldPlacesC5
import Derived.KernelRfl
import Derived.Laws.Strings
set_option linter.unusedVariables false
set_option linter.unusedSimpArgs false
set_option maxRecDepth 100000
namespace Go.CL
open Go Go.RowKit Go.Proofs
theorem Znr (a0 : Zs) (a1 : ByteArray) (a2 : Zd) {r : Zs × Int} (h : Zfm a0 a1 a2 = some r) : FnOk Tryz.prog 18 [(Zbw.pd a0), (pStr a1), (Zj.pd a2)] (pTup [(Zbw.pd r.1), (pInt .i64 r.2)]) := by
 have H0 := h
 unfold Zfm at H0
 clear h
 refine Zbr (N := 80) Tryz.func18 rfl rfl (Nat.le_of_ble_eq_true rfl) rfl rfl (fun a g0 hst hb => ?_)
 refine r_s (T := [⟨[.old 0], _, [], [], [3]⟩, ⟨[.old 2], _, [], [], [5]⟩, ⟨[], [(6, (pBox Zbw 6 (default : Zs)))], [7], [], [6]⟩, ⟨[], _, [], [], [7]⟩]) (F := [.old 1, .op 0 0, .op 1 0, .op 2 0]) hst hb Zb
   (o_p rfl (Zbh rfl rfl u_0) <| o_p rfl (Zbh rfl rfl u_0) <| o_p rfl (Zbg (zs := [.slice none 0 0, .int .i64 0]) (by kernel_rfl) (fun g => Zl4 g) rfl rfl) <| o_p rfl (Zc rfl rfl c_i) <| o_n) (by kernel_rfl) (fun a g hst hb => ?_)
 refine wp_seq ?_
 refine r_s (T := [⟨[.old 0], _, [], [], [12]⟩, ⟨[.op 0 0], _, [], [0], [13]⟩, ⟨[.op 1 0], _, [], [0, 1], [14]⟩, ⟨[.op 2 0], _, [], [0, 1, 2], [15]⟩, ⟨[.op 3 0, .old 0], _, [], Lr 4, [16]⟩, ⟨[.op 3 0, .op 4 0], _, [], Lr 5, [17]⟩, ⟨[.op 3 0, .op 5 0], _, [], Lr 6, [18]⟩, ⟨[.op 3 0, .op 6 0], _, [], Lr 7, [19]⟩]) (F := [.old 0, .old 1, .old 2, .old 3, .op 7 0]) hst hb Zb
   (o_p rfl (Za rfl rfl u_0) <| o_p rfl (Zf4 Tryz.underlying9 rfl rfl u_0) <| o_p rfl (Zco rfl rfl u_0 c_i) <| o_p rfl (Za rfl rfl u_0) <| o_g (g_f rfl rfl rfl (fun hG => Za rfl rfl u_0)) <| o_g (g_f rfl rfl rfl (fun hG => Zf4 Tryz.underlying9 rfl rfl (Opd.gd hG u_0))) <| o_g (g_f rfl rfl rfl (fun hG => Zci rfl rfl (Opd.gd hG u_0) c_i)) <| o_p rfl (Zbi rfl rfl u_0 (fun hz => (Opd.gd (bNF hz) u_1))) <| o_n) (by kernel_rfl) (fun a g hst hb => ?_)
 refine wp_cond_split (hst.bool 4 rfl) (fun hc1 => ?_) (fun hc1 => ?_)
 · replace H0 := Zy hc1 H0
   refine r_s (L := [(3, _), (6, _)]) (T := [⟨[.old 0], _, [], [], [20]⟩, ⟨[.op 0 0, .old 1], _, [7], [0], [6]⟩, ⟨[], _, [], [0, 1], [7]⟩]) (F := [.op 1 0, .op 2 0]) (hst.pick [1, 3] rfl) hb Zb
     (o_p rfl (Zf Zjd rfl rfl u_0) <| o_p rfl (Z8 Zjd rfl rfl u_1 u_0) <| o_p rfl (Zc rfl rfl c_i) <| o_n) (by kernel_rfl) (fun a g hst hb => ?_)
   refine wp_ret ?_
   refine Zp ?_
   obtain rfl := Option.some.inj H0
   obtain ⟨u0, hu0, hq0⟩ := Zbo (P := Tryz.prog) Zjd (hst.at 0 rfl)
   exact Ze2 rfl hst hb hu0 (Zk (s := 7)) (Zdj hq0 (hst.at 1 rfl))
 · replace H0 := Zz hc1 H0
   refine wp_skip ?_
   refine Zv ?_
   obtain ⟨r2, h3, H0⟩ := Zg H0
   refine r_s (L := [(1, _), (3, _), (5, _), (6, _)]) (T := [⟨[.old 2], _, [], [], [21]⟩, ⟨[.op 0 0], _, [], [0], [22]⟩, ⟨[.op 1 0], _, [], [0, 1], [8]⟩]) (F := [.old 0, .old 1, .old 2, .old 3, .op 2 0]) (hst.pick [0, 1, 2, 3] rfl) hb Zb
     (o_p rfl (Zf Zbn rfl rfl u_0) <| o_p rfl (Zo Zbaw (Zpq _ h3) rfl rfl (.cons u_0 .nil)) <| o_p rfl (Zc rfl rfl u_0) <| o_n) (by kernel_rfl) (fun a g hst hb => ?_)
   refine wp_seq ?_
   refine r_s (T := [⟨[.old 4], _, [], [], [23]⟩, ⟨[.op 0 0], _, [], [0], [24]⟩]) (F := [.old 0, .old 1, .old 2, .old 3, .old 4, .op 1 0]) hst hb Zb
     (o_p rfl (Za rfl rfl u_0) <| o_p rfl (Zf2 rfl rfl u_0 c_i) <| o_n) (by kernel_rfl) (fun a g hst hb => ?_)
   refine wp_cond_split (hst.bool 5 rfl) (fun hc4 => ?_) (fun hc4 => ?_)
   · replace H0 := Zy hc4 H0
     refine r_s (L := [(3, _), (6, _), (8, _)]) (T := [⟨[.old 0], _, [], [], [25]⟩, ⟨[.old 2], _, [], [], [26]⟩, ⟨[.op 0 0, .old 1], _, [7], [0], [6]⟩, ⟨[.op 1 0], _, [], [0, 1, 2], [7]⟩]) (F := [.op 2 0, .op 3 0]) (hst.pick [1, 3, 4] rfl) hb Zb
       (o_p rfl (Zf Zjd rfl rfl u_0) <| o_p rfl (Za rfl rfl u_0) <| o_p rfl (Z8 Zjd rfl rfl u_1 u_0) <| o_p rfl (Zc rfl rfl u_0) <| o_n) (by kernel_rfl) (fun a g hst hb => ?_)
     refine wp_ret ?_
     refine Zp ?_
     obtain rfl := Option.some.inj H0
     obtain ⟨u0, hu0, hq0⟩ := Zbo (P := Tryz.prog) Zjd (hst.at 0 rfl)
     exact Ze2 rfl hst hb hu0 (Zk (s := 7)) (Zdj hq0 (hst.at 1 rfl))
   · replace H0 := Zz hc4 H0
     refine wp_skip ?_
     refine Zv ?_
     obtain ⟨r5, h6, H0⟩ := Zg H0
     refine r_s (L := [(1, _), (3, _), (5, _), (6, _)]) (T := [⟨[.old 1], _, [], [], [27]⟩, ⟨[.old 0], _, [], [], [28]⟩, ⟨[.op 0 0, .op 1 0], _, [], [0, 1], [29]⟩, ⟨[.op 2 0], _, [], [0, 1, 2], [9]⟩]) (F := [.old 0, .old 1, .old 2, .old 3, .op 3 0]) (hst.pick [0, 1, 2, 3] rfl) hb Zb
       (o_p rfl (Zf Zjd rfl rfl u_0) <| o_p rfl (Za rfl rfl u_0) <| o_p rfl (Zo Zbbl (Znd _ _ h6) rfl rfl (.cons u_0 (.cons u_1 .nil))) <| o_p rfl (Zc rfl rfl u_0) <| o_n) (by kernel_rfl) (fun a g hst hb => ?_)
     obtain ⟨e7, h8, H0⟩ := Zg H0
     refine r_s (T := ⟨[.old 4], _, [], [], [30]⟩ :: ⟨[.old 1], _, [], [], [31]⟩ :: ⟨[.op 1 0], _, [], [1], [32]⟩ :: ⟨[.op 2 0], _, [], [1, 2], [33]⟩ :: ⟨[.op 0 0, .op 3 0], _, [], Lr 4, [34]⟩ :: ⟨[.op 4 0], _, [], Lr 5, [35]⟩ :: ⟨[.op 5 0, .old 1], _, [], Lr 6, [36]⟩ :: ⟨[.op 5 0, .op 6 0], _, [], Lr 7, [37]⟩ :: ⟨[.op 5 0, .old 4], _, [], Lr 6, [38]⟩ :: ⟨[.op 5 0, .op 7 0, .op 8 0], _, [], Lr 9, [39]⟩ :: ⟨[.op 5 0, .op 9 0], _, [], Lr 10, [40]⟩ :: ⟨[.op 5 0, .op 10 0], _, [], Lr 11, [41]⟩ :: ⟨[.op 5 0, .old 0], _, [], Lr 6, [42]⟩ :: ⟨[.op 5 0, .op 11 0, .op 12 0], _, [], Lr 13, [43]⟩ :: ⟨[.op 5 0, .op 13 0], _, [], Lr 14, [44]⟩ :: ⟨[.op 14 0], _, [], Lr 15, [10]⟩ :: []) (F := [.old 0, .old 1, .old 2, .old 3, .old 4, .op 15 0]) hst hb Zb
       (o_p rfl (Za rfl rfl u_0) <| o_p rfl (Ze Zme rfl rfl u_0) <| o_p rfl (Zf Zpb rfl rfl u_0) <| o_p rfl (Zb4 Tryz.underlying22 rfl rfl u_0) <| o_p rfl (Zco rfl rfl u_0 u_1) <| o_p rfl (Za rfl rfl u_0) <| o_g (g_t rfl rfl rfl (fun hG => Ze Zme rfl rfl u_0)) <| o_g (g_t rfl rfl rfl (fun hG => Zf Zpb rfl rfl (Opd.gd hG u_0))) <| o_g (g_t rfl rfl rfl (fun hG => Za rfl rfl u_0)) <| o_g (g_t rfl rfl rfl (fun hG => Zbp Tryz.underlying22 Zt7 rfl rfl (Opd.gd hG u_0) (Opd.gd hG u_1) (Zbb h8 hG))) <| o_g (g_t rfl rfl rfl (fun hG => Ze Zo5 rfl rfl (Opd.gd hG u_0))) <| o_g (g_t rfl rfl rfl (fun hG => Zf ty_9 rfl rfl (Opd.gd hG u_0))) <| o_g (g_t rfl rfl rfl (fun hG => Za rfl rfl u_0)) <| o_g (g_t rfl rfl rfl (fun hG => Zk2 rfl rfl (Opd.gd hG u_0) (Opd.gd hG u_1))) <| o_p rfl (Zbf rfl rfl u_0 (fun hz => (Opd.gd hz u_1))) <| o_p rfl (Zc rfl rfl u_0) <| o_n) (by kernel_rfl) (fun a g hst hb => ?_)
     refine wp_seq ?_
     refine r_s (T := [⟨[.old 5], _, [], [], [45]⟩, ⟨[.op 0 0], _, [], [0], [46]⟩, ⟨[.op 1 0], _, [], [0, 1], [47]⟩, ⟨[.op 2 0, .old 1], _, [], [0, 1, 2], [48]⟩, ⟨[.op 2 0, .op 3 0], _, [], Lr 4, [49]⟩, ⟨[.op 2 0, .op 4 0], _, [], Lr 5, [50]⟩, ⟨[.op 2 0, .old 1], _, [], [0, 1, 2], [51]⟩, ⟨[.op 2 0, .op 6 0], _, [], [0, 1, 2, 6], [52]⟩, ⟨[.op 2 0, .op 5 0, .op 7 0], _, [], Lr 8, [53]⟩, ⟨[.op 2 0, .op 8 0], _, [], Lr 9, [54]⟩]) (F := [.old 0, .old 1, .old 2, .old 3, .old 4, .old 5, .op 9 0]) hst hb Zb
       (o_p rfl (Za rfl rfl u_0) <| o_p rfl (Zcr rfl rfl u_0) <| o_p rfl (Za rfl rfl u_0) <| o_g (g_t rfl rfl rfl (fun hG => Ze Zme rfl rfl u_0)) <| o_g (g_t rfl rfl rfl (fun hG => Zf Zpb rfl rfl (Opd.gd hG u_0))) <| o_g (g_t rfl rfl rfl (fun hG => Zb4 Tryz.underlying22 rfl rfl (Opd.gd hG u_0))) <| o_g (g_t rfl rfl rfl (fun hG => Ze Z0d rfl rfl u_0)) <| o_g (g_t rfl rfl rfl (fun hG => Zf ty_3 rfl rfl (Opd.gd hG u_0))) <| o_g (g_t rfl rfl rfl (fun hG => Zrb rfl rfl (Opd.gd hG u_0) (Opd.gd hG u_1))) <| o_p rfl (Zbf rfl rfl u_0 (fun hz => (Opd.gd hz u_1))) <| o_n) (by kernel_rfl) (fun a g hst hb => ?_)
     refine wp_cond_split (hst.bool 6 rfl) (fun hc9 => ?_) (fun hc9 => ?_)
     · replace H0 := Zy hc9 H0
       refine r_s (L := [(3, _), (6, _)]) (T := [⟨[.old 0], _, [], [], [55]⟩, ⟨[.op 0 0, .old 1], _, [7], [0], [6]⟩, ⟨[], _, [], [0, 1], [7]⟩]) (F := [.op 1 0, .op 2 0]) (hst.pick [1, 3] rfl) hb Zb
         (o_p rfl (Zf Zjd rfl rfl u_0) <| o_p rfl (Z8 Zjd rfl rfl u_1 u_0) <| o_p rfl (Zc rfl rfl c_i) <| o_n) (by kernel_rfl) (fun a g hst hb => ?_)
       refine wp_ret ?_
       refine Zp ?_
       obtain rfl := Option.some.inj H0
       obtain ⟨u0, hu0, hq0⟩ := Zbo (P := Tryz.prog) Zjd (hst.at 0 rfl)
       exact Ze2 rfl hst hb hu0 (Zk (s := 7)) (Zdj hq0 (hst.at 1 rfl))
     · replace H0 := Zz hc9 H0
       refine wp_skip ?_
       refine Zv ?_
       obtain ⟨c10, h11, H0⟩ := Zg H0; obtain ⟨h12, H0⟩ := Zk5 H0
       refine r_s (L := [(1, _), (3, _), (5, _), (6, _), (9, _), (10, _)]) (T := [⟨[], _, [57], [], [56]⟩, ⟨[.old 1], _, [], [], [57]⟩, ⟨[.op 1 0], _, [], [1], [58]⟩, ⟨[.old 4], _, [], [], [59]⟩, ⟨[.op 2 0, .op 3 0], _, [], [1, 2, 3], [60]⟩, ⟨[.op 0 0, .op 4 0], _, [57], Lr 5, [56, 61]⟩, ⟨[.op 5 0], _, [], Lr 6, [11]⟩]) (F := [.old 0, .old 1, .old 2, .old 3, .old 4, .old 5, .op 6 0]) (hst.pick [0, 1, 2, 3, 4, 5] rfl) hb Zb
         (o_p rfl (Zvp 56 Zt3 (xs := []) .nil (by decide) rfl rfl) <| o_p rfl (Ze Zme rfl rfl u_0) <| o_p rfl (Zf Zpb rfl rfl u_0) <| o_p rfl (Za rfl rfl u_0) <| o_p rfl (Z0a Tryz.underlying22 Zt7 rfl rfl u_0 u_1 h11) <| o_p rfl (Zlt Zt3 rfl rfl u_0 u_1 h12) <| o_p rfl (Zc rfl rfl u_0) <| o_n) (by kernel_rfl) (fun a g hst hb => ?_)
       obtain ⟨h13, H0⟩ := Zk5 H0
       refine r_s (T := [⟨[.old 6], _, [], [], [62]⟩, ⟨[.old 0], _, [], [], [63]⟩, ⟨[.old 2], _, [], [], [64]⟩, ⟨[.op 1 0, .op 2 0], _, [], [1, 2], [65]⟩, ⟨[.op 3 0], _, [], [1, 2, 3], [66]⟩, ⟨[.op 0 0, .op 4 0], _, [57], Lr 5, [11, 62, 67]⟩, ⟨[.op 5 0], _, [], Lr 6, [11]⟩]) (F := [.old 1, .old 3, .old 4, .old 5, .op 6 0]) hst hb Zb
         (o_p rfl (Za rfl rfl u_0) <| o_p rfl (Za rfl rfl u_0) <| o_p rfl (Zf Zbn rfl rfl u_0) <| o_p rfl (Z2p rfl rfl u_0 u_1) <| o_p rfl (Zi2 Zt3 (xs := [.tmp 65]) (.cons u_0 .nil) (by decide) rfl rfl) <| o_p rfl (Zlt Zt3 rfl rfl u_0 u_1 h13) <| o_p rfl (Zc rfl rfl u_0) <| o_n) (by kernel_rfl) (fun a g hst hb => ?_)
       refine wp_seq ?_
       refine r_s (T := [⟨[.old 3], _, [], [], [68]⟩]) (F := [.old 0, .old 1, .old 2, .old 4, .op 0 0]) hst hb Zb
         (o_p rfl (Za rfl rfl u_0) <| o_n) (by kernel_rfl) (fun a g hst hb => ?_)
       refine Zcx (fun a w => ∃ (j15 : Int) (g : G), w = g.w ∧ St 80 [(3, (Zbw.ptr a0)), (6, (pBox Zbw 6 (default : Zs))), (9, (pInt .i64 j15)), (11, (pRow Zb0 65 56 ((([] : List Z6) ++ c10) ++ ([({ Key := a1, Rec := a2 } : Z6)] : List Z6))))] a g ∧ Base g0 g ∧ Zd8 a0 a1 a2 c10 j15 = some r) ?_ ?_
       · rintro a w ⟨j15, g, rfl, hst, hb, H0⟩
         unfold Zd8 at H0
         refine Zv ?_
         obtain ⟨c16, h17, H0⟩ := Zg H0; obtain ⟨h18, H0⟩ := Zk5 H0
         refine r_s (T := [⟨[.old 3], _, [], [], [71]⟩, ⟨[.old 0], _, [], [], [72]⟩, ⟨[.op 1 0], _, [], [1], [73]⟩, ⟨[.old 2], _, [], [], [74]⟩, ⟨[.op 2 0, .op 3 0], _, [], [1, 2, 3], [75]⟩, ⟨[.op 0 0, .op 4 0], _, [57], Lr 5, [11, 71, 76]⟩, ⟨[.old 0], _, [], [], [77]⟩, ⟨[.op 6 0], _, [], [6], [78]⟩, ⟨[.op 5 0, .op 7 0], _, [], Lr 8, [79]⟩, ⟨[.op 8 0, .old 1], _, [7], Lr 9, [6]⟩, ⟨[], _, [], Lr 10, [7]⟩]) (F := [.op 9 0, .op 10 0]) hst hb Zb
           (o_p rfl (Za rfl rfl u_0) <| o_p rfl (Ze Zme rfl rfl u_0) <| o_p rfl (Zf Zpb rfl rfl u_0) <| o_p rfl (Za rfl rfl u_0) <| o_p rfl (Z73 Tryz.underlying22 Zt7 rfl rfl u_0 u_1 h17) <| o_p rfl (Zlt Zt3 rfl rfl u_0 u_1 h18) <| o_p rfl (Ze Z0d rfl rfl u_0) <| o_p rfl (Zf ty_3 rfl rfl u_0) <| o_p rfl (Z3h rfl rfl (Opd.imp u_0 (fun _ _ h => Zqw h)) u_1) <| o_p rfl (Z8 Zjd rfl rfl u_1 u_0) <| o_p rfl (Zc rfl rfl c_i) <| o_n) (by kernel_rfl) (fun a g hst hb => ?_)
         refine wp_ret ?_
         obtain rfl := Option.some.inj H0
         obtain ⟨u0, hu0, hq0⟩ := Zbo (P := Tryz.prog) Zjd (hst.at 0 rfl)
         exact Ze2 rfl hst hb hu0 (Zk (s := 7)) (Zdj hq0 (hst.at 1 rfl))
       · refine wp_cond_split (hst.bool 4 rfl) (fun hc14 => ?_) (fun hc14 => ?_)
         · replace H0 := Zy hc14 H0
           refine r_g (L := [(3, _), (6, _), (9, _), (11, _)]) (T := [⟨[.old 2], _, [], [], [69]⟩, ⟨[.op 0 0], _, [], [0], [70]⟩, ⟨[.op 1 0], _, [], [0, 1], [9]⟩]) (F := [.old 0, .old 1, .op 2 0, .old 3]) (hst.pick [0, 1, 2, 3] rfl) hb Zb
             (o_p rfl (Za rfl rfl u_0) <| o_p rfl (Zcd rfl rfl u_0 c_i rfl) <| o_p rfl (Zc rfl rfl u_0) <| o_n) (by kernel_rfl) (fun a g hst hb => ?_)
           exact ⟨(IntKind.i64.wrap (r5 + (1 : Int))), g, rfl, (hst.pick [0, 1, 2, 3] rfl), hb, H0⟩
         · replace H0 := Zz hc14 H0
           refine wp_skip ?_
           exact ⟨r5, g, rfl, (hst.pick [0, 1, 2, 3] rfl), hb, H0⟩
theorem Zps (a0 : Int) (a1 : List Z6) {r : Zn × (Option Zs)} (h : Zf6 a0 a1 = some r) : FnOk Tryz.prog 5 [(pInt .i64 a0), (Zb0.sl.pd a1)] (pTup [(Z1.pd r.1), (Zbw.opt.pd r.2)]) := by
 have H0 := h
 unfold Zf6 at H0
 clear h
 refine Zbr (N := 63) Tryz.func5 rfl rfl (Nat.le_of_ble_eq_true rfl) rfl rfl (fun a g0 hst hb => ?_)
 refine r_s (T := [⟨[], [(4, (pBox Z1 4 (default : Zn)))], [5], [], [4]⟩, ⟨[], [(5, (Zbw.opt.pd (none : Option Zs)))], [], [], [5]⟩]) (F := [.old 0, .old 1, .op 0 0]) hst hb Zb
   (o_p rfl (Zbg (zs := [.pointer none, .int .i64 0]) (by kernel_rfl) (fun g => Zcm g) rfl rfl) <| o_p rfl (Zc rfl rfl (Opd.c (fun g => Zql g))) <| o_n) (by kernel_rfl) (fun a g hst hb => ?_)
 obtain ⟨r1, h2, H0⟩ := Zg H0
 refine r_s (T := [⟨[.old 0], _, [], [], [12]⟩, ⟨[.op 0 0], _, [], [0], [13]⟩, ⟨[.op 1 0], _, [], [0, 1], [11]⟩, ⟨[.op 2 0], _, [], [0, 1, 2], [14]⟩, ⟨[.op 2 0], _, [], [0, 1, 2], [15]⟩, ⟨[], [(6, (pBox Z1 6 (default : Zn)))], [7], [], [6]⟩, ⟨[.op 3 0, .op 5 0], _, [7], [0, 1, 2, 3, 5], [6]⟩, ⟨[.op 4 0], _, [], Lr 7, [7]⟩]) (F := [.old 0, .old 1, .old 2, .op 6 0, .op 7 0]) hst hb Zb
   (o_p rfl (Za rfl rfl u_0) <| o_p rfl (Zo Z5m (Zqx _ h2) rfl rfl (.cons u_0 .nil)) <| o_p rfl (Za rfl rfl u_0) <| o_p rfl (Z5 rfl rfl u_0 rfl) <| o_p rfl (Z5 rfl rfl u_0 rfl) <| o_p rfl (Zbg (zs := [.pointer none, .int .i64 0]) (by kernel_rfl) (fun g => Zcm g) rfl rfl) <| o_p rfl (Z8 Zbs rfl rfl u_1 u_0) <| o_p rfl (Zc rfl rfl u_0) <| o_n) (by kernel_rfl) (fun a g hst hb => ?_)
 refine wp_seq ?_
 refine r_s (T := [⟨[.old 4], _, [], [], [16]⟩, ⟨[.op 0 0], _, [], [0], [17]⟩, ⟨[.op 1 0], _, [], [0, 1], [18]⟩, ⟨[.op 2 0, .old 1], _, [], [0, 1, 2], [19]⟩, ⟨[.op 2 0, .op 3 0], _, [], Lr 4, [20]⟩, ⟨[.op 2 0, .op 4 0], _, [], Lr 5, [21]⟩, ⟨[.op 2 0, .op 5 0], _, [], Lr 6, [22]⟩]) (F := [.old 0, .old 1, .old 2, .old 3, .op 6 0]) hst hb Zb
   (o_p rfl (Za rfl rfl u_0) <| o_p rfl (Zf2 rfl rfl u_0 c_i) <| o_p rfl (Za rfl rfl u_0) <| o_g (g_f rfl rfl rfl (fun hG => Za rfl rfl u_0)) <| o_g (g_f rfl rfl rfl (fun hG => Zb4 Tryz.underlying22 rfl rfl (Opd.gd hG u_0))) <| o_g (g_f rfl rfl rfl (fun hG => Zci rfl rfl (Opd.gd hG u_0) c_i)) <| o_p rfl (Zbi rfl rfl u_0 (fun hz => (Opd.gd (bNF hz) u_1))) <| o_n) (by kernel_rfl) (fun a g hst hb => ?_)
 refine wp_cond_split (hst.bool 4 rfl) (fun hc3 => ?_) (fun hc3 => ?_)
 · replace H0 := Zy hc3 H0
   refine r_s (L := [(4, _), (6, _)]) (T := [⟨[.old 1], _, [], [], [23]⟩, ⟨[.op 0 0, .old 0], _, [5], [0], [4]⟩, ⟨[], [(5, (Zbw.opt.pd (none : Option Zs)))], [], [0, 1], [5]⟩]) (F := [.op 1 0, .op 2 0]) (hst.pick [2, 3] rfl) hb Zb
     (o_p rfl (Zcp Zbs rfl rfl u_0) <| o_p rfl (Z8 Zbs rfl rfl u_1 u_0) <| o_p rfl (Zc rfl rfl (Opd.c (fun g => Zql g))) <| o_n) (by kernel_rfl) (fun a g hst hb => ?_)
   refine wp_ret ?_
   refine Zp ?_
   obtain rfl := Option.some.inj H0
   obtain ⟨u0, hu0, hq0⟩ := Zbo (P := Tryz.prog) Zbs (hst.at 0 rfl)
   exact Ze2 rfl hst hb hu0 (Zk (s := 5)) (Zdj hq0 (hst.at 1 rfl))
 · replace H0 := Zz hc3 H0
   refine wp_skip ?_
   refine Zv ?_
   refine r_s (L := [(0, _), (1, _), (4, _), (6, _)]) (T := [⟨[.old 0], _, [], [], [24]⟩, ⟨[.op 0 0], _, [], [0], [25]⟩, ⟨[], [(8, (pBox Zbw 8 (default : Zs)))], [9], [], [8]⟩, ⟨[.op 1 0, .op 2 0], _, [9], [0, 1, 2], [8]⟩]) (F := [.old 1, .old 2, .old 3, .op 3 0]) (hst.pick [0, 1, 2, 3] rfl) hb Zb
     (o_p rfl (Za rfl rfl u_0) <| o_p rfl (Z7a rfl rfl u_0) <| o_p rfl (Zbg (zs := [.slice none 0 0, .int .i64 0]) (by kernel_rfl) (fun g => Zl4 g) rfl rfl) <| o_p rfl (Z8 Zjd rfl rfl u_1 u_0) <| o_n) (by kernel_rfl) (fun a g hst hb => ?_)
   refine wp_seq ?_
   refine r_s (T := [⟨[.old 0], _, [], [], [26]⟩, ⟨[.op 0 0], _, [], [0], [27]⟩, ⟨[], _, [], [], [28]⟩]) (F := [.old 1, .old 2, .old 3, .op 0 0, .op 1 0, .op 2 0]) hst hb Zb
     (o_p rfl (Za rfl rfl u_0) <| o_p rfl (Zb4 Tryz.underlying22 rfl rfl u_0) <| o_p rfl (Za rfl rfl c_i) <| o_n) (by kernel_rfl) (fun a g hst hb => ?_)
   obtain ⟨z21, hz1, H0⟩ := Zg H0
   refine Zcx (fun a w => ∃ (y18 : Zn) (y19 : Zn) (y20 : Zs) (g : G), w = g.w ∧ St 63 [(4, (pBox Z1 4 y18)), (6, (pBox Z1 6 y19)), (8, (pBox Zbw 8 y20))] a g ∧ Base g0 g ∧ (.inr (y18, y19, y20)) = z21) ?_ ?_
   · rintro a w ⟨y18, y19, y20, g, rfl, hst, hb, rfl⟩
     refine Zv ?_
     refine r_s (T := [⟨[.old 1], _, [], [], [62]⟩, ⟨[.op 0 0, .old 0], _, [5], [0], [4]⟩, ⟨[.old 2], _, [9], [0, 1], [5, 8]⟩]) (F := [.op 1 0, .op 2 0]) hst hb Zb
       (o_p rfl (Zcp Zbs rfl rfl u_0) <| o_p rfl (Z8 Zbs rfl rfl u_1 u_0) <| o_p rfl (Z5f (.inr rfl) rfl u_0) <| o_n) (by kernel_rfl) (fun a g hst hb => ?_)
     refine wp_ret ?_
     obtain rfl := Option.some.inj H0
     obtain ⟨u0, hu0, hq0⟩ := Zbo (P := Tryz.prog) Zbs (hst.at 0 rfl)
     exact Ze2 rfl hst hb hu0 (Zk (s := 5)) (Zdj hq0 (hst.at 1 rfl))
   · refine wp_block ?_
     refine wp_loop_ghost (fun n a w => ∃ (x4 : Zn) (x5 : Zn) (x6 : Zs) (x7 : Int) (g : G), w = g.w ∧ St 63 [(4, (pBox Z1 4 x4)), (6, (pBox Z1 6 x5)), (8, (pBox Zbw 8 x6)), (26, (Zb0.sl.pd a1)), (27, (pInt .i64 (a1.length : Int))), (28, (pInt .i64 x7))] a g ∧ Base g0 g ∧ Zdf a1 n x4 x5 x6 x7 = some z21) (Int.toNat ((a1.length : Int) - (0 : Int)) + 1) ⟨(default : Zn), r1.1, ({ L := ([] : List Z6), Room := a0 } : Zs), (0 : Int), g, rfl, (hst.pick [0, 1, 2, 3, 4, 5] rfl), hb, hz1⟩ (fun n a w hI => ?_)
     obtain ⟨x4, x5, x6, x7, g, rfl, hst, hb, H1⟩ := hI
     cases n with
     | zero => exact absurd H1 (by simp [Zdf])
     | succ n =>
       rw [Zdf] at H1
       refine r_s (T := [⟨[.old 5, .old 4], _, [], [], [29]⟩]) (F := [.old 0, .old 1, .old 2, .old 3, .old 4, .old 5, .op 0 0]) hst hb Zb
         (o_p rfl (Zco rfl rfl u_0 u_1) <| o_n) (by kernel_rfl) (fun a g hst hb => ?_)
       refine wp_seq ?_
       refine wp_cond_split (hst.bool 6 rfl) (fun hc8 => ?_) (fun hc8 => ?_)
       · replace H1 := Zy hc8 H1
         refine wp_skip ?_
         refine Zv ?_
         refine wp_seq ?_
         refine wp_block ?_
         obtain ⟨e9, h10, H1⟩ := Zg H1
         refine r_s (L := [(4, _), (6, _), (8, _), (26, _), (27, _), (28, _)]) (T := [⟨[.old 3, .old 5], _, [], [], [30]⟩, ⟨[.op 0 0], _, [], [0], [31]⟩, ⟨[], [(10, (pBox Zb0 10 (default : Z6)))], [11], [], [10]⟩, ⟨[.op 1 0, .op 2 0], _, [11], [0, 1, 2], [10]⟩]) (F := [.old 0, .old 1, .old 2, .op 3 0, .old 3, .old 4, .old 5]) (hst.pick [0, 1, 2, 3, 4, 5] rfl) hb Zb
           (o_p rfl (Zbp Tryz.underlying22 Zt7 rfl rfl u_0 u_1 h10) <| o_p rfl (Zf Z5w rfl rfl u_0) <| o_p rfl (Zbg (zs := [.string ByteArray.empty, .int .i64 0, .int .i64 0, .int .i64 0, .int .i64 0, .float .f64 0, .int .i64 0, .string ByteArray.empty, .slice none 0 0]) (by kernel_rfl) (fun g => Zp5 g) rfl rfl) <| o_p rfl (Zb1 Z5w rfl rfl u_1 u_0) <| o_n) (by kernel_rfl) (fun a g hst hb => ?_)
         refine wp_seq ?_
         obtain ⟨r11, h12, H1⟩ := Zg H1
         refine r_s (T := [⟨[.old 3], _, [], [], [32]⟩, ⟨[.op 0 0], _, [], [0], [33]⟩, ⟨[.op 1 0], _, [], [0, 1], [34]⟩, ⟨[.op 2 0], _, [], [0, 1, 2], [35]⟩, ⟨[.op 3 0], _, [], Lr 4, [36]⟩, ⟨[.op 4 0, .old 3], _, [], Lr 5, [37]⟩, ⟨[.op 4 0, .op 5 0], _, [], Lr 6, [38]⟩, ⟨[.op 4 0, .op 6 0], _, [], Lr 7, [39]⟩, ⟨[.op 4 0, .op 7 0], _, [], Lr 8, [40]⟩, ⟨[.op 4 0, .op 8 0], _, [], Lr 9, [41]⟩]) (F := [.old 0, .old 1, .old 2, .old 3, .old 4, .old 5, .old 6, .op 9 0]) hst hb Zb
           (o_p rfl (Ze Zo5 rfl rfl u_0) <| o_p rfl (Zf ty_9 rfl rfl u_0) <| o_p rfl (Zf4 Tryz.underlying9 rfl rfl u_0) <| o_p rfl (Zci rfl rfl u_0 c_i) <| o_p rfl (Za rfl rfl u_0) <| o_g (g_f rfl rfl rfl (fun hG => Ze Zu0 rfl rfl u_0)) <| o_g (g_f rfl rfl rfl (fun hG => Zf Zbn rfl rfl (Opd.gd hG u_0))) <| o_g (g_f rfl rfl rfl (fun hG => Zo Z6d (Zmx _ (Zbb h12 hG)) rfl rfl (.cons (Opd.gd hG u_0) .nil))) <| o_g (g_f rfl rfl rfl (fun hG => Zci rfl rfl (Opd.gd hG u_0) c_i)) <| o_p rfl (Zbi rfl rfl u_0 (fun hz => (Opd.gd (bNF hz) u_1))) <| o_n) (by kernel_rfl) (fun a g hst hb => ?_)
         refine wp_cond_split (hst.bool 7 rfl) (fun hc13 => ?_) (fun hc13 => ?_)
         · replace H1 := Zy hc13 H1
           refine r_s (L := [(4, _), (6, _)]) (T := [⟨[.old 1], _, [], [], [42]⟩, ⟨[.op 0 0, .old 0], _, [5], [0], [4]⟩, ⟨[], [(5, (Zbw.opt.pd (none : Option Zs)))], [], [0, 1], [5]⟩]) (F := [.op 1 0, .op 2 0]) (hst.pick [0, 1] rfl) hb Zb
             (o_p rfl (Zcp Zbs rfl rfl u_0) <| o_p rfl (Z8 Zbs rfl rfl u_1 u_0) <| o_p rfl (Zc rfl rfl (Opd.c (fun g => Zql g))) <| o_n) (by kernel_rfl) (fun a g hst hb => ?_)
           refine wp_ret ?_
           refine Zp ?_
           refine Zw ?_
           refine Zp ?_
           refine Zp ?_
           refine Zw ?_
           refine Zp ?_
           refine Zp ?_
           obtain rfl := Option.some.inj H1
           obtain rfl := Option.some.inj H0
           obtain ⟨u0, hu0, hq0⟩ := Zbo (P := Tryz.prog) Zbs (hst.at 0 rfl)
           exact Ze2 rfl hst hb hu0 (Zk (s := 5)) (Zdj hq0 (hst.at 1 rfl))
         · replace H1 := Zz hc13 H1
           refine wp_skip ?_
           refine Zv ?_
           obtain ⟨r14, h15, H1⟩ := Zg H1
           refine r_s (L := [(4, _), (6, _), (8, _), (10, _), (26, _), (27, _), (28, _)]) (T := [⟨[.old 1], _, [], [], [44]⟩, ⟨[.old 3], _, [], [], [45]⟩, ⟨[.op 1 0], _, [], [1], [46]⟩, ⟨[.old 3], _, [], [], [47]⟩, ⟨[.op 3 0], _, [], [3], [48]⟩, ⟨[.op 0 0, .op 2 0, .op 4 0], _, [], Lr 5, [49]⟩, ⟨[.op 5 0], _, [], Lr 6, [43]⟩, ⟨[.op 6 0], _, [], Lr 7, [50]⟩, ⟨[.op 6 0], _, [], Lr 7, [51]⟩, ⟨[.op 7 0, .old 1], _, [7], Lr 8, [6]⟩]) (F := [.old 0, .op 9 0, .old 2, .old 3, .old 4, .old 5, .old 6]) (hst.pick [0, 1, 2, 3, 4, 5, 6] rfl) hb Zb
             (o_p rfl (Zcp Zbs rfl rfl u_0) <| o_p rfl (Ze Zo5 rfl rfl u_0) <| o_p rfl (Zf ty_9 rfl rfl u_0) <| o_p rfl (Ze Zu0 rfl rfl u_0) <| o_p rfl (Zf Zbn rfl rfl u_0) <| o_p rfl (Zo Z5h (Zmy _ _ _ h15) rfl rfl (.cons u_0 (.cons u_1 (.cons u_2 .nil)))) <| o_p rfl (Za rfl rfl u_0) <| o_p rfl (Z5 rfl rfl u_0 rfl) <| o_p rfl (Z5 rfl rfl u_0 rfl) <| o_p rfl (Z8 Zbs rfl rfl u_1 u_0) <| o_n) (by kernel_rfl) (fun a g hst hb => ?_)
           obtain ⟨r16, h17, H1⟩ := Zg H1
           refine r_g (T := [⟨[.old 2], _, [], [], [53]⟩, ⟨[.old 3], _, [], [], [54]⟩, ⟨[.op 1 0], _, [], [1], [55]⟩, ⟨[.old 3], _, [], [], [56]⟩, ⟨[.op 3 0], _, [], [3], [57]⟩, ⟨[.op 0 0, .op 2 0, .op 4 0], _, [], Lr 5, [58]⟩, ⟨[.op 5 0], _, [], Lr 6, [52]⟩, ⟨[.op 6 0], _, [], Lr 7, [59]⟩, ⟨[.op 6 0], _, [], Lr 7, [60]⟩, ⟨[.op 7 0, .old 2], _, [9], Lr 8, [8]⟩]) (F := [.old 0, .old 1, .op 9 0, .old 4, .old 5, .old 6]) hst hb Zb
             (o_p rfl (Zcp Zjd rfl rfl u_0) <| o_p rfl (Ze Zo5 rfl rfl u_0) <| o_p rfl (Zf ty_9 rfl rfl u_0) <| o_p rfl (Ze Zu0 rfl rfl u_0) <| o_p rfl (Zf Zbn rfl rfl u_0) <| o_p rfl (Zo Zbaq (Znr _ _ _ h17) rfl rfl (.cons u_0 (.cons u_1 (.cons u_2 .nil)))) <| o_p rfl (Za rfl rfl u_0) <| o_p rfl (Z5 rfl rfl u_0 rfl) <| o_p rfl (Z5 rfl rfl u_0 rfl) <| o_p rfl (Z8 Zjd rfl rfl u_1 u_0) <| o_n) (by kernel_rfl) (fun a g hst hb => ?_)
           refine Zbu ?_
           refine Zv ?_
           refine r_g (T := [⟨[.old 5], _, [], [], [61]⟩, ⟨[.op 0 0], _, [], [0], [28]⟩]) (F := [.old 0, .old 1, .old 2, .old 3, .old 4, .op 1 0]) hst hb Zb
             (o_p rfl (Zcd rfl rfl u_0 c_i rfl) <| o_p rfl (Za rfl rfl u_0) <| o_n) (by kernel_rfl) (fun a g hst hb => ?_)
           exact ⟨n, Nat.lt_succ_self _, x4, r14.1, r16.1, (IntKind.i64.wrap (x7 + (1 : Int))), g, rfl, (hst.pick [0, 1, 2, 3, 4, 5] rfl), hb, H1⟩
       · replace H1 := Zz hc8 H1
         refine wp_exit ?_
         refine Zb5 ?_
         refine Zb5 ?_
         refine Zct ?_
         exact ⟨x4, x5, x6, g, rfl, (hst.pick [0, 1, 2] rfl), hb, Option.some.inj H1⟩
theorem Zqq (a0 : Zm) {r : Int} (h : Zij a0 = some r) : FnOk Tryz.prog 41 [(Z2.pd a0)] (pInt .i64 r) := by
 have H0 := h
 unfold Zij at H0
 clear h
 refine Zbr (N := 19) Tryz.func41 rfl rfl (Nat.le_of_ble_eq_true rfl) rfl rfl (fun a g0 hst hb => ?_)
 refine r_s (T := [⟨[.old 0], _, [], [], [1]⟩, ⟨[], _, [], [], [2]⟩]) (F := [.op 0 0]) hst hb Zb
   (o_p rfl (Zbh rfl rfl u_0) <| o_p rfl (Zc rfl rfl c_i) <| o_n) (by kernel_rfl) (fun a g hst hb => ?_)
 refine wp_seq ?_
 obtain ⟨r1, h2, H0⟩ := Zg H0
 refine r_s (T := ⟨[.old 0], _, [], [], [3]⟩ :: ⟨[.op 0 0], _, [], [0], [4]⟩ :: ⟨[.op 1 0], _, [], [0, 1], [5]⟩ :: ⟨[.op 2 0], _, [], [0, 1, 2], [6]⟩ :: ⟨[.op 3 0], _, [], Lr 4, [7]⟩ :: ⟨[.op 4 0, .old 0], _, [], Lr 5, [8]⟩ :: ⟨[.op 4 0, .op 5 0], _, [], Lr 6, [9]⟩ :: ⟨[.op 4 0, .op 6 0], _, [], Lr 7, [10]⟩ :: ⟨[.op 4 0, .op 7 0], _, [], Lr 8, [11]⟩ :: ⟨[.op 4 0, .op 8 0], _, [], Lr 9, [12]⟩ :: ⟨[.op 9 0], _, [], Lr 10, [13]⟩ :: ⟨[.op 10 0, .old 0], _, [], Lr 11, [14]⟩ :: ⟨[.op 10 0, .op 11 0], _, [], Lr 12, [15]⟩ :: ⟨[.op 10 0, .op 12 0], _, [], Lr 13, [16]⟩ :: ⟨[.op 10 0, .op 13 0], _, [], Lr 14, [17]⟩ :: ⟨[.op 10 0, .op 14 0], _, [], Lr 15, [18]⟩ :: []) (F := [.op 15 0]) hst hb Zb
   (o_p rfl (Ze Zjx rfl rfl u_0) <| o_p rfl (Zf ty_9 rfl rfl u_0) <| o_p rfl (Zf4 Tryz.underlying9 rfl rfl u_0) <| o_p rfl (Zci rfl rfl u_0 c_i) <| o_p rfl (Za rfl rfl u_0) <| o_g (g_f rfl rfl rfl (fun hG => Ze Zjs rfl rfl u_0)) <| o_g (g_f rfl rfl rfl (fun hG => Zf ty_9 rfl rfl (Opd.gd hG u_0))) <| o_g (g_f rfl rfl rfl (fun hG => Zf4 Tryz.underlying9 rfl rfl (Opd.gd hG u_0))) <| o_g (g_f rfl rfl rfl (fun hG => Zci rfl rfl (Opd.gd hG u_0) c_i)) <| o_p rfl (Zbi rfl rfl u_0 (fun hz => (Opd.gd (bNF hz) u_1))) <| o_p rfl (Za rfl rfl u_0) <| o_g (g_f rfl rfl rfl (fun hG => Ze Zre rfl rfl u_0)) <| o_g (g_f rfl rfl rfl (fun hG => Zf Zbn rfl rfl (Opd.gd hG u_0))) <| o_g (g_f rfl rfl rfl (fun hG => Zo Z6d (Zmx _ (Zbb h2 hG)) rfl rfl (.cons (Opd.gd hG u_0) .nil))) <| o_g (g_f rfl rfl rfl (fun hG => Zci rfl rfl (Opd.gd hG u_0) c_i)) <| o_p rfl (Zbi rfl rfl u_0 (fun hz => (Opd.gd (bNF hz) u_1))) <| o_n) (by kernel_rfl) (fun a g hst hb => ?_)
 refine wp_cond_split (hst.bool 0 rfl) (fun hc3 => ?_) (fun hc3 => ?_)
 · replace H0 := Zy hc3 H0
   refine r_s (L := []) (T := [⟨[], _, [], [], [2]⟩]) (F := [.op 0 0]) (hst.pick [] rfl) hb Zb
     (o_p rfl (Zc rfl rfl c_i) <| o_n) (by kernel_rfl) (fun a g hst hb => ?_)
   refine wp_ret ?_
   refine Zp ?_
   obtain rfl := Option.some.inj H0
   exact Zx rfl hst hb (Zk (s := 2)) (hst.at 0 rfl)
 · replace H0 := Zz hc3 H0
   refine wp_skip ?_
   refine Zv ?_
   refine r_s (L := []) (T := [⟨[], _, [], [], [2]⟩]) (F := [.op 0 0]) (hst.pick [] rfl) hb Zb
     (o_p rfl (Zc rfl rfl c_i) <| o_n) (by kernel_rfl) (fun a g hst hb => ?_)
   refine wp_ret ?_
   obtain rfl := Option.some.inj H0
   exact Zx rfl hst hb (Zk (s := 2)) (hst.at 0 rfl)
theorem Zqj (a0 : Zbk) {r : Int} (h : Zis a0 = some r) : FnOk Tryz.prog 19 [(Zcf.pd a0)] (pInt .i64 r) := by
 have H0 := h
 unfold Zis at H0
 clear h
 refine Zbr (N := 20) Tryz.func19 rfl rfl (Nat.le_of_ble_eq_true rfl) rfl rfl (fun a g0 hst hb => ?_)
 refine r_s (T := [⟨[.old 0], _, [], [], [1]⟩, ⟨[], _, [], [], [2]⟩]) (F := [.op 0 0]) hst hb Zb
   (o_p rfl (Zbh rfl rfl u_0) <| o_p rfl (Zc rfl rfl c_i) <| o_n) (by kernel_rfl) (fun a g hst hb => ?_)
 refine wp_seq ?_
 refine r_s (T := [⟨[.old 0], _, [], [], [5]⟩, ⟨[.op 0 0], _, [], [0], [6]⟩, ⟨[.op 1 0], _, [], [0, 1], [7]⟩, ⟨[.op 2 0], _, [], [0, 1, 2], [8]⟩]) (F := [.old 0, .op 3 0]) hst hb Zb
   (o_p rfl (Ze Zhd rfl rfl u_0) <| o_p rfl (Zf Zj4 rfl rfl u_0) <| o_p rfl (Zb4 Tryz.underlying23 rfl rfl u_0) <| o_p rfl (Zci rfl rfl u_0 c_i) <| o_n) (by kernel_rfl) (fun a g hst hb => ?_)
 refine wp_cond_split (hst.bool 1 rfl) (fun hc1 => ?_) (fun hc1 => ?_)
 · replace H0 := Zy hc1 H0
   refine r_s (L := []) (T := [⟨[], _, [], [], [2]⟩]) (F := [.op 0 0]) (hst.pick [] rfl) hb Zb
     (o_p rfl (Zc rfl rfl c_i) <| o_n) (by kernel_rfl) (fun a g hst hb => ?_)
   refine wp_ret ?_
   refine Zp ?_
   obtain rfl := Option.some.inj H0
   exact Zx rfl hst hb (Zk (s := 2)) (hst.at 0 rfl)
 · replace H0 := Zz hc1 H0
   refine wp_skip ?_
   refine Zv ?_
   refine wp_seq ?_
   refine r_s (L := [(1, _)]) (T := [⟨[.old 0], _, [], [], [9]⟩, ⟨[.op 0 0], _, [], [0], [10]⟩, ⟨[.op 1 0], _, [], [0, 1], [11]⟩, ⟨[], _, [], [], [12]⟩]) (F := [.op 1 0, .op 2 0, .op 3 0]) (hst.pick [0] rfl) hb Zb
     (o_p rfl (Ze Zhd rfl rfl u_0) <| o_p rfl (Zf Zj4 rfl rfl u_0) <| o_p rfl (Zb4 Tryz.underlying23 rfl rfl u_0) <| o_p rfl (Za rfl rfl c_i) <| o_n) (by kernel_rfl) (fun a g hst hb => ?_)
   obtain ⟨z9, hz1, H0⟩ := Zg H0
   refine Zcx (fun a w => ∃ (g : G), w = g.w ∧ St 20 [] a g ∧ Base g0 g ∧ (.inr ()) = z9) ?_ ?_
   · rintro a w ⟨g, rfl, hst, hb, rfl⟩
     refine Zv ?_
     refine r_s (T := [⟨[], _, [], [], [2]⟩]) (F := [.op 0 0]) hst hb Zb
       (o_p rfl (Zc rfl rfl c_i) <| o_n) (by kernel_rfl) (fun a g hst hb => ?_)
     refine wp_ret ?_
     obtain rfl := Option.some.inj H0
     exact Zx rfl hst hb (Zk (s := 2)) (hst.at 0 rfl)
   · refine wp_block ?_
     refine wp_loop_ghost (fun n a w => ∃ (x2 : Int) (g : G), w = g.w ∧ St 20 [(10, (Z2.sl.pd a0.Acts)), (11, (pInt .i64 (a0.Acts.length : Int))), (12, (pInt .i64 x2))] a g ∧ Base g0 g ∧ Zds a0 n x2 = some z9) (Int.toNat ((a0.Acts.length : Int) - (0 : Int)) + 1) ⟨(0 : Int), g, rfl, (hst.pick [0, 1, 2] rfl), hb, hz1⟩ (fun n a w hI => ?_)
     obtain ⟨x2, g, rfl, hst, hb, H1⟩ := hI
     cases n with
     | zero => exact absurd H1 (by simp [Zds])
     | succ n =>
       rw [Zds] at H1
       refine r_s (T := [⟨[.old 2, .old 1], _, [], [], [13]⟩]) (F := [.old 0, .old 1, .old 2, .op 0 0]) hst hb Zb
         (o_p rfl (Zco rfl rfl u_0 u_1) <| o_n) (by kernel_rfl) (fun a g hst hb => ?_)
       refine wp_seq ?_
       refine wp_cond_split (hst.bool 3 rfl) (fun hc3 => ?_) (fun hc3 => ?_)
       · replace H1 := Zy hc3 H1
         refine wp_skip ?_
         refine Zv ?_
         refine wp_seq ?_
         refine wp_block ?_
         obtain ⟨e4, h5, H1⟩ := Zg H1
         refine r_s (L := [(10, _), (11, _), (12, _)]) (T := [⟨[.old 0, .old 2], _, [], [], [14]⟩, ⟨[.op 0 0], _, [], [0], [15]⟩, ⟨[], [(4, (pBox Z2 4 (default : Zm)))], [5], [], [4]⟩, ⟨[.op 1 0, .op 2 0], _, [5], [0, 1, 2], [4]⟩]) (F := [.op 3 0, .old 0, .old 1, .old 2]) (hst.pick [0, 1, 2] rfl) hb Zb
           (o_p rfl (Zbp Tryz.underlying23 Zml rfl rfl u_0 u_1 h5) <| o_p rfl (Zf Zei rfl rfl u_0) <| o_p rfl (Zbg (zs := [.int .i64 0, .string ByteArray.empty, .int .i64 0, .float .f64 0, .string ByteArray.empty, .int .i64 0, .int .i64 0, .int .i64 0, .int .i64 0, .float .f64 0, .int .i64 0, .string ByteArray.empty, .slice none 0 0, .bool false]) (by kernel_rfl) (fun g => Zje g) rfl rfl) <| o_p rfl (Zb1 Zei rfl rfl u_1 u_0) <| o_n) (by kernel_rfl) (fun a g hst hb => ?_)
         obtain ⟨r6, h7, H1⟩ := Zg H1
         refine r_s (T := [⟨[.old 0], _, [], [], [16]⟩, ⟨[.op 0 0], _, [], [0], [17]⟩, ⟨[.op 1 0], _, [], [0, 1], [18]⟩]) (F := [.old 1, .old 2, .old 3, .op 2 0]) hst hb Zb
           (o_p rfl (Zf Zei rfl rfl u_0) <| o_p rfl (Zo Zbas (Zqq _ h7) rfl rfl (.cons u_0 .nil)) <| o_p rfl (Zci rfl rfl u_0 c_i) <| o_n) (by kernel_rfl) (fun a g hst hb => ?_)
         refine wp_cond_split (hst.bool 3 rfl) (fun hc8 => ?_) (fun hc8 => ?_)
         · replace H1 := Zy hc8 H1
           refine r_s (L := []) (T := [⟨[], _, [], [], [2]⟩]) (F := [.op 0 0]) (hst.pick [] rfl) hb Zb
             (o_p rfl (Zc rfl rfl c_i) <| o_n) (by kernel_rfl) (fun a g hst hb => ?_)
           refine wp_ret ?_
           refine Zw ?_
           refine Zp ?_
           refine Zp ?_
           refine Zw ?_
           refine Zp ?_
           refine Zp ?_
           obtain rfl := Option.some.inj H1
           obtain rfl := Option.some.inj H0
           exact Zx rfl hst hb (Zk (s := 2)) (hst.at 0 rfl)
         · replace H1 := Zz hc8 H1
           refine wp_skip ?_
           refine Zbu ?_
           refine Zv ?_
           refine r_g (L := [(10, _), (11, _), (12, _)]) (T := [⟨[.old 2], _, [], [], [19]⟩, ⟨[.op 0 0], _, [], [0], [12]⟩]) (F := [.old 0, .old 1, .op 1 0]) (hst.pick [0, 1, 2] rfl) hb Zb
             (o_p rfl (Zcd rfl rfl u_0 c_i rfl) <| o_p rfl (Za rfl rfl u_0) <| o_n) (by kernel_rfl) (fun a g hst hb => ?_)
           exact ⟨n, Nat.lt_succ_self _, (IntKind.i64.wrap (x2 + (1 : Int))), g, rfl, (hst.pick [0, 1, 2] rfl), hb, H1⟩
       · replace H1 := Zz hc3 H1
         refine wp_exit ?_
         refine Zb5 ?_
         refine Zb5 ?_
         refine Zct ?_
         exact ⟨g, rfl, (hst.pick [] rfl), hb, Option.some.inj H1⟩
theorem Zmu (a0 : List Zbk) {r : Int} (h : Zhc a0 = some r) : FnOk Tryz.prog 6 [(Zcf.sl.pd a0)] (pInt .i64 r) := by
 have H0 := h
 unfold Zhc at H0
 clear h
 refine Zbr (N := 18) Tryz.func6 rfl rfl (Nat.le_of_ble_eq_true rfl) rfl rfl (fun a g0 hst hb => ?_)
 refine r_s (T := [⟨[], _, [], [], [2]⟩]) (F := [.old 0]) hst hb Zb
   (o_p rfl (Zc rfl rfl c_i) <| o_n) (by kernel_rfl) (fun a g hst hb => ?_)
 refine wp_seq ?_
 refine r_s (T := [⟨[.old 0], _, [], [], [5]⟩, ⟨[.op 0 0], _, [], [0], [6]⟩, ⟨[.op 1 0], _, [], [0, 1], [7]⟩]) (F := [.old 0, .op 2 0]) hst hb Zb
   (o_p rfl (Za rfl rfl u_0) <| o_p rfl (Zb4 Tryz.underlying35 rfl rfl u_0) <| o_p rfl (Zci rfl rfl u_0 c_i) <| o_n) (by kernel_rfl) (fun a g hst hb => ?_)
 refine wp_cond_split (hst.bool 1 rfl) (fun hc1 => ?_) (fun hc1 => ?_)
 · replace H0 := Zy hc1 H0
   refine r_s (L := []) (T := [⟨[], _, [], [], [2]⟩]) (F := [.op 0 0]) (hst.pick [] rfl) hb Zb
     (o_p rfl (Zc rfl rfl c_i) <| o_n) (by kernel_rfl) (fun a g hst hb => ?_)
   refine wp_ret ?_
   refine Zp ?_
   obtain rfl := Option.some.inj H0
   exact Zx rfl hst hb (Zk (s := 2)) (hst.at 0 rfl)
 · replace H0 := Zz hc1 H0
   refine wp_skip ?_
   refine Zv ?_
   refine wp_seq ?_
   refine r_s (L := [(0, _)]) (T := [⟨[.old 0], _, [], [], [8]⟩, ⟨[.op 0 0], _, [], [0], [9]⟩, ⟨[], _, [], [], [10]⟩]) (F := [.op 0 0, .op 1 0, .op 2 0]) (hst.pick [0] rfl) hb Zb
     (o_p rfl (Za rfl rfl u_0) <| o_p rfl (Zb4 Tryz.underlying35 rfl rfl u_0) <| o_p rfl (Za rfl rfl c_i) <| o_n) (by kernel_rfl) (fun a g hst hb => ?_)
   obtain ⟨z9, hz1, H0⟩ := Zg H0
   refine Zcx (fun a w => ∃ (g : G), w = g.w ∧ St 18 [] a g ∧ Base g0 g ∧ (.inr ()) = z9) ?_ ?_
   · rintro a w ⟨g, rfl, hst, hb, rfl⟩
     refine Zv ?_
     refine r_s (T := [⟨[], _, [], [], [2]⟩]) (F := [.op 0 0]) hst hb Zb
       (o_p rfl (Zc rfl rfl c_i) <| o_n) (by kernel_rfl) (fun a g hst hb => ?_)
     refine wp_ret ?_
     obtain rfl := Option.some.inj H0
     exact Zx rfl hst hb (Zk (s := 2)) (hst.at 0 rfl)
   · refine wp_block ?_
     refine wp_loop_ghost (fun n a w => ∃ (x2 : Int) (g : G), w = g.w ∧ St 18 [(8, (Zcf.sl.pd a0)), (9, (pInt .i64 (a0.length : Int))), (10, (pInt .i64 x2))] a g ∧ Base g0 g ∧ Zdr a0 n x2 = some z9) (Int.toNat ((a0.length : Int) - (0 : Int)) + 1) ⟨(0 : Int), g, rfl, (hst.pick [0, 1, 2] rfl), hb, hz1⟩ (fun n a w hI => ?_)
     obtain ⟨x2, g, rfl, hst, hb, H1⟩ := hI
     cases n with
     | zero => exact absurd H1 (by simp [Zdr])
     | succ n =>
       rw [Zdr] at H1
       refine r_s (T := [⟨[.old 2, .old 1], _, [], [], [11]⟩]) (F := [.old 0, .old 1, .old 2, .op 0 0]) hst hb Zb
         (o_p rfl (Zco rfl rfl u_0 u_1) <| o_n) (by kernel_rfl) (fun a g hst hb => ?_)
       refine wp_seq ?_
       refine wp_cond_split (hst.bool 3 rfl) (fun hc3 => ?_) (fun hc3 => ?_)
       · replace H1 := Zy hc3 H1
         refine wp_skip ?_
         refine Zv ?_
         refine wp_seq ?_
         refine wp_block ?_
         obtain ⟨e4, h5, H1⟩ := Zg H1
         refine r_s (L := [(8, _), (9, _), (10, _)]) (T := [⟨[.old 0, .old 2], _, [], [], [12]⟩, ⟨[.op 0 0], _, [], [0], [13]⟩, ⟨[], [(4, (pBox Zcf 4 (default : Zbk)))], [5], [], [4]⟩, ⟨[.op 1 0, .op 2 0], _, [5], [0, 1, 2], [4]⟩]) (F := [.op 3 0, .old 0, .old 1, .old 2]) (hst.pick [0, 1, 2] rfl) hb Zb
           (o_p rfl (Zbp Tryz.underlying35 Zla rfl rfl u_0 u_1 h5) <| o_p rfl (Zf Zht rfl rfl u_0) <| o_p rfl (Zbg (zs := [.slice none 0 0]) (by kernel_rfl) (fun g => Zsj g) rfl rfl) <| o_p rfl (Zb1 Zht rfl rfl u_1 u_0) <| o_n) (by kernel_rfl) (fun a g hst hb => ?_)
         obtain ⟨r6, h7, H1⟩ := Zg H1
         refine r_s (T := [⟨[.old 0], _, [], [], [14]⟩, ⟨[.op 0 0], _, [], [0], [15]⟩, ⟨[.op 1 0], _, [], [0, 1], [16]⟩]) (F := [.old 1, .old 2, .old 3, .op 2 0]) hst hb Zb
           (o_p rfl (Zf Zht rfl rfl u_0) <| o_p rfl (Zo Z9z (Zqj _ h7) rfl rfl (.cons u_0 .nil)) <| o_p rfl (Zci rfl rfl u_0 c_i) <| o_n) (by kernel_rfl) (fun a g hst hb => ?_)
         refine wp_cond_split (hst.bool 3 rfl) (fun hc8 => ?_) (fun hc8 => ?_)
         · replace H1 := Zy hc8 H1
           refine r_s (L := []) (T := [⟨[], _, [], [], [2]⟩]) (F := [.op 0 0]) (hst.pick [] rfl) hb Zb
             (o_p rfl (Zc rfl rfl c_i) <| o_n) (by kernel_rfl) (fun a g hst hb => ?_)
           refine wp_ret ?_
           refine Zw ?_
           refine Zp ?_
           refine Zp ?_
           refine Zw ?_
           refine Zp ?_
           refine Zp ?_
           obtain rfl := Option.some.inj H1
           obtain rfl := Option.some.inj H0
           exact Zx rfl hst hb (Zk (s := 2)) (hst.at 0 rfl)
         · replace H1 := Zz hc8 H1
           refine wp_skip ?_
           refine Zbu ?_
           refine Zv ?_
           refine r_g (L := [(8, _), (9, _), (10, _)]) (T := [⟨[.old 2], _, [], [], [17]⟩, ⟨[.op 0 0], _, [], [0], [10]⟩]) (F := [.old 0, .old 1, .op 1 0]) (hst.pick [0, 1, 2] rfl) hb Zb
             (o_p rfl (Zcd rfl rfl u_0 c_i rfl) <| o_p rfl (Za rfl rfl u_0) <| o_n) (by kernel_rfl) (fun a g hst hb => ?_)
           exact ⟨n, Nat.lt_succ_self _, (IntKind.i64.wrap (x2 + (1 : Int))), g, rfl, (hst.pick [0, 1, 2] rfl), hb, H1⟩
       · replace H1 := Zz hc3 H1
         refine wp_exit ?_
         refine Zb5 ?_
         refine Zb5 ?_
         refine Zct ?_
         exact ⟨g, rfl, (hst.pick [] rfl), hb, Option.some.inj H1⟩
theorem Zsk (a0 : Int) {r : ByteArray} (h : Zlc a0 = some r) : FnOk Tryz.prog 99 [(pInt .i64 a0)] (pStr r) := by
 have H0 := h
 unfold Zlc at H0
 clear h
 refine Zbr (N := 6) Tryz.func99 rfl rfl (Nat.le_of_ble_eq_true rfl) rfl rfl (fun a g0 hst hb => ?_)
 refine r_s (T := [⟨[], _, [], [], [2]⟩]) (F := [.old 0]) hst hb Zb
   (o_p rfl (Zc rfl rfl c_s) <| o_n) (by kernel_rfl) (fun a g hst hb => ?_)
 obtain ⟨r1, h2, H0⟩ := Zg H0
 refine r_s (T := [⟨[.old 0], _, [], [], [3]⟩, ⟨[.op 0 0], _, [], [0], [4]⟩, ⟨[.op 1 0], _, [], [0, 1], [5]⟩, ⟨[.op 2 0], _, [], [0, 1, 2], [2]⟩]) (F := [.op 3 0]) hst hb Zb
   (o_p rfl (Za rfl rfl u_0) <| o_p rfl (Zo Z07 (Zqk _ h2) rfl rfl (.cons u_0 .nil)) <| o_p rfl (Zx8 Zw8 rfl rfl u_0) <| o_p rfl (Zc rfl rfl u_0) <| o_n) (by kernel_rfl) (fun a g hst hb => ?_)
 refine wp_ret ?_
 obtain rfl := Option.some.inj H0
 exact Zx rfl hst hb (Zk (s := 2)) (hst.at 0 rfl)
theorem Zwq (a0 : Int) (a1 : Int) {r : Bool} (h : Zku a0 a1 = some r) : FnOk Tryz.prog 65 [(pInt .i64 a0), (pInt .i64 a1)] (Zba r) := by
 have H0 := h
 unfold Zku at H0
 clear h
 refine Zbr (N := 72) Tryz.func65 rfl rfl (Nat.le_of_ble_eq_true rfl) rfl rfl (fun a g0 hst hb => ?_)
 refine r_s (T := [⟨[], _, [], [], [4]⟩]) (F := [.old 0, .old 1]) hst hb Zb
   (o_p rfl (Zc rfl rfl c_b) <| o_n) (by kernel_rfl) (fun a g hst hb => ?_)
 refine wp_seq ?_
 refine wp_block ?_
 obtain ⟨r1, h2, H0⟩ := Zg H0; obtain ⟨r3, h4, H0⟩ := Zg H0
 refine r_s (T := [⟨[.old 0], _, [], [], [6]⟩, ⟨[.op 0 0], _, [], [0], [7]⟩, ⟨[.op 1 0], _, [], [0, 1], [8]⟩, ⟨[.op 2 0], _, [], [0, 1, 2], [9]⟩, ⟨[.op 3 0, .old 1], _, [], Lr 4, [10]⟩, ⟨[.op 3 0, .op 4 0], _, [], Lr 5, [11]⟩, ⟨[.op 3 0, .op 5 0], _, [], Lr 6, [12]⟩, ⟨[.op 3 0, .op 6 0], _, [], Lr 7, [13]⟩, ⟨[.op 7 0], _, [], Lr 8, [5]⟩]) (F := [.old 0, .old 1, .op 8 0]) hst hb Zb
   (o_p rfl (Za rfl rfl u_0) <| o_p rfl (Zo Z52 (Zsk _ h2) rfl rfl (.cons u_0 .nil)) <| o_p rfl (Zk2 rfl rfl u_0 c_s) <| o_p rfl (Za rfl rfl u_0) <| o_g (g_f rfl rfl rfl (fun hG => Za rfl rfl u_0)) <| o_g (g_f rfl rfl rfl (fun hG => Zo Z52 (Zsk _ (Zbb h4 hG)) rfl rfl (.cons (Opd.gd hG u_0) .nil))) <| o_g (g_f rfl rfl rfl (fun hG => Zk2 rfl rfl (Opd.gd hG u_0) c_s)) <| o_p rfl (Zbi rfl rfl u_0 (fun hz => (Opd.gd (bNF hz) u_1))) <| o_p rfl (Zc rfl rfl u_0) <| o_n) (by kernel_rfl) (fun a g hst hb => ?_)
 refine wp_cond_split (hst.bool 2 rfl) (fun hc5 => ?_) (fun hc5 => ?_)
 · replace H0 := Zy hc5 H0
   refine r_s (L := []) (T := [⟨[], _, [], [], [4]⟩]) (F := [.op 0 0]) (hst.pick [] rfl) hb Zb
     (o_p rfl (Zc rfl rfl c_b) <| o_n) (by kernel_rfl) (fun a g hst hb => ?_)
   refine wp_ret ?_
   refine Zw ?_
   refine Zp ?_
   obtain rfl := Option.some.inj H0
   exact Zx rfl hst hb (Zk (s := 4)) (hst.at 0 rfl)
 · replace H0 := Zz hc5 H0
   refine r_s (L := [(0, _), (1, _)]) (T := [⟨[.old 0], _, [], [], [15]⟩, ⟨[.op 0 0], _, [], [0], [16]⟩, ⟨[.op 1 0], _, [], [0, 1], [17]⟩, ⟨[.op 2 0, .old 1], _, [], [0, 1, 2], [18]⟩, ⟨[.op 2 0, .op 3 0], _, [], Lr 4, [19]⟩, ⟨[.op 2 0, .op 4 0], _, [], Lr 5, [20]⟩, ⟨[.op 5 0], _, [], Lr 6, [14]⟩]) (F := [.old 0, .old 1, .op 6 0]) (hst.pick [0, 1] rfl) hb Zb
     (o_p rfl (Za rfl rfl u_0) <| o_p rfl (Zwx rfl rfl u_0 c_i) <| o_p rfl (Za rfl rfl u_0) <| o_g (g_f rfl rfl rfl (fun hG => Za rfl rfl u_0)) <| o_g (g_f rfl rfl rfl (fun hG => Zwx rfl rfl (Opd.gd hG u_0) c_i)) <| o_p rfl (Zbi rfl rfl u_0 (fun hz => (Opd.gd (bNF hz) u_1))) <| o_p rfl (Zc rfl rfl u_0) <| o_n) (by kernel_rfl) (fun a g hst hb => ?_)
   refine wp_cond_split (hst.bool 2 rfl) (fun hc6 => ?_) (fun hc6 => ?_)
   · replace H0 := Zy hc6 H0
     refine r_s (L := []) (T := [⟨[], _, [], [], [4]⟩]) (F := [.op 0 0]) (hst.pick [] rfl) hb Zb
       (o_p rfl (Zc rfl rfl c_b) <| o_n) (by kernel_rfl) (fun a g hst hb => ?_)
     refine wp_ret ?_
     refine Zw ?_
     refine Zp ?_
     obtain rfl := Option.some.inj H0
     exact Zx rfl hst hb (Zk (s := 4)) (hst.at 0 rfl)
   · replace H0 := Zz hc6 H0
     obtain ⟨r7, h8, H0⟩ := Zg H0; obtain ⟨r9, h10, H0⟩ := Zg H0
     refine r_s (L := [(0, _), (1, _)]) (T := ⟨[.old 0], _, [], [], [22]⟩ :: ⟨[.op 0 0], _, [], [0], [23]⟩ :: ⟨[.op 1 0], _, [], [0, 1], [24]⟩ :: ⟨[.op 2 0, .old 1], _, [], [0, 1, 2], [25]⟩ :: ⟨[.op 2 0, .op 3 0], _, [], Lr 4, [26]⟩ :: ⟨[.op 2 0, .op 4 0], _, [], Lr 5, [27]⟩ :: ⟨[.op 5 0], _, [], Lr 6, [28]⟩ :: ⟨[.op 6 0, .old 0], _, [], Lr 7, [29]⟩ :: ⟨[.op 6 0, .op 7 0], _, [], Lr 8, [30]⟩ :: ⟨[.op 6 0, .op 8 0], _, [], Lr 9, [31]⟩ :: ⟨[.op 9 0], _, [], Lr 10, [32]⟩ :: ⟨[.op 10 0, .old 1], _, [], Lr 11, [33]⟩ :: ⟨[.op 10 0, .op 11 0], _, [], Lr 12, [34]⟩ :: ⟨[.op 10 0, .op 12 0], _, [], Lr 13, [35]⟩ :: ⟨[.op 13 0], _, [], Lr 14, [21]⟩ :: []) (F := [.old 0, .old 1, .op 14 0]) (hst.pick [0, 1] rfl) hb Zb
       (o_p rfl (Za rfl rfl u_0) <| o_p rfl (Zo Z1f (Zn0 _ h8) rfl rfl (.cons u_0 .nil)) <| o_p rfl (Za rfl rfl u_0) <| o_g (g_t rfl rfl rfl (fun hG => Za rfl rfl u_0)) <| o_g (g_t rfl rfl rfl (fun hG => Zo Z1f (Zn0 _ (Zbb h10 hG)) rfl rfl (.cons (Opd.gd hG u_0) .nil))) <| o_p rfl (Zbf rfl rfl u_0 (fun hz => (Opd.gd hz u_1))) <| o_p rfl (Za rfl rfl u_0) <| o_g (g_f rfl rfl rfl (fun hG => Za rfl rfl u_0)) <| o_g (g_f rfl rfl rfl (fun hG => Zbj rfl rfl (Opd.gd hG u_0) c_i)) <| o_p rfl (Zbi rfl rfl u_0 (fun hz => (Opd.gd (bNF hz) u_1))) <| o_p rfl (Za rfl rfl u_0) <| o_g (g_f rfl rfl rfl (fun hG => Za rfl rfl u_0)) <| o_g (g_f rfl rfl rfl (fun hG => Zbj rfl rfl (Opd.gd hG u_0) c_i)) <| o_p rfl (Zbi rfl rfl u_0 (fun hz => (Opd.gd (bNF hz) u_1))) <| o_p rfl (Zc rfl rfl u_0) <| o_n) (by kernel_rfl) (fun a g hst hb => ?_)
     refine wp_cond_split (hst.bool 2 rfl) (fun hc11 => ?_) (fun hc11 => ?_)
     · replace H0 := Zy hc11 H0
       refine r_s (L := []) (T := [⟨[], _, [], [], [4]⟩]) (F := [.op 0 0]) (hst.pick [] rfl) hb Zb
         (o_p rfl (Zc rfl rfl c_b) <| o_n) (by kernel_rfl) (fun a g hst hb => ?_)
       refine wp_ret ?_
       refine Zw ?_
       refine Zp ?_
       obtain rfl := Option.some.inj H0
       exact Zx rfl hst hb (Zk (s := 4)) (hst.at 0 rfl)
     · replace H0 := Zz hc11 H0
       refine r_s (L := [(0, _), (1, _)]) (T := [⟨[.old 0], _, [], [], [37]⟩, ⟨[.op 0 0], _, [], [0], [38]⟩, ⟨[.op 1 0], _, [], [0, 1], [39]⟩, ⟨[.op 2 0, .old 1], _, [], [0, 1, 2], [40]⟩, ⟨[.op 2 0, .op 3 0], _, [], Lr 4, [41]⟩, ⟨[.op 2 0, .op 4 0], _, [], Lr 5, [42]⟩, ⟨[.op 5 0], _, [], Lr 6, [36]⟩]) (F := [.old 0, .old 1, .op 6 0]) (hst.pick [0, 1] rfl) hb Zb
         (o_p rfl (Za rfl rfl u_0) <| o_p rfl (Zbj rfl rfl u_0 c_i) <| o_p rfl (Za rfl rfl u_0) <| o_g (g_f rfl rfl rfl (fun hG => Za rfl rfl u_0)) <| o_g (g_f rfl rfl rfl (fun hG => Zbj rfl rfl (Opd.gd hG u_0) c_i)) <| o_p rfl (Zbi rfl rfl u_0 (fun hz => (Opd.gd (bNF hz) u_1))) <| o_p rfl (Zc rfl rfl u_0) <| o_n) (by kernel_rfl) (fun a g hst hb => ?_)
       refine wp_cond_split (hst.bool 2 rfl) (fun hc12 => ?_) (fun hc12 => ?_)
       · replace H0 := Zy hc12 H0
         refine r_s (L := []) (T := [⟨[], _, [], [], [4]⟩]) (F := [.op 0 0]) (hst.pick [] rfl) hb Zb
           (o_p rfl (Zc rfl rfl c_b) <| o_n) (by kernel_rfl) (fun a g hst hb => ?_)
         refine wp_ret ?_
         refine Zw ?_
         refine Zp ?_
         obtain rfl := Option.some.inj H0
         exact Zx rfl hst hb (Zk (s := 4)) (hst.at 0 rfl)
       · replace H0 := Zz hc12 H0
         obtain ⟨r13, h14, H0⟩ := Zg H0; obtain ⟨r15, h16, H0⟩ := Zg H0
         refine r_s (L := [(0, _), (1, _)]) (T := [⟨[.old 0], _, [], [], [44]⟩, ⟨[.op 0 0], _, [], [0], [45]⟩, ⟨[.old 1], _, [], [], [46]⟩, ⟨[.op 2 0], _, [], [0, 1, 2], [47]⟩, ⟨[.op 1 0, .op 3 0], _, [], Lr 4, [48]⟩, ⟨[.op 4 0], _, [], Lr 5, [43]⟩]) (F := [.old 0, .old 1, .op 5 0]) (hst.pick [0, 1] rfl) hb Zb
           (o_p rfl (Za rfl rfl u_0) <| o_p rfl (Zo Z1n (Zqv _ h14) rfl rfl (.cons u_0 .nil)) <| o_p rfl (Za rfl rfl u_0) <| o_p rfl (Zo Z1n (Zqv _ h16) rfl rfl (.cons u_0 .nil)) <| o_p rfl (Zf2 rfl rfl u_0 u_1) <| o_p rfl (Zc rfl rfl u_0) <| o_n) (by kernel_rfl) (fun a g hst hb => ?_)
         refine wp_cond_split (hst.bool 2 rfl) (fun hc17 => ?_) (fun hc17 => ?_)
         · replace H0 := Zy hc17 H0
           refine r_s (L := []) (T := [⟨[], _, [], [], [4]⟩]) (F := [.op 0 0]) (hst.pick [] rfl) hb Zb
             (o_p rfl (Zc rfl rfl c_b) <| o_n) (by kernel_rfl) (fun a g hst hb => ?_)
           refine wp_ret ?_
           refine Zw ?_
           refine Zp ?_
           obtain rfl := Option.some.inj H0
           exact Zx rfl hst hb (Zk (s := 4)) (hst.at 0 rfl)
         · replace H0 := Zz hc17 H0
           refine wp_skip ?_
           refine Zbu ?_
           refine Zv ?_
           refine r_s (L := [(0, _), (1, _)]) (T := ⟨[.old 0], _, [], [], [49]⟩ :: ⟨[.old 1], _, [], [], [50]⟩ :: ⟨[.op 0 0, .op 1 0], _, [], [0, 1], [51]⟩ :: ⟨[.op 2 0], _, [], [0, 1, 2], [52]⟩ :: ⟨[.op 3 0, .old 0], _, [], Lr 4, [53]⟩ :: ⟨[.op 3 0, .op 4 0], _, [], Lr 5, [54]⟩ :: ⟨[.op 3 0, .op 5 0], _, [], Lr 6, [55]⟩ :: ⟨[.op 6 0, .old 0], _, [], Lr 7, [56]⟩ :: ⟨[.op 6 0, .op 7 0], _, [], Lr 8, [57]⟩ :: ⟨[.op 3 0, .op 6 0, .op 8 0], _, [], Lr 9, [58]⟩ :: ⟨[.op 3 0, .op 9 0], _, [], Lr 10, [59]⟩ :: ⟨[.op 10 0, .old 0], _, [], Lr 11, [60]⟩ :: ⟨[.op 10 0, .op 11 0], _, [], Lr 12, [61]⟩ :: ⟨[.op 3 0, .op 10 0, .op 12 0], _, [], Lr 13, [62]⟩ :: ⟨[.op 3 0, .op 13 0], _, [], Lr 14, [63]⟩ :: ⟨[.op 14 0, .old 0], _, [], Lr 15, [64]⟩ :: ⟨[.op 14 0, .op 15 0], _, [], Lr 16, [65]⟩ :: ⟨[.op 3 0, .op 14 0, .op 16 0], _, [], Lr 17, [66]⟩ :: ⟨[.op 3 0, .op 17 0], _, [], Lr 18, [67]⟩ :: ⟨[.op 18 0, .old 0], _, [], Lr 19, [68]⟩ :: ⟨[.op 18 0, .op 19 0], _, [], Lr 20, [69]⟩ :: ⟨[.op 3 0, .op 18 0, .op 20 0], _, [], Lr 21, [70]⟩ :: ⟨[.op 3 0, .op 21 0], _, [], Lr 22, [71]⟩ :: ⟨[.op 22 0], _, [], Lr 23, [4]⟩ :: []) (F := [.op 23 0]) (hst.pick [0, 1] rfl) hb Zb
             (o_p rfl (Za rfl rfl u_0) <| o_p rfl (Za rfl rfl u_0) <| o_p rfl (Zbj rfl rfl u_0 u_1) <| o_p rfl (Za rfl rfl u_0) <| o_g (g_t rfl rfl rfl (fun hG => Za rfl rfl u_0)) <| o_g (g_t rfl rfl rfl (fun hG => Zbj rfl rfl (Opd.gd hG u_0) c_i)) <| o_g (g_t rfl rfl rfl (fun hG => Za rfl rfl (Opd.gd hG u_0))) <| o_g (g_fi rfl rfl rfl (fun hG => Za rfl rfl u_0)) <| o_g (g_fi rfl rfl rfl (fun hG => Zbj rfl rfl (Opd.gd hG u_0) c_i)) <| o_g (g_t rfl rfl rfl (fun hG => Zbi rfl rfl (Opd.gd hG u_0) (fun hz => (Opd.gd (bA hG (bNF hz)) u_1)))) <| o_g (g_t rfl rfl rfl (fun hG => Za rfl rfl (Opd.gd hG u_0))) <| o_g (g_fi rfl rfl rfl (fun hG => Za rfl rfl u_0)) <| o_g (g_fi rfl rfl rfl (fun hG => Zbj rfl rfl (Opd.gd hG u_0) c_i)) <| o_g (g_t rfl rfl rfl (fun hG => Zbi rfl rfl (Opd.gd hG u_0) (fun hz => (Opd.gd (bA hG (bNF hz)) u_1)))) <| o_g (g_t rfl rfl rfl (fun hG => Za rfl rfl (Opd.gd hG u_0))) <| o_g (g_fi rfl rfl rfl (fun hG => Za rfl rfl u_0)) <| o_g (g_fi rfl rfl rfl (fun hG => Zbj rfl rfl (Opd.gd hG u_0) c_i)) <| o_g (g_t rfl rfl rfl (fun hG => Zbi rfl rfl (Opd.gd hG u_0) (fun hz => (Opd.gd (bA hG (bNF hz)) u_1)))) <| o_g (g_t rfl rfl rfl (fun hG => Za rfl rfl (Opd.gd hG u_0))) <| o_g (g_fi rfl rfl rfl (fun hG => Za rfl rfl u_0)) <| o_g (g_fi rfl rfl rfl (fun hG => Zbj rfl rfl (Opd.gd hG u_0) c_i)) <| o_g (g_t rfl rfl rfl (fun hG => Zbi rfl rfl (Opd.gd hG u_0) (fun hz => (Opd.gd (bA hG (bNF hz)) u_1)))) <| o_p rfl (Zbf rfl rfl u_0 (fun hz => (Opd.gd hz u_1))) <| o_p rfl (Zc rfl rfl u_0) <| o_n) (by kernel_rfl) (fun a g hst hb => ?_)
           refine wp_ret ?_
           obtain rfl := Option.some.inj H0
           exact Zx rfl hst hb (Zk (s := 4)) (hst.at 0 rfl)
theorem Zt4 (a0 : Zm) (a1 : Zm) {r : Bool} (h : Zj5 a0 a1 = some r) : FnOk Tryz.prog 42 [(Z2.pd a0), (Z2.pd a1)] (Zba r) := by
 have H0 := h
 unfold Zj5 at H0
 clear h
 refine Zbr (N := 17) Tryz.func42 rfl rfl (Nat.le_of_ble_eq_true rfl) rfl rfl (fun a g0 hst hb => ?_)
 refine r_s (T := [⟨[.old 0], _, [], [], [2]⟩, ⟨[.old 1], _, [], [], [3]⟩, ⟨[], _, [], [], [4]⟩]) (F := [.op 0 0, .op 1 0]) hst hb Zb
   (o_p rfl (Zbh rfl rfl u_0) <| o_p rfl (Zbh rfl rfl u_0) <| o_p rfl (Zc rfl rfl c_b) <| o_n) (by kernel_rfl) (fun a g hst hb => ?_)
 obtain ⟨r1, h2, H0⟩ := Zg H0
 refine r_s (T := ⟨[.old 0], _, [], [], [5]⟩ :: ⟨[.op 0 0], _, [], [0], [6]⟩ :: ⟨[.old 1], _, [], [], [7]⟩ :: ⟨[.op 2 0], _, [], [2], [8]⟩ :: ⟨[.op 1 0, .op 3 0], _, [], Lr 4, [9]⟩ :: ⟨[.op 4 0], _, [], Lr 5, [10]⟩ :: ⟨[.op 5 0, .old 0], _, [], Lr 6, [11]⟩ :: ⟨[.op 5 0, .op 6 0], _, [], Lr 7, [12]⟩ :: ⟨[.op 5 0, .old 1], _, [], Lr 6, [13]⟩ :: ⟨[.op 5 0, .op 8 0], _, [], [0, 1, 2, 3, 4, 5, 8], [14]⟩ :: ⟨[.op 5 0, .op 7 0, .op 9 0], _, [], Lr 10, [15]⟩ :: ⟨[.op 5 0, .op 10 0], _, [], Lr 11, [16]⟩ :: ⟨[.op 11 0], _, [], Lr 12, [4]⟩ :: []) (F := [.op 12 0]) hst hb Zb
   (o_p rfl (Ze Zjx rfl rfl u_0) <| o_p rfl (Zf ty_9 rfl rfl u_0) <| o_p rfl (Ze Zjx rfl rfl u_0) <| o_p rfl (Zf ty_9 rfl rfl u_0) <| o_p rfl (Zt8 rfl rfl u_0 u_1) <| o_p rfl (Za rfl rfl u_0) <| o_g (g_f rfl rfl rfl (fun hG => Ze Zeu rfl rfl u_0)) <| o_g (g_f rfl rfl rfl (fun hG => Zf ty_3 rfl rfl (Opd.gd hG u_0))) <| o_g (g_f rfl rfl rfl (fun hG => Ze Zeu rfl rfl u_0)) <| o_g (g_f rfl rfl rfl (fun hG => Zf ty_3 rfl rfl (Opd.gd hG u_0))) <| o_g (g_f rfl rfl rfl (fun hG => Zo Zbat (Zwq _ _ (Zbb h2 hG)) rfl rfl (.cons (Opd.gd hG u_0) (.cons (Opd.gd hG u_1) .nil)))) <| o_p rfl (Zbi rfl rfl u_0 (fun hz => (Opd.gd (bNF hz) u_1))) <| o_p rfl (Zc rfl rfl u_0) <| o_n) (by kernel_rfl) (fun a g hst hb => ?_)
 refine wp_ret ?_
 obtain rfl := Option.some.inj H0
 exact Zx rfl hst hb (Zk (s := 4)) (hst.at 0 rfl)
theorem Zyc (a0 : List Zm) (a1 : List Zm) {r : Bool} (h : Zm0 a0 a1 = some r) : FnOk Tryz.prog 20 [(Z2.sl.pd a0), (Z2.sl.pd a1)] (Zba r) := by
 have H0 := h
 unfold Zm0 at H0
 clear h
 refine Zbr (N := 27) Tryz.func20 rfl rfl (Nat.le_of_ble_eq_true rfl) rfl rfl (fun a g0 hst hb => ?_)
 refine r_s (T := [⟨[], _, [], [], [4]⟩]) (F := [.old 0, .old 1]) hst hb Zb
   (o_p rfl (Zc rfl rfl c_b) <| o_n) (by kernel_rfl) (fun a g hst hb => ?_)
 refine wp_seq ?_
 refine r_s (T := [⟨[.old 0], _, [], [], [9]⟩, ⟨[.op 0 0], _, [], [0], [10]⟩, ⟨[], _, [], [], [11]⟩]) (F := [.old 1, .op 0 0, .op 1 0, .op 2 0]) hst hb Zb
   (o_p rfl (Za rfl rfl u_0) <| o_p rfl (Zb4 Tryz.underlying23 rfl rfl u_0) <| o_p rfl (Za rfl rfl c_i) <| o_n) (by kernel_rfl) (fun a g hst hb => ?_)
 obtain ⟨z13, hz1, H0⟩ := Zg H0
 refine Zcx (fun a w => ∃ (g : G), w = g.w ∧ St 27 [] a g ∧ Base g0 g ∧ (.inr ()) = z13) ?_ ?_
 · rintro a w ⟨g, rfl, hst, hb, rfl⟩
   refine Zv ?_
   refine r_s (T := [⟨[], _, [], [], [4]⟩]) (F := [.op 0 0]) hst hb Zb
     (o_p rfl (Zc rfl rfl c_b) <| o_n) (by kernel_rfl) (fun a g hst hb => ?_)
   refine wp_ret ?_
   obtain rfl := Option.some.inj H0
   exact Zx rfl hst hb (Zk (s := 4)) (hst.at 0 rfl)
 · refine wp_block ?_
   refine wp_loop_ghost (fun n a w => ∃ (x1 : Int) (g : G), w = g.w ∧ St 27 [(1, (Z2.sl.pd a1)), (9, (Z2.sl.pd a0)), (10, (pInt .i64 (a0.length : Int))), (11, (pInt .i64 x1))] a g ∧ Base g0 g ∧ Zg2 a0 a1 n x1 = some z13) (Int.toNat ((a0.length : Int) - (0 : Int)) + 1) ⟨(0 : Int), g, rfl, (hst.pick [0, 1, 2, 3] rfl), hb, hz1⟩ (fun n a w hI => ?_)
   obtain ⟨x1, g, rfl, hst, hb, H1⟩ := hI
   cases n with
   | zero => exact absurd H1 (by simp [Zg2])
   | succ n =>
     rw [Zg2] at H1
     refine r_s (T := [⟨[.old 3, .old 2], _, [], [], [12]⟩]) (F := [.old 0, .old 1, .old 2, .old 3, .op 0 0]) hst hb Zb
       (o_p rfl (Zco rfl rfl u_0 u_1) <| o_n) (by kernel_rfl) (fun a g hst hb => ?_)
     refine wp_seq ?_
     refine wp_cond_split (hst.bool 4 rfl) (fun hc2 => ?_) (fun hc2 => ?_)
     · replace H1 := Zy hc2 H1
       refine wp_skip ?_
       refine Zv ?_
       refine wp_seq ?_
       refine wp_block ?_
       obtain ⟨e3, h4, H1⟩ := Zg H1
       refine r_s (L := [(1, _), (9, _), (10, _), (11, _)]) (T := [⟨[.old 1, .old 3], _, [], [], [13]⟩, ⟨[.op 0 0], _, [], [0], [14]⟩, ⟨[], [(6, (pBox Z2 6 (default : Zm)))], [7], [], [6]⟩, ⟨[.op 1 0, .op 2 0], _, [7], [0, 1, 2], [6]⟩]) (F := [.old 0, .op 3 0, .old 1, .old 2, .old 3]) (hst.pick [0, 1, 2, 3] rfl) hb Zb
         (o_p rfl (Zbp Tryz.underlying23 Zml rfl rfl u_0 u_1 h4) <| o_p rfl (Zf Zei rfl rfl u_0) <| o_p rfl (Zbg (zs := [.int .i64 0, .string ByteArray.empty, .int .i64 0, .float .f64 0, .string ByteArray.empty, .int .i64 0, .int .i64 0, .int .i64 0, .int .i64 0, .float .f64 0, .int .i64 0, .string ByteArray.empty, .slice none 0 0, .bool false]) (by kernel_rfl) (fun g => Zje g) rfl rfl) <| o_p rfl (Zb1 Zei rfl rfl u_1 u_0) <| o_n) (by kernel_rfl) (fun a g hst hb => ?_)
       refine r_s (T := [⟨[.old 0], _, [], [], [15]⟩, ⟨[.op 0 0], _, [], [0], [16]⟩, ⟨[], _, [], [], [17]⟩]) (F := [.old 0, .old 1, .old 2, .old 3, .old 4, .op 0 0, .op 1 0, .op 2 0]) hst hb Zb
         (o_p rfl (Za rfl rfl u_0) <| o_p rfl (Zb4 Tryz.underlying23 rfl rfl u_0) <| o_p rfl (Za rfl rfl c_i) <| o_n) (by kernel_rfl) (fun a g hst hb => ?_)
       obtain ⟨z12, hz2, H1⟩ := Zg H1
       refine Zcx (fun a w => ∃ (g : G), w = g.w ∧ St 27 [(1, (Z2.sl.pd a1)), (9, (Z2.sl.pd a0)), (10, (pInt .i64 (a0.length : Int))), (11, (pInt .i64 x1))] a g ∧ Base g0 g ∧ (.inr ()) = z12) ?_ ?_
       · rintro a w ⟨g, rfl, hst, hb, rfl⟩
         refine Zbu ?_
         refine Zv ?_
         refine r_g (T := [⟨[.old 3], _, [], [], [26]⟩, ⟨[.op 0 0], _, [], [0], [11]⟩]) (F := [.old 0, .old 1, .old 2, .op 1 0]) hst hb Zb
           (o_p rfl (Zcd rfl rfl u_0 c_i rfl) <| o_p rfl (Za rfl rfl u_0) <| o_n) (by kernel_rfl) (fun a g hst hb => ?_)
         exact ⟨n, Nat.lt_succ_self _, (IntKind.i64.wrap (x1 + (1 : Int))), g, rfl, (hst.pick [0, 1, 2, 3] rfl), hb, H1⟩
       · refine wp_block ?_
         refine wp_loop_ghost (fun n a w => ∃ (x5 : Int) (g : G), w = g.w ∧ St 27 [(1, (Z2.sl.pd a1)), (6, (Z2.ptr e3)), (9, (Z2.sl.pd a0)), (10, (pInt .i64 (a0.length : Int))), (11, (pInt .i64 x1)), (15, (Z2.sl.pd a1)), (16, (pInt .i64 (a1.length : Int))), (17, (pInt .i64 x5))] a g ∧ Base g0 g ∧ Zg3 a1 e3 n x5 = some z12) (Int.toNat ((a1.length : Int) - (0 : Int)) + 1) ⟨(0 : Int), g, rfl, (hst.pick [0, 1, 2, 3, 4, 5, 6, 7] rfl), hb, hz2⟩ (fun n a w hI => ?_)
         obtain ⟨x5, g, rfl, hst, hb, H2⟩ := hI
         cases n with
         | zero => exact absurd H2 (by simp [Zg3])
         | succ n =>
           rw [Zg3] at H2
           refine r_s (T := [⟨[.old 7, .old 6], _, [], [], [18]⟩]) (F := [.old 0, .old 1, .old 2, .old 3, .old 4, .old 5, .old 6, .old 7, .op 0 0]) hst hb Zb
             (o_p rfl (Zco rfl rfl u_0 u_1) <| o_n) (by kernel_rfl) (fun a g hst hb => ?_)
           refine wp_seq ?_
           refine wp_cond_split (hst.bool 8 rfl) (fun hc6 => ?_) (fun hc6 => ?_)
           · replace H2 := Zy hc6 H2
             refine wp_skip ?_
             refine Zv ?_
             refine wp_seq ?_
             refine wp_block ?_
             obtain ⟨e7, h8, H2⟩ := Zg H2
             refine r_s (L := [(1, _), (6, _), (9, _), (10, _), (11, _), (15, _), (16, _), (17, _)]) (T := [⟨[.old 5, .old 7], _, [], [], [19]⟩, ⟨[.op 0 0], _, [], [0], [20]⟩, ⟨[], [(8, (pBox Z2 8 (default : Zm)))], [9], [], [8]⟩, ⟨[.op 1 0, .op 2 0], _, [9], [0, 1, 2], [8]⟩]) (F := [.old 0, .old 1, .op 3 0, .old 2, .old 3, .old 4, .old 5, .old 6, .old 7]) (hst.pick [0, 1, 2, 3, 4, 5, 6, 7] rfl) hb Zb
               (o_p rfl (Zbp Tryz.underlying23 Zml rfl rfl u_0 u_1 h8) <| o_p rfl (Zf Zei rfl rfl u_0) <| o_p rfl (Zbg (zs := [.int .i64 0, .string ByteArray.empty, .int .i64 0, .float .f64 0, .string ByteArray.empty, .int .i64 0, .int .i64 0, .int .i64 0, .int .i64 0, .float .f64 0, .int .i64 0, .string ByteArray.empty, .slice none 0 0, .bool false]) (by kernel_rfl) (fun g => Zje g) rfl rfl) <| o_p rfl (Zb1 Zei rfl rfl u_1 u_0) <| o_n) (by kernel_rfl) (fun a g hst hb => ?_)
             obtain ⟨r9, h10, H2⟩ := Zg H2
             refine r_s (T := [⟨[.old 1], _, [], [], [21]⟩, ⟨[.old 2], _, [], [], [22]⟩, ⟨[.op 0 0, .op 1 0], _, [], [0, 1], [23]⟩, ⟨[.op 2 0], _, [], [0, 1, 2], [24]⟩]) (F := [.old 0, .old 1, .old 3, .old 4, .old 5, .old 6, .old 7, .old 8, .op 3 0]) hst hb Zb
               (o_p rfl (Zf Zei rfl rfl u_0) <| o_p rfl (Zf Zei rfl rfl u_0) <| o_p rfl (Zo Z9x (Zt4 _ _ h10) rfl rfl (.cons u_0 (.cons u_1 .nil))) <| o_p rfl (Zcr rfl rfl u_0) <| o_n) (by kernel_rfl) (fun a g hst hb => ?_)
             refine wp_cond_split (hst.bool 8 rfl) (fun hc11 => ?_) (fun hc11 => ?_)
             · replace H2 := Zy hc11 H2
               refine r_s (L := []) (T := [⟨[], _, [], [], [4]⟩]) (F := [.op 0 0]) (hst.pick [] rfl) hb Zb
                 (o_p rfl (Zc rfl rfl c_b) <| o_n) (by kernel_rfl) (fun a g hst hb => ?_)
               refine wp_ret ?_
               refine Zw ?_
               refine Zp ?_
               refine Zp ?_
               refine Zw ?_
               refine Zp ?_
               refine Zw ?_
               refine Zp ?_
               refine Zp ?_
               refine Zw ?_
               refine Zp ?_
               refine Zp ?_
               obtain rfl := Option.some.inj H2
               obtain rfl := Option.some.inj H1
               obtain rfl := Option.some.inj H0
               exact Zx rfl hst hb (Zk (s := 4)) (hst.at 0 rfl)
             · replace H2 := Zz hc11 H2
               refine wp_skip ?_
               refine Zbu ?_
               refine Zv ?_
               refine r_g (L := [(1, _), (6, _), (9, _), (10, _), (11, _), (15, _), (16, _), (17, _)]) (T := [⟨[.old 7], _, [], [], [25]⟩, ⟨[.op 0 0], _, [], [0], [17]⟩]) (F := [.old 0, .old 1, .old 2, .old 3, .old 4, .old 5, .old 6, .op 1 0]) (hst.pick [0, 1, 2, 3, 4, 5, 6, 7] rfl) hb Zb
                 (o_p rfl (Zcd rfl rfl u_0 c_i rfl) <| o_p rfl (Za rfl rfl u_0) <| o_n) (by kernel_rfl) (fun a g hst hb => ?_)
               exact ⟨n, Nat.lt_succ_self _, (IntKind.i64.wrap (x5 + (1 : Int))), g, rfl, (hst.pick [0, 1, 2, 3, 4, 5, 6, 7] rfl), hb, H2⟩
           · replace H2 := Zz hc6 H2
             refine wp_exit ?_
             refine Zb5 ?_
             refine Zb5 ?_
             refine Zct ?_
             exact ⟨g, rfl, (hst.pick [0, 2, 3, 4] rfl), hb, Option.some.inj H2⟩
     · replace H1 := Zz hc2 H1
       refine wp_exit ?_
       refine Zb5 ?_
       refine Zb5 ?_
       refine Zct ?_
       exact ⟨g, rfl, (hst.pick [] rfl), hb, Option.some.inj H1⟩
theorem Zkk (f1 : Nat) (C1 : List Pd) (hC1 : Free C1) (e1_ : Zl Tryz.prog f1) (φ1 : Zm → Option Bool) (hφ1 : ∀ (y0 : Zm) (r : Bool), φ1 y0 = some r → FnOk Tryz.prog f1 ([(Z2.pd y0)] ++ C1) (Zba r)) (a0 : List Zm) {r : Int} (h : Zee a0 φ1 = some r) : FnOk Tryz.prog 66 [(Z2.sl.pd a0), (pClo f1 C1 hC1)] (pInt .i64 r) := by
 have H0 := h
 unfold Zee at H0
 clear h
 refine Zbr (N := 19) Tryz.func66 rfl rfl (Nat.le_of_ble_eq_true rfl) rfl rfl (fun a g0 hst hb => ?_)
 refine r_s (T := [⟨[], _, [], [], [4]⟩]) (F := [.old 0, .old 1]) hst hb Zb
   (o_p rfl (Zc rfl rfl c_i) <| o_n) (by kernel_rfl) (fun a g hst hb => ?_)
 refine wp_seq ?_
 refine r_s (T := [⟨[.old 0], _, [], [], [6]⟩, ⟨[.op 0 0], _, [], [0], [7]⟩, ⟨[], _, [], [], [8]⟩]) (F := [.old 0, .old 1, .op 0 0, .op 1 0, .op 2 0]) hst hb Zb
   (o_p rfl (Za rfl rfl u_0) <| o_p rfl (Zb4 Tryz.underlying23 rfl rfl u_0) <| o_p rfl (Za rfl rfl c_i) <| o_n) (by kernel_rfl) (fun a g hst hb => ?_)
 obtain ⟨z8, hz1, H0⟩ := Zg H0
 refine Zcx (fun a w => ∃ (g : G), w = g.w ∧ St 19 [] a g ∧ Base g0 g ∧ (.inr ()) = z8) ?_ ?_
 · rintro a w ⟨g, rfl, hst, hb, rfl⟩
   refine Zv ?_
   refine r_s (T := [⟨[], _, [], [], [4]⟩]) (F := [.op 0 0]) hst hb Zb
     (o_p rfl (Zc rfl rfl c_i) <| o_n) (by kernel_rfl) (fun a g hst hb => ?_)
   refine wp_ret ?_
   obtain rfl := Option.some.inj H0
   exact Zx rfl hst hb (Zk (s := 4)) (hst.at 0 rfl)
 · refine wp_block ?_
   refine wp_loop_ghost (fun n a w => ∃ (x1 : Int) (g : G), w = g.w ∧ St 19 [(0, (Z2.sl.pd a0)), (1, (pClo f1 C1 hC1)), (6, (Z2.sl.pd a0)), (7, (pInt .i64 (a0.length : Int))), (8, (pInt .i64 x1))] a g ∧ Base g0 g ∧ Zb2 a0 φ1 n x1 = some z8) (Int.toNat ((a0.length : Int) - (0 : Int)) + 1) ⟨(0 : Int), g, rfl, (hst.pick [0, 1, 2, 3, 4] rfl), hb, hz1⟩ (fun n a w hI => ?_)
   obtain ⟨x1, g, rfl, hst, hb, H1⟩ := hI
   cases n with
   | zero => exact absurd H1 (by simp [Zb2])
   | succ n =>
     rw [Zb2] at H1
     refine r_s (T := [⟨[.old 4, .old 3], _, [], [], [9]⟩]) (F := [.old 0, .old 1, .old 2, .old 3, .old 4, .op 0 0]) hst hb Zb
       (o_p rfl (Zco rfl rfl u_0 u_1) <| o_n) (by kernel_rfl) (fun a g hst hb => ?_)
     refine wp_seq ?_
     refine wp_cond_split (hst.bool 5 rfl) (fun hc2 => ?_) (fun hc2 => ?_)
     · replace H1 := Zy hc2 H1
       refine wp_skip ?_
       refine Zv ?_
       refine wp_seq ?_
       refine wp_block ?_
       refine r_s (L := [(0, _), (1, _), (6, _), (7, _), (8, _)]) (T := [⟨[.old 4], _, [], [], [10]⟩, ⟨[.op 0 0], _, [], [0], [5]⟩]) (F := [.old 0, .old 1, .op 1 0, .old 2, .old 3, .old 4]) (hst.pick [0, 1, 2, 3, 4] rfl) hb Zb
         (o_p rfl (Za rfl rfl u_0) <| o_p rfl (Zc rfl rfl u_0) <| o_n) (by kernel_rfl) (fun a g hst hb => ?_)
       obtain ⟨e3, h4, H1⟩ := Zg H1; obtain ⟨r5, h6, H1⟩ := Zg H1
       refine r_s (T := [⟨[.old 1], _, [], [], [11]⟩, ⟨[.old 0], _, [], [], [12]⟩, ⟨[.old 2], _, [], [], [13]⟩, ⟨[.op 1 0, .op 2 0], _, [], [1, 2], [14]⟩, ⟨[.op 3 0], _, [], [1, 2, 3], [15]⟩, ⟨[.op 0 0, .op 4 0], _, [], Lr 5, [16]⟩]) (F := [.old 0, .old 1, .old 2, .old 3, .old 4, .old 5, .op 5 0]) hst hb Zb
         (o_p rfl (Za rfl rfl u_0) <| o_p rfl (Za rfl rfl u_0) <| o_p rfl (Za rfl rfl u_0) <| o_p rfl (Zbp Tryz.underlying23 Zml rfl rfl u_0 u_1 h4) <| o_p rfl (Zf Zei rfl rfl u_0) <| o_p rfl (Zmd e1_ (hφ1 _ _ h6) rfl rfl u_0 (.cons u_1 .nil)) <| o_n) (by kernel_rfl) (fun a g hst hb => ?_)
       refine wp_cond_split (hst.bool 6 rfl) (fun hc7 => ?_) (fun hc7 => ?_)
       · replace H1 := Zy hc7 H1
         refine r_s (L := [(5, _)]) (T := [⟨[.old 0], _, [], [], [17]⟩, ⟨[.op 0 0], _, [], [0], [4]⟩]) (F := [.op 1 0]) (hst.pick [2] rfl) hb Zb
           (o_p rfl (Za rfl rfl u_0) <| o_p rfl (Zc rfl rfl u_0) <| o_n) (by kernel_rfl) (fun a g hst hb => ?_)
         refine wp_ret ?_
         refine Zw ?_
         refine Zp ?_
         refine Zp ?_
         refine Zw ?_
         refine Zp ?_
         refine Zp ?_
         obtain rfl := Option.some.inj H1
         obtain rfl := Option.some.inj H0
         exact Zx rfl hst hb (Zk (s := 4)) (hst.at 0 rfl)
       · replace H1 := Zz hc7 H1
         refine wp_skip ?_
         refine Zbu ?_
         refine Zv ?_
         refine r_g (L := [(0, _), (1, _), (6, _), (7, _), (8, _)]) (T := [⟨[.old 4], _, [], [], [18]⟩, ⟨[.op 0 0], _, [], [0], [8]⟩]) (F := [.old 0, .old 1, .old 2, .old 3, .op 1 0]) (hst.pick [0, 1, 3, 4, 5] rfl) hb Zb
           (o_p rfl (Zcd rfl rfl u_0 c_i rfl) <| o_p rfl (Za rfl rfl u_0) <| o_n) (by kernel_rfl) (fun a g hst hb => ?_)
         exact ⟨n, Nat.lt_succ_self _, (IntKind.i64.wrap (x1 + (1 : Int))), g, rfl, (hst.pick [0, 1, 2, 3, 4] rfl), hb, H1⟩
     · replace H1 := Zz hc2 H1
       refine wp_exit ?_
       refine Zb5 ?_
       refine Zb5 ?_
       refine Zct ?_
       exact ⟨g, rfl, (hst.pick [] rfl), hb, Option.some.inj H1⟩
theorem Zj0 (f1 : Nat) (C1 : List Pd) (hC1 : Free C1) (e1_ : Zl Tryz.prog f1) (φ1 : Zm → Option Bool) (hφ1 : ∀ (y0 : Zm) (r : Bool), φ1 y0 = some r → FnOk Tryz.prog f1 ([(Z2.pd y0)] ++ C1) (Zba r)) (a0 : List Zm) {r : Bool} (h : Zdz a0 φ1 = some r) : FnOk Tryz.prog 43 [(Z2.sl.pd a0), (pClo f1 C1 hC1)] (Zba r) := by
 have H0 := h
 unfold Zdz at H0
 clear h
 refine Zbr (N := 9) Tryz.func43 rfl rfl (Nat.le_of_ble_eq_true rfl) rfl rfl (fun a g0 hst hb => ?_)
 refine r_s (T := [⟨[], _, [], [], [4]⟩]) (F := [.old 0, .old 1]) hst hb Zb
   (o_p rfl (Zc rfl rfl c_b) <| o_n) (by kernel_rfl) (fun a g hst hb => ?_)
 obtain ⟨r1, h2, H0⟩ := Zg H0
 refine r_s (T := [⟨[.old 0], _, [], [], [5]⟩, ⟨[.old 1], _, [], [], [6]⟩, ⟨[.op 0 0, .op 1 0], _, [], [0, 1], [7]⟩, ⟨[.op 2 0], _, [], [0, 1, 2], [8]⟩, ⟨[.op 3 0], _, [], Lr 4, [4]⟩]) (F := [.op 4 0]) hst hb Zb
   (o_p rfl (Za rfl rfl u_0) <| o_p rfl (Za rfl rfl u_0) <| o_p rfl (Zo Zbau (Zkk f1 C1 hC1 e1_ φ1 hφ1 _ h2) rfl rfl (.cons u_0 (.cons u_1 .nil))) <| o_p rfl (Zrb rfl rfl u_0 c_i) <| o_p rfl (Zc rfl rfl u_0) <| o_n) (by kernel_rfl) (fun a g hst hb => ?_)
 refine wp_ret ?_
 obtain rfl := Option.some.inj H0
 exact Zx rfl hst hb (Zk (s := 4)) (hst.at 0 rfl)
theorem Zs9 (a0 : Zm) {r : Bool} (h : Zhi a0 = some r) : FnOk Tryz.prog 44 [(Z2.pd a0)] (Zba r) := by
 have H0 := h
 unfold Zhi at H0
 clear h
 refine Zbr (N := 11) Tryz.func44 rfl rfl (Nat.le_of_ble_eq_true rfl) rfl rfl (fun a g0 hst hb => ?_)
 refine r_s (T := [⟨[.old 0], _, [], [], [1]⟩, ⟨[], _, [], [], [2]⟩]) (F := [.op 0 0]) hst hb Zb
   (o_p rfl (Zbh rfl rfl u_0) <| o_p rfl (Zc rfl rfl c_b) <| o_n) (by kernel_rfl) (fun a g hst hb => ?_)
 refine r_s (T := [⟨[.old 0], _, [], [], [3]⟩, ⟨[.op 0 0], _, [], [0], [4]⟩, ⟨[.op 1 0], _, [], [0, 1], [5]⟩, ⟨[.op 2 0], _, [], [0, 1, 2], [6]⟩, ⟨[.op 3 0, .old 0], _, [], Lr 4, [7]⟩, ⟨[.op 3 0, .op 4 0], _, [], Lr 5, [8]⟩, ⟨[.op 3 0, .op 5 0], _, [], Lr 6, [9]⟩, ⟨[.op 3 0, .op 6 0], _, [], Lr 7, [10]⟩, ⟨[.op 7 0], _, [], Lr 8, [2]⟩]) (F := [.op 8 0]) hst hb Zb
   (o_p rfl (Ze Zeu rfl rfl u_0) <| o_p rfl (Zf ty_3 rfl rfl u_0) <| o_p rfl (Zbj rfl rfl u_0 c_i) <| o_p rfl (Za rfl rfl u_0) <| o_g (g_f rfl rfl rfl (fun hG => Ze Zeu rfl rfl u_0)) <| o_g (g_f rfl rfl rfl (fun hG => Zf ty_3 rfl rfl (Opd.gd hG u_0))) <| o_g (g_f rfl rfl rfl (fun hG => Zbj rfl rfl (Opd.gd hG u_0) c_i)) <| o_p rfl (Zbi rfl rfl u_0 (fun hz => (Opd.gd (bNF hz) u_1))) <| o_p rfl (Zc rfl rfl u_0) <| o_n) (by kernel_rfl) (fun a g hst hb => ?_)
 refine wp_ret ?_
 obtain rfl := Option.some.inj H0
 exact Zx rfl hst hb (Zk (s := 2)) (hst.at 0 rfl)
theorem Zos (a0 : Zbk) {r : Bool} (h : Zjt a0 = some r) : FnOk Tryz.prog 21 [(Zcf.pd a0)] (Zba r) := by
 have H0 := h
 unfold Zjt at H0
 clear h
 refine Zbr (N := 6) Tryz.func21 rfl rfl (Nat.le_of_ble_eq_true rfl) rfl rfl (fun a g0 hst hb => ?_)
 refine r_s (T := [⟨[.old 0], _, [], [], [1]⟩, ⟨[], _, [], [], [2]⟩]) (F := [.op 0 0]) hst hb Zb
   (o_p rfl (Zbh rfl rfl u_0) <| o_p rfl (Zc rfl rfl c_b) <| o_n) (by kernel_rfl) (fun a g hst hb => ?_)
 obtain ⟨r1, h2, H0⟩ := Zg H0
 refine r_s (T := [⟨[.old 0], _, [], [], [3]⟩, ⟨[.op 0 0], _, [], [0], [4]⟩, ⟨[.op 1 0], _, [], [0, 1], [5]⟩, ⟨[.op 2 0], _, [], [0, 1, 2], [2]⟩]) (F := [.op 3 0]) hst hb Zb
   (o_p rfl (Ze Zhd rfl rfl u_0) <| o_p rfl (Zf Zj4 rfl rfl u_0) <| o_p rfl (Zo Zbax (Zj0 44 [] rfl Zbal (fun y0 => Zhi y0) (fun y0 r h => Zs9 y0 h) _ h2) rfl rfl (.cons u_0 (.cons Opd.fnc .nil))) <| o_p rfl (Zc rfl rfl u_0) <| o_n) (by kernel_rfl) (fun a g hst hb => ?_)
 refine wp_ret ?_
 obtain rfl := Option.some.inj H0
 exact Zx rfl hst hb (Zk (s := 2)) (hst.at 0 rfl)
theorem Zs2 (a0 : Zbk) (a1 : Zbk) {r : Bool} (h : Zjo a0 a1 = some r) : FnOk Tryz.prog 7 [(Zcf.pd a0), (Zcf.pd a1)] (Zba r) := by
 have H0 := h
 unfold Zjo at H0
 clear h
 refine Zbr (N := 19) Tryz.func7 rfl rfl (Nat.le_of_ble_eq_true rfl) rfl rfl (fun a g0 hst hb => ?_)
 refine r_s (T := [⟨[.old 0], _, [], [], [2]⟩, ⟨[.old 1], _, [], [], [3]⟩, ⟨[], _, [], [], [4]⟩]) (F := [.op 0 0, .op 1 0]) hst hb Zb
   (o_p rfl (Zbh rfl rfl u_0) <| o_p rfl (Zbh rfl rfl u_0) <| o_p rfl (Zc rfl rfl c_b) <| o_n) (by kernel_rfl) (fun a g hst hb => ?_)
 obtain ⟨r1, h2, H0⟩ := Zg H0; obtain ⟨r3, h4, H0⟩ := Zg H0; obtain ⟨r5, h6, H0⟩ := Zg H0
 refine r_s (T := ⟨[.old 0], _, [], [], [5]⟩ :: ⟨[.op 0 0], _, [], [0], [6]⟩ :: ⟨[.old 1], _, [], [], [7]⟩ :: ⟨[.op 2 0], _, [], [2], [8]⟩ :: ⟨[.op 1 0, .op 3 0], _, [], Lr 4, [9]⟩ :: ⟨[.op 4 0], _, [], Lr 5, [10]⟩ :: ⟨[.op 5 0], _, [], Lr 6, [11]⟩ :: ⟨[.op 6 0, .old 0], _, [], Lr 7, [12]⟩ :: ⟨[.op 6 0, .op 7 0], _, [], Lr 8, [13]⟩ :: ⟨[.op 6 0, .op 8 0], _, [], Lr 9, [14]⟩ :: ⟨[.op 9 0, .old 1], _, [], Lr 10, [15]⟩ :: ⟨[.op 9 0, .op 10 0], _, [], Lr 11, [16]⟩ :: ⟨[.op 6 0, .op 9 0, .op 11 0], _, [], Lr 12, [17]⟩ :: ⟨[.op 6 0, .op 12 0], _, [], Lr 13, [18]⟩ :: ⟨[.op 13 0], _, [], Lr 14, [4]⟩ :: []) (F := [.op 14 0]) hst hb Zb
   (o_p rfl (Ze Zhd rfl rfl u_0) <| o_p rfl (Zf Zj4 rfl rfl u_0) <| o_p rfl (Ze Zhd rfl rfl u_0) <| o_p rfl (Zf Zj4 rfl rfl u_0) <| o_p rfl (Zo Zbba (Zyc _ _ h2) rfl rfl (.cons u_0 (.cons u_1 .nil))) <| o_p rfl (Zcr rfl rfl u_0) <| o_p rfl (Za rfl rfl u_0) <| o_g (g_f rfl rfl rfl (fun hG => Zf Zht rfl rfl u_0)) <| o_g (g_f rfl rfl rfl (fun hG => Zo Z56 (Zos _ (Zbb h4 hG)) rfl rfl (.cons (Opd.gd hG u_0) .nil))) <| o_g (g_f rfl rfl rfl (fun hG => Za rfl rfl (Opd.gd hG u_0))) <| o_g (g_ti rfl rfl rfl (fun hG => Zf Zht rfl rfl u_0)) <| o_g (g_ti rfl rfl rfl (fun hG => Zo Z56 (Zos _ (Zbb h6 hG)) rfl rfl (.cons (Opd.gd hG u_0) .nil))) <| o_g (g_f rfl rfl rfl (fun hG => Zbf rfl rfl (Opd.gd hG u_0) (fun hz => (Opd.gd (bA hG hz) u_1)))) <| o_p rfl (Zbi rfl rfl u_0 (fun hz => (Opd.gd (bNF hz) u_1))) <| o_p rfl (Zc rfl rfl u_0) <| o_n) (by kernel_rfl) (fun a g hst hb => ?_)
 refine wp_ret ?_
 obtain rfl := Option.some.inj H0
 exact Zx rfl hst hb (Zk (s := 4)) (hst.at 0 rfl)
theorem Zlx (a0 : Int) {r : Bool} (h : Zhk a0 = some r) : FnOk Tryz.prog 100 [(pInt .i64 a0)] (Zba r) := by
 have H0 := h
 unfold Zhk at H0
 clear h
 refine Zbr (N := 21) Tryz.func100 rfl rfl (Nat.le_of_ble_eq_true rfl) rfl rfl (fun a g0 hst hb => ?_)
 refine r_s (T := [⟨[], _, [], [], [2]⟩]) (F := [.old 0]) hst hb Zb
   (o_p rfl (Zc rfl rfl c_b) <| o_n) (by kernel_rfl) (fun a g hst hb => ?_)
 refine r_s (T := ⟨[.old 0], _, [], [], [3]⟩ :: ⟨[.op 0 0], _, [], [0], [4]⟩ :: ⟨[.op 1 0], _, [], [0, 1], [5]⟩ :: ⟨[.op 2 0, .old 0], _, [], [0, 1, 2], [6]⟩ :: ⟨[.op 2 0, .op 3 0], _, [], Lr 4, [7]⟩ :: ⟨[.op 2 0, .op 4 0], _, [], Lr 5, [8]⟩ :: ⟨[.op 5 0], _, [], Lr 6, [9]⟩ :: ⟨[.op 6 0, .old 0], _, [], Lr 7, [10]⟩ :: ⟨[.op 6 0, .op 7 0], _, [], Lr 8, [11]⟩ :: ⟨[.op 6 0, .op 8 0], _, [], Lr 9, [12]⟩ :: ⟨[.op 9 0], _, [], Lr 10, [13]⟩ :: ⟨[.op 10 0, .old 0], _, [], Lr 11, [14]⟩ :: ⟨[.op 10 0, .op 11 0], _, [], Lr 12, [15]⟩ :: ⟨[.op 10 0, .op 12 0], _, [], Lr 13, [16]⟩ :: ⟨[.op 13 0], _, [], Lr 14, [17]⟩ :: ⟨[.op 14 0, .old 0], _, [], Lr 15, [18]⟩ :: ⟨[.op 14 0, .op 15 0], _, [], Lr 16, [19]⟩ :: ⟨[.op 14 0, .op 16 0], _, [], Lr 17, [20]⟩ :: ⟨[.op 17 0], _, [], Lr 18, [2]⟩ :: []) (F := [.op 18 0]) hst hb Zb
   (o_p rfl (Za rfl rfl u_0) <| o_p rfl (Zbj rfl rfl u_0 c_i) <| o_p rfl (Za rfl rfl u_0) <| o_g (g_f rfl rfl rfl (fun hG => Za rfl rfl u_0)) <| o_g (g_f rfl rfl rfl (fun hG => Zbj rfl rfl (Opd.gd hG u_0) c_i)) <| o_p rfl (Zbi rfl rfl u_0 (fun hz => (Opd.gd (bNF hz) u_1))) <| o_p rfl (Za rfl rfl u_0) <| o_g (g_f rfl rfl rfl (fun hG => Za rfl rfl u_0)) <| o_g (g_f rfl rfl rfl (fun hG => Zbj rfl rfl (Opd.gd hG u_0) c_i)) <| o_p rfl (Zbi rfl rfl u_0 (fun hz => (Opd.gd (bNF hz) u_1))) <| o_p rfl (Za rfl rfl u_0) <| o_g (g_f rfl rfl rfl (fun hG => Za rfl rfl u_0)) <| o_g (g_f rfl rfl rfl (fun hG => Zbj rfl rfl (Opd.gd hG u_0) c_i)) <| o_p rfl (Zbi rfl rfl u_0 (fun hz => (Opd.gd (bNF hz) u_1))) <| o_p rfl (Za rfl rfl u_0) <| o_g (g_f rfl rfl rfl (fun hG => Za rfl rfl u_0)) <| o_g (g_f rfl rfl rfl (fun hG => Zbj rfl rfl (Opd.gd hG u_0) c_i)) <| o_p rfl (Zbi rfl rfl u_0 (fun hz => (Opd.gd (bNF hz) u_1))) <| o_p rfl (Zc rfl rfl u_0) <| o_n) (by kernel_rfl) (fun a g hst hb => ?_)
 refine wp_ret ?_
 obtain rfl := Option.some.inj H0
 exact Zx rfl hst hb (Zk (s := 2)) (hst.at 0 rfl)
theorem Znb (a0 : Int) {r : Int} (h : Ze6 a0 = some r) : FnOk Tryz.prog 101 [(pInt .i64 a0)] (pInt .i64 r) := by
 have H0 := h
 unfold Ze6 at H0
 clear h
 refine Zbr (N := 15) Tryz.func101 rfl rfl (Nat.le_of_ble_eq_true rfl) rfl rfl (fun a g0 hst hb => ?_)
 refine r_s (T := [⟨[], _, [], [], [2]⟩]) (F := [.old 0]) hst hb Zb
   (o_p rfl (Zc rfl rfl c_i) <| o_n) (by kernel_rfl) (fun a g hst hb => ?_)
 refine r_s (T := [⟨[], _, [], [], [4]⟩, ⟨[.op 0 0], _, [], [0], [3]⟩]) (F := [.old 0, .op 1 0]) hst hb Zb
   (o_p rfl (Zi2 Z8r (xs := [.const (.int .i64 0), .const (.int .i64 0), .const (.int .i64 0), .const (.int .i64 0), .const (.int .i64 0), .const (.int .i64 1), .const (.int .i64 1), .const (.int .i64 2), .const (.int .i64 3), .const (.int .i64 3), .const (.int .i64 4), .const (.int .i64 4), .const (.int .i64 4), .const (.int .i64 5), .const (.int .i64 6), .const (.int .i64 7), .const (.int .i64 7), .const (.int .i64 7), .const (.int .i64 8), .const (.int .i64 8), .const (.int .i64 8), .const (.int .i64 9)]) (.cons c_i (.cons c_i (.cons c_i (.cons c_i (.cons c_i (.cons c_i (.cons c_i (.cons c_i (.cons c_i (.cons c_i (.cons c_i (.cons c_i (.cons c_i (.cons c_i (.cons c_i (.cons c_i (.cons c_i (.cons c_i (.cons c_i (.cons c_i (.cons c_i (.cons c_i .nil)))))))))))))))))))))) (by decide) rfl rfl) <| o_p rfl (Zc rfl rfl u_0) <| o_n) (by kernel_rfl) (fun a g hst hb => ?_)
 refine wp_seq ?_
 refine r_s (T := [⟨[.old 0], _, [], [], [5]⟩, ⟨[.op 0 0], _, [], [0], [6]⟩, ⟨[.op 1 0], _, [], [0, 1], [7]⟩, ⟨[.op 2 0, .old 0], _, [], [0, 1, 2], [8]⟩, ⟨[.op 2 0, .op 3 0], _, [], Lr 4, [9]⟩, ⟨[.op 2 0, .op 4 0], _, [], Lr 5, [10]⟩]) (F := [.old 0, .old 1, .op 5 0]) hst hb Zb
   (o_p rfl (Za rfl rfl u_0) <| o_p rfl (Zco rfl rfl u_0 c_i) <| o_p rfl (Za rfl rfl u_0) <| o_g (g_f rfl rfl rfl (fun hG => Za rfl rfl u_0)) <| o_g (g_f rfl rfl rfl (fun hG => Zci rfl rfl (Opd.gd hG u_0) c_i)) <| o_p rfl (Zbi rfl rfl u_0 (fun hz => (Opd.gd (bNF hz) u_1))) <| o_n) (by kernel_rfl) (fun a g hst hb => ?_)
 refine wp_cond_split (hst.bool 2 rfl) (fun hc1 => ?_) (fun hc1 => ?_)
 · replace H0 := Zy hc1 H0
   refine r_s (L := []) (T := [⟨[], _, [], [], [2]⟩]) (F := [.op 0 0]) (hst.pick [] rfl) hb Zb
     (o_p rfl (Zc rfl rfl c_i) <| o_n) (by kernel_rfl) (fun a g hst hb => ?_)
   refine wp_ret ?_
   refine Zp ?_
   obtain rfl := Option.some.inj H0
   exact Zx rfl hst hb (Zk (s := 2)) (hst.at 0 rfl)
 · replace H0 := Zz hc1 H0
   refine wp_skip ?_
   refine Zv ?_
   obtain ⟨e2, h3, H0⟩ := Zg H0
   refine r_s (L := [(0, _), (3, _)]) (T := [⟨[.old 1], _, [], [], [11]⟩, ⟨[.old 0], _, [], [], [12]⟩, ⟨[.op 0 0, .op 1 0], _, [], [0, 1], [13]⟩, ⟨[.op 2 0], _, [], [0, 1, 2], [14]⟩, ⟨[.op 3 0], _, [], Lr 4, [2]⟩]) (F := [.op 4 0]) (hst.pick [0, 1] rfl) hb Zb
     (o_p rfl (Za rfl rfl u_0) <| o_p rfl (Za rfl rfl u_0) <| o_p rfl (Zbp Tryz.underlying150 sz_3 rfl rfl u_0 u_1 h3) <| o_p rfl (Zf ty_3 rfl rfl u_0) <| o_p rfl (Zc rfl rfl u_0) <| o_n) (by kernel_rfl) (fun a g hst hb => ?_)
   refine wp_ret ?_
   obtain rfl := Option.some.inj H0
   exact Zx rfl hst hb (Zk (s := 2)) (hst.at 0 rfl)
theorem Zpu (a0 : Int) (a1 : Int) {r : Bool} (h : Zf5 a0 a1 = some r) : FnOk Tryz.prog 67 [(pInt .i64 a0), (pInt .i64 a1)] (Zba r) := by
 have H0 := h
 unfold Zf5 at H0
 clear h
 refine Zbr (N := 65) Tryz.func67 rfl rfl (Nat.le_of_ble_eq_true rfl) rfl rfl (fun a g0 hst hb => ?_)
 refine r_s (T := [⟨[], _, [], [], [4]⟩]) (F := [.old 0, .old 1]) hst hb Zb
   (o_p rfl (Zc rfl rfl c_b) <| o_n) (by kernel_rfl) (fun a g hst hb => ?_)
 refine wp_seq ?_
 refine r_s (T := ⟨[.old 0], _, [], [], [5]⟩ :: ⟨[.op 0 0], _, [], [0], [6]⟩ :: ⟨[.op 1 0], _, [], [0, 1], [7]⟩ :: ⟨[.op 2 0, .old 0], _, [], [0, 1, 2], [8]⟩ :: ⟨[.op 2 0, .op 3 0], _, [], Lr 4, [9]⟩ :: ⟨[.op 2 0, .op 4 0], _, [], Lr 5, [10]⟩ :: ⟨[.op 5 0], _, [], Lr 6, [11]⟩ :: ⟨[.op 6 0, .old 1], _, [], Lr 7, [12]⟩ :: ⟨[.op 6 0, .op 7 0], _, [], Lr 8, [13]⟩ :: ⟨[.op 6 0, .op 8 0], _, [], Lr 9, [14]⟩ :: ⟨[.op 9 0], _, [], Lr 10, [15]⟩ :: ⟨[.op 10 0, .old 1], _, [], Lr 11, [16]⟩ :: ⟨[.op 10 0, .op 11 0], _, [], Lr 12, [17]⟩ :: ⟨[.op 10 0, .op 12 0], _, [], Lr 13, [18]⟩ :: []) (F := [.old 0, .old 1, .op 13 0]) hst hb Zb
   (o_p rfl (Za rfl rfl u_0) <| o_p rfl (Zco rfl rfl u_0 c_i) <| o_p rfl (Za rfl rfl u_0) <| o_g (g_f rfl rfl rfl (fun hG => Za rfl rfl u_0)) <| o_g (g_f rfl rfl rfl (fun hG => Zci rfl rfl (Opd.gd hG u_0) c_i)) <| o_p rfl (Zbi rfl rfl u_0 (fun hz => (Opd.gd (bNF hz) u_1))) <| o_p rfl (Za rfl rfl u_0) <| o_g (g_f rfl rfl rfl (fun hG => Za rfl rfl u_0)) <| o_g (g_f rfl rfl rfl (fun hG => Zco rfl rfl (Opd.gd hG u_0) c_i)) <| o_p rfl (Zbi rfl rfl u_0 (fun hz => (Opd.gd (bNF hz) u_1))) <| o_p rfl (Za rfl rfl u_0) <| o_g (g_f rfl rfl rfl (fun hG => Za rfl rfl u_0)) <| o_g (g_f rfl rfl rfl (fun hG => Zci rfl rfl (Opd.gd hG u_0) c_i)) <| o_p rfl (Zbi rfl rfl u_0 (fun hz => (Opd.gd (bNF hz) u_1))) <| o_n) (by kernel_rfl) (fun a g hst hb => ?_)
 refine wp_cond_split (hst.bool 2 rfl) (fun hc1 => ?_) (fun hc1 => ?_)
 · replace H0 := Zy hc1 H0
   refine r_s (L := []) (T := [⟨[], _, [], [], [4]⟩]) (F := [.op 0 0]) (hst.pick [] rfl) hb Zb
     (o_p rfl (Zc rfl rfl c_b) <| o_n) (by kernel_rfl) (fun a g hst hb => ?_)
   refine wp_ret ?_
   refine Zp ?_
   obtain rfl := Option.some.inj H0
   exact Zx rfl hst hb (Zk (s := 4)) (hst.at 0 rfl)
 · replace H0 := Zz hc1 H0
   refine wp_skip ?_
   refine Zv ?_
   refine wp_seq ?_
   obtain ⟨r2, h3, H0⟩ := Zg H0; obtain ⟨r4, h5, H0⟩ := Zg H0
   refine r_s (L := [(0, _), (1, _)]) (T := [⟨[.old 0], _, [], [], [19]⟩, ⟨[.op 0 0], _, [], [0], [20]⟩, ⟨[.op 1 0], _, [], [0, 1], [21]⟩, ⟨[.op 2 0, .old 1], _, [], [0, 1, 2], [22]⟩, ⟨[.op 2 0, .op 3 0], _, [], Lr 4, [23]⟩, ⟨[.op 2 0, .op 4 0], _, [], Lr 5, [24]⟩]) (F := [.old 0, .old 1, .op 5 0]) (hst.pick [0, 1] rfl) hb Zb
     (o_p rfl (Za rfl rfl u_0) <| o_p rfl (Zo Z3c (Zlx _ h3) rfl rfl (.cons u_0 .nil)) <| o_p rfl (Za rfl rfl u_0) <| o_g (g_t rfl rfl rfl (fun hG => Za rfl rfl u_0)) <| o_g (g_t rfl rfl rfl (fun hG => Zo Z3c (Zlx _ (Zbb h5 hG)) rfl rfl (.cons (Opd.gd hG u_0) .nil))) <| o_p rfl (Zbf rfl rfl u_0 (fun hz => (Opd.gd hz u_1))) <| o_n) (by kernel_rfl) (fun a g hst hb => ?_)
   refine wp_cond_split (hst.bool 2 rfl) (fun hc6 => ?_) (fun hc6 => ?_)
   · replace H0 := Zy hc6 H0
     refine r_s (L := []) (T := [⟨[], _, [], [], [4]⟩]) (F := [.op 0 0]) (hst.pick [] rfl) hb Zb
       (o_p rfl (Zc rfl rfl c_b) <| o_n) (by kernel_rfl) (fun a g hst hb => ?_)
     refine wp_ret ?_
     refine Zp ?_
     obtain rfl := Option.some.inj H0
     exact Zx rfl hst hb (Zk (s := 4)) (hst.at 0 rfl)
   · replace H0 := Zz hc6 H0
     refine wp_skip ?_
     refine Zv ?_
     refine wp_seq ?_
     refine r_s (L := [(0, _), (1, _)]) (T := [⟨[.old 0], _, [], [], [25]⟩, ⟨[.op 0 0], _, [], [0], [26]⟩, ⟨[.op 1 0], _, [], [0, 1], [27]⟩, ⟨[.op 2 0, .old 1], _, [], [0, 1, 2], [28]⟩, ⟨[.op 2 0, .op 3 0], _, [], Lr 4, [29]⟩, ⟨[.op 2 0, .op 4 0], _, [], Lr 5, [30]⟩]) (F := [.old 0, .old 1, .op 5 0]) (hst.pick [0, 1] rfl) hb Zb
       (o_p rfl (Za rfl rfl u_0) <| o_p rfl (Zbj rfl rfl u_0 c_i) <| o_p rfl (Za rfl rfl u_0) <| o_g (g_f rfl rfl rfl (fun hG => Za rfl rfl u_0)) <| o_g (g_f rfl rfl rfl (fun hG => Zbj rfl rfl (Opd.gd hG u_0) c_i)) <| o_p rfl (Zbi rfl rfl u_0 (fun hz => (Opd.gd (bNF hz) u_1))) <| o_n) (by kernel_rfl) (fun a g hst hb => ?_)
     refine wp_cond_split (hst.bool 2 rfl) (fun hc7 => ?_) (fun hc7 => ?_)
     · replace H0 := Zy hc7 H0
       refine r_s (L := []) (T := [⟨[], _, [], [], [4]⟩]) (F := [.op 0 0]) (hst.pick [] rfl) hb Zb
         (o_p rfl (Zc rfl rfl c_b) <| o_n) (by kernel_rfl) (fun a g hst hb => ?_)
       refine wp_ret ?_
       refine Zp ?_
       obtain rfl := Option.some.inj H0
       exact Zx rfl hst hb (Zk (s := 4)) (hst.at 0 rfl)
     · replace H0 := Zz hc7 H0
       refine wp_skip ?_
       refine Zv ?_
       refine wp_seq ?_
       refine r_s (L := [(0, _), (1, _)]) (T := [⟨[.old 0], _, [], [], [31]⟩, ⟨[.op 0 0], _, [], [0], [32]⟩, ⟨[.op 1 0], _, [], [0, 1], [33]⟩, ⟨[.op 2 0, .old 1], _, [], [0, 1, 2], [34]⟩, ⟨[.op 2 0, .op 3 0], _, [], Lr 4, [35]⟩, ⟨[.op 2 0, .op 4 0], _, [], Lr 5, [36]⟩]) (F := [.old 0, .old 1, .op 5 0]) (hst.pick [0, 1] rfl) hb Zb
         (o_p rfl (Za rfl rfl u_0) <| o_p rfl (Zbj rfl rfl u_0 c_i) <| o_p rfl (Za rfl rfl u_0) <| o_g (g_f rfl rfl rfl (fun hG => Za rfl rfl u_0)) <| o_g (g_f rfl rfl rfl (fun hG => Zbj rfl rfl (Opd.gd hG u_0) c_i)) <| o_p rfl (Zbi rfl rfl u_0 (fun hz => (Opd.gd (bNF hz) u_1))) <| o_n) (by kernel_rfl) (fun a g hst hb => ?_)
       refine wp_cond_split (hst.bool 2 rfl) (fun hc8 => ?_) (fun hc8 => ?_)
       · replace H0 := Zy hc8 H0
         refine r_s (L := []) (T := [⟨[], _, [], [], [4]⟩]) (F := [.op 0 0]) (hst.pick [] rfl) hb Zb
           (o_p rfl (Zc rfl rfl c_b) <| o_n) (by kernel_rfl) (fun a g hst hb => ?_)
         refine wp_ret ?_
         refine Zp ?_
         obtain rfl := Option.some.inj H0
         exact Zx rfl hst hb (Zk (s := 4)) (hst.at 0 rfl)
       · replace H0 := Zz hc8 H0
         refine wp_skip ?_
         refine Zv ?_
         refine wp_seq ?_
         obtain ⟨r9, h10, H0⟩ := Zg H0; obtain ⟨r11, h12, H0⟩ := Zg H0
         refine r_s (L := [(0, _), (1, _)]) (T := [⟨[.old 0], _, [], [], [37]⟩, ⟨[.op 0 0], _, [], [0], [38]⟩, ⟨[.old 1], _, [], [], [39]⟩, ⟨[.op 2 0], _, [], [0, 1, 2], [40]⟩, ⟨[.op 1 0, .op 3 0], _, [], Lr 4, [41]⟩]) (F := [.old 0, .old 1, .op 4 0]) (hst.pick [0, 1] rfl) hb Zb
           (o_p rfl (Za rfl rfl u_0) <| o_p rfl (Zo Z2i (Znb _ h10) rfl rfl (.cons u_0 .nil)) <| o_p rfl (Za rfl rfl u_0) <| o_p rfl (Zo Z2i (Znb _ h12) rfl rfl (.cons u_0 .nil)) <| o_p rfl (Zf2 rfl rfl u_0 u_1) <| o_n) (by kernel_rfl) (fun a g hst hb => ?_)
         refine wp_cond_split (hst.bool 2 rfl) (fun hc13 => ?_) (fun hc13 => ?_)
         · replace H0 := Zy hc13 H0
           refine r_s (L := []) (T := [⟨[], _, [], [], [4]⟩]) (F := [.op 0 0]) (hst.pick [] rfl) hb Zb
             (o_p rfl (Zc rfl rfl c_b) <| o_n) (by kernel_rfl) (fun a g hst hb => ?_)
           refine wp_ret ?_
           refine Zp ?_
           obtain rfl := Option.some.inj H0
           exact Zx rfl hst hb (Zk (s := 4)) (hst.at 0 rfl)
         · replace H0 := Zz hc13 H0
           refine wp_skip ?_
           refine Zv ?_
           refine r_s (L := [(0, _), (1, _)]) (T := ⟨[.old 0], _, [], [], [42]⟩ :: ⟨[.old 1], _, [], [], [43]⟩ :: ⟨[.op 0 0, .op 1 0], _, [], [0, 1], [44]⟩ :: ⟨[.op 2 0], _, [], [0, 1, 2], [45]⟩ :: ⟨[.op 3 0, .old 0], _, [], Lr 4, [46]⟩ :: ⟨[.op 3 0, .op 4 0], _, [], Lr 5, [47]⟩ :: ⟨[.op 3 0, .op 5 0], _, [], Lr 6, [48]⟩ :: ⟨[.op 6 0, .old 0], _, [], Lr 7, [49]⟩ :: ⟨[.op 6 0, .op 7 0], _, [], Lr 8, [50]⟩ :: ⟨[.op 3 0, .op 6 0, .op 8 0], _, [], Lr 9, [51]⟩ :: ⟨[.op 3 0, .op 9 0], _, [], Lr 10, [52]⟩ :: ⟨[.op 10 0, .old 0], _, [], Lr 11, [53]⟩ :: ⟨[.op 10 0, .op 11 0], _, [], Lr 12, [54]⟩ :: ⟨[.op 3 0, .op 10 0, .op 12 0], _, [], Lr 13, [55]⟩ :: ⟨[.op 3 0, .op 13 0], _, [], Lr 14, [56]⟩ :: ⟨[.op 14 0, .old 0], _, [], Lr 15, [57]⟩ :: ⟨[.op 14 0, .op 15 0], _, [], Lr 16, [58]⟩ :: ⟨[.op 3 0, .op 14 0, .op 16 0], _, [], Lr 17, [59]⟩ :: ⟨[.op 3 0, .op 17 0], _, [], Lr 18, [60]⟩ :: ⟨[.op 18 0, .old 0], _, [], Lr 19, [61]⟩ :: ⟨[.op 18 0, .op 19 0], _, [], Lr 20, [62]⟩ :: ⟨[.op 3 0, .op 18 0, .op 20 0], _, [], Lr 21, [63]⟩ :: ⟨[.op 3 0, .op 21 0], _, [], Lr 22, [64]⟩ :: ⟨[.op 22 0], _, [], Lr 23, [4]⟩ :: []) (F := [.op 23 0]) (hst.pick [0, 1] rfl) hb Zb
             (o_p rfl (Za rfl rfl u_0) <| o_p rfl (Za rfl rfl u_0) <| o_p rfl (Zbj rfl rfl u_0 u_1) <| o_p rfl (Za rfl rfl u_0) <| o_g (g_t rfl rfl rfl (fun hG => Za rfl rfl u_0)) <| o_g (g_t rfl rfl rfl (fun hG => Zbj rfl rfl (Opd.gd hG u_0) c_i)) <| o_g (g_t rfl rfl rfl (fun hG => Za rfl rfl (Opd.gd hG u_0))) <| o_g (g_fi rfl rfl rfl (fun hG => Za rfl rfl u_0)) <| o_g (g_fi rfl rfl rfl (fun hG => Zbj rfl rfl (Opd.gd hG u_0) c_i)) <| o_g (g_t rfl rfl rfl (fun hG => Zbi rfl rfl (Opd.gd hG u_0) (fun hz => (Opd.gd (bA hG (bNF hz)) u_1)))) <| o_g (g_t rfl rfl rfl (fun hG => Za rfl rfl (Opd.gd hG u_0))) <| o_g (g_fi rfl rfl rfl (fun hG => Za rfl rfl u_0)) <| o_g (g_fi rfl rfl rfl (fun hG => Zbj rfl rfl (Opd.gd hG u_0) c_i)) <| o_g (g_t rfl rfl rfl (fun hG => Zbi rfl rfl (Opd.gd hG u_0) (fun hz => (Opd.gd (bA hG (bNF hz)) u_1)))) <| o_g (g_t rfl rfl rfl (fun hG => Za rfl rfl (Opd.gd hG u_0))) <| o_g (g_fi rfl rfl rfl (fun hG => Za rfl rfl u_0)) <| o_g (g_fi rfl rfl rfl (fun hG => Zbj rfl rfl (Opd.gd hG u_0) c_i)) <| o_g (g_t rfl rfl rfl (fun hG => Zbi rfl rfl (Opd.gd hG u_0) (fun hz => (Opd.gd (bA hG (bNF hz)) u_1)))) <| o_g (g_t rfl rfl rfl (fun hG => Za rfl rfl (Opd.gd hG u_0))) <| o_g (g_fi rfl rfl rfl (fun hG => Za rfl rfl u_0)) <| o_g (g_fi rfl rfl rfl (fun hG => Zbj rfl rfl (Opd.gd hG u_0) c_i)) <| o_g (g_t rfl rfl rfl (fun hG => Zbi rfl rfl (Opd.gd hG u_0) (fun hz => (Opd.gd (bA hG (bNF hz)) u_1)))) <| o_p rfl (Zbf rfl rfl u_0 (fun hz => (Opd.gd hz u_1))) <| o_p rfl (Zc rfl rfl u_0) <| o_n) (by kernel_rfl) (fun a g hst hb => ?_)
           refine wp_ret ?_
           obtain rfl := Option.some.inj H0
           exact Zx rfl hst hb (Zk (s := 4)) (hst.at 0 rfl)
theorem Zol (a0 : Zm) (a1 : Zm) {r : Bool} (h : Zgg a0 a1 = some r) : FnOk Tryz.prog 45 [(Z2.pd a0), (Z2.pd a1)] (Zba r) := by
 have H0 := h
 unfold Zgg at H0
 clear h
 refine Zbr (N := 17) Tryz.func45 rfl rfl (Nat.le_of_ble_eq_true rfl) rfl rfl (fun a g0 hst hb => ?_)
 refine r_s (T := [⟨[.old 0], _, [], [], [2]⟩, ⟨[.old 1], _, [], [], [3]⟩, ⟨[], _, [], [], [4]⟩]) (F := [.op 0 0, .op 1 0]) hst hb Zb
   (o_p rfl (Zbh rfl rfl u_0) <| o_p rfl (Zbh rfl rfl u_0) <| o_p rfl (Zc rfl rfl c_b) <| o_n) (by kernel_rfl) (fun a g hst hb => ?_)
 obtain ⟨r1, h2, H0⟩ := Zg H0
 refine r_s (T := ⟨[.old 0], _, [], [], [5]⟩ :: ⟨[.op 0 0], _, [], [0], [6]⟩ :: ⟨[.old 1], _, [], [], [7]⟩ :: ⟨[.op 2 0], _, [], [2], [8]⟩ :: ⟨[.op 1 0, .op 3 0], _, [], Lr 4, [9]⟩ :: ⟨[.op 4 0], _, [], Lr 5, [10]⟩ :: ⟨[.op 5 0, .old 0], _, [], Lr 6, [11]⟩ :: ⟨[.op 5 0, .op 6 0], _, [], Lr 7, [12]⟩ :: ⟨[.op 5 0, .old 1], _, [], Lr 6, [13]⟩ :: ⟨[.op 5 0, .op 8 0], _, [], [0, 1, 2, 3, 4, 5, 8], [14]⟩ :: ⟨[.op 5 0, .op 7 0, .op 9 0], _, [], Lr 10, [15]⟩ :: ⟨[.op 5 0, .op 10 0], _, [], Lr 11, [16]⟩ :: ⟨[.op 11 0], _, [], Lr 12, [4]⟩ :: []) (F := [.op 12 0]) hst hb Zb
   (o_p rfl (Ze Zjx rfl rfl u_0) <| o_p rfl (Zf ty_9 rfl rfl u_0) <| o_p rfl (Ze Zjx rfl rfl u_0) <| o_p rfl (Zf ty_9 rfl rfl u_0) <| o_p rfl (Zt8 rfl rfl u_0 u_1) <| o_p rfl (Za rfl rfl u_0) <| o_g (g_f rfl rfl rfl (fun hG => Ze Zeu rfl rfl u_0)) <| o_g (g_f rfl rfl rfl (fun hG => Zf ty_3 rfl rfl (Opd.gd hG u_0))) <| o_g (g_f rfl rfl rfl (fun hG => Ze Zeu rfl rfl u_0)) <| o_g (g_f rfl rfl rfl (fun hG => Zf ty_3 rfl rfl (Opd.gd hG u_0))) <| o_g (g_f rfl rfl rfl (fun hG => Zo Zbbe (Zpu _ _ (Zbb h2 hG)) rfl rfl (.cons (Opd.gd hG u_0) (.cons (Opd.gd hG u_1) .nil)))) <| o_p rfl (Zbi rfl rfl u_0 (fun hz => (Opd.gd (bNF hz) u_1))) <| o_p rfl (Zc rfl rfl u_0) <| o_n) (by kernel_rfl) (fun a g hst hb => ?_)
 refine wp_ret ?_
 obtain rfl := Option.some.inj H0
 exact Zx rfl hst hb (Zk (s := 4)) (hst.at 0 rfl)
theorem Zp6 (a0 : List Zm) (a1 : List Zm) {r : Bool} (h : Zhz a0 a1 = some r) : FnOk Tryz.prog 22 [(Z2.sl.pd a0), (Z2.sl.pd a1)] (Zba r) := by
 have H0 := h
 unfold Zhz at H0
 clear h
 refine Zbr (N := 29) Tryz.func22 rfl rfl (Nat.le_of_ble_eq_true rfl) rfl rfl (fun a g0 hst hb => ?_)
 refine r_s (T := [⟨[], _, [], [], [4]⟩]) (F := [.old 0, .old 1]) hst hb Zb
   (o_p rfl (Zc rfl rfl c_b) <| o_n) (by kernel_rfl) (fun a g hst hb => ?_)
 refine wp_seq ?_
 refine r_s (T := [⟨[], _, [], [], [5]⟩]) (F := [.old 0, .old 1, .op 0 0]) hst hb Zb
   (o_p rfl (Zc rfl rfl c_i) <| o_n) (by kernel_rfl) (fun a g hst hb => ?_)
 obtain ⟨z13, hz1, H0⟩ := Zg H0
 refine Zcx (fun a w => ∃ (g : G), w = g.w ∧ St 29 [] a g ∧ Base g0 g ∧ (.inr ()) = z13) ?_ ?_
 · rintro a w ⟨g, rfl, hst, hb, rfl⟩
   refine Zv ?_
   refine r_s (T := [⟨[], _, [], [], [4]⟩]) (F := [.op 0 0]) hst hb Zb
     (o_p rfl (Zc rfl rfl c_b) <| o_n) (by kernel_rfl) (fun a g hst hb => ?_)
   refine wp_ret ?_
   obtain rfl := Option.some.inj H0
   exact Zx rfl hst hb (Zk (s := 4)) (hst.at 0 rfl)
 · refine wp_block ?_
   refine wp_loop_ghost (fun n a w => ∃ (x1 : Int) (g : G), w = g.w ∧ St 29 [(0, (Z2.sl.pd a0)), (1, (Z2.sl.pd a1)), (5, (pInt .i64 x1))] a g ∧ Base g0 g ∧ Zd3 a0 a1 n x1 = some z13) (Int.toNat ((a0.length : Int) - (0 : Int)) + 1) ⟨(0 : Int), g, rfl, (hst.pick [0, 1, 2] rfl), hb, hz1⟩ (fun n a w hI => ?_)
   obtain ⟨x1, g, rfl, hst, hb, H1⟩ := hI
   cases n with
   | zero => exact absurd H1 (by simp [Zd3])
   | succ n =>
     rw [Zd3] at H1
     refine wp_seq ?_
     refine r_s (T := [⟨[.old 2], _, [], [], [7]⟩, ⟨[.old 0], _, [], [], [8]⟩, ⟨[.op 1 0], _, [], [1], [9]⟩, ⟨[.op 0 0, .op 2 0], _, [], [0, 1, 2], [10]⟩]) (F := [.old 0, .old 1, .old 2, .op 3 0]) hst hb Zb
       (o_p rfl (Za rfl rfl u_0) <| o_p rfl (Za rfl rfl u_0) <| o_p rfl (Zb4 Tryz.underlying23 rfl rfl u_0) <| o_p rfl (Zco rfl rfl u_0 u_1) <| o_n) (by kernel_rfl) (fun a g hst hb => ?_)
     refine wp_cond_split (hst.bool 3 rfl) (fun hc2 => ?_) (fun hc2 => ?_)
     · replace H1 := Zy hc2 H1
       refine wp_skip ?_
       refine Zv ?_
       refine wp_seq ?_
       refine wp_block ?_
       refine r_s (L := [(0, _), (1, _), (5, _)]) (T := [⟨[], _, [], [], [6]⟩]) (F := [.old 0, .old 1, .old 2, .op 0 0]) (hst.pick [0, 1, 2] rfl) hb Zb
         (o_p rfl (Zc rfl rfl c_i) <| o_n) (by kernel_rfl) (fun a g hst hb => ?_)
       obtain ⟨z12, hz2, H1⟩ := Zg H1
       refine Zcx (fun a w => ∃ (g : G), w = g.w ∧ St 29 [(0, (Z2.sl.pd a0)), (1, (Z2.sl.pd a1)), (5, (pInt .i64 x1))] a g ∧ Base g0 g ∧ (.inr ()) = z12) ?_ ?_
       · rintro a w ⟨g, rfl, hst, hb, rfl⟩
         refine Zbu ?_
         refine Zv ?_
         refine r_g (T := [⟨[.old 2], _, [], [], [11]⟩, ⟨[.op 0 0], _, [], [0], [12]⟩, ⟨[.op 1 0], _, [], [0, 1], [5]⟩]) (F := [.old 0, .old 1, .op 2 0]) hst hb Zb
           (o_p rfl (Za rfl rfl u_0) <| o_p rfl (Zcd rfl rfl u_0 c_i rfl) <| o_p rfl (Zc rfl rfl u_0) <| o_n) (by kernel_rfl) (fun a g hst hb => ?_)
         exact ⟨n, Nat.lt_succ_self _, (IntKind.i64.wrap (x1 + (1 : Int))), g, rfl, (hst.pick [0, 1, 2] rfl), hb, H1⟩
       · refine wp_block ?_
         refine wp_loop_ghost (fun n a w => ∃ (x3 : Int) (g : G), w = g.w ∧ St 29 [(0, (Z2.sl.pd a0)), (1, (Z2.sl.pd a1)), (5, (pInt .i64 x1)), (6, (pInt .i64 x3))] a g ∧ Base g0 g ∧ Zd0 a0 a1 x1 n x3 = some z12) (Int.toNat ((a1.length : Int) - (0 : Int)) + 1) ⟨(0 : Int), g, rfl, (hst.pick [0, 1, 2, 3] rfl), hb, hz2⟩ (fun n a w hI => ?_)
         obtain ⟨x3, g, rfl, hst, hb, H2⟩ := hI
         cases n with
         | zero => exact absurd H2 (by simp [Zd0])
         | succ n =>
           rw [Zd0] at H2
           refine wp_seq ?_
           refine r_s (T := [⟨[.old 3], _, [], [], [13]⟩, ⟨[.old 1], _, [], [], [14]⟩, ⟨[.op 1 0], _, [], [1], [15]⟩, ⟨[.op 0 0, .op 2 0], _, [], [0, 1, 2], [16]⟩]) (F := [.old 0, .old 1, .old 2, .old 3, .op 3 0]) hst hb Zb
             (o_p rfl (Za rfl rfl u_0) <| o_p rfl (Za rfl rfl u_0) <| o_p rfl (Zb4 Tryz.underlying23 rfl rfl u_0) <| o_p rfl (Zco rfl rfl u_0 u_1) <| o_n) (by kernel_rfl) (fun a g hst hb => ?_)
           refine wp_cond_split (hst.bool 4 rfl) (fun hc4 => ?_) (fun hc4 => ?_)
           · replace H2 := Zy hc4 H2
             refine wp_skip ?_
             refine Zv ?_
             refine wp_seq ?_
             refine wp_block ?_
             obtain ⟨e5, h6, H2⟩ := Zg H2; obtain ⟨e7, h8, H2⟩ := Zg H2; obtain ⟨r9, h10, H2⟩ := Zg H2
             refine r_s (L := [(0, _), (1, _), (5, _), (6, _)]) (T := [⟨[.old 0], _, [], [], [19]⟩, ⟨[.old 2], _, [], [], [20]⟩, ⟨[.op 0 0, .op 1 0], _, [], [0, 1], [21]⟩, ⟨[.op 2 0], _, [], [0, 1, 2], [22]⟩, ⟨[.old 1], _, [], [], [23]⟩, ⟨[.old 3], _, [], [], [24]⟩, ⟨[.op 4 0, .op 5 0], _, [], [4, 5], [25]⟩, ⟨[.op 6 0], _, [], [4, 5, 6], [26]⟩, ⟨[.op 3 0, .op 7 0], _, [], Lr 8, [27]⟩, ⟨[.op 8 0], _, [], Lr 9, [28]⟩]) (F := [.old 0, .old 1, .old 2, .old 3, .op 9 0]) (hst.pick [0, 1, 2, 3] rfl) hb Zb
               (o_p rfl (Za rfl rfl u_0) <| o_p rfl (Za rfl rfl u_0) <| o_p rfl (Zbp Tryz.underlying23 Zml rfl rfl u_0 u_1 h6) <| o_p rfl (Zf Zei rfl rfl u_0) <| o_p rfl (Za rfl rfl u_0) <| o_p rfl (Za rfl rfl u_0) <| o_p rfl (Zbp Tryz.underlying23 Zml rfl rfl u_0 u_1 h8) <| o_p rfl (Zf Zei rfl rfl u_0) <| o_p rfl (Zo Z94 (Zol _ _ h10) rfl rfl (.cons u_0 (.cons u_1 .nil))) <| o_p rfl (Zcr rfl rfl u_0) <| o_n) (by kernel_rfl) (fun a g hst hb => ?_)
             refine wp_cond_split (hst.bool 4 rfl) (fun hc11 => ?_) (fun hc11 => ?_)
             · replace H2 := Zy hc11 H2
               refine r_s (L := []) (T := [⟨[], _, [], [], [4]⟩]) (F := [.op 0 0]) (hst.pick [] rfl) hb Zb
                 (o_p rfl (Zc rfl rfl c_b) <| o_n) (by kernel_rfl) (fun a g hst hb => ?_)
               refine wp_ret ?_
               refine Zw ?_
               refine Zp ?_
               refine Zp ?_
               refine Zw ?_
               refine Zp ?_
               refine Zw ?_
               refine Zp ?_
               refine Zp ?_
               refine Zw ?_
               refine Zp ?_
               refine Zp ?_
               obtain rfl := Option.some.inj H2
               obtain rfl := Option.some.inj H1
               obtain rfl := Option.some.inj H0
               exact Zx rfl hst hb (Zk (s := 4)) (hst.at 0 rfl)
             · replace H2 := Zz hc11 H2
               refine wp_skip ?_
               refine Zbu ?_
               refine Zv ?_
               refine r_g (L := [(0, _), (1, _), (5, _), (6, _)]) (T := [⟨[.old 3], _, [], [], [17]⟩, ⟨[.op 0 0], _, [], [0], [18]⟩, ⟨[.op 1 0], _, [], [0, 1], [6]⟩]) (F := [.old 0, .old 1, .old 2, .op 2 0]) (hst.pick [0, 1, 2, 3] rfl) hb Zb
                 (o_p rfl (Za rfl rfl u_0) <| o_p rfl (Zcd rfl rfl u_0 c_i rfl) <| o_p rfl (Zc rfl rfl u_0) <| o_n) (by kernel_rfl) (fun a g hst hb => ?_)
               exact ⟨n, Nat.lt_succ_self _, (IntKind.i64.wrap (x3 + (1 : Int))), g, rfl, (hst.pick [0, 1, 2, 3] rfl), hb, H2⟩
           · replace H2 := Zz hc4 H2
             refine wp_exit ?_
             refine Zb5 ?_
             refine Zb5 ?_
             refine Zct ?_
             exact ⟨g, rfl, (hst.pick [0, 1, 2] rfl), hb, Option.some.inj H2⟩
     · replace H1 := Zz hc2 H1
       refine wp_exit ?_
       refine Zb5 ?_
       refine Zb5 ?_
       refine Zct ?_
       exact ⟨g, rfl, (hst.pick [] rfl), hb, Option.some.inj H1⟩
theorem Zlm (a0 : Zbk) {r : Bool} (h : Zfn a0 = some r) : FnOk Tryz.prog 23 [(Zcf.pd a0)] (Zba r) := by
 have H0 := h
 unfold Zfn at H0
 clear h
 refine Zbr (N := 27) Tryz.func23 rfl rfl (Nat.le_of_ble_eq_true rfl) rfl rfl (fun a g0 hst hb => ?_)
 refine r_s (T := [⟨[.old 0], _, [], [], [1]⟩, ⟨[], _, [], [], [2]⟩]) (F := [.op 0 0]) hst hb Zb
   (o_p rfl (Zbh rfl rfl u_0) <| o_p rfl (Zc rfl rfl c_b) <| o_n) (by kernel_rfl) (fun a g hst hb => ?_)
 refine wp_seq ?_
 refine r_s (T := [⟨[], _, [], [], [3]⟩]) (F := [.old 0, .op 0 0]) hst hb Zb
   (o_p rfl (Zc rfl rfl c_i) <| o_n) (by kernel_rfl) (fun a g hst hb => ?_)
 obtain ⟨z8, hz1, H0⟩ := Zg H0
 refine Zcx (fun a w => ∃ (g : G), w = g.w ∧ St 27 [] a g ∧ Base g0 g ∧ (.inr ()) = z8) ?_ ?_
 · rintro a w ⟨g, rfl, hst, hb, rfl⟩
   refine Zv ?_
   refine r_s (T := [⟨[], _, [], [], [2]⟩]) (F := [.op 0 0]) hst hb Zb
     (o_p rfl (Zc rfl rfl c_b) <| o_n) (by kernel_rfl) (fun a g hst hb => ?_)
   refine wp_ret ?_
   obtain rfl := Option.some.inj H0
   exact Zx rfl hst hb (Zk (s := 2)) (hst.at 0 rfl)
 · refine wp_block ?_
   refine wp_loop_ghost (fun n a w => ∃ (x1 : Int) (g : G), w = g.w ∧ St 27 [(1, (Zcf.ptr a0)), (3, (pInt .i64 x1))] a g ∧ Base g0 g ∧ Zc7 a0 n x1 = some z8) (Int.toNat ((a0.Acts.length : Int) - (0 : Int)) + 1) ⟨(0 : Int), g, rfl, (hst.pick [0, 1] rfl), hb, hz1⟩ (fun n a w hI => ?_)
   obtain ⟨x1, g, rfl, hst, hb, H1⟩ := hI
   cases n with
   | zero => exact absurd H1 (by simp [Zc7])
   | succ n =>
     rw [Zc7] at H1
     refine wp_seq ?_
     refine r_s (T := [⟨[.old 1], _, [], [], [4]⟩, ⟨[.old 0], _, [], [], [5]⟩, ⟨[.op 1 0], _, [], [1], [6]⟩, ⟨[.op 2 0], _, [], [1, 2], [7]⟩, ⟨[.op 0 0, .op 3 0], _, [], Lr 4, [8]⟩]) (F := [.old 0, .old 1, .op 4 0]) hst hb Zb
       (o_p rfl (Za rfl rfl u_0) <| o_p rfl (Ze Zhd rfl rfl u_0) <| o_p rfl (Zf Zj4 rfl rfl u_0) <| o_p rfl (Zb4 Tryz.underlying23 rfl rfl u_0) <| o_p rfl (Zco rfl rfl u_0 u_1) <| o_n) (by kernel_rfl) (fun a g hst hb => ?_)
     refine wp_cond_split (hst.bool 2 rfl) (fun hc2 => ?_) (fun hc2 => ?_)
     · replace H1 := Zy hc2 H1
       refine wp_skip ?_
       refine Zv ?_
       refine wp_seq ?_
       refine wp_block ?_
       obtain ⟨e3, h4, H1⟩ := Zg H1; obtain ⟨e5, h6, H1⟩ := Zg H1
       refine r_s (L := [(1, _), (3, _)]) (T := ⟨[.old 0], _, [], [], [11]⟩ :: ⟨[.op 0 0], _, [], [0], [12]⟩ :: ⟨[.old 1], _, [], [], [13]⟩ :: ⟨[.op 1 0, .op 2 0], _, [], [0, 1, 2], [14]⟩ :: ⟨[.op 3 0], _, [], Lr 4, [15]⟩ :: ⟨[.op 4 0], _, [], Lr 5, [16]⟩ :: ⟨[.op 5 0], _, [], Lr 6, [17]⟩ :: ⟨[.op 6 0], _, [], Lr 7, [18]⟩ :: ⟨[.op 7 0, .old 0], _, [], Lr 8, [19]⟩ :: ⟨[.op 7 0, .op 8 0], _, [], Lr 9, [20]⟩ :: ⟨[.op 7 0, .old 1], _, [], Lr 8, [21]⟩ :: ⟨[.op 7 0, .op 9 0, .op 10 0], _, [], Lr 11, [22]⟩ :: ⟨[.op 7 0, .op 11 0], _, [], Lr 12, [23]⟩ :: ⟨[.op 7 0, .op 12 0], _, [], Lr 13, [24]⟩ :: ⟨[.op 7 0, .op 13 0], _, [], Lr 14, [25]⟩ :: ⟨[.op 7 0, .op 14 0], _, [], Lr 15, [26]⟩ :: []) (F := [.old 0, .old 1, .op 15 0]) (hst.pick [0, 1] rfl) hb Zb
         (o_p rfl (Ze Zhd rfl rfl u_0) <| o_p rfl (Zf Zj4 rfl rfl u_0) <| o_p rfl (Za rfl rfl u_0) <| o_p rfl (Zbp Tryz.underlying23 Zml rfl rfl u_0 u_1 h4) <| o_p rfl (Ze Zeu rfl rfl u_0) <| o_p rfl (Zf ty_3 rfl rfl u_0) <| o_p rfl (Zbj rfl rfl u_0 c_i) <| o_p rfl (Za rfl rfl u_0) <| o_g (g_f rfl rfl rfl (fun hG => Ze Zhd rfl rfl u_0)) <| o_g (g_f rfl rfl rfl (fun hG => Zf Zj4 rfl rfl (Opd.gd hG u_0))) <| o_g (g_f rfl rfl rfl (fun hG => Za rfl rfl u_0)) <| o_g (g_f rfl rfl rfl (fun hG => Zbp Tryz.underlying23 Zml rfl rfl (Opd.gd hG u_0) (Opd.gd hG u_1) (Zbb h6 hG))) <| o_g (g_f rfl rfl rfl (fun hG => Ze Zeu rfl rfl (Opd.gd hG u_0))) <| o_g (g_f rfl rfl rfl (fun hG => Zf ty_3 rfl rfl (Opd.gd hG u_0))) <| o_g (g_f rfl rfl rfl (fun hG => Zbj rfl rfl (Opd.gd hG u_0) c_i)) <| o_p rfl (Zbi rfl rfl u_0 (fun hz => (Opd.gd (bNF hz) u_1))) <| o_n) (by kernel_rfl) (fun a g hst hb => ?_)
       refine wp_cond_split (hst.bool 2 rfl) (fun hc7 => ?_) (fun hc7 => ?_)
       · replace H1 := Zy hc7 H1
         refine r_s (L := []) (T := [⟨[], _, [], [], [2]⟩]) (F := [.op 0 0]) (hst.pick [] rfl) hb Zb
           (o_p rfl (Zc rfl rfl c_b) <| o_n) (by kernel_rfl) (fun a g hst hb => ?_)
         refine wp_ret ?_
         refine Zw ?_
         refine Zp ?_
         refine Zp ?_
         refine Zw ?_
         refine Zp ?_
         refine Zp ?_
         obtain rfl := Option.some.inj H1
         obtain rfl := Option.some.inj H0
         exact Zx rfl hst hb (Zk (s := 2)) (hst.at 0 rfl)
       · replace H1 := Zz hc7 H1
         refine wp_skip ?_
         refine Zbu ?_
         refine Zv ?_
         refine r_g (L := [(1, _), (3, _)]) (T := [⟨[.old 1], _, [], [], [9]⟩, ⟨[.op 0 0], _, [], [0], [10]⟩, ⟨[.op 1 0], _, [], [0, 1], [3]⟩]) (F := [.old 0, .op 2 0]) (hst.pick [0, 1] rfl) hb Zb
           (o_p rfl (Za rfl rfl u_0) <| o_p rfl (Zcd rfl rfl u_0 c_i rfl) <| o_p rfl (Zc rfl rfl u_0) <| o_n) (by kernel_rfl) (fun a g hst hb => ?_)
         exact ⟨n, Nat.lt_succ_self _, (IntKind.i64.wrap (x1 + (1 : Int))), g, rfl, (hst.pick [0, 1] rfl), hb, H1⟩
     · replace H1 := Zz hc2 H1
       refine wp_exit ?_
       refine Zb5 ?_
       refine Zb5 ?_
       refine Zct ?_
       exact ⟨g, rfl, (hst.pick [] rfl), hb, Option.some.inj H1⟩
theorem Zn5 (a0 : Zbk) (a1 : Zbk) {r : Bool} (h : Zf0 a0 a1 = some r) : FnOk Tryz.prog 8 [(Zcf.pd a0), (Zcf.pd a1)] (Zba r) := by
 have H0 := h
 unfold Zf0 at H0
 clear h
 refine Zbr (N := 19) Tryz.func8 rfl rfl (Nat.le_of_ble_eq_true rfl) rfl rfl (fun a g0 hst hb => ?_)
 refine r_s (T := [⟨[.old 0], _, [], [], [2]⟩, ⟨[.old 1], _, [], [], [3]⟩, ⟨[], _, [], [], [4]⟩]) (F := [.op 0 0, .op 1 0]) hst hb Zb
   (o_p rfl (Zbh rfl rfl u_0) <| o_p rfl (Zbh rfl rfl u_0) <| o_p rfl (Zc rfl rfl c_b) <| o_n) (by kernel_rfl) (fun a g hst hb => ?_)
 obtain ⟨r1, h2, H0⟩ := Zg H0; obtain ⟨r3, h4, H0⟩ := Zg H0; obtain ⟨r5, h6, H0⟩ := Zg H0
 refine r_s (T := ⟨[.old 0], _, [], [], [5]⟩ :: ⟨[.op 0 0], _, [], [0], [6]⟩ :: ⟨[.old 1], _, [], [], [7]⟩ :: ⟨[.op 2 0], _, [], [2], [8]⟩ :: ⟨[.op 1 0, .op 3 0], _, [], Lr 4, [9]⟩ :: ⟨[.op 4 0], _, [], Lr 5, [10]⟩ :: ⟨[.op 5 0], _, [], Lr 6, [11]⟩ :: ⟨[.op 6 0, .old 0], _, [], Lr 7, [12]⟩ :: ⟨[.op 6 0, .op 7 0], _, [], Lr 8, [13]⟩ :: ⟨[.op 6 0, .op 8 0], _, [], Lr 9, [14]⟩ :: ⟨[.op 9 0, .old 1], _, [], Lr 10, [15]⟩ :: ⟨[.op 9 0, .op 10 0], _, [], Lr 11, [16]⟩ :: ⟨[.op 6 0, .op 9 0, .op 11 0], _, [], Lr 12, [17]⟩ :: ⟨[.op 6 0, .op 12 0], _, [], Lr 13, [18]⟩ :: ⟨[.op 13 0], _, [], Lr 14, [4]⟩ :: []) (F := [.op 14 0]) hst hb Zb
   (o_p rfl (Ze Zhd rfl rfl u_0) <| o_p rfl (Zf Zj4 rfl rfl u_0) <| o_p rfl (Ze Zhd rfl rfl u_0) <| o_p rfl (Zf Zj4 rfl rfl u_0) <| o_p rfl (Zo Zba0 (Zp6 _ _ h2) rfl rfl (.cons u_0 (.cons u_1 .nil))) <| o_p rfl (Zcr rfl rfl u_0) <| o_p rfl (Za rfl rfl u_0) <| o_g (g_f rfl rfl rfl (fun hG => Zf Zht rfl rfl u_0)) <| o_g (g_f rfl rfl rfl (fun hG => Zo Z57 (Zlm _ (Zbb h4 hG)) rfl rfl (.cons (Opd.gd hG u_0) .nil))) <| o_g (g_f rfl rfl rfl (fun hG => Za rfl rfl (Opd.gd hG u_0))) <| o_g (g_ti rfl rfl rfl (fun hG => Zf Zht rfl rfl u_0)) <| o_g (g_ti rfl rfl rfl (fun hG => Zo Z57 (Zlm _ (Zbb h6 hG)) rfl rfl (.cons (Opd.gd hG u_0) .nil))) <| o_g (g_f rfl rfl rfl (fun hG => Zbf rfl rfl (Opd.gd hG u_0) (fun hz => (Opd.gd (bA hG hz) u_1)))) <| o_p rfl (Zbi rfl rfl u_0 (fun hz => (Opd.gd (bNF hz) u_1))) <| o_p rfl (Zc rfl rfl u_0) <| o_n) (by kernel_rfl) (fun a g hst hb => ?_)
 refine wp_ret ?_
 obtain rfl := Option.some.inj H0
 exact Zx rfl hst hb (Zk (s := 4)) (hst.at 0 rfl)
theorem Zm9 (a0 : Zn) (a1 : Int) {r : ByteArray × Zd × Bool} (h : Zhx a0 a1 = some r) : FnOk Tryz.prog 24 [(Z1.pd a0), (pInt .i64 a1)] (pTup [(pStr r.1), (Zj.pd r.2.1), (Zba r.2.2)]) := by
 have H0 := h
 unfold Zhx at H0
 clear h
 refine Zbr (N := 48) Tryz.func24 rfl rfl (Nat.le_of_ble_eq_true rfl) rfl rfl (fun a g0 hst hb => ?_)
 refine r_s (T := [⟨[.old 0], _, [], [], [2]⟩, ⟨[], _, [], [], [4]⟩, ⟨[], [(5, (pBox Zj 5 (default : Zd)))], [6], [], [5]⟩, ⟨[], _, [], [1], [6]⟩]) (F := [.old 1, .op 0 0, .op 2 0]) hst hb Zb
   (o_p rfl (Zbh rfl rfl u_0) <| o_p rfl (Zc rfl rfl c_s) <| o_p rfl (Zbg (zs := [.int .i64 0, .int .i64 0, .int .i64 0, .int .i64 0, .float .f64 0, .int .i64 0, .string ByteArray.empty, .slice none 0 0]) (by kernel_rfl) (fun g => Zch g) rfl rfl) <| o_p rfl (Zc rfl rfl c_b) <| o_n) (by kernel_rfl) (fun a g hst hb => ?_)
 refine wp_seq ?_
 refine r_s (T := [⟨[.old 1], _, [], [], [9]⟩, ⟨[.op 0 0], _, [], [0], [10]⟩, ⟨[.op 1 0], _, [], [0, 1], [7]⟩]) (F := [.old 0, .old 2, .op 2 0]) hst hb Zb
   (o_p rfl (Ze Zoy rfl rfl u_0) <| o_p rfl (Zf Zcz rfl rfl u_0) <| o_p rfl (Zc rfl rfl u_0) <| o_n) (by kernel_rfl) (fun a g hst hb => ?_)
 obtain ⟨z16, hz1, H0⟩ := Zg H0
 refine Zcx (fun a w => ∃ (y15 : Zd) (g : G), w = g.w ∧ St 48 [(5, (pBox Zj 5 y15))] a g ∧ Base g0 g ∧ (.inr y15) = z16) ?_ ?_
 · rintro a w ⟨y15, g, rfl, hst, hb, rfl⟩
   refine Zv ?_
   refine r_s (T := [⟨[], _, [], [], [47]⟩, ⟨[], _, [], [], [4]⟩, ⟨[.op 0 0, .old 0], _, [6], [0, 1], [5]⟩, ⟨[], _, [], [0, 1, 2], [6]⟩]) (F := [.op 1 0, .op 2 0, .op 3 0]) hst hb Zb
     (o_p rfl (Zqp rfl rfl ) <| o_p rfl (Zc rfl rfl c_s) <| o_p rfl (Z8 Zbn rfl rfl u_1 u_0) <| o_p rfl (Zc rfl rfl c_b) <| o_n) (by kernel_rfl) (fun a g hst hb => ?_)
   refine wp_ret ?_
   obtain rfl := Option.some.inj H0
   obtain ⟨u1, hu1, hq1⟩ := Zbo (P := Tryz.prog) Zbn (hst.at 1 rfl)
   exact Zkx rfl hst hb (Zk (s := 4)) hu1 (Zk (s := 6)) (Zie (hst.at 0 rfl) hq1 (hst.at 2 rfl))
 · refine wp_block ?_
   refine wp_loop_ghost (fun n a w => ∃ (x1 : Int) (x2 : Zd) (x3 : shelf_nodeT) (g : G), w = g.w ∧ St 48 [(1, (pInt .i64 x1)), (5, (pBox Zj 5 x2)), (7, (Z4.pd x3))] a g ∧ Base g0 g ∧ Zdn n x1 x2 x3 = some z16) (a0.top.hh + 1) ⟨a1, (default : Zd), a0.top, g, rfl, (hst.pick [0, 1, 2] rfl), hb, hz1⟩ (fun n a w hI => ?_)
   obtain ⟨x1, x2, x3, g, rfl, hst, hb, H1⟩ := hI
   cases n with
   | zero => exact absurd H1 (by simp [Zdn])
   | succ n =>
     rw [Zdn] at H1
     refine wp_seq ?_
     refine r_s (T := [⟨[.old 2], _, [], [], [11]⟩, ⟨[.op 0 0], _, [], [0], [12]⟩]) (F := [.old 0, .old 1, .old 2, .op 1 0]) hst hb Zb
       (o_p rfl (Za rfl rfl u_0) <| o_p rfl (Zyj Tryz.underlying28 rfl rfl u_0 (Zen _)) <| o_n) (by kernel_rfl) (fun a g hst hb => ?_)
     refine wp_cond_split (hst.bool 3 rfl) (fun hc4 => ?_) (fun hc4 => ?_)
     · replace H1 := Zy hc4 H1
       refine wp_skip ?_
       refine Zv ?_
       refine Zcx (fun a w => ∃ (j13 : Int) (j14 : shelf_nodeT) (g : G), w = g.w ∧ St 48 [(1, (pInt .i64 j13)), (5, (pBox Zj 5 x2)), (7, (Z4.pd j14))] a g ∧ Base g0 g ∧ Zho x2 (Zdn n) j13 j14 = some z16) ?_ ?_
       · rintro a w ⟨j13, j14, g, rfl, hst, hb, H1⟩
         unfold Zho at H1
         exact ⟨n, Nat.lt_succ_self _, j13, x2, j14, g, rfl, (hst.pick [0, 1, 2] rfl), hb, H1⟩
       · refine wp_block ?_
         obtain ⟨n5, h6, H1⟩ := Zg H1; obtain ⟨r7, h8, H1⟩ := Zg H1
         refine r_s (L := [(1, _), (5, _), (7, _)]) (T := [⟨[.old 2], _, [], [], [13]⟩, ⟨[.op 0 0], _, [], [0], [14]⟩, ⟨[.op 1 0], _, [], [0, 1], [15]⟩, ⟨[.op 2 0], _, [], [0, 1, 2], [16]⟩, ⟨[.op 3 0], _, [], Lr 4, [17]⟩, ⟨[.op 4 0], _, [], Lr 5, [8]⟩]) (F := [.old 0, .old 1, .old 2, .op 5 0]) (hst.pick [0, 1, 2] rfl) hb Zb
           (o_p rfl (Za rfl rfl u_0) <| o_p rfl (Zq rfl rfl (Opd.imp u_0 (fun _ _ h => Zr h6 h)) (fun _ _ ⟨_, _, _, e, _⟩ => ⟨_, e⟩)) <| o_p rfl (Ze Zdx rfl rfl u_0) <| o_p rfl (Zf Zcz rfl rfl u_0) <| o_p rfl (Zo Zmk (Zdb _ h8) rfl rfl (.cons u_0 .nil)) <| o_p rfl (Zc rfl rfl u_0) <| o_n) (by kernel_rfl) (fun a g hst hb => ?_)
         refine wp_block ?_
         refine r_s (T := [⟨[.old 0], _, [], [], [28]⟩, ⟨[.old 3], _, [], [], [29]⟩, ⟨[.op 0 0, .op 1 0], _, [], [0, 1], [30]⟩, ⟨[.op 2 0], _, [], [0, 1, 2], [27]⟩]) (F := [.old 0, .old 1, .old 2, .old 3, .op 3 0]) hst hb Zb
           (o_p rfl (Za rfl rfl u_0) <| o_p rfl (Za rfl rfl u_0) <| o_p rfl (Zco rfl rfl u_0 u_1) <| o_p rfl (Zc rfl rfl u_0) <| o_n) (by kernel_rfl) (fun a g hst hb => ?_)
         refine wp_cond_split (hst.bool 4 rfl) (fun hc9 => ?_) (fun hc9 => ?_)
         · replace H1 := Zy hc9 H1
           refine r_g (L := [(1, _), (5, _), (7, _)]) (T := [⟨[.old 2], _, [], [], [31]⟩, ⟨[.op 0 0], _, [], [0], [32]⟩, ⟨[.op 1 0], _, [], [0, 1], [33]⟩, ⟨[.op 2 0], _, [], [0, 1, 2], [34]⟩, ⟨[.op 3 0], _, [], Lr 4, [7]⟩]) (F := [.old 0, .old 1, .op 4 0]) (hst.pick [0, 1, 2] rfl) hb Zb
             (o_p rfl (Za rfl rfl u_0) <| o_p rfl (Zq rfl rfl (Opd.imp u_0 (fun _ _ h => Zr h6 h)) (fun _ _ ⟨_, _, _, e, _⟩ => ⟨_, e⟩)) <| o_p rfl (Ze Zdx rfl rfl u_0) <| o_p rfl (Zf Zcz rfl rfl u_0) <| o_p rfl (Zc rfl rfl u_0) <| o_n) (by kernel_rfl) (fun a g hst hb => ?_)
           refine Zbu ?_
           refine Zbu ?_
           exact ⟨x1, n5.left, g, rfl, (hst.pick [0, 1, 2] rfl), hb, H1⟩
         · replace H1 := Zz hc9 H1
           refine r_s (L := [(1, _), (5, _), (7, _), (8, _)]) (T := [⟨[.old 0], _, [], [], [36]⟩, ⟨[.old 3], _, [], [], [37]⟩, ⟨[.op 0 0, .op 1 0], _, [], [0, 1], [38]⟩, ⟨[.op 2 0], _, [], [0, 1, 2], [35]⟩]) (F := [.old 0, .old 1, .old 2, .old 3, .op 3 0]) (hst.pick [0, 1, 2, 3] rfl) hb Zb
             (o_p rfl (Za rfl rfl u_0) <| o_p rfl (Za rfl rfl u_0) <| o_p rfl (Zci rfl rfl u_0 u_1) <| o_p rfl (Zc rfl rfl u_0) <| o_n) (by kernel_rfl) (fun a g hst hb => ?_)
           refine wp_cond_split (hst.bool 4 rfl) (fun hc10 => ?_) (fun hc10 => ?_)
           · replace H1 := Zy hc10 H1
             refine r_s (L := [(1, _), (5, _), (7, _), (8, _)]) (T := [⟨[.old 0], _, [], [], [39]⟩, ⟨[.old 3], _, [], [], [40]⟩, ⟨[.op 1 0], _, [], [1], [41]⟩, ⟨[.op 0 0, .op 2 0], _, [], [0, 1, 2], [42]⟩, ⟨[.op 3 0], _, [], Lr 4, [1]⟩]) (F := [.op 4 0, .old 1, .old 2]) (hst.pick [0, 1, 2, 3] rfl) hb Zb
               (o_p rfl (Za rfl rfl u_0) <| o_p rfl (Za rfl rfl u_0) <| o_p rfl (Zcd rfl rfl u_0 c_i rfl) <| o_p rfl (Zkd rfl rfl u_0 u_1 rfl) <| o_p rfl (Zc rfl rfl u_0) <| o_n) (by kernel_rfl) (fun a g hst hb => ?_)
             refine r_g (T := [⟨[.old 2], _, [], [], [43]⟩, ⟨[.op 0 0], _, [], [0], [44]⟩, ⟨[.op 1 0], _, [], [0, 1], [45]⟩, ⟨[.op 2 0], _, [], [0, 1, 2], [46]⟩, ⟨[.op 3 0], _, [], Lr 4, [7]⟩]) (F := [.old 0, .old 1, .op 4 0]) hst hb Zb
               (o_p rfl (Za rfl rfl u_0) <| o_p rfl (Zq rfl rfl (Opd.imp u_0 (fun _ _ h => Zr h6 h)) (fun _ _ ⟨_, _, _, e, _⟩ => ⟨_, e⟩)) <| o_p rfl (Ze Zeg rfl rfl u_0) <| o_p rfl (Zf Zcz rfl rfl u_0) <| o_p rfl (Zc rfl rfl u_0) <| o_n) (by kernel_rfl) (fun a g hst hb => ?_)
             refine Zbu ?_
             refine Zbu ?_
             exact ⟨(IntKind.i64.wrap (x1 - (IntKind.i64.wrap (r7 + (1 : Int))))), n5.right, g, rfl, (hst.pick [0, 1, 2] rfl), hb, H1⟩
           · replace H1 := Zz hc10 H1
             obtain ⟨r11, h12, H1⟩ := Zg H1
             refine r_s (L := [(5, _), (7, _)]) (T := ⟨[.old 1], _, [], [], [18]⟩ :: ⟨[.op 0 0], _, [], [0], [19]⟩ :: ⟨[.op 1 0], _, [], [0, 1], [20]⟩ :: ⟨[.op 2 0], _, [], [0, 1, 2], [21]⟩ :: ⟨[.old 1], _, [], [], [22]⟩ :: ⟨[.op 4 0], _, [], [4], [23]⟩ :: ⟨[.op 5 0], _, [], [4, 5], [24]⟩ :: ⟨[.op 6 0], _, [], [4, 5, 6], [25]⟩ :: ⟨[.op 7 0], _, [], List.range' 4 4, [26]⟩ :: ⟨[.op 3 0], _, [], Lr 9, [4]⟩ :: ⟨[.op 8 0, .old 0], _, [6], Lr 10, [5]⟩ :: ⟨[], _, [], Lr 11, [6]⟩ :: []) (F := [.op 9 0, .op 10 0, .op 11 0]) (hst.pick [1, 2] rfl) hb Zb
               (o_p rfl (Za rfl rfl u_0) <| o_p rfl (Zq rfl rfl (Opd.imp u_0 (fun _ _ h => Zr h6 h)) (fun _ _ ⟨_, _, _, e, _⟩ => ⟨_, e⟩)) <| o_p rfl (Ze Zef rfl rfl u_0) <| o_p rfl (Zf ty_9 rfl rfl u_0) <| o_p rfl (Za rfl rfl u_0) <| o_p rfl (Zq rfl rfl (Opd.imp u_0 (fun _ _ h => Zr h6 h)) (fun _ _ ⟨_, _, _, e, _⟩ => ⟨_, e⟩)) <| o_p rfl (Ze Zgp rfl rfl u_0) <| o_p rfl (Zf Zbn rfl rfl u_0) <| o_p rfl (Zo Zn6 (Zg4 _ h12) rfl rfl (.cons u_0 .nil)) <| o_p rfl (Zc rfl rfl u_0) <| o_p rfl (Z8 Zbn rfl rfl u_1 u_0) <| o_p rfl (Zc rfl rfl c_b) <| o_n) (by kernel_rfl) (fun a g hst hb => ?_)
             refine wp_ret ?_
             refine Zw ?_
             refine Zw ?_
             refine Zp ?_
             refine Zp ?_
             refine Zw ?_
             refine Zp ?_
             refine Zp ?_
             obtain rfl := Option.some.inj H1
             obtain rfl := Option.some.inj H0
             obtain ⟨u1, hu1, hq1⟩ := Zbo (P := Tryz.prog) Zbn (hst.at 1 rfl)
             exact Zkx rfl hst hb (Zk (s := 4)) hu1 (Zk (s := 6)) (Zie (hst.at 0 rfl) hq1 (hst.at 2 rfl))
     · replace H1 := Zz hc4 H1
       refine wp_exit ?_
       refine Zb5 ?_
       refine Zb5 ?_
       refine Zct ?_
       exact ⟨x2, g, rfl, (hst.pick [1] rfl), hb, Option.some.inj H1⟩
theorem Zwr (a0 : Zn) (a1 : Zn) {r : Bool} (h : Zkv a0 a1 = some r) : FnOk Tryz.prog 10 [(Z1.pd a0), (Z1.pd a1)] (Zba r) := by
 have H0 := h
 unfold Zkv at H0
 clear h
 refine Zbr (N := 46) Tryz.func10 rfl rfl (Nat.le_of_ble_eq_true rfl) rfl rfl (fun a g0 hst hb => ?_)
 refine r_s (T := [⟨[.old 0], _, [], [], [2]⟩, ⟨[.old 1], _, [], [], [3]⟩, ⟨[], _, [], [], [4]⟩]) (F := [.op 0 0, .op 1 0]) hst hb Zb
   (o_p rfl (Zbh rfl rfl u_0) <| o_p rfl (Zbh rfl rfl u_0) <| o_p rfl (Zc rfl rfl c_b) <| o_n) (by kernel_rfl) (fun a g hst hb => ?_)
 refine wp_seq ?_
 obtain ⟨r1, h2, H0⟩ := Zg H0; obtain ⟨r3, h4, H0⟩ := Zg H0
 refine r_s (T := [⟨[.old 0], _, [], [], [12]⟩, ⟨[.op 0 0], _, [], [0], [13]⟩, ⟨[.old 1], _, [], [], [14]⟩, ⟨[.op 2 0], _, [], [0, 1, 2], [15]⟩, ⟨[.op 1 0, .op 3 0], _, [], Lr 4, [16]⟩]) (F := [.old 0, .old 1, .op 4 0]) hst hb Zb
   (o_p rfl (Zf Zbs rfl rfl u_0) <| o_p rfl (Zo Zrx (Zfk _ h2) rfl rfl (.cons u_0 .nil)) <| o_p rfl (Zf Zbs rfl rfl u_0) <| o_p rfl (Zo Zrx (Zfk _ h4) rfl rfl (.cons u_0 .nil)) <| o_p rfl (Zf2 rfl rfl u_0 u_1) <| o_n) (by kernel_rfl) (fun a g hst hb => ?_)
 refine wp_cond_split (hst.bool 2 rfl) (fun hc5 => ?_) (fun hc5 => ?_)
 · replace H0 := Zy hc5 H0
   refine r_s (L := []) (T := [⟨[], _, [], [], [4]⟩]) (F := [.op 0 0]) (hst.pick [] rfl) hb Zb
     (o_p rfl (Zc rfl rfl c_b) <| o_n) (by kernel_rfl) (fun a g hst hb => ?_)
   refine wp_ret ?_
   refine Zp ?_
   obtain rfl := Option.some.inj H0
   exact Zx rfl hst hb (Zk (s := 4)) (hst.at 0 rfl)
 · replace H0 := Zz hc5 H0
   refine wp_skip ?_
   refine Zv ?_
   refine wp_seq ?_
   obtain ⟨r6, h7, H0⟩ := Zg H0
   refine r_s (L := [(2, _), (3, _)]) (T := [⟨[.old 0], _, [], [], [17]⟩, ⟨[.op 0 0], _, [], [0], [18]⟩, ⟨[], _, [], [], [19]⟩]) (F := [.old 0, .old 1, .op 1 0, .op 2 0]) (hst.pick [0, 1] rfl) hb Zb
     (o_p rfl (Zf Zbs rfl rfl u_0) <| o_p rfl (Zo Zrx (Zfk _ h7) rfl rfl (.cons u_0 .nil)) <| o_p rfl (Za rfl rfl c_i) <| o_n) (by kernel_rfl) (fun a g hst hb => ?_)
   obtain ⟨z17, hz1, H0⟩ := Zg H0
   refine Zcx (fun a w => ∃ (g : G), w = g.w ∧ St 46 [] a g ∧ Base g0 g ∧ (.inr ()) = z17) ?_ ?_
   · rintro a w ⟨g, rfl, hst, hb, rfl⟩
     refine Zv ?_
     refine r_s (T := [⟨[], _, [], [], [4]⟩]) (F := [.op 0 0]) hst hb Zb
       (o_p rfl (Zc rfl rfl c_b) <| o_n) (by kernel_rfl) (fun a g hst hb => ?_)
     refine wp_ret ?_
     obtain rfl := Option.some.inj H0
     exact Zx rfl hst hb (Zk (s := 4)) (hst.at 0 rfl)
   · refine wp_block ?_
     refine wp_loop_ghost (fun n a w => ∃ (x8 : Int) (g : G), w = g.w ∧ St 46 [(2, (Z1.ptr a0)), (3, (Z1.ptr a1)), (18, (pInt .i64 r6)), (19, (pInt .i64 x8))] a g ∧ Base g0 g ∧ Zgb a0 a1 r6 n x8 = some z17) (Int.toNat (r6 - (0 : Int)) + 1) ⟨(0 : Int), g, rfl, (hst.pick [0, 1, 2, 3] rfl), hb, hz1⟩ (fun n a w hI => ?_)
     obtain ⟨x8, g, rfl, hst, hb, H1⟩ := hI
     cases n with
     | zero => exact absurd H1 (by simp [Zgb])
     | succ n =>
       rw [Zgb] at H1
       refine r_s (T := [⟨[.old 3, .old 2], _, [], [], [20]⟩]) (F := [.old 0, .old 1, .old 2, .old 3, .op 0 0]) hst hb Zb
         (o_p rfl (Zco rfl rfl u_0 u_1) <| o_n) (by kernel_rfl) (fun a g hst hb => ?_)
       refine wp_seq ?_
       refine wp_cond_split (hst.bool 4 rfl) (fun hc9 => ?_) (fun hc9 => ?_)
       · replace H1 := Zy hc9 H1
         refine wp_skip ?_
         refine Zv ?_
         refine wp_seq ?_
         refine wp_block ?_
         refine r_s (L := [(2, _), (3, _), (18, _), (19, _)]) (T := [⟨[.old 3], _, [], [], [21]⟩, ⟨[.op 0 0], _, [], [0], [5]⟩]) (F := [.old 0, .old 1, .op 1 0, .old 2, .old 3]) (hst.pick [0, 1, 2, 3] rfl) hb Zb
           (o_p rfl (Za rfl rfl u_0) <| o_p rfl (Zc rfl rfl u_0) <| o_n) (by kernel_rfl) (fun a g hst hb => ?_)
         obtain ⟨r10, h11, H1⟩ := Zg H1
         refine r_s (T := [⟨[.old 0], _, [], [], [23]⟩, ⟨[.old 2], _, [], [], [24]⟩, ⟨[.op 0 0, .op 1 0], _, [], [0, 1], [25]⟩, ⟨[.op 2 0], _, [], [0, 1, 2], [22]⟩, ⟨[.op 3 0], _, [], Lr 4, [26]⟩, ⟨[.op 3 0], _, [], Lr 4, [27]⟩, ⟨[.op 3 0], _, [], Lr 4, [28]⟩, ⟨[], [(7, (pBox Zj 7 (default : Zd)))], [8], [], [7]⟩, ⟨[.op 4 0], _, [], [0, 1, 2, 3, 4, 7], [6]⟩, ⟨[.op 5 0, .op 7 0], _, [8], [0, 1, 2, 3, 4, 5, 7, 8], [7]⟩, ⟨[.op 6 0], _, [], Lr 10, [8]⟩]) (F := [.old 0, .old 1, .old 2, .op 8 0, .op 9 0, .old 3, .old 4]) hst hb Zb
           (o_p rfl (Zf Zbs rfl rfl u_0) <| o_p rfl (Za rfl rfl u_0) <| o_p rfl (Zo Z53 (Zm9 _ _ h11) rfl rfl (.cons u_0 (.cons u_1 .nil))) <| o_p rfl (Za rfl rfl u_0) <| o_p rfl (Z5 rfl rfl u_0 rfl) <| o_p rfl (Z5 rfl rfl u_0 rfl) <| o_p rfl (Z5 rfl rfl u_0 rfl) <| o_p rfl (Zbg (zs := [.int .i64 0, .int .i64 0, .int .i64 0, .int .i64 0, .float .f64 0, .int .i64 0, .string ByteArray.empty, .slice none 0 0]) (by kernel_rfl) (fun g => Zch g) rfl rfl) <| o_p rfl (Zc rfl rfl u_0) <| o_p rfl (Zb1 Zbn rfl rfl u_1 u_0) <| o_p rfl (Zc rfl rfl u_0) <| o_n) (by kernel_rfl) (fun a g hst hb => ?_)
         obtain ⟨r12, h13, H1⟩ := Zg H1
         refine r_s (T := [⟨[.old 1], _, [], [], [30]⟩, ⟨[.old 2], _, [], [], [31]⟩, ⟨[.op 0 0, .op 1 0], _, [], [0, 1], [32]⟩, ⟨[.op 2 0], _, [], [0, 1, 2], [29]⟩, ⟨[.op 3 0], _, [], Lr 4, [33]⟩, ⟨[.op 3 0], _, [], Lr 4, [34]⟩, ⟨[.op 3 0], _, [], Lr 4, [35]⟩, ⟨[], [(10, (pBox Zj 10 (default : Zd)))], [11], [], [10]⟩, ⟨[.op 4 0], _, [], [0, 1, 2, 3, 4, 7], [9]⟩, ⟨[.op 5 0, .op 7 0], _, [11], [0, 1, 2, 3, 4, 5, 7, 8], [10]⟩, ⟨[.op 6 0], _, [], Lr 10, [11]⟩]) (F := [.old 0, .old 1, .old 3, .old 4, .op 8 0, .op 9 0, .old 5, .old 6]) hst hb Zb
           (o_p rfl (Zf Zbs rfl rfl u_0) <| o_p rfl (Za rfl rfl u_0) <| o_p rfl (Zo Z53 (Zm9 _ _ h13) rfl rfl (.cons u_0 (.cons u_1 .nil))) <| o_p rfl (Za rfl rfl u_0) <| o_p rfl (Z5 rfl rfl u_0 rfl) <| o_p rfl (Z5 rfl rfl u_0 rfl) <| o_p rfl (Z5 rfl rfl u_0 rfl) <| o_p rfl (Zbg (zs := [.int .i64 0, .int .i64 0, .int .i64 0, .int .i64 0, .float .f64 0, .int .i64 0, .string ByteArray.empty, .slice none 0 0]) (by kernel_rfl) (fun g => Zch g) rfl rfl) <| o_p rfl (Zc rfl rfl u_0) <| o_p rfl (Zb1 Zbn rfl rfl u_1 u_0) <| o_p rfl (Zc rfl rfl u_0) <| o_n) (by kernel_rfl) (fun a g hst hb => ?_)
         obtain ⟨r14, h15, H1⟩ := Zg H1
         refine r_s (T := [⟨[.old 2], _, [], [], [36]⟩, ⟨[.old 4], _, [], [], [37]⟩, ⟨[.op 0 0, .op 1 0], _, [], [0, 1], [38]⟩, ⟨[.op 2 0], _, [], [0, 1, 2], [39]⟩, ⟨[.op 3 0, .old 3], _, [], Lr 4, [40]⟩, ⟨[.op 3 0, .old 5], _, [], Lr 4, [41]⟩, ⟨[.op 3 0, .op 4 0, .op 5 0], _, [], Lr 6, [42]⟩, ⟨[.op 3 0, .op 6 0], _, [], Lr 7, [43]⟩, ⟨[.op 3 0, .op 7 0], _, [], Lr 8, [44]⟩]) (F := [.old 0, .old 1, .old 6, .old 7, .op 8 0]) hst hb Zb
           (o_p rfl (Za rfl rfl u_0) <| o_p rfl (Za rfl rfl u_0) <| o_p rfl (Zt8 rfl rfl u_0 u_1) <| o_p rfl (Za rfl rfl u_0) <| o_g (g_f rfl rfl rfl (fun hG => Zf Zbn rfl rfl u_0)) <| o_g (g_f rfl rfl rfl (fun hG => Zf Zbn rfl rfl u_0)) <| o_g (g_f rfl rfl rfl (fun hG => Zo Z0s (Zok _ _ (Zbb h15 hG)) rfl rfl (.cons (Opd.gd hG u_0) (.cons (Opd.gd hG u_1) .nil)))) <| o_g (g_f rfl rfl rfl (fun hG => Zcr rfl rfl (Opd.gd hG u_0))) <| o_p rfl (Zbi rfl rfl u_0 (fun hz => (Opd.gd (bNF hz) u_1))) <| o_n) (by kernel_rfl) (fun a g hst hb => ?_)
         refine wp_cond_split (hst.bool 4 rfl) (fun hc16 => ?_) (fun hc16 => ?_)
         · replace H1 := Zy hc16 H1
           refine r_s (L := []) (T := [⟨[], _, [], [], [4]⟩]) (F := [.op 0 0]) (hst.pick [] rfl) hb Zb
             (o_p rfl (Zc rfl rfl c_b) <| o_n) (by kernel_rfl) (fun a g hst hb => ?_)
           refine wp_ret ?_
           refine Zw ?_
           refine Zp ?_
           refine Zp ?_
           refine Zw ?_
           refine Zp ?_
           refine Zp ?_
           obtain rfl := Option.some.inj H1
           obtain rfl := Option.some.inj H0
           exact Zx rfl hst hb (Zk (s := 4)) (hst.at 0 rfl)
         · replace H1 := Zz hc16 H1
           refine wp_skip ?_
           refine Zbu ?_
           refine Zv ?_
           refine r_g (L := [(2, _), (3, _), (18, _), (19, _)]) (T := [⟨[.old 3], _, [], [], [45]⟩, ⟨[.op 0 0], _, [], [0], [19]⟩]) (F := [.old 0, .old 1, .old 2, .op 1 0]) (hst.pick [0, 1, 2, 3] rfl) hb Zb
             (o_p rfl (Zcd rfl rfl u_0 c_i rfl) <| o_p rfl (Za rfl rfl u_0) <| o_n) (by kernel_rfl) (fun a g hst hb => ?_)
           exact ⟨n, Nat.lt_succ_self _, (IntKind.i64.wrap (x8 + (1 : Int))), g, rfl, (hst.pick [0, 1, 2, 3] rfl), hb, H1⟩
       · replace H1 := Zz hc9 H1
         refine wp_exit ?_
         refine Zb5 ?_
         refine Zb5 ?_
         refine Zct ?_
         exact ⟨g, rfl, (hst.pick [] rfl), hb, Option.some.inj H1⟩
theorem Znc (a0 : Int) (a1 : List Z6) (a2 : List Zbk) {r : Bool} (h : Zgu a0 a1 a2 = some r) : FnOk Tryz.prog 3 [(pInt .i64 a0), (Zb0.sl.pd a1), ((Kd.arr 2 Zcf).pd a2)] (Zba r) := by
 have H0 := h
 unfold Zgu at H0
 clear h
 refine Zbr (N := 100) Tryz.func3 rfl rfl (Nat.le_of_ble_eq_true rfl) rfl rfl (fun a g0 hst hb => ?_)
 refine r_s (T := [⟨[.old 2], _, [], [], [5]⟩, ⟨[], _, [], [], [6]⟩]) (F := [.old 0, .old 1, .op 0 0]) hst hb Zb
   (o_p rfl (Zbh rfl rfl u_0) <| o_p rfl (Zc rfl rfl c_b) <| o_n) (by kernel_rfl) (fun a g hst hb => ?_)
 refine wp_seq ?_
 obtain ⟨r1, h2, H0⟩ := Zg H0
 refine r_s (T := [⟨[], _, [], [], [13]⟩, ⟨[.op 0 0], _, [], [0], [14]⟩]) (F := [.old 0, .old 1, .old 2, .op 1 0]) hst hb Zb
   (o_p rfl (Zo en_4 (Zo1 h2) rfl rfl .nil) <| o_p rfl (Zcr rfl rfl u_0) <| o_n) (by kernel_rfl) (fun a g hst hb => ?_)
 refine wp_cond_split (hst.bool 3 rfl) (fun hc3 => ?_) (fun hc3 => ?_)
 · replace H0 := Zy hc3 H0
   refine r_s (L := []) (T := [⟨[], _, [], [], [6]⟩]) (F := [.op 0 0]) (hst.pick [] rfl) hb Zb
     (o_p rfl (Zc rfl rfl c_b) <| o_n) (by kernel_rfl) (fun a g hst hb => ?_)
   refine wp_ret ?_
   refine Zp ?_
   obtain rfl := Option.some.inj H0
   exact Zx rfl hst hb (Zk (s := 6)) (hst.at 0 rfl)
 · replace H0 := Zz hc3 H0
   refine wp_skip ?_
   refine Zv ?_
   obtain ⟨r4, h5, H0⟩ := Zg H0
   refine r_s (L := [(0, _), (1, _), (5, _)]) (T := [⟨[.old 0], _, [], [], [16]⟩, ⟨[.old 1], _, [], [], [17]⟩, ⟨[.op 0 0, .op 1 0], _, [], [0, 1], [18]⟩, ⟨[.op 2 0], _, [], [0, 1, 2], [15]⟩, ⟨[.op 3 0], _, [], Lr 4, [19]⟩, ⟨[.op 3 0], _, [], Lr 4, [20]⟩, ⟨[], [(7, (pBox Z1 7 (default : Zn)))], [8], [], [7]⟩, ⟨[.op 4 0, .op 6 0], _, [8], [0, 1, 2, 3, 4, 6], [7]⟩, ⟨[.op 5 0], _, [], Lr 8, [8]⟩]) (F := [.old 2, .op 7 0, .op 8 0]) (hst.pick [0, 1, 2] rfl) hb Zb
     (o_p rfl (Za rfl rfl u_0) <| o_p rfl (Za rfl rfl u_0) <| o_p rfl (Zo en_5 (Zps _ _ h5) rfl rfl (.cons u_0 (.cons u_1 .nil))) <| o_p rfl (Za rfl rfl u_0) <| o_p rfl (Z5 rfl rfl u_0 rfl) <| o_p rfl (Z5 rfl rfl u_0 rfl) <| o_p rfl (Zbg (zs := [.pointer none, .int .i64 0]) (by kernel_rfl) (fun g => Zcm g) rfl rfl) <| o_p rfl (Zb1 Zbs rfl rfl u_1 u_0) <| o_p rfl (Zc rfl rfl u_0) <| o_n) (by kernel_rfl) (fun a g hst hb => ?_)
   refine wp_seq ?_
   obtain ⟨r6, h7, H0⟩ := Zg H0; obtain ⟨e8, h9, H0⟩ := Zg H0; obtain ⟨e10, h11, H0⟩ := Zg H0; obtain ⟨r12, h13, H0⟩ := Zg H0
   refine r_s (T := ⟨[.old 2], _, [], [], [21]⟩ :: ⟨[.op 0 0], _, [], [0], [22]⟩ :: ⟨[.op 1 0], _, [], [0, 1], [23]⟩ :: ⟨[.op 2 0, .old 0], _, [], [0, 1, 2], [24]⟩ :: ⟨[.op 2 0, .op 3 0], _, [], Lr 4, [25]⟩ :: ⟨[.op 2 0, .op 4 0], _, [], Lr 5, [26]⟩ :: ⟨[.op 2 0, .op 5 0], _, [], Lr 6, [27]⟩ :: ⟨[.op 6 0], _, [], Lr 7, [28]⟩ :: ⟨[.op 7 0, .old 0], _, [], Lr 8, [29]⟩ :: ⟨[.op 7 0, .op 8 0], _, [], Lr 9, [30]⟩ :: ⟨[.op 7 0, .old 0], _, [], Lr 8, [31]⟩ :: ⟨[.op 7 0, .op 10 0], _, [], [0, 1, 2, 3, 4, 5, 6, 7, 10], [32]⟩ :: ⟨[.op 7 0, .op 9 0, .op 11 0], _, [], Lr 12, [33]⟩ :: ⟨[.op 7 0, .op 12 0], _, [], Lr 13, [34]⟩ :: []) (F := [.old 0, .old 1, .old 2, .op 13 0]) hst hb Zb
     (o_p rfl (Za rfl rfl u_0) <| o_p rfl (Zns Tryz.underlying31 rfl rfl u_0 Zv2) <| o_p rfl (Za rfl rfl u_0) <| o_g (g_f rfl rfl rfl (fun hG => Zv3 Tryz.underlying26 Zla (by decide) rfl rfl u_0)) <| o_g (g_f rfl rfl rfl (fun hG => Zo en_6 (Zmu _ (Zbb h7 hG)) rfl rfl (.cons (Opd.gd hG u_0) .nil))) <| o_g (g_f rfl rfl rfl (fun hG => Zci rfl rfl (Opd.gd hG u_0) c_i)) <| o_p rfl (Zbi rfl rfl u_0 (fun hz => (Opd.gd (bNF hz) u_1))) <| o_p rfl (Za rfl rfl u_0) <| o_g (g_f rfl rfl rfl (fun hG => Zgv Tryz.underlying26 Zla rfl rfl u_0 c_i (Zbb h9 hG))) <| o_g (g_f rfl rfl rfl (fun hG => Zf Zht rfl rfl (Opd.gd hG u_0))) <| o_g (g_f rfl rfl rfl (fun hG => Zgv Tryz.underlying26 Zla rfl rfl u_0 c_i (Zbb h11 hG))) <| o_g (g_f rfl rfl rfl (fun hG => Zf Zht rfl rfl (Opd.gd hG u_0))) <| o_g (g_f rfl rfl rfl (fun hG => Zo en_7 (Zs2 _ _ (Zbb h13 hG)) rfl rfl (.cons (Opd.gd hG u_0) (.cons (Opd.gd hG u_1) .nil)))) <| o_p rfl (Zbi rfl rfl u_0 (fun hz => (Opd.gd (bNF hz) u_1))) <| o_n) (by kernel_rfl) (fun a g hst hb => ?_)
   refine wp_cond_split (hst.bool 3 rfl) (fun hc14 => ?_) (fun hc14 => ?_)
   · replace H0 := Zy hc14 H0
     obtain ⟨r15, h16, H0⟩ := Zg H0; obtain ⟨e17, h18, H0⟩ := Zg H0; obtain ⟨e19, h20, H0⟩ := Zg H0; obtain ⟨r21, h22, H0⟩ := Zg H0
     refine r_s (L := [(5, _), (8, _)]) (T := ⟨[.old 1], _, [], [], [35]⟩ :: ⟨[.op 0 0], _, [], [0], [36]⟩ :: ⟨[.op 1 0], _, [], [0, 1], [37]⟩ :: ⟨[.op 2 0, .old 0], _, [], [0, 1, 2], [38]⟩ :: ⟨[.op 2 0, .op 3 0], _, [], Lr 4, [39]⟩ :: ⟨[.op 2 0, .op 4 0], _, [], Lr 5, [40]⟩ :: ⟨[.op 2 0, .op 5 0], _, [], Lr 6, [41]⟩ :: ⟨[.op 6 0], _, [], Lr 7, [42]⟩ :: ⟨[.op 7 0, .old 0], _, [], Lr 8, [43]⟩ :: ⟨[.op 7 0, .op 8 0], _, [], Lr 9, [44]⟩ :: ⟨[.op 7 0, .old 0], _, [], Lr 8, [45]⟩ :: ⟨[.op 7 0, .op 10 0], _, [], [0, 1, 2, 3, 4, 5, 6, 7, 10], [46]⟩ :: ⟨[.op 7 0, .op 9 0, .op 11 0], _, [], Lr 12, [47]⟩ :: ⟨[.op 7 0, .op 12 0], _, [], Lr 13, [48]⟩ :: ⟨[.op 13 0], _, [], Lr 14, [6]⟩ :: []) (F := [.op 14 0]) (hst.pick [0, 2] rfl) hb Zb
       (o_p rfl (Za rfl rfl u_0) <| o_p rfl (Zns Tryz.underlying31 rfl rfl u_0 Zv2) <| o_p rfl (Za rfl rfl u_0) <| o_g (g_f rfl rfl rfl (fun hG => Zv3 Tryz.underlying26 Zla (by decide) rfl rfl u_0)) <| o_g (g_f rfl rfl rfl (fun hG => Zo en_6 (Zmu _ (Zbb h16 hG)) rfl rfl (.cons (Opd.gd hG u_0) .nil))) <| o_g (g_f rfl rfl rfl (fun hG => Zci rfl rfl (Opd.gd hG u_0) c_i)) <| o_p rfl (Zbi rfl rfl u_0 (fun hz => (Opd.gd (bNF hz) u_1))) <| o_p rfl (Za rfl rfl u_0) <| o_g (g_f rfl rfl rfl (fun hG => Zgv Tryz.underlying26 Zla rfl rfl u_0 c_i (Zbb h18 hG))) <| o_g (g_f rfl rfl rfl (fun hG => Zf Zht rfl rfl (Opd.gd hG u_0))) <| o_g (g_f rfl rfl rfl (fun hG => Zgv Tryz.underlying26 Zla rfl rfl u_0 c_i (Zbb h20 hG))) <| o_g (g_f rfl rfl rfl (fun hG => Zf Zht rfl rfl (Opd.gd hG u_0))) <| o_g (g_f rfl rfl rfl (fun hG => Zo en_8 (Zn5 _ _ (Zbb h22 hG)) rfl rfl (.cons (Opd.gd hG u_0) (.cons (Opd.gd hG u_1) .nil)))) <| o_p rfl (Zbi rfl rfl u_0 (fun hz => (Opd.gd (bNF hz) u_1))) <| o_p rfl (Zc rfl rfl u_0) <| o_n) (by kernel_rfl) (fun a g hst hb => ?_)
     refine wp_ret ?_
     refine Zp ?_
     obtain rfl := Option.some.inj H0
     exact Zx rfl hst hb (Zk (s := 6)) (hst.at 0 rfl)
   · replace H0 := Zz hc14 H0
     refine wp_skip ?_
     refine Zv ?_
     obtain ⟨e23, h24, H0⟩ := Zg H0; obtain ⟨e25, h26, H0⟩ := Zg H0; obtain ⟨r27, h28, H0⟩ := Zg H0
     refine r_s (L := [(5, _), (7, _)]) (T := ⟨[.old 1], _, [], [], [50]⟩ :: ⟨[.old 0], _, [], [], [51]⟩ :: ⟨[.op 1 0], _, [], [1], [52]⟩ :: ⟨[.old 0], _, [], [], [53]⟩ :: ⟨[.op 3 0], _, [], [3], [54]⟩ :: ⟨[.op 2 0, .op 4 0], _, [], List.range' 1 4, [55]⟩ :: ⟨[.op 0 0, .op 5 0], _, [], Lr 6, [56]⟩ :: ⟨[.op 6 0], _, [], Lr 7, [49]⟩ :: ⟨[.op 7 0], _, [], Lr 8, [57]⟩ :: ⟨[.op 7 0], _, [], Lr 8, [58]⟩ :: ⟨[], [(9, (pBox Z1 9 (default : Zn)))], [10], [], [9]⟩ :: ⟨[.op 8 0, .op 10 0], _, [10], [0, 1, 2, 3, 4, 5, 6, 7, 8, 10], [9]⟩ :: ⟨[.op 9 0], _, [], Lr 12, [10]⟩ :: []) (F := [.old 0, .old 1, .op 11 0, .op 12 0]) (hst.pick [0, 1] rfl) hb Zb
       (o_p rfl (Zf Zbs rfl rfl u_0) <| o_p rfl (Zgv Tryz.underlying26 Zla rfl rfl u_0 c_i h24) <| o_p rfl (Zf Zht rfl rfl u_0) <| o_p rfl (Zgv Tryz.underlying26 Zla rfl rfl u_0 c_i h26) <| o_p rfl (Zf Zht rfl rfl u_0) <| o_p rfl (Zi2 Z1v (xs := [.tmp 52, .tmp 54]) (.cons u_0 (.cons u_1 .nil)) (by decide) rfl rfl) <| o_p rfl (Zo en_9 (Zoj _ _ h28) rfl rfl (.cons u_0 (.cons u_1 .nil))) <| o_p rfl (Za rfl rfl u_0) <| o_p rfl (Z5 rfl rfl u_0 rfl) <| o_p rfl (Z5 rfl rfl u_0 rfl) <| o_p rfl (Zbg (zs := [.pointer none, .int .i64 0]) (by kernel_rfl) (fun g => Zcm g) rfl rfl) <| o_p rfl (Zb1 Zbs rfl rfl u_1 u_0) <| o_p rfl (Zc rfl rfl u_0) <| o_n) (by kernel_rfl) (fun a g hst hb => ?_)
     obtain ⟨e29, h30, H0⟩ := Zg H0; obtain ⟨e31, h32, H0⟩ := Zg H0; obtain ⟨r33, h34, H0⟩ := Zg H0
     refine r_s (T := ⟨[.old 1], _, [], [], [60]⟩ :: ⟨[.old 0], _, [], [], [61]⟩ :: ⟨[.op 1 0], _, [], [1], [62]⟩ :: ⟨[.old 0], _, [], [], [63]⟩ :: ⟨[.op 3 0], _, [], [3], [64]⟩ :: ⟨[.op 2 0, .op 4 0], _, [], List.range' 1 4, [65]⟩ :: ⟨[.op 0 0, .op 5 0], _, [], Lr 6, [66]⟩ :: ⟨[.op 6 0], _, [], Lr 7, [59]⟩ :: ⟨[.op 7 0], _, [], Lr 8, [67]⟩ :: ⟨[.op 7 0], _, [], Lr 8, [68]⟩ :: ⟨[], [(11, (pBox Z1 11 (default : Zn)))], [12], [], [11]⟩ :: ⟨[.op 8 0, .op 10 0], _, [12], [0, 1, 2, 3, 4, 5, 6, 7, 8, 10], [11]⟩ :: ⟨[.op 9 0], _, [], Lr 12, [12]⟩ :: []) (F := [.old 2, .old 3, .op 11 0, .op 12 0]) hst hb Zb
       (o_p rfl (Zf Zbs rfl rfl u_0) <| o_p rfl (Zgv Tryz.underlying26 Zla rfl rfl u_0 c_i h30) <| o_p rfl (Zf Zht rfl rfl u_0) <| o_p rfl (Zgv Tryz.underlying26 Zla rfl rfl u_0 c_i h32) <| o_p rfl (Zf Zht rfl rfl u_0) <| o_p rfl (Zi2 Z1v (xs := [.tmp 62, .tmp 64]) (.cons u_0 (.cons u_1 .nil)) (by decide) rfl rfl) <| o_p rfl (Zo en_9 (Zoj _ _ h34) rfl rfl (.cons u_0 (.cons u_1 .nil))) <| o_p rfl (Za rfl rfl u_0) <| o_p rfl (Z5 rfl rfl u_0 rfl) <| o_p rfl (Z5 rfl rfl u_0 rfl) <| o_p rfl (Zbg (zs := [.pointer none, .int .i64 0]) (by kernel_rfl) (fun g => Zcm g) rfl rfl) <| o_p rfl (Zb1 Zbs rfl rfl u_1 u_0) <| o_p rfl (Zc rfl rfl u_0) <| o_n) (by kernel_rfl) (fun a g hst hb => ?_)
     obtain ⟨r35, h36, H0⟩ := Zg H0; obtain ⟨e37, h38, H0⟩ := Zg H0; obtain ⟨e39, h40, H0⟩ := Zg H0; obtain ⟨r41, h42, H0⟩ := Zg H0; obtain ⟨e43, h44, H0⟩ := Zg H0; obtain ⟨e45, h46, H0⟩ := Zg H0; obtain ⟨r47, h48, H0⟩ := Zg H0
     refine r_s (T := ⟨[.old 1], _, [], [], [69]⟩ :: ⟨[.op 0 0], _, [], [0], [70]⟩ :: ⟨[.op 1 0], _, [], [0, 1], [71]⟩ :: ⟨[.op 2 0], _, [], [0, 1, 2], [72]⟩ :: ⟨[.op 3 0, .old 3], _, [], Lr 4, [73]⟩ :: ⟨[.op 3 0, .op 4 0], _, [], Lr 5, [74]⟩ :: ⟨[.op 3 0, .op 5 0], _, [], Lr 6, [75]⟩ :: ⟨[.op 3 0, .op 6 0], _, [], Lr 7, [76]⟩ :: ⟨[.op 7 0], _, [], Lr 8, [77]⟩ :: ⟨[.op 8 0, .old 0], _, [], Lr 9, [78]⟩ :: ⟨[.op 8 0, .old 2], _, [], Lr 9, [79]⟩ :: ⟨[.op 8 0, .op 9 0, .op 10 0], _, [], Lr 11, [80]⟩ :: ⟨[.op 8 0, .op 11 0], _, [], Lr 12, [81]⟩ :: ⟨[.op 12 0], _, [], Lr 13, [82]⟩ :: ⟨[.op 13 0, .old 1], _, [], Lr 14, [83]⟩ :: ⟨[.op 13 0, .op 14 0], _, [], Lr 15, [84]⟩ :: ⟨[.op 13 0, .op 15 0], _, [], Lr 16, [85]⟩ :: ⟨[.op 13 0, .old 3], _, [], Lr 14, [86]⟩ :: ⟨[.op 13 0, .op 17 0], _, [], 0 :: 1 :: 2 :: 3 :: 4 :: 5 :: 6 :: 7 :: 8 :: 9 :: 10 :: 11 :: 12 :: 13 :: 17 :: [], [87]⟩ :: ⟨[.op 13 0, .op 18 0], _, [], 0 :: 1 :: 2 :: 3 :: 4 :: 5 :: 6 :: 7 :: 8 :: 9 :: 10 :: 11 :: 12 :: 13 :: 17 :: 18 :: [], [88]⟩ :: ⟨[.op 13 0, .op 16 0, .op 19 0], _, [], Lr 20, [89]⟩ :: ⟨[.op 13 0, .op 20 0], _, [], Lr 21, [90]⟩ :: ⟨[.op 21 0], _, [], Lr 22, [91]⟩ :: ⟨[.op 22 0, .old 1], _, [], Lr 23, [92]⟩ :: ⟨[.op 22 0, .op 23 0], _, [], Lr 24, [93]⟩ :: ⟨[.op 22 0, .op 24 0], _, [], Lr 25, [94]⟩ :: ⟨[.op 22 0, .old 3], _, [], Lr 23, [95]⟩ :: ⟨[.op 22 0, .op 26 0], _, [], 0 :: 1 :: 2 :: 3 :: 4 :: 5 :: 6 :: 7 :: 8 :: 9 :: 10 :: 11 :: 12 :: 13 :: 14 :: 15 :: 16 :: 17 :: 18 :: 19 :: 20 :: 21 :: 22 :: 26 :: [], [96]⟩ :: ⟨[.op 22 0, .op 27 0], _, [], 0 :: 1 :: 2 :: 3 :: 4 :: 5 :: 6 :: 7 :: 8 :: 9 :: 10 :: 11 :: 12 :: 13 :: 14 :: 15 :: 16 :: 17 :: 18 :: 19 :: 20 :: 21 :: 22 :: 26 :: 27 :: [], [97]⟩ :: ⟨[.op 22 0, .op 25 0, .op 28 0], _, [], Lr 29, [98]⟩ :: ⟨[.op 22 0, .op 29 0], _, [], Lr 30, [99]⟩ :: ⟨[.op 30 0], _, [], Lr 31, [6]⟩ :: []) (F := [.op 31 0]) hst hb Zb
       (o_p rfl (Za rfl rfl u_0) <| o_p rfl (Zb4 Tryz.underlying37 rfl rfl u_0) <| o_p rfl (Zbj rfl rfl u_0 c_i) <| o_p rfl (Za rfl rfl u_0) <| o_g (g_t rfl rfl rfl (fun hG => Za rfl rfl u_0)) <| o_g (g_t rfl rfl rfl (fun hG => Zb4 Tryz.underlying37 rfl rfl (Opd.gd hG u_0))) <| o_g (g_t rfl rfl rfl (fun hG => Zbj rfl rfl (Opd.gd hG u_0) c_i)) <| o_p rfl (Zbf rfl rfl u_0 (fun hz => (Opd.gd hz u_1))) <| o_p rfl (Za rfl rfl u_0) <| o_g (g_t rfl rfl rfl (fun hG => Zf Zbs rfl rfl u_0)) <| o_g (g_t rfl rfl rfl (fun hG => Zf Zbs rfl rfl u_0)) <| o_g (g_t rfl rfl rfl (fun hG => Zo Z96 (Zwr _ _ (Zbb h36 hG)) rfl rfl (.cons (Opd.gd hG u_0) (.cons (Opd.gd hG u_1) .nil)))) <| o_p rfl (Zbf rfl rfl u_0 (fun hz => (Opd.gd hz u_1))) <| o_p rfl (Za rfl rfl u_0) <| o_g (g_t rfl rfl rfl (fun hG => Za rfl rfl u_0)) <| o_g (g_t rfl rfl rfl (fun hG => Zbp Tryz.underlying37 Zpz rfl rfl (Opd.gd hG u_0) c_i (Zbb h38 hG))) <| o_g (g_t rfl rfl rfl (fun hG => Zf Zja rfl rfl (Opd.gd hG u_0))) <| o_g (g_t rfl rfl rfl (fun hG => Za rfl rfl u_0)) <| o_g (g_t rfl rfl rfl (fun hG => Zbp Tryz.underlying37 Zpz rfl rfl (Opd.gd hG u_0) c_i (Zbb h40 hG))) <| o_g (g_t rfl rfl rfl (fun hG => Zf Zja rfl rfl (Opd.gd hG u_0))) <| o_g (g_t rfl rfl rfl (fun hG => Zo Z1j (Zm7 _ _ (Zbb h42 hG)) rfl rfl (.cons (Opd.gd hG u_0) (.cons (Opd.gd hG u_1) .nil)))) <| o_p rfl (Zbf rfl rfl u_0 (fun hz => (Opd.gd hz u_1))) <| o_p rfl (Za rfl rfl u_0) <| o_g (g_t rfl rfl rfl (fun hG => Za rfl rfl u_0)) <| o_g (g_t rfl rfl rfl (fun hG => Zbp Tryz.underlying37 Zpz rfl rfl (Opd.gd hG u_0) c_i (Zbb h44 hG))) <| o_g (g_t rfl rfl rfl (fun hG => Zf Zja rfl rfl (Opd.gd hG u_0))) <| o_g (g_t rfl rfl rfl (fun hG => Za rfl rfl u_0)) <| o_g (g_t rfl rfl rfl (fun hG => Zbp Tryz.underlying37 Zpz rfl rfl (Opd.gd hG u_0) c_i (Zbb h46 hG))) <| o_g (g_t rfl rfl rfl (fun hG => Zf Zja rfl rfl (Opd.gd hG u_0))) <| o_g (g_t rfl rfl rfl (fun hG => Zo Z1j (Zm7 _ _ (Zbb h48 hG)) rfl rfl (.cons (Opd.gd hG u_0) (.cons (Opd.gd hG u_1) .nil)))) <| o_p rfl (Zbf rfl rfl u_0 (fun hz => (Opd.gd hz u_1))) <| o_p rfl (Zc rfl rfl u_0) <| o_n) (by kernel_rfl) (fun a g hst hb => ?_)
     refine wp_ret ?_
     obtain rfl := Option.some.inj H0
     exact Zx rfl hst hb (Zk (s := 6)) (hst.at 0 rfl)
end Go.CL
namespace Go.CL
open Go
def Zlp (a0 : Zs) (a1 : ByteArray) : Option (Zs × Bool) := ((Zel a0 a1).bind fun r1 => ((gd (!(decide ((a0.L.length : Int) ≤ r1))) (idx a0.L r1)).bind fun e3 => (if ((decide ((a0.L.length : Int) ≤ r1)) || (!sEq e3.Key a1)) then (some (a0, false)) else ((cut a0.L (0 : Int) r1).bind fun c6 => (if (([] : List Z6).length + c6.length) * 104 ≤ 140737488355328 then ((cut a0.L (IntKind.i64.wrap (r1 + (1 : Int))) (a0.L.length : Int)).bind fun c9 => (if ((([] : List Z6) ++ c6).length + c9.length) * 104 ≤ 140737488355328 then (some (({ L := ((([] : List Z6) ++ c6) ++ c9), Room := a0.Room } : Zs), true)) else none)) else none)))))
def Zgf (a0 : Zd) (a1 : Zd) : Nat → (Int) → Option ((Bool) ⊕ (Unit))
 | 0, _ => none
 | n + 1, x5 => (if (decide (x5 < (a0.List.length : Int))) then ((idx a0.List x5).bind fun e7 => ((idx a1.List x5).bind fun e9 => ((gd (!(!sEq e7.Name e9.Name)) (idx a0.List x5)).bind fun e11 => ((gd (!(!sEq e7.Name e9.Name)) (idx a1.List x5)).bind fun e13 => ((gd (!(!sEq e7.Name e9.Name)) (Zdi e11.Score e13.Score)).bind fun r15 => (if ((!sEq e7.Name e9.Name) || (!r15)) then (some (.inl false)) else ((Zgf a0 a1 n) (IntKind.i64.wrap (x5 + (1 : Int)))))))))) else (some (.inr ())))
def Zle (a0 : Zd) (a1 : Zd) : Option (Bool) := (if ((((((a0.Kind != a1.Kind) || (a0.Num != a1.Num)) || (a0.Low != a1.Low)) || (a0.High != a1.High)) || (a0.Cap != a1.Cap)) || (!sEq a0.Text a1.Text)) then (some false) else ((Zdi a0.Real a1.Real).bind fun r2 => (if ((!r2) || ((a0.List.length : Int) != (a1.List.length : Int))) then (some false) else ((Zgf a0 a1 (Int.toNat ((a0.List.length : Int) - (0 : Int)) + 1) (0 : Int)).bind fun z18 => match z18 with | .inl r => some r | .inr () => (some true)))))
def Zqt (a0 : Int) : Option (ByteArray) := (if ((decide (a0 < (0 : Int))) || (decide ((21 : Int) < a0))) then (some (⟨#[]⟩ : ByteArray)) else ((idx ([(⟨#[]⟩ : ByteArray), (⟨#[109]⟩ : ByteArray), (⟨#[]⟩ : ByteArray), (⟨#[]⟩ : ByteArray), (⟨#[]⟩ : ByteArray), (⟨#[115]⟩ : ByteArray), (⟨#[115]⟩ : ByteArray), (⟨#[110]⟩ : ByteArray), (⟨#[110]⟩ : ByteArray), (⟨#[110]⟩ : ByteArray), (⟨#[110]⟩ : ByteArray), (⟨#[110]⟩ : ByteArray), (⟨#[110]⟩ : ByteArray), (⟨#[120]⟩ : ByteArray), (⟨#[120]⟩ : ByteArray), (⟨#[120]⟩ : ByteArray), (⟨#[120]⟩ : ByteArray), (⟨#[120]⟩ : ByteArray), (⟨#[115]⟩ : ByteArray), (⟨#[115]⟩ : ByteArray), (⟨#[115]⟩ : ByteArray), (⟨#[120, 115]⟩ : ByteArray)] : List ByteArray) a0).bind fun e2 => (some e2)))
def Zms (a1 : Int) (r1 : ByteArray) : Nat → (Int) → Option ((Bool) ⊕ (Unit))
 | 0, _ => none
 | n + 1, x3 => (if (decide (x3 < (r1.size : Int))) then ((sidx r1 x3).bind fun b5 => (if (b5 == a1) then (some (.inl true)) else ((Zms a1 r1 n) (IntKind.i64.wrap (x3 + (1 : Int)))))) else (some (.inr ())))
def Zet (a0 : Int) (a1 : Int) : Option (Bool) := ((Zqt a0).bind fun r1 => ((Zms a1 r1 (Int.toNat ((r1.size : Int) - (0 : Int)) + 1) (0 : Int)).bind fun z8 => match z8 with | .inl r => some r | .inr () => (some false)))
def Zf8 (a0 : Zm) : Option (Int) := (if ((decide (a0.Kind < (1 : Int))) || (decide ((21 : Int) < a0.Kind))) then (some (5 : Int)) else (if ((decide ((a0.Key.size : Int) < (1 : Int))) || (decide ((24 : Int) < (a0.Key.size : Int)))) then (some (1 : Int)) else ((Zet a0.Kind (110 : Int)).bind fun r3 => ((gd (!((!r3) && (a0.N != (0 : Int)))) (Zet a0.Kind (120 : Int))).bind fun r5 => ((gd ((!((!r3) && (a0.N != (0 : Int)))) && (!r5)) (Zdi a0.X (0 : Nat))).bind fun r7 => ((gd (!(((!r3) && (a0.N != (0 : Int))) || ((!r5) && (!r7)))) (Zet a0.Kind (115 : Int))).bind fun r9 => (if ((((!r3) && (a0.N != (0 : Int))) || ((!r5) && (!r7))) || ((!r9) && (!sEq a0.S (⟨#[]⟩ : ByteArray)))) then (some (4 : Int)) else ((gd (a0.Kind != (1 : Int)) (Zle a0.Make ({ Kind := (0 : Int), Num := (0 : Int), Low := (0 : Int), High := (0 : Int), Real := (0 : Nat), Cap := (0 : Int), Text := ByteArray.empty, List := ([] : List Zi) } : Zd))).bind fun r12 => (if ((a0.Kind != (1 : Int)) && (!r12)) then (some (4 : Int)) else ((Ze6 a0.Kind).bind fun r15 => ((gd (!((r15 == (1 : Int)) && (decide ((64 : Int) < (a0.S.size : Int))))) (Ze6 a0.Kind)).bind fun r17 => (if (((r15 == (1 : Int)) && (decide ((64 : Int) < (a0.S.size : Int)))) || ((r17 != (1 : Int)) && (decide ((16 : Int) < (a0.S.size : Int))))) then (some (3 : Int)) else (if (((a0.Kind == (10 : Int)) || (a0.Kind == (11 : Int))) && ((decide (a0.N < (0 : Int))) || (decide ((2305843009213693952 : Int) < a0.N)))) then (some (1 : Int)) else ((Zey a0.X).bind fun r21 => (if (!r21) then (some (4 : Int)) else (if (a0.Kind == (1 : Int)) then ((Zdo a0.Make).bind fun r25 => (some r25)) else (some (0 : Int))))))))))))))))))
def Zj8 (a0 : Zd) : Option (Zd) := (if (([] : List Zi).length + a0.List.length) * 24 ≤ 140737488355328 then (some ({ a0 with List := (([] : List Zi) ++ a0.List) })) else none)
def Zh2 (a0 : Int) (a1 : Int) : Option (Bool) := (some ((((decide ((0 : Int) < a0)) && (decide ((0 : Int) < a1))) && (decide ((IntKind.i64.wrap (a0 + a1)) < (0 : Int)))) || (((decide (a0 < (0 : Int))) && (decide (a1 < (0 : Int)))) && (decide ((0 : Int) ≤ (IntKind.i64.wrap (a0 + a1)))))))
def Zip (a0 : Nat) (a1 : Nat) : Option (Nat) := ((Zeh a0 a1).bind fun r1 => (if r1 then (some a1) else (some a0)))
def Zib (a0 : Nat) (a1 : Nat) : Option (Nat) := ((Zeh a1 a0).bind fun r1 => (if r1 then (some a1) else (some a0)))
def Zfo (a0 : Int) : Option (Nat) := (if (decide ((9223372036854775808 : Int) ≤ a0)) then (some (Int.toNat (IntKind.u64.wrap (a0 - (9223372036854775808 : Int))))) else (some (Int.toNat (IntKind.u64.wrap ((9223372036854775808 : Int) + (IntKind.u64.wrap ((IntKind.u64.wrap ((9223372036854775808 : Int) - (1 : Int))) - a0)))))))
def Zi0 (a0 : Nat) : Option (Int) := ((Zez a0).bind fun r1 => (if r1 then (some (IntKind.u64.wrap ((9223372036854775808 : Int) + (9221120237041090561 : Int)))) else (if (decide ((9223372036854775808 : Int) ≤ (a0 : Int))) then (some (IntKind.u64.wrap ((IntKind.u64.wrap ((9223372036854775808 : Int) - (1 : Int))) - (IntKind.u64.wrap ((a0 : Int) - (9223372036854775808 : Int)))))) else (some (IntKind.u64.wrap ((9223372036854775808 : Int) + (a0 : Int)))))))
def Zg5 (a0 : List Zi) (a1 : ByteArray) : Nat → (Int) → Option ((Bool) ⊕ (Unit))
 | 0, _ => none
 | n + 1, x1 => (if (decide (x1 < (a0.length : Int))) then ((idx a0 x1).bind fun e3 => (if (sEq e3.Name a1) then (some (.inl true)) else ((Zg5 a0 a1 n) (IntKind.i64.wrap (x1 + (1 : Int)))))) else (some (.inr ())))
def Zfv (a0 : List Zi) (a1 : ByteArray) : Option (Bool) := ((Zg5 a0 a1 (Int.toNat ((a0.length : Int) - (0 : Int)) + 1) (0 : Int)).bind fun z6 => match z6 with | .inl r => some r | .inr () => (some false))
def Zh5 (j30 : List Zi) : Option (List Zi) := (some j30)
def Zeo (a0 : List Zi) (x3 : Int) (kk : (List Zi) → (Bool) → (Int) → Option ((List Zi) × Bool)) (j20 : List Zi) (j21 : Bool) : Option ((List Zi) × Bool) := ((idx a0 x3).bind fun e22 => (if (j20.length + ([e22] : List Zi).length) * 24 ≤ 140737488355328 then (kk (j20 ++ ([e22] : List Zi)) j21 (IntKind.i64.wrap (x3 + (1 : Int)))) else none))
def Zc0 (a0 : List Zi) (a1 : Zi) (a2 : Bool) : Nat → (List Zi) → (Bool) → (Int) → Option ((List Zi) × Bool)
 | 0, _, _, _ => none
 | n + 1, x1, x2, x3 => (if (decide (x3 < (a0.length : Int))) then ((gd (!a2) (idx a0 x3)).bind fun e5 => ((gd (!a2) (Ze7 e5 a1)).bind fun r7 => ((gd ((!((!a2) && r7)) && a2) (idx a0 x3)).bind fun e9 => ((idx a0 x3).bind fun e11 => ((gd ((sEq e11.Name a1.Name) && (!a2)) (idx a0 x3)).bind fun e13 => ((gd ((sEq e11.Name a1.Name) && (!a2)) (Zdi e13.Score a1.Score)).bind fun r15 => (if ((!x2) && (!(((!a2) && r7) || (a2 && (sLt e9.Name a1.Name))))) then (if (!((sEq e11.Name a1.Name) && (a2 || r15))) then (if (x1.length + ([a1] : List Zi).length) * 24 ≤ 140737488355328 then (Zeo a0 x3 (Zc0 a0 a1 a2 n) (x1 ++ ([a1] : List Zi)) true) else none) else (Zeo a0 x3 (Zc0 a0 a1 a2 n) x1 true)) else (Zeo a0 x3 (Zc0 a0 a1 a2 n) x1 x2)))))))) else (some (x1, x2)))
def Zew (a0 : List Zi) (a1 : Zi) (a2 : Bool) : Option (List Zi) := ((Zc0 a0 a1 a2 (Int.toNat ((a0.length : Int) - (0 : Int)) + 1) ([] : List Zi) false (0 : Int)).bind fun z27 => match z27 with | (y25, y26) => (if (!y26) then (if (y25.length + ([a1] : List Zi).length) * 24 ≤ 140737488355328 then (Zh5 (y25 ++ ([a1] : List Zi))) else none) else (Zh5 y25)))
def Zu (j65 : Zd) (j66 : Zh) : Option (Zd × Zh) := (some (j65, j66))
def Zk0 (x43 : Int) (kk : (List Zi) → (Int) → Option (List Zi)) (j51 : List Zi) : Option (List Zi) := (kk j51 (IntKind.i64.wrap (x43 + (1 : Int))))
def Zd4 (a0 : Zd) (a1 : Zm) : Nat → (List Zi) → (Int) → Option (List Zi)
 | 0, _, _ => none
 | n + 1, x42, x43 => (if (decide (x43 < (a0.List.length : Int))) then ((idx a0.List x43).bind fun e45 => (if (!sEq e45.Name a1.S) then ((idx a0.List x43).bind fun e48 => (if (x42.length + ([e48] : List Zi).length) * 24 ≤ 140737488355328 then (Zk0 x43 (Zd4 a0 a1 n) (x42 ++ ([e48] : List Zi))) else none)) else (Zk0 x43 (Zd4 a0 a1 n) x42))) else (some x42))
def Zdm (a0 : Zd) (j64 : List Zi) : Option (Zd × Zh) := (Zu ({ a0 with List := j64 }) ({ Code := (0 : Int), Num := (0 : Int), Rec := (default : Zd) } : Zh))
def Zbx (a0 : Zd) (a1 : Zm) (j11 : Bool) : Option (Zd × Zh) := (if j11 then (if (decide (a0.Num < a1.N)) then (Zu a0 ({ ({ Code := (0 : Int), Num := (0 : Int), Rec := (default : Zd) } : Zh) with Code := (11 : Int) })) else (Zu a0 ({ Code := (0 : Int), Num := (0 : Int), Rec := (default : Zd) } : Zh))) else (if (a1.Kind == (10 : Int)) then (if (decide (a0.High < (IntKind.i64.wrap (a0.Num + a1.N)))) then (Zu a0 ({ ({ Code := (0 : Int), Num := (0 : Int), Rec := (default : Zd) } : Zh) with Code := (9 : Int) })) else (Zu ({ a0 with Num := (IntKind.i64.wrap (a0.Num + a1.N)) }) ({ Code := (0 : Int), Num := (0 : Int), Rec := (default : Zd) } : Zh))) else (if (a1.Kind == (11 : Int)) then (if (decide ((IntKind.i64.wrap (a0.Num - a1.N)) < a0.Low)) then (Zu a0 ({ ({ Code := (0 : Int), Num := (0 : Int), Rec := (default : Zd) } : Zh) with Code := (10 : Int) })) else (Zu ({ a0 with Num := (IntKind.i64.wrap (a0.Num - a1.N)) }) ({ Code := (0 : Int), Num := (0 : Int), Rec := (default : Zd) } : Zh))) else (if (a1.Kind == (13 : Int)) then ((Zip a0.Real a1.X).bind fun r19 => (Zu ({ a0 with Real := r19 }) ({ Code := (0 : Int), Num := (0 : Int), Rec := (default : Zd) } : Zh))) else (if (a1.Kind == (14 : Int)) then ((Zib a0.Real a1.X).bind fun r22 => (Zu ({ a0 with Real := r22 }) ({ Code := (0 : Int), Num := (0 : Int), Rec := (default : Zd) } : Zh))) else (if (a1.Kind == (15 : Int)) then ((Zi0 (fadd a0.Real a1.X)).bind fun r25 => ((Zfo r25).bind fun r27 => (Zu ({ a0 with Real := r27 }) ({ Code := (0 : Int), Num := (0 : Int), Rec := (default : Zd) } : Zh)))) else (if (a1.Kind == (16 : Int)) then ((Zi0 (fmul a0.Real a1.X)).bind fun r30 => ((Zfo r30).bind fun r32 => (Zu ({ a0 with Real := r32 }) ({ Code := (0 : Int), Num := (0 : Int), Rec := (default : Zd) } : Zh)))) else (if (a1.Kind == (17 : Int)) then (Zu ({ a0 with Real := a1.X }) ({ Code := (0 : Int), Num := (0 : Int), Rec := (default : Zd) } : Zh)) else (if (a1.Kind == (18 : Int)) then ((Zfv a0.List a1.S).bind fun r36 => (if ((!r36) && (decide (a0.Cap ≤ (a0.List.length : Int)))) then (Zu a0 ({ ({ Code := (0 : Int), Num := (0 : Int), Rec := (default : Zd) } : Zh) with Code := (8 : Int) })) else ((Zew a0.List ({ Score := (0 : Nat), Name := a1.S } : Zi) true).bind fun r39 => (Zu ({ a0 with List := r39 }) ({ Code := (0 : Int), Num := (0 : Int), Rec := (default : Zd) } : Zh))))) else (if (a1.Kind == (19 : Int)) then ((Zd4 a0 a1 (Int.toNat ((a0.List.length : Int) - (0 : Int)) + 1) ([] : List Zi) (0 : Int)).bind fun z53 => match z53 with | y52 => (Zu ({ a0 with List := y52 }) ({ Code := (0 : Int), Num := (0 : Int), Rec := (default : Zd) } : Zh))) else (if (a1.Kind == (20 : Int)) then ((Zfv a0.List a1.S).bind fun r55 => (if (!r55) then (Zu a0 ({ ({ Code := (0 : Int), Num := (0 : Int), Rec := (default : Zd) } : Zh) with Code := (11 : Int) })) else (Zu a0 ({ Code := (0 : Int), Num := (0 : Int), Rec := (default : Zd) } : Zh)))) else (if (a1.Kind == (21 : Int)) then ((Zew a0.List ({ Score := a1.X, Name := a1.S } : Zi) false).bind fun r59 => (if (decide (a0.Cap < (r59.length : Int))) then ((cut r59 (0 : Int) a0.Cap).bind fun c62 => (Zdm a0 c62)) else (Zdm a0 r59))) else (Zu a0 ({ Code := (0 : Int), Num := (0 : Int), Rec := (default : Zd) } : Zh))))))))))))))
def Z9 (a0 : Zd) (a1 : Zm) : Option (Zd × Zh) := (if (a1.Kind == (5 : Int)) then (Zu ({ a0 with Text := a1.S }) ({ Code := (0 : Int), Num := (0 : Int), Rec := (default : Zd) } : Zh)) else (if (a1.Kind == (6 : Int)) then ((Zj8 a0).bind fun r3 => (Zu ({ a0 with Text := a1.S }) ({ ({ Code := (0 : Int), Num := (0 : Int), Rec := (default : Zd) } : Zh) with Rec := r3 }))) else (if (a1.Kind == (7 : Int)) then (Zu ({ a0 with Num := (IntKind.i64.wrap (a0.Num + a1.N)) }) ({ Code := (0 : Int), Num := (0 : Int), Rec := (default : Zd) } : Zh)) else (if (a1.Kind == (8 : Int)) then ((Zh2 a0.Num a1.N).bind fun r7 => (if r7 then (Zu a0 ({ ({ Code := (0 : Int), Num := (0 : Int), Rec := (default : Zd) } : Zh) with Code := (9 : Int) })) else (Zu ({ a0 with Num := (IntKind.i64.wrap (a0.Num + a1.N)) }) ({ Code := (0 : Int), Num := (0 : Int), Rec := (default : Zd) } : Zh)))) else (if (a1.Kind == (9 : Int)) then (Zbx a0 a1 (a1.Kind == (9 : Int))) else (Zbx a0 a1 (a1.Kind == (12 : Int))))))))
def Zfw (a0 : Zbk) : Nat → (Int) → Option ((Int × Int) ⊕ (Unit))
 | 0, _ => none
 | n + 1, x2 => (if (decide (x2 < (a0.Acts.length : Int))) then ((idx a0.Acts x2).bind fun e4 => ((Zf8 e4).bind fun r6 => (if (r6 != (0 : Int)) then (some (.inl (r6, (IntKind.i64.wrap (x2 + (1 : Int)))))) else ((Zfw a0 n) (IntKind.i64.wrap (x2 + (1 : Int))))))) else (some (.inr ())))
def Zna (a0 : Zbk) : Option (Int × Int) := (if ((decide ((a0.Acts.length : Int) < (1 : Int))) || (decide ((12 : Int) < (a0.Acts.length : Int)))) then (some ((1 : Int), (0 : Int))) else ((Zfw a0 (Int.toNat ((a0.Acts.length : Int) - (0 : Int)) + 1) (0 : Int)).bind fun z9 => match z9 with | .inl r => some r | .inr () => (some ((0 : Int), (0 : Int)))))
def NANB : Nat := 9221120237041090561
def keyf (b : Nat) : Int := if isn b then 18444492273895866369 else if TOP ≤ b then 18446744073709551615 - b else b + 9223372036854775808
def Zbz (b : Nat) : Nat := if isn b then NANB else b
theorem Zv5 {b : Nat} (hb : b < 18446744073709551616) : fneq b b = decide (isn b) := by
 unfold fneq
 show (Ieee.double.order b b != some .eq) = _
 by_cases h : isn b
 · rw [Zvk (.inl h)]; simp [h]
 · obtain ⟨o, ho, _, he⟩ := Zpp hb hb h h
   rw [ho, he.2 rfl]; simp [h]
theorem Ziu {b : Nat} (hb : b < 18446744073709551616) : Ze8 b = some (Zbz b) := by
 unfold Ze8 Zbz
 rw [Zv5 hb]
 by_cases h : isn b
 · simp [h, Zpk, NANB]
 · simp [h]
theorem Z7q {b : Nat} (hb : b < 18446744073709551616) : (bAnd .u64 (b : Int) 9223372036854775808 != 0) = decide (TOP ≤ b) := by
 have h1 : (BitVec.ofInt 64 (b : Int) &&& BitVec.ofInt 64 9223372036854775808).toNat = b &&& 9223372036854775808 := by
   rw [BitVec.toNat_and]
   have e1 : (BitVec.ofInt 64 (b : Int)).toNat = b := by
     rw [show BitVec.ofInt 64 (b : Int) = BitVec.ofNat 64 b from rfl]
     simp; omega
   rw [e1]; rfl
 have h2 : b &&& 9223372036854775808 = (b.testBit 63).toNat * 9223372036854775808 := by
   apply Nat.eq_of_testBit_eq
   intro i
   rw [Nat.testBit_and, show (9223372036854775808 : Nat) = 2 ^ 63 from rfl, Nat.testBit_two_pow]
   by_cases hi : 63 = i
   · subst hi
     cases b.testBit 63
     · simp
     · rw [Bool.toNat_true, Nat.one_mul, Nat.testBit_two_pow]; simp
   · cases b.testBit 63
     · simp [hi]
     · rw [Bool.toNat_true, Nat.one_mul, Nat.testBit_two_pow]; simp [hi]
 have h3 : b.testBit 63 = decide (TOP ≤ b) := by
   rw [Nat.testBit_eq_decide_div_mod_eq]
   unfold TOP
   by_cases h : 9223372036854775808 ≤ b
   · have : b / 2 ^ 63 % 2 = 1 := by omega
     simp [this, h]
   · have : b / 2 ^ 63 % 2 = 0 := by omega
     simp [this, h]
 unfold bAnd
 show (IntKind.wrap .u64 ((BitVec.ofInt 64 (b : Int) &&& BitVec.ofInt 64 9223372036854775808).toNat : Int) != 0) = _
 rw [h1, h2, h3]
 by_cases h : TOP ≤ b
 · simp only [h, decide_true, Bool.toNat_true, Nat.one_mul]
   rfl
 · simp only [h, decide_false, Bool.toNat_false, Nat.zero_mul]
   rfl
theorem Z68 {b : Nat} (hb : b < 18446744073709551616) : bXor .u64 IntKind.u64.max (b : Int) = 18446744073709551615 - b := by
 have h1 : (BitVec.ofInt 64 18446744073709551615 ^^^ BitVec.ofInt 64 (b : Int)).toNat = 18446744073709551615 - b := by
   have e1 : BitVec.ofInt 64 18446744073709551615 = BitVec.allOnes 64 := by decide
   rw [e1, BitVec.allOnes_xor, BitVec.toNat_not]
   have e2 : (BitVec.ofInt 64 (b : Int)).toNat = b := by
     rw [show BitVec.ofInt 64 (b : Int) = BitVec.ofNat 64 b from rfl]
     simp; omega
   rw [e2]
 unfold bXor
 show IntKind.wrap .u64 ((BitVec.ofInt 64 18446744073709551615 ^^^ BitVec.ofInt 64 (b : Int)).toNat : Int) = _
 rw [h1]
 simp [IntKind.wrap, IntKind.signed, IntKind.bits]
 omega
theorem Z8v {b : Nat} (hb : b < 9223372036854775808) : bOr .u64 (b : Int) 9223372036854775808 = b + 9223372036854775808 := by
 have h1 : (BitVec.ofInt 64 (b : Int) ||| BitVec.ofInt 64 9223372036854775808).toNat = b + 9223372036854775808 := by
   rw [BitVec.toNat_or]
   have e1 : (BitVec.ofInt 64 (b : Int)).toNat = b := by
     rw [show BitVec.ofInt 64 (b : Int) = BitVec.ofNat 64 b from rfl]
     simp; omega
   rw [e1, show (BitVec.ofInt 64 9223372036854775808).toNat = 2 ^ 63 * 1 from rfl, Nat.or_comm]
   rw [← Nat.two_pow_add_eq_or_of_lt (by simpa using hb)]
   omega
 unfold bOr
 show IntKind.wrap .u64 ((BitVec.ofInt 64 (b : Int) ||| BitVec.ofInt 64 9223372036854775808).toNat : Int) = _
 rw [h1]
 simp [IntKind.wrap, IntKind.signed, IntKind.bits]
 omega
theorem Zs3 {b : Nat} (hb : b < 18446744073709551616) : Zbz b < 18446744073709551616 := by
 unfold Zbz NANB; split <;> omega
theorem Zts {b : Nat} (hb : b < 18446744073709551616) : Zlr b = some (keyf b) := by
 unfold Zlr
 rw [Ziu hb]
 simp only [Option.bind_some]
 rw [Z7q (Zs3 hb)]
 unfold keyf Zbz
 by_cases h : isn b
 · simp only [h, if_true]
   rfl
 · simp only [h, if_false]
   by_cases ht : TOP ≤ b
   · simp only [ht, decide_true, if_true]
     rw [Z68 hb]
   · simp only [ht, decide_false, if_false, Bool.false_eq_true]
     rw [Z8v (by unfold TOP at ht; omega)]
theorem Znh {a b : Nat} (ha : a < 18446744073709551616) (hb : b < 18446744073709551616) : Ziw a b = some (decide (keyf a = keyf b)) := by
 unfold Ziw
 rw [Zts ha, Zts hb]
 simp [BEq.beq]
theorem Zul {a b : Nat} (ha : a < 18446744073709551616) (hb : b < 18446744073709551616) : Zlg a b = some (decide (keyf a < keyf b)) := by
 unfold Zlg
 rw [Zts ha, Zts hb]
 simp
theorem Zq5 {a : Nat} (ha : a < 18446744073709551616) : Zjg a = some (decide (a = Zbz a)) := by
 unfold Zjg
 rw [Ziu ha]
 congr 1
 by_cases h : a = Zbz a
 · simp [← h]
 · have : (a : Int) ≠ (Zbz a : Int) := by omega
   simp [h, this]
theorem Z0f {a b : Nat} (ha : a < 18446744073709551616) (hb : b < 18446744073709551616) (na : ¬ isn a) (nb : ¬ isn b) : keyf a < keyf b ↔ (sg a < sg b ∨ (a = TOP ∧ b = 0)) := by
 unfold keyf
 rw [if_neg na, if_neg nb]
 unfold sg isn rg INF TOP at *
 split <;> split <;> omega
theorem Zz5 {a b : Nat} (ha : a < 18446744073709551616) (hb : b < 18446744073709551616) (na : ¬ isn a) (nb : ¬ isn b) : feql a b = decide (sg a = sg b) := by
 unfold feql
 show (Ieee.double.order a b == some .eq) = _
 obtain ⟨o, ho, _, he⟩ := Zpp ha hb na nb
 rw [ho]
 by_cases h : sg a = sg b
 · rw [he.2 h]; simp [h]
 · have : o ≠ .eq := fun h' => h (he.1 h')
   simp [h, this]
theorem Z7k {a b : Nat} (ha : a < 18446744073709551616) (hb : b < 18446744073709551616) (na : ¬ isn a) (nb : ¬ isn b) : flss a b = decide (sg a < sg b) := by
 unfold flss
 show (Ieee.double.order a b == some .lt) = _
 obtain ⟨o, ho, hl, _⟩ := Zpp ha hb na nb
 rw [ho]
 by_cases h : sg a < sg b
 · rw [hl.2 h]; simp [h]
 · have : o ≠ .lt := fun h' => h (hl.1 h')
   simp [h, this]
theorem Z8j : Zf7 0 = some false := by kernel_rfl
theorem Z9j : Zf7 TOP = some true := by kernel_rfl
theorem nan0 : ¬ isn 0 := by decide
theorem Zzw {a : Nat} (ha : a < 18446744073709551616) : sg a = sg 0 ↔ a = 0 ∨ a = TOP := by
 unfold sg TOP
 split <;> simp <;> omega
theorem Zo9 {a : Nat} (ha : a < 18446744073709551616) : Zez a = some (decide (isn a)) := by
 unfold Zez; rw [Zv5 ha]
theorem Zld {a b : Nat} (ha : a < 18446744073709551616) (hb : b < 18446744073709551616) : Zeh a b = some (decide (keyf a < keyf b)) := by
 unfold Zeh
 rw [Zo9 ha, Zo9 hb]
 simp only [Option.bind_some]
 have kb : ∀ x, x < 18446744073709551616 → ¬ isn x → keyf x < 18444492273895866369 := by
   intro x hx nx
   unfold keyf
   rw [if_neg nx]
   unfold isn rg INF TOP at *
   split <;> omega
 have kn : ∀ x, isn x → keyf x = 18444492273895866369 := fun x h => by unfold keyf; rw [if_pos h]
 by_cases na : isn a
 · simp only [na, decide_true, if_true]
   by_cases nb : isn b
   · rw [kn a na, kn b nb]; simp
   · have := kb b hb nb
     rw [kn a na]; simp; omega
 · simp only [na, decide_false, Bool.false_eq_true, if_false]
   by_cases nb : isn b
   · have := kb a ha na
     rw [kn b nb]; simp [nb, this]
   · simp only [nb, decide_false, Bool.false_eq_true, if_false]
     rw [Zz5 ha (by decide) na nan0, Zz5 hb (by decide) nb nan0, Z7k ha hb na nb]
     by_cases hz : sg a = sg 0 ∧ sg b = sg 0
     · rw [if_pos (by simp [hz])]
       have hk := Z0f ha hb na nb
       have h0T : (0 : Nat) ≠ TOP := by decide
       rcases (Zzw ha).1 hz.1 with rfl | rfl <;> rcases (Zzw hb).1 hz.2 with rfl | rfl <;> simp only [Z8j, Z9j, gd, Option.bind_some, if_true, if_false, Bool.false_eq_true, Option.some.injEq] <;> decide
     · rw [if_neg (by simpa using hz)]
       have hk := Z0f ha hb na nb
       congr 1
       apply decide_eq_decide.2
       rw [hk]
       constructor
       · intro h; exact .inl h
       · rintro (h | ⟨rfl, rfl⟩)
         · exact h
         · exact absurd ⟨rfl, rfl⟩ hz
theorem Zl9 {a b : Nat} (ha : a < 18446744073709551616) (hb : b < 18446744073709551616) : Zdi a b = some (decide (keyf a = keyf b)) := by
 unfold Zdi
 rw [Zld ha hb, Zld hb ha]
 simp only [Option.bind_some, gd]
 by_cases h1 : keyf a < keyf b
 · have : keyf a ≠ keyf b := by omega
   simp [h1, this]
 · by_cases h2 : keyf b < keyf a
   · have : keyf a ≠ keyf b := by omega
     simp [h1, h2, this]
   · have : keyf a = keyf b := by omega
     simp [this]
theorem Zpc {a : Nat} (ha : a < 18446744073709551616) : Zey a = some (decide (a = Zbz a)) := by
 unfold Zey
 rw [Zo9 ha]
 unfold Zbz NANB
 by_cases h : isn a
 · by_cases h2 : a = 9221120237041090561
   · simp [h, h2]
   · have : (a : Int) ≠ 9221120237041090561 := by omega
     simp [h, h2, this]
 · simp [h]
theorem wr {x : Int} (h1 : -9223372036854775808 ≤ x) (h2 : x ≤ 9223372036854775807) : IntKind.i64.wrap x = x := by
 rw [IntKind.wrap_i64]; omega
theorem wr1 {i : Nat} (h : i < 9223372036854775807) : IntKind.i64.wrap ((i : Int) + 1) = ((i + 1 : Nat) : Int) := by
 rw [wr (by omega) (by omega)]; omega
theorem Zbac (n : Int) : IntKind.u64.wrap n = n % 18446744073709551616 := by simp [IntKind.wrap, IntKind.bits, IntKind.signed]
theorem wru {x : Int} (h1 : 0 ≤ x) (h2 : x < 18446744073709551616) : IntKind.u64.wrap x = x := by rw [Zbac]; omega
theorem wrm {i : Nat} (h : i < 9223372036854775807) (h0 : 0 < i) : IntKind.i64.wrap ((i : Int) - 1) = ((i - 1 : Nat) : Int) := by
 rw [wr (by omega) (by omega)]; omega
theorem idxn {α : Type} (xs : List α) (i : Nat) : idx xs (i : Int) = xs[i]? := by
 unfold idx
 rw [if_pos (by omega)]
 simp
theorem Zc6 {α : Type} {xs : List α} {i : Nat} (h : i < xs.length) : idx xs (i : Int) = some xs[i] := by
 rw [idxn, List.getElem?_eq_getElem h]
theorem gd_t {β : Type} [Inhabited β] (x : Option β) : gd true x = x := rfl
theorem gd_f {β : Type} [Inhabited β] (x : Option β) : gd false x = some default := rfl
theorem Zmc {α : Type} {xs : List α} {l h : Nat} (h1 : l ≤ h) (h2 : h ≤ xs.length) : cut xs (l : Int) (h : Int) = some ((xs.drop l).take (h - l)) := by
 unfold cut
 rw [if_pos (by omega)]
 simp
theorem Zuj {a b : ByteArray} (h : a.toList = b.toList) : a = b := by
 rw [_root_.Go.ByteArray.toList_eq, _root_.Go.ByteArray.toList_eq] at h
 exact ByteArray.ext (Array.toList_inj.1 h)
theorem Zda {a b : ByteArray} : sEq a b = true ↔ a = b := by
 unfold sEq
 constructor
 · intro h; exact Zuj (by simpa using h)
 · rintro rfl; simp
theorem Zdg (a : ByteArray) : sEq a a = true := Zda.2 rfl
theorem Zdq {a b : ByteArray} : sEq a b = false ↔ a ≠ b := by
 cases h : sEq a b
 · simp; intro e; rw [Zda.2 e] at h; cases h
 · simp; exact Zda.1 h
theorem Z2q : ∀ l : List UInt8, Op.bytesLess l l = false
 | [] => rfl
 | x :: l => by simp [Op.bytesLess, Z2q l]
theorem Zxw : ∀ {a b c : List UInt8}, Op.bytesLess a b = true → Op.bytesLess b c = true → Op.bytesLess a c = true
 | [], [], c, h, _ => by simp [Op.bytesLess] at h
 | [], y :: b, [], _, k => by simp [Op.bytesLess] at k
 | [], y :: b, z :: c, _, _ => rfl
 | x :: a, [], c, h, _ => by simp [Op.bytesLess] at h
 | x :: a, y :: b, [], _, k => by simp [Op.bytesLess] at k
 | x :: a, y :: b, z :: c, h, k => by
   simp only [Op.bytesLess, Bool.or_eq_true, Bool.and_eq_true, decide_eq_true_eq, beq_iff_eq] at h k ⊢
   rcases h with h | ⟨h1, h2⟩ <;> rcases k with k | ⟨k1, k2⟩
   · exact .inl (UInt8.lt_trans h k)
   · subst k1; exact .inl h
   · subst h1; exact .inl k
   · subst h1; subst k1; exact .inr ⟨rfl, Zxw h2 k2⟩
theorem Z23 : ∀ (a b : List UInt8), Op.bytesLess a b = false → a ≠ b → Op.bytesLess b a = true
 | [], [], _, h => absurd rfl h
 | [], y :: b, h, _ => by simp [Op.bytesLess] at h
 | x :: a, [], _, _ => rfl
 | x :: a, y :: b, h, hn => by
   simp only [Op.bytesLess, Bool.or_eq_false_iff, decide_eq_false_iff_not, Bool.and_eq_false_iff] at h
   simp only [Op.bytesLess, Bool.or_eq_true, Bool.and_eq_true, decide_eq_true_eq, beq_iff_eq]
   by_cases e : x = y
   · subst e
     right
     refine ⟨rfl, Z23 a b ?_ (fun h' => hn (by rw [h']))⟩
     rcases h.2 with h | h
     · simp at h
     · exact h
   · left
     rcases UInt8.lt_or_lt_of_ne e with h' | h'
     · exact absurd h' h.1
     · exact h'
theorem Zf9 (a : ByteArray) : sLt a a = false := Z2q _
theorem Ze0 {a b c : ByteArray} (h : sLt a b = true) (k : sLt b c = true) : sLt a c = true := Zxw h k
theorem Zkw {a b : ByteArray} (h : sLt a b = false) (hn : a ≠ b) : sLt b a = true := Z23 _ _ h (fun e => hn (Zuj e))
theorem Zpg {a b : ByteArray} (h : sLt a b = true) : sLt b a = false := by
 cases k : sLt b a
 · rfl
 · have := Ze0 h k
   rw [Zf9] at this; cases this
theorem Zj7 {a b : ByteArray} (h : sLt a b = true) : a ≠ b := fun e => by subst e; rw [Zf9] at h; cases h
abbrev W64 : Nat := 18446744073709551616
structure Zhs (a : Zd) : Prop where
 real : a.Real < W64
 len : a.List.length < 4611686018427387904
 sc : ∀ e ∈ a.List, e.Score < W64
def Zca (a b : Zi) : Bool := if keyf a.Score = keyf b.Score then sLt a.Name b.Name else decide (keyf b.Score < keyf a.Score)
theorem Zob {a b : Zi} (ha : a.Score < W64) (hb : b.Score < W64) : Zi9 a b = some (Zca a b) := by
 unfold Zi9 Zca
 rw [Znh ha hb, Zul hb ha]
 by_cases h : keyf a.Score = keyf b.Score <;> simp [h]
theorem Zyw {a b : Zi} (ha : a.Score < W64) (hb : b.Score < W64) : Ze7 a b = some (Zca a b) := by
 unfold Ze7 Zca
 rw [Zld hb ha, Zl9 ha hb]
 by_cases h : keyf a.Score = keyf b.Score
 · simp [h]
 · by_cases h2 : keyf b.Score < keyf a.Score <;> simp [h, h2]
theorem Zzz {a : Nat} (ha : a < W64) : Zgo a = some (decide (keyf a = keyf 0)) := by
 unfold Zgo
 rw [Zl9 ha (by decide)]
 rfl
def Zhf (k : Int) (l : List Zi) (i : Nat) : Int :=
 match l[i]? with
 | none => 0
 | some x =>
   let p := (l[i - 1]?).getD default
   if (16 : Int) < x.Name.size then 3
   else if (k = 8 ∧ keyf x.Score ≠ keyf 0) ∨ x.Score ≠ Zbz x.Score then 4
   else if 0 < i ∧ k = 8 ∧ sLt p.Name x.Name = false then 4
   else if 0 < i ∧ k = 9 ∧ Zca p x = false then 4
   else 0
theorem Z3u {k : Int} {l : List Zi} {i n : Nat} (hi : i < l.length) (hl : l.length < 4611686018427387904) (hs : ∀ e ∈ l, e.Score < W64) :
   Zfd k l (n + 1) (i : Int) = if Zhf k l i = 0 then Zfd k l n ((i + 1 : Nat) : Int) else some (.inl (Zhf k l i)) := by
 have hx : l[i].Score < W64 := hs _ (List.getElem_mem hi)
 rw [Zfd, if_pos (by simp; omega), Zc6 hi, wr1 (by omega)]
 simp only [Option.bind_some]
 rw [Znh hx (by decide), Zq5 hx]
 simp only [Zhf, List.getElem?_eq_getElem hi]
 by_cases h1 : (16 : Int) < l[i].Name.size
 · simp [h1]
 · simp only [h1, decide_false, if_false, Bool.false_eq_true]
   have hz : ((0 : Nat) : Int) = 0 := rfl
   by_cases h0 : 0 < i
   · have hp : i - 1 < l.length := by omega
     have hps : l[i - 1].Score < W64 := hs _ (List.getElem_mem hp)
     have hd : (decide ((0 : Int) < (i : Int))) = true := by simp; omega
     rw [hd, wrm (by omega) h0, Zc6 hp]
     simp only [List.getElem?_eq_getElem hp, Option.getD_some, h0, true_and, Bool.true_and]
     by_cases h8 : k = 8
     · subst h8
       simp only [beq_self_eq_true, gd_t, Option.bind_some, true_and, Bool.true_and]
       by_cases hk : keyf l[i].Score = keyf 0
       · by_cases hc : l[i].Score = Zbz l[i].Score
         · simp [hk, ← hc, gd]
           cases sLt l[i - 1].Name l[i].Name <;> simp
         · simp [hk, hc, gd]
       · simp [hk, gd]
     · have h8' : (k == 8) = false := by simpa using h8
       simp only [h8', h8, gd_f, gd_t, Option.bind_some, false_and, false_or, Bool.false_and, Bool.not_false, Bool.false_or]
       by_cases hc : l[i].Score = Zbz l[i].Score
       · by_cases h9 : k = 9
         · subst h9
           simp [← hc, gd, Zob hps hx]
           cases Zca l[i - 1] l[i] <;> simp
         · simp [← hc, gd, h9]
       · simp [hc]
   · have h00 : i = 0 := by omega
     subst h00
     simp only [Nat.lt_irrefl, false_and, if_false, Int.ofNat_zero, Int.lt_irrefl, decide_false, Bool.false_and, gd_f, Option.bind_some, Int.natCast_zero]
     by_cases h8 : k = 8
     · subst h8
       simp only [beq_self_eq_true, gd_t, Option.bind_some, true_and, Bool.true_and]
       by_cases hk : keyf l[0].Score = keyf 0
       · by_cases hc : l[0].Score = Zbz l[0].Score
         · simp [hk, ← hc, gd]
         · simp [hk, hc, gd]
       · simp [hk, gd]
     · have h8' : (k == 8) = false := by simpa using h8
       simp only [h8', h8, gd_f, gd_t, Option.bind_some, false_and, false_or, Bool.false_and, Bool.not_false, Bool.false_or]
       by_cases hc : l[0].Score = Zbz l[0].Score
       · simp [← hc, gd]
       · simp [hc]
theorem Z5c {k : Int} {l : List Zi} {i : Nat} (hi : i < l.length) (hl : l.length < 4611686018427387904) (hs : ∀ e ∈ l, e.Score < W64) : Zh4 k l (i : Int) = some (Zhf k l i) := by
 have hx : l[i].Score < W64 := hs _ (List.getElem_mem hi)
 unfold Zh4
 rw [Zc6 hi]
 simp only [Option.bind_some]
 rw [Zzz hx, Zpc hx]
 simp only [Zhf, List.getElem?_eq_getElem hi]
 by_cases h1 : (16 : Int) < l[i].Name.size
 · simp [h1]
 · simp only [h1, decide_false, if_false, Bool.false_eq_true]
   by_cases h0 : 0 < i
   · have hp : i - 1 < l.length := by omega
     have hps : l[i - 1].Score < W64 := hs _ (List.getElem_mem hp)
     have hd : (decide ((0 : Int) < (i : Int))) = true := by simp; omega
     rw [hd, wrm (by omega) h0, Zc6 hp]
     simp only [List.getElem?_eq_getElem hp, Option.getD_some, h0, true_and, Bool.true_and]
     by_cases h8 : k = 8
     · subst h8
       simp only [beq_self_eq_true, gd_t, Option.bind_some, true_and, Bool.true_and]
       by_cases hk : keyf l[i].Score = keyf 0
       · by_cases hc : l[i].Score = Zbz l[i].Score
         · simp [hk, ← hc, gd]
           cases sLt l[i - 1].Name l[i].Name <;> simp
         · simp [hk, hc, gd]
       · simp [hk, gd]
     · have h8' : (k == 8) = false := by simpa using h8
       simp only [h8', h8, gd_f, gd_t, Option.bind_some, false_and, false_or, Bool.false_and, Bool.not_false, Bool.false_or]
       by_cases hc : l[i].Score = Zbz l[i].Score
       · by_cases h9 : k = 9
         · subst h9
           simp [← hc, gd, Zyw hps hx]
           cases Zca l[i - 1] l[i] <;> simp
         · simp [← hc, gd, h9]
       · simp [hc]
   · have h00 : i = 0 := by omega
     subst h00
     simp only [Nat.lt_irrefl, false_and, if_false, Int.ofNat_zero, Int.lt_irrefl, decide_false, Bool.false_and, gd_f, Option.bind_some, Int.natCast_zero]
     by_cases h8 : k = 8
     · subst h8
       simp only [beq_self_eq_true, gd_t, Option.bind_some, true_and, Bool.true_and]
       by_cases hk : keyf l[0].Score = keyf 0
       · by_cases hc : l[0].Score = Zbz l[0].Score
         · simp [hk, ← hc, gd]
         · simp [hk, hc, gd]
       · simp [hk, gd]
     · have h8' : (k == 8) = false := by simpa using h8
       simp only [h8', h8, gd_f, gd_t, Option.bind_some, false_and, false_or, Bool.false_and, Bool.not_false, Bool.false_or]
       by_cases hc : l[0].Score = Zbz l[0].Score
       · simp [← hc, gd]
       · simp [hc]
def Zik (k : Int) (l : List Zi) : Nat → Nat → Int
 | _, 0 => 0
 | i, n + 1 => if Zhf k l i = 0 then Zik k l (i + 1) n else Zhf k l i
def endC (c : Int) : Int ⊕ Unit := if c = 0 then .inr () else .inl c
theorem Zsy {k : Int} {l : List Zi} {i n : Nat} (h : Zhf k l i = 0) : Zik k l i (n + 1) = Zik k l (i + 1) n := by simp [Zik, h]
theorem Zs8 {k : Int} {l : List Zi} {i n : Nat} (h : ¬ Zhf k l i = 0) : Zik k l i (n + 1) = Zhf k l i := by simp [Zik, h]
theorem Z3g {c : Int} (h : ¬ c = 0) : endC c = .inl c := if_neg h
theorem Zty {k : Int} {l : List Zi} (hl : l.length < 4611686018427387904) (hs : ∀ e ∈ l, e.Score < W64) : ∀ (n i : Nat), i + n = l.length →
   Zfd k l (n + 1) (i : Int) = some (endC (Zik k l i n))
 | 0, i, h => by
   rw [Zfd, if_neg (by simp; omega)]
   rfl
 | n + 1, i, h => by
   rw [Z3u (by omega) hl hs]
   by_cases hc : Zhf k l i = 0
   · rw [if_pos hc, Zsy hc, Zty hl hs n (i + 1) (by omega)]
   · rw [if_neg hc, Zs8 hc, Z3g hc]
theorem Z4y {k : Int} {l : List Zi} (hl : l.length < 4611686018427387904) (hs : ∀ e ∈ l, e.Score < W64) : Zm3 k l = some (Zik k l 0 l.length) := by
 unfold Zm3
 rw [show (Int.toNat ((l.length : Int) - (0 : Int)) + 1) = l.length + 1 by omega, show (0 : Int) = ((0 : Nat) : Int) from rfl, Zty hl hs l.length 0 (by omega)]
 unfold endC
 by_cases h : Zik k l 0 l.length = 0 <;> simp [h]
theorem Zsm {a : Zd} (ha : Zhs a) : ∀ (n i : Nat), i + n = a.List.length →
   Zdv a (n + 1) (i : Int) = some (endC (Zik a.Kind a.List i n))
 | 0, i, h => by
   rw [Zdv, if_neg (by simp; omega)]
   rfl
 | n + 1, i, h => by
   have hl := ha.len
   rw [Zdv, if_pos (by simp; omega), Z5c (by omega) hl ha.sc, wr1 (by omega)]
   simp only [Option.bind_some]
   by_cases hc : Zhf a.Kind a.List i = 0
   · rw [if_neg (by simp [hc]), Zsy hc, Zsm ha n (i + 1) (by omega)]
   · rw [if_pos (by simp [hc]), Zs8 hc, Z3g hc]
def Zgr (t n b r l : Bool) (a : Zd) : Bool := (t || sEq a.Text ⟨#[]⟩) && (n || a.Num == 0) && (b || (a.Low == 0 && a.High == 0)) && (r || decide (keyf a.Real = keyf 0)) && (l || (a.Cap == 0 && (a.List.length : Int) == 0))
theorem Z6h {a : Zd} (ha : Zhs a) (t n b r l : Bool) : Znq a ⟨t, n, b, r, l⟩ = some (Zgr t n b r l a) := by
 unfold Znq Zgr
 rw [Znh ha.real (by decide)]
 simp only
 generalize sEq a.Text ⟨#[]⟩ = x1
 generalize (a.Num == 0) = x2
 generalize (a.Low == 0) = x3
 generalize (a.High == 0) = x4
 generalize decide (keyf a.Real = keyf 0) = x5
 generalize (a.Cap == 0) = x6
 generalize ((a.List.length : Int) == 0) = x7
 revert t n b r l x1 x2 x3 x4 x5 x6 x7
 decide
theorem Z60 {a : Zd} (ha : Zhs a) {s : ByteArray} {t n b r l : Bool} (h : Zcq s (Int.toNat ((s.size : Int) - (0 : Int)) + 1) false false false false false 0 = some (t, n, b, r, l)) : Zh0 a s = some (Zgr t n b r l a) := by
 unfold Zh0 Zgr
 rw [h, Zzz ha.real]
 simp only [Option.bind_some, bne]
 generalize sEq a.Text ⟨#[]⟩ = x1
 generalize (a.Num == 0) = x2
 generalize (a.Low == 0) = x3
 generalize (a.High == 0) = x4
 generalize decide (keyf a.Real = keyf 0) = x5
 generalize (a.Cap == 0) = x6
 generalize ((a.List.length : Int) == 0) = x7
 clear h
 revert t n b r l x1 x2 x3 x4 x5 x6 x7
 decide
theorem Zbbo : Zcq ⟨#[116]⟩ (Int.toNat (((⟨#[116]⟩ : ByteArray).size : Int) - (0 : Int)) + 1) false false false false false 0 = some (true, false, false, false, false) := by kernel_rfl
theorem Z5t : Zcq ⟨#[110]⟩ (Int.toNat (((⟨#[110]⟩ : ByteArray).size : Int) - (0 : Int)) + 1) false false false false false 0 = some (false, true, false, false, false) := by kernel_rfl
theorem Z8l : Zcq ⟨#[110, 98]⟩ (Int.toNat (((⟨#[110, 98]⟩ : ByteArray).size : Int) - (0 : Int)) + 1) false false false false false 0 = some (false, true, true, false, false) := by kernel_rfl
theorem Z0q : Zcq ⟨#[114]⟩ (Int.toNat (((⟨#[114]⟩ : ByteArray).size : Int) - (0 : Int)) + 1) false false false false false 0 = some (false, false, false, true, false) := by kernel_rfl
theorem Z5l : Zcq ⟨#[108]⟩ (Int.toNat (((⟨#[108]⟩ : ByteArray).size : Int) - (0 : Int)) + 1) false false false false false 0 = some (false, false, false, false, true) := by kernel_rfl
def Zor (t n b r l : Bool) (a : Zd) : Int :=
 if Zgr t n b r l a = false then 4
 else if (64 : Int) < a.Text.size then 3
 else if b = true ∧ (a.Low < -2305843009213693952 ∨ 2305843009213693952 < a.High ∨ a.Num < a.Low ∨ a.High < a.Num) then 1
 else if a.Real ≠ Zbz a.Real then 4
 else if l = false then 0
 else if a.Cap < 1 ∨ 32 < a.Cap then 1
 else if a.Cap < a.List.length then 8
 else Zik a.Kind a.List 0 a.List.length
theorem Zfu {a : Zd} (ha : Zhs a) {t n b r l : Bool} (hk : ¬ (a.Kind ≤ 0 ∨ 10 ≤ a.Kind)) (hs : Zd6 a.Kind = some ⟨t, n, b, r, l⟩) : Zd2 a = some (Zor t n b r l a) := by
 unfold Zd2 Zor
 rw [hs]
 simp only [Option.bind_some]
 rw [Z6h ha, Zq5 ha.real, Z4y ha.len ha.sc]
 simp only [Option.bind_some]
 rw [if_neg (by simpa using hk)]
 by_cases h1 : Zgr t n b r l a = false
 · rw [if_pos h1, if_pos (by simp [h1])]
 · rw [if_neg h1, if_neg (by simpa using h1)]
   by_cases h2 : (64 : Int) < a.Text.size
   · rw [if_pos h2, if_pos (by simpa using h2)]
   · rw [if_neg h2, if_neg (by simpa using h2)]
     by_cases h3 : b = true ∧ (a.Low < -2305843009213693952 ∨ 2305843009213693952 < a.High ∨ a.Num < a.Low ∨ a.High < a.Num)
     · rw [if_pos h3, if_pos (by simpa [or_assoc] using h3)]
     · rw [if_neg h3, if_neg (by simpa [or_assoc] using h3)]
       by_cases h4 : a.Real = Zbz a.Real
       · rw [if_neg (show ¬ (a.Real ≠ Zbz a.Real) from fun h => h h4), decide_eq_true h4]
         simp only [Bool.not_true, Bool.false_eq_true, if_false]
         cases l
         · simp
         · simp only [Bool.not_true, Bool.false_eq_true, if_false, Bool.true_eq_false]
           by_cases h5 : a.Cap < 1 ∨ 32 < a.Cap
           · rw [if_pos h5, if_pos (by simpa using h5)]
           · rw [if_neg h5, if_neg (by simpa using h5)]
             by_cases h6 : a.Cap < a.List.length
             · rw [if_pos h6, if_pos (by simpa using h6)]
             · rw [if_neg h6, if_neg (by simpa using h6)]
       · rw [if_pos (show a.Real ≠ Zbz a.Real from h4), decide_eq_false h4]
         rfl
theorem Z20 : Zd6 1 = some ⟨true, false, false, false, false⟩ := by kernel_rfl
theorem Z25 : Zd6 2 = some ⟨false, true, false, false, false⟩ := by kernel_rfl
theorem Z3q : Zd6 3 = some ⟨false, true, false, false, false⟩ := by kernel_rfl
theorem Z2m : Zd6 4 = some ⟨false, true, true, false, false⟩ := by kernel_rfl
theorem Z3o : Zd6 5 = some ⟨false, false, false, true, false⟩ := by kernel_rfl
theorem Z13 : Zd6 6 = some ⟨false, false, false, true, false⟩ := by kernel_rfl
theorem Z2d : Zd6 7 = some ⟨false, false, false, true, false⟩ := by kernel_rfl
theorem Z2b : Zd6 8 = some ⟨false, false, false, false, true⟩ := by kernel_rfl
theorem Z2k : Zd6 9 = some ⟨false, false, false, false, true⟩ := by kernel_rfl
def Zrc (t n b r l : Bool) (k : Int) (a : Zd) : Int :=
 if Zgr t n b r l a = false then 4
 else if k = 1 ∧ (64 : Int) < a.Text.size then 3
 else if k = 4 ∧ (a.Low < -2305843009213693952 ∨ 2305843009213693952 < a.High ∨ a.Num < a.Low ∨ a.High < a.Num) then 1
 else if a.Real ≠ Zbz a.Real then 4
 else if k < 8 then 0
 else if a.Cap < 1 ∨ 32 < a.Cap then 1
 else if a.Cap < a.List.length then 8
 else Zik a.Kind a.List 0 a.List.length
theorem Zfz {a : Zd} (ha : Zhs a) {t n b r l : Bool} {s : ByteArray} (hk : ¬ (a.Kind < 1 ∨ 9 < a.Kind)) (hf : Zid a.Kind = some s)
   (ho : Zcq s (Int.toNat ((s.size : Int) - (0 : Int)) + 1) false false false false false 0 = some (t, n, b, r, l)) : Zdo a = some (Zrc t n b r l a.Kind a) := by
 unfold Zdo Zrc
 have hw : IntKind.i64.wrap (0 - (2305843009213693952 : Int)) = -2305843009213693952 := by decide
 rw [hf, Zpc ha.real, hw, show (Int.toNat ((a.List.length : Int) - (0 : Int)) + 1) = a.List.length + 1 by omega]
 have hloop := Zsm ha a.List.length 0 (by omega)
 rw [show ((0 : Nat) : Int) = 0 from rfl] at hloop
 rw [hloop]
 simp only [Option.bind_some]
 rw [if_neg (by simpa using hk), Z60 ha ho]
 simp only [Option.bind_some]
 by_cases h1 : Zgr t n b r l a = false
 · rw [if_pos h1, if_pos (by simp [h1])]
 · rw [if_neg h1, if_neg (by simpa using h1)]
   by_cases h2 : a.Kind = 1 ∧ (64 : Int) < a.Text.size
   · rw [if_pos h2, if_pos (by simpa using h2)]
   · rw [if_neg h2, if_neg (by simpa using h2)]
     by_cases h3 : a.Kind = 4 ∧ (a.Low < -2305843009213693952 ∨ 2305843009213693952 < a.High ∨ a.Num < a.Low ∨ a.High < a.Num)
     · rw [if_pos h3, if_pos (by simpa [or_assoc] using h3)]
     · rw [if_neg h3, if_neg (by simpa [or_assoc] using h3)]
       by_cases h4 : a.Real = Zbz a.Real
       · rw [if_neg (show ¬ (a.Real ≠ Zbz a.Real) from fun h => h h4), decide_eq_true h4]
         simp only [Bool.not_true, Bool.false_eq_true, if_false]
         by_cases h7 : a.Kind < 8
         · rw [if_pos h7, if_pos (by simpa using h7)]
         · rw [if_neg h7, if_neg (by simpa using h7)]
           by_cases h5 : a.Cap < 1 ∨ 32 < a.Cap
           · rw [if_pos h5, if_pos (by simpa using h5)]
           · rw [if_neg h5, if_neg (by simpa using h5)]
             by_cases h6 : a.Cap < a.List.length
             · rw [if_pos h6, if_pos (by simpa using h6)]
             · rw [if_neg h6, if_neg (by simpa using h6)]
               unfold endC
               by_cases h : Zik a.Kind a.List 0 a.List.length = 0 <;> simp [h]
       · rw [if_pos (show a.Real ≠ Zbz a.Real from h4), decide_eq_false h4]
         rfl
theorem Z6l {t n b r l : Bool} {a : Zd} (h : ¬ Zgr t n b r l a = false) (ht : t = false) : a.Text.size = 0 := by
 subst ht
 have : Zgr false n b r l a = true := by simpa using h
 unfold Zgr at this
 simp only [Bool.false_or, Bool.and_eq_true] at this
 have := Zda.1 this.1.1.1.1
 rw [this]; rfl
theorem D_eq (t n b r l : Bool) (k : Int) (a : Zd) (ht : t = true ↔ k = 1) (hb : b = true ↔ k = 4) (hl : l = false ↔ k < 8) : Zrc t n b r l k a = Zor t n b r l a := by
 unfold Zrc Zor
 by_cases h1 : Zgr t n b r l a = false
 · rw [if_pos h1, if_pos h1]
 · rw [if_neg h1, if_neg h1]
   have e2 : (k = 1 ∧ (64 : Int) < a.Text.size) ↔ (64 : Int) < a.Text.size := by
     constructor
     · exact fun h => h.2
     · intro h
       refine ⟨ht.1 ?_, h⟩
       cases t
       · have := Z6l h1 rfl; omega
       · rfl
   simp only [e2, hb, hl]
theorem Zne {a : Zd} (ha : Zhs a) : ∃ c, Zd2 a = some c ∧ Zdo a = some c := by
 by_cases hk : a.Kind ≤ 0 ∨ 10 ≤ a.Kind
 · refine ⟨5, ?_, ?_⟩
   · unfold Zd2
     have hs : ∃ s, Zd6 a.Kind = some s := by
       have h1 : ¬ a.Kind = 1 := by omega
       have h2 : ¬ a.Kind = 2 := by omega
       have h3 : ¬ a.Kind = 3 := by omega
       have h4 : ¬ a.Kind = 4 := by omega
       have h5 : ¬ a.Kind = 5 := by omega
       have h6 : ¬ a.Kind = 6 := by omega
       have h7 : ¬ a.Kind = 7 := by omega
       have h8 : ¬ a.Kind = 8 := by omega
       have h9 : ¬ a.Kind = 9 := by omega
       exact ⟨⟨false, false, false, false, false⟩, by simp [Zd6, Zjm, Zh7, Zjl, h1, h2, h3, h4, h5, h6, h7, h8, h9]⟩
     obtain ⟨s, hs⟩ := hs
     rw [hs]
     simp only [Option.bind_some]
     rw [if_pos (by simpa using hk)]
   · unfold Zdo
     rw [if_pos (by simp; omega)]
 · have hk2 : ¬ (a.Kind < 1 ∨ 9 < a.Kind) := by omega
   have hk' : a.Kind = 1 ∨ a.Kind = 2 ∨ a.Kind = 3 ∨ a.Kind = 4 ∨ a.Kind = 5 ∨ a.Kind = 6 ∨ a.Kind = 7 ∨ a.Kind = 8 ∨ a.Kind = 9 := by omega
   rcases hk' with h | h | h | h | h | h | h | h | h
   · exact ⟨_, Zfu ha hk (by rw [h]; exact Z20), by rw [Zfz ha hk2 (by rw [h]; kernel_rfl) Zbbo, D_eq _ _ _ _ _ _ _ (by simp [h]) (by simp [h]) (by simp [h])]⟩
   · exact ⟨_, Zfu ha hk (by rw [h]; exact Z25), by rw [Zfz ha hk2 (by rw [h]; kernel_rfl) Z5t, D_eq _ _ _ _ _ _ _ (by simp [h]) (by simp [h]) (by simp [h])]⟩
   · exact ⟨_, Zfu ha hk (by rw [h]; exact Z3q), by rw [Zfz ha hk2 (by rw [h]; kernel_rfl) Z5t, D_eq _ _ _ _ _ _ _ (by simp [h]) (by simp [h]) (by simp [h])]⟩
   · exact ⟨_, Zfu ha hk (by rw [h]; exact Z2m), by rw [Zfz ha hk2 (by rw [h]; kernel_rfl) Z8l, D_eq _ _ _ _ _ _ _ (by simp [h]) (by simp [h]) (by simp [h])]⟩
   · exact ⟨_, Zfu ha hk (by rw [h]; exact Z3o), by rw [Zfz ha hk2 (by rw [h]; kernel_rfl) Z0q, D_eq _ _ _ _ _ _ _ (by simp [h]) (by simp [h]) (by simp [h])]⟩
   · exact ⟨_, Zfu ha hk (by rw [h]; exact Z13), by rw [Zfz ha hk2 (by rw [h]; kernel_rfl) Z0q, D_eq _ _ _ _ _ _ _ (by simp [h]) (by simp [h]) (by simp [h])]⟩
   · exact ⟨_, Zfu ha hk (by rw [h]; exact Z2d), by rw [Zfz ha hk2 (by rw [h]; kernel_rfl) Z0q, D_eq _ _ _ _ _ _ _ (by simp [h]) (by simp [h]) (by simp [h])]⟩
   · exact ⟨_, Zfu ha hk (by rw [h]; exact Z2b), by rw [Zfz ha hk2 (by rw [h]; kernel_rfl) Z5l, D_eq _ _ _ _ _ _ _ (by simp [h]) (by simp [h]) (by simp [h])]⟩
   · exact ⟨_, Zfu ha hk (by rw [h]; exact Z2k), by rw [Zfz ha hk2 (by rw [h]; kernel_rfl) Z5l, D_eq _ _ _ _ _ _ _ (by simp [h]) (by simp [h]) (by simp [h])]⟩
def endB : Bool → Bool ⊕ Unit
 | true => .inr ()
 | false => .inl false
def eqI (x y : Zi) : Bool := sEq x.Name y.Name && decide (keyf x.Score = keyf y.Score)
def eqL : List Zi → List Zi → Bool
 | [], [] => true
 | x :: xs, y :: ys => eqI x y && eqL xs ys
 | _, _ => false
def Zjc (a b : Zd) : Bool := (a.Kind == b.Kind) && (a.Num == b.Num) && (a.Low == b.Low) && (a.High == b.High) && decide (keyf a.Real = keyf b.Real) && (a.Cap == b.Cap) && sEq a.Text b.Text && eqL a.List b.List
theorem Zuy : ∀ {a b : List Zi}, eqL a b = true → a.length = b.length
 | [], [], _ => rfl
 | x :: xs, y :: ys, h => by
   simp only [eqL, Bool.and_eq_true] at h
   simp [Zuy h.2]
 | [], _ :: _, h => by simp [eqL] at h
 | _ :: _, [], h => by simp [eqL] at h
theorem Z46 {x y : Zi} (hx : x.Score < W64) (hy : y.Score < W64) : Zii x y = some (eqI x y) := by
 unfold Zii eqI
 rw [Znh hx hy]
 cases sEq x.Name y.Name <;> simp [gd]
theorem Zyk {a b : List Zi} (ha : ∀ e ∈ a, e.Score < W64) (hb : ∀ e ∈ b, e.Score < W64) (hl : a.length < 4611686018427387904) (he : a.length = b.length) : ∀ (n i : Nat), i + n = a.length →
   Zbm a b (fun y0 y1 => Zii y0 y1) (n + 1) (i : Int) = some (endB (eqL (a.drop i) (b.drop i)))
 | 0, i, h => by
   rw [Zbm, if_neg (by simp; omega), List.drop_of_length_le (by omega), List.drop_of_length_le (by omega)]
   rfl
 | n + 1, i, h => by
   have h1 : i < a.length := by omega
   have h2 : i < b.length := by omega
   rw [Zbm, if_pos (by simp; omega), Zc6 h1, Zc6 h2, wr1 (by omega)]
   simp only [Option.bind_some]
   rw [Z46 (ha _ (List.getElem_mem h1)) (hb _ (List.getElem_mem h2)), List.drop_eq_getElem_cons h1, List.drop_eq_getElem_cons h2]
   simp only [Option.bind_some, eqL]
   cases hq : eqI a[i] b[i]
   · simp [endB]
   · simp only [Bool.not_true, Bool.false_eq_true, if_false, Bool.true_and]
     exact Zyk ha hb hl he n (i + 1) (by omega)
theorem Z8p {a b : List Zi} (ha : ∀ e ∈ a, e.Score < W64) (hb : ∀ e ∈ b, e.Score < W64) (hl : a.length < 4611686018427387904) : Zb6 a b (fun y0 y1 => Zii y0 y1) = some (eqL a b) := by
 unfold Zb6
 by_cases he : a.length = b.length
 · rw [if_neg (by simp; omega), show (Int.toNat ((a.length : Int) - (0 : Int)) + 1) = a.length + 1 by omega]
   have := Zyk ha hb hl he a.length 0 (by omega)
   rw [show ((0 : Nat) : Int) = 0 from rfl] at this
   rw [this]
   simp only [List.drop_zero]
   cases eqL a b <;> simp [endB]
 · rw [if_pos (by simp; omega)]
   cases h : eqL a b
   · rfl
   · exact absurd (Zuy h) he
theorem Zsx {a b : Zd} (ha : Zhs a) (hb : Zhs b) : Zll a b = some (Zjc a b) := by
 unfold Zll Zjc
 rw [Znh ha.real hb.real, Z8p ha.sc hb.sc ha.len]
 generalize (a.Kind == b.Kind) = x1
 generalize (a.Num == b.Num) = x2
 generalize (a.Low == b.Low) = x3
 generalize (a.High == b.High) = x4
 generalize decide (keyf a.Real = keyf b.Real) = x5
 generalize (a.Cap == b.Cap) = x6
 generalize sEq a.Text b.Text = x7
 generalize eqL a.List b.List = x8
 revert x1 x2 x3 x4 x5 x6 x7 x8
 decide
theorem Ztq {a b : Zd} (ha : Zhs a) (hb : Zhs b) (he : a.List.length = b.List.length) : ∀ (n i : Nat), i + n = a.List.length →
   Zgf a b (n + 1) (i : Int) = some (endB (eqL (a.List.drop i) (b.List.drop i)))
 | 0, i, h => by
   rw [Zgf, if_neg (by simp; omega), List.drop_of_length_le (by omega), List.drop_of_length_le (by omega)]
   rfl
 | n + 1, i, h => by
   have h1 : i < a.List.length := by omega
   have h2 : i < b.List.length := by omega
   have hl := ha.len
   have hs1 := ha.sc _ (List.getElem_mem h1)
   have hs2 := hb.sc _ (List.getElem_mem h2)
   rw [Zgf, if_pos (by simp; omega), Zc6 h1, Zc6 h2, wr1 (by omega), List.drop_eq_getElem_cons h1, List.drop_eq_getElem_cons h2]
   simp only [Option.bind_some, eqL, eqI]
   cases hn : sEq a.List[i].Name b.List[i].Name
   · simp [gd, endB]
   · simp only [Bool.not_true, Bool.not_false, gd_t, Option.bind_some]
     rw [Zl9 hs1 hs2]
     simp only [Option.bind_some, Bool.false_or, Bool.true_and]
     by_cases hk : keyf a.List[i].Score = keyf b.List[i].Score
     · simp only [hk, decide_true, Bool.not_true, Bool.false_eq_true, if_false, Bool.true_and]
       exact Ztq ha hb he n (i + 1) (by omega)
     · simp [hk, endB]
theorem Z27 {a b : Zd} (ha : Zhs a) (hb : Zhs b) : Zle a b = some (Zjc a b) := by
 unfold Zle Zjc
 rw [Zl9 ha.real hb.real]
 by_cases he : a.List.length = b.List.length
 · have := Ztq ha hb he a.List.length 0 (by omega)
   rw [show ((0 : Nat) : Int) = 0 from rfl] at this
   rw [show (Int.toNat ((a.List.length : Int) - (0 : Int)) + 1) = a.List.length + 1 by omega, this]
   have hn : ((a.List.length : Int) != (b.List.length : Int)) = false := by simp; omega
   rw [hn]
   simp only [List.drop_zero, bne]
   generalize (a.Kind == b.Kind) = x1
   generalize (a.Num == b.Num) = x2
   generalize (a.Low == b.Low) = x3
   generalize (a.High == b.High) = x4
   generalize decide (keyf a.Real = keyf b.Real) = x5
   generalize (a.Cap == b.Cap) = x6
   generalize sEq a.Text b.Text = x7
   generalize eqL a.List b.List = x8
   clear this hn he
   revert x1 x2 x3 x4 x5 x6 x7 x8
   decide
 · have h8 : eqL a.List b.List = false := by
     cases h : eqL a.List b.List
     · rfl
     · exact absurd (Zuy h) he
   have hn : ((a.List.length : Int) != (b.List.length : Int)) = true := by simp; omega
   rw [hn, h8]
   simp only [bne, Bool.or_true, Option.bind_some, if_true, Bool.and_false, ite_self]
theorem Ztd {a : Zd} (hl : a.List.length ≤ 9223372036854775807) : ∀ (n i : Nat), i + n = a.List.length → ∃ z, Zec a (n + 1) (i : Int) = some z ∧ (z = .inl 1 ∨ z = .inr ())
 | 0, i, h => by
   rw [Zec, if_neg (by simp; omega)]
   exact ⟨_, rfl, .inr rfl⟩
 | n + 1, i, h => by
   rw [Zec, if_pos (by simp; omega), Zc6 (by omega), wr1 (by omega)]
   simp only [Option.bind_some]
   split
   · exact ⟨_, rfl, .inl rfl⟩
   · exact Ztd hl n (i + 1) (by omega)
theorem Z55 {a : Zd} (hl : a.List.length ≤ 9223372036854775807) : ∃ c, Zg9 a = some c ∧ (c = 0 ∨ c = 1) ∧ (c = 0 → a.List.length ≤ 100) := by
 unfold Zg9
 by_cases h : (100 : Int) < a.List.length ∨ (1000 : Int) < a.Text.size
 · rw [if_pos (by simpa using h)]
   exact ⟨1, rfl, .inr rfl, fun h => by cases h⟩
 · rw [if_neg (by simpa using h), show (Int.toNat ((a.List.length : Int) - (0 : Int)) + 1) = a.List.length + 1 by omega]
   obtain ⟨z, hz, hc⟩ := Ztd hl a.List.length 0 (by omega)
   rw [show ((0 : Nat) : Int) = 0 from rfl] at hz
   rw [hz]
   rcases hc with rfl | rfl
   · exact ⟨1, rfl, .inr rfl, fun h => by cases h⟩
   · exact ⟨0, rfl, .inl rfl, fun _ => by omega⟩
end Go.CL
