/- A part of the proof of ShareMerges. -/
import Derived.Test.YtbiobpmabomjfaaDoorShareMergesC4
set_option linter.unusedVariables false
set_option linter.unusedSimpArgs false
set_option maxRecDepth 100000
namespace Go.CL
open Go Go.RowKit Go.Proofs
theorem Znf (a0 : Zb) (a1 : Bool) (a2 : Zs) {r : Zb × Bool × Zi} (h : Zgg a0 a1 a2 = some r) : FnOk Tryd.prog 40 [(Zf.pd a0), (Zba a1), (Zw.pd a2)] (pTup [(Zf.pd r.1), (Zba r.2.1), (Zu.pd r.2.2)]) := by
 have H0 := h
 unfold Zgg at H0
 clear h
 refine Zbq (N := 123) Tryd.func40 rfl rfl (Nat.le_of_ble_eq_true rfl) rfl rfl (fun a g0 hst hb => ?_)
 refine r_s (T := [⟨[.old 0], _, [4], [], [3]⟩, ⟨[.old 1], _, [], [], [4]⟩, ⟨[.old 2], _, [], [], [5]⟩, ⟨[], [(6, (pBox Zf 6 (default : Zb)))], [7], [], [6]⟩, ⟨[], _, [], [], [7]⟩, ⟨[], [(8, (pBox Zu 8 (default : Zi)))], [9], [], [8]⟩]) (F := [.op 0 0, .op 1 0, .op 2 0, .op 3 0, .op 5 0]) hst hb Za
   (o_p rfl (Zik rfl rfl u_0) <| o_p rfl (Zbs rfl rfl u_0) <| o_p rfl (Zbs rfl rfl u_0) <| o_p rfl (Zbi (zs := [.int .i64 0, .int .i64 0, .int .i64 0, .int .i64 0, .float .f64 0, .int .i64 0, .string ByteArray.empty, .slice none 0 0]) (by kernel_rfl) (fun g => Zbo g) rfl rfl) <| o_p rfl (Zc rfl rfl c_b) <| o_p rfl (Zbi (zs := [.int .i64 0, .int .i64 0, .int .i64 0, .int .i64 0, .int .i64 0, .int .i64 0, .float .f64 0, .int .i64 0, .string ByteArray.empty, .slice none 0 0]) (by kernel_rfl) (fun g => Ze6 g) rfl rfl) <| o_n) (by kernel_rfl) (fun a g hst hb => ?_)
 refine wp_seq ?_
 refine r_s (T := [⟨[.old 1], _, [], [], [15]⟩, ⟨[.op 0 0], _, [], [0], [16]⟩]) (F := [.old 0, .old 1, .old 2, .old 3, .old 4, .op 1 0]) hst hb Za
   (o_p rfl (Zg ty_4 rfl rfl u_0) <| o_p rfl (Zb4 rfl rfl u_0) <| o_n) (by kernel_rfl) (fun a g hst hb => ?_)
 refine Zbv (fun a w => ∃ (j2 : Zb) (g : G), w = g.w ∧ St 123 [(3, (pBox Zf 3 j2)), (4, (Kd.bool.ptr a1)), (5, (Zw.ptr a2)), (6, (pBox Zf 6 (default : Zb))), (8, (pBox Zu 8 (default : Zi)))] a g ∧ Base g0 g ∧ Zfm a1 a2 j2 = some r) ?_ ?_
 · rintro a w ⟨j2, g, rfl, hst, hb, H0⟩
   unfold Zfm at H0
   refine Zq ?_
   obtain ⟨r3, h4, H0⟩ := Zk H0
   refine r_s (T := [⟨[.old 0], _, [], [], [18]⟩, ⟨[.op 0 0], _, [], [0], [19]⟩, ⟨[.op 1 0, .old 0], _, [4], [0, 1], [3]⟩]) (F := [.op 2 0, .old 1, .old 2, .old 3, .old 4]) hst hb Za
     (o_p rfl (Zch Z0 rfl rfl u_0) <| o_p rfl (Zt Zmx (Zgs _ h4) rfl rfl (.cons u_0 .nil)) <| o_p rfl (Z5 Z0 rfl rfl u_1 u_0) <| o_n) (by kernel_rfl) (fun a g hst hb => ?_)
   refine r_s (T := [⟨[.old 0, .old 1], _, [], [], [20]⟩, ⟨[.op 0 0], _, [], [0], [9]⟩]) (F := [.old 0, .old 1, .old 2, .old 3, .old 4, .op 1 0]) hst hb Za
     (o_p rfl (Ztb rfl rfl (.cons u_0 (.cons u_1 .nil))) <| o_p rfl (Zc rfl rfl u_0) <| o_n) (by kernel_rfl) (fun a g hst hb => ?_)
   refine wp_seq ?_
   obtain ⟨r5, h6, H0⟩ := Zk H0
   refine r_s (T := [⟨[.old 2], _, [], [], [21]⟩, ⟨[.op 0 0], _, [], [0], [22]⟩, ⟨[.op 1 0], _, [], [0, 1], [10]⟩]) (F := [.old 0, .old 1, .old 2, .old 3, .old 4, .old 5, .op 2 0]) hst hb Za
     (o_p rfl (Zg Zfa rfl rfl u_0) <| o_p rfl (Zt Zzm (Zn4 _ h6) rfl rfl (.cons u_0 .nil)) <| o_p rfl (Zc rfl rfl u_0) <| o_n) (by kernel_rfl) (fun a g hst hb => ?_)
   refine r_s (T := [⟨[.old 6], _, [], [], [23]⟩, ⟨[.op 0 0], _, [], [0], [24]⟩]) (F := [.old 0, .old 1, .old 2, .old 3, .old 4, .old 5, .old 6, .op 1 0]) hst hb Za
     (o_p rfl (Zd rfl rfl u_0) <| o_p rfl (Zdu rfl rfl u_0 c_i) <| o_n) (by kernel_rfl) (fun a g hst hb => ?_)
   refine wp_cond_split (hst.bool 7 rfl) (fun hc7 => ?_) (fun hc7 => ?_)
   · replace H0 := Zp hc7 H0
     obtain ⟨r8, h9, H0⟩ := Zk H0
     refine r_s (L := [(3, _), (4, _), (6, _), (8, _), (9, _), (10, _)]) (T := [⟨[.old 4], _, [], [], [25]⟩, ⟨[.old 5], _, [], [], [26]⟩, ⟨[.op 0 0, .op 1 0, .old 0], [(27, (pTup [(Zf.pd r8.1), (Zba r8.2.1), (Zu.pd r8.2.2.1)])), (3, (pBox Zf 3 r8.2.2.2))], [4], [0, 1], [3, 9, 25, 27]⟩, ⟨[.op 2 0], _, [], [0, 1, 2], [28]⟩, ⟨[.op 2 0], _, [], [0, 1, 2], [29]⟩, ⟨[.op 2 0], _, [], [0, 1, 2], [30]⟩, ⟨[.op 3 0, .old 2], _, [7], Lr 6, [6]⟩, ⟨[.op 4 0], _, [], Lr 7, [7]⟩, ⟨[.op 5 0, .old 3], _, [9], Lr 8, [8]⟩]) (F := [.op 2 1, .old 1, .op 6 0, .op 7 0, .op 8 0]) (hst.pick [0, 1, 3, 4, 5, 6] rfl) hb Za
       (o_p rfl (Zd rfl rfl u_0) <| o_p rfl (Zd rfl rfl u_0) <| o_p rfl (Zj3 (Ps := [.val (pInt .i64 r5)]) (hs := []) (ks := [(3, none, 3)]) Zp9 (Zg7 _ _ _ h9) rfl rfl rfl u_0 (.val u_1 .nil) (.box u_2 rfl (.val .nil)) rfl rfl rfl rfl) <| o_p rfl (Zbf rfl rfl u_0 rfl) <| o_p rfl (Zbf rfl rfl u_0 rfl) <| o_p rfl (Zbf rfl rfl u_0 rfl) <| o_p rfl (Z5 Z0 rfl rfl u_1 u_0) <| o_p rfl (Zc rfl rfl u_0) <| o_p rfl (Z5 Zct rfl rfl u_1 u_0) <| o_n) (by kernel_rfl) (fun a g hst hb => ?_)
     refine wp_ret ?_
     refine Zm ?_
     obtain rfl := Option.some.inj H0
     obtain ⟨u0, hu0, hq0⟩ := Zbe (P := Tryd.prog) Z0 (hst.at 2 rfl)
     obtain ⟨u2, hu2, hq2⟩ := Zbe (P := Tryd.prog) Zct (hst.at 4 rfl)
     exact Zg8 rfl hst hb hu0 (Zl (s := 7)) hu2 (Zfp hq0 (hst.at 3 rfl) hq2)
   · replace H0 := Zo hc7 H0
     refine wp_skip ?_
     refine Zq ?_
     refine wp_seq ?_
     refine r_s (L := [(3, _), (4, _), (5, _), (6, _), (8, _), (9, _)]) (T := [⟨[.old 1], _, [], [], [31]⟩]) (F := [.old 0, .old 1, .old 2, .old 3, .old 4, .old 5, .op 0 0]) (hst.pick [0, 1, 2, 3, 4, 5] rfl) hb Za
       (o_p rfl (Zg ty_4 rfl rfl u_0) <| o_n) (by kernel_rfl) (fun a g hst hb => ?_)
     refine Zbv (fun a w => ∃ (g : G), w = g.w ∧ St 123 [(3, (pBox Zf 3 r3)), (4, (Kd.bool.ptr a1)), (5, (Zw.ptr a2)), (6, (pBox Zf 6 (default : Zb))), (8, (pBox Zu 8 (default : Zi))), (9, (Zrz 67 [(pBox Zf 3 r3), (Kd.bool.ptr a1)]))] a g ∧ Base g0 g ∧ Zfn a1 a2 r3 = some r) ?_ ?_
     · rintro a w ⟨g, rfl, hst, hb, H0⟩
       unfold Zfn at H0
       refine Zq ?_
       refine wp_seq ?_
       refine wp_block ?_
       refine r_s (T := [⟨[.old 2], _, [], [], [43]⟩, ⟨[.op 0 0], _, [], [0], [44]⟩, ⟨[.op 1 0], _, [], [0, 1], [45]⟩, ⟨[.op 2 0], _, [], [0, 1, 2], [46]⟩, ⟨[.op 3 0, .old 1], _, [], Lr 4, [47]⟩, ⟨[.op 3 0, .op 4 0], _, [], Lr 5, [48]⟩, ⟨[.op 5 0], _, [], Lr 6, [42]⟩]) (F := [.old 0, .old 1, .old 2, .old 3, .old 4, .old 5, .op 6 0]) hst hb Za
         (o_p rfl (Ze Zb9 rfl rfl u_0) <| o_p rfl (Zg ty_3 rfl rfl u_0) <| o_p rfl (Z7 rfl rfl u_0 c_i) <| o_p rfl (Zd rfl rfl u_0) <| o_g (g_t rfl rfl rfl (fun hG => Zg ty_4 rfl rfl u_0)) <| o_p rfl (Zbb rfl rfl u_0 (fun hz => (Opd.gd hz u_1))) <| o_p rfl (Zc rfl rfl u_0) <| o_n) (by kernel_rfl) (fun a g hst hb => ?_)
       refine wp_cond_split (hst.bool 6 rfl) (fun hc16 => ?_) (fun hc16 => ?_)
       · replace H0 := Zp hc16 H0
         obtain ⟨r17, h18, H0⟩ := Zk H0
         refine r_s (L := [(3, _), (4, _), (6, _), (8, _), (9, _)]) (T := [⟨[.old 4], _, [], [], [49]⟩, ⟨[.op 0 0, .old 0], [(50, (pTup [(Zf.pd r17.1), (Zba r17.2.1), (Zu.pd r17.2.2.1)])), (3, (pBox Zf 3 r17.2.2.2))], [4], [0], [3, 9, 49, 50]⟩, ⟨[.op 1 0], _, [], [0, 1], [51]⟩, ⟨[.op 1 0], _, [], [0, 1], [52]⟩, ⟨[.op 1 0], _, [], [0, 1], [53]⟩, ⟨[.op 2 0, .old 2], _, [7], Lr 5, [6]⟩, ⟨[.op 3 0], _, [], Lr 6, [7]⟩, ⟨[.op 4 0, .old 3], _, [9], Lr 7, [8]⟩]) (F := [.op 1 1, .old 1, .op 5 0, .op 6 0, .op 7 0]) (hst.pick [0, 1, 3, 4, 5] rfl) hb Za
           (o_p rfl (Zd rfl rfl u_0) <| o_p rfl (Zj3 (Ps := [.val (pInt .i64 (7 : Int))]) (hs := []) (ks := [(3, none, 3)]) Zp9 (Zg7 _ _ _ h18) rfl rfl rfl u_0 (.val c_i .nil) (.box u_1 rfl (.val .nil)) rfl rfl rfl rfl) <| o_p rfl (Zbf rfl rfl u_0 rfl) <| o_p rfl (Zbf rfl rfl u_0 rfl) <| o_p rfl (Zbf rfl rfl u_0 rfl) <| o_p rfl (Z5 Z0 rfl rfl u_1 u_0) <| o_p rfl (Zc rfl rfl u_0) <| o_p rfl (Z5 Zct rfl rfl u_1 u_0) <| o_n) (by kernel_rfl) (fun a g hst hb => ?_)
         refine wp_ret ?_
         refine Zv ?_
         refine Zm ?_
         obtain rfl := Option.some.inj H0
         obtain ⟨u0, hu0, hq0⟩ := Zbe (P := Tryd.prog) Z0 (hst.at 2 rfl)
         obtain ⟨u2, hu2, hq2⟩ := Zbe (P := Tryd.prog) Zct (hst.at 4 rfl)
         exact Zg8 rfl hst hb hu0 (Zl (s := 7)) hu2 (Zfp hq0 (hst.at 3 rfl) hq2)
       · replace H0 := Zo hc16 H0
         refine r_s (L := [(3, _), (4, _), (5, _), (6, _), (8, _), (9, _)]) (T := [⟨[.old 2], _, [], [], [55]⟩, ⟨[.op 0 0], _, [], [0], [56]⟩, ⟨[.op 1 0], _, [], [0, 1], [57]⟩, ⟨[.op 2 0], _, [], [0, 1, 2], [54]⟩]) (F := [.old 0, .old 1, .old 2, .old 3, .old 4, .old 5, .op 3 0]) (hst.pick [0, 1, 2, 3, 4, 5] rfl) hb Za
           (o_p rfl (Ze Zb9 rfl rfl u_0) <| o_p rfl (Zg ty_3 rfl rfl u_0) <| o_p rfl (Z7 rfl rfl u_0 c_i) <| o_p rfl (Zc rfl rfl u_0) <| o_n) (by kernel_rfl) (fun a g hst hb => ?_)
         refine wp_cond_split (hst.bool 6 rfl) (fun hc19 => ?_) (fun hc19 => ?_)
         · replace H0 := Zp hc19 H0
           obtain ⟨r20, h21, H0⟩ := Zk H0
           refine r_s (L := [(3, _), (4, _), (5, _), (6, _), (8, _)]) (T := [⟨[.old 2], _, [], [], [58]⟩, ⟨[.op 0 0], _, [], [0], [59]⟩, ⟨[.op 1 0], _, [], [0, 1], [60]⟩, ⟨[], _, [], [], [61]⟩, ⟨[.op 2 0, .old 3], _, [7], [0, 1, 2], [6]⟩, ⟨[], _, [], [0, 1, 2, 4], [7]⟩, ⟨[.op 3 0, .old 4], _, [9], Lr 6, [8]⟩]) (F := [.old 0, .old 1, .op 4 0, .op 5 0, .op 6 0]) (hst.pick [0, 1, 2, 3, 4] rfl) hb Za
             (o_p rfl (Ze Zkd rfl rfl u_0) <| o_p rfl (Zg Z0 rfl rfl u_0) <| o_p rfl (Zt Zmx (Zgs _ h21) rfl rfl (.cons u_0 .nil)) <| o_p rfl (Zob rfl rfl ) <| o_p rfl (Z5 Z0 rfl rfl u_1 u_0) <| o_p rfl (Zc rfl rfl c_b) <| o_p rfl (Z5 Zct rfl rfl u_1 u_0) <| o_n) (by kernel_rfl) (fun a g hst hb => ?_)
           refine wp_ret ?_
           refine Zv ?_
           refine Zm ?_
           obtain rfl := Option.some.inj H0
           obtain ⟨u0, hu0, hq0⟩ := Zbe (P := Tryd.prog) Z0 (hst.at 2 rfl)
           obtain ⟨u2, hu2, hq2⟩ := Zbe (P := Tryd.prog) Zct (hst.at 4 rfl)
           exact Zg8 rfl hst hb hu0 (Zl (s := 7)) hu2 (Zfp hq0 (hst.at 3 rfl) hq2)
         · replace H0 := Zo hc19 H0
           refine r_s (L := [(3, _), (4, _), (5, _), (6, _), (8, _), (9, _)]) (T := [⟨[.old 2], _, [], [], [63]⟩, ⟨[.op 0 0], _, [], [0], [64]⟩, ⟨[.op 1 0], _, [], [0, 1], [65]⟩, ⟨[.op 2 0], _, [], [0, 1, 2], [62]⟩]) (F := [.old 0, .old 1, .old 2, .old 3, .old 4, .old 5, .op 3 0]) (hst.pick [0, 1, 2, 3, 4, 5] rfl) hb Za
             (o_p rfl (Ze Zb9 rfl rfl u_0) <| o_p rfl (Zg ty_3 rfl rfl u_0) <| o_p rfl (Z7 rfl rfl u_0 c_i) <| o_p rfl (Zc rfl rfl u_0) <| o_n) (by kernel_rfl) (fun a g hst hb => ?_)
           refine wp_cond_split (hst.bool 6 rfl) (fun hc22 => ?_) (fun hc22 => ?_)
           · replace H0 := Zp hc22 H0
             refine r_s (L := [(3, _), (4, _), (6, _), (8, _)]) (T := [⟨[.old 0], _, [], [], [66]⟩, ⟨[.old 1], _, [], [], [67]⟩, ⟨[.old 0], _, [], [], [68]⟩, ⟨[.op 2 0], _, [], [2], [69]⟩, ⟨[.op 3 0], _, [], [2, 3], [70]⟩, ⟨[.op 0 0, .old 2], _, [7], [0], [6]⟩, ⟨[.op 1 0], _, [], [0, 1, 5], [7]⟩, ⟨[.op 4 0, .old 3], _, [9], Lr 7, [8]⟩]) (F := [.old 0, .old 1, .op 5 0, .op 6 0, .op 7 0]) (hst.pick [0, 1, 3, 4] rfl) hb Za
               (o_p rfl (Zch Z0 rfl rfl u_0) <| o_p rfl (Zg ty_4 rfl rfl u_0) <| o_p rfl (Zj Zcx (off := 0) (by kernel_rfl) rfl rfl u_0) <| o_p rfl (Z1 ty_3 rfl rfl u_0) <| o_p rfl (Zuo rfl rfl u_0) <| o_p rfl (Z5 Z0 rfl rfl u_1 u_0) <| o_p rfl (Zc rfl rfl u_0) <| o_p rfl (Z5 Zct rfl rfl u_1 u_0) <| o_n) (by kernel_rfl) (fun a g hst hb => ?_)
             refine wp_ret ?_
             refine Zv ?_
             refine Zm ?_
             obtain rfl := Option.some.inj H0
             obtain ⟨u0, hu0, hq0⟩ := Zbe (P := Tryd.prog) Z0 (hst.at 2 rfl)
             obtain ⟨u2, hu2, hq2⟩ := Zbe (P := Tryd.prog) Zct (hst.at 4 rfl)
             exact Zg8 rfl hst hb hu0 (Zl (s := 7)) hu2 (Zfp hq0 (hst.at 3 rfl) hq2)
           · replace H0 := Zo hc22 H0
             refine r_s (L := [(3, _), (4, _), (5, _), (6, _), (8, _), (9, _)]) (T := [⟨[.old 1], _, [], [], [72]⟩, ⟨[.op 0 0], _, [], [0], [73]⟩, ⟨[.op 1 0], _, [], [0, 1], [71]⟩]) (F := [.old 0, .old 1, .old 2, .old 3, .old 4, .old 5, .op 2 0]) (hst.pick [0, 1, 2, 3, 4, 5] rfl) hb Za
               (o_p rfl (Zg ty_4 rfl rfl u_0) <| o_p rfl (Zb4 rfl rfl u_0) <| o_p rfl (Zc rfl rfl u_0) <| o_n) (by kernel_rfl) (fun a g hst hb => ?_)
             refine wp_cond_split (hst.bool 6 rfl) (fun hc23 => ?_) (fun hc23 => ?_)
             · replace H0 := Zp hc23 H0
               obtain ⟨r24, h25, H0⟩ := Zk H0
               refine r_s (L := [(3, _), (4, _), (6, _), (8, _), (9, _)]) (T := [⟨[.old 4], _, [], [], [74]⟩, ⟨[.op 0 0, .old 0], [(75, (pTup [(Zf.pd r24.1), (Zba r24.2.1), (Zu.pd r24.2.2.1)])), (3, (pBox Zf 3 r24.2.2.2))], [4], [0], [3, 9, 74, 75]⟩, ⟨[.op 1 0], _, [], [0, 1], [76]⟩, ⟨[.op 1 0], _, [], [0, 1], [77]⟩, ⟨[.op 1 0], _, [], [0, 1], [78]⟩, ⟨[.op 2 0, .old 2], _, [7], Lr 5, [6]⟩, ⟨[.op 3 0], _, [], Lr 6, [7]⟩, ⟨[.op 4 0, .old 3], _, [9], Lr 7, [8]⟩]) (F := [.op 1 1, .old 1, .op 5 0, .op 6 0, .op 7 0]) (hst.pick [0, 1, 3, 4, 5] rfl) hb Za
                 (o_p rfl (Zd rfl rfl u_0) <| o_p rfl (Zj3 (Ps := [.val (pInt .i64 (6 : Int))]) (hs := []) (ks := [(3, none, 3)]) Zp9 (Zg7 _ _ _ h25) rfl rfl rfl u_0 (.val c_i .nil) (.box u_1 rfl (.val .nil)) rfl rfl rfl rfl) <| o_p rfl (Zbf rfl rfl u_0 rfl) <| o_p rfl (Zbf rfl rfl u_0 rfl) <| o_p rfl (Zbf rfl rfl u_0 rfl) <| o_p rfl (Z5 Z0 rfl rfl u_1 u_0) <| o_p rfl (Zc rfl rfl u_0) <| o_p rfl (Z5 Zct rfl rfl u_1 u_0) <| o_n) (by kernel_rfl) (fun a g hst hb => ?_)
               refine wp_ret ?_
               refine Zv ?_
               refine Zm ?_
               obtain rfl := Option.some.inj H0
               obtain ⟨u0, hu0, hq0⟩ := Zbe (P := Tryd.prog) Z0 (hst.at 2 rfl)
               obtain ⟨u2, hu2, hq2⟩ := Zbe (P := Tryd.prog) Zct (hst.at 4 rfl)
               exact Zg8 rfl hst hb hu0 (Zl (s := 7)) hu2 (Zfp hq0 (hst.at 3 rfl) hq2)
             · replace H0 := Zo hc23 H0
               refine r_s (L := [(3, _), (4, _), (5, _), (6, _), (8, _), (9, _)]) (T := [⟨[.old 2], _, [], [], [80]⟩, ⟨[.op 0 0], _, [], [0], [81]⟩, ⟨[.op 1 0], _, [], [0, 1], [82]⟩, ⟨[.op 2 0], _, [], [0, 1, 2], [79]⟩]) (F := [.old 0, .old 1, .old 2, .old 3, .old 4, .old 5, .op 3 0]) (hst.pick [0, 1, 2, 3, 4, 5] rfl) hb Za
                 (o_p rfl (Ze Zb9 rfl rfl u_0) <| o_p rfl (Zg ty_3 rfl rfl u_0) <| o_p rfl (Z7 rfl rfl u_0 c_i) <| o_p rfl (Zc rfl rfl u_0) <| o_n) (by kernel_rfl) (fun a g hst hb => ?_)
               refine wp_cond_split (hst.bool 6 rfl) (fun hc26 => ?_) (fun hc26 => ?_)
               · replace H0 := Zp hc26 H0
                 refine r_s (L := [(3, _), (4, _), (6, _), (8, _)]) (T := [⟨[], _, [], [], [83]⟩, ⟨[], _, [], [], [84]⟩, ⟨[.op 0 0, .old 2], _, [7], [0], [6]⟩, ⟨[], _, [], [0, 2], [7]⟩, ⟨[.op 1 0, .old 3], _, [9], Lr 4, [8]⟩]) (F := [.old 0, .old 1, .op 2 0, .op 3 0, .op 4 0]) (hst.pick [0, 1, 3, 4] rfl) hb Za
                   (o_p rfl (Zkt rfl rfl ) <| o_p rfl (Zob rfl rfl ) <| o_p rfl (Z5 Z0 rfl rfl u_1 u_0) <| o_p rfl (Zc rfl rfl c_b) <| o_p rfl (Z5 Zct rfl rfl u_1 u_0) <| o_n) (by kernel_rfl) (fun a g hst hb => ?_)
                 refine wp_ret ?_
                 refine Zv ?_
                 refine Zm ?_
                 obtain rfl := Option.some.inj H0
                 obtain ⟨u0, hu0, hq0⟩ := Zbe (P := Tryd.prog) Z0 (hst.at 2 rfl)
                 obtain ⟨u2, hu2, hq2⟩ := Zbe (P := Tryd.prog) Zct (hst.at 4 rfl)
                 exact Zg8 rfl hst hb hu0 (Zl (s := 7)) hu2 (Zfp hq0 (hst.at 3 rfl) hq2)
               · replace H0 := Zo hc26 H0
                 refine r_s (L := [(3, _), (4, _), (5, _), (6, _), (8, _), (9, _)]) (T := [⟨[.old 2], _, [], [], [86]⟩, ⟨[.op 0 0], _, [], [0], [87]⟩, ⟨[.op 1 0], _, [], [0, 1], [88]⟩, ⟨[.op 2 0], _, [], [0, 1, 2], [85]⟩]) (F := [.old 0, .old 1, .old 2, .old 3, .old 4, .old 5, .op 3 0]) (hst.pick [0, 1, 2, 3, 4, 5] rfl) hb Za
                   (o_p rfl (Ze Zb9 rfl rfl u_0) <| o_p rfl (Zg ty_3 rfl rfl u_0) <| o_p rfl (Z7 rfl rfl u_0 c_i) <| o_p rfl (Zc rfl rfl u_0) <| o_n) (by kernel_rfl) (fun a g hst hb => ?_)
                 refine wp_cond_split (hst.bool 6 rfl) (fun hc27 => ?_) (fun hc27 => ?_)
                 · replace H0 := Zp hc27 H0
                   obtain ⟨r28, h29, H0⟩ := Zk H0
                   refine r_s (L := [(3, _), (4, _), (6, _), (8, _)]) (T := [⟨[.old 0], _, [], [], [89]⟩, ⟨[.old 1], _, [], [], [90]⟩, ⟨[.old 0], _, [], [], [91]⟩, ⟨[.op 2 0], _, [], [2], [92]⟩, ⟨[.op 3 0], _, [], [2, 3], [93]⟩, ⟨[.op 0 0, .old 2], _, [7], [0, 2, 3], [6]⟩, ⟨[.op 1 0], _, [], [0, 1, 2, 3, 5], [7]⟩, ⟨[.op 4 0, .old 3], _, [9], Lr 7, [8]⟩]) (F := [.old 0, .old 1, .op 5 0, .op 6 0, .op 7 0]) (hst.pick [0, 1, 3, 4] rfl) hb Za
                     (o_p rfl (Zch Z0 rfl rfl u_0) <| o_p rfl (Zg ty_4 rfl rfl u_0) <| o_p rfl (Zch Z0 rfl rfl u_0) <| o_p rfl (Zt Zmx (Zgs _ h29) rfl rfl (.cons u_0 .nil)) <| o_p rfl (Zug rfl rfl u_0) <| o_p rfl (Z5 Z0 rfl rfl u_1 u_0) <| o_p rfl (Zc rfl rfl u_0) <| o_p rfl (Z5 Zct rfl rfl u_1 u_0) <| o_n) (by kernel_rfl) (fun a g hst hb => ?_)
                   refine wp_ret ?_
                   refine Zv ?_
                   refine Zm ?_
                   obtain rfl := Option.some.inj H0
                   obtain ⟨u0, hu0, hq0⟩ := Zbe (P := Tryd.prog) Z0 (hst.at 2 rfl)
                   obtain ⟨u2, hu2, hq2⟩ := Zbe (P := Tryd.prog) Zct (hst.at 4 rfl)
                   exact Zg8 rfl hst hb hu0 (Zl (s := 7)) hu2 (Zfp hq0 (hst.at 3 rfl) hq2)
                 · replace H0 := Zo hc27 H0
                   obtain ⟨r30, h31, H0⟩ := Zk H0
                   refine r_s (L := [(3, _), (4, _), (5, _), (6, _), (8, _), (9, _)]) (T := [⟨[.old 2], _, [], [], [95]⟩, ⟨[.op 0 0], _, [], [0], [96]⟩, ⟨[.op 1 0], _, [], [0, 1], [97]⟩, ⟨[.old 0], _, [], [], [98]⟩, ⟨[.op 3 0], _, [], [3], [99]⟩, ⟨[.op 2 0, .op 4 0], _, [], Lr 5, [100]⟩, ⟨[.op 5 0], _, [], Lr 6, [94]⟩]) (F := [.old 0, .old 1, .old 2, .old 3, .old 4, .old 5, .op 6 0]) (hst.pick [0, 1, 2, 3, 4, 5] rfl) hb Za
                     (o_p rfl (Ze Zb9 rfl rfl u_0) <| o_p rfl (Zg ty_3 rfl rfl u_0) <| o_p rfl (Zt Zzf (Zq3 _ h31) rfl rfl (.cons u_0 .nil)) <| o_p rfl (Zj Zcx (off := 0) (by kernel_rfl) rfl rfl u_0) <| o_p rfl (Z1 ty_3 rfl rfl u_0) <| o_p rfl (Zdu rfl rfl u_0 u_1) <| o_p rfl (Zc rfl rfl u_0) <| o_n) (by kernel_rfl) (fun a g hst hb => ?_)
                   refine wp_cond_split (hst.bool 6 rfl) (fun hc32 => ?_) (fun hc32 => ?_)
                   · replace H0 := Zp hc32 H0
                     obtain ⟨r33, h34, H0⟩ := Zk H0
                     refine r_s (L := [(3, _), (4, _), (6, _), (8, _), (9, _)]) (T := [⟨[.old 4], _, [], [], [101]⟩, ⟨[.op 0 0, .old 0], [(102, (pTup [(Zf.pd r33.1), (Zba r33.2.1), (Zu.pd r33.2.2.1)])), (3, (pBox Zf 3 r33.2.2.2))], [4], [0], [3, 9, 101, 102]⟩, ⟨[.op 1 0], _, [], [0, 1], [103]⟩, ⟨[.op 1 0], _, [], [0, 1], [104]⟩, ⟨[.op 1 0], _, [], [0, 1], [105]⟩, ⟨[.op 2 0, .old 2], _, [7], Lr 5, [6]⟩, ⟨[.op 3 0], _, [], Lr 6, [7]⟩, ⟨[.op 4 0, .old 3], _, [9], Lr 7, [8]⟩]) (F := [.op 1 1, .old 1, .op 5 0, .op 6 0, .op 7 0]) (hst.pick [0, 1, 3, 4, 5] rfl) hb Za
                       (o_p rfl (Zd rfl rfl u_0) <| o_p rfl (Zj3 (Ps := [.val (pInt .i64 (5 : Int))]) (hs := []) (ks := [(3, none, 3)]) Zp9 (Zg7 _ _ _ h34) rfl rfl rfl u_0 (.val c_i .nil) (.box u_1 rfl (.val .nil)) rfl rfl rfl rfl) <| o_p rfl (Zbf rfl rfl u_0 rfl) <| o_p rfl (Zbf rfl rfl u_0 rfl) <| o_p rfl (Zbf rfl rfl u_0 rfl) <| o_p rfl (Z5 Z0 rfl rfl u_1 u_0) <| o_p rfl (Zc rfl rfl u_0) <| o_p rfl (Z5 Zct rfl rfl u_1 u_0) <| o_n) (by kernel_rfl) (fun a g hst hb => ?_)
                     refine wp_ret ?_
                     refine Zv ?_
                     refine Zm ?_
                     obtain rfl := Option.some.inj H0
                     obtain ⟨u0, hu0, hq0⟩ := Zbe (P := Tryd.prog) Z0 (hst.at 2 rfl)
                     obtain ⟨u2, hu2, hq2⟩ := Zbe (P := Tryd.prog) Zct (hst.at 4 rfl)
                     exact Zg8 rfl hst hb hu0 (Zl (s := 7)) hu2 (Zfp hq0 (hst.at 3 rfl) hq2)
                   · replace H0 := Zo hc32 H0
                     refine wp_skip ?_
                     refine Z6 ?_
                     refine Zq ?_
                     obtain ⟨r35, h36, H0⟩ := Zk H0
                     refine r_s (L := [(3, _), (4, _), (5, _), (6, _), (8, _)]) (T := [⟨[.old 0], _, [], [], [106]⟩, ⟨[.op 0 0], _, [], [0], [107]⟩, ⟨[], [(12, (pBox Zf 12 (default : Zb)))], [13], [], [12]⟩, ⟨[.op 1 0, .op 2 0], _, [13], [0, 1, 2], [12]⟩]) (F := [.old 0, .old 1, .old 2, .old 3, .old 4, .op 3 0]) (hst.pick [0, 1, 2, 3, 4] rfl) hb Za
                       (o_p rfl (Zch Z0 rfl rfl u_0) <| o_p rfl (Zt Zmx (Zgs _ h36) rfl rfl (.cons u_0 .nil)) <| o_p rfl (Zbi (zs := [.int .i64 0, .int .i64 0, .int .i64 0, .int .i64 0, .float .f64 0, .int .i64 0, .string ByteArray.empty, .slice none 0 0]) (by kernel_rfl) (fun g => Zbo g) rfl rfl) <| o_p rfl (Zci Z0 rfl rfl u_1 u_0) <| o_n) (by kernel_rfl) (fun a g hst hb => ?_)
                     refine r_s (T := [⟨[], [(13, (pBox Zu 13 (default : Zi)))], [14], [], [13]⟩]) (F := [.old 0, .old 1, .old 2, .old 3, .old 4, .old 5, .op 0 0]) hst hb Za
                       (o_p rfl (Zbi (zs := [.int .i64 0, .int .i64 0, .int .i64 0, .int .i64 0, .int .i64 0, .int .i64 0, .float .f64 0, .int .i64 0, .string ByteArray.empty, .slice none 0 0]) (by kernel_rfl) (fun g => Ze6 g) rfl rfl) <| o_n) (by kernel_rfl) (fun a g hst hb => ?_)
                     refine wp_seq ?_
                     obtain ⟨h37, H0⟩ := Zhb H0; obtain ⟨r38, h39, H0⟩ := Zk H0
                     refine r_s (T := [⟨[], _, [], [], [108]⟩, ⟨[.old 2], _, [], [], [109]⟩, ⟨[.op 1 0], _, [], [1], [110]⟩, ⟨[.op 0 0, .op 2 0], [(111, (pFun Tryd.prog (Phi a2.Kind)))], [], [0, 1, 2], [111]⟩, ⟨[.old 2], _, [], [], [112]⟩, ⟨[.op 3 0, .old 0, .op 4 0, .old 6], [(113, (pInt .i64 r38.1)), (3, (pBox Zf 3 r38.2.1)), (13, (pBox Zu 13 r38.2.2))], [4, 14], Lr 5, [3, 13, 113]⟩, ⟨[.op 5 0], _, [], Lr 6, [14]⟩]) (F := [.op 5 1, .old 1, .old 3, .old 4, .old 5, .op 5 2, .op 6 0]) hst hb Za
                       (o_p rfl (Zt Z4e Zpy rfl rfl .nil) <| o_p rfl (Ze Zb9 rfl rfl u_0) <| o_p rfl (Zg ty_3 rfl rfl u_0) <| o_p rfl (Zt3 Tryd.underlying116 (by kernel_rfl) ⟨_, Tryd.underlying115, rfl⟩ (by have := h37; omega) (Z2a h37) (by have := h37; omega) rfl rfl u_0 u_1) <| o_p rfl (Zg Zfa rfl rfl u_0) <| o_p rfl (Zvl (hs := [(3, none, 3), (13, none, 13)]) (Z08 h39) rfl rfl rfl u_0 (.box u_1 u_1 rfl (.val u_2 (.box u_3 u_3 rfl .nil))) rfl rfl rfl) <| o_p rfl (Zc rfl rfl u_0) <| o_n) (by kernel_rfl) (fun a g hst hb => ?_)
                     refine r_s (T := [⟨[.old 6], _, [], [], [114]⟩, ⟨[.op 0 0], _, [], [0], [115]⟩]) (F := [.old 0, .old 1, .old 2, .old 3, .old 4, .old 5, .old 6, .op 1 0]) hst hb Za
                       (o_p rfl (Zd rfl rfl u_0) <| o_p rfl (Zdu rfl rfl u_0 c_i) <| o_n) (by kernel_rfl) (fun a g hst hb => ?_)
                     refine wp_cond_split (hst.bool 7 rfl) (fun hc40 => ?_) (fun hc40 => ?_)
                     · replace H0 := Zp hc40 H0
                       refine r_s (L := [(3, _), (4, _), (6, _), (8, _), (12, _), (14, _)]) (T := [⟨[.old 4], _, [], [], [116]⟩, ⟨[.old 1], _, [], [], [117]⟩, ⟨[.old 5], _, [], [], [118]⟩, ⟨[.op 2 0], _, [], [2], [119]⟩, ⟨[.op 0 0, .old 2], _, [7], [0], [6]⟩, ⟨[.op 1 0], _, [], [0, 1, 4], [7]⟩, ⟨[.op 3 0, .old 3], _, [9], Lr 6, [8]⟩]) (F := [.old 0, .old 1, .op 4 0, .op 5 0, .op 6 0]) (hst.pick [0, 1, 2, 3, 4, 6] rfl) hb Za
                         (o_p rfl (Zg Z0 rfl rfl u_0) <| o_p rfl (Zg ty_4 rfl rfl u_0) <| o_p rfl (Zd rfl rfl u_0) <| o_p rfl (Zqx rfl rfl u_0) <| o_p rfl (Z5 Z0 rfl rfl u_1 u_0) <| o_p rfl (Zc rfl rfl u_0) <| o_p rfl (Z5 Zct rfl rfl u_1 u_0) <| o_n) (by kernel_rfl) (fun a g hst hb => ?_)
                       refine wp_ret ?_
                       refine Zm ?_
                       obtain rfl := Option.some.inj H0
                       obtain ⟨u0, hu0, hq0⟩ := Zbe (P := Tryd.prog) Z0 (hst.at 2 rfl)
                       obtain ⟨u2, hu2, hq2⟩ := Zbe (P := Tryd.prog) Zct (hst.at 4 rfl)
                       exact Zg8 rfl hst hb hu0 (Zl (s := 7)) hu2 (Zfp hq0 (hst.at 3 rfl) hq2)
                     · replace H0 := Zo hc40 H0
                       refine wp_skip ?_
                       refine Zq ?_
                       refine r_s (L := [(3, _), (4, _), (6, _), (8, _), (13, _)]) (T := [⟨[.old 0], _, [], [], [120]⟩, ⟨[.old 1], _, [], [], [121]⟩, ⟨[.old 4], _, [], [], [122]⟩, ⟨[.op 0 0, .old 2], _, [7], [0], [6]⟩, ⟨[.op 1 0], _, [], [0, 1, 3], [7]⟩, ⟨[.op 2 0, .old 3], _, [9], Lr 5, [8]⟩]) (F := [.old 0, .old 1, .op 3 0, .op 4 0, .op 5 0]) (hst.pick [0, 1, 2, 3, 5] rfl) hb Za
                         (o_p rfl (Zch Z0 rfl rfl u_0) <| o_p rfl (Zg ty_4 rfl rfl u_0) <| o_p rfl (Zch Zct rfl rfl u_0) <| o_p rfl (Z5 Z0 rfl rfl u_1 u_0) <| o_p rfl (Zc rfl rfl u_0) <| o_p rfl (Z5 Zct rfl rfl u_1 u_0) <| o_n) (by kernel_rfl) (fun a g hst hb => ?_)
                       refine wp_ret ?_
                       obtain rfl := Option.some.inj H0
                       obtain ⟨u0, hu0, hq0⟩ := Zbe (P := Tryd.prog) Z0 (hst.at 2 rfl)
                       obtain ⟨u2, hu2, hq2⟩ := Zbe (P := Tryd.prog) Zct (hst.at 4 rfl)
                       exact Zg8 rfl hst hb hu0 (Zl (s := 7)) hu2 (Zfp hq0 (hst.at 3 rfl) hq2)
     · refine wp_cond_split (hst.bool 6 rfl) (fun hc10 => ?_) (fun hc10 => ?_)
       · replace H0 := Zp hc10 H0
         obtain ⟨r11, h12, H0⟩ := Zk H0
         refine r_s (L := [(3, _), (4, _), (5, _), (6, _), (8, _), (9, _)]) (T := [⟨[.old 0], _, [], [], [32]⟩, ⟨[.op 0 0], _, [], [0], [33]⟩, ⟨[.op 1 0], _, [], [0, 1], [11]⟩]) (F := [.old 0, .old 1, .old 2, .old 3, .old 4, .old 5, .op 2 0]) (hst.pick [0, 1, 2, 3, 4, 5] rfl) hb Za
           (o_p rfl (Zch Z0 rfl rfl u_0) <| o_p rfl (Zt Zr1 (Zj6 _ h12) rfl rfl (.cons u_0 .nil)) <| o_p rfl (Zc rfl rfl u_0) <| o_n) (by kernel_rfl) (fun a g hst hb => ?_)
         refine r_s (T := [⟨[.old 6], _, [], [], [34]⟩, ⟨[.op 0 0], _, [], [0], [35]⟩]) (F := [.old 0, .old 1, .old 2, .old 3, .old 4, .old 5, .old 6, .op 1 0]) hst hb Za
           (o_p rfl (Zd rfl rfl u_0) <| o_p rfl (Zdu rfl rfl u_0 c_i) <| o_n) (by kernel_rfl) (fun a g hst hb => ?_)
         refine wp_cond_split (hst.bool 7 rfl) (fun hc13 => ?_) (fun hc13 => ?_)
         · replace H0 := Zp hc13 H0
           obtain ⟨r14, h15, H0⟩ := Zk H0
           refine r_s (L := [(3, _), (4, _), (6, _), (8, _), (9, _), (11, _)]) (T := [⟨[.old 4], _, [], [], [36]⟩, ⟨[.old 5], _, [], [], [37]⟩, ⟨[.op 0 0, .op 1 0, .old 0], [(38, (pTup [(Zf.pd r14.1), (Zba r14.2.1), (Zu.pd r14.2.2.1)])), (3, (pBox Zf 3 r14.2.2.2))], [4], [0, 1], [3, 9, 36, 38]⟩, ⟨[.op 2 0], _, [], [0, 1, 2], [39]⟩, ⟨[.op 2 0], _, [], [0, 1, 2], [40]⟩, ⟨[.op 2 0], _, [], [0, 1, 2], [41]⟩, ⟨[.op 3 0, .old 2], _, [7], Lr 6, [6]⟩, ⟨[.op 4 0], _, [], Lr 7, [7]⟩, ⟨[.op 5 0, .old 3], _, [9], Lr 8, [8]⟩]) (F := [.op 2 1, .old 1, .op 6 0, .op 7 0, .op 8 0]) (hst.pick [0, 1, 3, 4, 5, 6] rfl) hb Za
             (o_p rfl (Zd rfl rfl u_0) <| o_p rfl (Zd rfl rfl u_0) <| o_p rfl (Zj3 (Ps := [.val (pInt .i64 r11)]) (hs := []) (ks := [(3, none, 3)]) Zp9 (Zg7 _ _ _ h15) rfl rfl rfl u_0 (.val u_1 .nil) (.box u_2 rfl (.val .nil)) rfl rfl rfl rfl) <| o_p rfl (Zbf rfl rfl u_0 rfl) <| o_p rfl (Zbf rfl rfl u_0 rfl) <| o_p rfl (Zbf rfl rfl u_0 rfl) <| o_p rfl (Z5 Z0 rfl rfl u_1 u_0) <| o_p rfl (Zc rfl rfl u_0) <| o_p rfl (Z5 Zct rfl rfl u_1 u_0) <| o_n) (by kernel_rfl) (fun a g hst hb => ?_)
           refine wp_ret ?_
           refine Zm ?_
           refine Zm ?_
           obtain rfl := Option.some.inj H0
           obtain ⟨u0, hu0, hq0⟩ := Zbe (P := Tryd.prog) Z0 (hst.at 2 rfl)
           obtain ⟨u2, hu2, hq2⟩ := Zbe (P := Tryd.prog) Zct (hst.at 4 rfl)
           exact Zg8 rfl hst hb hu0 (Zl (s := 7)) hu2 (Zfp hq0 (hst.at 3 rfl) hq2)
         · replace H0 := Zo hc13 H0
           refine wp_skip ?_
           exact ⟨g, rfl, (hst.pick [0, 1, 2, 3, 4, 5] rfl), hb, H0⟩
       · replace H0 := Zo hc10 H0
         refine wp_skip ?_
         exact ⟨g, rfl, (hst.pick [0, 1, 2, 3, 4, 5] rfl), hb, H0⟩
 · refine wp_cond_split (hst.bool 5 rfl) (fun hc1 => ?_) (fun hc1 => ?_)
   · replace H0 := Zp hc1 H0
     refine r_g (L := [(3, _), (4, _), (5, _), (6, _), (8, _)]) (T := [⟨[], _, [], [], [17]⟩, ⟨[.op 0 0, .old 0], _, [4], [0], [3]⟩]) (F := [.op 1 0, .old 1, .old 2, .old 3, .old 4]) (hst.pick [0, 1, 2, 3, 4] rfl) hb Za
       (o_p rfl (Zkt rfl rfl ) <| o_p rfl (Z5 Z0 rfl rfl u_1 u_0) <| o_n) (by kernel_rfl) (fun a g hst hb => ?_)
     exact ⟨({ Kind := (0 : Int), Num := (0 : Int), Low := (0 : Int), High := (0 : Int), Real := (0 : Nat), Cap := (0 : Int), Text := ByteArray.empty, List := ([] : List Zh) } : Zb), g, rfl, (hst.pick [0, 1, 2, 3, 4] rfl), hb, H0⟩
   · replace H0 := Zo hc1 H0
     refine wp_skip ?_
     exact ⟨a0, g, rfl, (hst.pick [0, 1, 2, 3, 4] rfl), hb, H0⟩
theorem Zme (a0 : Zb) (a1 : List Zb) {r : Zb} (h : Zii a0 a1 = some r) : FnOk Tryd.prog 15 [(Zf.pd a0), (Zf.sl.pd a1)] (Zf.pd r) := by
 have H0 := h
 unfold Zii at H0
 clear h
 refine Zbq (N := 76) Tryd.func15 rfl rfl (Nat.le_of_ble_eq_true rfl) rfl rfl (fun a g0 hst hb => ?_)
 refine r_s (T := [⟨[.old 0], _, [3], [], [2]⟩, ⟨[], [(4, (pBox Zf 4 (default : Zb)))], [5], [], [4]⟩]) (F := [.old 1, .op 0 0, .op 1 0]) hst hb Za
   (o_p rfl (Zik rfl rfl u_0) <| o_p rfl (Zbi (zs := [.int .i64 0, .int .i64 0, .int .i64 0, .int .i64 0, .float .f64 0, .int .i64 0, .string ByteArray.empty, .slice none 0 0]) (by kernel_rfl) (fun g => Zbo g) rfl rfl) <| o_n) (by kernel_rfl) (fun a g hst hb => ?_)
 obtain ⟨r1, h2, H0⟩ := Zk H0
 refine r_s (T := [⟨[.old 1], _, [], [], [10]⟩, ⟨[.op 0 0], _, [], [0], [11]⟩, ⟨[.op 1 0, .old 1], _, [3], [0, 1], [2]⟩]) (F := [.old 0, .op 2 0, .old 2]) hst hb Za
   (o_p rfl (Zch Z0 rfl rfl u_0) <| o_p rfl (Zt Zmx (Zgs _ h2) rfl rfl (.cons u_0 .nil)) <| o_p rfl (Z5 Z0 rfl rfl u_1 u_0) <| o_n) (by kernel_rfl) (fun a g hst hb => ?_)
 refine wp_seq ?_
 refine r_s (T := [⟨[.old 0], _, [], [], [12]⟩, ⟨[.op 0 0], _, [], [0], [13]⟩, ⟨[], _, [], [], [14]⟩]) (F := [.old 1, .old 2, .op 0 0, .op 1 0, .op 2 0]) hst hb Za
   (o_p rfl (Zd rfl rfl u_0) <| o_p rfl (Zcd Tryd.underlying33 rfl rfl u_0) <| o_p rfl (Zd rfl rfl c_i) <| o_n) (by kernel_rfl) (fun a g hst hb => ?_)
 obtain ⟨z34, hz1, H0⟩ := Zk H0
 refine Zbv (fun a w => ∃ (y33 : Zb) (g : G), w = g.w ∧ St 76 [(2, (pBox Zf 2 y33)), (4, (pBox Zf 4 (default : Zb)))] a g ∧ Base g0 g ∧ y33 = z34) ?_ ?_
 · rintro a w ⟨y33, g, rfl, hst, hb, rfl⟩
   refine Zq ?_
   refine r_s (T := [⟨[.old 0], _, [], [], [75]⟩, ⟨[.op 0 0, .old 1], _, [5], [0], [4]⟩]) (F := [.op 1 0]) hst hb Za
     (o_p rfl (Zch Z0 rfl rfl u_0) <| o_p rfl (Z5 Z0 rfl rfl u_1 u_0) <| o_n) (by kernel_rfl) (fun a g hst hb => ?_)
   refine wp_ret ?_
   obtain rfl := Option.some.inj H0
   obtain ⟨u0, hu0, hq0⟩ := Zbe (P := Tryd.prog) Z0 (hst.at 0 rfl)
   exact Zx rfl hst hb hu0 hq0
 · refine wp_block ?_
   refine wp_loop_ghost (fun n a w => ∃ (x3 : Zb) (x4 : Int) (g : G), w = g.w ∧ St 76 [(2, (pBox Zf 2 x3)), (4, (pBox Zf 4 (default : Zb))), (12, (Zf.sl.pd a1)), (13, (pInt .i64 (a1.length : Int))), (14, (pInt .i64 x4))] a g ∧ Base g0 g ∧ Zb6 a1 n x3 x4 = some z34) (Int.toNat ((a1.length : Int) - (0 : Int)) + 1) ⟨r1, (0 : Int), g, rfl, (hst.pick [0, 1, 2, 3, 4] rfl), hb, hz1⟩ (fun n a w hI => ?_)
   obtain ⟨x3, x4, g, rfl, hst, hb, H1⟩ := hI
   cases n with
   | zero => exact absurd H1 (by simp [Zb6])
   | succ n =>
     rw [Zb6] at H1
     refine r_s (T := [⟨[.old 4, .old 3], _, [], [], [15]⟩]) (F := [.old 0, .old 1, .old 2, .old 3, .old 4, .op 0 0]) hst hb Za
       (o_p rfl (Zcb rfl rfl u_0 u_1) <| o_n) (by kernel_rfl) (fun a g hst hb => ?_)
     refine wp_seq ?_
     refine wp_cond_split (hst.bool 5 rfl) (fun hc5 => ?_) (fun hc5 => ?_)
     · replace H1 := Zp hc5 H1
       refine wp_skip ?_
       refine Zq ?_
       refine wp_seq ?_
       refine Zbv (fun a w => ∃ (j32 : Zb) (g : G), w = g.w ∧ St 76 [(2, (pBox Zf 2 j32)), (4, (pBox Zf 4 (default : Zb))), (12, (Zf.sl.pd a1)), (13, (pInt .i64 (a1.length : Int))), (14, (pInt .i64 x4))] a g ∧ Base g0 g ∧ Zda x4 (Zb6 a1 n) j32 = some z34) ?_ ?_
       · rintro a w ⟨j32, g, rfl, hst, hb, H1⟩
         unfold Zda at H1
         refine Zq ?_
         refine r_g (T := [⟨[.old 4], _, [], [], [74]⟩, ⟨[.op 0 0], _, [], [0], [14]⟩]) (F := [.old 0, .old 1, .old 2, .old 3, .op 1 0]) hst hb Za
           (o_p rfl (Zcg rfl rfl u_0 c_i rfl) <| o_p rfl (Zd rfl rfl u_0) <| o_n) (by kernel_rfl) (fun a g hst hb => ?_)
         exact ⟨n, Nat.lt_succ_self _, j32, (IntKind.i64.wrap (x4 + (1 : Int))), g, rfl, (hst.pick [0, 1, 2, 3, 4] rfl), hb, H1⟩
       · refine wp_block ?_
         obtain ⟨e6, h7, H1⟩ := Zk H1
         refine r_s (L := [(2, _), (4, _), (12, _), (13, _), (14, _)]) (T := [⟨[.old 2, .old 4], _, [], [], [16]⟩, ⟨[.op 0 0], _, [], [0], [17]⟩, ⟨[], [(6, (pBox Zf 6 (default : Zb)))], [7], [], [6]⟩, ⟨[.op 1 0, .op 2 0], _, [7], [0, 1, 2], [6]⟩]) (F := [.old 0, .old 1, .op 3 0, .old 2, .old 3, .old 4]) (hst.pick [0, 1, 2, 3, 4] rfl) hb Za
           (o_p rfl (Zbh Tryd.underlying33 Zvd rfl rfl u_0 u_1 h7) <| o_p rfl (Zg Z0 rfl rfl u_0) <| o_p rfl (Zbi (zs := [.int .i64 0, .int .i64 0, .int .i64 0, .int .i64 0, .float .f64 0, .int .i64 0, .string ByteArray.empty, .slice none 0 0]) (by kernel_rfl) (fun g => Zbo g) rfl rfl) <| o_p rfl (Zci Z0 rfl rfl u_1 u_0) <| o_n) (by kernel_rfl) (fun a g hst hb => ?_)
         refine r_s (T := [⟨[.old 0], _, [], [], [18]⟩, ⟨[.op 0 0], _, [], [0], [19]⟩]) (F := [.old 0, .old 1, .old 2, .old 3, .old 4, .old 5, .op 1 0]) hst hb Za
           (o_p rfl (Zj Zcx (off := 0) (by kernel_rfl) rfl rfl u_0) <| o_p rfl (Z1 ty_3 rfl rfl u_0) <| o_n) (by kernel_rfl) (fun a g hst hb => ?_)
         refine wp_block ?_
         refine wp_seq ?_
         refine r_s (T := [⟨[.old 6], _, [], [], [21]⟩, ⟨[.op 0 0], _, [], [0], [20]⟩]) (F := [.old 0, .old 1, .old 2, .old 3, .old 4, .old 5, .old 6, .op 1 0]) hst hb Za
           (o_p rfl (Z7 rfl rfl u_0 c_i) <| o_p rfl (Zc rfl rfl u_0) <| o_n) (by kernel_rfl) (fun a g hst hb => ?_)
         refine Zbv (fun a w => ∃ (j10 : Bool) (g : G), w = g.w ∧ St 76 [(2, (pBox Zf 2 x3)), (4, (pBox Zf 4 (default : Zb))), (6, (Zf.ptr e6)), (12, (Zf.sl.pd a1)), (13, (pInt .i64 (a1.length : Int))), (14, (pInt .i64 x4)), (19, (pInt .i64 x3.Kind)), (20, (Zba j10))] a g ∧ Base g0 g ∧ Zdr x3 x4 e6 (Zb6 a1 n) j10 = some z34) ?_ ?_
         · rintro a w ⟨j10, g, rfl, hst, hb, H1⟩
           unfold Zdr at H1
           refine Zq ?_
           refine wp_cond_split (hst.bool 7 rfl) (fun hc11 => ?_) (fun hc11 => ?_)
           · replace H1 := Zp hc11 H1
             refine r_g (L := [(2, _), (4, _), (6, _), (12, _), (13, _), (14, _)]) (T := [⟨[.old 0], _, [], [], [24]⟩, ⟨[.op 0 0], _, [], [0], [25]⟩, ⟨[.old 2], _, [], [], [26]⟩, ⟨[.op 2 0], _, [], [2], [27]⟩, ⟨[.op 1 0, .op 3 0], _, [], Lr 4, [28]⟩, ⟨[.old 0], _, [], Lr 5, [29]⟩, ⟨[.op 4 0, .op 5 0, .old 0], _, [3], Lr 6, [2, 24, 29]⟩]) (F := [.op 6 0, .old 1, .old 3, .old 4, .old 5]) (hst.pick [0, 1, 2, 3, 4, 5] rfl) hb Za
               (o_p rfl (Zj Zbx (off := 1) (by kernel_rfl) rfl rfl u_0) <| o_p rfl (Z1 ty_2 rfl rfl u_0) <| o_p rfl (Ze Zbx rfl rfl u_0) <| o_p rfl (Zg ty_2 rfl rfl u_0) <| o_p rfl (Zcg rfl rfl u_0 u_1 rfl) <| o_p rfl (Zj Zbx (off := 1) (by kernel_rfl) rfl rfl u_0) <| o_p rfl (Zil ty_2 rfl rfl u_2 u_1 u_0) <| o_n) (by kernel_rfl) (fun a g hst hb => ?_)
             refine Z6 ?_
             refine Z6 ?_
             exact ⟨({ x3 with Num := (IntKind.i64.wrap (x3.Num + e6.Num)) }), g, rfl, (hst.pick [0, 1, 2, 3, 4] rfl), hb, H1⟩
           · replace H1 := Zo hc11 H1
             refine r_s (L := [(2, _), (4, _), (6, _), (12, _), (13, _), (14, _), (19, _)]) (T := [⟨[.old 6], _, [], [], [31]⟩, ⟨[.op 0 0], _, [], [0], [30]⟩]) (F := [.old 0, .old 1, .old 2, .old 3, .old 4, .old 5, .old 6, .op 1 0]) (hst.pick [0, 1, 2, 3, 4, 5, 6] rfl) hb Za
               (o_p rfl (Z7 rfl rfl u_0 c_i) <| o_p rfl (Zc rfl rfl u_0) <| o_n) (by kernel_rfl) (fun a g hst hb => ?_)
             refine wp_cond_split (hst.bool 7 rfl) (fun hc12 => ?_) (fun hc12 => ?_)
             · replace H1 := Zp hc12 H1
               obtain ⟨r13, h14, H1⟩ := Zk H1
               refine r_g (L := [(2, _), (4, _), (6, _), (12, _), (13, _), (14, _)]) (T := [⟨[.old 0], _, [], [], [32]⟩, ⟨[.op 0 0], _, [], [0], [33]⟩, ⟨[.old 2], _, [], [], [34]⟩, ⟨[.op 2 0], _, [], [2], [35]⟩, ⟨[.op 1 0, .op 3 0], _, [], Lr 4, [36]⟩, ⟨[.old 0], _, [], Lr 5, [37]⟩, ⟨[.op 4 0, .op 5 0, .old 0], _, [3], Lr 6, [2, 32, 37]⟩]) (F := [.op 6 0, .old 1, .old 3, .old 4, .old 5]) (hst.pick [0, 1, 2, 3, 4, 5] rfl) hb Za
                 (o_p rfl (Zj Zcv (off := 4) (by kernel_rfl) rfl rfl u_0) <| o_p rfl (Z1 Zby rfl rfl u_0) <| o_p rfl (Ze Zcv rfl rfl u_0) <| o_p rfl (Zg Zby rfl rfl u_0) <| o_p rfl (Zt Zyu (Zpw _ _ h14) rfl rfl (.cons u_0 (.cons u_1 .nil))) <| o_p rfl (Zj Zcv (off := 4) (by kernel_rfl) rfl rfl u_0) <| o_p rfl (Zio Zby rfl rfl u_2 u_1 u_0) <| o_n) (by kernel_rfl) (fun a g hst hb => ?_)
               refine Z6 ?_
               refine Z6 ?_
               exact ⟨({ x3 with Real := r13 }), g, rfl, (hst.pick [0, 1, 2, 3, 4] rfl), hb, H1⟩
             · replace H1 := Zo hc12 H1
               refine r_s (L := [(2, _), (4, _), (6, _), (12, _), (13, _), (14, _), (19, _)]) (T := [⟨[.old 6], _, [], [], [39]⟩, ⟨[.op 0 0], _, [], [0], [38]⟩]) (F := [.old 0, .old 1, .old 2, .old 3, .old 4, .old 5, .old 6, .op 1 0]) (hst.pick [0, 1, 2, 3, 4, 5, 6] rfl) hb Za
                 (o_p rfl (Z7 rfl rfl u_0 c_i) <| o_p rfl (Zc rfl rfl u_0) <| o_n) (by kernel_rfl) (fun a g hst hb => ?_)
               refine wp_cond_split (hst.bool 7 rfl) (fun hc15 => ?_) (fun hc15 => ?_)
               · replace H1 := Zp hc15 H1
                 obtain ⟨r16, h17, H1⟩ := Zk H1
                 refine r_g (L := [(2, _), (4, _), (6, _), (12, _), (13, _), (14, _)]) (T := [⟨[.old 0], _, [], [], [40]⟩, ⟨[.op 0 0], _, [], [0], [41]⟩, ⟨[.old 2], _, [], [], [42]⟩, ⟨[.op 2 0], _, [], [2], [43]⟩, ⟨[.op 1 0, .op 3 0], _, [], Lr 4, [44]⟩, ⟨[.old 0], _, [], Lr 5, [45]⟩, ⟨[.op 4 0, .op 5 0, .old 0], _, [3], Lr 6, [2, 40, 45]⟩]) (F := [.op 6 0, .old 1, .old 3, .old 4, .old 5]) (hst.pick [0, 1, 2, 3, 4, 5] rfl) hb Za
                   (o_p rfl (Zj Zcv (off := 4) (by kernel_rfl) rfl rfl u_0) <| o_p rfl (Z1 Zby rfl rfl u_0) <| o_p rfl (Ze Zcv rfl rfl u_0) <| o_p rfl (Zg Zby rfl rfl u_0) <| o_p rfl (Zt Zzb (Zp2 _ _ h17) rfl rfl (.cons u_0 (.cons u_1 .nil))) <| o_p rfl (Zj Zcv (off := 4) (by kernel_rfl) rfl rfl u_0) <| o_p rfl (Zio Zby rfl rfl u_2 u_1 u_0) <| o_n) (by kernel_rfl) (fun a g hst hb => ?_)
                 refine Z6 ?_
                 refine Z6 ?_
                 exact ⟨({ x3 with Real := r16 }), g, rfl, (hst.pick [0, 1, 2, 3, 4] rfl), hb, H1⟩
               · replace H1 := Zo hc15 H1
                 refine wp_seq ?_
                 refine r_s (L := [(2, _), (4, _), (6, _), (12, _), (13, _), (14, _), (19, _)]) (T := [⟨[.old 6], _, [], [], [47]⟩, ⟨[.op 0 0], _, [], [0], [46]⟩]) (F := [.old 0, .old 1, .old 2, .old 3, .old 4, .old 5, .old 6, .op 1 0]) (hst.pick [0, 1, 2, 3, 4, 5, 6] rfl) hb Za
                   (o_p rfl (Z7 rfl rfl u_0 c_i) <| o_p rfl (Zc rfl rfl u_0) <| o_n) (by kernel_rfl) (fun a g hst hb => ?_)
                 refine Zbv (fun a w => ∃ (j19 : Bool) (g : G), w = g.w ∧ St 76 [(2, (pBox Zf 2 x3)), (4, (pBox Zf 4 (default : Zb))), (6, (Zf.ptr e6)), (12, (Zf.sl.pd a1)), (13, (pInt .i64 (a1.length : Int))), (14, (pInt .i64 x4)), (46, (Zba j19))] a g ∧ Base g0 g ∧ Zet x3 x4 e6 (Zb6 a1 n) j19 = some z34) ?_ ?_
                 · rintro a w ⟨j19, g, rfl, hst, hb, H1⟩
                   unfold Zet at H1
                   refine Zq ?_
                   refine wp_cond_split (hst.bool 6 rfl) (fun hc20 => ?_) (fun hc20 => ?_)
                   · replace H1 := Zp hc20 H1
                     refine r_s (L := [(2, _), (4, _), (6, _), (12, _), (13, _), (14, _)]) (T := [⟨[.old 2], _, [], [], [49]⟩, ⟨[.op 0 0], _, [], [0], [50]⟩, ⟨[.op 1 0], _, [], [0, 1], [51]⟩, ⟨[], _, [], [], [52]⟩]) (F := [.old 0, .old 1, .old 3, .old 4, .old 5, .op 1 0, .op 2 0, .op 3 0]) (hst.pick [0, 1, 2, 3, 4, 5] rfl) hb Za
                       (o_p rfl (Ze Zbm rfl rfl u_0) <| o_p rfl (Zg Zca rfl rfl u_0) <| o_p rfl (Zcd Tryd.underlying23 rfl rfl u_0) <| o_p rfl (Zd rfl rfl c_i) <| o_n) (by kernel_rfl) (fun a g hst hb => ?_)
                     obtain ⟨z31, hz2, H1⟩ := Zk H1
                     refine Zbv (fun a w => ∃ (y30 : Zb) (g : G), w = g.w ∧ St 76 [(2, (pBox Zf 2 y30)), (4, (pBox Zf 4 (default : Zb))), (12, (Zf.sl.pd a1)), (13, (pInt .i64 (a1.length : Int))), (14, (pInt .i64 x4))] a g ∧ Base g0 g ∧ y30 = z31) ?_ ?_
                     · rintro a w ⟨y30, g, rfl, hst, hb, rfl⟩
                       refine Z6 ?_
                       refine Z6 ?_
                       exact ⟨y30, g, rfl, (hst.pick [0, 1, 2, 3, 4] rfl), hb, H1⟩
                     · refine wp_block ?_
                       refine wp_loop_ghost (fun n a w => ∃ (x21 : Zb) (x22 : Int) (g : G), w = g.w ∧ St 76 [(2, (pBox Zf 2 x21)), (4, (pBox Zf 4 (default : Zb))), (12, (Zf.sl.pd a1)), (13, (pInt .i64 (a1.length : Int))), (14, (pInt .i64 x4)), (50, (Zr.sl.pd e6.List)), (51, (pInt .i64 (e6.List.length : Int))), (52, (pInt .i64 x22))] a g ∧ Base g0 g ∧ Zdq e6 n x21 x22 = some z31) (Int.toNat ((e6.List.length : Int) - (0 : Int)) + 1) ⟨x3, (0 : Int), g, rfl, (hst.pick [0, 1, 2, 3, 4, 5, 6, 7] rfl), hb, hz2⟩ (fun n a w hI => ?_)
                       obtain ⟨x21, x22, g, rfl, hst, hb, H2⟩ := hI
                       cases n with
                       | zero => exact absurd H2 (by simp [Zdq])
                       | succ n =>
                         rw [Zdq] at H2
                         refine r_s (T := [⟨[.old 7, .old 6], _, [], [], [53]⟩]) (F := [.old 0, .old 1, .old 2, .old 3, .old 4, .old 5, .old 6, .old 7, .op 0 0]) hst hb Za
                           (o_p rfl (Zcb rfl rfl u_0 u_1) <| o_n) (by kernel_rfl) (fun a g hst hb => ?_)
                         refine wp_seq ?_
                         refine wp_cond_split (hst.bool 8 rfl) (fun hc23 => ?_) (fun hc23 => ?_)
                         · replace H2 := Zp hc23 H2
                           refine wp_skip ?_
                           refine Zq ?_
                           refine wp_seq ?_
                           refine wp_block ?_
                           obtain ⟨e24, h25, H2⟩ := Zk H2
                           refine r_s (L := [(2, _), (4, _), (12, _), (13, _), (14, _), (50, _), (51, _), (52, _)]) (T := [⟨[.old 5, .old 7], _, [], [], [54]⟩, ⟨[.op 0 0], _, [], [0], [55]⟩, ⟨[], [(8, (pBox Zr 8 (default : Zh)))], [9], [], [8]⟩, ⟨[.op 1 0, .op 2 0], _, [9], [0, 1, 2], [8]⟩]) (F := [.old 0, .old 1, .op 3 0, .old 2, .old 3, .old 4, .old 5, .old 6, .old 7]) (hst.pick [0, 1, 2, 3, 4, 5, 6, 7] rfl) hb Za
                             (o_p rfl (Zbh Tryd.underlying23 Zdv rfl rfl u_0 u_1 h25) <| o_p rfl (Zg Zdh rfl rfl u_0) <| o_p rfl (Zbi (zs := [.float .f64 0, .string ByteArray.empty]) (by kernel_rfl) (fun g => Zgi g) rfl rfl) <| o_p rfl (Zci Zdh rfl rfl u_1 u_0) <| o_n) (by kernel_rfl) (fun a g hst hb => ?_)
                           refine r_s (T := [⟨[.old 2], _, [], [], [56]⟩, ⟨[.op 0 0], _, [], [0], [57]⟩, ⟨[.op 1 0], _, [], [0, 1], [58]⟩, ⟨[], [(9, (pBox Zw 9 (default : Zs)))], [10], [], [9]⟩, ⟨[.op 2 0, .op 3 0], _, [10], Lr 4, [9]⟩]) (F := [.old 0, .old 1, .old 2, .op 4 0, .old 3, .old 4, .old 5, .old 6, .old 7, .old 8]) hst hb Za
                             (o_p rfl (Ze Zc4 rfl rfl u_0) <| o_p rfl (Zg ty_9 rfl rfl u_0) <| o_p rfl (Zo8 rfl rfl c_i c_s u_0) <| o_p rfl (Zbi (zs := [.int .i64 0, .string ByteArray.empty, .int .i64 0, .float .f64 0, .string ByteArray.empty, .int .i64 0, .int .i64 0, .int .i64 0, .int .i64 0, .float .f64 0, .int .i64 0, .string ByteArray.empty, .slice none 0 0, .bool false]) (by kernel_rfl) (fun g => Zjy g) rfl rfl) <| o_p rfl (Z5 Zfa rfl rfl u_1 u_0) <| o_n) (by kernel_rfl) (fun a g hst hb => ?_)
                           refine wp_seq ?_
                           refine r_s (T := [⟨[.old 0], _, [], [], [59]⟩, ⟨[.op 0 0], _, [], [0], [60]⟩, ⟨[.op 1 0], _, [], [0, 1], [61]⟩]) (F := [.old 0, .old 1, .old 2, .old 3, .old 4, .old 5, .old 6, .old 7, .old 8, .old 9, .op 2 0]) hst hb Za
                             (o_p rfl (Zj Zcx (off := 0) (by kernel_rfl) rfl rfl u_0) <| o_p rfl (Z1 ty_3 rfl rfl u_0) <| o_p rfl (Z7 rfl rfl u_0 c_i) <| o_n) (by kernel_rfl) (fun a g hst hb => ?_)
                           refine Zbv (fun a w => ∃ (j27 : Zs) (g : G), w = g.w ∧ St 76 [(2, (pBox Zf 2 x21)), (4, (pBox Zf 4 (default : Zb))), (9, (pBox Zw 9 j27)), (12, (Zf.sl.pd a1)), (13, (pInt .i64 (a1.length : Int))), (14, (pInt .i64 x4)), (50, (Zr.sl.pd e6.List)), (51, (pInt .i64 (e6.List.length : Int))), (52, (pInt .i64 x22))] a g ∧ Base g0 g ∧ Zgj x21 x22 (Zdq e6 n) j27 = some z31) ?_ ?_
                           · rintro a w ⟨j27, g, rfl, hst, hb, H2⟩
                             unfold Zgj at H2
                             refine Zq ?_
                             obtain ⟨r28, h29, H2⟩ := Zk H2
                             refine r_g (T := [⟨[.old 0], _, [], [], [67]⟩, ⟨[.old 2], _, [], [], [68]⟩, ⟨[.op 0 0, .op 1 0], _, [], [0, 1], [69]⟩, ⟨[.op 2 0], _, [], [0, 1, 2], [66]⟩, ⟨[.op 3 0], _, [], Lr 4, [70]⟩, ⟨[.op 3 0], _, [], Lr 4, [71]⟩, ⟨[.op 3 0], _, [], Lr 4, [72]⟩, ⟨[.op 4 0, .old 0], _, [3], Lr 5, [2]⟩]) (F := [.op 7 0, .old 1, .old 3, .old 4, .old 5, .old 6, .old 7, .old 8]) hst hb Za
                               (o_p rfl (Zch Z0 rfl rfl u_0) <| o_p rfl (Zch Zfa rfl rfl u_0) <| o_p rfl (Zt Zyq (Znf _ _ _ h29) rfl rfl (.cons u_0 (.cons c_b (.cons u_1 .nil)))) <| o_p rfl (Zd rfl rfl u_0) <| o_p rfl (Zbf rfl rfl u_0 rfl) <| o_p rfl (Zbf rfl rfl u_0 rfl) <| o_p rfl (Zbf rfl rfl u_0 rfl) <| o_p rfl (Z5 Z0 rfl rfl u_1 u_0) <| o_n) (by kernel_rfl) (fun a g hst hb => ?_)
                             refine Z6 ?_
                             refine Zq ?_
                             refine r_g (T := [⟨[.old 7], _, [], [], [73]⟩, ⟨[.op 0 0], _, [], [0], [52]⟩]) (F := [.old 0, .old 1, .old 2, .old 3, .old 4, .old 5, .old 6, .op 1 0]) hst hb Za
                               (o_p rfl (Zcg rfl rfl u_0 c_i rfl) <| o_p rfl (Zd rfl rfl u_0) <| o_n) (by kernel_rfl) (fun a g hst hb => ?_)
                             exact ⟨n, Nat.lt_succ_self _, r28.1, (IntKind.i64.wrap (x22 + (1 : Int))), g, rfl, (hst.pick [0, 1, 2, 3, 4, 5, 6, 7] rfl), hb, H2⟩
                           · refine wp_cond_split (hst.bool 10 rfl) (fun hc26 => ?_) (fun hc26 => ?_)
                             · replace H2 := Zp hc26 H2
                               refine r_g (L := [(2, _), (4, _), (8, _), (9, _), (12, _), (13, _), (14, _), (50, _), (51, _), (52, _)]) (T := [⟨[.old 2], _, [], [], [62]⟩, ⟨[.op 0 0], _, [], [0], [63]⟩, ⟨[.old 3], _, [], [], [64]⟩, ⟨[.op 2 0, .old 3], _, [10], [2], [9, 64]⟩, ⟨[.op 3 0], _, [], Lr 4, [65]⟩, ⟨[.op 1 0, .op 4 0, .op 3 0], _, [10], Lr 5, [9, 64, 65]⟩]) (F := [.old 0, .old 1, .op 5 0, .old 4, .old 5, .old 6, .old 7, .old 8, .old 9]) (hst.pick [0, 1, 2, 3, 4, 5, 6, 7, 8, 9] rfl) hb Za
                                 (o_p rfl (Ze Zee rfl rfl u_0) <| o_p rfl (Zg Zby rfl rfl u_0) <| o_p rfl (Zj Zb9 (off := 0) (by kernel_rfl) rfl rfl u_0) <| o_p rfl (Zoo ty_3 rfl rfl u_1 u_0 c_i) <| o_p rfl (Zj Zgm (off := 3) (by kernel_rfl) rfl rfl u_0) <| o_p rfl (Z0h Zby rfl rfl u_2 u_1 u_0) <| o_n) (by kernel_rfl) (fun a g hst hb => ?_)
                               exact ⟨({ ({ ({ Kind := (18 : Int), Key := (⟨#[107]⟩ : ByteArray), N := (0 : Int), X := (0 : Nat), S := e24.Name, Make := (default : Zb), Must := false } : Zs) with Kind := (21 : Int) }) with X := e24.Score }), g, rfl, (hst.pick [0, 1, 2, 3, 4, 5, 6, 7, 8] rfl), hb, H2⟩
                             · replace H2 := Zo hc26 H2
                               refine wp_skip ?_
                               exact ⟨({ Kind := (18 : Int), Key := (⟨#[107]⟩ : ByteArray), N := (0 : Int), X := (0 : Nat), S := e24.Name, Make := (default : Zb), Must := false } : Zs), g, rfl, (hst.pick [0, 1, 3, 4, 5, 6, 7, 8, 9] rfl), hb, H2⟩
                         · replace H2 := Zo hc23 H2
                           refine wp_exit ?_
                           refine Zcf ?_
                           refine Zcf ?_
                           refine Zc1 ?_
                           exact ⟨x21, g, rfl, (hst.pick [0, 1, 2, 3, 4] rfl), hb, Option.some.inj H2⟩
                   · replace H1 := Zo hc20 H1
                     refine wp_skip ?_
                     refine Z6 ?_
                     refine Z6 ?_
                     exact ⟨x3, g, rfl, (hst.pick [0, 1, 3, 4, 5] rfl), hb, H1⟩
                 · refine wp_cond_split (hst.bool 7 rfl) (fun hc18 => ?_) (fun hc18 => ?_)
                   · replace H1 := Zp hc18 H1
                     refine wp_skip ?_
                     exact ⟨(x3.Kind == (8 : Int)), g, rfl, (hst.pick [0, 1, 2, 3, 4, 5, 7] rfl), hb, H1⟩
                   · replace H1 := Zo hc18 H1
                     refine r_g (L := [(2, _), (4, _), (6, _), (12, _), (13, _), (14, _), (19, _)]) (T := [⟨[.old 6], _, [], [], [48]⟩, ⟨[.op 0 0], _, [], [0], [46]⟩]) (F := [.old 0, .old 1, .old 2, .old 3, .old 4, .old 5, .op 1 0]) (hst.pick [0, 1, 2, 3, 4, 5, 6] rfl) hb Za
                       (o_p rfl (Z7 rfl rfl u_0 c_i) <| o_p rfl (Zc rfl rfl u_0) <| o_n) (by kernel_rfl) (fun a g hst hb => ?_)
                     exact ⟨(x3.Kind == (9 : Int)), g, rfl, (hst.pick [0, 1, 2, 3, 4, 5, 6] rfl), hb, H1⟩
         · refine wp_cond_split (hst.bool 7 rfl) (fun hc8 => ?_) (fun hc8 => ?_)
           · replace H1 := Zp hc8 H1
             refine wp_skip ?_
             exact ⟨(x3.Kind == (2 : Int)), g, rfl, (hst.pick [0, 1, 2, 3, 4, 5, 6, 7] rfl), hb, H1⟩
           · replace H1 := Zo hc8 H1
             refine r_s (L := [(2, _), (4, _), (6, _), (12, _), (13, _), (14, _), (19, _)]) (T := [⟨[.old 6], _, [], [], [22]⟩, ⟨[.op 0 0], _, [], [0], [20]⟩]) (F := [.old 0, .old 1, .old 2, .old 3, .old 4, .old 5, .old 6, .op 1 0]) (hst.pick [0, 1, 2, 3, 4, 5, 6] rfl) hb Za
               (o_p rfl (Z7 rfl rfl u_0 c_i) <| o_p rfl (Zc rfl rfl u_0) <| o_n) (by kernel_rfl) (fun a g hst hb => ?_)
             refine wp_cond_split (hst.bool 7 rfl) (fun hc9 => ?_) (fun hc9 => ?_)
             · replace H1 := Zp hc9 H1
               refine wp_skip ?_
               exact ⟨(x3.Kind == (3 : Int)), g, rfl, (hst.pick [0, 1, 2, 3, 4, 5, 6, 7] rfl), hb, H1⟩
             · replace H1 := Zo hc9 H1
               refine r_g (L := [(2, _), (4, _), (6, _), (12, _), (13, _), (14, _), (19, _)]) (T := [⟨[.old 6], _, [], [], [23]⟩, ⟨[.op 0 0], _, [], [0], [20]⟩]) (F := [.old 0, .old 1, .old 2, .old 3, .old 4, .old 5, .old 6, .op 1 0]) (hst.pick [0, 1, 2, 3, 4, 5, 6] rfl) hb Za
                 (o_p rfl (Z7 rfl rfl u_0 c_i) <| o_p rfl (Zc rfl rfl u_0) <| o_n) (by kernel_rfl) (fun a g hst hb => ?_)
               exact ⟨(x3.Kind == (4 : Int)), g, rfl, (hst.pick [0, 1, 2, 3, 4, 5, 6, 7] rfl), hb, H1⟩
     · replace H1 := Zo hc5 H1
       refine wp_exit ?_
       refine Zcf ?_
       refine Zcf ?_
       refine Zc1 ?_
       exact ⟨x3, g, rfl, (hst.pick [0, 1] rfl), hb, Option.some.inj H1⟩
theorem Zpb (a0 : Zb) (a1 : Zs) {r : Zb} (h : Zkk a0 a1 = some r) : FnOk Tryd.prog 16 [(Zf.pd a0), (Zw.pd a1)] (Zf.pd r) := by
 have H0 := h
 unfold Zkk at H0
 clear h
 refine Zbq (N := 29) Tryd.func16 rfl rfl (Nat.le_of_ble_eq_true rfl) rfl rfl (fun a g0 hst hb => ?_)
 refine r_s (T := [⟨[.old 0], _, [], [], [2]⟩, ⟨[.old 1], _, [4], [], [3]⟩, ⟨[], [(4, (pBox Zf 4 (default : Zb)))], [5], [], [4]⟩]) (F := [.op 0 0, .op 1 0, .op 2 0]) hst hb Za
   (o_p rfl (Zbs rfl rfl u_0) <| o_p rfl (Zik rfl rfl u_0) <| o_p rfl (Zbi (zs := [.int .i64 0, .int .i64 0, .int .i64 0, .int .i64 0, .float .f64 0, .int .i64 0, .string ByteArray.empty, .slice none 0 0]) (by kernel_rfl) (fun g => Zbo g) rfl rfl) <| o_n) (by kernel_rfl) (fun a g hst hb => ?_)
 refine wp_seq ?_
 refine r_s (T := [⟨[.old 1], _, [], [], [8]⟩, ⟨[.op 0 0], _, [], [0], [9]⟩]) (F := [.old 0, .old 1, .old 2, .op 1 0]) hst hb Za
   (o_p rfl (Zj Zb9 (off := 0) (by kernel_rfl) rfl rfl u_0) <| o_p rfl (Z1 ty_3 rfl rfl u_0) <| o_n) (by kernel_rfl) (fun a g hst hb => ?_)
 refine Zbv (fun a w => ∃ (j5 : Zs) (g : G), w = g.w ∧ St 29 [(2, (Zf.ptr a0)), (3, (pBox Zw 3 j5)), (4, (pBox Zf 4 (default : Zb)))] a g ∧ Base g0 g ∧ Zhe a0 j5 = some r) ?_ ?_
 · rintro a w ⟨j5, g, rfl, hst, hb, H0⟩
   unfold Zhe at H0
   refine Zq ?_
   obtain ⟨r6, h7, H0⟩ := Zk H0
   refine r_s (T := ⟨[.old 0], _, [], [], [22]⟩ :: ⟨[.old 1], _, [], [], [23]⟩ :: ⟨[.op 0 0, .op 1 0], _, [], [0, 1], [24]⟩ :: ⟨[.op 2 0], _, [], [0, 1, 2], [21]⟩ :: ⟨[.op 3 0], _, [], Lr 4, [25]⟩ :: ⟨[.op 3 0], _, [], Lr 4, [26]⟩ :: ⟨[.op 3 0], _, [], Lr 4, [27]⟩ :: ⟨[], [(5, (pBox Zf 5 (default : Zb)))], [6], [], [5]⟩ :: ⟨[], [(7, (pBox Zu 7 (default : Zi)))], [8], [], [7]⟩ :: ⟨[.op 4 0, .op 7 0], _, [6], [0, 1, 2, 3, 4, 7, 8], [5]⟩ :: ⟨[.op 5 0], _, [], [0, 1, 2, 3, 4, 5, 7, 8, 9], [6]⟩ :: ⟨[.op 6 0, .op 8 0], _, [8], Lr 11, [7]⟩ :: []) (F := [.old 2, .op 9 0]) hst hb Za
     (o_p rfl (Zg Z0 rfl rfl u_0) <| o_p rfl (Zch Zfa rfl rfl u_0) <| o_p rfl (Zt Zyq (Znf _ _ _ h7) rfl rfl (.cons u_0 (.cons c_b (.cons u_1 .nil)))) <| o_p rfl (Zd rfl rfl u_0) <| o_p rfl (Zbf rfl rfl u_0 rfl) <| o_p rfl (Zbf rfl rfl u_0 rfl) <| o_p rfl (Zbf rfl rfl u_0 rfl) <| o_p rfl (Zbi (zs := [.int .i64 0, .int .i64 0, .int .i64 0, .int .i64 0, .float .f64 0, .int .i64 0, .string ByteArray.empty, .slice none 0 0]) (by kernel_rfl) (fun g => Zbo g) rfl rfl) <| o_p rfl (Zbi (zs := [.int .i64 0, .int .i64 0, .int .i64 0, .int .i64 0, .int .i64 0, .int .i64 0, .float .f64 0, .int .i64 0, .string ByteArray.empty, .slice none 0 0]) (by kernel_rfl) (fun g => Ze6 g) rfl rfl) <| o_p rfl (Zci Z0 rfl rfl u_1 u_0) <| o_p rfl (Zc rfl rfl u_0) <| o_p rfl (Zci Zct rfl rfl u_1 u_0) <| o_n) (by kernel_rfl) (fun a g hst hb => ?_)
   refine r_s (T := [⟨[.old 1], _, [], [], [28]⟩, ⟨[.op 0 0, .old 0], _, [5], [0], [4]⟩]) (F := [.op 1 0]) hst hb Za
     (o_p rfl (Zg Z0 rfl rfl u_0) <| o_p rfl (Z5 Z0 rfl rfl u_1 u_0) <| o_n) (by kernel_rfl) (fun a g hst hb => ?_)
   refine wp_ret ?_
   obtain rfl := Option.some.inj H0
   obtain ⟨u0, hu0, hq0⟩ := Zbe (P := Tryd.prog) Z0 (hst.at 0 rfl)
   exact Zx rfl hst hb hu0 hq0
 · refine wp_block ?_
   refine wp_seq ?_
   refine r_s (T := [⟨[.old 3], _, [], [], [11]⟩, ⟨[.op 0 0], _, [], [0], [10]⟩]) (F := [.old 0, .old 1, .old 2, .old 3, .op 1 0]) hst hb Za
     (o_p rfl (Z7 rfl rfl u_0 c_i) <| o_p rfl (Zc rfl rfl u_0) <| o_n) (by kernel_rfl) (fun a g hst hb => ?_)
   refine Zbv (fun a w => ∃ (j2 : Bool) (g : G), w = g.w ∧ St 29 [(2, (Zf.ptr a0)), (3, (pBox Zw 3 a1)), (4, (pBox Zf 4 (default : Zb))), (9, (pInt .i64 a1.Kind)), (10, (Zba j2))] a g ∧ Base g0 g ∧ Zij a0 a1 j2 = some r) ?_ ?_
   · rintro a w ⟨j2, g, rfl, hst, hb, H0⟩
     unfold Zij at H0
     refine Zq ?_
     refine wp_cond_split (hst.bool 4 rfl) (fun hc3 => ?_) (fun hc3 => ?_)
     · replace H0 := Zp hc3 H0
       refine r_g (L := [(2, _), (3, _), (4, _)]) (T := [⟨[.old 1], _, [], [], [13]⟩, ⟨[.op 0 0, .old 1], _, [4], [0], [3, 13]⟩]) (F := [.old 0, .op 1 0, .old 2]) (hst.pick [0, 1, 2] rfl) hb Za
         (o_p rfl (Zj Zb9 (off := 0) (by kernel_rfl) rfl rfl u_0) <| o_p rfl (Zoo ty_3 rfl rfl u_1 u_0 c_i) <| o_n) (by kernel_rfl) (fun a g hst hb => ?_)
       refine Z6 ?_
       exact ⟨({ a1 with Kind := (7 : Int) }), g, rfl, (hst.pick [0, 1, 2] rfl), hb, H0⟩
     · replace H0 := Zo hc3 H0
       refine r_s (L := [(2, _), (3, _), (4, _), (9, _)]) (T := [⟨[.old 3], _, [], [], [15]⟩, ⟨[.op 0 0], _, [], [0], [14]⟩]) (F := [.old 0, .old 1, .old 2, .op 1 0]) (hst.pick [0, 1, 2, 3] rfl) hb Za
         (o_p rfl (Z7 rfl rfl u_0 c_i) <| o_p rfl (Zc rfl rfl u_0) <| o_n) (by kernel_rfl) (fun a g hst hb => ?_)
       refine wp_cond_split (hst.bool 3 rfl) (fun hc4 => ?_) (fun hc4 => ?_)
       · replace H0 := Zp hc4 H0
         refine r_g (L := [(2, _), (3, _), (4, _)]) (T := [⟨[.old 1], _, [], [], [16]⟩, ⟨[.op 0 0], _, [], [0], [17]⟩, ⟨[.op 1 0], _, [], [0, 1], [18]⟩, ⟨[.old 1], _, [], [0, 1], [19]⟩, ⟨[.op 3 0, .old 1], _, [4], [0, 1, 3], [3, 16, 19]⟩, ⟨[.op 4 0], _, [], Lr 5, [20]⟩, ⟨[.op 2 0, .op 5 0, .op 4 0], _, [4], Lr 6, [3, 16, 19, 20]⟩]) (F := [.old 0, .op 6 0, .old 2]) (hst.pick [0, 1, 2] rfl) hb Za
           (o_p rfl (Zj Zcq (off := 2) (by kernel_rfl) rfl rfl u_0) <| o_p rfl (Z1 ty_2 rfl rfl u_0) <| o_p rfl (Zp6 rfl rfl u_0 rfl) <| o_p rfl (Zj Zb9 (off := 0) (by kernel_rfl) rfl rfl u_0) <| o_p rfl (Zoo ty_3 rfl rfl u_1 u_0 c_i) <| o_p rfl (Zj Zcq (off := 2) (by kernel_rfl) rfl rfl u_0) <| o_p rfl (Zuc ty_2 rfl rfl u_2 u_1 u_0) <| o_n) (by kernel_rfl) (fun a g hst hb => ?_)
         refine Z6 ?_
         exact ⟨({ ({ a1 with Kind := (7 : Int) }) with N := (IntKind.i64.wrap (0 - a1.N)) }), g, rfl, (hst.pick [0, 1, 2] rfl), hb, H0⟩
       · replace H0 := Zo hc4 H0
         refine wp_skip ?_
         refine Z6 ?_
         exact ⟨a1, g, rfl, (hst.pick [0, 1, 2] rfl), hb, H0⟩
   · refine wp_cond_split (hst.bool 4 rfl) (fun hc1 => ?_) (fun hc1 => ?_)
     · replace H0 := Zp hc1 H0
       refine wp_skip ?_
       exact ⟨(a1.Kind == (8 : Int)), g, rfl, (hst.pick [0, 1, 2, 3, 4] rfl), hb, H0⟩
     · replace H0 := Zo hc1 H0
       refine r_g (L := [(2, _), (3, _), (4, _), (9, _)]) (T := [⟨[.old 3], _, [], [], [12]⟩, ⟨[.op 0 0], _, [], [0], [10]⟩]) (F := [.old 0, .old 1, .old 2, .old 3, .op 1 0]) (hst.pick [0, 1, 2, 3] rfl) hb Za
         (o_p rfl (Z7 rfl rfl u_0 c_i) <| o_p rfl (Zc rfl rfl u_0) <| o_n) (by kernel_rfl) (fun a g hst hb => ?_)
       exact ⟨(a1.Kind == (10 : Int)), g, rfl, (hst.pick [0, 1, 2, 3, 4] rfl), hb, H0⟩
theorem Zrs (a0 : Zb) {r : Z3 × Bool} (h : Zmu a0 = some r) : FnOk Tryd.prog 53 [(Zf.pd a0)] (pTup [(Z9.pd r.1), (Zba r.2)]) := by
 have H0 := h
 unfold Zmu at H0
 clear h
 refine Zbq (N := 43) Tryd.func53 rfl rfl (Nat.le_of_ble_eq_true rfl) rfl rfl (fun a g0 hst hb => ?_)
 refine r_s (T := [⟨[.old 0], _, [], [], [1]⟩, ⟨[], [(2, (pBox Z9 2 (default : Z3)))], [3], [], [2]⟩, ⟨[], _, [], [], [3]⟩]) (F := [.op 0 0, .op 1 0]) hst hb Za
   (o_p rfl (Zbs rfl rfl u_0) <| o_p rfl (Zbi (zs := [.int .u64 0, .int .u64 0]) (by kernel_rfl) (fun g => Zid g) rfl rfl) <| o_p rfl (Zc rfl rfl c_b) <| o_n) (by kernel_rfl) (fun a g hst hb => ?_)
 refine wp_seq ?_
 refine r_s (T := [⟨[.old 0], _, [], [], [4]⟩, ⟨[.op 0 0], _, [], [0], [5]⟩]) (F := [.old 0, .old 1, .op 1 0]) hst hb Za
   (o_p rfl (Ze Zcx rfl rfl u_0) <| o_p rfl (Zg ty_3 rfl rfl u_0) <| o_n) (by kernel_rfl) (fun a g hst hb => ?_)
 refine wp_block ?_
 refine r_s (T := [⟨[.old 2], _, [], [], [7]⟩, ⟨[.op 0 0], _, [], [0], [6]⟩]) (F := [.old 0, .old 1, .old 2, .op 1 0]) hst hb Za
   (o_p rfl (Z7 rfl rfl u_0 c_i) <| o_p rfl (Zc rfl rfl u_0) <| o_n) (by kernel_rfl) (fun a g hst hb => ?_)
 refine wp_cond_split (hst.bool 3 rfl) (fun hc1 => ?_) (fun hc1 => ?_)
 · replace H0 := Zp hc1 H0
   refine r_s (L := [(1, _), (2, _)]) (T := [⟨[.old 0], _, [], [], [8]⟩, ⟨[.op 0 0], _, [], [0], [9]⟩, ⟨[.op 1 0], _, [], [0, 1], [10]⟩, ⟨[.op 2 0], _, [], [0, 1, 2], [11]⟩, ⟨[.old 0], _, [], [], [12]⟩, ⟨[.op 4 0], _, [], [4], [13]⟩, ⟨[.op 5 0], _, [], [4, 5], [14]⟩, ⟨[.op 6 0], _, [], [4, 5, 6], [15]⟩, ⟨[.op 3 0, .op 7 0], _, [], Lr 8, [16]⟩, ⟨[.op 8 0, .old 1], _, [3], Lr 9, [2]⟩, ⟨[], _, [], Lr 10, [3]⟩]) (F := [.op 9 0, .op 10 0]) (hst.pick [0, 1] rfl) hb Za
     (o_p rfl (Ze Zbx rfl rfl u_0) <| o_p rfl (Zg ty_2 rfl rfl u_0) <| o_p rfl (Zf4 Tryd.underlying2 Tryd.underlying62 rfl rfl u_0 rfl) <| o_p rfl (Zd5 rfl rfl c_i u_0 rfl) <| o_p rfl (Ze Zbx rfl rfl u_0) <| o_p rfl (Zg ty_2 rfl rfl u_0) <| o_p rfl (Zf4 Tryd.underlying2 Tryd.underlying62 rfl rfl u_0 rfl) <| o_p rfl (Zd5 rfl rfl u_0 c_i rfl) <| o_p rfl (Znz rfl rfl u_0 u_1) <| o_p rfl (Z5 Zef rfl rfl u_1 u_0) <| o_p rfl (Zc rfl rfl c_b) <| o_n) (by kernel_rfl) (fun a g hst hb => ?_)
   refine wp_ret ?_
   refine Zv ?_
   refine Zm ?_
   obtain rfl := Option.some.inj H0
   obtain ⟨u0, hu0, hq0⟩ := Zbe (P := Tryd.prog) Zef (hst.at 0 rfl)
   exact Zhk rfl hst hb hu0 (Zl (s := 3)) (Zf1 hq0 (hst.at 1 rfl))
 · replace H0 := Zo hc1 H0
   refine r_s (L := [(1, _), (2, _), (5, _)]) (T := [⟨[.old 2], _, [], [], [18]⟩, ⟨[.op 0 0], _, [], [0], [17]⟩]) (F := [.old 0, .old 1, .old 2, .op 1 0]) (hst.pick [0, 1, 2] rfl) hb Za
     (o_p rfl (Z7 rfl rfl u_0 c_i) <| o_p rfl (Zc rfl rfl u_0) <| o_n) (by kernel_rfl) (fun a g hst hb => ?_)
   refine wp_cond_split (hst.bool 3 rfl) (fun hc2 => ?_) (fun hc2 => ?_)
   · replace H0 := Zp hc2 H0
     refine r_s (L := [(1, _), (2, _)]) (T := ⟨[.old 0], _, [], [], [19]⟩ :: ⟨[.op 0 0], _, [], [0], [20]⟩ :: ⟨[.old 0], _, [], [], [21]⟩ :: ⟨[.op 2 0], _, [], [2], [22]⟩ :: ⟨[.op 1 0, .op 3 0], _, [], Lr 4, [23]⟩ :: ⟨[.op 4 0], _, [], Lr 5, [24]⟩ :: ⟨[.old 0], _, [], [], [25]⟩ :: ⟨[.op 6 0], _, [], [6], [26]⟩ :: ⟨[.old 0], _, [], [], [27]⟩ :: ⟨[.op 8 0], _, [], [8], [28]⟩ :: ⟨[.op 7 0, .op 9 0], _, [], List.range' 6 4, [29]⟩ :: ⟨[.op 10 0], _, [], List.range' 6 5, [30]⟩ :: ⟨[.op 5 0, .op 11 0], _, [], Lr 12, [31]⟩ :: ⟨[.op 12 0, .old 1], _, [3], Lr 13, [2]⟩ :: ⟨[], _, [], Lr 14, [3]⟩ :: []) (F := [.op 13 0, .op 14 0]) (hst.pick [0, 1] rfl) hb Za
       (o_p rfl (Ze Zgn rfl rfl u_0) <| o_p rfl (Zg ty_2 rfl rfl u_0) <| o_p rfl (Ze Zbx rfl rfl u_0) <| o_p rfl (Zg ty_2 rfl rfl u_0) <| o_p rfl (Zd5 rfl rfl u_0 u_1 rfl) <| o_p rfl (Zf4 Tryd.underlying2 Tryd.underlying62 rfl rfl u_0 rfl) <| o_p rfl (Ze Zbx rfl rfl u_0) <| o_p rfl (Zg ty_2 rfl rfl u_0) <| o_p rfl (Ze Zgl rfl rfl u_0) <| o_p rfl (Zg ty_2 rfl rfl u_0) <| o_p rfl (Zd5 rfl rfl u_0 u_1 rfl) <| o_p rfl (Zf4 Tryd.underlying2 Tryd.underlying62 rfl rfl u_0 rfl) <| o_p rfl (Znz rfl rfl u_0 u_1) <| o_p rfl (Z5 Zef rfl rfl u_1 u_0) <| o_p rfl (Zc rfl rfl c_b) <| o_n) (by kernel_rfl) (fun a g hst hb => ?_)
     refine wp_ret ?_
     refine Zv ?_
     refine Zm ?_
     obtain rfl := Option.some.inj H0
     obtain ⟨u0, hu0, hq0⟩ := Zbe (P := Tryd.prog) Zef (hst.at 0 rfl)
     exact Zhk rfl hst hb hu0 (Zl (s := 3)) (Zf1 hq0 (hst.at 1 rfl))
   · replace H0 := Zo hc2 H0
     refine r_s (L := [(1, _), (2, _), (5, _)]) (T := [⟨[.old 2], _, [], [], [33]⟩, ⟨[.op 0 0], _, [], [0], [32]⟩]) (F := [.old 0, .old 1, .op 1 0]) (hst.pick [0, 1, 2] rfl) hb Za
       (o_p rfl (Z7 rfl rfl u_0 c_i) <| o_p rfl (Zc rfl rfl u_0) <| o_n) (by kernel_rfl) (fun a g hst hb => ?_)
     refine wp_cond_split (hst.bool 2 rfl) (fun hc3 => ?_) (fun hc3 => ?_)
     · replace H0 := Zp hc3 H0
       refine r_s (L := [(1, _), (2, _)]) (T := [⟨[.old 0], _, [], [], [34]⟩, ⟨[.op 0 0], _, [], [0], [35]⟩, ⟨[.old 0], _, [], [], [36]⟩, ⟨[.op 2 0], _, [], [2], [37]⟩, ⟨[.op 3 0], _, [], [2, 3], [38]⟩, ⟨[.op 1 0, .op 4 0], _, [], Lr 5, [39]⟩, ⟨[.op 5 0], _, [], Lr 6, [40]⟩, ⟨[.op 6 0], _, [], Lr 7, [41]⟩, ⟨[.op 7 0, .old 1], _, [3], Lr 8, [2]⟩, ⟨[], _, [], Lr 9, [3]⟩]) (F := [.op 8 0, .op 9 0]) (hst.pick [0, 1] rfl) hb Za
         (o_p rfl (Ze Zeo rfl rfl u_0) <| o_p rfl (Zg ty_3 rfl rfl u_0) <| o_p rfl (Ze Zbm rfl rfl u_0) <| o_p rfl (Zg Zca rfl rfl u_0) <| o_p rfl (Zcd Tryd.underlying23 rfl rfl u_0) <| o_p rfl (Zd5 rfl rfl u_0 u_1 rfl) <| o_p rfl (Zf4 Tryd.underlying3 Tryd.underlying62 rfl rfl u_0 rfl) <| o_p rfl (Zop rfl rfl u_0) <| o_p rfl (Z5 Zef rfl rfl u_1 u_0) <| o_p rfl (Zc rfl rfl c_b) <| o_n) (by kernel_rfl) (fun a g hst hb => ?_)
       refine wp_ret ?_
       refine Zv ?_
       refine Zm ?_
       obtain rfl := Option.some.inj H0
       obtain ⟨u0, hu0, hq0⟩ := Zbe (P := Tryd.prog) Zef (hst.at 0 rfl)
       exact Zhk rfl hst hb hu0 (Zl (s := 3)) (Zf1 hq0 (hst.at 1 rfl))
     · replace H0 := Zo hc3 H0
       refine wp_skip ?_
       refine Z6 ?_
       refine Zq ?_
       refine r_s (L := [(2, _)]) (T := [⟨[], _, [], [], [42]⟩, ⟨[.op 0 0, .old 0], _, [3], [0], [2]⟩, ⟨[], _, [], [0, 1], [3]⟩]) (F := [.op 1 0, .op 2 0]) (hst.pick [1] rfl) hb Za
         (o_p rfl (Zsw rfl rfl ) <| o_p rfl (Z5 Zef rfl rfl u_1 u_0) <| o_p rfl (Zc rfl rfl c_b) <| o_n) (by kernel_rfl) (fun a g hst hb => ?_)
       refine wp_ret ?_
       obtain rfl := Option.some.inj H0
       obtain ⟨u0, hu0, hq0⟩ := Zbe (P := Tryd.prog) Zef (hst.at 0 rfl)
       exact Zhk rfl hst hb hu0 (Zl (s := 3)) (Zf1 hq0 (hst.at 1 rfl))
theorem Znh (a0 : Int) (a1 : Int) (a2 : Int) {r : Int} (h : Zk6 a0 a1 a2 = some r) : FnOk Tryd.prog 54 [(pInt .u64 a0), (pInt .i64 a1), (pInt .i64 a2)] (pInt .u64 r) := by
 have H0 := h
 unfold Zk6 at H0
 clear h
 refine Zbq (N := 22) Tryd.func54 rfl rfl (Nat.le_of_ble_eq_true rfl) rfl rfl (fun a g0 hst hb => ?_)
 refine r_s (T := [⟨[], _, [], [], [6]⟩]) (F := [.old 0, .old 1, .old 2]) hst hb Za
   (o_p rfl (Zc rfl rfl c_i) <| o_n) (by kernel_rfl) (fun a g hst hb => ?_)
 obtain ⟨h1, H0⟩ := Zhb H0
 refine r_s (T := [⟨[.old 0], _, [], [], [8]⟩, ⟨[.old 2], _, [], [], [9]⟩, ⟨[.op 1 0], _, [], [1], [10]⟩, ⟨[.op 0 0, .op 2 0], _, [], [0, 1, 2], [11]⟩, ⟨[.op 3 0], _, [], Lr 4, [7]⟩]) (F := [.old 0, .old 1, .old 2, .op 4 0]) hst hb Za
   (o_p rfl (Zd rfl rfl u_0) <| o_p rfl (Zd rfl rfl u_0) <| o_p rfl (Zf4 Tryd.underlying3 Tryd.underlying62 rfl rfl u_0 rfl) <| o_p rfl (Z1t rfl rfl u_0 u_1 h1) <| o_p rfl (Zc rfl rfl u_0) <| o_n) (by kernel_rfl) (fun a g hst hb => ?_)
 refine wp_seq ?_
 obtain ⟨h2, H0⟩ := Zhb H0
 refine r_s (T := [⟨[.old 1], _, [], [], [12]⟩, ⟨[.op 0 0], _, [], [0], [13]⟩, ⟨[.old 0], _, [], [], [14]⟩, ⟨[.old 2], _, [], [], [15]⟩, ⟨[.op 3 0], _, [], [3], [16]⟩, ⟨[.op 2 0, .op 4 0], _, [], [2, 3, 4], [17]⟩, ⟨[.op 1 0, .op 5 0], _, [], Lr 6, [18]⟩]) (F := [.old 3, .op 6 0]) hst hb Za
   (o_p rfl (Zd rfl rfl u_0) <| o_p rfl (Zf4 Tryd.underlying3 Tryd.underlying62 rfl rfl u_0 rfl) <| o_p rfl (Zd rfl rfl u_0) <| o_p rfl (Zd rfl rfl u_0) <| o_p rfl (Zf4 Tryd.underlying3 Tryd.underlying62 rfl rfl u_0 rfl) <| o_p rfl (Z2e rfl rfl u_0 u_1 h2) <| o_p rfl (Zcb rfl rfl u_0 u_1) <| o_n) (by kernel_rfl) (fun a g hst hb => ?_)
 refine Zbv (fun a w => ∃ (j4 : Int) (g : G), w = g.w ∧ St 22 [(7, (pInt .u64 j4))] a g ∧ Base g0 g ∧ Zjk j4 = some r) ?_ ?_
 · rintro a w ⟨j4, g, rfl, hst, hb, H0⟩
   unfold Zjk at H0
   refine Zq ?_
   refine r_s (T := [⟨[.old 0], _, [], [], [21]⟩, ⟨[.op 0 0], _, [], [0], [6]⟩]) (F := [.op 1 0]) hst hb Za
     (o_p rfl (Zd rfl rfl u_0) <| o_p rfl (Zc rfl rfl u_0) <| o_n) (by kernel_rfl) (fun a g hst hb => ?_)
   refine wp_ret ?_
   obtain rfl := Option.some.inj H0
   exact Zx rfl hst hb (Zl (s := 6)) (hst.at 0 rfl)
 · refine wp_cond_split (hst.bool 1 rfl) (fun hc3 => ?_) (fun hc3 => ?_)
   · replace H0 := Zp hc3 H0
     refine r_g (L := [(7, _)]) (T := [⟨[.old 0], _, [], [], [19]⟩, ⟨[.op 0 0], _, [], [0], [20]⟩, ⟨[.op 1 0], _, [], [0, 1], [7]⟩]) (F := [.op 2 0]) (hst.pick [0] rfl) hb Za
       (o_p rfl (Zd rfl rfl u_0) <| o_p rfl (Zcg rfl rfl u_0 c_i rfl) <| o_p rfl (Zc rfl rfl u_0) <| o_n) (by kernel_rfl) (fun a g hst hb => ?_)
     exact ⟨(IntKind.u64.wrap ((IntKind.u64.wrap (Int.tdiv a0 (IntKind.u64.wrap a2))) + (1 : Int))), g, rfl, (hst.pick [0] rfl), hb, H0⟩
   · replace H0 := Zo hc3 H0
     refine wp_skip ?_
     exact ⟨(IntKind.u64.wrap (Int.tdiv a0 (IntKind.u64.wrap a2))), g, rfl, (hst.pick [0] rfl), hb, H0⟩
theorem Zte (a0 : Zb) (a1 : Int) {r : (Option Z2) × Int} (h : Zn0 a0 a1 = some r) : Zs7 Tryd.prog 24 [(Zf.pd a0), (pInt .i64 a1)] Zec r.1 (pInt .i64 r.2) := by
 have H0 := h
 unfold Zn0 at H0
 clear h
 refine Zwz (N := 66) Tryd.func24 rfl rfl (Nat.le_of_ble_eq_true rfl) rfl (fun a g0 h0 hst hb => ?_)
 refine r_s (T := [⟨[.old 0], _, [], [], [2]⟩, ⟨[], [(4, (pEq (.pointer none)))], [], [], [4]⟩, ⟨[], _, [], [1], [5]⟩]) (F := [.old 1, .op 0 0]) hst hb Za
   (o_p rfl (Zbs rfl rfl u_0) <| o_p rfl (Zc rfl rfl (Opd.c (fun g => Zp7 g))) <| o_p rfl (Zc rfl rfl c_i) <| o_n) (by kernel_rfl) (fun a g hst hb => ?_)
 refine wp_seq ?_
 refine r_s (T := [⟨[.old 0], _, [], [], [13]⟩, ⟨[.op 0 0], _, [], [0], [14]⟩, ⟨[.op 1 0], _, [], [0, 1], [15]⟩, ⟨[.op 2 0, .old 0], _, [], [0, 1, 2], [16]⟩, ⟨[.op 2 0, .op 3 0], _, [], Lr 4, [17]⟩, ⟨[.op 2 0, .op 4 0], _, [], Lr 5, [18]⟩]) (F := [.old 0, .old 1, .op 5 0]) hst hb Za
   (o_p rfl (Zd rfl rfl u_0) <| o_p rfl (Zcb rfl rfl u_0 c_i) <| o_p rfl (Zd rfl rfl u_0) <| o_g (g_f rfl rfl rfl (fun hG => Zd rfl rfl u_0)) <| o_g (g_f rfl rfl rfl (fun hG => Zcj rfl rfl (Opd.gd hG u_0) c_i)) <| o_p rfl (Zbj rfl rfl u_0 (fun hz => (Opd.gd (bNF hz) u_1))) <| o_n) (by kernel_rfl) (fun a g hst hb => ?_)
 refine wp_cond_split (hst.bool 2 rfl) (fun hc1 => ?_) (fun hc1 => ?_)
 · replace H0 := Zp hc1 H0
   refine r_s (L := []) (T := [⟨[], [(4, (pEq (.pointer none)))], [], [], [4]⟩, ⟨[], _, [], [0], [5]⟩]) (F := [.op 0 0, .op 1 0]) (hst.pick [] rfl) hb Za
     (o_p rfl (Zc rfl rfl (Opd.c (fun g => Zp7 g))) <| o_p rfl (Zc rfl rfl c_i) <| o_n) (by kernel_rfl) (fun a g hst hb => ?_)
   refine wp_ret ?_
   refine Zm ?_
   obtain rfl := Option.some.inj H0
   exact Zr8 rfl hst hb (Zl (s := 4)) (Zl (s := 5)) (hst.at 1 rfl) (hst.at 0 rfl)
 · replace H0 := Zo hc1 H0
   refine wp_skip ?_
   refine Zq ?_
   refine wp_seq ?_
   obtain ⟨r2, h3, H0⟩ := Zk H0
   refine r_s (L := [(1, _), (2, _)]) (T := [⟨[.old 1], _, [], [], [19]⟩, ⟨[.op 0 0], _, [], [0], [20]⟩, ⟨[.op 1 0], _, [], [0, 1], [6]⟩]) (F := [.old 0, .old 1, .op 2 0]) (hst.pick [0, 1] rfl) hb Za
     (o_p rfl (Zg Z0 rfl rfl u_0) <| o_p rfl (Zt Zr1 (Zj6 _ h3) rfl rfl (.cons u_0 .nil)) <| o_p rfl (Zc rfl rfl u_0) <| o_n) (by kernel_rfl) (fun a g hst hb => ?_)
   refine r_s (T := [⟨[.old 2], _, [], [], [21]⟩, ⟨[.op 0 0], _, [], [0], [22]⟩]) (F := [.old 0, .old 1, .old 2, .op 1 0]) hst hb Za
     (o_p rfl (Zd rfl rfl u_0) <| o_p rfl (Zdu rfl rfl u_0 c_i) <| o_n) (by kernel_rfl) (fun a g hst hb => ?_)
   refine wp_cond_split (hst.bool 3 rfl) (fun hc4 => ?_) (fun hc4 => ?_)
   · replace H0 := Zp hc4 H0
     refine r_s (L := [(6, _)]) (T := [⟨[.old 0], _, [], [], [23]⟩, ⟨[], [(4, (pEq (.pointer none)))], [], [], [4]⟩, ⟨[.op 0 0], _, [], [0, 1], [5]⟩]) (F := [.op 1 0, .op 2 0]) (hst.pick [2] rfl) hb Za
       (o_p rfl (Zd rfl rfl u_0) <| o_p rfl (Zc rfl rfl (Opd.c (fun g => Zp7 g))) <| o_p rfl (Zc rfl rfl u_0) <| o_n) (by kernel_rfl) (fun a g hst hb => ?_)
     refine wp_ret ?_
     refine Zm ?_
     obtain rfl := Option.some.inj H0
     exact Zr8 rfl hst hb (Zl (s := 4)) (Zl (s := 5)) (hst.at 1 rfl) (hst.at 0 rfl)
   · replace H0 := Zo hc4 H0
     refine wp_skip ?_
     refine Zq ?_
     refine wp_seq ?_
     obtain ⟨r5, h6, H0⟩ := Zk H0
     refine r_s (L := [(1, _), (2, _)]) (T := [⟨[.old 1], _, [], [], [25]⟩, ⟨[.op 0 0], _, [], [0], [26]⟩, ⟨[.op 1 0], _, [], [0, 1], [24]⟩, ⟨[.op 2 0], _, [], [0, 1, 2], [27]⟩, ⟨[.op 2 0], _, [], [0, 1, 2], [28]⟩, ⟨[], [(7, (pBox Zf 7 (default : Zb)))], [8], [], [7]⟩, ⟨[.op 3 0, .op 5 0], _, [8], [0, 1, 2, 3, 5], [7]⟩, ⟨[.op 4 0], _, [], Lr 7, [8]⟩]) (F := [.old 0, .old 1, .op 7 0]) (hst.pick [0, 1] rfl) hb Za
       (o_p rfl (Zg Z0 rfl rfl u_0) <| o_p rfl (Zt Zyx (Zmp _ h6) rfl rfl (.cons u_0 .nil)) <| o_p rfl (Zd rfl rfl u_0) <| o_p rfl (Zbf rfl rfl u_0 rfl) <| o_p rfl (Zbf rfl rfl u_0 rfl) <| o_p rfl (Zbi (zs := [.int .i64 0, .int .i64 0, .int .i64 0, .int .i64 0, .float .f64 0, .int .i64 0, .string ByteArray.empty, .slice none 0 0]) (by kernel_rfl) (fun g => Zbo g) rfl rfl) <| o_p rfl (Zci Z0 rfl rfl u_1 u_0) <| o_p rfl (Zc rfl rfl u_0) <| o_n) (by kernel_rfl) (fun a g hst hb => ?_)
     refine r_s (T := [⟨[.old 2], _, [], [], [29]⟩, ⟨[.op 0 0], _, [], [0], [30]⟩]) (F := [.old 0, .old 1, .op 1 0]) hst hb Za
       (o_p rfl (Zd rfl rfl u_0) <| o_p rfl (Zb4 rfl rfl u_0) <| o_n) (by kernel_rfl) (fun a g hst hb => ?_)
     refine wp_cond_split (hst.bool 2 rfl) (fun hc7 => ?_) (fun hc7 => ?_)
     · replace H0 := Zp hc7 H0
       refine r_s (L := []) (T := [⟨[], [(4, (pEq (.pointer none)))], [], [], [4]⟩, ⟨[], _, [], [0], [5]⟩]) (F := [.op 0 0, .op 1 0]) (hst.pick [] rfl) hb Za
         (o_p rfl (Zc rfl rfl (Opd.c (fun g => Zp7 g))) <| o_p rfl (Zc rfl rfl c_i) <| o_n) (by kernel_rfl) (fun a g hst hb => ?_)
       refine wp_ret ?_
       refine Zm ?_
       obtain rfl := Option.some.inj H0
       exact Zr8 rfl hst hb (Zl (s := 4)) (Zl (s := 5)) (hst.at 1 rfl) (hst.at 0 rfl)
     · replace H0 := Zo hc7 H0
       refine wp_skip ?_
       refine Zq ?_
       obtain ⟨r8, h9, H0⟩ := Zk H0
       refine r_s (L := [(1, _), (2, _)]) (T := [⟨[.old 1], _, [], [], [31]⟩, ⟨[.op 0 0], _, [], [0], [32]⟩, ⟨[.op 1 0], _, [], [0, 1], [33]⟩, ⟨[.op 2 0], [(34, (Zg4 none Zbp Zbr hpT 34 ({ r := r8, by_ := ([] : List Z3) } : Z2))), (1002, (pBT Zbp Zbr Zce Z9 96 34 534 ({ r := r8, by_ := ([] : List Z3) } : Z2)))], [35], [0, 1, 2], [34, 1002]⟩, ⟨[.op 3 0], _, [], Lr 4, [9]⟩]) (F := [.old 0, .old 1, .op 4 0, .op 3 1]) (hst.pick [0, 1] rfl) hb Za
         (o_p rfl (Zg Z0 rfl rfl u_0) <| o_p rfl (Zt Zmx (Zgs _ h9) rfl rfl (.cons u_0 .nil)) <| o_p rfl (Zz6 rfl rfl u_0) <| o_p rfl (Z1j rfl rfl rfl u_0) <| o_p rfl (Zc rfl rfl u_0) <| o_n) (by kernel_rfl) (fun a g hst hb => ?_)
       obtain ⟨r10, h11, H0⟩ := Zk H0
       refine r_s (T := [⟨[.old 1], _, [], [], [36]⟩, ⟨[.op 0 0], _, [], [0], [37]⟩, ⟨[.op 1 0], _, [], [0, 1], [35]⟩, ⟨[.op 2 0], _, [], [0, 1, 2], [38]⟩, ⟨[.op 2 0], _, [], [0, 1, 2], [39]⟩, ⟨[], [(10, (pBox Z9 10 (default : Z3)))], [11], [], [10]⟩, ⟨[.op 3 0, .op 5 0], _, [11], [0, 1, 2, 3, 5], [10]⟩, ⟨[.op 4 0], _, [], Lr 7, [11]⟩]) (F := [.old 0, .old 2, .op 6 0, .old 3]) hst hb Za
         (o_p rfl (Zg Z0 rfl rfl u_0) <| o_p rfl (Zt Z34 (Zrs _ h11) rfl rfl (.cons u_0 .nil)) <| o_p rfl (Zd rfl rfl u_0) <| o_p rfl (Zbf rfl rfl u_0 rfl) <| o_p rfl (Zbf rfl rfl u_0 rfl) <| o_p rfl (Zbi (zs := [.int .u64 0, .int .u64 0]) (by kernel_rfl) (fun g => Zid g) rfl rfl) <| o_p rfl (Zci Zef rfl rfl u_1 u_0) <| o_p rfl (Zc rfl rfl u_0) <| o_n) (by kernel_rfl) (fun a g hst hb => ?_)
       refine wp_seq ?_
       refine r_s (T := [⟨[.old 0], _, [], [], [40]⟩, ⟨[], _, [], [], [41]⟩]) (F := [.old 0, .old 1, .old 2, .op 0 0, .op 1 0, .old 3]) hst hb Za
         (o_p rfl (Zd rfl rfl u_0) <| o_p rfl (Zd rfl rfl c_i) <| o_n) (by kernel_rfl) (fun a g hst hb => ?_)
       obtain ⟨z21, hz1, H0⟩ := Zk H0
       refine Zbv (fun a w => ∃ (y20 : Z2) (g : G), w = g.w ∧ St 66 [(9, (Zg4 none Zbp Zbr hpT 34 y20)), (1002, (pBT Zbp Zbr Zce Z9 96 34 534 y20))] a g ∧ Base g0 g ∧ y20 = z21) ?_ ?_
       · rintro a w ⟨y20, g, rfl, hst, hb, rfl⟩
         refine Zq ?_
         refine r_s (T := [⟨[.old 0], _, [], [], [65]⟩, ⟨[.op 0 0], _, [], [0], [4]⟩, ⟨[], _, [], [0, 1], [5]⟩]) (F := [.op 1 0, .op 2 0, .old 1]) hst hb Za
           (o_p rfl (Zd rfl rfl u_0) <| o_p rfl (Zc rfl rfl u_0) <| o_p rfl (Zc rfl rfl c_i) <| o_n) (by kernel_rfl) (fun a g hst hb => ?_)
         refine wp_ret ?_
         obtain rfl := Option.some.inj H0
         exact Zr8 rfl hst hb (Zl (s := 4)) (Zl (s := 5)) (hst.at 1 rfl) ⟨34, 534, by decide, Zut (hst.at 0 rfl) (hst.at 2 rfl)⟩
       · refine wp_block ?_
         refine wp_loop_ghost (fun n a w => ∃ (x12 : Z2) (x13 : Int) (g : G), w = g.w ∧ St 66 [(1, (pInt .i64 a1)), (9, (Zg4 none Zbp Zbr hpT 34 x12)), (10, (Z9.ptr r10.1)), (40, (pInt .i64 a1)), (41, (pInt .i64 x13)), (1002, (pBT Zbp Zbr Zce Z9 96 34 534 x12))] a g ∧ Base g0 g ∧ Zi2 a1 r10 n x12 x13 = some z21) (Int.toNat (a1 - (0 : Int)) + 1) ⟨({ r := r8, by_ := ([] : List Z3) } : Z2), (0 : Int), g, rfl, (hst.pick [0, 1, 2, 3, 4, 5] rfl), hb, hz1⟩ (fun n a w hI => ?_)
         obtain ⟨x12, x13, g, rfl, hst, hb, H1⟩ := hI
         cases n with
         | zero => exact absurd H1 (by simp [Zi2])
         | succ n =>
           rw [Zi2] at H1
           refine r_s (T := [⟨[.old 4, .old 3], _, [], [], [42]⟩]) (F := [.old 0, .old 1, .old 2, .old 3, .old 4, .op 0 0, .old 5]) hst hb Za
             (o_p rfl (Zcb rfl rfl u_0 u_1) <| o_n) (by kernel_rfl) (fun a g hst hb => ?_)
           refine wp_seq ?_
           refine wp_cond_split (hst.bool 5 rfl) (fun hc14 => ?_) (fun hc14 => ?_)
           · replace H1 := Zp hc14 H1
             refine wp_skip ?_
             refine Zq ?_
             refine wp_seq ?_
             refine wp_block ?_
             refine r_s (L := [(1, _), (9, _), (10, _), (40, _), (41, _), (1002, _)]) (T := [⟨[.old 4], _, [], [], [43]⟩, ⟨[.op 0 0], _, [], [0], [12]⟩]) (F := [.old 0, .old 1, .old 2, .op 1 0, .old 3, .old 4, .old 5]) (hst.pick [0, 1, 2, 3, 4, 6] rfl) hb Za
               (o_p rfl (Zd rfl rfl u_0) <| o_p rfl (Zc rfl rfl u_0) <| o_n) (by kernel_rfl) (fun a g hst hb => ?_)
             obtain ⟨r15, h16, H1⟩ := Zk H1; obtain ⟨r17, h18, H1⟩ := Zk H1; obtain ⟨h19, H1⟩ := Zhb H1
             refine r_g (T := ⟨[.old 1], _, [], [], [44]⟩ :: ⟨[.old 1], _, [], [], [45]⟩ :: ⟨[.op 1 0], _, [], [1], [46]⟩ :: ⟨[.op 2 0, .old 6], _, [], [1, 2], [47]⟩ :: ⟨[.op 3 0], _, [], [1, 2, 3], [48]⟩ :: ⟨[.old 2], _, [], [], [49]⟩ :: ⟨[.op 5 0], _, [], [5], [50]⟩ :: ⟨[.old 3], _, [], [], [51]⟩ :: ⟨[.old 0], _, [], [], [52]⟩ :: ⟨[.op 6 0, .op 7 0, .op 8 0], _, [], List.range' 5 4, [53]⟩ :: ⟨[.old 2], _, [], [], [54]⟩ :: ⟨[.op 10 0], _, [], [10], [55]⟩ :: ⟨[.old 3], _, [], [], [56]⟩ :: ⟨[.old 0], _, [], [], [57]⟩ :: ⟨[.op 11 0, .op 12 0, .op 13 0], _, [], List.range' 5 9, [58]⟩ :: ⟨[.op 9 0, .op 14 0], _, [], List.range' 5 10, [59]⟩ :: ⟨[.op 15 0], _, [], List.range' 5 11, [60]⟩ :: ⟨[.op 4 0, .op 16 0], _, [535], List.range' 1 16, [47, 48, 61, 1002]⟩ :: ⟨[.op 0 0], _, [], Lr 18, [62]⟩ :: ⟨[.op 18 0], _, [], Lr 19, [63]⟩ :: ⟨[.op 17 0, .op 19 0, .old 1], [(9, (Zg4 none Zbp Zbr hpT 34 ({ x12 with by_ := (x12.by_ ++ ([({ up := r15, down := r17 } : Z3)] : List Z3)) } : Z2))), (1002, (pBT Zbp Zbr Zce Z9 96 34 534 ({ x12 with by_ := (x12.by_ ++ ([({ up := r15, down := r17 } : Z3)] : List Z3)) } : Z2)))], [35], Lr 20, [9, 44, 45, 46, 47, 62, 63, 1002]⟩ :: []) (F := [.old 0, .op 20 0, .old 2, .old 4, .old 5, .op 20 1]) hst hb Za
               (o_p rfl (Zd rfl rfl u_0) <| o_p rfl (Zd rfl rfl u_0) <| o_p rfl (Zbc rfl rfl u_0 (fun _ _ ⟨_, ⟨_, _, _, e, _⟩, _⟩ => ⟨_, e⟩)) <| o_p rfl (Zk0 Zlo (off := 8) (q := (pArr Z9 96 534 (Zce x12))) (by kernel_rfl) (pr := id) (fun _ => rfl) (fun _ _ h => h) rfl rfl (Opd.joinT u_0 u_1)) <| o_p rfl (Zms Zn6 rfl rfl u_0) <| o_p rfl (Ze Zi7 rfl rfl u_0) <| o_p rfl (Zg Zhj rfl rfl u_0) <| o_p rfl (Zd rfl rfl u_0) <| o_p rfl (Zd rfl rfl u_0) <| o_p rfl (Zt Zzk (Znh _ _ _ h16) rfl rfl (.cons u_0 (.cons u_1 (.cons u_2 .nil)))) <| o_p rfl (Ze Zke rfl rfl u_0) <| o_p rfl (Zg Zhj rfl rfl u_0) <| o_p rfl (Zd rfl rfl u_0) <| o_p rfl (Zd rfl rfl u_0) <| o_p rfl (Zt Zzk (Znh _ _ _ h18) rfl rfl (.cons u_0 (.cons u_1 (.cons u_2 .nil)))) <| o_p rfl (Znz rfl rfl u_0 u_1) <| o_p rfl (Zgx Zyn (xs := [.tmp 59]) (.cons u_0 .nil) (by decide) rfl rfl) <| o_p rfl (Zuy Zyn rfl rfl u_0 u_1 (by simp) h19) <| o_p rfl (Zbc rfl rfl u_0 (fun _ _ ⟨_, ⟨_, _, _, e, _⟩, _⟩ => ⟨_, e⟩)) <| o_p rfl (Zk0 Zlo (off := 8) (q := pAny) (by kernel_rfl) (pr := id) (fun _ => rfl) (fun _ _ _ => trivial) rfl rfl u_0) <| o_p rfl (OB.bxT (Zv4 (x' := ({ x12 with by_ := (x12.by_ ++ ([({ up := r15, down := r17 } : Z3)] : List Z3)) } : Z2)) (R2 := hpL (pArr Z9 96 534 (Zce ({ x12 with by_ := (x12.by_ ++ ([({ up := r15, down := r17 } : Z3)] : List Z3)) } : Z2)))) (upd := fun _ s2 => s2) Zn6 rfl rfl (fun _ _ h => Zzy h) (fun k hk => by rw [List.mem_singleton.1 hk]; decide) (fun k hk => by cases hk) u_2 (fun a g hh => Z02 (u_1 a g hh)) u_0 (fun _ _ _ _ h => h) (fun g cs s0 s1 ys h k => Zov h k))) <| o_n) (by kernel_rfl) (fun a g hst hb => ?_)
             refine Z6 ?_
             refine Zq ?_
             refine r_g (T := [⟨[.old 4], _, [], [], [64]⟩, ⟨[.op 0 0], _, [], [0], [41]⟩]) (F := [.old 0, .old 1, .old 2, .old 3, .op 1 0, .old 5]) hst hb Za
               (o_p rfl (Zcg rfl rfl u_0 c_i rfl) <| o_p rfl (Zd rfl rfl u_0) <| o_n) (by kernel_rfl) (fun a g hst hb => ?_)
             exact ⟨n, Nat.lt_succ_self _, ({ x12 with by_ := (x12.by_ ++ ([({ up := r15, down := r17 } : Z3)] : List Z3)) } : Z2), (IntKind.i64.wrap (x13 + (1 : Int))), g, rfl, (hst.pick [0, 1, 2, 3, 4, 5] rfl), hb, H1⟩
           · replace H1 := Zo hc14 H1
             refine wp_exit ?_
             refine Zcf ?_
             refine Zcf ?_
             refine Zc1 ?_
             exact ⟨x12, g, rfl, (hst.pick [1, 6] rfl), hb, Option.some.inj H1⟩
theorem Zmh (a0 : Z2) (a1 : Int) {r : Int × Int} (h : Zfi a0 a1 = some r) : FnOk Tryd.prog 27 [(Zfv.ptr a0), (pInt .i64 a1)] (pTup [(pInt .u64 r.1), (pInt .u64 r.2)]) := by
 have H0 := h
 unfold Zfi at H0
 clear h
 refine Zbq (N := 33) Tryd.func27 rfl rfl (Nat.le_of_ble_eq_true rfl) rfl rfl (fun a g0 hst hb => ?_)
 refine r_s (T := [⟨[], _, [], [], [4]⟩, ⟨[], _, [], [0], [5]⟩]) (F := [.old 0, .old 1]) hst hb Za
   (o_p rfl (Zc rfl rfl c_i) <| o_p rfl (Zc rfl rfl c_i) <| o_n) (by kernel_rfl) (fun a g hst hb => ?_)
 refine wp_seq ?_
 refine r_s (T := [⟨[.old 1], _, [], [], [6]⟩, ⟨[.op 0 0], _, [], [0], [7]⟩, ⟨[.op 1 0], _, [], [0, 1], [8]⟩, ⟨[.op 2 0, .old 1], _, [], [0, 1, 2], [9]⟩, ⟨[.op 2 0, .old 0], _, [], [0, 1, 2], [10]⟩, ⟨[.op 2 0, .op 4 0], _, [], [0, 1, 2, 4], [11]⟩, ⟨[.op 2 0, .op 5 0], _, [], [0, 1, 2, 4, 5], [12]⟩, ⟨[.op 2 0, .op 6 0], _, [], [0, 1, 2, 4, 5, 6], [13]⟩, ⟨[.op 2 0, .op 7 0], _, [], [0, 1, 2, 4, 5, 6, 7], [14]⟩, ⟨[.op 2 0, .op 3 0, .op 8 0], _, [], Lr 9, [15]⟩, ⟨[.op 2 0, .op 9 0], _, [], Lr 10, [16]⟩]) (F := [.old 0, .old 1, .op 10 0]) hst hb Za
   (o_p rfl (Zd rfl rfl u_0) <| o_p rfl (Zcb rfl rfl u_0 c_i) <| o_p rfl (Zd rfl rfl u_0) <| o_g (g_f rfl rfl rfl (fun hG => Zd rfl rfl u_0)) <| o_g (g_f rfl rfl rfl (fun hG => Zd rfl rfl u_0)) <| o_g (g_f rfl rfl rfl (fun hG => Zbc rfl rfl (Opd.gd hG u_0) (fun _ _ ⟨_, _, _, e, _⟩ => ⟨_, e⟩))) <| o_g (g_f rfl rfl rfl (fun hG => Ze Zqp rfl rfl (Opd.gd hG u_0))) <| o_g (g_f rfl rfl rfl (fun hG => Zg Zva rfl rfl (Opd.gd hG u_0))) <| o_g (g_f rfl rfl rfl (fun hG => Zcd Tryd.underlying92 rfl rfl (Opd.gd hG u_0))) <| o_g (g_f rfl rfl rfl (fun hG => Zji rfl rfl (Opd.gd hG u_0) (Opd.gd hG u_1))) <| o_p rfl (Zbj rfl rfl u_0 (fun hz => (Opd.gd (bNF hz) u_1))) <| o_n) (by kernel_rfl) (fun a g hst hb => ?_)
 refine wp_cond_split (hst.bool 2 rfl) (fun hc1 => ?_) (fun hc1 => ?_)
 · replace H0 := Zp hc1 H0
   refine r_s (L := []) (T := [⟨[], _, [], [], [4]⟩, ⟨[], _, [], [0], [5]⟩]) (F := [.op 0 0, .op 1 0]) (hst.pick [] rfl) hb Za
     (o_p rfl (Zc rfl rfl c_i) <| o_p rfl (Zc rfl rfl c_i) <| o_n) (by kernel_rfl) (fun a g hst hb => ?_)
   refine wp_ret ?_
   refine Zm ?_
   obtain rfl := Option.some.inj H0
   exact Zhk rfl hst hb (Zl (s := 4)) (Zl (s := 5)) (Zf1 (hst.at 0 rfl) (hst.at 1 rfl))
 · replace H0 := Zo hc1 H0
   refine wp_skip ?_
   refine Zq ?_
   obtain ⟨e2, h3, H0⟩ := Zk H0; obtain ⟨e4, h5, H0⟩ := Zk H0
   refine r_s (L := [(0, _), (1, _)]) (T := ⟨[.old 0], _, [], [], [17]⟩ :: ⟨[.op 0 0], _, [], [0], [18]⟩ :: ⟨[.op 1 0], _, [], [0, 1], [19]⟩ :: ⟨[.op 2 0], _, [], [0, 1, 2], [20]⟩ :: ⟨[.old 1], _, [], [], [21]⟩ :: ⟨[.op 3 0, .op 4 0], _, [], Lr 5, [22]⟩ :: ⟨[.op 5 0], _, [], Lr 6, [23]⟩ :: ⟨[.op 6 0], _, [], Lr 7, [24]⟩ :: ⟨[.old 0], _, [], [], [25]⟩ :: ⟨[.op 8 0], _, [], [8], [26]⟩ :: ⟨[.op 9 0], _, [], [8, 9], [27]⟩ :: ⟨[.op 10 0], _, [], [8, 9, 10], [28]⟩ :: ⟨[.old 1], _, [], [], [29]⟩ :: ⟨[.op 11 0, .op 12 0], _, [], List.range' 8 5, [30]⟩ :: ⟨[.op 13 0], _, [], List.range' 8 6, [31]⟩ :: ⟨[.op 14 0], _, [], List.range' 8 7, [32]⟩ :: ⟨[.op 7 0], _, [], Lr 8, [4]⟩ :: ⟨[.op 15 0], _, [], Lr 17, [5]⟩ :: []) (F := [.op 16 0, .op 17 0]) (hst.pick [0, 1] rfl) hb Za
     (o_p rfl (Zd rfl rfl u_0) <| o_p rfl (Zbc rfl rfl u_0 (fun _ _ ⟨_, _, _, e, _⟩ => ⟨_, e⟩)) <| o_p rfl (Ze Zqp rfl rfl u_0) <| o_p rfl (Zg Zva rfl rfl u_0) <| o_p rfl (Zd rfl rfl u_0) <| o_p rfl (Zbh Tryd.underlying92 Zr9 rfl rfl u_0 u_1 h3) <| o_p rfl (Ze Zi7 rfl rfl u_0) <| o_p rfl (Zg Zhj rfl rfl u_0) <| o_p rfl (Zd rfl rfl u_0) <| o_p rfl (Zbc rfl rfl u_0 (fun _ _ ⟨_, _, _, e, _⟩ => ⟨_, e⟩)) <| o_p rfl (Ze Zqp rfl rfl u_0) <| o_p rfl (Zg Zva rfl rfl u_0) <| o_p rfl (Zd rfl rfl u_0) <| o_p rfl (Zbh Tryd.underlying92 Zr9 rfl rfl u_0 u_1 h5) <| o_p rfl (Ze Zke rfl rfl u_0) <| o_p rfl (Zg Zhj rfl rfl u_0) <| o_p rfl (Zc rfl rfl u_0) <| o_p rfl (Zc rfl rfl u_0) <| o_n) (by kernel_rfl) (fun a g hst hb => ?_)
   refine wp_ret ?_
   obtain rfl := Option.some.inj H0
   exact Zhk rfl hst hb (Zl (s := 4)) (Zl (s := 5)) (Zf1 (hst.at 0 rfl) (hst.at 1 rfl))
theorem Zm1 (a0 : Z2) (a1 : Int) {r : Int × Int} (h : Zfi a0 a1 = some r) : FnL Tryd.prog 27 [(Zfv.ptr a0), (pInt .i64 a1)] (pTup [(pInt .u64 r.1), (pInt .u64 r.2)]) := FnL.of (Zmh a0 a1 h) Zwi
theorem Zjz (a0 : Z2) (a1 : Int) {r : Int × Int} (h : Zfi a0 a1 = some r) : FnM Tryd.prog 27 Zec a0 a0 [(pInt .i64 a1)] (pTup [(pInt .u64 r.1), (pInt .u64 r.2)]) := Zxn Zl2 (Zm1 a0 a1 h) rfl
theorem Zmn (a0 : Z2) (a1 : Zs) {r : Z3} (h : Zhp a0 a1 = some r) : FnOk Tryd.prog 59 [(Zfv.ptr a0), (Zw.pd a1)] (Z9.pd r) := by
 have H0 := h
 unfold Zhp at H0
 clear h
 refine Zbq (N := 56) Tryd.func59 rfl rfl (Nat.le_of_ble_eq_true rfl) rfl rfl (fun a g0 hst hb => ?_)
 refine r_s (T := [⟨[.old 1], _, [], [], [3]⟩, ⟨[], [(4, (pBox Z9 4 (default : Z3)))], [5], [], [4]⟩]) (F := [.old 0, .op 0 0, .op 1 0]) hst hb Za
   (o_p rfl (Zbs rfl rfl u_0) <| o_p rfl (Zbi (zs := [.int .u64 0, .int .u64 0]) (by kernel_rfl) (fun g => Zid g) rfl rfl) <| o_n) (by kernel_rfl) (fun a g hst hb => ?_)
 refine wp_seq ?_
 refine r_s (T := [⟨[.old 1], _, [], [], [7]⟩, ⟨[.op 0 0], _, [], [0], [8]⟩]) (F := [.old 0, .old 1, .old 2, .op 1 0]) hst hb Za
   (o_p rfl (Ze Zb9 rfl rfl u_0) <| o_p rfl (Zg ty_3 rfl rfl u_0) <| o_n) (by kernel_rfl) (fun a g hst hb => ?_)
 refine wp_block ?_
 refine r_s (T := [⟨[.old 3], _, [], [], [10]⟩, ⟨[.op 0 0], _, [], [0], [9]⟩]) (F := [.old 0, .old 1, .old 2, .old 3, .op 1 0]) hst hb Za
   (o_p rfl (Z7 rfl rfl u_0 c_i) <| o_p rfl (Zc rfl rfl u_0) <| o_n) (by kernel_rfl) (fun a g hst hb => ?_)
 refine wp_cond_split (hst.bool 4 rfl) (fun hc1 => ?_) (fun hc1 => ?_)
 · replace H0 := Zp hc1 H0
   refine wp_seq ?_
   refine r_s (L := [(3, _), (4, _)]) (T := [⟨[.old 0], _, [], [], [11]⟩, ⟨[.op 0 0], _, [], [0], [12]⟩, ⟨[.op 1 0], _, [], [0, 1], [13]⟩]) (F := [.old 0, .old 1, .op 2 0]) (hst.pick [1, 2] rfl) hb Za
     (o_p rfl (Ze Zcq rfl rfl u_0) <| o_p rfl (Zg ty_2 rfl rfl u_0) <| o_p rfl (Zcb rfl rfl u_0 c_i) <| o_n) (by kernel_rfl) (fun a g hst hb => ?_)
   refine wp_cond_split (hst.bool 2 rfl) (fun hc2 => ?_) (fun hc2 => ?_)
   · replace H0 := Zp hc2 H0
     refine r_s (L := [(3, _), (4, _)]) (T := [⟨[.old 0], _, [], [], [14]⟩, ⟨[.op 0 0], _, [], [0], [15]⟩, ⟨[.op 1 0], _, [], [0, 1], [16]⟩, ⟨[.op 2 0], _, [], [0, 1, 2], [17]⟩, ⟨[.op 3 0], _, [], Lr 4, [18]⟩, ⟨[.op 4 0, .old 1], _, [5], Lr 5, [4]⟩]) (F := [.op 5 0]) (hst.pick [0, 1] rfl) hb Za
       (o_p rfl (Ze Zcq rfl rfl u_0) <| o_p rfl (Zg ty_2 rfl rfl u_0) <| o_p rfl (Zf4 Tryd.underlying2 Tryd.underlying62 rfl rfl u_0 rfl) <| o_p rfl (Zp6 rfl rfl u_0 rfl) <| o_p rfl (Zus rfl rfl u_0) <| o_p rfl (Z5 Zef rfl rfl u_1 u_0) <| o_n) (by kernel_rfl) (fun a g hst hb => ?_)
     refine wp_ret ?_
     refine Zm ?_
     refine Zv ?_
     refine Zm ?_
     obtain rfl := Option.some.inj H0
     obtain ⟨u0, hu0, hq0⟩ := Zbe (P := Tryd.prog) Zef (hst.at 0 rfl)
     exact Zx rfl hst hb hu0 hq0
   · replace H0 := Zo hc2 H0
     refine wp_skip ?_
     refine Zq ?_
     refine r_s (L := [(3, _), (4, _)]) (T := [⟨[.old 0], _, [], [], [19]⟩, ⟨[.op 0 0], _, [], [0], [20]⟩, ⟨[.op 1 0], _, [], [0, 1], [21]⟩, ⟨[.op 2 0], _, [], [0, 1, 2], [22]⟩, ⟨[.op 3 0, .old 1], _, [5], Lr 4, [4]⟩]) (F := [.op 4 0]) (hst.pick [0, 1] rfl) hb Za
       (o_p rfl (Ze Zcq rfl rfl u_0) <| o_p rfl (Zg ty_2 rfl rfl u_0) <| o_p rfl (Zf4 Tryd.underlying2 Tryd.underlying62 rfl rfl u_0 rfl) <| o_p rfl (Zop rfl rfl u_0) <| o_p rfl (Z5 Zef rfl rfl u_1 u_0) <| o_n) (by kernel_rfl) (fun a g hst hb => ?_)
     refine wp_ret ?_
     refine Zv ?_
     refine Zm ?_
     obtain rfl := Option.some.inj H0
     obtain ⟨u0, hu0, hq0⟩ := Zbe (P := Tryd.prog) Zef (hst.at 0 rfl)
     exact Zx rfl hst hb hu0 hq0
 · replace H0 := Zo hc1 H0
   refine r_s (L := [(0, _), (3, _), (4, _), (8, _)]) (T := [⟨[.old 3], _, [], [], [24]⟩, ⟨[.op 0 0], _, [], [0], [23]⟩]) (F := [.old 0, .old 1, .old 2, .old 3, .op 1 0]) (hst.pick [0, 1, 2, 3] rfl) hb Za
     (o_p rfl (Z7 rfl rfl u_0 c_i) <| o_p rfl (Zc rfl rfl u_0) <| o_n) (by kernel_rfl) (fun a g hst hb => ?_)
   refine wp_cond_split (hst.bool 4 rfl) (fun hc3 => ?_) (fun hc3 => ?_)
   · replace H0 := Zp hc3 H0
     refine r_s (L := [(3, _), (4, _)]) (T := [⟨[.old 0], _, [], [], [25]⟩, ⟨[.op 0 0], _, [], [0], [26]⟩, ⟨[.op 1 0], _, [], [0, 1], [27]⟩, ⟨[.op 2 0], _, [], [0, 1, 2], [28]⟩, ⟨[.op 3 0, .old 1], _, [5], Lr 4, [4]⟩]) (F := [.op 4 0]) (hst.pick [1, 2] rfl) hb Za
       (o_p rfl (Ze Zcq rfl rfl u_0) <| o_p rfl (Zg ty_2 rfl rfl u_0) <| o_p rfl (Zf4 Tryd.underlying2 Tryd.underlying62 rfl rfl u_0 rfl) <| o_p rfl (Zop rfl rfl u_0) <| o_p rfl (Z5 Zef rfl rfl u_1 u_0) <| o_n) (by kernel_rfl) (fun a g hst hb => ?_)
     refine wp_ret ?_
     refine Zv ?_
     refine Zm ?_
     obtain rfl := Option.some.inj H0
     obtain ⟨u0, hu0, hq0⟩ := Zbe (P := Tryd.prog) Zef (hst.at 0 rfl)
     exact Zx rfl hst hb hu0 hq0
   · replace H0 := Zo hc3 H0
     refine r_s (L := [(0, _), (3, _), (4, _), (8, _)]) (T := [⟨[.old 3], _, [], [], [30]⟩, ⟨[.op 0 0], _, [], [0], [29]⟩]) (F := [.old 0, .old 1, .old 2, .old 3, .op 1 0]) (hst.pick [0, 1, 2, 3] rfl) hb Za
       (o_p rfl (Z7 rfl rfl u_0 c_i) <| o_p rfl (Zc rfl rfl u_0) <| o_n) (by kernel_rfl) (fun a g hst hb => ?_)
     refine wp_cond_split (hst.bool 4 rfl) (fun hc4 => ?_) (fun hc4 => ?_)
     · replace H0 := Zp hc4 H0
       refine r_s (L := [(3, _), (4, _)]) (T := [⟨[.old 0], _, [], [], [31]⟩, ⟨[.op 0 0], _, [], [0], [32]⟩, ⟨[.op 1 0], _, [], [0, 1], [33]⟩, ⟨[.op 2 0], _, [], [0, 1, 2], [34]⟩, ⟨[.op 3 0, .old 1], _, [5], Lr 4, [4]⟩]) (F := [.op 4 0]) (hst.pick [1, 2] rfl) hb Za
         (o_p rfl (Ze Zcq rfl rfl u_0) <| o_p rfl (Zg ty_2 rfl rfl u_0) <| o_p rfl (Zf4 Tryd.underlying2 Tryd.underlying62 rfl rfl u_0 rfl) <| o_p rfl (Zus rfl rfl u_0) <| o_p rfl (Z5 Zef rfl rfl u_1 u_0) <| o_n) (by kernel_rfl) (fun a g hst hb => ?_)
       refine wp_ret ?_
       refine Zv ?_
       refine Zm ?_
       obtain rfl := Option.some.inj H0
       obtain ⟨u0, hu0, hq0⟩ := Zbe (P := Tryd.prog) Zef (hst.at 0 rfl)
       exact Zx rfl hst hb hu0 hq0
     · replace H0 := Zo hc4 H0
       refine r_s (L := [(0, _), (3, _), (4, _), (8, _)]) (T := [⟨[.old 3], _, [], [], [36]⟩, ⟨[.op 0 0], _, [], [0], [35]⟩]) (F := [.old 0, .old 1, .old 2, .op 1 0]) (hst.pick [0, 1, 2, 3] rfl) hb Za
         (o_p rfl (Z7 rfl rfl u_0 c_i) <| o_p rfl (Zc rfl rfl u_0) <| o_n) (by kernel_rfl) (fun a g hst hb => ?_)
       refine wp_cond_split (hst.bool 3 rfl) (fun hc5 => ?_) (fun hc5 => ?_)
       · replace H0 := Zp hc5 H0
         refine wp_seq ?_
         refine r_s (L := [(0, _), (3, _), (4, _)]) (T := [⟨[.old 0], _, [], [], [37]⟩, ⟨[.op 0 0], _, [], [0], [38]⟩, ⟨[.op 1 0], _, [], [0, 1], [39]⟩, ⟨[.op 2 0], _, [], [0, 1, 2], [40]⟩, ⟨[.op 3 0], _, [], Lr 4, [41]⟩, ⟨[.op 4 0], _, [], Lr 5, [42]⟩, ⟨[], _, [], [], [43]⟩]) (F := [.old 1, .old 2, .op 4 0, .op 5 0, .op 6 0]) (hst.pick [0, 1, 2] rfl) hb Za
           (o_p rfl (Zd rfl rfl u_0) <| o_p rfl (Zbc rfl rfl u_0 (fun _ _ ⟨_, _, _, e, _⟩ => ⟨_, e⟩)) <| o_p rfl (Ze Zz8 rfl rfl u_0) <| o_p rfl (Ze Zbm rfl rfl u_0) <| o_p rfl (Zg Zca rfl rfl u_0) <| o_p rfl (Zcd Tryd.underlying23 rfl rfl u_0) <| o_p rfl (Zd rfl rfl c_i) <| o_n) (by kernel_rfl) (fun a g hst hb => ?_)
         obtain ⟨z13, hz1, H0⟩ := Zk H0
         refine Zbv (fun a w => ∃ (y12 : Z3) (g : G), w = g.w ∧ St 56 [(4, (pBox Z9 4 y12))] a g ∧ Base g0 g ∧ (.inr y12) = z13) ?_ ?_
         · rintro a w ⟨y12, g, rfl, hst, hb, rfl⟩
           refine Zq ?_
           refine r_s (T := [⟨[], _, [], [], [54]⟩, ⟨[.op 0 0, .old 0], _, [5], [0], [4]⟩]) (F := [.op 1 0]) hst hb Za
             (o_p rfl (Zop rfl rfl c_i) <| o_p rfl (Z5 Zef rfl rfl u_1 u_0) <| o_n) (by kernel_rfl) (fun a g hst hb => ?_)
           refine wp_ret ?_
           refine Zv ?_
           refine Zm ?_
           obtain rfl := Option.some.inj H0
           obtain ⟨u0, hu0, hq0⟩ := Zbe (P := Tryd.prog) Zef (hst.at 0 rfl)
           exact Zx rfl hst hb hu0 hq0
         · refine wp_block ?_
           refine wp_loop_ghost (fun n a w => ∃ (x6 : Z3) (x7 : Int) (g : G), w = g.w ∧ St 56 [(3, (Zw.ptr a1)), (4, (pBox Z9 4 x6)), (41, (Zr.sl.pd a0.r.List)), (42, (pInt .i64 (a0.r.List.length : Int))), (43, (pInt .i64 x7))] a g ∧ Base g0 g ∧ Zfh a0 a1 n x6 x7 = some z13) (Int.toNat ((a0.r.List.length : Int) - (0 : Int)) + 1) ⟨(default : Z3), (0 : Int), g, rfl, (hst.pick [0, 1, 2, 3, 4] rfl), hb, hz1⟩ (fun n a w hI => ?_)
           obtain ⟨x6, x7, g, rfl, hst, hb, H1⟩ := hI
           cases n with
           | zero => exact absurd H1 (by simp [Zfh])
           | succ n =>
             rw [Zfh] at H1
             refine r_s (T := [⟨[.old 4, .old 3], _, [], [], [44]⟩]) (F := [.old 0, .old 1, .old 2, .old 3, .old 4, .op 0 0]) hst hb Za
               (o_p rfl (Zcb rfl rfl u_0 u_1) <| o_n) (by kernel_rfl) (fun a g hst hb => ?_)
             refine wp_seq ?_
             refine wp_cond_split (hst.bool 5 rfl) (fun hc8 => ?_) (fun hc8 => ?_)
             · replace H1 := Zp hc8 H1
               refine wp_skip ?_
               refine Zq ?_
               refine wp_seq ?_
               refine wp_block ?_
               obtain ⟨e9, h10, H1⟩ := Zk H1
               refine r_s (L := [(3, _), (4, _), (41, _), (42, _), (43, _)]) (T := [⟨[.old 2, .old 4], _, [], [], [45]⟩, ⟨[.op 0 0], _, [], [0], [46]⟩, ⟨[], [(6, (pBox Zr 6 (default : Zh)))], [7], [], [6]⟩, ⟨[.op 1 0, .op 2 0], _, [7], [0, 1, 2], [6]⟩]) (F := [.old 0, .old 1, .op 3 0, .old 2, .old 3, .old 4]) (hst.pick [0, 1, 2, 3, 4] rfl) hb Za
                 (o_p rfl (Zbh Tryd.underlying23 Zdv rfl rfl u_0 u_1 h10) <| o_p rfl (Zg Zdh rfl rfl u_0) <| o_p rfl (Zbi (zs := [.float .f64 0, .string ByteArray.empty]) (by kernel_rfl) (fun g => Zgi g) rfl rfl) <| o_p rfl (Zci Zdh rfl rfl u_1 u_0) <| o_n) (by kernel_rfl) (fun a g hst hb => ?_)
               refine r_s (T := [⟨[.old 2], _, [], [], [47]⟩, ⟨[.op 0 0], _, [], [0], [48]⟩, ⟨[.old 0], _, [], [], [49]⟩, ⟨[.op 2 0], _, [], [2], [50]⟩, ⟨[.op 1 0, .op 3 0], _, [], Lr 4, [51]⟩]) (F := [.old 0, .old 1, .old 3, .old 4, .old 5, .op 4 0]) hst hb Za
                 (o_p rfl (Ze Zc4 rfl rfl u_0) <| o_p rfl (Zg ty_9 rfl rfl u_0) <| o_p rfl (Ze Zd7 rfl rfl u_0) <| o_p rfl (Zg ty_9 rfl rfl u_0) <| o_p rfl (Zj2 rfl rfl u_0 u_1) <| o_n) (by kernel_rfl) (fun a g hst hb => ?_)
               refine wp_cond_split (hst.bool 5 rfl) (fun hc11 => ?_) (fun hc11 => ?_)
               · replace H1 := Zp hc11 H1
                 refine r_s (L := [(4, _)]) (T := [⟨[], _, [], [], [52]⟩, ⟨[.op 0 0, .old 0], _, [5], [0], [4]⟩]) (F := [.op 1 0]) (hst.pick [1] rfl) hb Za
                   (o_p rfl (Zsw rfl rfl ) <| o_p rfl (Z5 Zef rfl rfl u_1 u_0) <| o_n) (by kernel_rfl) (fun a g hst hb => ?_)
                 refine wp_ret ?_
                 refine Zv ?_
                 refine Zm ?_
                 refine Zm ?_
                 refine Zv ?_
                 refine Zm ?_
                 refine Zm ?_
                 refine Zv ?_
                 refine Zm ?_
                 obtain rfl := Option.some.inj H1
                 obtain rfl := Option.some.inj H0
                 obtain ⟨u0, hu0, hq0⟩ := Zbe (P := Tryd.prog) Zef (hst.at 0 rfl)
                 exact Zx rfl hst hb hu0 hq0
               · replace H1 := Zo hc11 H1
                 refine wp_skip ?_
                 refine Z6 ?_
                 refine Zq ?_
                 refine r_g (L := [(3, _), (4, _), (41, _), (42, _), (43, _)]) (T := [⟨[.old 4], _, [], [], [53]⟩, ⟨[.op 0 0], _, [], [0], [43]⟩]) (F := [.old 0, .old 1, .old 2, .old 3, .op 1 0]) (hst.pick [0, 1, 2, 3, 4] rfl) hb Za
                   (o_p rfl (Zcg rfl rfl u_0 c_i rfl) <| o_p rfl (Zd rfl rfl u_0) <| o_n) (by kernel_rfl) (fun a g hst hb => ?_)
                 exact ⟨n, Nat.lt_succ_self _, x6, (IntKind.i64.wrap (x7 + (1 : Int))), g, rfl, (hst.pick [0, 1, 2, 3, 4] rfl), hb, H1⟩
             · replace H1 := Zo hc8 H1
               refine wp_exit ?_
               refine Zcf ?_
               refine Zcf ?_
               refine Zc1 ?_
               exact ⟨x6, g, rfl, (hst.pick [1] rfl), hb, Option.some.inj H1⟩
       · replace H0 := Zo hc5 H0
         refine wp_skip ?_
         refine Z6 ?_
         refine Zq ?_
         refine r_s (L := [(4, _)]) (T := [⟨[], _, [], [], [55]⟩, ⟨[.op 0 0, .old 0], _, [5], [0], [4]⟩]) (F := [.op 1 0]) (hst.pick [2] rfl) hb Za
           (o_p rfl (Zsw rfl rfl ) <| o_p rfl (Z5 Zef rfl rfl u_1 u_0) <| o_n) (by kernel_rfl) (fun a g hst hb => ?_)
         refine wp_ret ?_
         obtain rfl := Option.some.inj H0
         obtain ⟨u0, hu0, hq0⟩ := Zbe (P := Tryd.prog) Zef (hst.at 0 rfl)
         exact Zx rfl hst hb hu0 hq0
theorem Zm9 (a0 : Z2) (a1 : Zs) {r : Z3} (h : Zhp a0 a1 = some r) : FnL Tryd.prog 59 [(Zfv.ptr a0), (Zw.pd a1)] (Z9.pd r) := FnL.of (Zmn a0 a1 h) (Zz1 Zqk)
theorem Zl7 (a0 : Z2) (a1 : Int) (a2 : List Zs) {r : Int × Z2} (h : Ziq a0 a1 a2 = some r) : FnM Tryd.prog 28 Zec a0 r.2 [(pInt .i64 a1), (Zw.sl.pd a2)] (pInt .i64 r.1) := by
 have H0 := h
 unfold Ziq at H0
 clear h
 refine Zz2 (N := 96) Tryd.func28 rfl rfl (Nat.le_of_ble_eq_true rfl) rfl rfl (fun a g0 b0 hst hb => ?_)
 replace hst : St 96 [(0, (Zg4 (some b0) Zbp Zbr hpT 0 a0)), (1, (pInt .i64 a1)), (2, (Zw.sl.pd a2)), (1002, (pST Zbp Zbr Zce Z9 96 b0 a0))] _ _ := Zvf hst
 refine r_s (T := [⟨[], _, [], [], [6]⟩]) (F := [.old 0, .old 1, .old 2, .old 3]) hst hb Za
   (o_p rfl (Zc rfl rfl c_i) <| o_n) (by kernel_rfl) (fun a g hst hb => ?_)
 refine wp_seq ?_
 refine r_s (T := [⟨[.old 1], _, [], [], [12]⟩, ⟨[.op 0 0], _, [], [0], [13]⟩, ⟨[.op 1 0], _, [], [0, 1], [14]⟩, ⟨[.op 2 0, .old 1], _, [], [0, 1, 2], [15]⟩, ⟨[.op 2 0, .old 0], _, [], [0, 1, 2], [16]⟩, ⟨[.op 2 0, .op 4 0], _, [], [0, 1, 2, 4], [17]⟩, ⟨[.op 2 0, .op 5 0, .old 3], _, [], [0, 1, 2, 4, 5], [18]⟩, ⟨[.op 2 0, .op 6 0], _, [], [0, 1, 2, 4, 5, 6], [19]⟩, ⟨[.op 2 0, .op 7 0], _, [], [0, 1, 2, 4, 5, 6, 7], [20]⟩, ⟨[.op 2 0, .op 3 0, .op 8 0], _, [], Lr 9, [21]⟩, ⟨[.op 2 0, .op 9 0], _, [], Lr 10, [22]⟩]) (F := [.old 0, .old 1, .old 2, .op 10 0, .old 3]) hst hb Za
   (o_p rfl (Zd rfl rfl u_0) <| o_p rfl (Zcb rfl rfl u_0 c_i) <| o_p rfl (Zd rfl rfl u_0) <| o_g (g_f rfl rfl rfl (fun hG => Zd rfl rfl u_0)) <| o_g (g_f rfl rfl rfl (fun hG => Zd rfl rfl u_0)) <| o_g (g_f rfl rfl rfl (fun hG => Zbc rfl rfl (Opd.gd hG u_0) (fun _ _ ⟨_, ⟨_, _, _, e, _⟩, _⟩ => ⟨_, e⟩))) <| o_g (g_f rfl rfl rfl (fun hG => Zk0 Zlo (off := 8) (q := (pArr Z9 96 1000000 (Zce a0))) (by kernel_rfl) (pr := id) (fun _ => rfl) (fun _ _ h => h) rfl rfl (Opd.joinS (Opd.gd hG u_0) u_1))) <| o_g (g_f rfl rfl rfl (fun hG => Zms Zn6 rfl rfl (Opd.gd hG u_0))) <| o_g (g_f rfl rfl rfl (fun hG => Z0l Tryd.underlying92 rfl rfl (Opd.gd hG u_0))) <| o_g (g_f rfl rfl rfl (fun hG => Zji rfl rfl (Opd.gd hG u_0) (Opd.gd hG u_1))) <| o_p rfl (Zbj rfl rfl u_0 (fun hz => (Opd.gd (bNF hz) u_1))) <| o_n) (by kernel_rfl) (fun a g hst hb => ?_)
 refine wp_cond_split (hst.bool 3 rfl) (fun hc1 => ?_) (fun hc1 => ?_)
 · replace H0 := Zp hc1 H0
   refine r_s (L := [(0, _), (1002, _)]) (T := [⟨[], _, [], [], [6]⟩]) (F := [.old 0, .op 0 0, .old 1]) (hst.pick [0, 4] rfl) hb Za
     (o_p rfl (Zc rfl rfl c_i) <| o_n) (by kernel_rfl) (fun a g hst hb => ?_)
   refine wp_ret ?_
   refine Zm ?_
   obtain rfl := Option.some.inj H0
   exact Zm4 rfl hst hb (Zl (s := 6)) (hst.at 1 rfl) (Zh6 (hst.at 0 rfl) (hst.at 2 rfl))
 · replace H0 := Zo hc1 H0
   refine wp_skip ?_
   refine Zq ?_
   obtain ⟨e2, h3, H0⟩ := Zk H0
   refine r_s (L := [(0, _), (1, _), (2, _), (1002, _)]) (T := [⟨[.old 0], _, [], [], [23]⟩, ⟨[.op 0 0], _, [], [0], [24]⟩, ⟨[.op 1 0, .old 3], _, [], [0, 1], [25]⟩, ⟨[.op 2 0], _, [], [0, 1, 2], [26]⟩, ⟨[.old 1], _, [], [], [27]⟩, ⟨[.op 3 0, .op 4 0], _, [], Lr 5, [28]⟩, ⟨[.op 5 0], _, [], Lr 6, [29]⟩, ⟨[], [(7, (pBox Z9 7 (default : Z3)))], [8], [], [7]⟩, ⟨[.op 6 0, .op 7 0], _, [8], Lr 8, [7]⟩]) (F := [.old 0, .old 1, .old 2, .op 8 0, .old 3]) (hst.pick [0, 1, 2, 4] rfl) hb Za
     (o_p rfl (Zd rfl rfl u_0) <| o_p rfl (Zbc rfl rfl u_0 (fun _ _ ⟨_, ⟨_, _, _, e, _⟩, _⟩ => ⟨_, e⟩)) <| o_p rfl (Zk0 Zlo (off := 8) (q := (pArr Z9 96 1000000 (Zce a0))) (by kernel_rfl) (pr := id) (fun _ => rfl) (fun _ _ h => h) rfl rfl (Opd.joinS u_0 u_1)) <| o_p rfl (Zms Zn6 rfl rfl u_0) <| o_p rfl (Zd rfl rfl u_0) <| o_p rfl (Zq5 Tryd.underlying92 Zr9 rfl rfl u_0 u_1 h3) <| o_p rfl (Zwt Zef rfl rfl u_0) <| o_p rfl (Zbi (zs := [.int .u64 0, .int .u64 0]) (by kernel_rfl) (fun g => Zid g) rfl rfl) <| o_p rfl (Z5 Zef rfl rfl u_1 u_0) <| o_n) (by kernel_rfl) (fun a g hst hb => ?_)
   refine wp_seq ?_
   refine r_s (T := [⟨[.old 2], _, [], [], [30]⟩, ⟨[.op 0 0], _, [], [0], [31]⟩, ⟨[], _, [], [], [32]⟩]) (F := [.old 0, .old 1, .old 3, .op 0 0, .op 1 0, .op 2 0, .old 4]) hst hb Za
     (o_p rfl (Zd rfl rfl u_0) <| o_p rfl (Zcd Tryd.underlying60 rfl rfl u_0) <| o_p rfl (Zd rfl rfl c_i) <| o_n) (by kernel_rfl) (fun a g hst hb => ?_)
   obtain ⟨z23, hz1, H0⟩ := Zk H0
   refine Zbv (fun a w => ∃ (y21 : Z2) (y22 : Z3) (g : G), w = g.w ∧ St 96 [(0, (Zg4 (some b0) Zbp Zbr hpT 0 y21)), (1, (pInt .i64 a1)), (7, (pBox Z9 7 y22)), (1002, (pST Zbp Zbr Zce Z9 96 b0 y21))] a g ∧ Base g0 g ∧ (.inr (y21, y22)) = z23) ?_ ?_
   · rintro a w ⟨y21, y22, g, rfl, hst, hb, rfl⟩
     refine Zq ?_
     obtain ⟨e24, h25, H0⟩ := Zk H0
     refine r_s (T := [⟨[.old 0], _, [], [], [89]⟩, ⟨[.op 0 0], _, [], [0], [90]⟩, ⟨[.op 1 0, .old 3], _, [], [0, 1], [91]⟩, ⟨[.op 2 0], _, [], [0, 1, 2], [92]⟩, ⟨[.old 1], _, [], [], [93]⟩, ⟨[.old 2], _, [], [], [94]⟩, ⟨[.op 3 0, .op 4 0], _, [], Lr 6, [95]⟩, ⟨[.op 5 0, .op 6 0, .old 3, .old 0], [(1002, (pST Zbp Zbr Zce Z9 96 b0 ({ y21 with by_ := y21.by_.set (Int.toNat a1) y22 } : Z2))), (0, (Zg4 (some b0) Zbp Zbr hpT 0 ({ y21 with by_ := y21.by_.set (Int.toNat a1) y22 } : Z2)))], [1000001], Lr 7, [0, 91, 92, 95, 1002]⟩]) (F := [.op 7 1, .op 7 0]) hst hb Za
       (o_p rfl (Zd rfl rfl u_0) <| o_p rfl (Zbc rfl rfl u_0 (fun _ _ ⟨_, ⟨_, _, _, e, _⟩, _⟩ => ⟨_, e⟩)) <| o_p rfl (Zk0 Zlo (off := 8) (q := (pArr Z9 96 1000000 (Zce y21))) (by kernel_rfl) (pr := id) (fun _ => rfl) (fun _ _ h => h) rfl rfl (Opd.joinS u_0 u_1)) <| o_p rfl (Zms Zn6 rfl rfl u_0) <| o_p rfl (Zd rfl rfl u_0) <| o_p rfl (Zch Zef rfl rfl u_0) <| o_p rfl (Zq5 Tryd.underlying92 Zr9 rfl rfl u_0 u_1 h25) <| o_p rfl (Zrw (lst := Zce) (xv := y21) (u := e24) (x' := ({ y21 with by_ := y21.by_.set (Int.toNat a1) y22 } : Z2)) (fun _ => rfl) rfl rfl Zef rfl rfl u_3 u_2 u_1 u_0 (Z00 h25) (by decide)) <| o_n) (by kernel_rfl) (fun a g hst hb => ?_)
     refine r_s (T := [⟨[], _, [], [], [6]⟩]) (F := [.old 0, .op 0 0, .old 1]) hst hb Za
       (o_p rfl (Zc rfl rfl c_i) <| o_n) (by kernel_rfl) (fun a g hst hb => ?_)
     refine wp_ret ?_
     obtain rfl := Option.some.inj H0
     exact Zm4 rfl hst hb (Zl (s := 6)) (hst.at 1 rfl) (Zh6 (hst.at 0 rfl) (hst.at 2 rfl))
   · refine wp_block ?_
     refine wp_loop_ghost (fun n a w => ∃ (x4 : Z2) (x5 : Z3) (x6 : Int) (g : G), w = g.w ∧ St 96 [(0, (Zg4 (some b0) Zbp Zbr hpT 0 x4)), (1, (pInt .i64 a1)), (7, (pBox Z9 7 x5)), (30, (Zw.sl.pd a2)), (31, (pInt .i64 (a2.length : Int))), (32, (pInt .i64 x6)), (1002, (pST Zbp Zbr Zce Z9 96 b0 x4))] a g ∧ Base g0 g ∧ Zfd a2 n x4 x5 x6 = some z23) (Int.toNat ((a2.length : Int) - (0 : Int)) + 1) ⟨a0, e2, (0 : Int), g, rfl, (hst.pick [0, 1, 2, 3, 4, 5, 6] rfl), hb, hz1⟩ (fun n a w hI => ?_)
     obtain ⟨x4, x5, x6, g, rfl, hst, hb, H1⟩ := hI
     cases n with
     | zero => exact absurd H1 (by simp [Zfd])
     | succ n =>
       rw [Zfd] at H1
       refine r_s (T := [⟨[.old 5, .old 4], _, [], [], [33]⟩]) (F := [.old 0, .old 1, .old 2, .old 3, .old 4, .old 5, .op 0 0, .old 6]) hst hb Za
         (o_p rfl (Zcb rfl rfl u_0 u_1) <| o_n) (by kernel_rfl) (fun a g hst hb => ?_)
       refine wp_seq ?_
       refine wp_cond_split (hst.bool 6 rfl) (fun hc7 => ?_) (fun hc7 => ?_)
       · replace H1 := Zp hc7 H1
         refine wp_skip ?_
         refine Zq ?_
         refine wp_seq ?_
         refine wp_block ?_
         obtain ⟨e8, h9, H1⟩ := Zk H1
         refine r_s (L := [(0, _), (1, _), (7, _), (30, _), (31, _), (32, _), (1002, _)]) (T := [⟨[.old 3, .old 5], _, [], [], [34]⟩, ⟨[.op 0 0], _, [], [0], [35]⟩, ⟨[], [(9, (pBox Zw 9 (default : Zs)))], [10], [], [9]⟩, ⟨[.op 1 0, .op 2 0], _, [10], [0, 1, 2], [9]⟩]) (F := [.old 0, .old 1, .old 2, .op 3 0, .old 3, .old 4, .old 5, .old 6]) (hst.pick [0, 1, 2, 3, 4, 5, 7] rfl) hb Za
           (o_p rfl (Zbh Tryd.underlying60 Z2z rfl rfl u_0 u_1 h9) <| o_p rfl (Zg Zfa rfl rfl u_0) <| o_p rfl (Zbi (zs := [.int .i64 0, .string ByteArray.empty, .int .i64 0, .float .f64 0, .string ByteArray.empty, .int .i64 0, .int .i64 0, .int .i64 0, .int .i64 0, .float .f64 0, .int .i64 0, .string ByteArray.empty, .slice none 0 0, .bool false]) (by kernel_rfl) (fun g => Zjy g) rfl rfl) <| o_p rfl (Zci Zfa rfl rfl u_1 u_0) <| o_n) (by kernel_rfl) (fun a g hst hb => ?_)
         refine wp_seq ?_
         obtain ⟨r10, h11, H1⟩ := Zk H1
         refine r_s (T := [⟨[.old 3], _, [], [], [36]⟩, ⟨[.op 0 0], _, [], [0], [37]⟩, ⟨[.op 1 0], _, [], [0, 1], [10]⟩]) (F := [.old 0, .old 1, .old 2, .old 3, .op 2 0, .old 4, .old 5, .old 6, .old 7]) hst hb Za
           (o_p rfl (Zg Zfa rfl rfl u_0) <| o_p rfl (Zt Zzm (Zn4 _ h11) rfl rfl (.cons u_0 .nil)) <| o_p rfl (Zc rfl rfl u_0) <| o_n) (by kernel_rfl) (fun a g hst hb => ?_)
         refine r_s (T := [⟨[.old 4], _, [], [], [38]⟩, ⟨[.op 0 0], _, [], [0], [39]⟩]) (F := [.old 0, .old 1, .old 2, .old 3, .old 4, .old 5, .old 6, .old 7, .op 1 0, .old 8]) hst hb Za
           (o_p rfl (Zd rfl rfl u_0) <| o_p rfl (Zdu rfl rfl u_0 c_i) <| o_n) (by kernel_rfl) (fun a g hst hb => ?_)
         refine wp_cond_split (hst.bool 8 rfl) (fun hc12 => ?_) (fun hc12 => ?_)
         · replace H1 := Zp hc12 H1
           refine r_s (L := [(0, _), (10, _), (1002, _)]) (T := [⟨[.old 1], _, [], [], [40]⟩, ⟨[.op 0 0], _, [], [0], [6]⟩]) (F := [.old 0, .op 1 0, .old 2]) (hst.pick [0, 4, 9] rfl) hb Za
             (o_p rfl (Zd rfl rfl u_0) <| o_p rfl (Zc rfl rfl u_0) <| o_n) (by kernel_rfl) (fun a g hst hb => ?_)
           refine wp_ret ?_
           refine Zm ?_
           refine Zv ?_
           refine Zm ?_
           refine Zm ?_
           refine Zv ?_
           refine Zm ?_
           refine Zm ?_
           obtain rfl := Option.some.inj H1
           obtain rfl := Option.some.inj H0
           exact Zm4 rfl hst hb (Zl (s := 6)) (hst.at 1 rfl) (Zh6 (hst.at 0 rfl) (hst.at 2 rfl))
         · replace H1 := Zo hc12 H1
           refine wp_skip ?_
           refine Zq ?_
           refine wp_seq ?_
           obtain ⟨r13, h14, H1⟩ := Zk H1
           refine r_s (L := [(0, _), (1, _), (7, _), (9, _), (30, _), (31, _), (32, _), (1002, _)]) (T := [⟨[.old 0], _, [], [], [41]⟩, ⟨[.op 0 0], _, [], [0], [42]⟩, ⟨[.op 1 0], _, [], [0, 1], [43]⟩, ⟨[.op 2 0], _, [], [0, 1, 2], [44]⟩, ⟨[.op 3 0], _, [], Lr 4, [45]⟩, ⟨[.old 3], _, [], [], [46]⟩, ⟨[.op 5 0], _, [], [5], [47]⟩, ⟨[.op 4 0, .op 6 0], _, [], Lr 7, [48]⟩, ⟨[.op 7 0], _, [], Lr 8, [49]⟩]) (F := [.old 0, .old 1, .old 2, .old 3, .old 4, .old 5, .old 6, .op 8 0, .old 7]) (hst.pick [0, 1, 2, 3, 5, 6, 7, 9] rfl) hb Za
             (o_p rfl (Zd rfl rfl u_0) <| o_p rfl (Zbc rfl rfl u_0 (fun _ _ ⟨_, ⟨_, _, _, e, _⟩, _⟩ => ⟨_, e⟩)) <| o_p rfl (Zvs Zyg (off := 0) (by kernel_rfl) (fun _ => rfl) rfl rfl u_0) <| o_p rfl (Zvp Zcx (off2 := 0) (by kernel_rfl) (by decide) rfl rfl u_0) <| o_p rfl (Zyc ty_3 rfl rfl u_0) <| o_p rfl (Ze Zb9 rfl rfl u_0) <| o_p rfl (Zg ty_3 rfl rfl u_0) <| o_p rfl (Zt Zy5 (Zl1 _ _ h14) rfl rfl (.cons u_0 (.cons u_1 .nil))) <| o_p rfl (Zb4 rfl rfl u_0) <| o_n) (by kernel_rfl) (fun a g hst hb => ?_)
           refine wp_cond_split (hst.bool 7 rfl) (fun hc15 => ?_) (fun hc15 => ?_)
           · replace H1 := Zp hc15 H1
             refine r_s (L := [(0, _), (1002, _)]) (T := [⟨[], _, [], [], [6]⟩]) (F := [.old 0, .op 0 0, .old 1]) (hst.pick [0, 8] rfl) hb Za
               (o_p rfl (Zc rfl rfl c_i) <| o_n) (by kernel_rfl) (fun a g hst hb => ?_)
             refine wp_ret ?_
             refine Zm ?_
             refine Zv ?_
             refine Zm ?_
             refine Zm ?_
             refine Zv ?_
             refine Zm ?_
             refine Zm ?_
             obtain rfl := Option.some.inj H1
             obtain rfl := Option.some.inj H0
             exact Zm4 rfl hst hb (Zl (s := 6)) (hst.at 1 rfl) (Zh6 (hst.at 0 rfl) (hst.at 2 rfl))
           · replace H1 := Zo hc15 H1
             refine wp_skip ?_
             refine Zq ?_
             obtain ⟨r16, h17, H1⟩ := Zk H1
             refine r_s (L := [(0, _), (1, _), (7, _), (9, _), (30, _), (31, _), (32, _), (1002, _)]) (T := [⟨[.old 0], _, [], [], [50]⟩, ⟨[.old 3], _, [], [], [51]⟩, ⟨[.op 0 0, .op 1 0, .old 7], _, [], [0, 1], [52]⟩, ⟨[], [(11, (pBox Z9 11 (default : Z3)))], [12], [], [11]⟩, ⟨[.op 2 0, .op 3 0], _, [12], Lr 4, [11]⟩]) (F := [.old 0, .old 1, .old 2, .old 3, .op 4 0, .old 4, .old 5, .old 6, .old 7]) (hst.pick [0, 1, 2, 3, 4, 5, 6, 8] rfl) hb Za
               (o_p rfl (Zd rfl rfl u_0) <| o_p rfl (Zg Zfa rfl rfl u_0) <| o_p rfl (Zs4 Zl2 Z3q (Zm9 _ _ h17) rfl rfl (Opd.joinS u_0 u_2) rfl (.cons u_1 .nil)) <| o_p rfl (Zbi (zs := [.int .u64 0, .int .u64 0]) (by kernel_rfl) (fun g => Zid g) rfl rfl) <| o_p rfl (Zci Zef rfl rfl u_1 u_0) <| o_n) (by kernel_rfl) (fun a g hst hb => ?_)
             refine wp_seq ?_
             refine wp_block ?_
             refine r_s (T := [⟨[.old 4], _, [], [], [54]⟩, ⟨[.op 0 0], _, [], [0], [55]⟩, ⟨[.old 2], _, [], [], [56]⟩, ⟨[.op 2 0], _, [], [2], [57]⟩, ⟨[.op 1 0, .op 3 0], _, [], Lr 4, [58]⟩, ⟨[.op 4 0], _, [], Lr 5, [59]⟩, ⟨[.op 5 0, .old 3], _, [], Lr 6, [60]⟩, ⟨[.op 5 0, .op 6 0], _, [], Lr 7, [61]⟩, ⟨[.op 5 0, .op 7 0], _, [], Lr 8, [62]⟩, ⟨[.op 5 0, .op 8 0], _, [], Lr 9, [63]⟩, ⟨[.op 9 0], _, [], Lr 10, [53]⟩]) (F := [.old 0, .old 1, .old 2, .old 4, .old 5, .old 6, .old 7, .op 10 0, .old 8]) hst hb Za
               (o_p rfl (Ze Zi7 rfl rfl u_0) <| o_p rfl (Zg Zhj rfl rfl u_0) <| o_p rfl (Zj Zi7 (off := 0) (by kernel_rfl) rfl rfl u_0) <| o_p rfl (Z1 Zhj rfl rfl u_0) <| o_p rfl (Zcj rfl rfl u_0 u_1) <| o_p rfl (Zd rfl rfl u_0) <| o_g (g_t rfl rfl rfl (fun hG => Ze Zb9 rfl rfl u_0)) <| o_g (g_t rfl rfl rfl (fun hG => Zg ty_3 rfl rfl (Opd.gd hG u_0))) <| o_g (g_t rfl rfl rfl (fun hG => Z7 rfl rfl (Opd.gd hG u_0) c_i)) <| o_p rfl (Zbb rfl rfl u_0 (fun hz => (Opd.gd hz u_1))) <| o_p rfl (Zc rfl rfl u_0) <| o_n) (by kernel_rfl) (fun a g hst hb => ?_)
             refine wp_cond_split (hst.bool 7 rfl) (fun hc18 => ?_) (fun hc18 => ?_)
             · replace H1 := Zp hc18 H1
               refine r_s (L := [(0, _), (1002, _)]) (T := [⟨[], _, [], [], [6]⟩]) (F := [.old 0, .op 0 0, .old 1]) (hst.pick [0, 8] rfl) hb Za
                 (o_p rfl (Zc rfl rfl c_i) <| o_n) (by kernel_rfl) (fun a g hst hb => ?_)
               refine wp_ret ?_
               refine Zv ?_
               refine Zm ?_
               refine Zv ?_
               refine Zm ?_
               refine Zm ?_
               refine Zv ?_
               refine Zm ?_
               refine Zm ?_
               obtain rfl := Option.some.inj H1
               obtain rfl := Option.some.inj H0
               exact Zm4 rfl hst hb (Zl (s := 6)) (hst.at 1 rfl) (Zh6 (hst.at 0 rfl) (hst.at 2 rfl))
             · replace H1 := Zo hc18 H1
               refine r_s (L := [(0, _), (1, _), (7, _), (11, _), (30, _), (31, _), (32, _), (1002, _)]) (T := [⟨[.old 3], _, [], [], [65]⟩, ⟨[.op 0 0], _, [], [0], [66]⟩, ⟨[.old 2], _, [], [], [67]⟩, ⟨[.op 2 0], _, [], [2], [68]⟩, ⟨[.op 1 0, .op 3 0], _, [], Lr 4, [69]⟩, ⟨[.op 4 0], _, [], Lr 5, [64]⟩]) (F := [.old 0, .old 1, .old 2, .old 3, .old 4, .old 5, .old 6, .op 5 0, .old 7]) (hst.pick [0, 1, 2, 3, 4, 5, 6, 8] rfl) hb Za
                 (o_p rfl (Ze Zi7 rfl rfl u_0) <| o_p rfl (Zg Zhj rfl rfl u_0) <| o_p rfl (Zj Zi7 (off := 0) (by kernel_rfl) rfl rfl u_0) <| o_p rfl (Z1 Zhj rfl rfl u_0) <| o_p rfl (Zcj rfl rfl u_0 u_1) <| o_p rfl (Zc rfl rfl u_0) <| o_n) (by kernel_rfl) (fun a g hst hb => ?_)
               refine wp_cond_split (hst.bool 7 rfl) (fun hc19 => ?_) (fun hc19 => ?_)
               · replace H1 := Zp hc19 H1
                 refine r_s (L := [(0, _), (1002, _)]) (T := [⟨[], _, [], [], [6]⟩]) (F := [.old 0, .op 0 0, .old 1]) (hst.pick [0, 8] rfl) hb Za
                   (o_p rfl (Zc rfl rfl c_i) <| o_n) (by kernel_rfl) (fun a g hst hb => ?_)
                 refine wp_ret ?_
                 refine Zv ?_
                 refine Zm ?_
                 refine Zv ?_
                 refine Zm ?_
                 refine Zm ?_
                 refine Zv ?_
                 refine Zm ?_
                 refine Zm ?_
                 obtain rfl := Option.some.inj H1
                 obtain rfl := Option.some.inj H0
                 exact Zm4 rfl hst hb (Zl (s := 6)) (hst.at 1 rfl) (Zh6 (hst.at 0 rfl) (hst.at 2 rfl))
               · replace H1 := Zo hc19 H1
                 refine r_s (L := [(0, _), (1, _), (7, _), (11, _), (30, _), (31, _), (32, _), (1002, _)]) (T := [⟨[.old 3], _, [], [], [71]⟩, ⟨[.op 0 0], _, [], [0], [72]⟩, ⟨[.old 2], _, [], [], [73]⟩, ⟨[.op 2 0], _, [], [2], [74]⟩, ⟨[.op 1 0, .op 3 0], _, [], Lr 4, [75]⟩, ⟨[.op 4 0], _, [], Lr 5, [70]⟩]) (F := [.old 0, .old 1, .old 2, .old 3, .old 4, .old 5, .old 6, .op 5 0, .old 7]) (hst.pick [0, 1, 2, 3, 4, 5, 6, 8] rfl) hb Za
                   (o_p rfl (Ze Zke rfl rfl u_0) <| o_p rfl (Zg Zhj rfl rfl u_0) <| o_p rfl (Zj Zke (off := 1) (by kernel_rfl) rfl rfl u_0) <| o_p rfl (Z1 Zhj rfl rfl u_0) <| o_p rfl (Zcj rfl rfl u_0 u_1) <| o_p rfl (Zc rfl rfl u_0) <| o_n) (by kernel_rfl) (fun a g hst hb => ?_)
                 refine wp_cond_split (hst.bool 7 rfl) (fun hc20 => ?_) (fun hc20 => ?_)
                 · replace H1 := Zp hc20 H1
                   refine r_s (L := [(0, _), (1002, _)]) (T := [⟨[], _, [], [], [6]⟩]) (F := [.old 0, .op 0 0, .old 1]) (hst.pick [0, 8] rfl) hb Za
                     (o_p rfl (Zc rfl rfl c_i) <| o_n) (by kernel_rfl) (fun a g hst hb => ?_)
                   refine wp_ret ?_
                   refine Zv ?_
                   refine Zm ?_
                   refine Zv ?_
                   refine Zm ?_
                   refine Zm ?_
                   refine Zv ?_
                   refine Zm ?_
                   refine Zm ?_
                   obtain rfl := Option.some.inj H1
                   obtain rfl := Option.some.inj H0
                   exact Zm4 rfl hst hb (Zl (s := 6)) (hst.at 1 rfl) (Zh6 (hst.at 0 rfl) (hst.at 2 rfl))
                 · replace H1 := Zo hc20 H1
                   refine wp_skip ?_
                   refine Z6 ?_
                   refine Zq ?_
                   refine r_s (L := [(0, _), (1, _), (7, _), (11, _), (30, _), (31, _), (32, _), (1002, _)]) (T := [⟨[.old 2], _, [], [], [76]⟩, ⟨[.op 0 0], _, [], [0], [77]⟩, ⟨[.old 3], _, [], [], [78]⟩, ⟨[.op 2 0], _, [], [2], [79]⟩, ⟨[.op 1 0, .op 3 0], _, [], Lr 4, [80]⟩, ⟨[.old 2], _, [], Lr 5, [81]⟩, ⟨[.op 4 0, .op 5 0, .old 2], _, [8], Lr 6, [7, 76, 81]⟩]) (F := [.old 0, .old 1, .op 6 0, .old 3, .old 4, .old 5, .old 6, .old 7]) (hst.pick [0, 1, 2, 3, 4, 5, 6, 8] rfl) hb Za
                     (o_p rfl (Zj Zi7 (off := 0) (by kernel_rfl) rfl rfl u_0) <| o_p rfl (Z1 Zhj rfl rfl u_0) <| o_p rfl (Ze Zi7 rfl rfl u_0) <| o_p rfl (Zg Zhj rfl rfl u_0) <| o_p rfl (Zd5 rfl rfl u_0 u_1 rfl) <| o_p rfl (Zj Zi7 (off := 0) (by kernel_rfl) rfl rfl u_0) <| o_p rfl (Z0t Zhj rfl rfl u_2 u_1 u_0) <| o_n) (by kernel_rfl) (fun a g hst hb => ?_)
                   refine r_g (T := [⟨[.old 2], _, [], [], [82]⟩, ⟨[.op 0 0], _, [], [0], [83]⟩, ⟨[.old 3], _, [], [], [84]⟩, ⟨[.op 2 0], _, [], [2], [85]⟩, ⟨[.op 1 0, .op 3 0], _, [], Lr 4, [86]⟩, ⟨[.old 2], _, [], Lr 5, [87]⟩, ⟨[.op 4 0, .op 5 0, .old 2], _, [8], Lr 6, [7, 82, 87]⟩]) (F := [.old 0, .old 1, .op 6 0, .old 4, .old 5, .old 6, .old 7]) hst hb Za
                     (o_p rfl (Zj Zke (off := 1) (by kernel_rfl) rfl rfl u_0) <| o_p rfl (Z1 Zhj rfl rfl u_0) <| o_p rfl (Ze Zke rfl rfl u_0) <| o_p rfl (Zg Zhj rfl rfl u_0) <| o_p rfl (Zd5 rfl rfl u_0 u_1 rfl) <| o_p rfl (Zj Zke (off := 1) (by kernel_rfl) rfl rfl u_0) <| o_p rfl (Z1g Zhj rfl rfl u_2 u_1 u_0) <| o_n) (by kernel_rfl) (fun a g hst hb => ?_)
                   refine Z6 ?_
                   refine Zq ?_
                   refine r_g (T := [⟨[.old 5], _, [], [], [88]⟩, ⟨[.op 0 0], _, [], [0], [32]⟩]) (F := [.old 0, .old 1, .old 2, .old 3, .old 4, .op 1 0, .old 6]) hst hb Za
                     (o_p rfl (Zcg rfl rfl u_0 c_i rfl) <| o_p rfl (Zd rfl rfl u_0) <| o_n) (by kernel_rfl) (fun a g hst hb => ?_)
                   exact ⟨n, Nat.lt_succ_self _, x4, ({ ({ x5 with up := (IntKind.u64.wrap (x5.up - r16.up)) }) with down := (IntKind.u64.wrap (({ x5 with up := (IntKind.u64.wrap (x5.up - r16.up)) }).down - r16.down)) }), (IntKind.i64.wrap (x6 + (1 : Int))), g, rfl, (hst.pick [0, 1, 2, 3, 4, 5, 6] rfl), hb, H1⟩
       · replace H1 := Zo hc7 H1
         refine wp_exit ?_
         refine Zcf ?_
         refine Zcf ?_
         refine Zc1 ?_
         exact ⟨x4, x5, g, rfl, (hst.pick [0, 1, 2, 7] rfl), hb, Option.some.inj H1⟩
theorem Zj0 (a0 : Z2) (a1 : Int) (a2 : List Zs) {r : Z2 × Int} (h : Zjc a0 a1 a2 = some r) : FnM Tryd.prog 28 Zec a0 r.1 [(pInt .i64 a1), (Zw.sl.pd a2)] (pInt .i64 r.2) := by
 obtain ⟨u, h1, h2⟩ := Zk h
 obtain rfl := Option.some.inj h2
 exact Zl7 a0 a1 a2 h1
theorem Zmd {r : Bool} (h : Zhd = some r) : FnOk Tryd.prog 8 [] (Zba r) := by
 have H0 := h
 unfold Zhd at H0
 clear h
 refine Zbq (N := 81) Tryd.func8 rfl rfl (Nat.le_of_ble_eq_true rfl) rfl rfl (fun a g0 hst hb => ?_)
 refine r_s (T := [⟨[], _, [], [], [0]⟩]) (F := []) hst hb Za
   (o_p rfl (Zc rfl rfl c_b) <| o_n) (by kernel_rfl) (fun a g hst hb => ?_)
 refine r_s (T := [⟨[], _, [], [], [11]⟩, ⟨[], [(1, (pBox Zf 1 (default : Zb)))], [2], [], [1]⟩, ⟨[.op 0 0, .op 1 0], _, [2], [0, 1], [1]⟩]) (F := [.op 2 0]) hst hb Za
   (o_p rfl (Zty rfl rfl c_i c_i c_i) <| o_p rfl (Zbi (zs := [.int .i64 0, .int .i64 0, .int .i64 0, .int .i64 0, .float .f64 0, .int .i64 0, .string ByteArray.empty, .slice none 0 0]) (by kernel_rfl) (fun g => Zbo g) rfl rfl) <| o_p rfl (Zci Z0 rfl rfl u_1 u_0) <| o_n) (by kernel_rfl) (fun a g hst hb => ?_)
 obtain ⟨r1, h2, H0⟩ := Zk H0
 refine r_s (T := [⟨[.old 0], _, [], [], [13]⟩, ⟨[.op 0 0], [(14, (pTup [(Zk8 Zec 14 r1.1), (pInt .i64 r1.2)]))], [15, 1000015], [0], [14]⟩, ⟨[.op 1 0], _, [], [0, 1], [12]⟩, ⟨[.op 2 0], _, [], [0, 1, 2], [15]⟩, ⟨[.op 2 0], _, [], [0, 1, 2], [16]⟩, ⟨[.op 3 0], _, [], Lr 4, [2]⟩, ⟨[.op 4 0], _, [], Lr 6, [3]⟩]) (F := [.old 0, .op 5 0, .op 6 0]) hst hb Za
   (o_p rfl (Zg Z0 rfl rfl u_0) <| o_p rfl (Ztr Z29 (Zte _ _ h2) rfl rfl rfl (.cons u_0 (.cons c_i .nil))) <| o_p rfl (Zd rfl rfl u_0) <| o_p rfl (Zbf rfl rfl u_0 rfl) <| o_p rfl (Zbf rfl rfl u_0 rfl) <| o_p rfl (Zc rfl rfl u_0) <| o_p rfl (Zc rfl rfl u_0) <| o_n) (by kernel_rfl) (fun a g hst hb => ?_)
 refine wp_seq ?_
 refine r_s (T := [⟨[.old 2], _, [], [], [17]⟩, ⟨[.op 0 0], _, [], [0], [18]⟩, ⟨[.op 1 0], _, [], [0, 1], [19]⟩, ⟨[.op 2 0, .old 1], _, [], [0, 1, 2], [20]⟩, ⟨[.op 2 0, .op 3 0], _, [], Lr 4, [21]⟩, ⟨[.op 2 0, .op 4 0], _, [], Lr 5, [22]⟩]) (F := [.old 0, .old 1, .op 5 0]) hst hb Za
   (o_p rfl (Zd rfl rfl u_0) <| o_p rfl (Zdu rfl rfl u_0 c_i) <| o_p rfl (Zd rfl rfl u_0) <| o_g (g_f rfl rfl rfl (fun hG => Zd rfl rfl u_0)) <| o_g (g_f rfl rfl rfl (fun hG => Z2u Tryd.underlying54 rfl rfl (Opd.gd hG u_0) Zx9)) <| o_p rfl (Zbj rfl rfl u_0 (fun hz => (Opd.gd (bNF hz) u_1))) <| o_n) (by kernel_rfl) (fun a g hst hb => ?_)
 refine wp_cond_split (hst.bool 2 rfl) (fun hc3 => ?_) (fun hc3 => ?_)
 · replace H0 := Zp hc3 H0
   refine r_s (L := []) (T := [⟨[], _, [], [], [0]⟩]) (F := [.op 0 0]) (hst.pick [] rfl) hb Za
     (o_p rfl (Zc rfl rfl c_b) <| o_n) (by kernel_rfl) (fun a g hst hb => ?_)
   refine wp_ret ?_
   refine Zm ?_
   obtain rfl := Option.some.inj H0
   exact Zx rfl hst hb (Zl (s := 0)) (hst.at 0 rfl)
 · replace H0 := Zo hc3 H0
   refine wp_skip ?_
   refine Zq ?_
   obtain ⟨n4, h5, H0⟩ := Zk H0; obtain ⟨r6, h7, H0⟩ := Zk H0
   refine r_s (L := [(1, _), (2, _)]) (T := [⟨[.old 1], _, [], [], [24]⟩, ⟨[.op 0 0, .old 1], [(25, (pTup [(pInt .u64 r6.1), (pInt .u64 r6.2)])), (2, (Zk8 Zec 14 (some n4)))], [15, 1000015], [0], [2, 24, 25]⟩, ⟨[.op 1 0], _, [], [0, 1], [23]⟩, ⟨[.op 2 0], _, [], [0, 1, 2], [26]⟩, ⟨[.op 2 0], _, [], [0, 1, 2], [27]⟩, ⟨[.op 3 0], _, [], Lr 4, [4]⟩, ⟨[.op 4 0], _, [], Lr 6, [5]⟩]) (F := [.old 0, .op 1 1, .op 5 0, .op 6 0]) (hst.pick [0, 1] rfl) hb Za
     (o_p rfl (Zd rfl rfl u_0) <| o_p rfl (OB.objO (Zmq Zy2 (Zjz _ _ h7) rfl rfl rfl (by decide) (Opd.imp u_1 (fun _ _ h => Zgy h5 h)) (Opd.imp u_0 (fun _ _ h => Zgy h5 h)) (.cons c_i .nil))) <| o_p rfl (Zd rfl rfl u_0) <| o_p rfl (Zbf rfl rfl u_0 rfl) <| o_p rfl (Zbf rfl rfl u_0 rfl) <| o_p rfl (Zc rfl rfl u_0) <| o_p rfl (Zc rfl rfl u_0) <| o_n) (by kernel_rfl) (fun a g hst hb => ?_)
   obtain ⟨r8, h9, H0⟩ := Zk H0
   refine r_s (T := [⟨[.old 1], _, [], [], [29]⟩, ⟨[.op 0 0, .old 1], [(30, (pTup [(pInt .u64 r8.1), (pInt .u64 r8.2)])), (2, (Zk8 Zec 14 (some n4)))], [15, 1000015], [0], [2, 29, 30]⟩, ⟨[.op 1 0], _, [], [0, 1], [28]⟩, ⟨[.op 2 0], _, [], [0, 1, 2], [31]⟩, ⟨[.op 2 0], _, [], [0, 1, 2], [32]⟩, ⟨[.op 3 0], _, [], Lr 4, [6]⟩, ⟨[.op 4 0], _, [], Lr 6, [7]⟩]) (F := [.old 0, .op 1 1, .old 2, .old 3, .op 5 0, .op 6 0]) hst hb Za
     (o_p rfl (Zd rfl rfl u_0) <| o_p rfl (OB.objO (Zmq Zy2 (Zjz _ _ h9) rfl rfl rfl (by decide) (Opd.imp u_1 (fun _ _ h => Zgy rfl h)) (Opd.imp u_0 (fun _ _ h => Zgy rfl h)) (.cons c_i .nil))) <| o_p rfl (Zd rfl rfl u_0) <| o_p rfl (Zbf rfl rfl u_0 rfl) <| o_p rfl (Zbf rfl rfl u_0 rfl) <| o_p rfl (Zc rfl rfl u_0) <| o_p rfl (Zc rfl rfl u_0) <| o_n) (by kernel_rfl) (fun a g hst hb => ?_)
   refine wp_seq ?_
   refine r_s (T := ⟨[.old 2], _, [], [], [33]⟩ :: ⟨[.op 0 0], _, [], [0], [34]⟩ :: ⟨[.op 1 0], _, [], [0, 1], [35]⟩ :: ⟨[.op 2 0, .old 3], _, [], [0, 1, 2], [36]⟩ :: ⟨[.op 2 0, .op 3 0], _, [], Lr 4, [37]⟩ :: ⟨[.op 2 0, .op 4 0], _, [], Lr 5, [38]⟩ :: ⟨[.op 5 0], _, [], Lr 6, [39]⟩ :: ⟨[.op 6 0, .old 4], _, [], Lr 7, [40]⟩ :: ⟨[.op 6 0, .op 7 0], _, [], Lr 8, [41]⟩ :: ⟨[.op 6 0, .op 8 0], _, [], Lr 9, [42]⟩ :: ⟨[.op 9 0], _, [], Lr 10, [43]⟩ :: ⟨[.op 10 0, .old 5], _, [], Lr 11, [44]⟩ :: ⟨[.op 10 0, .op 11 0], _, [], Lr 12, [45]⟩ :: ⟨[.op 10 0, .op 12 0], _, [], Lr 13, [46]⟩ :: []) (F := [.old 0, .old 1, .op 13 0]) hst hb Za
     (o_p rfl (Zd rfl rfl u_0) <| o_p rfl (Zdu rfl rfl u_0 c_i) <| o_p rfl (Zd rfl rfl u_0) <| o_g (g_f rfl rfl rfl (fun hG => Zd rfl rfl u_0)) <| o_g (g_f rfl rfl rfl (fun hG => Zdu rfl rfl (Opd.gd hG u_0) c_i)) <| o_p rfl (Zbj rfl rfl u_0 (fun hz => (Opd.gd (bNF hz) u_1))) <| o_p rfl (Zd rfl rfl u_0) <| o_g (g_f rfl rfl rfl (fun hG => Zd rfl rfl u_0)) <| o_g (g_f rfl rfl rfl (fun hG => Zdu rfl rfl (Opd.gd hG u_0) c_i)) <| o_p rfl (Zbj rfl rfl u_0 (fun hz => (Opd.gd (bNF hz) u_1))) <| o_p rfl (Zd rfl rfl u_0) <| o_g (g_f rfl rfl rfl (fun hG => Zd rfl rfl u_0)) <| o_g (g_f rfl rfl rfl (fun hG => Zdu rfl rfl (Opd.gd hG u_0) c_i)) <| o_p rfl (Zbj rfl rfl u_0 (fun hz => (Opd.gd (bNF hz) u_1))) <| o_n) (by kernel_rfl) (fun a g hst hb => ?_)
   refine wp_cond_split (hst.bool 2 rfl) (fun hc10 => ?_) (fun hc10 => ?_)
   · replace H0 := Zp hc10 H0
     refine r_s (L := []) (T := [⟨[], _, [], [], [0]⟩]) (F := [.op 0 0]) (hst.pick [] rfl) hb Za
       (o_p rfl (Zc rfl rfl c_b) <| o_n) (by kernel_rfl) (fun a g hst hb => ?_)
     refine wp_ret ?_
     refine Zm ?_
     obtain rfl := Option.some.inj H0
     exact Zx rfl hst hb (Zl (s := 0)) (hst.at 0 rfl)
   · replace H0 := Zo hc10 H0
     refine wp_skip ?_
     refine Zq ?_
     refine r_s (L := [(1, _), (2, _)]) (T := [⟨[], _, [], [], [47]⟩, ⟨[], [(8, (pBox Zw 8 (default : Zs)))], [9], [], [8]⟩, ⟨[.op 0 0, .op 1 0], _, [9], [0, 1], [8]⟩]) (F := [.old 0, .old 1, .op 2 0]) (hst.pick [0, 1] rfl) hb Za
       (o_p rfl (Zt2 rfl rfl c_i c_s c_i) <| o_p rfl (Zbi (zs := [.int .i64 0, .string ByteArray.empty, .int .i64 0, .float .f64 0, .string ByteArray.empty, .int .i64 0, .int .i64 0, .int .i64 0, .int .i64 0, .float .f64 0, .int .i64 0, .string ByteArray.empty, .slice none 0 0, .bool false]) (by kernel_rfl) (fun g => Zjy g) rfl rfl) <| o_p rfl (Zci Zfa rfl rfl u_1 u_0) <| o_n) (by kernel_rfl) (fun a g hst hb => ?_)
     obtain ⟨r11, h12, H0⟩ := Zk H0
     refine r_s (T := [⟨[.old 0], _, [], [], [49]⟩, ⟨[.op 0 0], _, [], [0], [50]⟩, ⟨[.op 1 0], _, [], [0, 1], [48]⟩, ⟨[.op 2 0], _, [], [0, 1, 2], [51]⟩, ⟨[.op 2 0], _, [], [0, 1, 2], [52]⟩, ⟨[], [(9, (pBox Zf 9 (default : Zb)))], [10], [], [9]⟩, ⟨[.op 3 0, .op 5 0], _, [10], [0, 1, 2, 3, 5], [9]⟩, ⟨[.op 4 0], _, [], Lr 7, [10]⟩]) (F := [.old 0, .old 1, .old 2, .op 6 0, .op 7 0]) hst hb Za
       (o_p rfl (Zg Z0 rfl rfl u_0) <| o_p rfl (Zt Zyx (Zmp _ h12) rfl rfl (.cons u_0 .nil)) <| o_p rfl (Zd rfl rfl u_0) <| o_p rfl (Zbf rfl rfl u_0 rfl) <| o_p rfl (Zbf rfl rfl u_0 rfl) <| o_p rfl (Zbi (zs := [.int .i64 0, .int .i64 0, .int .i64 0, .int .i64 0, .float .f64 0, .int .i64 0, .string ByteArray.empty, .slice none 0 0]) (by kernel_rfl) (fun g => Zbo g) rfl rfl) <| o_p rfl (Zci Z0 rfl rfl u_1 u_0) <| o_p rfl (Zc rfl rfl u_0) <| o_n) (by kernel_rfl) (fun a g hst hb => ?_)
     obtain ⟨r13, h14, H0⟩ := Zk H0; obtain ⟨r15, h16, H0⟩ := Zk H0; obtain ⟨r17, h18, H0⟩ := Zk H0; obtain ⟨r19, h20, H0⟩ := Zk H0; obtain ⟨r21, h22, H0⟩ := Zk H0
     refine r_s (T := ⟨[.old 1], _, [], [], [53]⟩ :: ⟨[.old 2], _, [], [], [54]⟩ :: ⟨[.op 1 0], _, [], [1], [55]⟩ :: ⟨[.op 0 0, .op 2 0, .old 1], [(56, (pInt .i64 r13.2)), (2, (Zk8 Zec 14 (some r13.1)))], [15, 1000015], [0, 1, 2], [2, 53, 56]⟩ :: ⟨[.op 3 0], _, [], Lr 4, [57]⟩ :: ⟨[.op 4 0], _, [], Lr 5, [58]⟩ :: ⟨[.op 5 0, .op 3 1], _, [], Lr 6, [59]⟩ :: ⟨[.op 5 0, .old 2], _, [], Lr 6, [60]⟩ :: ⟨[.op 5 0, .op 7 0], _, [], [0, 1, 2, 3, 4, 5, 7], [61]⟩ :: ⟨[.op 5 0, .op 6 0, .op 8 0, .op 3 1], [(62, (pIf (r13.2 == (9 : Int)) (pInt .i64 r15.2))), (2, (pObj Zec 14 (if (r13.2 == (9 : Int)) = true then r15.1 else r13.1)))], [15, 1000015], Lr 9, [2, 53, 59, 62]⟩ :: ⟨[.op 5 0, .op 9 0], _, [], Lr 10, [63]⟩ :: ⟨[.op 5 0, .op 10 0], _, [], Lr 11, [64]⟩ :: ⟨[.op 11 0], _, [], Lr 12, [65]⟩ :: ⟨[.op 12 0, .old 4], _, [], Lr 13, [66]⟩ :: ⟨[.op 12 0, .op 13 0], _, [], Lr 14, [67]⟩ :: ⟨[.op 14 0], _, [], Lr 15, [68]⟩ :: ⟨[.op 15 0, .old 0], _, [], Lr 16, [69]⟩ :: ⟨[.op 15 0, .old 3], _, [], Lr 16, [70]⟩ :: ⟨[.op 15 0, .old 2], _, [], Lr 16, [71]⟩ :: ⟨[.op 15 0, .op 17 0, .op 18 0], _, [], 0 :: 1 :: 2 :: 3 :: 4 :: 5 :: 6 :: 7 :: 8 :: 9 :: 10 :: 11 :: 12 :: 13 :: 14 :: 15 :: 17 :: 18 :: [], [72]⟩ :: ⟨[.op 15 0, .op 19 0], _, [], 0 :: 1 :: 2 :: 3 :: 4 :: 5 :: 6 :: 7 :: 8 :: 9 :: 10 :: 11 :: 12 :: 13 :: 14 :: 15 :: 17 :: 18 :: 19 :: [], [73]⟩ :: ⟨[.op 15 0, .op 16 0, .op 20 0], _, [], Lr 21, [74]⟩ :: ⟨[.op 15 0, .op 21 0], _, [], Lr 22, [75]⟩ :: ⟨[.op 15 0, .op 22 0], _, [], Lr 23, [76]⟩ :: ⟨[.op 15 0, .op 23 0], _, [], Lr 24, [77]⟩ :: ⟨[.op 24 0], _, [], Lr 25, [78]⟩ :: ⟨[.op 25 0], _, [], Lr 26, [79]⟩ :: ⟨[.op 25 0, .op 26 0], _, [], Lr 27, [80]⟩ :: ⟨[.op 27 0], _, [], Lr 28, [0]⟩ :: []) (F := [.op 28 0]) hst hb Za
       (o_p rfl (Zd rfl rfl u_0) <| o_p rfl (Zg Zfa rfl rfl u_0) <| o_p rfl (Zgx Zy8 (xs := [.tmp 54]) (.cons u_0 .nil) (by decide) rfl rfl) <| o_p rfl (OB.objO (Zmq Zy7 (Zj0 _ _ _ h14) rfl rfl rfl (by decide) (Opd.imp u_2 (fun _ _ h => Zgy rfl h)) (Opd.imp u_0 (fun _ _ h => Zgy rfl h)) (.cons c_i (.cons u_1 .nil)))) <| o_p rfl (Z7 rfl rfl u_0 c_i) <| o_p rfl (Zd rfl rfl u_0) <| o_g (g_t rfl rfl rfl (fun hG => Zd rfl rfl u_0)) <| o_g (g_t rfl rfl rfl (fun hG => Zg Zfa rfl rfl u_0)) <| o_g (g_t rfl rfl rfl (fun hG => Zgx Zy8 (xs := [.tmp 60]) (.cons (Opd.gd hG u_0) .nil) (by decide) rfl rfl)) <| o_g (OT.guardM (r13.2 == (9 : Int)) (gT (r13.2 == (9 : Int))).1 (gT (r13.2 == (9 : Int))).2 rfl rfl rfl (by decide) (Opd.imp u_2 (fun _ _ h => Zgy rfl h)) (fun hG => Zmq Zy7 (Zj0 _ _ _ (Zbn h16 hG)) rfl rfl rfl (by decide) (Opd.imp u_2 (fun _ _ h => Zgy rfl h)) (Opd.imp (Opd.gd hG u_0) (fun _ _ h => Zgy rfl h)) (.cons c_i (.cons (Opd.gd hG u_1) .nil))) rfl) <| o_g (g_t rfl rfl rfl (fun hG => Z7 rfl rfl (Opd.gd hG u_0) c_i)) <| o_p rfl (Zbb rfl rfl u_0 (fun hz => (Opd.gd hz u_1))) <| o_p rfl (Zd rfl rfl u_0) <| o_g (g_t rfl rfl rfl (fun hG => Zd rfl rfl u_0)) <| o_p rfl (Zbb rfl rfl u_0 (fun hz => (Opd.gd hz u_1))) <| o_p rfl (Zd rfl rfl u_0) <| o_g (g_t rfl rfl rfl (fun hG => Zg Z0 rfl rfl u_0)) <| o_g (g_t rfl rfl rfl (fun hG => Zg Z0 rfl rfl u_0)) <| o_g (g_t rfl rfl rfl (fun hG => Zg Zfa rfl rfl u_0)) <| o_g (g_t rfl rfl rfl (fun hG => Zt Zyz (Zpb _ _ (Zbn h18 hG)) rfl rfl (.cons (Opd.gd hG u_0) (.cons (Opd.gd hG u_1) .nil)))) <| o_g (g_t rfl rfl rfl (fun hG => Zgx Z3l (xs := [.tmp 72]) (.cons (Opd.gd hG u_0) .nil) (by decide) rfl rfl)) <| o_g (g_t rfl rfl rfl (fun hG => Zt Zzh (Zme _ _ (Zbn h20 hG)) rfl rfl (.cons (Opd.gd hG u_0) (.cons (Opd.gd hG u_1) .nil)))) <| o_g (g_t rfl rfl rfl (fun hG => Zso Zbx rfl rfl (Opd.gd hG u_0))) <| o_g (g_t rfl rfl rfl (fun hG => Z7 rfl rfl (Opd.gd hG u_0) c_i)) <| o_p rfl (Zbb rfl rfl u_0 (fun hz => (Opd.gd hz u_1))) <| o_p rfl (Zd rfl rfl u_0) <| o_g (g_t rfl rfl rfl (fun hG => Zt Zy5 (Zl1 _ _ (Zbn h22 hG)) rfl rfl (.cons c_i (.cons c_i .nil)))) <| o_p rfl (Zbb rfl rfl u_0 (fun hz => (Opd.gd hz u_1))) <| o_p rfl (Zc rfl rfl u_0) <| o_n) (by kernel_rfl) (fun a g hst hb => ?_)
     refine wp_ret ?_
     obtain rfl := Option.some.inj H0
     exact Zx rfl hst hb (Zl (s := 0)) (hst.at 0 rfl)
theorem Zkx (a0 : Zb) {r : Int} (h : Zf3 a0 = some r) : FnOk Tryd.prog 30 [(Zf.pd a0)] (pInt .i64 r) := by
 have H0 := h
 unfold Zf3 at H0
 clear h
 refine Zbq (N := 27) Tryd.func30 rfl rfl (Nat.le_of_ble_eq_true rfl) rfl rfl (fun a g0 hst hb => ?_)
 refine r_s (T := [⟨[.old 0], _, [], [], [1]⟩, ⟨[], _, [], [], [2]⟩]) (F := [.op 0 0]) hst hb Za
   (o_p rfl (Zbs rfl rfl u_0) <| o_p rfl (Zc rfl rfl c_i) <| o_n) (by kernel_rfl) (fun a g hst hb => ?_)
 refine wp_seq ?_
 refine r_s (T := [⟨[.old 0], _, [], [], [5]⟩, ⟨[.op 0 0], _, [], [0], [6]⟩, ⟨[.op 1 0], _, [], [0, 1], [7]⟩, ⟨[.op 2 0], _, [], [0, 1, 2], [8]⟩, ⟨[.op 3 0], _, [], Lr 4, [9]⟩, ⟨[.op 4 0, .old 0], _, [], Lr 5, [10]⟩, ⟨[.op 4 0, .op 5 0], _, [], Lr 6, [11]⟩, ⟨[.op 4 0, .op 6 0], _, [], Lr 7, [12]⟩, ⟨[.op 4 0, .op 7 0], _, [], Lr 8, [13]⟩, ⟨[.op 4 0, .op 8 0], _, [], Lr 9, [14]⟩]) (F := [.old 0, .op 9 0]) hst hb Za
   (o_p rfl (Ze Zbm rfl rfl u_0) <| o_p rfl (Zg Zca rfl rfl u_0) <| o_p rfl (Zcd Tryd.underlying23 rfl rfl u_0) <| o_p rfl (Zcj rfl rfl u_0 c_i) <| o_p rfl (Zd rfl rfl u_0) <| o_g (g_f rfl rfl rfl (fun hG => Ze Zgp rfl rfl u_0)) <| o_g (g_f rfl rfl rfl (fun hG => Zg ty_9 rfl rfl (Opd.gd hG u_0))) <| o_g (g_f rfl rfl rfl (fun hG => Ze8 Tryd.underlying9 rfl rfl (Opd.gd hG u_0))) <| o_g (g_f rfl rfl rfl (fun hG => Zcj rfl rfl (Opd.gd hG u_0) c_i)) <| o_p rfl (Zbj rfl rfl u_0 (fun hz => (Opd.gd (bNF hz) u_1))) <| o_n) (by kernel_rfl) (fun a g hst hb => ?_)
 refine wp_cond_split (hst.bool 1 rfl) (fun hc1 => ?_) (fun hc1 => ?_)
 · replace H0 := Zp hc1 H0
   refine r_s (L := []) (T := [⟨[], _, [], [], [2]⟩]) (F := [.op 0 0]) (hst.pick [] rfl) hb Za
     (o_p rfl (Zc rfl rfl c_i) <| o_n) (by kernel_rfl) (fun a g hst hb => ?_)
   refine wp_ret ?_
   refine Zm ?_
   obtain rfl := Option.some.inj H0
   exact Zx rfl hst hb (Zl (s := 2)) (hst.at 0 rfl)
 · replace H0 := Zo hc1 H0
   refine wp_skip ?_
   refine Zq ?_
   refine wp_seq ?_
   refine r_s (L := [(1, _)]) (T := [⟨[.old 0], _, [], [], [15]⟩, ⟨[.op 0 0], _, [], [0], [16]⟩, ⟨[.op 1 0], _, [], [0, 1], [17]⟩, ⟨[], _, [], [], [18]⟩]) (F := [.op 1 0, .op 2 0, .op 3 0]) (hst.pick [0] rfl) hb Za
     (o_p rfl (Ze Zbm rfl rfl u_0) <| o_p rfl (Zg Zca rfl rfl u_0) <| o_p rfl (Zcd Tryd.underlying23 rfl rfl u_0) <| o_p rfl (Zd rfl rfl c_i) <| o_n) (by kernel_rfl) (fun a g hst hb => ?_)
   obtain ⟨z7, hz1, H0⟩ := Zk H0
   refine Zbv (fun a w => ∃ (g : G), w = g.w ∧ St 27 [] a g ∧ Base g0 g ∧ (.inr ()) = z7) ?_ ?_
   · rintro a w ⟨g, rfl, hst, hb, rfl⟩
     refine Zq ?_
     refine r_s (T := [⟨[], _, [], [], [2]⟩]) (F := [.op 0 0]) hst hb Za
       (o_p rfl (Zc rfl rfl c_i) <| o_n) (by kernel_rfl) (fun a g hst hb => ?_)
     refine wp_ret ?_
     obtain rfl := Option.some.inj H0
     exact Zx rfl hst hb (Zl (s := 2)) (hst.at 0 rfl)
   · refine wp_block ?_
     refine wp_loop_ghost (fun n a w => ∃ (x2 : Int) (g : G), w = g.w ∧ St 27 [(16, (Zr.sl.pd a0.List)), (17, (pInt .i64 (a0.List.length : Int))), (18, (pInt .i64 x2))] a g ∧ Base g0 g ∧ Zd0 a0 n x2 = some z7) (Int.toNat ((a0.List.length : Int) - (0 : Int)) + 1) ⟨(0 : Int), g, rfl, (hst.pick [0, 1, 2] rfl), hb, hz1⟩ (fun n a w hI => ?_)
     obtain ⟨x2, g, rfl, hst, hb, H1⟩ := hI
     cases n with
     | zero => exact absurd H1 (by simp [Zd0])
     | succ n =>
       rw [Zd0] at H1
       refine r_s (T := [⟨[.old 2, .old 1], _, [], [], [19]⟩]) (F := [.old 0, .old 1, .old 2, .op 0 0]) hst hb Za
         (o_p rfl (Zcb rfl rfl u_0 u_1) <| o_n) (by kernel_rfl) (fun a g hst hb => ?_)
       refine wp_seq ?_
       refine wp_cond_split (hst.bool 3 rfl) (fun hc3 => ?_) (fun hc3 => ?_)
       · replace H1 := Zp hc3 H1
         refine wp_skip ?_
         refine Zq ?_
         refine wp_seq ?_
         refine wp_block ?_
         obtain ⟨e4, h5, H1⟩ := Zk H1
         refine r_s (L := [(16, _), (17, _), (18, _)]) (T := [⟨[.old 0, .old 2], _, [], [], [20]⟩, ⟨[.op 0 0], _, [], [0], [21]⟩, ⟨[], [(4, (pBox Zr 4 (default : Zh)))], [5], [], [4]⟩, ⟨[.op 1 0, .op 2 0], _, [5], [0, 1, 2], [4]⟩]) (F := [.op 3 0, .old 0, .old 1, .old 2]) (hst.pick [0, 1, 2] rfl) hb Za
           (o_p rfl (Zbh Tryd.underlying23 Zdv rfl rfl u_0 u_1 h5) <| o_p rfl (Zg Zdh rfl rfl u_0) <| o_p rfl (Zbi (zs := [.float .f64 0, .string ByteArray.empty]) (by kernel_rfl) (fun g => Zgi g) rfl rfl) <| o_p rfl (Zci Zdh rfl rfl u_1 u_0) <| o_n) (by kernel_rfl) (fun a g hst hb => ?_)
         refine r_s (T := [⟨[.old 0], _, [], [], [22]⟩, ⟨[.op 0 0], _, [], [0], [23]⟩, ⟨[.op 1 0], _, [], [0, 1], [24]⟩, ⟨[.op 2 0], _, [], [0, 1, 2], [25]⟩]) (F := [.old 1, .old 2, .old 3, .op 3 0]) hst hb Za
           (o_p rfl (Ze Zc4 rfl rfl u_0) <| o_p rfl (Zg ty_9 rfl rfl u_0) <| o_p rfl (Ze8 Tryd.underlying9 rfl rfl u_0) <| o_p rfl (Zcj rfl rfl u_0 c_i) <| o_n) (by kernel_rfl) (fun a g hst hb => ?_)
         refine wp_cond_split (hst.bool 3 rfl) (fun hc6 => ?_) (fun hc6 => ?_)
         · replace H1 := Zp hc6 H1
           refine r_s (L := []) (T := [⟨[], _, [], [], [2]⟩]) (F := [.op 0 0]) (hst.pick [] rfl) hb Za
             (o_p rfl (Zc rfl rfl c_i) <| o_n) (by kernel_rfl) (fun a g hst hb => ?_)
           refine wp_ret ?_
           refine Zv ?_
           refine Zm ?_
           refine Zm ?_
           refine Zv ?_
           refine Zm ?_
           refine Zm ?_
           obtain rfl := Option.some.inj H1
           obtain rfl := Option.some.inj H0
           exact Zx rfl hst hb (Zl (s := 2)) (hst.at 0 rfl)
         · replace H1 := Zo hc6 H1
           refine wp_skip ?_
           refine Z6 ?_
           refine Zq ?_
           refine r_g (L := [(16, _), (17, _), (18, _)]) (T := [⟨[.old 2], _, [], [], [26]⟩, ⟨[.op 0 0], _, [], [0], [18]⟩]) (F := [.old 0, .old 1, .op 1 0]) (hst.pick [0, 1, 2] rfl) hb Za
             (o_p rfl (Zcg rfl rfl u_0 c_i rfl) <| o_p rfl (Zd rfl rfl u_0) <| o_n) (by kernel_rfl) (fun a g hst hb => ?_)
           exact ⟨n, Nat.lt_succ_self _, (IntKind.i64.wrap (x2 + (1 : Int))), g, rfl, (hst.pick [0, 1, 2] rfl), hb, H1⟩
       · replace H1 := Zo hc3 H1
         refine wp_exit ?_
         refine Zcf ?_
         refine Zcf ?_
         refine Zc1 ?_
         exact ⟨g, rfl, (hst.pick [] rfl), hb, Option.some.inj H1⟩
theorem Zn2 (a0 : Zs) {r : Int} (h : Zg5 a0 = some r) : FnOk Tryd.prog 31 [(Zw.pd a0)] (pInt .i64 r) := by
 have H0 := h
 unfold Zg5 at H0
 clear h
 refine Zbq (N := 19) Tryd.func31 rfl rfl (Nat.le_of_ble_eq_true rfl) rfl rfl (fun a g0 hst hb => ?_)
 refine r_s (T := [⟨[.old 0], _, [], [], [1]⟩, ⟨[], _, [], [], [2]⟩]) (F := [.op 0 0]) hst hb Za
   (o_p rfl (Zbs rfl rfl u_0) <| o_p rfl (Zc rfl rfl c_i) <| o_n) (by kernel_rfl) (fun a g hst hb => ?_)
 refine wp_seq ?_
 obtain ⟨r1, h2, H0⟩ := Zk H0
 refine r_s (T := ⟨[.old 0], _, [], [], [3]⟩ :: ⟨[.op 0 0], _, [], [0], [4]⟩ :: ⟨[.op 1 0], _, [], [0, 1], [5]⟩ :: ⟨[.op 2 0], _, [], [0, 1, 2], [6]⟩ :: ⟨[.op 3 0], _, [], Lr 4, [7]⟩ :: ⟨[.op 4 0, .old 0], _, [], Lr 5, [8]⟩ :: ⟨[.op 4 0, .op 5 0], _, [], Lr 6, [9]⟩ :: ⟨[.op 4 0, .op 6 0], _, [], Lr 7, [10]⟩ :: ⟨[.op 4 0, .op 7 0], _, [], Lr 8, [11]⟩ :: ⟨[.op 4 0, .op 8 0], _, [], Lr 9, [12]⟩ :: ⟨[.op 9 0], _, [], Lr 10, [13]⟩ :: ⟨[.op 10 0, .old 0], _, [], Lr 11, [14]⟩ :: ⟨[.op 10 0, .op 11 0], _, [], Lr 12, [15]⟩ :: ⟨[.op 10 0, .op 12 0], _, [], Lr 13, [16]⟩ :: ⟨[.op 10 0, .op 13 0], _, [], Lr 14, [17]⟩ :: ⟨[.op 10 0, .op 14 0], _, [], Lr 15, [18]⟩ :: []) (F := [.op 15 0]) hst hb Za
   (o_p rfl (Ze Zmb rfl rfl u_0) <| o_p rfl (Zg ty_9 rfl rfl u_0) <| o_p rfl (Ze8 Tryd.underlying9 rfl rfl u_0) <| o_p rfl (Zcj rfl rfl u_0 c_i) <| o_p rfl (Zd rfl rfl u_0) <| o_g (g_f rfl rfl rfl (fun hG => Ze Zd7 rfl rfl u_0)) <| o_g (g_f rfl rfl rfl (fun hG => Zg ty_9 rfl rfl (Opd.gd hG u_0))) <| o_g (g_f rfl rfl rfl (fun hG => Ze8 Tryd.underlying9 rfl rfl (Opd.gd hG u_0))) <| o_g (g_f rfl rfl rfl (fun hG => Zcj rfl rfl (Opd.gd hG u_0) c_i)) <| o_p rfl (Zbj rfl rfl u_0 (fun hz => (Opd.gd (bNF hz) u_1))) <| o_p rfl (Zd rfl rfl u_0) <| o_g (g_f rfl rfl rfl (fun hG => Ze Zkd rfl rfl u_0)) <| o_g (g_f rfl rfl rfl (fun hG => Zg Z0 rfl rfl (Opd.gd hG u_0))) <| o_g (g_f rfl rfl rfl (fun hG => Zt Zzc (Zkx _ (Zbn h2 hG)) rfl rfl (.cons (Opd.gd hG u_0) .nil))) <| o_g (g_f rfl rfl rfl (fun hG => Zcj rfl rfl (Opd.gd hG u_0) c_i)) <| o_p rfl (Zbj rfl rfl u_0 (fun hz => (Opd.gd (bNF hz) u_1))) <| o_n) (by kernel_rfl) (fun a g hst hb => ?_)
 refine wp_cond_split (hst.bool 0 rfl) (fun hc3 => ?_) (fun hc3 => ?_)
 · replace H0 := Zp hc3 H0
   refine r_s (L := []) (T := [⟨[], _, [], [], [2]⟩]) (F := [.op 0 0]) (hst.pick [] rfl) hb Za
     (o_p rfl (Zc rfl rfl c_i) <| o_n) (by kernel_rfl) (fun a g hst hb => ?_)
   refine wp_ret ?_
   refine Zm ?_
   obtain rfl := Option.some.inj H0
   exact Zx rfl hst hb (Zl (s := 2)) (hst.at 0 rfl)
 · replace H0 := Zo hc3 H0
   refine wp_skip ?_
   refine Zq ?_
   refine r_s (L := []) (T := [⟨[], _, [], [], [2]⟩]) (F := [.op 0 0]) (hst.pick [] rfl) hb Za
     (o_p rfl (Zc rfl rfl c_i) <| o_n) (by kernel_rfl) (fun a g hst hb => ?_)
   refine wp_ret ?_
   obtain rfl := Option.some.inj H0
   exact Zx rfl hst hb (Zl (s := 2)) (hst.at 0 rfl)
theorem Zkw (a0 : Zb) (a1 : List Zb3) {r : Bool} (h : Zfg a0 a1 = some r) : FnOk Tryd.prog 9 [(Zf.pd a0), (Zde.sl.pd a1)] (Zba r) := by
 have H0 := h
 unfold Zfg at H0
 clear h
 refine Zbq (N := 26) Tryd.func9 rfl rfl (Nat.le_of_ble_eq_true rfl) rfl rfl (fun a g0 hst hb => ?_)
 refine r_s (T := [⟨[.old 0], _, [], [], [2]⟩, ⟨[], _, [], [], [4]⟩]) (F := [.old 1, .op 0 0]) hst hb Za
   (o_p rfl (Zbs rfl rfl u_0) <| o_p rfl (Zc rfl rfl c_b) <| o_n) (by kernel_rfl) (fun a g hst hb => ?_)
 refine wp_seq ?_
 obtain ⟨r1, h2, H0⟩ := Zk H0
 refine r_s (T := [⟨[.old 1], _, [], [], [7]⟩, ⟨[.op 0 0], _, [], [0], [8]⟩, ⟨[.op 1 0], _, [], [0, 1], [9]⟩, ⟨[.op 2 0], _, [], [0, 1, 2], [10]⟩, ⟨[.op 3 0, .old 0], _, [], Lr 4, [11]⟩, ⟨[.op 3 0, .op 4 0], _, [], Lr 5, [12]⟩, ⟨[.op 3 0, .op 5 0], _, [], Lr 6, [13]⟩, ⟨[.op 3 0, .op 6 0], _, [], Lr 7, [14]⟩]) (F := [.old 0, .op 7 0]) hst hb Za
   (o_p rfl (Zg Z0 rfl rfl u_0) <| o_p rfl (Zt Zzc (Zkx _ h2) rfl rfl (.cons u_0 .nil)) <| o_p rfl (Zcj rfl rfl u_0 c_i) <| o_p rfl (Zd rfl rfl u_0) <| o_g (g_f rfl rfl rfl (fun hG => Zd rfl rfl u_0)) <| o_g (g_f rfl rfl rfl (fun hG => Zcd Tryd.underlying40 rfl rfl (Opd.gd hG u_0))) <| o_g (g_f rfl rfl rfl (fun hG => Zcj rfl rfl (Opd.gd hG u_0) c_i)) <| o_p rfl (Zbj rfl rfl u_0 (fun hz => (Opd.gd (bNF hz) u_1))) <| o_n) (by kernel_rfl) (fun a g hst hb => ?_)
 refine wp_cond_split (hst.bool 1 rfl) (fun hc3 => ?_) (fun hc3 => ?_)
 · replace H0 := Zp hc3 H0
   refine r_s (L := []) (T := [⟨[], _, [], [], [4]⟩]) (F := [.op 0 0]) (hst.pick [] rfl) hb Za
     (o_p rfl (Zc rfl rfl c_b) <| o_n) (by kernel_rfl) (fun a g hst hb => ?_)
   refine wp_ret ?_
   refine Zm ?_
   obtain rfl := Option.some.inj H0
   exact Zx rfl hst hb (Zl (s := 4)) (hst.at 0 rfl)
 · replace H0 := Zo hc3 H0
   refine wp_skip ?_
   refine Zq ?_
   refine wp_seq ?_
   refine r_s (L := [(1, _)]) (T := [⟨[.old 0], _, [], [], [15]⟩, ⟨[.op 0 0], _, [], [0], [16]⟩, ⟨[], _, [], [], [17]⟩]) (F := [.op 0 0, .op 1 0, .op 2 0]) (hst.pick [0] rfl) hb Za
     (o_p rfl (Zd rfl rfl u_0) <| o_p rfl (Zcd Tryd.underlying40 rfl rfl u_0) <| o_p rfl (Zd rfl rfl c_i) <| o_n) (by kernel_rfl) (fun a g hst hb => ?_)
   obtain ⟨z11, hz1, H0⟩ := Zk H0
   refine Zbv (fun a w => ∃ (g : G), w = g.w ∧ St 26 [] a g ∧ Base g0 g ∧ (.inr ()) = z11) ?_ ?_
   · rintro a w ⟨g, rfl, hst, hb, rfl⟩
     refine Zq ?_
     refine r_s (T := [⟨[], _, [], [], [4]⟩]) (F := [.op 0 0]) hst hb Za
       (o_p rfl (Zc rfl rfl c_b) <| o_n) (by kernel_rfl) (fun a g hst hb => ?_)
     refine wp_ret ?_
     obtain rfl := Option.some.inj H0
     exact Zx rfl hst hb (Zl (s := 4)) (hst.at 0 rfl)
   · refine wp_block ?_
     refine wp_loop_ghost (fun n a w => ∃ (x4 : Int) (g : G), w = g.w ∧ St 26 [(15, (Zde.sl.pd a1)), (16, (pInt .i64 (a1.length : Int))), (17, (pInt .i64 x4))] a g ∧ Base g0 g ∧ Zdf a1 n x4 = some z11) (Int.toNat ((a1.length : Int) - (0 : Int)) + 1) ⟨(0 : Int), g, rfl, (hst.pick [0, 1, 2] rfl), hb, hz1⟩ (fun n a w hI => ?_)
     obtain ⟨x4, g, rfl, hst, hb, H1⟩ := hI
     cases n with
     | zero => exact absurd H1 (by simp [Zdf])
     | succ n =>
       rw [Zdf] at H1
       refine r_s (T := [⟨[.old 2, .old 1], _, [], [], [18]⟩]) (F := [.old 0, .old 1, .old 2, .op 0 0]) hst hb Za
         (o_p rfl (Zcb rfl rfl u_0 u_1) <| o_n) (by kernel_rfl) (fun a g hst hb => ?_)
       refine wp_seq ?_
       refine wp_cond_split (hst.bool 3 rfl) (fun hc5 => ?_) (fun hc5 => ?_)
       · replace H1 := Zp hc5 H1
         refine wp_skip ?_
         refine Zq ?_
         refine wp_seq ?_
         refine wp_block ?_
         obtain ⟨e6, h7, H1⟩ := Zk H1
         refine r_s (L := [(15, _), (16, _), (17, _)]) (T := [⟨[.old 0, .old 2], _, [], [], [19]⟩, ⟨[.op 0 0], _, [], [0], [20]⟩, ⟨[], [(6, (pBox Zde 6 (default : Zb3)))], [7], [], [6]⟩, ⟨[.op 1 0, .op 2 0], _, [7], [0, 1, 2], [6]⟩]) (F := [.op 3 0, .old 0, .old 1, .old 2]) (hst.pick [0, 1, 2] rfl) hb Za
           (o_p rfl (Zbh Tryd.underlying40 Z3a rfl rfl u_0 u_1 h7) <| o_p rfl (Zg Zzd rfl rfl u_0) <| o_p rfl (Zbi (zs := [.int .i64 0, .int .i64 0, .string ByteArray.empty, .int .i64 0, .float .f64 0, .string ByteArray.empty, .int .i64 0, .int .i64 0, .int .i64 0, .int .i64 0, .float .f64 0, .int .i64 0, .string ByteArray.empty, .slice none 0 0, .bool false]) (by kernel_rfl) (fun g => Znl g) rfl rfl) <| o_p rfl (Zci Zzd rfl rfl u_1 u_0) <| o_n) (by kernel_rfl) (fun a g hst hb => ?_)
         obtain ⟨r8, h9, H1⟩ := Zk H1
         refine r_s (T := [⟨[.old 0], _, [], [], [21]⟩, ⟨[.op 0 0], _, [], [0], [22]⟩, ⟨[.op 1 0], _, [], [0, 1], [23]⟩, ⟨[.op 2 0], _, [], [0, 1, 2], [24]⟩]) (F := [.old 1, .old 2, .old 3, .op 3 0]) hst hb Za
           (o_p rfl (Ze Zz7 rfl rfl u_0) <| o_p rfl (Zg Zfa rfl rfl u_0) <| o_p rfl (Zt Z3o (Zn2 _ h9) rfl rfl (.cons u_0 .nil)) <| o_p rfl (Zcj rfl rfl u_0 c_i) <| o_n) (by kernel_rfl) (fun a g hst hb => ?_)
         refine wp_cond_split (hst.bool 3 rfl) (fun hc10 => ?_) (fun hc10 => ?_)
         · replace H1 := Zp hc10 H1
           refine r_s (L := []) (T := [⟨[], _, [], [], [4]⟩]) (F := [.op 0 0]) (hst.pick [] rfl) hb Za
             (o_p rfl (Zc rfl rfl c_b) <| o_n) (by kernel_rfl) (fun a g hst hb => ?_)
           refine wp_ret ?_
           refine Zv ?_
           refine Zm ?_
           refine Zm ?_
           refine Zv ?_
           refine Zm ?_
           refine Zm ?_
           obtain rfl := Option.some.inj H1
           obtain rfl := Option.some.inj H0
           exact Zx rfl hst hb (Zl (s := 4)) (hst.at 0 rfl)
         · replace H1 := Zo hc10 H1
           refine wp_skip ?_
           refine Z6 ?_
           refine Zq ?_
           refine r_g (L := [(15, _), (16, _), (17, _)]) (T := [⟨[.old 2], _, [], [], [25]⟩, ⟨[.op 0 0], _, [], [0], [17]⟩]) (F := [.old 0, .old 1, .op 1 0]) (hst.pick [0, 1, 2] rfl) hb Za
             (o_p rfl (Zcg rfl rfl u_0 c_i rfl) <| o_p rfl (Zd rfl rfl u_0) <| o_n) (by kernel_rfl) (fun a g hst hb => ?_)
           exact ⟨n, Nat.lt_succ_self _, (IntKind.i64.wrap (x4 + (1 : Int))), g, rfl, (hst.pick [0, 1, 2] rfl), hb, H1⟩
       · replace H1 := Zo hc5 H1
         refine wp_exit ?_
         refine Zcf ?_
         refine Zcf ?_
         refine Zc1 ?_
         exact ⟨g, rfl, (hst.pick [] rfl), hb, Option.some.inj H1⟩
theorem Zgu (a0 : Nat) {r : Bool} (h : Zdg a0 = some r) : FnOk Tryd.prog 72 [(pFlt a0)] (Zba r) := by
 have H0 := h
 unfold Zdg at H0
 clear h
 refine Zbq (N := 6) Tryd.func72 rfl rfl (Nat.le_of_ble_eq_true rfl) rfl rfl (fun a g0 hst hb => ?_)
 refine r_s (T := [⟨[], _, [], [], [2]⟩]) (F := [.old 0]) hst hb Za
   (o_p rfl (Zc rfl rfl c_b) <| o_n) (by kernel_rfl) (fun a g hst hb => ?_)
 refine r_s (T := [⟨[.old 0], _, [], [], [3]⟩, ⟨[.old 0], _, [], [], [4]⟩, ⟨[.op 0 0, .op 1 0], _, [], [0, 1], [5]⟩, ⟨[.op 2 0], _, [], [0, 1, 2], [2]⟩]) (F := [.op 3 0]) hst hb Za
   (o_p rfl (Zd rfl rfl u_0) <| o_p rfl (Zd rfl rfl u_0) <| o_p rfl (Zud rfl rfl u_0 u_1) <| o_p rfl (Zc rfl rfl u_0) <| o_n) (by kernel_rfl) (fun a g hst hb => ?_)
 refine wp_ret ?_
 obtain rfl := Option.some.inj H0
 exact Zx rfl hst hb (Zl (s := 2)) (hst.at 0 rfl)
theorem Zjx (a0 : Nat) {r : Bool} (h : Zfj a0 = some r) : FnOk Tryd.prog 80 [(pFlt a0)] (Zba r) := by
 have H0 := h
 unfold Zfj at H0
 clear h
 refine Zbq (N := 10) Tryd.func80 rfl rfl (Nat.le_of_ble_eq_true rfl) rfl rfl (fun a g0 hst hb => ?_)
 refine r_s (T := [⟨[], _, [], [], [2]⟩]) (F := [.old 0]) hst hb Za
   (o_p rfl (Zc rfl rfl c_b) <| o_n) (by kernel_rfl) (fun a g hst hb => ?_)
 refine wp_seq ?_
 refine r_s (T := [⟨[.old 0], _, [], [], [3]⟩, ⟨[.op 0 0], _, [], [0], [4]⟩]) (F := [.old 0, .op 1 0]) hst hb Za
   (o_p rfl (Zd rfl rfl u_0) <| o_p rfl (Zqi rfl rfl u_0 c_f) <| o_n) (by kernel_rfl) (fun a g hst hb => ?_)
 refine wp_cond_split (hst.bool 1 rfl) (fun hc1 => ?_) (fun hc1 => ?_)
 · replace H0 := Zp hc1 H0
   obtain ⟨f2, h3, H0⟩ := Zk H0
   refine r_s (L := [(0, _)]) (T := [⟨[.old 0], _, [], [], [5]⟩, ⟨[.op 0 0], _, [], [0], [6]⟩, ⟨[.op 1 0], _, [], [0, 1], [7]⟩, ⟨[.op 2 0], _, [], [0, 1, 2], [2]⟩]) (F := [.op 3 0]) (hst.pick [0] rfl) hb Za
     (o_p rfl (Zd rfl rfl u_0) <| o_p rfl (Z1d rfl rfl c_f u_0 h3) <| o_p rfl (Zqt rfl rfl u_0 c_f) <| o_p rfl (Zc rfl rfl u_0) <| o_n) (by kernel_rfl) (fun a g hst hb => ?_)
   refine wp_ret ?_
   refine Zm ?_
   obtain rfl := Option.some.inj H0
   exact Zx rfl hst hb (Zl (s := 2)) (hst.at 0 rfl)
 · replace H0 := Zo hc1 H0
   refine wp_skip ?_
   refine Zq ?_
   refine r_s (L := [(0, _)]) (T := [⟨[.old 0], _, [], [], [8]⟩, ⟨[.op 0 0], _, [], [0], [9]⟩, ⟨[.op 1 0], _, [], [0, 1], [2]⟩]) (F := [.op 2 0]) (hst.pick [0] rfl) hb Za
     (o_p rfl (Zd rfl rfl u_0) <| o_p rfl (Zqt rfl rfl u_0 c_f) <| o_p rfl (Zc rfl rfl u_0) <| o_n) (by kernel_rfl) (fun a g hst hb => ?_)
   refine wp_ret ?_
   obtain rfl := Option.some.inj H0
   exact Zx rfl hst hb (Zl (s := 2)) (hst.at 0 rfl)
theorem Zfr (a0 : Nat) (a1 : Nat) {r : Bool} (h : Zd2 a0 a1 = some r) : FnOk Tryd.prog 63 [(pFlt a0), (pFlt a1)] (Zba r) := by
 have H0 := h
 unfold Zd2 at H0
 clear h
 refine Zbq (N := 25) Tryd.func63 rfl rfl (Nat.le_of_ble_eq_true rfl) rfl rfl (fun a g0 hst hb => ?_)
 refine r_s (T := [⟨[], _, [], [], [4]⟩]) (F := [.old 0, .old 1]) hst hb Za
   (o_p rfl (Zc rfl rfl c_b) <| o_n) (by kernel_rfl) (fun a g hst hb => ?_)
 refine wp_seq ?_
 obtain ⟨r1, h2, H0⟩ := Zk H0
 refine r_s (T := [⟨[.old 0], _, [], [], [5]⟩, ⟨[.op 0 0], _, [], [0], [6]⟩]) (F := [.old 0, .old 1, .op 1 0]) hst hb Za
   (o_p rfl (Zd rfl rfl u_0) <| o_p rfl (Zt Zr3 (Zgu _ h2) rfl rfl (.cons u_0 .nil)) <| o_n) (by kernel_rfl) (fun a g hst hb => ?_)
 refine wp_cond_split (hst.bool 2 rfl) (fun hc3 => ?_) (fun hc3 => ?_)
 · replace H0 := Zp hc3 H0
   refine r_s (L := []) (T := [⟨[], _, [], [], [4]⟩]) (F := [.op 0 0]) (hst.pick [] rfl) hb Za
     (o_p rfl (Zc rfl rfl c_b) <| o_n) (by kernel_rfl) (fun a g hst hb => ?_)
   refine wp_ret ?_
   refine Zm ?_
   obtain rfl := Option.some.inj H0
   exact Zx rfl hst hb (Zl (s := 4)) (hst.at 0 rfl)
 · replace H0 := Zo hc3 H0
   refine wp_skip ?_
   refine Zq ?_
   refine wp_seq ?_
   obtain ⟨r4, h5, H0⟩ := Zk H0
   refine r_s (L := [(0, _), (1, _)]) (T := [⟨[.old 1], _, [], [], [7]⟩, ⟨[.op 0 0], _, [], [0], [8]⟩]) (F := [.old 0, .old 1, .op 1 0]) (hst.pick [0, 1] rfl) hb Za
     (o_p rfl (Zd rfl rfl u_0) <| o_p rfl (Zt Zr3 (Zgu _ h5) rfl rfl (.cons u_0 .nil)) <| o_n) (by kernel_rfl) (fun a g hst hb => ?_)
   refine wp_cond_split (hst.bool 2 rfl) (fun hc6 => ?_) (fun hc6 => ?_)
   · replace H0 := Zp hc6 H0
     refine r_s (L := []) (T := [⟨[], _, [], [], [4]⟩]) (F := [.op 0 0]) (hst.pick [] rfl) hb Za
       (o_p rfl (Zc rfl rfl c_b) <| o_n) (by kernel_rfl) (fun a g hst hb => ?_)
     refine wp_ret ?_
     refine Zm ?_
     obtain rfl := Option.some.inj H0
     exact Zx rfl hst hb (Zl (s := 4)) (hst.at 0 rfl)
   · replace H0 := Zo hc6 H0
     refine wp_skip ?_
     refine Zq ?_
     refine wp_seq ?_
     refine r_s (L := [(0, _), (1, _)]) (T := [⟨[.old 0], _, [], [], [9]⟩, ⟨[.op 0 0], _, [], [0], [10]⟩, ⟨[.op 1 0], _, [], [0, 1], [11]⟩, ⟨[.op 2 0, .old 1], _, [], [0, 1, 2], [12]⟩, ⟨[.op 2 0, .op 3 0], _, [], Lr 4, [13]⟩, ⟨[.op 2 0, .op 4 0], _, [], Lr 5, [14]⟩]) (F := [.old 0, .old 1, .op 5 0]) (hst.pick [0, 1] rfl) hb Za
       (o_p rfl (Zd rfl rfl u_0) <| o_p rfl (Zqi rfl rfl u_0 c_f) <| o_p rfl (Zd rfl rfl u_0) <| o_g (g_t rfl rfl rfl (fun hG => Zd rfl rfl u_0)) <| o_g (g_t rfl rfl rfl (fun hG => Zqi rfl rfl (Opd.gd hG u_0) c_f)) <| o_p rfl (Zbb rfl rfl u_0 (fun hz => (Opd.gd hz u_1))) <| o_n) (by kernel_rfl) (fun a g hst hb => ?_)
     refine wp_cond_split (hst.bool 2 rfl) (fun hc7 => ?_) (fun hc7 => ?_)
     · replace H0 := Zp hc7 H0
       obtain ⟨r8, h9, H0⟩ := Zk H0; obtain ⟨r10, h11, H0⟩ := Zk H0
       refine r_s (L := [(0, _), (1, _)]) (T := [⟨[.old 0], _, [], [], [15]⟩, ⟨[.op 0 0], _, [], [0], [16]⟩, ⟨[.op 1 0], _, [], [0, 1], [17]⟩, ⟨[.op 2 0, .old 1], _, [], [0, 1, 2], [18]⟩, ⟨[.op 2 0, .op 3 0], _, [], Lr 4, [19]⟩, ⟨[.op 2 0, .op 4 0], _, [], Lr 5, [20]⟩, ⟨[.op 2 0, .op 5 0], _, [], Lr 6, [21]⟩, ⟨[.op 6 0], _, [], Lr 7, [4]⟩]) (F := [.op 7 0]) (hst.pick [0, 1] rfl) hb Za
         (o_p rfl (Zd rfl rfl u_0) <| o_p rfl (Zt Zza (Zjx _ h9) rfl rfl (.cons u_0 .nil)) <| o_p rfl (Zd rfl rfl u_0) <| o_g (g_t rfl rfl rfl (fun hG => Zd rfl rfl u_0)) <| o_g (g_t rfl rfl rfl (fun hG => Zt Zza (Zjx _ (Zbn h11 hG)) rfl rfl (.cons (Opd.gd hG u_0) .nil))) <| o_g (g_t rfl rfl rfl (fun hG => Zb4 rfl rfl (Opd.gd hG u_0))) <| o_p rfl (Zbb rfl rfl u_0 (fun hz => (Opd.gd hz u_1))) <| o_p rfl (Zc rfl rfl u_0) <| o_n) (by kernel_rfl) (fun a g hst hb => ?_)
       refine wp_ret ?_
       refine Zm ?_
       obtain rfl := Option.some.inj H0
       exact Zx rfl hst hb (Zl (s := 4)) (hst.at 0 rfl)
     · replace H0 := Zo hc7 H0
       refine wp_skip ?_
       refine Zq ?_
       refine r_s (L := [(0, _), (1, _)]) (T := [⟨[.old 0], _, [], [], [22]⟩, ⟨[.old 1], _, [], [], [23]⟩, ⟨[.op 0 0, .op 1 0], _, [], [0, 1], [24]⟩, ⟨[.op 2 0], _, [], [0, 1, 2], [4]⟩]) (F := [.op 3 0]) (hst.pick [0, 1] rfl) hb Za
         (o_p rfl (Zd rfl rfl u_0) <| o_p rfl (Zd rfl rfl u_0) <| o_p rfl (Zqt rfl rfl u_0 u_1) <| o_p rfl (Zc rfl rfl u_0) <| o_n) (by kernel_rfl) (fun a g hst hb => ?_)
       refine wp_ret ?_
       obtain rfl := Option.some.inj H0
       exact Zx rfl hst hb (Zl (s := 4)) (hst.at 0 rfl)
theorem Ze1 (a0 : Nat) (a1 : Nat) {r : Bool} (h : Zc7 a0 a1 = some r) : FnOk Tryd.prog 36 [(pFlt a0), (pFlt a1)] (Zba r) := by
 have H0 := h
 unfold Zc7 at H0
 clear h
 refine Zbq (N := 15) Tryd.func36 rfl rfl (Nat.le_of_ble_eq_true rfl) rfl rfl (fun a g0 hst hb => ?_)
 refine r_s (T := [⟨[], _, [], [], [4]⟩]) (F := [.old 0, .old 1]) hst hb Za
   (o_p rfl (Zc rfl rfl c_b) <| o_n) (by kernel_rfl) (fun a g hst hb => ?_)
 obtain ⟨r1, h2, H0⟩ := Zk H0; obtain ⟨r3, h4, H0⟩ := Zk H0
 refine r_s (T := [⟨[.old 0], _, [], [], [5]⟩, ⟨[.old 1], _, [], [], [6]⟩, ⟨[.op 0 0, .op 1 0], _, [], [0, 1], [7]⟩, ⟨[.op 2 0], _, [], [0, 1, 2], [8]⟩, ⟨[.op 3 0], _, [], Lr 4, [9]⟩, ⟨[.op 4 0, .old 1], _, [], Lr 5, [10]⟩, ⟨[.op 4 0, .old 0], _, [], Lr 5, [11]⟩, ⟨[.op 4 0, .op 5 0, .op 6 0], _, [], Lr 7, [12]⟩, ⟨[.op 4 0, .op 7 0], _, [], Lr 8, [13]⟩, ⟨[.op 4 0, .op 8 0], _, [], Lr 9, [14]⟩, ⟨[.op 9 0], _, [], Lr 10, [4]⟩]) (F := [.op 10 0]) hst hb Za
   (o_p rfl (Zd rfl rfl u_0) <| o_p rfl (Zd rfl rfl u_0) <| o_p rfl (Zt Zpv (Zfr _ _ h2) rfl rfl (.cons u_0 (.cons u_1 .nil))) <| o_p rfl (Zb4 rfl rfl u_0) <| o_p rfl (Zd rfl rfl u_0) <| o_g (g_t rfl rfl rfl (fun hG => Zd rfl rfl u_0)) <| o_g (g_t rfl rfl rfl (fun hG => Zd rfl rfl u_0)) <| o_g (g_t rfl rfl rfl (fun hG => Zt Zpv (Zfr _ _ (Zbn h4 hG)) rfl rfl (.cons (Opd.gd hG u_0) (.cons (Opd.gd hG u_1) .nil)))) <| o_g (g_t rfl rfl rfl (fun hG => Zb4 rfl rfl (Opd.gd hG u_0))) <| o_p rfl (Zbb rfl rfl u_0 (fun hz => (Opd.gd hz u_1))) <| o_p rfl (Zc rfl rfl u_0) <| o_n) (by kernel_rfl) (fun a g hst hb => ?_)
 refine wp_ret ?_
 obtain rfl := Option.some.inj H0
 exact Zx rfl hst hb (Zl (s := 4)) (hst.at 0 rfl)
theorem Zip (a0 : Zb) (a1 : Zb) {r : Bool} (h : Zeg a0 a1 = some r) : FnOk Tryd.prog 14 [(Zf.pd a0), (Zf.pd a1)] (Zba r) := by
 have H0 := h
 unfold Zeg at H0
 clear h
 refine Zbq (N := 97) Tryd.func14 rfl rfl (Nat.le_of_ble_eq_true rfl) rfl rfl (fun a g0 hst hb => ?_)
 refine r_s (T := [⟨[.old 0], _, [], [], [2]⟩, ⟨[.old 1], _, [], [], [3]⟩, ⟨[], _, [], [], [4]⟩]) (F := [.op 0 0, .op 1 0]) hst hb Za
   (o_p rfl (Zbs rfl rfl u_0) <| o_p rfl (Zbs rfl rfl u_0) <| o_p rfl (Zc rfl rfl c_b) <| o_n) (by kernel_rfl) (fun a g hst hb => ?_)
 refine wp_seq ?_
 refine r_s (T := ⟨[.old 0], _, [], [], [6]⟩ :: ⟨[.op 0 0], _, [], [0], [7]⟩ :: ⟨[.old 1], _, [], [], [8]⟩ :: ⟨[.op 2 0], _, [], [2], [9]⟩ :: ⟨[.op 1 0, .op 3 0], _, [], Lr 4, [10]⟩ :: ⟨[.op 4 0], _, [], Lr 5, [11]⟩ :: ⟨[.op 5 0, .old 0], _, [], Lr 6, [12]⟩ :: ⟨[.op 5 0, .op 6 0], _, [], Lr 7, [13]⟩ :: ⟨[.op 5 0, .old 1], _, [], Lr 6, [14]⟩ :: ⟨[.op 5 0, .op 8 0], _, [], [0, 1, 2, 3, 4, 5, 8], [15]⟩ :: ⟨[.op 5 0, .op 7 0, .op 9 0], _, [], Lr 10, [16]⟩ :: ⟨[.op 5 0, .op 10 0], _, [], Lr 11, [17]⟩ :: ⟨[.op 11 0], _, [], Lr 12, [18]⟩ :: ⟨[.op 12 0, .old 0], _, [], Lr 13, [19]⟩ :: ⟨[.op 12 0, .op 13 0], _, [], Lr 14, [20]⟩ :: ⟨[.op 12 0, .old 1], _, [], Lr 13, [21]⟩ :: ⟨[.op 12 0, .op 15 0], _, [], 0 :: 1 :: 2 :: 3 :: 4 :: 5 :: 6 :: 7 :: 8 :: 9 :: 10 :: 11 :: 12 :: 15 :: [], [22]⟩ :: ⟨[.op 12 0, .op 14 0, .op 16 0], _, [], Lr 17, [23]⟩ :: ⟨[.op 12 0, .op 17 0], _, [], Lr 18, [24]⟩ :: ⟨[.op 18 0], _, [], Lr 19, [25]⟩ :: ⟨[.op 19 0, .old 0], _, [], Lr 20, [26]⟩ :: ⟨[.op 19 0, .op 20 0], _, [], Lr 21, [27]⟩ :: ⟨[.op 19 0, .old 1], _, [], Lr 20, [28]⟩ :: ⟨[.op 19 0, .op 22 0], _, [], 0 :: 1 :: 2 :: 3 :: 4 :: 5 :: 6 :: 7 :: 8 :: 9 :: 10 :: 11 :: 12 :: 13 :: 14 :: 15 :: 16 :: 17 :: 18 :: 19 :: 22 :: [], [29]⟩ :: ⟨[.op 19 0, .op 21 0, .op 23 0], _, [], Lr 24, [30]⟩ :: ⟨[.op 19 0, .op 24 0], _, [], Lr 25, [31]⟩ :: ⟨[.op 25 0], _, [], Lr 26, [32]⟩ :: ⟨[.op 26 0, .old 0], _, [], Lr 27, [33]⟩ :: ⟨[.op 26 0, .op 27 0], _, [], Lr 28, [34]⟩ :: ⟨[.op 26 0, .old 1], _, [], Lr 27, [35]⟩ :: ⟨[.op 26 0, .op 29 0], _, [], 0 :: 1 :: 2 :: 3 :: 4 :: 5 :: 6 :: 7 :: 8 :: 9 :: 10 :: 11 :: 12 :: 13 :: 14 :: 15 :: 16 :: 17 :: 18 :: 19 :: 20 :: 21 :: 22 :: 23 :: 24 :: 25 :: 26 :: 29 :: [], [36]⟩ :: ⟨[.op 26 0, .op 28 0, .op 30 0], _, [], Lr 31, [37]⟩ :: ⟨[.op 26 0, .op 31 0], _, [], Lr 32, [38]⟩ :: ⟨[.op 32 0], _, [], Lr 33, [39]⟩ :: ⟨[.op 33 0, .old 0], _, [], Lr 34, [40]⟩ :: ⟨[.op 33 0, .op 34 0], _, [], Lr 35, [41]⟩ :: ⟨[.op 33 0, .old 1], _, [], Lr 34, [42]⟩ :: ⟨[.op 33 0, .op 36 0], _, [], 0 :: 1 :: 2 :: 3 :: 4 :: 5 :: 6 :: 7 :: 8 :: 9 :: 10 :: 11 :: 12 :: 13 :: 14 :: 15 :: 16 :: 17 :: 18 :: 19 :: 20 :: 21 :: 22 :: 23 :: 24 :: 25 :: 26 :: 27 :: 28 :: 29 :: 30 :: 31 :: 32 :: 33 :: 36 :: [], [43]⟩ :: ⟨[.op 33 0, .op 35 0, .op 37 0], _, [], Lr 38, [44]⟩ :: ⟨[.op 33 0, .op 38 0], _, [], Lr 39, [45]⟩ :: []) (F := [.old 0, .old 1, .op 39 0]) hst hb Za
   (o_p rfl (Ze Zcx rfl rfl u_0) <| o_p rfl (Zg ty_3 rfl rfl u_0) <| o_p rfl (Ze Zcx rfl rfl u_0) <| o_p rfl (Zg ty_3 rfl rfl u_0) <| o_p rfl (Zdu rfl rfl u_0 u_1) <| o_p rfl (Zd rfl rfl u_0) <| o_g (g_f rfl rfl rfl (fun hG => Ze Zbx rfl rfl u_0)) <| o_g (g_f rfl rfl rfl (fun hG => Zg ty_2 rfl rfl (Opd.gd hG u_0))) <| o_g (g_f rfl rfl rfl (fun hG => Ze Zbx rfl rfl u_0)) <| o_g (g_f rfl rfl rfl (fun hG => Zg ty_2 rfl rfl (Opd.gd hG u_0))) <| o_g (g_f rfl rfl rfl (fun hG => Zdu rfl rfl (Opd.gd hG u_0) (Opd.gd hG u_1))) <| o_p rfl (Zbj rfl rfl u_0 (fun hz => (Opd.gd (bNF hz) u_1))) <| o_p rfl (Zd rfl rfl u_0) <| o_g (g_f rfl rfl rfl (fun hG => Ze Zgl rfl rfl u_0)) <| o_g (g_f rfl rfl rfl (fun hG => Zg ty_2 rfl rfl (Opd.gd hG u_0))) <| o_g (g_f rfl rfl rfl (fun hG => Ze Zgl rfl rfl u_0)) <| o_g (g_f rfl rfl rfl (fun hG => Zg ty_2 rfl rfl (Opd.gd hG u_0))) <| o_g (g_f rfl rfl rfl (fun hG => Zdu rfl rfl (Opd.gd hG u_0) (Opd.gd hG u_1))) <| o_p rfl (Zbj rfl rfl u_0 (fun hz => (Opd.gd (bNF hz) u_1))) <| o_p rfl (Zd rfl rfl u_0) <| o_g (g_f rfl rfl rfl (fun hG => Ze Zgn rfl rfl u_0)) <| o_g (g_f rfl rfl rfl (fun hG => Zg ty_2 rfl rfl (Opd.gd hG u_0))) <| o_g (g_f rfl rfl rfl (fun hG => Ze Zgn rfl rfl u_0)) <| o_g (g_f rfl rfl rfl (fun hG => Zg ty_2 rfl rfl (Opd.gd hG u_0))) <| o_g (g_f rfl rfl rfl (fun hG => Zdu rfl rfl (Opd.gd hG u_0) (Opd.gd hG u_1))) <| o_p rfl (Zbj rfl rfl u_0 (fun hz => (Opd.gd (bNF hz) u_1))) <| o_p rfl (Zd rfl rfl u_0) <| o_g (g_f rfl rfl rfl (fun hG => Ze Zeo rfl rfl u_0)) <| o_g (g_f rfl rfl rfl (fun hG => Zg ty_3 rfl rfl (Opd.gd hG u_0))) <| o_g (g_f rfl rfl rfl (fun hG => Ze Zeo rfl rfl u_0)) <| o_g (g_f rfl rfl rfl (fun hG => Zg ty_3 rfl rfl (Opd.gd hG u_0))) <| o_g (g_f rfl rfl rfl (fun hG => Zdu rfl rfl (Opd.gd hG u_0) (Opd.gd hG u_1))) <| o_p rfl (Zbj rfl rfl u_0 (fun hz => (Opd.gd (bNF hz) u_1))) <| o_p rfl (Zd rfl rfl u_0) <| o_g (g_f rfl rfl rfl (fun hG => Ze Zgp rfl rfl u_0)) <| o_g (g_f rfl rfl rfl (fun hG => Zg ty_9 rfl rfl (Opd.gd hG u_0))) <| o_g (g_f rfl rfl rfl (fun hG => Ze Zgp rfl rfl u_0)) <| o_g (g_f rfl rfl rfl (fun hG => Zg ty_9 rfl rfl (Opd.gd hG u_0))) <| o_g (g_f rfl rfl rfl (fun hG => Zod rfl rfl (Opd.gd hG u_0) (Opd.gd hG u_1))) <| o_p rfl (Zbj rfl rfl u_0 (fun hz => (Opd.gd (bNF hz) u_1))) <| o_n) (by kernel_rfl) (fun a g hst hb => ?_)
 refine wp_cond_split (hst.bool 2 rfl) (fun hc1 => ?_) (fun hc1 => ?_)
 · replace H0 := Zp hc1 H0
   refine r_s (L := []) (T := [⟨[], _, [], [], [4]⟩]) (F := [.op 0 0]) (hst.pick [] rfl) hb Za
     (o_p rfl (Zc rfl rfl c_b) <| o_n) (by kernel_rfl) (fun a g hst hb => ?_)
   refine wp_ret ?_
   refine Zm ?_
   obtain rfl := Option.some.inj H0
   exact Zx rfl hst hb (Zl (s := 4)) (hst.at 0 rfl)
 · replace H0 := Zo hc1 H0
   refine wp_skip ?_
   refine Zq ?_
   refine wp_seq ?_
   obtain ⟨r2, h3, H0⟩ := Zk H0
   refine r_s (L := [(2, _), (3, _)]) (T := ⟨[.old 0], _, [], [], [46]⟩ :: ⟨[.op 0 0], _, [], [0], [47]⟩ :: ⟨[.old 1], _, [], [], [48]⟩ :: ⟨[.op 2 0], _, [], [2], [49]⟩ :: ⟨[.op 1 0, .op 3 0], _, [], Lr 4, [50]⟩ :: ⟨[.op 4 0], _, [], Lr 5, [51]⟩ :: ⟨[.op 5 0], _, [], Lr 6, [52]⟩ :: ⟨[.op 6 0, .old 0], _, [], Lr 7, [53]⟩ :: ⟨[.op 6 0, .op 7 0], _, [], Lr 8, [54]⟩ :: ⟨[.op 6 0, .op 8 0], _, [], Lr 9, [55]⟩ :: ⟨[.op 6 0, .old 1], _, [], Lr 7, [56]⟩ :: ⟨[.op 6 0, .op 10 0], _, [], [0, 1, 2, 3, 4, 5, 6, 10], [57]⟩ :: ⟨[.op 6 0, .op 11 0], _, [], [0, 1, 2, 3, 4, 5, 6, 10, 11], [58]⟩ :: ⟨[.op 6 0, .op 9 0, .op 12 0], _, [], Lr 13, [59]⟩ :: ⟨[.op 6 0, .op 13 0], _, [], Lr 14, [60]⟩ :: []) (F := [.old 0, .old 1, .op 14 0]) (hst.pick [0, 1] rfl) hb Za
     (o_p rfl (Ze Zcv rfl rfl u_0) <| o_p rfl (Zg Zby rfl rfl u_0) <| o_p rfl (Ze Zcv rfl rfl u_0) <| o_p rfl (Zg Zby rfl rfl u_0) <| o_p rfl (Zt Zon (Ze1 _ _ h3) rfl rfl (.cons u_0 (.cons u_1 .nil))) <| o_p rfl (Zb4 rfl rfl u_0) <| o_p rfl (Zd rfl rfl u_0) <| o_g (g_f rfl rfl rfl (fun hG => Ze Zbm rfl rfl u_0)) <| o_g (g_f rfl rfl rfl (fun hG => Zg Zca rfl rfl (Opd.gd hG u_0))) <| o_g (g_f rfl rfl rfl (fun hG => Zcd Tryd.underlying23 rfl rfl (Opd.gd hG u_0))) <| o_g (g_f rfl rfl rfl (fun hG => Ze Zbm rfl rfl u_0)) <| o_g (g_f rfl rfl rfl (fun hG => Zg Zca rfl rfl (Opd.gd hG u_0))) <| o_g (g_f rfl rfl rfl (fun hG => Zcd Tryd.underlying23 rfl rfl (Opd.gd hG u_0))) <| o_g (g_f rfl rfl rfl (fun hG => Zdu rfl rfl (Opd.gd hG u_0) (Opd.gd hG u_1))) <| o_p rfl (Zbj rfl rfl u_0 (fun hz => (Opd.gd (bNF hz) u_1))) <| o_n) (by kernel_rfl) (fun a g hst hb => ?_)
   refine wp_cond_split (hst.bool 2 rfl) (fun hc4 => ?_) (fun hc4 => ?_)
   · replace H0 := Zp hc4 H0
     refine r_s (L := []) (T := [⟨[], _, [], [], [4]⟩]) (F := [.op 0 0]) (hst.pick [] rfl) hb Za
       (o_p rfl (Zc rfl rfl c_b) <| o_n) (by kernel_rfl) (fun a g hst hb => ?_)
     refine wp_ret ?_
     refine Zm ?_
     obtain rfl := Option.some.inj H0
     exact Zx rfl hst hb (Zl (s := 4)) (hst.at 0 rfl)
   · replace H0 := Zo hc4 H0
     refine wp_skip ?_
     refine Zq ?_
     refine wp_seq ?_
     refine r_s (L := [(2, _), (3, _)]) (T := [⟨[], _, [], [], [5]⟩]) (F := [.old 0, .old 1, .op 0 0]) (hst.pick [0, 1] rfl) hb Za
       (o_p rfl (Zc rfl rfl c_i) <| o_n) (by kernel_rfl) (fun a g hst hb => ?_)
     obtain ⟨z18, hz1, H0⟩ := Zk H0
     refine Zbv (fun a w => ∃ (g : G), w = g.w ∧ St 97 [] a g ∧ Base g0 g ∧ (.inr ()) = z18) ?_ ?_
     · rintro a w ⟨g, rfl, hst, hb, rfl⟩
       refine Zq ?_
       refine r_s (T := [⟨[], _, [], [], [4]⟩]) (F := [.op 0 0]) hst hb Za
         (o_p rfl (Zc rfl rfl c_b) <| o_n) (by kernel_rfl) (fun a g hst hb => ?_)
       refine wp_ret ?_
       obtain rfl := Option.some.inj H0
       exact Zx rfl hst hb (Zl (s := 4)) (hst.at 0 rfl)
     · refine wp_block ?_
       refine wp_loop_ghost (fun n a w => ∃ (x5 : Int) (g : G), w = g.w ∧ St 97 [(2, (Zf.ptr a0)), (3, (Zf.ptr a1)), (5, (pInt .i64 x5))] a g ∧ Base g0 g ∧ Zdi a0 a1 n x5 = some z18) (Int.toNat ((a0.List.length : Int) - (0 : Int)) + 1) ⟨(0 : Int), g, rfl, (hst.pick [0, 1, 2] rfl), hb, hz1⟩ (fun n a w hI => ?_)
       obtain ⟨x5, g, rfl, hst, hb, H1⟩ := hI
       cases n with
       | zero => exact absurd H1 (by simp [Zdi])
       | succ n =>
         rw [Zdi] at H1
         refine wp_seq ?_
         refine r_s (T := [⟨[.old 2], _, [], [], [61]⟩, ⟨[.old 0], _, [], [], [62]⟩, ⟨[.op 1 0], _, [], [1], [63]⟩, ⟨[.op 2 0], _, [], [1, 2], [64]⟩, ⟨[.op 0 0, .op 3 0], _, [], Lr 4, [65]⟩]) (F := [.old 0, .old 1, .old 2, .op 4 0]) hst hb Za
           (o_p rfl (Zd rfl rfl u_0) <| o_p rfl (Ze Zbm rfl rfl u_0) <| o_p rfl (Zg Zca rfl rfl u_0) <| o_p rfl (Zcd Tryd.underlying23 rfl rfl u_0) <| o_p rfl (Zcb rfl rfl u_0 u_1) <| o_n) (by kernel_rfl) (fun a g hst hb => ?_)
         refine wp_cond_split (hst.bool 3 rfl) (fun hc6 => ?_) (fun hc6 => ?_)
         · replace H1 := Zp hc6 H1
           refine wp_skip ?_
           refine Zq ?_
           refine wp_seq ?_
           refine wp_block ?_
           obtain ⟨e7, h8, H1⟩ := Zk H1; obtain ⟨e9, h10, H1⟩ := Zk H1; obtain ⟨e11, h12, H1⟩ := Zk H1; obtain ⟨e13, h14, H1⟩ := Zk H1; obtain ⟨r15, h16, H1⟩ := Zk H1
           refine r_s (L := [(2, _), (3, _), (5, _)]) (T := ⟨[.old 0], _, [], [], [68]⟩ :: ⟨[.op 0 0], _, [], [0], [69]⟩ :: ⟨[.old 2], _, [], [], [70]⟩ :: ⟨[.op 1 0, .op 2 0], _, [], [0, 1, 2], [71]⟩ :: ⟨[.op 3 0], _, [], Lr 4, [72]⟩ :: ⟨[.op 4 0], _, [], Lr 5, [73]⟩ :: ⟨[.old 1], _, [], [], [74]⟩ :: ⟨[.op 6 0], _, [], [6], [75]⟩ :: ⟨[.old 2], _, [], [], [76]⟩ :: ⟨[.op 7 0, .op 8 0], _, [], [6, 7, 8], [77]⟩ :: ⟨[.op 9 0], _, [], List.range' 6 4, [78]⟩ :: ⟨[.op 10 0], _, [], List.range' 6 5, [79]⟩ :: ⟨[.op 5 0, .op 11 0], _, [], Lr 12, [80]⟩ :: ⟨[.op 12 0], _, [], Lr 13, [81]⟩ :: ⟨[.op 13 0, .old 0], _, [], Lr 14, [82]⟩ :: ⟨[.op 13 0, .op 14 0], _, [], Lr 15, [83]⟩ :: ⟨[.op 13 0, .old 2], _, [], Lr 14, [84]⟩ :: ⟨[.op 13 0, .op 15 0, .op 16 0], _, [], Lr 17, [85]⟩ :: ⟨[.op 13 0, .op 17 0], _, [], Lr 18, [86]⟩ :: ⟨[.op 13 0, .op 18 0], _, [], Lr 19, [87]⟩ :: ⟨[.op 13 0, .old 1], _, [], Lr 14, [88]⟩ :: ⟨[.op 13 0, .op 20 0], _, [], 0 :: 1 :: 2 :: 3 :: 4 :: 5 :: 6 :: 7 :: 8 :: 9 :: 10 :: 11 :: 12 :: 13 :: 20 :: [], [89]⟩ :: ⟨[.op 13 0, .old 2], _, [], Lr 14, [90]⟩ :: ⟨[.op 13 0, .op 21 0, .op 22 0], _, [], 0 :: 1 :: 2 :: 3 :: 4 :: 5 :: 6 :: 7 :: 8 :: 9 :: 10 :: 11 :: 12 :: 13 :: 20 :: 21 :: 22 :: [], [91]⟩ :: ⟨[.op 13 0, .op 23 0], _, [], 0 :: 1 :: 2 :: 3 :: 4 :: 5 :: 6 :: 7 :: 8 :: 9 :: 10 :: 11 :: 12 :: 13 :: 20 :: 21 :: 22 :: 23 :: [], [92]⟩ :: ⟨[.op 13 0, .op 24 0], _, [], 0 :: 1 :: 2 :: 3 :: 4 :: 5 :: 6 :: 7 :: 8 :: 9 :: 10 :: 11 :: 12 :: 13 :: 20 :: 21 :: 22 :: 23 :: 24 :: [], [93]⟩ :: ⟨[.op 13 0, .op 19 0, .op 25 0], _, [], Lr 26, [94]⟩ :: ⟨[.op 13 0, .op 26 0], _, [], Lr 27, [95]⟩ :: ⟨[.op 13 0, .op 27 0], _, [], Lr 28, [96]⟩ :: []) (F := [.old 0, .old 1, .old 2, .op 28 0]) (hst.pick [0, 1, 2] rfl) hb Za
             (o_p rfl (Ze Zbm rfl rfl u_0) <| o_p rfl (Zg Zca rfl rfl u_0) <| o_p rfl (Zd rfl rfl u_0) <| o_p rfl (Zbh Tryd.underlying23 Zdv rfl rfl u_0 u_1 h8) <| o_p rfl (Ze Zc4 rfl rfl u_0) <| o_p rfl (Zg ty_9 rfl rfl u_0) <| o_p rfl (Ze Zbm rfl rfl u_0) <| o_p rfl (Zg Zca rfl rfl u_0) <| o_p rfl (Zd rfl rfl u_0) <| o_p rfl (Zbh Tryd.underlying23 Zdv rfl rfl u_0 u_1 h10) <| o_p rfl (Ze Zc4 rfl rfl u_0) <| o_p rfl (Zg ty_9 rfl rfl u_0) <| o_p rfl (Zod rfl rfl u_0 u_1) <| o_p rfl (Zd rfl rfl u_0) <| o_g (g_f rfl rfl rfl (fun hG => Ze Zbm rfl rfl u_0)) <| o_g (g_f rfl rfl rfl (fun hG => Zg Zca rfl rfl (Opd.gd hG u_0))) <| o_g (g_f rfl rfl rfl (fun hG => Zd rfl rfl u_0)) <| o_g (g_f rfl rfl rfl (fun hG => Zbh Tryd.underlying23 Zdv rfl rfl (Opd.gd hG u_0) (Opd.gd hG u_1) (Zbn h12 hG))) <| o_g (g_f rfl rfl rfl (fun hG => Ze Zee rfl rfl (Opd.gd hG u_0))) <| o_g (g_f rfl rfl rfl (fun hG => Zg Zby rfl rfl (Opd.gd hG u_0))) <| o_g (g_f rfl rfl rfl (fun hG => Ze Zbm rfl rfl u_0)) <| o_g (g_f rfl rfl rfl (fun hG => Zg Zca rfl rfl (Opd.gd hG u_0))) <| o_g (g_f rfl rfl rfl (fun hG => Zd rfl rfl u_0)) <| o_g (g_f rfl rfl rfl (fun hG => Zbh Tryd.underlying23 Zdv rfl rfl (Opd.gd hG u_0) (Opd.gd hG u_1) (Zbn h14 hG))) <| o_g (g_f rfl rfl rfl (fun hG => Ze Zee rfl rfl (Opd.gd hG u_0))) <| o_g (g_f rfl rfl rfl (fun hG => Zg Zby rfl rfl (Opd.gd hG u_0))) <| o_g (g_f rfl rfl rfl (fun hG => Zt Zon (Ze1 _ _ (Zbn h16 hG)) rfl rfl (.cons (Opd.gd hG u_0) (.cons (Opd.gd hG u_1) .nil)))) <| o_g (g_f rfl rfl rfl (fun hG => Zb4 rfl rfl (Opd.gd hG u_0))) <| o_p rfl (Zbj rfl rfl u_0 (fun hz => (Opd.gd (bNF hz) u_1))) <| o_n) (by kernel_rfl) (fun a g hst hb => ?_)
           refine wp_cond_split (hst.bool 3 rfl) (fun hc17 => ?_) (fun hc17 => ?_)
           · replace H1 := Zp hc17 H1
             refine r_s (L := []) (T := [⟨[], _, [], [], [4]⟩]) (F := [.op 0 0]) (hst.pick [] rfl) hb Za
               (o_p rfl (Zc rfl rfl c_b) <| o_n) (by kernel_rfl) (fun a g hst hb => ?_)
             refine wp_ret ?_
             refine Zv ?_
             refine Zm ?_
             refine Zm ?_
             refine Zv ?_
             refine Zm ?_
             refine Zm ?_
             obtain rfl := Option.some.inj H1
             obtain rfl := Option.some.inj H0
             exact Zx rfl hst hb (Zl (s := 4)) (hst.at 0 rfl)
           · replace H1 := Zo hc17 H1
             refine wp_skip ?_
             refine Z6 ?_
             refine Zq ?_
             refine r_g (L := [(2, _), (3, _), (5, _)]) (T := [⟨[.old 2], _, [], [], [66]⟩, ⟨[.op 0 0], _, [], [0], [67]⟩, ⟨[.op 1 0], _, [], [0, 1], [5]⟩]) (F := [.old 0, .old 1, .op 2 0]) (hst.pick [0, 1, 2] rfl) hb Za
               (o_p rfl (Zd rfl rfl u_0) <| o_p rfl (Zcg rfl rfl u_0 c_i rfl) <| o_p rfl (Zc rfl rfl u_0) <| o_n) (by kernel_rfl) (fun a g hst hb => ?_)
             exact ⟨n, Nat.lt_succ_self _, (IntKind.i64.wrap (x5 + (1 : Int))), g, rfl, (hst.pick [0, 1, 2] rfl), hb, H1⟩
         · replace H1 := Zo hc6 H1
           refine wp_exit ?_
           refine Zcf ?_
           refine Zcf ?_
           refine Zc1 ?_
           exact ⟨g, rfl, (hst.pick [] rfl), hb, Option.some.inj H1⟩
theorem Zka (a0 : Nat) {r : Bool} (h : Zfs a0 = some r) : FnOk Tryd.prog 71 [(pFlt a0)] (Zba r) := by
 have H0 := h
 unfold Zfs at H0
 clear h
 refine Zbq (N := 5) Tryd.func71 rfl rfl (Nat.le_of_ble_eq_true rfl) rfl rfl (fun a g0 hst hb => ?_)
 refine r_s (T := [⟨[], _, [], [], [2]⟩]) (F := [.old 0]) hst hb Za
   (o_p rfl (Zc rfl rfl c_b) <| o_n) (by kernel_rfl) (fun a g hst hb => ?_)
 obtain ⟨r1, h2, H0⟩ := Zk H0
 refine r_s (T := [⟨[.old 0], _, [], [], [3]⟩, ⟨[.op 0 0], _, [], [0], [4]⟩, ⟨[.op 1 0], _, [], [0, 1], [2]⟩]) (F := [.op 2 0]) hst hb Za
   (o_p rfl (Zd rfl rfl u_0) <| o_p rfl (Zt Zon (Ze1 _ _ h2) rfl rfl (.cons u_0 (.cons c_f .nil))) <| o_p rfl (Zc rfl rfl u_0) <| o_n) (by kernel_rfl) (fun a g hst hb => ?_)
 refine wp_ret ?_
 obtain rfl := Option.some.inj H0
 exact Zx rfl hst hb (Zl (s := 2)) (hst.at 0 rfl)
theorem Zni (a0 : Zb) (a1 : ByteArray) {r : Bool} (h : Zgq a0 a1 = some r) : FnOk Tryd.prog 44 [(Zf.pd a0), (pStr a1)] (Zba r) := by
 have H0 := h
 unfold Zgq at H0
 clear h
 refine Zbq (N := 106) Tryd.func44 rfl rfl (Nat.le_of_ble_eq_true rfl) rfl rfl (fun a g0 hst hb => ?_)
 refine r_s (T := [⟨[.old 0], _, [], [], [2]⟩, ⟨[], _, [], [], [4]⟩]) (F := [.old 1, .op 0 0]) hst hb Za
   (o_p rfl (Zbs rfl rfl u_0) <| o_p rfl (Zc rfl rfl c_b) <| o_n) (by kernel_rfl) (fun a g hst hb => ?_)
 refine r_s (T := [⟨[], _, [], [], [5]⟩, ⟨[], _, [], [0], [6]⟩, ⟨[], _, [], [0, 1], [7]⟩, ⟨[], _, [], [0, 1, 2], [8]⟩, ⟨[], _, [], Lr 4, [9]⟩]) (F := [.old 0, .old 1, .op 0 0, .op 1 0, .op 2 0, .op 3 0, .op 4 0]) hst hb Za
   (o_p rfl (Zc rfl rfl c_b) <| o_p rfl (Zc rfl rfl c_b) <| o_p rfl (Zc rfl rfl c_b) <| o_p rfl (Zc rfl rfl c_b) <| o_p rfl (Zc rfl rfl c_b) <| o_n) (by kernel_rfl) (fun a g hst hb => ?_)
 refine wp_seq ?_
 refine r_s (T := [⟨[], _, [], [], [10]⟩]) (F := [.old 0, .old 1, .old 2, .old 3, .old 4, .old 5, .old 6, .op 0 0]) hst hb Za
   (o_p rfl (Zc rfl rfl c_i) <| o_n) (by kernel_rfl) (fun a g hst hb => ?_)
 obtain ⟨z23, hz1, H0⟩ := Zk H0
 refine Zbv (fun a w => ∃ (y18 : Bool) (y19 : Bool) (y20 : Bool) (y21 : Bool) (y22 : Bool) (g : G), w = g.w ∧ St 106 [(2, (Zf.ptr a0)), (5, (Zba y18)), (6, (Zba y19)), (7, (Zba y20)), (8, (Zba y21)), (9, (Zba y22))] a g ∧ Base g0 g ∧ (y18, y19, y20, y21, y22) = z23) ?_ ?_
 · rintro a w ⟨y18, y19, y20, y21, y22, g, rfl, hst, hb, rfl⟩
   refine Zq ?_
   refine wp_seq ?_
   refine r_s (T := ⟨[.old 1], _, [], [], [52]⟩ :: ⟨[.op 0 0], _, [], [0], [53]⟩ :: ⟨[.op 1 0], _, [], [0, 1], [54]⟩ :: ⟨[.op 2 0, .old 0], _, [], [0, 1, 2], [55]⟩ :: ⟨[.op 2 0, .op 3 0], _, [], Lr 4, [56]⟩ :: ⟨[.op 2 0, .op 4 0], _, [], Lr 5, [57]⟩ :: ⟨[.op 2 0, .op 5 0], _, [], Lr 6, [58]⟩ :: ⟨[.op 6 0], _, [], Lr 7, [59]⟩ :: ⟨[.op 7 0, .old 2], _, [], Lr 8, [60]⟩ :: ⟨[.op 7 0, .op 8 0], _, [], Lr 9, [61]⟩ :: ⟨[.op 7 0, .op 9 0], _, [], Lr 10, [62]⟩ :: ⟨[.op 10 0, .old 0], _, [], Lr 11, [63]⟩ :: ⟨[.op 10 0, .op 11 0], _, [], Lr 12, [64]⟩ :: ⟨[.op 10 0, .op 12 0], _, [], Lr 13, [65]⟩ :: ⟨[.op 7 0, .op 10 0, .op 13 0], _, [], Lr 14, [66]⟩ :: ⟨[.op 7 0, .op 14 0], _, [], Lr 15, [67]⟩ :: ⟨[.op 15 0], _, [], Lr 16, [68]⟩ :: ⟨[.op 16 0, .old 3], _, [], Lr 17, [69]⟩ :: ⟨[.op 16 0, .op 17 0], _, [], Lr 18, [70]⟩ :: ⟨[.op 16 0, .op 18 0], _, [], Lr 19, [71]⟩ :: ⟨[.op 19 0, .old 0], _, [], Lr 20, [72]⟩ :: ⟨[.op 19 0, .op 20 0], _, [], Lr 21, [73]⟩ :: ⟨[.op 19 0, .op 21 0], _, [], Lr 22, [74]⟩ :: ⟨[.op 16 0, .op 19 0, .op 22 0], _, [], Lr 23, [75]⟩ :: ⟨[.op 16 0, .op 23 0], _, [], Lr 24, [76]⟩ :: ⟨[.op 24 0], _, [], Lr 25, [77]⟩ :: ⟨[.op 25 0, .old 3], _, [], Lr 26, [78]⟩ :: ⟨[.op 25 0, .op 26 0], _, [], Lr 27, [79]⟩ :: ⟨[.op 25 0, .op 27 0], _, [], Lr 28, [80]⟩ :: ⟨[.op 28 0, .old 0], _, [], Lr 29, [81]⟩ :: ⟨[.op 28 0, .op 29 0], _, [], Lr 30, [82]⟩ :: ⟨[.op 28 0, .op 30 0], _, [], Lr 31, [83]⟩ :: ⟨[.op 25 0, .op 28 0, .op 31 0], _, [], Lr 32, [84]⟩ :: ⟨[.op 25 0, .op 32 0], _, [], Lr 33, [85]⟩ :: []) (F := [.old 0, .old 4, .old 5, .op 33 0]) hst hb Za
     (o_p rfl (Zd rfl rfl u_0) <| o_p rfl (Zb4 rfl rfl u_0) <| o_p rfl (Zd rfl rfl u_0) <| o_g (g_t rfl rfl rfl (fun hG => Ze Zgp rfl rfl u_0)) <| o_g (g_t rfl rfl rfl (fun hG => Zg ty_9 rfl rfl (Opd.gd hG u_0))) <| o_g (g_t rfl rfl rfl (fun hG => Zod rfl rfl (Opd.gd hG u_0) c_s)) <| o_p rfl (Zbb rfl rfl u_0 (fun hz => (Opd.gd hz u_1))) <| o_p rfl (Zd rfl rfl u_0) <| o_g (g_f rfl rfl rfl (fun hG => Zd rfl rfl u_0)) <| o_g (g_f rfl rfl rfl (fun hG => Zb4 rfl rfl (Opd.gd hG u_0))) <| o_g (g_f rfl rfl rfl (fun hG => Zd rfl rfl (Opd.gd hG u_0))) <| o_g (g_ti rfl rfl rfl (fun hG => Ze Zbx rfl rfl u_0)) <| o_g (g_ti rfl rfl rfl (fun hG => Zg ty_2 rfl rfl (Opd.gd hG u_0))) <| o_g (g_ti rfl rfl rfl (fun hG => Zdu rfl rfl (Opd.gd hG u_0) c_i)) <| o_g (g_f rfl rfl rfl (fun hG => Zbb rfl rfl (Opd.gd hG u_0) (fun hz => (Opd.gd (bA hG hz) u_1)))) <| o_p rfl (Zbj rfl rfl u_0 (fun hz => (Opd.gd (bNF hz) u_1))) <| o_p rfl (Zd rfl rfl u_0) <| o_g (g_f rfl rfl rfl (fun hG => Zd rfl rfl u_0)) <| o_g (g_f rfl rfl rfl (fun hG => Zb4 rfl rfl (Opd.gd hG u_0))) <| o_g (g_f rfl rfl rfl (fun hG => Zd rfl rfl (Opd.gd hG u_0))) <| o_g (g_ti rfl rfl rfl (fun hG => Ze Zgl rfl rfl u_0)) <| o_g (g_ti rfl rfl rfl (fun hG => Zg ty_2 rfl rfl (Opd.gd hG u_0))) <| o_g (g_ti rfl rfl rfl (fun hG => Zdu rfl rfl (Opd.gd hG u_0) c_i)) <| o_g (g_f rfl rfl rfl (fun hG => Zbb rfl rfl (Opd.gd hG u_0) (fun hz => (Opd.gd (bA hG hz) u_1)))) <| o_p rfl (Zbj rfl rfl u_0 (fun hz => (Opd.gd (bNF hz) u_1))) <| o_p rfl (Zd rfl rfl u_0) <| o_g (g_f rfl rfl rfl (fun hG => Zd rfl rfl u_0)) <| o_g (g_f rfl rfl rfl (fun hG => Zb4 rfl rfl (Opd.gd hG u_0))) <| o_g (g_f rfl rfl rfl (fun hG => Zd rfl rfl (Opd.gd hG u_0))) <| o_g (g_ti rfl rfl rfl (fun hG => Ze Zgn rfl rfl u_0)) <| o_g (g_ti rfl rfl rfl (fun hG => Zg ty_2 rfl rfl (Opd.gd hG u_0))) <| o_g (g_ti rfl rfl rfl (fun hG => Zdu rfl rfl (Opd.gd hG u_0) c_i)) <| o_g (g_f rfl rfl rfl (fun hG => Zbb rfl rfl (Opd.gd hG u_0) (fun hz => (Opd.gd (bA hG hz) u_1)))) <| o_p rfl (Zbj rfl rfl u_0 (fun hz => (Opd.gd (bNF hz) u_1))) <| o_n) (by kernel_rfl) (fun a g hst hb => ?_)
   refine wp_cond_split (hst.bool 3 rfl) (fun hc24 => ?_) (fun hc24 => ?_)
   · replace H0 := Zp hc24 H0
     refine r_s (L := []) (T := [⟨[], _, [], [], [4]⟩]) (F := [.op 0 0]) (hst.pick [] rfl) hb Za
       (o_p rfl (Zc rfl rfl c_b) <| o_n) (by kernel_rfl) (fun a g hst hb => ?_)
     refine wp_ret ?_
     refine Zm ?_
     obtain rfl := Option.some.inj H0
     exact Zx rfl hst hb (Zl (s := 4)) (hst.at 0 rfl)
   · replace H0 := Zo hc24 H0
     refine wp_skip ?_
     refine Zq ?_
     obtain ⟨r25, h26, H0⟩ := Zk H0
     refine r_s (L := [(2, _), (8, _), (9, _)]) (T := ⟨[.old 1], _, [], [], [86]⟩ :: ⟨[.op 0 0], _, [], [0], [87]⟩ :: ⟨[.op 1 0, .old 0], _, [], [0, 1], [88]⟩ :: ⟨[.op 1 0, .op 2 0], _, [], [0, 1, 2], [89]⟩ :: ⟨[.op 1 0, .op 3 0], _, [], Lr 4, [90]⟩ :: ⟨[.op 1 0, .op 4 0], _, [], Lr 5, [91]⟩ :: ⟨[.op 5 0], _, [], Lr 6, [92]⟩ :: ⟨[.op 6 0, .old 2], _, [], Lr 7, [93]⟩ :: ⟨[.op 6 0, .op 7 0], _, [], Lr 8, [94]⟩ :: ⟨[.op 8 0, .old 0], _, [], Lr 9, [95]⟩ :: ⟨[.op 8 0, .op 9 0], _, [], Lr 10, [96]⟩ :: ⟨[.op 8 0, .op 10 0], _, [], Lr 11, [97]⟩ :: ⟨[.op 8 0, .op 11 0], _, [], Lr 12, [98]⟩ :: ⟨[.op 12 0, .old 0], _, [], Lr 13, [99]⟩ :: ⟨[.op 12 0, .op 13 0], _, [], Lr 14, [100]⟩ :: ⟨[.op 12 0, .op 14 0], _, [], Lr 15, [101]⟩ :: ⟨[.op 12 0, .op 15 0], _, [], Lr 16, [102]⟩ :: ⟨[.op 8 0, .op 12 0, .op 16 0], _, [], Lr 17, [103]⟩ :: ⟨[.op 6 0, .op 8 0, .op 17 0], _, [], Lr 18, [104]⟩ :: ⟨[.op 6 0, .op 18 0], _, [], Lr 19, [105]⟩ :: ⟨[.op 19 0], _, [], Lr 20, [4]⟩ :: []) (F := [.op 20 0]) (hst.pick [0, 1, 2] rfl) hb Za
       (o_p rfl (Zd rfl rfl u_0) <| o_p rfl (Zd rfl rfl u_0) <| o_g (g_f rfl rfl rfl (fun hG => Ze Zcv rfl rfl u_0)) <| o_g (g_f rfl rfl rfl (fun hG => Zg Zby rfl rfl (Opd.gd hG u_0))) <| o_g (g_f rfl rfl rfl (fun hG => Zt Zyw (Zka _ (Zbn h26 hG)) rfl rfl (.cons (Opd.gd hG u_0) .nil))) <| o_p rfl (Zbj rfl rfl u_0 (fun hz => (Opd.gd (bNF hz) u_1))) <| o_p rfl (Zd rfl rfl u_0) <| o_g (g_t rfl rfl rfl (fun hG => Zd rfl rfl u_0)) <| o_g (g_t rfl rfl rfl (fun hG => Zd rfl rfl (Opd.gd hG u_0))) <| o_g (g_fi rfl rfl rfl (fun hG => Ze Zeo rfl rfl u_0)) <| o_g (g_fi rfl rfl rfl (fun hG => Zg ty_3 rfl rfl (Opd.gd hG u_0))) <| o_g (g_fi rfl rfl rfl (fun hG => Z7 rfl rfl (Opd.gd hG u_0) c_i)) <| o_g (g_fi rfl rfl rfl (fun hG => Zd rfl rfl (Opd.gd hG u_0))) <| o_g (g_ti rfl rfl rfl (fun hG => Ze Zbm rfl rfl u_0)) <| o_g (g_ti rfl rfl rfl (fun hG => Zg Zca rfl rfl (Opd.gd hG u_0))) <| o_g (g_ti rfl rfl rfl (fun hG => Zcd Tryd.underlying23 rfl rfl (Opd.gd hG u_0))) <| o_g (g_ti rfl rfl rfl (fun hG => Z7 rfl rfl (Opd.gd hG u_0) c_i)) <| o_g (g_fi rfl rfl rfl (fun hG => Zbb rfl rfl (Opd.gd hG u_0) (fun hz => (Opd.gd (bA hG hz) u_1)))) <| o_g (g_t rfl rfl rfl (fun hG => Zbj rfl rfl (Opd.gd hG u_0) (fun hz => (Opd.gd (bA hG (bNF hz)) u_1)))) <| o_p rfl (Zbb rfl rfl u_0 (fun hz => (Opd.gd hz u_1))) <| o_p rfl (Zc rfl rfl u_0) <| o_n) (by kernel_rfl) (fun a g hst hb => ?_)
     refine wp_ret ?_
     obtain rfl := Option.some.inj H0
     exact Zx rfl hst hb (Zl (s := 4)) (hst.at 0 rfl)
 · refine wp_block ?_
   refine wp_loop_ghost (fun n a w => ∃ (x1 : Bool) (x2 : Bool) (x3 : Bool) (x4 : Bool) (x5 : Bool) (x6 : Int) (g : G), w = g.w ∧ St 106 [(1, (pStr a1)), (2, (Zf.ptr a0)), (5, (Zba x1)), (6, (Zba x2)), (7, (Zba x3)), (8, (Zba x4)), (9, (Zba x5)), (10, (pInt .i64 x6))] a g ∧ Base g0 g ∧ Zcp a1 n x1 x2 x3 x4 x5 x6 = some z23) (Int.toNat ((a1.size : Int) - (0 : Int)) + 1) ⟨false, false, false, false, false, (0 : Int), g, rfl, (hst.pick [0, 1, 2, 3, 4, 5, 6, 7] rfl), hb, hz1⟩ (fun n a w hI => ?_)
   obtain ⟨x1, x2, x3, x4, x5, x6, g, rfl, hst, hb, H1⟩ := hI
   cases n with
   | zero => exact absurd H1 (by simp [Zcp])
   | succ n =>
     rw [Zcp] at H1
     refine wp_seq ?_
     refine r_s (T := [⟨[.old 7], _, [], [], [11]⟩, ⟨[.old 0], _, [], [], [12]⟩, ⟨[.op 1 0], _, [], [1], [13]⟩, ⟨[.op 0 0, .op 2 0], _, [], [0, 1, 2], [14]⟩]) (F := [.old 0, .old 1, .old 2, .old 3, .old 4, .old 5, .old 6, .old 7, .op 3 0]) hst hb Za
       (o_p rfl (Zd rfl rfl u_0) <| o_p rfl (Zd rfl rfl u_0) <| o_p rfl (Ze8 Tryd.underlying9 rfl rfl u_0) <| o_p rfl (Zcb rfl rfl u_0 u_1) <| o_n) (by kernel_rfl) (fun a g hst hb => ?_)
     refine wp_cond_split (hst.bool 8 rfl) (fun hc7 => ?_) (fun hc7 => ?_)
     · replace H1 := Zp hc7 H1
       refine wp_skip ?_
       refine Zq ?_
       refine wp_seq ?_
       refine wp_block ?_
       obtain ⟨b8, h9, H1⟩ := Zk H1
       refine r_s (L := [(1, _), (2, _), (5, _), (6, _), (7, _), (8, _), (9, _), (10, _)]) (T := [⟨[.old 2], _, [], [], [17]⟩, ⟨[.op 0 0], _, [], [0], [18]⟩, ⟨[.op 1 0, .old 0], _, [], [0, 1], [19]⟩, ⟨[.op 1 0, .old 7], _, [], [0, 1], [20]⟩, ⟨[.op 1 0, .op 2 0, .op 3 0], _, [], Lr 4, [21]⟩, ⟨[.op 1 0, .op 4 0], _, [], Lr 5, [22]⟩, ⟨[.op 1 0, .op 5 0], _, [], Lr 6, [23]⟩, ⟨[.op 6 0], _, [], Lr 7, [5]⟩]) (F := [.old 0, .old 1, .op 7 0, .old 3, .old 4, .old 5, .old 6, .old 7]) (hst.pick [0, 1, 2, 3, 4, 5, 6, 7] rfl) hb Za
         (o_p rfl (Zd rfl rfl u_0) <| o_p rfl (Zd rfl rfl u_0) <| o_g (g_f rfl rfl rfl (fun hG => Zd rfl rfl u_0)) <| o_g (g_f rfl rfl rfl (fun hG => Zd rfl rfl u_0)) <| o_g (g_f rfl rfl rfl (fun hG => Zkh Tryd.underlying9 rfl rfl (Opd.gd hG u_0) (Opd.gd hG u_1) (Zbn h9 hG))) <| o_g (g_f rfl rfl rfl (fun hG => Z7 rfl rfl (Opd.gd hG u_0) c_i)) <| o_p rfl (Zbj rfl rfl u_0 (fun hz => (Opd.gd (bNF hz) u_1))) <| o_p rfl (Zc rfl rfl u_0) <| o_n) (by kernel_rfl) (fun a g hst hb => ?_)
       obtain ⟨b10, h11, H1⟩ := Zk H1
       refine r_s (T := [⟨[.old 3], _, [], [], [24]⟩, ⟨[.op 0 0], _, [], [0], [25]⟩, ⟨[.op 1 0, .old 0], _, [], [0, 1], [26]⟩, ⟨[.op 1 0, .old 7], _, [], [0, 1], [27]⟩, ⟨[.op 1 0, .op 2 0, .op 3 0], _, [], Lr 4, [28]⟩, ⟨[.op 1 0, .op 4 0], _, [], Lr 5, [29]⟩, ⟨[.op 1 0, .op 5 0], _, [], Lr 6, [30]⟩, ⟨[.op 6 0], _, [], Lr 7, [6]⟩]) (F := [.old 0, .old 1, .old 2, .op 7 0, .old 4, .old 5, .old 6, .old 7]) hst hb Za
         (o_p rfl (Zd rfl rfl u_0) <| o_p rfl (Zd rfl rfl u_0) <| o_g (g_f rfl rfl rfl (fun hG => Zd rfl rfl u_0)) <| o_g (g_f rfl rfl rfl (fun hG => Zd rfl rfl u_0)) <| o_g (g_f rfl rfl rfl (fun hG => Zkh Tryd.underlying9 rfl rfl (Opd.gd hG u_0) (Opd.gd hG u_1) (Zbn h11 hG))) <| o_g (g_f rfl rfl rfl (fun hG => Z7 rfl rfl (Opd.gd hG u_0) c_i)) <| o_p rfl (Zbj rfl rfl u_0 (fun hz => (Opd.gd (bNF hz) u_1))) <| o_p rfl (Zc rfl rfl u_0) <| o_n) (by kernel_rfl) (fun a g hst hb => ?_)
       obtain ⟨b12, h13, H1⟩ := Zk H1
       refine r_s (T := [⟨[.old 4], _, [], [], [31]⟩, ⟨[.op 0 0], _, [], [0], [32]⟩, ⟨[.op 1 0, .old 0], _, [], [0, 1], [33]⟩, ⟨[.op 1 0, .old 7], _, [], [0, 1], [34]⟩, ⟨[.op 1 0, .op 2 0, .op 3 0], _, [], Lr 4, [35]⟩, ⟨[.op 1 0, .op 4 0], _, [], Lr 5, [36]⟩, ⟨[.op 1 0, .op 5 0], _, [], Lr 6, [37]⟩, ⟨[.op 6 0], _, [], Lr 7, [7]⟩]) (F := [.old 0, .old 1, .old 2, .old 3, .op 7 0, .old 5, .old 6, .old 7]) hst hb Za
         (o_p rfl (Zd rfl rfl u_0) <| o_p rfl (Zd rfl rfl u_0) <| o_g (g_f rfl rfl rfl (fun hG => Zd rfl rfl u_0)) <| o_g (g_f rfl rfl rfl (fun hG => Zd rfl rfl u_0)) <| o_g (g_f rfl rfl rfl (fun hG => Zkh Tryd.underlying9 rfl rfl (Opd.gd hG u_0) (Opd.gd hG u_1) (Zbn h13 hG))) <| o_g (g_f rfl rfl rfl (fun hG => Z7 rfl rfl (Opd.gd hG u_0) c_i)) <| o_p rfl (Zbj rfl rfl u_0 (fun hz => (Opd.gd (bNF hz) u_1))) <| o_p rfl (Zc rfl rfl u_0) <| o_n) (by kernel_rfl) (fun a g hst hb => ?_)
       obtain ⟨b14, h15, H1⟩ := Zk H1
       refine r_s (T := [⟨[.old 5], _, [], [], [38]⟩, ⟨[.op 0 0], _, [], [0], [39]⟩, ⟨[.op 1 0, .old 0], _, [], [0, 1], [40]⟩, ⟨[.op 1 0, .old 7], _, [], [0, 1], [41]⟩, ⟨[.op 1 0, .op 2 0, .op 3 0], _, [], Lr 4, [42]⟩, ⟨[.op 1 0, .op 4 0], _, [], Lr 5, [43]⟩, ⟨[.op 1 0, .op 5 0], _, [], Lr 6, [44]⟩, ⟨[.op 6 0], _, [], Lr 7, [8]⟩]) (F := [.old 0, .old 1, .old 2, .old 3, .old 4, .op 7 0, .old 6, .old 7]) hst hb Za
         (o_p rfl (Zd rfl rfl u_0) <| o_p rfl (Zd rfl rfl u_0) <| o_g (g_f rfl rfl rfl (fun hG => Zd rfl rfl u_0)) <| o_g (g_f rfl rfl rfl (fun hG => Zd rfl rfl u_0)) <| o_g (g_f rfl rfl rfl (fun hG => Zkh Tryd.underlying9 rfl rfl (Opd.gd hG u_0) (Opd.gd hG u_1) (Zbn h15 hG))) <| o_g (g_f rfl rfl rfl (fun hG => Z7 rfl rfl (Opd.gd hG u_0) c_i)) <| o_p rfl (Zbj rfl rfl u_0 (fun hz => (Opd.gd (bNF hz) u_1))) <| o_p rfl (Zc rfl rfl u_0) <| o_n) (by kernel_rfl) (fun a g hst hb => ?_)
       obtain ⟨b16, h17, H1⟩ := Zk H1
       refine r_g (T := [⟨[.old 6], _, [], [], [45]⟩, ⟨[.op 0 0], _, [], [0], [46]⟩, ⟨[.op 1 0, .old 0], _, [], [0, 1], [47]⟩, ⟨[.op 1 0, .old 7], _, [], [0, 1], [48]⟩, ⟨[.op 1 0, .op 2 0, .op 3 0], _, [], Lr 4, [49]⟩, ⟨[.op 1 0, .op 4 0], _, [], Lr 5, [50]⟩, ⟨[.op 1 0, .op 5 0], _, [], Lr 6, [51]⟩, ⟨[.op 6 0], _, [], Lr 7, [9]⟩]) (F := [.old 0, .old 1, .old 2, .old 3, .old 4, .old 5, .op 7 0, .old 7]) hst hb Za
         (o_p rfl (Zd rfl rfl u_0) <| o_p rfl (Zd rfl rfl u_0) <| o_g (g_f rfl rfl rfl (fun hG => Zd rfl rfl u_0)) <| o_g (g_f rfl rfl rfl (fun hG => Zd rfl rfl u_0)) <| o_g (g_f rfl rfl rfl (fun hG => Zkh Tryd.underlying9 rfl rfl (Opd.gd hG u_0) (Opd.gd hG u_1) (Zbn h17 hG))) <| o_g (g_f rfl rfl rfl (fun hG => Z7 rfl rfl (Opd.gd hG u_0) c_i)) <| o_p rfl (Zbj rfl rfl u_0 (fun hz => (Opd.gd (bNF hz) u_1))) <| o_p rfl (Zc rfl rfl u_0) <| o_n) (by kernel_rfl) (fun a g hst hb => ?_)
       refine Z6 ?_
       refine Zq ?_
       refine r_g (T := [⟨[.old 7], _, [], [], [15]⟩, ⟨[.op 0 0], _, [], [0], [16]⟩, ⟨[.op 1 0], _, [], [0, 1], [10]⟩]) (F := [.old 0, .old 1, .old 2, .old 3, .old 4, .old 5, .old 6, .op 2 0]) hst hb Za
         (o_p rfl (Zd rfl rfl u_0) <| o_p rfl (Zcg rfl rfl u_0 c_i rfl) <| o_p rfl (Zc rfl rfl u_0) <| o_n) (by kernel_rfl) (fun a g hst hb => ?_)
       exact ⟨n, Nat.lt_succ_self _, (x1 || (b8 == (116 : Int))), (x2 || (b10 == (110 : Int))), (x3 || (b12 == (98 : Int))), (x4 || (b14 == (114 : Int))), (x5 || (b16 == (108 : Int))), (IntKind.i64.wrap (x6 + (1 : Int))), g, rfl, (hst.pick [0, 1, 2, 3, 4, 5, 6, 7] rfl), hb, H1⟩
     · replace H1 := Zo hc7 H1
       refine wp_exit ?_
       refine Zcf ?_
       refine Zcf ?_
       refine Zc1 ?_
       exact ⟨x1, x2, x3, x4, x5, g, rfl, (hst.pick [1, 2, 3, 4, 5, 6] rfl), hb, Option.some.inj H1⟩
theorem Zml (a0 : Int) {r : ByteArray} (h : Zg2 a0 = some r) : FnOk Tryd.prog 45 [(pInt .i64 a0)] (pStr r) := by
 have H0 := h
 unfold Zg2 at H0
 clear h
 refine Zbq (N := 15) Tryd.func45 rfl rfl (Nat.le_of_ble_eq_true rfl) rfl rfl (fun a g0 hst hb => ?_)
 refine r_s (T := [⟨[], _, [], [], [2]⟩]) (F := [.old 0]) hst hb Za
   (o_p rfl (Zc rfl rfl c_s) <| o_n) (by kernel_rfl) (fun a g hst hb => ?_)
 refine r_s (T := [⟨[], _, [], [], [4]⟩, ⟨[.op 0 0], _, [], [0], [3]⟩]) (F := [.old 0, .op 1 0]) hst hb Za
   (o_p rfl (Zgx Zwq (xs := [.const (.string ⟨#[]⟩), .const (.string ⟨#[116]⟩), .const (.string ⟨#[110]⟩), .const (.string ⟨#[110]⟩), .const (.string ⟨#[110, 98]⟩), .const (.string ⟨#[114]⟩), .const (.string ⟨#[114]⟩), .const (.string ⟨#[114]⟩), .const (.string ⟨#[108]⟩), .const (.string ⟨#[108]⟩)]) (.cons c_s (.cons c_s (.cons c_s (.cons c_s (.cons c_s (.cons c_s (.cons c_s (.cons c_s (.cons c_s (.cons c_s .nil)))))))))) (by decide) rfl rfl) <| o_p rfl (Zc rfl rfl u_0) <| o_n) (by kernel_rfl) (fun a g hst hb => ?_)
 refine wp_seq ?_
 refine r_s (T := [⟨[.old 0], _, [], [], [5]⟩, ⟨[.op 0 0], _, [], [0], [6]⟩, ⟨[.op 1 0], _, [], [0, 1], [7]⟩, ⟨[.op 2 0, .old 0], _, [], [0, 1, 2], [8]⟩, ⟨[.op 2 0, .op 3 0], _, [], Lr 4, [9]⟩, ⟨[.op 2 0, .op 4 0], _, [], Lr 5, [10]⟩]) (F := [.old 0, .old 1, .op 5 0]) hst hb Za
   (o_p rfl (Zd rfl rfl u_0) <| o_p rfl (Zcb rfl rfl u_0 c_i) <| o_p rfl (Zd rfl rfl u_0) <| o_g (g_f rfl rfl rfl (fun hG => Zd rfl rfl u_0)) <| o_g (g_f rfl rfl rfl (fun hG => Zcj rfl rfl (Opd.gd hG u_0) c_i)) <| o_p rfl (Zbj rfl rfl u_0 (fun hz => (Opd.gd (bNF hz) u_1))) <| o_n) (by kernel_rfl) (fun a g hst hb => ?_)
 refine wp_cond_split (hst.bool 2 rfl) (fun hc1 => ?_) (fun hc1 => ?_)
 · replace H0 := Zp hc1 H0
   refine r_s (L := []) (T := [⟨[], _, [], [], [2]⟩]) (F := [.op 0 0]) (hst.pick [] rfl) hb Za
     (o_p rfl (Zc rfl rfl c_s) <| o_n) (by kernel_rfl) (fun a g hst hb => ?_)
   refine wp_ret ?_
   refine Zm ?_
   obtain rfl := Option.some.inj H0
   exact Zx rfl hst hb (Zl (s := 2)) (hst.at 0 rfl)
 · replace H0 := Zo hc1 H0
   refine wp_skip ?_
   refine Zq ?_
   obtain ⟨e2, h3, H0⟩ := Zk H0
   refine r_s (L := [(0, _), (3, _)]) (T := [⟨[.old 1], _, [], [], [11]⟩, ⟨[.old 0], _, [], [], [12]⟩, ⟨[.op 0 0, .op 1 0], _, [], [0, 1], [13]⟩, ⟨[.op 2 0], _, [], [0, 1, 2], [14]⟩, ⟨[.op 3 0], _, [], Lr 4, [2]⟩]) (F := [.op 4 0]) (hst.pick [0, 1] rfl) hb Za
     (o_p rfl (Zd rfl rfl u_0) <| o_p rfl (Zd rfl rfl u_0) <| o_p rfl (Zbh Tryd.underlying122 sz_9 rfl rfl u_0 u_1 h3) <| o_p rfl (Zg ty_9 rfl rfl u_0) <| o_p rfl (Zc rfl rfl u_0) <| o_n) (by kernel_rfl) (fun a g hst hb => ?_)
   refine wp_ret ?_
   obtain rfl := Option.some.inj H0
   exact Zx rfl hst hb (Zl (s := 2)) (hst.at 0 rfl)
theorem Zhv (a0 : Nat) {r : Bool} (h : Zei a0 = some r) : FnOk Tryd.prog 46 [(pFlt a0)] (Zba r) := by
 have H0 := h
 unfold Zei at H0
 clear h
 refine Zbq (N := 11) Tryd.func46 rfl rfl (Nat.le_of_ble_eq_true rfl) rfl rfl (fun a g0 hst hb => ?_)
 refine r_s (T := [⟨[], _, [], [], [2]⟩]) (F := [.old 0]) hst hb Za
   (o_p rfl (Zc rfl rfl c_b) <| o_n) (by kernel_rfl) (fun a g hst hb => ?_)
 obtain ⟨r1, h2, H0⟩ := Zk H0
 refine r_s (T := [⟨[.old 0], _, [], [], [3]⟩, ⟨[.op 0 0], _, [], [0], [4]⟩, ⟨[.op 1 0], _, [], [0, 1], [5]⟩, ⟨[.op 2 0], _, [], [0, 1, 2], [6]⟩, ⟨[.op 3 0, .old 0], _, [], Lr 4, [7]⟩, ⟨[.op 3 0, .op 4 0], _, [], Lr 5, [8]⟩, ⟨[.op 3 0, .op 5 0], _, [], Lr 6, [9]⟩, ⟨[.op 3 0, .op 6 0], _, [], Lr 7, [10]⟩, ⟨[.op 7 0], _, [], Lr 8, [2]⟩]) (F := [.op 8 0]) hst hb Za
   (o_p rfl (Zd rfl rfl u_0) <| o_p rfl (Zt Zr3 (Zgu _ h2) rfl rfl (.cons u_0 .nil)) <| o_p rfl (Zb4 rfl rfl u_0) <| o_p rfl (Zd rfl rfl u_0) <| o_g (g_f rfl rfl rfl (fun hG => Zd rfl rfl u_0)) <| o_g (g_f rfl rfl rfl (fun hG => Zl9 Zp8 rfl rfl (Opd.gd hG u_0))) <| o_g (g_f rfl rfl rfl (fun hG => Z7 rfl rfl (Opd.gd hG u_0) c_i)) <| o_p rfl (Zbj rfl rfl u_0 (fun hz => (Opd.gd (bNF hz) u_1))) <| o_p rfl (Zc rfl rfl u_0) <| o_n) (by kernel_rfl) (fun a g hst hb => ?_)
 refine wp_ret ?_
 obtain rfl := Option.some.inj H0
 exact Zx rfl hst hb (Zl (s := 2)) (hst.at 0 rfl)
theorem Zj7 (a0 : Zh) (a1 : Zh) {r : Bool} (h : Zew a0 a1 = some r) : FnOk Tryd.prog 74 [(Zr.pd a0), (Zr.pd a1)] (Zba r) := by
 have H0 := h
 unfold Zew at H0
 clear h
 refine Zbq (N := 22) Tryd.func74 rfl rfl (Nat.le_of_ble_eq_true rfl) rfl rfl (fun a g0 hst hb => ?_)
 refine r_s (T := [⟨[.old 0], _, [], [], [2]⟩, ⟨[.old 1], _, [], [], [3]⟩, ⟨[], _, [], [], [4]⟩]) (F := [.op 0 0, .op 1 0]) hst hb Za
   (o_p rfl (Zbs rfl rfl u_0) <| o_p rfl (Zbs rfl rfl u_0) <| o_p rfl (Zc rfl rfl c_b) <| o_n) (by kernel_rfl) (fun a g hst hb => ?_)
 refine wp_seq ?_
 obtain ⟨r1, h2, H0⟩ := Zk H0
 refine r_s (T := [⟨[.old 1], _, [], [], [5]⟩, ⟨[.op 0 0], _, [], [0], [6]⟩, ⟨[.old 0], _, [], [], [7]⟩, ⟨[.op 2 0], _, [], [2], [8]⟩, ⟨[.op 1 0, .op 3 0], _, [], Lr 4, [9]⟩]) (F := [.old 0, .old 1, .op 4 0]) hst hb Za
   (o_p rfl (Ze Zee rfl rfl u_0) <| o_p rfl (Zg Zby rfl rfl u_0) <| o_p rfl (Ze Zee rfl rfl u_0) <| o_p rfl (Zg Zby rfl rfl u_0) <| o_p rfl (Zt Zpv (Zfr _ _ h2) rfl rfl (.cons u_0 (.cons u_1 .nil))) <| o_n) (by kernel_rfl) (fun a g hst hb => ?_)
 refine wp_cond_split (hst.bool 2 rfl) (fun hc3 => ?_) (fun hc3 => ?_)
 · replace H0 := Zp hc3 H0
   refine r_s (L := []) (T := [⟨[], _, [], [], [4]⟩]) (F := [.op 0 0]) (hst.pick [] rfl) hb Za
     (o_p rfl (Zc rfl rfl c_b) <| o_n) (by kernel_rfl) (fun a g hst hb => ?_)
   refine wp_ret ?_
   refine Zm ?_
   obtain rfl := Option.some.inj H0
   exact Zx rfl hst hb (Zl (s := 4)) (hst.at 0 rfl)
 · replace H0 := Zo hc3 H0
   refine wp_skip ?_
   refine Zq ?_
   obtain ⟨r4, h5, H0⟩ := Zk H0
   refine r_s (L := [(2, _), (3, _)]) (T := ⟨[.old 0], _, [], [], [10]⟩ :: ⟨[.op 0 0], _, [], [0], [11]⟩ :: ⟨[.old 1], _, [], [], [12]⟩ :: ⟨[.op 2 0], _, [], [2], [13]⟩ :: ⟨[.op 1 0, .op 3 0], _, [], Lr 4, [14]⟩ :: ⟨[.op 4 0], _, [], Lr 5, [15]⟩ :: ⟨[.op 5 0, .old 0], _, [], Lr 6, [16]⟩ :: ⟨[.op 5 0, .op 6 0], _, [], Lr 7, [17]⟩ :: ⟨[.op 5 0, .old 1], _, [], Lr 6, [18]⟩ :: ⟨[.op 5 0, .op 8 0], _, [], [0, 1, 2, 3, 4, 5, 8], [19]⟩ :: ⟨[.op 5 0, .op 7 0, .op 9 0], _, [], Lr 10, [20]⟩ :: ⟨[.op 5 0, .op 10 0], _, [], Lr 11, [21]⟩ :: ⟨[.op 11 0], _, [], Lr 12, [4]⟩ :: []) (F := [.op 12 0]) (hst.pick [0, 1] rfl) hb Za
     (o_p rfl (Ze Zee rfl rfl u_0) <| o_p rfl (Zg Zby rfl rfl u_0) <| o_p rfl (Ze Zee rfl rfl u_0) <| o_p rfl (Zg Zby rfl rfl u_0) <| o_p rfl (Zt Zon (Ze1 _ _ h5) rfl rfl (.cons u_0 (.cons u_1 .nil))) <| o_p rfl (Zd rfl rfl u_0) <| o_g (g_t rfl rfl rfl (fun hG => Ze Zc4 rfl rfl u_0)) <| o_g (g_t rfl rfl rfl (fun hG => Zg ty_9 rfl rfl (Opd.gd hG u_0))) <| o_g (g_t rfl rfl rfl (fun hG => Ze Zc4 rfl rfl u_0)) <| o_g (g_t rfl rfl rfl (fun hG => Zg ty_9 rfl rfl (Opd.gd hG u_0))) <| o_g (g_t rfl rfl rfl (fun hG => Znv rfl rfl (Opd.gd hG u_0) (Opd.gd hG u_1))) <| o_p rfl (Zbb rfl rfl u_0 (fun hz => (Opd.gd hz u_1))) <| o_p rfl (Zc rfl rfl u_0) <| o_n) (by kernel_rfl) (fun a g hst hb => ?_)
   refine wp_ret ?_
   obtain rfl := Option.some.inj H0
   exact Zx rfl hst hb (Zl (s := 4)) (hst.at 0 rfl)
end Go.CL
