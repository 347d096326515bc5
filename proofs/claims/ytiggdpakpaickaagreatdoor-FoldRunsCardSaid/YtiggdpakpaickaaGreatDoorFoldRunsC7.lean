/- A part of the proof of FoldRuns. -/
import Derived.Test.YtiggdpakpaickaaGreatDoorFoldRunsC6
import Derived.KernelRfl
import Derived.Laws.Strings
set_option linter.unusedVariables false
set_option linter.unusedSimpArgs false
set_option maxRecDepth 100000
namespace Go.CL
open Go Go.RowKit Go.Proofs
theorem Zpo (a0 : Ze) (a1 : Bool) (a2 : Z2) {r : Ze × Bool × Zg} (h : Zhl a0 a1 a2 = some r) : FnOk Tryz.prog 58 [(Zi.pd a0), (Zbg a1), (Zbd.pd a2)] (pTup [(Zi.pd r.1), (Zbg r.2.1), (Zm.pd r.2.2)]) := by
 have H0 := h
 unfold Zhl at H0
 clear h
 refine Zbn (N := 109) Tryz.func58 rfl rfl (Nat.le_of_ble_eq_true rfl) rfl rfl (fun a g0 hst hb => ?_)
 refine r_s (T := [⟨[.old 0], _, [4], [], [3]⟩, ⟨[.old 2], _, [], [], [5]⟩, ⟨[], [(6, (pBox Zi 6 (default : Ze)))], [7], [], [6]⟩, ⟨[], _, [], [], [7]⟩, ⟨[], [(8, (pBox Zm 8 (default : Zg)))], [9], [], [8]⟩]) (F := [.old 1, .op 0 0, .op 1 0, .op 2 0, .op 4 0]) hst hb Za
   (o_p rfl (Zkz rfl rfl u_0) <| o_p rfl (Zbj rfl rfl u_0) <| o_p rfl (Zbb (zs := [.int .i64 0, .int .i64 0, .int .i64 0, .int .i64 0, .float .f64 0, .int .i64 0, .string ByteArray.empty, .slice none 0 0]) (by kernel_rfl) (fun g => Zb8 g) rfl rfl) <| o_p rfl (Zc rfl rfl c_b) <| o_p rfl (Zbb (zs := [.int .i64 0, .int .i64 0, .int .i64 0, .int .i64 0, .int .i64 0, .int .i64 0, .float .f64 0, .int .i64 0, .string ByteArray.empty, .slice none 0 0]) (by kernel_rfl) (fun g => Zcv g) rfl rfl) <| o_n) (by kernel_rfl) (fun a g hst hb => ?_)
 refine wp_seq ?_
 refine r_s (T := [⟨[.old 0], _, [], [], [13]⟩, ⟨[.op 0 0], _, [], [0], [14]⟩]) (F := [.old 0, .old 1, .old 2, .old 3, .old 4, .op 1 0]) hst hb Za
   (o_p rfl (Zb rfl rfl u_0) <| o_p rfl (Zb7 rfl rfl u_0) <| o_n) (by kernel_rfl) (fun a g hst hb => ?_)
 refine Zcb (fun a w => ∃ (j2 : Ze) (g : G), w = g.w ∧ St 109 [(1, (Zbg a1)), (3, (pBox Zi 3 j2)), (5, (Zbd.ptr a2)), (6, (pBox Zi 6 (default : Ze))), (8, (pBox Zm 8 (default : Zg)))] a g ∧ Base g0 g ∧ Zfk a1 a2 j2 = some r) ?_ ?_
 · rintro a w ⟨j2, g, rfl, hst, hb, H0⟩
   unfold Zfk at H0
   refine Zr ?_
   obtain ⟨r3, h4, H0⟩ := Zh H0
   refine r_s (T := [⟨[.old 1], _, [], [], [16]⟩, ⟨[.op 0 0], _, [], [0], [17]⟩, ⟨[.op 1 0, .old 1], _, [4], [0, 1], [3]⟩]) (F := [.old 0, .op 2 0, .old 2, .old 3, .old 4]) hst hb Za
     (o_p rfl (Zbw Zba rfl rfl u_0) <| o_p rfl (Zn Zwb (Zhj _ h4) rfl rfl (.cons u_0 .nil)) <| o_p rfl (Zz Zba rfl rfl u_1 u_0) <| o_n) (by kernel_rfl) (fun a g hst hb => ?_)
   obtain ⟨r5, h6, H0⟩ := Zh H0
   refine r_s (T := [⟨[.old 2], _, [], [], [18]⟩, ⟨[.op 0 0], _, [], [0], [19]⟩, ⟨[.op 1 0], _, [], [0, 1], [9]⟩]) (F := [.old 0, .old 1, .old 2, .old 3, .old 4, .op 2 0]) hst hb Za
     (o_p rfl (Zf Zfi rfl rfl u_0) <| o_p rfl (Zn Z4w (Zl1 _ h6) rfl rfl (.cons u_0 .nil)) <| o_p rfl (Zc rfl rfl u_0) <| o_n) (by kernel_rfl) (fun a g hst hb => ?_)
   refine wp_seq ?_
   refine r_s (T := [⟨[.old 5], _, [], [], [20]⟩, ⟨[.op 0 0], _, [], [0], [21]⟩, ⟨[.op 1 0], _, [], [0, 1], [22]⟩, ⟨[.op 2 0, .old 0], _, [], [0, 1, 2], [23]⟩, ⟨[.op 2 0, .op 3 0], _, [], List.range 4, [24]⟩]) (F := [.old 0, .old 1, .old 2, .old 3, .old 4, .old 5, .op 4 0]) hst hb Za
     (o_p rfl (Zb rfl rfl u_0) <| o_p rfl (Zbk rfl rfl u_0 c_i) <| o_p rfl (Zb rfl rfl u_0) <| o_g (g_t rfl rfl rfl (fun hG => Zb rfl rfl u_0)) <| o_p rfl (Zbc rfl rfl u_0 (fun hz => (Opd.gd hz u_1))) <| o_n) (by kernel_rfl) (fun a g hst hb => ?_)
   refine Zcb (fun a w => ∃ (j10 : Int) (g : G), w = g.w ∧ St 109 [(1, (Zbg a1)), (3, (pBox Zi 3 r3)), (5, (Zbd.ptr a2)), (6, (pBox Zi 6 (default : Ze))), (8, (pBox Zm 8 (default : Zg))), (9, (pInt .i64 j10))] a g ∧ Base g0 g ∧ Zd8 a1 a2 r3 j10 = some r) ?_ ?_
   · rintro a w ⟨j10, g, rfl, hst, hb, H0⟩
     unfold Zd8 at H0
     refine Zr ?_
     refine wp_seq ?_
     refine r_s (T := [⟨[.old 5], _, [], [], [27]⟩, ⟨[.op 0 0], _, [], [0], [28]⟩, ⟨[.op 1 0], _, [], [0, 1], [29]⟩, ⟨[.op 2 0, .old 2], _, [], [0, 1, 2], [30]⟩, ⟨[.op 2 0, .op 3 0], _, [], List.range 4, [31]⟩, ⟨[.op 2 0, .op 4 0], _, [], List.range 5, [32]⟩, ⟨[.op 2 0, .op 5 0], _, [], List.range 6, [33]⟩, ⟨[.op 6 0], _, [], List.range 7, [34]⟩, ⟨[.op 7 0, .old 0], _, [], List.range 8, [35]⟩, ⟨[.op 7 0, .op 8 0], _, [], List.range 9, [36]⟩]) (F := [.old 0, .old 1, .old 2, .old 3, .old 4, .old 5, .op 9 0]) hst hb Za
       (o_p rfl (Zb rfl rfl u_0) <| o_p rfl (Zbk rfl rfl u_0 c_i) <| o_p rfl (Zb rfl rfl u_0) <| o_g (g_t rfl rfl rfl (fun hG => Zd Zda rfl rfl u_0)) <| o_g (g_t rfl rfl rfl (fun hG => Zf ty_3 rfl rfl (Opd.gd hG u_0))) <| o_g (g_t rfl rfl rfl (fun hG => Zbk rfl rfl (Opd.gd hG u_0) c_i)) <| o_p rfl (Zbc rfl rfl u_0 (fun hz => (Opd.gd hz u_1))) <| o_p rfl (Zb rfl rfl u_0) <| o_g (g_t rfl rfl rfl (fun hG => Zb rfl rfl u_0)) <| o_p rfl (Zbc rfl rfl u_0 (fun hz => (Opd.gd hz u_1))) <| o_n) (by kernel_rfl) (fun a g hst hb => ?_)
     refine Zcb (fun a w => ∃ (j12 : Int) (g : G), w = g.w ∧ St 109 [(1, (Zbg a1)), (3, (pBox Zi 3 r3)), (5, (Zbd.ptr a2)), (6, (pBox Zi 6 (default : Ze))), (8, (pBox Zm 8 (default : Zg))), (9, (pInt .i64 j12))] a g ∧ Base g0 g ∧ Zfo a1 a2 r3 j12 = some r) ?_ ?_
     · rintro a w ⟨j12, g, rfl, hst, hb, H0⟩
       unfold Zfo at H0
       refine Zr ?_
       refine wp_seq ?_
       refine r_s (T := ⟨[.old 5], _, [], [], [37]⟩ :: ⟨[.op 0 0], _, [], [0], [38]⟩ :: ⟨[.op 1 0], _, [], [0, 1], [39]⟩ :: ⟨[.op 2 0, .old 0], _, [], [0, 1, 2], [40]⟩ :: ⟨[.op 2 0, .op 3 0], _, [], List.range 4, [41]⟩ :: ⟨[.op 2 0, .op 4 0], _, [], List.range 5, [42]⟩ :: ⟨[.op 5 0], _, [], List.range 6, [43]⟩ :: ⟨[.op 6 0, .old 2], _, [], List.range 7, [44]⟩ :: ⟨[.op 6 0, .op 7 0], _, [], List.range 8, [45]⟩ :: ⟨[.op 6 0, .op 8 0], _, [], List.range 9, [46]⟩ :: ⟨[.op 6 0, .op 9 0], _, [], List.range 10, [47]⟩ :: ⟨[.op 10 0], _, [], List.range 11, [48]⟩ :: ⟨[.op 11 0, .old 2], _, [], List.range 12, [49]⟩ :: ⟨[.op 11 0, .op 12 0], _, [], List.range 13, [50]⟩ :: ⟨[.op 11 0, .op 13 0], _, [], List.range 14, [51]⟩ :: ⟨[.op 11 0, .op 14 0], _, [], List.range 15, [52]⟩ :: []) (F := [.old 0, .old 1, .old 2, .old 3, .old 4, .old 5, .op 15 0]) hst hb Za
         (o_p rfl (Zb rfl rfl u_0) <| o_p rfl (Zbk rfl rfl u_0 c_i) <| o_p rfl (Zb rfl rfl u_0) <| o_g (g_t rfl rfl rfl (fun hG => Zb rfl rfl u_0)) <| o_g (g_t rfl rfl rfl (fun hG => Zb7 rfl rfl (Opd.gd hG u_0))) <| o_p rfl (Zbc rfl rfl u_0 (fun hz => (Opd.gd hz u_1))) <| o_p rfl (Zb rfl rfl u_0) <| o_g (g_t rfl rfl rfl (fun hG => Zd Zda rfl rfl u_0)) <| o_g (g_t rfl rfl rfl (fun hG => Zf ty_3 rfl rfl (Opd.gd hG u_0))) <| o_g (g_t rfl rfl rfl (fun hG => Zc5 rfl rfl (Opd.gd hG u_0) c_i)) <| o_p rfl (Zbc rfl rfl u_0 (fun hz => (Opd.gd hz u_1))) <| o_p rfl (Zb rfl rfl u_0) <| o_g (g_t rfl rfl rfl (fun hG => Zd Zda rfl rfl u_0)) <| o_g (g_t rfl rfl rfl (fun hG => Zf ty_3 rfl rfl (Opd.gd hG u_0))) <| o_g (g_t rfl rfl rfl (fun hG => Zc5 rfl rfl (Opd.gd hG u_0) c_i)) <| o_p rfl (Zbc rfl rfl u_0 (fun hz => (Opd.gd hz u_1))) <| o_n) (by kernel_rfl) (fun a g hst hb => ?_)
       refine Zcb (fun a w => ∃ (j14 : Int) (g : G), w = g.w ∧ St 109 [(1, (Zbg a1)), (3, (pBox Zi 3 r3)), (5, (Zbd.ptr a2)), (6, (pBox Zi 6 (default : Ze))), (8, (pBox Zm 8 (default : Zg))), (9, (pInt .i64 j14))] a g ∧ Base g0 g ∧ Zfn a1 a2 r3 j14 = some r) ?_ ?_
       · rintro a w ⟨j14, g, rfl, hst, hb, H0⟩
         unfold Zfn at H0
         refine Zr ?_
         obtain ⟨r15, h16, H0⟩ := Zh H0
         refine r_s (T := [⟨[.old 2], _, [], [], [53]⟩, ⟨[.op 0 0], _, [], [0], [54]⟩, ⟨[.op 1 0], _, [], [0, 1], [55]⟩, ⟨[.op 2 0], _, [], [0, 1, 2], [10]⟩]) (F := [.old 0, .old 1, .old 2, .old 3, .old 4, .old 5, .op 3 0]) hst hb Za
           (o_p rfl (Zd Zda rfl rfl u_0) <| o_p rfl (Zf ty_3 rfl rfl u_0) <| o_p rfl (Zn Z0w (Zk6 _ h16) rfl rfl (.cons u_0 .nil)) <| o_p rfl (Zc rfl rfl u_0) <| o_n) (by kernel_rfl) (fun a g hst hb => ?_)
         refine wp_seq ?_
         refine r_s (T := ⟨[.old 5], _, [], [], [56]⟩ :: ⟨[.op 0 0], _, [], [0], [57]⟩ :: ⟨[.op 1 0], _, [], [0, 1], [58]⟩ :: ⟨[.op 2 0, .old 6], _, [], [0, 1, 2], [59]⟩ :: ⟨[.op 2 0, .op 3 0], _, [], List.range 4, [60]⟩ :: ⟨[.op 2 0, .op 4 0], _, [], List.range 5, [61]⟩ :: ⟨[.op 5 0], _, [], List.range 6, [62]⟩ :: ⟨[.op 6 0, .old 6], _, [], List.range 7, [63]⟩ :: ⟨[.op 6 0, .old 1], _, [], List.range 7, [64]⟩ :: ⟨[.op 6 0, .op 8 0], _, [], [0, 1, 2, 3, 4, 5, 6, 8], [65]⟩ :: ⟨[.op 6 0, .op 7 0, .op 9 0], _, [], List.range 10, [66]⟩ :: ⟨[.op 6 0, .op 10 0], _, [], List.range 11, [67]⟩ :: []) (F := [.old 0, .old 1, .old 2, .old 3, .old 4, .old 5, .op 11 0]) hst hb Za
           (o_p rfl (Zb rfl rfl u_0) <| o_p rfl (Zbk rfl rfl u_0 c_i) <| o_p rfl (Zb rfl rfl u_0) <| o_g (g_t rfl rfl rfl (fun hG => Zb rfl rfl u_0)) <| o_g (g_t rfl rfl rfl (fun hG => Zc5 rfl rfl (Opd.gd hG u_0) c_i)) <| o_p rfl (Zbc rfl rfl u_0 (fun hz => (Opd.gd hz u_1))) <| o_p rfl (Zb rfl rfl u_0) <| o_g (g_t rfl rfl rfl (fun hG => Zb rfl rfl u_0)) <| o_g (g_t rfl rfl rfl (fun hG => Zs Zfp (off := 0) (by kernel_rfl) rfl rfl u_0)) <| o_g (g_t rfl rfl rfl (fun hG => Zbo ty_3 rfl rfl (Opd.gd hG u_0))) <| o_g (g_t rfl rfl rfl (fun hG => Zc5 rfl rfl (Opd.gd hG u_0) (Opd.gd hG u_1))) <| o_p rfl (Zbc rfl rfl u_0 (fun hz => (Opd.gd hz u_1))) <| o_n) (by kernel_rfl) (fun a g hst hb => ?_)
         refine Zcb (fun a w => ∃ (j18 : Int) (g : G), w = g.w ∧ St 109 [(1, (Zbg a1)), (3, (pBox Zi 3 r3)), (5, (Zbd.ptr a2)), (6, (pBox Zi 6 (default : Ze))), (8, (pBox Zm 8 (default : Zg))), (9, (pInt .i64 j18))] a g ∧ Base g0 g ∧ Zfh a1 a2 r3 j18 = some r) ?_ ?_
         · rintro a w ⟨j18, g, rfl, hst, hb, H0⟩
           unfold Zfh at H0
           refine Zr ?_
           refine wp_seq ?_
           refine r_s (T := [⟨[.old 5], _, [], [], [68]⟩, ⟨[.op 0 0], _, [], [0], [69]⟩]) (F := [.old 0, .old 1, .old 2, .old 3, .old 4, .old 5, .op 1 0]) hst hb Za
             (o_p rfl (Zb rfl rfl u_0) <| o_p rfl (Zc5 rfl rfl u_0 c_i) <| o_n) (by kernel_rfl) (fun a g hst hb => ?_)
           refine wp_cond_split (hst.bool 6 rfl) (fun hc19 => ?_) (fun hc19 => ?_)
           · replace H0 := Zv hc19 H0
             refine r_s (L := [(1, _), (3, _), (6, _), (8, _), (9, _)]) (T := [⟨[.old 1], _, [], [], [70]⟩, ⟨[.old 0], _, [], [], [71]⟩, ⟨[.old 4], _, [], [], [72]⟩, ⟨[.op 2 0], _, [], [2], [73]⟩, ⟨[.op 0 0, .old 2], _, [7], [0], [6]⟩, ⟨[.op 1 0], _, [], [0, 1, 4], [7]⟩, ⟨[.op 3 0, .old 3], _, [9], List.range 6, [8]⟩]) (F := [.op 4 0, .op 5 0, .op 6 0]) (hst.pick [0, 1, 3, 4, 5] rfl) hb Za
               (o_p rfl (Zbw Zba rfl rfl u_0) <| o_p rfl (Zb rfl rfl u_0) <| o_p rfl (Zb rfl rfl u_0) <| o_p rfl (Zpa rfl rfl u_0) <| o_p rfl (Zz Zba rfl rfl u_1 u_0) <| o_p rfl (Zc rfl rfl u_0) <| o_p rfl (Zz Zbv rfl rfl u_1 u_0) <| o_n) (by kernel_rfl) (fun a g hst hb => ?_)
             refine wp_ret ?_
             refine Zp ?_
             obtain rfl := Option.some.inj H0
             obtain ⟨u0, hu0, hq0⟩ := Z8 (P := Tryz.prog) Zba (hst.at 0 rfl)
             obtain ⟨u2, hu2, hq2⟩ := Z8 (P := Tryz.prog) Zbv (hst.at 2 rfl)
             exact Zhy rfl hst hb hu0 (Zk (s := 7)) hu2 (Zf9 hq0 (hst.at 1 rfl) hq2)
           · replace H0 := Zw hc19 H0
             refine wp_skip ?_
             refine Zr ?_
             refine wp_seq ?_
             refine r_s (L := [(1, _), (3, _), (5, _), (6, _), (8, _)]) (T := [⟨[.old 2], _, [], [], [74]⟩, ⟨[.op 0 0], _, [], [0], [75]⟩]) (F := [.old 0, .old 1, .old 2, .old 3, .old 4, .op 1 0]) (hst.pick [0, 1, 2, 3, 4] rfl) hb Za
               (o_p rfl (Zd Zda rfl rfl u_0) <| o_p rfl (Zf ty_3 rfl rfl u_0) <| o_n) (by kernel_rfl) (fun a g hst hb => ?_)
             refine wp_block ?_
             refine r_s (T := [⟨[.old 5], _, [], [], [77]⟩, ⟨[.op 0 0], _, [], [0], [76]⟩]) (F := [.old 0, .old 1, .old 2, .old 3, .old 4, .old 5, .op 1 0]) hst hb Za
               (o_p rfl (Zbk rfl rfl u_0 c_i) <| o_p rfl (Zc rfl rfl u_0) <| o_n) (by kernel_rfl) (fun a g hst hb => ?_)
             refine wp_cond_split (hst.bool 6 rfl) (fun hc20 => ?_) (fun hc20 => ?_)
             · replace H0 := Zv hc20 H0
               obtain ⟨r21, h22, H0⟩ := Zh H0
               refine r_s (L := [(5, _), (6, _), (8, _)]) (T := [⟨[.old 0], _, [], [], [78]⟩, ⟨[.op 0 0], _, [], [0], [79]⟩, ⟨[.op 1 0], _, [], [0, 1], [80]⟩, ⟨[], _, [], [], [81]⟩, ⟨[.op 2 0, .old 1], _, [7], [0, 1, 2], [6]⟩, ⟨[], _, [], [0, 1, 2, 4], [7]⟩, ⟨[.op 3 0, .old 2], _, [9], List.range 6, [8]⟩]) (F := [.op 4 0, .op 5 0, .op 6 0]) (hst.pick [2, 3, 4] rfl) hb Za
                 (o_p rfl (Zd Zmp rfl rfl u_0) <| o_p rfl (Zf Zba rfl rfl u_0) <| o_p rfl (Zn Zwb (Zhj _ h22) rfl rfl (.cons u_0 .nil)) <| o_p rfl (Zoq rfl rfl ) <| o_p rfl (Zz Zba rfl rfl u_1 u_0) <| o_p rfl (Zc rfl rfl c_b) <| o_p rfl (Zz Zbv rfl rfl u_1 u_0) <| o_n) (by kernel_rfl) (fun a g hst hb => ?_)
               refine wp_ret ?_
               refine Z1 ?_
               refine Zp ?_
               obtain rfl := Option.some.inj H0
               obtain ⟨u0, hu0, hq0⟩ := Z8 (P := Tryz.prog) Zba (hst.at 0 rfl)
               obtain ⟨u2, hu2, hq2⟩ := Z8 (P := Tryz.prog) Zbv (hst.at 2 rfl)
               exact Zhy rfl hst hb hu0 (Zk (s := 7)) hu2 (Zf9 hq0 (hst.at 1 rfl) hq2)
             · replace H0 := Zw hc20 H0
               refine r_s (L := [(1, _), (3, _), (5, _), (6, _), (8, _), (75, _)]) (T := [⟨[.old 5], _, [], [], [83]⟩, ⟨[.op 0 0], _, [], [0], [82]⟩]) (F := [.old 0, .old 1, .old 2, .old 3, .old 4, .old 5, .op 1 0]) (hst.pick [0, 1, 2, 3, 4, 5] rfl) hb Za
                 (o_p rfl (Zbk rfl rfl u_0 c_i) <| o_p rfl (Zc rfl rfl u_0) <| o_n) (by kernel_rfl) (fun a g hst hb => ?_)
               refine wp_cond_split (hst.bool 6 rfl) (fun hc23 => ?_) (fun hc23 => ?_)
               · replace H0 := Zv hc23 H0
                 refine r_s (L := [(6, _), (8, _)]) (T := [⟨[], _, [], [], [84]⟩, ⟨[], _, [], [], [85]⟩, ⟨[.op 0 0, .old 0], _, [7], [0], [6]⟩, ⟨[], _, [], [0, 2], [7]⟩, ⟨[.op 1 0, .old 1], _, [9], List.range 4, [8]⟩]) (F := [.op 2 0, .op 3 0, .op 4 0]) (hst.pick [3, 4] rfl) hb Za
                   (o_p rfl (Zlw rfl rfl ) <| o_p rfl (Zoq rfl rfl ) <| o_p rfl (Zz Zba rfl rfl u_1 u_0) <| o_p rfl (Zc rfl rfl c_b) <| o_p rfl (Zz Zbv rfl rfl u_1 u_0) <| o_n) (by kernel_rfl) (fun a g hst hb => ?_)
                 refine wp_ret ?_
                 refine Z1 ?_
                 refine Zp ?_
                 obtain rfl := Option.some.inj H0
                 obtain ⟨u0, hu0, hq0⟩ := Z8 (P := Tryz.prog) Zba (hst.at 0 rfl)
                 obtain ⟨u2, hu2, hq2⟩ := Z8 (P := Tryz.prog) Zbv (hst.at 2 rfl)
                 exact Zhy rfl hst hb hu0 (Zk (s := 7)) hu2 (Zf9 hq0 (hst.at 1 rfl) hq2)
               · replace H0 := Zw hc23 H0
                 refine r_s (L := [(1, _), (3, _), (5, _), (6, _), (8, _), (75, _)]) (T := [⟨[.old 5], _, [], [], [87]⟩, ⟨[.op 0 0], _, [], [0], [86]⟩]) (F := [.old 0, .old 1, .old 2, .old 3, .old 4, .old 5, .op 1 0]) (hst.pick [0, 1, 2, 3, 4, 5] rfl) hb Za
                   (o_p rfl (Zbk rfl rfl u_0 c_i) <| o_p rfl (Zc rfl rfl u_0) <| o_n) (by kernel_rfl) (fun a g hst hb => ?_)
                 refine wp_cond_split (hst.bool 6 rfl) (fun hc24 => ?_) (fun hc24 => ?_)
                 · replace H0 := Zv hc24 H0
                   refine r_s (L := [(1, _), (3, _), (6, _), (8, _)]) (T := [⟨[.old 1], _, [], [], [88]⟩, ⟨[.old 0], _, [], [], [89]⟩, ⟨[.old 1], _, [], [], [90]⟩, ⟨[.op 2 0], _, [], [2], [91]⟩, ⟨[.op 3 0], _, [], [2, 3], [92]⟩, ⟨[.op 0 0, .old 2], _, [7], [0], [6]⟩, ⟨[.op 1 0], _, [], [0, 1, 5], [7]⟩, ⟨[.op 4 0, .old 3], _, [9], List.range 7, [8]⟩]) (F := [.op 5 0, .op 6 0, .op 7 0]) (hst.pick [0, 1, 3, 4] rfl) hb Za
                     (o_p rfl (Zbw Zba rfl rfl u_0) <| o_p rfl (Zb rfl rfl u_0) <| o_p rfl (Zs Zfp (off := 0) (by kernel_rfl) rfl rfl u_0) <| o_p rfl (Zbo ty_3 rfl rfl u_0) <| o_p rfl (Zzz rfl rfl u_0) <| o_p rfl (Zz Zba rfl rfl u_1 u_0) <| o_p rfl (Zc rfl rfl u_0) <| o_p rfl (Zz Zbv rfl rfl u_1 u_0) <| o_n) (by kernel_rfl) (fun a g hst hb => ?_)
                   refine wp_ret ?_
                   refine Z1 ?_
                   refine Zp ?_
                   obtain rfl := Option.some.inj H0
                   obtain ⟨u0, hu0, hq0⟩ := Z8 (P := Tryz.prog) Zba (hst.at 0 rfl)
                   obtain ⟨u2, hu2, hq2⟩ := Z8 (P := Tryz.prog) Zbv (hst.at 2 rfl)
                   exact Zhy rfl hst hb hu0 (Zk (s := 7)) hu2 (Zf9 hq0 (hst.at 1 rfl) hq2)
                 · replace H0 := Zw hc24 H0
                   refine r_s (L := [(1, _), (3, _), (5, _), (6, _), (8, _), (75, _)]) (T := [⟨[.old 5], _, [], [], [94]⟩, ⟨[.op 0 0], _, [], [0], [93]⟩]) (F := [.old 0, .old 1, .old 2, .old 3, .old 4, .op 1 0]) (hst.pick [0, 1, 2, 3, 4, 5] rfl) hb Za
                     (o_p rfl (Zbk rfl rfl u_0 c_i) <| o_p rfl (Zc rfl rfl u_0) <| o_n) (by kernel_rfl) (fun a g hst hb => ?_)
                   refine wp_cond_split (hst.bool 5 rfl) (fun hc25 => ?_) (fun hc25 => ?_)
                   · replace H0 := Zv hc25 H0
                     obtain ⟨r26, h27, H0⟩ := Zh H0
                     refine r_s (L := [(1, _), (3, _), (6, _), (8, _)]) (T := [⟨[.old 1], _, [], [], [95]⟩, ⟨[.old 0], _, [], [], [96]⟩, ⟨[.old 1], _, [], [], [97]⟩, ⟨[.op 2 0], _, [], [2], [98]⟩, ⟨[.op 3 0], _, [], [2, 3], [99]⟩, ⟨[.op 0 0, .old 2], _, [7], [0, 2, 3], [6]⟩, ⟨[.op 1 0], _, [], [0, 1, 2, 3, 5], [7]⟩, ⟨[.op 4 0, .old 3], _, [9], List.range 7, [8]⟩]) (F := [.op 5 0, .op 6 0, .op 7 0]) (hst.pick [0, 1, 3, 4] rfl) hb Za
                       (o_p rfl (Zbw Zba rfl rfl u_0) <| o_p rfl (Zb rfl rfl u_0) <| o_p rfl (Zbw Zba rfl rfl u_0) <| o_p rfl (Zn Zwb (Zhj _ h27) rfl rfl (.cons u_0 .nil)) <| o_p rfl (Zzd rfl rfl u_0) <| o_p rfl (Zz Zba rfl rfl u_1 u_0) <| o_p rfl (Zc rfl rfl u_0) <| o_p rfl (Zz Zbv rfl rfl u_1 u_0) <| o_n) (by kernel_rfl) (fun a g hst hb => ?_)
                     refine wp_ret ?_
                     refine Z1 ?_
                     refine Zp ?_
                     obtain rfl := Option.some.inj H0
                     obtain ⟨u0, hu0, hq0⟩ := Z8 (P := Tryz.prog) Zba (hst.at 0 rfl)
                     obtain ⟨u2, hu2, hq2⟩ := Z8 (P := Tryz.prog) Zbv (hst.at 2 rfl)
                     exact Zhy rfl hst hb hu0 (Zk (s := 7)) hu2 (Zf9 hq0 (hst.at 1 rfl) hq2)
                   · replace H0 := Zw hc25 H0
                     refine wp_skip ?_
                     refine Zbe ?_
                     refine Zr ?_
                     obtain ⟨r28, h29, H0⟩ := Zh H0
                     refine r_s (L := [(1, _), (3, _), (5, _), (6, _), (8, _)]) (T := [⟨[.old 1], _, [], [], [101]⟩, ⟨[.old 2], _, [], [], [102]⟩, ⟨[.op 0 0, .op 1 0], _, [], [0, 1], [103]⟩, ⟨[.op 2 0], _, [], [0, 1, 2], [100]⟩, ⟨[.op 3 0], _, [], List.range 4, [104]⟩, ⟨[.op 3 0], _, [], List.range 4, [105]⟩, ⟨[], [(11, (pBox Zi 11 (default : Ze)))], [12], [], [11]⟩, ⟨[], [(12, (pBox Zm 12 (default : Zg)))], [13], [], [12]⟩, ⟨[.op 4 0, .op 6 0], _, [12], [0, 1, 2, 3, 4, 6, 7], [11]⟩, ⟨[.op 5 0, .op 7 0], _, [13], List.range 9, [12]⟩]) (F := [.old 0, .old 3, .old 4, .op 8 0, .op 9 0]) (hst.pick [0, 1, 2, 3, 4] rfl) hb Za
                       (o_p rfl (Zbw Zba rfl rfl u_0) <| o_p rfl (Zf Zfi rfl rfl u_0) <| o_p rfl (Zn Z9y (Zr8 _ _ h29) rfl rfl (.cons u_0 (.cons u_1 .nil))) <| o_p rfl (Zb rfl rfl u_0) <| o_p rfl (Z4 rfl rfl u_0 rfl) <| o_p rfl (Z4 rfl rfl u_0 rfl) <| o_p rfl (Zbb (zs := [.int .i64 0, .int .i64 0, .int .i64 0, .int .i64 0, .float .f64 0, .int .i64 0, .string ByteArray.empty, .slice none 0 0]) (by kernel_rfl) (fun g => Zb8 g) rfl rfl) <| o_p rfl (Zbb (zs := [.int .i64 0, .int .i64 0, .int .i64 0, .int .i64 0, .int .i64 0, .int .i64 0, .float .f64 0, .int .i64 0, .string ByteArray.empty, .slice none 0 0]) (by kernel_rfl) (fun g => Zcv g) rfl rfl) <| o_p rfl (Zb3 Zba rfl rfl u_1 u_0) <| o_p rfl (Zb3 Zbv rfl rfl u_1 u_0) <| o_n) (by kernel_rfl) (fun a g hst hb => ?_)
                     refine r_s (T := [⟨[.old 3], _, [], [], [106]⟩, ⟨[.old 0], _, [], [], [107]⟩, ⟨[.old 4], _, [], [], [108]⟩, ⟨[.op 0 0, .old 1], _, [7], [0], [6]⟩, ⟨[.op 1 0], _, [], [0, 1, 3], [7]⟩, ⟨[.op 2 0, .old 2], _, [9], List.range 5, [8]⟩]) (F := [.op 3 0, .op 4 0, .op 5 0]) hst hb Za
                       (o_p rfl (Zf Zba rfl rfl u_0) <| o_p rfl (Zb rfl rfl u_0) <| o_p rfl (Zf Zbv rfl rfl u_0) <| o_p rfl (Zz Zba rfl rfl u_1 u_0) <| o_p rfl (Zc rfl rfl u_0) <| o_p rfl (Zz Zbv rfl rfl u_1 u_0) <| o_n) (by kernel_rfl) (fun a g hst hb => ?_)
                     refine wp_ret ?_
                     obtain rfl := Option.some.inj H0
                     obtain ⟨u0, hu0, hq0⟩ := Z8 (P := Tryz.prog) Zba (hst.at 0 rfl)
                     obtain ⟨u2, hu2, hq2⟩ := Z8 (P := Tryz.prog) Zbv (hst.at 2 rfl)
                     exact Zhy rfl hst hb hu0 (Zk (s := 7)) hu2 (Zf9 hq0 (hst.at 1 rfl) hq2)
         · refine wp_cond_split (hst.bool 6 rfl) (fun hc17 => ?_) (fun hc17 => ?_)
           · replace H0 := Zv hc17 H0
             refine r_g (L := [(1, _), (3, _), (5, _), (6, _), (8, _)]) (T := [⟨[], _, [], [], [9]⟩]) (F := [.old 0, .old 1, .old 2, .old 3, .old 4, .op 0 0]) (hst.pick [0, 1, 2, 3, 4] rfl) hb Za
               (o_p rfl (Zc rfl rfl c_i) <| o_n) (by kernel_rfl) (fun a g hst hb => ?_)
             exact ⟨(5 : Int), g, rfl, (hst.pick [0, 1, 2, 3, 4, 5] rfl), hb, H0⟩
           · replace H0 := Zw hc17 H0
             refine wp_skip ?_
             exact ⟨j14, g, rfl, (hst.pick [0, 1, 2, 3, 4, 5] rfl), hb, H0⟩
       · refine wp_cond_split (hst.bool 6 rfl) (fun hc13 => ?_) (fun hc13 => ?_)
         · replace H0 := Zv hc13 H0
           refine r_g (L := [(1, _), (3, _), (5, _), (6, _), (8, _)]) (T := [⟨[], _, [], [], [9]⟩]) (F := [.old 0, .old 1, .old 2, .old 3, .old 4, .op 0 0]) (hst.pick [0, 1, 2, 3, 4] rfl) hb Za
             (o_p rfl (Zc rfl rfl c_i) <| o_n) (by kernel_rfl) (fun a g hst hb => ?_)
           exact ⟨(6 : Int), g, rfl, (hst.pick [0, 1, 2, 3, 4, 5] rfl), hb, H0⟩
         · replace H0 := Zw hc13 H0
           refine wp_skip ?_
           exact ⟨j12, g, rfl, (hst.pick [0, 1, 2, 3, 4, 5] rfl), hb, H0⟩
     · refine wp_cond_split (hst.bool 6 rfl) (fun hc11 => ?_) (fun hc11 => ?_)
       · replace H0 := Zv hc11 H0
         refine r_g (L := [(1, _), (3, _), (5, _), (6, _), (8, _)]) (T := [⟨[], _, [], [], [9]⟩]) (F := [.old 0, .old 1, .old 2, .old 3, .old 4, .op 0 0]) (hst.pick [0, 1, 2, 3, 4] rfl) hb Za
           (o_p rfl (Zc rfl rfl c_i) <| o_n) (by kernel_rfl) (fun a g hst hb => ?_)
         exact ⟨(7 : Int), g, rfl, (hst.pick [0, 1, 2, 3, 4, 5] rfl), hb, H0⟩
       · replace H0 := Zw hc11 H0
         refine wp_skip ?_
         exact ⟨j10, g, rfl, (hst.pick [0, 1, 2, 3, 4, 5] rfl), hb, H0⟩
   · refine wp_cond_split (hst.bool 6 rfl) (fun hc7 => ?_) (fun hc7 => ?_)
     · replace H0 := Zv hc7 H0
       obtain ⟨r8, h9, H0⟩ := Zh H0
       refine r_g (L := [(1, _), (3, _), (5, _), (6, _), (8, _)]) (T := [⟨[.old 1], _, [], [], [25]⟩, ⟨[.op 0 0], _, [], [0], [26]⟩, ⟨[.op 1 0], _, [], [0, 1], [9]⟩]) (F := [.old 0, .old 1, .old 2, .old 3, .old 4, .op 2 0]) (hst.pick [0, 1, 2, 3, 4] rfl) hb Za
         (o_p rfl (Zbw Zba rfl rfl u_0) <| o_p rfl (Zn Z0f (Zj1 _ h9) rfl rfl (.cons u_0 .nil)) <| o_p rfl (Zc rfl rfl u_0) <| o_n) (by kernel_rfl) (fun a g hst hb => ?_)
       exact ⟨r8, g, rfl, (hst.pick [0, 1, 2, 3, 4, 5] rfl), hb, H0⟩
     · replace H0 := Zw hc7 H0
       refine wp_skip ?_
       exact ⟨r5, g, rfl, (hst.pick [0, 1, 2, 3, 4, 5] rfl), hb, H0⟩
 · refine wp_cond_split (hst.bool 5 rfl) (fun hc1 => ?_) (fun hc1 => ?_)
   · replace H0 := Zv hc1 H0
     refine r_g (L := [(1, _), (3, _), (5, _), (6, _), (8, _)]) (T := [⟨[], _, [], [], [15]⟩, ⟨[.op 0 0, .old 1], _, [4], [0], [3]⟩]) (F := [.old 0, .op 1 0, .old 2, .old 3, .old 4]) (hst.pick [0, 1, 2, 3, 4] rfl) hb Za
       (o_p rfl (Zlw rfl rfl ) <| o_p rfl (Zz Zba rfl rfl u_1 u_0) <| o_n) (by kernel_rfl) (fun a g hst hb => ?_)
     exact ⟨({ Kind := (0 : Int), Num := (0 : Int), Low := (0 : Int), High := (0 : Int), Real := (0 : Nat), Cap := (0 : Int), Text := ByteArray.empty, List := ([] : List Zl) } : Ze), g, rfl, (hst.pick [0, 1, 2, 3, 4] rfl), hb, H0⟩
   · replace H0 := Zw hc1 H0
     refine wp_skip ?_
     exact ⟨a0, g, rfl, (hst.pick [0, 1, 2, 3, 4] rfl), hb, H0⟩
end Go.CL
set_option linter.unusedVariables false
set_option linter.unusedSimpArgs false
set_option maxRecDepth 100000
namespace Go.CL
open Go Go.RowKit Go.Proofs
theorem Zn1 (a0 : Zj) (a1 : ByteArray) {r : Zj × Bool} (h : Zgb a0 a1 = some r) : FnOk Tryz.prog 59 [(Z3.pd a0), (pStr a1)] (pTup [(Z3.pd r.1), (Zbg r.2)]) := by
 have H0 := h
 unfold Zgb at H0
 clear h
 refine Zbn (N := 43) Tryz.func59 rfl rfl (Nat.le_of_ble_eq_true rfl) rfl rfl (fun a g0 hst hb => ?_)
 refine r_s (T := [⟨[.old 0], _, [], [], [2]⟩, ⟨[], [(4, (pBox Z3 4 (default : Zj)))], [5], [], [4]⟩, ⟨[], _, [], [], [5]⟩]) (F := [.old 1, .op 0 0, .op 1 0]) hst hb Za
   (o_p rfl (Zbj rfl rfl u_0) <| o_p rfl (Zbb (zs := [.slice none 0 0, .int .i64 0]) (by kernel_rfl) (fun g => Zdz g) rfl rfl) <| o_p rfl (Zc rfl rfl c_b) <| o_n) (by kernel_rfl) (fun a g hst hb => ?_)
 obtain ⟨r1, h2, H0⟩ := Zh H0
 refine r_s (T := [⟨[.old 1], _, [], [], [8]⟩, ⟨[.old 0], _, [], [], [9]⟩, ⟨[.op 0 0, .op 1 0], _, [], [0, 1], [10]⟩, ⟨[.op 2 0], _, [], [0, 1, 2], [6]⟩]) (F := [.old 0, .old 1, .old 2, .op 3 0]) hst hb Za
   (o_p rfl (Zf Zci rfl rfl u_0) <| o_p rfl (Zb rfl rfl u_0) <| o_p rfl (Zn Z0g (Zhx _ _ h2) rfl rfl (.cons u_0 (.cons u_1 .nil))) <| o_p rfl (Zc rfl rfl u_0) <| o_n) (by kernel_rfl) (fun a g hst hb => ?_)
 refine wp_seq ?_
 obtain ⟨e3, h4, H0⟩ := Zh H0
 refine r_s (T := ⟨[.old 3], _, [], [], [11]⟩ :: ⟨[.old 1], _, [], [], [12]⟩ :: ⟨[.op 1 0], _, [], [1], [13]⟩ :: ⟨[.op 2 0], _, [], [1, 2], [14]⟩ :: ⟨[.op 0 0, .op 3 0], _, [], List.range 4, [15]⟩ :: ⟨[.op 4 0], _, [], List.range 5, [16]⟩ :: ⟨[.op 5 0, .old 1], _, [], List.range 6, [17]⟩ :: ⟨[.op 5 0, .op 6 0], _, [], List.range 7, [18]⟩ :: ⟨[.op 5 0, .old 3], _, [], List.range 6, [19]⟩ :: ⟨[.op 5 0, .op 7 0, .op 8 0], _, [], List.range 9, [20]⟩ :: ⟨[.op 5 0, .op 9 0], _, [], List.range 10, [21]⟩ :: ⟨[.op 5 0, .op 10 0], _, [], List.range 11, [22]⟩ :: ⟨[.op 5 0, .old 0], _, [], List.range 6, [23]⟩ :: ⟨[.op 5 0, .op 11 0, .op 12 0], _, [], List.range 13, [24]⟩ :: ⟨[.op 5 0, .op 13 0], _, [], List.range 14, [25]⟩ :: []) (F := [.old 1, .old 2, .old 3, .op 14 0]) hst hb Za
   (o_p rfl (Zb rfl rfl u_0) <| o_p rfl (Zd Zga rfl rfl u_0) <| o_p rfl (Zf Zi2 rfl rfl u_0) <| o_p rfl (Zby Tryz.underlying22 rfl rfl u_0) <| o_p rfl (Zly rfl rfl u_0 u_1) <| o_p rfl (Zb rfl rfl u_0) <| o_g (g_f rfl rfl rfl (fun hG => Zd Zga rfl rfl u_0)) <| o_g (g_f rfl rfl rfl (fun hG => Zf Zi2 rfl rfl (Opd.gd hG u_0))) <| o_g (g_f rfl rfl rfl (fun hG => Zb rfl rfl u_0)) <| o_g (g_f rfl rfl rfl (fun hG => Zbf Tryz.underlying22 Zl0 rfl rfl (Opd.gd hG u_0) (Opd.gd hG u_1) (Zbl h4 hG))) <| o_g (g_f rfl rfl rfl (fun hG => Zd Zlm rfl rfl (Opd.gd hG u_0))) <| o_g (g_f rfl rfl rfl (fun hG => Zf ty_9 rfl rfl (Opd.gd hG u_0))) <| o_g (g_f rfl rfl rfl (fun hG => Zb rfl rfl u_0)) <| o_g (g_f rfl rfl rfl (fun hG => Znk rfl rfl (Opd.gd hG u_0) (Opd.gd hG u_1))) <| o_p rfl (Zbr rfl rfl u_0 (fun hz => (Opd.gd (bNF hz) u_1))) <| o_n) (by kernel_rfl) (fun a g hst hb => ?_)
 refine wp_cond_split (hst.bool 3 rfl) (fun hc5 => ?_) (fun hc5 => ?_)
 · replace H0 := Zv hc5 H0
   refine r_s (L := [(2, _), (4, _)]) (T := [⟨[.old 0], _, [], [], [26]⟩, ⟨[.op 0 0, .old 1], _, [5], [0], [4]⟩, ⟨[], _, [], [0, 1], [5]⟩]) (F := [.op 1 0, .op 2 0]) (hst.pick [0, 1] rfl) hb Za
     (o_p rfl (Zf Zci rfl rfl u_0) <| o_p rfl (Zz Zci rfl rfl u_1 u_0) <| o_p rfl (Zc rfl rfl c_b) <| o_n) (by kernel_rfl) (fun a g hst hb => ?_)
   refine wp_ret ?_
   refine Zp ?_
   obtain rfl := Option.some.inj H0
   obtain ⟨u0, hu0, hq0⟩ := Z8 (P := Tryz.prog) Zci (hst.at 0 rfl)
   exact Zc9 rfl hst hb hu0 (Zk (s := 5)) (Zcm hq0 (hst.at 1 rfl))
 · replace H0 := Zw hc5 H0
   refine wp_skip ?_
   refine Zr ?_
   obtain ⟨c6, h7, H0⟩ := Zh H0; obtain ⟨h8, H0⟩ := Zgg H0
   refine r_s (L := [(2, _), (4, _), (6, _)]) (T := [⟨[], _, [28], [], [27]⟩, ⟨[.old 0], _, [], [], [28]⟩, ⟨[.op 1 0], _, [], [1], [29]⟩, ⟨[.old 2], _, [], [], [30]⟩, ⟨[.op 2 0, .op 3 0], _, [], [1, 2, 3], [31]⟩, ⟨[.op 0 0, .op 4 0], _, [28], List.range 5, [27, 32]⟩, ⟨[.op 5 0], _, [], List.range 6, [7]⟩]) (F := [.old 0, .old 1, .old 2, .op 6 0]) (hst.pick [0, 1, 2] rfl) hb Za
     (o_p rfl (Zjv 27 Zof (xs := []) .nil (by decide) rfl rfl) <| o_p rfl (Zd Zga rfl rfl u_0) <| o_p rfl (Zf Zi2 rfl rfl u_0) <| o_p rfl (Zb rfl rfl u_0) <| o_p rfl (Zrv Tryz.underlying22 Zl0 rfl rfl u_0 u_1 h7) <| o_p rfl (Zff Zof rfl rfl u_0 u_1 h8) <| o_p rfl (Zc rfl rfl u_0) <| o_n) (by kernel_rfl) (fun a g hst hb => ?_)
   obtain ⟨c9, h10, H0⟩ := Zh H0; obtain ⟨h11, H0⟩ := Zgg H0
   refine r_s (T := ⟨[.old 3], _, [], [], [33]⟩ :: ⟨[.old 0], _, [], [], [34]⟩ :: ⟨[.op 1 0], _, [], [1], [35]⟩ :: ⟨[.old 2], _, [], [], [36]⟩ :: ⟨[.op 3 0], _, [], [3], [37]⟩ :: ⟨[.op 2 0, .op 4 0], _, [], List.range' 1 4, [38]⟩ :: ⟨[.op 0 0, .op 5 0], _, [28], List.range 6, [7, 33, 39]⟩ :: ⟨[.old 0], _, [], [], [40]⟩ :: ⟨[.op 7 0], _, [], [7], [41]⟩ :: ⟨[.op 6 0, .op 8 0], _, [], List.range 9, [42]⟩ :: ⟨[.op 9 0, .old 1], _, [5], List.range 10, [4]⟩ :: ⟨[], _, [], List.range 11, [5]⟩ :: []) (F := [.op 10 0, .op 11 0]) hst hb Za
     (o_p rfl (Zb rfl rfl u_0) <| o_p rfl (Zd Zga rfl rfl u_0) <| o_p rfl (Zf Zi2 rfl rfl u_0) <| o_p rfl (Zb rfl rfl u_0) <| o_p rfl (Zb4 rfl rfl u_0 c_i rfl) <| o_p rfl (Zze Tryz.underlying22 Zl0 rfl rfl u_0 u_1 h10) <| o_p rfl (Zff Zof rfl rfl u_0 u_1 h11) <| o_p rfl (Zd Zop rfl rfl u_0) <| o_p rfl (Zf ty_3 rfl rfl u_0) <| o_p rfl (Zvr rfl rfl (Opd.imp u_0 (fun _ _ h => Zit h)) u_1) <| o_p rfl (Zz Zci rfl rfl u_1 u_0) <| o_p rfl (Zc rfl rfl c_b) <| o_n) (by kernel_rfl) (fun a g hst hb => ?_)
   refine wp_ret ?_
   obtain rfl := Option.some.inj H0
   obtain ⟨u0, hu0, hq0⟩ := Z8 (P := Tryz.prog) Zci (hst.at 0 rfl)
   exact Zc9 rfl hst hb hu0 (Zk (s := 5)) (Zcm hq0 (hst.at 1 rfl))
end Go.CL
set_option linter.unusedVariables false
set_option linter.unusedSimpArgs false
set_option maxRecDepth 100000
namespace Go.CL
open Go Go.RowKit Go.Proofs
theorem Zqm (a0 : Zj) (a1 : Z2) {r : Zj × Zg} (h : Zis a0 a1 = some r) : FnOk Tryz.prog 32 [(Z3.pd a0), (Zbd.pd a1)] (pTup [(Z3.pd r.1), (Zm.pd r.2)]) := by
 have H0 := h
 unfold Zis at H0
 clear h
 refine Zbn (N := 65) Tryz.func32 rfl rfl (Nat.le_of_ble_eq_true rfl) rfl rfl (fun a g0 hst hb => ?_)
 refine r_s (T := [⟨[.old 0], _, [3], [], [2]⟩, ⟨[.old 1], _, [], [], [3]⟩, ⟨[], [(4, (pBox Z3 4 (default : Zj)))], [5], [], [4]⟩, ⟨[], [(5, (pBox Zm 5 (default : Zg)))], [6], [], [5]⟩]) (F := [.op 0 0, .op 1 0, .op 2 0, .op 3 0]) hst hb Za
   (o_p rfl (Zkz rfl rfl u_0) <| o_p rfl (Zbj rfl rfl u_0) <| o_p rfl (Zbb (zs := [.slice none 0 0, .int .i64 0]) (by kernel_rfl) (fun g => Zdz g) rfl rfl) <| o_p rfl (Zbb (zs := [.int .i64 0, .int .i64 0, .int .i64 0, .int .i64 0, .int .i64 0, .int .i64 0, .float .f64 0, .int .i64 0, .string ByteArray.empty, .slice none 0 0]) (by kernel_rfl) (fun g => Zcv g) rfl rfl) <| o_n) (by kernel_rfl) (fun a g hst hb => ?_)
 obtain ⟨r1, h2, H0⟩ := Zh H0
 refine r_s (T := [⟨[.old 0], _, [], [], [12]⟩, ⟨[.old 1], _, [], [], [13]⟩, ⟨[.op 1 0], _, [], [1], [14]⟩, ⟨[.op 0 0, .op 2 0], _, [], [0, 1, 2], [15]⟩, ⟨[.op 3 0], _, [], List.range 4, [11]⟩, ⟨[.op 4 0], _, [], List.range 5, [16]⟩, ⟨[.op 4 0], _, [], List.range 5, [17]⟩, ⟨[], [(6, (pBox Zi 6 (default : Ze)))], [7], [], [6]⟩, ⟨[.op 5 0, .op 7 0], _, [7], [0, 1, 2, 3, 4, 5, 7], [6]⟩, ⟨[.op 6 0], _, [], List.range 9, [7]⟩]) (F := [.old 0, .old 1, .old 2, .old 3, .op 8 0, .op 9 0]) hst hb Za
   (o_p rfl (Zbw Zci rfl rfl u_0) <| o_p rfl (Zd Zjq rfl rfl u_0) <| o_p rfl (Zf ty_9 rfl rfl u_0) <| o_p rfl (Zn Z8y (Znt _ _ h2) rfl rfl (.cons u_0 (.cons u_1 .nil))) <| o_p rfl (Zb rfl rfl u_0) <| o_p rfl (Z4 rfl rfl u_0 rfl) <| o_p rfl (Z4 rfl rfl u_0 rfl) <| o_p rfl (Zbb (zs := [.int .i64 0, .int .i64 0, .int .i64 0, .int .i64 0, .float .f64 0, .int .i64 0, .string ByteArray.empty, .slice none 0 0]) (by kernel_rfl) (fun g => Zb8 g) rfl rfl) <| o_p rfl (Zb3 Zba rfl rfl u_1 u_0) <| o_p rfl (Zc rfl rfl u_0) <| o_n) (by kernel_rfl) (fun a g hst hb => ?_)
 obtain ⟨r3, h4, H0⟩ := Zh H0
 refine r_s (T := ⟨[.old 4], _, [], [], [19]⟩ :: ⟨[.old 5], _, [], [], [20]⟩ :: ⟨[.old 1], _, [], [], [21]⟩ :: ⟨[.op 0 0, .op 1 0, .op 2 0], _, [], [0, 1, 2], [22]⟩ :: ⟨[.op 3 0], _, [], List.range 4, [18]⟩ :: ⟨[.op 4 0], _, [], List.range 5, [23]⟩ :: ⟨[.op 4 0], _, [], List.range 5, [24]⟩ :: ⟨[.op 4 0], _, [], List.range 5, [25]⟩ :: ⟨[], [(8, (pBox Zi 8 (default : Ze)))], [9], [], [8]⟩ :: ⟨[], [(10, (pBox Zm 10 (default : Zg)))], [11], [], [10]⟩ :: ⟨[.op 5 0, .op 8 0], _, [9], [0, 1, 2, 3, 4, 5, 8, 9], [8]⟩ :: ⟨[.op 6 0], _, [], [0, 1, 2, 3, 4, 5, 6, 8, 9, 10], [9]⟩ :: ⟨[.op 7 0, .op 9 0], _, [11], List.range 12, [10]⟩ :: []) (F := [.old 0, .old 1, .old 2, .old 3, .op 10 0, .op 11 0, .op 12 0]) hst hb Za
   (o_p rfl (Zf Zba rfl rfl u_0) <| o_p rfl (Zb rfl rfl u_0) <| o_p rfl (Zf Zfi rfl rfl u_0) <| o_p rfl (Zn Z9w (Zpo _ _ _ h4) rfl rfl (.cons u_0 (.cons u_1 (.cons u_2 .nil)))) <| o_p rfl (Zb rfl rfl u_0) <| o_p rfl (Z4 rfl rfl u_0 rfl) <| o_p rfl (Z4 rfl rfl u_0 rfl) <| o_p rfl (Z4 rfl rfl u_0 rfl) <| o_p rfl (Zbb (zs := [.int .i64 0, .int .i64 0, .int .i64 0, .int .i64 0, .float .f64 0, .int .i64 0, .string ByteArray.empty, .slice none 0 0]) (by kernel_rfl) (fun g => Zb8 g) rfl rfl) <| o_p rfl (Zbb (zs := [.int .i64 0, .int .i64 0, .int .i64 0, .int .i64 0, .int .i64 0, .int .i64 0, .float .f64 0, .int .i64 0, .string ByteArray.empty, .slice none 0 0]) (by kernel_rfl) (fun g => Zcv g) rfl rfl) <| o_p rfl (Zb3 Zba rfl rfl u_1 u_0) <| o_p rfl (Zc rfl rfl u_0) <| o_p rfl (Zb3 Zbv rfl rfl u_1 u_0) <| o_n) (by kernel_rfl) (fun a g hst hb => ?_)
 refine wp_seq ?_
 refine r_s (T := [⟨[.old 6], _, [], [], [26]⟩, ⟨[.op 0 0], _, [], [0], [27]⟩, ⟨[.op 1 0], _, [], [0, 1], [28]⟩]) (F := [.old 0, .old 1, .old 2, .old 3, .old 4, .old 5, .old 6, .op 2 0]) hst hb Za
   (o_p rfl (Zd Zfy rfl rfl u_0) <| o_p rfl (Zf Zge rfl rfl u_0) <| o_p rfl (Zc5 rfl rfl u_0 c_i) <| o_n) (by kernel_rfl) (fun a g hst hb => ?_)
 refine wp_cond_split (hst.bool 7 rfl) (fun hc5 => ?_) (fun hc5 => ?_)
 · replace H0 := Zv hc5 H0
   refine r_s (L := [(2, _), (4, _), (5, _), (10, _)]) (T := [⟨[.old 0], _, [], [], [29]⟩, ⟨[.old 3], _, [], [], [30]⟩, ⟨[.op 0 0, .old 1], _, [5], [0], [4]⟩, ⟨[.op 1 0, .old 2], _, [6], [0, 1, 2], [5]⟩]) (F := [.op 2 0, .op 3 0]) (hst.pick [0, 2, 3, 6] rfl) hb Za
     (o_p rfl (Zbw Zci rfl rfl u_0) <| o_p rfl (Zf Zbv rfl rfl u_0) <| o_p rfl (Zz Zci rfl rfl u_1 u_0) <| o_p rfl (Zz Zbv rfl rfl u_1 u_0) <| o_n) (by kernel_rfl) (fun a g hst hb => ?_)
   refine wp_ret ?_
   refine Zp ?_
   obtain rfl := Option.some.inj H0
   obtain ⟨u0, hu0, hq0⟩ := Z8 (P := Tryz.prog) Zci (hst.at 0 rfl)
   obtain ⟨u1, hu1, hq1⟩ := Z8 (P := Tryz.prog) Zbv (hst.at 1 rfl)
   exact Zc9 rfl hst hb hu0 hu1 (Zcm hq0 hq1)
 · replace H0 := Zw hc5 H0
   refine wp_skip ?_
   refine Zr ?_
   refine wp_seq ?_
   refine r_s (L := [(2, _), (3, _), (4, _), (5, _), (8, _), (9, _), (10, _)]) (T := [⟨[.old 1], _, [], [], [31]⟩, ⟨[.op 0 0], _, [], [0], [32]⟩, ⟨[.op 1 0], _, [], [0, 1], [33]⟩, ⟨[.op 2 0], _, [], [0, 1, 2], [34]⟩, ⟨[.op 3 0, .old 0], _, [], List.range 4, [35]⟩, ⟨[.op 3 0, .op 4 0], _, [], List.range 5, [36]⟩, ⟨[.op 3 0, .op 5 0], _, [], List.range 6, [37]⟩, ⟨[.op 3 0, .old 0], _, [], List.range 4, [38]⟩, ⟨[.op 3 0, .op 7 0], _, [], [0, 1, 2, 3, 7], [39]⟩, ⟨[.op 3 0, .op 6 0, .op 8 0], _, [], List.range 9, [40]⟩, ⟨[.op 3 0, .op 9 0], _, [], List.range 10, [41]⟩]) (F := [.old 0, .old 1, .old 2, .old 3, .old 4, .old 5, .old 6, .op 10 0]) (hst.pick [0, 1, 2, 3, 4, 5, 6] rfl) hb Za
     (o_p rfl (Zd Zda rfl rfl u_0) <| o_p rfl (Zf ty_3 rfl rfl u_0) <| o_p rfl (Zbk rfl rfl u_0 c_i) <| o_p rfl (Zb rfl rfl u_0) <| o_g (g_t rfl rfl rfl (fun hG => Zs Zga (off := 0) (by kernel_rfl) rfl rfl u_0)) <| o_g (g_t rfl rfl rfl (fun hG => Zbo Zi2 rfl rfl (Opd.gd hG u_0))) <| o_g (g_t rfl rfl rfl (fun hG => Zby Tryz.underlying22 rfl rfl (Opd.gd hG u_0))) <| o_g (g_t rfl rfl rfl (fun hG => Zs Zop (off := 1) (by kernel_rfl) rfl rfl u_0)) <| o_g (g_t rfl rfl rfl (fun hG => Zbo ty_3 rfl rfl (Opd.gd hG u_0))) <| o_g (g_t rfl rfl rfl (fun hG => Zly rfl rfl (Opd.gd hG u_0) (Opd.gd hG u_1))) <| o_p rfl (Zbc rfl rfl u_0 (fun hz => (Opd.gd hz u_1))) <| o_n) (by kernel_rfl) (fun a g hst hb => ?_)
   refine wp_cond_split (hst.bool 7 rfl) (fun hc6 => ?_) (fun hc6 => ?_)
   · replace H0 := Zv hc6 H0
     refine r_s (L := [(2, _), (4, _), (5, _)]) (T := [⟨[.old 0], _, [], [], [42]⟩, ⟨[], _, [], [], [43]⟩, ⟨[.op 0 0, .old 1], _, [5], [0], [4]⟩, ⟨[.op 1 0, .old 2], _, [6], [0, 1, 2], [5]⟩]) (F := [.op 2 0, .op 3 0]) (hst.pick [0, 2, 3] rfl) hb Za
       (o_p rfl (Zbw Zci rfl rfl u_0) <| o_p rfl (Zpa rfl rfl c_i) <| o_p rfl (Zz Zci rfl rfl u_1 u_0) <| o_p rfl (Zz Zbv rfl rfl u_1 u_0) <| o_n) (by kernel_rfl) (fun a g hst hb => ?_)
     refine wp_ret ?_
     refine Zp ?_
     obtain rfl := Option.some.inj H0
     obtain ⟨u0, hu0, hq0⟩ := Z8 (P := Tryz.prog) Zci (hst.at 0 rfl)
     obtain ⟨u1, hu1, hq1⟩ := Z8 (P := Tryz.prog) Zbv (hst.at 1 rfl)
     exact Zc9 rfl hst hb hu0 hu1 (Zcm hq0 hq1)
   · replace H0 := Zw hc6 H0
     refine wp_skip ?_
     refine Zr ?_
     refine wp_seq ?_
     refine r_s (L := [(2, _), (3, _), (4, _), (5, _), (8, _), (9, _), (10, _)]) (T := [⟨[.old 5], _, [], [], [44]⟩, ⟨[.op 0 0], _, [], [0], [45]⟩]) (F := [.old 0, .old 1, .old 2, .old 3, .old 4, .old 6, .op 1 0]) (hst.pick [0, 1, 2, 3, 4, 5, 6] rfl) hb Za
       (o_p rfl (Zb rfl rfl u_0) <| o_p rfl (Zb7 rfl rfl u_0) <| o_n) (by kernel_rfl) (fun a g hst hb => ?_)
     refine wp_cond_split (hst.bool 6 rfl) (fun hc7 => ?_) (fun hc7 => ?_)
     · replace H0 := Zv hc7 H0
       obtain ⟨r8, h9, H0⟩ := Zh H0
       refine r_s (L := [(2, _), (3, _), (4, _), (5, _), (10, _)]) (T := [⟨[.old 0], _, [], [], [47]⟩, ⟨[.old 1], _, [], [], [48]⟩, ⟨[.op 1 0], _, [], [1], [49]⟩, ⟨[.op 0 0, .op 2 0], _, [], [0, 1, 2], [50]⟩, ⟨[.op 3 0], _, [], List.range 4, [46]⟩, ⟨[.op 4 0], _, [], List.range 5, [51]⟩, ⟨[.op 4 0], _, [], List.range 5, [52]⟩, ⟨[.op 5 0, .old 0], _, [3], List.range 6, [2]⟩]) (F := [.op 7 0, .old 2, .old 3, .old 4]) (hst.pick [0, 1, 2, 3, 5] rfl) hb Za
         (o_p rfl (Zbw Zci rfl rfl u_0) <| o_p rfl (Zd Zjq rfl rfl u_0) <| o_p rfl (Zf ty_9 rfl rfl u_0) <| o_p rfl (Zn Z9t (Zn1 _ _ h9) rfl rfl (.cons u_0 (.cons u_1 .nil))) <| o_p rfl (Zb rfl rfl u_0) <| o_p rfl (Z4 rfl rfl u_0 rfl) <| o_p rfl (Z4 rfl rfl u_0 rfl) <| o_p rfl (Zz Zci rfl rfl u_1 u_0) <| o_n) (by kernel_rfl) (fun a g hst hb => ?_)
       refine r_s (T := [⟨[.old 0], _, [], [], [53]⟩, ⟨[.old 3], _, [], [], [54]⟩, ⟨[.op 0 0, .old 1], _, [5], [0], [4]⟩, ⟨[.op 1 0, .old 2], _, [6], [0, 1, 2], [5]⟩]) (F := [.op 2 0, .op 3 0]) hst hb Za
         (o_p rfl (Zbw Zci rfl rfl u_0) <| o_p rfl (Zf Zbv rfl rfl u_0) <| o_p rfl (Zz Zci rfl rfl u_1 u_0) <| o_p rfl (Zz Zbv rfl rfl u_1 u_0) <| o_n) (by kernel_rfl) (fun a g hst hb => ?_)
       refine wp_ret ?_
       refine Zp ?_
       obtain rfl := Option.some.inj H0
       obtain ⟨u0, hu0, hq0⟩ := Z8 (P := Tryz.prog) Zci (hst.at 0 rfl)
       obtain ⟨u1, hu1, hq1⟩ := Z8 (P := Tryz.prog) Zbv (hst.at 1 rfl)
       exact Zc9 rfl hst hb hu0 hu1 (Zcm hq0 hq1)
     · replace H0 := Zw hc7 H0
       refine wp_skip ?_
       refine Zr ?_
       obtain ⟨r10, h11, H0⟩ := Zh H0
       refine r_s (L := [(2, _), (3, _), (4, _), (5, _), (8, _), (10, _)]) (T := [⟨[.old 0], _, [], [], [56]⟩, ⟨[.old 1], _, [], [], [57]⟩, ⟨[.op 1 0], _, [], [1], [58]⟩, ⟨[.old 4], _, [], [], [59]⟩, ⟨[.op 0 0, .op 2 0, .op 3 0], _, [], List.range 4, [60]⟩, ⟨[.op 4 0], _, [], List.range 5, [55]⟩, ⟨[.op 5 0], _, [], List.range 6, [61]⟩, ⟨[.op 5 0], _, [], List.range 6, [62]⟩, ⟨[.op 6 0, .old 0], _, [3], List.range 7, [2]⟩]) (F := [.op 8 0, .old 2, .old 3, .old 5]) (hst.pick [0, 1, 2, 3, 4, 5] rfl) hb Za
         (o_p rfl (Zbw Zci rfl rfl u_0) <| o_p rfl (Zd Zjq rfl rfl u_0) <| o_p rfl (Zf ty_9 rfl rfl u_0) <| o_p rfl (Zf Zba rfl rfl u_0) <| o_p rfl (Zn Z4p (Zks _ _ _ h11) rfl rfl (.cons u_0 (.cons u_1 (.cons u_2 .nil)))) <| o_p rfl (Zb rfl rfl u_0) <| o_p rfl (Z4 rfl rfl u_0 rfl) <| o_p rfl (Z4 rfl rfl u_0 rfl) <| o_p rfl (Zz Zci rfl rfl u_1 u_0) <| o_n) (by kernel_rfl) (fun a g hst hb => ?_)
       refine r_s (T := [⟨[.old 0], _, [], [], [63]⟩, ⟨[.old 3], _, [], [], [64]⟩, ⟨[.op 0 0, .old 1], _, [5], [0], [4]⟩, ⟨[.op 1 0, .old 2], _, [6], [0, 1, 2], [5]⟩]) (F := [.op 2 0, .op 3 0]) hst hb Za
         (o_p rfl (Zbw Zci rfl rfl u_0) <| o_p rfl (Zf Zbv rfl rfl u_0) <| o_p rfl (Zz Zci rfl rfl u_1 u_0) <| o_p rfl (Zz Zbv rfl rfl u_1 u_0) <| o_n) (by kernel_rfl) (fun a g hst hb => ?_)
       refine wp_ret ?_
       obtain rfl := Option.some.inj H0
       obtain ⟨u0, hu0, hq0⟩ := Z8 (P := Tryz.prog) Zci (hst.at 0 rfl)
       obtain ⟨u1, hu1, hq1⟩ := Z8 (P := Tryz.prog) Zbv (hst.at 1 rfl)
       exact Zc9 rfl hst hb hu0 hu1 (Zcm hq0 hq1)
end Go.CL
set_option linter.unusedVariables false
set_option linter.unusedSimpArgs false
set_option maxRecDepth 100000
namespace Go.CL
open Go Go.RowKit Go.Proofs
theorem Zqe (a0 : Zj) (a1 : Zb0) {r : Zj × Zx} (h : Zi6 a0 a1 = some r) : FnOk Tryz.prog 14 [(Z3.pd a0), (Zcq.pd a1)] (pTup [(Z3.pd r.1), (Zbs.pd r.2)]) := by
 have H0 := h
 unfold Zi6 at H0
 clear h
 refine Zbn (N := 67) Tryz.func14 rfl rfl (Nat.le_of_ble_eq_true rfl) rfl rfl (fun a g0 hst hb => ?_)
 refine r_s (T := [⟨[.old 0], _, [], [], [2]⟩, ⟨[.old 1], _, [], [], [3]⟩, ⟨[], [(4, (pBox Z3 4 (default : Zj)))], [5], [], [4]⟩, ⟨[], [(5, (pBox Zbs 5 (default : Zx)))], [6], [], [5]⟩]) (F := [.op 0 0, .op 1 0, .op 2 0, .op 3 0]) hst hb Za
   (o_p rfl (Zbj rfl rfl u_0) <| o_p rfl (Zbj rfl rfl u_0) <| o_p rfl (Zbb (zs := [.slice none 0 0, .int .i64 0]) (by kernel_rfl) (fun g => Zdz g) rfl rfl) <| o_p rfl (Zbb (zs := [.int .i64 0, .int .i64 0, .slice none 0 0]) (by kernel_rfl) (fun g => Zle g) rfl rfl) <| o_n) (by kernel_rfl) (fun a g hst hb => ?_)
 obtain ⟨r1, h2, H0⟩ := Zh H0
 refine r_s (T := [⟨[.old 1], _, [], [], [13]⟩, ⟨[.op 0 0], _, [], [0], [14]⟩, ⟨[.op 1 0], _, [], [0, 1], [12]⟩, ⟨[.op 2 0], _, [], [0, 1, 2], [15]⟩, ⟨[.op 2 0], _, [], [0, 1, 2], [16]⟩, ⟨[.op 3 0], _, [], List.range 4, [6]⟩, ⟨[.op 4 0], _, [], List.range 6, [7]⟩]) (F := [.old 0, .old 1, .old 2, .old 3, .op 5 0, .op 6 0]) hst hb Za
   (o_p rfl (Zf Znb rfl rfl u_0) <| o_p rfl (Zn Z9e (Zpi _ h2) rfl rfl (.cons u_0 .nil)) <| o_p rfl (Zb rfl rfl u_0) <| o_p rfl (Z4 rfl rfl u_0 rfl) <| o_p rfl (Z4 rfl rfl u_0 rfl) <| o_p rfl (Zc rfl rfl u_0) <| o_p rfl (Zc rfl rfl u_0) <| o_n) (by kernel_rfl) (fun a g hst hb => ?_)
 refine wp_seq ?_
 refine r_s (T := [⟨[.old 4], _, [], [], [17]⟩, ⟨[.op 0 0], _, [], [0], [18]⟩]) (F := [.old 0, .old 1, .old 2, .old 3, .old 4, .old 5, .op 1 0]) hst hb Za
   (o_p rfl (Zb rfl rfl u_0) <| o_p rfl (Zc5 rfl rfl u_0 c_i) <| o_n) (by kernel_rfl) (fun a g hst hb => ?_)
 refine wp_cond_split (hst.bool 6 rfl) (fun hc3 => ?_) (fun hc3 => ?_)
 · replace H0 := Zv hc3 H0
   refine r_s (L := [(2, _), (4, _), (5, _), (6, _), (7, _)]) (T := [⟨[.old 0], _, [], [], [19]⟩, ⟨[.old 3], _, [], [], [20]⟩, ⟨[.old 4], _, [], [], [21]⟩, ⟨[.op 1 0, .op 2 0], _, [], [1, 2], [22]⟩, ⟨[.op 0 0, .old 1], _, [5], [0], [4]⟩, ⟨[.op 3 0, .old 2], _, [6], List.range 5, [5]⟩]) (F := [.op 4 0, .op 5 0]) (hst.pick [0, 2, 3, 4, 5] rfl) hb Za
     (o_p rfl (Zf Zci rfl rfl u_0) <| o_p rfl (Zb rfl rfl u_0) <| o_p rfl (Zb rfl rfl u_0) <| o_p rfl (Zm7 rfl rfl u_0 u_1) <| o_p rfl (Zz Zci rfl rfl u_1 u_0) <| o_p rfl (Zz Zgs rfl rfl u_1 u_0) <| o_n) (by kernel_rfl) (fun a g hst hb => ?_)
   refine wp_ret ?_
   refine Zp ?_
   obtain rfl := Option.some.inj H0
   obtain ⟨u0, hu0, hq0⟩ := Z8 (P := Tryz.prog) Zci (hst.at 0 rfl)
   obtain ⟨u1, hu1, hq1⟩ := Z8 (P := Tryz.prog) Zgs (hst.at 1 rfl)
   exact Zc9 rfl hst hb hu0 hu1 (Zcm hq0 hq1)
 · replace H0 := Zw hc3 H0
   refine wp_skip ?_
   refine Zr ?_
   refine r_s (L := [(2, _), (3, _), (4, _), (5, _)]) (T := [⟨[.old 0], _, [], [], [23]⟩, ⟨[], _, [25], [], [24]⟩, ⟨[], [(8, (pBox Z3 8 (default : Zj)))], [9], [], [8]⟩, ⟨[.op 0 0, .op 2 0], _, [9], [0, 2], [8]⟩, ⟨[.op 1 0], _, [], List.range 4, [9]⟩]) (F := [.old 0, .old 1, .old 2, .old 3, .op 3 0, .op 4 0]) (hst.pick [0, 1, 2, 3] rfl) hb Za
     (o_p rfl (Zf Zci rfl rfl u_0) <| o_p rfl (Zjv 24 Zui (xs := []) .nil (by decide) rfl rfl) <| o_p rfl (Zbb (zs := [.slice none 0 0, .int .i64 0]) (by kernel_rfl) (fun g => Zdz g) rfl rfl) <| o_p rfl (Zz Zci rfl rfl u_1 u_0) <| o_p rfl (Zc rfl rfl u_0) <| o_n) (by kernel_rfl) (fun a g hst hb => ?_)
   refine wp_seq ?_
   refine r_s (T := [⟨[], _, [], [], [10]⟩]) (F := [.old 0, .old 1, .old 2, .old 3, .old 4, .old 5, .op 0 0]) hst hb Za
     (o_p rfl (Zc rfl rfl c_i) <| o_n) (by kernel_rfl) (fun a g hst hb => ?_)
   obtain ⟨z22, hz1, H0⟩ := Zh H0
   refine Zcb (fun a w => ∃ (y18 : Zj) (y19 : Zx) (y20 : Zj) (y21 : List Zg) (g : G), w = g.w ∧ St 67 [(4, (pBox Z3 4 y18)), (5, (pBox Zbs 5 y19)), (8, (pBox Z3 8 y20)), (9, (pRow Zm 70 24 y21))] a g ∧ Base g0 g ∧ (.inr (y18, y19, y20, y21)) = z22) ?_ ?_
   · rintro a w ⟨y18, y19, y20, y21, g, rfl, hst, hb, rfl⟩
     refine Zr ?_
     refine r_s (T := [⟨[.old 2], _, [], [], [64]⟩, ⟨[.old 3], _, [], [], [65]⟩, ⟨[.op 1 0], _, [], [1], [66]⟩, ⟨[.op 0 0, .old 0], _, [5], [0], [4]⟩, ⟨[.op 2 0, .old 1], _, [6], List.range 4, [5]⟩]) (F := [.op 3 0, .op 4 0]) hst hb Za
       (o_p rfl (Zbw Zci rfl rfl u_0) <| o_p rfl (Zb rfl rfl u_0) <| o_p rfl (Z5q rfl rfl (Opd.imp u_0 (fun _ _ h => Zit h))) <| o_p rfl (Zz Zci rfl rfl u_1 u_0) <| o_p rfl (Zz Zgs rfl rfl u_1 u_0) <| o_n) (by kernel_rfl) (fun a g hst hb => ?_)
     refine wp_ret ?_
     obtain rfl := Option.some.inj H0
     obtain ⟨u0, hu0, hq0⟩ := Z8 (P := Tryz.prog) Zci (hst.at 0 rfl)
     obtain ⟨u1, hu1, hq1⟩ := Z8 (P := Tryz.prog) Zgs (hst.at 1 rfl)
     exact Zc9 rfl hst hb hu0 hu1 (Zcm hq0 hq1)
   · refine wp_block ?_
     refine wp_loop_ghost (fun n a w => ∃ (x4 : Zj) (x5 : Zx) (x6 : Zj) (x7 : List Zg) (x8 : Int) (g : G), w = g.w ∧ St 67 [(2, (Z3.ptr a0)), (3, (Zcq.ptr a1)), (4, (pBox Z3 4 x4)), (5, (pBox Zbs 5 x5)), (8, (pBox Z3 8 x6)), (9, (pRow Zm 70 24 x7)), (10, (pInt .i64 x8))] a g ∧ Base g0 g ∧ Zd2 a0 a1 n x4 x5 x6 x7 x8 = some z22) (Int.toNat ((a1.Acts.length : Int) - (0 : Int)) + 1) ⟨(default : Zj), (default : Zx), a0, ([] : List Zg), (0 : Int), g, rfl, (hst.pick [0, 1, 2, 3, 4, 5, 6] rfl), hb, hz1⟩ (fun n a w hI => ?_)
     obtain ⟨x4, x5, x6, x7, x8, g, rfl, hst, hb, H1⟩ := hI
     cases n with
     | zero => exact absurd H1 (by simp [Zd2])
     | succ n =>
       rw [Zd2] at H1
       refine wp_seq ?_
       refine r_s (T := [⟨[.old 6], _, [], [], [25]⟩, ⟨[.old 1], _, [], [], [26]⟩, ⟨[.op 1 0], _, [], [1], [27]⟩, ⟨[.op 2 0], _, [], [1, 2], [28]⟩, ⟨[.op 0 0, .op 3 0], _, [], List.range 4, [29]⟩]) (F := [.old 0, .old 1, .old 2, .old 3, .old 4, .old 5, .old 6, .op 4 0]) hst hb Za
         (o_p rfl (Zb rfl rfl u_0) <| o_p rfl (Zd Zh7 rfl rfl u_0) <| o_p rfl (Zf Zkw rfl rfl u_0) <| o_p rfl (Zby Tryz.underlying50 rfl rfl u_0) <| o_p rfl (Zcd rfl rfl u_0 u_1) <| o_n) (by kernel_rfl) (fun a g hst hb => ?_)
       refine wp_cond_split (hst.bool 7 rfl) (fun hc9 => ?_) (fun hc9 => ?_)
       · replace H1 := Zv hc9 H1
         refine wp_skip ?_
         refine Zr ?_
         refine wp_seq ?_
         refine wp_block ?_
         refine r_s (L := [(2, _), (3, _), (4, _), (5, _), (8, _), (9, _), (10, _)]) (T := [⟨[], _, [], [], [32]⟩, ⟨[], [(11, (pBox Zm 11 (default : Zg)))], [12], [], [11]⟩, ⟨[.op 0 0, .op 1 0], _, [12], [0, 1], [11]⟩]) (F := [.old 0, .old 1, .old 2, .old 3, .old 4, .old 5, .old 6, .op 2 0]) (hst.pick [0, 1, 2, 3, 4, 5, 6] rfl) hb Za
           (o_p rfl (Zoq rfl rfl ) <| o_p rfl (Zbb (zs := [.int .i64 0, .int .i64 0, .int .i64 0, .int .i64 0, .int .i64 0, .int .i64 0, .float .f64 0, .int .i64 0, .string ByteArray.empty, .slice none 0 0]) (by kernel_rfl) (fun g => Zcv g) rfl rfl) <| o_p rfl (Zz Zbv rfl rfl u_1 u_0) <| o_n) (by kernel_rfl) (fun a g hst hb => ?_)
         obtain ⟨e10, h11, H1⟩ := Zh H1; obtain ⟨r12, h13, H1⟩ := Zh H1
         refine r_s (T := ⟨[.old 4], _, [], [], [34]⟩ :: ⟨[.old 1], _, [], [], [35]⟩ :: ⟨[.op 1 0], _, [], [1], [36]⟩ :: ⟨[.old 6], _, [], [], [37]⟩ :: ⟨[.op 2 0, .op 3 0], _, [], [1, 2, 3], [38]⟩ :: ⟨[.op 4 0], _, [], List.range' 1 4, [39]⟩ :: ⟨[.op 0 0, .op 5 0], _, [], List.range 6, [40]⟩ :: ⟨[.op 6 0], _, [], List.range 7, [33]⟩ :: ⟨[.op 7 0], _, [], List.range 8, [41]⟩ :: ⟨[.op 7 0], _, [], List.range 8, [42]⟩ :: ⟨[.op 8 0, .old 4], _, [9], List.range 9, [8]⟩ :: ⟨[.op 9 0, .old 7], _, [12], List.range 11, [11]⟩ :: []) (F := [.old 0, .old 1, .old 2, .old 3, .op 10 0, .old 5, .old 6, .op 11 0]) hst hb Za
           (o_p rfl (Zbw Zci rfl rfl u_0) <| o_p rfl (Zd Zh7 rfl rfl u_0) <| o_p rfl (Zf Zkw rfl rfl u_0) <| o_p rfl (Zb rfl rfl u_0) <| o_p rfl (Zbf Tryz.underlying50 Zrn rfl rfl u_0 u_1 h11) <| o_p rfl (Zf Zfi rfl rfl u_0) <| o_p rfl (Zn Z8q (Zqm _ _ h13) rfl rfl (.cons u_0 (.cons u_1 .nil))) <| o_p rfl (Zb rfl rfl u_0) <| o_p rfl (Z4 rfl rfl u_0 rfl) <| o_p rfl (Z4 rfl rfl u_0 rfl) <| o_p rfl (Zz Zci rfl rfl u_1 u_0) <| o_p rfl (Zz Zbv rfl rfl u_1 u_0) <| o_n) (by kernel_rfl) (fun a g hst hb => ?_)
         refine wp_seq ?_
         obtain ⟨e14, h15, H1⟩ := Zh H1
         refine r_s (T := [⟨[.old 7], _, [], [], [43]⟩, ⟨[.op 0 0], _, [], [0], [44]⟩, ⟨[.op 1 0], _, [], [0, 1], [45]⟩, ⟨[.op 2 0], _, [], [0, 1, 2], [46]⟩, ⟨[.op 3 0, .old 1], _, [], List.range 4, [47]⟩, ⟨[.op 3 0, .op 4 0], _, [], List.range 5, [48]⟩, ⟨[.op 3 0, .old 6], _, [], List.range 4, [49]⟩, ⟨[.op 3 0, .op 5 0, .op 6 0], _, [], List.range 7, [50]⟩, ⟨[.op 3 0, .op 7 0], _, [], List.range 8, [51]⟩, ⟨[.op 3 0, .op 8 0], _, [], List.range 9, [52]⟩, ⟨[.op 3 0, .op 9 0], _, [], List.range 10, [53]⟩]) (F := [.old 0, .old 1, .old 2, .old 3, .old 4, .old 5, .old 6, .old 7, .op 10 0]) hst hb Za
           (o_p rfl (Zs Zfy (off := 0) (by kernel_rfl) rfl rfl u_0) <| o_p rfl (Zbo Zge rfl rfl u_0) <| o_p rfl (Zc5 rfl rfl u_0 c_i) <| o_p rfl (Zb rfl rfl u_0) <| o_g (g_t rfl rfl rfl (fun hG => Zd Zh7 rfl rfl u_0)) <| o_g (g_t rfl rfl rfl (fun hG => Zf Zkw rfl rfl (Opd.gd hG u_0))) <| o_g (g_t rfl rfl rfl (fun hG => Zb rfl rfl u_0)) <| o_g (g_t rfl rfl rfl (fun hG => Zbf Tryz.underlying50 Zrn rfl rfl (Opd.gd hG u_0) (Opd.gd hG u_1) (Zbl h15 hG))) <| o_g (g_t rfl rfl rfl (fun hG => Zd Zu4 rfl rfl (Opd.gd hG u_0))) <| o_g (g_t rfl rfl rfl (fun hG => Zf ty_4 rfl rfl (Opd.gd hG u_0))) <| o_p rfl (Zbc rfl rfl u_0 (fun hz => (Opd.gd hz u_1))) <| o_n) (by kernel_rfl) (fun a g hst hb => ?_)
         refine wp_cond_split (hst.bool 8 rfl) (fun hc16 => ?_) (fun hc16 => ?_)
         · replace H1 := Zv hc16 H1
           refine r_s (L := [(2, _), (4, _), (5, _), (10, _), (11, _)]) (T := [⟨[.old 0], _, [], [], [54]⟩, ⟨[.old 4], _, [], [], [55]⟩, ⟨[.op 1 0], _, [], [1], [56]⟩, ⟨[.old 3], _, [], [], [57]⟩, ⟨[.op 3 0], _, [], [3], [58]⟩, ⟨[.op 2 0, .op 4 0], _, [], List.range' 1 4, [59]⟩, ⟨[.op 0 0, .old 1], _, [5], [0], [4]⟩, ⟨[.op 5 0, .old 2], _, [6], List.range 7, [5]⟩]) (F := [.op 6 0, .op 7 0]) (hst.pick [0, 2, 3, 6, 7] rfl) hb Za
             (o_p rfl (Zf Zci rfl rfl u_0) <| o_p rfl (Zs Zfy (off := 0) (by kernel_rfl) rfl rfl u_0) <| o_p rfl (Zbo Zge rfl rfl u_0) <| o_p rfl (Zb rfl rfl u_0) <| o_p rfl (Zb4 rfl rfl u_0 c_i rfl) <| o_p rfl (Zm7 rfl rfl u_0 u_1) <| o_p rfl (Zz Zci rfl rfl u_1 u_0) <| o_p rfl (Zz Zgs rfl rfl u_1 u_0) <| o_n) (by kernel_rfl) (fun a g hst hb => ?_)
           refine wp_ret ?_
           refine Zp ?_
           refine Z1 ?_
           refine Zp ?_
           refine Zp ?_
           refine Z1 ?_
           refine Zp ?_
           refine Zp ?_
           obtain rfl := Option.some.inj H1
           obtain rfl := Option.some.inj H0
           obtain ⟨u0, hu0, hq0⟩ := Z8 (P := Tryz.prog) Zci (hst.at 0 rfl)
           obtain ⟨u1, hu1, hq1⟩ := Z8 (P := Tryz.prog) Zgs (hst.at 1 rfl)
           exact Zc9 rfl hst hb hu0 hu1 (Zcm hq0 hq1)
         · replace H1 := Zw hc16 H1
           refine wp_skip ?_
           refine Zr ?_
           obtain ⟨h17, H1⟩ := Zgg H1
           refine r_g (L := [(2, _), (3, _), (4, _), (5, _), (8, _), (9, _), (10, _), (11, _)]) (T := [⟨[.old 5], _, [], [], [60]⟩, ⟨[.old 7], _, [], [], [61]⟩, ⟨[.op 1 0], _, [], [1], [62]⟩, ⟨[.op 0 0, .op 2 0], _, [25], [0, 1, 2], [9, 60, 63]⟩, ⟨[.op 3 0], _, [], List.range 4, [9]⟩]) (F := [.old 0, .old 1, .old 2, .old 3, .old 4, .op 4 0, .old 6]) (hst.pick [0, 1, 2, 3, 4, 5, 6, 7] rfl) hb Za
             (o_p rfl (Zb rfl rfl u_0) <| o_p rfl (Zbw Zbv rfl rfl u_0) <| o_p rfl (Zgt Zui (xs := [.tmp 61]) (.cons u_0 .nil) (by decide) rfl rfl) <| o_p rfl (Zff Zui rfl rfl u_0 u_1 h17) <| o_p rfl (Zc rfl rfl u_0) <| o_n) (by kernel_rfl) (fun a g hst hb => ?_)
           refine Zbe ?_
           refine Zr ?_
           refine r_g (T := [⟨[.old 6], _, [], [], [30]⟩, ⟨[.op 0 0], _, [], [0], [31]⟩, ⟨[.op 1 0], _, [], [0, 1], [10]⟩]) (F := [.old 0, .old 1, .old 2, .old 3, .old 4, .old 5, .op 2 0]) hst hb Za
             (o_p rfl (Zb rfl rfl u_0) <| o_p rfl (Zb4 rfl rfl u_0 c_i rfl) <| o_p rfl (Zc rfl rfl u_0) <| o_n) (by kernel_rfl) (fun a g hst hb => ?_)
           exact ⟨n, Nat.lt_succ_self _, x4, x5, r12.1, (x7 ++ ([r12.2] : List Zg)), (IntKind.i64.wrap (x8 + (1 : Int))), g, rfl, (hst.pick [0, 1, 2, 3, 4, 5, 6] rfl), hb, H1⟩
       · replace H1 := Zw hc9 H1
         refine wp_exit ?_
         refine Zb6 ?_
         refine Zb6 ?_
         refine Zcn ?_
         exact ⟨x4, x5, x6, x7, g, rfl, (hst.pick [2, 3, 4, 5] rfl), hb, Option.some.inj H1⟩
end Go.CL
set_option linter.unusedVariables false
set_option linter.unusedSimpArgs false
set_option maxRecDepth 100000
namespace Go.CL
open Go Go.RowKit Go.Proofs
theorem Zqd (a0 : Zj) (a1 : List Zb0) {r : Zj × (List Zx)} (h : Zi1 a0 a1 = some r) : FnOk Tryz.prog 10 [(Z3.pd a0), (Zcq.sl.pd a1)] (pTup [(Z3.pd r.1), (Zbs.sl.pd r.2)]) := by
 have H0 := h
 unfold Zi1 at H0
 clear h
 refine Zbn (N := 32) Tryz.func10 rfl rfl (Nat.le_of_ble_eq_true rfl) rfl rfl (fun a g0 hst hb => ?_)
 refine r_s (T := [⟨[.old 0], _, [3], [], [2]⟩, ⟨[], [(4, (pBox Z3 4 (default : Zj)))], [5], [], [4]⟩, ⟨[], [(5, (Zbs.sl.pd ([] : List Zx)))], [], [], [5]⟩]) (F := [.old 1, .op 0 0, .op 1 0]) hst hb Za
   (o_p rfl (Zkz rfl rfl u_0) <| o_p rfl (Zbb (zs := [.slice none 0 0, .int .i64 0]) (by kernel_rfl) (fun g => Zdz g) rfl rfl) <| o_p rfl (Zc rfl rfl (Opd.c (fun g => Zj4 g))) <| o_n) (by kernel_rfl) (fun a g hst hb => ?_)
 refine r_s (T := [⟨[], _, [10], [], [9]⟩, ⟨[.op 0 0], _, [], [0], [6]⟩]) (F := [.old 0, .old 1, .old 2, .op 1 0]) hst hb Za
   (o_p rfl (Zjv 9 Zth (xs := []) .nil (by decide) rfl rfl) <| o_p rfl (Zc rfl rfl u_0) <| o_n) (by kernel_rfl) (fun a g hst hb => ?_)
 refine wp_seq ?_
 refine r_s (T := [⟨[], _, [], [], [7]⟩]) (F := [.old 0, .old 1, .old 2, .old 3, .op 0 0]) hst hb Za
   (o_p rfl (Zc rfl rfl c_i) <| o_n) (by kernel_rfl) (fun a g hst hb => ?_)
 obtain ⟨z12, hz1, H0⟩ := Zh H0
 refine Zcb (fun a w => ∃ (y10 : Zj) (y11 : List Zx) (g : G), w = g.w ∧ St 32 [(2, (pBox Z3 2 y10)), (4, (pBox Z3 4 (default : Zj))), (6, (pRow Zbs 47 9 y11))] a g ∧ Base g0 g ∧ (y10, y11) = z12) ?_ ?_
 · rintro a w ⟨y10, y11, g, rfl, hst, hb, rfl⟩
   refine Zr ?_
   refine r_s (T := [⟨[.old 0], _, [], [], [30]⟩, ⟨[.old 2], _, [], [], [31]⟩, ⟨[.op 0 0, .old 1], _, [5], [0], [4]⟩, ⟨[.op 1 0], _, [], [0, 1, 2], [5]⟩]) (F := [.op 2 0, .op 3 0]) hst hb Za
     (o_p rfl (Zbw Zci rfl rfl u_0) <| o_p rfl (Zb rfl rfl u_0) <| o_p rfl (Zz Zci rfl rfl u_1 u_0) <| o_p rfl (Zc rfl rfl u_0) <| o_n) (by kernel_rfl) (fun a g hst hb => ?_)
   refine wp_ret ?_
   obtain rfl := Option.some.inj H0
   obtain ⟨u0, hu0, hq0⟩ := Z8 (P := Tryz.prog) Zci (hst.at 0 rfl)
   exact Zc9 rfl hst hb hu0 (Zk (s := 5)) (Zcm hq0 (Zit (hst.at 1 rfl)))
 · refine wp_block ?_
   refine wp_loop_ghost (fun n a w => ∃ (x1 : Zj) (x2 : List Zx) (x3 : Int) (g : G), w = g.w ∧ St 32 [(1, (Zcq.sl.pd a1)), (2, (pBox Z3 2 x1)), (4, (pBox Z3 4 (default : Zj))), (6, (pRow Zbs 47 9 x2)), (7, (pInt .i64 x3))] a g ∧ Base g0 g ∧ Zev a1 n x1 x2 x3 = some z12) (Int.toNat ((a1.length : Int) - (0 : Int)) + 1) ⟨a0, ([] : List Zx), (0 : Int), g, rfl, (hst.pick [0, 1, 2, 3, 4] rfl), hb, hz1⟩ (fun n a w hI => ?_)
   obtain ⟨x1, x2, x3, g, rfl, hst, hb, H1⟩ := hI
   cases n with
   | zero => exact absurd H1 (by simp [Zev])
   | succ n =>
     rw [Zev] at H1
     refine wp_seq ?_
     refine r_s (T := [⟨[.old 4], _, [], [], [10]⟩, ⟨[.old 0], _, [], [], [11]⟩, ⟨[.op 1 0], _, [], [1], [12]⟩, ⟨[.op 0 0, .op 2 0], _, [], [0, 1, 2], [13]⟩]) (F := [.old 0, .old 1, .old 2, .old 3, .old 4, .op 3 0]) hst hb Za
       (o_p rfl (Zb rfl rfl u_0) <| o_p rfl (Zb rfl rfl u_0) <| o_p rfl (Zby Tryz.underlying23 rfl rfl u_0) <| o_p rfl (Zcd rfl rfl u_0 u_1) <| o_n) (by kernel_rfl) (fun a g hst hb => ?_)
     refine wp_cond_split (hst.bool 5 rfl) (fun hc4 => ?_) (fun hc4 => ?_)
     · replace H1 := Zv hc4 H1
       refine wp_skip ?_
       refine Zr ?_
       refine wp_seq ?_
       refine wp_block ?_
       refine r_s (L := [(1, _), (2, _), (4, _), (6, _), (7, _)]) (T := [⟨[], _, [], [], [16]⟩, ⟨[], [(8, (pBox Zbs 8 (default : Zx)))], [9], [], [8]⟩, ⟨[.op 0 0, .op 1 0], _, [9], [0, 1], [8]⟩]) (F := [.old 0, .old 1, .old 2, .old 3, .old 4, .op 2 0]) (hst.pick [0, 1, 2, 3, 4] rfl) hb Za
         (o_p rfl (Z7s rfl rfl ) <| o_p rfl (Zbb (zs := [.int .i64 0, .int .i64 0, .slice none 0 0]) (by kernel_rfl) (fun g => Zle g) rfl rfl) <| o_p rfl (Zz Zgs rfl rfl u_1 u_0) <| o_n) (by kernel_rfl) (fun a g hst hb => ?_)
       obtain ⟨e5, h6, H1⟩ := Zh H1; obtain ⟨r7, h8, H1⟩ := Zh H1
       refine r_s (T := [⟨[.old 1], _, [], [], [18]⟩, ⟨[.old 0], _, [], [], [19]⟩, ⟨[.old 4], _, [], [], [20]⟩, ⟨[.op 1 0, .op 2 0], _, [], [1, 2], [21]⟩, ⟨[.op 3 0], _, [], [1, 2, 3], [22]⟩, ⟨[.op 0 0, .op 4 0], _, [], List.range 5, [23]⟩, ⟨[.op 5 0], _, [], List.range 6, [17]⟩, ⟨[.op 6 0], _, [], List.range 7, [24]⟩, ⟨[.op 6 0], _, [], List.range 7, [25]⟩, ⟨[.op 7 0, .old 1], _, [3], List.range 8, [2]⟩, ⟨[.op 8 0, .old 5], _, [9], List.range 10, [8]⟩]) (F := [.old 0, .op 9 0, .old 2, .old 3, .old 4, .op 10 0]) hst hb Za
         (o_p rfl (Zbw Zci rfl rfl u_0) <| o_p rfl (Zb rfl rfl u_0) <| o_p rfl (Zb rfl rfl u_0) <| o_p rfl (Zbf Tryz.underlying23 Zz2 rfl rfl u_0 u_1 h6) <| o_p rfl (Zf Znb rfl rfl u_0) <| o_p rfl (Zn Z83 (Zqe _ _ h8) rfl rfl (.cons u_0 (.cons u_1 .nil))) <| o_p rfl (Zb rfl rfl u_0) <| o_p rfl (Z4 rfl rfl u_0 rfl) <| o_p rfl (Z4 rfl rfl u_0 rfl) <| o_p rfl (Zz Zci rfl rfl u_1 u_0) <| o_p rfl (Zz Zgs rfl rfl u_1 u_0) <| o_n) (by kernel_rfl) (fun a g hst hb => ?_)
       obtain ⟨h9, H1⟩ := Zgg H1
       refine r_g (T := [⟨[.old 3], _, [], [], [26]⟩, ⟨[.old 5], _, [], [], [27]⟩, ⟨[.op 1 0], _, [], [1], [28]⟩, ⟨[.op 0 0, .op 2 0], _, [10], [0, 1, 2], [6, 26, 29]⟩, ⟨[.op 3 0], _, [], List.range 4, [6]⟩]) (F := [.old 0, .old 1, .old 2, .op 4 0, .old 4]) hst hb Za
         (o_p rfl (Zb rfl rfl u_0) <| o_p rfl (Zbw Zgs rfl rfl u_0) <| o_p rfl (Zgt Zth (xs := [.tmp 27]) (.cons u_0 .nil) (by decide) rfl rfl) <| o_p rfl (Zff Zth rfl rfl u_0 u_1 h9) <| o_p rfl (Zc rfl rfl u_0) <| o_n) (by kernel_rfl) (fun a g hst hb => ?_)
       refine Zbe ?_
       refine Zr ?_
       refine r_g (T := [⟨[.old 4], _, [], [], [14]⟩, ⟨[.op 0 0], _, [], [0], [15]⟩, ⟨[.op 1 0], _, [], [0, 1], [7]⟩]) (F := [.old 0, .old 1, .old 2, .old 3, .op 2 0]) hst hb Za
         (o_p rfl (Zb rfl rfl u_0) <| o_p rfl (Zb4 rfl rfl u_0 c_i rfl) <| o_p rfl (Zc rfl rfl u_0) <| o_n) (by kernel_rfl) (fun a g hst hb => ?_)
       exact ⟨n, Nat.lt_succ_self _, r7.1, (x2 ++ ([r7.2] : List Zx)), (IntKind.i64.wrap (x3 + (1 : Int))), g, rfl, (hst.pick [0, 1, 2, 3, 4] rfl), hb, H1⟩
     · replace H1 := Zw hc4 H1
       refine wp_exit ?_
       refine Zb6 ?_
       refine Zb6 ?_
       refine Zcn ?_
       exact ⟨x1, x2, g, rfl, (hst.pick [1, 2, 3] rfl), hb, Option.some.inj H1⟩
end Go.CL
set_option linter.unusedVariables false
set_option linter.unusedSimpArgs false
set_option maxRecDepth 100000
namespace Go.CL
open Go Go.RowKit Go.Proofs
theorem Zp5 (a0 : Zq) {r : Int} (h : Zjx a0 = some r) : FnOk Tryz.prog 27 [(Z6.pd a0)] (pInt .i64 r) := by
 have H0 := h
 unfold Zjx at H0
 clear h
 refine Zbn (N := 5) Tryz.func27 rfl rfl (Nat.le_of_ble_eq_true rfl) rfl rfl (fun a g0 hst hb => ?_)
 refine r_s (T := [⟨[.old 0], _, [], [], [1]⟩, ⟨[], _, [], [], [2]⟩]) (F := [.op 0 0]) hst hb Za
   (o_p rfl (Zbj rfl rfl u_0) <| o_p rfl (Zc rfl rfl c_i) <| o_n) (by kernel_rfl) (fun a g hst hb => ?_)
 refine r_s (T := [⟨[.old 0], _, [], [], [3]⟩, ⟨[.op 0 0], _, [], [0], [4]⟩, ⟨[.op 1 0], _, [], [0, 1], [2]⟩]) (F := [.op 2 0]) hst hb Za
   (o_p rfl (Zd Zro rfl rfl u_0) <| o_p rfl (Zf ty_3 rfl rfl u_0) <| o_p rfl (Zc rfl rfl u_0) <| o_n) (by kernel_rfl) (fun a g hst hb => ?_)
 refine wp_ret ?_
 obtain rfl := Option.some.inj H0
 exact Z0 rfl hst hb (Zk (s := 2)) (hst.at 0 rfl)
end Go.CL
set_option linter.unusedVariables false
set_option linter.unusedSimpArgs false
set_option maxRecDepth 100000
namespace Go.CL
open Go Go.RowKit Go.Proofs
theorem Zsa (a0 : Zq) (a1 : Int) {r : ByteArray × Ze × Bool} (h : Zjr a0 a1 = some r) : FnOk Tryz.prog 28 [(Z6.pd a0), (pInt .i64 a1)] (pTup [(pStr r.1), (Zi.pd r.2.1), (Zbg r.2.2)]) := by
 have H0 := h
 unfold Zjr at H0
 clear h
 refine Zbn (N := 48) Tryz.func28 rfl rfl (Nat.le_of_ble_eq_true rfl) rfl rfl (fun a g0 hst hb => ?_)
 refine r_s (T := [⟨[.old 0], _, [], [], [2]⟩, ⟨[], _, [], [], [4]⟩, ⟨[], [(5, (pBox Zi 5 (default : Ze)))], [6], [], [5]⟩, ⟨[], _, [], [1], [6]⟩]) (F := [.old 1, .op 0 0, .op 2 0]) hst hb Za
   (o_p rfl (Zbj rfl rfl u_0) <| o_p rfl (Zc rfl rfl c_s) <| o_p rfl (Zbb (zs := [.int .i64 0, .int .i64 0, .int .i64 0, .int .i64 0, .float .f64 0, .int .i64 0, .string ByteArray.empty, .slice none 0 0]) (by kernel_rfl) (fun g => Zb8 g) rfl rfl) <| o_p rfl (Zc rfl rfl c_b) <| o_n) (by kernel_rfl) (fun a g hst hb => ?_)
 refine wp_seq ?_
 refine r_s (T := [⟨[.old 1], _, [], [], [9]⟩, ⟨[.op 0 0], _, [], [0], [10]⟩, ⟨[.op 1 0], _, [], [0, 1], [7]⟩]) (F := [.old 0, .old 2, .op 2 0]) hst hb Za
   (o_p rfl (Zd Zoy rfl rfl u_0) <| o_p rfl (Zf Zc3 rfl rfl u_0) <| o_p rfl (Zc rfl rfl u_0) <| o_n) (by kernel_rfl) (fun a g hst hb => ?_)
 obtain ⟨z16, hz1, H0⟩ := Zh H0
 refine Zcb (fun a w => ∃ (y15 : Ze) (g : G), w = g.w ∧ St 48 [(5, (pBox Zi 5 y15))] a g ∧ Base g0 g ∧ (.inr y15) = z16) ?_ ?_
 · rintro a w ⟨y15, g, rfl, hst, hb, rfl⟩
   refine Zr ?_
   refine r_s (T := [⟨[], _, [], [], [47]⟩, ⟨[], _, [], [], [4]⟩, ⟨[.op 0 0, .old 0], _, [6], [0, 1], [5]⟩, ⟨[], _, [], [0, 1, 2], [6]⟩]) (F := [.op 1 0, .op 2 0, .op 3 0]) hst hb Za
     (o_p rfl (Zlw rfl rfl ) <| o_p rfl (Zc rfl rfl c_s) <| o_p rfl (Zz Zba rfl rfl u_1 u_0) <| o_p rfl (Zc rfl rfl c_b) <| o_n) (by kernel_rfl) (fun a g hst hb => ?_)
   refine wp_ret ?_
   obtain rfl := Option.some.inj H0
   obtain ⟨u1, hu1, hq1⟩ := Z8 (P := Tryz.prog) Zba (hst.at 1 rfl)
   exact Zhy rfl hst hb (Zk (s := 4)) hu1 (Zk (s := 6)) (Zf9 (hst.at 0 rfl) hq1 (hst.at 2 rfl))
 · refine wp_block ?_
   refine wp_loop_ghost (fun n a w => ∃ (x1 : Int) (x2 : Ze) (x3 : shelf_nodeT) (g : G), w = g.w ∧ St 48 [(1, (pInt .i64 x1)), (5, (pBox Zi 5 x2)), (7, (Z7.pd x3))] a g ∧ Base g0 g ∧ Zdr n x1 x2 x3 = some z16) (a0.top.hh + 1) ⟨a1, (default : Ze), a0.top, g, rfl, (hst.pick [0, 1, 2] rfl), hb, hz1⟩ (fun n a w hI => ?_)
   obtain ⟨x1, x2, x3, g, rfl, hst, hb, H1⟩ := hI
   cases n with
   | zero => exact absurd H1 (by simp [Zdr])
   | succ n =>
     rw [Zdr] at H1
     refine wp_seq ?_
     refine r_s (T := [⟨[.old 2], _, [], [], [11]⟩, ⟨[.op 0 0], _, [], [0], [12]⟩]) (F := [.old 0, .old 1, .old 2, .op 1 0]) hst hb Za
       (o_p rfl (Zb rfl rfl u_0) <| o_p rfl (Zxs Tryz.underlying25 rfl rfl u_0 (Ze3 _)) <| o_n) (by kernel_rfl) (fun a g hst hb => ?_)
     refine wp_cond_split (hst.bool 3 rfl) (fun hc4 => ?_) (fun hc4 => ?_)
     · replace H1 := Zv hc4 H1
       refine wp_skip ?_
       refine Zr ?_
       refine Zcb (fun a w => ∃ (j13 : Int) (j14 : shelf_nodeT) (g : G), w = g.w ∧ St 48 [(1, (pInt .i64 j13)), (5, (pBox Zi 5 x2)), (7, (Z7.pd j14))] a g ∧ Base g0 g ∧ Zho x2 (Zdr n) j13 j14 = some z16) ?_ ?_
       · rintro a w ⟨j13, j14, g, rfl, hst, hb, H1⟩
         unfold Zho at H1
         exact ⟨n, Nat.lt_succ_self _, j13, x2, j14, g, rfl, (hst.pick [0, 1, 2] rfl), hb, H1⟩
       · refine wp_block ?_
         obtain ⟨n5, h6, H1⟩ := Zh H1; obtain ⟨r7, h8, H1⟩ := Zh H1
         refine r_s (L := [(1, _), (5, _), (7, _)]) (T := [⟨[.old 2], _, [], [], [13]⟩, ⟨[.op 0 0], _, [], [0], [14]⟩, ⟨[.op 1 0], _, [], [0, 1], [15]⟩, ⟨[.op 2 0], _, [], [0, 1, 2], [16]⟩, ⟨[.op 3 0], _, [], List.range 4, [17]⟩, ⟨[.op 4 0], _, [], List.range 5, [8]⟩]) (F := [.old 0, .old 1, .old 2, .op 5 0]) (hst.pick [0, 1, 2] rfl) hb Za
           (o_p rfl (Zb rfl rfl u_0) <| o_p rfl (Zt rfl rfl (Opd.imp u_0 (fun _ _ h => Zu h6 h)) (fun _ _ ⟨_, _, _, e, _⟩ => ⟨_, e⟩)) <| o_p rfl (Zd Zeb rfl rfl u_0) <| o_p rfl (Zf Zc3 rfl rfl u_0) <| o_p rfl (Zn Zms (Zdh _ h8) rfl rfl (.cons u_0 .nil)) <| o_p rfl (Zc rfl rfl u_0) <| o_n) (by kernel_rfl) (fun a g hst hb => ?_)
         refine wp_block ?_
         refine r_s (T := [⟨[.old 0], _, [], [], [28]⟩, ⟨[.old 3], _, [], [], [29]⟩, ⟨[.op 0 0, .op 1 0], _, [], [0, 1], [30]⟩, ⟨[.op 2 0], _, [], [0, 1, 2], [27]⟩]) (F := [.old 0, .old 1, .old 2, .old 3, .op 3 0]) hst hb Za
           (o_p rfl (Zb rfl rfl u_0) <| o_p rfl (Zb rfl rfl u_0) <| o_p rfl (Zcd rfl rfl u_0 u_1) <| o_p rfl (Zc rfl rfl u_0) <| o_n) (by kernel_rfl) (fun a g hst hb => ?_)
         refine wp_cond_split (hst.bool 4 rfl) (fun hc9 => ?_) (fun hc9 => ?_)
         · replace H1 := Zv hc9 H1
           refine r_g (L := [(1, _), (5, _), (7, _)]) (T := [⟨[.old 2], _, [], [], [31]⟩, ⟨[.op 0 0], _, [], [0], [32]⟩, ⟨[.op 1 0], _, [], [0, 1], [33]⟩, ⟨[.op 2 0], _, [], [0, 1, 2], [34]⟩, ⟨[.op 3 0], _, [], List.range 4, [7]⟩]) (F := [.old 0, .old 1, .op 4 0]) (hst.pick [0, 1, 2] rfl) hb Za
             (o_p rfl (Zb rfl rfl u_0) <| o_p rfl (Zt rfl rfl (Opd.imp u_0 (fun _ _ h => Zu h6 h)) (fun _ _ ⟨_, _, _, e, _⟩ => ⟨_, e⟩)) <| o_p rfl (Zd Zeb rfl rfl u_0) <| o_p rfl (Zf Zc3 rfl rfl u_0) <| o_p rfl (Zc rfl rfl u_0) <| o_n) (by kernel_rfl) (fun a g hst hb => ?_)
           refine Zbe ?_
           refine Zbe ?_
           exact ⟨x1, n5.left, g, rfl, (hst.pick [0, 1, 2] rfl), hb, H1⟩
         · replace H1 := Zw hc9 H1
           refine r_s (L := [(1, _), (5, _), (7, _), (8, _)]) (T := [⟨[.old 0], _, [], [], [36]⟩, ⟨[.old 3], _, [], [], [37]⟩, ⟨[.op 0 0, .op 1 0], _, [], [0, 1], [38]⟩, ⟨[.op 2 0], _, [], [0, 1, 2], [35]⟩]) (F := [.old 0, .old 1, .old 2, .old 3, .op 3 0]) (hst.pick [0, 1, 2, 3] rfl) hb Za
             (o_p rfl (Zb rfl rfl u_0) <| o_p rfl (Zb rfl rfl u_0) <| o_p rfl (Zcl rfl rfl u_0 u_1) <| o_p rfl (Zc rfl rfl u_0) <| o_n) (by kernel_rfl) (fun a g hst hb => ?_)
           refine wp_cond_split (hst.bool 4 rfl) (fun hc10 => ?_) (fun hc10 => ?_)
           · replace H1 := Zv hc10 H1
             refine r_s (L := [(1, _), (5, _), (7, _), (8, _)]) (T := [⟨[.old 0], _, [], [], [39]⟩, ⟨[.old 3], _, [], [], [40]⟩, ⟨[.op 1 0], _, [], [1], [41]⟩, ⟨[.op 0 0, .op 2 0], _, [], [0, 1, 2], [42]⟩, ⟨[.op 3 0], _, [], List.range 4, [1]⟩]) (F := [.op 4 0, .old 1, .old 2]) (hst.pick [0, 1, 2, 3] rfl) hb Za
               (o_p rfl (Zb rfl rfl u_0) <| o_p rfl (Zb rfl rfl u_0) <| o_p rfl (Zb4 rfl rfl u_0 c_i rfl) <| o_p rfl (Zgm rfl rfl u_0 u_1 rfl) <| o_p rfl (Zc rfl rfl u_0) <| o_n) (by kernel_rfl) (fun a g hst hb => ?_)
             refine r_g (T := [⟨[.old 2], _, [], [], [43]⟩, ⟨[.op 0 0], _, [], [0], [44]⟩, ⟨[.op 1 0], _, [], [0, 1], [45]⟩, ⟨[.op 2 0], _, [], [0, 1, 2], [46]⟩, ⟨[.op 3 0], _, [], List.range 4, [7]⟩]) (F := [.old 0, .old 1, .op 4 0]) hst hb Za
               (o_p rfl (Zb rfl rfl u_0) <| o_p rfl (Zt rfl rfl (Opd.imp u_0 (fun _ _ h => Zu h6 h)) (fun _ _ ⟨_, _, _, e, _⟩ => ⟨_, e⟩)) <| o_p rfl (Zd Ze0 rfl rfl u_0) <| o_p rfl (Zf Zc3 rfl rfl u_0) <| o_p rfl (Zc rfl rfl u_0) <| o_n) (by kernel_rfl) (fun a g hst hb => ?_)
             refine Zbe ?_
             refine Zbe ?_
             exact ⟨(IntKind.i64.wrap (x1 - (IntKind.i64.wrap (r7 + (1 : Int))))), n5.right, g, rfl, (hst.pick [0, 1, 2] rfl), hb, H1⟩
           · replace H1 := Zw hc10 H1
             obtain ⟨r11, h12, H1⟩ := Zh H1
             refine r_s (L := [(5, _), (7, _)]) (T := ⟨[.old 1], _, [], [], [18]⟩ :: ⟨[.op 0 0], _, [], [0], [19]⟩ :: ⟨[.op 1 0], _, [], [0, 1], [20]⟩ :: ⟨[.op 2 0], _, [], [0, 1, 2], [21]⟩ :: ⟨[.old 1], _, [], [], [22]⟩ :: ⟨[.op 4 0], _, [], [4], [23]⟩ :: ⟨[.op 5 0], _, [], [4, 5], [24]⟩ :: ⟨[.op 6 0], _, [], [4, 5, 6], [25]⟩ :: ⟨[.op 7 0], _, [], List.range' 4 4, [26]⟩ :: ⟨[.op 3 0], _, [], List.range 9, [4]⟩ :: ⟨[.op 8 0, .old 0], _, [6], List.range 10, [5]⟩ :: ⟨[], _, [], List.range 11, [6]⟩ :: []) (F := [.op 9 0, .op 10 0, .op 11 0]) (hst.pick [1, 2] rfl) hb Za
               (o_p rfl (Zb rfl rfl u_0) <| o_p rfl (Zt rfl rfl (Opd.imp u_0 (fun _ _ h => Zu h6 h)) (fun _ _ ⟨_, _, _, e, _⟩ => ⟨_, e⟩)) <| o_p rfl (Zd Zey rfl rfl u_0) <| o_p rfl (Zf ty_9 rfl rfl u_0) <| o_p rfl (Zb rfl rfl u_0) <| o_p rfl (Zt rfl rfl (Opd.imp u_0 (fun _ _ h => Zu h6 h)) (fun _ _ ⟨_, _, _, e, _⟩ => ⟨_, e⟩)) <| o_p rfl (Zd Zgy rfl rfl u_0) <| o_p rfl (Zf Zba rfl rfl u_0) <| o_p rfl (Zn Zn7 (Zhd _ h12) rfl rfl (.cons u_0 .nil)) <| o_p rfl (Zc rfl rfl u_0) <| o_p rfl (Zz Zba rfl rfl u_1 u_0) <| o_p rfl (Zc rfl rfl c_b) <| o_n) (by kernel_rfl) (fun a g hst hb => ?_)
             refine wp_ret ?_
             refine Z1 ?_
             refine Z1 ?_
             refine Zp ?_
             refine Zp ?_
             refine Z1 ?_
             refine Zp ?_
             refine Zp ?_
             obtain rfl := Option.some.inj H1
             obtain rfl := Option.some.inj H0
             obtain ⟨u1, hu1, hq1⟩ := Z8 (P := Tryz.prog) Zba (hst.at 1 rfl)
             exact Zhy rfl hst hb (Zk (s := 4)) hu1 (Zk (s := 6)) (Zf9 (hst.at 0 rfl) hq1 (hst.at 2 rfl))
     · replace H1 := Zw hc4 H1
       refine wp_exit ?_
       refine Zb6 ?_
       refine Zb6 ?_
       refine Zcn ?_
       exact ⟨x2, g, rfl, (hst.pick [1] rfl), hb, Option.some.inj H1⟩
end Go.CL
set_option linter.unusedVariables false
set_option linter.unusedSimpArgs false
set_option maxRecDepth 100000
namespace Go.CL
open Go Go.RowKit Go.Proofs
theorem Zr3 (a0 : Zq) (a1 : Zj) {r : Int} (h : Zjk a0 a1 = some r) : FnOk Tryz.prog 11 [(Z6.pd a0), (Z3.pd a1)] (pInt .i64 r) := by
 have H0 := h
 unfold Zjk at H0
 clear h
 refine Zbn (N := 54) Tryz.func11 rfl rfl (Nat.le_of_ble_eq_true rfl) rfl rfl (fun a g0 hst hb => ?_)
 refine r_s (T := [⟨[.old 0], _, [], [], [2]⟩, ⟨[.old 1], _, [], [], [3]⟩, ⟨[], _, [], [], [4]⟩]) (F := [.op 0 0, .op 1 0]) hst hb Za
   (o_p rfl (Zbj rfl rfl u_0) <| o_p rfl (Zbj rfl rfl u_0) <| o_p rfl (Zc rfl rfl c_i) <| o_n) (by kernel_rfl) (fun a g hst hb => ?_)
 refine wp_seq ?_
 obtain ⟨r1, h2, H0⟩ := Zh H0; obtain ⟨r3, h4, H0⟩ := Zh H0
 refine r_s (T := ⟨[.old 0], _, [], [], [10]⟩ :: ⟨[.op 0 0], _, [], [0], [11]⟩ :: ⟨[.old 1], _, [], [], [12]⟩ :: ⟨[.op 2 0], _, [], [2], [13]⟩ :: ⟨[.op 3 0], _, [], [2, 3], [14]⟩ :: ⟨[.op 1 0, .op 4 0], _, [], List.range 5, [15]⟩ :: ⟨[.op 5 0], _, [], List.range 6, [16]⟩ :: ⟨[.op 6 0, .old 0], _, [], List.range 7, [17]⟩ :: ⟨[.op 6 0, .op 7 0], _, [], List.range 8, [18]⟩ :: ⟨[.op 6 0, .old 1], _, [], List.range 7, [19]⟩ :: ⟨[.op 6 0, .op 9 0], _, [], [0, 1, 2, 3, 4, 5, 6, 9], [20]⟩ :: ⟨[.op 6 0, .op 8 0, .op 10 0], _, [], List.range 11, [21]⟩ :: ⟨[.op 6 0, .op 11 0], _, [], List.range 12, [22]⟩ :: []) (F := [.old 0, .old 1, .op 12 0]) hst hb Za
   (o_p rfl (Zf Zbx rfl rfl u_0) <| o_p rfl (Zn Zwd (Zi5 _ h2) rfl rfl (.cons u_0 .nil)) <| o_p rfl (Zd Zga rfl rfl u_0) <| o_p rfl (Zf Zi2 rfl rfl u_0) <| o_p rfl (Zby Tryz.underlying22 rfl rfl u_0) <| o_p rfl (Zc5 rfl rfl u_0 u_1) <| o_p rfl (Zb rfl rfl u_0) <| o_g (g_f rfl rfl rfl (fun hG => Zf Zbx rfl rfl u_0)) <| o_g (g_f rfl rfl rfl (fun hG => Zn Z87 (Zp5 _ (Zbl h4 hG)) rfl rfl (.cons (Opd.gd hG u_0) .nil))) <| o_g (g_f rfl rfl rfl (fun hG => Zd Zop rfl rfl u_0)) <| o_g (g_f rfl rfl rfl (fun hG => Zf ty_3 rfl rfl (Opd.gd hG u_0))) <| o_g (g_f rfl rfl rfl (fun hG => Zc5 rfl rfl (Opd.gd hG u_0) (Opd.gd hG u_1))) <| o_p rfl (Zbr rfl rfl u_0 (fun hz => (Opd.gd (bNF hz) u_1))) <| o_n) (by kernel_rfl) (fun a g hst hb => ?_)
 refine wp_cond_split (hst.bool 2 rfl) (fun hc5 => ?_) (fun hc5 => ?_)
 · replace H0 := Zv hc5 H0
   refine r_s (L := []) (T := [⟨[], _, [], [], [4]⟩]) (F := [.op 0 0]) (hst.pick [] rfl) hb Za
     (o_p rfl (Zc rfl rfl c_i) <| o_n) (by kernel_rfl) (fun a g hst hb => ?_)
   refine wp_ret ?_
   refine Zp ?_
   obtain rfl := Option.some.inj H0
   exact Z0 rfl hst hb (Zk (s := 4)) (hst.at 0 rfl)
 · replace H0 := Zw hc5 H0
   refine wp_skip ?_
   refine Zr ?_
   refine wp_seq ?_
   refine r_s (L := [(2, _), (3, _)]) (T := [⟨[.old 1], _, [], [], [23]⟩, ⟨[.op 0 0], _, [], [0], [24]⟩, ⟨[.op 1 0], _, [], [0, 1], [25]⟩, ⟨[], _, [], [], [26]⟩]) (F := [.old 0, .op 1 0, .op 2 0, .op 3 0]) (hst.pick [0, 1] rfl) hb Za
     (o_p rfl (Zd Zga rfl rfl u_0) <| o_p rfl (Zf Zi2 rfl rfl u_0) <| o_p rfl (Zby Tryz.underlying22 rfl rfl u_0) <| o_p rfl (Zb rfl rfl c_i) <| o_n) (by kernel_rfl) (fun a g hst hb => ?_)
   obtain ⟨z15, hz1, H0⟩ := Zh H0
   refine Zcb (fun a w => ∃ (g : G), w = g.w ∧ St 54 [] a g ∧ Base g0 g ∧ (.inr ()) = z15) ?_ ?_
   · rintro a w ⟨g, rfl, hst, hb, rfl⟩
     refine Zr ?_
     refine r_s (T := [⟨[], _, [], [], [4]⟩]) (F := [.op 0 0]) hst hb Za
       (o_p rfl (Zc rfl rfl c_i) <| o_n) (by kernel_rfl) (fun a g hst hb => ?_)
     refine wp_ret ?_
     obtain rfl := Option.some.inj H0
     exact Z0 rfl hst hb (Zk (s := 4)) (hst.at 0 rfl)
   · refine wp_block ?_
     refine wp_loop_ghost (fun n a w => ∃ (x6 : Int) (g : G), w = g.w ∧ St 54 [(2, (Z6.ptr a0)), (24, (Zb1.sl.pd a1.L)), (25, (pInt .i64 (a1.L.length : Int))), (26, (pInt .i64 x6))] a g ∧ Base g0 g ∧ Ze4 a0 a1 n x6 = some z15) (Int.toNat ((a1.L.length : Int) - (0 : Int)) + 1) ⟨(0 : Int), g, rfl, (hst.pick [0, 1, 2, 3] rfl), hb, hz1⟩ (fun n a w hI => ?_)
     obtain ⟨x6, g, rfl, hst, hb, H1⟩ := hI
     cases n with
     | zero => exact absurd H1 (by simp [Ze4])
     | succ n =>
       rw [Ze4] at H1
       refine r_s (T := [⟨[.old 3, .old 2], _, [], [], [27]⟩]) (F := [.old 0, .old 1, .old 2, .old 3, .op 0 0]) hst hb Za
         (o_p rfl (Zcd rfl rfl u_0 u_1) <| o_n) (by kernel_rfl) (fun a g hst hb => ?_)
       refine wp_seq ?_
       refine wp_cond_split (hst.bool 4 rfl) (fun hc7 => ?_) (fun hc7 => ?_)
       · replace H1 := Zv hc7 H1
         refine wp_skip ?_
         refine Zr ?_
         refine wp_seq ?_
         refine wp_block ?_
         obtain ⟨e8, h9, H1⟩ := Zh H1
         refine r_s (L := [(2, _), (24, _), (25, _), (26, _)]) (T := [⟨[.old 3], _, [], [], [28]⟩, ⟨[.old 1, .old 3], _, [], [], [29]⟩, ⟨[.op 1 0], _, [], [1], [30]⟩, ⟨[], [(6, (pBox Zb1 6 (default : Z9)))], [7], [], [6]⟩, ⟨[.op 0 0], _, [], List.range 4, [5]⟩, ⟨[.op 2 0, .op 3 0], _, [7], List.range 5, [6]⟩]) (F := [.old 0, .op 4 0, .op 5 0, .old 1, .old 2, .old 3]) (hst.pick [0, 1, 2, 3] rfl) hb Za
           (o_p rfl (Zb rfl rfl u_0) <| o_p rfl (Zbf Tryz.underlying22 Zl0 rfl rfl u_0 u_1 h9) <| o_p rfl (Zf Zwm rfl rfl u_0) <| o_p rfl (Zbb (zs := [.string ByteArray.empty, .int .i64 0, .int .i64 0, .int .i64 0, .int .i64 0, .float .f64 0, .int .i64 0, .string ByteArray.empty, .slice none 0 0]) (by kernel_rfl) (fun g => Zmb g) rfl rfl) <| o_p rfl (Zc rfl rfl u_0) <| o_p rfl (Zb3 Zwm rfl rfl u_1 u_0) <| o_n) (by kernel_rfl) (fun a g hst hb => ?_)
         obtain ⟨r10, h11, H1⟩ := Zh H1
         refine r_s (T := [⟨[.old 0], _, [], [], [32]⟩, ⟨[.old 1], _, [], [], [33]⟩, ⟨[.op 0 0, .op 1 0], _, [], [0, 1], [34]⟩, ⟨[.op 2 0], _, [], [0, 1, 2], [31]⟩, ⟨[.op 3 0], _, [], List.range 4, [35]⟩, ⟨[.op 3 0], _, [], List.range 4, [36]⟩, ⟨[.op 3 0], _, [], List.range 4, [37]⟩, ⟨[], [(8, (pBox Zi 8 (default : Ze)))], [9], [], [8]⟩, ⟨[.op 4 0], _, [], [0, 1, 2, 3, 4, 7], [7]⟩, ⟨[.op 5 0, .op 7 0], _, [9], [0, 1, 2, 3, 4, 5, 7, 8], [8]⟩, ⟨[.op 6 0], _, [], List.range 10, [9]⟩]) (F := [.old 0, .old 2, .op 8 0, .op 9 0, .op 10 0, .old 3, .old 4, .old 5]) hst hb Za
           (o_p rfl (Zf Zbx rfl rfl u_0) <| o_p rfl (Zb rfl rfl u_0) <| o_p rfl (Zn Zbab (Zsa _ _ h11) rfl rfl (.cons u_0 (.cons u_1 .nil))) <| o_p rfl (Zb rfl rfl u_0) <| o_p rfl (Z4 rfl rfl u_0 rfl) <| o_p rfl (Z4 rfl rfl u_0 rfl) <| o_p rfl (Z4 rfl rfl u_0 rfl) <| o_p rfl (Zbb (zs := [.int .i64 0, .int .i64 0, .int .i64 0, .int .i64 0, .float .f64 0, .int .i64 0, .string ByteArray.empty, .slice none 0 0]) (by kernel_rfl) (fun g => Zb8 g) rfl rfl) <| o_p rfl (Zc rfl rfl u_0) <| o_p rfl (Zb3 Zba rfl rfl u_1 u_0) <| o_p rfl (Zc rfl rfl u_0) <| o_n) (by kernel_rfl) (fun a g hst hb => ?_)
         obtain ⟨r12, h13, H1⟩ := Zh H1
         refine r_s (T := ⟨[.old 4], _, [], [], [38]⟩ :: ⟨[.op 0 0], _, [], [0], [39]⟩ :: ⟨[.op 1 0], _, [], [0, 1], [40]⟩ :: ⟨[.op 2 0, .old 2], _, [], [0, 1, 2], [41]⟩ :: ⟨[.op 2 0, .old 1], _, [], [0, 1, 2], [42]⟩ :: ⟨[.op 2 0, .op 4 0], _, [], [0, 1, 2, 4], [43]⟩ :: ⟨[.op 2 0, .op 3 0, .op 5 0], _, [], List.range 6, [44]⟩ :: ⟨[.op 2 0, .op 6 0], _, [], List.range 7, [45]⟩ :: ⟨[.op 7 0], _, [], List.range 8, [46]⟩ :: ⟨[.op 8 0, .old 3], _, [], List.range 9, [47]⟩ :: ⟨[.op 8 0, .old 1], _, [], List.range 9, [48]⟩ :: ⟨[.op 8 0, .op 10 0], _, [], [0, 1, 2, 3, 4, 5, 6, 7, 8, 10], [49]⟩ :: ⟨[.op 8 0, .op 9 0, .op 11 0], _, [], List.range 12, [50]⟩ :: ⟨[.op 8 0, .op 12 0], _, [], List.range 13, [51]⟩ :: ⟨[.op 8 0, .op 13 0], _, [], List.range 14, [52]⟩ :: []) (F := [.old 0, .old 5, .old 6, .old 7, .op 14 0]) hst hb Za
           (o_p rfl (Zb rfl rfl u_0) <| o_p rfl (Zb7 rfl rfl u_0) <| o_p rfl (Zb rfl rfl u_0) <| o_g (g_f rfl rfl rfl (fun hG => Zb rfl rfl u_0)) <| o_g (g_f rfl rfl rfl (fun hG => Zd Zlm rfl rfl u_0)) <| o_g (g_f rfl rfl rfl (fun hG => Zf ty_9 rfl rfl (Opd.gd hG u_0))) <| o_g (g_f rfl rfl rfl (fun hG => Znk rfl rfl (Opd.gd hG u_0) (Opd.gd hG u_1))) <| o_p rfl (Zbr rfl rfl u_0 (fun hz => (Opd.gd (bNF hz) u_1))) <| o_p rfl (Zb rfl rfl u_0) <| o_g (g_f rfl rfl rfl (fun hG => Zf Zba rfl rfl u_0)) <| o_g (g_f rfl rfl rfl (fun hG => Zd Zov rfl rfl u_0)) <| o_g (g_f rfl rfl rfl (fun hG => Zf Zba rfl rfl (Opd.gd hG u_0))) <| o_g (g_f rfl rfl rfl (fun hG => Zn Z03 (Zke _ _ (Zbl h13 hG)) rfl rfl (.cons (Opd.gd hG u_0) (.cons (Opd.gd hG u_1) .nil)))) <| o_g (g_f rfl rfl rfl (fun hG => Zb7 rfl rfl (Opd.gd hG u_0))) <| o_p rfl (Zbr rfl rfl u_0 (fun hz => (Opd.gd (bNF hz) u_1))) <| o_n) (by kernel_rfl) (fun a g hst hb => ?_)
         refine wp_cond_split (hst.bool 4 rfl) (fun hc14 => ?_) (fun hc14 => ?_)
         · replace H1 := Zv hc14 H1
           refine r_s (L := []) (T := [⟨[], _, [], [], [4]⟩]) (F := [.op 0 0]) (hst.pick [] rfl) hb Za
             (o_p rfl (Zc rfl rfl c_i) <| o_n) (by kernel_rfl) (fun a g hst hb => ?_)
           refine wp_ret ?_
           refine Z1 ?_
           refine Zp ?_
           refine Zp ?_
           refine Z1 ?_
           refine Zp ?_
           refine Zp ?_
           obtain rfl := Option.some.inj H1
           obtain rfl := Option.some.inj H0
           exact Z0 rfl hst hb (Zk (s := 4)) (hst.at 0 rfl)
         · replace H1 := Zw hc14 H1
           refine wp_skip ?_
           refine Zbe ?_
           refine Zr ?_
           refine r_g (L := [(2, _), (24, _), (25, _), (26, _)]) (T := [⟨[.old 3], _, [], [], [53]⟩, ⟨[.op 0 0], _, [], [0], [26]⟩]) (F := [.old 0, .old 1, .old 2, .op 1 0]) (hst.pick [0, 1, 2, 3] rfl) hb Za
             (o_p rfl (Zb4 rfl rfl u_0 c_i rfl) <| o_p rfl (Zb rfl rfl u_0) <| o_n) (by kernel_rfl) (fun a g hst hb => ?_)
           exact ⟨n, Nat.lt_succ_self _, (IntKind.i64.wrap (x6 + (1 : Int))), g, rfl, (hst.pick [0, 1, 2, 3] rfl), hb, H1⟩
       · replace H1 := Zw hc7 H1
         refine wp_exit ?_
         refine Zb6 ?_
         refine Zb6 ?_
         refine Zcn ?_
         exact ⟨g, rfl, (hst.pick [] rfl), hb, Option.some.inj H1⟩
end Go.CL
set_option linter.unusedVariables false
set_option linter.unusedSimpArgs false
set_option maxRecDepth 100000
namespace Go.CL
open Go Go.RowKit Go.Proofs
theorem Zp6 (a0 : Zg) (a1 : Zg) {r : Bool} (h : Zif a0 a1 = some r) : FnOk Tryz.prog 55 [(Zm.pd a0), (Zm.pd a1)] (Zbg r) := by
 have H0 := h
 unfold Zif at H0
 clear h
 refine Zbn (N := 24) Tryz.func55 rfl rfl (Nat.le_of_ble_eq_true rfl) rfl rfl (fun a g0 hst hb => ?_)
 refine r_s (T := [⟨[.old 0], _, [], [], [2]⟩, ⟨[.old 1], _, [], [], [3]⟩, ⟨[], _, [], [], [4]⟩]) (F := [.op 0 0, .op 1 0]) hst hb Za
   (o_p rfl (Zbj rfl rfl u_0) <| o_p rfl (Zbj rfl rfl u_0) <| o_p rfl (Zc rfl rfl c_b) <| o_n) (by kernel_rfl) (fun a g hst hb => ?_)
 obtain ⟨r1, h2, H0⟩ := Zh H0
 refine r_s (T := ⟨[.old 0], _, [], [], [5]⟩ :: ⟨[.op 0 0], _, [], [0], [6]⟩ :: ⟨[.old 1], _, [], [], [7]⟩ :: ⟨[.op 2 0], _, [], [2], [8]⟩ :: ⟨[.op 1 0, .op 3 0], _, [], List.range 4, [9]⟩ :: ⟨[.op 4 0], _, [], List.range 5, [10]⟩ :: ⟨[.op 5 0, .old 0], _, [], List.range 6, [11]⟩ :: ⟨[.op 5 0, .op 6 0], _, [], List.range 7, [12]⟩ :: ⟨[.op 5 0, .old 1], _, [], List.range 6, [13]⟩ :: ⟨[.op 5 0, .op 8 0], _, [], [0, 1, 2, 3, 4, 5, 8], [14]⟩ :: ⟨[.op 5 0, .op 7 0, .op 9 0], _, [], List.range 10, [15]⟩ :: ⟨[.op 5 0, .op 10 0], _, [], List.range 11, [16]⟩ :: ⟨[.op 11 0], _, [], List.range 12, [17]⟩ :: ⟨[.op 12 0, .old 0], _, [], List.range 13, [18]⟩ :: ⟨[.op 12 0, .op 13 0], _, [], List.range 14, [19]⟩ :: ⟨[.op 12 0, .old 1], _, [], List.range 13, [20]⟩ :: ⟨[.op 12 0, .op 15 0], _, [], 0 :: 1 :: 2 :: 3 :: 4 :: 5 :: 6 :: 7 :: 8 :: 9 :: 10 :: 11 :: 12 :: 15 :: [], [21]⟩ :: ⟨[.op 12 0, .op 14 0, .op 16 0], _, [], List.range 17, [22]⟩ :: ⟨[.op 12 0, .op 17 0], _, [], List.range 18, [23]⟩ :: ⟨[.op 18 0], _, [], List.range 19, [4]⟩ :: []) (F := [.op 19 0]) hst hb Za
   (o_p rfl (Zd Zfy rfl rfl u_0) <| o_p rfl (Zf Zge rfl rfl u_0) <| o_p rfl (Zd Zfy rfl rfl u_0) <| o_p rfl (Zf Zge rfl rfl u_0) <| o_p rfl (Zbk rfl rfl u_0 u_1) <| o_p rfl (Zb rfl rfl u_0) <| o_g (g_t rfl rfl rfl (fun hG => Zd Zrx rfl rfl u_0)) <| o_g (g_t rfl rfl rfl (fun hG => Zf ty_2 rfl rfl (Opd.gd hG u_0))) <| o_g (g_t rfl rfl rfl (fun hG => Zd Zrx rfl rfl u_0)) <| o_g (g_t rfl rfl rfl (fun hG => Zf ty_2 rfl rfl (Opd.gd hG u_0))) <| o_g (g_t rfl rfl rfl (fun hG => Zbk rfl rfl (Opd.gd hG u_0) (Opd.gd hG u_1))) <| o_p rfl (Zbc rfl rfl u_0 (fun hz => (Opd.gd hz u_1))) <| o_p rfl (Zb rfl rfl u_0) <| o_g (g_t rfl rfl rfl (fun hG => Zd Znf rfl rfl u_0)) <| o_g (g_t rfl rfl rfl (fun hG => Zf Zba rfl rfl (Opd.gd hG u_0))) <| o_g (g_t rfl rfl rfl (fun hG => Zd Znf rfl rfl u_0)) <| o_g (g_t rfl rfl rfl (fun hG => Zf Zba rfl rfl (Opd.gd hG u_0))) <| o_g (g_t rfl rfl rfl (fun hG => Zn Z03 (Zke _ _ (Zbl h2 hG)) rfl rfl (.cons (Opd.gd hG u_0) (.cons (Opd.gd hG u_1) .nil)))) <| o_p rfl (Zbc rfl rfl u_0 (fun hz => (Opd.gd hz u_1))) <| o_p rfl (Zc rfl rfl u_0) <| o_n) (by kernel_rfl) (fun a g hst hb => ?_)
 refine wp_ret ?_
 obtain rfl := Option.some.inj H0
 exact Z0 rfl hst hb (Zk (s := 4)) (hst.at 0 rfl)
end Go.CL
set_option linter.unusedVariables false
set_option linter.unusedSimpArgs false
set_option maxRecDepth 100000
namespace Go.CL
open Go Go.RowKit Go.Proofs
theorem Zpl (a0 : Zx) (a1 : Zx) {r : Bool} (h : Zhm a0 a1 = some r) : FnOk Tryz.prog 30 [(Zbs.pd a0), (Zbs.pd a1)] (Zbg r) := by
 have H0 := h
 unfold Zhm at H0
 clear h
 refine Zbn (N := 46) Tryz.func30 rfl rfl (Nat.le_of_ble_eq_true rfl) rfl rfl (fun a g0 hst hb => ?_)
 refine r_s (T := [⟨[.old 0], _, [], [], [2]⟩, ⟨[.old 1], _, [], [], [3]⟩, ⟨[], _, [], [], [4]⟩]) (F := [.op 0 0, .op 1 0]) hst hb Za
   (o_p rfl (Zbj rfl rfl u_0) <| o_p rfl (Zbj rfl rfl u_0) <| o_p rfl (Zc rfl rfl c_b) <| o_n) (by kernel_rfl) (fun a g hst hb => ?_)
 refine wp_seq ?_
 refine r_s (T := ⟨[.old 0], _, [], [], [6]⟩ :: ⟨[.op 0 0], _, [], [0], [7]⟩ :: ⟨[.old 1], _, [], [], [8]⟩ :: ⟨[.op 2 0], _, [], [2], [9]⟩ :: ⟨[.op 1 0, .op 3 0], _, [], List.range 4, [10]⟩ :: ⟨[.op 4 0], _, [], List.range 5, [11]⟩ :: ⟨[.op 5 0, .old 0], _, [], List.range 6, [12]⟩ :: ⟨[.op 5 0, .op 6 0], _, [], List.range 7, [13]⟩ :: ⟨[.op 5 0, .old 1], _, [], List.range 6, [14]⟩ :: ⟨[.op 5 0, .op 8 0], _, [], [0, 1, 2, 3, 4, 5, 8], [15]⟩ :: ⟨[.op 5 0, .op 7 0, .op 9 0], _, [], List.range 10, [16]⟩ :: ⟨[.op 5 0, .op 10 0], _, [], List.range 11, [17]⟩ :: ⟨[.op 11 0], _, [], List.range 12, [18]⟩ :: ⟨[.op 12 0, .old 0], _, [], List.range 13, [19]⟩ :: ⟨[.op 12 0, .op 13 0], _, [], List.range 14, [20]⟩ :: ⟨[.op 12 0, .op 14 0], _, [], List.range 15, [21]⟩ :: ⟨[.op 12 0, .old 1], _, [], List.range 13, [22]⟩ :: ⟨[.op 12 0, .op 16 0], _, [], 0 :: 1 :: 2 :: 3 :: 4 :: 5 :: 6 :: 7 :: 8 :: 9 :: 10 :: 11 :: 12 :: 16 :: [], [23]⟩ :: ⟨[.op 12 0, .op 17 0], _, [], 0 :: 1 :: 2 :: 3 :: 4 :: 5 :: 6 :: 7 :: 8 :: 9 :: 10 :: 11 :: 12 :: 16 :: 17 :: [], [24]⟩ :: ⟨[.op 12 0, .op 15 0, .op 18 0], _, [], List.range 19, [25]⟩ :: ⟨[.op 12 0, .op 19 0], _, [], List.range 20, [26]⟩ :: []) (F := [.old 0, .old 1, .op 20 0]) hst hb Za
   (o_p rfl (Zd Zo3 rfl rfl u_0) <| o_p rfl (Zf Zge rfl rfl u_0) <| o_p rfl (Zd Zo3 rfl rfl u_0) <| o_p rfl (Zf Zge rfl rfl u_0) <| o_p rfl (Zc5 rfl rfl u_0 u_1) <| o_p rfl (Zb rfl rfl u_0) <| o_g (g_f rfl rfl rfl (fun hG => Zd Zo8 rfl rfl u_0)) <| o_g (g_f rfl rfl rfl (fun hG => Zf ty_3 rfl rfl (Opd.gd hG u_0))) <| o_g (g_f rfl rfl rfl (fun hG => Zd Zo8 rfl rfl u_0)) <| o_g (g_f rfl rfl rfl (fun hG => Zf ty_3 rfl rfl (Opd.gd hG u_0))) <| o_g (g_f rfl rfl rfl (fun hG => Zc5 rfl rfl (Opd.gd hG u_0) (Opd.gd hG u_1))) <| o_p rfl (Zbr rfl rfl u_0 (fun hz => (Opd.gd (bNF hz) u_1))) <| o_p rfl (Zb rfl rfl u_0) <| o_g (g_f rfl rfl rfl (fun hG => Zd Zlq rfl rfl u_0)) <| o_g (g_f rfl rfl rfl (fun hG => Zf Zog rfl rfl (Opd.gd hG u_0))) <| o_g (g_f rfl rfl rfl (fun hG => Zby Tryz.underlying45 rfl rfl (Opd.gd hG u_0))) <| o_g (g_f rfl rfl rfl (fun hG => Zd Zlq rfl rfl u_0)) <| o_g (g_f rfl rfl rfl (fun hG => Zf Zog rfl rfl (Opd.gd hG u_0))) <| o_g (g_f rfl rfl rfl (fun hG => Zby Tryz.underlying45 rfl rfl (Opd.gd hG u_0))) <| o_g (g_f rfl rfl rfl (fun hG => Zc5 rfl rfl (Opd.gd hG u_0) (Opd.gd hG u_1))) <| o_p rfl (Zbr rfl rfl u_0 (fun hz => (Opd.gd (bNF hz) u_1))) <| o_n) (by kernel_rfl) (fun a g hst hb => ?_)
 refine wp_cond_split (hst.bool 2 rfl) (fun hc1 => ?_) (fun hc1 => ?_)
 · replace H0 := Zv hc1 H0
   refine r_s (L := []) (T := [⟨[], _, [], [], [4]⟩]) (F := [.op 0 0]) (hst.pick [] rfl) hb Za
     (o_p rfl (Zc rfl rfl c_b) <| o_n) (by kernel_rfl) (fun a g hst hb => ?_)
   refine wp_ret ?_
   refine Zp ?_
   obtain rfl := Option.some.inj H0
   exact Z0 rfl hst hb (Zk (s := 4)) (hst.at 0 rfl)
 · replace H0 := Zw hc1 H0
   refine wp_skip ?_
   refine Zr ?_
   refine wp_seq ?_
   refine r_s (L := [(2, _), (3, _)]) (T := [⟨[], _, [], [], [5]⟩]) (F := [.old 0, .old 1, .op 0 0]) (hst.pick [0, 1] rfl) hb Za
     (o_p rfl (Zc rfl rfl c_i) <| o_n) (by kernel_rfl) (fun a g hst hb => ?_)
   obtain ⟨z11, hz1, H0⟩ := Zh H0
   refine Zcb (fun a w => ∃ (g : G), w = g.w ∧ St 46 [] a g ∧ Base g0 g ∧ (.inr ()) = z11) ?_ ?_
   · rintro a w ⟨g, rfl, hst, hb, rfl⟩
     refine Zr ?_
     refine r_s (T := [⟨[], _, [], [], [4]⟩]) (F := [.op 0 0]) hst hb Za
       (o_p rfl (Zc rfl rfl c_b) <| o_n) (by kernel_rfl) (fun a g hst hb => ?_)
     refine wp_ret ?_
     obtain rfl := Option.some.inj H0
     exact Z0 rfl hst hb (Zk (s := 4)) (hst.at 0 rfl)
   · refine wp_block ?_
     refine wp_loop_ghost (fun n a w => ∃ (x2 : Int) (g : G), w = g.w ∧ St 46 [(2, (Zbs.ptr a0)), (3, (Zbs.ptr a1)), (5, (pInt .i64 x2))] a g ∧ Base g0 g ∧ Zd4 a0 a1 n x2 = some z11) (Int.toNat ((a0.Answers.length : Int) - (0 : Int)) + 1) ⟨(0 : Int), g, rfl, (hst.pick [0, 1, 2] rfl), hb, hz1⟩ (fun n a w hI => ?_)
     obtain ⟨x2, g, rfl, hst, hb, H1⟩ := hI
     cases n with
     | zero => exact absurd H1 (by simp [Zd4])
     | succ n =>
       rw [Zd4] at H1
       refine wp_seq ?_
       refine r_s (T := [⟨[.old 2], _, [], [], [27]⟩, ⟨[.old 0], _, [], [], [28]⟩, ⟨[.op 1 0], _, [], [1], [29]⟩, ⟨[.op 2 0], _, [], [1, 2], [30]⟩, ⟨[.op 0 0, .op 3 0], _, [], List.range 4, [31]⟩]) (F := [.old 0, .old 1, .old 2, .op 4 0]) hst hb Za
         (o_p rfl (Zb rfl rfl u_0) <| o_p rfl (Zd Zlq rfl rfl u_0) <| o_p rfl (Zf Zog rfl rfl u_0) <| o_p rfl (Zby Tryz.underlying45 rfl rfl u_0) <| o_p rfl (Zcd rfl rfl u_0 u_1) <| o_n) (by kernel_rfl) (fun a g hst hb => ?_)
       refine wp_cond_split (hst.bool 3 rfl) (fun hc3 => ?_) (fun hc3 => ?_)
       · replace H1 := Zv hc3 H1
         refine wp_skip ?_
         refine Zr ?_
         refine wp_seq ?_
         refine wp_block ?_
         obtain ⟨e4, h5, H1⟩ := Zh H1; obtain ⟨e6, h7, H1⟩ := Zh H1; obtain ⟨r8, h9, H1⟩ := Zh H1
         refine r_s (L := [(2, _), (3, _), (5, _)]) (T := ⟨[.old 0], _, [], [], [34]⟩ :: ⟨[.op 0 0], _, [], [0], [35]⟩ :: ⟨[.old 2], _, [], [], [36]⟩ :: ⟨[.op 1 0, .op 2 0], _, [], [0, 1, 2], [37]⟩ :: ⟨[.op 3 0], _, [], List.range 4, [38]⟩ :: ⟨[.old 1], _, [], [], [39]⟩ :: ⟨[.op 5 0], _, [], [5], [40]⟩ :: ⟨[.old 2], _, [], [], [41]⟩ :: ⟨[.op 6 0, .op 7 0], _, [], [5, 6, 7], [42]⟩ :: ⟨[.op 8 0], _, [], List.range' 5 4, [43]⟩ :: ⟨[.op 4 0, .op 9 0], _, [], List.range 10, [44]⟩ :: ⟨[.op 10 0], _, [], List.range 11, [45]⟩ :: []) (F := [.old 0, .old 1, .old 2, .op 11 0]) (hst.pick [0, 1, 2] rfl) hb Za
           (o_p rfl (Zd Zlq rfl rfl u_0) <| o_p rfl (Zf Zog rfl rfl u_0) <| o_p rfl (Zb rfl rfl u_0) <| o_p rfl (Zbf Tryz.underlying45 Zwe rfl rfl u_0 u_1 h5) <| o_p rfl (Zf Zbv rfl rfl u_0) <| o_p rfl (Zd Zlq rfl rfl u_0) <| o_p rfl (Zf Zog rfl rfl u_0) <| o_p rfl (Zb rfl rfl u_0) <| o_p rfl (Zbf Tryz.underlying45 Zwe rfl rfl u_0 u_1 h7) <| o_p rfl (Zf Zbv rfl rfl u_0) <| o_p rfl (Zn Z9a (Zp6 _ _ h9) rfl rfl (.cons u_0 (.cons u_1 .nil))) <| o_p rfl (Zb7 rfl rfl u_0) <| o_n) (by kernel_rfl) (fun a g hst hb => ?_)
         refine wp_cond_split (hst.bool 3 rfl) (fun hc10 => ?_) (fun hc10 => ?_)
         · replace H1 := Zv hc10 H1
           refine r_s (L := []) (T := [⟨[], _, [], [], [4]⟩]) (F := [.op 0 0]) (hst.pick [] rfl) hb Za
             (o_p rfl (Zc rfl rfl c_b) <| o_n) (by kernel_rfl) (fun a g hst hb => ?_)
           refine wp_ret ?_
           refine Z1 ?_
           refine Zp ?_
           refine Zp ?_
           refine Z1 ?_
           refine Zp ?_
           refine Zp ?_
           obtain rfl := Option.some.inj H1
           obtain rfl := Option.some.inj H0
           exact Z0 rfl hst hb (Zk (s := 4)) (hst.at 0 rfl)
         · replace H1 := Zw hc10 H1
           refine wp_skip ?_
           refine Zbe ?_
           refine Zr ?_
           refine r_g (L := [(2, _), (3, _), (5, _)]) (T := [⟨[.old 2], _, [], [], [32]⟩, ⟨[.op 0 0], _, [], [0], [33]⟩, ⟨[.op 1 0], _, [], [0, 1], [5]⟩]) (F := [.old 0, .old 1, .op 2 0]) (hst.pick [0, 1, 2] rfl) hb Za
             (o_p rfl (Zb rfl rfl u_0) <| o_p rfl (Zb4 rfl rfl u_0 c_i rfl) <| o_p rfl (Zc rfl rfl u_0) <| o_n) (by kernel_rfl) (fun a g hst hb => ?_)
           exact ⟨n, Nat.lt_succ_self _, (IntKind.i64.wrap (x2 + (1 : Int))), g, rfl, (hst.pick [0, 1, 2] rfl), hb, H1⟩
       · replace H1 := Zw hc3 H1
         refine wp_exit ?_
         refine Zb6 ?_
         refine Zb6 ?_
         refine Zcn ?_
         exact ⟨g, rfl, (hst.pick [] rfl), hb, Option.some.inj H1⟩
end Go.CL
set_option linter.unusedVariables false
set_option linter.unusedSimpArgs false
set_option maxRecDepth 100000
namespace Go.CL
open Go Go.RowKit Go.Proofs
theorem Zph (a0 : List Zx) (a1 : List Zx) {r : Bool} (h : Zhr a0 a1 = some r) : FnOk Tryz.prog 12 [(Zbs.sl.pd a0), (Zbs.sl.pd a1)] (Zbg r) := by
 have H0 := h
 unfold Zhr at H0
 clear h
 refine Zbn (N := 27) Tryz.func12 rfl rfl (Nat.le_of_ble_eq_true rfl) rfl rfl (fun a g0 hst hb => ?_)
 refine r_s (T := [⟨[], _, [], [], [4]⟩]) (F := [.old 0, .old 1]) hst hb Za
   (o_p rfl (Zc rfl rfl c_b) <| o_n) (by kernel_rfl) (fun a g hst hb => ?_)
 refine wp_seq ?_
 refine r_s (T := [⟨[.old 0], _, [], [], [6]⟩, ⟨[.op 0 0], _, [], [0], [7]⟩, ⟨[.old 1], _, [], [], [8]⟩, ⟨[.op 2 0], _, [], [2], [9]⟩, ⟨[.op 1 0, .op 3 0], _, [], List.range 4, [10]⟩]) (F := [.old 0, .old 1, .op 4 0]) hst hb Za
   (o_p rfl (Zb rfl rfl u_0) <| o_p rfl (Zby Tryz.underlying32 rfl rfl u_0) <| o_p rfl (Zb rfl rfl u_0) <| o_p rfl (Zby Tryz.underlying32 rfl rfl u_0) <| o_p rfl (Zc5 rfl rfl u_0 u_1) <| o_n) (by kernel_rfl) (fun a g hst hb => ?_)
 refine wp_cond_split (hst.bool 2 rfl) (fun hc1 => ?_) (fun hc1 => ?_)
 · replace H0 := Zv hc1 H0
   refine r_s (L := []) (T := [⟨[], _, [], [], [4]⟩]) (F := [.op 0 0]) (hst.pick [] rfl) hb Za
     (o_p rfl (Zc rfl rfl c_b) <| o_n) (by kernel_rfl) (fun a g hst hb => ?_)
   refine wp_ret ?_
   refine Zp ?_
   obtain rfl := Option.some.inj H0
   exact Z0 rfl hst hb (Zk (s := 4)) (hst.at 0 rfl)
 · replace H0 := Zw hc1 H0
   refine wp_skip ?_
   refine Zr ?_
   refine wp_seq ?_
   refine r_s (L := [(0, _), (1, _)]) (T := [⟨[], _, [], [], [5]⟩]) (F := [.old 0, .old 1, .op 0 0]) (hst.pick [0, 1] rfl) hb Za
     (o_p rfl (Zc rfl rfl c_i) <| o_n) (by kernel_rfl) (fun a g hst hb => ?_)
   obtain ⟨z11, hz1, H0⟩ := Zh H0
   refine Zcb (fun a w => ∃ (g : G), w = g.w ∧ St 27 [] a g ∧ Base g0 g ∧ (.inr ()) = z11) ?_ ?_
   · rintro a w ⟨g, rfl, hst, hb, rfl⟩
     refine Zr ?_
     refine r_s (T := [⟨[], _, [], [], [4]⟩]) (F := [.op 0 0]) hst hb Za
       (o_p rfl (Zc rfl rfl c_b) <| o_n) (by kernel_rfl) (fun a g hst hb => ?_)
     refine wp_ret ?_
     obtain rfl := Option.some.inj H0
     exact Z0 rfl hst hb (Zk (s := 4)) (hst.at 0 rfl)
   · refine wp_block ?_
     refine wp_loop_ghost (fun n a w => ∃ (x2 : Int) (g : G), w = g.w ∧ St 27 [(0, (Zbs.sl.pd a0)), (1, (Zbs.sl.pd a1)), (5, (pInt .i64 x2))] a g ∧ Base g0 g ∧ Zdy a0 a1 n x2 = some z11) (Int.toNat ((a0.length : Int) - (0 : Int)) + 1) ⟨(0 : Int), g, rfl, (hst.pick [0, 1, 2] rfl), hb, hz1⟩ (fun n a w hI => ?_)
     obtain ⟨x2, g, rfl, hst, hb, H1⟩ := hI
     cases n with
     | zero => exact absurd H1 (by simp [Zdy])
     | succ n =>
       rw [Zdy] at H1
       refine wp_seq ?_
       refine r_s (T := [⟨[.old 2], _, [], [], [11]⟩, ⟨[.old 0], _, [], [], [12]⟩, ⟨[.op 1 0], _, [], [1], [13]⟩, ⟨[.op 0 0, .op 2 0], _, [], [0, 1, 2], [14]⟩]) (F := [.old 0, .old 1, .old 2, .op 3 0]) hst hb Za
         (o_p rfl (Zb rfl rfl u_0) <| o_p rfl (Zb rfl rfl u_0) <| o_p rfl (Zby Tryz.underlying32 rfl rfl u_0) <| o_p rfl (Zcd rfl rfl u_0 u_1) <| o_n) (by kernel_rfl) (fun a g hst hb => ?_)
       refine wp_cond_split (hst.bool 3 rfl) (fun hc3 => ?_) (fun hc3 => ?_)
       · replace H1 := Zv hc3 H1
         refine wp_skip ?_
         refine Zr ?_
         refine wp_seq ?_
         refine wp_block ?_
         obtain ⟨e4, h5, H1⟩ := Zh H1; obtain ⟨e6, h7, H1⟩ := Zh H1; obtain ⟨r8, h9, H1⟩ := Zh H1
         refine r_s (L := [(0, _), (1, _), (5, _)]) (T := [⟨[.old 0], _, [], [], [17]⟩, ⟨[.old 2], _, [], [], [18]⟩, ⟨[.op 0 0, .op 1 0], _, [], [0, 1], [19]⟩, ⟨[.op 2 0], _, [], [0, 1, 2], [20]⟩, ⟨[.old 1], _, [], [], [21]⟩, ⟨[.old 2], _, [], [], [22]⟩, ⟨[.op 4 0, .op 5 0], _, [], [4, 5], [23]⟩, ⟨[.op 6 0], _, [], [4, 5, 6], [24]⟩, ⟨[.op 3 0, .op 7 0], _, [], List.range 8, [25]⟩, ⟨[.op 8 0], _, [], List.range 9, [26]⟩]) (F := [.old 0, .old 1, .old 2, .op 9 0]) (hst.pick [0, 1, 2] rfl) hb Za
           (o_p rfl (Zb rfl rfl u_0) <| o_p rfl (Zb rfl rfl u_0) <| o_p rfl (Zbf Tryz.underlying32 Ztu rfl rfl u_0 u_1 h5) <| o_p rfl (Zf Zgs rfl rfl u_0) <| o_p rfl (Zb rfl rfl u_0) <| o_p rfl (Zb rfl rfl u_0) <| o_p rfl (Zbf Tryz.underlying32 Ztu rfl rfl u_0 u_1 h7) <| o_p rfl (Zf Zgs rfl rfl u_0) <| o_p rfl (Zn Z81 (Zpl _ _ h9) rfl rfl (.cons u_0 (.cons u_1 .nil))) <| o_p rfl (Zb7 rfl rfl u_0) <| o_n) (by kernel_rfl) (fun a g hst hb => ?_)
         refine wp_cond_split (hst.bool 3 rfl) (fun hc10 => ?_) (fun hc10 => ?_)
         · replace H1 := Zv hc10 H1
           refine r_s (L := []) (T := [⟨[], _, [], [], [4]⟩]) (F := [.op 0 0]) (hst.pick [] rfl) hb Za
             (o_p rfl (Zc rfl rfl c_b) <| o_n) (by kernel_rfl) (fun a g hst hb => ?_)
           refine wp_ret ?_
           refine Z1 ?_
           refine Zp ?_
           refine Zp ?_
           refine Z1 ?_
           refine Zp ?_
           refine Zp ?_
           obtain rfl := Option.some.inj H1
           obtain rfl := Option.some.inj H0
           exact Z0 rfl hst hb (Zk (s := 4)) (hst.at 0 rfl)
         · replace H1 := Zw hc10 H1
           refine wp_skip ?_
           refine Zbe ?_
           refine Zr ?_
           refine r_g (L := [(0, _), (1, _), (5, _)]) (T := [⟨[.old 2], _, [], [], [15]⟩, ⟨[.op 0 0], _, [], [0], [16]⟩, ⟨[.op 1 0], _, [], [0, 1], [5]⟩]) (F := [.old 0, .old 1, .op 2 0]) (hst.pick [0, 1, 2] rfl) hb Za
             (o_p rfl (Zb rfl rfl u_0) <| o_p rfl (Zb4 rfl rfl u_0 c_i rfl) <| o_p rfl (Zc rfl rfl u_0) <| o_n) (by kernel_rfl) (fun a g hst hb => ?_)
           exact ⟨n, Nat.lt_succ_self _, (IntKind.i64.wrap (x2 + (1 : Int))), g, rfl, (hst.pick [0, 1, 2] rfl), hb, H1⟩
       · replace H1 := Zw hc3 H1
         refine wp_exit ?_
         refine Zb6 ?_
         refine Zb6 ?_
         refine Zcn ?_
         exact ⟨g, rfl, (hst.pick [] rfl), hb, Option.some.inj H1⟩
end Go.CL
set_option linter.unusedVariables false
set_option linter.unusedSimpArgs false
set_option maxRecDepth 100000
namespace Go.CL
open Go Go.RowKit Go.Proofs
theorem Zn6 (a0 : Int) (a1 : List Z9) (a2 : List Zb0) {r : Bool} (h : Zhw a0 a1 a2 = some r) : FnOk Tryz.prog 3 [(pInt .i64 a0), (Zb1.sl.pd a1), (Zcq.sl.pd a2)] (Zbg r) := by
 have H0 := h
 unfold Zhw at H0
 clear h
 refine Zbn (N := 51) Tryz.func3 rfl rfl (Nat.le_of_ble_eq_true rfl) rfl rfl (fun a g0 hst hb => ?_)
 refine r_s (T := [⟨[], _, [], [], [6]⟩]) (F := [.old 0, .old 1, .old 2]) hst hb Za
   (o_p rfl (Zc rfl rfl c_b) <| o_n) (by kernel_rfl) (fun a g hst hb => ?_)
 refine wp_seq ?_
 obtain ⟨r1, h2, H0⟩ := Zh H0
 refine r_s (T := [⟨[], _, [], [], [13]⟩, ⟨[.op 0 0], _, [], [0], [14]⟩]) (F := [.old 0, .old 1, .old 2, .op 1 0]) hst hb Za
   (o_p rfl (Zn en_6 (Zor h2) rfl rfl .nil) <| o_p rfl (Zb7 rfl rfl u_0) <| o_n) (by kernel_rfl) (fun a g hst hb => ?_)
 refine wp_cond_split (hst.bool 3 rfl) (fun hc3 => ?_) (fun hc3 => ?_)
 · replace H0 := Zv hc3 H0
   refine r_s (L := []) (T := [⟨[], _, [], [], [6]⟩]) (F := [.op 0 0]) (hst.pick [] rfl) hb Za
     (o_p rfl (Zc rfl rfl c_b) <| o_n) (by kernel_rfl) (fun a g hst hb => ?_)
   refine wp_ret ?_
   refine Zp ?_
   obtain rfl := Option.some.inj H0
   exact Z0 rfl hst hb (Zk (s := 6)) (hst.at 0 rfl)
 · replace H0 := Zw hc3 H0
   refine wp_skip ?_
   refine Zr ?_
   obtain ⟨r4, h5, H0⟩ := Zh H0
   refine r_s (L := [(0, _), (1, _), (2, _)]) (T := [⟨[.old 0], _, [], [], [16]⟩, ⟨[.old 1], _, [], [], [17]⟩, ⟨[.op 0 0, .op 1 0], _, [], [0, 1], [18]⟩, ⟨[.op 2 0], _, [], [0, 1, 2], [15]⟩, ⟨[.op 3 0], _, [], List.range 4, [19]⟩, ⟨[.op 3 0], _, [], List.range 4, [20]⟩, ⟨[], [(7, (pBox Z6 7 (default : Zq)))], [8], [], [7]⟩, ⟨[.op 4 0, .op 6 0], _, [8], [0, 1, 2, 3, 4, 6], [7]⟩, ⟨[.op 5 0], _, [], List.range 8, [8]⟩]) (F := [.old 2, .op 7 0, .op 8 0]) (hst.pick [0, 1, 2] rfl) hb Za
     (o_p rfl (Zb rfl rfl u_0) <| o_p rfl (Zb rfl rfl u_0) <| o_p rfl (Zn en_7 (Zpr _ _ h5) rfl rfl (.cons u_0 (.cons u_1 .nil))) <| o_p rfl (Zb rfl rfl u_0) <| o_p rfl (Z4 rfl rfl u_0 rfl) <| o_p rfl (Z4 rfl rfl u_0 rfl) <| o_p rfl (Zbb (zs := [.pointer none, .int .i64 0]) (by kernel_rfl) (fun g => Zc0 g) rfl rfl) <| o_p rfl (Zb3 Zbx rfl rfl u_1 u_0) <| o_p rfl (Zc rfl rfl u_0) <| o_n) (by kernel_rfl) (fun a g hst hb => ?_)
   refine wp_seq ?_
   obtain ⟨r6, h7, H0⟩ := Zh H0
   refine r_s (T := [⟨[.old 2], _, [], [], [21]⟩, ⟨[.op 0 0], _, [], [0], [22]⟩, ⟨[.op 1 0], _, [], [0, 1], [23]⟩, ⟨[.op 2 0, .old 0], _, [], [0, 1, 2], [24]⟩, ⟨[.op 2 0, .op 3 0], _, [], List.range 4, [25]⟩, ⟨[.op 2 0, .op 4 0], _, [], List.range 5, [26]⟩, ⟨[.op 2 0, .op 5 0], _, [], List.range 6, [27]⟩]) (F := [.old 0, .old 1, .old 2, .op 6 0]) hst hb Za
     (o_p rfl (Zb rfl rfl u_0) <| o_p rfl (Zpd Tryz.underlying28 rfl rfl u_0 Z2s) <| o_p rfl (Zb rfl rfl u_0) <| o_g (g_f rfl rfl rfl (fun hG => Zb rfl rfl u_0)) <| o_g (g_f rfl rfl rfl (fun hG => Zn en_8 (Zq9 _ (Zbl h7 hG)) rfl rfl (.cons (Opd.gd hG u_0) .nil))) <| o_g (g_f rfl rfl rfl (fun hG => Zcl rfl rfl (Opd.gd hG u_0) c_i)) <| o_p rfl (Zbr rfl rfl u_0 (fun hz => (Opd.gd (bNF hz) u_1))) <| o_n) (by kernel_rfl) (fun a g hst hb => ?_)
   refine wp_cond_split (hst.bool 3 rfl) (fun hc8 => ?_) (fun hc8 => ?_)
   · replace H0 := Zv hc8 H0
     refine r_s (L := []) (T := [⟨[], _, [], [], [6]⟩]) (F := [.op 0 0]) (hst.pick [] rfl) hb Za
       (o_p rfl (Zc rfl rfl c_b) <| o_n) (by kernel_rfl) (fun a g hst hb => ?_)
     refine wp_ret ?_
     refine Zp ?_
     obtain rfl := Option.some.inj H0
     exact Z0 rfl hst hb (Zk (s := 6)) (hst.at 0 rfl)
   · replace H0 := Zw hc8 H0
     refine wp_skip ?_
     refine Zr ?_
     obtain ⟨r9, h10, H0⟩ := Zh H0
     refine r_s (L := [(2, _), (7, _), (8, _)]) (T := [⟨[.old 1], _, [], [], [29]⟩, ⟨[.old 0], _, [], [], [30]⟩, ⟨[.op 0 0, .op 1 0], _, [], [0, 1], [31]⟩, ⟨[.op 2 0], _, [], [0, 1, 2], [28]⟩, ⟨[.op 3 0], _, [], List.range 4, [32]⟩, ⟨[.op 3 0], _, [], List.range 4, [33]⟩, ⟨[], [(9, (pBox Z6 9 (default : Zq)))], [10], [], [9]⟩, ⟨[.op 4 0, .op 6 0], _, [10], [0, 1, 2, 3, 4, 6], [9]⟩, ⟨[.op 5 0], _, [], List.range 8, [10]⟩]) (F := [.old 0, .old 2, .op 7 0, .op 8 0]) (hst.pick [0, 1, 2] rfl) hb Za
       (o_p rfl (Zf Zbx rfl rfl u_0) <| o_p rfl (Zb rfl rfl u_0) <| o_p rfl (Zn en_9 (Zsd _ _ h10) rfl rfl (.cons u_0 (.cons u_1 .nil))) <| o_p rfl (Zb rfl rfl u_0) <| o_p rfl (Z4 rfl rfl u_0 rfl) <| o_p rfl (Z4 rfl rfl u_0 rfl) <| o_p rfl (Zbb (zs := [.pointer none, .int .i64 0]) (by kernel_rfl) (fun g => Zc0 g) rfl rfl) <| o_p rfl (Zb3 Zbx rfl rfl u_1 u_0) <| o_p rfl (Zc rfl rfl u_0) <| o_n) (by kernel_rfl) (fun a g hst hb => ?_)
     obtain ⟨n11, h12, H0⟩ := Zh H0; obtain ⟨r13, h14, H0⟩ := Zh H0
     refine r_s (T := [⟨[.old 1], _, [], [], [35]⟩, ⟨[.op 0 0], _, [], [0], [36]⟩, ⟨[.op 1 0], _, [], [0, 1], [37]⟩, ⟨[.old 0], _, [], [], [38]⟩, ⟨[.op 2 0, .op 3 0], _, [], List.range 4, [39]⟩, ⟨[.op 4 0], _, [], List.range 5, [34]⟩, ⟨[.op 5 0], _, [], List.range 6, [40]⟩, ⟨[.op 5 0], _, [], List.range 6, [41]⟩, ⟨[], [(11, (pBox Z3 11 (default : Zj)))], [12], [], [11]⟩, ⟨[.op 6 0, .op 8 0], _, [12], [0, 1, 2, 3, 4, 5, 6, 8], [11]⟩, ⟨[.op 7 0], _, [], List.range 10, [12]⟩]) (F := [.old 2, .old 3, .op 9 0, .op 10 0]) hst hb Za
       (o_p rfl (Zb rfl rfl u_0) <| o_p rfl (Zt rfl rfl (Opd.imp u_0 (fun _ _ h => Z3t h12 h)) (fun _ _ ⟨_, _, _, e, _⟩ => ⟨_, e⟩)) <| o_p rfl (Zf Zci rfl rfl u_0) <| o_p rfl (Zb rfl rfl u_0) <| o_p rfl (Zn Z93 (Zqd _ _ h14) rfl rfl (.cons u_0 (.cons u_1 .nil))) <| o_p rfl (Zb rfl rfl u_0) <| o_p rfl (Z4 rfl rfl u_0 rfl) <| o_p rfl (Z4 rfl rfl u_0 rfl) <| o_p rfl (Zbb (zs := [.slice none 0 0, .int .i64 0]) (by kernel_rfl) (fun g => Zdz g) rfl rfl) <| o_p rfl (Zb3 Zci rfl rfl u_1 u_0) <| o_p rfl (Zc rfl rfl u_0) <| o_n) (by kernel_rfl) (fun a g hst hb => ?_)
     obtain ⟨r15, h16, H0⟩ := Zh H0; obtain ⟨r17, h18, H0⟩ := Zh H0
     refine r_s (T := [⟨[.old 0], _, [], [], [42]⟩, ⟨[.old 2], _, [], [], [43]⟩, ⟨[.op 0 0, .op 1 0], _, [], [0, 1], [44]⟩, ⟨[.op 2 0], _, [], [0, 1, 2], [45]⟩, ⟨[.op 3 0], _, [], List.range 4, [46]⟩, ⟨[.op 4 0, .old 1], _, [], List.range 5, [47]⟩, ⟨[.op 4 0, .old 3], _, [], List.range 5, [48]⟩, ⟨[.op 4 0, .op 5 0, .op 6 0], _, [], List.range 7, [49]⟩, ⟨[.op 4 0, .op 7 0], _, [], List.range 8, [50]⟩, ⟨[.op 8 0], _, [], List.range 9, [6]⟩]) (F := [.op 9 0]) hst hb Za
       (o_p rfl (Zf Zbx rfl rfl u_0) <| o_p rfl (Zf Zci rfl rfl u_0) <| o_p rfl (Zn Zbae (Zr3 _ _ h16) rfl rfl (.cons u_0 (.cons u_1 .nil))) <| o_p rfl (Zbk rfl rfl u_0 c_i) <| o_p rfl (Zb rfl rfl u_0) <| o_g (g_t rfl rfl rfl (fun hG => Zb rfl rfl u_0)) <| o_g (g_t rfl rfl rfl (fun hG => Zb rfl rfl u_0)) <| o_g (g_t rfl rfl rfl (fun hG => Zn Z8l (Zph _ _ (Zbl h18 hG)) rfl rfl (.cons (Opd.gd hG u_0) (.cons (Opd.gd hG u_1) .nil)))) <| o_p rfl (Zbc rfl rfl u_0 (fun hz => (Opd.gd hz u_1))) <| o_p rfl (Zc rfl rfl u_0) <| o_n) (by kernel_rfl) (fun a g hst hb => ?_)
     refine wp_ret ?_
     obtain rfl := Option.some.inj H0
     exact Z0 rfl hst hb (Zk (s := 6)) (hst.at 0 rfl)
end Go.CL
set_option linter.unusedVariables false
set_option maxRecDepth 100000
namespace Go.CL
open Go
end Go.CL
set_option linter.unusedVariables false
set_option linter.unusedSimpArgs false
namespace Go.CL
open Go
def NANB : Nat := 9221120237041090561
def keyf (b : Nat) : Int := if isn b then 18444492273895866369 else if TOP ≤ b then 18446744073709551615 - b else b + 9223372036854775808
def Zcc (b : Nat) : Nat := if isn b then NANB else b
theorem Zvm {b : Nat} (hb : b < 18446744073709551616) : fneq b b = decide (isn b) := by
 unfold fneq
 show (Ieee.double.order b b != some .eq) = _
 by_cases h : isn b
 · rw [Zvp (.inl h)]; simp [h]
 · obtain ⟨o, ho, _, he⟩ := Zpg hb hb h h
   rw [ho, he.2 rfl]; simp [h]
theorem Zja {b : Nat} (hb : b < 18446744073709551616) : Zfv b = some (Zcc b) := by
 unfold Zfv Zcc
 rw [Zvm hb]
 by_cases h : isn b
 · simp [h, Zpn, NANB]
 · simp [h]
theorem Z5r {b : Nat} (hb : b < 18446744073709551616) : (bAnd .u64 (b : Int) 9223372036854775808 != 0) = decide (TOP ≤ b) := by
 have h1 : (BitVec.ofInt 64 (b : Int) &&& BitVec.ofInt 64 9223372036854775808).toNat = b &&& 9223372036854775808 := by
   rw [BitVec.toNat_and]
   have e1 : (BitVec.ofInt 64 (b : Int)).toNat = b := by
     rw [show BitVec.ofInt 64 (b : Int) = BitVec.ofNat 64 b from rfl]
     simp; omega
   rw [e1]; rfl
 have h2 : b &&& 9223372036854775808 = (b.testBit 63).toNat * 9223372036854775808 := by
   apply Nat.eq_of_testBit_eq
   intro i
   rw [Nat.testBit_and, show (9223372036854775808 : Nat) = 2 ^ 63 from rfl, Nat.testBit_two_pow]
   by_cases hi : 63 = i
   · subst hi
     cases b.testBit 63
     · simp
     · rw [Bool.toNat_true, Nat.one_mul, Nat.testBit_two_pow]; simp
   · cases b.testBit 63
     · simp [hi]
     · rw [Bool.toNat_true, Nat.one_mul, Nat.testBit_two_pow]; simp [hi]
 have h3 : b.testBit 63 = decide (TOP ≤ b) := by
   rw [Nat.testBit_eq_decide_div_mod_eq]
   unfold TOP
   by_cases h : 9223372036854775808 ≤ b
   · have : b / 2 ^ 63 % 2 = 1 := by omega
     simp [this, h]
   · have : b / 2 ^ 63 % 2 = 0 := by omega
     simp [this, h]
 unfold bAnd
 show (IntKind.wrap .u64 ((BitVec.ofInt 64 (b : Int) &&& BitVec.ofInt 64 9223372036854775808).toNat : Int) != 0) = _
 rw [h1, h2, h3]
 by_cases h : TOP ≤ b
 · simp only [h, decide_true, Bool.toNat_true, Nat.one_mul]
   rfl
 · simp only [h, decide_false, Bool.toNat_false, Nat.zero_mul]
   rfl
theorem Z51 {b : Nat} (hb : b < 18446744073709551616) : bXor .u64 IntKind.u64.max (b : Int) = 18446744073709551615 - b := by
 have h1 : (BitVec.ofInt 64 18446744073709551615 ^^^ BitVec.ofInt 64 (b : Int)).toNat = 18446744073709551615 - b := by
   have e1 : BitVec.ofInt 64 18446744073709551615 = BitVec.allOnes 64 := by decide
   rw [e1, BitVec.allOnes_xor, BitVec.toNat_not]
   have e2 : (BitVec.ofInt 64 (b : Int)).toNat = b := by
     rw [show BitVec.ofInt 64 (b : Int) = BitVec.ofNat 64 b from rfl]
     simp; omega
   rw [e2]
 unfold bXor
 show IntKind.wrap .u64 ((BitVec.ofInt 64 18446744073709551615 ^^^ BitVec.ofInt 64 (b : Int)).toNat : Int) = _
 rw [h1]
 simp [IntKind.wrap, IntKind.signed, IntKind.bits]
 omega
theorem Z7t {b : Nat} (hb : b < 9223372036854775808) : bOr .u64 (b : Int) 9223372036854775808 = b + 9223372036854775808 := by
 have h1 : (BitVec.ofInt 64 (b : Int) ||| BitVec.ofInt 64 9223372036854775808).toNat = b + 9223372036854775808 := by
   rw [BitVec.toNat_or]
   have e1 : (BitVec.ofInt 64 (b : Int)).toNat = b := by
     rw [show BitVec.ofInt 64 (b : Int) = BitVec.ofNat 64 b from rfl]
     simp; omega
   rw [e1, show (BitVec.ofInt 64 9223372036854775808).toNat = 2 ^ 63 * 1 from rfl, Nat.or_comm]
   rw [← Nat.two_pow_add_eq_or_of_lt (by simpa using hb)]
   omega
 unfold bOr
 show IntKind.wrap .u64 ((BitVec.ofInt 64 (b : Int) ||| BitVec.ofInt 64 9223372036854775808).toNat : Int) = _
 rw [h1]
 simp [IntKind.wrap, IntKind.signed, IntKind.bits]
 omega
theorem Zs9 {b : Nat} (hb : b < 18446744073709551616) : Zcc b < 18446744073709551616 := by
 unfold Zcc NANB; split <;> omega
theorem Zt5 {b : Nat} (hb : b < 18446744073709551616) : Zll b = some (keyf b) := by
 unfold Zll
 rw [Zja hb]
 simp only [Option.bind_some]
 rw [Z5r (Zs9 hb)]
 unfold keyf Zcc
 by_cases h : isn b
 · simp only [h, if_true]
   rfl
 · simp only [h, if_false]
   by_cases ht : TOP ≤ b
   · simp only [ht, decide_true, if_true]
     rw [Z51 hb]
   · simp only [ht, decide_false, if_false, Bool.false_eq_true]
     rw [Z7t (by unfold TOP at ht; omega)]
theorem Zni {a b : Nat} (ha : a < 18446744073709551616) (hb : b < 18446744073709551616) : Zi8 a b = some (decide (keyf a = keyf b)) := by
 unfold Zi8
 rw [Zt5 ha, Zt5 hb]
 simp [BEq.beq]
theorem Zun {a b : Nat} (ha : a < 18446744073709551616) (hb : b < 18446744073709551616) : Zlg a b = some (decide (keyf a < keyf b)) := by
 unfold Zlg
 rw [Zt5 ha, Zt5 hb]
 simp
theorem Zqn {a : Nat} (ha : a < 18446744073709551616) : Zj2 a = some (decide (a = Zcc a)) := by
 unfold Zj2
 rw [Zja ha]
 congr 1
 by_cases h : a = Zcc a
 · simp [← h]
 · have : (a : Int) ≠ (Zcc a : Int) := by omega
   simp [h, this]
theorem Zy3 {a b : Nat} (ha : a < 18446744073709551616) (hb : b < 18446744073709551616) (na : ¬ isn a) (nb : ¬ isn b) : keyf a < keyf b ↔ (sg a < sg b ∨ (a = TOP ∧ b = 0)) := by
 unfold keyf
 rw [if_neg na, if_neg nb]
 unfold sg isn rg INF TOP at *
 split <;> split <;> omega
theorem Zy5 {a b : Nat} (ha : a < 18446744073709551616) (hb : b < 18446744073709551616) (na : ¬ isn a) (nb : ¬ isn b) : feql a b = decide (sg a = sg b) := by
 unfold feql
 show (Ieee.double.order a b == some .eq) = _
 obtain ⟨o, ho, _, he⟩ := Zpg ha hb na nb
 rw [ho]
 by_cases h : sg a = sg b
 · rw [he.2 h]; simp [h]
 · have : o ≠ .eq := fun h' => h (he.1 h')
   simp [h, this]
theorem Z6n {a b : Nat} (ha : a < 18446744073709551616) (hb : b < 18446744073709551616) (na : ¬ isn a) (nb : ¬ isn b) : flss a b = decide (sg a < sg b) := by
 unfold flss
 show (Ieee.double.order a b == some .lt) = _
 obtain ⟨o, ho, hl, _⟩ := Zpg ha hb na nb
 rw [ho]
 by_cases h : sg a < sg b
 · rw [hl.2 h]; simp [h]
 · have : o ≠ .lt := fun h' => h (hl.1 h')
   simp [h, this]
theorem Z78 : Zgn 0 = some false := by kernel_rfl
theorem Z6u : Zgn TOP = some true := by kernel_rfl
theorem nan0 : ¬ isn 0 := by decide
theorem Zzx {a : Nat} (ha : a < 18446744073709551616) : sg a = sg 0 ↔ a = 0 ∨ a = TOP := by
 unfold sg TOP
 split <;> simp <;> omega
theorem Zps {a : Nat} (ha : a < 18446744073709551616) : Zec a = some (decide (isn a)) := by
 unfold Zec; rw [Zvm ha]
theorem Zny {a b : Nat} (ha : a < 18446744073709551616) (hb : b < 18446744073709551616) : Zez a b = some (decide (keyf a < keyf b)) := by
 unfold Zez
 rw [Zps ha, Zps hb]
 simp only [Option.bind_some]
 have kb : ∀ x, x < 18446744073709551616 → ¬ isn x → keyf x < 18444492273895866369 := by
   intro x hx nx
   unfold keyf
   rw [if_neg nx]
   unfold isn rg INF TOP at *
   split <;> omega
 have kn : ∀ x, isn x → keyf x = 18444492273895866369 := fun x h => by unfold keyf; rw [if_pos h]
 by_cases na : isn a
 · simp only [na, decide_true, if_true]
   by_cases nb : isn b
   · rw [kn a na, kn b nb]; simp
   · have := kb b hb nb
     rw [kn a na]; simp; omega
 · simp only [na, decide_false, Bool.false_eq_true, if_false]
   by_cases nb : isn b
   · have := kb a ha na
     rw [kn b nb]; simp [nb, this]
   · simp only [nb, decide_false, Bool.false_eq_true, if_false]
     rw [Zy5 ha (by decide) na nan0, Zy5 hb (by decide) nb nan0, Z6n ha hb na nb]
     by_cases hz : sg a = sg 0 ∧ sg b = sg 0
     · rw [if_pos (by simp [hz])]
       have hk := Zy3 ha hb na nb
       have h0T : (0 : Nat) ≠ TOP := by decide
       rcases (Zzx ha).1 hz.1 with rfl | rfl <;> rcases (Zzx hb).1 hz.2 with rfl | rfl <;> simp only [Z78, Z6u, gd, Option.bind_some, if_true, if_false, Bool.false_eq_true, Option.some.injEq] <;> decide
     · rw [if_neg (by simpa using hz)]
       have hk := Zy3 ha hb na nb
       congr 1
       apply decide_eq_decide.2
       rw [hk]
       constructor
       · intro h; exact .inl h
       · rintro (h | ⟨rfl, rfl⟩)
         · exact h
         · exact absurd ⟨rfl, rfl⟩ hz
theorem Zmh {a b : Nat} (ha : a < 18446744073709551616) (hb : b < 18446744073709551616) : Zdn a b = some (decide (keyf a = keyf b)) := by
 unfold Zdn
 rw [Zny ha hb, Zny hb ha]
 simp only [Option.bind_some, gd]
 by_cases h1 : keyf a < keyf b
 · have : keyf a ≠ keyf b := by omega
   simp [h1, this]
 · by_cases h2 : keyf b < keyf a
   · have : keyf a ≠ keyf b := by omega
     simp [h1, h2, this]
   · have : keyf a = keyf b := by omega
     simp [this]
theorem Zp1 {a : Nat} (ha : a < 18446744073709551616) : Zfg a = some (decide (a = Zcc a)) := by
 unfold Zfg
 rw [Zps ha]
 unfold Zcc NANB
 by_cases h : isn a
 · by_cases h2 : a = 9221120237041090561
   · simp [h, h2]
   · have : (a : Int) ≠ 9221120237041090561 := by omega
     simp [h, h2, this]
 · simp [h]
end Go.CL
set_option linter.unusedVariables false
set_option linter.unusedSimpArgs false
namespace Go.CL
open Go
theorem wr {x : Int} (h1 : -9223372036854775808 ≤ x) (h2 : x ≤ 9223372036854775807) : IntKind.i64.wrap x = x := by
 rw [IntKind.wrap_i64]; omega
theorem wr1 {i : Nat} (h : i < 9223372036854775807) : IntKind.i64.wrap ((i : Int) + 1) = ((i + 1 : Nat) : Int) := by
 rw [wr (by omega) (by omega)]; omega
theorem Z9r (n : Int) : IntKind.u64.wrap n = n % 18446744073709551616 := by simp [IntKind.wrap, IntKind.bits, IntKind.signed]
theorem wru {x : Int} (h1 : 0 ≤ x) (h2 : x < 18446744073709551616) : IntKind.u64.wrap x = x := by rw [Z9r]; omega
theorem wrm {i : Nat} (h : i < 9223372036854775807) (h0 : 0 < i) : IntKind.i64.wrap ((i : Int) - 1) = ((i - 1 : Nat) : Int) := by
 rw [wr (by omega) (by omega)]; omega
theorem idxn {α : Type} (xs : List α) (i : Nat) : idx xs (i : Int) = xs[i]? := by
 unfold idx
 rw [if_pos (by omega)]
 simp
theorem Zdc {α : Type} {xs : List α} {i : Nat} (h : i < xs.length) : idx xs (i : Int) = some xs[i] := by
 rw [idxn, List.getElem?_eq_getElem h]
theorem gd_t {β : Type} [Inhabited β] (x : Option β) : gd true x = x := rfl
theorem gd_f {β : Type} [Inhabited β] (x : Option β) : gd false x = some default := rfl
theorem Zml {α : Type} {xs : List α} {l h : Nat} (h1 : l ≤ h) (h2 : h ≤ xs.length) : cut xs (l : Int) (h : Int) = some ((xs.drop l).take (h - l)) := by
 unfold cut
 rw [if_pos (by omega)]
 simp
theorem Zuj {a b : ByteArray} (h : a.toList = b.toList) : a = b := by
 rw [_root_.Go.ByteArray.toList_eq, _root_.Go.ByteArray.toList_eq] at h
 exact ByteArray.ext (Array.toList_inj.1 h)
theorem Zh5 {a b : ByteArray} : sEq a b = true ↔ a = b := by
 unfold sEq
 constructor
 · intro h; exact Zuj (by simpa using h)
 · rintro rfl; simp
theorem Ze8 (a : ByteArray) : sEq a a = true := Zh5.2 rfl
theorem Zeo {a b : ByteArray} : sEq a b = false ↔ a ≠ b := by
 cases h : sEq a b
 · simp; intro e; rw [Zh5.2 e] at h; cases h
 · simp; exact Zh5.1 h
theorem Z1j : ∀ l : List UInt8, Op.bytesLess l l = false
 | [] => rfl
 | x :: l => by simp [Op.bytesLess, Z1j l]
theorem Zwp : ∀ {a b c : List UInt8}, Op.bytesLess a b = true → Op.bytesLess b c = true → Op.bytesLess a c = true
 | [], [], c, h, _ => by simp [Op.bytesLess] at h
 | [], y :: b, [], _, k => by simp [Op.bytesLess] at k
 | [], y :: b, z :: c, _, _ => rfl
 | x :: a, [], c, h, _ => by simp [Op.bytesLess] at h
 | x :: a, y :: b, [], _, k => by simp [Op.bytesLess] at k
 | x :: a, y :: b, z :: c, h, k => by
   simp only [Op.bytesLess, Bool.or_eq_true, Bool.and_eq_true, decide_eq_true_eq, beq_iff_eq] at h k ⊢
   rcases h with h | ⟨h1, h2⟩ <;> rcases k with k | ⟨k1, k2⟩
   · exact .inl (UInt8.lt_trans h k)
   · subst k1; exact .inl h
   · subst h1; exact .inl k
   · subst h1; subst k1; exact .inr ⟨rfl, Zwp h2 k2⟩
theorem Z2g : ∀ (a b : List UInt8), Op.bytesLess a b = false → a ≠ b → Op.bytesLess b a = true
 | [], [], _, h => absurd rfl h
 | [], y :: b, h, _ => by simp [Op.bytesLess] at h
 | x :: a, [], _, _ => rfl
 | x :: a, y :: b, h, hn => by
   simp only [Op.bytesLess, Bool.or_eq_false_iff, decide_eq_false_iff_not, Bool.and_eq_false_iff] at h
   simp only [Op.bytesLess, Bool.or_eq_true, Bool.and_eq_true, decide_eq_true_eq, beq_iff_eq]
   by_cases e : x = y
   · subst e
     right
     refine ⟨rfl, Z2g a b ?_ (fun h' => hn (by rw [h']))⟩
     rcases h.2 with h | h
     · simp at h
     · exact h
   · left
     rcases UInt8.lt_or_lt_of_ne e with h' | h'
     · exact absurd h' h.1
     · exact h'
theorem Zlk (a : ByteArray) : sLt a a = false := Z1j _
theorem Zf7 {a b c : ByteArray} (h : sLt a b = true) (k : sLt b c = true) : sLt a c = true := Zwp h k
theorem Zmn {a b : ByteArray} (h : sLt a b = false) (hn : a ≠ b) : sLt b a = true := Z2g _ _ h (fun e => hn (Zuj e))
theorem Zss {a b : ByteArray} (h : sLt a b = true) : sLt b a = false := by
 cases k : sLt b a
 · rfl
 · have := Zf7 h k
   rw [Zlk] at this; cases this
theorem Zlz {a b : ByteArray} (h : sLt a b = true) : a ≠ b := fun e => by subst e; rw [Zlk] at h; cases h
end Go.CL
set_option linter.unusedVariables false
set_option linter.unusedSimpArgs false
namespace Go.CL
open Go
abbrev W64 : Nat := 18446744073709551616
structure Zh2 (a : Ze) : Prop where
 real : a.Real < W64
 len : a.List.length < 4611686018427387904
 sc : ∀ e ∈ a.List, e.Score < W64
def Zdd (a b : Zl) : Bool := if keyf a.Score = keyf b.Score then sLt a.Name b.Name else decide (keyf b.Score < keyf a.Score)
theorem Zoc {a b : Zl} (ha : a.Score < W64) (hb : b.Score < W64) : Zjy a b = some (Zdd a b) := by
 unfold Zjy Zdd
 rw [Zni ha hb, Zun hb ha]
 by_cases h : keyf a.Score = keyf b.Score <;> simp [h]
theorem Zw9 {a b : Zl} (ha : a.Score < W64) (hb : b.Score < W64) : Zfq a b = some (Zdd a b) := by
 unfold Zfq Zdd
 rw [Zny hb ha, Zmh ha hb]
 by_cases h : keyf a.Score = keyf b.Score
 · simp [h]
 · by_cases h2 : keyf b.Score < keyf a.Score <;> simp [h, h2]
theorem Zzi {a : Nat} (ha : a < W64) : Zg0 a = some (decide (keyf a = keyf 0)) := by
 unfold Zg0
 rw [Zmh ha (by decide)]
 rfl
def Zhk (k : Int) (l : List Zl) (i : Nat) : Int :=
 match l[i]? with
 | none => 0
 | some x =>
   let p := (l[i - 1]?).getD default
   if (16 : Int) < x.Name.size then 3
   else if (k = 8 ∧ keyf x.Score ≠ keyf 0) ∨ x.Score ≠ Zcc x.Score then 4
   else if 0 < i ∧ k = 8 ∧ sLt p.Name x.Name = false then 4
   else if 0 < i ∧ k = 9 ∧ Zdd p x = false then 4
   else 0
theorem Z1t {k : Int} {l : List Zl} {i n : Nat} (hi : i < l.length) (hl : l.length < 4611686018427387904) (hs : ∀ e ∈ l, e.Score < W64) :
   Zfz k l (n + 1) (i : Int) = if Zhk k l i = 0 then Zfz k l n ((i + 1 : Nat) : Int) else some (.inl (Zhk k l i)) := by
 have hx : l[i].Score < W64 := hs _ (List.getElem_mem hi)
 rw [Zfz, if_pos (by simp; omega), Zdc hi, wr1 (by omega)]
 simp only [Option.bind_some]
 rw [Zni hx (by decide), Zqn hx]
 simp only [Zhk, List.getElem?_eq_getElem hi]
 by_cases h1 : (16 : Int) < l[i].Name.size
 · simp [h1]
 · simp only [h1, decide_false, if_false, Bool.false_eq_true]
   have hz : ((0 : Nat) : Int) = 0 := rfl
   by_cases h0 : 0 < i
   · have hp : i - 1 < l.length := by omega
     have hps : l[i - 1].Score < W64 := hs _ (List.getElem_mem hp)
     have hd : (decide ((0 : Int) < (i : Int))) = true := by simp; omega
     rw [hd, wrm (by omega) h0, Zdc hp]
     simp only [List.getElem?_eq_getElem hp, Option.getD_some, h0, true_and, Bool.true_and]
     by_cases h8 : k = 8
     · subst h8
       simp only [beq_self_eq_true, gd_t, Option.bind_some, true_and, Bool.true_and]
       by_cases hk : keyf l[i].Score = keyf 0
       · by_cases hc : l[i].Score = Zcc l[i].Score
         · simp [hk, ← hc, gd]
           cases sLt l[i - 1].Name l[i].Name <;> simp
         · simp [hk, hc, gd]
       · simp [hk, gd]
     · have h8' : (k == 8) = false := by simpa using h8
       simp only [h8', h8, gd_f, gd_t, Option.bind_some, false_and, false_or, Bool.false_and, Bool.not_false, Bool.false_or]
       by_cases hc : l[i].Score = Zcc l[i].Score
       · by_cases h9 : k = 9
         · subst h9
           simp [← hc, gd, Zoc hps hx]
           cases Zdd l[i - 1] l[i] <;> simp
         · simp [← hc, gd, h9]
       · simp [hc]
   · have h00 : i = 0 := by omega
     subst h00
     simp only [Nat.lt_irrefl, false_and, if_false, Int.ofNat_zero, Int.lt_irrefl, decide_false, Bool.false_and, gd_f, Option.bind_some, Int.natCast_zero]
     by_cases h8 : k = 8
     · subst h8
       simp only [beq_self_eq_true, gd_t, Option.bind_some, true_and, Bool.true_and]
       by_cases hk : keyf l[0].Score = keyf 0
       · by_cases hc : l[0].Score = Zcc l[0].Score
         · simp [hk, ← hc, gd]
         · simp [hk, hc, gd]
       · simp [hk, gd]
     · have h8' : (k == 8) = false := by simpa using h8
       simp only [h8', h8, gd_f, gd_t, Option.bind_some, false_and, false_or, Bool.false_and, Bool.not_false, Bool.false_or]
       by_cases hc : l[0].Score = Zcc l[0].Score
       · simp [← hc, gd]
       · simp [hc]
theorem Z3h {k : Int} {l : List Zl} {i : Nat} (hi : i < l.length) (hl : l.length < 4611686018427387904) (hs : ∀ e ∈ l, e.Score < W64) : Zic k l (i : Int) = some (Zhk k l i) := by
 have hx : l[i].Score < W64 := hs _ (List.getElem_mem hi)
 unfold Zic
 rw [Zdc hi]
 simp only [Option.bind_some]
 rw [Zzi hx, Zp1 hx]
 simp only [Zhk, List.getElem?_eq_getElem hi]
 by_cases h1 : (16 : Int) < l[i].Name.size
 · simp [h1]
 · simp only [h1, decide_false, if_false, Bool.false_eq_true]
   by_cases h0 : 0 < i
   · have hp : i - 1 < l.length := by omega
     have hps : l[i - 1].Score < W64 := hs _ (List.getElem_mem hp)
     have hd : (decide ((0 : Int) < (i : Int))) = true := by simp; omega
     rw [hd, wrm (by omega) h0, Zdc hp]
     simp only [List.getElem?_eq_getElem hp, Option.getD_some, h0, true_and, Bool.true_and]
     by_cases h8 : k = 8
     · subst h8
       simp only [beq_self_eq_true, gd_t, Option.bind_some, true_and, Bool.true_and]
       by_cases hk : keyf l[i].Score = keyf 0
       · by_cases hc : l[i].Score = Zcc l[i].Score
         · simp [hk, ← hc, gd]
           cases sLt l[i - 1].Name l[i].Name <;> simp
         · simp [hk, hc, gd]
       · simp [hk, gd]
     · have h8' : (k == 8) = false := by simpa using h8
       simp only [h8', h8, gd_f, gd_t, Option.bind_some, false_and, false_or, Bool.false_and, Bool.not_false, Bool.false_or]
       by_cases hc : l[i].Score = Zcc l[i].Score
       · by_cases h9 : k = 9
         · subst h9
           simp [← hc, gd, Zw9 hps hx]
           cases Zdd l[i - 1] l[i] <;> simp
         · simp [← hc, gd, h9]
       · simp [hc]
   · have h00 : i = 0 := by omega
     subst h00
     simp only [Nat.lt_irrefl, false_and, if_false, Int.ofNat_zero, Int.lt_irrefl, decide_false, Bool.false_and, gd_f, Option.bind_some, Int.natCast_zero]
     by_cases h8 : k = 8
     · subst h8
       simp only [beq_self_eq_true, gd_t, Option.bind_some, true_and, Bool.true_and]
       by_cases hk : keyf l[0].Score = keyf 0
       · by_cases hc : l[0].Score = Zcc l[0].Score
         · simp [hk, ← hc, gd]
         · simp [hk, hc, gd]
       · simp [hk, gd]
     · have h8' : (k == 8) = false := by simpa using h8
       simp only [h8', h8, gd_f, gd_t, Option.bind_some, false_and, false_or, Bool.false_and, Bool.not_false, Bool.false_or]
       by_cases hc : l[0].Score = Zcc l[0].Score
       · simp [← hc, gd]
       · simp [hc]
end Go.CL
set_option linter.unusedVariables false
set_option linter.unusedSimpArgs false
namespace Go.CL
open Go
def Zio (k : Int) (l : List Zl) : Nat → Nat → Int
 | _, 0 => 0
 | i, n + 1 => if Zhk k l i = 0 then Zio k l (i + 1) n else Zhk k l i
def endC (c : Int) : Int ⊕ Unit := if c = 0 then .inr () else .inl c
theorem Zs5 {k : Int} {l : List Zl} {i n : Nat} (h : Zhk k l i = 0) : Zio k l i (n + 1) = Zio k l (i + 1) n := by simp [Zio, h]
theorem Zs7 {k : Int} {l : List Zl} {i n : Nat} (h : ¬ Zhk k l i = 0) : Zio k l i (n + 1) = Zhk k l i := by simp [Zio, h]
theorem Z2m {c : Int} (h : ¬ c = 0) : endC c = .inl c := if_neg h
theorem Zuh {k : Int} {l : List Zl} (hl : l.length < 4611686018427387904) (hs : ∀ e ∈ l, e.Score < W64) : ∀ (n i : Nat), i + n = l.length →
   Zfz k l (n + 1) (i : Int) = some (endC (Zio k l i n))
 | 0, i, h => by
   rw [Zfz, if_neg (by simp; omega)]
   rfl
 | n + 1, i, h => by
   rw [Z1t (by omega) hl hs]
   by_cases hc : Zhk k l i = 0
   · rw [if_pos hc, Zs5 hc, Zuh hl hs n (i + 1) (by omega)]
   · rw [if_neg hc, Zs7 hc, Z2m hc]
theorem Z3c {k : Int} {l : List Zl} (hl : l.length < 4611686018427387904) (hs : ∀ e ∈ l, e.Score < W64) : Zmz k l = some (Zio k l 0 l.length) := by
 unfold Zmz
 rw [show (Int.toNat ((l.length : Int) - (0 : Int)) + 1) = l.length + 1 by omega, show (0 : Int) = ((0 : Nat) : Int) from rfl, Zuh hl hs l.length 0 (by omega)]
 unfold endC
 by_cases h : Zio k l 0 l.length = 0 <;> simp [h]
theorem Zsi {a : Ze} (ha : Zh2 a) : ∀ (n i : Nat), i + n = a.List.length →
   Zd1 a (n + 1) (i : Int) = some (endC (Zio a.Kind a.List i n))
 | 0, i, h => by
   rw [Zd1, if_neg (by simp; omega)]
   rfl
 | n + 1, i, h => by
   have hl := ha.len
   rw [Zd1, if_pos (by simp; omega), Z3h (by omega) hl ha.sc, wr1 (by omega)]
   simp only [Option.bind_some]
   by_cases hc : Zhk a.Kind a.List i = 0
   · rw [if_neg (by simp [hc]), Zs5 hc, Zsi ha n (i + 1) (by omega)]
   · rw [if_pos (by simp [hc]), Zs7 hc, Z2m hc]
def Zg7 (t n b r l : Bool) (a : Ze) : Bool := (t || sEq a.Text ⟨#[]⟩) && (n || a.Num == 0) && (b || (a.Low == 0 && a.High == 0)) && (r || decide (keyf a.Real = keyf 0)) && (l || (a.Cap == 0 && (a.List.length : Int) == 0))
theorem Z5k {a : Ze} (ha : Zh2 a) (t n b r l : Bool) : Zn0 a ⟨t, n, b, r, l⟩ = some (Zg7 t n b r l a) := by
 unfold Zn0 Zg7
 rw [Zni ha.real (by decide)]
 simp only
 generalize sEq a.Text ⟨#[]⟩ = x1
 generalize (a.Num == 0) = x2
 generalize (a.Low == 0) = x3
 generalize (a.High == 0) = x4
 generalize decide (keyf a.Real = keyf 0) = x5
 generalize (a.Cap == 0) = x6
 generalize ((a.List.length : Int) == 0) = x7
 revert t n b r l x1 x2 x3 x4 x5 x6 x7
 decide
theorem Z6i {a : Ze} (ha : Zh2 a) {s : ByteArray} {t n b r l : Bool} (h : Zcu s (Int.toNat ((s.size : Int) - (0 : Int)) + 1) false false false false false 0 = some (t, n, b, r, l)) : Zia a s = some (Zg7 t n b r l a) := by
 unfold Zia Zg7
 rw [h, Zzi ha.real]
 simp only [Option.bind_some, bne]
 generalize sEq a.Text ⟨#[]⟩ = x1
 generalize (a.Num == 0) = x2
 generalize (a.Low == 0) = x3
 generalize (a.High == 0) = x4
 generalize decide (keyf a.Real = keyf 0) = x5
 generalize (a.Cap == 0) = x6
 generalize ((a.List.length : Int) == 0) = x7
 clear h
 revert t n b r l x1 x2 x3 x4 x5 x6 x7
 decide
theorem Z91 : Zcu ⟨#[116]⟩ (Int.toNat (((⟨#[116]⟩ : ByteArray).size : Int) - (0 : Int)) + 1) false false false false false 0 = some (true, false, false, false, false) := by kernel_rfl
theorem Z4j : Zcu ⟨#[110]⟩ (Int.toNat (((⟨#[110]⟩ : ByteArray).size : Int) - (0 : Int)) + 1) false false false false false 0 = some (false, true, false, false, false) := by kernel_rfl
theorem Z8b : Zcu ⟨#[110, 98]⟩ (Int.toNat (((⟨#[110, 98]⟩ : ByteArray).size : Int) - (0 : Int)) + 1) false false false false false 0 = some (false, true, true, false, false) := by kernel_rfl
theorem Z0e : Zcu ⟨#[114]⟩ (Int.toNat (((⟨#[114]⟩ : ByteArray).size : Int) - (0 : Int)) + 1) false false false false false 0 = some (false, false, false, true, false) := by kernel_rfl
theorem Z4t : Zcu ⟨#[108]⟩ (Int.toNat (((⟨#[108]⟩ : ByteArray).size : Int) - (0 : Int)) + 1) false false false false false 0 = some (false, false, false, false, true) := by kernel_rfl
def Zow (t n b r l : Bool) (a : Ze) : Int :=
 if Zg7 t n b r l a = false then 4
 else if (64 : Int) < a.Text.size then 3
 else if b = true ∧ (a.Low < -2305843009213693952 ∨ 2305843009213693952 < a.High ∨ a.Num < a.Low ∨ a.High < a.Num) then 1
 else if a.Real ≠ Zcc a.Real then 4
 else if l = false then 0
 else if a.Cap < 1 ∨ 32 < a.Cap then 1
 else if a.Cap < a.List.length then 8
 else Zio a.Kind a.List 0 a.List.length
theorem Zgf {a : Ze} (ha : Zh2 a) {t n b r l : Bool} (hk : ¬ (a.Kind ≤ 0 ∨ 10 ≤ a.Kind)) (hs : Zeh a.Kind = some ⟨t, n, b, r, l⟩) : Zee a = some (Zow t n b r l a) := by
 unfold Zee Zow
 rw [hs]
 simp only [Option.bind_some]
 rw [Z5k ha, Zqn ha.real, Z3c ha.len ha.sc]
 simp only [Option.bind_some]
 rw [if_neg (by simpa using hk)]
 by_cases h1 : Zg7 t n b r l a = false
 · rw [if_pos h1, if_pos (by simp [h1])]
 · rw [if_neg h1, if_neg (by simpa using h1)]
   by_cases h2 : (64 : Int) < a.Text.size
   · rw [if_pos h2, if_pos (by simpa using h2)]
   · rw [if_neg h2, if_neg (by simpa using h2)]
     by_cases h3 : b = true ∧ (a.Low < -2305843009213693952 ∨ 2305843009213693952 < a.High ∨ a.Num < a.Low ∨ a.High < a.Num)
     · rw [if_pos h3, if_pos (by simpa [or_assoc] using h3)]
     · rw [if_neg h3, if_neg (by simpa [or_assoc] using h3)]
       by_cases h4 : a.Real = Zcc a.Real
       · rw [if_neg (show ¬ (a.Real ≠ Zcc a.Real) from fun h => h h4), decide_eq_true h4]
         simp only [Bool.not_true, Bool.false_eq_true, if_false]
         cases l
         · simp
         · simp only [Bool.not_true, Bool.false_eq_true, if_false, Bool.true_eq_false]
           by_cases h5 : a.Cap < 1 ∨ 32 < a.Cap
           · rw [if_pos h5, if_pos (by simpa using h5)]
           · rw [if_neg h5, if_neg (by simpa using h5)]
             by_cases h6 : a.Cap < a.List.length
             · rw [if_pos h6, if_pos (by simpa using h6)]
             · rw [if_neg h6, if_neg (by simpa using h6)]
       · rw [if_pos (show a.Real ≠ Zcc a.Real from h4), decide_eq_false h4]
         rfl
theorem Z2n : Zeh 1 = some ⟨true, false, false, false, false⟩ := by kernel_rfl
theorem Z2j : Zeh 2 = some ⟨false, true, false, false, false⟩ := by kernel_rfl
theorem Z2b : Zeh 3 = some ⟨false, true, false, false, false⟩ := by kernel_rfl
theorem Z1y : Zeh 4 = some ⟨false, true, true, false, false⟩ := by kernel_rfl
theorem Z1d : Zeh 5 = some ⟨false, false, false, true, false⟩ := by kernel_rfl
theorem Z2a : Zeh 6 = some ⟨false, false, false, true, false⟩ := by kernel_rfl
theorem Z2h : Zeh 7 = some ⟨false, false, false, true, false⟩ := by kernel_rfl
theorem Z1a : Zeh 8 = some ⟨false, false, false, false, true⟩ := by kernel_rfl
theorem Z2e : Zeh 9 = some ⟨false, false, false, false, true⟩ := by kernel_rfl
def Zrp (t n b r l : Bool) (k : Int) (a : Ze) : Int :=
 if Zg7 t n b r l a = false then 4
 else if k = 1 ∧ (64 : Int) < a.Text.size then 3
 else if k = 4 ∧ (a.Low < -2305843009213693952 ∨ 2305843009213693952 < a.High ∨ a.Num < a.Low ∨ a.High < a.Num) then 1
 else if a.Real ≠ Zcc a.Real then 4
 else if k < 8 then 0
 else if a.Cap < 1 ∨ 32 < a.Cap then 1
 else if a.Cap < a.List.length then 8
 else Zio a.Kind a.List 0 a.List.length
theorem Zgh {a : Ze} (ha : Zh2 a) {t n b r l : Bool} {s : ByteArray} (hk : ¬ (a.Kind < 1 ∨ 9 < a.Kind)) (hf : Zi7 a.Kind = some s)
   (ho : Zcu s (Int.toNat ((s.size : Int) - (0 : Int)) + 1) false false false false false 0 = some (t, n, b, r, l)) : Zdj a = some (Zrp t n b r l a.Kind a) := by
 unfold Zdj Zrp
 have hw : IntKind.i64.wrap (0 - (2305843009213693952 : Int)) = -2305843009213693952 := by decide
 rw [hf, Zp1 ha.real, hw, show (Int.toNat ((a.List.length : Int) - (0 : Int)) + 1) = a.List.length + 1 by omega]
 have hloop := Zsi ha a.List.length 0 (by omega)
 rw [show ((0 : Nat) : Int) = 0 from rfl] at hloop
 rw [hloop]
 simp only [Option.bind_some]
 rw [if_neg (by simpa using hk), Z6i ha ho]
 simp only [Option.bind_some]
 by_cases h1 : Zg7 t n b r l a = false
 · rw [if_pos h1, if_pos (by simp [h1])]
 · rw [if_neg h1, if_neg (by simpa using h1)]
   by_cases h2 : a.Kind = 1 ∧ (64 : Int) < a.Text.size
   · rw [if_pos h2, if_pos (by simpa using h2)]
   · rw [if_neg h2, if_neg (by simpa using h2)]
     by_cases h3 : a.Kind = 4 ∧ (a.Low < -2305843009213693952 ∨ 2305843009213693952 < a.High ∨ a.Num < a.Low ∨ a.High < a.Num)
     · rw [if_pos h3, if_pos (by simpa [or_assoc] using h3)]
     · rw [if_neg h3, if_neg (by simpa [or_assoc] using h3)]
       by_cases h4 : a.Real = Zcc a.Real
       · rw [if_neg (show ¬ (a.Real ≠ Zcc a.Real) from fun h => h h4), decide_eq_true h4]
         simp only [Bool.not_true, Bool.false_eq_true, if_false]
         by_cases h7 : a.Kind < 8
         · rw [if_pos h7, if_pos (by simpa using h7)]
         · rw [if_neg h7, if_neg (by simpa using h7)]
           by_cases h5 : a.Cap < 1 ∨ 32 < a.Cap
           · rw [if_pos h5, if_pos (by simpa using h5)]
           · rw [if_neg h5, if_neg (by simpa using h5)]
             by_cases h6 : a.Cap < a.List.length
             · rw [if_pos h6, if_pos (by simpa using h6)]
             · rw [if_neg h6, if_neg (by simpa using h6)]
               unfold endC
               by_cases h : Zio a.Kind a.List 0 a.List.length = 0 <;> simp [h]
       · rw [if_pos (show a.Real ≠ Zcc a.Real from h4), decide_eq_false h4]
         rfl
theorem Z6j {t n b r l : Bool} {a : Ze} (h : ¬ Zg7 t n b r l a = false) (ht : t = false) : a.Text.size = 0 := by
 subst ht
 have : Zg7 false n b r l a = true := by simpa using h
 unfold Zg7 at this
 simp only [Bool.false_or, Bool.and_eq_true] at this
 have := Zh5.1 this.1.1.1.1
 rw [this]; rfl
theorem D_eq (t n b r l : Bool) (k : Int) (a : Ze) (ht : t = true ↔ k = 1) (hb : b = true ↔ k = 4) (hl : l = false ↔ k < 8) : Zrp t n b r l k a = Zow t n b r l a := by
 unfold Zrp Zow
 by_cases h1 : Zg7 t n b r l a = false
 · rw [if_pos h1, if_pos h1]
 · rw [if_neg h1, if_neg h1]
   have e2 : (k = 1 ∧ (64 : Int) < a.Text.size) ↔ (64 : Int) < a.Text.size := by
     constructor
     · exact fun h => h.2
     · intro h
       refine ⟨ht.1 ?_, h⟩
       cases t
       · have := Z6j h1 rfl; omega
       · rfl
   simp only [e2, hb, hl]
theorem Zl4 {a : Ze} (ha : Zh2 a) : ∃ c, Zee a = some c ∧ Zdj a = some c := by
 by_cases hk : a.Kind ≤ 0 ∨ 10 ≤ a.Kind
 · refine ⟨5, ?_, ?_⟩
   · unfold Zee
     have hs : ∃ s, Zeh a.Kind = some s := by
       have h1 : ¬ a.Kind = 1 := by omega
       have h2 : ¬ a.Kind = 2 := by omega
       have h3 : ¬ a.Kind = 3 := by omega
       have h4 : ¬ a.Kind = 4 := by omega
       have h5 : ¬ a.Kind = 5 := by omega
       have h6 : ¬ a.Kind = 6 := by omega
       have h7 : ¬ a.Kind = 7 := by omega
       have h8 : ¬ a.Kind = 8 := by omega
       have h9 : ¬ a.Kind = 9 := by omega
       exact ⟨⟨false, false, false, false, false⟩, by simp [Zeh, Zj7, Zii, Zj5, h1, h2, h3, h4, h5, h6, h7, h8, h9]⟩
     obtain ⟨s, hs⟩ := hs
     rw [hs]
     simp only [Option.bind_some]
     rw [if_pos (by simpa using hk)]
   · unfold Zdj
     rw [if_pos (by simp; omega)]
 · have hk2 : ¬ (a.Kind < 1 ∨ 9 < a.Kind) := by omega
   have hk' : a.Kind = 1 ∨ a.Kind = 2 ∨ a.Kind = 3 ∨ a.Kind = 4 ∨ a.Kind = 5 ∨ a.Kind = 6 ∨ a.Kind = 7 ∨ a.Kind = 8 ∨ a.Kind = 9 := by omega
   rcases hk' with h | h | h | h | h | h | h | h | h
   · exact ⟨_, Zgf ha hk (by rw [h]; exact Z2n), by rw [Zgh ha hk2 (by rw [h]; kernel_rfl) Z91, D_eq _ _ _ _ _ _ _ (by simp [h]) (by simp [h]) (by simp [h])]⟩
   · exact ⟨_, Zgf ha hk (by rw [h]; exact Z2j), by rw [Zgh ha hk2 (by rw [h]; kernel_rfl) Z4j, D_eq _ _ _ _ _ _ _ (by simp [h]) (by simp [h]) (by simp [h])]⟩
   · exact ⟨_, Zgf ha hk (by rw [h]; exact Z2b), by rw [Zgh ha hk2 (by rw [h]; kernel_rfl) Z4j, D_eq _ _ _ _ _ _ _ (by simp [h]) (by simp [h]) (by simp [h])]⟩
   · exact ⟨_, Zgf ha hk (by rw [h]; exact Z1y), by rw [Zgh ha hk2 (by rw [h]; kernel_rfl) Z8b, D_eq _ _ _ _ _ _ _ (by simp [h]) (by simp [h]) (by simp [h])]⟩
   · exact ⟨_, Zgf ha hk (by rw [h]; exact Z1d), by rw [Zgh ha hk2 (by rw [h]; kernel_rfl) Z0e, D_eq _ _ _ _ _ _ _ (by simp [h]) (by simp [h]) (by simp [h])]⟩
   · exact ⟨_, Zgf ha hk (by rw [h]; exact Z2a), by rw [Zgh ha hk2 (by rw [h]; kernel_rfl) Z0e, D_eq _ _ _ _ _ _ _ (by simp [h]) (by simp [h]) (by simp [h])]⟩
   · exact ⟨_, Zgf ha hk (by rw [h]; exact Z2h), by rw [Zgh ha hk2 (by rw [h]; kernel_rfl) Z0e, D_eq _ _ _ _ _ _ _ (by simp [h]) (by simp [h]) (by simp [h])]⟩
   · exact ⟨_, Zgf ha hk (by rw [h]; exact Z1a), by rw [Zgh ha hk2 (by rw [h]; kernel_rfl) Z4t, D_eq _ _ _ _ _ _ _ (by simp [h]) (by simp [h]) (by simp [h])]⟩
   · exact ⟨_, Zgf ha hk (by rw [h]; exact Z2e), by rw [Zgh ha hk2 (by rw [h]; kernel_rfl) Z4t, D_eq _ _ _ _ _ _ _ (by simp [h]) (by simp [h]) (by simp [h])]⟩
end Go.CL
set_option linter.unusedVariables false
set_option linter.unusedSimpArgs false
namespace Go.CL
open Go
def endB : Bool → Bool ⊕ Unit
 | true => .inr ()
 | false => .inl false
def eqI (x y : Zl) : Bool := sEq x.Name y.Name && decide (keyf x.Score = keyf y.Score)
def eqL : List Zl → List Zl → Bool
 | [], [] => true
 | x :: xs, y :: ys => eqI x y && eqL xs ys
 | _, _ => false
def Zk3 (a b : Ze) : Bool := (a.Kind == b.Kind) && (a.Num == b.Num) && (a.Low == b.Low) && (a.High == b.High) && decide (keyf a.Real = keyf b.Real) && (a.Cap == b.Cap) && sEq a.Text b.Text && eqL a.List b.List
theorem Zu0 : ∀ {a b : List Zl}, eqL a b = true → a.length = b.length
 | [], [], _ => rfl
 | x :: xs, y :: ys, h => by
   simp only [eqL, Bool.and_eq_true] at h
   simp [Zu0 h.2]
 | [], _ :: _, h => by simp [eqL] at h
 | _ :: _, [], h => by simp [eqL] at h
theorem Z3i {x y : Zl} (hx : x.Score < W64) (hy : y.Score < W64) : Ziy x y = some (eqI x y) := by
 unfold Ziy eqI
 rw [Zni hx hy]
 cases sEq x.Name y.Name <;> simp [gd]
theorem Zx0 {a b : List Zl} (ha : ∀ e ∈ a, e.Score < W64) (hb : ∀ e ∈ b, e.Score < W64) (hl : a.length < 4611686018427387904) (he : a.length = b.length) : ∀ (n i : Nat), i + n = a.length →
   Zbp a b (fun y0 y1 => Ziy y0 y1) (n + 1) (i : Int) = some (endB (eqL (a.drop i) (b.drop i)))
 | 0, i, h => by
   rw [Zbp, if_neg (by simp; omega), List.drop_of_length_le (by omega), List.drop_of_length_le (by omega)]
   rfl
 | n + 1, i, h => by
   have h1 : i < a.length := by omega
   have h2 : i < b.length := by omega
   rw [Zbp, if_pos (by simp; omega), Zdc h1, Zdc h2, wr1 (by omega)]
   simp only [Option.bind_some]
   rw [Z3i (ha _ (List.getElem_mem h1)) (hb _ (List.getElem_mem h2)), List.drop_eq_getElem_cons h1, List.drop_eq_getElem_cons h2]
   simp only [Option.bind_some, eqL]
   cases hq : eqI a[i] b[i]
   · simp [endB]
   · simp only [Bool.not_true, Bool.false_eq_true, if_false, Bool.true_and]
     exact Zx0 ha hb hl he n (i + 1) (by omega)
theorem Z63 {a b : List Zl} (ha : ∀ e ∈ a, e.Score < W64) (hb : ∀ e ∈ b, e.Score < W64) (hl : a.length < 4611686018427387904) : Zce a b (fun y0 y1 => Ziy y0 y1) = some (eqL a b) := by
 unfold Zce
 by_cases he : a.length = b.length
 · rw [if_neg (by simp; omega), show (Int.toNat ((a.length : Int) - (0 : Int)) + 1) = a.length + 1 by omega]
   have := Zx0 ha hb hl he a.length 0 (by omega)
   rw [show ((0 : Nat) : Int) = 0 from rfl] at this
   rw [this]
   simp only [List.drop_zero]
   cases eqL a b <;> simp [endB]
 · rw [if_pos (by simp; omega)]
   cases h : eqL a b
   · rfl
   · exact absurd (Zu0 h) he
theorem Z4b {a b : Ze} (ha : Zh2 a) (hb : Zh2 b) : Zme a b = some (Zk3 a b) := by
 unfold Zme Zk3
 rw [Zni ha.real hb.real, Z63 ha.sc hb.sc ha.len]
 generalize (a.Kind == b.Kind) = x1
 generalize (a.Num == b.Num) = x2
 generalize (a.Low == b.Low) = x3
 generalize (a.High == b.High) = x4
 generalize decide (keyf a.Real = keyf b.Real) = x5
 generalize (a.Cap == b.Cap) = x6
 generalize sEq a.Text b.Text = x7
 generalize eqL a.List b.List = x8
 revert x1 x2 x3 x4 x5 x6 x7 x8
 decide
theorem Ztv {a b : Ze} (ha : Zh2 a) (hb : Zh2 b) (he : a.List.length = b.List.length) : ∀ (n i : Nat), i + n = a.List.length →
   Zef a b (n + 1) (i : Int) = some (endB (eqL (a.List.drop i) (b.List.drop i)))
 | 0, i, h => by
   rw [Zef, if_neg (by simp; omega), List.drop_of_length_le (by omega), List.drop_of_length_le (by omega)]
   rfl
 | n + 1, i, h => by
   have h1 : i < a.List.length := by omega
   have h2 : i < b.List.length := by omega
   have hl := ha.len
   have hs1 := ha.sc _ (List.getElem_mem h1)
   have hs2 := hb.sc _ (List.getElem_mem h2)
   rw [Zef, if_pos (by simp; omega), Zdc h1, Zdc h2, wr1 (by omega), List.drop_eq_getElem_cons h1, List.drop_eq_getElem_cons h2]
   simp only [Option.bind_some, eqL, eqI]
   cases hn : sEq a.List[i].Name b.List[i].Name
   · simp [gd, endB]
   · simp only [Bool.not_true, Bool.not_false, gd_t, Option.bind_some]
     rw [Zmh hs1 hs2]
     simp only [Option.bind_some, Bool.false_or, Bool.true_and]
     by_cases hk : keyf a.List[i].Score = keyf b.List[i].Score
     · simp only [hk, decide_true, Bool.not_true, Bool.false_eq_true, if_false, Bool.true_and]
       exact Ztv ha hb he n (i + 1) (by omega)
     · simp [hk, endB]
theorem Zq5 {a b : Ze} (ha : Zh2 a) (hb : Zh2 b) : Zf4 a b = some (Zk3 a b) := by
 unfold Zf4 Zk3
 rw [Zmh ha.real hb.real]
 by_cases he : a.List.length = b.List.length
 · have := Ztv ha hb he a.List.length 0 (by omega)
   rw [show ((0 : Nat) : Int) = 0 from rfl] at this
   rw [show (Int.toNat ((a.List.length : Int) - (0 : Int)) + 1) = a.List.length + 1 by omega, this]
   have hn : ((a.List.length : Int) != (b.List.length : Int)) = false := by simp; omega
   rw [hn]
   simp only [List.drop_zero, bne]
   generalize (a.Kind == b.Kind) = x1
   generalize (a.Num == b.Num) = x2
   generalize (a.Low == b.Low) = x3
   generalize (a.High == b.High) = x4
   generalize decide (keyf a.Real = keyf b.Real) = x5
   generalize (a.Cap == b.Cap) = x6
   generalize sEq a.Text b.Text = x7
   generalize eqL a.List b.List = x8
   clear this hn he
   revert x1 x2 x3 x4 x5 x6 x7 x8
   decide
 · have h8 : eqL a.List b.List = false := by
     cases h : eqL a.List b.List
     · rfl
     · exact absurd (Zu0 h) he
   have hn : ((a.List.length : Int) != (b.List.length : Int)) = true := by simp; omega
   rw [hn, h8]
   simp only [bne, Bool.or_true, Option.bind_some, if_true, Bool.and_false, ite_self]
theorem Zue {a : Ze} (hl : a.List.length ≤ 9223372036854775807) : ∀ (n i : Nat), i + n = a.List.length → ∃ z, Zex a (n + 1) (i : Int) = some z ∧ (z = .inl 1 ∨ z = .inr ())
 | 0, i, h => by
   rw [Zex, if_neg (by simp; omega)]
   exact ⟨_, rfl, .inr rfl⟩
 | n + 1, i, h => by
   rw [Zex, if_pos (by simp; omega), Zdc (by omega), wr1 (by omega)]
   simp only [Option.bind_some]
   split
   · exact ⟨_, rfl, .inl rfl⟩
   · exact Zue hl n (i + 1) (by omega)
theorem Z4v {a : Ze} (hl : a.List.length ≤ 9223372036854775807) : ∃ c, Zhh a = some c ∧ (c = 0 ∨ c = 1) ∧ (c = 0 → a.List.length ≤ 100) := by
 unfold Zhh
 by_cases h : (100 : Int) < a.List.length ∨ (1000 : Int) < a.Text.size
 · rw [if_pos (by simpa using h)]
   exact ⟨1, rfl, .inr rfl, fun h => by cases h⟩
 · rw [if_neg (by simpa using h), show (Int.toNat ((a.List.length : Int) - (0 : Int)) + 1) = a.List.length + 1 by omega]
   obtain ⟨z, hz, hc⟩ := Zue hl a.List.length 0 (by omega)
   rw [show ((0 : Nat) : Int) = 0 from rfl] at hz
   rw [hz]
   rcases hc with rfl | rfl
   · exact ⟨1, rfl, .inr rfl, fun h => by cases h⟩
   · exact ⟨0, rfl, .inl rfl, fun _ => by omega⟩
end Go.CL
set_option linter.unusedVariables false
set_option linter.unusedSimpArgs false
namespace Go.CL
open Go
abbrev KV := ByteArray × Ze
def toL : shelf_nodeT → List KV
 | .nil => []
 | .node k r l rr _ => toL l ++ (k, r) :: toL rr
def Szd : shelf_nodeT → Prop
 | .nil => True
 | .node k r l rr s => Szd l ∧ Szd rr ∧ s = (((toL l).length + (toL rr).length + 1 : Nat) : Int)
def Srt (l : List KV) : Prop := l.Pairwise fun p q => sLt p.1 q.1 = true
theorem Zjb {t : shelf_nodeT} (h : Szd t) : Zco t = some ((toL t).length : Int) := by
 cases t with
 | nil => rfl
 | node k r l rr s =>
   obtain ⟨_, _, h3⟩ := h
   simp [Zco, shelf_nodeT.isNil, shelf_nodeT.un, toL, h3]
   omega
theorem Z55 {k : ByteArray} {x : Ze} {l r : shelf_nodeT} (hl : Szd l) (hr : Szd r) (bl : (toL l).length < 1099511627776) (br : (toL r).length < 1099511627776) :
   Zdq k x l r = some (.node k x l r (((toL l).length + (toL r).length + 1 : Nat) : Int)) := by
 unfold Zdq
 rw [Zjb hl, Zjb hr]
 simp only [Option.bind_some, shelf_node.up]
 rw [wr (x := (toL l).length + (toL r).length) (by omega) (by omega), wr (by omega) (by omega)]
 rfl
theorem Zh8 {k : ByteArray} {x : Ze} {l r : shelf_nodeT} (hl : Szd l) (hr : Szd r) (bl : (toL l).length < 1099511627776) (br : (toL r).length < 1099511627776) :
   ∃ t, Zdq k x l r = some t ∧ Szd t ∧ toL t = toL l ++ (k, x) :: toL r := ⟨_, Z55 hl hr bl br, ⟨hl, hr, rfl⟩, rfl⟩
def Zmv (a b : shelf_nodeT) : Bool := decide (3 * ((toL b).length + 1) < (toL a).length + 1)
theorem Zx4 {a b : shelf_nodeT} (ha : Szd a) (hb : Szd b) (ba : (toL a).length < 1099511627776) (bb : (toL b).length < 1099511627776) : Zh3 a b = some (Zmv a b) := by
 unfold Zh3 Zmv
 rw [Zjb ha, Zjb hb]
 simp only [Option.bind_some]
 rw [wr (x := ((toL b).length : Int) + 1) (by omega) (by omega), wr (x := ((toL a).length : Int) + 1) (by omega) (by omega), wr (by omega) (by omega)]
 congr 1
 apply decide_eq_decide.2
 omega
theorem Ztw {t : shelf_nodeT} (h : 0 < (toL t).length) : ∃ k r l rr s, t = .node k r l rr s := by
 cases t with
 | nil => simp [toL] at h
 | node k r l rr s => exact ⟨k, r, l, rr, s, rfl⟩
theorem Zox {k : ByteArray} {x : Ze} {l r : shelf_nodeT} (hl : Szd l) (hr : Szd r) (bl : (toL l).length < 1099511627776) (br : (toL r).length < 1099511627776) (bs : (toL l).length + (toL r).length + 1 < 1099511627776) :
   ∃ t, Zhv k x l r = some t ∧ Szd t ∧ toL t = toL l ++ (k, x) :: toL r := by
 unfold Zhv
 rw [Zx4 hr hl br bl, Zx4 hl hr bl br]
 simp only [Option.bind_some]
 by_cases h1 : Zmv r l = true
 · have hlen : 0 < (toL r).length := by
     unfold Zmv at h1
     have := of_decide_eq_true h1
     omega
   obtain ⟨rk, rx, rl, rr, rs, rfl⟩ := Ztw hlen
   obtain ⟨s1, s2, s3⟩ := hr
   have e : (toL (shelf_nodeT.node rk rx rl rr rs)).length = (toL rl).length + (toL rr).length + 1 := by simp [toL]; omega
   rw [e] at br bs
   simp only [h1, gd_t, shelf_nodeT.un, Option.bind_some, if_true]
   rw [Zjb s1, Zjb s2]
   simp only [Option.bind_some, Bool.true_and]
   by_cases h2 : (decide (IntKind.i64.wrap (((toL rl).length : Int) + 1) < IntKind.i64.wrap (2 * IntKind.i64.wrap (((toL rr).length : Int) + 1)))) = true
   · rw [if_pos h2]
     obtain ⟨t1, e1, z1, l1⟩ := Zh8 (k := k) (x := x) hl s1 bl (by omega)
     have b1 : (toL t1).length < 1099511627776 := by rw [l1]; simp; omega
     obtain ⟨t2, e2, z2, l2⟩ := Zh8 (k := rk) (x := rx) z1 s2 b1 (by omega)
     exact ⟨t2, by rw [e1]; simp only [Option.bind_some]; rw [e2]; rfl, z2, by rw [l2, l1]; simp [toL]⟩
   · rw [if_neg h2]
     have hlen2 : 0 < (toL rl).length := by
       rw [wr (x := ((toL rr).length : Int) + 1) (by omega) (by omega), wr (x := ((toL rl).length : Int) + 1) (by omega) (by omega), wr (by omega) (by omega)] at h2
       have : ¬ ((toL rl).length : Int) + 1 < 2 * ((toL rr).length + 1) := by simpa using h2
       omega
     obtain ⟨lk, lx, ll, lr, ls, rfl⟩ := Ztw hlen2
     obtain ⟨q1, q2, q3⟩ := s1
     have e' : (toL (shelf_nodeT.node lk lx ll lr ls)).length = (toL ll).length + (toL lr).length + 1 := by simp [toL]; omega
     rw [e'] at br bs
     simp only [shelf_nodeT.un, Option.bind_some]
     obtain ⟨t1, e1, z1, l1⟩ := Zh8 (k := k) (x := x) hl q1 bl (by omega)
     obtain ⟨t2, e2, z2, l2⟩ := Zh8 (k := rk) (x := rx) q2 s2 (by omega) (by omega)
     have b1 : (toL t1).length < 1099511627776 := by rw [l1]; simp; omega
     have b2 : (toL t2).length < 1099511627776 := by rw [l2]; simp; omega
     obtain ⟨t3, e3, z3, l3⟩ := Zh8 (k := lk) (x := lx) z1 z2 b1 b2
     exact ⟨t3, by rw [e1]; simp only [Option.bind_some]; rw [e2]; simp only [Option.bind_some]; rw [e3]; rfl, z3, by rw [l3, l1, l2]; simp [toL]⟩
 · have h1' : Zmv r l = false := by simpa using h1
   simp only [h1', gd_f, Option.bind_some, Bool.false_and, Bool.false_eq_true, if_false]
   by_cases h3 : Zmv l r = true
   · have hlen : 0 < (toL l).length := by
       unfold Zmv at h3
       have := of_decide_eq_true h3
       omega
     obtain ⟨rk, rx, rl, rr, rs, rfl⟩ := Ztw hlen
     obtain ⟨s1, s2, s3⟩ := hl
     have e : (toL (shelf_nodeT.node rk rx rl rr rs)).length = (toL rl).length + (toL rr).length + 1 := by simp [toL]; omega
     rw [e] at bl bs
     simp only [h3, gd_t, shelf_nodeT.un, Option.bind_some, if_true]
     rw [Zjb s2, Zjb s1]
     simp only [Zco, shelf_nodeT.isNil, if_true, Option.bind_some, Bool.true_and]
     by_cases h2 : (decide (IntKind.i64.wrap (((toL rr).length : Int) + 1) < IntKind.i64.wrap (2 * IntKind.i64.wrap (((toL rl).length : Int) + 1)))) = true
     · rw [if_pos h2]
       obtain ⟨t1, e1, z1, l1⟩ := Zh8 (k := k) (x := x) s2 hr (by omega) br
       have b1 : (toL t1).length < 1099511627776 := by rw [l1]; simp; omega
       obtain ⟨t2, e2, z2, l2⟩ := Zh8 (k := rk) (x := rx) s1 z1 (by omega) b1
       exact ⟨t2, by rw [e1]; simp only [Option.bind_some]; rw [e2]; rfl, z2, by rw [l2, l1]; simp [toL]⟩
     · rw [if_neg h2]
       have hlen2 : 0 < (toL rr).length := by
         rw [wr (x := ((toL rl).length : Int) + 1) (by omega) (by omega), wr (x := ((toL rr).length : Int) + 1) (by omega) (by omega), wr (by omega) (by omega)] at h2
         have : ¬ ((toL rr).length : Int) + 1 < 2 * ((toL rl).length + 1) := by simpa using h2
         omega
       obtain ⟨lk, lx, ll, lr, ls, rfl⟩ := Ztw hlen2
       obtain ⟨q1, q2, q3⟩ := s2
       have e' : (toL (shelf_nodeT.node lk lx ll lr ls)).length = (toL ll).length + (toL lr).length + 1 := by simp [toL]; omega
       rw [e'] at bl bs
       simp only [shelf_nodeT.un, Option.bind_some]
       obtain ⟨t1, e1, z1, l1⟩ := Zh8 (k := rk) (x := rx) s1 q1 (by omega) (by omega)
       obtain ⟨t2, e2, z2, l2⟩ := Zh8 (k := k) (x := x) q2 hr (by omega) br
       have b1 : (toL t1).length < 1099511627776 := by rw [l1]; simp; omega
       have b2 : (toL t2).length < 1099511627776 := by rw [l2]; simp; omega
       obtain ⟨t3, e3, z3, l3⟩ := Zh8 (k := lk) (x := lx) z1 z2 b1 b2
       exact ⟨t3, by rw [e1]; simp only [Option.bind_some]; rw [e2]; simp only [Option.bind_some]; rw [e3]; rfl, z3, by rw [l3, l1, l2]; simp [toL]⟩
   · have h3' : Zmv l r = false := by simpa using h3
     simp only [h3', gd_f, Option.bind_some, Bool.false_and, Bool.false_eq_true, if_false]
     obtain ⟨t1, e1, z1, l1⟩ := Zh8 (k := k) (x := x) hl hr bl br
     exact ⟨t1, by rw [e1]; simp [Zco, shelf_nodeT.isNil, shelf_nodeT.un, Option.bind_some, gd], z1, l1⟩
end Go.CL
set_option linter.unusedVariables false
set_option linter.unusedSimpArgs false
namespace Go.CL
open Go
def insL (k : ByteArray) (x : Ze) : List KV → List KV
 | [] => [(k, x)]
 | p :: l => if sLt k p.1 then (k, x) :: p :: l else if sEq k p.1 then (k, x) :: l else p :: insL k x l
def delL (k : ByteArray) : List KV → List KV
 | [] => []
 | p :: l => if sEq k p.1 then l else p :: delL k l
theorem Zpy (k : ByteArray) (x : Ze) : ∀ l : List KV, (insL k x l).length ≤ l.length + 1
 | [] => by simp [insL]
 | p :: l => by
   have := Zpy k x l
   simp only [insL]
   split
   · simp
   · split <;> simp <;> omega
theorem Zsy (k : ByteArray) : ∀ l : List KV, (delL k l).length ≤ l.length
 | [] => by simp [delL]
 | p :: l => by
   have := Zsy k l
   simp only [delL]
   split <;> simp <;> omega
theorem Zzv {k : ByteArray} {x : Ze} {p : KV} {B : List KV} (h : sLt k p.1 = true) : ∀ A : List KV, insL k x (A ++ p :: B) = insL k x A ++ p :: B
 | [] => by simp [insL, h]
 | q :: A => by
   simp only [List.cons_append, insL]
   split
   · rfl
   · split
     · rfl
     · rw [Zzv h A]; rfl
theorem Zrb {k : ByteArray} {x : Ze} {B : List KV} : ∀ A : List KV, (∀ q ∈ A, sLt q.1 k = true) → insL k x (A ++ B) = A ++ insL k x B
 | [], _ => rfl
 | q :: A, h => by
   have hq := h q (by simp)
   have h1 : sLt k q.1 = false := Zss hq
   have h2 : sEq k q.1 = false := Zeo.2 (fun e => Zlz hq e.symm)
   simp only [List.cons_append, insL, h1, h2, Bool.false_eq_true, if_false]
   rw [Zrb A fun q hq => h q (by simp [hq])]
theorem Z5o {k : ByteArray} {x : Ze} {p : KV} {B : List KV} (h : k = p.1) : insL k x (p :: B) = (k, x) :: B := by
 simp [insL, h, Zlk, Ze8]
theorem Z52 {k : ByteArray} {x : Ze} {p : KV} {B : List KV} (h : sLt p.1 k = true) : insL k x (p :: B) = p :: insL k x B := by
 have h1 : sLt k p.1 = false := Zss h
 have h2 : sEq k p.1 = false := Zeo.2 (fun e => Zlz h e.symm)
 simp [insL, h1, h2]
theorem Zpp {k : ByteArray} : ∀ l : List KV, (∀ q ∈ l, q.1 ≠ k) → delL k l = l
 | [], _ => rfl
 | p :: l, h => by
   have : sEq k p.1 = false := Zeo.2 (fun e => h p (by simp) e.symm)
   simp only [delL, this, Bool.false_eq_true, if_false]
   rw [Zpp l fun q hq => h q (by simp [hq])]
theorem Zzu {k : ByteArray} {p : KV} {B : List KV} (h : sLt k p.1 = true) (hB : ∀ q ∈ B, sLt p.1 q.1 = true) : ∀ A : List KV, delL k (A ++ p :: B) = delL k A ++ p :: B
 | [] => by
   have h1 : sEq k p.1 = false := Zeo.2 (Zlz h)
   simp only [List.nil_append, delL, h1, Bool.false_eq_true, if_false]
   rw [Zpp B fun q hq e => by
     have := Zf7 h (hB q hq)
     rw [e, Zlk] at this; cases this]
 | q :: A => by
   simp only [List.cons_append, delL]
   split
   · rfl
   · rw [Zzu h hB A]; rfl
theorem Zqo {k : ByteArray} {B : List KV} : ∀ A : List KV, (∀ q ∈ A, sLt q.1 k = true) → delL k (A ++ B) = A ++ delL k B
 | [], _ => rfl
 | q :: A, h => by
   have hq := h q (by simp)
   have h2 : sEq k q.1 = false := Zeo.2 (fun e => Zlz hq e.symm)
   simp only [List.cons_append, delL, h2, Bool.false_eq_true, if_false]
   rw [Zqo A fun q hq => h q (by simp [hq])]
theorem Zuv {A B : List KV} {p : KV} (h : Srt (A ++ p :: B)) : Srt A ∧ Srt B ∧ (∀ q ∈ A, sLt q.1 p.1 = true) ∧ (∀ q ∈ B, sLt p.1 q.1 = true) := by
 obtain ⟨h1, h2, h3⟩ := List.pairwise_append.1 h
 obtain ⟨h4, h5⟩ := List.pairwise_cons.1 h2
 exact ⟨h1, h5, fun q hq => h3 q hq p (by simp), h4⟩
theorem Zo9 {k : ByteArray} {x : Ze} : ∀ {l : List KV} {q : KV}, q ∈ insL k x l → q = (k, x) ∨ q ∈ l
 | [], q, h => by simp [insL] at h; exact .inl h
 | p :: l, q, h => by
   simp only [insL] at h
   split at h
   · rcases List.mem_cons.1 h with h | h
     · exact .inl h
     · exact .inr h
   · split at h
     · rcases List.mem_cons.1 h with h | h
       · exact .inl h
       · exact .inr (List.mem_cons_of_mem _ h)
     · rcases List.mem_cons.1 h with h | h
       · exact .inr (by simp [h])
       · rcases Zo9 h with h | h
         · exact .inl h
         · exact .inr (List.mem_cons_of_mem _ h)
theorem Zrj {k : ByteArray} : ∀ {l : List KV} {q : KV}, q ∈ delL k l → q ∈ l
 | [], q, h => by simp [delL] at h
 | p :: l, q, h => by
   simp only [delL] at h
   split at h
   · exact List.mem_cons_of_mem _ h
   · rcases List.mem_cons.1 h with h | h
     · simp [h]
     · exact List.mem_cons_of_mem _ (Zrj h)
theorem Zzw {k : ByteArray} {x : Ze} : ∀ {l : List KV}, Srt l → Srt (insL k x l)
 | [], _ => List.pairwise_singleton ..
 | p :: l, h => by
   obtain ⟨h1, h2⟩ := List.pairwise_cons.1 h
   simp only [insL]
   split
   · rename_i hk
     refine List.pairwise_cons.2 ⟨fun q hq => ?_, h⟩
     rcases List.mem_cons.1 hq with rfl | hq
     · exact hk
     · exact Zf7 hk (h1 q hq)
   · rename_i hk
     split
     · rename_i he
       have he := Zh5.1 he
       exact List.pairwise_cons.2 ⟨fun q hq => by rw [he]; exact h1 q hq, h2⟩
     · rename_i he
       have hlt : sLt p.1 k = true := Zmn (by simpa using hk) (fun e => he (Zh5.2 e))
       refine List.pairwise_cons.2 ⟨fun q hq => ?_, Zzw h2⟩
       rcases Zo9 hq with rfl | hq
       · exact hlt
       · exact h1 q hq
theorem Zy7 {k : ByteArray} : ∀ {l : List KV}, Srt l → Srt (delL k l)
 | [], h => h
 | p :: l, h => by
   obtain ⟨h1, h2⟩ := List.pairwise_cons.1 h
   simp only [delL]
   split
   · exact h2
   · exact List.pairwise_cons.2 ⟨fun q hq => h1 q (Zrj hq), Zy7 h2⟩
theorem Zya : ∀ (n : Nat) (t : shelf_nodeT) (k : ByteArray) (x : Ze), t.hh < n → Szd t → Srt (toL t) → (toL t).length + 2 < 1099511627776 →
   ∃ t', Zfd n t k x = some t' ∧ Szd t' ∧ toL t' = insL k x (toL t)
 | 0, t, k, x, h, _, _, _ => by omega
 | n + 1, .nil, k, x, _, _, _, _ => by
   obtain ⟨t1, e1, z1, l1⟩ := Zh8 (k := k) (x := x) (l := .nil) (r := .nil) trivial trivial (by simp [toL]) (by simp [toL])
   refine ⟨t1, ?_, z1, by rw [l1]; rfl⟩
   simp only [Zfd, Zib, shelf_nodeT.isNil, if_true]
   rw [e1]; rfl
 | n + 1, .node nk nx l r s, k, x, hh, hz, hs, hb => by
   obtain ⟨z1, z2, z3⟩ := hz
   simp only [toL] at hs hb
   obtain ⟨s1, s2, sA, sB⟩ := Zuv hs
   have hlen : (toL l ++ (nk, nx) :: toL r).length = (toL l).length + (toL r).length + 1 := by simp; omega
   rw [hlen] at hb
   simp only [shelf_nodeT.hh] at hh
   simp only [Zfd, Zib, shelf_nodeT.isNil, shelf_nodeT.un, Bool.false_eq_true, if_false, Option.bind_some]
   by_cases h1 : sLt k nk = true
   · rw [if_pos h1]
     obtain ⟨t1, e1, y1, l1⟩ := Zya n l k x (by omega) z1 s1 (by omega)
     have b1 := Zpy k x (toL l)
     rw [← l1] at b1
     obtain ⟨t2, e2, y2, l2⟩ := Zox (k := nk) (x := nx) y1 z2 (by omega) (by omega) (by omega)
     refine ⟨t2, by rw [e1]; simp only [Option.bind_some]; rw [e2]; rfl, y2, ?_⟩
     rw [l2, l1]; simp only [toL]; rw [Zzv (by exact h1)]
   · rw [if_neg h1]
     by_cases h2 : k = nk
     · subst h2
       have he : (!(sLt k k || sEq k k)) = false := by simp [Ze8]
       rw [he]
       simp only [Bool.false_eq_true, if_false]
       obtain ⟨t1, e1, y1, l1⟩ := Zh8 (k := k) (x := x) z1 z2 (by omega) (by omega)
       refine ⟨t1, by rw [e1]; rfl, y1, ?_⟩
       rw [l1]; simp only [toL]
       rw [Zrb _ (fun q hq => sA q hq), Z5o rfl]
     · have h3 : sLt nk k = true := Zmn (by simpa using h1) h2
       have he : (!(sLt k nk || sEq k nk)) = true := by simp [Zeo.2 h2]; simpa using h1
       rw [he]
       simp only [if_true]
       obtain ⟨t1, e1, y1, l1⟩ := Zya n r k x (by omega) z2 s2 (by omega)
       have b1 := Zpy k x (toL r)
       rw [← l1] at b1
       obtain ⟨t2, e2, y2, l2⟩ := Zox (k := nk) (x := nx) z1 y1 (by omega) (by omega) (by omega)
       refine ⟨t2, by rw [e1]; simp only [Option.bind_some]; rw [e2]; rfl, y2, ?_⟩
       rw [l2, l1]; simp only [toL]
       rw [Zrb _ (fun q hq => Zf7 (sA q hq) h3), Z52 h3]
theorem Zzg {t : shelf_nodeT} {k : ByteArray} {x : Ze} (hz : Szd t) (hs : Srt (toL t)) (hb : (toL t).length + 2 < 1099511627776) :
   ∃ t', Zmi t k x = some t' ∧ Szd t' ∧ toL t' = insL k x (toL t) := Zya _ t k x (Nat.lt_succ_self _) hz hs hb
theorem Zx7 : ∀ (n : Nat) (t : shelf_nodeT), t.hh < n → t.isNil = false → ∃ t' k x l r s B, Ze6 n t = some t' ∧ t' = .node k x l r s ∧ toL t = (k, x) :: B
 | 0, t, h, _ => by omega
 | n + 1, .nil, _, h => by cases h
 | n + 1, .node k x l r s, hh, _ => by
   simp only [shelf_nodeT.hh] at hh
   simp only [Ze6, shelf_nodeT.un, Option.bind_some]
   cases l with
   | nil => exact ⟨_, k, x, .nil, r, s, toL r, rfl, rfl, rfl⟩
   | node k2 x2 l2 r2 s2 =>
     obtain ⟨t', k', x', l', r', s', B, e1, e2, e3⟩ := Zx7 n (.node k2 x2 l2 r2 s2) (by omega) rfl
     exact ⟨t', k', x', l', r', s', B ++ (k, x) :: toL r, by simp [shelf_nodeT.isNil]; exact e1, e2, by
       simp only [toL] at e3 ⊢
       rw [e3]; rfl⟩
theorem Ztm : ∀ (n : Nat) (t : shelf_nodeT) (k : ByteArray), t.hh < n → Szd t → Srt (toL t) → (toL t).length + 2 < 1099511627776 →
   ∃ t', Zf5 n t k = some t' ∧ Szd t' ∧ toL t' = delL k (toL t)
 | 0, t, k, h, _, _, _ => by omega
 | n + 1, .nil, k, _, _, _, _ => ⟨.nil, rfl, trivial, rfl⟩
 | n + 1, .node nk nx l r s, k, hh, hz, hs, hb => by
   obtain ⟨z1, z2, z3⟩ := hz
   simp only [toL] at hs hb
   obtain ⟨s1, s2, sA, sB⟩ := Zuv hs
   have hlen : (toL l ++ (nk, nx) :: toL r).length = (toL l).length + (toL r).length + 1 := by simp; omega
   rw [hlen] at hb
   simp only [shelf_nodeT.hh] at hh
   simp only [Zf5, Zj3, shelf_nodeT.isNil, shelf_nodeT.un, Bool.false_eq_true, if_false, Option.bind_some]
   by_cases h1 : sLt k nk = true
   · rw [if_pos h1]
     obtain ⟨t1, e1, y1, l1⟩ := Ztm n l k (by omega) z1 s1 (by omega)
     have b1 := Zsy k (toL l)
     rw [← l1] at b1
     obtain ⟨t2, e2, y2, l2⟩ := Zox (k := nk) (x := nx) y1 z2 (by omega) (by omega) (by omega)
     refine ⟨t2, by rw [e1]; simp only [Option.bind_some]; rw [e2]; rfl, y2, ?_⟩
     rw [l2, l1]; simp only [toL]; rw [Zzu (by exact h1) (fun q hq => sB q hq)]
   · rw [if_neg h1]
     by_cases h2 : k = nk
     · subst h2
       have he : (!(sLt k k || sEq k k)) = false := by simp [Ze8]
       rw [he]
       simp only [Bool.false_eq_true, if_false]
       have hdel : delL k (toL l ++ (k, nx) :: toL r) = toL l ++ toL r := by
         rw [Zqo _ (fun q hq => sA q hq)]
         simp [delL, Ze8]
       cases hl : l with
       | nil => exact ⟨r, by simp [shelf_nodeT.isNil, shelf_nodeT.un], z2, by show toL r = delL k (toL .nil ++ (k, nx) :: toL r); rw [← hl, hdel, hl]; rfl⟩
       | node k2 x2 l2 r2 q2 =>
         cases hr : r with
         | nil => exact ⟨l, by simp [shelf_nodeT.isNil, shelf_nodeT.un, hl], z1, by rw [← hl, ← hr]; show toL l = delL k (toL l ++ (k, nx) :: toL r); rw [hdel, hr]; simp [toL]⟩
         | node k3 x3 l3 r3 q3 =>
           rw [← hl, ← hr]
           have hn : r.isNil = false := by rw [hr]; rfl
           have hn1 : l.isNil = false := by rw [hl]; rfl
           obtain ⟨t', k', x', l', r', s', B, e1, e2, e3⟩ := Zx7 (r.hh + 1) r (Nat.lt_succ_self _) hn
           subst e2
           have hf : Zid r = some (.node k' x' l' r' s') := by
             unfold Zid; rw [e1]; rfl
           obtain ⟨t1, c1, y1, l1⟩ := Ztm n r k' (by omega) z2 s2 (by omega)
           have hB : toL t1 = B := by rw [l1, e3]; simp [delL, Ze8]
           have hBl : B.length + 1 = (toL r).length := by rw [e3]; simp
           obtain ⟨t2, c2, y2, l2⟩ := Zox (k := k') (x := x') z1 y1 (by omega) (by rw [hB]; omega) (by rw [hB]; omega)
           refine ⟨t2, ?_, y2, ?_⟩
           · simp only [hf, Option.bind_some, shelf_nodeT.un, c1, c2]
             show (if l.isNil = true then some r else if r.isNil = true then some l else some t2) = some t2
             rw [hn, hn1]; rfl
           · show toL t2 = delL k (toL l ++ (k, nx) :: toL r)
             rw [hdel, l2, hB, e3]
     · have h3 : sLt nk k = true := Zmn (by simpa using h1) h2
       have he : (!(sLt k nk || sEq k nk)) = true := by simp [Zeo.2 h2]; simpa using h1
       rw [he]
       simp only [if_true]
       obtain ⟨t1, e1, y1, l1⟩ := Ztm n r k (by omega) z2 s2 (by omega)
       have b1 := Zsy k (toL r)
       rw [← l1] at b1
       obtain ⟨t2, e2, y2, l2⟩ := Zox (k := nk) (x := nx) z1 y1 (by omega) (by omega) (by omega)
       refine ⟨t2, by rw [e1]; simp only [Option.bind_some]; rw [e2]; rfl, y2, ?_⟩
       rw [l2, l1]; simp only [toL]
       rw [Zqo _ (fun q hq => Zf7 (sA q hq) h3)]
       simp [delL, Zeo.2 h2]
theorem Z5s {t : shelf_nodeT} {k : ByteArray} (hz : Szd t) (hs : Srt (toL t)) (hb : (toL t).length + 2 < 1099511627776) :
   ∃ t', Zmd t k = some t' ∧ Szd t' ∧ toL t' = delL k (toL t) := Ztm _ t k (Nat.lt_succ_self _) hz hs hb
end Go.CL
set_option linter.unusedVariables false
set_option linter.unusedSimpArgs false
namespace Go.CL
open Go
def lk (k : ByteArray) : List KV → Option Ze
 | [] => none
 | p :: l => if sEq k p.1 then some p.2 else lk k l
def rk (k : ByteArray) : List KV → Nat
 | [] => 0
 | p :: l => if sLt p.1 k then rk k l + 1 else 0
theorem Zs2 {k : ByteArray} : ∀ {l : List KV}, (∀ q ∈ l, q.1 ≠ k) → lk k l = none
 | [], _ => rfl
 | p :: l, h => by
   have : sEq k p.1 = false := Zeo.2 (fun e => h p (by simp) e.symm)
   simp only [lk, this, Bool.false_eq_true, if_false]
   exact Zs2 fun q hq => h q (by simp [hq])
theorem Z4s {k : ByteArray} {p : KV} {B : List KV} (h : sLt k p.1 = true) (hB : ∀ q ∈ B, sLt p.1 q.1 = true) : ∀ A : List KV, lk k (A ++ p :: B) = lk k A
 | [] => by
   have h1 : sEq k p.1 = false := Zeo.2 (Zlz h)
   simp only [List.nil_append, lk, h1, Bool.false_eq_true, if_false]
   exact Zs2 fun q hq e => by
     have := Zf7 h (hB q hq)
     rw [e, Zlk] at this; cases this
 | q :: A => by
   simp only [List.cons_append, lk]
   split
   · rfl
   · exact Z4s h hB A
theorem Zu7 {k : ByteArray} {B : List KV} : ∀ A : List KV, (∀ q ∈ A, sLt q.1 k = true) → lk k (A ++ B) = lk k B
 | [], _ => rfl
 | q :: A, h => by
   have hq := h q (by simp)
   have h2 : sEq k q.1 = false := Zeo.2 (fun e => Zlz hq e.symm)
   simp only [List.cons_append, lk, h2, Bool.false_eq_true, if_false]
   exact Zu7 A fun q hq => h q (by simp [hq])
theorem Zv9 (k : ByteArray) : ∀ l : List KV, rk k l ≤ l.length
 | [] => by simp [rk]
 | p :: l => by
   have := Zv9 k l
   simp only [rk]
   split <;> simp <;> omega
def Cl (x : Ze) : Prop := x.List.length ≤ 1000
theorem Zpm {x : Ze} (h : Cl x) : Zfs x = some x := by
 unfold Zfs Zb2
 unfold Cl at h
 rw [if_pos (by omega)]
 rfl
abbrev zrec : Ze := { Kind := 0, Num := 0, Low := 0, High := 0, Real := 0, Cap := 0, Text := ByteArray.empty, List := [] }
def getR : Option Ze → Ze × Bool
 | some r => (r, true)
 | none => (zrec, false)
def getE (x : Ze) : Option Ze → (Ze × Bool) ⊕ Ze
 | some r => .inl (r, true)
 | none => .inr x
theorem Zsz (k : ByteArray) (x : Ze) : ∀ (n : Nat) (t : shelf_nodeT), t.hh < n → Srt (toL t) → (∀ q ∈ toL t, Cl q.2) → Zdw k n x t = some (getE x (lk k (toL t)))
 | 0, t, h, _, _ => by omega
 | n + 1, .nil, _, _, _ => rfl
 | n + 1, .node nk nx l r s, hh, hs, hc => by
   simp only [toL] at hs hc
   obtain ⟨s1, s2, sA, sB⟩ := Zuv hs
   simp only [shelf_nodeT.hh] at hh
   simp only [Zdw, shelf_nodeT.isNil, shelf_nodeT.un, Bool.not_false, if_true, Option.bind_some, Zha, toL]
   by_cases h1 : sLt k nk = true
   · rw [if_pos h1, Zsz k x n l (by omega) s1 (fun q hq => hc q (by simp [hq])), Z4s (by exact h1) (fun q hq => sB q hq)]
   · rw [if_neg h1]
     by_cases h2 : k = nk
     · subst h2
       have he : (!(sLt k k || sEq k k)) = false := by simp [Ze8]
       rw [he]
       simp only [Bool.false_eq_true, if_false]
       rw [Zpm (hc (k, nx) (by simp)), Zu7 _ (fun q hq => sA q hq)]
       simp [lk, Ze8, getE]
     · have h3 : sLt nk k = true := Zmn (by simpa using h1) h2
       have he : (!(sLt k nk || sEq k nk)) = true := by simp [Zeo.2 h2]; simpa using h1
       rw [he]
       simp only [if_true]
       rw [Zsz k x n r (by omega) s2 (fun q hq => hc q (by simp [hq])), Zu7 _ (fun q hq => Zf7 (sA q hq) h3)]
       simp [lk, Zeo.2 h2]
theorem Z7j {s : Zq} {k : ByteArray} (hs : Srt (toL s.top)) (hc : ∀ q ∈ toL s.top, Cl q.2) : Zft s k = some (getR (lk k (toL s.top))) := by
 unfold Zft
 rw [Zsz k _ _ _ (Nat.lt_succ_self _) hs hc]
 cases lk k (toL s.top) <;> rfl
def atE (x : Ze) : Option KV → (ByteArray × Ze × Bool) ⊕ Ze
 | some p => .inl (p.1, p.2, true)
 | none => .inr x
theorem Z0s {α : Type} {A B : List α} {i : Int} (h : i < A.length) : idx (A ++ B) i = idx A i := by
 unfold idx
 split
 · rw [List.getElem?_append_left (by omega)]
 · rfl
theorem Zye {α : Type} {A B : List α} {p : α} : idx (A ++ p :: B) (A.length : Int) = some p := by
 rw [idxn]; simp
theorem Z0a {α : Type} {A B : List α} {p : α} {i : Int} (h : (A.length : Int) < i) : idx (A ++ p :: B) i = idx B (i - (A.length + 1)) := by
 unfold idx
 rw [if_pos (by omega), if_pos (by omega), List.getElem?_append_right (by omega)]
 rw [show i.toNat - A.length = (i - (A.length + 1)).toNat + 1 by omega, List.getElem?_cons_succ]
theorem Zut (x : Ze) : ∀ (n : Nat) (t : shelf_nodeT) (i : Int), t.hh < n → Szd t → (toL t).length + 2 < 1099511627776 → -1099511627776 < i → i < 1099511627776 → (∀ q ∈ toL t, Cl q.2) → Zdr n i x t = some (atE x (idx (toL t) i))
 | 0, t, i, h, _, _, _, _, _ => by omega
 | n + 1, .nil, i, _, _, _, _, _, _ => by
   simp only [Zdr, shelf_nodeT.isNil, toL]
   have hn : idx ([] : List KV) i = none := by
     unfold idx
     split <;> simp
   rw [hn]
   rfl
 | n + 1, .node nk nx l r s, i, hh, hz, hb, i1, i2, hc => by
   obtain ⟨z1, z2, z3⟩ := hz
   simp only [toL] at hb hc
   have hlen : (toL l ++ (nk, nx) :: toL r).length = (toL l).length + (toL r).length + 1 := by simp; omega
   rw [hlen] at hb
   simp only [shelf_nodeT.hh] at hh
   simp only [Zdr, shelf_nodeT.isNil, shelf_nodeT.un, Bool.not_false, if_true, Option.bind_some, Zho, toL]
   rw [Zjb z1]
   simp only [Option.bind_some]
   by_cases h1 : i < (toL l).length
   · rw [if_pos (by simpa using h1), Zut x n l i (by omega) z1 (by omega) i1 i2 (fun q hq => hc q (by simp [hq])), Z0s h1]
   · rw [if_neg (by simpa using h1)]
     by_cases h2 : ((toL l).length : Int) < i
     · rw [if_pos (by simpa using h2), wr (x := ((toL l).length : Int) + 1) (by omega) (by omega), wr (by omega) (by omega), Zut x n r _ (by omega) z2 (by omega) (by omega) (by omega) (fun q hq => hc q (by simp [hq])), Z0a h2]
     · rw [if_neg (by simpa using h2), Zpm (hc (nk, nx) (by simp))]
       have : i = (toL l).length := by omega
       subst this
       rw [Zye]; rfl
def atR : Option KV → ByteArray × Ze × Bool
 | some p => (p.1, p.2, true)
 | none => (⟨#[]⟩, zrec, false)
theorem Z92 {s : Zq} {i : Int} (hz : Szd s.top) (hb : (toL s.top).length + 2 < 1099511627776) (i1 : -1099511627776 < i) (i2 : i < 1099511627776) (hc : ∀ q ∈ toL s.top, Cl q.2) : Zjr s i = some (atR (idx (toL s.top) i)) := by
 unfold Zjr
 rw [Zut _ _ _ _ (Nat.lt_succ_self _) hz hb i1 i2 hc]
 cases idx (toL s.top) i <;> rfl
theorem Znm {k : ByteArray} (x : Ze) : ∀ {l : List KV}, Srt l →
   (∃ p, l[rk k l]? = some p ∧ p.1 = k ∧ lk k l = some p.2 ∧ insL k x l = l.take (rk k l) ++ (k, x) :: l.drop (rk k l + 1) ∧ delL k l = l.take (rk k l) ++ l.drop (rk k l + 1)) ∨
   ((∀ p, l[rk k l]? = some p → p.1 ≠ k) ∧ lk k l = none ∧ insL k x l = l.take (rk k l) ++ (k, x) :: l.drop (rk k l) ∧ delL k l = l)
 | [], _ => .inr ⟨fun p h => by simp at h, rfl, rfl, rfl⟩
 | p :: l, hs => by
   obtain ⟨h1, h2⟩ := List.pairwise_cons.1 hs
   by_cases h : sLt p.1 k = true
   · have e1 : sLt k p.1 = false := Zss h
     have e2 : sEq k p.1 = false := Zeo.2 (fun e => Zlz h e.symm)
     simp only [rk, h, if_true, lk, insL, delL, e1, e2, Bool.false_eq_true, if_false, List.getElem?_cons_succ, List.take_succ_cons, List.drop_succ_cons]
     rcases Znm x h2 with ⟨q, a1, a2, a3, a4, a5⟩ | ⟨a1, a2, a3, a4⟩
     · exact .inl ⟨q, a1, a2, a3, by rw [a4]; rfl, by rw [a5]; rfl⟩
     · exact .inr ⟨a1, a2, by rw [a3]; rfl, by rw [a4]⟩
   · have h' : sLt p.1 k = false := by simpa using h
     simp only [rk, h', Bool.false_eq_true, if_false]
     by_cases he : k = p.1
     · left
       exact ⟨p, rfl, he.symm, by simp [lk, he, Ze8], by simp [insL, he, Zlk, Ze8], by simp [delL, he, Ze8]⟩
     · right
       have hlt : sLt k p.1 = true := Zmn h' (fun e => he e.symm)
       have hne : ∀ q ∈ l, q.1 ≠ k := fun q hq e => by
         have := Zf7 hlt (h1 q hq)
         rw [e, Zlk] at this; cases this
       refine ⟨fun q hq e => ?_, ?_, by simp [insL, hlt], ?_⟩
       · simp at hq; subst hq; exact he e.symm
       · simp only [lk, Zeo.2 he, Bool.false_eq_true, if_false]; exact Zs2 hne
       · simp only [delL, Zeo.2 he, Bool.false_eq_true, if_false]; rw [Zpp l hne]
end Go.CL
set_option linter.unusedVariables false
set_option linter.unusedSimpArgs false
namespace Go.CL
open Go
def kv (p : Z9) : KV := (p.Key, p.Rec)
def pl (t : Zj) : List KV := t.L.map kv
theorem Zn3 (t : Zj) (i : Nat) : (pl t)[i]? = (t.L[i]?).map kv := by simp [pl]
theorem Zj9 (t : Zj) : (pl t).length = t.L.length := by simp [pl]
theorem Zvj {t : Zj} {k : ByteArray} (hb : t.L.length < 1099511627776) : ∀ (n i : Nat), i + n = t.L.length →
   Zc4 t k (n + 1) (i : Int) = some ((i + rk k ((pl t).drop i) : Nat) : Int)
 | 0, i, h => by
   have hd : decide ((i : Int) < (t.L.length : Int)) = false := by simp; omega
   rw [Zc4, hd, List.drop_of_length_le (by rw [Zj9]; omega)]
   simp [gd, rk]
 | n + 1, i, h => by
   have hd : decide ((i : Int) < (t.L.length : Int)) = true := by simp; omega
   have hi : i < t.L.length := by omega
   have hi' : i < (pl t).length := by rw [Zj9]; exact hi
   rw [Zc4, hd, Zdc hi, List.drop_eq_getElem_cons hi', wr1 (by omega)]
   have hg : (pl t)[i] = kv t.L[i] := by simp [pl]
   rw [hg]
   simp only [gd_t, Option.bind_some, Bool.true_and, rk]
   by_cases hk : sLt t.L[i].Key k = true
   · have hk' : sLt (kv t.L[i]).1 k = true := hk
     rw [if_pos hk, if_pos hk', Zvj hb n (i + 1) (by omega)]
     congr 2; omega
   · have hk' : ¬ sLt (kv t.L[i]).1 k = true := hk
     rw [if_neg hk, if_neg hk']; rfl
theorem Zta {t : Zj} {k : ByteArray} (hb : t.L.length < 1099511627776) : Zd9 t k = some (rk k (pl t) : Int) := by
 unfold Zd9
 have := Zvj (k := k) hb t.L.length 0 (by omega)
 rw [show ((0 : Nat) : Int) = 0 from rfl] at this
 rw [show (Int.toNat ((t.L.length : Int) - (0 : Int)) + 1) = t.L.length + 1 by omega, this]
 simp
structure Rel (s : Zq) (t : Zj) (n : Nat) : Prop where
 top : toL s.top = pl t
 sz : Szd s.top
 srt : Srt (pl t)
 len : t.L.length ≤ n
 room : s.room = t.Room
 ok : ∀ q ∈ pl t, Zh2 q.2 ∧ q.2.List.length ≤ 100
theorem Rel.cl {s : Zq} {t : Zj} {n : Nat} (h : Rel s t n) : ∀ q ∈ toL s.top, Cl q.2 := fun q hq => by
 rw [h.top] at hq
 have := (h.ok q hq).2
 unfold Cl; omega
theorem Rel.mono {s : Zq} {t : Zj} {n m : Nat} (h : Rel s t n) (hm : n ≤ m) : Rel s t m := ⟨h.top, h.sz, h.srt, Nat.le_trans h.len hm, h.room, h.ok⟩
theorem Rel.tl {s : Zq} {t : Zj} {n : Nat} (h : Rel s t n) : (toL s.top).length = t.L.length := by rw [h.top, Zj9]
theorem Z5i (r : Int) : Rel { top := .nil, room := r } { L := [], Room := r } 0 := ⟨rfl, trivial, List.Pairwise.nil, Nat.le_refl _, rfl, fun q h => by simp [pl] at h⟩
theorem Z5l {s : Zq} {t : Zj} {n : Nat} (h : Rel s t n) (hn : n < 1000000) (k : ByteArray) : Zgd t k = some (getR (lk k (pl t))) := by
 have hb := h.len
 unfold Zgd
 rw [Zta (by omega)]
 simp only [Option.bind_some]
 have hle := Zv9 k (pl t)
 rw [Zj9] at hle
 by_cases hi : rk k (pl t) < t.L.length
 · have hd : decide (((rk k (pl t) : Nat) : Int) < (t.L.length : Int)) = true := by simp; omega
   rw [hd, Zdc hi]
   simp only [gd_t, Option.bind_some, Bool.true_and]
   have hg : (pl t)[rk k (pl t)]? = some (kv t.L[rk k (pl t)]) := by rw [Zn3, List.getElem?_eq_getElem hi]; rfl
   rcases Znm default h.srt with ⟨p, a1, a2, a3, _, _⟩ | ⟨a1, a2, _, _⟩
   · rw [hg] at a1
     obtain rfl := Option.some.inj a1
     have : sEq (t.L[rk k (pl t)]).Key k = true := Zh5.2 a2
     rw [if_pos this, a3]; rfl
   · have : sEq (t.L[rk k (pl t)]).Key k = false := Zeo.2 (a1 _ hg)
     rw [if_neg (by simp [this]), a2]; rfl
 · have hd : decide (((rk k (pl t) : Nat) : Int) < (t.L.length : Int)) = false := by simp; omega
   rw [hd]
   simp only [gd_f, Option.bind_some, Bool.false_and, Bool.false_eq_true, if_false]
   rcases Znm (k := k) default h.srt with ⟨p, a1, _⟩ | ⟨_, a2, _, _⟩
   · have := (List.getElem?_eq_some_iff.1 a1).1
     rw [Zj9] at this; omega
   · rw [a2]; rfl
theorem Zrs {s : Zq} {t : Zj} {n : Nat} (h : Rel s t n) (k : ByteArray) : Zft s k = some (getR (lk k (pl t))) := by
 rw [Z7j (by rw [h.top]; exact h.srt) h.cl, h.top]
theorem Zuk {s : Zq} {t : Zj} {n : Nat} (h : Rel s t n) : Zfu s = some (t.L.length : Int) := by
 unfold Zfu
 rw [Zjb h.sz, h.tl]; rfl
theorem Zst (t : Zj) (i : Nat) : (t.L.take i).map kv = (pl t).take i := by simp [pl]
theorem Zs1 (t : Zj) (i : Nat) : (t.L.drop i).map kv = (pl t).drop i := by simp [pl]
theorem Zxc {s : Zq} {t : Zj} {n : Nat} (h : Rel s t n) (hn : n < 1000000) (k : ByteArray) : ∃ s' t' b, Zgj s k = some (s', b) ∧ Zgb t k = some (t', b) ∧ Rel s' t' n ∧ (pl t' = pl t ∨ pl t' = delL k (pl t)) := by
 have hb := h.len
 have hle := Zv9 k (pl t)
 rw [Zj9] at hle
 unfold Zgj Zgb
 rw [Zrs h, Zta (by omega)]
 simp only [Option.bind_some]
 rcases Znm default h.srt with ⟨p, a1, a2, a3, _, a5⟩ | ⟨a1, a2, _, a4⟩
 · have hi : rk k (pl t) < t.L.length := by
     have := (List.getElem?_eq_some_iff.1 a1).1
     rwa [Zj9] at this
   rw [a3]
   have hd : decide ((t.L.length : Int) ≤ ((rk k (pl t) : Nat) : Int)) = false := by simp; omega
   have hg : (pl t)[rk k (pl t)]? = some (kv t.L[rk k (pl t)]) := by rw [Zn3, List.getElem?_eq_getElem hi]; rfl
   rw [hg] at a1
   obtain rfl := Option.some.inj a1
   have he : sEq (t.L[rk k (pl t)]).Key k = true := Zh5.2 a2
   rw [hd, Zdc hi]
   obtain ⟨t1, c1, z1, l1⟩ := Z5s (k := k) h.sz (by rw [h.top]; exact h.srt) (by rw [h.tl]; omega)
   rw [c1]
   simp only [getR, Bool.not_true, Bool.false_eq_true, if_false, Option.bind_some, Bool.not_false, gd_t, he, Bool.or_false, Bool.or_self]
   rw [show (0 : Int) = ((0 : Nat) : Int) from rfl, Zml (by omega) (by omega), wr1 (by omega), Zml (by omega) (by omega)]
   simp only [Option.bind_some, List.nil_append, List.drop_zero, Nat.sub_zero, List.length_nil, Nat.zero_add]
   have ht : (List.take (t.L.length - (rk k (pl t) + 1)) (List.drop (rk k (pl t) + 1) t.L)) = List.drop (rk k (pl t) + 1) t.L := List.take_of_length_le (by simp)
   rw [ht, if_pos (by simp; omega), if_pos (by simp; omega)]
   have hpl : pl { L := List.take (rk k (pl t)) t.L ++ List.drop (rk k (pl t) + 1) t.L, Room := t.Room } = delL k (pl t) := by
     rw [a5, ← Zst, ← Zs1, ← List.map_append]; rfl
   refine ⟨_, _, true, rfl, rfl, ⟨?_, z1, ?_, ?_, h.room, ?_⟩, .inr hpl⟩
   · rw [hpl, l1, h.top]
   · rw [hpl]; exact Zy7 h.srt
   · simp; omega
   · intro q hq
     rw [hpl] at hq
     exact h.ok q (Zrj hq)
 · rw [a2]
   simp only [getR, Bool.not_false, if_true]
   by_cases hi : rk k (pl t) < t.L.length
   · have hd : decide ((t.L.length : Int) ≤ ((rk k (pl t) : Nat) : Int)) = false := by simp; omega
     have hg : (pl t)[rk k (pl t)]? = some (kv t.L[rk k (pl t)]) := by rw [Zn3, List.getElem?_eq_getElem hi]; rfl
     have he : sEq (t.L[rk k (pl t)]).Key k = false := Zeo.2 (a1 _ hg)
     rw [hd, Zdc hi]
     simp only [Bool.not_false, gd_t, Option.bind_some, he, Bool.false_or, if_true]
     exact ⟨s, t, false, rfl, rfl, h, .inl rfl⟩
   · have hd : decide ((t.L.length : Int) ≤ ((rk k (pl t) : Nat) : Int)) = true := by simp; omega
     rw [hd]
     simp only [Bool.not_true, gd_f, Option.bind_some, Bool.true_or, if_true]
     exact ⟨s, t, false, rfl, rfl, h, .inl rfl⟩
theorem Z2q (k : ByteArray) : sEq k (⟨#[]⟩ : ByteArray) = decide ((k.size : Int) < 1) := by
 by_cases h : k = ⟨#[]⟩
 · subst h; rw [Ze8]; decide
 · rw [Zeo.2 h]
   have : k.size ≠ 0 := fun e => h (by
     apply ByteArray.ext
     exact Array.size_eq_zero_iff.1 e)
   simp; omega
theorem Zs8 {s : Zq} {t : Zj} {n : Nat} (h : Rel s t n) (hn : n < 1000000) (k : ByteArray) {x : Ze} (hx : Zh2 x) (hx2 : x.List.length ≤ 100) :
   ∃ s' t' c, Zd0 s k x = some (s', c) ∧ Zep t k x = some (t', c) ∧ Rel s' t' (n + 1) ∧ (pl t' = pl t ∨ (pl t' = insL k x (pl t) ∧ Zee x = some 0 ∧ ¬ (k.size : Int) < 1 ∧ ¬ (24 : Int) < (k.size : Int))) := by
 have hb := h.len
 have hle := Zv9 k (pl t)
 rw [Zj9] at hle
 obtain ⟨c, hc1, hc2⟩ := Zl4 hx
 unfold Zd0 Zep
 rw [hc1, hc2, Zrs h, Zta (by omega), Zuk h, Zpm (by unfold Cl; omega), Z2q, h.room]
 by_cases h1 : (decide ((k.size : Int) < 1) || decide ((24 : Int) < (k.size : Int))) = true
 · rw [if_pos h1, if_pos h1]
   exact ⟨s, t, 1, rfl, rfl, h.mono (by omega), .inl rfl⟩
 · rw [if_neg h1, if_neg h1]
   simp only [Option.bind_some]
   by_cases h2 : (c != 0) = true
   · rw [if_pos h2, if_pos h2]
     exact ⟨s, t, c, rfl, rfl, h.mono (by omega), .inl rfl⟩
   · rw [if_neg h2, if_neg h2]
     obtain ⟨t1, e1, z1, l1⟩ := Zzg (k := k) (x := x) h.sz (by rw [h.top]; exact h.srt) (by rw [h.tl]; omega)
     rw [e1]
     have h20 : c = 0 := by simpa using h2
     have h11 : ¬ (k.size : Int) < 1 := fun h' => h1 (by simp [h'])
     have h12 : ¬ (24 : Int) < (k.size : Int) := fun h' => h1 (by simp [h'])
     have hmk : ∀ L' : List Z9, L'.map kv = insL k x (pl t) → Rel { top := t1, room := t.Room } { L := L', Room := t.Room } (n + 1) ∧ (pl { L := L', Room := t.Room } = pl t ∨ (pl { L := L', Room := t.Room } = insL k x (pl t) ∧ some c = some (0 : Int) ∧ ¬ (k.size : Int) < 1 ∧ ¬ (24 : Int) < (k.size : Int))) := fun L' hL => by
       have hpl : pl { L := L', Room := t.Room } = insL k x (pl t) := hL
       refine ⟨⟨by rw [hpl, l1, h.top], z1, by rw [hpl]; exact Zzw h.srt, ?_, rfl, ?_⟩, .inr ⟨hpl, by rw [h20], h11, h12⟩⟩
       · have := Zpy k x (pl t)
         rw [← hL, Zj9] at this
         simp at this
         show L'.length ≤ n + 1
         omega
       · intro q hq
         rw [hpl] at hq
         rcases Zo9 hq with rfl | hq
         · exact ⟨hx, hx2⟩
         · exact h.ok q hq
     rcases Znm x h.srt with ⟨p, a1, a2, a3, a4, _⟩ | ⟨a1, a2, a3, _⟩
     · have hi : rk k (pl t) < t.L.length := by
         have := (List.getElem?_eq_some_iff.1 a1).1
         rwa [Zj9] at this
       have hd : decide (((rk k (pl t) : Nat) : Int) < (t.L.length : Int)) = true := by simp; omega
       have hg : (pl t)[rk k (pl t)]? = some (kv t.L[rk k (pl t)]) := by rw [Zn3, List.getElem?_eq_getElem hi]; rfl
       rw [hg] at a1
       obtain rfl := Option.some.inj a1
       have he : sEq (t.L[rk k (pl t)]).Key k = true := Zh5.2 a2
       rw [a3, hd, Zdc hi]
       simp only [getR, Bool.not_true, Bool.false_and, Bool.false_eq_true, if_false, gd_f, gd_t, Option.bind_some, he, Bool.and_self, Bool.true_and, if_true]
       rw [show (0 : Int) = ((0 : Nat) : Int) from rfl, Zml (by omega) (by omega), wr1 (by omega)]
       simp only [Option.bind_some, List.nil_append, List.drop_zero, Nat.sub_zero, List.length_nil, Nat.zero_add, Zem]
       rw [if_pos (by simp; omega), if_pos (by simp; omega), Zml (by omega) (by omega)]
       have ht : (List.take (t.L.length - (rk k (pl t) + 1)) (List.drop (rk k (pl t) + 1) t.L)) = List.drop (rk k (pl t) + 1) t.L := List.take_of_length_le (by simp)
       simp only [Option.bind_some, ht, List.nil_append]
       rw [if_pos (by simp; omega)]
       refine ⟨_, _, 0, rfl, rfl, hmk _ ?_⟩
       rw [a4]; simp [Zst, Zs1, kv, pl]
     · rw [a2]
       simp only [getR, Bool.not_false, gd_t, Option.bind_some, Bool.true_and]
       have hne : (decide (((rk k (pl t) : Nat) : Int) < (t.L.length : Int)) && sEq (((gd (decide (((rk k (pl t) : Nat) : Int) < (t.L.length : Int))) (idx t.L ((rk k (pl t) : Nat) : Int))).getD default).Key) k) = false := by
         by_cases hi : rk k (pl t) < t.L.length
         · have hg : (pl t)[rk k (pl t)]? = some (kv t.L[rk k (pl t)]) := by rw [Zn3, List.getElem?_eq_getElem hi]; rfl
           have he : sEq (t.L[rk k (pl t)]).Key k = false := Zeo.2 (a1 _ hg)
           have hd : decide (((rk k (pl t) : Nat) : Int) < (t.L.length : Int)) = true := by simp; omega
           rw [hd, Zdc hi]
           simp [gd, he]
         · have hd : decide (((rk k (pl t) : Nat) : Int) < (t.L.length : Int)) = false := by simp; omega
           rw [hd]; rfl
       have hex : ∃ e, gd (decide (((rk k (pl t) : Nat) : Int) < (t.L.length : Int))) (idx t.L ((rk k (pl t) : Nat) : Int)) = some e := by
         by_cases hi : rk k (pl t) < t.L.length
         · rw [Zdc hi]
           cases decide (((rk k (pl t) : Nat) : Int) < (t.L.length : Int)) <;> exact ⟨_, rfl⟩
         · have hd : decide (((rk k (pl t) : Nat) : Int) < (t.L.length : Int)) = false := by simp; omega
           rw [hd]; exact ⟨_, rfl⟩
       obtain ⟨e, hee⟩ := hex
       rw [hee] at hne ⊢
       simp only [Option.getD_some] at hne
       simp only [Option.bind_some, hne, Bool.not_false, Bool.true_and]
       by_cases h5 : decide (t.Room ≤ (t.L.length : Int)) = true
       · rw [if_pos h5, if_pos h5]
         exact ⟨s, t, 8, rfl, rfl, h.mono (by omega), .inl rfl⟩
       · rw [if_neg h5, if_neg h5]
         rw [show (0 : Int) = ((0 : Nat) : Int) from rfl, Zml (by omega) (by omega)]
         simp only [Option.bind_some, List.nil_append, List.drop_zero, Nat.sub_zero, List.length_nil, Nat.zero_add, Zem, Bool.false_eq_true, if_false]
         rw [if_pos (by simp; omega), if_pos (by simp; omega), Zml (by omega) (by omega)]
         have ht : (List.take (t.L.length - rk k (pl t)) (List.drop (rk k (pl t)) t.L)) = List.drop (rk k (pl t)) t.L := List.take_of_length_le (by simp)
         simp only [Option.bind_some, ht, List.nil_append]
         rw [if_pos (by simp; omega)]
         refine ⟨_, _, 0, rfl, rfl, hmk _ ?_⟩
         rw [a3]; simp [Zst, Zs1, kv, pl]
end Go.CL
set_option linter.unusedVariables false
set_option linter.unusedSimpArgs false
namespace Go.CL
open Go
theorem Zxw : ∀ l : List Zl, eqL l l = true
 | [] => rfl
 | x :: l => by simp [eqL, eqI, Ze8, Zxw l]
theorem Z0n (a : Ze) : Zk3 a a = true := by simp [Zk3, Ze8, Zxw]
theorem Zzj {s : Zq} {t : Zj} {m : Nat} (h : Rel s t m) (hm : m < 1000000) : ∀ (n i : Nat), i + n = t.L.length → Ze4 s t (n + 1) (i : Int) = some (.inr ())
 | 0, i, hi => by
   rw [Ze4, if_neg (by simp; omega)]
 | n + 1, i, hi => by
   have hb := h.len
   have h1 : i < t.L.length := by omega
   rw [Ze4, if_pos (by simp; omega), Zdc h1, Z92 h.sz (by rw [h.tl]; omega) (by omega) (by omega) h.cl, wr1 (by omega), h.top, idxn, Zn3, List.getElem?_eq_getElem h1]
   have hq : kv t.L[i] ∈ pl t := by
     have : (pl t)[i]? = some (kv t.L[i]) := by rw [Zn3, List.getElem?_eq_getElem h1]; rfl
     exact List.mem_of_getElem? this
   have hr : Zh2 (t.L[i]).Rec := (h.ok _ hq).1
   simp only [Option.map_some, atR, kv, Option.bind_some, Bool.not_true, Ze8, Bool.or_self, Bool.not_false, gd_t]
   rw [Zq5 hr hr, Z0n]
   simp only [Option.bind_some, Bool.not_true, Bool.false_or, Bool.false_eq_true, if_false]
   exact Zzj h hm n (i + 1) (by omega)
theorem Z9s {s : Zq} {t : Zj} {m : Nat} (h : Rel s t m) (hm : m < 1000000) : Zjk s t = some 1 := by
 unfold Zjk
 rw [Zuk h]
 simp only [Option.bind_some, bne_self_eq_false, Bool.not_false, gd_t, Zjx, h.room, Bool.or_self, Bool.false_eq_true, if_false]
 have := Zzj h hm t.L.length 0 (by omega)
 rw [show ((0 : Nat) : Int) = 0 from rfl] at this
 rw [show (Int.toNat ((t.L.length : Int) - (0 : Int)) + 1) = t.L.length + 1 by omega, this]
 rfl
end Go.CL
