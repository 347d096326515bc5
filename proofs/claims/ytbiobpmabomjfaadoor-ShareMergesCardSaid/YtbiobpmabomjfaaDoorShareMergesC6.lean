/- A part of the proof of ShareMerges. -/
import Derived.Test.YtbiobpmabomjfaaDoorShareMergesC5
set_option linter.unusedVariables false
set_option linter.unusedSimpArgs false
set_option maxRecDepth 100000
namespace Go.CL
open Go Go.RowKit Go.Proofs
theorem Znm (a0 : Int) (a1 : List Zh) (a2 : Int) {r : Int} (h : Zgt a0 a1 a2 = some r) : FnOk Tryd.prog 47 [(pInt .i64 a0), (Zr.sl.pd a1), (pInt .i64 a2)] (pInt .i64 r) := by
 have H0 := h
 unfold Zgt at H0
 clear h
 refine Zbq (N := 64) Tryd.func47 rfl rfl (Nat.le_of_ble_eq_true rfl) rfl rfl (fun a g0 hst hb => ?_)
 refine r_s (T := [⟨[], _, [], [], [6]⟩]) (F := [.old 0, .old 1, .old 2]) hst hb Za
   (o_p rfl (Zc rfl rfl c_i) <| o_n) (by kernel_rfl) (fun a g hst hb => ?_)
 obtain ⟨e1, h2, H0⟩ := Zk H0
 refine r_s (T := [⟨[.old 1], _, [], [], [8]⟩, ⟨[.old 2], _, [], [], [9]⟩, ⟨[.op 0 0, .op 1 0], _, [], [0, 1], [10]⟩, ⟨[.op 2 0], _, [], [0, 1, 2], [11]⟩, ⟨[], [(7, (pBox Zr 7 (default : Zh)))], [8], [], [7]⟩, ⟨[.op 3 0, .op 4 0], _, [8], Lr 5, [7]⟩]) (F := [.old 0, .old 1, .old 2, .op 5 0]) hst hb Za
   (o_p rfl (Zd rfl rfl u_0) <| o_p rfl (Zd rfl rfl u_0) <| o_p rfl (Zbh Tryd.underlying23 Zdv rfl rfl u_0 u_1 h2) <| o_p rfl (Zg Zdh rfl rfl u_0) <| o_p rfl (Zbi (zs := [.float .f64 0, .string ByteArray.empty]) (by kernel_rfl) (fun g => Zgi g) rfl rfl) <| o_p rfl (Zci Zdh rfl rfl u_1 u_0) <| o_n) (by kernel_rfl) (fun a g hst hb => ?_)
 refine wp_seq ?_
 refine r_s (T := [⟨[.old 3], _, [], [], [12]⟩, ⟨[.op 0 0], _, [], [0], [13]⟩, ⟨[.op 1 0], _, [], [0, 1], [14]⟩, ⟨[.op 2 0], _, [], [0, 1, 2], [15]⟩]) (F := [.old 0, .old 1, .old 2, .old 3, .op 3 0]) hst hb Za
   (o_p rfl (Ze Zc4 rfl rfl u_0) <| o_p rfl (Zg ty_9 rfl rfl u_0) <| o_p rfl (Ze8 Tryd.underlying9 rfl rfl u_0) <| o_p rfl (Zcj rfl rfl u_0 c_i) <| o_n) (by kernel_rfl) (fun a g hst hb => ?_)
 refine wp_cond_split (hst.bool 4 rfl) (fun hc3 => ?_) (fun hc3 => ?_)
 · replace H0 := Zp hc3 H0
   refine r_s (L := []) (T := [⟨[], _, [], [], [6]⟩]) (F := [.op 0 0]) (hst.pick [] rfl) hb Za
     (o_p rfl (Zc rfl rfl c_i) <| o_n) (by kernel_rfl) (fun a g hst hb => ?_)
   refine wp_ret ?_
   refine Zm ?_
   obtain rfl := Option.some.inj H0
   exact Zx rfl hst hb (Zl (s := 6)) (hst.at 0 rfl)
 · replace H0 := Zo hc3 H0
   refine wp_skip ?_
   refine Zq ?_
   refine wp_seq ?_
   obtain ⟨r4, h5, H0⟩ := Zk H0; obtain ⟨r6, h7, H0⟩ := Zk H0
   refine r_s (L := [(0, _), (1, _), (2, _), (7, _)]) (T := ⟨[.old 0], _, [], [], [16]⟩ :: ⟨[.op 0 0], _, [], [0], [17]⟩ :: ⟨[.op 1 0], _, [], [0, 1], [18]⟩ :: ⟨[.op 2 0, .old 3], _, [], [0, 1, 2], [19]⟩ :: ⟨[.op 2 0, .op 3 0], _, [], Lr 4, [20]⟩ :: ⟨[.op 2 0, .op 4 0], _, [], Lr 5, [21]⟩ :: ⟨[.op 2 0, .op 5 0], _, [], Lr 6, [22]⟩ :: ⟨[.op 2 0, .op 6 0], _, [], Lr 7, [23]⟩ :: ⟨[.op 7 0], _, [], Lr 8, [24]⟩ :: ⟨[.op 8 0, .old 3], _, [], Lr 9, [25]⟩ :: ⟨[.op 8 0, .op 9 0], _, [], Lr 10, [26]⟩ :: ⟨[.op 8 0, .op 10 0], _, [], Lr 11, [27]⟩ :: ⟨[.op 8 0, .op 11 0], _, [], Lr 12, [28]⟩ :: ⟨[.op 8 0, .op 12 0], _, [], Lr 13, [29]⟩ :: []) (F := [.old 0, .old 1, .old 2, .old 3, .op 13 0]) (hst.pick [0, 1, 2, 3] rfl) hb Za
     (o_p rfl (Zd rfl rfl u_0) <| o_p rfl (Z7 rfl rfl u_0 c_i) <| o_p rfl (Zd rfl rfl u_0) <| o_g (g_t rfl rfl rfl (fun hG => Ze Zee rfl rfl u_0)) <| o_g (g_t rfl rfl rfl (fun hG => Zg Zby rfl rfl (Opd.gd hG u_0))) <| o_g (g_t rfl rfl rfl (fun hG => Zt Zyw (Zka _ (Zbn h5 hG)) rfl rfl (.cons (Opd.gd hG u_0) .nil))) <| o_g (g_t rfl rfl rfl (fun hG => Zb4 rfl rfl (Opd.gd hG u_0))) <| o_p rfl (Zbb rfl rfl u_0 (fun hz => (Opd.gd hz u_1))) <| o_p rfl (Zd rfl rfl u_0) <| o_g (g_f rfl rfl rfl (fun hG => Ze Zee rfl rfl u_0)) <| o_g (g_f rfl rfl rfl (fun hG => Zg Zby rfl rfl (Opd.gd hG u_0))) <| o_g (g_f rfl rfl rfl (fun hG => Zt Zu2 (Zhv _ (Zbn h7 hG)) rfl rfl (.cons (Opd.gd hG u_0) .nil))) <| o_g (g_f rfl rfl rfl (fun hG => Zb4 rfl rfl (Opd.gd hG u_0))) <| o_p rfl (Zbj rfl rfl u_0 (fun hz => (Opd.gd (bNF hz) u_1))) <| o_n) (by kernel_rfl) (fun a g hst hb => ?_)
   refine wp_cond_split (hst.bool 4 rfl) (fun hc8 => ?_) (fun hc8 => ?_)
   · replace H0 := Zp hc8 H0
     refine r_s (L := []) (T := [⟨[], _, [], [], [6]⟩]) (F := [.op 0 0]) (hst.pick [] rfl) hb Za
       (o_p rfl (Zc rfl rfl c_i) <| o_n) (by kernel_rfl) (fun a g hst hb => ?_)
     refine wp_ret ?_
     refine Zm ?_
     obtain rfl := Option.some.inj H0
     exact Zx rfl hst hb (Zl (s := 6)) (hst.at 0 rfl)
   · replace H0 := Zo hc8 H0
     refine wp_skip ?_
     refine Zq ?_
     refine wp_seq ?_
     obtain ⟨e9, h10, H0⟩ := Zk H0
     refine r_s (L := [(0, _), (1, _), (2, _), (7, _)]) (T := ⟨[.old 2], _, [], [], [30]⟩ :: ⟨[.op 0 0], _, [], [0], [31]⟩ :: ⟨[.op 1 0], _, [], [0, 1], [32]⟩ :: ⟨[.op 2 0, .old 0], _, [], [0, 1, 2], [33]⟩ :: ⟨[.op 2 0, .op 3 0], _, [], Lr 4, [34]⟩ :: ⟨[.op 2 0, .op 4 0], _, [], Lr 5, [35]⟩ :: ⟨[.op 5 0], _, [], Lr 6, [36]⟩ :: ⟨[.op 6 0, .old 1], _, [], Lr 7, [37]⟩ :: ⟨[.op 6 0, .old 2], _, [], Lr 7, [38]⟩ :: ⟨[.op 6 0, .op 8 0], _, [], [0, 1, 2, 3, 4, 5, 6, 8], [39]⟩ :: ⟨[.op 6 0, .op 7 0, .op 9 0], _, [], Lr 10, [40]⟩ :: ⟨[.op 6 0, .op 10 0], _, [], Lr 11, [41]⟩ :: ⟨[.op 6 0, .op 11 0], _, [], Lr 12, [42]⟩ :: ⟨[.op 6 0, .old 3], _, [], Lr 7, [43]⟩ :: ⟨[.op 6 0, .op 13 0], _, [], [0, 1, 2, 3, 4, 5, 6, 13], [44]⟩ :: ⟨[.op 6 0, .op 12 0, .op 14 0], _, [], Lr 15, [45]⟩ :: ⟨[.op 6 0, .op 15 0], _, [], Lr 16, [46]⟩ :: ⟨[.op 6 0, .op 16 0], _, [], Lr 17, [47]⟩ :: []) (F := [.old 0, .old 1, .old 2, .old 3, .op 17 0]) (hst.pick [0, 1, 2, 3] rfl) hb Za
       (o_p rfl (Zd rfl rfl u_0) <| o_p rfl (Zcj rfl rfl u_0 c_i) <| o_p rfl (Zd rfl rfl u_0) <| o_g (g_t rfl rfl rfl (fun hG => Zd rfl rfl u_0)) <| o_g (g_t rfl rfl rfl (fun hG => Z7 rfl rfl (Opd.gd hG u_0) c_i)) <| o_p rfl (Zbb rfl rfl u_0 (fun hz => (Opd.gd hz u_1))) <| o_p rfl (Zd rfl rfl u_0) <| o_g (g_t rfl rfl rfl (fun hG => Zd rfl rfl u_0)) <| o_g (g_t rfl rfl rfl (fun hG => Zd rfl rfl u_0)) <| o_g (g_t rfl rfl rfl (fun hG => Zd5 rfl rfl (Opd.gd hG u_0) c_i rfl)) <| o_g (g_t rfl rfl rfl (fun hG => Zbh Tryd.underlying23 Zdv rfl rfl (Opd.gd hG u_0) (Opd.gd hG u_1) (Zbn h10 hG))) <| o_g (g_t rfl rfl rfl (fun hG => Ze Zc4 rfl rfl (Opd.gd hG u_0))) <| o_g (g_t rfl rfl rfl (fun hG => Zg ty_9 rfl rfl (Opd.gd hG u_0))) <| o_g (g_t rfl rfl rfl (fun hG => Ze Zc4 rfl rfl u_0)) <| o_g (g_t rfl rfl rfl (fun hG => Zg ty_9 rfl rfl (Opd.gd hG u_0))) <| o_g (g_t rfl rfl rfl (fun hG => Znv rfl rfl (Opd.gd hG u_0) (Opd.gd hG u_1))) <| o_g (g_t rfl rfl rfl (fun hG => Zb4 rfl rfl (Opd.gd hG u_0))) <| o_p rfl (Zbb rfl rfl u_0 (fun hz => (Opd.gd hz u_1))) <| o_n) (by kernel_rfl) (fun a g hst hb => ?_)
     refine wp_cond_split (hst.bool 4 rfl) (fun hc11 => ?_) (fun hc11 => ?_)
     · replace H0 := Zp hc11 H0
       refine r_s (L := []) (T := [⟨[], _, [], [], [6]⟩]) (F := [.op 0 0]) (hst.pick [] rfl) hb Za
         (o_p rfl (Zc rfl rfl c_i) <| o_n) (by kernel_rfl) (fun a g hst hb => ?_)
       refine wp_ret ?_
       refine Zm ?_
       obtain rfl := Option.some.inj H0
       exact Zx rfl hst hb (Zl (s := 6)) (hst.at 0 rfl)
     · replace H0 := Zo hc11 H0
       refine wp_skip ?_
       refine Zq ?_
       refine wp_seq ?_
       obtain ⟨e12, h13, H0⟩ := Zk H0; obtain ⟨r14, h15, H0⟩ := Zk H0
       refine r_s (L := [(0, _), (1, _), (2, _), (7, _)]) (T := ⟨[.old 2], _, [], [], [48]⟩ :: ⟨[.op 0 0], _, [], [0], [49]⟩ :: ⟨[.op 1 0], _, [], [0, 1], [50]⟩ :: ⟨[.op 2 0, .old 0], _, [], [0, 1, 2], [51]⟩ :: ⟨[.op 2 0, .op 3 0], _, [], Lr 4, [52]⟩ :: ⟨[.op 2 0, .op 4 0], _, [], Lr 5, [53]⟩ :: ⟨[.op 5 0], _, [], Lr 6, [54]⟩ :: ⟨[.op 6 0, .old 1], _, [], Lr 7, [55]⟩ :: ⟨[.op 6 0, .old 2], _, [], Lr 7, [56]⟩ :: ⟨[.op 6 0, .op 8 0], _, [], [0, 1, 2, 3, 4, 5, 6, 8], [57]⟩ :: ⟨[.op 6 0, .op 7 0, .op 9 0], _, [], Lr 10, [58]⟩ :: ⟨[.op 6 0, .op 10 0], _, [], Lr 11, [59]⟩ :: ⟨[.op 6 0, .old 3], _, [], Lr 7, [60]⟩ :: ⟨[.op 6 0, .op 11 0, .op 12 0], _, [], Lr 13, [61]⟩ :: ⟨[.op 6 0, .op 13 0], _, [], Lr 14, [62]⟩ :: ⟨[.op 6 0, .op 14 0], _, [], Lr 15, [63]⟩ :: []) (F := [.op 15 0]) (hst.pick [0, 1, 2, 3] rfl) hb Za
         (o_p rfl (Zd rfl rfl u_0) <| o_p rfl (Zcj rfl rfl u_0 c_i) <| o_p rfl (Zd rfl rfl u_0) <| o_g (g_t rfl rfl rfl (fun hG => Zd rfl rfl u_0)) <| o_g (g_t rfl rfl rfl (fun hG => Z7 rfl rfl (Opd.gd hG u_0) c_i)) <| o_p rfl (Zbb rfl rfl u_0 (fun hz => (Opd.gd hz u_1))) <| o_p rfl (Zd rfl rfl u_0) <| o_g (g_t rfl rfl rfl (fun hG => Zd rfl rfl u_0)) <| o_g (g_t rfl rfl rfl (fun hG => Zd rfl rfl u_0)) <| o_g (g_t rfl rfl rfl (fun hG => Zd5 rfl rfl (Opd.gd hG u_0) c_i rfl)) <| o_g (g_t rfl rfl rfl (fun hG => Zbh Tryd.underlying23 Zdv rfl rfl (Opd.gd hG u_0) (Opd.gd hG u_1) (Zbn h13 hG))) <| o_g (g_t rfl rfl rfl (fun hG => Zg Zdh rfl rfl (Opd.gd hG u_0))) <| o_g (g_t rfl rfl rfl (fun hG => Zg Zdh rfl rfl u_0)) <| o_g (g_t rfl rfl rfl (fun hG => Zt Zy0 (Zj7 _ _ (Zbn h15 hG)) rfl rfl (.cons (Opd.gd hG u_0) (.cons (Opd.gd hG u_1) .nil)))) <| o_g (g_t rfl rfl rfl (fun hG => Zb4 rfl rfl (Opd.gd hG u_0))) <| o_p rfl (Zbb rfl rfl u_0 (fun hz => (Opd.gd hz u_1))) <| o_n) (by kernel_rfl) (fun a g hst hb => ?_)
       refine wp_cond_split (hst.bool 0 rfl) (fun hc16 => ?_) (fun hc16 => ?_)
       · replace H0 := Zp hc16 H0
         refine r_s (L := []) (T := [⟨[], _, [], [], [6]⟩]) (F := [.op 0 0]) (hst.pick [] rfl) hb Za
           (o_p rfl (Zc rfl rfl c_i) <| o_n) (by kernel_rfl) (fun a g hst hb => ?_)
         refine wp_ret ?_
         refine Zm ?_
         obtain rfl := Option.some.inj H0
         exact Zx rfl hst hb (Zl (s := 6)) (hst.at 0 rfl)
       · replace H0 := Zo hc16 H0
         refine wp_skip ?_
         refine Zq ?_
         refine r_s (L := []) (T := [⟨[], _, [], [], [6]⟩]) (F := [.op 0 0]) (hst.pick [] rfl) hb Za
           (o_p rfl (Zc rfl rfl c_i) <| o_n) (by kernel_rfl) (fun a g hst hb => ?_)
         refine wp_ret ?_
         obtain rfl := Option.some.inj H0
         exact Zx rfl hst hb (Zl (s := 6)) (hst.at 0 rfl)
theorem Zjv (a0 : Zb) {r : Int} (h : Zc9 a0 = some r) : FnOk Tryd.prog 19 [(Zf.pd a0)] (pInt .i64 r) := by
 have H0 := h
 unfold Zc9 at H0
 clear h
 refine Zbq (N := 96) Tryd.func19 rfl rfl (Nat.le_of_ble_eq_true rfl) rfl rfl (fun a g0 hst hb => ?_)
 refine r_s (T := [⟨[.old 0], _, [], [], [1]⟩, ⟨[], _, [], [], [2]⟩]) (F := [.op 0 0]) hst hb Za
   (o_p rfl (Zbs rfl rfl u_0) <| o_p rfl (Zc rfl rfl c_i) <| o_n) (by kernel_rfl) (fun a g hst hb => ?_)
 refine wp_seq ?_
 refine r_s (T := [⟨[.old 0], _, [], [], [6]⟩, ⟨[.op 0 0], _, [], [0], [7]⟩, ⟨[.op 1 0], _, [], [0, 1], [8]⟩, ⟨[.op 2 0], _, [], [0, 1, 2], [9]⟩, ⟨[.op 3 0, .old 0], _, [], Lr 4, [10]⟩, ⟨[.op 3 0, .op 4 0], _, [], Lr 5, [11]⟩, ⟨[.op 3 0, .op 5 0], _, [], Lr 6, [12]⟩, ⟨[.op 3 0, .op 6 0], _, [], Lr 7, [13]⟩]) (F := [.old 0, .op 7 0]) hst hb Za
   (o_p rfl (Ze Zcx rfl rfl u_0) <| o_p rfl (Zg ty_3 rfl rfl u_0) <| o_p rfl (Zcb rfl rfl u_0 c_i) <| o_p rfl (Zd rfl rfl u_0) <| o_g (g_f rfl rfl rfl (fun hG => Ze Zcx rfl rfl u_0)) <| o_g (g_f rfl rfl rfl (fun hG => Zg ty_3 rfl rfl (Opd.gd hG u_0))) <| o_g (g_f rfl rfl rfl (fun hG => Zcj rfl rfl (Opd.gd hG u_0) c_i)) <| o_p rfl (Zbj rfl rfl u_0 (fun hz => (Opd.gd (bNF hz) u_1))) <| o_n) (by kernel_rfl) (fun a g hst hb => ?_)
 refine wp_cond_split (hst.bool 1 rfl) (fun hc1 => ?_) (fun hc1 => ?_)
 · replace H0 := Zp hc1 H0
   refine r_s (L := []) (T := [⟨[], _, [], [], [2]⟩]) (F := [.op 0 0]) (hst.pick [] rfl) hb Za
     (o_p rfl (Zc rfl rfl c_i) <| o_n) (by kernel_rfl) (fun a g hst hb => ?_)
   refine wp_ret ?_
   refine Zm ?_
   obtain rfl := Option.some.inj H0
   exact Zx rfl hst hb (Zl (s := 2)) (hst.at 0 rfl)
 · replace H0 := Zo hc1 H0
   refine wp_skip ?_
   refine Zq ?_
   refine wp_seq ?_
   obtain ⟨r2, h3, H0⟩ := Zk H0; obtain ⟨r4, h5, H0⟩ := Zk H0
   refine r_s (L := [(1, _)]) (T := [⟨[.old 0], _, [], [], [14]⟩, ⟨[.old 0], _, [], [], [15]⟩, ⟨[.op 1 0], _, [], [1], [16]⟩, ⟨[.op 2 0], _, [], [1, 2], [17]⟩, ⟨[.op 0 0, .op 3 0], _, [], Lr 4, [18]⟩, ⟨[.op 4 0], _, [], Lr 5, [19]⟩]) (F := [.old 0, .op 5 0]) (hst.pick [0] rfl) hb Za
     (o_p rfl (Zg Z0 rfl rfl u_0) <| o_p rfl (Ze Zcx rfl rfl u_0) <| o_p rfl (Zg ty_3 rfl rfl u_0) <| o_p rfl (Zt Z25 (Zml _ h3) rfl rfl (.cons u_0 .nil)) <| o_p rfl (Zt Z27 (Zni _ _ h5) rfl rfl (.cons u_0 (.cons u_1 .nil))) <| o_p rfl (Zb4 rfl rfl u_0) <| o_n) (by kernel_rfl) (fun a g hst hb => ?_)
   refine wp_cond_split (hst.bool 1 rfl) (fun hc6 => ?_) (fun hc6 => ?_)
   · replace H0 := Zp hc6 H0
     refine r_s (L := []) (T := [⟨[], _, [], [], [2]⟩]) (F := [.op 0 0]) (hst.pick [] rfl) hb Za
       (o_p rfl (Zc rfl rfl c_i) <| o_n) (by kernel_rfl) (fun a g hst hb => ?_)
     refine wp_ret ?_
     refine Zm ?_
     obtain rfl := Option.some.inj H0
     exact Zx rfl hst hb (Zl (s := 2)) (hst.at 0 rfl)
   · replace H0 := Zo hc6 H0
     refine wp_skip ?_
     refine Zq ?_
     refine wp_seq ?_
     refine r_s (L := [(1, _)]) (T := [⟨[.old 0], _, [], [], [20]⟩, ⟨[.op 0 0], _, [], [0], [21]⟩, ⟨[.op 1 0], _, [], [0, 1], [22]⟩, ⟨[.op 2 0], _, [], [0, 1, 2], [23]⟩, ⟨[.op 3 0, .old 0], _, [], Lr 4, [24]⟩, ⟨[.op 3 0, .op 4 0], _, [], Lr 5, [25]⟩, ⟨[.op 3 0, .op 5 0], _, [], Lr 6, [26]⟩, ⟨[.op 3 0, .op 6 0], _, [], Lr 7, [27]⟩, ⟨[.op 3 0, .op 7 0], _, [], Lr 8, [28]⟩]) (F := [.old 0, .op 8 0]) (hst.pick [0] rfl) hb Za
       (o_p rfl (Ze Zcx rfl rfl u_0) <| o_p rfl (Zg ty_3 rfl rfl u_0) <| o_p rfl (Z7 rfl rfl u_0 c_i) <| o_p rfl (Zd rfl rfl u_0) <| o_g (g_t rfl rfl rfl (fun hG => Ze Zgp rfl rfl u_0)) <| o_g (g_t rfl rfl rfl (fun hG => Zg ty_9 rfl rfl (Opd.gd hG u_0))) <| o_g (g_t rfl rfl rfl (fun hG => Ze8 Tryd.underlying9 rfl rfl (Opd.gd hG u_0))) <| o_g (g_t rfl rfl rfl (fun hG => Zcj rfl rfl (Opd.gd hG u_0) c_i)) <| o_p rfl (Zbb rfl rfl u_0 (fun hz => (Opd.gd hz u_1))) <| o_n) (by kernel_rfl) (fun a g hst hb => ?_)
     refine wp_cond_split (hst.bool 1 rfl) (fun hc7 => ?_) (fun hc7 => ?_)
     · replace H0 := Zp hc7 H0
       refine r_s (L := []) (T := [⟨[], _, [], [], [2]⟩]) (F := [.op 0 0]) (hst.pick [] rfl) hb Za
         (o_p rfl (Zc rfl rfl c_i) <| o_n) (by kernel_rfl) (fun a g hst hb => ?_)
       refine wp_ret ?_
       refine Zm ?_
       obtain rfl := Option.some.inj H0
       exact Zx rfl hst hb (Zl (s := 2)) (hst.at 0 rfl)
     · replace H0 := Zo hc7 H0
       refine wp_skip ?_
       refine Zq ?_
       refine r_s (L := [(1, _)]) (T := [⟨[], _, [], [], [3]⟩]) (F := [.old 0, .op 0 0]) (hst.pick [0] rfl) hb Za
         (o_p rfl (Zc rfl rfl c_i) <| o_n) (by kernel_rfl) (fun a g hst hb => ?_)
       refine wp_seq ?_
       refine r_s (T := ⟨[.old 0], _, [], [], [29]⟩ :: ⟨[.op 0 0], _, [], [0], [30]⟩ :: ⟨[.op 1 0], _, [], [0, 1], [31]⟩ :: ⟨[.op 2 0], _, [], [0, 1, 2], [32]⟩ :: ⟨[.op 3 0, .old 0], _, [], Lr 4, [33]⟩ :: ⟨[.op 3 0, .op 4 0], _, [], Lr 5, [34]⟩ :: ⟨[.op 3 0, .old 1], _, [], Lr 4, [35]⟩ :: ⟨[.op 3 0, .op 6 0], _, [], [0, 1, 2, 3, 6], [36]⟩ :: ⟨[.op 3 0, .op 5 0, .op 7 0], _, [], Lr 8, [37]⟩ :: ⟨[.op 3 0, .op 8 0], _, [], Lr 9, [38]⟩ :: ⟨[.op 9 0, .old 0], _, [], Lr 10, [39]⟩ :: ⟨[.op 9 0, .op 10 0], _, [], Lr 11, [40]⟩ :: ⟨[.op 9 0, .old 1], _, [], Lr 10, [41]⟩ :: ⟨[.op 9 0, .op 11 0, .op 12 0], _, [], Lr 13, [42]⟩ :: ⟨[.op 3 0, .op 9 0, .op 13 0], _, [], Lr 14, [43]⟩ :: ⟨[.op 3 0, .op 14 0], _, [], Lr 15, [44]⟩ :: ⟨[.op 15 0, .old 0], _, [], Lr 16, [45]⟩ :: ⟨[.op 15 0, .op 16 0], _, [], Lr 17, [46]⟩ :: ⟨[.op 15 0, .old 0], _, [], Lr 16, [47]⟩ :: ⟨[.op 15 0, .op 18 0], _, [], 0 :: 1 :: 2 :: 3 :: 4 :: 5 :: 6 :: 7 :: 8 :: 9 :: 10 :: 11 :: 12 :: 13 :: 14 :: 15 :: 18 :: [], [48]⟩ :: ⟨[.op 15 0, .op 17 0, .op 19 0], _, [], Lr 20, [49]⟩ :: ⟨[.op 3 0, .op 15 0, .op 20 0], _, [], Lr 21, [50]⟩ :: ⟨[.op 3 0, .op 21 0], _, [], Lr 22, [51]⟩ :: ⟨[.op 22 0, .old 0], _, [], Lr 23, [52]⟩ :: ⟨[.op 22 0, .op 23 0], _, [], Lr 24, [53]⟩ :: ⟨[.op 22 0, .old 0], _, [], Lr 23, [54]⟩ :: ⟨[.op 22 0, .op 25 0], _, [], 0 :: 1 :: 2 :: 3 :: 4 :: 5 :: 6 :: 7 :: 8 :: 9 :: 10 :: 11 :: 12 :: 13 :: 14 :: 15 :: 16 :: 17 :: 18 :: 19 :: 20 :: 21 :: 22 :: 25 :: [], [55]⟩ :: ⟨[.op 22 0, .op 24 0, .op 26 0], _, [], Lr 27, [56]⟩ :: ⟨[.op 3 0, .op 22 0, .op 27 0], _, [], Lr 28, [57]⟩ :: ⟨[.op 3 0, .op 28 0], _, [], Lr 29, [58]⟩ :: []) (F := [.old 0, .op 29 0]) hst hb Za
         (o_p rfl (Ze Zcx rfl rfl u_0) <| o_p rfl (Zg ty_3 rfl rfl u_0) <| o_p rfl (Z7 rfl rfl u_0 c_i) <| o_p rfl (Zd rfl rfl u_0) <| o_g (g_t rfl rfl rfl (fun hG => Ze Zgl rfl rfl u_0)) <| o_g (g_t rfl rfl rfl (fun hG => Zg ty_2 rfl rfl (Opd.gd hG u_0))) <| o_g (g_t rfl rfl rfl (fun hG => Zd rfl rfl u_0)) <| o_g (g_t rfl rfl rfl (fun hG => Zp6 rfl rfl (Opd.gd hG u_0) rfl)) <| o_g (g_t rfl rfl rfl (fun hG => Zcb rfl rfl (Opd.gd hG u_0) (Opd.gd hG u_1))) <| o_g (g_t rfl rfl rfl (fun hG => Zd rfl rfl (Opd.gd hG u_0))) <| o_g (g_fi rfl rfl rfl (fun hG => Ze Zgn rfl rfl u_0)) <| o_g (g_fi rfl rfl rfl (fun hG => Zg ty_2 rfl rfl (Opd.gd hG u_0))) <| o_g (g_fi rfl rfl rfl (fun hG => Zd rfl rfl u_0)) <| o_g (g_fi rfl rfl rfl (fun hG => Zcj rfl rfl (Opd.gd hG u_0) (Opd.gd hG u_1))) <| o_g (g_t rfl rfl rfl (fun hG => Zbj rfl rfl (Opd.gd hG u_0) (fun hz => (Opd.gd (bA hG (bNF hz)) u_1)))) <| o_g (g_t rfl rfl rfl (fun hG => Zd rfl rfl (Opd.gd hG u_0))) <| o_g (g_fi rfl rfl rfl (fun hG => Ze Zbx rfl rfl u_0)) <| o_g (g_fi rfl rfl rfl (fun hG => Zg ty_2 rfl rfl (Opd.gd hG u_0))) <| o_g (g_fi rfl rfl rfl (fun hG => Ze Zgl rfl rfl u_0)) <| o_g (g_fi rfl rfl rfl (fun hG => Zg ty_2 rfl rfl (Opd.gd hG u_0))) <| o_g (g_fi rfl rfl rfl (fun hG => Zcb rfl rfl (Opd.gd hG u_0) (Opd.gd hG u_1))) <| o_g (g_t rfl rfl rfl (fun hG => Zbj rfl rfl (Opd.gd hG u_0) (fun hz => (Opd.gd (bA hG (bNF hz)) u_1)))) <| o_g (g_t rfl rfl rfl (fun hG => Zd rfl rfl (Opd.gd hG u_0))) <| o_g (g_fi rfl rfl rfl (fun hG => Ze Zbx rfl rfl u_0)) <| o_g (g_fi rfl rfl rfl (fun hG => Zg ty_2 rfl rfl (Opd.gd hG u_0))) <| o_g (g_fi rfl rfl rfl (fun hG => Ze Zgn rfl rfl u_0)) <| o_g (g_fi rfl rfl rfl (fun hG => Zg ty_2 rfl rfl (Opd.gd hG u_0))) <| o_g (g_fi rfl rfl rfl (fun hG => Zcj rfl rfl (Opd.gd hG u_0) (Opd.gd hG u_1))) <| o_g (g_t rfl rfl rfl (fun hG => Zbj rfl rfl (Opd.gd hG u_0) (fun hz => (Opd.gd (bA hG (bNF hz)) u_1)))) <| o_p rfl (Zbb rfl rfl u_0 (fun hz => (Opd.gd hz u_1))) <| o_n) (by kernel_rfl) (fun a g hst hb => ?_)
       refine wp_cond_split (hst.bool 1 rfl) (fun hc8 => ?_) (fun hc8 => ?_)
       · replace H0 := Zp hc8 H0
         refine r_s (L := []) (T := [⟨[], _, [], [], [2]⟩]) (F := [.op 0 0]) (hst.pick [] rfl) hb Za
           (o_p rfl (Zc rfl rfl c_i) <| o_n) (by kernel_rfl) (fun a g hst hb => ?_)
         refine wp_ret ?_
         refine Zm ?_
         obtain rfl := Option.some.inj H0
         exact Zx rfl hst hb (Zl (s := 2)) (hst.at 0 rfl)
       · replace H0 := Zo hc8 H0
         refine wp_skip ?_
         refine Zq ?_
         refine wp_seq ?_
         obtain ⟨r9, h10, H0⟩ := Zk H0
         refine r_s (L := [(1, _)]) (T := [⟨[.old 0], _, [], [], [59]⟩, ⟨[.op 0 0], _, [], [0], [60]⟩, ⟨[.op 1 0], _, [], [0, 1], [61]⟩, ⟨[.op 2 0], _, [], [0, 1, 2], [62]⟩]) (F := [.old 0, .op 3 0]) (hst.pick [0] rfl) hb Za
           (o_p rfl (Ze Zcv rfl rfl u_0) <| o_p rfl (Zg Zby rfl rfl u_0) <| o_p rfl (Zt Zu2 (Zhv _ h10) rfl rfl (.cons u_0 .nil)) <| o_p rfl (Zb4 rfl rfl u_0) <| o_n) (by kernel_rfl) (fun a g hst hb => ?_)
         refine wp_cond_split (hst.bool 1 rfl) (fun hc11 => ?_) (fun hc11 => ?_)
         · replace H0 := Zp hc11 H0
           refine r_s (L := []) (T := [⟨[], _, [], [], [2]⟩]) (F := [.op 0 0]) (hst.pick [] rfl) hb Za
             (o_p rfl (Zc rfl rfl c_i) <| o_n) (by kernel_rfl) (fun a g hst hb => ?_)
           refine wp_ret ?_
           refine Zm ?_
           obtain rfl := Option.some.inj H0
           exact Zx rfl hst hb (Zl (s := 2)) (hst.at 0 rfl)
         · replace H0 := Zo hc11 H0
           refine wp_skip ?_
           refine Zq ?_
           refine wp_seq ?_
           refine r_s (L := [(1, _)]) (T := [⟨[.old 0], _, [], [], [63]⟩, ⟨[.op 0 0], _, [], [0], [64]⟩, ⟨[.op 1 0], _, [], [0, 1], [65]⟩]) (F := [.old 0, .op 2 0]) (hst.pick [0] rfl) hb Za
             (o_p rfl (Ze Zcx rfl rfl u_0) <| o_p rfl (Zg ty_3 rfl rfl u_0) <| o_p rfl (Zcb rfl rfl u_0 c_i) <| o_n) (by kernel_rfl) (fun a g hst hb => ?_)
           refine wp_cond_split (hst.bool 1 rfl) (fun hc12 => ?_) (fun hc12 => ?_)
           · replace H0 := Zp hc12 H0
             refine r_s (L := []) (T := [⟨[], _, [], [], [2]⟩]) (F := [.op 0 0]) (hst.pick [] rfl) hb Za
               (o_p rfl (Zc rfl rfl c_i) <| o_n) (by kernel_rfl) (fun a g hst hb => ?_)
             refine wp_ret ?_
             refine Zm ?_
             obtain rfl := Option.some.inj H0
             exact Zx rfl hst hb (Zl (s := 2)) (hst.at 0 rfl)
           · replace H0 := Zo hc12 H0
             refine wp_skip ?_
             refine Zq ?_
             refine wp_seq ?_
             refine r_s (L := [(1, _)]) (T := [⟨[.old 0], _, [], [], [66]⟩, ⟨[.op 0 0], _, [], [0], [67]⟩, ⟨[.op 1 0], _, [], [0, 1], [68]⟩, ⟨[.op 2 0], _, [], [0, 1, 2], [69]⟩, ⟨[.op 3 0, .old 0], _, [], Lr 4, [70]⟩, ⟨[.op 3 0, .op 4 0], _, [], Lr 5, [71]⟩, ⟨[.op 3 0, .op 5 0], _, [], Lr 6, [72]⟩, ⟨[.op 3 0, .op 6 0], _, [], Lr 7, [73]⟩]) (F := [.old 0, .op 7 0]) (hst.pick [0] rfl) hb Za
               (o_p rfl (Ze Zeo rfl rfl u_0) <| o_p rfl (Zg ty_3 rfl rfl u_0) <| o_p rfl (Zcb rfl rfl u_0 c_i) <| o_p rfl (Zd rfl rfl u_0) <| o_g (g_f rfl rfl rfl (fun hG => Ze Zeo rfl rfl u_0)) <| o_g (g_f rfl rfl rfl (fun hG => Zg ty_3 rfl rfl (Opd.gd hG u_0))) <| o_g (g_f rfl rfl rfl (fun hG => Zcj rfl rfl (Opd.gd hG u_0) c_i)) <| o_p rfl (Zbj rfl rfl u_0 (fun hz => (Opd.gd (bNF hz) u_1))) <| o_n) (by kernel_rfl) (fun a g hst hb => ?_)
             refine wp_cond_split (hst.bool 1 rfl) (fun hc13 => ?_) (fun hc13 => ?_)
             · replace H0 := Zp hc13 H0
               refine r_s (L := []) (T := [⟨[], _, [], [], [2]⟩]) (F := [.op 0 0]) (hst.pick [] rfl) hb Za
                 (o_p rfl (Zc rfl rfl c_i) <| o_n) (by kernel_rfl) (fun a g hst hb => ?_)
               refine wp_ret ?_
               refine Zm ?_
               obtain rfl := Option.some.inj H0
               exact Zx rfl hst hb (Zl (s := 2)) (hst.at 0 rfl)
             · replace H0 := Zo hc13 H0
               refine wp_skip ?_
               refine Zq ?_
               refine wp_seq ?_
               refine r_s (L := [(1, _)]) (T := [⟨[.old 0], _, [], [], [74]⟩, ⟨[.op 0 0], _, [], [0], [75]⟩, ⟨[.op 1 0], _, [], [0, 1], [76]⟩, ⟨[.old 0], _, [], [], [77]⟩, ⟨[.op 3 0], _, [], [3], [78]⟩, ⟨[.op 2 0, .op 4 0], _, [], Lr 5, [79]⟩]) (F := [.old 0, .op 5 0]) (hst.pick [0] rfl) hb Za
                 (o_p rfl (Ze Zbm rfl rfl u_0) <| o_p rfl (Zg Zca rfl rfl u_0) <| o_p rfl (Zcd Tryd.underlying23 rfl rfl u_0) <| o_p rfl (Ze Zeo rfl rfl u_0) <| o_p rfl (Zg ty_3 rfl rfl u_0) <| o_p rfl (Zcj rfl rfl u_0 u_1) <| o_n) (by kernel_rfl) (fun a g hst hb => ?_)
               refine wp_cond_split (hst.bool 1 rfl) (fun hc14 => ?_) (fun hc14 => ?_)
               · replace H0 := Zp hc14 H0
                 refine r_s (L := []) (T := [⟨[], _, [], [], [2]⟩]) (F := [.op 0 0]) (hst.pick [] rfl) hb Za
                   (o_p rfl (Zc rfl rfl c_i) <| o_n) (by kernel_rfl) (fun a g hst hb => ?_)
                 refine wp_ret ?_
                 refine Zm ?_
                 obtain rfl := Option.some.inj H0
                 exact Zx rfl hst hb (Zl (s := 2)) (hst.at 0 rfl)
               · replace H0 := Zo hc14 H0
                 refine wp_skip ?_
                 refine Zq ?_
                 refine wp_seq ?_
                 refine r_s (L := [(1, _)]) (T := [⟨[], _, [], [], [4]⟩]) (F := [.old 0, .op 0 0]) (hst.pick [0] rfl) hb Za
                   (o_p rfl (Zc rfl rfl c_i) <| o_n) (by kernel_rfl) (fun a g hst hb => ?_)
                 obtain ⟨z20, hz1, H0⟩ := Zk H0
                 refine Zbv (fun a w => ∃ (g : G), w = g.w ∧ St 96 [] a g ∧ Base g0 g ∧ (.inr ()) = z20) ?_ ?_
                 · rintro a w ⟨g, rfl, hst, hb, rfl⟩
                   refine Zq ?_
                   refine r_s (T := [⟨[], _, [], [], [2]⟩]) (F := [.op 0 0]) hst hb Za
                     (o_p rfl (Zc rfl rfl c_i) <| o_n) (by kernel_rfl) (fun a g hst hb => ?_)
                   refine wp_ret ?_
                   obtain rfl := Option.some.inj H0
                   exact Zx rfl hst hb (Zl (s := 2)) (hst.at 0 rfl)
                 · refine wp_block ?_
                   refine wp_loop_ghost (fun n a w => ∃ (x15 : Int) (g : G), w = g.w ∧ St 96 [(1, (Zf.ptr a0)), (4, (pInt .i64 x15))] a g ∧ Base g0 g ∧ Zdb a0 n x15 = some z20) (Int.toNat ((a0.List.length : Int) - (0 : Int)) + 1) ⟨(0 : Int), g, rfl, (hst.pick [0, 1] rfl), hb, hz1⟩ (fun n a w hI => ?_)
                   obtain ⟨x15, g, rfl, hst, hb, H1⟩ := hI
                   cases n with
                   | zero => exact absurd H1 (by simp [Zdb])
                   | succ n =>
                     rw [Zdb] at H1
                     refine wp_seq ?_
                     refine r_s (T := [⟨[.old 1], _, [], [], [80]⟩, ⟨[.old 0], _, [], [], [81]⟩, ⟨[.op 1 0], _, [], [1], [82]⟩, ⟨[.op 2 0], _, [], [1, 2], [83]⟩, ⟨[.op 0 0, .op 3 0], _, [], Lr 4, [84]⟩]) (F := [.old 0, .old 1, .op 4 0]) hst hb Za
                       (o_p rfl (Zd rfl rfl u_0) <| o_p rfl (Ze Zbm rfl rfl u_0) <| o_p rfl (Zg Zca rfl rfl u_0) <| o_p rfl (Zcd Tryd.underlying23 rfl rfl u_0) <| o_p rfl (Zcb rfl rfl u_0 u_1) <| o_n) (by kernel_rfl) (fun a g hst hb => ?_)
                     refine wp_cond_split (hst.bool 2 rfl) (fun hc16 => ?_) (fun hc16 => ?_)
                     · replace H1 := Zp hc16 H1
                       refine wp_skip ?_
                       refine Zq ?_
                       refine wp_seq ?_
                       refine wp_block ?_
                       obtain ⟨r17, h18, H1⟩ := Zk H1
                       refine r_s (L := [(1, _), (4, _)]) (T := [⟨[.old 0], _, [], [], [87]⟩, ⟨[.op 0 0], _, [], [0], [88]⟩, ⟨[.old 0], _, [], [], [89]⟩, ⟨[.op 2 0], _, [], [2], [90]⟩, ⟨[.old 1], _, [], [], [91]⟩, ⟨[.op 1 0, .op 3 0, .op 4 0], _, [], Lr 5, [92]⟩, ⟨[.op 5 0], _, [], Lr 6, [5]⟩]) (F := [.old 0, .old 1, .op 6 0]) (hst.pick [0, 1] rfl) hb Za
                         (o_p rfl (Ze Zcx rfl rfl u_0) <| o_p rfl (Zg ty_3 rfl rfl u_0) <| o_p rfl (Ze Zbm rfl rfl u_0) <| o_p rfl (Zg Zca rfl rfl u_0) <| o_p rfl (Zd rfl rfl u_0) <| o_p rfl (Zt Z3r (Znm _ _ _ h18) rfl rfl (.cons u_0 (.cons u_1 (.cons u_2 .nil)))) <| o_p rfl (Zc rfl rfl u_0) <| o_n) (by kernel_rfl) (fun a g hst hb => ?_)
                       refine r_s (T := [⟨[.old 2], _, [], [], [93]⟩, ⟨[.op 0 0], _, [], [0], [94]⟩]) (F := [.old 0, .old 1, .old 2, .op 1 0]) hst hb Za
                         (o_p rfl (Zd rfl rfl u_0) <| o_p rfl (Zdu rfl rfl u_0 c_i) <| o_n) (by kernel_rfl) (fun a g hst hb => ?_)
                       refine wp_cond_split (hst.bool 3 rfl) (fun hc19 => ?_) (fun hc19 => ?_)
                       · replace H1 := Zp hc19 H1
                         refine r_s (L := [(5, _)]) (T := [⟨[.old 0], _, [], [], [95]⟩, ⟨[.op 0 0], _, [], [0], [2]⟩]) (F := [.op 1 0]) (hst.pick [2] rfl) hb Za
                           (o_p rfl (Zd rfl rfl u_0) <| o_p rfl (Zc rfl rfl u_0) <| o_n) (by kernel_rfl) (fun a g hst hb => ?_)
                         refine wp_ret ?_
                         refine Zv ?_
                         refine Zm ?_
                         refine Zm ?_
                         refine Zv ?_
                         refine Zm ?_
                         refine Zm ?_
                         obtain rfl := Option.some.inj H1
                         obtain rfl := Option.some.inj H0
                         exact Zx rfl hst hb (Zl (s := 2)) (hst.at 0 rfl)
                       · replace H1 := Zo hc19 H1
                         refine wp_skip ?_
                         refine Z6 ?_
                         refine Zq ?_
                         refine r_g (L := [(1, _), (4, _)]) (T := [⟨[.old 1], _, [], [], [85]⟩, ⟨[.op 0 0], _, [], [0], [86]⟩, ⟨[.op 1 0], _, [], [0, 1], [4]⟩]) (F := [.old 0, .op 2 0]) (hst.pick [0, 1] rfl) hb Za
                           (o_p rfl (Zd rfl rfl u_0) <| o_p rfl (Zcg rfl rfl u_0 c_i rfl) <| o_p rfl (Zc rfl rfl u_0) <| o_n) (by kernel_rfl) (fun a g hst hb => ?_)
                         exact ⟨n, Nat.lt_succ_self _, (IntKind.i64.wrap (x15 + (1 : Int))), g, rfl, (hst.pick [0, 1] rfl), hb, H1⟩
                     · replace H1 := Zo hc16 H1
                       refine wp_exit ?_
                       refine Zcf ?_
                       refine Zcf ?_
                       refine Zc1 ?_
                       exact ⟨g, rfl, (hst.pick [] rfl), hb, Option.some.inj H1⟩
theorem Zjb (a0 : Int) {r : Int} (h : Zdp a0 = some r) : FnOk Tryd.prog 35 [(pInt .i64 a0)] (pInt .i64 r) := by
 have H0 := h
 unfold Zdp at H0
 clear h
 refine Zbq (N := 15) Tryd.func35 rfl rfl (Nat.le_of_ble_eq_true rfl) rfl rfl (fun a g0 hst hb => ?_)
 refine r_s (T := [⟨[], _, [], [], [2]⟩]) (F := [.old 0]) hst hb Za
   (o_p rfl (Zc rfl rfl c_i) <| o_n) (by kernel_rfl) (fun a g hst hb => ?_)
 refine r_s (T := [⟨[], _, [], [], [4]⟩, ⟨[.op 0 0], _, [], [0], [3]⟩]) (F := [.old 0, .op 1 0]) hst hb Za
   (o_p rfl (Zgx Z19 (xs := [.const (.int .i64 0), .const (.int .i64 0), .const (.int .i64 0), .const (.int .i64 0), .const (.int .i64 0), .const (.int .i64 1), .const (.int .i64 1), .const (.int .i64 2), .const (.int .i64 3), .const (.int .i64 3), .const (.int .i64 4), .const (.int .i64 4), .const (.int .i64 4), .const (.int .i64 5), .const (.int .i64 6), .const (.int .i64 7), .const (.int .i64 7), .const (.int .i64 7), .const (.int .i64 8), .const (.int .i64 8), .const (.int .i64 8), .const (.int .i64 9)]) (.cons c_i (.cons c_i (.cons c_i (.cons c_i (.cons c_i (.cons c_i (.cons c_i (.cons c_i (.cons c_i (.cons c_i (.cons c_i (.cons c_i (.cons c_i (.cons c_i (.cons c_i (.cons c_i (.cons c_i (.cons c_i (.cons c_i (.cons c_i (.cons c_i (.cons c_i .nil)))))))))))))))))))))) (by decide) rfl rfl) <| o_p rfl (Zc rfl rfl u_0) <| o_n) (by kernel_rfl) (fun a g hst hb => ?_)
 refine wp_seq ?_
 refine r_s (T := [⟨[.old 0], _, [], [], [5]⟩, ⟨[.op 0 0], _, [], [0], [6]⟩, ⟨[.op 1 0], _, [], [0, 1], [7]⟩, ⟨[.op 2 0, .old 0], _, [], [0, 1, 2], [8]⟩, ⟨[.op 2 0, .op 3 0], _, [], Lr 4, [9]⟩, ⟨[.op 2 0, .op 4 0], _, [], Lr 5, [10]⟩]) (F := [.old 0, .old 1, .op 5 0]) hst hb Za
   (o_p rfl (Zd rfl rfl u_0) <| o_p rfl (Zcb rfl rfl u_0 c_i) <| o_p rfl (Zd rfl rfl u_0) <| o_g (g_f rfl rfl rfl (fun hG => Zd rfl rfl u_0)) <| o_g (g_f rfl rfl rfl (fun hG => Zcj rfl rfl (Opd.gd hG u_0) c_i)) <| o_p rfl (Zbj rfl rfl u_0 (fun hz => (Opd.gd (bNF hz) u_1))) <| o_n) (by kernel_rfl) (fun a g hst hb => ?_)
 refine wp_cond_split (hst.bool 2 rfl) (fun hc1 => ?_) (fun hc1 => ?_)
 · replace H0 := Zp hc1 H0
   refine r_s (L := []) (T := [⟨[], _, [], [], [2]⟩]) (F := [.op 0 0]) (hst.pick [] rfl) hb Za
     (o_p rfl (Zc rfl rfl c_i) <| o_n) (by kernel_rfl) (fun a g hst hb => ?_)
   refine wp_ret ?_
   refine Zm ?_
   obtain rfl := Option.some.inj H0
   exact Zx rfl hst hb (Zl (s := 2)) (hst.at 0 rfl)
 · replace H0 := Zo hc1 H0
   refine wp_skip ?_
   refine Zq ?_
   obtain ⟨e2, h3, H0⟩ := Zk H0
   refine r_s (L := [(0, _), (3, _)]) (T := [⟨[.old 1], _, [], [], [11]⟩, ⟨[.old 0], _, [], [], [12]⟩, ⟨[.op 0 0, .op 1 0], _, [], [0, 1], [13]⟩, ⟨[.op 2 0], _, [], [0, 1, 2], [14]⟩, ⟨[.op 3 0], _, [], Lr 4, [2]⟩]) (F := [.op 4 0]) (hst.pick [0, 1] rfl) hb Za
     (o_p rfl (Zd rfl rfl u_0) <| o_p rfl (Zd rfl rfl u_0) <| o_p rfl (Zbh Tryd.underlying110 sz_3 rfl rfl u_0 u_1 h3) <| o_p rfl (Zg ty_3 rfl rfl u_0) <| o_p rfl (Zc rfl rfl u_0) <| o_n) (by kernel_rfl) (fun a g hst hb => ?_)
   refine wp_ret ?_
   obtain rfl := Option.some.inj H0
   exact Zx rfl hst hb (Zl (s := 2)) (hst.at 0 rfl)
theorem Zma (a0 : Int) {r : ByteArray} (h : Ziy a0 = some r) : FnOk Tryd.prog 75 [(pInt .i64 a0)] (pStr r) := by
 have H0 := h
 unfold Ziy at H0
 clear h
 refine Zbq (N := 15) Tryd.func75 rfl rfl (Nat.le_of_ble_eq_true rfl) rfl rfl (fun a g0 hst hb => ?_)
 refine r_s (T := [⟨[], _, [], [], [2]⟩]) (F := [.old 0]) hst hb Za
   (o_p rfl (Zc rfl rfl c_s) <| o_n) (by kernel_rfl) (fun a g hst hb => ?_)
 refine r_s (T := [⟨[], _, [], [], [4]⟩, ⟨[.op 0 0], _, [], [0], [3]⟩]) (F := [.old 0, .op 1 0]) hst hb Za
   (o_p rfl (Zgx Zwq (xs := [.const (.string ⟨#[]⟩), .const (.string ⟨#[109]⟩), .const (.string ⟨#[]⟩), .const (.string ⟨#[]⟩), .const (.string ⟨#[]⟩), .const (.string ⟨#[115]⟩), .const (.string ⟨#[115]⟩), .const (.string ⟨#[110]⟩), .const (.string ⟨#[110]⟩), .const (.string ⟨#[110]⟩), .const (.string ⟨#[110]⟩), .const (.string ⟨#[110]⟩), .const (.string ⟨#[110]⟩), .const (.string ⟨#[120]⟩), .const (.string ⟨#[120]⟩), .const (.string ⟨#[120]⟩), .const (.string ⟨#[120]⟩), .const (.string ⟨#[120]⟩), .const (.string ⟨#[115]⟩), .const (.string ⟨#[115]⟩), .const (.string ⟨#[115]⟩), .const (.string ⟨#[120, 115]⟩)]) (.cons c_s (.cons c_s (.cons c_s (.cons c_s (.cons c_s (.cons c_s (.cons c_s (.cons c_s (.cons c_s (.cons c_s (.cons c_s (.cons c_s (.cons c_s (.cons c_s (.cons c_s (.cons c_s (.cons c_s (.cons c_s (.cons c_s (.cons c_s (.cons c_s (.cons c_s .nil)))))))))))))))))))))) (by decide) rfl rfl) <| o_p rfl (Zc rfl rfl u_0) <| o_n) (by kernel_rfl) (fun a g hst hb => ?_)
 refine wp_seq ?_
 refine r_s (T := [⟨[.old 0], _, [], [], [5]⟩, ⟨[.op 0 0], _, [], [0], [6]⟩, ⟨[.op 1 0], _, [], [0, 1], [7]⟩, ⟨[.op 2 0, .old 0], _, [], [0, 1, 2], [8]⟩, ⟨[.op 2 0, .op 3 0], _, [], Lr 4, [9]⟩, ⟨[.op 2 0, .op 4 0], _, [], Lr 5, [10]⟩]) (F := [.old 0, .old 1, .op 5 0]) hst hb Za
   (o_p rfl (Zd rfl rfl u_0) <| o_p rfl (Zcb rfl rfl u_0 c_i) <| o_p rfl (Zd rfl rfl u_0) <| o_g (g_f rfl rfl rfl (fun hG => Zd rfl rfl u_0)) <| o_g (g_f rfl rfl rfl (fun hG => Zcj rfl rfl (Opd.gd hG u_0) c_i)) <| o_p rfl (Zbj rfl rfl u_0 (fun hz => (Opd.gd (bNF hz) u_1))) <| o_n) (by kernel_rfl) (fun a g hst hb => ?_)
 refine wp_cond_split (hst.bool 2 rfl) (fun hc1 => ?_) (fun hc1 => ?_)
 · replace H0 := Zp hc1 H0
   refine r_s (L := []) (T := [⟨[], _, [], [], [2]⟩]) (F := [.op 0 0]) (hst.pick [] rfl) hb Za
     (o_p rfl (Zc rfl rfl c_s) <| o_n) (by kernel_rfl) (fun a g hst hb => ?_)
   refine wp_ret ?_
   refine Zm ?_
   obtain rfl := Option.some.inj H0
   exact Zx rfl hst hb (Zl (s := 2)) (hst.at 0 rfl)
 · replace H0 := Zo hc1 H0
   refine wp_skip ?_
   refine Zq ?_
   obtain ⟨e2, h3, H0⟩ := Zk H0
   refine r_s (L := [(0, _), (3, _)]) (T := [⟨[.old 1], _, [], [], [11]⟩, ⟨[.old 0], _, [], [], [12]⟩, ⟨[.op 0 0, .op 1 0], _, [], [0, 1], [13]⟩, ⟨[.op 2 0], _, [], [0, 1, 2], [14]⟩, ⟨[.op 3 0], _, [], Lr 4, [2]⟩]) (F := [.op 4 0]) (hst.pick [0, 1] rfl) hb Za
     (o_p rfl (Zd rfl rfl u_0) <| o_p rfl (Zd rfl rfl u_0) <| o_p rfl (Zbh Tryd.underlying122 sz_9 rfl rfl u_0 u_1 h3) <| o_p rfl (Zg ty_9 rfl rfl u_0) <| o_p rfl (Zc rfl rfl u_0) <| o_n) (by kernel_rfl) (fun a g hst hb => ?_)
   refine wp_ret ?_
   obtain rfl := Option.some.inj H0
   exact Zx rfl hst hb (Zl (s := 2)) (hst.at 0 rfl)
theorem Ziw (a0 : Int) (a1 : Int) {r : Bool} (h : Zdd a0 a1 = some r) : FnOk Tryd.prog 48 [(pInt .i64 a0), (pInt .u8 a1)] (Zba r) := by
 have H0 := h
 unfold Zdd at H0
 clear h
 refine Zbq (N := 20) Tryd.func48 rfl rfl (Nat.le_of_ble_eq_true rfl) rfl rfl (fun a g0 hst hb => ?_)
 refine r_s (T := [⟨[], _, [], [], [4]⟩]) (F := [.old 0, .old 1]) hst hb Za
   (o_p rfl (Zc rfl rfl c_b) <| o_n) (by kernel_rfl) (fun a g hst hb => ?_)
 obtain ⟨r1, h2, H0⟩ := Zk H0
 refine r_s (T := [⟨[.old 0], _, [], [], [7]⟩, ⟨[.op 0 0], _, [], [0], [8]⟩, ⟨[.op 1 0], _, [], [0, 1], [5]⟩]) (F := [.old 1, .op 2 0]) hst hb Za
   (o_p rfl (Zd rfl rfl u_0) <| o_p rfl (Zt Z22 (Zma _ h2) rfl rfl (.cons u_0 .nil)) <| o_p rfl (Zc rfl rfl u_0) <| o_n) (by kernel_rfl) (fun a g hst hb => ?_)
 refine wp_seq ?_
 refine r_s (T := [⟨[], _, [], [], [6]⟩]) (F := [.old 0, .old 1, .op 0 0]) hst hb Za
   (o_p rfl (Zc rfl rfl c_i) <| o_n) (by kernel_rfl) (fun a g hst hb => ?_)
 obtain ⟨z8, hz1, H0⟩ := Zk H0
 refine Zbv (fun a w => ∃ (g : G), w = g.w ∧ St 20 [] a g ∧ Base g0 g ∧ (.inr ()) = z8) ?_ ?_
 · rintro a w ⟨g, rfl, hst, hb, rfl⟩
   refine Zq ?_
   refine r_s (T := [⟨[], _, [], [], [4]⟩]) (F := [.op 0 0]) hst hb Za
     (o_p rfl (Zc rfl rfl c_b) <| o_n) (by kernel_rfl) (fun a g hst hb => ?_)
   refine wp_ret ?_
   obtain rfl := Option.some.inj H0
   exact Zx rfl hst hb (Zl (s := 4)) (hst.at 0 rfl)
 · refine wp_block ?_
   refine wp_loop_ghost (fun n a w => ∃ (x3 : Int) (g : G), w = g.w ∧ St 20 [(1, (pInt .u8 a1)), (5, (pStr r1)), (6, (pInt .i64 x3))] a g ∧ Base g0 g ∧ Zfz a1 r1 n x3 = some z8) (Int.toNat ((r1.size : Int) - (0 : Int)) + 1) ⟨(0 : Int), g, rfl, (hst.pick [0, 1, 2] rfl), hb, hz1⟩ (fun n a w hI => ?_)
   obtain ⟨x3, g, rfl, hst, hb, H1⟩ := hI
   cases n with
   | zero => exact absurd H1 (by simp [Zfz])
   | succ n =>
     rw [Zfz] at H1
     refine wp_seq ?_
     refine r_s (T := [⟨[.old 2], _, [], [], [9]⟩, ⟨[.old 1], _, [], [], [10]⟩, ⟨[.op 1 0], _, [], [1], [11]⟩, ⟨[.op 0 0, .op 2 0], _, [], [0, 1, 2], [12]⟩]) (F := [.old 0, .old 1, .old 2, .op 3 0]) hst hb Za
       (o_p rfl (Zd rfl rfl u_0) <| o_p rfl (Zd rfl rfl u_0) <| o_p rfl (Ze8 Tryd.underlying9 rfl rfl u_0) <| o_p rfl (Zcb rfl rfl u_0 u_1) <| o_n) (by kernel_rfl) (fun a g hst hb => ?_)
     refine wp_cond_split (hst.bool 3 rfl) (fun hc4 => ?_) (fun hc4 => ?_)
     · replace H1 := Zp hc4 H1
       refine wp_skip ?_
       refine Zq ?_
       refine wp_seq ?_
       refine wp_block ?_
       obtain ⟨b5, h6, H1⟩ := Zk H1
       refine r_s (L := [(1, _), (5, _), (6, _)]) (T := [⟨[.old 1], _, [], [], [15]⟩, ⟨[.old 2], _, [], [], [16]⟩, ⟨[.op 0 0, .op 1 0], _, [], [0, 1], [17]⟩, ⟨[.old 0], _, [], [], [18]⟩, ⟨[.op 2 0, .op 3 0], _, [], Lr 4, [19]⟩]) (F := [.old 0, .old 1, .old 2, .op 4 0]) (hst.pick [0, 1, 2] rfl) hb Za
         (o_p rfl (Zd rfl rfl u_0) <| o_p rfl (Zd rfl rfl u_0) <| o_p rfl (Zkh Tryd.underlying9 rfl rfl u_0 u_1 h6) <| o_p rfl (Zd rfl rfl u_0) <| o_p rfl (Z7 rfl rfl u_0 u_1) <| o_n) (by kernel_rfl) (fun a g hst hb => ?_)
       refine wp_cond_split (hst.bool 3 rfl) (fun hc7 => ?_) (fun hc7 => ?_)
       · replace H1 := Zp hc7 H1
         refine r_s (L := []) (T := [⟨[], _, [], [], [4]⟩]) (F := [.op 0 0]) (hst.pick [] rfl) hb Za
           (o_p rfl (Zc rfl rfl c_b) <| o_n) (by kernel_rfl) (fun a g hst hb => ?_)
         refine wp_ret ?_
         refine Zv ?_
         refine Zm ?_
         refine Zm ?_
         refine Zv ?_
         refine Zm ?_
         refine Zm ?_
         obtain rfl := Option.some.inj H1
         obtain rfl := Option.some.inj H0
         exact Zx rfl hst hb (Zl (s := 4)) (hst.at 0 rfl)
       · replace H1 := Zo hc7 H1
         refine wp_skip ?_
         refine Z6 ?_
         refine Zq ?_
         refine r_g (L := [(1, _), (5, _), (6, _)]) (T := [⟨[.old 2], _, [], [], [13]⟩, ⟨[.op 0 0], _, [], [0], [14]⟩, ⟨[.op 1 0], _, [], [0, 1], [6]⟩]) (F := [.old 0, .old 1, .op 2 0]) (hst.pick [0, 1, 2] rfl) hb Za
           (o_p rfl (Zd rfl rfl u_0) <| o_p rfl (Zcg rfl rfl u_0 c_i rfl) <| o_p rfl (Zc rfl rfl u_0) <| o_n) (by kernel_rfl) (fun a g hst hb => ?_)
         exact ⟨n, Nat.lt_succ_self _, (IntKind.i64.wrap (x3 + (1 : Int))), g, rfl, (hst.pick [0, 1, 2] rfl), hb, H1⟩
     · replace H1 := Zo hc4 H1
       refine wp_exit ?_
       refine Zcf ?_
       refine Zcf ?_
       refine Zc1 ?_
       exact ⟨g, rfl, (hst.pick [] rfl), hb, Option.some.inj H1⟩
theorem Zm7 (a0 : Zs) {r : Int} (h : Zea a0 = some r) : FnOk Tryd.prog 22 [(Zw.pd a0)] (pInt .i64 r) := by
 have H0 := h
 unfold Zea at H0
 clear h
 refine Zbq (N := 113) Tryd.func22 rfl rfl (Nat.le_of_ble_eq_true rfl) rfl rfl (fun a g0 hst hb => ?_)
 refine r_s (T := [⟨[.old 0], _, [], [], [1]⟩, ⟨[], _, [], [], [2]⟩]) (F := [.op 0 0]) hst hb Za
   (o_p rfl (Zbs rfl rfl u_0) <| o_p rfl (Zc rfl rfl c_i) <| o_n) (by kernel_rfl) (fun a g hst hb => ?_)
 refine wp_seq ?_
 refine r_s (T := [⟨[.old 0], _, [], [], [3]⟩, ⟨[.op 0 0], _, [], [0], [4]⟩, ⟨[.op 1 0], _, [], [0, 1], [5]⟩, ⟨[.op 2 0], _, [], [0, 1, 2], [6]⟩, ⟨[.op 3 0, .old 0], _, [], Lr 4, [7]⟩, ⟨[.op 3 0, .op 4 0], _, [], Lr 5, [8]⟩, ⟨[.op 3 0, .op 5 0], _, [], Lr 6, [9]⟩, ⟨[.op 3 0, .op 6 0], _, [], Lr 7, [10]⟩]) (F := [.old 0, .op 7 0]) hst hb Za
   (o_p rfl (Ze Zb9 rfl rfl u_0) <| o_p rfl (Zg ty_3 rfl rfl u_0) <| o_p rfl (Zcb rfl rfl u_0 c_i) <| o_p rfl (Zd rfl rfl u_0) <| o_g (g_f rfl rfl rfl (fun hG => Ze Zb9 rfl rfl u_0)) <| o_g (g_f rfl rfl rfl (fun hG => Zg ty_3 rfl rfl (Opd.gd hG u_0))) <| o_g (g_f rfl rfl rfl (fun hG => Zcj rfl rfl (Opd.gd hG u_0) c_i)) <| o_p rfl (Zbj rfl rfl u_0 (fun hz => (Opd.gd (bNF hz) u_1))) <| o_n) (by kernel_rfl) (fun a g hst hb => ?_)
 refine wp_cond_split (hst.bool 1 rfl) (fun hc1 => ?_) (fun hc1 => ?_)
 · replace H0 := Zp hc1 H0
   refine r_s (L := []) (T := [⟨[], _, [], [], [2]⟩]) (F := [.op 0 0]) (hst.pick [] rfl) hb Za
     (o_p rfl (Zc rfl rfl c_i) <| o_n) (by kernel_rfl) (fun a g hst hb => ?_)
   refine wp_ret ?_
   refine Zm ?_
   obtain rfl := Option.some.inj H0
   exact Zx rfl hst hb (Zl (s := 2)) (hst.at 0 rfl)
 · replace H0 := Zo hc1 H0
   refine wp_skip ?_
   refine Zq ?_
   refine wp_seq ?_
   refine r_s (L := [(1, _)]) (T := [⟨[.old 0], _, [], [], [11]⟩, ⟨[.op 0 0], _, [], [0], [12]⟩, ⟨[.op 1 0], _, [], [0, 1], [13]⟩, ⟨[.op 2 0], _, [], [0, 1, 2], [14]⟩, ⟨[.op 3 0], _, [], Lr 4, [15]⟩, ⟨[.op 4 0, .old 0], _, [], Lr 5, [16]⟩, ⟨[.op 4 0, .op 5 0], _, [], Lr 6, [17]⟩, ⟨[.op 4 0, .op 6 0], _, [], Lr 7, [18]⟩, ⟨[.op 4 0, .op 7 0], _, [], Lr 8, [19]⟩, ⟨[.op 4 0, .op 8 0], _, [], Lr 9, [20]⟩]) (F := [.old 0, .op 9 0]) (hst.pick [0] rfl) hb Za
     (o_p rfl (Ze Zmb rfl rfl u_0) <| o_p rfl (Zg ty_9 rfl rfl u_0) <| o_p rfl (Ze8 Tryd.underlying9 rfl rfl u_0) <| o_p rfl (Zcb rfl rfl u_0 c_i) <| o_p rfl (Zd rfl rfl u_0) <| o_g (g_f rfl rfl rfl (fun hG => Ze Zmb rfl rfl u_0)) <| o_g (g_f rfl rfl rfl (fun hG => Zg ty_9 rfl rfl (Opd.gd hG u_0))) <| o_g (g_f rfl rfl rfl (fun hG => Ze8 Tryd.underlying9 rfl rfl (Opd.gd hG u_0))) <| o_g (g_f rfl rfl rfl (fun hG => Zcj rfl rfl (Opd.gd hG u_0) c_i)) <| o_p rfl (Zbj rfl rfl u_0 (fun hz => (Opd.gd (bNF hz) u_1))) <| o_n) (by kernel_rfl) (fun a g hst hb => ?_)
   refine wp_cond_split (hst.bool 1 rfl) (fun hc2 => ?_) (fun hc2 => ?_)
   · replace H0 := Zp hc2 H0
     refine r_s (L := []) (T := [⟨[], _, [], [], [2]⟩]) (F := [.op 0 0]) (hst.pick [] rfl) hb Za
       (o_p rfl (Zc rfl rfl c_i) <| o_n) (by kernel_rfl) (fun a g hst hb => ?_)
     refine wp_ret ?_
     refine Zm ?_
     obtain rfl := Option.some.inj H0
     exact Zx rfl hst hb (Zl (s := 2)) (hst.at 0 rfl)
   · replace H0 := Zo hc2 H0
     refine wp_skip ?_
     refine Zq ?_
     refine wp_seq ?_
     obtain ⟨r3, h4, H0⟩ := Zk H0; obtain ⟨r5, h6, H0⟩ := Zk H0; obtain ⟨r7, h8, H0⟩ := Zk H0; obtain ⟨r9, h10, H0⟩ := Zk H0
     refine r_s (L := [(1, _)]) (T := ⟨[.old 0], _, [], [], [21]⟩ :: ⟨[.op 0 0], _, [], [0], [22]⟩ :: ⟨[.op 1 0], _, [], [0, 1], [23]⟩ :: ⟨[.op 2 0], _, [], [0, 1, 2], [24]⟩ :: ⟨[.op 3 0], _, [], Lr 4, [25]⟩ :: ⟨[.op 4 0, .old 0], _, [], Lr 5, [26]⟩ :: ⟨[.op 4 0, .op 5 0], _, [], Lr 6, [27]⟩ :: ⟨[.op 4 0, .op 6 0], _, [], Lr 7, [28]⟩ :: ⟨[.op 4 0, .op 7 0], _, [], Lr 8, [29]⟩ :: ⟨[.op 8 0], _, [], Lr 9, [30]⟩ :: ⟨[.op 9 0, .old 0], _, [], Lr 10, [31]⟩ :: ⟨[.op 9 0, .op 10 0], _, [], Lr 11, [32]⟩ :: ⟨[.op 9 0, .op 11 0], _, [], Lr 12, [33]⟩ :: ⟨[.op 9 0, .op 12 0], _, [], Lr 13, [34]⟩ :: ⟨[.op 9 0, .op 13 0], _, [], Lr 14, [35]⟩ :: ⟨[.op 14 0, .old 0], _, [], Lr 15, [36]⟩ :: ⟨[.op 14 0, .op 15 0], _, [], Lr 16, [37]⟩ :: ⟨[.op 14 0, .op 16 0], _, [], Lr 17, [38]⟩ :: ⟨[.op 14 0, .op 17 0], _, [], Lr 18, [39]⟩ :: ⟨[.op 9 0, .op 14 0, .op 18 0], _, [], Lr 19, [40]⟩ :: ⟨[.op 9 0, .op 19 0], _, [], Lr 20, [41]⟩ :: ⟨[.op 20 0], _, [], Lr 21, [42]⟩ :: ⟨[.op 21 0, .old 0], _, [], Lr 22, [43]⟩ :: ⟨[.op 21 0, .op 22 0], _, [], Lr 23, [44]⟩ :: ⟨[.op 21 0, .op 23 0], _, [], Lr 24, [45]⟩ :: ⟨[.op 21 0, .op 24 0], _, [], Lr 25, [46]⟩ :: ⟨[.op 21 0, .op 25 0], _, [], Lr 26, [47]⟩ :: ⟨[.op 26 0, .old 0], _, [], Lr 27, [48]⟩ :: ⟨[.op 26 0, .op 27 0], _, [], Lr 28, [49]⟩ :: ⟨[.op 26 0, .op 28 0], _, [], Lr 29, [50]⟩ :: ⟨[.op 21 0, .op 26 0, .op 29 0], _, [], Lr 30, [51]⟩ :: ⟨[.op 21 0, .op 30 0], _, [], Lr 31, [52]⟩ :: []) (F := [.old 0, .op 31 0]) (hst.pick [0] rfl) hb Za
       (o_p rfl (Ze Zb9 rfl rfl u_0) <| o_p rfl (Zg ty_3 rfl rfl u_0) <| o_p rfl (Zt Zu5 (Ziw _ _ h4) rfl rfl (.cons u_0 (.cons c_i .nil))) <| o_p rfl (Zb4 rfl rfl u_0) <| o_p rfl (Zd rfl rfl u_0) <| o_g (g_t rfl rfl rfl (fun hG => Ze Zcq rfl rfl u_0)) <| o_g (g_t rfl rfl rfl (fun hG => Zg ty_2 rfl rfl (Opd.gd hG u_0))) <| o_g (g_t rfl rfl rfl (fun hG => Zdu rfl rfl (Opd.gd hG u_0) c_i)) <| o_p rfl (Zbb rfl rfl u_0 (fun hz => (Opd.gd hz u_1))) <| o_p rfl (Zd rfl rfl u_0) <| o_g (g_f rfl rfl rfl (fun hG => Ze Zb9 rfl rfl u_0)) <| o_g (g_f rfl rfl rfl (fun hG => Zg ty_3 rfl rfl (Opd.gd hG u_0))) <| o_g (g_f rfl rfl rfl (fun hG => Zt Zu5 (Ziw _ _ (Zbn h6 hG)) rfl rfl (.cons (Opd.gd hG u_0) (.cons c_i .nil)))) <| o_g (g_f rfl rfl rfl (fun hG => Zb4 rfl rfl (Opd.gd hG u_0))) <| o_g (g_f rfl rfl rfl (fun hG => Zd rfl rfl (Opd.gd hG u_0))) <| o_g (g_ti rfl rfl rfl (fun hG => Ze Zgm rfl rfl u_0)) <| o_g (g_ti rfl rfl rfl (fun hG => Zg Zby rfl rfl (Opd.gd hG u_0))) <| o_g (g_ti rfl rfl rfl (fun hG => Zt Zon (Ze1 _ _ (Zbn h8 hG)) rfl rfl (.cons (Opd.gd hG u_0) (.cons c_f .nil)))) <| o_g (g_ti rfl rfl rfl (fun hG => Zb4 rfl rfl (Opd.gd hG u_0))) <| o_g (g_f rfl rfl rfl (fun hG => Zbb rfl rfl (Opd.gd hG u_0) (fun hz => (Opd.gd (bA hG hz) u_1)))) <| o_p rfl (Zbj rfl rfl u_0 (fun hz => (Opd.gd (bNF hz) u_1))) <| o_p rfl (Zd rfl rfl u_0) <| o_g (g_f rfl rfl rfl (fun hG => Ze Zb9 rfl rfl u_0)) <| o_g (g_f rfl rfl rfl (fun hG => Zg ty_3 rfl rfl (Opd.gd hG u_0))) <| o_g (g_f rfl rfl rfl (fun hG => Zt Zu5 (Ziw _ _ (Zbn h10 hG)) rfl rfl (.cons (Opd.gd hG u_0) (.cons c_i .nil)))) <| o_g (g_f rfl rfl rfl (fun hG => Zb4 rfl rfl (Opd.gd hG u_0))) <| o_g (g_f rfl rfl rfl (fun hG => Zd rfl rfl (Opd.gd hG u_0))) <| o_g (g_ti rfl rfl rfl (fun hG => Ze Zd7 rfl rfl u_0)) <| o_g (g_ti rfl rfl rfl (fun hG => Zg ty_9 rfl rfl (Opd.gd hG u_0))) <| o_g (g_ti rfl rfl rfl (fun hG => Zod rfl rfl (Opd.gd hG u_0) c_s)) <| o_g (g_f rfl rfl rfl (fun hG => Zbb rfl rfl (Opd.gd hG u_0) (fun hz => (Opd.gd (bA hG hz) u_1)))) <| o_p rfl (Zbj rfl rfl u_0 (fun hz => (Opd.gd (bNF hz) u_1))) <| o_n) (by kernel_rfl) (fun a g hst hb => ?_)
     refine wp_cond_split (hst.bool 1 rfl) (fun hc11 => ?_) (fun hc11 => ?_)
     · replace H0 := Zp hc11 H0
       refine r_s (L := []) (T := [⟨[], _, [], [], [2]⟩]) (F := [.op 0 0]) (hst.pick [] rfl) hb Za
         (o_p rfl (Zc rfl rfl c_i) <| o_n) (by kernel_rfl) (fun a g hst hb => ?_)
       refine wp_ret ?_
       refine Zm ?_
       obtain rfl := Option.some.inj H0
       exact Zx rfl hst hb (Zl (s := 2)) (hst.at 0 rfl)
     · replace H0 := Zo hc11 H0
       refine wp_skip ?_
       refine Zq ?_
       refine wp_seq ?_
       obtain ⟨r12, h13, H0⟩ := Zk H0
       refine r_s (L := [(1, _)]) (T := [⟨[.old 0], _, [], [], [53]⟩, ⟨[.op 0 0], _, [], [0], [54]⟩, ⟨[.op 1 0], _, [], [0, 1], [55]⟩, ⟨[.op 2 0], _, [], [0, 1, 2], [56]⟩, ⟨[.op 3 0, .old 0], _, [], Lr 4, [57]⟩, ⟨[.op 3 0, .op 4 0], _, [], Lr 5, [58]⟩, ⟨[.op 3 0], _, [], Lr 4, [59]⟩, ⟨[.op 3 0, .op 5 0, .op 6 0], _, [], Lr 7, [60]⟩, ⟨[.op 3 0, .op 7 0], _, [], Lr 8, [61]⟩, ⟨[.op 3 0, .op 8 0], _, [], Lr 9, [62]⟩]) (F := [.old 0, .op 9 0]) (hst.pick [0] rfl) hb Za
         (o_p rfl (Ze Zb9 rfl rfl u_0) <| o_p rfl (Zg ty_3 rfl rfl u_0) <| o_p rfl (Zdu rfl rfl u_0 c_i) <| o_p rfl (Zd rfl rfl u_0) <| o_g (g_t rfl rfl rfl (fun hG => Ze Zkd rfl rfl u_0)) <| o_g (g_t rfl rfl rfl (fun hG => Zg Z0 rfl rfl (Opd.gd hG u_0))) <| o_g (g_t rfl rfl rfl (fun hG => Zkt rfl rfl )) <| o_g (g_t rfl rfl rfl (fun hG => Zt Zvm (Zip _ _ (Zbn h13 hG)) rfl rfl (.cons (Opd.gd hG u_0) (.cons (Opd.gd hG u_1) .nil)))) <| o_g (g_t rfl rfl rfl (fun hG => Zb4 rfl rfl (Opd.gd hG u_0))) <| o_p rfl (Zbb rfl rfl u_0 (fun hz => (Opd.gd hz u_1))) <| o_n) (by kernel_rfl) (fun a g hst hb => ?_)
       refine wp_cond_split (hst.bool 1 rfl) (fun hc14 => ?_) (fun hc14 => ?_)
       · replace H0 := Zp hc14 H0
         refine r_s (L := []) (T := [⟨[], _, [], [], [2]⟩]) (F := [.op 0 0]) (hst.pick [] rfl) hb Za
           (o_p rfl (Zc rfl rfl c_i) <| o_n) (by kernel_rfl) (fun a g hst hb => ?_)
         refine wp_ret ?_
         refine Zm ?_
         obtain rfl := Option.some.inj H0
         exact Zx rfl hst hb (Zl (s := 2)) (hst.at 0 rfl)
       · replace H0 := Zo hc14 H0
         refine wp_skip ?_
         refine Zq ?_
         refine wp_seq ?_
         obtain ⟨r15, h16, H0⟩ := Zk H0; obtain ⟨r17, h18, H0⟩ := Zk H0
         refine r_s (L := [(1, _)]) (T := ⟨[.old 0], _, [], [], [63]⟩ :: ⟨[.op 0 0], _, [], [0], [64]⟩ :: ⟨[.op 1 0], _, [], [0, 1], [65]⟩ :: ⟨[.op 2 0], _, [], [0, 1, 2], [66]⟩ :: ⟨[.op 3 0], _, [], Lr 4, [67]⟩ :: ⟨[.op 4 0, .old 0], _, [], Lr 5, [68]⟩ :: ⟨[.op 4 0, .op 5 0], _, [], Lr 6, [69]⟩ :: ⟨[.op 4 0, .op 6 0], _, [], Lr 7, [70]⟩ :: ⟨[.op 4 0, .op 7 0], _, [], Lr 8, [71]⟩ :: ⟨[.op 4 0, .op 8 0], _, [], Lr 9, [72]⟩ :: ⟨[.op 9 0], _, [], Lr 10, [73]⟩ :: ⟨[.op 10 0, .old 0], _, [], Lr 11, [74]⟩ :: ⟨[.op 10 0, .op 11 0], _, [], Lr 12, [75]⟩ :: ⟨[.op 10 0, .op 12 0], _, [], Lr 13, [76]⟩ :: ⟨[.op 10 0, .op 13 0], _, [], Lr 14, [77]⟩ :: ⟨[.op 10 0, .op 14 0], _, [], Lr 15, [78]⟩ :: ⟨[.op 15 0, .old 0], _, [], Lr 16, [79]⟩ :: ⟨[.op 15 0, .op 16 0], _, [], Lr 17, [80]⟩ :: ⟨[.op 15 0, .op 17 0], _, [], Lr 18, [81]⟩ :: ⟨[.op 15 0, .op 18 0], _, [], Lr 19, [82]⟩ :: ⟨[.op 10 0, .op 15 0, .op 19 0], _, [], Lr 20, [83]⟩ :: ⟨[.op 10 0, .op 20 0], _, [], Lr 21, [84]⟩ :: []) (F := [.old 0, .op 21 0]) (hst.pick [0] rfl) hb Za
           (o_p rfl (Ze Zb9 rfl rfl u_0) <| o_p rfl (Zg ty_3 rfl rfl u_0) <| o_p rfl (Zt Zvo (Zjb _ h16) rfl rfl (.cons u_0 .nil)) <| o_p rfl (Z7 rfl rfl u_0 c_i) <| o_p rfl (Zd rfl rfl u_0) <| o_g (g_t rfl rfl rfl (fun hG => Ze Zd7 rfl rfl u_0)) <| o_g (g_t rfl rfl rfl (fun hG => Zg ty_9 rfl rfl (Opd.gd hG u_0))) <| o_g (g_t rfl rfl rfl (fun hG => Ze8 Tryd.underlying9 rfl rfl (Opd.gd hG u_0))) <| o_g (g_t rfl rfl rfl (fun hG => Zcj rfl rfl (Opd.gd hG u_0) c_i)) <| o_p rfl (Zbb rfl rfl u_0 (fun hz => (Opd.gd hz u_1))) <| o_p rfl (Zd rfl rfl u_0) <| o_g (g_f rfl rfl rfl (fun hG => Ze Zb9 rfl rfl u_0)) <| o_g (g_f rfl rfl rfl (fun hG => Zg ty_3 rfl rfl (Opd.gd hG u_0))) <| o_g (g_f rfl rfl rfl (fun hG => Zt Zvo (Zjb _ (Zbn h18 hG)) rfl rfl (.cons (Opd.gd hG u_0) .nil))) <| o_g (g_f rfl rfl rfl (fun hG => Zdu rfl rfl (Opd.gd hG u_0) c_i)) <| o_g (g_f rfl rfl rfl (fun hG => Zd rfl rfl (Opd.gd hG u_0))) <| o_g (g_ti rfl rfl rfl (fun hG => Ze Zd7 rfl rfl u_0)) <| o_g (g_ti rfl rfl rfl (fun hG => Zg ty_9 rfl rfl (Opd.gd hG u_0))) <| o_g (g_ti rfl rfl rfl (fun hG => Ze8 Tryd.underlying9 rfl rfl (Opd.gd hG u_0))) <| o_g (g_ti rfl rfl rfl (fun hG => Zcj rfl rfl (Opd.gd hG u_0) c_i)) <| o_g (g_f rfl rfl rfl (fun hG => Zbb rfl rfl (Opd.gd hG u_0) (fun hz => (Opd.gd (bA hG hz) u_1)))) <| o_p rfl (Zbj rfl rfl u_0 (fun hz => (Opd.gd (bNF hz) u_1))) <| o_n) (by kernel_rfl) (fun a g hst hb => ?_)
         refine wp_cond_split (hst.bool 1 rfl) (fun hc19 => ?_) (fun hc19 => ?_)
         · replace H0 := Zp hc19 H0
           refine r_s (L := []) (T := [⟨[], _, [], [], [2]⟩]) (F := [.op 0 0]) (hst.pick [] rfl) hb Za
             (o_p rfl (Zc rfl rfl c_i) <| o_n) (by kernel_rfl) (fun a g hst hb => ?_)
           refine wp_ret ?_
           refine Zm ?_
           obtain rfl := Option.some.inj H0
           exact Zx rfl hst hb (Zl (s := 2)) (hst.at 0 rfl)
         · replace H0 := Zo hc19 H0
           refine wp_skip ?_
           refine Zq ?_
           refine wp_seq ?_
           refine r_s (L := [(1, _)]) (T := ⟨[.old 0], _, [], [], [85]⟩ :: ⟨[.op 0 0], _, [], [0], [86]⟩ :: ⟨[.op 1 0], _, [], [0, 1], [87]⟩ :: ⟨[.op 2 0], _, [], [0, 1, 2], [88]⟩ :: ⟨[.op 3 0, .old 0], _, [], Lr 4, [89]⟩ :: ⟨[.op 3 0, .op 4 0], _, [], Lr 5, [90]⟩ :: ⟨[.op 3 0, .op 5 0], _, [], Lr 6, [91]⟩ :: ⟨[.op 3 0, .op 6 0], _, [], Lr 7, [92]⟩ :: ⟨[.op 7 0], _, [], Lr 8, [93]⟩ :: ⟨[.op 8 0, .old 0], _, [], Lr 9, [94]⟩ :: ⟨[.op 8 0, .op 9 0], _, [], Lr 10, [95]⟩ :: ⟨[.op 8 0, .op 10 0], _, [], Lr 11, [96]⟩ :: ⟨[.op 8 0, .op 11 0], _, [], Lr 12, [97]⟩ :: ⟨[.op 12 0, .old 0], _, [], Lr 13, [98]⟩ :: ⟨[.op 12 0, .op 13 0], _, [], Lr 14, [99]⟩ :: ⟨[.op 12 0, .op 14 0], _, [], Lr 15, [100]⟩ :: ⟨[.op 8 0, .op 12 0, .op 15 0], _, [], Lr 16, [101]⟩ :: ⟨[.op 8 0, .op 16 0], _, [], Lr 17, [102]⟩ :: []) (F := [.old 0, .op 17 0]) (hst.pick [0] rfl) hb Za
             (o_p rfl (Ze Zb9 rfl rfl u_0) <| o_p rfl (Zg ty_3 rfl rfl u_0) <| o_p rfl (Z7 rfl rfl u_0 c_i) <| o_p rfl (Zd rfl rfl u_0) <| o_g (g_f rfl rfl rfl (fun hG => Ze Zb9 rfl rfl u_0)) <| o_g (g_f rfl rfl rfl (fun hG => Zg ty_3 rfl rfl (Opd.gd hG u_0))) <| o_g (g_f rfl rfl rfl (fun hG => Z7 rfl rfl (Opd.gd hG u_0) c_i)) <| o_p rfl (Zbj rfl rfl u_0 (fun hz => (Opd.gd (bNF hz) u_1))) <| o_p rfl (Zd rfl rfl u_0) <| o_g (g_t rfl rfl rfl (fun hG => Ze Zcq rfl rfl u_0)) <| o_g (g_t rfl rfl rfl (fun hG => Zg ty_2 rfl rfl (Opd.gd hG u_0))) <| o_g (g_t rfl rfl rfl (fun hG => Zcb rfl rfl (Opd.gd hG u_0) c_i)) <| o_g (g_t rfl rfl rfl (fun hG => Zd rfl rfl (Opd.gd hG u_0))) <| o_g (g_fi rfl rfl rfl (fun hG => Ze Zcq rfl rfl u_0)) <| o_g (g_fi rfl rfl rfl (fun hG => Zg ty_2 rfl rfl (Opd.gd hG u_0))) <| o_g (g_fi rfl rfl rfl (fun hG => Zcj rfl rfl (Opd.gd hG u_0) c_i)) <| o_g (g_t rfl rfl rfl (fun hG => Zbj rfl rfl (Opd.gd hG u_0) (fun hz => (Opd.gd (bA hG (bNF hz)) u_1)))) <| o_p rfl (Zbb rfl rfl u_0 (fun hz => (Opd.gd hz u_1))) <| o_n) (by kernel_rfl) (fun a g hst hb => ?_)
           refine wp_cond_split (hst.bool 1 rfl) (fun hc20 => ?_) (fun hc20 => ?_)
           · replace H0 := Zp hc20 H0
             refine r_s (L := []) (T := [⟨[], _, [], [], [2]⟩]) (F := [.op 0 0]) (hst.pick [] rfl) hb Za
               (o_p rfl (Zc rfl rfl c_i) <| o_n) (by kernel_rfl) (fun a g hst hb => ?_)
             refine wp_ret ?_
             refine Zm ?_
             obtain rfl := Option.some.inj H0
             exact Zx rfl hst hb (Zl (s := 2)) (hst.at 0 rfl)
           · replace H0 := Zo hc20 H0
             refine wp_skip ?_
             refine Zq ?_
             refine wp_seq ?_
             obtain ⟨r21, h22, H0⟩ := Zk H0
             refine r_s (L := [(1, _)]) (T := [⟨[.old 0], _, [], [], [103]⟩, ⟨[.op 0 0], _, [], [0], [104]⟩, ⟨[.op 1 0], _, [], [0, 1], [105]⟩, ⟨[.op 2 0], _, [], [0, 1, 2], [106]⟩]) (F := [.old 0, .op 3 0]) (hst.pick [0] rfl) hb Za
               (o_p rfl (Ze Zgm rfl rfl u_0) <| o_p rfl (Zg Zby rfl rfl u_0) <| o_p rfl (Zt Zu2 (Zhv _ h22) rfl rfl (.cons u_0 .nil)) <| o_p rfl (Zb4 rfl rfl u_0) <| o_n) (by kernel_rfl) (fun a g hst hb => ?_)
             refine wp_cond_split (hst.bool 1 rfl) (fun hc23 => ?_) (fun hc23 => ?_)
             · replace H0 := Zp hc23 H0
               refine r_s (L := []) (T := [⟨[], _, [], [], [2]⟩]) (F := [.op 0 0]) (hst.pick [] rfl) hb Za
                 (o_p rfl (Zc rfl rfl c_i) <| o_n) (by kernel_rfl) (fun a g hst hb => ?_)
               refine wp_ret ?_
               refine Zm ?_
               obtain rfl := Option.some.inj H0
               exact Zx rfl hst hb (Zl (s := 2)) (hst.at 0 rfl)
             · replace H0 := Zo hc23 H0
               refine wp_skip ?_
               refine Zq ?_
               refine wp_seq ?_
               refine r_s (L := [(1, _)]) (T := [⟨[.old 0], _, [], [], [107]⟩, ⟨[.op 0 0], _, [], [0], [108]⟩, ⟨[.op 1 0], _, [], [0, 1], [109]⟩]) (F := [.old 0, .op 2 0]) (hst.pick [0] rfl) hb Za
                 (o_p rfl (Ze Zb9 rfl rfl u_0) <| o_p rfl (Zg ty_3 rfl rfl u_0) <| o_p rfl (Z7 rfl rfl u_0 c_i) <| o_n) (by kernel_rfl) (fun a g hst hb => ?_)
               refine wp_cond_split (hst.bool 1 rfl) (fun hc24 => ?_) (fun hc24 => ?_)
               · replace H0 := Zp hc24 H0
                 obtain ⟨r25, h26, H0⟩ := Zk H0
                 refine r_s (L := [(1, _)]) (T := [⟨[.old 0], _, [], [], [110]⟩, ⟨[.op 0 0], _, [], [0], [111]⟩, ⟨[.op 1 0], _, [], [0, 1], [112]⟩, ⟨[.op 2 0], _, [], [0, 1, 2], [2]⟩]) (F := [.op 3 0]) (hst.pick [0] rfl) hb Za
                   (o_p rfl (Ze Zkd rfl rfl u_0) <| o_p rfl (Zg Z0 rfl rfl u_0) <| o_p rfl (Zt Zzr (Zjv _ h26) rfl rfl (.cons u_0 .nil)) <| o_p rfl (Zc rfl rfl u_0) <| o_n) (by kernel_rfl) (fun a g hst hb => ?_)
                 refine wp_ret ?_
                 refine Zm ?_
                 obtain rfl := Option.some.inj H0
                 exact Zx rfl hst hb (Zl (s := 2)) (hst.at 0 rfl)
               · replace H0 := Zo hc24 H0
                 refine wp_skip ?_
                 refine Zq ?_
                 refine r_s (L := []) (T := [⟨[], _, [], [], [2]⟩]) (F := [.op 0 0]) (hst.pick [] rfl) hb Za
                   (o_p rfl (Zc rfl rfl c_i) <| o_n) (by kernel_rfl) (fun a g hst hb => ?_)
                 refine wp_ret ?_
                 obtain rfl := Option.some.inj H0
                 exact Zx rfl hst hb (Zl (s := 2)) (hst.at 0 rfl)
theorem Zf7 (a0 : Zb) {r : Zb} (h : Zdz a0 = some r) : FnOk Tryd.prog 69 [(Zf.pd a0)] (Zf.pd r) := by
 have H0 := h
 unfold Zdz at H0
 clear h
 refine Zbq (N := 9) Tryd.func69 rfl rfl (Nat.le_of_ble_eq_true rfl) rfl rfl (fun a g0 hst hb => ?_)
 refine r_s (T := [⟨[.old 0], _, [2], [], [1]⟩, ⟨[], [(2, (pBox Zf 2 (default : Zb)))], [3], [], [2]⟩]) (F := [.op 0 0, .op 1 0]) hst hb Za
   (o_p rfl (Zik rfl rfl u_0) <| o_p rfl (Zbi (zs := [.int .i64 0, .int .i64 0, .int .i64 0, .int .i64 0, .float .f64 0, .int .i64 0, .string ByteArray.empty, .slice none 0 0]) (by kernel_rfl) (fun g => Zbo g) rfl rfl) <| o_n) (by kernel_rfl) (fun a g hst hb => ?_)
 obtain ⟨h1, H0⟩ := Zhb H0
 refine r_s (T := [⟨[], _, [4], [], [3]⟩, ⟨[.old 0], _, [], [], [4]⟩, ⟨[.op 1 0], _, [], [1], [5]⟩, ⟨[.op 0 0, .op 2 0], _, [4], [0, 1, 2], [3, 6]⟩, ⟨[.old 0], _, [], Lr 4, [7]⟩, ⟨[.op 3 0, .op 4 0, .old 0], _, [2], Lr 5, [1, 4, 7]⟩]) (F := [.op 5 0, .old 1]) hst hb Za
   (o_p rfl (Zkp 3 Zcu (xs := []) .nil (by decide) rfl rfl) <| o_p rfl (Zj Zbm (off := 7) (by kernel_rfl) rfl rfl u_0) <| o_p rfl (Z1 Zca rfl rfl u_0) <| o_p rfl (Zi5 Zcu rfl rfl u_0 u_1 h1) <| o_p rfl (Zj Zbm (off := 7) (by kernel_rfl) rfl rfl u_0) <| o_p rfl (Zi6 Zca rfl rfl u_2 u_1 (Opd.imp u_0 (fun _ _ h => Zks h))) <| o_n) (by kernel_rfl) (fun a g hst hb => ?_)
 refine r_s (T := [⟨[.old 0], _, [], [], [8]⟩, ⟨[.op 0 0, .old 1], _, [3], [0], [2]⟩]) (F := [.op 1 0]) hst hb Za
   (o_p rfl (Zch Z0 rfl rfl u_0) <| o_p rfl (Z5 Z0 rfl rfl u_1 u_0) <| o_n) (by kernel_rfl) (fun a g hst hb => ?_)
 refine wp_ret ?_
 obtain rfl := Option.some.inj H0
 obtain ⟨u0, hu0, hq0⟩ := Zbe (P := Tryd.prog) Z0 (hst.at 0 rfl)
 exact Zx rfl hst hb hu0 hq0
theorem Zko (a0 : Nat) (a1 : Nat) {r : Nat} (h : Zey a0 a1 = some r) : FnOk Tryd.prog 42 [(pFlt a0), (pFlt a1)] (pFlt r) := by
 have H0 := h
 unfold Zey at H0
 clear h
 refine Zbq (N := 10) Tryd.func42 rfl rfl (Nat.le_of_ble_eq_true rfl) rfl rfl (fun a g0 hst hb => ?_)
 refine r_s (T := [⟨[], _, [], [], [4]⟩]) (F := [.old 0, .old 1]) hst hb Za
   (o_p rfl (Zc rfl rfl c_f) <| o_n) (by kernel_rfl) (fun a g hst hb => ?_)
 refine wp_seq ?_
 obtain ⟨r1, h2, H0⟩ := Zk H0
 refine r_s (T := [⟨[.old 0], _, [], [], [5]⟩, ⟨[.old 1], _, [], [], [6]⟩, ⟨[.op 0 0, .op 1 0], _, [], [0, 1], [7]⟩]) (F := [.old 0, .old 1, .op 2 0]) hst hb Za
   (o_p rfl (Zd rfl rfl u_0) <| o_p rfl (Zd rfl rfl u_0) <| o_p rfl (Zt Zpv (Zfr _ _ h2) rfl rfl (.cons u_0 (.cons u_1 .nil))) <| o_n) (by kernel_rfl) (fun a g hst hb => ?_)
 refine wp_cond_split (hst.bool 2 rfl) (fun hc3 => ?_) (fun hc3 => ?_)
 · replace H0 := Zp hc3 H0
   refine r_s (L := [(1, _)]) (T := [⟨[.old 0], _, [], [], [8]⟩, ⟨[.op 0 0], _, [], [0], [4]⟩]) (F := [.op 1 0]) (hst.pick [1] rfl) hb Za
     (o_p rfl (Zd rfl rfl u_0) <| o_p rfl (Zc rfl rfl u_0) <| o_n) (by kernel_rfl) (fun a g hst hb => ?_)
   refine wp_ret ?_
   refine Zm ?_
   obtain rfl := Option.some.inj H0
   exact Zx rfl hst hb (Zl (s := 4)) (hst.at 0 rfl)
 · replace H0 := Zo hc3 H0
   refine wp_skip ?_
   refine Zq ?_
   refine r_s (L := [(0, _)]) (T := [⟨[.old 0], _, [], [], [9]⟩, ⟨[.op 0 0], _, [], [0], [4]⟩]) (F := [.op 1 0]) (hst.pick [0] rfl) hb Za
     (o_p rfl (Zd rfl rfl u_0) <| o_p rfl (Zc rfl rfl u_0) <| o_n) (by kernel_rfl) (fun a g hst hb => ?_)
   refine wp_ret ?_
   obtain rfl := Option.some.inj H0
   exact Zx rfl hst hb (Zl (s := 4)) (hst.at 0 rfl)
theorem Zkv (a0 : Nat) (a1 : Nat) {r : Nat} (h : Zex a0 a1 = some r) : FnOk Tryd.prog 43 [(pFlt a0), (pFlt a1)] (pFlt r) := by
 have H0 := h
 unfold Zex at H0
 clear h
 refine Zbq (N := 10) Tryd.func43 rfl rfl (Nat.le_of_ble_eq_true rfl) rfl rfl (fun a g0 hst hb => ?_)
 refine r_s (T := [⟨[], _, [], [], [4]⟩]) (F := [.old 0, .old 1]) hst hb Za
   (o_p rfl (Zc rfl rfl c_f) <| o_n) (by kernel_rfl) (fun a g hst hb => ?_)
 refine wp_seq ?_
 obtain ⟨r1, h2, H0⟩ := Zk H0
 refine r_s (T := [⟨[.old 1], _, [], [], [5]⟩, ⟨[.old 0], _, [], [], [6]⟩, ⟨[.op 0 0, .op 1 0], _, [], [0, 1], [7]⟩]) (F := [.old 0, .old 1, .op 2 0]) hst hb Za
   (o_p rfl (Zd rfl rfl u_0) <| o_p rfl (Zd rfl rfl u_0) <| o_p rfl (Zt Zpv (Zfr _ _ h2) rfl rfl (.cons u_0 (.cons u_1 .nil))) <| o_n) (by kernel_rfl) (fun a g hst hb => ?_)
 refine wp_cond_split (hst.bool 2 rfl) (fun hc3 => ?_) (fun hc3 => ?_)
 · replace H0 := Zp hc3 H0
   refine r_s (L := [(1, _)]) (T := [⟨[.old 0], _, [], [], [8]⟩, ⟨[.op 0 0], _, [], [0], [4]⟩]) (F := [.op 1 0]) (hst.pick [1] rfl) hb Za
     (o_p rfl (Zd rfl rfl u_0) <| o_p rfl (Zc rfl rfl u_0) <| o_n) (by kernel_rfl) (fun a g hst hb => ?_)
   refine wp_ret ?_
   refine Zm ?_
   obtain rfl := Option.some.inj H0
   exact Zx rfl hst hb (Zl (s := 4)) (hst.at 0 rfl)
 · replace H0 := Zo hc3 H0
   refine wp_skip ?_
   refine Zq ?_
   refine r_s (L := [(0, _)]) (T := [⟨[.old 0], _, [], [], [9]⟩, ⟨[.op 0 0], _, [], [0], [4]⟩]) (F := [.op 1 0]) (hst.pick [0] rfl) hb Za
     (o_p rfl (Zd rfl rfl u_0) <| o_p rfl (Zc rfl rfl u_0) <| o_n) (by kernel_rfl) (fun a g hst hb => ?_)
   refine wp_ret ?_
   obtain rfl := Option.some.inj H0
   exact Zx rfl hst hb (Zl (s := 4)) (hst.at 0 rfl)
theorem Znk (a0 : Int) (a1 : Int) {r : Bool} (h : Zgr a0 a1 = some r) : FnOk Tryd.prog 99 [(pInt .i64 a0), (pInt .i64 a1)] (Zba r) := by
 have H0 := h
 unfold Zgr at H0
 clear h
 refine Zbq (N := 31) Tryd.func99 rfl rfl (Nat.le_of_ble_eq_true rfl) rfl rfl (fun a g0 hst hb => ?_)
 refine r_s (T := [⟨[], _, [], [], [4]⟩]) (F := [.old 0, .old 1]) hst hb Za
   (o_p rfl (Zc rfl rfl c_b) <| o_n) (by kernel_rfl) (fun a g hst hb => ?_)
 refine r_s (T := [⟨[.old 0], _, [], [], [6]⟩, ⟨[.old 1], _, [], [], [7]⟩, ⟨[.op 0 0, .op 1 0], _, [], [0, 1], [8]⟩, ⟨[.op 2 0], _, [], [0, 1, 2], [5]⟩]) (F := [.old 0, .old 1, .op 3 0]) hst hb Za
   (o_p rfl (Zd rfl rfl u_0) <| o_p rfl (Zd rfl rfl u_0) <| o_p rfl (Zcg rfl rfl u_0 u_1 rfl) <| o_p rfl (Zc rfl rfl u_0) <| o_n) (by kernel_rfl) (fun a g hst hb => ?_)
 refine r_s (T := ⟨[.old 0], _, [], [], [9]⟩ :: ⟨[.op 0 0], _, [], [0], [10]⟩ :: ⟨[.op 1 0], _, [], [0, 1], [11]⟩ :: ⟨[.op 2 0, .old 1], _, [], [0, 1, 2], [12]⟩ :: ⟨[.op 2 0, .op 3 0], _, [], Lr 4, [13]⟩ :: ⟨[.op 2 0, .op 4 0], _, [], Lr 5, [14]⟩ :: ⟨[.op 5 0], _, [], Lr 6, [15]⟩ :: ⟨[.op 6 0, .old 2], _, [], Lr 7, [16]⟩ :: ⟨[.op 6 0, .op 7 0], _, [], Lr 8, [17]⟩ :: ⟨[.op 6 0, .op 8 0], _, [], Lr 9, [18]⟩ :: ⟨[.op 9 0], _, [], Lr 10, [19]⟩ :: ⟨[.op 10 0, .old 0], _, [], Lr 11, [20]⟩ :: ⟨[.op 10 0, .op 11 0], _, [], Lr 12, [21]⟩ :: ⟨[.op 10 0, .op 12 0], _, [], Lr 13, [22]⟩ :: ⟨[.op 13 0, .old 1], _, [], Lr 14, [23]⟩ :: ⟨[.op 13 0, .op 14 0], _, [], Lr 15, [24]⟩ :: ⟨[.op 10 0, .op 13 0, .op 15 0], _, [], Lr 16, [25]⟩ :: ⟨[.op 10 0, .op 16 0], _, [], Lr 17, [26]⟩ :: ⟨[.op 17 0, .old 2], _, [], Lr 18, [27]⟩ :: ⟨[.op 17 0, .op 18 0], _, [], Lr 19, [28]⟩ :: ⟨[.op 10 0, .op 17 0, .op 19 0], _, [], Lr 20, [29]⟩ :: ⟨[.op 10 0, .op 20 0], _, [], Lr 21, [30]⟩ :: ⟨[.op 21 0], _, [], Lr 22, [4]⟩ :: []) (F := [.op 22 0]) hst hb Za
   (o_p rfl (Zd rfl rfl u_0) <| o_p rfl (Zcj rfl rfl u_0 c_i) <| o_p rfl (Zd rfl rfl u_0) <| o_g (g_t rfl rfl rfl (fun hG => Zd rfl rfl u_0)) <| o_g (g_t rfl rfl rfl (fun hG => Zcj rfl rfl (Opd.gd hG u_0) c_i)) <| o_p rfl (Zbb rfl rfl u_0 (fun hz => (Opd.gd hz u_1))) <| o_p rfl (Zd rfl rfl u_0) <| o_g (g_t rfl rfl rfl (fun hG => Zd rfl rfl u_0)) <| o_g (g_t rfl rfl rfl (fun hG => Zcb rfl rfl (Opd.gd hG u_0) c_i)) <| o_p rfl (Zbb rfl rfl u_0 (fun hz => (Opd.gd hz u_1))) <| o_p rfl (Zd rfl rfl u_0) <| o_g (g_f rfl rfl rfl (fun hG => Zd rfl rfl u_0)) <| o_g (g_f rfl rfl rfl (fun hG => Zcb rfl rfl (Opd.gd hG u_0) c_i)) <| o_g (g_f rfl rfl rfl (fun hG => Zd rfl rfl (Opd.gd hG u_0))) <| o_g (g_ti rfl rfl rfl (fun hG => Zd rfl rfl u_0)) <| o_g (g_ti rfl rfl rfl (fun hG => Zcb rfl rfl (Opd.gd hG u_0) c_i)) <| o_g (g_f rfl rfl rfl (fun hG => Zbb rfl rfl (Opd.gd hG u_0) (fun hz => (Opd.gd (bA hG hz) u_1)))) <| o_g (g_f rfl rfl rfl (fun hG => Zd rfl rfl (Opd.gd hG u_0))) <| o_g (g_ti rfl rfl rfl (fun hG => Zd rfl rfl u_0)) <| o_g (g_ti rfl rfl rfl (fun hG => Zji rfl rfl (Opd.gd hG u_0) c_i)) <| o_g (g_f rfl rfl rfl (fun hG => Zbb rfl rfl (Opd.gd hG u_0) (fun hz => (Opd.gd (bA hG hz) u_1)))) <| o_p rfl (Zbj rfl rfl u_0 (fun hz => (Opd.gd (bNF hz) u_1))) <| o_p rfl (Zc rfl rfl u_0) <| o_n) (by kernel_rfl) (fun a g hst hb => ?_)
 refine wp_ret ?_
 obtain rfl := Option.some.inj H0
 exact Zx rfl hst hb (Zl (s := 4)) (hst.at 0 rfl)
theorem Zjr (a0 : Int) {r : Nat} (h : Zdx a0 = some r) : FnOk Tryd.prog 100 [(pInt .u64 a0)] (pFlt r) := by
 have H0 := h
 unfold Zdx at H0
 clear h
 refine Zbq (N := 18) Tryd.func100 rfl rfl (Nat.le_of_ble_eq_true rfl) rfl rfl (fun a g0 hst hb => ?_)
 refine r_s (T := [⟨[], _, [], [], [2]⟩]) (F := [.old 0]) hst hb Za
   (o_p rfl (Zc rfl rfl c_f) <| o_n) (by kernel_rfl) (fun a g hst hb => ?_)
 refine r_s (T := [⟨[], _, [], [], [3]⟩]) (F := [.old 0, .op 0 0]) hst hb Za
   (o_p rfl (Zc rfl rfl c_i) <| o_n) (by kernel_rfl) (fun a g hst hb => ?_)
 refine wp_seq ?_
 refine r_s (T := [⟨[.old 0], _, [], [], [4]⟩, ⟨[.old 1], _, [], [], [5]⟩, ⟨[.op 0 0, .op 1 0], _, [], [0, 1], [6]⟩]) (F := [.old 0, .old 1, .op 2 0]) hst hb Za
   (o_p rfl (Zd rfl rfl u_0) <| o_p rfl (Zd rfl rfl u_0) <| o_p rfl (Zji rfl rfl u_0 u_1) <| o_n) (by kernel_rfl) (fun a g hst hb => ?_)
 refine wp_cond_split (hst.bool 2 rfl) (fun hc1 => ?_) (fun hc1 => ?_)
 · replace H0 := Zp hc1 H0
   refine r_s (L := [(0, _), (3, _)]) (T := [⟨[.old 0], _, [], [], [7]⟩, ⟨[.old 1], _, [], [], [8]⟩, ⟨[.op 0 0, .op 1 0], _, [], [0, 1], [9]⟩, ⟨[.op 2 0], _, [], [0, 1, 2], [10]⟩, ⟨[.op 3 0], _, [], Lr 4, [2]⟩]) (F := [.op 4 0]) (hst.pick [0, 1] rfl) hb Za
     (o_p rfl (Zd rfl rfl u_0) <| o_p rfl (Zd rfl rfl u_0) <| o_p rfl (Zd5 rfl rfl u_0 u_1 rfl) <| o_p rfl (Zkl Zsb rfl rfl u_0) <| o_p rfl (Zc rfl rfl u_0) <| o_n) (by kernel_rfl) (fun a g hst hb => ?_)
   refine wp_ret ?_
   refine Zm ?_
   obtain rfl := Option.some.inj H0
   exact Zx rfl hst hb (Zl (s := 2)) (hst.at 0 rfl)
 · replace H0 := Zo hc1 H0
   refine wp_skip ?_
   refine Zq ?_
   refine r_s (L := [(0, _), (3, _)]) (T := [⟨[.old 1], _, [], [], [11]⟩, ⟨[.old 1], _, [], [], [12]⟩, ⟨[.op 1 0], _, [], [1], [13]⟩, ⟨[.old 0], _, [], [], [14]⟩, ⟨[.op 2 0, .op 3 0], _, [], [1, 2, 3], [15]⟩, ⟨[.op 0 0, .op 4 0], _, [], Lr 5, [16]⟩, ⟨[.op 5 0], _, [], Lr 6, [17]⟩, ⟨[.op 6 0], _, [], Lr 7, [2]⟩]) (F := [.op 7 0]) (hst.pick [0, 1] rfl) hb Za
     (o_p rfl (Zd rfl rfl u_0) <| o_p rfl (Zd rfl rfl u_0) <| o_p rfl (Zd5 rfl rfl u_0 c_i rfl) <| o_p rfl (Zd rfl rfl u_0) <| o_p rfl (Zd5 rfl rfl u_0 u_1 rfl) <| o_p rfl (Zcg rfl rfl u_0 u_1 rfl) <| o_p rfl (Zkl Zsb rfl rfl u_0) <| o_p rfl (Zc rfl rfl u_0) <| o_n) (by kernel_rfl) (fun a g hst hb => ?_)
   refine wp_ret ?_
   obtain rfl := Option.some.inj H0
   exact Zx rfl hst hb (Zl (s := 2)) (hst.at 0 rfl)
theorem Zju (a0 : Nat) {r : Int} (h : Zd8 a0 = some r) : FnOk Tryd.prog 101 [(pFlt a0)] (pInt .u64 r) := by
 have H0 := h
 unfold Zd8 at H0
 clear h
 refine Zbq (N := 23) Tryd.func101 rfl rfl (Nat.le_of_ble_eq_true rfl) rfl rfl (fun a g0 hst hb => ?_)
 refine r_s (T := [⟨[], _, [], [], [2]⟩]) (F := [.old 0]) hst hb Za
   (o_p rfl (Zc rfl rfl c_i) <| o_n) (by kernel_rfl) (fun a g hst hb => ?_)
 refine r_s (T := [⟨[], _, [], [], [3]⟩]) (F := [.old 0, .op 0 0]) hst hb Za
   (o_p rfl (Zc rfl rfl c_i) <| o_n) (by kernel_rfl) (fun a g hst hb => ?_)
 refine wp_seq ?_
 obtain ⟨r1, h2, H0⟩ := Zk H0
 refine r_s (T := [⟨[.old 0], _, [], [], [5]⟩, ⟨[.op 0 0], _, [], [0], [6]⟩]) (F := [.old 0, .old 1, .op 1 0]) hst hb Za
   (o_p rfl (Zd rfl rfl u_0) <| o_p rfl (Zt Zr3 (Zgu _ h2) rfl rfl (.cons u_0 .nil)) <| o_n) (by kernel_rfl) (fun a g hst hb => ?_)
 refine wp_cond_split (hst.bool 2 rfl) (fun hc3 => ?_) (fun hc3 => ?_)
 · replace H0 := Zp hc3 H0
   refine r_s (L := [(3, _)]) (T := [⟨[.old 0], _, [], [], [7]⟩, ⟨[.op 0 0], _, [], [0], [8]⟩, ⟨[.op 1 0], _, [], [0, 1], [2]⟩]) (F := [.op 2 0]) (hst.pick [1] rfl) hb Za
     (o_p rfl (Zd rfl rfl u_0) <| o_p rfl (Zcg rfl rfl u_0 c_i rfl) <| o_p rfl (Zc rfl rfl u_0) <| o_n) (by kernel_rfl) (fun a g hst hb => ?_)
   refine wp_ret ?_
   refine Zm ?_
   obtain rfl := Option.some.inj H0
   exact Zx rfl hst hb (Zl (s := 2)) (hst.at 0 rfl)
 · replace H0 := Zo hc3 H0
   refine wp_skip ?_
   refine Zq ?_
   refine r_s (L := [(0, _), (3, _)]) (T := [⟨[.old 0], _, [], [], [9]⟩, ⟨[.op 0 0], _, [], [0], [10]⟩, ⟨[.op 1 0], _, [], [0, 1], [4]⟩]) (F := [.old 1, .op 2 0]) (hst.pick [0, 1] rfl) hb Za
     (o_p rfl (Zd rfl rfl u_0) <| o_p rfl (Zl9 Zp8 rfl rfl u_0) <| o_p rfl (Zc rfl rfl u_0) <| o_n) (by kernel_rfl) (fun a g hst hb => ?_)
   refine wp_seq ?_
   refine r_s (T := [⟨[.old 1], _, [], [], [11]⟩, ⟨[.old 0], _, [], [], [12]⟩, ⟨[.op 0 0, .op 1 0], _, [], [0, 1], [13]⟩]) (F := [.old 0, .old 1, .op 2 0]) hst hb Za
     (o_p rfl (Zd rfl rfl u_0) <| o_p rfl (Zd rfl rfl u_0) <| o_p rfl (Zji rfl rfl u_0 u_1) <| o_n) (by kernel_rfl) (fun a g hst hb => ?_)
   refine wp_cond_split (hst.bool 2 rfl) (fun hc4 => ?_) (fun hc4 => ?_)
   · replace H0 := Zp hc4 H0
     refine r_s (L := [(3, _), (4, _)]) (T := [⟨[.old 0], _, [], [], [14]⟩, ⟨[.op 0 0], _, [], [0], [15]⟩, ⟨[.old 1], _, [], [], [16]⟩, ⟨[.old 0], _, [], [], [17]⟩, ⟨[.op 2 0, .op 3 0], _, [], [2, 3], [18]⟩, ⟨[.op 1 0, .op 4 0], _, [], Lr 5, [19]⟩, ⟨[.op 5 0], _, [], Lr 6, [2]⟩]) (F := [.op 6 0]) (hst.pick [0, 1] rfl) hb Za
       (o_p rfl (Zd rfl rfl u_0) <| o_p rfl (Zd5 rfl rfl u_0 c_i rfl) <| o_p rfl (Zd rfl rfl u_0) <| o_p rfl (Zd rfl rfl u_0) <| o_p rfl (Zd5 rfl rfl u_0 u_1 rfl) <| o_p rfl (Zd5 rfl rfl u_0 u_1 rfl) <| o_p rfl (Zc rfl rfl u_0) <| o_n) (by kernel_rfl) (fun a g hst hb => ?_)
     refine wp_ret ?_
     refine Zm ?_
     obtain rfl := Option.some.inj H0
     exact Zx rfl hst hb (Zl (s := 2)) (hst.at 0 rfl)
   · replace H0 := Zo hc4 H0
     refine wp_skip ?_
     refine Zq ?_
     refine r_s (L := [(3, _), (4, _)]) (T := [⟨[.old 0], _, [], [], [20]⟩, ⟨[.old 1], _, [], [], [21]⟩, ⟨[.op 0 0, .op 1 0], _, [], [0, 1], [22]⟩, ⟨[.op 2 0], _, [], [0, 1, 2], [2]⟩]) (F := [.op 3 0]) (hst.pick [0, 1] rfl) hb Za
       (o_p rfl (Zd rfl rfl u_0) <| o_p rfl (Zd rfl rfl u_0) <| o_p rfl (Zcg rfl rfl u_0 u_1 rfl) <| o_p rfl (Zc rfl rfl u_0) <| o_n) (by kernel_rfl) (fun a g hst hb => ?_)
     refine wp_ret ?_
     obtain rfl := Option.some.inj H0
     exact Zx rfl hst hb (Zl (s := 2)) (hst.at 0 rfl)
theorem Zku (a0 : List Zh) (a1 : ByteArray) {r : Bool} (h : Ze0 a0 a1 = some r) : FnOk Tryd.prog 102 [(Zr.sl.pd a0), (pStr a1)] (Zba r) := by
 have H0 := h
 unfold Ze0 at H0
 clear h
 refine Zbq (N := 19) Tryd.func102 rfl rfl (Nat.le_of_ble_eq_true rfl) rfl rfl (fun a g0 hst hb => ?_)
 refine r_s (T := [⟨[], _, [], [], [4]⟩]) (F := [.old 0, .old 1]) hst hb Za
   (o_p rfl (Zc rfl rfl c_b) <| o_n) (by kernel_rfl) (fun a g hst hb => ?_)
 refine wp_seq ?_
 refine r_s (T := [⟨[], _, [], [], [5]⟩]) (F := [.old 0, .old 1, .op 0 0]) hst hb Za
   (o_p rfl (Zc rfl rfl c_i) <| o_n) (by kernel_rfl) (fun a g hst hb => ?_)
 obtain ⟨z6, hz1, H0⟩ := Zk H0
 refine Zbv (fun a w => ∃ (g : G), w = g.w ∧ St 19 [] a g ∧ Base g0 g ∧ (.inr ()) = z6) ?_ ?_
 · rintro a w ⟨g, rfl, hst, hb, rfl⟩
   refine Zq ?_
   refine r_s (T := [⟨[], _, [], [], [4]⟩]) (F := [.op 0 0]) hst hb Za
     (o_p rfl (Zc rfl rfl c_b) <| o_n) (by kernel_rfl) (fun a g hst hb => ?_)
   refine wp_ret ?_
   obtain rfl := Option.some.inj H0
   exact Zx rfl hst hb (Zl (s := 4)) (hst.at 0 rfl)
 · refine wp_block ?_
   refine wp_loop_ghost (fun n a w => ∃ (x1 : Int) (g : G), w = g.w ∧ St 19 [(0, (Zr.sl.pd a0)), (1, (pStr a1)), (5, (pInt .i64 x1))] a g ∧ Base g0 g ∧ Zdw a0 a1 n x1 = some z6) (Int.toNat ((a0.length : Int) - (0 : Int)) + 1) ⟨(0 : Int), g, rfl, (hst.pick [0, 1, 2] rfl), hb, hz1⟩ (fun n a w hI => ?_)
   obtain ⟨x1, g, rfl, hst, hb, H1⟩ := hI
   cases n with
   | zero => exact absurd H1 (by simp [Zdw])
   | succ n =>
     rw [Zdw] at H1
     refine wp_seq ?_
     refine r_s (T := [⟨[.old 2], _, [], [], [6]⟩, ⟨[.old 0], _, [], [], [7]⟩, ⟨[.op 1 0], _, [], [1], [8]⟩, ⟨[.op 0 0, .op 2 0], _, [], [0, 1, 2], [9]⟩]) (F := [.old 0, .old 1, .old 2, .op 3 0]) hst hb Za
       (o_p rfl (Zd rfl rfl u_0) <| o_p rfl (Zd rfl rfl u_0) <| o_p rfl (Zcd Tryd.underlying23 rfl rfl u_0) <| o_p rfl (Zcb rfl rfl u_0 u_1) <| o_n) (by kernel_rfl) (fun a g hst hb => ?_)
     refine wp_cond_split (hst.bool 3 rfl) (fun hc2 => ?_) (fun hc2 => ?_)
     · replace H1 := Zp hc2 H1
       refine wp_skip ?_
       refine Zq ?_
       refine wp_seq ?_
       refine wp_block ?_
       obtain ⟨e3, h4, H1⟩ := Zk H1
       refine r_s (L := [(0, _), (1, _), (5, _)]) (T := [⟨[.old 0], _, [], [], [12]⟩, ⟨[.old 2], _, [], [], [13]⟩, ⟨[.op 0 0, .op 1 0], _, [], [0, 1], [14]⟩, ⟨[.op 2 0], _, [], [0, 1, 2], [15]⟩, ⟨[.op 3 0], _, [], Lr 4, [16]⟩, ⟨[.old 1], _, [], [], [17]⟩, ⟨[.op 4 0, .op 5 0], _, [], Lr 6, [18]⟩]) (F := [.old 0, .old 1, .old 2, .op 6 0]) (hst.pick [0, 1, 2] rfl) hb Za
         (o_p rfl (Zd rfl rfl u_0) <| o_p rfl (Zd rfl rfl u_0) <| o_p rfl (Zbh Tryd.underlying23 Zdv rfl rfl u_0 u_1 h4) <| o_p rfl (Ze Zc4 rfl rfl u_0) <| o_p rfl (Zg ty_9 rfl rfl u_0) <| o_p rfl (Zd rfl rfl u_0) <| o_p rfl (Zj2 rfl rfl u_0 u_1) <| o_n) (by kernel_rfl) (fun a g hst hb => ?_)
       refine wp_cond_split (hst.bool 3 rfl) (fun hc5 => ?_) (fun hc5 => ?_)
       · replace H1 := Zp hc5 H1
         refine r_s (L := []) (T := [⟨[], _, [], [], [4]⟩]) (F := [.op 0 0]) (hst.pick [] rfl) hb Za
           (o_p rfl (Zc rfl rfl c_b) <| o_n) (by kernel_rfl) (fun a g hst hb => ?_)
         refine wp_ret ?_
         refine Zv ?_
         refine Zm ?_
         refine Zm ?_
         refine Zv ?_
         refine Zm ?_
         refine Zm ?_
         obtain rfl := Option.some.inj H1
         obtain rfl := Option.some.inj H0
         exact Zx rfl hst hb (Zl (s := 4)) (hst.at 0 rfl)
       · replace H1 := Zo hc5 H1
         refine wp_skip ?_
         refine Z6 ?_
         refine Zq ?_
         refine r_g (L := [(0, _), (1, _), (5, _)]) (T := [⟨[.old 2], _, [], [], [10]⟩, ⟨[.op 0 0], _, [], [0], [11]⟩, ⟨[.op 1 0], _, [], [0, 1], [5]⟩]) (F := [.old 0, .old 1, .op 2 0]) (hst.pick [0, 1, 2] rfl) hb Za
           (o_p rfl (Zd rfl rfl u_0) <| o_p rfl (Zcg rfl rfl u_0 c_i rfl) <| o_p rfl (Zc rfl rfl u_0) <| o_n) (by kernel_rfl) (fun a g hst hb => ?_)
         exact ⟨n, Nat.lt_succ_self _, (IntKind.i64.wrap (x1 + (1 : Int))), g, rfl, (hst.pick [0, 1, 2] rfl), hb, H1⟩
     · replace H1 := Zo hc2 H1
       refine wp_exit ?_
       refine Zcf ?_
       refine Zcf ?_
       refine Zc1 ?_
       exact ⟨g, rfl, (hst.pick [] rfl), hb, Option.some.inj H1⟩
theorem Zj9 (a0 : List Zh) (a1 : Zh) (a2 : Bool) {r : List Zh} (h : Zeh a0 a1 a2 = some r) : FnOk Tryd.prog 103 [(Zr.sl.pd a0), (Zr.pd a1), (Zba a2)] (Zr.sl.pd r) := by
 have H0 := h
 unfold Zeh at H0
 clear h
 refine Zbq (N := 89) Tryd.func103 rfl rfl (Nat.le_of_ble_eq_true rfl) rfl rfl (fun a g0 hst hb => ?_)
 refine r_s (T := [⟨[.old 1], _, [], [], [4]⟩, ⟨[], [(6, (Zr.sl.pd ([] : List Zh)))], [], [], [6]⟩]) (F := [.old 0, .old 2, .op 0 0]) hst hb Za
   (o_p rfl (Zbs rfl rfl u_0) <| o_p rfl (Zc rfl rfl (Opd.c (fun g => Zix g))) <| o_n) (by kernel_rfl) (fun a g hst hb => ?_)
 refine r_s (T := [⟨[], _, [13], [], [12]⟩, ⟨[.op 0 0], _, [], [0], [7]⟩, ⟨[], _, [], [0, 1], [8]⟩]) (F := [.old 0, .old 1, .old 2, .op 1 0, .op 2 0]) hst hb Za
   (o_p rfl (Zkp 12 Zcu (xs := []) .nil (by decide) rfl rfl) <| o_p rfl (Zc rfl rfl u_0) <| o_p rfl (Zc rfl rfl c_b) <| o_n) (by kernel_rfl) (fun a g hst hb => ?_)
 refine wp_seq ?_
 refine r_s (T := [⟨[], _, [], [], [9]⟩]) (F := [.old 0, .old 1, .old 2, .old 3, .old 4, .op 0 0]) hst hb Za
   (o_p rfl (Zc rfl rfl c_i) <| o_n) (by kernel_rfl) (fun a g hst hb => ?_)
 obtain ⟨z27, hz1, H0⟩ := Zk H0
 refine Zbv (fun a w => ∃ (y25 : List Zh) (y26 : Bool) (g : G), w = g.w ∧ St 89 [(4, (Zr.ptr a1)), (7, (pRow Zr 75 12 y25)), (8, (Zba y26))] a g ∧ Base g0 g ∧ (y25, y26) = z27) ?_ ?_
 · rintro a w ⟨y25, y26, g, rfl, hst, hb, rfl⟩
   refine Zq ?_
   refine wp_seq ?_
   refine r_s (T := [⟨[.old 2], _, [], [], [82]⟩, ⟨[.op 0 0], _, [], [0], [83]⟩]) (F := [.old 0, .old 1, .op 1 0]) hst hb Za
     (o_p rfl (Zd rfl rfl u_0) <| o_p rfl (Zb4 rfl rfl u_0) <| o_n) (by kernel_rfl) (fun a g hst hb => ?_)
   refine Zbv (fun a w => ∃ (j30 : List Zh) (g : G), w = g.w ∧ St 89 [(7, (pRow Zr 75 12 j30))] a g ∧ Base g0 g ∧ Ze2 j30 = some r) ?_ ?_
   · rintro a w ⟨j30, g, rfl, hst, hb, H0⟩
     unfold Ze2 at H0
     refine Zq ?_
     refine r_s (T := [⟨[.old 0], _, [], [], [88]⟩, ⟨[.op 0 0], _, [], [0], [6]⟩]) (F := [.op 1 0]) hst hb Za
       (o_p rfl (Zd rfl rfl u_0) <| o_p rfl (Zc rfl rfl u_0) <| o_n) (by kernel_rfl) (fun a g hst hb => ?_)
     refine wp_ret ?_
     obtain rfl := Option.some.inj H0
     exact Zx rfl hst hb (Zl (s := 6)) (Zks (hst.at 0 rfl))
   · refine wp_cond_split (hst.bool 2 rfl) (fun hc28 => ?_) (fun hc28 => ?_)
     · replace H0 := Zp hc28 H0
       obtain ⟨h29, H0⟩ := Zhb H0
       refine r_g (L := [(4, _), (7, _)]) (T := [⟨[.old 1], _, [], [], [84]⟩, ⟨[.old 0], _, [], [], [85]⟩, ⟨[.op 1 0], _, [], [1], [86]⟩, ⟨[.op 0 0, .op 2 0], _, [13], [0, 1, 2], [7, 84, 87]⟩, ⟨[.op 3 0], _, [], Lr 4, [7]⟩]) (F := [.op 4 0]) (hst.pick [0, 1] rfl) hb Za
         (o_p rfl (Zd rfl rfl u_0) <| o_p rfl (Zg Zdh rfl rfl u_0) <| o_p rfl (Zgx Zcu (xs := [.tmp 85]) (.cons u_0 .nil) (by decide) rfl rfl) <| o_p rfl (Zi5 Zcu rfl rfl u_0 u_1 h29) <| o_p rfl (Zc rfl rfl u_0) <| o_n) (by kernel_rfl) (fun a g hst hb => ?_)
       exact ⟨(y25 ++ ([a1] : List Zh)), g, rfl, (hst.pick [0] rfl), hb, H0⟩
     · replace H0 := Zo hc28 H0
       refine wp_skip ?_
       exact ⟨y25, g, rfl, (hst.pick [1] rfl), hb, H0⟩
 · refine wp_block ?_
   refine wp_loop_ghost (fun n a w => ∃ (x1 : List Zh) (x2 : Bool) (x3 : Int) (g : G), w = g.w ∧ St 89 [(0, (Zr.sl.pd a0)), (2, (Zba a2)), (4, (Zr.ptr a1)), (7, (pRow Zr 75 12 x1)), (8, (Zba x2)), (9, (pInt .i64 x3))] a g ∧ Base g0 g ∧ Zb2 a0 a1 a2 n x1 x2 x3 = some z27) (Int.toNat ((a0.length : Int) - (0 : Int)) + 1) ⟨([] : List Zh), false, (0 : Int), g, rfl, (hst.pick [0, 1, 2, 3, 4, 5] rfl), hb, hz1⟩ (fun n a w hI => ?_)
   obtain ⟨x1, x2, x3, g, rfl, hst, hb, H1⟩ := hI
   cases n with
   | zero => exact absurd H1 (by simp [Zb2])
   | succ n =>
     rw [Zb2] at H1
     refine wp_seq ?_
     refine r_s (T := [⟨[.old 5], _, [], [], [13]⟩, ⟨[.old 0], _, [], [], [14]⟩, ⟨[.op 1 0], _, [], [1], [15]⟩, ⟨[.op 0 0, .op 2 0], _, [], [0, 1, 2], [16]⟩]) (F := [.old 0, .old 1, .old 2, .old 3, .old 4, .old 5, .op 3 0]) hst hb Za
       (o_p rfl (Zd rfl rfl u_0) <| o_p rfl (Zd rfl rfl u_0) <| o_p rfl (Zcd Tryd.underlying23 rfl rfl u_0) <| o_p rfl (Zcb rfl rfl u_0 u_1) <| o_n) (by kernel_rfl) (fun a g hst hb => ?_)
     refine wp_cond_split (hst.bool 6 rfl) (fun hc4 => ?_) (fun hc4 => ?_)
     · replace H1 := Zp hc4 H1
       refine wp_skip ?_
       refine Zq ?_
       refine wp_seq ?_
       refine wp_block ?_
       obtain ⟨e5, h6, H1⟩ := Zk H1; obtain ⟨r7, h8, H1⟩ := Zk H1; obtain ⟨e9, h10, H1⟩ := Zk H1
       refine r_s (L := [(0, _), (2, _), (4, _), (7, _), (8, _), (9, _)]) (T := ⟨[.old 1], _, [], [], [19]⟩ :: ⟨[.op 0 0], _, [], [0], [20]⟩ :: ⟨[.op 1 0], _, [], [0, 1], [21]⟩ :: ⟨[.op 2 0, .old 0], _, [], [0, 1, 2], [22]⟩ :: ⟨[.op 2 0, .old 5], _, [], [0, 1, 2], [23]⟩ :: ⟨[.op 2 0, .op 3 0, .op 4 0], _, [], Lr 5, [24]⟩ :: ⟨[.op 2 0, .op 5 0], _, [], Lr 6, [25]⟩ :: ⟨[.op 2 0, .old 2], _, [], [0, 1, 2], [26]⟩ :: ⟨[.op 2 0, .op 6 0, .op 7 0], _, [], Lr 8, [27]⟩ :: ⟨[.op 2 0, .op 8 0], _, [], Lr 9, [28]⟩ :: ⟨[.op 9 0], _, [], Lr 10, [29]⟩ :: ⟨[.op 10 0, .old 1], _, [], Lr 11, [30]⟩ :: ⟨[.op 10 0, .op 11 0], _, [], Lr 12, [31]⟩ :: ⟨[.op 12 0, .old 0], _, [], Lr 13, [32]⟩ :: ⟨[.op 12 0, .old 5], _, [], Lr 13, [33]⟩ :: ⟨[.op 12 0, .op 13 0, .op 14 0], _, [], Lr 15, [34]⟩ :: ⟨[.op 12 0, .op 15 0], _, [], Lr 16, [35]⟩ :: ⟨[.op 12 0, .op 16 0], _, [], Lr 17, [36]⟩ :: ⟨[.op 12 0, .old 2], _, [], Lr 13, [37]⟩ :: ⟨[.op 12 0, .op 18 0], _, [], 0 :: 1 :: 2 :: 3 :: 4 :: 5 :: 6 :: 7 :: 8 :: 9 :: 10 :: 11 :: 12 :: 18 :: [], [38]⟩ :: ⟨[.op 12 0, .op 17 0, .op 19 0], _, [], Lr 20, [39]⟩ :: ⟨[.op 10 0, .op 12 0, .op 20 0], _, [], Lr 21, [40]⟩ :: ⟨[.op 10 0, .op 21 0], _, [], Lr 22, [41]⟩ :: ⟨[.op 22 0], _, [], Lr 23, [10]⟩ :: []) (F := [.old 0, .old 1, .old 2, .old 3, .old 4, .old 5, .op 23 0]) (hst.pick [0, 1, 2, 3, 4, 5] rfl) hb Za
         (o_p rfl (Zd rfl rfl u_0) <| o_p rfl (Zb4 rfl rfl u_0) <| o_p rfl (Zd rfl rfl u_0) <| o_g (g_t rfl rfl rfl (fun hG => Zd rfl rfl u_0)) <| o_g (g_t rfl rfl rfl (fun hG => Zd rfl rfl u_0)) <| o_g (g_t rfl rfl rfl (fun hG => Zbh Tryd.underlying23 Zdv rfl rfl (Opd.gd hG u_0) (Opd.gd hG u_1) (Zbn h6 hG))) <| o_g (g_t rfl rfl rfl (fun hG => Zg Zdh rfl rfl (Opd.gd hG u_0))) <| o_g (g_t rfl rfl rfl (fun hG => Zg Zdh rfl rfl u_0)) <| o_g (g_t rfl rfl rfl (fun hG => Zt Zy0 (Zj7 _ _ (Zbn h8 hG)) rfl rfl (.cons (Opd.gd hG u_0) (.cons (Opd.gd hG u_1) .nil)))) <| o_p rfl (Zbb rfl rfl u_0 (fun hz => (Opd.gd hz u_1))) <| o_p rfl (Zd rfl rfl u_0) <| o_g (g_f rfl rfl rfl (fun hG => Zd rfl rfl u_0)) <| o_g (g_f rfl rfl rfl (fun hG => Zd rfl rfl (Opd.gd hG u_0))) <| o_g (g_ti rfl rfl rfl (fun hG => Zd rfl rfl u_0)) <| o_g (g_ti rfl rfl rfl (fun hG => Zd rfl rfl u_0)) <| o_g (g_ti rfl rfl rfl (fun hG => Zbh Tryd.underlying23 Zdv rfl rfl (Opd.gd hG u_0) (Opd.gd hG u_1) (Zbn h10 hG))) <| o_g (g_ti rfl rfl rfl (fun hG => Ze Zc4 rfl rfl (Opd.gd hG u_0))) <| o_g (g_ti rfl rfl rfl (fun hG => Zg ty_9 rfl rfl (Opd.gd hG u_0))) <| o_g (g_ti rfl rfl rfl (fun hG => Ze Zc4 rfl rfl u_0)) <| o_g (g_ti rfl rfl rfl (fun hG => Zg ty_9 rfl rfl (Opd.gd hG u_0))) <| o_g (g_ti rfl rfl rfl (fun hG => Znv rfl rfl (Opd.gd hG u_0) (Opd.gd hG u_1))) <| o_g (g_f rfl rfl rfl (fun hG => Zbb rfl rfl (Opd.gd hG u_0) (fun hz => (Opd.gd (bA hG hz) u_1)))) <| o_p rfl (Zbj rfl rfl u_0 (fun hz => (Opd.gd (bNF hz) u_1))) <| o_p rfl (Zc rfl rfl u_0) <| o_n) (by kernel_rfl) (fun a g hst hb => ?_)
       obtain ⟨e11, h12, H1⟩ := Zk H1; obtain ⟨e13, h14, H1⟩ := Zk H1; obtain ⟨r15, h16, H1⟩ := Zk H1
       refine r_s (T := ⟨[.old 0], _, [], [], [42]⟩ :: ⟨[.old 5], _, [], [], [43]⟩ :: ⟨[.op 0 0, .op 1 0], _, [], [0, 1], [44]⟩ :: ⟨[.op 2 0], _, [], [0, 1, 2], [45]⟩ :: ⟨[.op 3 0], _, [], Lr 4, [46]⟩ :: ⟨[.old 2], _, [], [], [47]⟩ :: ⟨[.op 5 0], _, [], [5], [48]⟩ :: ⟨[.op 4 0, .op 6 0], _, [], Lr 7, [49]⟩ :: ⟨[.op 7 0], _, [], Lr 8, [50]⟩ :: ⟨[.op 8 0, .old 1], _, [], Lr 9, [51]⟩ :: ⟨[.op 8 0, .op 9 0], _, [], Lr 10, [52]⟩ :: ⟨[.op 10 0, .old 0], _, [], Lr 11, [53]⟩ :: ⟨[.op 10 0, .old 5], _, [], Lr 11, [54]⟩ :: ⟨[.op 10 0, .op 11 0, .op 12 0], _, [], Lr 13, [55]⟩ :: ⟨[.op 10 0, .op 13 0], _, [], Lr 14, [56]⟩ :: ⟨[.op 10 0, .op 14 0], _, [], Lr 15, [57]⟩ :: ⟨[.op 10 0, .old 2], _, [], Lr 11, [58]⟩ :: ⟨[.op 10 0, .op 16 0], _, [], 0 :: 1 :: 2 :: 3 :: 4 :: 5 :: 6 :: 7 :: 8 :: 9 :: 10 :: 16 :: [], [59]⟩ :: ⟨[.op 10 0, .op 15 0, .op 17 0], _, [], Lr 18, [60]⟩ :: ⟨[.op 8 0, .op 10 0, .op 18 0], _, [], Lr 19, [61]⟩ :: ⟨[.op 8 0, .op 19 0], _, [], Lr 20, [62]⟩ :: ⟨[.op 20 0], _, [], Lr 21, [11]⟩ :: []) (F := [.old 0, .old 1, .old 2, .old 3, .old 4, .old 5, .old 6, .op 21 0]) hst hb Za
         (o_p rfl (Zd rfl rfl u_0) <| o_p rfl (Zd rfl rfl u_0) <| o_p rfl (Zbh Tryd.underlying23 Zdv rfl rfl u_0 u_1 h12) <| o_p rfl (Ze Zc4 rfl rfl u_0) <| o_p rfl (Zg ty_9 rfl rfl u_0) <| o_p rfl (Ze Zc4 rfl rfl u_0) <| o_p rfl (Zg ty_9 rfl rfl u_0) <| o_p rfl (Zj2 rfl rfl u_0 u_1) <| o_p rfl (Zd rfl rfl u_0) <| o_g (g_t rfl rfl rfl (fun hG => Zd rfl rfl u_0)) <| o_g (g_t rfl rfl rfl (fun hG => Zd rfl rfl (Opd.gd hG u_0))) <| o_g (g_fi rfl rfl rfl (fun hG => Zd rfl rfl u_0)) <| o_g (g_fi rfl rfl rfl (fun hG => Zd rfl rfl u_0)) <| o_g (g_fi rfl rfl rfl (fun hG => Zbh Tryd.underlying23 Zdv rfl rfl (Opd.gd hG u_0) (Opd.gd hG u_1) (Zbn h14 hG))) <| o_g (g_fi rfl rfl rfl (fun hG => Ze Zee rfl rfl (Opd.gd hG u_0))) <| o_g (g_fi rfl rfl rfl (fun hG => Zg Zby rfl rfl (Opd.gd hG u_0))) <| o_g (g_fi rfl rfl rfl (fun hG => Ze Zee rfl rfl u_0)) <| o_g (g_fi rfl rfl rfl (fun hG => Zg Zby rfl rfl (Opd.gd hG u_0))) <| o_g (g_fi rfl rfl rfl (fun hG => Zt Zon (Ze1 _ _ (Zbn h16 hG)) rfl rfl (.cons (Opd.gd hG u_0) (.cons (Opd.gd hG u_1) .nil)))) <| o_g (g_t rfl rfl rfl (fun hG => Zbj rfl rfl (Opd.gd hG u_0) (fun hz => (Opd.gd (bA hG (bNF hz)) u_1)))) <| o_p rfl (Zbb rfl rfl u_0 (fun hz => (Opd.gd hz u_1))) <| o_p rfl (Zc rfl rfl u_0) <| o_n) (by kernel_rfl) (fun a g hst hb => ?_)
       refine wp_seq ?_
       refine r_s (T := [⟨[.old 4], _, [], [], [63]⟩, ⟨[.op 0 0], _, [], [0], [64]⟩, ⟨[.op 1 0], _, [], [0, 1], [65]⟩, ⟨[.op 2 0, .old 6], _, [], [0, 1, 2], [66]⟩, ⟨[.op 2 0, .op 3 0], _, [], Lr 4, [67]⟩, ⟨[.op 2 0, .op 4 0], _, [], Lr 5, [68]⟩]) (F := [.old 0, .old 1, .old 2, .old 3, .old 4, .old 5, .old 7, .op 5 0]) hst hb Za
         (o_p rfl (Zd rfl rfl u_0) <| o_p rfl (Zb4 rfl rfl u_0) <| o_p rfl (Zd rfl rfl u_0) <| o_g (g_t rfl rfl rfl (fun hG => Zd rfl rfl u_0)) <| o_g (g_t rfl rfl rfl (fun hG => Zb4 rfl rfl (Opd.gd hG u_0))) <| o_p rfl (Zbb rfl rfl u_0 (fun hz => (Opd.gd hz u_1))) <| o_n) (by kernel_rfl) (fun a g hst hb => ?_)
       refine Zbv (fun a w => ∃ (j20 : List Zh) (j21 : Bool) (g : G), w = g.w ∧ St 89 [(0, (Zr.sl.pd a0)), (2, (Zba a2)), (4, (Zr.ptr a1)), (7, (pRow Zr 75 12 j20)), (8, (Zba j21)), (9, (pInt .i64 x3))] a g ∧ Base g0 g ∧ Zc8 a0 x3 (Zb2 a0 a1 a2 n) j20 j21 = some z27) ?_ ?_
       · rintro a w ⟨j20, j21, g, rfl, hst, hb, H1⟩
         unfold Zc8 at H1
         refine Zq ?_
         obtain ⟨e22, h23, H1⟩ := Zk H1; obtain ⟨h24, H1⟩ := Zhb H1
         refine r_g (T := [⟨[.old 3], _, [], [], [75]⟩, ⟨[.old 0], _, [], [], [76]⟩, ⟨[.old 5], _, [], [], [77]⟩, ⟨[.op 1 0, .op 2 0], _, [], [1, 2], [78]⟩, ⟨[.op 3 0], _, [], [1, 2, 3], [79]⟩, ⟨[.op 4 0], _, [], List.range' 1 4, [80]⟩, ⟨[.op 0 0, .op 5 0], _, [13], Lr 6, [7, 75, 81]⟩, ⟨[.op 6 0], _, [], Lr 7, [7]⟩]) (F := [.old 0, .old 1, .old 2, .op 7 0, .old 4, .old 5]) hst hb Za
           (o_p rfl (Zd rfl rfl u_0) <| o_p rfl (Zd rfl rfl u_0) <| o_p rfl (Zd rfl rfl u_0) <| o_p rfl (Zbh Tryd.underlying23 Zdv rfl rfl u_0 u_1 h23) <| o_p rfl (Zg Zdh rfl rfl u_0) <| o_p rfl (Zgx Zcu (xs := [.tmp 79]) (.cons u_0 .nil) (by decide) rfl rfl) <| o_p rfl (Zi5 Zcu rfl rfl u_0 u_1 h24) <| o_p rfl (Zc rfl rfl u_0) <| o_n) (by kernel_rfl) (fun a g hst hb => ?_)
         refine Z6 ?_
         refine Zq ?_
         refine r_g (T := [⟨[.old 5], _, [], [], [17]⟩, ⟨[.op 0 0], _, [], [0], [18]⟩, ⟨[.op 1 0], _, [], [0, 1], [9]⟩]) (F := [.old 0, .old 1, .old 2, .old 3, .old 4, .op 2 0]) hst hb Za
           (o_p rfl (Zd rfl rfl u_0) <| o_p rfl (Zcg rfl rfl u_0 c_i rfl) <| o_p rfl (Zc rfl rfl u_0) <| o_n) (by kernel_rfl) (fun a g hst hb => ?_)
         exact ⟨n, Nat.lt_succ_self _, (j20 ++ ([e22] : List Zh)), j21, (IntKind.i64.wrap (x3 + (1 : Int))), g, rfl, (hst.pick [0, 1, 2, 3, 4, 5] rfl), hb, H1⟩
       · refine wp_cond_split (hst.bool 7 rfl) (fun hc17 => ?_) (fun hc17 => ?_)
         · replace H1 := Zp hc17 H1
           refine r_s (L := [(0, _), (2, _), (4, _), (7, _), (9, _), (11, _)]) (T := [⟨[], _, [], [], [8]⟩]) (F := [.old 0, .old 1, .old 2, .old 3, .op 0 0, .old 4, .old 5]) (hst.pick [0, 1, 2, 3, 5, 6] rfl) hb Za
             (o_p rfl (Zc rfl rfl c_b) <| o_n) (by kernel_rfl) (fun a g hst hb => ?_)
           refine r_s (T := [⟨[.old 6], _, [], [], [69]⟩, ⟨[.op 0 0], _, [], [0], [70]⟩]) (F := [.old 0, .old 1, .old 2, .old 3, .old 4, .old 5, .op 1 0]) hst hb Za
             (o_p rfl (Zd rfl rfl u_0) <| o_p rfl (Zb4 rfl rfl u_0) <| o_n) (by kernel_rfl) (fun a g hst hb => ?_)
           refine wp_cond_split (hst.bool 6 rfl) (fun hc18 => ?_) (fun hc18 => ?_)
           · replace H1 := Zp hc18 H1
             obtain ⟨h19, H1⟩ := Zhb H1
             refine r_g (L := [(0, _), (2, _), (4, _), (7, _), (8, _), (9, _)]) (T := [⟨[.old 3], _, [], [], [71]⟩, ⟨[.old 2], _, [], [], [72]⟩, ⟨[.op 1 0], _, [], [1], [73]⟩, ⟨[.op 0 0, .op 2 0], _, [13], [0, 1, 2], [7, 71, 74]⟩, ⟨[.op 3 0], _, [], Lr 4, [7]⟩]) (F := [.old 0, .old 1, .old 2, .op 4 0, .old 4, .old 5]) (hst.pick [0, 1, 2, 3, 4, 5] rfl) hb Za
               (o_p rfl (Zd rfl rfl u_0) <| o_p rfl (Zg Zdh rfl rfl u_0) <| o_p rfl (Zgx Zcu (xs := [.tmp 72]) (.cons u_0 .nil) (by decide) rfl rfl) <| o_p rfl (Zi5 Zcu rfl rfl u_0 u_1 h19) <| o_p rfl (Zc rfl rfl u_0) <| o_n) (by kernel_rfl) (fun a g hst hb => ?_)
             exact ⟨(x1 ++ ([a1] : List Zh)), true, g, rfl, (hst.pick [0, 1, 2, 3, 4, 5] rfl), hb, H1⟩
           · replace H1 := Zo hc18 H1
             refine wp_skip ?_
             exact ⟨x1, true, g, rfl, (hst.pick [0, 1, 2, 3, 4, 5] rfl), hb, H1⟩
         · replace H1 := Zo hc17 H1
           refine wp_skip ?_
           exact ⟨x1, x2, g, rfl, (hst.pick [0, 1, 2, 3, 4, 5] rfl), hb, H1⟩
     · replace H1 := Zo hc4 H1
       refine wp_exit ?_
       refine Zcf ?_
       refine Zcf ?_
       refine Zc1 ?_
       exact ⟨x1, x2, g, rfl, (hst.pick [2, 3, 4] rfl), hb, Option.some.inj H1⟩
theorem Zo4 (a0 : Zb) (a1 : Zs) {r : Zb × Zi} (h : Zbk a0 a1 = some r) : FnOk Tryd.prog 70 [(Zf.pd a0), (Zw.pd a1)] (pTup [(Zf.pd r.1), (Zu.pd r.2)]) := by
 have H0 := h
 unfold Zbk at H0
 clear h
 refine Zbq (N := 217) Tryd.func70 rfl rfl (Nat.le_of_ble_eq_true rfl) rfl rfl (fun a g0 hst hb => ?_)
 refine r_s (T := [⟨[.old 0], _, [3], [], [2]⟩, ⟨[.old 1], _, [], [], [3]⟩, ⟨[], [(4, (pBox Zf 4 (default : Zb)))], [5], [], [4]⟩, ⟨[], [(5, (pBox Zu 5 (default : Zi)))], [6], [], [5]⟩]) (F := [.op 0 0, .op 1 0, .op 2 0, .op 3 0]) hst hb Za
   (o_p rfl (Zik rfl rfl u_0) <| o_p rfl (Zbs rfl rfl u_0) <| o_p rfl (Zbi (zs := [.int .i64 0, .int .i64 0, .int .i64 0, .int .i64 0, .float .f64 0, .int .i64 0, .string ByteArray.empty, .slice none 0 0]) (by kernel_rfl) (fun g => Zbo g) rfl rfl) <| o_p rfl (Zbi (zs := [.int .i64 0, .int .i64 0, .int .i64 0, .int .i64 0, .int .i64 0, .int .i64 0, .float .f64 0, .int .i64 0, .string ByteArray.empty, .slice none 0 0]) (by kernel_rfl) (fun g => Ze6 g) rfl rfl) <| o_n) (by kernel_rfl) (fun a g hst hb => ?_)
 refine r_s (T := [⟨[], _, [], [], [10]⟩, ⟨[], [(6, (pBox Zu 6 (default : Zi)))], [7], [], [6]⟩, ⟨[.op 0 0, .op 1 0], _, [7], [0, 1], [6]⟩]) (F := [.old 0, .old 1, .old 2, .old 3, .op 2 0]) hst hb Za
   (o_p rfl (Zob rfl rfl ) <| o_p rfl (Zbi (zs := [.int .i64 0, .int .i64 0, .int .i64 0, .int .i64 0, .int .i64 0, .int .i64 0, .float .f64 0, .int .i64 0, .string ByteArray.empty, .slice none 0 0]) (by kernel_rfl) (fun g => Ze6 g) rfl rfl) <| o_p rfl (Z5 Zct rfl rfl u_1 u_0) <| o_n) (by kernel_rfl) (fun a g hst hb => ?_)
 refine wp_seq ?_
 refine r_s (T := [⟨[.old 1], _, [], [], [11]⟩, ⟨[.op 0 0], _, [], [0], [12]⟩]) (F := [.old 0, .old 1, .old 2, .old 3, .old 4, .op 1 0]) hst hb Za
   (o_p rfl (Ze Zb9 rfl rfl u_0) <| o_p rfl (Zg ty_3 rfl rfl u_0) <| o_n) (by kernel_rfl) (fun a g hst hb => ?_)
 refine Zbv (fun a w => ∃ (j65 : Zb) (j66 : Zi) (g : G), w = g.w ∧ St 217 [(2, (pBox Zf 2 j65)), (4, (pBox Zf 4 (default : Zb))), (5, (pBox Zu 5 (default : Zi))), (6, (pBox Zu 6 j66))] a g ∧ Base g0 g ∧ Zy j65 j66 = some r) ?_ ?_
 · rintro a w ⟨j65, j66, g, rfl, hst, hb, H0⟩
   unfold Zy at H0
   refine Zq ?_
   refine r_s (T := [⟨[.old 0], _, [], [], [215]⟩, ⟨[.old 3], _, [], [], [216]⟩, ⟨[.op 0 0, .old 1], _, [5], [0], [4]⟩, ⟨[.op 1 0, .old 2], _, [6], [0, 1, 2], [5]⟩]) (F := [.op 2 0, .op 3 0]) hst hb Za
     (o_p rfl (Zch Z0 rfl rfl u_0) <| o_p rfl (Zch Zct rfl rfl u_0) <| o_p rfl (Z5 Z0 rfl rfl u_1 u_0) <| o_p rfl (Z5 Zct rfl rfl u_1 u_0) <| o_n) (by kernel_rfl) (fun a g hst hb => ?_)
   refine wp_ret ?_
   obtain rfl := Option.some.inj H0
   obtain ⟨u0, hu0, hq0⟩ := Zbe (P := Tryd.prog) Z0 (hst.at 0 rfl)
   obtain ⟨u1, hu1, hq1⟩ := Zbe (P := Tryd.prog) Zct (hst.at 1 rfl)
   exact Zhk rfl hst hb hu0 hu1 (Zf1 hq0 hq1)
 · refine wp_block ?_
   refine r_s (T := [⟨[.old 5], _, [], [], [14]⟩, ⟨[.op 0 0], _, [], [0], [13]⟩]) (F := [.old 0, .old 1, .old 2, .old 3, .old 4, .old 5, .op 1 0]) hst hb Za
     (o_p rfl (Z7 rfl rfl u_0 c_i) <| o_p rfl (Zc rfl rfl u_0) <| o_n) (by kernel_rfl) (fun a g hst hb => ?_)
   refine wp_cond_split (hst.bool 6 rfl) (fun hc1 => ?_) (fun hc1 => ?_)
   · replace H0 := Zp hc1 H0
     refine r_g (L := [(2, _), (3, _), (4, _), (5, _), (6, _)]) (T := [⟨[.old 1], _, [], [], [15]⟩, ⟨[.op 0 0], _, [], [0], [16]⟩, ⟨[.old 0], _, [], [0, 1], [17]⟩, ⟨[.op 1 0, .op 2 0, .old 0], _, [3], [0, 1, 2], [2, 17]⟩]) (F := [.op 3 0, .old 2, .old 3, .old 4]) (hst.pick [0, 1, 2, 3, 4] rfl) hb Za
       (o_p rfl (Ze Zd7 rfl rfl u_0) <| o_p rfl (Zg ty_9 rfl rfl u_0) <| o_p rfl (Zj Zgp (off := 6) (by kernel_rfl) rfl rfl u_0) <| o_p rfl (Zok ty_9 rfl rfl u_2 u_1 u_0) <| o_n) (by kernel_rfl) (fun a g hst hb => ?_)
     refine Z6 ?_
     exact ⟨({ a0 with Text := a1.S }), ({ Code := (0 : Int), Num := (0 : Int), Rec := (default : Zb) } : Zi), g, rfl, (hst.pick [0, 1, 2, 3] rfl), hb, H0⟩
   · replace H0 := Zo hc1 H0
     refine r_s (L := [(2, _), (3, _), (4, _), (5, _), (6, _), (12, _)]) (T := [⟨[.old 5], _, [], [], [19]⟩, ⟨[.op 0 0], _, [], [0], [18]⟩]) (F := [.old 0, .old 1, .old 2, .old 3, .old 4, .old 5, .op 1 0]) (hst.pick [0, 1, 2, 3, 4, 5] rfl) hb Za
       (o_p rfl (Z7 rfl rfl u_0 c_i) <| o_p rfl (Zc rfl rfl u_0) <| o_n) (by kernel_rfl) (fun a g hst hb => ?_)
     refine wp_cond_split (hst.bool 6 rfl) (fun hc2 => ?_) (fun hc2 => ?_)
     · replace H0 := Zp hc2 H0
       obtain ⟨r3, h4, H0⟩ := Zk H0
       refine r_s (L := [(2, _), (3, _), (4, _), (5, _), (6, _)]) (T := [⟨[.old 0], _, [], [], [20]⟩, ⟨[.op 0 0], _, [], [0], [21]⟩, ⟨[.old 4], _, [], [0, 1], [22]⟩, ⟨[.op 1 0, .op 2 0, .old 4], _, [7], [0, 1, 2], [6, 22]⟩]) (F := [.old 0, .old 1, .old 2, .old 3, .op 3 0]) (hst.pick [0, 1, 2, 3, 4] rfl) hb Za
         (o_p rfl (Zch Z0 rfl rfl u_0) <| o_p rfl (Zt Zr5 (Zf7 _ h4) rfl rfl (.cons u_0 .nil)) <| o_p rfl (Zj Zup (off := 2) (by kernel_rfl) rfl rfl u_0) <| o_p rfl (Zum Z0 rfl rfl u_2 u_1 u_0) <| o_n) (by kernel_rfl) (fun a g hst hb => ?_)
       refine r_g (T := [⟨[.old 1], _, [], [], [23]⟩, ⟨[.op 0 0], _, [], [0], [24]⟩, ⟨[.old 0], _, [], [0, 1], [25]⟩, ⟨[.op 1 0, .op 2 0, .old 0], _, [3], [0, 1, 2], [2, 25]⟩]) (F := [.op 3 0, .old 2, .old 3, .old 4]) hst hb Za
         (o_p rfl (Ze Zd7 rfl rfl u_0) <| o_p rfl (Zg ty_9 rfl rfl u_0) <| o_p rfl (Zj Zgp (off := 6) (by kernel_rfl) rfl rfl u_0) <| o_p rfl (Zok ty_9 rfl rfl u_2 u_1 u_0) <| o_n) (by kernel_rfl) (fun a g hst hb => ?_)
       refine Z6 ?_
       exact ⟨({ a0 with Text := a1.S }), ({ ({ Code := (0 : Int), Num := (0 : Int), Rec := (default : Zb) } : Zi) with Rec := r3 }), g, rfl, (hst.pick [0, 1, 2, 3] rfl), hb, H0⟩
     · replace H0 := Zo hc2 H0
       refine r_s (L := [(2, _), (3, _), (4, _), (5, _), (6, _), (12, _)]) (T := [⟨[.old 5], _, [], [], [27]⟩, ⟨[.op 0 0], _, [], [0], [26]⟩]) (F := [.old 0, .old 1, .old 2, .old 3, .old 4, .old 5, .op 1 0]) (hst.pick [0, 1, 2, 3, 4, 5] rfl) hb Za
         (o_p rfl (Z7 rfl rfl u_0 c_i) <| o_p rfl (Zc rfl rfl u_0) <| o_n) (by kernel_rfl) (fun a g hst hb => ?_)
       refine wp_cond_split (hst.bool 6 rfl) (fun hc5 => ?_) (fun hc5 => ?_)
       · replace H0 := Zp hc5 H0
         refine r_g (L := [(2, _), (3, _), (4, _), (5, _), (6, _)]) (T := [⟨[.old 0], _, [], [], [28]⟩, ⟨[.op 0 0], _, [], [0], [29]⟩, ⟨[.old 1], _, [], [], [30]⟩, ⟨[.op 2 0], _, [], [2], [31]⟩, ⟨[.op 1 0, .op 3 0], _, [], Lr 4, [32]⟩, ⟨[.old 0], _, [], Lr 5, [33]⟩, ⟨[.op 4 0, .op 5 0, .old 0], _, [3], Lr 6, [2, 28, 33]⟩]) (F := [.op 6 0, .old 2, .old 3, .old 4]) (hst.pick [0, 1, 2, 3, 4] rfl) hb Za
           (o_p rfl (Zj Zbx (off := 1) (by kernel_rfl) rfl rfl u_0) <| o_p rfl (Z1 ty_2 rfl rfl u_0) <| o_p rfl (Ze Zcq rfl rfl u_0) <| o_p rfl (Zg ty_2 rfl rfl u_0) <| o_p rfl (Zcg rfl rfl u_0 u_1 rfl) <| o_p rfl (Zj Zbx (off := 1) (by kernel_rfl) rfl rfl u_0) <| o_p rfl (Zil ty_2 rfl rfl u_2 u_1 u_0) <| o_n) (by kernel_rfl) (fun a g hst hb => ?_)
         refine Z6 ?_
         exact ⟨({ a0 with Num := (IntKind.i64.wrap (a0.Num + a1.N)) }), ({ Code := (0 : Int), Num := (0 : Int), Rec := (default : Zb) } : Zi), g, rfl, (hst.pick [0, 1, 2, 3] rfl), hb, H0⟩
       · replace H0 := Zo hc5 H0
         refine r_s (L := [(2, _), (3, _), (4, _), (5, _), (6, _), (12, _)]) (T := [⟨[.old 5], _, [], [], [35]⟩, ⟨[.op 0 0], _, [], [0], [34]⟩]) (F := [.old 0, .old 1, .old 2, .old 3, .old 4, .old 5, .op 1 0]) (hst.pick [0, 1, 2, 3, 4, 5] rfl) hb Za
           (o_p rfl (Z7 rfl rfl u_0 c_i) <| o_p rfl (Zc rfl rfl u_0) <| o_n) (by kernel_rfl) (fun a g hst hb => ?_)
         refine wp_cond_split (hst.bool 6 rfl) (fun hc6 => ?_) (fun hc6 => ?_)
         · replace H0 := Zp hc6 H0
           obtain ⟨r7, h8, H0⟩ := Zk H0
           refine r_s (L := [(2, _), (3, _), (4, _), (5, _), (6, _)]) (T := [⟨[.old 0], _, [], [], [36]⟩, ⟨[.op 0 0], _, [], [0], [37]⟩, ⟨[.old 1], _, [], [], [38]⟩, ⟨[.op 2 0], _, [], [2], [39]⟩, ⟨[.op 1 0, .op 3 0], _, [], Lr 4, [40]⟩]) (F := [.old 0, .old 1, .old 2, .old 3, .old 4, .op 4 0]) (hst.pick [0, 1, 2, 3, 4] rfl) hb Za
             (o_p rfl (Zj Zbx (off := 1) (by kernel_rfl) rfl rfl u_0) <| o_p rfl (Z1 ty_2 rfl rfl u_0) <| o_p rfl (Ze Zcq rfl rfl u_0) <| o_p rfl (Zg ty_2 rfl rfl u_0) <| o_p rfl (Zt Z23 (Znk _ _ h8) rfl rfl (.cons u_0 (.cons u_1 .nil))) <| o_n) (by kernel_rfl) (fun a g hst hb => ?_)
           refine wp_cond_split (hst.bool 5 rfl) (fun hc9 => ?_) (fun hc9 => ?_)
           · replace H0 := Zp hc9 H0
             refine r_g (L := [(2, _), (4, _), (5, _), (6, _)]) (T := [⟨[.old 3], _, [], [], [41]⟩, ⟨[.op 0 0, .old 3], _, [7], [0], [6, 41]⟩]) (F := [.old 0, .old 1, .old 2, .op 1 0]) (hst.pick [0, 2, 3, 4] rfl) hb Za
               (o_p rfl (Zj Zlc (off := 0) (by kernel_rfl) rfl rfl u_0) <| o_p rfl (Zlb Zoj rfl rfl u_1 u_0 c_i) <| o_n) (by kernel_rfl) (fun a g hst hb => ?_)
             refine Z6 ?_
             exact ⟨a0, ({ ({ Code := (0 : Int), Num := (0 : Int), Rec := (default : Zb) } : Zi) with Code := (9 : Int) }), g, rfl, (hst.pick [0, 1, 2, 3] rfl), hb, H0⟩
           · replace H0 := Zo hc9 H0
             refine r_g (L := [(2, _), (3, _), (4, _), (5, _), (6, _)]) (T := [⟨[.old 0], _, [], [], [42]⟩, ⟨[.op 0 0], _, [], [0], [43]⟩, ⟨[.old 1], _, [], [], [44]⟩, ⟨[.op 2 0], _, [], [2], [45]⟩, ⟨[.op 1 0, .op 3 0], _, [], Lr 4, [46]⟩, ⟨[.old 0], _, [], Lr 5, [47]⟩, ⟨[.op 4 0, .op 5 0, .old 0], _, [3], Lr 6, [2, 42, 47]⟩]) (F := [.op 6 0, .old 2, .old 3, .old 4]) (hst.pick [0, 1, 2, 3, 4] rfl) hb Za
               (o_p rfl (Zj Zbx (off := 1) (by kernel_rfl) rfl rfl u_0) <| o_p rfl (Z1 ty_2 rfl rfl u_0) <| o_p rfl (Ze Zcq rfl rfl u_0) <| o_p rfl (Zg ty_2 rfl rfl u_0) <| o_p rfl (Zcg rfl rfl u_0 u_1 rfl) <| o_p rfl (Zj Zbx (off := 1) (by kernel_rfl) rfl rfl u_0) <| o_p rfl (Zil ty_2 rfl rfl u_2 u_1 u_0) <| o_n) (by kernel_rfl) (fun a g hst hb => ?_)
             refine Z6 ?_
             exact ⟨({ a0 with Num := (IntKind.i64.wrap (a0.Num + a1.N)) }), ({ Code := (0 : Int), Num := (0 : Int), Rec := (default : Zb) } : Zi), g, rfl, (hst.pick [0, 1, 2, 3] rfl), hb, H0⟩
         · replace H0 := Zo hc6 H0
           refine wp_seq ?_
           refine r_s (L := [(2, _), (3, _), (4, _), (5, _), (6, _), (12, _)]) (T := [⟨[.old 5], _, [], [], [49]⟩, ⟨[.op 0 0], _, [], [0], [48]⟩]) (F := [.old 0, .old 1, .old 2, .old 3, .old 4, .old 5, .op 1 0]) (hst.pick [0, 1, 2, 3, 4, 5] rfl) hb Za
             (o_p rfl (Z7 rfl rfl u_0 c_i) <| o_p rfl (Zc rfl rfl u_0) <| o_n) (by kernel_rfl) (fun a g hst hb => ?_)
           refine Zbv (fun a w => ∃ (j11 : Bool) (g : G), w = g.w ∧ St 217 [(2, (pBox Zf 2 a0)), (3, (Zw.ptr a1)), (4, (pBox Zf 4 (default : Zb))), (5, (pBox Zu 5 (default : Zi))), (6, (pBox Zu 6 ({ Code := (0 : Int), Num := (0 : Int), Rec := (default : Zb) } : Zi))), (12, (pInt .i64 a1.Kind)), (48, (Zba j11))] a g ∧ Base g0 g ∧ Zb7 a0 a1 j11 = some r) ?_ ?_
           · rintro a w ⟨j11, g, rfl, hst, hb, H0⟩
             unfold Zb7 at H0
             refine Zq ?_
             refine wp_cond_split (hst.bool 6 rfl) (fun hc12 => ?_) (fun hc12 => ?_)
             · replace H0 := Zp hc12 H0
               refine r_s (L := [(2, _), (3, _), (4, _), (5, _), (6, _)]) (T := [⟨[.old 0], _, [], [], [51]⟩, ⟨[.op 0 0], _, [], [0], [52]⟩, ⟨[.old 1], _, [], [], [53]⟩, ⟨[.op 2 0], _, [], [2], [54]⟩, ⟨[.op 1 0, .op 3 0], _, [], Lr 4, [55]⟩]) (F := [.old 0, .old 2, .old 3, .old 4, .op 4 0]) (hst.pick [0, 1, 2, 3, 4] rfl) hb Za
                 (o_p rfl (Zj Zbx (off := 1) (by kernel_rfl) rfl rfl u_0) <| o_p rfl (Z1 ty_2 rfl rfl u_0) <| o_p rfl (Ze Zcq rfl rfl u_0) <| o_p rfl (Zg ty_2 rfl rfl u_0) <| o_p rfl (Zcb rfl rfl u_0 u_1) <| o_n) (by kernel_rfl) (fun a g hst hb => ?_)
               refine wp_cond_split (hst.bool 4 rfl) (fun hc13 => ?_) (fun hc13 => ?_)
               · replace H0 := Zp hc13 H0
                 refine r_g (L := [(2, _), (4, _), (5, _), (6, _)]) (T := [⟨[.old 3], _, [], [], [56]⟩, ⟨[.op 0 0, .old 3], _, [7], [0], [6, 56]⟩]) (F := [.old 0, .old 1, .old 2, .op 1 0]) (hst.pick [0, 1, 2, 3] rfl) hb Za
                   (o_p rfl (Zj Zlc (off := 0) (by kernel_rfl) rfl rfl u_0) <| o_p rfl (Zlb Zoj rfl rfl u_1 u_0 c_i) <| o_n) (by kernel_rfl) (fun a g hst hb => ?_)
                 refine Z6 ?_
                 exact ⟨a0, ({ ({ Code := (0 : Int), Num := (0 : Int), Rec := (default : Zb) } : Zi) with Code := (11 : Int) }), g, rfl, (hst.pick [0, 1, 2, 3] rfl), hb, H0⟩
               · replace H0 := Zo hc13 H0
                 refine wp_skip ?_
                 refine Z6 ?_
                 exact ⟨a0, ({ Code := (0 : Int), Num := (0 : Int), Rec := (default : Zb) } : Zi), g, rfl, (hst.pick [0, 1, 2, 3] rfl), hb, H0⟩
             · replace H0 := Zo hc12 H0
               refine r_s (L := [(2, _), (3, _), (4, _), (5, _), (6, _), (12, _)]) (T := [⟨[.old 5], _, [], [], [58]⟩, ⟨[.op 0 0], _, [], [0], [57]⟩]) (F := [.old 0, .old 1, .old 2, .old 3, .old 4, .old 5, .op 1 0]) (hst.pick [0, 1, 2, 3, 4, 5] rfl) hb Za
                 (o_p rfl (Z7 rfl rfl u_0 c_i) <| o_p rfl (Zc rfl rfl u_0) <| o_n) (by kernel_rfl) (fun a g hst hb => ?_)
               refine wp_cond_split (hst.bool 6 rfl) (fun hc14 => ?_) (fun hc14 => ?_)
               · replace H0 := Zp hc14 H0
                 refine r_s (L := [(2, _), (3, _), (4, _), (5, _), (6, _)]) (T := [⟨[.old 0], _, [], [], [59]⟩, ⟨[.op 0 0], _, [], [0], [60]⟩, ⟨[.old 1], _, [], [], [61]⟩, ⟨[.op 2 0], _, [], [2], [62]⟩, ⟨[.op 1 0, .op 3 0], _, [], Lr 4, [63]⟩, ⟨[.old 0], _, [], [], [64]⟩, ⟨[.op 5 0], _, [], [5], [65]⟩, ⟨[.op 4 0, .op 6 0], _, [], Lr 7, [66]⟩]) (F := [.old 0, .old 1, .old 2, .old 3, .old 4, .op 7 0]) (hst.pick [0, 1, 2, 3, 4] rfl) hb Za
                   (o_p rfl (Zj Zbx (off := 1) (by kernel_rfl) rfl rfl u_0) <| o_p rfl (Z1 ty_2 rfl rfl u_0) <| o_p rfl (Ze Zcq rfl rfl u_0) <| o_p rfl (Zg ty_2 rfl rfl u_0) <| o_p rfl (Zcg rfl rfl u_0 u_1 rfl) <| o_p rfl (Zj Zgn (off := 3) (by kernel_rfl) rfl rfl u_0) <| o_p rfl (Z1 ty_2 rfl rfl u_0) <| o_p rfl (Zcj rfl rfl u_0 u_1) <| o_n) (by kernel_rfl) (fun a g hst hb => ?_)
                 refine wp_cond_split (hst.bool 5 rfl) (fun hc15 => ?_) (fun hc15 => ?_)
                 · replace H0 := Zp hc15 H0
                   refine r_g (L := [(2, _), (4, _), (5, _), (6, _)]) (T := [⟨[.old 3], _, [], [], [67]⟩, ⟨[.op 0 0, .old 3], _, [7], [0], [6, 67]⟩]) (F := [.old 0, .old 1, .old 2, .op 1 0]) (hst.pick [0, 2, 3, 4] rfl) hb Za
                     (o_p rfl (Zj Zlc (off := 0) (by kernel_rfl) rfl rfl u_0) <| o_p rfl (Zlb Zoj rfl rfl u_1 u_0 c_i) <| o_n) (by kernel_rfl) (fun a g hst hb => ?_)
                   refine Z6 ?_
                   exact ⟨a0, ({ ({ Code := (0 : Int), Num := (0 : Int), Rec := (default : Zb) } : Zi) with Code := (9 : Int) }), g, rfl, (hst.pick [0, 1, 2, 3] rfl), hb, H0⟩
                 · replace H0 := Zo hc15 H0
                   refine r_g (L := [(2, _), (3, _), (4, _), (5, _), (6, _)]) (T := [⟨[.old 0], _, [], [], [68]⟩, ⟨[.op 0 0], _, [], [0], [69]⟩, ⟨[.old 1], _, [], [], [70]⟩, ⟨[.op 2 0], _, [], [2], [71]⟩, ⟨[.op 1 0, .op 3 0], _, [], Lr 4, [72]⟩, ⟨[.old 0], _, [], Lr 5, [73]⟩, ⟨[.op 4 0, .op 5 0, .old 0], _, [3], Lr 6, [2, 68, 73]⟩]) (F := [.op 6 0, .old 2, .old 3, .old 4]) (hst.pick [0, 1, 2, 3, 4] rfl) hb Za
                     (o_p rfl (Zj Zbx (off := 1) (by kernel_rfl) rfl rfl u_0) <| o_p rfl (Z1 ty_2 rfl rfl u_0) <| o_p rfl (Ze Zcq rfl rfl u_0) <| o_p rfl (Zg ty_2 rfl rfl u_0) <| o_p rfl (Zcg rfl rfl u_0 u_1 rfl) <| o_p rfl (Zj Zbx (off := 1) (by kernel_rfl) rfl rfl u_0) <| o_p rfl (Zil ty_2 rfl rfl u_2 u_1 u_0) <| o_n) (by kernel_rfl) (fun a g hst hb => ?_)
                   refine Z6 ?_
                   exact ⟨({ a0 with Num := (IntKind.i64.wrap (a0.Num + a1.N)) }), ({ Code := (0 : Int), Num := (0 : Int), Rec := (default : Zb) } : Zi), g, rfl, (hst.pick [0, 1, 2, 3] rfl), hb, H0⟩
               · replace H0 := Zo hc14 H0
                 refine r_s (L := [(2, _), (3, _), (4, _), (5, _), (6, _), (12, _)]) (T := [⟨[.old 5], _, [], [], [75]⟩, ⟨[.op 0 0], _, [], [0], [74]⟩]) (F := [.old 0, .old 1, .old 2, .old 3, .old 4, .old 5, .op 1 0]) (hst.pick [0, 1, 2, 3, 4, 5] rfl) hb Za
                   (o_p rfl (Z7 rfl rfl u_0 c_i) <| o_p rfl (Zc rfl rfl u_0) <| o_n) (by kernel_rfl) (fun a g hst hb => ?_)
                 refine wp_cond_split (hst.bool 6 rfl) (fun hc16 => ?_) (fun hc16 => ?_)
                 · replace H0 := Zp hc16 H0
                   refine r_s (L := [(2, _), (3, _), (4, _), (5, _), (6, _)]) (T := [⟨[.old 0], _, [], [], [76]⟩, ⟨[.op 0 0], _, [], [0], [77]⟩, ⟨[.old 1], _, [], [], [78]⟩, ⟨[.op 2 0], _, [], [2], [79]⟩, ⟨[.op 1 0, .op 3 0], _, [], Lr 4, [80]⟩, ⟨[.old 0], _, [], [], [81]⟩, ⟨[.op 5 0], _, [], [5], [82]⟩, ⟨[.op 4 0, .op 6 0], _, [], Lr 7, [83]⟩]) (F := [.old 0, .old 1, .old 2, .old 3, .old 4, .op 7 0]) (hst.pick [0, 1, 2, 3, 4] rfl) hb Za
                     (o_p rfl (Zj Zbx (off := 1) (by kernel_rfl) rfl rfl u_0) <| o_p rfl (Z1 ty_2 rfl rfl u_0) <| o_p rfl (Ze Zcq rfl rfl u_0) <| o_p rfl (Zg ty_2 rfl rfl u_0) <| o_p rfl (Zd5 rfl rfl u_0 u_1 rfl) <| o_p rfl (Zj Zgl (off := 2) (by kernel_rfl) rfl rfl u_0) <| o_p rfl (Z1 ty_2 rfl rfl u_0) <| o_p rfl (Zcb rfl rfl u_0 u_1) <| o_n) (by kernel_rfl) (fun a g hst hb => ?_)
                   refine wp_cond_split (hst.bool 5 rfl) (fun hc17 => ?_) (fun hc17 => ?_)
                   · replace H0 := Zp hc17 H0
                     refine r_g (L := [(2, _), (4, _), (5, _), (6, _)]) (T := [⟨[.old 3], _, [], [], [84]⟩, ⟨[.op 0 0, .old 3], _, [7], [0], [6, 84]⟩]) (F := [.old 0, .old 1, .old 2, .op 1 0]) (hst.pick [0, 2, 3, 4] rfl) hb Za
                       (o_p rfl (Zj Zlc (off := 0) (by kernel_rfl) rfl rfl u_0) <| o_p rfl (Zlb Zoj rfl rfl u_1 u_0 c_i) <| o_n) (by kernel_rfl) (fun a g hst hb => ?_)
                     refine Z6 ?_
                     exact ⟨a0, ({ ({ Code := (0 : Int), Num := (0 : Int), Rec := (default : Zb) } : Zi) with Code := (10 : Int) }), g, rfl, (hst.pick [0, 1, 2, 3] rfl), hb, H0⟩
                   · replace H0 := Zo hc17 H0
                     refine r_g (L := [(2, _), (3, _), (4, _), (5, _), (6, _)]) (T := [⟨[.old 0], _, [], [], [85]⟩, ⟨[.op 0 0], _, [], [0], [86]⟩, ⟨[.old 1], _, [], [], [87]⟩, ⟨[.op 2 0], _, [], [2], [88]⟩, ⟨[.op 1 0, .op 3 0], _, [], Lr 4, [89]⟩, ⟨[.old 0], _, [], Lr 5, [90]⟩, ⟨[.op 4 0, .op 5 0, .old 0], _, [3], Lr 6, [2, 85, 90]⟩]) (F := [.op 6 0, .old 2, .old 3, .old 4]) (hst.pick [0, 1, 2, 3, 4] rfl) hb Za
                       (o_p rfl (Zj Zbx (off := 1) (by kernel_rfl) rfl rfl u_0) <| o_p rfl (Z1 ty_2 rfl rfl u_0) <| o_p rfl (Ze Zcq rfl rfl u_0) <| o_p rfl (Zg ty_2 rfl rfl u_0) <| o_p rfl (Zd5 rfl rfl u_0 u_1 rfl) <| o_p rfl (Zj Zbx (off := 1) (by kernel_rfl) rfl rfl u_0) <| o_p rfl (Zil ty_2 rfl rfl u_2 u_1 u_0) <| o_n) (by kernel_rfl) (fun a g hst hb => ?_)
                     refine Z6 ?_
                     exact ⟨({ a0 with Num := (IntKind.i64.wrap (a0.Num - a1.N)) }), ({ Code := (0 : Int), Num := (0 : Int), Rec := (default : Zb) } : Zi), g, rfl, (hst.pick [0, 1, 2, 3] rfl), hb, H0⟩
                 · replace H0 := Zo hc16 H0
                   refine r_s (L := [(2, _), (3, _), (4, _), (5, _), (6, _), (12, _)]) (T := [⟨[.old 5], _, [], [], [92]⟩, ⟨[.op 0 0], _, [], [0], [91]⟩]) (F := [.old 0, .old 1, .old 2, .old 3, .old 4, .old 5, .op 1 0]) (hst.pick [0, 1, 2, 3, 4, 5] rfl) hb Za
                     (o_p rfl (Z7 rfl rfl u_0 c_i) <| o_p rfl (Zc rfl rfl u_0) <| o_n) (by kernel_rfl) (fun a g hst hb => ?_)
                   refine wp_cond_split (hst.bool 6 rfl) (fun hc18 => ?_) (fun hc18 => ?_)
                   · replace H0 := Zp hc18 H0
                     obtain ⟨r19, h20, H0⟩ := Zk H0
                     refine r_g (L := [(2, _), (3, _), (4, _), (5, _), (6, _)]) (T := [⟨[.old 0], _, [], [], [93]⟩, ⟨[.op 0 0], _, [], [0], [94]⟩, ⟨[.old 1], _, [], [], [95]⟩, ⟨[.op 2 0], _, [], [2], [96]⟩, ⟨[.op 1 0, .op 3 0], _, [], Lr 4, [97]⟩, ⟨[.old 0], _, [], Lr 5, [98]⟩, ⟨[.op 4 0, .op 5 0, .old 0], _, [3], Lr 6, [2, 93, 98]⟩]) (F := [.op 6 0, .old 2, .old 3, .old 4]) (hst.pick [0, 1, 2, 3, 4] rfl) hb Za
                       (o_p rfl (Zj Zcv (off := 4) (by kernel_rfl) rfl rfl u_0) <| o_p rfl (Z1 Zby rfl rfl u_0) <| o_p rfl (Ze Zgm rfl rfl u_0) <| o_p rfl (Zg Zby rfl rfl u_0) <| o_p rfl (Zt Zze (Zko _ _ h20) rfl rfl (.cons u_0 (.cons u_1 .nil))) <| o_p rfl (Zj Zcv (off := 4) (by kernel_rfl) rfl rfl u_0) <| o_p rfl (Zio Zby rfl rfl u_2 u_1 u_0) <| o_n) (by kernel_rfl) (fun a g hst hb => ?_)
                     refine Z6 ?_
                     exact ⟨({ a0 with Real := r19 }), ({ Code := (0 : Int), Num := (0 : Int), Rec := (default : Zb) } : Zi), g, rfl, (hst.pick [0, 1, 2, 3] rfl), hb, H0⟩
                   · replace H0 := Zo hc18 H0
                     refine r_s (L := [(2, _), (3, _), (4, _), (5, _), (6, _), (12, _)]) (T := [⟨[.old 5], _, [], [], [100]⟩, ⟨[.op 0 0], _, [], [0], [99]⟩]) (F := [.old 0, .old 1, .old 2, .old 3, .old 4, .old 5, .op 1 0]) (hst.pick [0, 1, 2, 3, 4, 5] rfl) hb Za
                       (o_p rfl (Z7 rfl rfl u_0 c_i) <| o_p rfl (Zc rfl rfl u_0) <| o_n) (by kernel_rfl) (fun a g hst hb => ?_)
                     refine wp_cond_split (hst.bool 6 rfl) (fun hc21 => ?_) (fun hc21 => ?_)
                     · replace H0 := Zp hc21 H0
                       obtain ⟨r22, h23, H0⟩ := Zk H0
                       refine r_g (L := [(2, _), (3, _), (4, _), (5, _), (6, _)]) (T := [⟨[.old 0], _, [], [], [101]⟩, ⟨[.op 0 0], _, [], [0], [102]⟩, ⟨[.old 1], _, [], [], [103]⟩, ⟨[.op 2 0], _, [], [2], [104]⟩, ⟨[.op 1 0, .op 3 0], _, [], Lr 4, [105]⟩, ⟨[.old 0], _, [], Lr 5, [106]⟩, ⟨[.op 4 0, .op 5 0, .old 0], _, [3], Lr 6, [2, 101, 106]⟩]) (F := [.op 6 0, .old 2, .old 3, .old 4]) (hst.pick [0, 1, 2, 3, 4] rfl) hb Za
                         (o_p rfl (Zj Zcv (off := 4) (by kernel_rfl) rfl rfl u_0) <| o_p rfl (Z1 Zby rfl rfl u_0) <| o_p rfl (Ze Zgm rfl rfl u_0) <| o_p rfl (Zg Zby rfl rfl u_0) <| o_p rfl (Zt Zyo (Zkv _ _ h23) rfl rfl (.cons u_0 (.cons u_1 .nil))) <| o_p rfl (Zj Zcv (off := 4) (by kernel_rfl) rfl rfl u_0) <| o_p rfl (Zio Zby rfl rfl u_2 u_1 u_0) <| o_n) (by kernel_rfl) (fun a g hst hb => ?_)
                       refine Z6 ?_
                       exact ⟨({ a0 with Real := r22 }), ({ Code := (0 : Int), Num := (0 : Int), Rec := (default : Zb) } : Zi), g, rfl, (hst.pick [0, 1, 2, 3] rfl), hb, H0⟩
                     · replace H0 := Zo hc21 H0
                       refine r_s (L := [(2, _), (3, _), (4, _), (5, _), (6, _), (12, _)]) (T := [⟨[.old 5], _, [], [], [108]⟩, ⟨[.op 0 0], _, [], [0], [107]⟩]) (F := [.old 0, .old 1, .old 2, .old 3, .old 4, .old 5, .op 1 0]) (hst.pick [0, 1, 2, 3, 4, 5] rfl) hb Za
                         (o_p rfl (Z7 rfl rfl u_0 c_i) <| o_p rfl (Zc rfl rfl u_0) <| o_n) (by kernel_rfl) (fun a g hst hb => ?_)
                       refine wp_cond_split (hst.bool 6 rfl) (fun hc24 => ?_) (fun hc24 => ?_)
                       · replace H0 := Zp hc24 H0
                         obtain ⟨r25, h26, H0⟩ := Zk H0; obtain ⟨r27, h28, H0⟩ := Zk H0
                         refine r_g (L := [(2, _), (3, _), (4, _), (5, _), (6, _)]) (T := [⟨[.old 0], _, [], [], [109]⟩, ⟨[.op 0 0], _, [], [0], [110]⟩, ⟨[.old 1], _, [], [], [111]⟩, ⟨[.op 2 0], _, [], [2], [112]⟩, ⟨[.op 1 0, .op 3 0], _, [], Lr 4, [113]⟩, ⟨[.op 4 0], _, [], Lr 5, [114]⟩, ⟨[.op 5 0], _, [], Lr 6, [115]⟩, ⟨[.old 0], _, [], Lr 7, [116]⟩, ⟨[.op 6 0, .op 7 0, .old 0], _, [3], Lr 8, [2, 109, 116]⟩]) (F := [.op 8 0, .old 2, .old 3, .old 4]) (hst.pick [0, 1, 2, 3, 4] rfl) hb Za
                           (o_p rfl (Zj Zcv (off := 4) (by kernel_rfl) rfl rfl u_0) <| o_p rfl (Z1 Zby rfl rfl u_0) <| o_p rfl (Ze Zgm rfl rfl u_0) <| o_p rfl (Zg Zby rfl rfl u_0) <| o_p rfl (Zsr rfl rfl u_0 u_1) <| o_p rfl (Zt Zwc (Zm8 (fun r z hr hz => by simp only [Zd8, Zdg, hr, hz, Option.bind_some, if_true]) (fun z r h => Zju z h) h26) rfl rfl (.cons u_0 .nil)) <| o_p rfl (Zt Zv2 (Zjr _ h28) rfl rfl (.cons u_0 .nil)) <| o_p rfl (Zj Zcv (off := 4) (by kernel_rfl) rfl rfl u_0) <| o_p rfl (Zio Zby rfl rfl u_2 u_1 u_0) <| o_n) (by kernel_rfl) (fun a g hst hb => ?_)
                         refine Z6 ?_
                         exact ⟨({ a0 with Real := r27 }), ({ Code := (0 : Int), Num := (0 : Int), Rec := (default : Zb) } : Zi), g, rfl, (hst.pick [0, 1, 2, 3] rfl), hb, H0⟩
                       · replace H0 := Zo hc24 H0
                         refine r_s (L := [(2, _), (3, _), (4, _), (5, _), (6, _), (12, _)]) (T := [⟨[.old 5], _, [], [], [118]⟩, ⟨[.op 0 0], _, [], [0], [117]⟩]) (F := [.old 0, .old 1, .old 2, .old 3, .old 4, .old 5, .op 1 0]) (hst.pick [0, 1, 2, 3, 4, 5] rfl) hb Za
                           (o_p rfl (Z7 rfl rfl u_0 c_i) <| o_p rfl (Zc rfl rfl u_0) <| o_n) (by kernel_rfl) (fun a g hst hb => ?_)
                         refine wp_cond_split (hst.bool 6 rfl) (fun hc29 => ?_) (fun hc29 => ?_)
                         · replace H0 := Zp hc29 H0
                           obtain ⟨r30, h31, H0⟩ := Zk H0; obtain ⟨r32, h33, H0⟩ := Zk H0
                           refine r_g (L := [(2, _), (3, _), (4, _), (5, _), (6, _)]) (T := [⟨[.old 0], _, [], [], [119]⟩, ⟨[.op 0 0], _, [], [0], [120]⟩, ⟨[.old 1], _, [], [], [121]⟩, ⟨[.op 2 0], _, [], [2], [122]⟩, ⟨[.op 1 0, .op 3 0], _, [], Lr 4, [123]⟩, ⟨[.op 4 0], _, [], Lr 5, [124]⟩, ⟨[.op 5 0], _, [], Lr 6, [125]⟩, ⟨[.old 0], _, [], Lr 7, [126]⟩, ⟨[.op 6 0, .op 7 0, .old 0], _, [3], Lr 8, [2, 119, 126]⟩]) (F := [.op 8 0, .old 2, .old 3, .old 4]) (hst.pick [0, 1, 2, 3, 4] rfl) hb Za
                             (o_p rfl (Zj Zcv (off := 4) (by kernel_rfl) rfl rfl u_0) <| o_p rfl (Z1 Zby rfl rfl u_0) <| o_p rfl (Ze Zgm rfl rfl u_0) <| o_p rfl (Zg Zby rfl rfl u_0) <| o_p rfl (Zsd rfl rfl u_0 u_1) <| o_p rfl (Zt Zwc (Zm8 (fun r z hr hz => by simp only [Zd8, Zdg, hr, hz, Option.bind_some, if_true]) (fun z r h => Zju z h) h31) rfl rfl (.cons u_0 .nil)) <| o_p rfl (Zt Zv2 (Zjr _ h33) rfl rfl (.cons u_0 .nil)) <| o_p rfl (Zj Zcv (off := 4) (by kernel_rfl) rfl rfl u_0) <| o_p rfl (Zio Zby rfl rfl u_2 u_1 u_0) <| o_n) (by kernel_rfl) (fun a g hst hb => ?_)
                           refine Z6 ?_
                           exact ⟨({ a0 with Real := r32 }), ({ Code := (0 : Int), Num := (0 : Int), Rec := (default : Zb) } : Zi), g, rfl, (hst.pick [0, 1, 2, 3] rfl), hb, H0⟩
                         · replace H0 := Zo hc29 H0
                           refine r_s (L := [(2, _), (3, _), (4, _), (5, _), (6, _), (12, _)]) (T := [⟨[.old 5], _, [], [], [128]⟩, ⟨[.op 0 0], _, [], [0], [127]⟩]) (F := [.old 0, .old 1, .old 2, .old 3, .old 4, .old 5, .op 1 0]) (hst.pick [0, 1, 2, 3, 4, 5] rfl) hb Za
                             (o_p rfl (Z7 rfl rfl u_0 c_i) <| o_p rfl (Zc rfl rfl u_0) <| o_n) (by kernel_rfl) (fun a g hst hb => ?_)
                           refine wp_cond_split (hst.bool 6 rfl) (fun hc34 => ?_) (fun hc34 => ?_)
                           · replace H0 := Zp hc34 H0
                             refine r_g (L := [(2, _), (3, _), (4, _), (5, _), (6, _)]) (T := [⟨[.old 1], _, [], [], [129]⟩, ⟨[.op 0 0], _, [], [0], [130]⟩, ⟨[.old 0], _, [], [0, 1], [131]⟩, ⟨[.op 1 0, .op 2 0, .old 0], _, [3], [0, 1, 2], [2, 131]⟩]) (F := [.op 3 0, .old 2, .old 3, .old 4]) (hst.pick [0, 1, 2, 3, 4] rfl) hb Za
                               (o_p rfl (Ze Zgm rfl rfl u_0) <| o_p rfl (Zg Zby rfl rfl u_0) <| o_p rfl (Zj Zcv (off := 4) (by kernel_rfl) rfl rfl u_0) <| o_p rfl (Zio Zby rfl rfl u_2 u_1 u_0) <| o_n) (by kernel_rfl) (fun a g hst hb => ?_)
                             refine Z6 ?_
                             exact ⟨({ a0 with Real := a1.X }), ({ Code := (0 : Int), Num := (0 : Int), Rec := (default : Zb) } : Zi), g, rfl, (hst.pick [0, 1, 2, 3] rfl), hb, H0⟩
                           · replace H0 := Zo hc34 H0
                             refine r_s (L := [(2, _), (3, _), (4, _), (5, _), (6, _), (12, _)]) (T := [⟨[.old 5], _, [], [], [133]⟩, ⟨[.op 0 0], _, [], [0], [132]⟩]) (F := [.old 0, .old 1, .old 2, .old 3, .old 4, .old 5, .op 1 0]) (hst.pick [0, 1, 2, 3, 4, 5] rfl) hb Za
                               (o_p rfl (Z7 rfl rfl u_0 c_i) <| o_p rfl (Zc rfl rfl u_0) <| o_n) (by kernel_rfl) (fun a g hst hb => ?_)
                             refine wp_cond_split (hst.bool 6 rfl) (fun hc35 => ?_) (fun hc35 => ?_)
                             · replace H0 := Zp hc35 H0
                               obtain ⟨r36, h37, H0⟩ := Zk H0
                               refine r_s (L := [(2, _), (3, _), (4, _), (5, _), (6, _)]) (T := ⟨[.old 0], _, [], [], [134]⟩ :: ⟨[.op 0 0], _, [], [0], [135]⟩ :: ⟨[.old 1], _, [], [], [136]⟩ :: ⟨[.op 2 0], _, [], [2], [137]⟩ :: ⟨[.op 1 0, .op 3 0], _, [], Lr 4, [138]⟩ :: ⟨[.op 4 0], _, [], Lr 5, [139]⟩ :: ⟨[.op 5 0], _, [], Lr 6, [140]⟩ :: ⟨[.op 6 0, .old 0], _, [], Lr 7, [141]⟩ :: ⟨[.op 6 0, .op 7 0], _, [], Lr 8, [142]⟩ :: ⟨[.op 6 0, .op 8 0], _, [], Lr 9, [143]⟩ :: ⟨[.op 6 0, .old 0], _, [], Lr 7, [144]⟩ :: ⟨[.op 6 0, .op 10 0], _, [], [0, 1, 2, 3, 4, 5, 6, 10], [145]⟩ :: ⟨[.op 6 0, .op 9 0, .op 11 0], _, [], Lr 12, [146]⟩ :: ⟨[.op 6 0, .op 12 0], _, [], Lr 13, [147]⟩ :: []) (F := [.old 0, .old 1, .old 2, .old 3, .old 4, .op 13 0]) (hst.pick [0, 1, 2, 3, 4] rfl) hb Za
                                 (o_p rfl (Zj Zbm (off := 7) (by kernel_rfl) rfl rfl u_0) <| o_p rfl (Z1 Zca rfl rfl u_0) <| o_p rfl (Ze Zd7 rfl rfl u_0) <| o_p rfl (Zg ty_9 rfl rfl u_0) <| o_p rfl (Zt Zv6 (Zku _ _ h37) rfl rfl (.cons u_0 (.cons u_1 .nil))) <| o_p rfl (Zb4 rfl rfl u_0) <| o_p rfl (Zd rfl rfl u_0) <| o_g (g_t rfl rfl rfl (fun hG => Zj Zbm (off := 7) (by kernel_rfl) rfl rfl u_0)) <| o_g (g_t rfl rfl rfl (fun hG => Z1 Zca rfl rfl (Opd.gd hG u_0))) <| o_g (g_t rfl rfl rfl (fun hG => Zcd Tryd.underlying23 rfl rfl (Opd.gd hG u_0))) <| o_g (g_t rfl rfl rfl (fun hG => Zj Zeo (off := 5) (by kernel_rfl) rfl rfl u_0)) <| o_g (g_t rfl rfl rfl (fun hG => Z1 ty_3 rfl rfl (Opd.gd hG u_0))) <| o_g (g_t rfl rfl rfl (fun hG => Zji rfl rfl (Opd.gd hG u_0) (Opd.gd hG u_1))) <| o_p rfl (Zbb rfl rfl u_0 (fun hz => (Opd.gd hz u_1))) <| o_n) (by kernel_rfl) (fun a g hst hb => ?_)
                               refine wp_cond_split (hst.bool 5 rfl) (fun hc38 => ?_) (fun hc38 => ?_)
                               · replace H0 := Zp hc38 H0
                                 refine r_g (L := [(2, _), (4, _), (5, _), (6, _)]) (T := [⟨[.old 3], _, [], [], [148]⟩, ⟨[.op 0 0, .old 3], _, [7], [0], [6, 148]⟩]) (F := [.old 0, .old 1, .old 2, .op 1 0]) (hst.pick [0, 2, 3, 4] rfl) hb Za
                                   (o_p rfl (Zj Zlc (off := 0) (by kernel_rfl) rfl rfl u_0) <| o_p rfl (Zlb Zoj rfl rfl u_1 u_0 c_i) <| o_n) (by kernel_rfl) (fun a g hst hb => ?_)
                                 refine Z6 ?_
                                 exact ⟨a0, ({ ({ Code := (0 : Int), Num := (0 : Int), Rec := (default : Zb) } : Zi) with Code := (8 : Int) }), g, rfl, (hst.pick [0, 1, 2, 3] rfl), hb, H0⟩
                               · replace H0 := Zo hc38 H0
                                 obtain ⟨r39, h40, H0⟩ := Zk H0
                                 refine r_g (L := [(2, _), (3, _), (4, _), (5, _), (6, _)]) (T := [⟨[.old 0], _, [], [], [149]⟩, ⟨[.op 0 0], _, [], [0], [150]⟩, ⟨[.old 1], _, [], [], [151]⟩, ⟨[.op 2 0], _, [], [2], [152]⟩, ⟨[.op 3 0], _, [], [2, 3], [153]⟩, ⟨[.op 1 0, .op 4 0], _, [], Lr 5, [154]⟩, ⟨[.old 0], _, [], Lr 6, [155]⟩, ⟨[.op 5 0, .op 6 0, .old 0], _, [3], Lr 7, [2, 149, 155]⟩]) (F := [.op 7 0, .old 2, .old 3, .old 4]) (hst.pick [0, 1, 2, 3, 4] rfl) hb Za
                                   (o_p rfl (Zj Zbm (off := 7) (by kernel_rfl) rfl rfl u_0) <| o_p rfl (Z1 Zca rfl rfl u_0) <| o_p rfl (Ze Zd7 rfl rfl u_0) <| o_p rfl (Zg ty_9 rfl rfl u_0) <| o_p rfl (Zt5 rfl rfl u_0) <| o_p rfl (Zt Zv1 (Zj9 _ _ _ h40) rfl rfl (.cons u_0 (.cons u_1 (.cons c_b .nil)))) <| o_p rfl (Zj Zbm (off := 7) (by kernel_rfl) rfl rfl u_0) <| o_p rfl (Zi6 Zca rfl rfl u_2 u_1 u_0) <| o_n) (by kernel_rfl) (fun a g hst hb => ?_)
                                 refine Z6 ?_
                                 exact ⟨({ a0 with List := r39 }), ({ Code := (0 : Int), Num := (0 : Int), Rec := (default : Zb) } : Zi), g, rfl, (hst.pick [0, 1, 2, 3] rfl), hb, H0⟩
                             · replace H0 := Zo hc35 H0
                               refine r_s (L := [(2, _), (3, _), (4, _), (5, _), (6, _), (12, _)]) (T := [⟨[.old 5], _, [], [], [157]⟩, ⟨[.op 0 0], _, [], [0], [156]⟩]) (F := [.old 0, .old 1, .old 2, .old 3, .old 4, .old 5, .op 1 0]) (hst.pick [0, 1, 2, 3, 4, 5] rfl) hb Za
                                 (o_p rfl (Z7 rfl rfl u_0 c_i) <| o_p rfl (Zc rfl rfl u_0) <| o_n) (by kernel_rfl) (fun a g hst hb => ?_)
                               refine wp_cond_split (hst.bool 6 rfl) (fun hc41 => ?_) (fun hc41 => ?_)
                               · replace H0 := Zp hc41 H0
                                 refine r_s (L := [(2, _), (3, _), (4, _), (5, _), (6, _)]) (T := [⟨[], _, [159], [], [158]⟩, ⟨[.op 0 0], _, [], [0], [7]⟩]) (F := [.old 0, .old 1, .old 2, .old 3, .old 4, .op 1 0]) (hst.pick [0, 1, 2, 3, 4] rfl) hb Za
                                   (o_p rfl (Zkp 158 Zcu (xs := []) .nil (by decide) rfl rfl) <| o_p rfl (Zc rfl rfl u_0) <| o_n) (by kernel_rfl) (fun a g hst hb => ?_)
                                 refine wp_seq ?_
                                 refine r_s (T := [⟨[], _, [], [], [8]⟩]) (F := [.old 0, .old 1, .old 2, .old 3, .old 4, .old 5, .op 0 0]) hst hb Za
                                   (o_p rfl (Zc rfl rfl c_i) <| o_n) (by kernel_rfl) (fun a g hst hb => ?_)
                                 obtain ⟨z53, hz1, H0⟩ := Zk H0
                                 refine Zbv (fun a w => ∃ (y52 : List Zh) (g : G), w = g.w ∧ St 217 [(2, (pBox Zf 2 a0)), (4, (pBox Zf 4 (default : Zb))), (5, (pBox Zu 5 (default : Zi))), (6, (pBox Zu 6 ({ Code := (0 : Int), Num := (0 : Int), Rec := (default : Zb) } : Zi))), (7, (pRow Zr 75 158 y52))] a g ∧ Base g0 g ∧ y52 = z53) ?_ ?_
                                 · rintro a w ⟨y52, g, rfl, hst, hb, rfl⟩
                                   refine Zq ?_
                                   refine r_g (T := [⟨[.old 4], _, [], [], [183]⟩, ⟨[.old 0], _, [], [0], [184]⟩, ⟨[.op 0 0, .op 1 0, .old 0], _, [3], [0, 1], [2, 184]⟩]) (F := [.op 2 0, .old 1, .old 2, .old 3]) hst hb Za
                                     (o_p rfl (Zd rfl rfl u_0) <| o_p rfl (Zj Zbm (off := 7) (by kernel_rfl) rfl rfl u_0) <| o_p rfl (Zi6 Zca rfl rfl u_2 u_1 (Opd.imp u_0 (fun _ _ h => Zks h))) <| o_n) (by kernel_rfl) (fun a g hst hb => ?_)
                                   refine Z6 ?_
                                   exact ⟨({ a0 with List := y52 }), ({ Code := (0 : Int), Num := (0 : Int), Rec := (default : Zb) } : Zi), g, rfl, (hst.pick [0, 1, 2, 3] rfl), hb, H0⟩
                                 · refine wp_block ?_
                                   refine wp_loop_ghost (fun n a w => ∃ (x42 : List Zh) (x43 : Int) (g : G), w = g.w ∧ St 217 [(2, (pBox Zf 2 a0)), (3, (Zw.ptr a1)), (4, (pBox Zf 4 (default : Zb))), (5, (pBox Zu 5 (default : Zi))), (6, (pBox Zu 6 ({ Code := (0 : Int), Num := (0 : Int), Rec := (default : Zb) } : Zi))), (7, (pRow Zr 75 158 x42)), (8, (pInt .i64 x43))] a g ∧ Base g0 g ∧ Zc2 a0 a1 n x42 x43 = some z53) (Int.toNat ((a0.List.length : Int) - (0 : Int)) + 1) ⟨([] : List Zh), (0 : Int), g, rfl, (hst.pick [0, 1, 2, 3, 4, 5, 6] rfl), hb, hz1⟩ (fun n a w hI => ?_)
                                   obtain ⟨x42, x43, g, rfl, hst, hb, H1⟩ := hI
                                   cases n with
                                   | zero => exact absurd H1 (by simp [Zc2])
                                   | succ n =>
                                     rw [Zc2] at H1
                                     refine wp_seq ?_
                                     refine r_s (T := [⟨[.old 6], _, [], [], [159]⟩, ⟨[.old 0], _, [], [], [160]⟩, ⟨[.op 1 0], _, [], [1], [161]⟩, ⟨[.op 2 0], _, [], [1, 2], [162]⟩, ⟨[.op 0 0, .op 3 0], _, [], Lr 4, [163]⟩]) (F := [.old 0, .old 1, .old 2, .old 3, .old 4, .old 5, .old 6, .op 4 0]) hst hb Za
                                       (o_p rfl (Zd rfl rfl u_0) <| o_p rfl (Zj Zbm (off := 7) (by kernel_rfl) rfl rfl u_0) <| o_p rfl (Z1 Zca rfl rfl u_0) <| o_p rfl (Zcd Tryd.underlying23 rfl rfl u_0) <| o_p rfl (Zcb rfl rfl u_0 u_1) <| o_n) (by kernel_rfl) (fun a g hst hb => ?_)
                                     refine wp_cond_split (hst.bool 7 rfl) (fun hc44 => ?_) (fun hc44 => ?_)
                                     · replace H1 := Zp hc44 H1
                                       refine wp_skip ?_
                                       refine Zq ?_
                                       refine wp_seq ?_
                                       refine Zbv (fun a w => ∃ (j51 : List Zh) (g : G), w = g.w ∧ St 217 [(2, (pBox Zf 2 a0)), (3, (Zw.ptr a1)), (4, (pBox Zf 4 (default : Zb))), (5, (pBox Zu 5 (default : Zi))), (6, (pBox Zu 6 ({ Code := (0 : Int), Num := (0 : Int), Rec := (default : Zb) } : Zi))), (7, (pRow Zr 75 158 j51)), (8, (pInt .i64 x43))] a g ∧ Base g0 g ∧ Zgf x43 (Zc2 a0 a1 n) j51 = some z53) ?_ ?_
                                       · rintro a w ⟨j51, g, rfl, hst, hb, H1⟩
                                         unfold Zgf at H1
                                         refine Zq ?_
                                         refine r_g (T := [⟨[.old 6], _, [], [], [164]⟩, ⟨[.op 0 0], _, [], [0], [165]⟩, ⟨[.op 1 0], _, [], [0, 1], [8]⟩]) (F := [.old 0, .old 1, .old 2, .old 3, .old 4, .old 5, .op 2 0]) hst hb Za
                                           (o_p rfl (Zd rfl rfl u_0) <| o_p rfl (Zcg rfl rfl u_0 c_i rfl) <| o_p rfl (Zc rfl rfl u_0) <| o_n) (by kernel_rfl) (fun a g hst hb => ?_)
                                         exact ⟨n, Nat.lt_succ_self _, j51, (IntKind.i64.wrap (x43 + (1 : Int))), g, rfl, (hst.pick [0, 1, 2, 3, 4, 5, 6] rfl), hb, H1⟩
                                       · refine wp_block ?_
                                         obtain ⟨e45, h46, H1⟩ := Zk H1
                                         refine r_s (L := [(2, _), (3, _), (4, _), (5, _), (6, _), (7, _), (8, _)]) (T := [⟨[.old 0], _, [], [], [166]⟩, ⟨[.op 0 0], _, [], [0], [167]⟩, ⟨[.old 6], _, [], [], [168]⟩, ⟨[.op 1 0, .op 2 0], _, [], [0, 1, 2], [169]⟩, ⟨[.op 3 0], _, [], Lr 4, [170]⟩, ⟨[.op 4 0], _, [], Lr 5, [171]⟩, ⟨[.old 1], _, [], [], [172]⟩, ⟨[.op 6 0], _, [], [6], [173]⟩, ⟨[.op 5 0, .op 7 0], _, [], Lr 8, [174]⟩]) (F := [.old 0, .old 1, .old 2, .old 3, .old 4, .old 5, .old 6, .op 8 0]) (hst.pick [0, 1, 2, 3, 4, 5, 6] rfl) hb Za
                                           (o_p rfl (Zj Zbm (off := 7) (by kernel_rfl) rfl rfl u_0) <| o_p rfl (Z1 Zca rfl rfl u_0) <| o_p rfl (Zd rfl rfl u_0) <| o_p rfl (Zbh Tryd.underlying23 Zdv rfl rfl u_0 u_1 h46) <| o_p rfl (Ze Zc4 rfl rfl u_0) <| o_p rfl (Zg ty_9 rfl rfl u_0) <| o_p rfl (Ze Zd7 rfl rfl u_0) <| o_p rfl (Zg ty_9 rfl rfl u_0) <| o_p rfl (Zod rfl rfl u_0 u_1) <| o_n) (by kernel_rfl) (fun a g hst hb => ?_)
                                         refine wp_cond_split (hst.bool 7 rfl) (fun hc47 => ?_) (fun hc47 => ?_)
                                         · replace H1 := Zp hc47 H1
                                           obtain ⟨e48, h49, H1⟩ := Zk H1; obtain ⟨h50, H1⟩ := Zhb H1
                                           refine r_g (L := [(2, _), (3, _), (4, _), (5, _), (6, _), (7, _), (8, _)]) (T := [⟨[.old 5], _, [], [], [175]⟩, ⟨[.old 0], _, [], [], [176]⟩, ⟨[.op 1 0], _, [], [1], [177]⟩, ⟨[.old 6], _, [], [], [178]⟩, ⟨[.op 2 0, .op 3 0], _, [], [1, 2, 3], [179]⟩, ⟨[.op 4 0], _, [], List.range' 1 4, [180]⟩, ⟨[.op 5 0], _, [], List.range' 1 5, [181]⟩, ⟨[.op 0 0, .op 6 0], _, [159], Lr 7, [7, 175, 182]⟩, ⟨[.op 7 0], _, [], Lr 8, [7]⟩]) (F := [.old 0, .old 1, .old 2, .old 3, .old 4, .op 8 0, .old 6]) (hst.pick [0, 1, 2, 3, 4, 5, 6] rfl) hb Za
                                             (o_p rfl (Zd rfl rfl u_0) <| o_p rfl (Zj Zbm (off := 7) (by kernel_rfl) rfl rfl u_0) <| o_p rfl (Z1 Zca rfl rfl u_0) <| o_p rfl (Zd rfl rfl u_0) <| o_p rfl (Zbh Tryd.underlying23 Zdv rfl rfl u_0 u_1 h49) <| o_p rfl (Zg Zdh rfl rfl u_0) <| o_p rfl (Zgx Zcu (xs := [.tmp 180]) (.cons u_0 .nil) (by decide) rfl rfl) <| o_p rfl (Zi5 Zcu rfl rfl u_0 u_1 h50) <| o_p rfl (Zc rfl rfl u_0) <| o_n) (by kernel_rfl) (fun a g hst hb => ?_)
                                           refine Z6 ?_
                                           exact ⟨(x42 ++ ([e48] : List Zh)), g, rfl, (hst.pick [0, 1, 2, 3, 4, 5, 6] rfl), hb, H1⟩
                                         · replace H1 := Zo hc47 H1
                                           refine wp_skip ?_
                                           refine Z6 ?_
                                           exact ⟨x42, g, rfl, (hst.pick [0, 1, 2, 3, 4, 5, 6] rfl), hb, H1⟩
                                     · replace H1 := Zo hc44 H1
                                       refine wp_exit ?_
                                       refine Zcf ?_
                                       refine Zcf ?_
                                       refine Zc1 ?_
                                       exact ⟨x42, g, rfl, (hst.pick [0, 2, 3, 4, 5] rfl), hb, Option.some.inj H1⟩
                               · replace H0 := Zo hc41 H0
                                 refine r_s (L := [(2, _), (3, _), (4, _), (5, _), (6, _), (12, _)]) (T := [⟨[.old 5], _, [], [], [186]⟩, ⟨[.op 0 0], _, [], [0], [185]⟩]) (F := [.old 0, .old 1, .old 2, .old 3, .old 4, .old 5, .op 1 0]) (hst.pick [0, 1, 2, 3, 4, 5] rfl) hb Za
                                   (o_p rfl (Z7 rfl rfl u_0 c_i) <| o_p rfl (Zc rfl rfl u_0) <| o_n) (by kernel_rfl) (fun a g hst hb => ?_)
                                 refine wp_cond_split (hst.bool 6 rfl) (fun hc54 => ?_) (fun hc54 => ?_)
                                 · replace H0 := Zp hc54 H0
                                   obtain ⟨r55, h56, H0⟩ := Zk H0
                                   refine r_s (L := [(2, _), (3, _), (4, _), (5, _), (6, _)]) (T := [⟨[.old 0], _, [], [], [187]⟩, ⟨[.op 0 0], _, [], [0], [188]⟩, ⟨[.old 1], _, [], [], [189]⟩, ⟨[.op 2 0], _, [], [2], [190]⟩, ⟨[.op 1 0, .op 3 0], _, [], Lr 4, [191]⟩, ⟨[.op 4 0], _, [], Lr 5, [192]⟩]) (F := [.old 0, .old 2, .old 3, .old 4, .op 5 0]) (hst.pick [0, 1, 2, 3, 4] rfl) hb Za
                                     (o_p rfl (Zj Zbm (off := 7) (by kernel_rfl) rfl rfl u_0) <| o_p rfl (Z1 Zca rfl rfl u_0) <| o_p rfl (Ze Zd7 rfl rfl u_0) <| o_p rfl (Zg ty_9 rfl rfl u_0) <| o_p rfl (Zt Zv6 (Zku _ _ h56) rfl rfl (.cons u_0 (.cons u_1 .nil))) <| o_p rfl (Zb4 rfl rfl u_0) <| o_n) (by kernel_rfl) (fun a g hst hb => ?_)
                                   refine wp_cond_split (hst.bool 4 rfl) (fun hc57 => ?_) (fun hc57 => ?_)
                                   · replace H0 := Zp hc57 H0
                                     refine r_g (L := [(2, _), (4, _), (5, _), (6, _)]) (T := [⟨[.old 3], _, [], [], [193]⟩, ⟨[.op 0 0, .old 3], _, [7], [0], [6, 193]⟩]) (F := [.old 0, .old 1, .old 2, .op 1 0]) (hst.pick [0, 1, 2, 3] rfl) hb Za
                                       (o_p rfl (Zj Zlc (off := 0) (by kernel_rfl) rfl rfl u_0) <| o_p rfl (Zlb Zoj rfl rfl u_1 u_0 c_i) <| o_n) (by kernel_rfl) (fun a g hst hb => ?_)
                                     refine Z6 ?_
                                     exact ⟨a0, ({ ({ Code := (0 : Int), Num := (0 : Int), Rec := (default : Zb) } : Zi) with Code := (11 : Int) }), g, rfl, (hst.pick [0, 1, 2, 3] rfl), hb, H0⟩
                                   · replace H0 := Zo hc57 H0
                                     refine wp_skip ?_
                                     refine Z6 ?_
                                     exact ⟨a0, ({ Code := (0 : Int), Num := (0 : Int), Rec := (default : Zb) } : Zi), g, rfl, (hst.pick [0, 1, 2, 3] rfl), hb, H0⟩
                                 · replace H0 := Zo hc54 H0
                                   refine r_s (L := [(2, _), (3, _), (4, _), (5, _), (6, _), (12, _)]) (T := [⟨[.old 5], _, [], [], [195]⟩, ⟨[.op 0 0], _, [], [0], [194]⟩]) (F := [.old 0, .old 1, .old 2, .old 3, .old 4, .op 1 0]) (hst.pick [0, 1, 2, 3, 4, 5] rfl) hb Za
                                     (o_p rfl (Z7 rfl rfl u_0 c_i) <| o_p rfl (Zc rfl rfl u_0) <| o_n) (by kernel_rfl) (fun a g hst hb => ?_)
                                   refine wp_cond_split (hst.bool 5 rfl) (fun hc58 => ?_) (fun hc58 => ?_)
                                   · replace H0 := Zp hc58 H0
                                     obtain ⟨r59, h60, H0⟩ := Zk H0
                                     refine r_s (L := [(2, _), (3, _), (4, _), (5, _), (6, _)]) (T := [⟨[.old 0], _, [], [], [196]⟩, ⟨[.op 0 0], _, [], [0], [197]⟩, ⟨[.old 1], _, [], [], [198]⟩, ⟨[.op 2 0], _, [], [2], [199]⟩, ⟨[.old 1], _, [], [], [200]⟩, ⟨[.op 4 0], _, [], [4], [201]⟩, ⟨[.op 3 0, .op 5 0], _, [], List.range' 2 4, [202]⟩, ⟨[.op 1 0, .op 6 0], _, [], Lr 7, [203]⟩, ⟨[.op 7 0], _, [], Lr 8, [9]⟩]) (F := [.old 0, .old 2, .old 3, .old 4, .op 8 0]) (hst.pick [0, 1, 2, 3, 4] rfl) hb Za
                                       (o_p rfl (Zj Zbm (off := 7) (by kernel_rfl) rfl rfl u_0) <| o_p rfl (Z1 Zca rfl rfl u_0) <| o_p rfl (Ze Zgm rfl rfl u_0) <| o_p rfl (Zg Zby rfl rfl u_0) <| o_p rfl (Ze Zd7 rfl rfl u_0) <| o_p rfl (Zg ty_9 rfl rfl u_0) <| o_p rfl (Zrm rfl rfl u_0 u_1) <| o_p rfl (Zt Zv1 (Zj9 _ _ _ h60) rfl rfl (.cons u_0 (.cons u_1 (.cons c_b .nil)))) <| o_p rfl (Zc rfl rfl u_0) <| o_n) (by kernel_rfl) (fun a g hst hb => ?_)
                                     refine wp_seq ?_
                                     refine r_s (T := [⟨[.old 4], _, [], [], [204]⟩, ⟨[.op 0 0], _, [], [0], [205]⟩, ⟨[.old 0], _, [], [], [206]⟩, ⟨[.op 2 0], _, [], [2], [207]⟩, ⟨[.op 1 0, .op 3 0], _, [], Lr 4, [208]⟩]) (F := [.old 0, .old 1, .old 2, .old 3, .old 4, .op 4 0]) hst hb Za
                                       (o_p rfl (Zd rfl rfl u_0) <| o_p rfl (Zcd Tryd.underlying23 rfl rfl u_0) <| o_p rfl (Zj Zeo (off := 5) (by kernel_rfl) rfl rfl u_0) <| o_p rfl (Z1 ty_3 rfl rfl u_0) <| o_p rfl (Zcj rfl rfl u_0 u_1) <| o_n) (by kernel_rfl) (fun a g hst hb => ?_)
                                     refine Zbv (fun a w => ∃ (j64 : List Zh) (g : G), w = g.w ∧ St 217 [(2, (pBox Zf 2 a0)), (4, (pBox Zf 4 (default : Zb))), (5, (pBox Zu 5 (default : Zi))), (6, (pBox Zu 6 ({ Code := (0 : Int), Num := (0 : Int), Rec := (default : Zb) } : Zi))), (9, (Zr.sl.pd j64))] a g ∧ Base g0 g ∧ Zdk a0 j64 = some r) ?_ ?_
                                     · rintro a w ⟨j64, g, rfl, hst, hb, H0⟩
                                       unfold Zdk at H0
                                       refine Zq ?_
                                       refine r_g (T := [⟨[.old 4], _, [], [], [213]⟩, ⟨[.old 0], _, [], [0], [214]⟩, ⟨[.op 0 0, .op 1 0, .old 0], _, [3], [0, 1], [2, 214]⟩]) (F := [.op 2 0, .old 1, .old 2, .old 3]) hst hb Za
                                         (o_p rfl (Zd rfl rfl u_0) <| o_p rfl (Zj Zbm (off := 7) (by kernel_rfl) rfl rfl u_0) <| o_p rfl (Zi6 Zca rfl rfl u_2 u_1 u_0) <| o_n) (by kernel_rfl) (fun a g hst hb => ?_)
                                       refine Z6 ?_
                                       exact ⟨({ a0 with List := j64 }), ({ Code := (0 : Int), Num := (0 : Int), Rec := (default : Zb) } : Zi), g, rfl, (hst.pick [0, 1, 2, 3] rfl), hb, H0⟩
                                     · refine wp_cond_split (hst.bool 5 rfl) (fun hc61 => ?_) (fun hc61 => ?_)
                                       · replace H0 := Zp hc61 H0
                                         obtain ⟨c62, h63, H0⟩ := Zk H0
                                         refine r_g (L := [(2, _), (4, _), (5, _), (6, _), (9, _)]) (T := [⟨[.old 4], _, [], [], [209]⟩, ⟨[.old 0], _, [], [], [210]⟩, ⟨[.op 1 0], _, [], [1], [211]⟩, ⟨[.op 0 0, .op 2 0], _, [], [0, 1, 2], [212]⟩, ⟨[.op 3 0], _, [], Lr 4, [9]⟩]) (F := [.old 0, .old 1, .old 2, .old 3, .op 4 0]) (hst.pick [0, 1, 2, 3, 4] rfl) hb Za
                                           (o_p rfl (Zd rfl rfl u_0) <| o_p rfl (Zj Zeo (off := 5) (by kernel_rfl) rfl rfl u_0) <| o_p rfl (Z1 ty_3 rfl rfl u_0) <| o_p rfl (Zub Tryd.underlying23 Zdv rfl rfl u_0 u_1 h63) <| o_p rfl (Zc rfl rfl u_0) <| o_n) (by kernel_rfl) (fun a g hst hb => ?_)
                                         exact ⟨c62, g, rfl, (hst.pick [0, 1, 2, 3, 4] rfl), hb, H0⟩
                                       · replace H0 := Zo hc61 H0
                                         refine wp_skip ?_
                                         exact ⟨r59, g, rfl, (hst.pick [0, 1, 2, 3, 4] rfl), hb, H0⟩
                                   · replace H0 := Zo hc58 H0
                                     refine wp_skip ?_
                                     refine Z6 ?_
                                     exact ⟨a0, ({ Code := (0 : Int), Num := (0 : Int), Rec := (default : Zb) } : Zi), g, rfl, (hst.pick [0, 2, 3, 4] rfl), hb, H0⟩
           · refine wp_cond_split (hst.bool 6 rfl) (fun hc10 => ?_) (fun hc10 => ?_)
             · replace H0 := Zp hc10 H0
               refine wp_skip ?_
               exact ⟨(a1.Kind == (9 : Int)), g, rfl, (hst.pick [0, 1, 2, 3, 4, 5, 6] rfl), hb, H0⟩
             · replace H0 := Zo hc10 H0
               refine r_g (L := [(2, _), (3, _), (4, _), (5, _), (6, _), (12, _)]) (T := [⟨[.old 5], _, [], [], [50]⟩, ⟨[.op 0 0], _, [], [0], [48]⟩]) (F := [.old 0, .old 1, .old 2, .old 3, .old 4, .old 5, .op 1 0]) (hst.pick [0, 1, 2, 3, 4, 5] rfl) hb Za
                 (o_p rfl (Z7 rfl rfl u_0 c_i) <| o_p rfl (Zc rfl rfl u_0) <| o_n) (by kernel_rfl) (fun a g hst hb => ?_)
               exact ⟨(a1.Kind == (12 : Int)), g, rfl, (hst.pick [0, 1, 2, 3, 4, 5, 6] rfl), hb, H0⟩
theorem Zj4 (a0 : Zb) (a1 : Bool) (a2 : Zs) {r : Zb × Bool × Zi} (h : Zev a0 a1 a2 = some r) : FnOk Tryd.prog 41 [(Zf.pd a0), (Zba a1), (Zw.pd a2)] (pTup [(Zf.pd r.1), (Zba r.2.1), (Zu.pd r.2.2)]) := by
 have H0 := h
 unfold Zev at H0
 clear h
 refine Zbq (N := 109) Tryd.func41 rfl rfl (Nat.le_of_ble_eq_true rfl) rfl rfl (fun a g0 hst hb => ?_)
 refine r_s (T := [⟨[.old 0], _, [4], [], [3]⟩, ⟨[.old 2], _, [], [], [5]⟩, ⟨[], [(6, (pBox Zf 6 (default : Zb)))], [7], [], [6]⟩, ⟨[], _, [], [], [7]⟩, ⟨[], [(8, (pBox Zu 8 (default : Zi)))], [9], [], [8]⟩]) (F := [.old 1, .op 0 0, .op 1 0, .op 2 0, .op 4 0]) hst hb Za
   (o_p rfl (Zik rfl rfl u_0) <| o_p rfl (Zbs rfl rfl u_0) <| o_p rfl (Zbi (zs := [.int .i64 0, .int .i64 0, .int .i64 0, .int .i64 0, .float .f64 0, .int .i64 0, .string ByteArray.empty, .slice none 0 0]) (by kernel_rfl) (fun g => Zbo g) rfl rfl) <| o_p rfl (Zc rfl rfl c_b) <| o_p rfl (Zbi (zs := [.int .i64 0, .int .i64 0, .int .i64 0, .int .i64 0, .int .i64 0, .int .i64 0, .float .f64 0, .int .i64 0, .string ByteArray.empty, .slice none 0 0]) (by kernel_rfl) (fun g => Ze6 g) rfl rfl) <| o_n) (by kernel_rfl) (fun a g hst hb => ?_)
 refine wp_seq ?_
 refine r_s (T := [⟨[.old 0], _, [], [], [13]⟩, ⟨[.op 0 0], _, [], [0], [14]⟩]) (F := [.old 0, .old 1, .old 2, .old 3, .old 4, .op 1 0]) hst hb Za
   (o_p rfl (Zd rfl rfl u_0) <| o_p rfl (Zb4 rfl rfl u_0) <| o_n) (by kernel_rfl) (fun a g hst hb => ?_)
 refine Zbv (fun a w => ∃ (j2 : Zb) (g : G), w = g.w ∧ St 109 [(1, (Zba a1)), (3, (pBox Zf 3 j2)), (5, (Zw.ptr a2)), (6, (pBox Zf 6 (default : Zb))), (8, (pBox Zu 8 (default : Zi)))] a g ∧ Base g0 g ∧ Zes a1 a2 j2 = some r) ?_ ?_
 · rintro a w ⟨j2, g, rfl, hst, hb, H0⟩
   unfold Zes at H0
   refine Zq ?_
   obtain ⟨r3, h4, H0⟩ := Zk H0
   refine r_s (T := [⟨[.old 1], _, [], [], [16]⟩, ⟨[.op 0 0], _, [], [0], [17]⟩, ⟨[.op 1 0, .old 1], _, [4], [0, 1], [3]⟩]) (F := [.old 0, .op 2 0, .old 2, .old 3, .old 4]) hst hb Za
     (o_p rfl (Zch Z0 rfl rfl u_0) <| o_p rfl (Zt Zr5 (Zf7 _ h4) rfl rfl (.cons u_0 .nil)) <| o_p rfl (Z5 Z0 rfl rfl u_1 u_0) <| o_n) (by kernel_rfl) (fun a g hst hb => ?_)
   obtain ⟨r5, h6, H0⟩ := Zk H0
   refine r_s (T := [⟨[.old 2], _, [], [], [18]⟩, ⟨[.op 0 0], _, [], [0], [19]⟩, ⟨[.op 1 0], _, [], [0, 1], [9]⟩]) (F := [.old 0, .old 1, .old 2, .old 3, .old 4, .op 2 0]) hst hb Za
     (o_p rfl (Zg Zfa rfl rfl u_0) <| o_p rfl (Zt Z3p (Zm7 _ h6) rfl rfl (.cons u_0 .nil)) <| o_p rfl (Zc rfl rfl u_0) <| o_n) (by kernel_rfl) (fun a g hst hb => ?_)
   refine wp_seq ?_
   refine r_s (T := [⟨[.old 5], _, [], [], [20]⟩, ⟨[.op 0 0], _, [], [0], [21]⟩, ⟨[.op 1 0], _, [], [0, 1], [22]⟩, ⟨[.op 2 0, .old 0], _, [], [0, 1, 2], [23]⟩, ⟨[.op 2 0, .op 3 0], _, [], Lr 4, [24]⟩]) (F := [.old 0, .old 1, .old 2, .old 3, .old 4, .old 5, .op 4 0]) hst hb Za
     (o_p rfl (Zd rfl rfl u_0) <| o_p rfl (Z7 rfl rfl u_0 c_i) <| o_p rfl (Zd rfl rfl u_0) <| o_g (g_t rfl rfl rfl (fun hG => Zd rfl rfl u_0)) <| o_p rfl (Zbb rfl rfl u_0 (fun hz => (Opd.gd hz u_1))) <| o_n) (by kernel_rfl) (fun a g hst hb => ?_)
   refine Zbv (fun a w => ∃ (j10 : Int) (g : G), w = g.w ∧ St 109 [(1, (Zba a1)), (3, (pBox Zf 3 r3)), (5, (Zw.ptr a2)), (6, (pBox Zf 6 (default : Zb))), (8, (pBox Zu 8 (default : Zi))), (9, (pInt .i64 j10))] a g ∧ Base g0 g ∧ Zdc a1 a2 r3 j10 = some r) ?_ ?_
   · rintro a w ⟨j10, g, rfl, hst, hb, H0⟩
     unfold Zdc at H0
     refine Zq ?_
     refine wp_seq ?_
     refine r_s (T := [⟨[.old 5], _, [], [], [27]⟩, ⟨[.op 0 0], _, [], [0], [28]⟩, ⟨[.op 1 0], _, [], [0, 1], [29]⟩, ⟨[.op 2 0, .old 2], _, [], [0, 1, 2], [30]⟩, ⟨[.op 2 0, .op 3 0], _, [], Lr 4, [31]⟩, ⟨[.op 2 0, .op 4 0], _, [], Lr 5, [32]⟩, ⟨[.op 2 0, .op 5 0], _, [], Lr 6, [33]⟩, ⟨[.op 6 0], _, [], Lr 7, [34]⟩, ⟨[.op 7 0, .old 0], _, [], Lr 8, [35]⟩, ⟨[.op 7 0, .op 8 0], _, [], Lr 9, [36]⟩]) (F := [.old 0, .old 1, .old 2, .old 3, .old 4, .old 5, .op 9 0]) hst hb Za
       (o_p rfl (Zd rfl rfl u_0) <| o_p rfl (Z7 rfl rfl u_0 c_i) <| o_p rfl (Zd rfl rfl u_0) <| o_g (g_t rfl rfl rfl (fun hG => Ze Zb9 rfl rfl u_0)) <| o_g (g_t rfl rfl rfl (fun hG => Zg ty_3 rfl rfl (Opd.gd hG u_0))) <| o_g (g_t rfl rfl rfl (fun hG => Z7 rfl rfl (Opd.gd hG u_0) c_i)) <| o_p rfl (Zbb rfl rfl u_0 (fun hz => (Opd.gd hz u_1))) <| o_p rfl (Zd rfl rfl u_0) <| o_g (g_t rfl rfl rfl (fun hG => Zd rfl rfl u_0)) <| o_p rfl (Zbb rfl rfl u_0 (fun hz => (Opd.gd hz u_1))) <| o_n) (by kernel_rfl) (fun a g hst hb => ?_)
     refine Zbv (fun a w => ∃ (j12 : Int) (g : G), w = g.w ∧ St 109 [(1, (Zba a1)), (3, (pBox Zf 3 r3)), (5, (Zw.ptr a2)), (6, (pBox Zf 6 (default : Zb))), (8, (pBox Zu 8 (default : Zi))), (9, (pInt .i64 j12))] a g ∧ Base g0 g ∧ Zeq a1 a2 r3 j12 = some r) ?_ ?_
     · rintro a w ⟨j12, g, rfl, hst, hb, H0⟩
       unfold Zeq at H0
       refine Zq ?_
       refine wp_seq ?_
       refine r_s (T := ⟨[.old 5], _, [], [], [37]⟩ :: ⟨[.op 0 0], _, [], [0], [38]⟩ :: ⟨[.op 1 0], _, [], [0, 1], [39]⟩ :: ⟨[.op 2 0, .old 0], _, [], [0, 1, 2], [40]⟩ :: ⟨[.op 2 0, .op 3 0], _, [], Lr 4, [41]⟩ :: ⟨[.op 2 0, .op 4 0], _, [], Lr 5, [42]⟩ :: ⟨[.op 5 0], _, [], Lr 6, [43]⟩ :: ⟨[.op 6 0, .old 2], _, [], Lr 7, [44]⟩ :: ⟨[.op 6 0, .op 7 0], _, [], Lr 8, [45]⟩ :: ⟨[.op 6 0, .op 8 0], _, [], Lr 9, [46]⟩ :: ⟨[.op 6 0, .op 9 0], _, [], Lr 10, [47]⟩ :: ⟨[.op 10 0], _, [], Lr 11, [48]⟩ :: ⟨[.op 11 0, .old 2], _, [], Lr 12, [49]⟩ :: ⟨[.op 11 0, .op 12 0], _, [], Lr 13, [50]⟩ :: ⟨[.op 11 0, .op 13 0], _, [], Lr 14, [51]⟩ :: ⟨[.op 11 0, .op 14 0], _, [], Lr 15, [52]⟩ :: []) (F := [.old 0, .old 1, .old 2, .old 3, .old 4, .old 5, .op 15 0]) hst hb Za
         (o_p rfl (Zd rfl rfl u_0) <| o_p rfl (Z7 rfl rfl u_0 c_i) <| o_p rfl (Zd rfl rfl u_0) <| o_g (g_t rfl rfl rfl (fun hG => Zd rfl rfl u_0)) <| o_g (g_t rfl rfl rfl (fun hG => Zb4 rfl rfl (Opd.gd hG u_0))) <| o_p rfl (Zbb rfl rfl u_0 (fun hz => (Opd.gd hz u_1))) <| o_p rfl (Zd rfl rfl u_0) <| o_g (g_t rfl rfl rfl (fun hG => Ze Zb9 rfl rfl u_0)) <| o_g (g_t rfl rfl rfl (fun hG => Zg ty_3 rfl rfl (Opd.gd hG u_0))) <| o_g (g_t rfl rfl rfl (fun hG => Zdu rfl rfl (Opd.gd hG u_0) c_i)) <| o_p rfl (Zbb rfl rfl u_0 (fun hz => (Opd.gd hz u_1))) <| o_p rfl (Zd rfl rfl u_0) <| o_g (g_t rfl rfl rfl (fun hG => Ze Zb9 rfl rfl u_0)) <| o_g (g_t rfl rfl rfl (fun hG => Zg ty_3 rfl rfl (Opd.gd hG u_0))) <| o_g (g_t rfl rfl rfl (fun hG => Zdu rfl rfl (Opd.gd hG u_0) c_i)) <| o_p rfl (Zbb rfl rfl u_0 (fun hz => (Opd.gd hz u_1))) <| o_n) (by kernel_rfl) (fun a g hst hb => ?_)
       refine Zbv (fun a w => ∃ (j14 : Int) (g : G), w = g.w ∧ St 109 [(1, (Zba a1)), (3, (pBox Zf 3 r3)), (5, (Zw.ptr a2)), (6, (pBox Zf 6 (default : Zb))), (8, (pBox Zu 8 (default : Zi))), (9, (pInt .i64 j14))] a g ∧ Base g0 g ∧ Zer a1 a2 r3 j14 = some r) ?_ ?_
       · rintro a w ⟨j14, g, rfl, hst, hb, H0⟩
         unfold Zer at H0
         refine Zq ?_
         obtain ⟨r15, h16, H0⟩ := Zk H0
         refine r_s (T := [⟨[.old 2], _, [], [], [53]⟩, ⟨[.op 0 0], _, [], [0], [54]⟩, ⟨[.op 1 0], _, [], [0, 1], [55]⟩, ⟨[.op 2 0], _, [], [0, 1, 2], [10]⟩]) (F := [.old 0, .old 1, .old 2, .old 3, .old 4, .old 5, .op 3 0]) hst hb Za
           (o_p rfl (Ze Zb9 rfl rfl u_0) <| o_p rfl (Zg ty_3 rfl rfl u_0) <| o_p rfl (Zt Zvo (Zjb _ h16) rfl rfl (.cons u_0 .nil)) <| o_p rfl (Zc rfl rfl u_0) <| o_n) (by kernel_rfl) (fun a g hst hb => ?_)
         refine wp_seq ?_
         refine r_s (T := ⟨[.old 5], _, [], [], [56]⟩ :: ⟨[.op 0 0], _, [], [0], [57]⟩ :: ⟨[.op 1 0], _, [], [0, 1], [58]⟩ :: ⟨[.op 2 0, .old 6], _, [], [0, 1, 2], [59]⟩ :: ⟨[.op 2 0, .op 3 0], _, [], Lr 4, [60]⟩ :: ⟨[.op 2 0, .op 4 0], _, [], Lr 5, [61]⟩ :: ⟨[.op 5 0], _, [], Lr 6, [62]⟩ :: ⟨[.op 6 0, .old 6], _, [], Lr 7, [63]⟩ :: ⟨[.op 6 0, .old 1], _, [], Lr 7, [64]⟩ :: ⟨[.op 6 0, .op 8 0], _, [], [0, 1, 2, 3, 4, 5, 6, 8], [65]⟩ :: ⟨[.op 6 0, .op 7 0, .op 9 0], _, [], Lr 10, [66]⟩ :: ⟨[.op 6 0, .op 10 0], _, [], Lr 11, [67]⟩ :: []) (F := [.old 0, .old 1, .old 2, .old 3, .old 4, .old 5, .op 11 0]) hst hb Za
           (o_p rfl (Zd rfl rfl u_0) <| o_p rfl (Z7 rfl rfl u_0 c_i) <| o_p rfl (Zd rfl rfl u_0) <| o_g (g_t rfl rfl rfl (fun hG => Zd rfl rfl u_0)) <| o_g (g_t rfl rfl rfl (fun hG => Zdu rfl rfl (Opd.gd hG u_0) c_i)) <| o_p rfl (Zbb rfl rfl u_0 (fun hz => (Opd.gd hz u_1))) <| o_p rfl (Zd rfl rfl u_0) <| o_g (g_t rfl rfl rfl (fun hG => Zd rfl rfl u_0)) <| o_g (g_t rfl rfl rfl (fun hG => Zj Zcx (off := 0) (by kernel_rfl) rfl rfl u_0)) <| o_g (g_t rfl rfl rfl (fun hG => Z1 ty_3 rfl rfl (Opd.gd hG u_0))) <| o_g (g_t rfl rfl rfl (fun hG => Zdu rfl rfl (Opd.gd hG u_0) (Opd.gd hG u_1))) <| o_p rfl (Zbb rfl rfl u_0 (fun hz => (Opd.gd hz u_1))) <| o_n) (by kernel_rfl) (fun a g hst hb => ?_)
         refine Zbv (fun a w => ∃ (j18 : Int) (g : G), w = g.w ∧ St 109 [(1, (Zba a1)), (3, (pBox Zf 3 r3)), (5, (Zw.ptr a2)), (6, (pBox Zf 6 (default : Zb))), (8, (pBox Zu 8 (default : Zi))), (9, (pInt .i64 j18))] a g ∧ Base g0 g ∧ Zen a1 a2 r3 j18 = some r) ?_ ?_
         · rintro a w ⟨j18, g, rfl, hst, hb, H0⟩
           unfold Zen at H0
           refine Zq ?_
           refine wp_seq ?_
           refine r_s (T := [⟨[.old 5], _, [], [], [68]⟩, ⟨[.op 0 0], _, [], [0], [69]⟩]) (F := [.old 0, .old 1, .old 2, .old 3, .old 4, .old 5, .op 1 0]) hst hb Za
             (o_p rfl (Zd rfl rfl u_0) <| o_p rfl (Zdu rfl rfl u_0 c_i) <| o_n) (by kernel_rfl) (fun a g hst hb => ?_)
           refine wp_cond_split (hst.bool 6 rfl) (fun hc19 => ?_) (fun hc19 => ?_)
           · replace H0 := Zp hc19 H0
             refine r_s (L := [(1, _), (3, _), (6, _), (8, _), (9, _)]) (T := [⟨[.old 1], _, [], [], [70]⟩, ⟨[.old 0], _, [], [], [71]⟩, ⟨[.old 4], _, [], [], [72]⟩, ⟨[.op 2 0], _, [], [2], [73]⟩, ⟨[.op 0 0, .old 2], _, [7], [0], [6]⟩, ⟨[.op 1 0], _, [], [0, 1, 4], [7]⟩, ⟨[.op 3 0, .old 3], _, [9], Lr 6, [8]⟩]) (F := [.op 4 0, .op 5 0, .op 6 0]) (hst.pick [0, 1, 3, 4, 5] rfl) hb Za
               (o_p rfl (Zch Z0 rfl rfl u_0) <| o_p rfl (Zd rfl rfl u_0) <| o_p rfl (Zd rfl rfl u_0) <| o_p rfl (Zqx rfl rfl u_0) <| o_p rfl (Z5 Z0 rfl rfl u_1 u_0) <| o_p rfl (Zc rfl rfl u_0) <| o_p rfl (Z5 Zct rfl rfl u_1 u_0) <| o_n) (by kernel_rfl) (fun a g hst hb => ?_)
             refine wp_ret ?_
             refine Zm ?_
             obtain rfl := Option.some.inj H0
             obtain ⟨u0, hu0, hq0⟩ := Zbe (P := Tryd.prog) Z0 (hst.at 0 rfl)
             obtain ⟨u2, hu2, hq2⟩ := Zbe (P := Tryd.prog) Zct (hst.at 2 rfl)
             exact Zg8 rfl hst hb hu0 (Zl (s := 7)) hu2 (Zfp hq0 (hst.at 1 rfl) hq2)
           · replace H0 := Zo hc19 H0
             refine wp_skip ?_
             refine Zq ?_
             refine wp_seq ?_
             refine r_s (L := [(1, _), (3, _), (5, _), (6, _), (8, _)]) (T := [⟨[.old 2], _, [], [], [74]⟩, ⟨[.op 0 0], _, [], [0], [75]⟩]) (F := [.old 0, .old 1, .old 2, .old 3, .old 4, .op 1 0]) (hst.pick [0, 1, 2, 3, 4] rfl) hb Za
               (o_p rfl (Ze Zb9 rfl rfl u_0) <| o_p rfl (Zg ty_3 rfl rfl u_0) <| o_n) (by kernel_rfl) (fun a g hst hb => ?_)
             refine wp_block ?_
             refine r_s (T := [⟨[.old 5], _, [], [], [77]⟩, ⟨[.op 0 0], _, [], [0], [76]⟩]) (F := [.old 0, .old 1, .old 2, .old 3, .old 4, .old 5, .op 1 0]) hst hb Za
               (o_p rfl (Z7 rfl rfl u_0 c_i) <| o_p rfl (Zc rfl rfl u_0) <| o_n) (by kernel_rfl) (fun a g hst hb => ?_)
             refine wp_cond_split (hst.bool 6 rfl) (fun hc20 => ?_) (fun hc20 => ?_)
             · replace H0 := Zp hc20 H0
               obtain ⟨r21, h22, H0⟩ := Zk H0
               refine r_s (L := [(5, _), (6, _), (8, _)]) (T := [⟨[.old 0], _, [], [], [78]⟩, ⟨[.op 0 0], _, [], [0], [79]⟩, ⟨[.op 1 0], _, [], [0, 1], [80]⟩, ⟨[], _, [], [], [81]⟩, ⟨[.op 2 0, .old 1], _, [7], [0, 1, 2], [6]⟩, ⟨[], _, [], [0, 1, 2, 4], [7]⟩, ⟨[.op 3 0, .old 2], _, [9], Lr 6, [8]⟩]) (F := [.op 4 0, .op 5 0, .op 6 0]) (hst.pick [2, 3, 4] rfl) hb Za
                 (o_p rfl (Ze Zkd rfl rfl u_0) <| o_p rfl (Zg Z0 rfl rfl u_0) <| o_p rfl (Zt Zr5 (Zf7 _ h22) rfl rfl (.cons u_0 .nil)) <| o_p rfl (Zob rfl rfl ) <| o_p rfl (Z5 Z0 rfl rfl u_1 u_0) <| o_p rfl (Zc rfl rfl c_b) <| o_p rfl (Z5 Zct rfl rfl u_1 u_0) <| o_n) (by kernel_rfl) (fun a g hst hb => ?_)
               refine wp_ret ?_
               refine Zv ?_
               refine Zm ?_
               obtain rfl := Option.some.inj H0
               obtain ⟨u0, hu0, hq0⟩ := Zbe (P := Tryd.prog) Z0 (hst.at 0 rfl)
               obtain ⟨u2, hu2, hq2⟩ := Zbe (P := Tryd.prog) Zct (hst.at 2 rfl)
               exact Zg8 rfl hst hb hu0 (Zl (s := 7)) hu2 (Zfp hq0 (hst.at 1 rfl) hq2)
             · replace H0 := Zo hc20 H0
               refine r_s (L := [(1, _), (3, _), (5, _), (6, _), (8, _), (75, _)]) (T := [⟨[.old 5], _, [], [], [83]⟩, ⟨[.op 0 0], _, [], [0], [82]⟩]) (F := [.old 0, .old 1, .old 2, .old 3, .old 4, .old 5, .op 1 0]) (hst.pick [0, 1, 2, 3, 4, 5] rfl) hb Za
                 (o_p rfl (Z7 rfl rfl u_0 c_i) <| o_p rfl (Zc rfl rfl u_0) <| o_n) (by kernel_rfl) (fun a g hst hb => ?_)
               refine wp_cond_split (hst.bool 6 rfl) (fun hc23 => ?_) (fun hc23 => ?_)
               · replace H0 := Zp hc23 H0
                 refine r_s (L := [(6, _), (8, _)]) (T := [⟨[], _, [], [], [84]⟩, ⟨[], _, [], [], [85]⟩, ⟨[.op 0 0, .old 0], _, [7], [0], [6]⟩, ⟨[], _, [], [0, 2], [7]⟩, ⟨[.op 1 0, .old 1], _, [9], Lr 4, [8]⟩]) (F := [.op 2 0, .op 3 0, .op 4 0]) (hst.pick [3, 4] rfl) hb Za
                   (o_p rfl (Zkt rfl rfl ) <| o_p rfl (Zob rfl rfl ) <| o_p rfl (Z5 Z0 rfl rfl u_1 u_0) <| o_p rfl (Zc rfl rfl c_b) <| o_p rfl (Z5 Zct rfl rfl u_1 u_0) <| o_n) (by kernel_rfl) (fun a g hst hb => ?_)
                 refine wp_ret ?_
                 refine Zv ?_
                 refine Zm ?_
                 obtain rfl := Option.some.inj H0
                 obtain ⟨u0, hu0, hq0⟩ := Zbe (P := Tryd.prog) Z0 (hst.at 0 rfl)
                 obtain ⟨u2, hu2, hq2⟩ := Zbe (P := Tryd.prog) Zct (hst.at 2 rfl)
                 exact Zg8 rfl hst hb hu0 (Zl (s := 7)) hu2 (Zfp hq0 (hst.at 1 rfl) hq2)
               · replace H0 := Zo hc23 H0
                 refine r_s (L := [(1, _), (3, _), (5, _), (6, _), (8, _), (75, _)]) (T := [⟨[.old 5], _, [], [], [87]⟩, ⟨[.op 0 0], _, [], [0], [86]⟩]) (F := [.old 0, .old 1, .old 2, .old 3, .old 4, .old 5, .op 1 0]) (hst.pick [0, 1, 2, 3, 4, 5] rfl) hb Za
                   (o_p rfl (Z7 rfl rfl u_0 c_i) <| o_p rfl (Zc rfl rfl u_0) <| o_n) (by kernel_rfl) (fun a g hst hb => ?_)
                 refine wp_cond_split (hst.bool 6 rfl) (fun hc24 => ?_) (fun hc24 => ?_)
                 · replace H0 := Zp hc24 H0
                   refine r_s (L := [(1, _), (3, _), (6, _), (8, _)]) (T := [⟨[.old 1], _, [], [], [88]⟩, ⟨[.old 0], _, [], [], [89]⟩, ⟨[.old 1], _, [], [], [90]⟩, ⟨[.op 2 0], _, [], [2], [91]⟩, ⟨[.op 3 0], _, [], [2, 3], [92]⟩, ⟨[.op 0 0, .old 2], _, [7], [0], [6]⟩, ⟨[.op 1 0], _, [], [0, 1, 5], [7]⟩, ⟨[.op 4 0, .old 3], _, [9], Lr 7, [8]⟩]) (F := [.op 5 0, .op 6 0, .op 7 0]) (hst.pick [0, 1, 3, 4] rfl) hb Za
                     (o_p rfl (Zch Z0 rfl rfl u_0) <| o_p rfl (Zd rfl rfl u_0) <| o_p rfl (Zj Zcx (off := 0) (by kernel_rfl) rfl rfl u_0) <| o_p rfl (Z1 ty_3 rfl rfl u_0) <| o_p rfl (Zuo rfl rfl u_0) <| o_p rfl (Z5 Z0 rfl rfl u_1 u_0) <| o_p rfl (Zc rfl rfl u_0) <| o_p rfl (Z5 Zct rfl rfl u_1 u_0) <| o_n) (by kernel_rfl) (fun a g hst hb => ?_)
                   refine wp_ret ?_
                   refine Zv ?_
                   refine Zm ?_
                   obtain rfl := Option.some.inj H0
                   obtain ⟨u0, hu0, hq0⟩ := Zbe (P := Tryd.prog) Z0 (hst.at 0 rfl)
                   obtain ⟨u2, hu2, hq2⟩ := Zbe (P := Tryd.prog) Zct (hst.at 2 rfl)
                   exact Zg8 rfl hst hb hu0 (Zl (s := 7)) hu2 (Zfp hq0 (hst.at 1 rfl) hq2)
                 · replace H0 := Zo hc24 H0
                   refine r_s (L := [(1, _), (3, _), (5, _), (6, _), (8, _), (75, _)]) (T := [⟨[.old 5], _, [], [], [94]⟩, ⟨[.op 0 0], _, [], [0], [93]⟩]) (F := [.old 0, .old 1, .old 2, .old 3, .old 4, .op 1 0]) (hst.pick [0, 1, 2, 3, 4, 5] rfl) hb Za
                     (o_p rfl (Z7 rfl rfl u_0 c_i) <| o_p rfl (Zc rfl rfl u_0) <| o_n) (by kernel_rfl) (fun a g hst hb => ?_)
                   refine wp_cond_split (hst.bool 5 rfl) (fun hc25 => ?_) (fun hc25 => ?_)
                   · replace H0 := Zp hc25 H0
                     obtain ⟨r26, h27, H0⟩ := Zk H0
                     refine r_s (L := [(1, _), (3, _), (6, _), (8, _)]) (T := [⟨[.old 1], _, [], [], [95]⟩, ⟨[.old 0], _, [], [], [96]⟩, ⟨[.old 1], _, [], [], [97]⟩, ⟨[.op 2 0], _, [], [2], [98]⟩, ⟨[.op 3 0], _, [], [2, 3], [99]⟩, ⟨[.op 0 0, .old 2], _, [7], [0, 2, 3], [6]⟩, ⟨[.op 1 0], _, [], [0, 1, 2, 3, 5], [7]⟩, ⟨[.op 4 0, .old 3], _, [9], Lr 7, [8]⟩]) (F := [.op 5 0, .op 6 0, .op 7 0]) (hst.pick [0, 1, 3, 4] rfl) hb Za
                       (o_p rfl (Zch Z0 rfl rfl u_0) <| o_p rfl (Zd rfl rfl u_0) <| o_p rfl (Zch Z0 rfl rfl u_0) <| o_p rfl (Zt Zr5 (Zf7 _ h27) rfl rfl (.cons u_0 .nil)) <| o_p rfl (Zug rfl rfl u_0) <| o_p rfl (Z5 Z0 rfl rfl u_1 u_0) <| o_p rfl (Zc rfl rfl u_0) <| o_p rfl (Z5 Zct rfl rfl u_1 u_0) <| o_n) (by kernel_rfl) (fun a g hst hb => ?_)
                     refine wp_ret ?_
                     refine Zv ?_
                     refine Zm ?_
                     obtain rfl := Option.some.inj H0
                     obtain ⟨u0, hu0, hq0⟩ := Zbe (P := Tryd.prog) Z0 (hst.at 0 rfl)
                     obtain ⟨u2, hu2, hq2⟩ := Zbe (P := Tryd.prog) Zct (hst.at 2 rfl)
                     exact Zg8 rfl hst hb hu0 (Zl (s := 7)) hu2 (Zfp hq0 (hst.at 1 rfl) hq2)
                   · replace H0 := Zo hc25 H0
                     refine wp_skip ?_
                     refine Z6 ?_
                     refine Zq ?_
                     obtain ⟨r28, h29, H0⟩ := Zk H0
                     refine r_s (L := [(1, _), (3, _), (5, _), (6, _), (8, _)]) (T := [⟨[.old 1], _, [], [], [101]⟩, ⟨[.old 2], _, [], [], [102]⟩, ⟨[.op 0 0, .op 1 0], _, [], [0, 1], [103]⟩, ⟨[.op 2 0], _, [], [0, 1, 2], [100]⟩, ⟨[.op 3 0], _, [], Lr 4, [104]⟩, ⟨[.op 3 0], _, [], Lr 4, [105]⟩, ⟨[], [(11, (pBox Zf 11 (default : Zb)))], [12], [], [11]⟩, ⟨[], [(12, (pBox Zu 12 (default : Zi)))], [13], [], [12]⟩, ⟨[.op 4 0, .op 6 0], _, [12], [0, 1, 2, 3, 4, 6, 7], [11]⟩, ⟨[.op 5 0, .op 7 0], _, [13], Lr 9, [12]⟩]) (F := [.old 0, .old 3, .old 4, .op 8 0, .op 9 0]) (hst.pick [0, 1, 2, 3, 4] rfl) hb Za
                       (o_p rfl (Zch Z0 rfl rfl u_0) <| o_p rfl (Zg Zfa rfl rfl u_0) <| o_p rfl (Zt Z4f (Zo4 _ _ h29) rfl rfl (.cons u_0 (.cons u_1 .nil))) <| o_p rfl (Zd rfl rfl u_0) <| o_p rfl (Zbf rfl rfl u_0 rfl) <| o_p rfl (Zbf rfl rfl u_0 rfl) <| o_p rfl (Zbi (zs := [.int .i64 0, .int .i64 0, .int .i64 0, .int .i64 0, .float .f64 0, .int .i64 0, .string ByteArray.empty, .slice none 0 0]) (by kernel_rfl) (fun g => Zbo g) rfl rfl) <| o_p rfl (Zbi (zs := [.int .i64 0, .int .i64 0, .int .i64 0, .int .i64 0, .int .i64 0, .int .i64 0, .float .f64 0, .int .i64 0, .string ByteArray.empty, .slice none 0 0]) (by kernel_rfl) (fun g => Ze6 g) rfl rfl) <| o_p rfl (Zci Z0 rfl rfl u_1 u_0) <| o_p rfl (Zci Zct rfl rfl u_1 u_0) <| o_n) (by kernel_rfl) (fun a g hst hb => ?_)
                     refine r_s (T := [⟨[.old 3], _, [], [], [106]⟩, ⟨[.old 0], _, [], [], [107]⟩, ⟨[.old 4], _, [], [], [108]⟩, ⟨[.op 0 0, .old 1], _, [7], [0], [6]⟩, ⟨[.op 1 0], _, [], [0, 1, 3], [7]⟩, ⟨[.op 2 0, .old 2], _, [9], Lr 5, [8]⟩]) (F := [.op 3 0, .op 4 0, .op 5 0]) hst hb Za
                       (o_p rfl (Zg Z0 rfl rfl u_0) <| o_p rfl (Zd rfl rfl u_0) <| o_p rfl (Zg Zct rfl rfl u_0) <| o_p rfl (Z5 Z0 rfl rfl u_1 u_0) <| o_p rfl (Zc rfl rfl u_0) <| o_p rfl (Z5 Zct rfl rfl u_1 u_0) <| o_n) (by kernel_rfl) (fun a g hst hb => ?_)
                     refine wp_ret ?_
                     obtain rfl := Option.some.inj H0
                     obtain ⟨u0, hu0, hq0⟩ := Zbe (P := Tryd.prog) Z0 (hst.at 0 rfl)
                     obtain ⟨u2, hu2, hq2⟩ := Zbe (P := Tryd.prog) Zct (hst.at 2 rfl)
                     exact Zg8 rfl hst hb hu0 (Zl (s := 7)) hu2 (Zfp hq0 (hst.at 1 rfl) hq2)
         · refine wp_cond_split (hst.bool 6 rfl) (fun hc17 => ?_) (fun hc17 => ?_)
           · replace H0 := Zp hc17 H0
             refine r_g (L := [(1, _), (3, _), (5, _), (6, _), (8, _)]) (T := [⟨[], _, [], [], [9]⟩]) (F := [.old 0, .old 1, .old 2, .old 3, .old 4, .op 0 0]) (hst.pick [0, 1, 2, 3, 4] rfl) hb Za
               (o_p rfl (Zc rfl rfl c_i) <| o_n) (by kernel_rfl) (fun a g hst hb => ?_)
             exact ⟨(5 : Int), g, rfl, (hst.pick [0, 1, 2, 3, 4, 5] rfl), hb, H0⟩
           · replace H0 := Zo hc17 H0
             refine wp_skip ?_
             exact ⟨j14, g, rfl, (hst.pick [0, 1, 2, 3, 4, 5] rfl), hb, H0⟩
       · refine wp_cond_split (hst.bool 6 rfl) (fun hc13 => ?_) (fun hc13 => ?_)
         · replace H0 := Zp hc13 H0
           refine r_g (L := [(1, _), (3, _), (5, _), (6, _), (8, _)]) (T := [⟨[], _, [], [], [9]⟩]) (F := [.old 0, .old 1, .old 2, .old 3, .old 4, .op 0 0]) (hst.pick [0, 1, 2, 3, 4] rfl) hb Za
             (o_p rfl (Zc rfl rfl c_i) <| o_n) (by kernel_rfl) (fun a g hst hb => ?_)
           exact ⟨(6 : Int), g, rfl, (hst.pick [0, 1, 2, 3, 4, 5] rfl), hb, H0⟩
         · replace H0 := Zo hc13 H0
           refine wp_skip ?_
           exact ⟨j12, g, rfl, (hst.pick [0, 1, 2, 3, 4, 5] rfl), hb, H0⟩
     · refine wp_cond_split (hst.bool 6 rfl) (fun hc11 => ?_) (fun hc11 => ?_)
       · replace H0 := Zp hc11 H0
         refine r_g (L := [(1, _), (3, _), (5, _), (6, _), (8, _)]) (T := [⟨[], _, [], [], [9]⟩]) (F := [.old 0, .old 1, .old 2, .old 3, .old 4, .op 0 0]) (hst.pick [0, 1, 2, 3, 4] rfl) hb Za
           (o_p rfl (Zc rfl rfl c_i) <| o_n) (by kernel_rfl) (fun a g hst hb => ?_)
         exact ⟨(7 : Int), g, rfl, (hst.pick [0, 1, 2, 3, 4, 5] rfl), hb, H0⟩
       · replace H0 := Zo hc11 H0
         refine wp_skip ?_
         exact ⟨j10, g, rfl, (hst.pick [0, 1, 2, 3, 4, 5] rfl), hb, H0⟩
   · refine wp_cond_split (hst.bool 6 rfl) (fun hc7 => ?_) (fun hc7 => ?_)
     · replace H0 := Zp hc7 H0
       obtain ⟨r8, h9, H0⟩ := Zk H0
       refine r_g (L := [(1, _), (3, _), (5, _), (6, _), (8, _)]) (T := [⟨[.old 1], _, [], [], [25]⟩, ⟨[.op 0 0], _, [], [0], [26]⟩, ⟨[.op 1 0], _, [], [0, 1], [9]⟩]) (F := [.old 0, .old 1, .old 2, .old 3, .old 4, .op 2 0]) (hst.pick [0, 1, 2, 3, 4] rfl) hb Za
         (o_p rfl (Zch Z0 rfl rfl u_0) <| o_p rfl (Zt Zzr (Zjv _ h9) rfl rfl (.cons u_0 .nil)) <| o_p rfl (Zc rfl rfl u_0) <| o_n) (by kernel_rfl) (fun a g hst hb => ?_)
       exact ⟨r8, g, rfl, (hst.pick [0, 1, 2, 3, 4, 5] rfl), hb, H0⟩
     · replace H0 := Zo hc7 H0
       refine wp_skip ?_
       exact ⟨r5, g, rfl, (hst.pick [0, 1, 2, 3, 4, 5] rfl), hb, H0⟩
 · refine wp_cond_split (hst.bool 5 rfl) (fun hc1 => ?_) (fun hc1 => ?_)
   · replace H0 := Zp hc1 H0
     refine r_g (L := [(1, _), (3, _), (5, _), (6, _), (8, _)]) (T := [⟨[], _, [], [], [15]⟩, ⟨[.op 0 0, .old 1], _, [4], [0], [3]⟩]) (F := [.old 0, .op 1 0, .old 2, .old 3, .old 4]) (hst.pick [0, 1, 2, 3, 4] rfl) hb Za
       (o_p rfl (Zkt rfl rfl ) <| o_p rfl (Z5 Z0 rfl rfl u_1 u_0) <| o_n) (by kernel_rfl) (fun a g hst hb => ?_)
     exact ⟨({ Kind := (0 : Int), Num := (0 : Int), Low := (0 : Int), High := (0 : Int), Real := (0 : Nat), Cap := (0 : Int), Text := ByteArray.empty, List := ([] : List Zh) } : Zb), g, rfl, (hst.pick [0, 1, 2, 3, 4] rfl), hb, H0⟩
   · replace H0 := Zo hc1 H0
     refine wp_skip ?_
     exact ⟨a0, g, rfl, (hst.pick [0, 1, 2, 3, 4] rfl), hb, H0⟩
theorem Zox (a0 : Zb) (a1 : Zs) {r : Zb} (h : Zhs a0 a1 = some r) : FnOk Tryd.prog 17 [(Zf.pd a0), (Zw.pd a1)] (Zf.pd r) := by
 have H0 := h
 unfold Zhs at H0
 clear h
 refine Zbq (N := 37) Tryd.func17 rfl rfl (Nat.le_of_ble_eq_true rfl) rfl rfl (fun a g0 hst hb => ?_)
 refine r_s (T := [⟨[.old 0], _, [], [], [2]⟩, ⟨[.old 1], _, [4], [], [3]⟩, ⟨[], [(4, (pBox Zf 4 (default : Zb)))], [5], [], [4]⟩]) (F := [.op 0 0, .op 1 0, .op 2 0]) hst hb Za
   (o_p rfl (Zbs rfl rfl u_0) <| o_p rfl (Zik rfl rfl u_0) <| o_p rfl (Zbi (zs := [.int .i64 0, .int .i64 0, .int .i64 0, .int .i64 0, .float .f64 0, .int .i64 0, .string ByteArray.empty, .slice none 0 0]) (by kernel_rfl) (fun g => Zbo g) rfl rfl) <| o_n) (by kernel_rfl) (fun a g hst hb => ?_)
 refine wp_seq ?_
 refine r_s (T := [⟨[.old 1], _, [], [], [8]⟩, ⟨[.op 0 0], _, [], [0], [9]⟩, ⟨[.op 1 0], _, [], [0, 1], [10]⟩]) (F := [.old 0, .old 1, .old 2, .op 2 0]) hst hb Za
   (o_p rfl (Zj Zb9 (off := 0) (by kernel_rfl) rfl rfl u_0) <| o_p rfl (Z1 ty_3 rfl rfl u_0) <| o_p rfl (Z7 rfl rfl u_0 c_i) <| o_n) (by kernel_rfl) (fun a g hst hb => ?_)
 refine Zbv (fun a w => ∃ (j2 : Zs) (g : G), w = g.w ∧ St 37 [(2, (Zf.ptr a0)), (3, (pBox Zw 3 j2)), (4, (pBox Zf 4 (default : Zb)))] a g ∧ Base g0 g ∧ Zd9 a0 j2 = some r) ?_ ?_
 · rintro a w ⟨j2, g, rfl, hst, hb, H0⟩
   unfold Zd9 at H0
   refine Zq ?_
   refine wp_seq ?_
   refine r_s (T := ⟨[.old 1], _, [], [], [15]⟩ :: ⟨[.op 0 0], _, [], [0], [16]⟩ :: ⟨[.op 1 0], _, [], [0, 1], [17]⟩ :: ⟨[.op 2 0], _, [], [0, 1, 2], [18]⟩ :: ⟨[.op 3 0, .old 1], _, [], Lr 4, [19]⟩ :: ⟨[.op 3 0, .op 4 0], _, [], Lr 5, [20]⟩ :: ⟨[.op 3 0, .op 5 0], _, [], Lr 6, [21]⟩ :: ⟨[.op 3 0, .op 6 0], _, [], Lr 7, [22]⟩ :: ⟨[.op 7 0], _, [], Lr 8, [23]⟩ :: ⟨[.op 8 0, .old 1], _, [], Lr 9, [24]⟩ :: ⟨[.op 8 0, .op 9 0], _, [], Lr 10, [25]⟩ :: ⟨[.op 8 0, .op 10 0], _, [], Lr 11, [26]⟩ :: ⟨[.op 8 0, .op 11 0], _, [], Lr 12, [27]⟩ :: []) (F := [.old 0, .old 1, .old 2, .op 12 0]) hst hb Za
     (o_p rfl (Zj Zb9 (off := 0) (by kernel_rfl) rfl rfl u_0) <| o_p rfl (Z1 ty_3 rfl rfl u_0) <| o_p rfl (Z7 rfl rfl u_0 c_i) <| o_p rfl (Zd rfl rfl u_0) <| o_g (g_f rfl rfl rfl (fun hG => Zj Zb9 (off := 0) (by kernel_rfl) rfl rfl u_0)) <| o_g (g_f rfl rfl rfl (fun hG => Z1 ty_3 rfl rfl (Opd.gd hG u_0))) <| o_g (g_f rfl rfl rfl (fun hG => Z7 rfl rfl (Opd.gd hG u_0) c_i)) <| o_p rfl (Zbj rfl rfl u_0 (fun hz => (Opd.gd (bNF hz) u_1))) <| o_p rfl (Zd rfl rfl u_0) <| o_g (g_f rfl rfl rfl (fun hG => Zj Zb9 (off := 0) (by kernel_rfl) rfl rfl u_0)) <| o_g (g_f rfl rfl rfl (fun hG => Z1 ty_3 rfl rfl (Opd.gd hG u_0))) <| o_g (g_f rfl rfl rfl (fun hG => Z7 rfl rfl (Opd.gd hG u_0) c_i)) <| o_p rfl (Zbj rfl rfl u_0 (fun hz => (Opd.gd (bNF hz) u_1))) <| o_n) (by kernel_rfl) (fun a g hst hb => ?_)
   refine Zbv (fun a w => ∃ (j4 : Zs) (g : G), w = g.w ∧ St 37 [(2, (Zf.ptr a0)), (3, (pBox Zw 3 j4)), (4, (pBox Zf 4 (default : Zb)))] a g ∧ Base g0 g ∧ Zfk a0 j4 = some r) ?_ ?_
   · rintro a w ⟨j4, g, rfl, hst, hb, H0⟩
     unfold Zfk at H0
     refine Zq ?_
     obtain ⟨r5, h6, H0⟩ := Zk H0
     refine r_s (T := ⟨[.old 0], _, [], [], [30]⟩ :: ⟨[.old 1], _, [], [], [31]⟩ :: ⟨[.op 0 0, .op 1 0], _, [], [0, 1], [32]⟩ :: ⟨[.op 2 0], _, [], [0, 1, 2], [29]⟩ :: ⟨[.op 3 0], _, [], Lr 4, [33]⟩ :: ⟨[.op 3 0], _, [], Lr 4, [34]⟩ :: ⟨[.op 3 0], _, [], Lr 4, [35]⟩ :: ⟨[], [(5, (pBox Zf 5 (default : Zb)))], [6], [], [5]⟩ :: ⟨[], [(7, (pBox Zu 7 (default : Zi)))], [8], [], [7]⟩ :: ⟨[.op 4 0, .op 7 0], _, [6], [0, 1, 2, 3, 4, 7, 8], [5]⟩ :: ⟨[.op 5 0], _, [], [0, 1, 2, 3, 4, 5, 7, 8, 9], [6]⟩ :: ⟨[.op 6 0, .op 8 0], _, [8], Lr 11, [7]⟩ :: []) (F := [.old 2, .op 9 0]) hst hb Za
       (o_p rfl (Zg Z0 rfl rfl u_0) <| o_p rfl (Zch Zfa rfl rfl u_0) <| o_p rfl (Zt Zzg (Zj4 _ _ _ h6) rfl rfl (.cons u_0 (.cons c_b (.cons u_1 .nil)))) <| o_p rfl (Zd rfl rfl u_0) <| o_p rfl (Zbf rfl rfl u_0 rfl) <| o_p rfl (Zbf rfl rfl u_0 rfl) <| o_p rfl (Zbf rfl rfl u_0 rfl) <| o_p rfl (Zbi (zs := [.int .i64 0, .int .i64 0, .int .i64 0, .int .i64 0, .float .f64 0, .int .i64 0, .string ByteArray.empty, .slice none 0 0]) (by kernel_rfl) (fun g => Zbo g) rfl rfl) <| o_p rfl (Zbi (zs := [.int .i64 0, .int .i64 0, .int .i64 0, .int .i64 0, .int .i64 0, .int .i64 0, .float .f64 0, .int .i64 0, .string ByteArray.empty, .slice none 0 0]) (by kernel_rfl) (fun g => Ze6 g) rfl rfl) <| o_p rfl (Zci Z0 rfl rfl u_1 u_0) <| o_p rfl (Zc rfl rfl u_0) <| o_p rfl (Zci Zct rfl rfl u_1 u_0) <| o_n) (by kernel_rfl) (fun a g hst hb => ?_)
     refine r_s (T := [⟨[.old 1], _, [], [], [36]⟩, ⟨[.op 0 0, .old 0], _, [5], [0], [4]⟩]) (F := [.op 1 0]) hst hb Za
       (o_p rfl (Zg Z0 rfl rfl u_0) <| o_p rfl (Z5 Z0 rfl rfl u_1 u_0) <| o_n) (by kernel_rfl) (fun a g hst hb => ?_)
     refine wp_ret ?_
     obtain rfl := Option.some.inj H0
     obtain ⟨u0, hu0, hq0⟩ := Zbe (P := Tryd.prog) Z0 (hst.at 0 rfl)
     exact Zx rfl hst hb hu0 hq0
   · refine wp_cond_split (hst.bool 3 rfl) (fun hc3 => ?_) (fun hc3 => ?_)
     · replace H0 := Zp hc3 H0
       refine r_g (L := [(2, _), (3, _), (4, _)]) (T := [⟨[.old 1], _, [], [], [28]⟩, ⟨[.op 0 0, .old 1], _, [4], [0], [3, 28]⟩]) (F := [.old 0, .op 1 0, .old 2]) (hst.pick [0, 1, 2] rfl) hb Za
         (o_p rfl (Zj Zb9 (off := 0) (by kernel_rfl) rfl rfl u_0) <| o_p rfl (Zoo ty_3 rfl rfl u_1 u_0 c_i) <| o_n) (by kernel_rfl) (fun a g hst hb => ?_)
       exact ⟨({ j2 with Kind := (7 : Int) }), g, rfl, (hst.pick [0, 1, 2] rfl), hb, H0⟩
     · replace H0 := Zo hc3 H0
       refine wp_skip ?_
       exact ⟨j2, g, rfl, (hst.pick [0, 1, 2] rfl), hb, H0⟩
 · refine wp_cond_split (hst.bool 3 rfl) (fun hc1 => ?_) (fun hc1 => ?_)
   · replace H0 := Zp hc1 H0
     refine r_g (L := [(2, _), (3, _), (4, _)]) (T := [⟨[.old 1], _, [], [], [11]⟩, ⟨[.op 0 0], _, [], [0], [12]⟩, ⟨[.op 1 0], _, [], [0, 1], [13]⟩, ⟨[.old 1], _, [], [0, 1, 2], [14]⟩, ⟨[.op 2 0, .op 3 0, .old 1], _, [4], Lr 4, [3, 11, 14]⟩]) (F := [.old 0, .op 4 0, .old 2]) (hst.pick [0, 1, 2] rfl) hb Za
       (o_p rfl (Zj Zcq (off := 2) (by kernel_rfl) rfl rfl u_0) <| o_p rfl (Z1 ty_2 rfl rfl u_0) <| o_p rfl (Zp6 rfl rfl u_0 rfl) <| o_p rfl (Zj Zcq (off := 2) (by kernel_rfl) rfl rfl u_0) <| o_p rfl (Zuc ty_2 rfl rfl u_2 u_1 u_0) <| o_n) (by kernel_rfl) (fun a g hst hb => ?_)
     exact ⟨({ a1 with N := (IntKind.i64.wrap (0 - a1.N)) }), g, rfl, (hst.pick [0, 1, 2] rfl), hb, H0⟩
   · replace H0 := Zo hc1 H0
     refine wp_skip ?_
     exact ⟨a1, g, rfl, (hst.pick [0, 1, 2] rfl), hb, H0⟩
theorem Znc (a0 : Zb) (a1 : List Zb) {r : Zb} (h : Zgc a0 a1 = some r) : FnOk Tryd.prog 18 [(Zf.pd a0), (Zf.sl.pd a1)] (Zf.pd r) := by
 have H0 := h
 unfold Zgc at H0
 clear h
 refine Zbq (N := 99) Tryd.func18 rfl rfl (Nat.le_of_ble_eq_true rfl) rfl rfl (fun a g0 hst hb => ?_)
 refine r_s (T := [⟨[.old 0], _, [3], [], [2]⟩, ⟨[], [(4, (pBox Zf 4 (default : Zb)))], [5], [], [4]⟩]) (F := [.old 1, .op 0 0, .op 1 0]) hst hb Za
   (o_p rfl (Zik rfl rfl u_0) <| o_p rfl (Zbi (zs := [.int .i64 0, .int .i64 0, .int .i64 0, .int .i64 0, .float .f64 0, .int .i64 0, .string ByteArray.empty, .slice none 0 0]) (by kernel_rfl) (fun g => Zbo g) rfl rfl) <| o_n) (by kernel_rfl) (fun a g hst hb => ?_)
 obtain ⟨h1, H0⟩ := Zhb H0
 refine r_s (T := [⟨[], _, [10], [], [9]⟩, ⟨[.old 1], _, [], [], [10]⟩, ⟨[.op 1 0], _, [], [1], [11]⟩, ⟨[.op 0 0, .op 2 0], _, [10], [0, 1, 2], [9, 12]⟩, ⟨[.old 1], _, [], Lr 4, [13]⟩, ⟨[.op 3 0, .op 4 0, .old 1], _, [3], Lr 5, [2, 10, 13]⟩]) (F := [.old 0, .op 5 0, .old 2]) hst hb Za
   (o_p rfl (Zkp 9 Zcu (xs := []) .nil (by decide) rfl rfl) <| o_p rfl (Zj Zbm (off := 7) (by kernel_rfl) rfl rfl u_0) <| o_p rfl (Z1 Zca rfl rfl u_0) <| o_p rfl (Zi5 Zcu rfl rfl u_0 u_1 h1) <| o_p rfl (Zj Zbm (off := 7) (by kernel_rfl) rfl rfl u_0) <| o_p rfl (Zi6 Zca rfl rfl u_2 u_1 (Opd.imp u_0 (fun _ _ h => Zks h))) <| o_n) (by kernel_rfl) (fun a g hst hb => ?_)
 refine wp_seq ?_
 refine r_s (T := [⟨[], _, [], [], [5]⟩]) (F := [.old 0, .old 1, .old 2, .op 0 0]) hst hb Za
   (o_p rfl (Zc rfl rfl c_i) <| o_n) (by kernel_rfl) (fun a g hst hb => ?_)
 obtain ⟨z33, hz1, H0⟩ := Zk H0
 refine Zbv (fun a w => ∃ (y32 : Zb) (g : G), w = g.w ∧ St 99 [(2, (pBox Zf 2 y32)), (4, (pBox Zf 4 (default : Zb)))] a g ∧ Base g0 g ∧ y32 = z33) ?_ ?_
 · rintro a w ⟨y32, g, rfl, hst, hb, rfl⟩
   refine Zq ?_
   refine r_s (T := [⟨[.old 0], _, [], [], [98]⟩, ⟨[.op 0 0, .old 1], _, [5], [0], [4]⟩]) (F := [.op 1 0]) hst hb Za
     (o_p rfl (Zch Z0 rfl rfl u_0) <| o_p rfl (Z5 Z0 rfl rfl u_1 u_0) <| o_n) (by kernel_rfl) (fun a g hst hb => ?_)
   refine wp_ret ?_
   obtain rfl := Option.some.inj H0
   obtain ⟨u0, hu0, hq0⟩ := Zbe (P := Tryd.prog) Z0 (hst.at 0 rfl)
   exact Zx rfl hst hb hu0 hq0
 · refine wp_block ?_
   refine wp_loop_ghost (fun n a w => ∃ (x2 : Zb) (x3 : Int) (g : G), w = g.w ∧ St 99 [(1, (Zf.sl.pd a1)), (2, (pBox Zf 2 x2)), (4, (pBox Zf 4 (default : Zb))), (5, (pInt .i64 x3))] a g ∧ Base g0 g ∧ Zb5 a1 n x2 x3 = some z33) (Int.toNat ((a1.length : Int) - (0 : Int)) + 1) ⟨({ a0 with List := (([] : List Zh) ++ a0.List) }), (0 : Int), g, rfl, (hst.pick [0, 1, 2, 3] rfl), hb, hz1⟩ (fun n a w hI => ?_)
   obtain ⟨x2, x3, g, rfl, hst, hb, H1⟩ := hI
   cases n with
   | zero => exact absurd H1 (by simp [Zb5])
   | succ n =>
     rw [Zb5] at H1
     refine wp_seq ?_
     refine r_s (T := [⟨[.old 3], _, [], [], [14]⟩, ⟨[.old 0], _, [], [], [15]⟩, ⟨[.op 1 0], _, [], [1], [16]⟩, ⟨[.op 0 0, .op 2 0], _, [], [0, 1, 2], [17]⟩]) (F := [.old 0, .old 1, .old 2, .old 3, .op 3 0]) hst hb Za
       (o_p rfl (Zd rfl rfl u_0) <| o_p rfl (Zd rfl rfl u_0) <| o_p rfl (Zcd Tryd.underlying33 rfl rfl u_0) <| o_p rfl (Zcb rfl rfl u_0 u_1) <| o_n) (by kernel_rfl) (fun a g hst hb => ?_)
     refine wp_cond_split (hst.bool 4 rfl) (fun hc4 => ?_) (fun hc4 => ?_)
     · replace H1 := Zp hc4 H1
       refine wp_skip ?_
       refine Zq ?_
       refine wp_seq ?_
       refine wp_block ?_
       obtain ⟨e5, h6, H1⟩ := Zk H1
       refine r_s (L := [(1, _), (2, _), (4, _), (5, _)]) (T := [⟨[.old 0], _, [], [], [20]⟩, ⟨[.old 3], _, [], [], [21]⟩, ⟨[.op 0 0, .op 1 0], _, [], [0, 1], [22]⟩, ⟨[.op 2 0], _, [], [0, 1, 2], [23]⟩, ⟨[], [(6, (pBox Zf 6 (default : Zb)))], [7], [], [6]⟩, ⟨[.op 3 0, .op 4 0], _, [7], Lr 5, [6]⟩]) (F := [.old 0, .old 1, .old 2, .old 3, .op 5 0]) (hst.pick [0, 1, 2, 3] rfl) hb Za
         (o_p rfl (Zd rfl rfl u_0) <| o_p rfl (Zd rfl rfl u_0) <| o_p rfl (Zbh Tryd.underlying33 Zvd rfl rfl u_0 u_1 h6) <| o_p rfl (Zg Z0 rfl rfl u_0) <| o_p rfl (Zbi (zs := [.int .i64 0, .int .i64 0, .int .i64 0, .int .i64 0, .float .f64 0, .int .i64 0, .string ByteArray.empty, .slice none 0 0]) (by kernel_rfl) (fun g => Zbo g) rfl rfl) <| o_p rfl (Zci Z0 rfl rfl u_1 u_0) <| o_n) (by kernel_rfl) (fun a g hst hb => ?_)
       refine wp_seq ?_
       refine r_s (T := [⟨[.old 1], _, [], [], [24]⟩, ⟨[.op 0 0], _, [], [0], [25]⟩, ⟨[.op 1 0], _, [], [0, 1], [26]⟩, ⟨[.op 2 0], _, [], [0, 1, 2], [27]⟩, ⟨[.op 3 0, .old 1], _, [], Lr 4, [28]⟩, ⟨[.op 3 0, .op 4 0], _, [], Lr 5, [29]⟩, ⟨[.op 3 0, .op 5 0], _, [], Lr 6, [30]⟩, ⟨[.op 3 0, .op 6 0], _, [], Lr 7, [31]⟩]) (F := [.old 0, .old 1, .old 2, .old 3, .old 4, .op 7 0]) hst hb Za
         (o_p rfl (Zj Zcx (off := 0) (by kernel_rfl) rfl rfl u_0) <| o_p rfl (Z1 ty_3 rfl rfl u_0) <| o_p rfl (Zji rfl rfl u_0 c_i) <| o_p rfl (Zd rfl rfl u_0) <| o_g (g_t rfl rfl rfl (fun hG => Zj Zcx (off := 0) (by kernel_rfl) rfl rfl u_0)) <| o_g (g_t rfl rfl rfl (fun hG => Z1 ty_3 rfl rfl (Opd.gd hG u_0))) <| o_g (g_t rfl rfl rfl (fun hG => Zu9 rfl rfl (Opd.gd hG u_0) c_i)) <| o_p rfl (Zbb rfl rfl u_0 (fun hz => (Opd.gd hz u_1))) <| o_n) (by kernel_rfl) (fun a g hst hb => ?_)
       refine Zbv (fun a w => ∃ (j8 : Zb) (g : G), w = g.w ∧ St 99 [(1, (Zf.sl.pd a1)), (2, (pBox Zf 2 j8)), (4, (pBox Zf 4 (default : Zb))), (5, (pInt .i64 x3)), (6, (Zf.ptr e5))] a g ∧ Base g0 g ∧ Zep x3 e5 (Zb5 a1 n) j8 = some z33) ?_ ?_
       · rintro a w ⟨j8, g, rfl, hst, hb, H1⟩
         unfold Zep at H1
         refine Zq ?_
         refine wp_seq ?_
         refine r_s (T := [⟨[.old 1], _, [], [], [38]⟩, ⟨[.op 0 0], _, [], [0], [39]⟩, ⟨[.op 1 0], _, [], [0, 1], [40]⟩]) (F := [.old 0, .old 1, .old 2, .old 3, .old 4, .op 2 0]) hst hb Za
           (o_p rfl (Zj Zcx (off := 0) (by kernel_rfl) rfl rfl u_0) <| o_p rfl (Z1 ty_3 rfl rfl u_0) <| o_p rfl (Z7 rfl rfl u_0 c_i) <| o_n) (by kernel_rfl) (fun a g hst hb => ?_)
         refine Zbv (fun a w => ∃ (j12 : Zb) (g : G), w = g.w ∧ St 99 [(1, (Zf.sl.pd a1)), (2, (pBox Zf 2 j12)), (4, (pBox Zf 4 (default : Zb))), (5, (pInt .i64 x3)), (6, (Zf.ptr e5))] a g ∧ Base g0 g ∧ Zd4 x3 e5 (Zb5 a1 n) j12 = some z33) ?_ ?_
         · rintro a w ⟨j12, g, rfl, hst, hb, H1⟩
           unfold Zd4 at H1
           refine Zq ?_
           refine wp_seq ?_
           refine r_s (T := [⟨[.old 1], _, [], [], [47]⟩, ⟨[.op 0 0], _, [], [0], [48]⟩, ⟨[.op 1 0], _, [], [0, 1], [49]⟩]) (F := [.old 0, .old 1, .old 2, .old 3, .old 4, .op 2 0]) hst hb Za
             (o_p rfl (Zj Zcx (off := 0) (by kernel_rfl) rfl rfl u_0) <| o_p rfl (Z1 ty_3 rfl rfl u_0) <| o_p rfl (Z7 rfl rfl u_0 c_i) <| o_n) (by kernel_rfl) (fun a g hst hb => ?_)
           refine Zbv (fun a w => ∃ (j16 : Zb) (g : G), w = g.w ∧ St 99 [(1, (Zf.sl.pd a1)), (2, (pBox Zf 2 j16)), (4, (pBox Zf 4 (default : Zb))), (5, (pInt .i64 x3)), (6, (Zf.ptr e5))] a g ∧ Base g0 g ∧ Zd1 x3 e5 (Zb5 a1 n) j16 = some z33) ?_ ?_
           · rintro a w ⟨j16, g, rfl, hst, hb, H1⟩
             unfold Zd1 at H1
             refine Zq ?_
             refine r_s (T := [⟨[], _, [], [], [7]⟩]) (F := [.old 0, .old 1, .old 2, .old 3, .old 4, .op 0 0]) hst hb Za
               (o_p rfl (Zc rfl rfl c_i) <| o_n) (by kernel_rfl) (fun a g hst hb => ?_)
             obtain ⟨z31, hz2, H1⟩ := Zk H1
             refine Zbv (fun a w => ∃ (y30 : Zb) (g : G), w = g.w ∧ St 99 [(1, (Zf.sl.pd a1)), (2, (pBox Zf 2 y30)), (4, (pBox Zf 4 (default : Zb))), (5, (pInt .i64 x3))] a g ∧ Base g0 g ∧ y30 = z31) ?_ ?_
             · rintro a w ⟨y30, g, rfl, hst, hb, rfl⟩
               refine Z6 ?_
               refine Zq ?_
               refine r_g (T := [⟨[.old 3], _, [], [], [18]⟩, ⟨[.op 0 0], _, [], [0], [19]⟩, ⟨[.op 1 0], _, [], [0, 1], [5]⟩]) (F := [.old 0, .old 1, .old 2, .op 2 0]) hst hb Za
                 (o_p rfl (Zd rfl rfl u_0) <| o_p rfl (Zcg rfl rfl u_0 c_i rfl) <| o_p rfl (Zc rfl rfl u_0) <| o_n) (by kernel_rfl) (fun a g hst hb => ?_)
               exact ⟨n, Nat.lt_succ_self _, y30, (IntKind.i64.wrap (x3 + (1 : Int))), g, rfl, (hst.pick [0, 1, 2, 3] rfl), hb, H1⟩
             · refine wp_block ?_
               refine wp_loop_ghost (fun n a w => ∃ (x17 : Zb) (x18 : Int) (g : G), w = g.w ∧ St 99 [(1, (Zf.sl.pd a1)), (2, (pBox Zf 2 x17)), (4, (pBox Zf 4 (default : Zb))), (5, (pInt .i64 x3)), (6, (Zf.ptr e5)), (7, (pInt .i64 x18))] a g ∧ Base g0 g ∧ Zbz e5 n x17 x18 = some z31) (Int.toNat ((e5.List.length : Int) - (0 : Int)) + 1) ⟨j16, (0 : Int), g, rfl, (hst.pick [0, 1, 2, 3, 4, 5] rfl), hb, hz2⟩ (fun n a w hI => ?_)
               obtain ⟨x17, x18, g, rfl, hst, hb, H2⟩ := hI
               cases n with
               | zero => exact absurd H2 (by simp [Zbz])
               | succ n =>
                 rw [Zbz] at H2
                 refine wp_seq ?_
                 refine r_s (T := [⟨[.old 5], _, [], [], [56]⟩, ⟨[.old 4], _, [], [], [57]⟩, ⟨[.op 1 0], _, [], [1], [58]⟩, ⟨[.op 2 0], _, [], [1, 2], [59]⟩, ⟨[.op 0 0, .op 3 0], _, [], Lr 4, [60]⟩, ⟨[.op 4 0], _, [], Lr 5, [61]⟩, ⟨[.op 5 0, .old 1], _, [], Lr 6, [62]⟩, ⟨[.op 5 0, .op 6 0], _, [], Lr 7, [63]⟩, ⟨[.op 5 0, .op 7 0], _, [], Lr 8, [64]⟩, ⟨[.op 5 0, .op 8 0], _, [], Lr 9, [65]⟩]) (F := [.old 0, .old 1, .old 2, .old 3, .old 4, .old 5, .op 9 0]) hst hb Za
                   (o_p rfl (Zd rfl rfl u_0) <| o_p rfl (Ze Zbm rfl rfl u_0) <| o_p rfl (Zg Zca rfl rfl u_0) <| o_p rfl (Zcd Tryd.underlying23 rfl rfl u_0) <| o_p rfl (Zcb rfl rfl u_0 u_1) <| o_p rfl (Zd rfl rfl u_0) <| o_g (g_t rfl rfl rfl (fun hG => Zj Zcx (off := 0) (by kernel_rfl) rfl rfl u_0)) <| o_g (g_t rfl rfl rfl (fun hG => Z1 ty_3 rfl rfl (Opd.gd hG u_0))) <| o_g (g_t rfl rfl rfl (fun hG => Zji rfl rfl (Opd.gd hG u_0) c_i)) <| o_p rfl (Zbb rfl rfl u_0 (fun hz => (Opd.gd hz u_1))) <| o_n) (by kernel_rfl) (fun a g hst hb => ?_)
                 refine wp_cond_split (hst.bool 6 rfl) (fun hc19 => ?_) (fun hc19 => ?_)
                 · replace H2 := Zp hc19 H2
                   refine wp_skip ?_
                   refine Zq ?_
                   refine wp_seq ?_
                   refine wp_block ?_
                   obtain ⟨e20, h21, H2⟩ := Zk H2
                   refine r_s (L := [(1, _), (2, _), (4, _), (5, _), (6, _), (7, _)]) (T := [⟨[.old 4], _, [], [], [68]⟩, ⟨[.op 0 0], _, [], [0], [69]⟩, ⟨[.old 5], _, [], [], [70]⟩, ⟨[.op 1 0, .op 2 0], _, [], [0, 1, 2], [71]⟩, ⟨[.op 3 0], _, [], Lr 4, [72]⟩, ⟨[.op 4 0], _, [], Lr 5, [73]⟩, ⟨[.op 5 0], _, [], Lr 6, [74]⟩, ⟨[], [(8, (pBox Zw 8 (default : Zs)))], [9], [], [8]⟩, ⟨[.op 6 0, .op 7 0], _, [9], Lr 8, [8]⟩]) (F := [.old 0, .old 1, .old 2, .old 3, .old 4, .old 5, .op 8 0]) (hst.pick [0, 1, 2, 3, 4, 5] rfl) hb Za
                     (o_p rfl (Ze Zbm rfl rfl u_0) <| o_p rfl (Zg Zca rfl rfl u_0) <| o_p rfl (Zd rfl rfl u_0) <| o_p rfl (Zbh Tryd.underlying23 Zdv rfl rfl u_0 u_1 h21) <| o_p rfl (Ze Zc4 rfl rfl u_0) <| o_p rfl (Zg ty_9 rfl rfl u_0) <| o_p rfl (Zo8 rfl rfl c_i c_s u_0) <| o_p rfl (Zbi (zs := [.int .i64 0, .string ByteArray.empty, .int .i64 0, .float .f64 0, .string ByteArray.empty, .int .i64 0, .int .i64 0, .int .i64 0, .int .i64 0, .float .f64 0, .int .i64 0, .string ByteArray.empty, .slice none 0 0, .bool false]) (by kernel_rfl) (fun g => Zjy g) rfl rfl) <| o_p rfl (Z5 Zfa rfl rfl u_1 u_0) <| o_n) (by kernel_rfl) (fun a g hst hb => ?_)
                   refine wp_seq ?_
                   refine r_s (T := [⟨[.old 1], _, [], [], [75]⟩, ⟨[.op 0 0], _, [], [0], [76]⟩, ⟨[.op 1 0], _, [], [0, 1], [77]⟩]) (F := [.old 0, .old 1, .old 2, .old 3, .old 4, .old 5, .old 6, .op 2 0]) hst hb Za
                     (o_p rfl (Zj Zcx (off := 0) (by kernel_rfl) rfl rfl u_0) <| o_p rfl (Z1 ty_3 rfl rfl u_0) <| o_p rfl (Z7 rfl rfl u_0 c_i) <| o_n) (by kernel_rfl) (fun a g hst hb => ?_)
                   refine Zbv (fun a w => ∃ (j27 : Zs) (g : G), w = g.w ∧ St 99 [(1, (Zf.sl.pd a1)), (2, (pBox Zf 2 x17)), (4, (pBox Zf 4 (default : Zb))), (5, (pInt .i64 x3)), (6, (Zf.ptr e5)), (7, (pInt .i64 x18)), (8, (pBox Zw 8 j27))] a g ∧ Base g0 g ∧ Zd3 x17 x18 (Zbz e5 n) j27 = some z31) ?_ ?_
                   · rintro a w ⟨j27, g, rfl, hst, hb, H2⟩
                     unfold Zd3 at H2
                     refine Zq ?_
                     obtain ⟨r28, h29, H2⟩ := Zk H2
                     refine r_g (T := [⟨[.old 1], _, [], [], [92]⟩, ⟨[.old 6], _, [], [], [93]⟩, ⟨[.op 0 0, .op 1 0], _, [], [0, 1], [94]⟩, ⟨[.op 2 0], _, [], [0, 1, 2], [91]⟩, ⟨[.op 3 0], _, [], Lr 4, [95]⟩, ⟨[.op 3 0], _, [], Lr 4, [96]⟩, ⟨[.op 3 0], _, [], Lr 4, [97]⟩, ⟨[.op 4 0, .old 1], _, [3], Lr 5, [2]⟩]) (F := [.old 0, .op 7 0, .old 2, .old 3, .old 4, .old 5]) hst hb Za
                       (o_p rfl (Zch Z0 rfl rfl u_0) <| o_p rfl (Zch Zfa rfl rfl u_0) <| o_p rfl (Zt Zzg (Zj4 _ _ _ h29) rfl rfl (.cons u_0 (.cons c_b (.cons u_1 .nil)))) <| o_p rfl (Zd rfl rfl u_0) <| o_p rfl (Zbf rfl rfl u_0 rfl) <| o_p rfl (Zbf rfl rfl u_0 rfl) <| o_p rfl (Zbf rfl rfl u_0 rfl) <| o_p rfl (Z5 Z0 rfl rfl u_1 u_0) <| o_n) (by kernel_rfl) (fun a g hst hb => ?_)
                     refine Z6 ?_
                     refine Zq ?_
                     refine r_g (T := [⟨[.old 5], _, [], [], [66]⟩, ⟨[.op 0 0], _, [], [0], [67]⟩, ⟨[.op 1 0], _, [], [0, 1], [7]⟩]) (F := [.old 0, .old 1, .old 2, .old 3, .old 4, .op 2 0]) hst hb Za
                       (o_p rfl (Zd rfl rfl u_0) <| o_p rfl (Zcg rfl rfl u_0 c_i rfl) <| o_p rfl (Zc rfl rfl u_0) <| o_n) (by kernel_rfl) (fun a g hst hb => ?_)
                     exact ⟨n, Nat.lt_succ_self _, r28.1, (IntKind.i64.wrap (x18 + (1 : Int))), g, rfl, (hst.pick [0, 1, 2, 3, 4, 5] rfl), hb, H2⟩
                   · refine wp_cond_split (hst.bool 7 rfl) (fun hc22 => ?_) (fun hc22 => ?_)
                     · replace H2 := Zp hc22 H2
                       obtain ⟨e23, h24, H2⟩ := Zk H2; obtain ⟨e25, h26, H2⟩ := Zk H2
                       refine r_g (L := [(1, _), (2, _), (4, _), (5, _), (6, _), (7, _), (8, _)]) (T := ⟨[.old 4], _, [], [], [78]⟩ :: ⟨[.op 0 0], _, [], [0], [79]⟩ :: ⟨[.old 5], _, [], [], [80]⟩ :: ⟨[.op 1 0, .op 2 0], _, [], [0, 1, 2], [81]⟩ :: ⟨[.op 3 0], _, [], Lr 4, [82]⟩ :: ⟨[.op 4 0], _, [], Lr 5, [83]⟩ :: ⟨[.old 4], _, [], [], [84]⟩ :: ⟨[.op 6 0], _, [], [6], [85]⟩ :: ⟨[.old 5], _, [], [], [86]⟩ :: ⟨[.op 7 0, .op 8 0], _, [], [6, 7, 8], [87]⟩ :: ⟨[.op 9 0], _, [], List.range' 6 4, [88]⟩ :: ⟨[.op 10 0], _, [], List.range' 6 5, [89]⟩ :: ⟨[.op 5 0, .op 11 0], _, [], Lr 12, [90]⟩ :: ⟨[.op 12 0, .old 6], _, [9], Lr 13, [8]⟩ :: []) (F := [.old 0, .old 1, .old 2, .old 3, .old 4, .old 5, .op 13 0]) (hst.pick [0, 1, 2, 3, 4, 5, 6] rfl) hb Za
                         (o_p rfl (Ze Zbm rfl rfl u_0) <| o_p rfl (Zg Zca rfl rfl u_0) <| o_p rfl (Zd rfl rfl u_0) <| o_p rfl (Zbh Tryd.underlying23 Zdv rfl rfl u_0 u_1 h24) <| o_p rfl (Ze Zee rfl rfl u_0) <| o_p rfl (Zg Zby rfl rfl u_0) <| o_p rfl (Ze Zbm rfl rfl u_0) <| o_p rfl (Zg Zca rfl rfl u_0) <| o_p rfl (Zd rfl rfl u_0) <| o_p rfl (Zbh Tryd.underlying23 Zdv rfl rfl u_0 u_1 h26) <| o_p rfl (Ze Zc4 rfl rfl u_0) <| o_p rfl (Zg ty_9 rfl rfl u_0) <| o_p rfl (Zro rfl rfl c_i c_s u_0 u_1) <| o_p rfl (Z5 Zfa rfl rfl u_1 u_0) <| o_n) (by kernel_rfl) (fun a g hst hb => ?_)
                       exact ⟨({ Kind := (21 : Int), Key := (⟨#[107]⟩ : ByteArray), N := (0 : Int), X := e23.Score, S := e25.Name, Make := (default : Zb), Must := false } : Zs), g, rfl, (hst.pick [0, 1, 2, 3, 4, 5, 6] rfl), hb, H2⟩
                     · replace H2 := Zo hc22 H2
                       refine wp_skip ?_
                       exact ⟨({ Kind := (18 : Int), Key := (⟨#[107]⟩ : ByteArray), N := (0 : Int), X := (0 : Nat), S := e20.Name, Make := (default : Zb), Must := false } : Zs), g, rfl, (hst.pick [0, 1, 2, 3, 4, 5, 6] rfl), hb, H2⟩
                 · replace H2 := Zo hc19 H2
                   refine wp_exit ?_
                   refine Zcf ?_
                   refine Zcf ?_
                   refine Zc1 ?_
                   exact ⟨x17, g, rfl, (hst.pick [0, 1, 2, 3] rfl), hb, Option.some.inj H2⟩
           · refine wp_cond_split (hst.bool 5 rfl) (fun hc13 => ?_) (fun hc13 => ?_)
             · replace H1 := Zp hc13 H1
               obtain ⟨r14, h15, H1⟩ := Zk H1
               refine r_g (L := [(1, _), (2, _), (4, _), (5, _), (6, _)]) (T := [⟨[.old 1], _, [], [], [50]⟩, ⟨[.op 0 0], _, [], [0], [51]⟩, ⟨[.old 4], _, [], [], [52]⟩, ⟨[.op 2 0], _, [], [2], [53]⟩, ⟨[.op 1 0, .op 3 0], _, [], Lr 4, [54]⟩, ⟨[.old 1], _, [], Lr 5, [55]⟩, ⟨[.op 4 0, .op 5 0, .old 1], _, [3], Lr 6, [2, 50, 55]⟩]) (F := [.old 0, .op 6 0, .old 2, .old 3, .old 4]) (hst.pick [0, 1, 2, 3, 4] rfl) hb Za
                 (o_p rfl (Zj Zcv (off := 4) (by kernel_rfl) rfl rfl u_0) <| o_p rfl (Z1 Zby rfl rfl u_0) <| o_p rfl (Ze Zcv rfl rfl u_0) <| o_p rfl (Zg Zby rfl rfl u_0) <| o_p rfl (Zt Zyo (Zkv _ _ h15) rfl rfl (.cons u_0 (.cons u_1 .nil))) <| o_p rfl (Zj Zcv (off := 4) (by kernel_rfl) rfl rfl u_0) <| o_p rfl (Zio Zby rfl rfl u_2 u_1 u_0) <| o_n) (by kernel_rfl) (fun a g hst hb => ?_)
               exact ⟨({ j12 with Real := r14 }), g, rfl, (hst.pick [0, 1, 2, 3, 4] rfl), hb, H1⟩
             · replace H1 := Zo hc13 H1
               refine wp_skip ?_
               exact ⟨j12, g, rfl, (hst.pick [0, 1, 2, 3, 4] rfl), hb, H1⟩
         · refine wp_cond_split (hst.bool 5 rfl) (fun hc9 => ?_) (fun hc9 => ?_)
           · replace H1 := Zp hc9 H1
             obtain ⟨r10, h11, H1⟩ := Zk H1
             refine r_g (L := [(1, _), (2, _), (4, _), (5, _), (6, _)]) (T := [⟨[.old 1], _, [], [], [41]⟩, ⟨[.op 0 0], _, [], [0], [42]⟩, ⟨[.old 4], _, [], [], [43]⟩, ⟨[.op 2 0], _, [], [2], [44]⟩, ⟨[.op 1 0, .op 3 0], _, [], Lr 4, [45]⟩, ⟨[.old 1], _, [], Lr 5, [46]⟩, ⟨[.op 4 0, .op 5 0, .old 1], _, [3], Lr 6, [2, 41, 46]⟩]) (F := [.old 0, .op 6 0, .old 2, .old 3, .old 4]) (hst.pick [0, 1, 2, 3, 4] rfl) hb Za
               (o_p rfl (Zj Zcv (off := 4) (by kernel_rfl) rfl rfl u_0) <| o_p rfl (Z1 Zby rfl rfl u_0) <| o_p rfl (Ze Zcv rfl rfl u_0) <| o_p rfl (Zg Zby rfl rfl u_0) <| o_p rfl (Zt Zze (Zko _ _ h11) rfl rfl (.cons u_0 (.cons u_1 .nil))) <| o_p rfl (Zj Zcv (off := 4) (by kernel_rfl) rfl rfl u_0) <| o_p rfl (Zio Zby rfl rfl u_2 u_1 u_0) <| o_n) (by kernel_rfl) (fun a g hst hb => ?_)
             exact ⟨({ j8 with Real := r10 }), g, rfl, (hst.pick [0, 1, 2, 3, 4] rfl), hb, H1⟩
           · replace H1 := Zo hc9 H1
             refine wp_skip ?_
             exact ⟨j8, g, rfl, (hst.pick [0, 1, 2, 3, 4] rfl), hb, H1⟩
       · refine wp_cond_split (hst.bool 5 rfl) (fun hc7 => ?_) (fun hc7 => ?_)
         · replace H1 := Zp hc7 H1
           refine r_g (L := [(1, _), (2, _), (4, _), (5, _), (6, _)]) (T := [⟨[.old 1], _, [], [], [32]⟩, ⟨[.op 0 0], _, [], [0], [33]⟩, ⟨[.old 4], _, [], [], [34]⟩, ⟨[.op 2 0], _, [], [2], [35]⟩, ⟨[.op 1 0, .op 3 0], _, [], Lr 4, [36]⟩, ⟨[.old 1], _, [], Lr 5, [37]⟩, ⟨[.op 4 0, .op 5 0, .old 1], _, [3], Lr 6, [2, 32, 37]⟩]) (F := [.old 0, .op 6 0, .old 2, .old 3, .old 4]) (hst.pick [0, 1, 2, 3, 4] rfl) hb Za
             (o_p rfl (Zj Zbx (off := 1) (by kernel_rfl) rfl rfl u_0) <| o_p rfl (Z1 ty_2 rfl rfl u_0) <| o_p rfl (Ze Zbx rfl rfl u_0) <| o_p rfl (Zg ty_2 rfl rfl u_0) <| o_p rfl (Zcg rfl rfl u_0 u_1 rfl) <| o_p rfl (Zj Zbx (off := 1) (by kernel_rfl) rfl rfl u_0) <| o_p rfl (Zil ty_2 rfl rfl u_2 u_1 u_0) <| o_n) (by kernel_rfl) (fun a g hst hb => ?_)
           exact ⟨({ x2 with Num := (IntKind.i64.wrap (x2.Num + e5.Num)) }), g, rfl, (hst.pick [0, 1, 2, 3, 4] rfl), hb, H1⟩
         · replace H1 := Zo hc7 H1
           refine wp_skip ?_
           exact ⟨x2, g, rfl, (hst.pick [0, 1, 2, 3, 4] rfl), hb, H1⟩
     · replace H1 := Zo hc4 H1
       refine wp_exit ?_
       refine Zcf ?_
       refine Zcf ?_
       refine Zc1 ?_
       exact ⟨x2, g, rfl, (hst.pick [1, 2] rfl), hb, Option.some.inj H1⟩
end Go.CL
