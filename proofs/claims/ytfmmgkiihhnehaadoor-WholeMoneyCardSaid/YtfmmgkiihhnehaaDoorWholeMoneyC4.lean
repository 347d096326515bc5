/- A part of the proof of WholeMoney. -/
import Derived.Test.YtfmmgkiihhnehaaDoorWholeMoneyC3
import Derived.Defers
import Derived.Recover
set_option linter.unusedVariables false
set_option linter.unusedSimpArgs false
set_option maxRecDepth 100000
namespace Go.CL
open Go Go.RowKit Go.Proofs
theorem Zi3 (a0 : Nat) (a1 : Nat) {r : Bool} (h : Zd5 a0 a1 = some r) : FnOk Tryd.prog 86 [(pFlt a0), (pFlt a1)] (Zbc r) := by
 have H0 := h
 unfold Zd5 at H0
 clear h
 refine Zbs (N := 25) Tryd.func86 rfl rfl (Nat.le_of_ble_eq_true rfl) rfl rfl (fun a g0 hst hb => ?_)
 refine r_s (T := [⟨[], _, [], [], [4]⟩]) (F := [.old 0, .old 1]) hst hb Zb
   (o_p rfl (Zc rfl rfl c_b) <| o_n) (by kernel_rfl) (fun a g hst hb => ?_)
 refine wp_seq ?_
 obtain ⟨r1, h2, H0⟩ := Zh H0
 refine r_s (T := [⟨[.old 0], _, [], [], [5]⟩, ⟨[.op 0 0], _, [], [0], [6]⟩]) (F := [.old 0, .old 1, .op 1 0]) hst hb Zb
   (o_p rfl (Za rfl rfl u_0) <| o_p rfl (Zq Zyi (Zi4 _ h2) rfl rfl (.cons u_0 .nil)) <| o_n) (by kernel_rfl) (fun a g hst hb => ?_)
 refine wp_cond_split (hst.bool 2 rfl) (fun hc3 => ?_) (fun hc3 => ?_)
 · replace H0 := Zz hc3 H0
   refine r_s (L := []) (T := [⟨[], _, [], [], [4]⟩]) (F := [.op 0 0]) (hst.pick [] rfl) hb Zb
     (o_p rfl (Zc rfl rfl c_b) <| o_n) (by kernel_rfl) (fun a g hst hb => ?_)
   refine wp_ret ?_
   refine Zr ?_
   obtain rfl := Option.some.inj H0
   exact Z3 rfl hst hb (Zl (s := 4)) (hst.at 0 rfl)
 · replace H0 := Z0 hc3 H0
   refine wp_skip ?_
   refine Zu ?_
   refine wp_seq ?_
   obtain ⟨r4, h5, H0⟩ := Zh H0
   refine r_s (L := [(0, _), (1, _)]) (T := [⟨[.old 1], _, [], [], [7]⟩, ⟨[.op 0 0], _, [], [0], [8]⟩]) (F := [.old 0, .old 1, .op 1 0]) (hst.pick [0, 1] rfl) hb Zb
     (o_p rfl (Za rfl rfl u_0) <| o_p rfl (Zq Zyi (Zi4 _ h5) rfl rfl (.cons u_0 .nil)) <| o_n) (by kernel_rfl) (fun a g hst hb => ?_)
   refine wp_cond_split (hst.bool 2 rfl) (fun hc6 => ?_) (fun hc6 => ?_)
   · replace H0 := Zz hc6 H0
     refine r_s (L := []) (T := [⟨[], _, [], [], [4]⟩]) (F := [.op 0 0]) (hst.pick [] rfl) hb Zb
       (o_p rfl (Zc rfl rfl c_b) <| o_n) (by kernel_rfl) (fun a g hst hb => ?_)
     refine wp_ret ?_
     refine Zr ?_
     obtain rfl := Option.some.inj H0
     exact Z3 rfl hst hb (Zl (s := 4)) (hst.at 0 rfl)
   · replace H0 := Z0 hc6 H0
     refine wp_skip ?_
     refine Zu ?_
     refine wp_seq ?_
     refine r_s (L := [(0, _), (1, _)]) (T := [⟨[.old 0], _, [], [], [9]⟩, ⟨[.op 0 0], _, [], [0], [10]⟩, ⟨[.op 1 0], _, [], [0, 1], [11]⟩, ⟨[.op 2 0, .old 1], _, [], [0, 1, 2], [12]⟩, ⟨[.op 2 0, .op 3 0], _, [], Lr 4, [13]⟩, ⟨[.op 2 0, .op 4 0], _, [], Lr 5, [14]⟩]) (F := [.old 0, .old 1, .op 5 0]) (hst.pick [0, 1] rfl) hb Zb
       (o_p rfl (Za rfl rfl u_0) <| o_p rfl (Zs5 rfl rfl u_0 c_f) <| o_p rfl (Za rfl rfl u_0) <| o_g (g_t rfl rfl rfl (fun hG => Za rfl rfl u_0)) <| o_g (g_t rfl rfl rfl (fun hG => Zs5 rfl rfl (Opd.gd hG u_0) c_f)) <| o_p rfl (Zbp rfl rfl u_0 (fun hz => (Opd.gd hz u_1))) <| o_n) (by kernel_rfl) (fun a g hst hb => ?_)
     refine wp_cond_split (hst.bool 2 rfl) (fun hc7 => ?_) (fun hc7 => ?_)
     · replace H0 := Zz hc7 H0
       obtain ⟨r8, h9, H0⟩ := Zh H0; obtain ⟨r10, h11, H0⟩ := Zh H0
       refine r_s (L := [(0, _), (1, _)]) (T := [⟨[.old 0], _, [], [], [15]⟩, ⟨[.op 0 0], _, [], [0], [16]⟩, ⟨[.op 1 0], _, [], [0, 1], [17]⟩, ⟨[.op 2 0, .old 1], _, [], [0, 1, 2], [18]⟩, ⟨[.op 2 0, .op 3 0], _, [], Lr 4, [19]⟩, ⟨[.op 2 0, .op 4 0], _, [], Lr 5, [20]⟩, ⟨[.op 2 0, .op 5 0], _, [], Lr 6, [21]⟩, ⟨[.op 6 0], _, [], Lr 7, [4]⟩]) (F := [.op 7 0]) (hst.pick [0, 1] rfl) hb Zb
         (o_p rfl (Za rfl rfl u_0) <| o_p rfl (Zq Z2i (Zk0 _ h9) rfl rfl (.cons u_0 .nil)) <| o_p rfl (Za rfl rfl u_0) <| o_g (g_t rfl rfl rfl (fun hG => Za rfl rfl u_0)) <| o_g (g_t rfl rfl rfl (fun hG => Zq Z2i (Zk0 _ (Zbv h11 hG)) rfl rfl (.cons (Opd.gd hG u_0) .nil))) <| o_g (g_t rfl rfl rfl (fun hG => Zcs rfl rfl (Opd.gd hG u_0))) <| o_p rfl (Zbp rfl rfl u_0 (fun hz => (Opd.gd hz u_1))) <| o_p rfl (Zc rfl rfl u_0) <| o_n) (by kernel_rfl) (fun a g hst hb => ?_)
       refine wp_ret ?_
       refine Zr ?_
       obtain rfl := Option.some.inj H0
       exact Z3 rfl hst hb (Zl (s := 4)) (hst.at 0 rfl)
     · replace H0 := Z0 hc7 H0
       refine wp_skip ?_
       refine Zu ?_
       refine r_s (L := [(0, _), (1, _)]) (T := [⟨[.old 0], _, [], [], [22]⟩, ⟨[.old 1], _, [], [], [23]⟩, ⟨[.op 0 0, .op 1 0], _, [], [0, 1], [24]⟩, ⟨[.op 2 0], _, [], [0, 1, 2], [4]⟩]) (F := [.op 3 0]) (hst.pick [0, 1] rfl) hb Zb
         (o_p rfl (Za rfl rfl u_0) <| o_p rfl (Za rfl rfl u_0) <| o_p rfl (Ztc rfl rfl u_0 u_1) <| o_p rfl (Zc rfl rfl u_0) <| o_n) (by kernel_rfl) (fun a g hst hb => ?_)
       refine wp_ret ?_
       obtain rfl := Option.some.inj H0
       exact Z3 rfl hst hb (Zl (s := 4)) (hst.at 0 rfl)
theorem Zk7 (a0 : Nat) (a1 : Nat) {r : Bool} (h : Zc9 a0 a1 = some r) : FnOk Tryd.prog 85 [(pFlt a0), (pFlt a1)] (Zbc r) := by
 have H0 := h
 unfold Zc9 at H0
 clear h
 refine Zbs (N := 15) Tryd.func85 rfl rfl (Nat.le_of_ble_eq_true rfl) rfl rfl (fun a g0 hst hb => ?_)
 refine r_s (T := [⟨[], _, [], [], [4]⟩]) (F := [.old 0, .old 1]) hst hb Zb
   (o_p rfl (Zc rfl rfl c_b) <| o_n) (by kernel_rfl) (fun a g hst hb => ?_)
 obtain ⟨r1, h2, H0⟩ := Zh H0; obtain ⟨r3, h4, H0⟩ := Zh H0
 refine r_s (T := [⟨[.old 0], _, [], [], [5]⟩, ⟨[.old 1], _, [], [], [6]⟩, ⟨[.op 0 0, .op 1 0], _, [], [0, 1], [7]⟩, ⟨[.op 2 0], _, [], [0, 1, 2], [8]⟩, ⟨[.op 3 0], _, [], Lr 4, [9]⟩, ⟨[.op 4 0, .old 1], _, [], Lr 5, [10]⟩, ⟨[.op 4 0, .old 0], _, [], Lr 5, [11]⟩, ⟨[.op 4 0, .op 5 0, .op 6 0], _, [], Lr 7, [12]⟩, ⟨[.op 4 0, .op 7 0], _, [], Lr 8, [13]⟩, ⟨[.op 4 0, .op 8 0], _, [], Lr 9, [14]⟩, ⟨[.op 9 0], _, [], Lr 10, [4]⟩]) (F := [.op 10 0]) hst hb Zb
   (o_p rfl (Za rfl rfl u_0) <| o_p rfl (Za rfl rfl u_0) <| o_p rfl (Zq Zzj (Zi3 _ _ h2) rfl rfl (.cons u_0 (.cons u_1 .nil))) <| o_p rfl (Zcs rfl rfl u_0) <| o_p rfl (Za rfl rfl u_0) <| o_g (g_t rfl rfl rfl (fun hG => Za rfl rfl u_0)) <| o_g (g_t rfl rfl rfl (fun hG => Za rfl rfl u_0)) <| o_g (g_t rfl rfl rfl (fun hG => Zq Zzj (Zi3 _ _ (Zbv h4 hG)) rfl rfl (.cons (Opd.gd hG u_0) (.cons (Opd.gd hG u_1) .nil)))) <| o_g (g_t rfl rfl rfl (fun hG => Zcs rfl rfl (Opd.gd hG u_0))) <| o_p rfl (Zbp rfl rfl u_0 (fun hz => (Opd.gd hz u_1))) <| o_p rfl (Zc rfl rfl u_0) <| o_n) (by kernel_rfl) (fun a g hst hb => ?_)
 refine wp_ret ?_
 obtain rfl := Option.some.inj H0
 exact Z3 rfl hst hb (Zl (s := 4)) (hst.at 0 rfl)
theorem Zk4 (a0 : Nat) {r : Bool} (h : Zf2 a0 = some r) : FnOk Tryd.prog 59 [(pFlt a0)] (Zbc r) := by
 have H0 := h
 unfold Zf2 at H0
 clear h
 refine Zbs (N := 5) Tryd.func59 rfl rfl (Nat.le_of_ble_eq_true rfl) rfl rfl (fun a g0 hst hb => ?_)
 refine r_s (T := [⟨[], _, [], [], [2]⟩]) (F := [.old 0]) hst hb Zb
   (o_p rfl (Zc rfl rfl c_b) <| o_n) (by kernel_rfl) (fun a g hst hb => ?_)
 obtain ⟨r1, h2, H0⟩ := Zh H0
 refine r_s (T := [⟨[.old 0], _, [], [], [3]⟩, ⟨[.op 0 0], _, [], [0], [4]⟩, ⟨[.op 1 0], _, [], [0, 1], [2]⟩]) (F := [.op 2 0]) hst hb Zb
   (o_p rfl (Za rfl rfl u_0) <| o_p rfl (Zq Z2h (Zk7 _ _ h2) rfl rfl (.cons u_0 (.cons c_f .nil))) <| o_p rfl (Zc rfl rfl u_0) <| o_n) (by kernel_rfl) (fun a g hst hb => ?_)
 refine wp_ret ?_
 obtain rfl := Option.some.inj H0
 exact Z3 rfl hst hb (Zl (s := 2)) (hst.at 0 rfl)
theorem Zow (a0 : Zd) (a1 : ByteArray) {r : Bool} (h : Zhf a0 a1 = some r) : FnOk Tryd.prog 43 [(Zi.pd a0), (pStr a1)] (Zbc r) := by
 have H0 := h
 unfold Zhf at H0
 clear h
 refine Zbs (N := 106) Tryd.func43 rfl rfl (Nat.le_of_ble_eq_true rfl) rfl rfl (fun a g0 hst hb => ?_)
 refine r_s (T := [⟨[.old 0], _, [], [], [2]⟩, ⟨[], _, [], [], [4]⟩]) (F := [.old 1, .op 0 0]) hst hb Zb
   (o_p rfl (Zbl rfl rfl u_0) <| o_p rfl (Zc rfl rfl c_b) <| o_n) (by kernel_rfl) (fun a g hst hb => ?_)
 refine r_s (T := [⟨[], _, [], [], [5]⟩, ⟨[], _, [], [0], [6]⟩, ⟨[], _, [], [0, 1], [7]⟩, ⟨[], _, [], [0, 1, 2], [8]⟩, ⟨[], _, [], Lr 4, [9]⟩]) (F := [.old 0, .old 1, .op 0 0, .op 1 0, .op 2 0, .op 3 0, .op 4 0]) hst hb Zb
   (o_p rfl (Zc rfl rfl c_b) <| o_p rfl (Zc rfl rfl c_b) <| o_p rfl (Zc rfl rfl c_b) <| o_p rfl (Zc rfl rfl c_b) <| o_p rfl (Zc rfl rfl c_b) <| o_n) (by kernel_rfl) (fun a g hst hb => ?_)
 refine wp_seq ?_
 refine r_s (T := [⟨[], _, [], [], [10]⟩]) (F := [.old 0, .old 1, .old 2, .old 3, .old 4, .old 5, .old 6, .op 0 0]) hst hb Zb
   (o_p rfl (Zc rfl rfl c_i) <| o_n) (by kernel_rfl) (fun a g hst hb => ?_)
 obtain ⟨z23, hz1, H0⟩ := Zh H0
 refine Zc2 (fun a w => ∃ (y18 : Bool) (y19 : Bool) (y20 : Bool) (y21 : Bool) (y22 : Bool) (g : G), w = g.w ∧ St 106 [(2, (Zi.ptr a0)), (5, (Zbc y18)), (6, (Zbc y19)), (7, (Zbc y20)), (8, (Zbc y21)), (9, (Zbc y22))] a g ∧ Base g0 g ∧ (y18, y19, y20, y21, y22) = z23) ?_ ?_
 · rintro a w ⟨y18, y19, y20, y21, y22, g, rfl, hst, hb, rfl⟩
   refine Zu ?_
   refine wp_seq ?_
   refine r_s (T := ⟨[.old 1], _, [], [], [52]⟩ :: ⟨[.op 0 0], _, [], [0], [53]⟩ :: ⟨[.op 1 0], _, [], [0, 1], [54]⟩ :: ⟨[.op 2 0, .old 0], _, [], [0, 1, 2], [55]⟩ :: ⟨[.op 2 0, .op 3 0], _, [], Lr 4, [56]⟩ :: ⟨[.op 2 0, .op 4 0], _, [], Lr 5, [57]⟩ :: ⟨[.op 2 0, .op 5 0], _, [], Lr 6, [58]⟩ :: ⟨[.op 6 0], _, [], Lr 7, [59]⟩ :: ⟨[.op 7 0, .old 2], _, [], Lr 8, [60]⟩ :: ⟨[.op 7 0, .op 8 0], _, [], Lr 9, [61]⟩ :: ⟨[.op 7 0, .op 9 0], _, [], Lr 10, [62]⟩ :: ⟨[.op 10 0, .old 0], _, [], Lr 11, [63]⟩ :: ⟨[.op 10 0, .op 11 0], _, [], Lr 12, [64]⟩ :: ⟨[.op 10 0, .op 12 0], _, [], Lr 13, [65]⟩ :: ⟨[.op 7 0, .op 10 0, .op 13 0], _, [], Lr 14, [66]⟩ :: ⟨[.op 7 0, .op 14 0], _, [], Lr 15, [67]⟩ :: ⟨[.op 15 0], _, [], Lr 16, [68]⟩ :: ⟨[.op 16 0, .old 3], _, [], Lr 17, [69]⟩ :: ⟨[.op 16 0, .op 17 0], _, [], Lr 18, [70]⟩ :: ⟨[.op 16 0, .op 18 0], _, [], Lr 19, [71]⟩ :: ⟨[.op 19 0, .old 0], _, [], Lr 20, [72]⟩ :: ⟨[.op 19 0, .op 20 0], _, [], Lr 21, [73]⟩ :: ⟨[.op 19 0, .op 21 0], _, [], Lr 22, [74]⟩ :: ⟨[.op 16 0, .op 19 0, .op 22 0], _, [], Lr 23, [75]⟩ :: ⟨[.op 16 0, .op 23 0], _, [], Lr 24, [76]⟩ :: ⟨[.op 24 0], _, [], Lr 25, [77]⟩ :: ⟨[.op 25 0, .old 3], _, [], Lr 26, [78]⟩ :: ⟨[.op 25 0, .op 26 0], _, [], Lr 27, [79]⟩ :: ⟨[.op 25 0, .op 27 0], _, [], Lr 28, [80]⟩ :: ⟨[.op 28 0, .old 0], _, [], Lr 29, [81]⟩ :: ⟨[.op 28 0, .op 29 0], _, [], Lr 30, [82]⟩ :: ⟨[.op 28 0, .op 30 0], _, [], Lr 31, [83]⟩ :: ⟨[.op 25 0, .op 28 0, .op 31 0], _, [], Lr 32, [84]⟩ :: ⟨[.op 25 0, .op 32 0], _, [], Lr 33, [85]⟩ :: []) (F := [.old 0, .old 4, .old 5, .op 33 0]) hst hb Zb
     (o_p rfl (Za rfl rfl u_0) <| o_p rfl (Zcs rfl rfl u_0) <| o_p rfl (Za rfl rfl u_0) <| o_g (g_t rfl rfl rfl (fun hG => Ze Zjl rfl rfl u_0)) <| o_g (g_t rfl rfl rfl (fun hG => Zf ty_9 rfl rfl (Opd.gd hG u_0))) <| o_g (g_t rfl rfl rfl (fun hG => Z0g rfl rfl (Opd.gd hG u_0) c_s)) <| o_p rfl (Zbp rfl rfl u_0 (fun hz => (Opd.gd hz u_1))) <| o_p rfl (Za rfl rfl u_0) <| o_g (g_f rfl rfl rfl (fun hG => Za rfl rfl u_0)) <| o_g (g_f rfl rfl rfl (fun hG => Zcs rfl rfl (Opd.gd hG u_0))) <| o_g (g_f rfl rfl rfl (fun hG => Za rfl rfl (Opd.gd hG u_0))) <| o_g (g_ti rfl rfl rfl (fun hG => Ze Zd3 rfl rfl u_0)) <| o_g (g_ti rfl rfl rfl (fun hG => Zf ty_2 rfl rfl (Opd.gd hG u_0))) <| o_g (g_ti rfl rfl rfl (fun hG => Zfg rfl rfl (Opd.gd hG u_0) c_i)) <| o_g (g_f rfl rfl rfl (fun hG => Zbp rfl rfl (Opd.gd hG u_0) (fun hz => (Opd.gd (bA hG hz) u_1)))) <| o_p rfl (Zbx rfl rfl u_0 (fun hz => (Opd.gd (bNF hz) u_1))) <| o_p rfl (Za rfl rfl u_0) <| o_g (g_f rfl rfl rfl (fun hG => Za rfl rfl u_0)) <| o_g (g_f rfl rfl rfl (fun hG => Zcs rfl rfl (Opd.gd hG u_0))) <| o_g (g_f rfl rfl rfl (fun hG => Za rfl rfl (Opd.gd hG u_0))) <| o_g (g_ti rfl rfl rfl (fun hG => Ze Zjm rfl rfl u_0)) <| o_g (g_ti rfl rfl rfl (fun hG => Zf ty_2 rfl rfl (Opd.gd hG u_0))) <| o_g (g_ti rfl rfl rfl (fun hG => Zfg rfl rfl (Opd.gd hG u_0) c_i)) <| o_g (g_f rfl rfl rfl (fun hG => Zbp rfl rfl (Opd.gd hG u_0) (fun hz => (Opd.gd (bA hG hz) u_1)))) <| o_p rfl (Zbx rfl rfl u_0 (fun hz => (Opd.gd (bNF hz) u_1))) <| o_p rfl (Za rfl rfl u_0) <| o_g (g_f rfl rfl rfl (fun hG => Za rfl rfl u_0)) <| o_g (g_f rfl rfl rfl (fun hG => Zcs rfl rfl (Opd.gd hG u_0))) <| o_g (g_f rfl rfl rfl (fun hG => Za rfl rfl (Opd.gd hG u_0))) <| o_g (g_ti rfl rfl rfl (fun hG => Ze Zjp rfl rfl u_0)) <| o_g (g_ti rfl rfl rfl (fun hG => Zf ty_2 rfl rfl (Opd.gd hG u_0))) <| o_g (g_ti rfl rfl rfl (fun hG => Zfg rfl rfl (Opd.gd hG u_0) c_i)) <| o_g (g_f rfl rfl rfl (fun hG => Zbp rfl rfl (Opd.gd hG u_0) (fun hz => (Opd.gd (bA hG hz) u_1)))) <| o_p rfl (Zbx rfl rfl u_0 (fun hz => (Opd.gd (bNF hz) u_1))) <| o_n) (by kernel_rfl) (fun a g hst hb => ?_)
   refine wp_cond_split (hst.bool 3 rfl) (fun hc24 => ?_) (fun hc24 => ?_)
   · replace H0 := Zz hc24 H0
     refine r_s (L := []) (T := [⟨[], _, [], [], [4]⟩]) (F := [.op 0 0]) (hst.pick [] rfl) hb Zb
       (o_p rfl (Zc rfl rfl c_b) <| o_n) (by kernel_rfl) (fun a g hst hb => ?_)
     refine wp_ret ?_
     refine Zr ?_
     obtain rfl := Option.some.inj H0
     exact Z3 rfl hst hb (Zl (s := 4)) (hst.at 0 rfl)
   · replace H0 := Z0 hc24 H0
     refine wp_skip ?_
     refine Zu ?_
     obtain ⟨r25, h26, H0⟩ := Zh H0
     refine r_s (L := [(2, _), (8, _), (9, _)]) (T := ⟨[.old 1], _, [], [], [86]⟩ :: ⟨[.op 0 0], _, [], [0], [87]⟩ :: ⟨[.op 1 0, .old 0], _, [], [0, 1], [88]⟩ :: ⟨[.op 1 0, .op 2 0], _, [], [0, 1, 2], [89]⟩ :: ⟨[.op 1 0, .op 3 0], _, [], Lr 4, [90]⟩ :: ⟨[.op 1 0, .op 4 0], _, [], Lr 5, [91]⟩ :: ⟨[.op 5 0], _, [], Lr 6, [92]⟩ :: ⟨[.op 6 0, .old 2], _, [], Lr 7, [93]⟩ :: ⟨[.op 6 0, .op 7 0], _, [], Lr 8, [94]⟩ :: ⟨[.op 8 0, .old 0], _, [], Lr 9, [95]⟩ :: ⟨[.op 8 0, .op 9 0], _, [], Lr 10, [96]⟩ :: ⟨[.op 8 0, .op 10 0], _, [], Lr 11, [97]⟩ :: ⟨[.op 8 0, .op 11 0], _, [], Lr 12, [98]⟩ :: ⟨[.op 12 0, .old 0], _, [], Lr 13, [99]⟩ :: ⟨[.op 12 0, .op 13 0], _, [], Lr 14, [100]⟩ :: ⟨[.op 12 0, .op 14 0], _, [], Lr 15, [101]⟩ :: ⟨[.op 12 0, .op 15 0], _, [], Lr 16, [102]⟩ :: ⟨[.op 8 0, .op 12 0, .op 16 0], _, [], Lr 17, [103]⟩ :: ⟨[.op 6 0, .op 8 0, .op 17 0], _, [], Lr 18, [104]⟩ :: ⟨[.op 6 0, .op 18 0], _, [], Lr 19, [105]⟩ :: ⟨[.op 19 0], _, [], Lr 20, [4]⟩ :: []) (F := [.op 20 0]) (hst.pick [0, 1, 2] rfl) hb Zb
       (o_p rfl (Za rfl rfl u_0) <| o_p rfl (Za rfl rfl u_0) <| o_g (g_f rfl rfl rfl (fun hG => Ze Zkr rfl rfl u_0)) <| o_g (g_f rfl rfl rfl (fun hG => Zf Ze1 rfl rfl (Opd.gd hG u_0))) <| o_g (g_f rfl rfl rfl (fun hG => Zq Z2u (Zk4 _ (Zbv h26 hG)) rfl rfl (.cons (Opd.gd hG u_0) .nil))) <| o_p rfl (Zbx rfl rfl u_0 (fun hz => (Opd.gd (bNF hz) u_1))) <| o_p rfl (Za rfl rfl u_0) <| o_g (g_t rfl rfl rfl (fun hG => Za rfl rfl u_0)) <| o_g (g_t rfl rfl rfl (fun hG => Za rfl rfl (Opd.gd hG u_0))) <| o_g (g_fi rfl rfl rfl (fun hG => Ze Zhm rfl rfl u_0)) <| o_g (g_fi rfl rfl rfl (fun hG => Zf ty_3 rfl rfl (Opd.gd hG u_0))) <| o_g (g_fi rfl rfl rfl (fun hG => Zby rfl rfl (Opd.gd hG u_0) c_i)) <| o_g (g_fi rfl rfl rfl (fun hG => Za rfl rfl (Opd.gd hG u_0))) <| o_g (g_ti rfl rfl rfl (fun hG => Ze Zc8 rfl rfl u_0)) <| o_g (g_ti rfl rfl rfl (fun hG => Zf Zer rfl rfl (Opd.gd hG u_0))) <| o_g (g_ti rfl rfl rfl (fun hG => Zcj Tryd.underlying52 rfl rfl (Opd.gd hG u_0))) <| o_g (g_ti rfl rfl rfl (fun hG => Zby rfl rfl (Opd.gd hG u_0) c_i)) <| o_g (g_fi rfl rfl rfl (fun hG => Zbp rfl rfl (Opd.gd hG u_0) (fun hz => (Opd.gd (bA hG hz) u_1)))) <| o_g (g_t rfl rfl rfl (fun hG => Zbx rfl rfl (Opd.gd hG u_0) (fun hz => (Opd.gd (bA hG (bNF hz)) u_1)))) <| o_p rfl (Zbp rfl rfl u_0 (fun hz => (Opd.gd hz u_1))) <| o_p rfl (Zc rfl rfl u_0) <| o_n) (by kernel_rfl) (fun a g hst hb => ?_)
     refine wp_ret ?_
     obtain rfl := Option.some.inj H0
     exact Z3 rfl hst hb (Zl (s := 4)) (hst.at 0 rfl)
 · refine wp_block ?_
   refine wp_loop_ghost (fun n a w => ∃ (x1 : Bool) (x2 : Bool) (x3 : Bool) (x4 : Bool) (x5 : Bool) (x6 : Int) (g : G), w = g.w ∧ St 106 [(1, (pStr a1)), (2, (Zi.ptr a0)), (5, (Zbc x1)), (6, (Zbc x2)), (7, (Zbc x3)), (8, (Zbc x4)), (9, (Zbc x5)), (10, (pInt .i64 x6))] a g ∧ Base g0 g ∧ Zcd a1 n x1 x2 x3 x4 x5 x6 = some z23) (Int.toNat ((a1.size : Int) - (0 : Int)) + 1) ⟨false, false, false, false, false, (0 : Int), g, rfl, (hst.pick [0, 1, 2, 3, 4, 5, 6, 7] rfl), hb, hz1⟩ (fun n a w hI => ?_)
   obtain ⟨x1, x2, x3, x4, x5, x6, g, rfl, hst, hb, H1⟩ := hI
   cases n with
   | zero => exact absurd H1 (by simp [Zcd])
   | succ n =>
     rw [Zcd] at H1
     refine wp_seq ?_
     refine r_s (T := [⟨[.old 7], _, [], [], [11]⟩, ⟨[.old 0], _, [], [], [12]⟩, ⟨[.op 1 0], _, [], [1], [13]⟩, ⟨[.op 0 0, .op 2 0], _, [], [0, 1, 2], [14]⟩]) (F := [.old 0, .old 1, .old 2, .old 3, .old 4, .old 5, .old 6, .old 7, .op 3 0]) hst hb Zb
       (o_p rfl (Za rfl rfl u_0) <| o_p rfl (Za rfl rfl u_0) <| o_p rfl (Zfq Tryd.underlying9 rfl rfl u_0) <| o_p rfl (Zc1 rfl rfl u_0 u_1) <| o_n) (by kernel_rfl) (fun a g hst hb => ?_)
     refine wp_cond_split (hst.bool 8 rfl) (fun hc7 => ?_) (fun hc7 => ?_)
     · replace H1 := Zz hc7 H1
       refine wp_skip ?_
       refine Zu ?_
       refine wp_seq ?_
       refine wp_block ?_
       obtain ⟨b8, h9, H1⟩ := Zh H1
       refine r_s (L := [(1, _), (2, _), (5, _), (6, _), (7, _), (8, _), (9, _), (10, _)]) (T := [⟨[.old 2], _, [], [], [17]⟩, ⟨[.op 0 0], _, [], [0], [18]⟩, ⟨[.op 1 0, .old 0], _, [], [0, 1], [19]⟩, ⟨[.op 1 0, .old 7], _, [], [0, 1], [20]⟩, ⟨[.op 1 0, .op 2 0, .op 3 0], _, [], Lr 4, [21]⟩, ⟨[.op 1 0, .op 4 0], _, [], Lr 5, [22]⟩, ⟨[.op 1 0, .op 5 0], _, [], Lr 6, [23]⟩, ⟨[.op 6 0], _, [], Lr 7, [5]⟩]) (F := [.old 0, .old 1, .op 7 0, .old 3, .old 4, .old 5, .old 6, .old 7]) (hst.pick [0, 1, 2, 3, 4, 5, 6, 7] rfl) hb Zb
         (o_p rfl (Za rfl rfl u_0) <| o_p rfl (Za rfl rfl u_0) <| o_g (g_f rfl rfl rfl (fun hG => Za rfl rfl u_0)) <| o_g (g_f rfl rfl rfl (fun hG => Za rfl rfl u_0)) <| o_g (g_f rfl rfl rfl (fun hG => Zl7 Tryd.underlying9 rfl rfl (Opd.gd hG u_0) (Opd.gd hG u_1) (Zbv h9 hG))) <| o_g (g_f rfl rfl rfl (fun hG => Zby rfl rfl (Opd.gd hG u_0) c_i)) <| o_p rfl (Zbx rfl rfl u_0 (fun hz => (Opd.gd (bNF hz) u_1))) <| o_p rfl (Zc rfl rfl u_0) <| o_n) (by kernel_rfl) (fun a g hst hb => ?_)
       obtain ⟨b10, h11, H1⟩ := Zh H1
       refine r_s (T := [⟨[.old 3], _, [], [], [24]⟩, ⟨[.op 0 0], _, [], [0], [25]⟩, ⟨[.op 1 0, .old 0], _, [], [0, 1], [26]⟩, ⟨[.op 1 0, .old 7], _, [], [0, 1], [27]⟩, ⟨[.op 1 0, .op 2 0, .op 3 0], _, [], Lr 4, [28]⟩, ⟨[.op 1 0, .op 4 0], _, [], Lr 5, [29]⟩, ⟨[.op 1 0, .op 5 0], _, [], Lr 6, [30]⟩, ⟨[.op 6 0], _, [], Lr 7, [6]⟩]) (F := [.old 0, .old 1, .old 2, .op 7 0, .old 4, .old 5, .old 6, .old 7]) hst hb Zb
         (o_p rfl (Za rfl rfl u_0) <| o_p rfl (Za rfl rfl u_0) <| o_g (g_f rfl rfl rfl (fun hG => Za rfl rfl u_0)) <| o_g (g_f rfl rfl rfl (fun hG => Za rfl rfl u_0)) <| o_g (g_f rfl rfl rfl (fun hG => Zl7 Tryd.underlying9 rfl rfl (Opd.gd hG u_0) (Opd.gd hG u_1) (Zbv h11 hG))) <| o_g (g_f rfl rfl rfl (fun hG => Zby rfl rfl (Opd.gd hG u_0) c_i)) <| o_p rfl (Zbx rfl rfl u_0 (fun hz => (Opd.gd (bNF hz) u_1))) <| o_p rfl (Zc rfl rfl u_0) <| o_n) (by kernel_rfl) (fun a g hst hb => ?_)
       obtain ⟨b12, h13, H1⟩ := Zh H1
       refine r_s (T := [⟨[.old 4], _, [], [], [31]⟩, ⟨[.op 0 0], _, [], [0], [32]⟩, ⟨[.op 1 0, .old 0], _, [], [0, 1], [33]⟩, ⟨[.op 1 0, .old 7], _, [], [0, 1], [34]⟩, ⟨[.op 1 0, .op 2 0, .op 3 0], _, [], Lr 4, [35]⟩, ⟨[.op 1 0, .op 4 0], _, [], Lr 5, [36]⟩, ⟨[.op 1 0, .op 5 0], _, [], Lr 6, [37]⟩, ⟨[.op 6 0], _, [], Lr 7, [7]⟩]) (F := [.old 0, .old 1, .old 2, .old 3, .op 7 0, .old 5, .old 6, .old 7]) hst hb Zb
         (o_p rfl (Za rfl rfl u_0) <| o_p rfl (Za rfl rfl u_0) <| o_g (g_f rfl rfl rfl (fun hG => Za rfl rfl u_0)) <| o_g (g_f rfl rfl rfl (fun hG => Za rfl rfl u_0)) <| o_g (g_f rfl rfl rfl (fun hG => Zl7 Tryd.underlying9 rfl rfl (Opd.gd hG u_0) (Opd.gd hG u_1) (Zbv h13 hG))) <| o_g (g_f rfl rfl rfl (fun hG => Zby rfl rfl (Opd.gd hG u_0) c_i)) <| o_p rfl (Zbx rfl rfl u_0 (fun hz => (Opd.gd (bNF hz) u_1))) <| o_p rfl (Zc rfl rfl u_0) <| o_n) (by kernel_rfl) (fun a g hst hb => ?_)
       obtain ⟨b14, h15, H1⟩ := Zh H1
       refine r_s (T := [⟨[.old 5], _, [], [], [38]⟩, ⟨[.op 0 0], _, [], [0], [39]⟩, ⟨[.op 1 0, .old 0], _, [], [0, 1], [40]⟩, ⟨[.op 1 0, .old 7], _, [], [0, 1], [41]⟩, ⟨[.op 1 0, .op 2 0, .op 3 0], _, [], Lr 4, [42]⟩, ⟨[.op 1 0, .op 4 0], _, [], Lr 5, [43]⟩, ⟨[.op 1 0, .op 5 0], _, [], Lr 6, [44]⟩, ⟨[.op 6 0], _, [], Lr 7, [8]⟩]) (F := [.old 0, .old 1, .old 2, .old 3, .old 4, .op 7 0, .old 6, .old 7]) hst hb Zb
         (o_p rfl (Za rfl rfl u_0) <| o_p rfl (Za rfl rfl u_0) <| o_g (g_f rfl rfl rfl (fun hG => Za rfl rfl u_0)) <| o_g (g_f rfl rfl rfl (fun hG => Za rfl rfl u_0)) <| o_g (g_f rfl rfl rfl (fun hG => Zl7 Tryd.underlying9 rfl rfl (Opd.gd hG u_0) (Opd.gd hG u_1) (Zbv h15 hG))) <| o_g (g_f rfl rfl rfl (fun hG => Zby rfl rfl (Opd.gd hG u_0) c_i)) <| o_p rfl (Zbx rfl rfl u_0 (fun hz => (Opd.gd (bNF hz) u_1))) <| o_p rfl (Zc rfl rfl u_0) <| o_n) (by kernel_rfl) (fun a g hst hb => ?_)
       obtain ⟨b16, h17, H1⟩ := Zh H1
       refine r_g (T := [⟨[.old 6], _, [], [], [45]⟩, ⟨[.op 0 0], _, [], [0], [46]⟩, ⟨[.op 1 0, .old 0], _, [], [0, 1], [47]⟩, ⟨[.op 1 0, .old 7], _, [], [0, 1], [48]⟩, ⟨[.op 1 0, .op 2 0, .op 3 0], _, [], Lr 4, [49]⟩, ⟨[.op 1 0, .op 4 0], _, [], Lr 5, [50]⟩, ⟨[.op 1 0, .op 5 0], _, [], Lr 6, [51]⟩, ⟨[.op 6 0], _, [], Lr 7, [9]⟩]) (F := [.old 0, .old 1, .old 2, .old 3, .old 4, .old 5, .op 7 0, .old 7]) hst hb Zb
         (o_p rfl (Za rfl rfl u_0) <| o_p rfl (Za rfl rfl u_0) <| o_g (g_f rfl rfl rfl (fun hG => Za rfl rfl u_0)) <| o_g (g_f rfl rfl rfl (fun hG => Za rfl rfl u_0)) <| o_g (g_f rfl rfl rfl (fun hG => Zl7 Tryd.underlying9 rfl rfl (Opd.gd hG u_0) (Opd.gd hG u_1) (Zbv h17 hG))) <| o_g (g_f rfl rfl rfl (fun hG => Zby rfl rfl (Opd.gd hG u_0) c_i)) <| o_p rfl (Zbx rfl rfl u_0 (fun hz => (Opd.gd (bNF hz) u_1))) <| o_p rfl (Zc rfl rfl u_0) <| o_n) (by kernel_rfl) (fun a g hst hb => ?_)
       refine Zbr ?_
       refine Zu ?_
       refine r_g (T := [⟨[.old 7], _, [], [], [15]⟩, ⟨[.op 0 0], _, [], [0], [16]⟩, ⟨[.op 1 0], _, [], [0, 1], [10]⟩]) (F := [.old 0, .old 1, .old 2, .old 3, .old 4, .old 5, .old 6, .op 2 0]) hst hb Zb
         (o_p rfl (Za rfl rfl u_0) <| o_p rfl (Zb8 rfl rfl u_0 c_i rfl) <| o_p rfl (Zc rfl rfl u_0) <| o_n) (by kernel_rfl) (fun a g hst hb => ?_)
       exact ⟨n, Nat.lt_succ_self _, (x1 || (b8 == (116 : Int))), (x2 || (b10 == (110 : Int))), (x3 || (b12 == (98 : Int))), (x4 || (b14 == (114 : Int))), (x5 || (b16 == (108 : Int))), (IntKind.i64.wrap (x6 + (1 : Int))), g, rfl, (hst.pick [0, 1, 2, 3, 4, 5, 6, 7] rfl), hb, H1⟩
     · replace H1 := Z0 hc7 H1
       refine wp_exit ?_
       refine Zce ?_
       refine Zce ?_
       refine Zdc ?_
       exact ⟨x1, x2, x3, x4, x5, g, rfl, (hst.pick [1, 2, 3, 4, 5, 6] rfl), hb, Option.some.inj H1⟩
theorem Zni (a0 : Int) {r : ByteArray} (h : Zhu a0 = some r) : FnOk Tryd.prog 44 [(pInt .i64 a0)] (pStr r) := by
 have H0 := h
 unfold Zhu at H0
 clear h
 refine Zbs (N := 15) Tryd.func44 rfl rfl (Nat.le_of_ble_eq_true rfl) rfl rfl (fun a g0 hst hb => ?_)
 refine r_s (T := [⟨[], _, [], [], [2]⟩]) (F := [.old 0]) hst hb Zb
   (o_p rfl (Zc rfl rfl c_s) <| o_n) (by kernel_rfl) (fun a g hst hb => ?_)
 refine r_s (T := [⟨[], _, [], [], [4]⟩, ⟨[.op 0 0], _, [], [0], [3]⟩]) (F := [.old 0, .op 1 0]) hst hb Zb
   (o_p rfl (Zmr Z5n (xs := [.const (.string ⟨#[]⟩), .const (.string ⟨#[116]⟩), .const (.string ⟨#[110]⟩), .const (.string ⟨#[110]⟩), .const (.string ⟨#[110, 98]⟩), .const (.string ⟨#[114]⟩), .const (.string ⟨#[114]⟩), .const (.string ⟨#[114]⟩), .const (.string ⟨#[108]⟩), .const (.string ⟨#[108]⟩)]) (.cons c_s (.cons c_s (.cons c_s (.cons c_s (.cons c_s (.cons c_s (.cons c_s (.cons c_s (.cons c_s (.cons c_s .nil)))))))))) (by decide) rfl rfl) <| o_p rfl (Zc rfl rfl u_0) <| o_n) (by kernel_rfl) (fun a g hst hb => ?_)
 refine wp_seq ?_
 refine r_s (T := [⟨[.old 0], _, [], [], [5]⟩, ⟨[.op 0 0], _, [], [0], [6]⟩, ⟨[.op 1 0], _, [], [0, 1], [7]⟩, ⟨[.op 2 0, .old 0], _, [], [0, 1, 2], [8]⟩, ⟨[.op 2 0, .op 3 0], _, [], Lr 4, [9]⟩, ⟨[.op 2 0, .op 4 0], _, [], Lr 5, [10]⟩]) (F := [.old 0, .old 1, .op 5 0]) hst hb Zb
   (o_p rfl (Za rfl rfl u_0) <| o_p rfl (Zc1 rfl rfl u_0 c_i) <| o_p rfl (Za rfl rfl u_0) <| o_g (g_f rfl rfl rfl (fun hG => Za rfl rfl u_0)) <| o_g (g_f rfl rfl rfl (fun hG => Zc0 rfl rfl (Opd.gd hG u_0) c_i)) <| o_p rfl (Zbx rfl rfl u_0 (fun hz => (Opd.gd (bNF hz) u_1))) <| o_n) (by kernel_rfl) (fun a g hst hb => ?_)
 refine wp_cond_split (hst.bool 2 rfl) (fun hc1 => ?_) (fun hc1 => ?_)
 · replace H0 := Zz hc1 H0
   refine r_s (L := []) (T := [⟨[], _, [], [], [2]⟩]) (F := [.op 0 0]) (hst.pick [] rfl) hb Zb
     (o_p rfl (Zc rfl rfl c_s) <| o_n) (by kernel_rfl) (fun a g hst hb => ?_)
   refine wp_ret ?_
   refine Zr ?_
   obtain rfl := Option.some.inj H0
   exact Z3 rfl hst hb (Zl (s := 2)) (hst.at 0 rfl)
 · replace H0 := Z0 hc1 H0
   refine wp_skip ?_
   refine Zu ?_
   obtain ⟨e2, h3, H0⟩ := Zh H0
   refine r_s (L := [(0, _), (3, _)]) (T := [⟨[.old 1], _, [], [], [11]⟩, ⟨[.old 0], _, [], [], [12]⟩, ⟨[.op 0 0, .op 1 0], _, [], [0, 1], [13]⟩, ⟨[.op 2 0], _, [], [0, 1, 2], [14]⟩, ⟨[.op 3 0], _, [], Lr 4, [2]⟩]) (F := [.op 4 0]) (hst.pick [0, 1] rfl) hb Zb
     (o_p rfl (Za rfl rfl u_0) <| o_p rfl (Za rfl rfl u_0) <| o_p rfl (Zb4 Tryd.underlying124 sz_9 rfl rfl u_0 u_1 h3) <| o_p rfl (Zf ty_9 rfl rfl u_0) <| o_p rfl (Zc rfl rfl u_0) <| o_n) (by kernel_rfl) (fun a g hst hb => ?_)
   refine wp_ret ?_
   obtain rfl := Option.some.inj H0
   exact Z3 rfl hst hb (Zl (s := 2)) (hst.at 0 rfl)
theorem Zkk (a0 : Nat) {r : Bool} (h : Zek a0 = some r) : FnOk Tryd.prog 45 [(pFlt a0)] (Zbc r) := by
 have H0 := h
 unfold Zek at H0
 clear h
 refine Zbs (N := 11) Tryd.func45 rfl rfl (Nat.le_of_ble_eq_true rfl) rfl rfl (fun a g0 hst hb => ?_)
 refine r_s (T := [⟨[], _, [], [], [2]⟩]) (F := [.old 0]) hst hb Zb
   (o_p rfl (Zc rfl rfl c_b) <| o_n) (by kernel_rfl) (fun a g hst hb => ?_)
 obtain ⟨r1, h2, H0⟩ := Zh H0
 refine r_s (T := [⟨[.old 0], _, [], [], [3]⟩, ⟨[.op 0 0], _, [], [0], [4]⟩, ⟨[.op 1 0], _, [], [0, 1], [5]⟩, ⟨[.op 2 0], _, [], [0, 1, 2], [6]⟩, ⟨[.op 3 0, .old 0], _, [], Lr 4, [7]⟩, ⟨[.op 3 0, .op 4 0], _, [], Lr 5, [8]⟩, ⟨[.op 3 0, .op 5 0], _, [], Lr 6, [9]⟩, ⟨[.op 3 0, .op 6 0], _, [], Lr 7, [10]⟩, ⟨[.op 7 0], _, [], Lr 8, [2]⟩]) (F := [.op 8 0]) hst hb Zb
   (o_p rfl (Za rfl rfl u_0) <| o_p rfl (Zq Zyi (Zi4 _ h2) rfl rfl (.cons u_0 .nil)) <| o_p rfl (Zcs rfl rfl u_0) <| o_p rfl (Za rfl rfl u_0) <| o_g (g_f rfl rfl rfl (fun hG => Za rfl rfl u_0)) <| o_g (g_f rfl rfl rfl (fun hG => Zp6 Zum rfl rfl (Opd.gd hG u_0))) <| o_g (g_f rfl rfl rfl (fun hG => Zby rfl rfl (Opd.gd hG u_0) c_i)) <| o_p rfl (Zbx rfl rfl u_0 (fun hz => (Opd.gd (bNF hz) u_1))) <| o_p rfl (Zc rfl rfl u_0) <| o_n) (by kernel_rfl) (fun a g hst hb => ?_)
 refine wp_ret ?_
 obtain rfl := Option.some.inj H0
 exact Z3 rfl hst hb (Zl (s := 2)) (hst.at 0 rfl)
theorem Zoh (a0 : Zj) (a1 : Zj) {r : Bool} (h : Zey a0 a1 = some r) : FnOk Tryd.prog 61 [(Zt.pd a0), (Zt.pd a1)] (Zbc r) := by
 have H0 := h
 unfold Zey at H0
 clear h
 refine Zbs (N := 22) Tryd.func61 rfl rfl (Nat.le_of_ble_eq_true rfl) rfl rfl (fun a g0 hst hb => ?_)
 refine r_s (T := [⟨[.old 0], _, [], [], [2]⟩, ⟨[.old 1], _, [], [], [3]⟩, ⟨[], _, [], [], [4]⟩]) (F := [.op 0 0, .op 1 0]) hst hb Zb
   (o_p rfl (Zbl rfl rfl u_0) <| o_p rfl (Zbl rfl rfl u_0) <| o_p rfl (Zc rfl rfl c_b) <| o_n) (by kernel_rfl) (fun a g hst hb => ?_)
 refine wp_seq ?_
 obtain ⟨r1, h2, H0⟩ := Zh H0
 refine r_s (T := [⟨[.old 1], _, [], [], [5]⟩, ⟨[.op 0 0], _, [], [0], [6]⟩, ⟨[.old 0], _, [], [], [7]⟩, ⟨[.op 2 0], _, [], [2], [8]⟩, ⟨[.op 1 0, .op 3 0], _, [], Lr 4, [9]⟩]) (F := [.old 0, .old 1, .op 4 0]) hst hb Zb
   (o_p rfl (Ze Zgl rfl rfl u_0) <| o_p rfl (Zf Ze1 rfl rfl u_0) <| o_p rfl (Ze Zgl rfl rfl u_0) <| o_p rfl (Zf Ze1 rfl rfl u_0) <| o_p rfl (Zq Zzj (Zi3 _ _ h2) rfl rfl (.cons u_0 (.cons u_1 .nil))) <| o_n) (by kernel_rfl) (fun a g hst hb => ?_)
 refine wp_cond_split (hst.bool 2 rfl) (fun hc3 => ?_) (fun hc3 => ?_)
 · replace H0 := Zz hc3 H0
   refine r_s (L := []) (T := [⟨[], _, [], [], [4]⟩]) (F := [.op 0 0]) (hst.pick [] rfl) hb Zb
     (o_p rfl (Zc rfl rfl c_b) <| o_n) (by kernel_rfl) (fun a g hst hb => ?_)
   refine wp_ret ?_
   refine Zr ?_
   obtain rfl := Option.some.inj H0
   exact Z3 rfl hst hb (Zl (s := 4)) (hst.at 0 rfl)
 · replace H0 := Z0 hc3 H0
   refine wp_skip ?_
   refine Zu ?_
   obtain ⟨r4, h5, H0⟩ := Zh H0
   refine r_s (L := [(2, _), (3, _)]) (T := ⟨[.old 0], _, [], [], [10]⟩ :: ⟨[.op 0 0], _, [], [0], [11]⟩ :: ⟨[.old 1], _, [], [], [12]⟩ :: ⟨[.op 2 0], _, [], [2], [13]⟩ :: ⟨[.op 1 0, .op 3 0], _, [], Lr 4, [14]⟩ :: ⟨[.op 4 0], _, [], Lr 5, [15]⟩ :: ⟨[.op 5 0, .old 0], _, [], Lr 6, [16]⟩ :: ⟨[.op 5 0, .op 6 0], _, [], Lr 7, [17]⟩ :: ⟨[.op 5 0, .old 1], _, [], Lr 6, [18]⟩ :: ⟨[.op 5 0, .op 8 0], _, [], [0, 1, 2, 3, 4, 5, 8], [19]⟩ :: ⟨[.op 5 0, .op 7 0, .op 9 0], _, [], Lr 10, [20]⟩ :: ⟨[.op 5 0, .op 10 0], _, [], Lr 11, [21]⟩ :: ⟨[.op 11 0], _, [], Lr 12, [4]⟩ :: []) (F := [.op 12 0]) (hst.pick [0, 1] rfl) hb Zb
     (o_p rfl (Ze Zgl rfl rfl u_0) <| o_p rfl (Zf Ze1 rfl rfl u_0) <| o_p rfl (Ze Zgl rfl rfl u_0) <| o_p rfl (Zf Ze1 rfl rfl u_0) <| o_p rfl (Zq Z2h (Zk7 _ _ h5) rfl rfl (.cons u_0 (.cons u_1 .nil))) <| o_p rfl (Za rfl rfl u_0) <| o_g (g_t rfl rfl rfl (fun hG => Ze Zf4 rfl rfl u_0)) <| o_g (g_t rfl rfl rfl (fun hG => Zf ty_9 rfl rfl (Opd.gd hG u_0))) <| o_g (g_t rfl rfl rfl (fun hG => Ze Zf4 rfl rfl u_0)) <| o_g (g_t rfl rfl rfl (fun hG => Zf ty_9 rfl rfl (Opd.gd hG u_0))) <| o_g (g_t rfl rfl rfl (fun hG => Zll rfl rfl (Opd.gd hG u_0) (Opd.gd hG u_1))) <| o_p rfl (Zbp rfl rfl u_0 (fun hz => (Opd.gd hz u_1))) <| o_p rfl (Zc rfl rfl u_0) <| o_n) (by kernel_rfl) (fun a g hst hb => ?_)
   refine wp_ret ?_
   obtain rfl := Option.some.inj H0
   exact Z3 rfl hst hb (Zl (s := 4)) (hst.at 0 rfl)
theorem Zor (a0 : Int) (a1 : List Zj) (a2 : Int) {r : Int} (h : Zhi a0 a1 a2 = some r) : FnOk Tryd.prog 46 [(pInt .i64 a0), (Zt.sl.pd a1), (pInt .i64 a2)] (pInt .i64 r) := by
 have H0 := h
 unfold Zhi at H0
 clear h
 refine Zbs (N := 64) Tryd.func46 rfl rfl (Nat.le_of_ble_eq_true rfl) rfl rfl (fun a g0 hst hb => ?_)
 refine r_s (T := [⟨[], _, [], [], [6]⟩]) (F := [.old 0, .old 1, .old 2]) hst hb Zb
   (o_p rfl (Zc rfl rfl c_i) <| o_n) (by kernel_rfl) (fun a g hst hb => ?_)
 obtain ⟨e1, h2, H0⟩ := Zh H0
 refine r_s (T := [⟨[.old 1], _, [], [], [8]⟩, ⟨[.old 2], _, [], [], [9]⟩, ⟨[.op 0 0, .op 1 0], _, [], [0, 1], [10]⟩, ⟨[.op 2 0], _, [], [0, 1, 2], [11]⟩, ⟨[], [(7, (pBox Zt 7 (default : Zj)))], [8], [], [7]⟩, ⟨[.op 3 0, .op 4 0], _, [8], Lr 5, [7]⟩]) (F := [.old 0, .old 1, .old 2, .op 5 0]) hst hb Zb
   (o_p rfl (Za rfl rfl u_0) <| o_p rfl (Za rfl rfl u_0) <| o_p rfl (Zb4 Tryd.underlying52 Zi5 rfl rfl u_0 u_1 h2) <| o_p rfl (Zf Zff rfl rfl u_0) <| o_p rfl (Zbi (zs := [.float .f64 0, .string ByteArray.empty]) (by kernel_rfl) (fun g => Zi2 g) rfl rfl) <| o_p rfl (Zb9 Zff rfl rfl u_1 u_0) <| o_n) (by kernel_rfl) (fun a g hst hb => ?_)
 refine wp_seq ?_
 refine r_s (T := [⟨[.old 3], _, [], [], [12]⟩, ⟨[.op 0 0], _, [], [0], [13]⟩, ⟨[.op 1 0], _, [], [0, 1], [14]⟩, ⟨[.op 2 0], _, [], [0, 1, 2], [15]⟩]) (F := [.old 0, .old 1, .old 2, .old 3, .op 3 0]) hst hb Zb
   (o_p rfl (Ze Zf4 rfl rfl u_0) <| o_p rfl (Zf ty_9 rfl rfl u_0) <| o_p rfl (Zfq Tryd.underlying9 rfl rfl u_0) <| o_p rfl (Zc0 rfl rfl u_0 c_i) <| o_n) (by kernel_rfl) (fun a g hst hb => ?_)
 refine wp_cond_split (hst.bool 4 rfl) (fun hc3 => ?_) (fun hc3 => ?_)
 · replace H0 := Zz hc3 H0
   refine r_s (L := []) (T := [⟨[], _, [], [], [6]⟩]) (F := [.op 0 0]) (hst.pick [] rfl) hb Zb
     (o_p rfl (Zc rfl rfl c_i) <| o_n) (by kernel_rfl) (fun a g hst hb => ?_)
   refine wp_ret ?_
   refine Zr ?_
   obtain rfl := Option.some.inj H0
   exact Z3 rfl hst hb (Zl (s := 6)) (hst.at 0 rfl)
 · replace H0 := Z0 hc3 H0
   refine wp_skip ?_
   refine Zu ?_
   refine wp_seq ?_
   obtain ⟨r4, h5, H0⟩ := Zh H0; obtain ⟨r6, h7, H0⟩ := Zh H0
   refine r_s (L := [(0, _), (1, _), (2, _), (7, _)]) (T := ⟨[.old 0], _, [], [], [16]⟩ :: ⟨[.op 0 0], _, [], [0], [17]⟩ :: ⟨[.op 1 0], _, [], [0, 1], [18]⟩ :: ⟨[.op 2 0, .old 3], _, [], [0, 1, 2], [19]⟩ :: ⟨[.op 2 0, .op 3 0], _, [], Lr 4, [20]⟩ :: ⟨[.op 2 0, .op 4 0], _, [], Lr 5, [21]⟩ :: ⟨[.op 2 0, .op 5 0], _, [], Lr 6, [22]⟩ :: ⟨[.op 2 0, .op 6 0], _, [], Lr 7, [23]⟩ :: ⟨[.op 7 0], _, [], Lr 8, [24]⟩ :: ⟨[.op 8 0, .old 3], _, [], Lr 9, [25]⟩ :: ⟨[.op 8 0, .op 9 0], _, [], Lr 10, [26]⟩ :: ⟨[.op 8 0, .op 10 0], _, [], Lr 11, [27]⟩ :: ⟨[.op 8 0, .op 11 0], _, [], Lr 12, [28]⟩ :: ⟨[.op 8 0, .op 12 0], _, [], Lr 13, [29]⟩ :: []) (F := [.old 0, .old 1, .old 2, .old 3, .op 13 0]) (hst.pick [0, 1, 2, 3] rfl) hb Zb
     (o_p rfl (Za rfl rfl u_0) <| o_p rfl (Zby rfl rfl u_0 c_i) <| o_p rfl (Za rfl rfl u_0) <| o_g (g_t rfl rfl rfl (fun hG => Ze Zgl rfl rfl u_0)) <| o_g (g_t rfl rfl rfl (fun hG => Zf Ze1 rfl rfl (Opd.gd hG u_0))) <| o_g (g_t rfl rfl rfl (fun hG => Zq Z2u (Zk4 _ (Zbv h5 hG)) rfl rfl (.cons (Opd.gd hG u_0) .nil))) <| o_g (g_t rfl rfl rfl (fun hG => Zcs rfl rfl (Opd.gd hG u_0))) <| o_p rfl (Zbp rfl rfl u_0 (fun hz => (Opd.gd hz u_1))) <| o_p rfl (Za rfl rfl u_0) <| o_g (g_f rfl rfl rfl (fun hG => Ze Zgl rfl rfl u_0)) <| o_g (g_f rfl rfl rfl (fun hG => Zf Ze1 rfl rfl (Opd.gd hG u_0))) <| o_g (g_f rfl rfl rfl (fun hG => Zq Z2v (Zkk _ (Zbv h7 hG)) rfl rfl (.cons (Opd.gd hG u_0) .nil))) <| o_g (g_f rfl rfl rfl (fun hG => Zcs rfl rfl (Opd.gd hG u_0))) <| o_p rfl (Zbx rfl rfl u_0 (fun hz => (Opd.gd (bNF hz) u_1))) <| o_n) (by kernel_rfl) (fun a g hst hb => ?_)
   refine wp_cond_split (hst.bool 4 rfl) (fun hc8 => ?_) (fun hc8 => ?_)
   · replace H0 := Zz hc8 H0
     refine r_s (L := []) (T := [⟨[], _, [], [], [6]⟩]) (F := [.op 0 0]) (hst.pick [] rfl) hb Zb
       (o_p rfl (Zc rfl rfl c_i) <| o_n) (by kernel_rfl) (fun a g hst hb => ?_)
     refine wp_ret ?_
     refine Zr ?_
     obtain rfl := Option.some.inj H0
     exact Z3 rfl hst hb (Zl (s := 6)) (hst.at 0 rfl)
   · replace H0 := Z0 hc8 H0
     refine wp_skip ?_
     refine Zu ?_
     refine wp_seq ?_
     obtain ⟨e9, h10, H0⟩ := Zh H0
     refine r_s (L := [(0, _), (1, _), (2, _), (7, _)]) (T := ⟨[.old 2], _, [], [], [30]⟩ :: ⟨[.op 0 0], _, [], [0], [31]⟩ :: ⟨[.op 1 0], _, [], [0, 1], [32]⟩ :: ⟨[.op 2 0, .old 0], _, [], [0, 1, 2], [33]⟩ :: ⟨[.op 2 0, .op 3 0], _, [], Lr 4, [34]⟩ :: ⟨[.op 2 0, .op 4 0], _, [], Lr 5, [35]⟩ :: ⟨[.op 5 0], _, [], Lr 6, [36]⟩ :: ⟨[.op 6 0, .old 1], _, [], Lr 7, [37]⟩ :: ⟨[.op 6 0, .old 2], _, [], Lr 7, [38]⟩ :: ⟨[.op 6 0, .op 8 0], _, [], [0, 1, 2, 3, 4, 5, 6, 8], [39]⟩ :: ⟨[.op 6 0, .op 7 0, .op 9 0], _, [], Lr 10, [40]⟩ :: ⟨[.op 6 0, .op 10 0], _, [], Lr 11, [41]⟩ :: ⟨[.op 6 0, .op 11 0], _, [], Lr 12, [42]⟩ :: ⟨[.op 6 0, .old 3], _, [], Lr 7, [43]⟩ :: ⟨[.op 6 0, .op 13 0], _, [], [0, 1, 2, 3, 4, 5, 6, 13], [44]⟩ :: ⟨[.op 6 0, .op 12 0, .op 14 0], _, [], Lr 15, [45]⟩ :: ⟨[.op 6 0, .op 15 0], _, [], Lr 16, [46]⟩ :: ⟨[.op 6 0, .op 16 0], _, [], Lr 17, [47]⟩ :: []) (F := [.old 0, .old 1, .old 2, .old 3, .op 17 0]) (hst.pick [0, 1, 2, 3] rfl) hb Zb
       (o_p rfl (Za rfl rfl u_0) <| o_p rfl (Zc0 rfl rfl u_0 c_i) <| o_p rfl (Za rfl rfl u_0) <| o_g (g_t rfl rfl rfl (fun hG => Za rfl rfl u_0)) <| o_g (g_t rfl rfl rfl (fun hG => Zby rfl rfl (Opd.gd hG u_0) c_i)) <| o_p rfl (Zbp rfl rfl u_0 (fun hz => (Opd.gd hz u_1))) <| o_p rfl (Za rfl rfl u_0) <| o_g (g_t rfl rfl rfl (fun hG => Za rfl rfl u_0)) <| o_g (g_t rfl rfl rfl (fun hG => Za rfl rfl u_0)) <| o_g (g_t rfl rfl rfl (fun hG => Zja rfl rfl (Opd.gd hG u_0) c_i rfl)) <| o_g (g_t rfl rfl rfl (fun hG => Zb4 Tryd.underlying52 Zi5 rfl rfl (Opd.gd hG u_0) (Opd.gd hG u_1) (Zbv h10 hG))) <| o_g (g_t rfl rfl rfl (fun hG => Ze Zf4 rfl rfl (Opd.gd hG u_0))) <| o_g (g_t rfl rfl rfl (fun hG => Zf ty_9 rfl rfl (Opd.gd hG u_0))) <| o_g (g_t rfl rfl rfl (fun hG => Ze Zf4 rfl rfl u_0)) <| o_g (g_t rfl rfl rfl (fun hG => Zf ty_9 rfl rfl (Opd.gd hG u_0))) <| o_g (g_t rfl rfl rfl (fun hG => Zll rfl rfl (Opd.gd hG u_0) (Opd.gd hG u_1))) <| o_g (g_t rfl rfl rfl (fun hG => Zcs rfl rfl (Opd.gd hG u_0))) <| o_p rfl (Zbp rfl rfl u_0 (fun hz => (Opd.gd hz u_1))) <| o_n) (by kernel_rfl) (fun a g hst hb => ?_)
     refine wp_cond_split (hst.bool 4 rfl) (fun hc11 => ?_) (fun hc11 => ?_)
     · replace H0 := Zz hc11 H0
       refine r_s (L := []) (T := [⟨[], _, [], [], [6]⟩]) (F := [.op 0 0]) (hst.pick [] rfl) hb Zb
         (o_p rfl (Zc rfl rfl c_i) <| o_n) (by kernel_rfl) (fun a g hst hb => ?_)
       refine wp_ret ?_
       refine Zr ?_
       obtain rfl := Option.some.inj H0
       exact Z3 rfl hst hb (Zl (s := 6)) (hst.at 0 rfl)
     · replace H0 := Z0 hc11 H0
       refine wp_skip ?_
       refine Zu ?_
       refine wp_seq ?_
       obtain ⟨e12, h13, H0⟩ := Zh H0; obtain ⟨r14, h15, H0⟩ := Zh H0
       refine r_s (L := [(0, _), (1, _), (2, _), (7, _)]) (T := ⟨[.old 2], _, [], [], [48]⟩ :: ⟨[.op 0 0], _, [], [0], [49]⟩ :: ⟨[.op 1 0], _, [], [0, 1], [50]⟩ :: ⟨[.op 2 0, .old 0], _, [], [0, 1, 2], [51]⟩ :: ⟨[.op 2 0, .op 3 0], _, [], Lr 4, [52]⟩ :: ⟨[.op 2 0, .op 4 0], _, [], Lr 5, [53]⟩ :: ⟨[.op 5 0], _, [], Lr 6, [54]⟩ :: ⟨[.op 6 0, .old 1], _, [], Lr 7, [55]⟩ :: ⟨[.op 6 0, .old 2], _, [], Lr 7, [56]⟩ :: ⟨[.op 6 0, .op 8 0], _, [], [0, 1, 2, 3, 4, 5, 6, 8], [57]⟩ :: ⟨[.op 6 0, .op 7 0, .op 9 0], _, [], Lr 10, [58]⟩ :: ⟨[.op 6 0, .op 10 0], _, [], Lr 11, [59]⟩ :: ⟨[.op 6 0, .old 3], _, [], Lr 7, [60]⟩ :: ⟨[.op 6 0, .op 11 0, .op 12 0], _, [], Lr 13, [61]⟩ :: ⟨[.op 6 0, .op 13 0], _, [], Lr 14, [62]⟩ :: ⟨[.op 6 0, .op 14 0], _, [], Lr 15, [63]⟩ :: []) (F := [.op 15 0]) (hst.pick [0, 1, 2, 3] rfl) hb Zb
         (o_p rfl (Za rfl rfl u_0) <| o_p rfl (Zc0 rfl rfl u_0 c_i) <| o_p rfl (Za rfl rfl u_0) <| o_g (g_t rfl rfl rfl (fun hG => Za rfl rfl u_0)) <| o_g (g_t rfl rfl rfl (fun hG => Zby rfl rfl (Opd.gd hG u_0) c_i)) <| o_p rfl (Zbp rfl rfl u_0 (fun hz => (Opd.gd hz u_1))) <| o_p rfl (Za rfl rfl u_0) <| o_g (g_t rfl rfl rfl (fun hG => Za rfl rfl u_0)) <| o_g (g_t rfl rfl rfl (fun hG => Za rfl rfl u_0)) <| o_g (g_t rfl rfl rfl (fun hG => Zja rfl rfl (Opd.gd hG u_0) c_i rfl)) <| o_g (g_t rfl rfl rfl (fun hG => Zb4 Tryd.underlying52 Zi5 rfl rfl (Opd.gd hG u_0) (Opd.gd hG u_1) (Zbv h13 hG))) <| o_g (g_t rfl rfl rfl (fun hG => Zf Zff rfl rfl (Opd.gd hG u_0))) <| o_g (g_t rfl rfl rfl (fun hG => Zf Zff rfl rfl u_0)) <| o_g (g_t rfl rfl rfl (fun hG => Zq Z7q (Zoh _ _ (Zbv h15 hG)) rfl rfl (.cons (Opd.gd hG u_0) (.cons (Opd.gd hG u_1) .nil)))) <| o_g (g_t rfl rfl rfl (fun hG => Zcs rfl rfl (Opd.gd hG u_0))) <| o_p rfl (Zbp rfl rfl u_0 (fun hz => (Opd.gd hz u_1))) <| o_n) (by kernel_rfl) (fun a g hst hb => ?_)
       refine wp_cond_split (hst.bool 0 rfl) (fun hc16 => ?_) (fun hc16 => ?_)
       · replace H0 := Zz hc16 H0
         refine r_s (L := []) (T := [⟨[], _, [], [], [6]⟩]) (F := [.op 0 0]) (hst.pick [] rfl) hb Zb
           (o_p rfl (Zc rfl rfl c_i) <| o_n) (by kernel_rfl) (fun a g hst hb => ?_)
         refine wp_ret ?_
         refine Zr ?_
         obtain rfl := Option.some.inj H0
         exact Z3 rfl hst hb (Zl (s := 6)) (hst.at 0 rfl)
       · replace H0 := Z0 hc16 H0
         refine wp_skip ?_
         refine Zu ?_
         refine r_s (L := []) (T := [⟨[], _, [], [], [6]⟩]) (F := [.op 0 0]) (hst.pick [] rfl) hb Zb
           (o_p rfl (Zc rfl rfl c_i) <| o_n) (by kernel_rfl) (fun a g hst hb => ?_)
         refine wp_ret ?_
         obtain rfl := Option.some.inj H0
         exact Z3 rfl hst hb (Zl (s := 6)) (hst.at 0 rfl)
theorem Zn5 (a0 : Zd) {r : Int} (h : Zc3 a0 = some r) : FnOk Tryd.prog 27 [(Zi.pd a0)] (pInt .i64 r) := by
 have H0 := h
 unfold Zc3 at H0
 clear h
 refine Zbs (N := 96) Tryd.func27 rfl rfl (Nat.le_of_ble_eq_true rfl) rfl rfl (fun a g0 hst hb => ?_)
 refine r_s (T := [⟨[.old 0], _, [], [], [1]⟩, ⟨[], _, [], [], [2]⟩]) (F := [.op 0 0]) hst hb Zb
   (o_p rfl (Zbl rfl rfl u_0) <| o_p rfl (Zc rfl rfl c_i) <| o_n) (by kernel_rfl) (fun a g hst hb => ?_)
 refine wp_seq ?_
 refine r_s (T := [⟨[.old 0], _, [], [], [6]⟩, ⟨[.op 0 0], _, [], [0], [7]⟩, ⟨[.op 1 0], _, [], [0, 1], [8]⟩, ⟨[.op 2 0], _, [], [0, 1, 2], [9]⟩, ⟨[.op 3 0, .old 0], _, [], Lr 4, [10]⟩, ⟨[.op 3 0, .op 4 0], _, [], Lr 5, [11]⟩, ⟨[.op 3 0, .op 5 0], _, [], Lr 6, [12]⟩, ⟨[.op 3 0, .op 6 0], _, [], Lr 7, [13]⟩]) (F := [.old 0, .op 7 0]) hst hb Zb
   (o_p rfl (Ze Zfr rfl rfl u_0) <| o_p rfl (Zf ty_3 rfl rfl u_0) <| o_p rfl (Zc1 rfl rfl u_0 c_i) <| o_p rfl (Za rfl rfl u_0) <| o_g (g_f rfl rfl rfl (fun hG => Ze Zfr rfl rfl u_0)) <| o_g (g_f rfl rfl rfl (fun hG => Zf ty_3 rfl rfl (Opd.gd hG u_0))) <| o_g (g_f rfl rfl rfl (fun hG => Zc0 rfl rfl (Opd.gd hG u_0) c_i)) <| o_p rfl (Zbx rfl rfl u_0 (fun hz => (Opd.gd (bNF hz) u_1))) <| o_n) (by kernel_rfl) (fun a g hst hb => ?_)
 refine wp_cond_split (hst.bool 1 rfl) (fun hc1 => ?_) (fun hc1 => ?_)
 · replace H0 := Zz hc1 H0
   refine r_s (L := []) (T := [⟨[], _, [], [], [2]⟩]) (F := [.op 0 0]) (hst.pick [] rfl) hb Zb
     (o_p rfl (Zc rfl rfl c_i) <| o_n) (by kernel_rfl) (fun a g hst hb => ?_)
   refine wp_ret ?_
   refine Zr ?_
   obtain rfl := Option.some.inj H0
   exact Z3 rfl hst hb (Zl (s := 2)) (hst.at 0 rfl)
 · replace H0 := Z0 hc1 H0
   refine wp_skip ?_
   refine Zu ?_
   refine wp_seq ?_
   obtain ⟨r2, h3, H0⟩ := Zh H0; obtain ⟨r4, h5, H0⟩ := Zh H0
   refine r_s (L := [(1, _)]) (T := [⟨[.old 0], _, [], [], [14]⟩, ⟨[.old 0], _, [], [], [15]⟩, ⟨[.op 1 0], _, [], [1], [16]⟩, ⟨[.op 2 0], _, [], [1, 2], [17]⟩, ⟨[.op 0 0, .op 3 0], _, [], Lr 4, [18]⟩, ⟨[.op 4 0], _, [], Lr 5, [19]⟩]) (F := [.old 0, .op 5 0]) (hst.pick [0] rfl) hb Zb
     (o_p rfl (Zf Zbf rfl rfl u_0) <| o_p rfl (Ze Zfr rfl rfl u_0) <| o_p rfl (Zf ty_3 rfl rfl u_0) <| o_p rfl (Zq Z7i (Zni _ h3) rfl rfl (.cons u_0 .nil)) <| o_p rfl (Zq Z6t (Zow _ _ h5) rfl rfl (.cons u_0 (.cons u_1 .nil))) <| o_p rfl (Zcs rfl rfl u_0) <| o_n) (by kernel_rfl) (fun a g hst hb => ?_)
   refine wp_cond_split (hst.bool 1 rfl) (fun hc6 => ?_) (fun hc6 => ?_)
   · replace H0 := Zz hc6 H0
     refine r_s (L := []) (T := [⟨[], _, [], [], [2]⟩]) (F := [.op 0 0]) (hst.pick [] rfl) hb Zb
       (o_p rfl (Zc rfl rfl c_i) <| o_n) (by kernel_rfl) (fun a g hst hb => ?_)
     refine wp_ret ?_
     refine Zr ?_
     obtain rfl := Option.some.inj H0
     exact Z3 rfl hst hb (Zl (s := 2)) (hst.at 0 rfl)
   · replace H0 := Z0 hc6 H0
     refine wp_skip ?_
     refine Zu ?_
     refine wp_seq ?_
     refine r_s (L := [(1, _)]) (T := [⟨[.old 0], _, [], [], [20]⟩, ⟨[.op 0 0], _, [], [0], [21]⟩, ⟨[.op 1 0], _, [], [0, 1], [22]⟩, ⟨[.op 2 0], _, [], [0, 1, 2], [23]⟩, ⟨[.op 3 0, .old 0], _, [], Lr 4, [24]⟩, ⟨[.op 3 0, .op 4 0], _, [], Lr 5, [25]⟩, ⟨[.op 3 0, .op 5 0], _, [], Lr 6, [26]⟩, ⟨[.op 3 0, .op 6 0], _, [], Lr 7, [27]⟩, ⟨[.op 3 0, .op 7 0], _, [], Lr 8, [28]⟩]) (F := [.old 0, .op 8 0]) (hst.pick [0] rfl) hb Zb
       (o_p rfl (Ze Zfr rfl rfl u_0) <| o_p rfl (Zf ty_3 rfl rfl u_0) <| o_p rfl (Zby rfl rfl u_0 c_i) <| o_p rfl (Za rfl rfl u_0) <| o_g (g_t rfl rfl rfl (fun hG => Ze Zjl rfl rfl u_0)) <| o_g (g_t rfl rfl rfl (fun hG => Zf ty_9 rfl rfl (Opd.gd hG u_0))) <| o_g (g_t rfl rfl rfl (fun hG => Zfq Tryd.underlying9 rfl rfl (Opd.gd hG u_0))) <| o_g (g_t rfl rfl rfl (fun hG => Zc0 rfl rfl (Opd.gd hG u_0) c_i)) <| o_p rfl (Zbp rfl rfl u_0 (fun hz => (Opd.gd hz u_1))) <| o_n) (by kernel_rfl) (fun a g hst hb => ?_)
     refine wp_cond_split (hst.bool 1 rfl) (fun hc7 => ?_) (fun hc7 => ?_)
     · replace H0 := Zz hc7 H0
       refine r_s (L := []) (T := [⟨[], _, [], [], [2]⟩]) (F := [.op 0 0]) (hst.pick [] rfl) hb Zb
         (o_p rfl (Zc rfl rfl c_i) <| o_n) (by kernel_rfl) (fun a g hst hb => ?_)
       refine wp_ret ?_
       refine Zr ?_
       obtain rfl := Option.some.inj H0
       exact Z3 rfl hst hb (Zl (s := 2)) (hst.at 0 rfl)
     · replace H0 := Z0 hc7 H0
       refine wp_skip ?_
       refine Zu ?_
       refine r_s (L := [(1, _)]) (T := [⟨[], _, [], [], [3]⟩]) (F := [.old 0, .op 0 0]) (hst.pick [0] rfl) hb Zb
         (o_p rfl (Zc rfl rfl c_i) <| o_n) (by kernel_rfl) (fun a g hst hb => ?_)
       refine wp_seq ?_
       refine r_s (T := ⟨[.old 0], _, [], [], [29]⟩ :: ⟨[.op 0 0], _, [], [0], [30]⟩ :: ⟨[.op 1 0], _, [], [0, 1], [31]⟩ :: ⟨[.op 2 0], _, [], [0, 1, 2], [32]⟩ :: ⟨[.op 3 0, .old 0], _, [], Lr 4, [33]⟩ :: ⟨[.op 3 0, .op 4 0], _, [], Lr 5, [34]⟩ :: ⟨[.op 3 0, .old 1], _, [], Lr 4, [35]⟩ :: ⟨[.op 3 0, .op 6 0], _, [], [0, 1, 2, 3, 6], [36]⟩ :: ⟨[.op 3 0, .op 5 0, .op 7 0], _, [], Lr 8, [37]⟩ :: ⟨[.op 3 0, .op 8 0], _, [], Lr 9, [38]⟩ :: ⟨[.op 9 0, .old 0], _, [], Lr 10, [39]⟩ :: ⟨[.op 9 0, .op 10 0], _, [], Lr 11, [40]⟩ :: ⟨[.op 9 0, .old 1], _, [], Lr 10, [41]⟩ :: ⟨[.op 9 0, .op 11 0, .op 12 0], _, [], Lr 13, [42]⟩ :: ⟨[.op 3 0, .op 9 0, .op 13 0], _, [], Lr 14, [43]⟩ :: ⟨[.op 3 0, .op 14 0], _, [], Lr 15, [44]⟩ :: ⟨[.op 15 0, .old 0], _, [], Lr 16, [45]⟩ :: ⟨[.op 15 0, .op 16 0], _, [], Lr 17, [46]⟩ :: ⟨[.op 15 0, .old 0], _, [], Lr 16, [47]⟩ :: ⟨[.op 15 0, .op 18 0], _, [], 0 :: 1 :: 2 :: 3 :: 4 :: 5 :: 6 :: 7 :: 8 :: 9 :: 10 :: 11 :: 12 :: 13 :: 14 :: 15 :: 18 :: [], [48]⟩ :: ⟨[.op 15 0, .op 17 0, .op 19 0], _, [], Lr 20, [49]⟩ :: ⟨[.op 3 0, .op 15 0, .op 20 0], _, [], Lr 21, [50]⟩ :: ⟨[.op 3 0, .op 21 0], _, [], Lr 22, [51]⟩ :: ⟨[.op 22 0, .old 0], _, [], Lr 23, [52]⟩ :: ⟨[.op 22 0, .op 23 0], _, [], Lr 24, [53]⟩ :: ⟨[.op 22 0, .old 0], _, [], Lr 23, [54]⟩ :: ⟨[.op 22 0, .op 25 0], _, [], 0 :: 1 :: 2 :: 3 :: 4 :: 5 :: 6 :: 7 :: 8 :: 9 :: 10 :: 11 :: 12 :: 13 :: 14 :: 15 :: 16 :: 17 :: 18 :: 19 :: 20 :: 21 :: 22 :: 25 :: [], [55]⟩ :: ⟨[.op 22 0, .op 24 0, .op 26 0], _, [], Lr 27, [56]⟩ :: ⟨[.op 3 0, .op 22 0, .op 27 0], _, [], Lr 28, [57]⟩ :: ⟨[.op 3 0, .op 28 0], _, [], Lr 29, [58]⟩ :: []) (F := [.old 0, .op 29 0]) hst hb Zb
         (o_p rfl (Ze Zfr rfl rfl u_0) <| o_p rfl (Zf ty_3 rfl rfl u_0) <| o_p rfl (Zby rfl rfl u_0 c_i) <| o_p rfl (Za rfl rfl u_0) <| o_g (g_t rfl rfl rfl (fun hG => Ze Zjm rfl rfl u_0)) <| o_g (g_t rfl rfl rfl (fun hG => Zf ty_2 rfl rfl (Opd.gd hG u_0))) <| o_g (g_t rfl rfl rfl (fun hG => Za rfl rfl u_0)) <| o_g (g_t rfl rfl rfl (fun hG => Z5y rfl rfl (Opd.gd hG u_0) rfl)) <| o_g (g_t rfl rfl rfl (fun hG => Zc1 rfl rfl (Opd.gd hG u_0) (Opd.gd hG u_1))) <| o_g (g_t rfl rfl rfl (fun hG => Za rfl rfl (Opd.gd hG u_0))) <| o_g (g_fi rfl rfl rfl (fun hG => Ze Zjp rfl rfl u_0)) <| o_g (g_fi rfl rfl rfl (fun hG => Zf ty_2 rfl rfl (Opd.gd hG u_0))) <| o_g (g_fi rfl rfl rfl (fun hG => Za rfl rfl u_0)) <| o_g (g_fi rfl rfl rfl (fun hG => Zc0 rfl rfl (Opd.gd hG u_0) (Opd.gd hG u_1))) <| o_g (g_t rfl rfl rfl (fun hG => Zbx rfl rfl (Opd.gd hG u_0) (fun hz => (Opd.gd (bA hG (bNF hz)) u_1)))) <| o_g (g_t rfl rfl rfl (fun hG => Za rfl rfl (Opd.gd hG u_0))) <| o_g (g_fi rfl rfl rfl (fun hG => Ze Zd3 rfl rfl u_0)) <| o_g (g_fi rfl rfl rfl (fun hG => Zf ty_2 rfl rfl (Opd.gd hG u_0))) <| o_g (g_fi rfl rfl rfl (fun hG => Ze Zjm rfl rfl u_0)) <| o_g (g_fi rfl rfl rfl (fun hG => Zf ty_2 rfl rfl (Opd.gd hG u_0))) <| o_g (g_fi rfl rfl rfl (fun hG => Zc1 rfl rfl (Opd.gd hG u_0) (Opd.gd hG u_1))) <| o_g (g_t rfl rfl rfl (fun hG => Zbx rfl rfl (Opd.gd hG u_0) (fun hz => (Opd.gd (bA hG (bNF hz)) u_1)))) <| o_g (g_t rfl rfl rfl (fun hG => Za rfl rfl (Opd.gd hG u_0))) <| o_g (g_fi rfl rfl rfl (fun hG => Ze Zd3 rfl rfl u_0)) <| o_g (g_fi rfl rfl rfl (fun hG => Zf ty_2 rfl rfl (Opd.gd hG u_0))) <| o_g (g_fi rfl rfl rfl (fun hG => Ze Zjp rfl rfl u_0)) <| o_g (g_fi rfl rfl rfl (fun hG => Zf ty_2 rfl rfl (Opd.gd hG u_0))) <| o_g (g_fi rfl rfl rfl (fun hG => Zc0 rfl rfl (Opd.gd hG u_0) (Opd.gd hG u_1))) <| o_g (g_t rfl rfl rfl (fun hG => Zbx rfl rfl (Opd.gd hG u_0) (fun hz => (Opd.gd (bA hG (bNF hz)) u_1)))) <| o_p rfl (Zbp rfl rfl u_0 (fun hz => (Opd.gd hz u_1))) <| o_n) (by kernel_rfl) (fun a g hst hb => ?_)
       refine wp_cond_split (hst.bool 1 rfl) (fun hc8 => ?_) (fun hc8 => ?_)
       · replace H0 := Zz hc8 H0
         refine r_s (L := []) (T := [⟨[], _, [], [], [2]⟩]) (F := [.op 0 0]) (hst.pick [] rfl) hb Zb
           (o_p rfl (Zc rfl rfl c_i) <| o_n) (by kernel_rfl) (fun a g hst hb => ?_)
         refine wp_ret ?_
         refine Zr ?_
         obtain rfl := Option.some.inj H0
         exact Z3 rfl hst hb (Zl (s := 2)) (hst.at 0 rfl)
       · replace H0 := Z0 hc8 H0
         refine wp_skip ?_
         refine Zu ?_
         refine wp_seq ?_
         obtain ⟨r9, h10, H0⟩ := Zh H0
         refine r_s (L := [(1, _)]) (T := [⟨[.old 0], _, [], [], [59]⟩, ⟨[.op 0 0], _, [], [0], [60]⟩, ⟨[.op 1 0], _, [], [0, 1], [61]⟩, ⟨[.op 2 0], _, [], [0, 1, 2], [62]⟩]) (F := [.old 0, .op 3 0]) (hst.pick [0] rfl) hb Zb
           (o_p rfl (Ze Zkr rfl rfl u_0) <| o_p rfl (Zf Ze1 rfl rfl u_0) <| o_p rfl (Zq Z2v (Zkk _ h10) rfl rfl (.cons u_0 .nil)) <| o_p rfl (Zcs rfl rfl u_0) <| o_n) (by kernel_rfl) (fun a g hst hb => ?_)
         refine wp_cond_split (hst.bool 1 rfl) (fun hc11 => ?_) (fun hc11 => ?_)
         · replace H0 := Zz hc11 H0
           refine r_s (L := []) (T := [⟨[], _, [], [], [2]⟩]) (F := [.op 0 0]) (hst.pick [] rfl) hb Zb
             (o_p rfl (Zc rfl rfl c_i) <| o_n) (by kernel_rfl) (fun a g hst hb => ?_)
           refine wp_ret ?_
           refine Zr ?_
           obtain rfl := Option.some.inj H0
           exact Z3 rfl hst hb (Zl (s := 2)) (hst.at 0 rfl)
         · replace H0 := Z0 hc11 H0
           refine wp_skip ?_
           refine Zu ?_
           refine wp_seq ?_
           refine r_s (L := [(1, _)]) (T := [⟨[.old 0], _, [], [], [63]⟩, ⟨[.op 0 0], _, [], [0], [64]⟩, ⟨[.op 1 0], _, [], [0, 1], [65]⟩]) (F := [.old 0, .op 2 0]) (hst.pick [0] rfl) hb Zb
             (o_p rfl (Ze Zfr rfl rfl u_0) <| o_p rfl (Zf ty_3 rfl rfl u_0) <| o_p rfl (Zc1 rfl rfl u_0 c_i) <| o_n) (by kernel_rfl) (fun a g hst hb => ?_)
           refine wp_cond_split (hst.bool 1 rfl) (fun hc12 => ?_) (fun hc12 => ?_)
           · replace H0 := Zz hc12 H0
             refine r_s (L := []) (T := [⟨[], _, [], [], [2]⟩]) (F := [.op 0 0]) (hst.pick [] rfl) hb Zb
               (o_p rfl (Zc rfl rfl c_i) <| o_n) (by kernel_rfl) (fun a g hst hb => ?_)
             refine wp_ret ?_
             refine Zr ?_
             obtain rfl := Option.some.inj H0
             exact Z3 rfl hst hb (Zl (s := 2)) (hst.at 0 rfl)
           · replace H0 := Z0 hc12 H0
             refine wp_skip ?_
             refine Zu ?_
             refine wp_seq ?_
             refine r_s (L := [(1, _)]) (T := [⟨[.old 0], _, [], [], [66]⟩, ⟨[.op 0 0], _, [], [0], [67]⟩, ⟨[.op 1 0], _, [], [0, 1], [68]⟩, ⟨[.op 2 0], _, [], [0, 1, 2], [69]⟩, ⟨[.op 3 0, .old 0], _, [], Lr 4, [70]⟩, ⟨[.op 3 0, .op 4 0], _, [], Lr 5, [71]⟩, ⟨[.op 3 0, .op 5 0], _, [], Lr 6, [72]⟩, ⟨[.op 3 0, .op 6 0], _, [], Lr 7, [73]⟩]) (F := [.old 0, .op 7 0]) (hst.pick [0] rfl) hb Zb
               (o_p rfl (Ze Zhm rfl rfl u_0) <| o_p rfl (Zf ty_3 rfl rfl u_0) <| o_p rfl (Zc1 rfl rfl u_0 c_i) <| o_p rfl (Za rfl rfl u_0) <| o_g (g_f rfl rfl rfl (fun hG => Ze Zhm rfl rfl u_0)) <| o_g (g_f rfl rfl rfl (fun hG => Zf ty_3 rfl rfl (Opd.gd hG u_0))) <| o_g (g_f rfl rfl rfl (fun hG => Zc0 rfl rfl (Opd.gd hG u_0) c_i)) <| o_p rfl (Zbx rfl rfl u_0 (fun hz => (Opd.gd (bNF hz) u_1))) <| o_n) (by kernel_rfl) (fun a g hst hb => ?_)
             refine wp_cond_split (hst.bool 1 rfl) (fun hc13 => ?_) (fun hc13 => ?_)
             · replace H0 := Zz hc13 H0
               refine r_s (L := []) (T := [⟨[], _, [], [], [2]⟩]) (F := [.op 0 0]) (hst.pick [] rfl) hb Zb
                 (o_p rfl (Zc rfl rfl c_i) <| o_n) (by kernel_rfl) (fun a g hst hb => ?_)
               refine wp_ret ?_
               refine Zr ?_
               obtain rfl := Option.some.inj H0
               exact Z3 rfl hst hb (Zl (s := 2)) (hst.at 0 rfl)
             · replace H0 := Z0 hc13 H0
               refine wp_skip ?_
               refine Zu ?_
               refine wp_seq ?_
               refine r_s (L := [(1, _)]) (T := [⟨[.old 0], _, [], [], [74]⟩, ⟨[.op 0 0], _, [], [0], [75]⟩, ⟨[.op 1 0], _, [], [0, 1], [76]⟩, ⟨[.old 0], _, [], [], [77]⟩, ⟨[.op 3 0], _, [], [3], [78]⟩, ⟨[.op 2 0, .op 4 0], _, [], Lr 5, [79]⟩]) (F := [.old 0, .op 5 0]) (hst.pick [0] rfl) hb Zb
                 (o_p rfl (Ze Zc8 rfl rfl u_0) <| o_p rfl (Zf Zer rfl rfl u_0) <| o_p rfl (Zcj Tryd.underlying52 rfl rfl u_0) <| o_p rfl (Ze Zhm rfl rfl u_0) <| o_p rfl (Zf ty_3 rfl rfl u_0) <| o_p rfl (Zc0 rfl rfl u_0 u_1) <| o_n) (by kernel_rfl) (fun a g hst hb => ?_)
               refine wp_cond_split (hst.bool 1 rfl) (fun hc14 => ?_) (fun hc14 => ?_)
               · replace H0 := Zz hc14 H0
                 refine r_s (L := []) (T := [⟨[], _, [], [], [2]⟩]) (F := [.op 0 0]) (hst.pick [] rfl) hb Zb
                   (o_p rfl (Zc rfl rfl c_i) <| o_n) (by kernel_rfl) (fun a g hst hb => ?_)
                 refine wp_ret ?_
                 refine Zr ?_
                 obtain rfl := Option.some.inj H0
                 exact Z3 rfl hst hb (Zl (s := 2)) (hst.at 0 rfl)
               · replace H0 := Z0 hc14 H0
                 refine wp_skip ?_
                 refine Zu ?_
                 refine wp_seq ?_
                 refine r_s (L := [(1, _)]) (T := [⟨[], _, [], [], [4]⟩]) (F := [.old 0, .op 0 0]) (hst.pick [0] rfl) hb Zb
                   (o_p rfl (Zc rfl rfl c_i) <| o_n) (by kernel_rfl) (fun a g hst hb => ?_)
                 obtain ⟨z20, hz1, H0⟩ := Zh H0
                 refine Zc2 (fun a w => ∃ (g : G), w = g.w ∧ St 96 [] a g ∧ Base g0 g ∧ (.inr ()) = z20) ?_ ?_
                 · rintro a w ⟨g, rfl, hst, hb, rfl⟩
                   refine Zu ?_
                   refine r_s (T := [⟨[], _, [], [], [2]⟩]) (F := [.op 0 0]) hst hb Zb
                     (o_p rfl (Zc rfl rfl c_i) <| o_n) (by kernel_rfl) (fun a g hst hb => ?_)
                   refine wp_ret ?_
                   obtain rfl := Option.some.inj H0
                   exact Z3 rfl hst hb (Zl (s := 2)) (hst.at 0 rfl)
                 · refine wp_block ?_
                   refine wp_loop_ghost (fun n a w => ∃ (x15 : Int) (g : G), w = g.w ∧ St 96 [(1, (Zi.ptr a0)), (4, (pInt .i64 x15))] a g ∧ Base g0 g ∧ Zdj a0 n x15 = some z20) (Int.toNat ((a0.List.length : Int) - (0 : Int)) + 1) ⟨(0 : Int), g, rfl, (hst.pick [0, 1] rfl), hb, hz1⟩ (fun n a w hI => ?_)
                   obtain ⟨x15, g, rfl, hst, hb, H1⟩ := hI
                   cases n with
                   | zero => exact absurd H1 (by simp [Zdj])
                   | succ n =>
                     rw [Zdj] at H1
                     refine wp_seq ?_
                     refine r_s (T := [⟨[.old 1], _, [], [], [80]⟩, ⟨[.old 0], _, [], [], [81]⟩, ⟨[.op 1 0], _, [], [1], [82]⟩, ⟨[.op 2 0], _, [], [1, 2], [83]⟩, ⟨[.op 0 0, .op 3 0], _, [], Lr 4, [84]⟩]) (F := [.old 0, .old 1, .op 4 0]) hst hb Zb
                       (o_p rfl (Za rfl rfl u_0) <| o_p rfl (Ze Zc8 rfl rfl u_0) <| o_p rfl (Zf Zer rfl rfl u_0) <| o_p rfl (Zcj Tryd.underlying52 rfl rfl u_0) <| o_p rfl (Zc1 rfl rfl u_0 u_1) <| o_n) (by kernel_rfl) (fun a g hst hb => ?_)
                     refine wp_cond_split (hst.bool 2 rfl) (fun hc16 => ?_) (fun hc16 => ?_)
                     · replace H1 := Zz hc16 H1
                       refine wp_skip ?_
                       refine Zu ?_
                       refine wp_seq ?_
                       refine wp_block ?_
                       obtain ⟨r17, h18, H1⟩ := Zh H1
                       refine r_s (L := [(1, _), (4, _)]) (T := [⟨[.old 0], _, [], [], [87]⟩, ⟨[.op 0 0], _, [], [0], [88]⟩, ⟨[.old 0], _, [], [], [89]⟩, ⟨[.op 2 0], _, [], [2], [90]⟩, ⟨[.old 1], _, [], [], [91]⟩, ⟨[.op 1 0, .op 3 0, .op 4 0], _, [], Lr 5, [92]⟩, ⟨[.op 5 0], _, [], Lr 6, [5]⟩]) (F := [.old 0, .old 1, .op 6 0]) (hst.pick [0, 1] rfl) hb Zb
                         (o_p rfl (Ze Zfr rfl rfl u_0) <| o_p rfl (Zf ty_3 rfl rfl u_0) <| o_p rfl (Ze Zc8 rfl rfl u_0) <| o_p rfl (Zf Zer rfl rfl u_0) <| o_p rfl (Za rfl rfl u_0) <| o_p rfl (Zq Z6f (Zor _ _ _ h18) rfl rfl (.cons u_0 (.cons u_1 (.cons u_2 .nil)))) <| o_p rfl (Zc rfl rfl u_0) <| o_n) (by kernel_rfl) (fun a g hst hb => ?_)
                       refine r_s (T := [⟨[.old 2], _, [], [], [93]⟩, ⟨[.op 0 0], _, [], [0], [94]⟩]) (F := [.old 0, .old 1, .old 2, .op 1 0]) hst hb Zb
                         (o_p rfl (Za rfl rfl u_0) <| o_p rfl (Zfg rfl rfl u_0 c_i) <| o_n) (by kernel_rfl) (fun a g hst hb => ?_)
                       refine wp_cond_split (hst.bool 3 rfl) (fun hc19 => ?_) (fun hc19 => ?_)
                       · replace H1 := Zz hc19 H1
                         refine r_s (L := [(5, _)]) (T := [⟨[.old 0], _, [], [], [95]⟩, ⟨[.op 0 0], _, [], [0], [2]⟩]) (F := [.op 1 0]) (hst.pick [2] rfl) hb Zb
                           (o_p rfl (Za rfl rfl u_0) <| o_p rfl (Zc rfl rfl u_0) <| o_n) (by kernel_rfl) (fun a g hst hb => ?_)
                         refine wp_ret ?_
                         refine Z1 ?_
                         refine Zr ?_
                         refine Zr ?_
                         refine Z1 ?_
                         refine Zr ?_
                         refine Zr ?_
                         obtain rfl := Option.some.inj H1
                         obtain rfl := Option.some.inj H0
                         exact Z3 rfl hst hb (Zl (s := 2)) (hst.at 0 rfl)
                       · replace H1 := Z0 hc19 H1
                         refine wp_skip ?_
                         refine Zbr ?_
                         refine Zu ?_
                         refine r_g (L := [(1, _), (4, _)]) (T := [⟨[.old 1], _, [], [], [85]⟩, ⟨[.op 0 0], _, [], [0], [86]⟩, ⟨[.op 1 0], _, [], [0, 1], [4]⟩]) (F := [.old 0, .op 2 0]) (hst.pick [0, 1] rfl) hb Zb
                           (o_p rfl (Za rfl rfl u_0) <| o_p rfl (Zb8 rfl rfl u_0 c_i rfl) <| o_p rfl (Zc rfl rfl u_0) <| o_n) (by kernel_rfl) (fun a g hst hb => ?_)
                         exact ⟨n, Nat.lt_succ_self _, (IntKind.i64.wrap (x15 + (1 : Int))), g, rfl, (hst.pick [0, 1] rfl), hb, H1⟩
                     · replace H1 := Z0 hc16 H1
                       refine wp_exit ?_
                       refine Zce ?_
                       refine Zce ?_
                       refine Zdc ?_
                       exact ⟨g, rfl, (hst.pick [] rfl), hb, Option.some.inj H1⟩
theorem Zl0 (a0 : Zk) (a1 : ByteArray) {r : Int} (h : Zdn a0 a1 = some r) : FnOk Tryd.prog 28 [(Zbj.pd a0), (pStr a1)] (pInt .i64 r) := by
 have H0 := h
 unfold Zdn at H0
 clear h
 refine Zbs (N := 24) Tryd.func28 rfl rfl (Nat.le_of_ble_eq_true rfl) rfl rfl (fun a g0 hst hb => ?_)
 refine r_s (T := [⟨[.old 0], _, [], [], [2]⟩, ⟨[], _, [], [], [4]⟩]) (F := [.old 1, .op 0 0]) hst hb Zb
   (o_p rfl (Zbl rfl rfl u_0) <| o_p rfl (Zc rfl rfl c_i) <| o_n) (by kernel_rfl) (fun a g hst hb => ?_)
 refine r_s (T := [⟨[], _, [], [], [5]⟩]) (F := [.old 0, .old 1, .op 0 0]) hst hb Zb
   (o_p rfl (Zc rfl rfl c_i) <| o_n) (by kernel_rfl) (fun a g hst hb => ?_)
 obtain ⟨z6, hz1, H0⟩ := Zh H0
 refine wp_seq ?_
 refine Zc2 (fun a w => ∃ (y5 : Int) (g : G), w = g.w ∧ St 24 [(5, (pInt .i64 y5))] a g ∧ Base g0 g ∧ y5 = z6) ?_ ?_
 · rintro a w ⟨y5, g, rfl, hst, hb, rfl⟩
   refine Zu ?_
   refine r_s (T := [⟨[.old 0], _, [], [], [23]⟩, ⟨[.op 0 0], _, [], [0], [4]⟩]) (F := [.op 1 0]) hst hb Zb
     (o_p rfl (Za rfl rfl u_0) <| o_p rfl (Zc rfl rfl u_0) <| o_n) (by kernel_rfl) (fun a g hst hb => ?_)
   refine wp_ret ?_
   obtain rfl := Option.some.inj H0
   exact Z3 rfl hst hb (Zl (s := 4)) (hst.at 0 rfl)
 · refine wp_block ?_
   refine wp_loop_ghost (fun n a w => ∃ (x1 : Int) (g : G), w = g.w ∧ St 24 [(1, (pStr a1)), (2, (Zbj.ptr a0)), (5, (pInt .i64 x1))] a g ∧ Base g0 g ∧ Zcp a0 a1 n x1 = some z6) (Int.toNat ((a0.L.length : Int) - (0 : Int)) + 1) ⟨(0 : Int), g, rfl, (hst.pick [0, 1, 2] rfl), hb, hz1⟩ (fun n a w hI => ?_)
   obtain ⟨x1, g, rfl, hst, hb, H1⟩ := hI
   cases n with
   | zero => exact absurd H1 (by simp [Zcp])
   | succ n =>
     rw [Zcp] at H1
     refine wp_seq ?_
     obtain ⟨e2, h3, H1⟩ := Zh H1
     refine r_s (T := ⟨[.old 2], _, [], [], [6]⟩ :: ⟨[.old 1], _, [], [], [7]⟩ :: ⟨[.op 1 0], _, [], [1], [8]⟩ :: ⟨[.op 2 0], _, [], [1, 2], [9]⟩ :: ⟨[.op 0 0, .op 3 0], _, [], Lr 4, [10]⟩ :: ⟨[.op 4 0], _, [], Lr 5, [11]⟩ :: ⟨[.op 5 0, .old 1], _, [], Lr 6, [12]⟩ :: ⟨[.op 5 0, .op 6 0], _, [], Lr 7, [13]⟩ :: ⟨[.op 5 0, .old 2], _, [], Lr 6, [14]⟩ :: ⟨[.op 5 0, .op 7 0, .op 8 0], _, [], Lr 9, [15]⟩ :: ⟨[.op 5 0, .op 9 0], _, [], Lr 10, [16]⟩ :: ⟨[.op 5 0, .op 10 0], _, [], Lr 11, [17]⟩ :: ⟨[.op 5 0, .old 0], _, [], Lr 6, [18]⟩ :: ⟨[.op 5 0, .op 11 0, .op 12 0], _, [], Lr 13, [19]⟩ :: ⟨[.op 5 0, .op 13 0], _, [], Lr 14, [20]⟩ :: []) (F := [.old 0, .old 1, .old 2, .op 14 0]) hst hb Zb
       (o_p rfl (Za rfl rfl u_0) <| o_p rfl (Ze Zki rfl rfl u_0) <| o_p rfl (Zf Zm3 rfl rfl u_0) <| o_p rfl (Zcj Tryd.underlying22 rfl rfl u_0) <| o_p rfl (Zc1 rfl rfl u_0 u_1) <| o_p rfl (Za rfl rfl u_0) <| o_g (g_t rfl rfl rfl (fun hG => Ze Zki rfl rfl u_0)) <| o_g (g_t rfl rfl rfl (fun hG => Zf Zm3 rfl rfl (Opd.gd hG u_0))) <| o_g (g_t rfl rfl rfl (fun hG => Za rfl rfl u_0)) <| o_g (g_t rfl rfl rfl (fun hG => Zb4 Tryd.underlying22 Zsr rfl rfl (Opd.gd hG u_0) (Opd.gd hG u_1) (Zbv h3 hG))) <| o_g (g_t rfl rfl rfl (fun hG => Ze Znh rfl rfl (Opd.gd hG u_0))) <| o_g (g_t rfl rfl rfl (fun hG => Zf ty_9 rfl rfl (Opd.gd hG u_0))) <| o_g (g_t rfl rfl rfl (fun hG => Za rfl rfl u_0)) <| o_g (g_t rfl rfl rfl (fun hG => Zll rfl rfl (Opd.gd hG u_0) (Opd.gd hG u_1))) <| o_p rfl (Zbp rfl rfl u_0 (fun hz => (Opd.gd hz u_1))) <| o_n) (by kernel_rfl) (fun a g hst hb => ?_)
     refine wp_cond_split (hst.bool 3 rfl) (fun hc4 => ?_) (fun hc4 => ?_)
     · replace H1 := Zz hc4 H1
       refine wp_skip ?_
       refine Zu ?_
       refine wp_block ?_
       refine r_g (L := [(1, _), (2, _), (5, _)]) (T := [⟨[.old 2], _, [], [], [21]⟩, ⟨[.op 0 0], _, [], [0], [22]⟩, ⟨[.op 1 0], _, [], [0, 1], [5]⟩]) (F := [.old 0, .old 1, .op 2 0]) (hst.pick [0, 1, 2] rfl) hb Zb
         (o_p rfl (Za rfl rfl u_0) <| o_p rfl (Zb8 rfl rfl u_0 c_i rfl) <| o_p rfl (Zc rfl rfl u_0) <| o_n) (by kernel_rfl) (fun a g hst hb => ?_)
       refine Zbr ?_
       exact ⟨n, Nat.lt_succ_self _, (IntKind.i64.wrap (x1 + (1 : Int))), g, rfl, (hst.pick [0, 1, 2] rfl), hb, H1⟩
     · replace H1 := Z0 hc4 H1
       refine wp_exit ?_
       refine Zce ?_
       refine Zce ?_
       refine Zdc ?_
       exact ⟨x1, g, rfl, (hst.pick [2] rfl), hb, Option.some.inj H1⟩
theorem Zma (a0 : Zk) (a1 : ByteArray) (a2 : Zd) {r : Zk × Int} (h : Zdw a0 a1 a2 = some r) : FnOk Tryd.prog 15 [(Zbj.pd a0), (pStr a1), (Zi.pd a2)] (pTup [(Zbj.pd r.1), (pInt .i64 r.2)]) := by
 have H0 := h
 unfold Zdw at H0
 clear h
 refine Zbs (N := 80) Tryd.func15 rfl rfl (Nat.le_of_ble_eq_true rfl) rfl rfl (fun a g0 hst hb => ?_)
 refine r_s (T := [⟨[.old 0], _, [], [], [3]⟩, ⟨[.old 2], _, [], [], [5]⟩, ⟨[], [(6, (pBox Zbj 6 (default : Zk)))], [7], [], [6]⟩, ⟨[], _, [], [], [7]⟩]) (F := [.old 1, .op 0 0, .op 1 0, .op 2 0]) hst hb Zb
   (o_p rfl (Zbl rfl rfl u_0) <| o_p rfl (Zbl rfl rfl u_0) <| o_p rfl (Zbi (zs := [.slice none 0 0, .int .i64 0]) (by kernel_rfl) (fun g => Zk1 g) rfl rfl) <| o_p rfl (Zc rfl rfl c_i) <| o_n) (by kernel_rfl) (fun a g hst hb => ?_)
 refine wp_seq ?_
 refine r_s (T := [⟨[.old 0], _, [], [], [12]⟩, ⟨[.op 0 0], _, [], [0], [13]⟩, ⟨[.op 1 0], _, [], [0, 1], [14]⟩, ⟨[.op 2 0], _, [], [0, 1, 2], [15]⟩, ⟨[.op 3 0, .old 0], _, [], Lr 4, [16]⟩, ⟨[.op 3 0, .op 4 0], _, [], Lr 5, [17]⟩, ⟨[.op 3 0, .op 5 0], _, [], Lr 6, [18]⟩, ⟨[.op 3 0, .op 6 0], _, [], Lr 7, [19]⟩]) (F := [.old 0, .old 1, .old 2, .old 3, .op 7 0]) hst hb Zb
   (o_p rfl (Za rfl rfl u_0) <| o_p rfl (Zfq Tryd.underlying9 rfl rfl u_0) <| o_p rfl (Zc1 rfl rfl u_0 c_i) <| o_p rfl (Za rfl rfl u_0) <| o_g (g_f rfl rfl rfl (fun hG => Za rfl rfl u_0)) <| o_g (g_f rfl rfl rfl (fun hG => Zfq Tryd.underlying9 rfl rfl (Opd.gd hG u_0))) <| o_g (g_f rfl rfl rfl (fun hG => Zc0 rfl rfl (Opd.gd hG u_0) c_i)) <| o_p rfl (Zbx rfl rfl u_0 (fun hz => (Opd.gd (bNF hz) u_1))) <| o_n) (by kernel_rfl) (fun a g hst hb => ?_)
 refine wp_cond_split (hst.bool 4 rfl) (fun hc1 => ?_) (fun hc1 => ?_)
 · replace H0 := Zz hc1 H0
   refine r_s (L := [(3, _), (6, _)]) (T := [⟨[.old 0], _, [], [], [20]⟩, ⟨[.op 0 0, .old 1], _, [7], [0], [6]⟩, ⟨[], _, [], [0, 1], [7]⟩]) (F := [.op 1 0, .op 2 0]) (hst.pick [1, 3] rfl) hb Zb
     (o_p rfl (Zf Ziw rfl rfl u_0) <| o_p rfl (Z6 Ziw rfl rfl u_1 u_0) <| o_p rfl (Zc rfl rfl c_i) <| o_n) (by kernel_rfl) (fun a g hst hb => ?_)
   refine wp_ret ?_
   refine Zr ?_
   obtain rfl := Option.some.inj H0
   obtain ⟨u0, hu0, hq0⟩ := Zbe (P := Tryd.prog) Ziw (hst.at 0 rfl)
   exact Ze0 rfl hst hb hu0 (Zl (s := 7)) (Zde hq0 (hst.at 1 rfl))
 · replace H0 := Z0 hc1 H0
   refine wp_skip ?_
   refine Zu ?_
   obtain ⟨r2, h3, H0⟩ := Zh H0
   refine r_s (L := [(1, _), (3, _), (5, _), (6, _)]) (T := [⟨[.old 2], _, [], [], [21]⟩, ⟨[.op 0 0], _, [], [0], [22]⟩, ⟨[.op 1 0], _, [], [0, 1], [8]⟩]) (F := [.old 0, .old 1, .old 2, .old 3, .op 2 0]) (hst.pick [0, 1, 2, 3] rfl) hb Zb
     (o_p rfl (Zf Zbf rfl rfl u_0) <| o_p rfl (Zq Z7f (Zn5 _ h3) rfl rfl (.cons u_0 .nil)) <| o_p rfl (Zc rfl rfl u_0) <| o_n) (by kernel_rfl) (fun a g hst hb => ?_)
   refine wp_seq ?_
   refine r_s (T := [⟨[.old 4], _, [], [], [23]⟩, ⟨[.op 0 0], _, [], [0], [24]⟩]) (F := [.old 0, .old 1, .old 2, .old 3, .old 4, .op 1 0]) hst hb Zb
     (o_p rfl (Za rfl rfl u_0) <| o_p rfl (Zfg rfl rfl u_0 c_i) <| o_n) (by kernel_rfl) (fun a g hst hb => ?_)
   refine wp_cond_split (hst.bool 5 rfl) (fun hc4 => ?_) (fun hc4 => ?_)
   · replace H0 := Zz hc4 H0
     refine r_s (L := [(3, _), (6, _), (8, _)]) (T := [⟨[.old 0], _, [], [], [25]⟩, ⟨[.old 2], _, [], [], [26]⟩, ⟨[.op 0 0, .old 1], _, [7], [0], [6]⟩, ⟨[.op 1 0], _, [], [0, 1, 2], [7]⟩]) (F := [.op 2 0, .op 3 0]) (hst.pick [1, 3, 4] rfl) hb Zb
       (o_p rfl (Zf Ziw rfl rfl u_0) <| o_p rfl (Za rfl rfl u_0) <| o_p rfl (Z6 Ziw rfl rfl u_1 u_0) <| o_p rfl (Zc rfl rfl u_0) <| o_n) (by kernel_rfl) (fun a g hst hb => ?_)
     refine wp_ret ?_
     refine Zr ?_
     obtain rfl := Option.some.inj H0
     obtain ⟨u0, hu0, hq0⟩ := Zbe (P := Tryd.prog) Ziw (hst.at 0 rfl)
     exact Ze0 rfl hst hb hu0 (Zl (s := 7)) (Zde hq0 (hst.at 1 rfl))
   · replace H0 := Z0 hc4 H0
     refine wp_skip ?_
     refine Zu ?_
     obtain ⟨r5, h6, H0⟩ := Zh H0
     refine r_s (L := [(1, _), (3, _), (5, _), (6, _)]) (T := [⟨[.old 1], _, [], [], [27]⟩, ⟨[.old 0], _, [], [], [28]⟩, ⟨[.op 0 0, .op 1 0], _, [], [0, 1], [29]⟩, ⟨[.op 2 0], _, [], [0, 1, 2], [9]⟩]) (F := [.old 0, .old 1, .old 2, .old 3, .op 3 0]) (hst.pick [0, 1, 2, 3] rfl) hb Zb
       (o_p rfl (Zf Ziw rfl rfl u_0) <| o_p rfl (Za rfl rfl u_0) <| o_p rfl (Zq Z7b (Zl0 _ _ h6) rfl rfl (.cons u_0 (.cons u_1 .nil))) <| o_p rfl (Zc rfl rfl u_0) <| o_n) (by kernel_rfl) (fun a g hst hb => ?_)
     obtain ⟨e7, h8, H0⟩ := Zh H0
     refine r_s (T := ⟨[.old 4], _, [], [], [30]⟩ :: ⟨[.old 1], _, [], [], [31]⟩ :: ⟨[.op 1 0], _, [], [1], [32]⟩ :: ⟨[.op 2 0], _, [], [1, 2], [33]⟩ :: ⟨[.op 0 0, .op 3 0], _, [], Lr 4, [34]⟩ :: ⟨[.op 4 0], _, [], Lr 5, [35]⟩ :: ⟨[.op 5 0, .old 1], _, [], Lr 6, [36]⟩ :: ⟨[.op 5 0, .op 6 0], _, [], Lr 7, [37]⟩ :: ⟨[.op 5 0, .old 4], _, [], Lr 6, [38]⟩ :: ⟨[.op 5 0, .op 7 0, .op 8 0], _, [], Lr 9, [39]⟩ :: ⟨[.op 5 0, .op 9 0], _, [], Lr 10, [40]⟩ :: ⟨[.op 5 0, .op 10 0], _, [], Lr 11, [41]⟩ :: ⟨[.op 5 0, .old 0], _, [], Lr 6, [42]⟩ :: ⟨[.op 5 0, .op 11 0, .op 12 0], _, [], Lr 13, [43]⟩ :: ⟨[.op 5 0, .op 13 0], _, [], Lr 14, [44]⟩ :: ⟨[.op 14 0], _, [], Lr 15, [10]⟩ :: []) (F := [.old 0, .old 1, .old 2, .old 3, .old 4, .op 15 0]) hst hb Zb
       (o_p rfl (Za rfl rfl u_0) <| o_p rfl (Ze Zki rfl rfl u_0) <| o_p rfl (Zf Zm3 rfl rfl u_0) <| o_p rfl (Zcj Tryd.underlying22 rfl rfl u_0) <| o_p rfl (Zc1 rfl rfl u_0 u_1) <| o_p rfl (Za rfl rfl u_0) <| o_g (g_t rfl rfl rfl (fun hG => Ze Zki rfl rfl u_0)) <| o_g (g_t rfl rfl rfl (fun hG => Zf Zm3 rfl rfl (Opd.gd hG u_0))) <| o_g (g_t rfl rfl rfl (fun hG => Za rfl rfl u_0)) <| o_g (g_t rfl rfl rfl (fun hG => Zb4 Tryd.underlying22 Zsr rfl rfl (Opd.gd hG u_0) (Opd.gd hG u_1) (Zbv h8 hG))) <| o_g (g_t rfl rfl rfl (fun hG => Ze Znh rfl rfl (Opd.gd hG u_0))) <| o_g (g_t rfl rfl rfl (fun hG => Zf ty_9 rfl rfl (Opd.gd hG u_0))) <| o_g (g_t rfl rfl rfl (fun hG => Za rfl rfl u_0)) <| o_g (g_t rfl rfl rfl (fun hG => Zlu rfl rfl (Opd.gd hG u_0) (Opd.gd hG u_1))) <| o_p rfl (Zbp rfl rfl u_0 (fun hz => (Opd.gd hz u_1))) <| o_p rfl (Zc rfl rfl u_0) <| o_n) (by kernel_rfl) (fun a g hst hb => ?_)
     refine wp_seq ?_
     refine r_s (T := [⟨[.old 5], _, [], [], [45]⟩, ⟨[.op 0 0], _, [], [0], [46]⟩, ⟨[.op 1 0], _, [], [0, 1], [47]⟩, ⟨[.op 2 0, .old 1], _, [], [0, 1, 2], [48]⟩, ⟨[.op 2 0, .op 3 0], _, [], Lr 4, [49]⟩, ⟨[.op 2 0, .op 4 0], _, [], Lr 5, [50]⟩, ⟨[.op 2 0, .old 1], _, [], [0, 1, 2], [51]⟩, ⟨[.op 2 0, .op 6 0], _, [], [0, 1, 2, 6], [52]⟩, ⟨[.op 2 0, .op 5 0, .op 7 0], _, [], Lr 8, [53]⟩, ⟨[.op 2 0, .op 8 0], _, [], Lr 9, [54]⟩]) (F := [.old 0, .old 1, .old 2, .old 3, .old 4, .old 5, .op 9 0]) hst hb Zb
       (o_p rfl (Za rfl rfl u_0) <| o_p rfl (Zcs rfl rfl u_0) <| o_p rfl (Za rfl rfl u_0) <| o_g (g_t rfl rfl rfl (fun hG => Ze Zki rfl rfl u_0)) <| o_g (g_t rfl rfl rfl (fun hG => Zf Zm3 rfl rfl (Opd.gd hG u_0))) <| o_g (g_t rfl rfl rfl (fun hG => Zcj Tryd.underlying22 rfl rfl (Opd.gd hG u_0))) <| o_g (g_t rfl rfl rfl (fun hG => Ze Zx0 rfl rfl u_0)) <| o_g (g_t rfl rfl rfl (fun hG => Zf ty_3 rfl rfl (Opd.gd hG u_0))) <| o_g (g_t rfl rfl rfl (fun hG => Zrr rfl rfl (Opd.gd hG u_0) (Opd.gd hG u_1))) <| o_p rfl (Zbp rfl rfl u_0 (fun hz => (Opd.gd hz u_1))) <| o_n) (by kernel_rfl) (fun a g hst hb => ?_)
     refine wp_cond_split (hst.bool 6 rfl) (fun hc9 => ?_) (fun hc9 => ?_)
     · replace H0 := Zz hc9 H0
       refine r_s (L := [(3, _), (6, _)]) (T := [⟨[.old 0], _, [], [], [55]⟩, ⟨[.op 0 0, .old 1], _, [7], [0], [6]⟩, ⟨[], _, [], [0, 1], [7]⟩]) (F := [.op 1 0, .op 2 0]) (hst.pick [1, 3] rfl) hb Zb
         (o_p rfl (Zf Ziw rfl rfl u_0) <| o_p rfl (Z6 Ziw rfl rfl u_1 u_0) <| o_p rfl (Zc rfl rfl c_i) <| o_n) (by kernel_rfl) (fun a g hst hb => ?_)
       refine wp_ret ?_
       refine Zr ?_
       obtain rfl := Option.some.inj H0
       obtain ⟨u0, hu0, hq0⟩ := Zbe (P := Tryd.prog) Ziw (hst.at 0 rfl)
       exact Ze0 rfl hst hb hu0 (Zl (s := 7)) (Zde hq0 (hst.at 1 rfl))
     · replace H0 := Z0 hc9 H0
       refine wp_skip ?_
       refine Zu ?_
       obtain ⟨c10, h11, H0⟩ := Zh H0; obtain ⟨h12, H0⟩ := Zj5 H0
       refine r_s (L := [(1, _), (3, _), (5, _), (6, _), (9, _), (10, _)]) (T := [⟨[], _, [57], [], [56]⟩, ⟨[.old 1], _, [], [], [57]⟩, ⟨[.op 1 0], _, [], [1], [58]⟩, ⟨[.old 4], _, [], [], [59]⟩, ⟨[.op 2 0, .op 3 0], _, [], [1, 2, 3], [60]⟩, ⟨[.op 0 0, .op 4 0], _, [57], Lr 5, [56, 61]⟩, ⟨[.op 5 0], _, [], Lr 6, [11]⟩]) (F := [.old 0, .old 1, .old 2, .old 3, .old 4, .old 5, .op 6 0]) (hst.pick [0, 1, 2, 3, 4, 5] rfl) hb Zb
         (o_p rfl (Zt2 56 Zr0 (xs := []) .nil (by decide) rfl rfl) <| o_p rfl (Ze Zki rfl rfl u_0) <| o_p rfl (Zf Zm3 rfl rfl u_0) <| o_p rfl (Za rfl rfl u_0) <| o_p rfl (Zxj Tryd.underlying22 Zsr rfl rfl u_0 u_1 h11) <| o_p rfl (Zkp Zr0 rfl rfl u_0 u_1 h12) <| o_p rfl (Zc rfl rfl u_0) <| o_n) (by kernel_rfl) (fun a g hst hb => ?_)
       obtain ⟨h13, H0⟩ := Zj5 H0
       refine r_s (T := [⟨[.old 6], _, [], [], [62]⟩, ⟨[.old 0], _, [], [], [63]⟩, ⟨[.old 2], _, [], [], [64]⟩, ⟨[.op 1 0, .op 2 0], _, [], [1, 2], [65]⟩, ⟨[.op 3 0], _, [], [1, 2, 3], [66]⟩, ⟨[.op 0 0, .op 4 0], _, [57], Lr 5, [11, 62, 67]⟩, ⟨[.op 5 0], _, [], Lr 6, [11]⟩]) (F := [.old 1, .old 3, .old 4, .old 5, .op 6 0]) hst hb Zb
         (o_p rfl (Za rfl rfl u_0) <| o_p rfl (Za rfl rfl u_0) <| o_p rfl (Zf Zbf rfl rfl u_0) <| o_p rfl (Z0c rfl rfl u_0 u_1) <| o_p rfl (Zmr Zr0 (xs := [.tmp 65]) (.cons u_0 .nil) (by decide) rfl rfl) <| o_p rfl (Zkp Zr0 rfl rfl u_0 u_1 h13) <| o_p rfl (Zc rfl rfl u_0) <| o_n) (by kernel_rfl) (fun a g hst hb => ?_)
       refine wp_seq ?_
       refine r_s (T := [⟨[.old 3], _, [], [], [68]⟩]) (F := [.old 0, .old 1, .old 2, .old 4, .op 0 0]) hst hb Zb
         (o_p rfl (Za rfl rfl u_0) <| o_n) (by kernel_rfl) (fun a g hst hb => ?_)
       refine Zc2 (fun a w => ∃ (j15 : Int) (g : G), w = g.w ∧ St 80 [(3, (Zbj.ptr a0)), (6, (pBox Zbj 6 (default : Zk))), (9, (pInt .i64 j15)), (11, (pRow Zbt 56 56 ((([] : List Z2) ++ c10) ++ ([({ Key := a1, Rec := a2 } : Z2)] : List Z2))))] a g ∧ Base g0 g ∧ Zdv a0 a1 a2 c10 j15 = some r) ?_ ?_
       · rintro a w ⟨j15, g, rfl, hst, hb, H0⟩
         unfold Zdv at H0
         refine Zu ?_
         obtain ⟨c16, h17, H0⟩ := Zh H0; obtain ⟨h18, H0⟩ := Zj5 H0
         refine r_s (T := [⟨[.old 3], _, [], [], [71]⟩, ⟨[.old 0], _, [], [], [72]⟩, ⟨[.op 1 0], _, [], [1], [73]⟩, ⟨[.old 2], _, [], [], [74]⟩, ⟨[.op 2 0, .op 3 0], _, [], [1, 2, 3], [75]⟩, ⟨[.op 0 0, .op 4 0], _, [57], Lr 5, [11, 71, 76]⟩, ⟨[.old 0], _, [], [], [77]⟩, ⟨[.op 6 0], _, [], [6], [78]⟩, ⟨[.op 5 0, .op 7 0], _, [], Lr 8, [79]⟩, ⟨[.op 8 0, .old 1], _, [7], Lr 9, [6]⟩, ⟨[], _, [], Lr 10, [7]⟩]) (F := [.op 9 0, .op 10 0]) hst hb Zb
           (o_p rfl (Za rfl rfl u_0) <| o_p rfl (Ze Zki rfl rfl u_0) <| o_p rfl (Zf Zm3 rfl rfl u_0) <| o_p rfl (Za rfl rfl u_0) <| o_p rfl (Z3s Tryd.underlying22 Zsr rfl rfl u_0 u_1 h17) <| o_p rfl (Zkp Zr0 rfl rfl u_0 u_1 h18) <| o_p rfl (Ze Zx0 rfl rfl u_0) <| o_p rfl (Zf ty_3 rfl rfl u_0) <| o_p rfl (Z0d rfl rfl (Opd.imp u_0 (fun _ _ h => Zpn h)) u_1) <| o_p rfl (Z6 Ziw rfl rfl u_1 u_0) <| o_p rfl (Zc rfl rfl c_i) <| o_n) (by kernel_rfl) (fun a g hst hb => ?_)
         refine wp_ret ?_
         obtain rfl := Option.some.inj H0
         obtain ⟨u0, hu0, hq0⟩ := Zbe (P := Tryd.prog) Ziw (hst.at 0 rfl)
         exact Ze0 rfl hst hb hu0 (Zl (s := 7)) (Zde hq0 (hst.at 1 rfl))
       · refine wp_cond_split (hst.bool 4 rfl) (fun hc14 => ?_) (fun hc14 => ?_)
         · replace H0 := Zz hc14 H0
           refine r_g (L := [(3, _), (6, _), (9, _), (11, _)]) (T := [⟨[.old 2], _, [], [], [69]⟩, ⟨[.op 0 0], _, [], [0], [70]⟩, ⟨[.op 1 0], _, [], [0, 1], [9]⟩]) (F := [.old 0, .old 1, .op 2 0, .old 3]) (hst.pick [0, 1, 2, 3] rfl) hb Zb
             (o_p rfl (Za rfl rfl u_0) <| o_p rfl (Zb8 rfl rfl u_0 c_i rfl) <| o_p rfl (Zc rfl rfl u_0) <| o_n) (by kernel_rfl) (fun a g hst hb => ?_)
           exact ⟨(IntKind.i64.wrap (r5 + (1 : Int))), g, rfl, (hst.pick [0, 1, 2, 3] rfl), hb, H0⟩
         · replace H0 := Z0 hc14 H0
           refine wp_skip ?_
           exact ⟨r5, g, rfl, (hst.pick [0, 1, 2, 3] rfl), hb, H0⟩
theorem Zok (a0 : Int) (a1 : List Z2) {r : Zm × (Option Zk)} (h : Zfo a0 a1 = some r) : FnOk Tryd.prog 6 [(pInt .i64 a0), (Zbt.sl.pd a1)] (pTup [(Zx.pd r.1), (Zbj.opt.pd r.2)]) := by
 have H0 := h
 unfold Zfo at H0
 clear h
 refine Zbs (N := 63) Tryd.func6 rfl rfl (Nat.le_of_ble_eq_true rfl) rfl rfl (fun a g0 hst hb => ?_)
 refine r_s (T := [⟨[], [(4, (pBox Zx 4 (default : Zm)))], [5], [], [4]⟩, ⟨[], [(5, (Zbj.opt.pd (none : Option Zk)))], [], [], [5]⟩]) (F := [.old 0, .old 1, .op 0 0]) hst hb Zb
   (o_p rfl (Zbi (zs := [.pointer none, .int .i64 0]) (by kernel_rfl) (fun g => Zdh g) rfl rfl) <| o_p rfl (Zc rfl rfl (Opd.c (fun g => Zpm g))) <| o_n) (by kernel_rfl) (fun a g hst hb => ?_)
 obtain ⟨r1, h2, H0⟩ := Zh H0
 refine r_s (T := [⟨[.old 0], _, [], [], [12]⟩, ⟨[.op 0 0], _, [], [0], [13]⟩, ⟨[.op 1 0], _, [], [0, 1], [11]⟩, ⟨[.op 2 0], _, [], [0, 1, 2], [14]⟩, ⟨[.op 2 0], _, [], [0, 1, 2], [15]⟩, ⟨[], [(6, (pBox Zx 6 (default : Zm)))], [7], [], [6]⟩, ⟨[.op 3 0, .op 5 0], _, [7], [0, 1, 2, 3, 5], [6]⟩, ⟨[.op 4 0], _, [], Lr 7, [7]⟩]) (F := [.old 0, .old 1, .old 2, .op 6 0, .op 7 0]) hst hb Zb
   (o_p rfl (Za rfl rfl u_0) <| o_p rfl (Zq en_4 (Zpa _ h2) rfl rfl (.cons u_0 .nil)) <| o_p rfl (Za rfl rfl u_0) <| o_p rfl (Z4 rfl rfl u_0 rfl) <| o_p rfl (Z4 rfl rfl u_0 rfl) <| o_p rfl (Zbi (zs := [.pointer none, .int .i64 0]) (by kernel_rfl) (fun g => Zdh g) rfl rfl) <| o_p rfl (Z6 Zbm rfl rfl u_1 u_0) <| o_p rfl (Zc rfl rfl u_0) <| o_n) (by kernel_rfl) (fun a g hst hb => ?_)
 refine wp_seq ?_
 refine r_s (T := [⟨[.old 4], _, [], [], [16]⟩, ⟨[.op 0 0], _, [], [0], [17]⟩, ⟨[.op 1 0], _, [], [0, 1], [18]⟩, ⟨[.op 2 0, .old 1], _, [], [0, 1, 2], [19]⟩, ⟨[.op 2 0, .op 3 0], _, [], Lr 4, [20]⟩, ⟨[.op 2 0, .op 4 0], _, [], Lr 5, [21]⟩, ⟨[.op 2 0, .op 5 0], _, [], Lr 6, [22]⟩]) (F := [.old 0, .old 1, .old 2, .old 3, .op 6 0]) hst hb Zb
   (o_p rfl (Za rfl rfl u_0) <| o_p rfl (Zfg rfl rfl u_0 c_i) <| o_p rfl (Za rfl rfl u_0) <| o_g (g_f rfl rfl rfl (fun hG => Za rfl rfl u_0)) <| o_g (g_f rfl rfl rfl (fun hG => Zcj Tryd.underlying22 rfl rfl (Opd.gd hG u_0))) <| o_g (g_f rfl rfl rfl (fun hG => Zc0 rfl rfl (Opd.gd hG u_0) c_i)) <| o_p rfl (Zbx rfl rfl u_0 (fun hz => (Opd.gd (bNF hz) u_1))) <| o_n) (by kernel_rfl) (fun a g hst hb => ?_)
 refine wp_cond_split (hst.bool 4 rfl) (fun hc3 => ?_) (fun hc3 => ?_)
 · replace H0 := Zz hc3 H0
   refine r_s (L := [(4, _), (6, _)]) (T := [⟨[.old 1], _, [], [], [23]⟩, ⟨[.op 0 0, .old 0], _, [5], [0], [4]⟩, ⟨[], [(5, (Zbj.opt.pd (none : Option Zk)))], [], [0, 1], [5]⟩]) (F := [.op 1 0, .op 2 0]) (hst.pick [2, 3] rfl) hb Zb
     (o_p rfl (Zca Zbm rfl rfl u_0) <| o_p rfl (Z6 Zbm rfl rfl u_1 u_0) <| o_p rfl (Zc rfl rfl (Opd.c (fun g => Zpm g))) <| o_n) (by kernel_rfl) (fun a g hst hb => ?_)
   refine wp_ret ?_
   refine Zr ?_
   obtain rfl := Option.some.inj H0
   obtain ⟨u0, hu0, hq0⟩ := Zbe (P := Tryd.prog) Zbm (hst.at 0 rfl)
   exact Ze0 rfl hst hb hu0 (Zl (s := 5)) (Zde hq0 (hst.at 1 rfl))
 · replace H0 := Z0 hc3 H0
   refine wp_skip ?_
   refine Zu ?_
   refine r_s (L := [(0, _), (1, _), (4, _), (6, _)]) (T := [⟨[.old 0], _, [], [], [24]⟩, ⟨[.op 0 0], _, [], [0], [25]⟩, ⟨[], [(8, (pBox Zbj 8 (default : Zk)))], [9], [], [8]⟩, ⟨[.op 1 0, .op 2 0], _, [9], [0, 1, 2], [8]⟩]) (F := [.old 1, .old 2, .old 3, .op 3 0]) (hst.pick [0, 1, 2, 3] rfl) hb Zb
     (o_p rfl (Za rfl rfl u_0) <| o_p rfl (Z25 rfl rfl u_0) <| o_p rfl (Zbi (zs := [.slice none 0 0, .int .i64 0]) (by kernel_rfl) (fun g => Zk1 g) rfl rfl) <| o_p rfl (Z6 Ziw rfl rfl u_1 u_0) <| o_n) (by kernel_rfl) (fun a g hst hb => ?_)
   refine wp_seq ?_
   refine r_s (T := [⟨[.old 0], _, [], [], [26]⟩, ⟨[.op 0 0], _, [], [0], [27]⟩, ⟨[], _, [], [], [28]⟩]) (F := [.old 1, .old 2, .old 3, .op 0 0, .op 1 0, .op 2 0]) hst hb Zb
     (o_p rfl (Za rfl rfl u_0) <| o_p rfl (Zcj Tryd.underlying22 rfl rfl u_0) <| o_p rfl (Za rfl rfl c_i) <| o_n) (by kernel_rfl) (fun a g hst hb => ?_)
   obtain ⟨z21, hz1, H0⟩ := Zh H0
   refine Zc2 (fun a w => ∃ (y18 : Zm) (y19 : Zm) (y20 : Zk) (g : G), w = g.w ∧ St 63 [(4, (pBox Zx 4 y18)), (6, (pBox Zx 6 y19)), (8, (pBox Zbj 8 y20))] a g ∧ Base g0 g ∧ (.inr (y18, y19, y20)) = z21) ?_ ?_
   · rintro a w ⟨y18, y19, y20, g, rfl, hst, hb, rfl⟩
     refine Zu ?_
     refine r_s (T := [⟨[.old 1], _, [], [], [62]⟩, ⟨[.op 0 0, .old 0], _, [5], [0], [4]⟩, ⟨[.old 2], _, [9], [0, 1], [5, 8]⟩]) (F := [.op 1 0, .op 2 0]) hst hb Zb
       (o_p rfl (Zca Zbm rfl rfl u_0) <| o_p rfl (Z6 Zbm rfl rfl u_1 u_0) <| o_p rfl (Z1z (.inr rfl) rfl u_0) <| o_n) (by kernel_rfl) (fun a g hst hb => ?_)
     refine wp_ret ?_
     obtain rfl := Option.some.inj H0
     obtain ⟨u0, hu0, hq0⟩ := Zbe (P := Tryd.prog) Zbm (hst.at 0 rfl)
     exact Ze0 rfl hst hb hu0 (Zl (s := 5)) (Zde hq0 (hst.at 1 rfl))
   · refine wp_block ?_
     refine wp_loop_ghost (fun n a w => ∃ (x4 : Zm) (x5 : Zm) (x6 : Zk) (x7 : Int) (g : G), w = g.w ∧ St 63 [(4, (pBox Zx 4 x4)), (6, (pBox Zx 6 x5)), (8, (pBox Zbj 8 x6)), (26, (Zbt.sl.pd a1)), (27, (pInt .i64 (a1.length : Int))), (28, (pInt .i64 x7))] a g ∧ Base g0 g ∧ Zc4 a1 n x4 x5 x6 x7 = some z21) (Int.toNat ((a1.length : Int) - (0 : Int)) + 1) ⟨(default : Zm), r1.1, ({ L := ([] : List Z2), Room := a0 } : Zk), (0 : Int), g, rfl, (hst.pick [0, 1, 2, 3, 4, 5] rfl), hb, hz1⟩ (fun n a w hI => ?_)
     obtain ⟨x4, x5, x6, x7, g, rfl, hst, hb, H1⟩ := hI
     cases n with
     | zero => exact absurd H1 (by simp [Zc4])
     | succ n =>
       rw [Zc4] at H1
       refine r_s (T := [⟨[.old 5, .old 4], _, [], [], [29]⟩]) (F := [.old 0, .old 1, .old 2, .old 3, .old 4, .old 5, .op 0 0]) hst hb Zb
         (o_p rfl (Zc1 rfl rfl u_0 u_1) <| o_n) (by kernel_rfl) (fun a g hst hb => ?_)
       refine wp_seq ?_
       refine wp_cond_split (hst.bool 6 rfl) (fun hc8 => ?_) (fun hc8 => ?_)
       · replace H1 := Zz hc8 H1
         refine wp_skip ?_
         refine Zu ?_
         refine wp_seq ?_
         refine wp_block ?_
         obtain ⟨e9, h10, H1⟩ := Zh H1
         refine r_s (L := [(4, _), (6, _), (8, _), (26, _), (27, _), (28, _)]) (T := [⟨[.old 3, .old 5], _, [], [], [30]⟩, ⟨[.op 0 0], _, [], [0], [31]⟩, ⟨[], [(10, (pBox Zbt 10 (default : Z2)))], [11], [], [10]⟩, ⟨[.op 1 0, .op 2 0], _, [11], [0, 1, 2], [10]⟩]) (F := [.old 0, .old 1, .old 2, .op 3 0, .old 3, .old 4, .old 5]) (hst.pick [0, 1, 2, 3, 4, 5] rfl) hb Zb
           (o_p rfl (Zb4 Tryd.underlying22 Zsr rfl rfl u_0 u_1 h10) <| o_p rfl (Zf Z2c rfl rfl u_0) <| o_p rfl (Zbi (zs := [.string ByteArray.empty, .int .i64 0, .int .i64 0, .int .i64 0, .int .i64 0, .float .f64 0, .int .i64 0, .string ByteArray.empty, .slice none 0 0]) (by kernel_rfl) (fun g => Zou g) rfl rfl) <| o_p rfl (Zb9 Z2c rfl rfl u_1 u_0) <| o_n) (by kernel_rfl) (fun a g hst hb => ?_)
         refine wp_seq ?_
         obtain ⟨r11, h12, H1⟩ := Zh H1
         refine r_s (T := [⟨[.old 3], _, [], [], [32]⟩, ⟨[.op 0 0], _, [], [0], [33]⟩, ⟨[.op 1 0], _, [], [0, 1], [34]⟩, ⟨[.op 2 0], _, [], [0, 1, 2], [35]⟩, ⟨[.op 3 0], _, [], Lr 4, [36]⟩, ⟨[.op 4 0, .old 3], _, [], Lr 5, [37]⟩, ⟨[.op 4 0, .op 5 0], _, [], Lr 6, [38]⟩, ⟨[.op 4 0, .op 6 0], _, [], Lr 7, [39]⟩, ⟨[.op 4 0, .op 7 0], _, [], Lr 8, [40]⟩, ⟨[.op 4 0, .op 8 0], _, [], Lr 9, [41]⟩]) (F := [.old 0, .old 1, .old 2, .old 3, .old 4, .old 5, .old 6, .op 9 0]) hst hb Zb
           (o_p rfl (Ze Znh rfl rfl u_0) <| o_p rfl (Zf ty_9 rfl rfl u_0) <| o_p rfl (Zfq Tryd.underlying9 rfl rfl u_0) <| o_p rfl (Zc0 rfl rfl u_0 c_i) <| o_p rfl (Za rfl rfl u_0) <| o_g (g_f rfl rfl rfl (fun hG => Ze Zs9 rfl rfl u_0)) <| o_g (g_f rfl rfl rfl (fun hG => Zf Zbf rfl rfl (Opd.gd hG u_0))) <| o_g (g_f rfl rfl rfl (fun hG => Zq Z6p (Zo7 _ (Zbv h12 hG)) rfl rfl (.cons (Opd.gd hG u_0) .nil))) <| o_g (g_f rfl rfl rfl (fun hG => Zc0 rfl rfl (Opd.gd hG u_0) c_i)) <| o_p rfl (Zbx rfl rfl u_0 (fun hz => (Opd.gd (bNF hz) u_1))) <| o_n) (by kernel_rfl) (fun a g hst hb => ?_)
         refine wp_cond_split (hst.bool 7 rfl) (fun hc13 => ?_) (fun hc13 => ?_)
         · replace H1 := Zz hc13 H1
           refine r_s (L := [(4, _), (6, _)]) (T := [⟨[.old 1], _, [], [], [42]⟩, ⟨[.op 0 0, .old 0], _, [5], [0], [4]⟩, ⟨[], [(5, (Zbj.opt.pd (none : Option Zk)))], [], [0, 1], [5]⟩]) (F := [.op 1 0, .op 2 0]) (hst.pick [0, 1] rfl) hb Zb
             (o_p rfl (Zca Zbm rfl rfl u_0) <| o_p rfl (Z6 Zbm rfl rfl u_1 u_0) <| o_p rfl (Zc rfl rfl (Opd.c (fun g => Zpm g))) <| o_n) (by kernel_rfl) (fun a g hst hb => ?_)
           refine wp_ret ?_
           refine Zr ?_
           refine Z1 ?_
           refine Zr ?_
           refine Zr ?_
           refine Z1 ?_
           refine Zr ?_
           refine Zr ?_
           obtain rfl := Option.some.inj H1
           obtain rfl := Option.some.inj H0
           obtain ⟨u0, hu0, hq0⟩ := Zbe (P := Tryd.prog) Zbm (hst.at 0 rfl)
           exact Ze0 rfl hst hb hu0 (Zl (s := 5)) (Zde hq0 (hst.at 1 rfl))
         · replace H1 := Z0 hc13 H1
           refine wp_skip ?_
           refine Zu ?_
           obtain ⟨r14, h15, H1⟩ := Zh H1
           refine r_s (L := [(4, _), (6, _), (8, _), (10, _), (26, _), (27, _), (28, _)]) (T := [⟨[.old 1], _, [], [], [44]⟩, ⟨[.old 3], _, [], [], [45]⟩, ⟨[.op 1 0], _, [], [1], [46]⟩, ⟨[.old 3], _, [], [], [47]⟩, ⟨[.op 3 0], _, [], [3], [48]⟩, ⟨[.op 0 0, .op 2 0, .op 4 0], _, [], Lr 5, [49]⟩, ⟨[.op 5 0], _, [], Lr 6, [43]⟩, ⟨[.op 6 0], _, [], Lr 7, [50]⟩, ⟨[.op 6 0], _, [], Lr 7, [51]⟩, ⟨[.op 7 0, .old 1], _, [7], Lr 8, [6]⟩]) (F := [.old 0, .op 9 0, .old 2, .old 3, .old 4, .old 5, .old 6]) (hst.pick [0, 1, 2, 3, 4, 5, 6] rfl) hb Zb
             (o_p rfl (Zca Zbm rfl rfl u_0) <| o_p rfl (Ze Znh rfl rfl u_0) <| o_p rfl (Zf ty_9 rfl rfl u_0) <| o_p rfl (Ze Zs9 rfl rfl u_0) <| o_p rfl (Zf Zbf rfl rfl u_0) <| o_p rfl (Zq Z2d (Zln _ _ _ h15) rfl rfl (.cons u_0 (.cons u_1 (.cons u_2 .nil)))) <| o_p rfl (Za rfl rfl u_0) <| o_p rfl (Z4 rfl rfl u_0 rfl) <| o_p rfl (Z4 rfl rfl u_0 rfl) <| o_p rfl (Z6 Zbm rfl rfl u_1 u_0) <| o_n) (by kernel_rfl) (fun a g hst hb => ?_)
           obtain ⟨r16, h17, H1⟩ := Zh H1
           refine r_g (T := [⟨[.old 2], _, [], [], [53]⟩, ⟨[.old 3], _, [], [], [54]⟩, ⟨[.op 1 0], _, [], [1], [55]⟩, ⟨[.old 3], _, [], [], [56]⟩, ⟨[.op 3 0], _, [], [3], [57]⟩, ⟨[.op 0 0, .op 2 0, .op 4 0], _, [], Lr 5, [58]⟩, ⟨[.op 5 0], _, [], Lr 6, [52]⟩, ⟨[.op 6 0], _, [], Lr 7, [59]⟩, ⟨[.op 6 0], _, [], Lr 7, [60]⟩, ⟨[.op 7 0, .old 2], _, [9], Lr 8, [8]⟩]) (F := [.old 0, .old 1, .op 9 0, .old 4, .old 5, .old 6]) hst hb Zb
             (o_p rfl (Zca Ziw rfl rfl u_0) <| o_p rfl (Ze Znh rfl rfl u_0) <| o_p rfl (Zf ty_9 rfl rfl u_0) <| o_p rfl (Ze Zs9 rfl rfl u_0) <| o_p rfl (Zf Zbf rfl rfl u_0) <| o_p rfl (Zq Z6g (Zma _ _ _ h17) rfl rfl (.cons u_0 (.cons u_1 (.cons u_2 .nil)))) <| o_p rfl (Za rfl rfl u_0) <| o_p rfl (Z4 rfl rfl u_0 rfl) <| o_p rfl (Z4 rfl rfl u_0 rfl) <| o_p rfl (Z6 Ziw rfl rfl u_1 u_0) <| o_n) (by kernel_rfl) (fun a g hst hb => ?_)
           refine Zbr ?_
           refine Zu ?_
           refine r_g (T := [⟨[.old 5], _, [], [], [61]⟩, ⟨[.op 0 0], _, [], [0], [28]⟩]) (F := [.old 0, .old 1, .old 2, .old 3, .old 4, .op 1 0]) hst hb Zb
             (o_p rfl (Zb8 rfl rfl u_0 c_i rfl) <| o_p rfl (Za rfl rfl u_0) <| o_n) (by kernel_rfl) (fun a g hst hb => ?_)
           exact ⟨n, Nat.lt_succ_self _, x4, r14.1, r16.1, (IntKind.i64.wrap (x7 + (1 : Int))), g, rfl, (hst.pick [0, 1, 2, 3, 4, 5] rfl), hb, H1⟩
       · replace H1 := Z0 hc8 H1
         refine wp_exit ?_
         refine Zce ?_
         refine Zce ?_
         refine Zdc ?_
         exact ⟨x4, x5, x6, g, rfl, (hst.pick [0, 1, 2] rfl), hb, Option.some.inj H1⟩
theorem Zqh (a0 : List Zbg) {r : Bool} (h : Zic a0 = some r) : FnOk Tryd.prog 7 [(Zcb.sl.pd a0)] (Zbc r) := by
 have H0 := h
 unfold Zic at H0
 clear h
 refine Zbs (N := 23) Tryd.func7 rfl rfl (Nat.le_of_ble_eq_true rfl) rfl rfl (fun a g0 hst hb => ?_)
 refine r_s (T := [⟨[], _, [], [], [2]⟩]) (F := [.old 0]) hst hb Zb
   (o_p rfl (Zc rfl rfl c_b) <| o_n) (by kernel_rfl) (fun a g hst hb => ?_)
 refine wp_seq ?_
 refine r_s (T := [⟨[.old 0], _, [], [], [5]⟩, ⟨[.op 0 0], _, [], [0], [6]⟩, ⟨[.op 1 0], _, [], [0, 1], [7]⟩]) (F := [.old 0, .op 2 0]) hst hb Zb
   (o_p rfl (Za rfl rfl u_0) <| o_p rfl (Zcj Tryd.underlying23 rfl rfl u_0) <| o_p rfl (Zc0 rfl rfl u_0 c_i) <| o_n) (by kernel_rfl) (fun a g hst hb => ?_)
 refine wp_cond_split (hst.bool 1 rfl) (fun hc1 => ?_) (fun hc1 => ?_)
 · replace H0 := Zz hc1 H0
   refine r_s (L := []) (T := [⟨[], _, [], [], [2]⟩]) (F := [.op 0 0]) (hst.pick [] rfl) hb Zb
     (o_p rfl (Zc rfl rfl c_b) <| o_n) (by kernel_rfl) (fun a g hst hb => ?_)
   refine wp_ret ?_
   refine Zr ?_
   obtain rfl := Option.some.inj H0
   exact Z3 rfl hst hb (Zl (s := 2)) (hst.at 0 rfl)
 · replace H0 := Z0 hc1 H0
   refine wp_skip ?_
   refine Zu ?_
   refine wp_seq ?_
   refine r_s (L := [(0, _)]) (T := [⟨[.old 0], _, [], [], [8]⟩, ⟨[.op 0 0], _, [], [0], [9]⟩, ⟨[], _, [], [], [10]⟩]) (F := [.op 0 0, .op 1 0, .op 2 0]) (hst.pick [0] rfl) hb Zb
     (o_p rfl (Za rfl rfl u_0) <| o_p rfl (Zcj Tryd.underlying23 rfl rfl u_0) <| o_p rfl (Za rfl rfl c_i) <| o_n) (by kernel_rfl) (fun a g hst hb => ?_)
   obtain ⟨z7, hz1, H0⟩ := Zh H0
   refine Zc2 (fun a w => ∃ (g : G), w = g.w ∧ St 23 [] a g ∧ Base g0 g ∧ (.inr ()) = z7) ?_ ?_
   · rintro a w ⟨g, rfl, hst, hb, rfl⟩
     refine Zu ?_
     refine r_s (T := [⟨[], _, [], [], [2]⟩]) (F := [.op 0 0]) hst hb Zb
       (o_p rfl (Zc rfl rfl c_b) <| o_n) (by kernel_rfl) (fun a g hst hb => ?_)
     refine wp_ret ?_
     obtain rfl := Option.some.inj H0
     exact Z3 rfl hst hb (Zl (s := 2)) (hst.at 0 rfl)
   · refine wp_block ?_
     refine wp_loop_ghost (fun n a w => ∃ (x2 : Int) (g : G), w = g.w ∧ St 23 [(8, (Zcb.sl.pd a0)), (9, (pInt .i64 (a0.length : Int))), (10, (pInt .i64 x2))] a g ∧ Base g0 g ∧ Zeb a0 n x2 = some z7) (Int.toNat ((a0.length : Int) - (0 : Int)) + 1) ⟨(0 : Int), g, rfl, (hst.pick [0, 1, 2] rfl), hb, hz1⟩ (fun n a w hI => ?_)
     obtain ⟨x2, g, rfl, hst, hb, H1⟩ := hI
     cases n with
     | zero => exact absurd H1 (by simp [Zeb])
     | succ n =>
       rw [Zeb] at H1
       refine r_s (T := [⟨[.old 2, .old 1], _, [], [], [11]⟩]) (F := [.old 0, .old 1, .old 2, .op 0 0]) hst hb Zb
         (o_p rfl (Zc1 rfl rfl u_0 u_1) <| o_n) (by kernel_rfl) (fun a g hst hb => ?_)
       refine wp_seq ?_
       refine wp_cond_split (hst.bool 3 rfl) (fun hc3 => ?_) (fun hc3 => ?_)
       · replace H1 := Zz hc3 H1
         refine wp_skip ?_
         refine Zu ?_
         refine wp_seq ?_
         refine wp_block ?_
         obtain ⟨e4, h5, H1⟩ := Zh H1
         refine r_s (L := [(8, _), (9, _), (10, _)]) (T := [⟨[.old 0, .old 2], _, [], [], [12]⟩, ⟨[.op 0 0], _, [], [0], [13]⟩, ⟨[], [(4, (pBox Zcb 4 (default : Zbg)))], [5], [], [4]⟩, ⟨[.op 1 0, .op 2 0], _, [5], [0, 1, 2], [4]⟩]) (F := [.op 3 0, .old 0, .old 1, .old 2]) (hst.pick [0, 1, 2] rfl) hb Zb
           (o_p rfl (Zb4 Tryd.underlying23 Z2m rfl rfl u_0 u_1 h5) <| o_p rfl (Zf Zuu rfl rfl u_0) <| o_p rfl (Zbi (zs := [.string ByteArray.empty, .string ByteArray.empty, .int .i64 0]) (by kernel_rfl) (fun g => Zlz g) rfl rfl) <| o_p rfl (Zb9 Zuu rfl rfl u_1 u_0) <| o_n) (by kernel_rfl) (fun a g hst hb => ?_)
         refine r_s (T := [⟨[.old 0], _, [], [], [14]⟩, ⟨[.op 0 0], _, [], [0], [15]⟩, ⟨[.op 1 0], _, [], [0, 1], [16]⟩, ⟨[.old 0], _, [], [], [17]⟩, ⟨[.op 3 0], _, [], [3], [18]⟩, ⟨[.op 4 0], _, [], [3, 4], [19]⟩, ⟨[.op 2 0, .op 5 0], _, [], Lr 6, [20]⟩, ⟨[.op 6 0], _, [], Lr 7, [21]⟩]) (F := [.old 1, .old 2, .old 3, .op 7 0]) hst hb Zb
           (o_p rfl (Ze Zx6 rfl rfl u_0) <| o_p rfl (Zf ty_9 rfl rfl u_0) <| o_p rfl (Zfq Tryd.underlying9 rfl rfl u_0) <| o_p rfl (Ze Zxl rfl rfl u_0) <| o_p rfl (Zf ty_9 rfl rfl u_0) <| o_p rfl (Zfq Tryd.underlying9 rfl rfl u_0) <| o_p rfl (Zb8 rfl rfl u_0 u_1 rfl) <| o_p rfl (Zc0 rfl rfl u_0 c_i) <| o_n) (by kernel_rfl) (fun a g hst hb => ?_)
         refine wp_cond_split (hst.bool 3 rfl) (fun hc6 => ?_) (fun hc6 => ?_)
         · replace H1 := Zz hc6 H1
           refine r_s (L := []) (T := [⟨[], _, [], [], [2]⟩]) (F := [.op 0 0]) (hst.pick [] rfl) hb Zb
             (o_p rfl (Zc rfl rfl c_b) <| o_n) (by kernel_rfl) (fun a g hst hb => ?_)
           refine wp_ret ?_
           refine Z1 ?_
           refine Zr ?_
           refine Zr ?_
           refine Z1 ?_
           refine Zr ?_
           refine Zr ?_
           obtain rfl := Option.some.inj H1
           obtain rfl := Option.some.inj H0
           exact Z3 rfl hst hb (Zl (s := 2)) (hst.at 0 rfl)
         · replace H1 := Z0 hc6 H1
           refine wp_skip ?_
           refine Zbr ?_
           refine Zu ?_
           refine r_g (L := [(8, _), (9, _), (10, _)]) (T := [⟨[.old 2], _, [], [], [22]⟩, ⟨[.op 0 0], _, [], [0], [10]⟩]) (F := [.old 0, .old 1, .op 1 0]) (hst.pick [0, 1, 2] rfl) hb Zb
             (o_p rfl (Zb8 rfl rfl u_0 c_i rfl) <| o_p rfl (Za rfl rfl u_0) <| o_n) (by kernel_rfl) (fun a g hst hb => ?_)
           exact ⟨n, Nat.lt_succ_self _, (IntKind.i64.wrap (x2 + (1 : Int))), g, rfl, (hst.pick [0, 1, 2] rfl), hb, H1⟩
       · replace H1 := Z0 hc3 H1
         refine wp_exit ?_
         refine Zce ?_
         refine Zce ?_
         refine Zdc ?_
         exact ⟨g, rfl, (hst.pick [] rfl), hb, Option.some.inj H1⟩
theorem Zjy (a0 : Zm) (a1 : Int) {r : ByteArray × Zd × Bool} (h : Zf3 a0 a1 = some r) : FnOk Tryd.prog 16 [(Zx.pd a0), (pInt .i64 a1)] (pTup [(pStr r.1), (Zi.pd r.2.1), (Zbc r.2.2)]) := by
 have H0 := h
 unfold Zf3 at H0
 clear h
 refine Zbs (N := 48) Tryd.func16 rfl rfl (Nat.le_of_ble_eq_true rfl) rfl rfl (fun a g0 hst hb => ?_)
 refine r_s (T := [⟨[.old 0], _, [], [], [2]⟩, ⟨[], _, [], [], [4]⟩, ⟨[], [(5, (pBox Zi 5 (default : Zd)))], [6], [], [5]⟩, ⟨[], _, [], [1], [6]⟩]) (F := [.old 1, .op 0 0, .op 2 0]) hst hb Zb
   (o_p rfl (Zbl rfl rfl u_0) <| o_p rfl (Zc rfl rfl c_s) <| o_p rfl (Zbi (zs := [.int .i64 0, .int .i64 0, .int .i64 0, .int .i64 0, .float .f64 0, .int .i64 0, .string ByteArray.empty, .slice none 0 0]) (by kernel_rfl) (fun g => Zb5 g) rfl rfl) <| o_p rfl (Zc rfl rfl c_b) <| o_n) (by kernel_rfl) (fun a g hst hb => ?_)
 refine wp_seq ?_
 refine r_s (T := [⟨[.old 1], _, [], [], [9]⟩, ⟨[.op 0 0], _, [], [0], [10]⟩, ⟨[.op 1 0], _, [], [0, 1], [7]⟩]) (F := [.old 0, .old 2, .op 2 0]) hst hb Zb
   (o_p rfl (Ze Znr rfl rfl u_0) <| o_p rfl (Zf Zcn rfl rfl u_0) <| o_p rfl (Zc rfl rfl u_0) <| o_n) (by kernel_rfl) (fun a g hst hb => ?_)
 obtain ⟨z16, hz1, H0⟩ := Zh H0
 refine Zc2 (fun a w => ∃ (y15 : Zd) (g : G), w = g.w ∧ St 48 [(5, (pBox Zi 5 y15))] a g ∧ Base g0 g ∧ (.inr y15) = z16) ?_ ?_
 · rintro a w ⟨y15, g, rfl, hst, hb, rfl⟩
   refine Zu ?_
   refine r_s (T := [⟨[], _, [], [], [47]⟩, ⟨[], _, [], [], [4]⟩, ⟨[.op 0 0, .old 0], _, [6], [0, 1], [5]⟩, ⟨[], _, [], [0, 1, 2], [6]⟩]) (F := [.op 1 0, .op 2 0, .op 3 0]) hst hb Zb
     (o_p rfl (Zpf rfl rfl ) <| o_p rfl (Zc rfl rfl c_s) <| o_p rfl (Z6 Zbf rfl rfl u_1 u_0) <| o_p rfl (Zc rfl rfl c_b) <| o_n) (by kernel_rfl) (fun a g hst hb => ?_)
   refine wp_ret ?_
   obtain rfl := Option.some.inj H0
   obtain ⟨u1, hu1, hq1⟩ := Zbe (P := Tryd.prog) Zbf (hst.at 1 rfl)
   exact Zjr rfl hst hb (Zl (s := 4)) hu1 (Zl (s := 6)) (Zhv (hst.at 0 rfl) hq1 (hst.at 2 rfl))
 · refine wp_block ?_
   refine wp_loop_ghost (fun n a w => ∃ (x1 : Int) (x2 : Zd) (x3 : shelf_nodeT) (g : G), w = g.w ∧ St 48 [(1, (pInt .i64 x1)), (5, (pBox Zi 5 x2)), (7, (Zy.pd x3))] a g ∧ Base g0 g ∧ Zdd n x1 x2 x3 = some z16) (a0.top.hh + 1) ⟨a1, (default : Zd), a0.top, g, rfl, (hst.pick [0, 1, 2] rfl), hb, hz1⟩ (fun n a w hI => ?_)
   obtain ⟨x1, x2, x3, g, rfl, hst, hb, H1⟩ := hI
   cases n with
   | zero => exact absurd H1 (by simp [Zdd])
   | succ n =>
     rw [Zdd] at H1
     refine wp_seq ?_
     refine r_s (T := [⟨[.old 2], _, [], [], [11]⟩, ⟨[.op 0 0], _, [], [0], [12]⟩]) (F := [.old 0, .old 1, .old 2, .op 1 0]) hst hb Zb
       (o_p rfl (Za rfl rfl u_0) <| o_p rfl (Zvw Tryd.underlying24 rfl rfl u_0 (Zea _)) <| o_n) (by kernel_rfl) (fun a g hst hb => ?_)
     refine wp_cond_split (hst.bool 3 rfl) (fun hc4 => ?_) (fun hc4 => ?_)
     · replace H1 := Zz hc4 H1
       refine wp_skip ?_
       refine Zu ?_
       refine Zc2 (fun a w => ∃ (j13 : Int) (j14 : shelf_nodeT) (g : G), w = g.w ∧ St 48 [(1, (pInt .i64 j13)), (5, (pBox Zi 5 x2)), (7, (Zy.pd j14))] a g ∧ Base g0 g ∧ Zgy x2 (Zdd n) j13 j14 = some z16) ?_ ?_
       · rintro a w ⟨j13, j14, g, rfl, hst, hb, H1⟩
         unfold Zgy at H1
         exact ⟨n, Nat.lt_succ_self _, j13, x2, j14, g, rfl, (hst.pick [0, 1, 2] rfl), hb, H1⟩
       · refine wp_block ?_
         obtain ⟨n5, h6, H1⟩ := Zh H1; obtain ⟨r7, h8, H1⟩ := Zh H1
         refine r_s (L := [(1, _), (5, _), (7, _)]) (T := [⟨[.old 2], _, [], [], [13]⟩, ⟨[.op 0 0], _, [], [0], [14]⟩, ⟨[.op 1 0], _, [], [0, 1], [15]⟩, ⟨[.op 2 0], _, [], [0, 1, 2], [16]⟩, ⟨[.op 3 0], _, [], Lr 4, [17]⟩, ⟨[.op 4 0], _, [], Lr 5, [8]⟩]) (F := [.old 0, .old 1, .old 2, .op 5 0]) (hst.pick [0, 1, 2] rfl) hb Zb
           (o_p rfl (Za rfl rfl u_0) <| o_p rfl (Zn rfl rfl (Opd.imp u_0 (fun _ _ h => Zo h6 h)) (fun _ _ ⟨_, _, _, e, _⟩ => ⟨_, e⟩)) <| o_p rfl (Ze Zd7 rfl rfl u_0) <| o_p rfl (Zf Zcn rfl rfl u_0) <| o_p rfl (Zq Zlg (Zcw _ h8) rfl rfl (.cons u_0 .nil)) <| o_p rfl (Zc rfl rfl u_0) <| o_n) (by kernel_rfl) (fun a g hst hb => ?_)
         refine wp_block ?_
         refine r_s (T := [⟨[.old 0], _, [], [], [28]⟩, ⟨[.old 3], _, [], [], [29]⟩, ⟨[.op 0 0, .op 1 0], _, [], [0, 1], [30]⟩, ⟨[.op 2 0], _, [], [0, 1, 2], [27]⟩]) (F := [.old 0, .old 1, .old 2, .old 3, .op 3 0]) hst hb Zb
           (o_p rfl (Za rfl rfl u_0) <| o_p rfl (Za rfl rfl u_0) <| o_p rfl (Zc1 rfl rfl u_0 u_1) <| o_p rfl (Zc rfl rfl u_0) <| o_n) (by kernel_rfl) (fun a g hst hb => ?_)
         refine wp_cond_split (hst.bool 4 rfl) (fun hc9 => ?_) (fun hc9 => ?_)
         · replace H1 := Zz hc9 H1
           refine r_g (L := [(1, _), (5, _), (7, _)]) (T := [⟨[.old 2], _, [], [], [31]⟩, ⟨[.op 0 0], _, [], [0], [32]⟩, ⟨[.op 1 0], _, [], [0, 1], [33]⟩, ⟨[.op 2 0], _, [], [0, 1, 2], [34]⟩, ⟨[.op 3 0], _, [], Lr 4, [7]⟩]) (F := [.old 0, .old 1, .op 4 0]) (hst.pick [0, 1, 2] rfl) hb Zb
             (o_p rfl (Za rfl rfl u_0) <| o_p rfl (Zn rfl rfl (Opd.imp u_0 (fun _ _ h => Zo h6 h)) (fun _ _ ⟨_, _, _, e, _⟩ => ⟨_, e⟩)) <| o_p rfl (Ze Zd7 rfl rfl u_0) <| o_p rfl (Zf Zcn rfl rfl u_0) <| o_p rfl (Zc rfl rfl u_0) <| o_n) (by kernel_rfl) (fun a g hst hb => ?_)
           refine Zbr ?_
           refine Zbr ?_
           exact ⟨x1, n5.left, g, rfl, (hst.pick [0, 1, 2] rfl), hb, H1⟩
         · replace H1 := Z0 hc9 H1
           refine r_s (L := [(1, _), (5, _), (7, _), (8, _)]) (T := [⟨[.old 0], _, [], [], [36]⟩, ⟨[.old 3], _, [], [], [37]⟩, ⟨[.op 0 0, .op 1 0], _, [], [0, 1], [38]⟩, ⟨[.op 2 0], _, [], [0, 1, 2], [35]⟩]) (F := [.old 0, .old 1, .old 2, .old 3, .op 3 0]) (hst.pick [0, 1, 2, 3] rfl) hb Zb
             (o_p rfl (Za rfl rfl u_0) <| o_p rfl (Za rfl rfl u_0) <| o_p rfl (Zc0 rfl rfl u_0 u_1) <| o_p rfl (Zc rfl rfl u_0) <| o_n) (by kernel_rfl) (fun a g hst hb => ?_)
           refine wp_cond_split (hst.bool 4 rfl) (fun hc10 => ?_) (fun hc10 => ?_)
           · replace H1 := Zz hc10 H1
             refine r_s (L := [(1, _), (5, _), (7, _), (8, _)]) (T := [⟨[.old 0], _, [], [], [39]⟩, ⟨[.old 3], _, [], [], [40]⟩, ⟨[.op 1 0], _, [], [1], [41]⟩, ⟨[.op 0 0, .op 2 0], _, [], [0, 1, 2], [42]⟩, ⟨[.op 3 0], _, [], Lr 4, [1]⟩]) (F := [.op 4 0, .old 1, .old 2]) (hst.pick [0, 1, 2, 3] rfl) hb Zb
               (o_p rfl (Za rfl rfl u_0) <| o_p rfl (Za rfl rfl u_0) <| o_p rfl (Zb8 rfl rfl u_0 c_i rfl) <| o_p rfl (Zja rfl rfl u_0 u_1 rfl) <| o_p rfl (Zc rfl rfl u_0) <| o_n) (by kernel_rfl) (fun a g hst hb => ?_)
             refine r_g (T := [⟨[.old 2], _, [], [], [43]⟩, ⟨[.op 0 0], _, [], [0], [44]⟩, ⟨[.op 1 0], _, [], [0, 1], [45]⟩, ⟨[.op 2 0], _, [], [0, 1, 2], [46]⟩, ⟨[.op 3 0], _, [], Lr 4, [7]⟩]) (F := [.old 0, .old 1, .op 4 0]) hst hb Zb
               (o_p rfl (Za rfl rfl u_0) <| o_p rfl (Zn rfl rfl (Opd.imp u_0 (fun _ _ h => Zo h6 h)) (fun _ _ ⟨_, _, _, e, _⟩ => ⟨_, e⟩)) <| o_p rfl (Ze Zes rfl rfl u_0) <| o_p rfl (Zf Zcn rfl rfl u_0) <| o_p rfl (Zc rfl rfl u_0) <| o_n) (by kernel_rfl) (fun a g hst hb => ?_)
             refine Zbr ?_
             refine Zbr ?_
             exact ⟨(IntKind.i64.wrap (x1 - (IntKind.i64.wrap (r7 + (1 : Int))))), n5.right, g, rfl, (hst.pick [0, 1, 2] rfl), hb, H1⟩
           · replace H1 := Z0 hc10 H1
             obtain ⟨r11, h12, H1⟩ := Zh H1
             refine r_s (L := [(5, _), (7, _)]) (T := ⟨[.old 1], _, [], [], [18]⟩ :: ⟨[.op 0 0], _, [], [0], [19]⟩ :: ⟨[.op 1 0], _, [], [0, 1], [20]⟩ :: ⟨[.op 2 0], _, [], [0, 1, 2], [21]⟩ :: ⟨[.old 1], _, [], [], [22]⟩ :: ⟨[.op 4 0], _, [], [4], [23]⟩ :: ⟨[.op 5 0], _, [], [4, 5], [24]⟩ :: ⟨[.op 6 0], _, [], [4, 5, 6], [25]⟩ :: ⟨[.op 7 0], _, [], List.range' 4 4, [26]⟩ :: ⟨[.op 3 0], _, [], Lr 9, [4]⟩ :: ⟨[.op 8 0, .old 0], _, [6], Lr 10, [5]⟩ :: ⟨[], _, [], Lr 11, [6]⟩ :: []) (F := [.op 9 0, .op 10 0, .op 11 0]) (hst.pick [1, 2] rfl) hb Zb
               (o_p rfl (Za rfl rfl u_0) <| o_p rfl (Zn rfl rfl (Opd.imp u_0 (fun _ _ h => Zo h6 h)) (fun _ _ ⟨_, _, _, e, _⟩ => ⟨_, e⟩)) <| o_p rfl (Ze Zeq rfl rfl u_0) <| o_p rfl (Zf ty_9 rfl rfl u_0) <| o_p rfl (Za rfl rfl u_0) <| o_p rfl (Zn rfl rfl (Opd.imp u_0 (fun _ _ h => Zo h6 h)) (fun _ _ ⟨_, _, _, e, _⟩ => ⟨_, e⟩)) <| o_p rfl (Ze Zhc rfl rfl u_0) <| o_p rfl (Zf Zbf rfl rfl u_0) <| o_p rfl (Zq Zmt (Zgh _ h12) rfl rfl (.cons u_0 .nil)) <| o_p rfl (Zc rfl rfl u_0) <| o_p rfl (Z6 Zbf rfl rfl u_1 u_0) <| o_p rfl (Zc rfl rfl c_b) <| o_n) (by kernel_rfl) (fun a g hst hb => ?_)
             refine wp_ret ?_
             refine Z1 ?_
             refine Z1 ?_
             refine Zr ?_
             refine Zr ?_
             refine Z1 ?_
             refine Zr ?_
             refine Zr ?_
             obtain rfl := Option.some.inj H1
             obtain rfl := Option.some.inj H0
             obtain ⟨u1, hu1, hq1⟩ := Zbe (P := Tryd.prog) Zbf (hst.at 1 rfl)
             exact Zjr rfl hst hb (Zl (s := 4)) hu1 (Zl (s := 6)) (Zhv (hst.at 0 rfl) hq1 (hst.at 2 rfl))
     · replace H1 := Z0 hc4 H1
       refine wp_exit ?_
       refine Zce ?_
       refine Zce ?_
       refine Zdc ?_
       exact ⟨x2, g, rfl, (hst.pick [1] rfl), hb, Option.some.inj H1⟩
theorem Zlr (a0 : Zm) {r : Int} (h : Zgo a0 = some r) : FnOk Tryd.prog 8 [(Zx.pd a0)] (pInt .u64 r) := by
 have H0 := h
 unfold Zgo at H0
 clear h
 refine Zbs (N := 30) Tryd.func8 rfl rfl (Nat.le_of_ble_eq_true rfl) rfl rfl (fun a g0 hst hb => ?_)
 refine r_s (T := [⟨[.old 0], _, [], [], [1]⟩, ⟨[], _, [], [], [2]⟩]) (F := [.op 0 0]) hst hb Zb
   (o_p rfl (Zbl rfl rfl u_0) <| o_p rfl (Zc rfl rfl c_i) <| o_n) (by kernel_rfl) (fun a g hst hb => ?_)
 refine r_s (T := [⟨[], _, [], [], [3]⟩]) (F := [.old 0, .op 0 0]) hst hb Zb
   (o_p rfl (Zc rfl rfl c_i) <| o_n) (by kernel_rfl) (fun a g hst hb => ?_)
 refine wp_seq ?_
 obtain ⟨r1, h2, H0⟩ := Zh H0
 refine r_s (T := [⟨[.old 0], _, [], [], [8]⟩, ⟨[.op 0 0], _, [], [0], [9]⟩, ⟨[], _, [], [], [10]⟩]) (F := [.old 0, .old 1, .op 1 0, .op 2 0]) hst hb Zb
   (o_p rfl (Zf Zbm rfl rfl u_0) <| o_p rfl (Zq Zp8 (Zfb _ h2) rfl rfl (.cons u_0 .nil)) <| o_p rfl (Za rfl rfl c_i) <| o_n) (by kernel_rfl) (fun a g hst hb => ?_)
 obtain ⟨z11, hz1, H0⟩ := Zh H0
 refine Zc2 (fun a w => ∃ (y10 : Int) (g : G), w = g.w ∧ St 30 [(3, (pInt .u64 y10))] a g ∧ Base g0 g ∧ y10 = z11) ?_ ?_
 · rintro a w ⟨y10, g, rfl, hst, hb, rfl⟩
   refine Zu ?_
   refine r_s (T := [⟨[.old 0], _, [], [], [29]⟩, ⟨[.op 0 0], _, [], [0], [2]⟩]) (F := [.op 1 0]) hst hb Zb
     (o_p rfl (Za rfl rfl u_0) <| o_p rfl (Zc rfl rfl u_0) <| o_n) (by kernel_rfl) (fun a g hst hb => ?_)
   refine wp_ret ?_
   obtain rfl := Option.some.inj H0
   exact Z3 rfl hst hb (Zl (s := 2)) (hst.at 0 rfl)
 · refine wp_block ?_
   refine wp_loop_ghost (fun n a w => ∃ (x3 : Int) (x4 : Int) (g : G), w = g.w ∧ St 30 [(1, (Zx.ptr a0)), (3, (pInt .u64 x3)), (9, (pInt .i64 r1)), (10, (pInt .i64 x4))] a g ∧ Base g0 g ∧ Zc6 a0 r1 n x3 x4 = some z11) (Int.toNat (r1 - (0 : Int)) + 1) ⟨(0 : Int), (0 : Int), g, rfl, (hst.pick [0, 1, 2, 3] rfl), hb, hz1⟩ (fun n a w hI => ?_)
   obtain ⟨x3, x4, g, rfl, hst, hb, H1⟩ := hI
   cases n with
   | zero => exact absurd H1 (by simp [Zc6])
   | succ n =>
     rw [Zc6] at H1
     refine r_s (T := [⟨[.old 3, .old 2], _, [], [], [11]⟩]) (F := [.old 0, .old 1, .old 2, .old 3, .op 0 0]) hst hb Zb
       (o_p rfl (Zc1 rfl rfl u_0 u_1) <| o_n) (by kernel_rfl) (fun a g hst hb => ?_)
     refine wp_seq ?_
     refine wp_cond_split (hst.bool 4 rfl) (fun hc5 => ?_) (fun hc5 => ?_)
     · replace H1 := Zz hc5 H1
       refine wp_skip ?_
       refine Zu ?_
       refine wp_seq ?_
       refine Zc2 (fun a w => ∃ (j9 : Int) (g : G), w = g.w ∧ St 30 [(1, (Zx.ptr a0)), (3, (pInt .u64 j9)), (9, (pInt .i64 r1)), (10, (pInt .i64 x4))] a g ∧ Base g0 g ∧ Zgc x4 (Zc6 a0 r1 n) j9 = some z11) ?_ ?_
       · rintro a w ⟨j9, g, rfl, hst, hb, H1⟩
         unfold Zgc at H1
         refine Zu ?_
         refine r_g (T := [⟨[.old 3], _, [], [], [28]⟩, ⟨[.op 0 0], _, [], [0], [10]⟩]) (F := [.old 0, .old 1, .old 2, .op 1 0]) hst hb Zb
           (o_p rfl (Zb8 rfl rfl u_0 c_i rfl) <| o_p rfl (Za rfl rfl u_0) <| o_n) (by kernel_rfl) (fun a g hst hb => ?_)
         exact ⟨n, Nat.lt_succ_self _, j9, (IntKind.i64.wrap (x4 + (1 : Int))), g, rfl, (hst.pick [0, 1, 2, 3] rfl), hb, H1⟩
       · refine wp_block ?_
         refine r_s (L := [(1, _), (3, _), (9, _), (10, _)]) (T := [⟨[.old 3], _, [], [], [12]⟩, ⟨[.op 0 0], _, [], [0], [4]⟩]) (F := [.old 0, .old 1, .op 1 0, .old 2, .old 3]) (hst.pick [0, 1, 2, 3] rfl) hb Zb
           (o_p rfl (Za rfl rfl u_0) <| o_p rfl (Zc rfl rfl u_0) <| o_n) (by kernel_rfl) (fun a g hst hb => ?_)
         obtain ⟨r6, h7, H1⟩ := Zh H1
         refine r_s (T := [⟨[.old 0], _, [], [], [14]⟩, ⟨[.old 2], _, [], [], [15]⟩, ⟨[.op 0 0, .op 1 0], _, [], [0, 1], [16]⟩, ⟨[.op 2 0], _, [], [0, 1, 2], [13]⟩, ⟨[.op 3 0], _, [], Lr 4, [17]⟩, ⟨[.op 3 0], _, [], Lr 4, [18]⟩, ⟨[.op 3 0], _, [], Lr 4, [19]⟩, ⟨[], [(6, (pBox Zi 6 (default : Zd)))], [7], [], [6]⟩, ⟨[.op 4 0], _, [], [0, 1, 2, 3, 4, 7], [5]⟩, ⟨[.op 5 0, .op 7 0], _, [7], [0, 1, 2, 3, 4, 5, 7, 8], [6]⟩, ⟨[.op 6 0], _, [], Lr 10, [7]⟩]) (F := [.old 0, .old 1, .op 9 0, .old 3, .old 4]) hst hb Zb
           (o_p rfl (Zf Zbm rfl rfl u_0) <| o_p rfl (Za rfl rfl u_0) <| o_p rfl (Zq Zzc (Zjy _ _ h7) rfl rfl (.cons u_0 (.cons u_1 .nil))) <| o_p rfl (Za rfl rfl u_0) <| o_p rfl (Z4 rfl rfl u_0 rfl) <| o_p rfl (Z4 rfl rfl u_0 rfl) <| o_p rfl (Z4 rfl rfl u_0 rfl) <| o_p rfl (Zbi (zs := [.int .i64 0, .int .i64 0, .int .i64 0, .int .i64 0, .float .f64 0, .int .i64 0, .string ByteArray.empty, .slice none 0 0]) (by kernel_rfl) (fun g => Zb5 g) rfl rfl) <| o_p rfl (Zc rfl rfl u_0) <| o_p rfl (Zb9 Zbf rfl rfl u_1 u_0) <| o_p rfl (Zc rfl rfl u_0) <| o_n) (by kernel_rfl) (fun a g hst hb => ?_)
         refine r_s (T := [⟨[.old 2], _, [], [], [20]⟩, ⟨[.op 0 0], _, [], [0], [21]⟩, ⟨[.op 1 0], _, [], [0, 1], [22]⟩]) (F := [.old 0, .old 1, .old 2, .old 3, .old 4, .op 2 0]) hst hb Zb
           (o_p rfl (Ze Zfr rfl rfl u_0) <| o_p rfl (Zf ty_3 rfl rfl u_0) <| o_p rfl (Zby rfl rfl u_0 c_i) <| o_n) (by kernel_rfl) (fun a g hst hb => ?_)
         refine wp_cond_split (hst.bool 5 rfl) (fun hc8 => ?_) (fun hc8 => ?_)
         · replace H1 := Zz hc8 H1
           refine r_g (L := [(1, _), (3, _), (6, _), (9, _), (10, _)]) (T := [⟨[.old 1], _, [], [], [23]⟩, ⟨[.old 2], _, [], [], [24]⟩, ⟨[.op 1 0], _, [], [1], [25]⟩, ⟨[.op 2 0], _, [], [1, 2], [26]⟩, ⟨[.op 0 0, .op 3 0], _, [], Lr 4, [27]⟩, ⟨[.op 4 0], _, [], Lr 5, [3]⟩]) (F := [.old 0, .op 5 0, .old 3, .old 4]) (hst.pick [0, 1, 2, 3, 4] rfl) hb Zb
             (o_p rfl (Za rfl rfl u_0) <| o_p rfl (Ze Zd3 rfl rfl u_0) <| o_p rfl (Zf ty_2 rfl rfl u_0) <| o_p rfl (Zs0 Tryd.underlying2 Tryd.underlying35 rfl rfl u_0 rfl) <| o_p rfl (Zb8 rfl rfl u_0 u_1 rfl) <| o_p rfl (Zc rfl rfl u_0) <| o_n) (by kernel_rfl) (fun a g hst hb => ?_)
           refine Zbr ?_
           exact ⟨(IntKind.u64.wrap (x3 + (IntKind.u64.wrap r6.2.1.Num))), g, rfl, (hst.pick [0, 1, 2, 3] rfl), hb, H1⟩
         · replace H1 := Z0 hc8 H1
           refine wp_skip ?_
           refine Zbr ?_
           exact ⟨x3, g, rfl, (hst.pick [0, 1, 3, 4] rfl), hb, H1⟩
     · replace H1 := Z0 hc5 H1
       refine wp_exit ?_
       refine Zce ?_
       refine Zce ?_
       refine Zdc ?_
       exact ⟨x3, g, rfl, (hst.pick [1] rfl), hb, Option.some.inj H1⟩
theorem Zo5 (a0 : List Zbg) {r : List Zbu} (h : Zh0 a0 = some r) : FnOk Tryd.prog 9 [(Zcb.sl.pd a0)] (Zdt.sl.pd r) := by
 have H0 := h
 unfold Zh0 at H0
 clear h
 refine Zbs (N := 29) Tryd.func9 rfl rfl (Nat.le_of_ble_eq_true rfl) rfl rfl (fun a g0 hst hb => ?_)
 refine r_s (T := [⟨[], [(2, (Zdt.sl.pd ([] : List Zbu)))], [], [], [2]⟩]) (F := [.old 0]) hst hb Zb
   (o_p rfl (Zc rfl rfl (Opd.c (fun g => Zkg g))) <| o_n) (by kernel_rfl) (fun a g hst hb => ?_)
 refine r_s (T := [⟨[], [(3, (pRow Zdt 41 3 ([] : List Zbu)))], [], [], [3]⟩]) (F := [.old 0, .op 0 0]) hst hb Zb
   (o_p rfl (Zc rfl rfl (Opd.c (fun g => Zvq 3 g))) <| o_n) (by kernel_rfl) (fun a g hst hb => ?_)
 refine wp_seq ?_
 refine r_s (T := [⟨[.old 0], _, [], [], [6]⟩, ⟨[.op 0 0], _, [], [0], [7]⟩, ⟨[], _, [], [], [8]⟩]) (F := [.old 1, .op 0 0, .op 1 0, .op 2 0]) hst hb Zb
   (o_p rfl (Za rfl rfl u_0) <| o_p rfl (Zcj Tryd.underlying23 rfl rfl u_0) <| o_p rfl (Za rfl rfl c_i) <| o_n) (by kernel_rfl) (fun a g hst hb => ?_)
 obtain ⟨z8, hz1, H0⟩ := Zh H0
 refine Zc2 (fun a w => ∃ (y7 : List Zbu) (g : G), w = g.w ∧ St 29 [(3, (pRow Zdt 41 3 y7))] a g ∧ Base g0 g ∧ y7 = z8) ?_ ?_
 · rintro a w ⟨y7, g, rfl, hst, hb, rfl⟩
   refine Zu ?_
   refine r_s (T := [⟨[.old 0], _, [], [], [28]⟩, ⟨[.op 0 0], _, [], [0], [2]⟩]) (F := [.op 1 0]) hst hb Zb
     (o_p rfl (Za rfl rfl u_0) <| o_p rfl (Zc rfl rfl u_0) <| o_n) (by kernel_rfl) (fun a g hst hb => ?_)
   refine wp_ret ?_
   obtain rfl := Option.some.inj H0
   exact Z3 rfl hst hb (Zl (s := 2)) (Zpn (hst.at 0 rfl))
 · refine wp_block ?_
   refine wp_loop_ghost (fun n a w => ∃ (x1 : List Zbu) (x2 : Int) (g : G), w = g.w ∧ St 29 [(3, (pRow Zdt 41 3 x1)), (6, (Zcb.sl.pd a0)), (7, (pInt .i64 (a0.length : Int))), (8, (pInt .i64 x2))] a g ∧ Base g0 g ∧ Zd2 a0 n x1 x2 = some z8) (Int.toNat ((a0.length : Int) - (0 : Int)) + 1) ⟨([] : List Zbu), (0 : Int), g, rfl, (hst.pick [0, 1, 2, 3] rfl), hb, hz1⟩ (fun n a w hI => ?_)
   obtain ⟨x1, x2, g, rfl, hst, hb, H1⟩ := hI
   cases n with
   | zero => exact absurd H1 (by simp [Zd2])
   | succ n =>
     rw [Zd2] at H1
     refine r_s (T := [⟨[.old 3, .old 2], _, [], [], [9]⟩]) (F := [.old 0, .old 1, .old 2, .old 3, .op 0 0]) hst hb Zb
       (o_p rfl (Zc1 rfl rfl u_0 u_1) <| o_n) (by kernel_rfl) (fun a g hst hb => ?_)
     refine wp_seq ?_
     refine wp_cond_split (hst.bool 4 rfl) (fun hc3 => ?_) (fun hc3 => ?_)
     · replace H1 := Zz hc3 H1
       refine wp_skip ?_
       refine Zu ?_
       refine wp_seq ?_
       refine wp_block ?_
       obtain ⟨e4, h5, H1⟩ := Zh H1
       refine r_s (L := [(3, _), (6, _), (7, _), (8, _)]) (T := [⟨[.old 1, .old 3], _, [], [], [10]⟩, ⟨[.op 0 0], _, [], [0], [11]⟩, ⟨[], [(5, (pBox Zcb 5 (default : Zbg)))], [6], [], [5]⟩, ⟨[.op 1 0, .op 2 0], _, [6], [0, 1, 2], [5]⟩]) (F := [.old 0, .op 3 0, .old 1, .old 2, .old 3]) (hst.pick [0, 1, 2, 3] rfl) hb Zb
         (o_p rfl (Zb4 Tryd.underlying23 Z2m rfl rfl u_0 u_1 h5) <| o_p rfl (Zf Zuu rfl rfl u_0) <| o_p rfl (Zbi (zs := [.string ByteArray.empty, .string ByteArray.empty, .int .i64 0]) (by kernel_rfl) (fun g => Zlz g) rfl rfl) <| o_p rfl (Zb9 Zuu rfl rfl u_1 u_0) <| o_n) (by kernel_rfl) (fun a g hst hb => ?_)
       obtain ⟨h6, H1⟩ := Zj5 H1
       refine r_g (T := ⟨[.old 0], _, [], [], [12]⟩ :: ⟨[.old 1], _, [], [], [13]⟩ :: ⟨[.op 1 0], _, [], [1], [14]⟩ :: ⟨[.old 1], _, [], [], [15]⟩ :: ⟨[.op 3 0], _, [], [3], [16]⟩ :: ⟨[.op 2 0, .op 4 0], _, [], List.range' 1 4, [17]⟩ :: ⟨[.old 1], _, [], [], [18]⟩ :: ⟨[.op 6 0], _, [], [6], [19]⟩ :: ⟨[.old 1], _, [], [], [20]⟩ :: ⟨[.op 8 0], _, [], [8], [21]⟩ :: ⟨[.op 7 0, .op 9 0], _, [], List.range' 6 4, [22]⟩ :: ⟨[.op 5 0, .op 10 0], _, [], List.range' 1 10, [23]⟩ :: ⟨[.op 11 0], _, [], List.range' 1 11, [24]⟩ :: ⟨[.op 12 0], _, [], List.range' 1 12, [25]⟩ :: ⟨[.op 0 0, .op 13 0], _, [4], Lr 14, [3, 12, 26]⟩ :: ⟨[.op 14 0], _, [], Lr 15, [3]⟩ :: []) (F := [.op 15 0, .old 2, .old 3, .old 4]) hst hb Zb
         (o_p rfl (Za rfl rfl u_0) <| o_p rfl (Ze Zx6 rfl rfl u_0) <| o_p rfl (Zf ty_9 rfl rfl u_0) <| o_p rfl (Ze Zxn rfl rfl u_0) <| o_p rfl (Zf ty_2 rfl rfl u_0) <| o_p rfl (Zoo rfl rfl c_i u_0 u_1 c_b) <| o_p rfl (Ze Zxl rfl rfl u_0) <| o_p rfl (Zf ty_9 rfl rfl u_0) <| o_p rfl (Ze Zxn rfl rfl u_0) <| o_p rfl (Zf ty_2 rfl rfl u_0) <| o_p rfl (Zoo rfl rfl c_i u_0 u_1 c_b) <| o_p rfl (Zmr Z6h (xs := [.tmp 17, .tmp 22]) (.cons u_0 (.cons u_1 .nil)) (by decide) rfl rfl) <| o_p rfl (Z3w rfl rfl u_0) <| o_p rfl (Zmr Z2s (xs := [.tmp 24]) (.cons u_0 .nil) (by decide) rfl rfl) <| o_p rfl (Zkp Z2s rfl rfl u_0 u_1 h6) <| o_p rfl (Zc rfl rfl u_0) <| o_n) (by kernel_rfl) (fun a g hst hb => ?_)
       refine Zbr ?_
       refine Zu ?_
       refine r_g (T := [⟨[.old 3], _, [], [], [27]⟩, ⟨[.op 0 0], _, [], [0], [8]⟩]) (F := [.old 0, .old 1, .old 2, .op 1 0]) hst hb Zb
         (o_p rfl (Zb8 rfl rfl u_0 c_i rfl) <| o_p rfl (Za rfl rfl u_0) <| o_n) (by kernel_rfl) (fun a g hst hb => ?_)
       exact ⟨n, Nat.lt_succ_self _, (x1 ++ ([({ Acts := ([({ Kind := (11 : Int), Key := e4.From, N := e4.N, X := (0 : Nat), S := ByteArray.empty, Make := (default : Zd), Must := true } : Zv), ({ Kind := (10 : Int), Key := e4.To, N := e4.N, X := (0 : Nat), S := ByteArray.empty, Make := (default : Zd), Must := true } : Zv)] : List Zv) } : Zbu)] : List Zbu)), (IntKind.i64.wrap (x2 + (1 : Int))), g, rfl, (hst.pick [0, 1, 2, 3] rfl), hb, H1⟩
     · replace H1 := Z0 hc3 H1
       refine wp_exit ?_
       refine Zce ?_
       refine Zce ?_
       refine Zdc ?_
       exact ⟨x1, g, rfl, (hst.pick [0] rfl), hb, Option.some.inj H1⟩
theorem Zth (a0 : Int) {r : Zcr} (h : Zmg a0 = some r) : FnOk Tryd.prog 47 [(pInt .i64 a0)] (Zdu.pd r) := by
 have H0 := h
 unfold Zmg at H0
 clear h
 refine Zbs (N := 13) Tryd.func47 rfl rfl (Nat.le_of_ble_eq_true rfl) rfl rfl (fun a g0 hst hb => ?_)
 refine r_s (T := [⟨[], [(2, (pBox Zdu 2 (default : Zcr)))], [3], [], [2]⟩]) (F := [.old 0, .op 0 0]) hst hb Zb
   (o_p rfl (Zbi (zs := [.string ByteArray.empty, .int .i64 0, .string ByteArray.empty]) (by kernel_rfl) (fun g => Zqy g) rfl rfl) <| o_n) (by kernel_rfl) (fun a g hst hb => ?_)
 refine wp_seq ?_
 refine r_s (T := [⟨[.old 0], _, [], [], [3]⟩, ⟨[.op 0 0], _, [], [0], [4]⟩, ⟨[.op 1 0], _, [], [0, 1], [5]⟩, ⟨[.op 2 0, .old 0], _, [], [0, 1, 2], [6]⟩, ⟨[.op 2 0, .op 3 0], _, [], Lr 4, [7]⟩, ⟨[.op 2 0, .op 4 0], _, [], Lr 5, [8]⟩]) (F := [.old 0, .old 1, .op 5 0]) hst hb Zb
   (o_p rfl (Za rfl rfl u_0) <| o_p rfl (Z2x rfl rfl u_0 c_i) <| o_p rfl (Za rfl rfl u_0) <| o_g (g_f rfl rfl rfl (fun hG => Za rfl rfl u_0)) <| o_g (g_f rfl rfl rfl (fun hG => Zrr rfl rfl (Opd.gd hG u_0) c_i)) <| o_p rfl (Zbx rfl rfl u_0 (fun hz => (Opd.gd (bNF hz) u_1))) <| o_n) (by kernel_rfl) (fun a g hst hb => ?_)
 refine wp_cond_split (hst.bool 2 rfl) (fun hc1 => ?_) (fun hc1 => ?_)
 · replace H0 := Zz hc1 H0
   refine r_s (L := [(2, _)]) (T := [⟨[], _, [], [], [9]⟩, ⟨[.op 0 0, .old 0], _, [3], [0], [2]⟩]) (F := [.op 1 0]) (hst.pick [1] rfl) hb Zb
     (o_p rfl (Z4z rfl rfl ) <| o_p rfl (Z6 Zi0 rfl rfl u_1 u_0) <| o_n) (by kernel_rfl) (fun a g hst hb => ?_)
   refine wp_ret ?_
   refine Zr ?_
   obtain rfl := Option.some.inj H0
   obtain ⟨u0, hu0, hq0⟩ := Zbe (P := Tryd.prog) Zi0 (hst.at 0 rfl)
   exact Z3 rfl hst hb hu0 hq0
 · replace H0 := Z0 hc1 H0
   refine wp_skip ?_
   refine Zu ?_
   obtain ⟨e2, h3, H0⟩ := Zh H0
   refine r_s (L := [(0, _), (2, _)]) (T := [⟨[.old 0], _, [], [], [10]⟩, ⟨[.op 0 0], _, [], [0], [11]⟩, ⟨[.op 1 0], _, [], [0, 1], [12]⟩, ⟨[.op 2 0, .old 1], _, [3], [0, 1, 2], [2]⟩]) (F := [.op 3 0]) (hst.pick [0, 1] rfl) hb Zb
     (o_p rfl (Za rfl rfl u_0) <| o_p rfl (Zwz Tryd.underlying125 Z5c rfl rfl (Opd.glob gm_0 gk_0) u_0 h3) <| o_p rfl (Zf Zi0 rfl rfl u_0) <| o_p rfl (Z6 Zi0 rfl rfl u_1 u_0) <| o_n) (by kernel_rfl) (fun a g hst hb => ?_)
   refine wp_ret ?_
   obtain rfl := Option.some.inj H0
   obtain ⟨u0, hu0, hq0⟩ := Zbe (P := Tryd.prog) Zi0 (hst.at 0 rfl)
   exact Z3 rfl hst hb hu0 hq0
theorem Zf9 (f2 : Nat) (C2 : List Pd) (hC2 : Free C2) (e2_ : Zp Tryd.prog f2) (φ2 : Zj → Zj → Option Bool) (hφ2 : ∀ (y0 : Zj) (y1 : Zj) (r : Bool), φ2 y0 y1 = some r → FnOk Tryd.prog f2 ([(Zt.pd y0), (Zt.pd y1)] ++ C2) (Zbc r)) (a0 : List Zj) (a1 : List Zj) {r : Bool} (h : Zb0 a0 a1 φ2 = some r) : FnOk Tryd.prog 34 [(Zt.sl.pd a0), (Zt.sl.pd a1), (pClo f2 C2 hC2)] (Zbc r) := by
 have H0 := h
 unfold Zb0 at H0
 clear h
 refine Zbs (N := 32) Tryd.func34 rfl rfl (Nat.le_of_ble_eq_true rfl) rfl rfl (fun a g0 hst hb => ?_)
 refine r_s (T := [⟨[], _, [], [], [6]⟩]) (F := [.old 0, .old 1, .old 2]) hst hb Zb
   (o_p rfl (Zc rfl rfl c_b) <| o_n) (by kernel_rfl) (fun a g hst hb => ?_)
 refine wp_seq ?_
 refine r_s (T := [⟨[.old 0], _, [], [], [10]⟩, ⟨[.op 0 0], _, [], [0], [11]⟩, ⟨[.old 1], _, [], [], [12]⟩, ⟨[.op 2 0], _, [], [2], [13]⟩, ⟨[.op 1 0, .op 3 0], _, [], Lr 4, [14]⟩]) (F := [.old 0, .old 1, .old 2, .op 4 0]) hst hb Zb
   (o_p rfl (Za rfl rfl u_0) <| o_p rfl (Zcj Tryd.underlying52 rfl rfl u_0) <| o_p rfl (Za rfl rfl u_0) <| o_p rfl (Zcj Tryd.underlying52 rfl rfl u_0) <| o_p rfl (Zfg rfl rfl u_0 u_1) <| o_n) (by kernel_rfl) (fun a g hst hb => ?_)
 refine wp_cond_split (hst.bool 3 rfl) (fun hc1 => ?_) (fun hc1 => ?_)
 · replace H0 := Zz hc1 H0
   refine r_s (L := []) (T := [⟨[], _, [], [], [6]⟩]) (F := [.op 0 0]) (hst.pick [] rfl) hb Zb
     (o_p rfl (Zc rfl rfl c_b) <| o_n) (by kernel_rfl) (fun a g hst hb => ?_)
   refine wp_ret ?_
   refine Zr ?_
   obtain rfl := Option.some.inj H0
   exact Z3 rfl hst hb (Zl (s := 6)) (hst.at 0 rfl)
 · replace H0 := Z0 hc1 H0
   refine wp_skip ?_
   refine Zu ?_
   refine wp_seq ?_
   refine r_s (L := [(0, _), (1, _), (2, _)]) (T := [⟨[.old 0], _, [], [], [15]⟩, ⟨[.op 0 0], _, [], [0], [16]⟩, ⟨[], _, [], [], [17]⟩]) (F := [.old 1, .old 2, .op 0 0, .op 1 0, .op 2 0]) (hst.pick [0, 1, 2] rfl) hb Zb
     (o_p rfl (Za rfl rfl u_0) <| o_p rfl (Zcj Tryd.underlying52 rfl rfl u_0) <| o_p rfl (Za rfl rfl c_i) <| o_n) (by kernel_rfl) (fun a g hst hb => ?_)
   obtain ⟨z11, hz1, H0⟩ := Zh H0
   refine Zc2 (fun a w => ∃ (g : G), w = g.w ∧ St 32 [] a g ∧ Base g0 g ∧ (.inr ()) = z11) ?_ ?_
   · rintro a w ⟨g, rfl, hst, hb, rfl⟩
     refine Zu ?_
     refine r_s (T := [⟨[], _, [], [], [6]⟩]) (F := [.op 0 0]) hst hb Zb
       (o_p rfl (Zc rfl rfl c_b) <| o_n) (by kernel_rfl) (fun a g hst hb => ?_)
     refine wp_ret ?_
     obtain rfl := Option.some.inj H0
     exact Z3 rfl hst hb (Zl (s := 6)) (hst.at 0 rfl)
   · refine wp_block ?_
     refine wp_loop_ghost (fun n a w => ∃ (x2 : Int) (g : G), w = g.w ∧ St 32 [(1, (Zt.sl.pd a1)), (2, (pClo f2 C2 hC2)), (15, (Zt.sl.pd a0)), (16, (pInt .i64 (a0.length : Int))), (17, (pInt .i64 x2))] a g ∧ Base g0 g ∧ Zbd a0 a1 φ2 n x2 = some z11) (Int.toNat ((a0.length : Int) - (0 : Int)) + 1) ⟨(0 : Int), g, rfl, (hst.pick [0, 1, 2, 3, 4] rfl), hb, hz1⟩ (fun n a w hI => ?_)
     obtain ⟨x2, g, rfl, hst, hb, H1⟩ := hI
     cases n with
     | zero => exact absurd H1 (by simp [Zbd])
     | succ n =>
       rw [Zbd] at H1
       refine r_s (T := [⟨[.old 4, .old 3], _, [], [], [18]⟩]) (F := [.old 0, .old 1, .old 2, .old 3, .old 4, .op 0 0]) hst hb Zb
         (o_p rfl (Zc1 rfl rfl u_0 u_1) <| o_n) (by kernel_rfl) (fun a g hst hb => ?_)
       refine wp_seq ?_
       refine wp_cond_split (hst.bool 5 rfl) (fun hc3 => ?_) (fun hc3 => ?_)
       · replace H1 := Zz hc3 H1
         refine wp_skip ?_
         refine Zu ?_
         refine wp_seq ?_
         refine wp_block ?_
         obtain ⟨e4, h5, H1⟩ := Zh H1
         refine r_s (L := [(1, _), (2, _), (15, _), (16, _), (17, _)]) (T := [⟨[.old 4], _, [], [], [19]⟩, ⟨[.old 2, .old 4], _, [], [], [20]⟩, ⟨[.op 1 0], _, [], [1], [21]⟩, ⟨[], [(8, (pBox Zt 8 (default : Zj)))], [9], [], [8]⟩, ⟨[.op 0 0], _, [], Lr 4, [7]⟩, ⟨[.op 2 0, .op 3 0], _, [9], Lr 5, [8]⟩]) (F := [.old 0, .old 1, .op 4 0, .op 5 0, .old 2, .old 3, .old 4]) (hst.pick [0, 1, 2, 3, 4] rfl) hb Zb
           (o_p rfl (Za rfl rfl u_0) <| o_p rfl (Zb4 Tryd.underlying52 Zi5 rfl rfl u_0 u_1 h5) <| o_p rfl (Zf Zff rfl rfl u_0) <| o_p rfl (Zbi (zs := [.float .f64 0, .string ByteArray.empty]) (by kernel_rfl) (fun g => Zi2 g) rfl rfl) <| o_p rfl (Zc rfl rfl u_0) <| o_p rfl (Zb9 Zff rfl rfl u_1 u_0) <| o_n) (by kernel_rfl) (fun a g hst hb => ?_)
         obtain ⟨e6, h7, H1⟩ := Zh H1
         refine r_s (T := [⟨[.old 0], _, [], [], [22]⟩, ⟨[.old 2], _, [], [], [23]⟩, ⟨[.op 0 0, .op 1 0], _, [], [0, 1], [24]⟩, ⟨[.op 2 0], _, [], [0, 1, 2], [25]⟩, ⟨[], [(9, (pBox Zt 9 (default : Zj)))], [10], [], [9]⟩, ⟨[.op 3 0, .op 4 0], _, [10], Lr 5, [9]⟩]) (F := [.old 0, .old 1, .old 3, .op 5 0, .old 4, .old 5, .old 6]) hst hb Zb
           (o_p rfl (Za rfl rfl u_0) <| o_p rfl (Za rfl rfl u_0) <| o_p rfl (Zb4 Tryd.underlying52 Zi5 rfl rfl u_0 u_1 h7) <| o_p rfl (Zf Zff rfl rfl u_0) <| o_p rfl (Zbi (zs := [.float .f64 0, .string ByteArray.empty]) (by kernel_rfl) (fun g => Zi2 g) rfl rfl) <| o_p rfl (Zb9 Zff rfl rfl u_1 u_0) <| o_n) (by kernel_rfl) (fun a g hst hb => ?_)
         obtain ⟨r8, h9, H1⟩ := Zh H1
         refine r_s (T := [⟨[.old 1], _, [], [], [26]⟩, ⟨[.old 2], _, [], [], [27]⟩, ⟨[.old 3], _, [], [], [28]⟩, ⟨[.op 0 0, .op 1 0, .op 2 0], _, [], [0, 1, 2], [29]⟩, ⟨[.op 3 0], _, [], Lr 4, [30]⟩]) (F := [.old 0, .old 1, .old 4, .old 5, .old 6, .op 4 0]) hst hb Zb
           (o_p rfl (Za rfl rfl u_0) <| o_p rfl (Zf Zff rfl rfl u_0) <| o_p rfl (Zf Zff rfl rfl u_0) <| o_p rfl (Zog e2_ (hφ2 _ _ _ h9) rfl rfl u_0 (.cons u_1 (.cons u_2 .nil))) <| o_p rfl (Zcs rfl rfl u_0) <| o_n) (by kernel_rfl) (fun a g hst hb => ?_)
         refine wp_cond_split (hst.bool 5 rfl) (fun hc10 => ?_) (fun hc10 => ?_)
         · replace H1 := Zz hc10 H1
           refine r_s (L := []) (T := [⟨[], _, [], [], [6]⟩]) (F := [.op 0 0]) (hst.pick [] rfl) hb Zb
             (o_p rfl (Zc rfl rfl c_b) <| o_n) (by kernel_rfl) (fun a g hst hb => ?_)
           refine wp_ret ?_
           refine Z1 ?_
           refine Zr ?_
           refine Zr ?_
           refine Z1 ?_
           refine Zr ?_
           refine Zr ?_
           obtain rfl := Option.some.inj H1
           obtain rfl := Option.some.inj H0
           exact Z3 rfl hst hb (Zl (s := 6)) (hst.at 0 rfl)
         · replace H1 := Z0 hc10 H1
           refine wp_skip ?_
           refine Zbr ?_
           refine Zu ?_
           refine r_g (L := [(1, _), (2, _), (15, _), (16, _), (17, _)]) (T := [⟨[.old 4], _, [], [], [31]⟩, ⟨[.op 0 0], _, [], [0], [17]⟩]) (F := [.old 0, .old 1, .old 2, .old 3, .op 1 0]) (hst.pick [0, 1, 2, 3, 4] rfl) hb Zb
             (o_p rfl (Zb8 rfl rfl u_0 c_i rfl) <| o_p rfl (Za rfl rfl u_0) <| o_n) (by kernel_rfl) (fun a g hst hb => ?_)
           exact ⟨n, Nat.lt_succ_self _, (IntKind.i64.wrap (x2 + (1 : Int))), g, rfl, (hst.pick [0, 1, 2, 3, 4] rfl), hb, H1⟩
       · replace H1 := Z0 hc3 H1
         refine wp_exit ?_
         refine Zce ?_
         refine Zce ?_
         refine Zdc ?_
         exact ⟨g, rfl, (hst.pick [] rfl), hb, Option.some.inj H1⟩
theorem Zul (a0 : Zj) (a1 : Zj) {r : Bool} (h : Zhy a0 a1 = some r) : FnOk Tryd.prog 35 [(Zt.pd a0), (Zt.pd a1)] (Zbc r) := by
 have H0 := h
 unfold Zhy at H0
 clear h
 refine Zbs (N := 17) Tryd.func35 rfl rfl (Nat.le_of_ble_eq_true rfl) rfl rfl (fun a g0 hst hb => ?_)
 refine r_s (T := [⟨[.old 0], _, [], [], [2]⟩, ⟨[.old 1], _, [], [], [3]⟩, ⟨[], _, [], [], [4]⟩]) (F := [.op 0 0, .op 1 0]) hst hb Zb
   (o_p rfl (Zbl rfl rfl u_0) <| o_p rfl (Zbl rfl rfl u_0) <| o_p rfl (Zc rfl rfl c_b) <| o_n) (by kernel_rfl) (fun a g hst hb => ?_)
 obtain ⟨r1, h2, H0⟩ := Zh H0
 refine r_s (T := ⟨[.old 0], _, [], [], [5]⟩ :: ⟨[.op 0 0], _, [], [0], [6]⟩ :: ⟨[.old 1], _, [], [], [7]⟩ :: ⟨[.op 2 0], _, [], [2], [8]⟩ :: ⟨[.op 1 0, .op 3 0], _, [], Lr 4, [9]⟩ :: ⟨[.op 4 0], _, [], Lr 5, [10]⟩ :: ⟨[.op 5 0, .old 0], _, [], Lr 6, [11]⟩ :: ⟨[.op 5 0, .op 6 0], _, [], Lr 7, [12]⟩ :: ⟨[.op 5 0, .old 1], _, [], Lr 6, [13]⟩ :: ⟨[.op 5 0, .op 8 0], _, [], [0, 1, 2, 3, 4, 5, 8], [14]⟩ :: ⟨[.op 5 0, .op 7 0, .op 9 0], _, [], Lr 10, [15]⟩ :: ⟨[.op 5 0, .op 10 0], _, [], Lr 11, [16]⟩ :: ⟨[.op 11 0], _, [], Lr 12, [4]⟩ :: []) (F := [.op 12 0]) hst hb Zb
   (o_p rfl (Ze Zf4 rfl rfl u_0) <| o_p rfl (Zf ty_9 rfl rfl u_0) <| o_p rfl (Ze Zf4 rfl rfl u_0) <| o_p rfl (Zf ty_9 rfl rfl u_0) <| o_p rfl (Zlu rfl rfl u_0 u_1) <| o_p rfl (Za rfl rfl u_0) <| o_g (g_t rfl rfl rfl (fun hG => Ze Zgl rfl rfl u_0)) <| o_g (g_t rfl rfl rfl (fun hG => Zf Ze1 rfl rfl (Opd.gd hG u_0))) <| o_g (g_t rfl rfl rfl (fun hG => Ze Zgl rfl rfl u_0)) <| o_g (g_t rfl rfl rfl (fun hG => Zf Ze1 rfl rfl (Opd.gd hG u_0))) <| o_g (g_t rfl rfl rfl (fun hG => Zq Zp3 (Zi1 _ _ (Zbv h2 hG)) rfl rfl (.cons (Opd.gd hG u_0) (.cons (Opd.gd hG u_1) .nil)))) <| o_p rfl (Zbp rfl rfl u_0 (fun hz => (Opd.gd hz u_1))) <| o_p rfl (Zc rfl rfl u_0) <| o_n) (by kernel_rfl) (fun a g hst hb => ?_)
 refine wp_ret ?_
 obtain rfl := Option.some.inj H0
 exact Z3 rfl hst hb (Zl (s := 4)) (hst.at 0 rfl)
theorem Zqx (a0 : Zd) (a1 : Zd) {r : Bool} (h : Zk9 a0 a1 = some r) : FnOk Tryd.prog 21 [(Zi.pd a0), (Zi.pd a1)] (Zbc r) := by
 have H0 := h
 unfold Zk9 at H0
 clear h
 refine Zbs (N := 59) Tryd.func21 rfl rfl (Nat.le_of_ble_eq_true rfl) rfl rfl (fun a g0 hst hb => ?_)
 refine r_s (T := [⟨[.old 0], _, [], [], [2]⟩, ⟨[.old 1], _, [], [], [3]⟩, ⟨[], _, [], [], [4]⟩]) (F := [.op 0 0, .op 1 0]) hst hb Zb
   (o_p rfl (Zbl rfl rfl u_0) <| o_p rfl (Zbl rfl rfl u_0) <| o_p rfl (Zc rfl rfl c_b) <| o_n) (by kernel_rfl) (fun a g hst hb => ?_)
 obtain ⟨r1, h2, H0⟩ := Zh H0; obtain ⟨r3, h4, H0⟩ := Zh H0
 refine r_s (T := ⟨[.old 0], _, [], [], [5]⟩ :: ⟨[.op 0 0], _, [], [0], [6]⟩ :: ⟨[.old 1], _, [], [], [7]⟩ :: ⟨[.op 2 0], _, [], [2], [8]⟩ :: ⟨[.op 1 0, .op 3 0], _, [], Lr 4, [9]⟩ :: ⟨[.op 4 0], _, [], Lr 5, [10]⟩ :: ⟨[.op 5 0, .old 0], _, [], Lr 6, [11]⟩ :: ⟨[.op 5 0, .op 6 0], _, [], Lr 7, [12]⟩ :: ⟨[.op 5 0, .old 1], _, [], Lr 6, [13]⟩ :: ⟨[.op 5 0, .op 8 0], _, [], [0, 1, 2, 3, 4, 5, 8], [14]⟩ :: ⟨[.op 5 0, .op 7 0, .op 9 0], _, [], Lr 10, [15]⟩ :: ⟨[.op 5 0, .op 10 0], _, [], Lr 11, [16]⟩ :: ⟨[.op 11 0], _, [], Lr 12, [17]⟩ :: ⟨[.op 12 0, .old 0], _, [], Lr 13, [18]⟩ :: ⟨[.op 12 0, .op 13 0], _, [], Lr 14, [19]⟩ :: ⟨[.op 12 0, .old 1], _, [], Lr 13, [20]⟩ :: ⟨[.op 12 0, .op 15 0], _, [], 0 :: 1 :: 2 :: 3 :: 4 :: 5 :: 6 :: 7 :: 8 :: 9 :: 10 :: 11 :: 12 :: 15 :: [], [21]⟩ :: ⟨[.op 12 0, .op 14 0, .op 16 0], _, [], Lr 17, [22]⟩ :: ⟨[.op 12 0, .op 17 0], _, [], Lr 18, [23]⟩ :: ⟨[.op 18 0], _, [], Lr 19, [24]⟩ :: ⟨[.op 19 0, .old 0], _, [], Lr 20, [25]⟩ :: ⟨[.op 19 0, .op 20 0], _, [], Lr 21, [26]⟩ :: ⟨[.op 19 0, .old 1], _, [], Lr 20, [27]⟩ :: ⟨[.op 19 0, .op 22 0], _, [], 0 :: 1 :: 2 :: 3 :: 4 :: 5 :: 6 :: 7 :: 8 :: 9 :: 10 :: 11 :: 12 :: 13 :: 14 :: 15 :: 16 :: 17 :: 18 :: 19 :: 22 :: [], [28]⟩ :: ⟨[.op 19 0, .op 21 0, .op 23 0], _, [], Lr 24, [29]⟩ :: ⟨[.op 19 0, .op 24 0], _, [], Lr 25, [30]⟩ :: ⟨[.op 25 0], _, [], Lr 26, [31]⟩ :: ⟨[.op 26 0, .old 0], _, [], Lr 27, [32]⟩ :: ⟨[.op 26 0, .op 27 0], _, [], Lr 28, [33]⟩ :: ⟨[.op 26 0, .old 1], _, [], Lr 27, [34]⟩ :: ⟨[.op 26 0, .op 29 0], _, [], 0 :: 1 :: 2 :: 3 :: 4 :: 5 :: 6 :: 7 :: 8 :: 9 :: 10 :: 11 :: 12 :: 13 :: 14 :: 15 :: 16 :: 17 :: 18 :: 19 :: 20 :: 21 :: 22 :: 23 :: 24 :: 25 :: 26 :: 29 :: [], [35]⟩ :: ⟨[.op 26 0, .op 28 0, .op 30 0], _, [], Lr 31, [36]⟩ :: ⟨[.op 26 0, .op 31 0], _, [], Lr 32, [37]⟩ :: ⟨[.op 32 0], _, [], Lr 33, [38]⟩ :: ⟨[.op 33 0, .old 0], _, [], Lr 34, [39]⟩ :: ⟨[.op 33 0, .op 34 0], _, [], Lr 35, [40]⟩ :: ⟨[.op 33 0, .old 1], _, [], Lr 34, [41]⟩ :: ⟨[.op 33 0, .op 36 0], _, [], 0 :: 1 :: 2 :: 3 :: 4 :: 5 :: 6 :: 7 :: 8 :: 9 :: 10 :: 11 :: 12 :: 13 :: 14 :: 15 :: 16 :: 17 :: 18 :: 19 :: 20 :: 21 :: 22 :: 23 :: 24 :: 25 :: 26 :: 27 :: 28 :: 29 :: 30 :: 31 :: 32 :: 33 :: 36 :: [], [42]⟩ :: ⟨[.op 33 0, .op 35 0, .op 37 0], _, [], Lr 38, [43]⟩ :: ⟨[.op 33 0, .op 38 0], _, [], Lr 39, [44]⟩ :: ⟨[.op 39 0], _, [], Lr 40, [45]⟩ :: ⟨[.op 40 0, .old 0], _, [], Lr 41, [46]⟩ :: ⟨[.op 40 0, .op 41 0], _, [], Lr 42, [47]⟩ :: ⟨[.op 40 0, .old 1], _, [], Lr 41, [48]⟩ :: ⟨[.op 40 0, .op 43 0], _, [], 0 :: 1 :: 2 :: 3 :: 4 :: 5 :: 6 :: 7 :: 8 :: 9 :: 10 :: 11 :: 12 :: 13 :: 14 :: 15 :: 16 :: 17 :: 18 :: 19 :: 20 :: 21 :: 22 :: 23 :: 24 :: 25 :: 26 :: 27 :: 28 :: 29 :: 30 :: 31 :: 32 :: 33 :: 34 :: 35 :: 36 :: 37 :: 38 :: 39 :: 40 :: 43 :: [], [49]⟩ :: ⟨[.op 40 0, .op 42 0, .op 44 0], _, [], Lr 45, [50]⟩ :: ⟨[.op 40 0, .op 45 0], _, [], Lr 46, [51]⟩ :: ⟨[.op 46 0], _, [], Lr 47, [52]⟩ :: ⟨[.op 47 0, .old 0], _, [], Lr 48, [53]⟩ :: ⟨[.op 47 0, .op 48 0], _, [], Lr 49, [54]⟩ :: ⟨[.op 47 0, .old 1], _, [], Lr 48, [55]⟩ :: ⟨[.op 47 0, .op 50 0], _, [], 0 :: 1 :: 2 :: 3 :: 4 :: 5 :: 6 :: 7 :: 8 :: 9 :: 10 :: 11 :: 12 :: 13 :: 14 :: 15 :: 16 :: 17 :: 18 :: 19 :: 20 :: 21 :: 22 :: 23 :: 24 :: 25 :: 26 :: 27 :: 28 :: 29 :: 30 :: 31 :: 32 :: 33 :: 34 :: 35 :: 36 :: 37 :: 38 :: 39 :: 40 :: 41 :: 42 :: 43 :: 44 :: 45 :: 46 :: 47 :: 50 :: [], [56]⟩ :: ⟨[.op 47 0, .op 49 0, .op 51 0], _, [], Lr 52, [57]⟩ :: ⟨[.op 47 0, .op 52 0], _, [], Lr 53, [58]⟩ :: ⟨[.op 53 0], _, [], Lr 54, [4]⟩ :: []) (F := [.op 54 0]) hst hb Zb
   (o_p rfl (Ze Zfr rfl rfl u_0) <| o_p rfl (Zf ty_3 rfl rfl u_0) <| o_p rfl (Ze Zfr rfl rfl u_0) <| o_p rfl (Zf ty_3 rfl rfl u_0) <| o_p rfl (Zby rfl rfl u_0 u_1) <| o_p rfl (Za rfl rfl u_0) <| o_g (g_t rfl rfl rfl (fun hG => Ze Zd3 rfl rfl u_0)) <| o_g (g_t rfl rfl rfl (fun hG => Zf ty_2 rfl rfl (Opd.gd hG u_0))) <| o_g (g_t rfl rfl rfl (fun hG => Ze Zd3 rfl rfl u_0)) <| o_g (g_t rfl rfl rfl (fun hG => Zf ty_2 rfl rfl (Opd.gd hG u_0))) <| o_g (g_t rfl rfl rfl (fun hG => Zby rfl rfl (Opd.gd hG u_0) (Opd.gd hG u_1))) <| o_p rfl (Zbp rfl rfl u_0 (fun hz => (Opd.gd hz u_1))) <| o_p rfl (Za rfl rfl u_0) <| o_g (g_t rfl rfl rfl (fun hG => Ze Zjm rfl rfl u_0)) <| o_g (g_t rfl rfl rfl (fun hG => Zf ty_2 rfl rfl (Opd.gd hG u_0))) <| o_g (g_t rfl rfl rfl (fun hG => Ze Zjm rfl rfl u_0)) <| o_g (g_t rfl rfl rfl (fun hG => Zf ty_2 rfl rfl (Opd.gd hG u_0))) <| o_g (g_t rfl rfl rfl (fun hG => Zby rfl rfl (Opd.gd hG u_0) (Opd.gd hG u_1))) <| o_p rfl (Zbp rfl rfl u_0 (fun hz => (Opd.gd hz u_1))) <| o_p rfl (Za rfl rfl u_0) <| o_g (g_t rfl rfl rfl (fun hG => Ze Zjp rfl rfl u_0)) <| o_g (g_t rfl rfl rfl (fun hG => Zf ty_2 rfl rfl (Opd.gd hG u_0))) <| o_g (g_t rfl rfl rfl (fun hG => Ze Zjp rfl rfl u_0)) <| o_g (g_t rfl rfl rfl (fun hG => Zf ty_2 rfl rfl (Opd.gd hG u_0))) <| o_g (g_t rfl rfl rfl (fun hG => Zby rfl rfl (Opd.gd hG u_0) (Opd.gd hG u_1))) <| o_p rfl (Zbp rfl rfl u_0 (fun hz => (Opd.gd hz u_1))) <| o_p rfl (Za rfl rfl u_0) <| o_g (g_t rfl rfl rfl (fun hG => Ze Zkr rfl rfl u_0)) <| o_g (g_t rfl rfl rfl (fun hG => Zf Ze1 rfl rfl (Opd.gd hG u_0))) <| o_g (g_t rfl rfl rfl (fun hG => Ze Zkr rfl rfl u_0)) <| o_g (g_t rfl rfl rfl (fun hG => Zf Ze1 rfl rfl (Opd.gd hG u_0))) <| o_g (g_t rfl rfl rfl (fun hG => Zq Zp3 (Zi1 _ _ (Zbv h2 hG)) rfl rfl (.cons (Opd.gd hG u_0) (.cons (Opd.gd hG u_1) .nil)))) <| o_p rfl (Zbp rfl rfl u_0 (fun hz => (Opd.gd hz u_1))) <| o_p rfl (Za rfl rfl u_0) <| o_g (g_t rfl rfl rfl (fun hG => Ze Zhm rfl rfl u_0)) <| o_g (g_t rfl rfl rfl (fun hG => Zf ty_3 rfl rfl (Opd.gd hG u_0))) <| o_g (g_t rfl rfl rfl (fun hG => Ze Zhm rfl rfl u_0)) <| o_g (g_t rfl rfl rfl (fun hG => Zf ty_3 rfl rfl (Opd.gd hG u_0))) <| o_g (g_t rfl rfl rfl (fun hG => Zby rfl rfl (Opd.gd hG u_0) (Opd.gd hG u_1))) <| o_p rfl (Zbp rfl rfl u_0 (fun hz => (Opd.gd hz u_1))) <| o_p rfl (Za rfl rfl u_0) <| o_g (g_t rfl rfl rfl (fun hG => Ze Zjl rfl rfl u_0)) <| o_g (g_t rfl rfl rfl (fun hG => Zf ty_9 rfl rfl (Opd.gd hG u_0))) <| o_g (g_t rfl rfl rfl (fun hG => Ze Zjl rfl rfl u_0)) <| o_g (g_t rfl rfl rfl (fun hG => Zf ty_9 rfl rfl (Opd.gd hG u_0))) <| o_g (g_t rfl rfl rfl (fun hG => Zlu rfl rfl (Opd.gd hG u_0) (Opd.gd hG u_1))) <| o_p rfl (Zbp rfl rfl u_0 (fun hz => (Opd.gd hz u_1))) <| o_p rfl (Za rfl rfl u_0) <| o_g (g_t rfl rfl rfl (fun hG => Ze Zc8 rfl rfl u_0)) <| o_g (g_t rfl rfl rfl (fun hG => Zf Zer rfl rfl (Opd.gd hG u_0))) <| o_g (g_t rfl rfl rfl (fun hG => Ze Zc8 rfl rfl u_0)) <| o_g (g_t rfl rfl rfl (fun hG => Zf Zer rfl rfl (Opd.gd hG u_0))) <| o_g (g_t rfl rfl rfl (fun hG => Zq Z8b (Zf9 35 [] rfl Z7r (fun y0 y1 => Zhy y0 y1) (fun y0 y1 r h => Zul y0 y1 h) _ _ (Zbv h4 hG)) rfl rfl (.cons (Opd.gd hG u_0) (.cons (Opd.gd hG u_1) (.cons Opd.fnc .nil))))) <| o_p rfl (Zbp rfl rfl u_0 (fun hz => (Opd.gd hz u_1))) <| o_p rfl (Zc rfl rfl u_0) <| o_n) (by kernel_rfl) (fun a g hst hb => ?_)
 refine wp_ret ?_
 obtain rfl := Option.some.inj H0
 exact Z3 rfl hst hb (Zl (s := 4)) (hst.at 0 rfl)
theorem Zh7 (a0 : Zcr) (a1 : Int) {r : Bool} (h : Zct a0 a1 = some r) : FnOk Tryd.prog 62 [(Zdu.pd a0), (pInt .u8 a1)] (Zbc r) := by
 have H0 := h
 unfold Zct at H0
 clear h
 refine Zbs (N := 19) Tryd.func62 rfl rfl (Nat.le_of_ble_eq_true rfl) rfl rfl (fun a g0 hst hb => ?_)
 refine r_s (T := [⟨[.old 0], _, [], [], [2]⟩, ⟨[], _, [], [], [4]⟩]) (F := [.old 1, .op 0 0]) hst hb Zb
   (o_p rfl (Zbl rfl rfl u_0) <| o_p rfl (Zc rfl rfl c_b) <| o_n) (by kernel_rfl) (fun a g hst hb => ?_)
 refine wp_seq ?_
 refine r_s (T := [⟨[.old 1], _, [], [], [6]⟩, ⟨[.op 0 0], _, [], [0], [7]⟩, ⟨[.op 1 0], _, [], [0, 1], [8]⟩, ⟨[], _, [], [], [9]⟩]) (F := [.old 0, .old 1, .op 2 0, .op 3 0]) hst hb Zb
   (o_p rfl (Ze Zwc rfl rfl u_0) <| o_p rfl (Zf ty_9 rfl rfl u_0) <| o_p rfl (Zfq Tryd.underlying9 rfl rfl u_0) <| o_p rfl (Za rfl rfl c_i) <| o_n) (by kernel_rfl) (fun a g hst hb => ?_)
 obtain ⟨z6, hz1, H0⟩ := Zh H0
 refine Zc2 (fun a w => ∃ (g : G), w = g.w ∧ St 19 [] a g ∧ Base g0 g ∧ (.inr ()) = z6) ?_ ?_
 · rintro a w ⟨g, rfl, hst, hb, rfl⟩
   refine Zu ?_
   refine r_s (T := [⟨[], _, [], [], [4]⟩]) (F := [.op 0 0]) hst hb Zb
     (o_p rfl (Zc rfl rfl c_b) <| o_n) (by kernel_rfl) (fun a g hst hb => ?_)
   refine wp_ret ?_
   obtain rfl := Option.some.inj H0
   exact Z3 rfl hst hb (Zl (s := 4)) (hst.at 0 rfl)
 · refine wp_block ?_
   refine wp_loop_ghost (fun n a w => ∃ (x1 : Int) (g : G), w = g.w ∧ St 19 [(1, (pInt .u8 a1)), (2, (Zdu.ptr a0)), (8, (pInt .i64 (a0.has.size : Int))), (9, (pInt .i64 x1))] a g ∧ Base g0 g ∧ Zgw a0 a1 n x1 = some z6) (Int.toNat ((a0.has.size : Int) - (0 : Int)) + 1) ⟨(0 : Int), g, rfl, (hst.pick [0, 1, 2, 3] rfl), hb, hz1⟩ (fun n a w hI => ?_)
   obtain ⟨x1, g, rfl, hst, hb, H1⟩ := hI
   cases n with
   | zero => exact absurd H1 (by simp [Zgw])
   | succ n =>
     rw [Zgw] at H1
     refine r_s (T := [⟨[.old 3, .old 2], _, [], [], [10]⟩]) (F := [.old 0, .old 1, .old 2, .old 3, .op 0 0]) hst hb Zb
       (o_p rfl (Zc1 rfl rfl u_0 u_1) <| o_n) (by kernel_rfl) (fun a g hst hb => ?_)
     refine wp_seq ?_
     refine wp_cond_split (hst.bool 4 rfl) (fun hc2 => ?_) (fun hc2 => ?_)
     · replace H1 := Zz hc2 H1
       refine wp_skip ?_
       refine Zu ?_
       refine wp_seq ?_
       refine wp_block ?_
       refine r_s (L := [(1, _), (2, _), (8, _), (9, _)]) (T := [⟨[.old 3], _, [], [], [11]⟩, ⟨[.op 0 0], _, [], [0], [5]⟩]) (F := [.old 0, .old 1, .op 1 0, .old 2, .old 3]) (hst.pick [0, 1, 2, 3] rfl) hb Zb
         (o_p rfl (Za rfl rfl u_0) <| o_p rfl (Zc rfl rfl u_0) <| o_n) (by kernel_rfl) (fun a g hst hb => ?_)
       obtain ⟨b3, h4, H1⟩ := Zh H1
       refine r_s (T := [⟨[.old 1], _, [], [], [12]⟩, ⟨[.op 0 0], _, [], [0], [13]⟩, ⟨[.old 2], _, [], [], [14]⟩, ⟨[.op 1 0, .op 2 0], _, [], [0, 1, 2], [15]⟩, ⟨[.old 0], _, [], [], [16]⟩, ⟨[.op 3 0, .op 4 0], _, [], Lr 5, [17]⟩]) (F := [.old 0, .old 1, .old 3, .old 4, .op 5 0]) hst hb Zb
         (o_p rfl (Ze Zwc rfl rfl u_0) <| o_p rfl (Zf ty_9 rfl rfl u_0) <| o_p rfl (Za rfl rfl u_0) <| o_p rfl (Zl7 Tryd.underlying9 rfl rfl u_0 u_1 h4) <| o_p rfl (Za rfl rfl u_0) <| o_p rfl (Zby rfl rfl u_0 u_1) <| o_n) (by kernel_rfl) (fun a g hst hb => ?_)
       refine wp_cond_split (hst.bool 4 rfl) (fun hc5 => ?_) (fun hc5 => ?_)
       · replace H1 := Zz hc5 H1
         refine r_s (L := []) (T := [⟨[], _, [], [], [4]⟩]) (F := [.op 0 0]) (hst.pick [] rfl) hb Zb
           (o_p rfl (Zc rfl rfl c_b) <| o_n) (by kernel_rfl) (fun a g hst hb => ?_)
         refine wp_ret ?_
         refine Z1 ?_
         refine Zr ?_
         refine Zr ?_
         refine Z1 ?_
         refine Zr ?_
         refine Zr ?_
         obtain rfl := Option.some.inj H1
         obtain rfl := Option.some.inj H0
         exact Z3 rfl hst hb (Zl (s := 4)) (hst.at 0 rfl)
       · replace H1 := Z0 hc5 H1
         refine wp_skip ?_
         refine Zbr ?_
         refine Zu ?_
         refine r_g (L := [(1, _), (2, _), (8, _), (9, _)]) (T := [⟨[.old 3], _, [], [], [18]⟩, ⟨[.op 0 0], _, [], [0], [9]⟩]) (F := [.old 0, .old 1, .old 2, .op 1 0]) (hst.pick [0, 1, 2, 3] rfl) hb Zb
           (o_p rfl (Zb8 rfl rfl u_0 c_i rfl) <| o_p rfl (Za rfl rfl u_0) <| o_n) (by kernel_rfl) (fun a g hst hb => ?_)
         exact ⟨n, Nat.lt_succ_self _, (IntKind.i64.wrap (x1 + (1 : Int))), g, rfl, (hst.pick [0, 1, 2, 3] rfl), hb, H1⟩
     · replace H1 := Z0 hc2 H1
       refine wp_exit ?_
       refine Zce ?_
       refine Zce ?_
       refine Zdc ?_
       exact ⟨g, rfl, (hst.pick [] rfl), hb, Option.some.inj H1⟩
theorem Zwp (a0 : Zv) (a1 : Zcr) {r : Bool} (h : Zn8 a0 a1 = some r) : FnOk Tryd.prog 48 [(Zbb.pd a0), (Zdu.pd a1)] (Zbc r) := by
 have H0 := h
 unfold Zn8 at H0
 clear h
 refine Zbs (N := 40) Tryd.func48 rfl rfl (Nat.le_of_ble_eq_true rfl) rfl rfl (fun a g0 hst hb => ?_)
 refine r_s (T := [⟨[.old 0], _, [], [], [2]⟩, ⟨[.old 1], _, [], [], [3]⟩, ⟨[], _, [], [], [4]⟩]) (F := [.op 0 0, .op 1 0]) hst hb Zb
   (o_p rfl (Zbl rfl rfl u_0) <| o_p rfl (Zbl rfl rfl u_0) <| o_p rfl (Zc rfl rfl c_b) <| o_n) (by kernel_rfl) (fun a g hst hb => ?_)
 obtain ⟨r1, h2, H0⟩ := Zh H0; obtain ⟨r3, h4, H0⟩ := Zh H0; obtain ⟨r5, h6, H0⟩ := Zh H0; obtain ⟨r7, h8, H0⟩ := Zh H0; obtain ⟨r9, h10, H0⟩ := Zh H0; obtain ⟨r11, h12, H0⟩ := Zh H0
 refine r_s (T := ⟨[.old 1], _, [], [], [5]⟩ :: ⟨[.op 0 0], _, [], [0], [6]⟩ :: ⟨[.op 1 0], _, [], [0, 1], [7]⟩ :: ⟨[.op 2 0, .old 0], _, [], [0, 1, 2], [8]⟩ :: ⟨[.op 2 0, .op 3 0], _, [], Lr 4, [9]⟩ :: ⟨[.op 2 0, .op 4 0], _, [], Lr 5, [10]⟩ :: ⟨[.op 2 0, .op 5 0], _, [], Lr 6, [11]⟩ :: ⟨[.op 6 0], _, [], Lr 7, [12]⟩ :: ⟨[.op 7 0, .old 1], _, [], Lr 8, [13]⟩ :: ⟨[.op 7 0, .op 8 0], _, [], Lr 9, [14]⟩ :: ⟨[.op 7 0, .op 9 0], _, [], Lr 10, [15]⟩ :: ⟨[.op 10 0, .old 0], _, [], Lr 11, [16]⟩ :: ⟨[.op 10 0, .op 11 0], _, [], Lr 12, [17]⟩ :: ⟨[.op 10 0, .op 12 0], _, [], Lr 13, [18]⟩ :: ⟨[.op 7 0, .op 10 0, .op 13 0], _, [], Lr 14, [19]⟩ :: ⟨[.op 7 0, .op 14 0], _, [], Lr 15, [20]⟩ :: ⟨[.op 15 0], _, [], Lr 16, [21]⟩ :: ⟨[.op 16 0, .old 1], _, [], Lr 17, [22]⟩ :: ⟨[.op 16 0, .op 17 0], _, [], Lr 18, [23]⟩ :: ⟨[.op 16 0, .op 18 0], _, [], Lr 19, [24]⟩ :: ⟨[.op 19 0, .old 0], _, [], Lr 20, [25]⟩ :: ⟨[.op 19 0, .op 20 0], _, [], Lr 21, [26]⟩ :: ⟨[.op 19 0, .op 21 0], _, [], Lr 22, [27]⟩ :: ⟨[.op 16 0, .op 19 0, .op 22 0], _, [], Lr 23, [28]⟩ :: ⟨[.op 16 0, .op 23 0], _, [], Lr 24, [29]⟩ :: ⟨[.op 24 0], _, [], Lr 25, [30]⟩ :: ⟨[.op 25 0, .old 1], _, [], Lr 26, [31]⟩ :: ⟨[.op 25 0, .op 26 0], _, [], Lr 27, [32]⟩ :: ⟨[.op 25 0, .op 27 0], _, [], Lr 28, [33]⟩ :: ⟨[.op 28 0, .old 0], _, [], Lr 29, [34]⟩ :: ⟨[.op 28 0, .op 29 0], _, [], Lr 30, [35]⟩ :: ⟨[.op 28 0], _, [], Lr 29, [36]⟩ :: ⟨[.op 28 0, .op 30 0, .op 31 0], _, [], Lr 32, [37]⟩ :: ⟨[.op 25 0, .op 28 0, .op 32 0], _, [], Lr 33, [38]⟩ :: ⟨[.op 25 0, .op 33 0], _, [], Lr 34, [39]⟩ :: ⟨[.op 34 0], _, [], Lr 35, [4]⟩ :: []) (F := [.op 35 0]) hst hb Zb
   (o_p rfl (Zf Zi0 rfl rfl u_0) <| o_p rfl (Zq Zuq (Zh7 _ _ h2) rfl rfl (.cons u_0 (.cons c_i .nil))) <| o_p rfl (Za rfl rfl u_0) <| o_g (g_f rfl rfl rfl (fun hG => Ze Zgs rfl rfl u_0)) <| o_g (g_f rfl rfl rfl (fun hG => Zf ty_2 rfl rfl (Opd.gd hG u_0))) <| o_g (g_f rfl rfl rfl (fun hG => Zby rfl rfl (Opd.gd hG u_0) c_i)) <| o_p rfl (Zbx rfl rfl u_0 (fun hz => (Opd.gd (bNF hz) u_1))) <| o_p rfl (Za rfl rfl u_0) <| o_g (g_t rfl rfl rfl (fun hG => Zf Zi0 rfl rfl u_0)) <| o_g (g_t rfl rfl rfl (fun hG => Zq Zuq (Zh7 _ _ (Zbv h4 hG)) rfl rfl (.cons (Opd.gd hG u_0) (.cons c_i .nil)))) <| o_g (g_t rfl rfl rfl (fun hG => Za rfl rfl (Opd.gd hG u_0))) <| o_g (g_fi rfl rfl rfl (fun hG => Ze Zqb rfl rfl u_0)) <| o_g (g_fi rfl rfl rfl (fun hG => Zf Ze1 rfl rfl (Opd.gd hG u_0))) <| o_g (g_fi rfl rfl rfl (fun hG => Zq Zp3 (Zi1 _ _ (Zbv h6 hG)) rfl rfl (.cons (Opd.gd hG u_0) (.cons c_f .nil)))) <| o_g (g_t rfl rfl rfl (fun hG => Zbx rfl rfl (Opd.gd hG u_0) (fun hz => (Opd.gd (bA hG (bNF hz)) u_1)))) <| o_p rfl (Zbp rfl rfl u_0 (fun hz => (Opd.gd hz u_1))) <| o_p rfl (Za rfl rfl u_0) <| o_g (g_t rfl rfl rfl (fun hG => Zf Zi0 rfl rfl u_0)) <| o_g (g_t rfl rfl rfl (fun hG => Zq Zuq (Zh7 _ _ (Zbv h8 hG)) rfl rfl (.cons (Opd.gd hG u_0) (.cons c_i .nil)))) <| o_g (g_t rfl rfl rfl (fun hG => Za rfl rfl (Opd.gd hG u_0))) <| o_g (g_fi rfl rfl rfl (fun hG => Ze Zju rfl rfl u_0)) <| o_g (g_fi rfl rfl rfl (fun hG => Zf ty_9 rfl rfl (Opd.gd hG u_0))) <| o_g (g_fi rfl rfl rfl (fun hG => Zlu rfl rfl (Opd.gd hG u_0) c_s)) <| o_g (g_t rfl rfl rfl (fun hG => Zbx rfl rfl (Opd.gd hG u_0) (fun hz => (Opd.gd (bA hG (bNF hz)) u_1)))) <| o_p rfl (Zbp rfl rfl u_0 (fun hz => (Opd.gd hz u_1))) <| o_p rfl (Za rfl rfl u_0) <| o_g (g_t rfl rfl rfl (fun hG => Zf Zi0 rfl rfl u_0)) <| o_g (g_t rfl rfl rfl (fun hG => Zq Zuq (Zh7 _ _ (Zbv h10 hG)) rfl rfl (.cons (Opd.gd hG u_0) (.cons c_i .nil)))) <| o_g (g_t rfl rfl rfl (fun hG => Za rfl rfl (Opd.gd hG u_0))) <| o_g (g_fi rfl rfl rfl (fun hG => Ze Zte rfl rfl u_0)) <| o_g (g_fi rfl rfl rfl (fun hG => Zf Zbf rfl rfl (Opd.gd hG u_0))) <| o_g (g_fi rfl rfl rfl (fun hG => Zpf rfl rfl )) <| o_g (g_fi rfl rfl rfl (fun hG => Zq Z2j (Zqx _ _ (Zbv h12 hG)) rfl rfl (.cons (Opd.gd hG u_0) (.cons (Opd.gd hG u_1) .nil)))) <| o_g (g_t rfl rfl rfl (fun hG => Zbx rfl rfl (Opd.gd hG u_0) (fun hz => (Opd.gd (bA hG (bNF hz)) u_1)))) <| o_p rfl (Zbp rfl rfl u_0 (fun hz => (Opd.gd hz u_1))) <| o_p rfl (Zc rfl rfl u_0) <| o_n) (by kernel_rfl) (fun a g hst hb => ?_)
 refine wp_ret ?_
 obtain rfl := Option.some.inj H0
 exact Z3 rfl hst hb (Zl (s := 4)) (hst.at 0 rfl)
theorem Zw6 (a0 : Zcr) {r : Int} (h : Zob a0 = some r) : FnOk Tryd.prog 49 [(Zdu.pd a0)] (pInt .i64 r) := by
 have H0 := h
 unfold Zob at H0
 clear h
 refine Zbs (N := 6) Tryd.func49 rfl rfl (Nat.le_of_ble_eq_true rfl) rfl rfl (fun a g0 hst hb => ?_)
 refine r_s (T := [⟨[.old 0], _, [], [], [1]⟩, ⟨[], _, [], [], [2]⟩]) (F := [.op 0 0]) hst hb Zb
   (o_p rfl (Zbl rfl rfl u_0) <| o_p rfl (Zc rfl rfl c_i) <| o_n) (by kernel_rfl) (fun a g hst hb => ?_)
 refine wp_seq ?_
 refine r_s (T := [⟨[.old 0], _, [], [], [3]⟩, ⟨[.op 0 0], _, [], [0], [4]⟩, ⟨[.op 1 0], _, [], [0, 1], [5]⟩]) (F := [.op 2 0]) hst hb Zb
   (o_p rfl (Ze Zvx rfl rfl u_0) <| o_p rfl (Zf ty_3 rfl rfl u_0) <| o_p rfl (Zby rfl rfl u_0 c_i) <| o_n) (by kernel_rfl) (fun a g hst hb => ?_)
 refine wp_cond_split (hst.bool 0 rfl) (fun hc1 => ?_) (fun hc1 => ?_)
 · replace H0 := Zz hc1 H0
   refine r_s (L := []) (T := [⟨[], _, [], [], [2]⟩]) (F := [.op 0 0]) (hst.pick [] rfl) hb Zb
     (o_p rfl (Zc rfl rfl c_i) <| o_n) (by kernel_rfl) (fun a g hst hb => ?_)
   refine wp_ret ?_
   refine Zr ?_
   obtain rfl := Option.some.inj H0
   exact Z3 rfl hst hb (Zl (s := 2)) (hst.at 0 rfl)
 · replace H0 := Z0 hc1 H0
   refine wp_skip ?_
   refine Zu ?_
   refine r_s (L := []) (T := [⟨[], _, [], [], [2]⟩]) (F := [.op 0 0]) (hst.pick [] rfl) hb Zb
     (o_p rfl (Zc rfl rfl c_i) <| o_n) (by kernel_rfl) (fun a g hst hb => ?_)
   refine wp_ret ?_
   obtain rfl := Option.some.inj H0
   exact Z3 rfl hst hb (Zl (s := 2)) (hst.at 0 rfl)
theorem Zo3 (a0 : Zv) {r : Int} (h : Zgf a0 = some r) : FnOk Tryd.prog 29 [(Zbb.pd a0)] (pInt .i64 r) := by
 have H0 := h
 unfold Zgf at H0
 clear h
 refine Zbs (N := 64) Tryd.func29 rfl rfl (Nat.le_of_ble_eq_true rfl) rfl rfl (fun a g0 hst hb => ?_)
 refine r_s (T := [⟨[.old 0], _, [], [], [1]⟩, ⟨[], _, [], [], [2]⟩]) (F := [.op 0 0]) hst hb Zb
   (o_p rfl (Zbl rfl rfl u_0) <| o_p rfl (Zc rfl rfl c_i) <| o_n) (by kernel_rfl) (fun a g hst hb => ?_)
 obtain ⟨r1, h2, H0⟩ := Zh H0
 refine r_s (T := [⟨[.old 0], _, [], [], [4]⟩, ⟨[.op 0 0], _, [], [0], [5]⟩, ⟨[.op 1 0], _, [], [0, 1], [6]⟩, ⟨[], [(3, (pBox Zdu 3 (default : Zcr)))], [4], [], [3]⟩, ⟨[.op 2 0, .op 3 0], _, [4], Lr 4, [3]⟩]) (F := [.old 0, .op 4 0]) hst hb Zb
   (o_p rfl (Ze Zhl rfl rfl u_0) <| o_p rfl (Zf ty_3 rfl rfl u_0) <| o_p rfl (Zq Z2y (Zth _ h2) rfl rfl (.cons u_0 .nil)) <| o_p rfl (Zbi (zs := [.string ByteArray.empty, .int .i64 0, .string ByteArray.empty]) (by kernel_rfl) (fun g => Zqy g) rfl rfl) <| o_p rfl (Zb9 Zi0 rfl rfl u_1 u_0) <| o_n) (by kernel_rfl) (fun a g hst hb => ?_)
 refine wp_seq ?_
 refine wp_block ?_
 refine r_s (T := [⟨[.old 1], _, [], [], [8]⟩, ⟨[.op 0 0], _, [], [0], [9]⟩, ⟨[.op 1 0], _, [], [0, 1], [10]⟩, ⟨[.op 2 0], _, [], [0, 1, 2], [7]⟩]) (F := [.old 0, .old 1, .op 3 0]) hst hb Zb
   (o_p rfl (Ze Z1i rfl rfl u_0) <| o_p rfl (Zf ty_9 rfl rfl u_0) <| o_p rfl (Zlu rfl rfl u_0 c_s) <| o_p rfl (Zc rfl rfl u_0) <| o_n) (by kernel_rfl) (fun a g hst hb => ?_)
 refine wp_cond_split (hst.bool 2 rfl) (fun hc3 => ?_) (fun hc3 => ?_)
 · replace H0 := Zz hc3 H0
   refine r_s (L := []) (T := [⟨[], _, [], [], [2]⟩]) (F := [.op 0 0]) (hst.pick [] rfl) hb Zb
     (o_p rfl (Zc rfl rfl c_i) <| o_n) (by kernel_rfl) (fun a g hst hb => ?_)
   refine wp_ret ?_
   refine Z1 ?_
   refine Zr ?_
   obtain rfl := Option.some.inj H0
   exact Z3 rfl hst hb (Zl (s := 2)) (hst.at 0 rfl)
 · replace H0 := Z0 hc3 H0
   refine r_s (L := [(1, _), (3, _)]) (T := [⟨[.old 0], _, [], [], [12]⟩, ⟨[.op 0 0], _, [], [0], [13]⟩, ⟨[.op 1 0], _, [], [0, 1], [14]⟩, ⟨[.op 2 0], _, [], [0, 1, 2], [15]⟩, ⟨[.op 3 0, .old 0], _, [], Lr 4, [16]⟩, ⟨[.op 3 0, .op 4 0], _, [], Lr 5, [17]⟩, ⟨[.op 3 0, .op 5 0], _, [], Lr 6, [18]⟩, ⟨[.op 3 0, .op 6 0], _, [], Lr 7, [19]⟩, ⟨[.op 3 0, .op 7 0], _, [], Lr 8, [20]⟩, ⟨[.op 8 0], _, [], Lr 9, [11]⟩]) (F := [.old 0, .old 1, .op 9 0]) (hst.pick [0, 1] rfl) hb Zb
     (o_p rfl (Ze Znf rfl rfl u_0) <| o_p rfl (Zf ty_9 rfl rfl u_0) <| o_p rfl (Zlu rfl rfl u_0 c_s) <| o_p rfl (Za rfl rfl u_0) <| o_g (g_f rfl rfl rfl (fun hG => Ze Znf rfl rfl u_0)) <| o_g (g_f rfl rfl rfl (fun hG => Zf ty_9 rfl rfl (Opd.gd hG u_0))) <| o_g (g_f rfl rfl rfl (fun hG => Zfq Tryd.underlying9 rfl rfl (Opd.gd hG u_0))) <| o_g (g_f rfl rfl rfl (fun hG => Zc0 rfl rfl (Opd.gd hG u_0) c_i)) <| o_p rfl (Zbx rfl rfl u_0 (fun hz => (Opd.gd (bNF hz) u_1))) <| o_p rfl (Zc rfl rfl u_0) <| o_n) (by kernel_rfl) (fun a g hst hb => ?_)
   refine wp_cond_split (hst.bool 2 rfl) (fun hc4 => ?_) (fun hc4 => ?_)
   · replace H0 := Zz hc4 H0
     refine r_s (L := []) (T := [⟨[], _, [], [], [2]⟩]) (F := [.op 0 0]) (hst.pick [] rfl) hb Zb
       (o_p rfl (Zc rfl rfl c_i) <| o_n) (by kernel_rfl) (fun a g hst hb => ?_)
     refine wp_ret ?_
     refine Z1 ?_
     refine Zr ?_
     obtain rfl := Option.some.inj H0
     exact Z3 rfl hst hb (Zl (s := 2)) (hst.at 0 rfl)
   · replace H0 := Z0 hc4 H0
     obtain ⟨r5, h6, H0⟩ := Zh H0
     refine r_s (L := [(1, _), (3, _)]) (T := [⟨[.old 0], _, [], [], [22]⟩, ⟨[.old 1], _, [], [], [23]⟩, ⟨[.op 0 0, .op 1 0], _, [], [0, 1], [24]⟩, ⟨[.op 2 0], _, [], [0, 1, 2], [25]⟩, ⟨[.op 3 0], _, [], Lr 4, [21]⟩]) (F := [.old 0, .old 1, .op 4 0]) (hst.pick [0, 1] rfl) hb Zb
       (o_p rfl (Zf Zj8 rfl rfl u_0) <| o_p rfl (Zf Zi0 rfl rfl u_0) <| o_p rfl (Zq Z7g (Zwp _ _ h6) rfl rfl (.cons u_0 (.cons u_1 .nil))) <| o_p rfl (Zcs rfl rfl u_0) <| o_p rfl (Zc rfl rfl u_0) <| o_n) (by kernel_rfl) (fun a g hst hb => ?_)
     refine wp_cond_split (hst.bool 2 rfl) (fun hc7 => ?_) (fun hc7 => ?_)
     · replace H0 := Zz hc7 H0
       refine r_s (L := []) (T := [⟨[], _, [], [], [2]⟩]) (F := [.op 0 0]) (hst.pick [] rfl) hb Zb
         (o_p rfl (Zc rfl rfl c_i) <| o_n) (by kernel_rfl) (fun a g hst hb => ?_)
       refine wp_ret ?_
       refine Z1 ?_
       refine Zr ?_
       obtain rfl := Option.some.inj H0
       exact Z3 rfl hst hb (Zl (s := 2)) (hst.at 0 rfl)
     · replace H0 := Z0 hc7 H0
       obtain ⟨r8, h9, H0⟩ := Zh H0
       refine r_s (L := [(1, _), (3, _)]) (T := [⟨[.old 0], _, [], [], [27]⟩, ⟨[.op 0 0], _, [], [0], [28]⟩, ⟨[.op 1 0], _, [], [0, 1], [29]⟩, ⟨[.old 1], _, [], [], [30]⟩, ⟨[.op 3 0], _, [], [3], [31]⟩, ⟨[.op 2 0, .op 4 0], _, [], Lr 5, [32]⟩, ⟨[.op 5 0], _, [], Lr 6, [26]⟩]) (F := [.old 0, .op 6 0]) (hst.pick [0, 1] rfl) hb Zb
         (o_p rfl (Ze Zju rfl rfl u_0) <| o_p rfl (Zf ty_9 rfl rfl u_0) <| o_p rfl (Zfq Tryd.underlying9 rfl rfl u_0) <| o_p rfl (Zf Zi0 rfl rfl u_0) <| o_p rfl (Zq Z6u (Zw6 _ h9) rfl rfl (.cons u_0 .nil)) <| o_p rfl (Zc0 rfl rfl u_0 u_1) <| o_p rfl (Zc rfl rfl u_0) <| o_n) (by kernel_rfl) (fun a g hst hb => ?_)
       refine wp_cond_split (hst.bool 1 rfl) (fun hc10 => ?_) (fun hc10 => ?_)
       · replace H0 := Zz hc10 H0
         refine r_s (L := []) (T := [⟨[], _, [], [], [2]⟩]) (F := [.op 0 0]) (hst.pick [] rfl) hb Zb
           (o_p rfl (Zc rfl rfl c_i) <| o_n) (by kernel_rfl) (fun a g hst hb => ?_)
         refine wp_ret ?_
         refine Z1 ?_
         refine Zr ?_
         obtain rfl := Option.some.inj H0
         exact Z3 rfl hst hb (Zl (s := 2)) (hst.at 0 rfl)
       · replace H0 := Z0 hc10 H0
         refine r_s (L := [(1, _)]) (T := ⟨[.old 0], _, [], [], [34]⟩ :: ⟨[.op 0 0], _, [], [0], [35]⟩ :: ⟨[.op 1 0], _, [], [0, 1], [36]⟩ :: ⟨[.op 2 0], _, [], [0, 1, 2], [37]⟩ :: ⟨[.op 3 0, .old 0], _, [], Lr 4, [38]⟩ :: ⟨[.op 3 0, .op 4 0], _, [], Lr 5, [39]⟩ :: ⟨[.op 3 0, .op 5 0], _, [], Lr 6, [40]⟩ :: ⟨[.op 3 0, .op 6 0], _, [], Lr 7, [41]⟩ :: ⟨[.op 7 0], _, [], Lr 8, [42]⟩ :: ⟨[.op 8 0, .old 0], _, [], Lr 9, [43]⟩ :: ⟨[.op 8 0, .op 9 0], _, [], Lr 10, [44]⟩ :: ⟨[.op 8 0, .op 10 0], _, [], Lr 11, [45]⟩ :: ⟨[.op 8 0, .op 11 0], _, [], Lr 12, [46]⟩ :: ⟨[.op 12 0, .old 0], _, [], Lr 13, [47]⟩ :: ⟨[.op 12 0, .op 13 0], _, [], Lr 14, [48]⟩ :: ⟨[.op 12 0, .op 14 0], _, [], Lr 15, [49]⟩ :: ⟨[.op 8 0, .op 12 0, .op 15 0], _, [], Lr 16, [50]⟩ :: ⟨[.op 8 0, .op 16 0], _, [], Lr 17, [51]⟩ :: ⟨[.op 17 0], _, [], Lr 18, [33]⟩ :: []) (F := [.old 0, .op 18 0]) (hst.pick [0] rfl) hb Zb
           (o_p rfl (Ze Zhl rfl rfl u_0) <| o_p rfl (Zf ty_3 rfl rfl u_0) <| o_p rfl (Zby rfl rfl u_0 c_i) <| o_p rfl (Za rfl rfl u_0) <| o_g (g_f rfl rfl rfl (fun hG => Ze Zhl rfl rfl u_0)) <| o_g (g_f rfl rfl rfl (fun hG => Zf ty_3 rfl rfl (Opd.gd hG u_0))) <| o_g (g_f rfl rfl rfl (fun hG => Zby rfl rfl (Opd.gd hG u_0) c_i)) <| o_p rfl (Zbx rfl rfl u_0 (fun hz => (Opd.gd (bNF hz) u_1))) <| o_p rfl (Za rfl rfl u_0) <| o_g (g_t rfl rfl rfl (fun hG => Ze Zgs rfl rfl u_0)) <| o_g (g_t rfl rfl rfl (fun hG => Zf ty_2 rfl rfl (Opd.gd hG u_0))) <| o_g (g_t rfl rfl rfl (fun hG => Zc1 rfl rfl (Opd.gd hG u_0) c_i)) <| o_g (g_t rfl rfl rfl (fun hG => Za rfl rfl (Opd.gd hG u_0))) <| o_g (g_fi rfl rfl rfl (fun hG => Ze Zgs rfl rfl u_0)) <| o_g (g_fi rfl rfl rfl (fun hG => Zf ty_2 rfl rfl (Opd.gd hG u_0))) <| o_g (g_fi rfl rfl rfl (fun hG => Zc0 rfl rfl (Opd.gd hG u_0) c_i)) <| o_g (g_t rfl rfl rfl (fun hG => Zbx rfl rfl (Opd.gd hG u_0) (fun hz => (Opd.gd (bA hG (bNF hz)) u_1)))) <| o_p rfl (Zbp rfl rfl u_0 (fun hz => (Opd.gd hz u_1))) <| o_p rfl (Zc rfl rfl u_0) <| o_n) (by kernel_rfl) (fun a g hst hb => ?_)
         refine wp_cond_split (hst.bool 1 rfl) (fun hc11 => ?_) (fun hc11 => ?_)
         · replace H0 := Zz hc11 H0
           refine r_s (L := []) (T := [⟨[], _, [], [], [2]⟩]) (F := [.op 0 0]) (hst.pick [] rfl) hb Zb
             (o_p rfl (Zc rfl rfl c_i) <| o_n) (by kernel_rfl) (fun a g hst hb => ?_)
           refine wp_ret ?_
           refine Z1 ?_
           refine Zr ?_
           obtain rfl := Option.some.inj H0
           exact Z3 rfl hst hb (Zl (s := 2)) (hst.at 0 rfl)
         · replace H0 := Z0 hc11 H0
           obtain ⟨r12, h13, H0⟩ := Zh H0
           refine r_s (L := [(1, _)]) (T := [⟨[.old 0], _, [], [], [53]⟩, ⟨[.op 0 0], _, [], [0], [54]⟩, ⟨[.op 1 0], _, [], [0, 1], [55]⟩, ⟨[.op 2 0], _, [], [0, 1, 2], [56]⟩, ⟨[.op 3 0], _, [], Lr 4, [52]⟩]) (F := [.old 0, .op 4 0]) (hst.pick [0] rfl) hb Zb
             (o_p rfl (Ze Zqb rfl rfl u_0) <| o_p rfl (Zf Ze1 rfl rfl u_0) <| o_p rfl (Zq Zyk (Zly _ h13) rfl rfl (.cons u_0 .nil)) <| o_p rfl (Zcs rfl rfl u_0) <| o_p rfl (Zc rfl rfl u_0) <| o_n) (by kernel_rfl) (fun a g hst hb => ?_)
           refine wp_cond_split (hst.bool 1 rfl) (fun hc14 => ?_) (fun hc14 => ?_)
           · replace H0 := Zz hc14 H0
             refine r_s (L := []) (T := [⟨[], _, [], [], [2]⟩]) (F := [.op 0 0]) (hst.pick [] rfl) hb Zb
               (o_p rfl (Zc rfl rfl c_i) <| o_n) (by kernel_rfl) (fun a g hst hb => ?_)
             refine wp_ret ?_
             refine Z1 ?_
             refine Zr ?_
             obtain rfl := Option.some.inj H0
             exact Z3 rfl hst hb (Zl (s := 2)) (hst.at 0 rfl)
           · replace H0 := Z0 hc14 H0
             refine r_s (L := [(1, _)]) (T := [⟨[.old 0], _, [], [], [58]⟩, ⟨[.op 0 0], _, [], [0], [59]⟩, ⟨[.op 1 0], _, [], [0, 1], [60]⟩, ⟨[.op 2 0], _, [], [0, 1, 2], [57]⟩]) (F := [.old 0, .op 3 0]) (hst.pick [0] rfl) hb Zb
               (o_p rfl (Ze Zhl rfl rfl u_0) <| o_p rfl (Zf ty_3 rfl rfl u_0) <| o_p rfl (Zby rfl rfl u_0 c_i) <| o_p rfl (Zc rfl rfl u_0) <| o_n) (by kernel_rfl) (fun a g hst hb => ?_)
             refine wp_cond_split (hst.bool 1 rfl) (fun hc15 => ?_) (fun hc15 => ?_)
             · replace H0 := Zz hc15 H0
               obtain ⟨r16, h17, H0⟩ := Zh H0
               refine r_s (L := [(1, _)]) (T := [⟨[.old 0], _, [], [], [61]⟩, ⟨[.op 0 0], _, [], [0], [62]⟩, ⟨[.op 1 0], _, [], [0, 1], [63]⟩, ⟨[.op 2 0], _, [], [0, 1, 2], [2]⟩]) (F := [.op 3 0]) (hst.pick [0] rfl) hb Zb
                 (o_p rfl (Ze Zte rfl rfl u_0) <| o_p rfl (Zf Zbf rfl rfl u_0) <| o_p rfl (Zq Zzf (Zl9 _ h17) rfl rfl (.cons u_0 .nil)) <| o_p rfl (Zc rfl rfl u_0) <| o_n) (by kernel_rfl) (fun a g hst hb => ?_)
               refine wp_ret ?_
               refine Z1 ?_
               refine Zr ?_
               obtain rfl := Option.some.inj H0
               exact Z3 rfl hst hb (Zl (s := 2)) (hst.at 0 rfl)
             · replace H0 := Z0 hc15 H0
               refine wp_skip ?_
               refine Zbr ?_
               refine Zu ?_
               refine r_s (L := []) (T := [⟨[], _, [], [], [2]⟩]) (F := [.op 0 0]) (hst.pick [] rfl) hb Zb
                 (o_p rfl (Zc rfl rfl c_i) <| o_n) (by kernel_rfl) (fun a g hst hb => ?_)
               refine wp_ret ?_
               obtain rfl := Option.some.inj H0
               exact Z3 rfl hst hb (Zl (s := 2)) (hst.at 0 rfl)
theorem Zud (a0 : Zbu) {r : Int × Int} (h : Zkz a0 = some r) : FnOk Tryd.prog 17 [(Zdt.pd a0)] (pTup [(pInt .i64 r.1), (pInt .i64 r.2)]) := by
 have H0 := h
 unfold Zkz at H0
 clear h
 refine Zbs (N := 33) Tryd.func17 rfl rfl (Nat.le_of_ble_eq_true rfl) rfl rfl (fun a g0 hst hb => ?_)
 refine r_s (T := [⟨[.old 0], _, [], [], [1]⟩, ⟨[], _, [], [], [2]⟩, ⟨[], _, [], [1], [3]⟩]) (F := [.op 0 0]) hst hb Zb
   (o_p rfl (Zbl rfl rfl u_0) <| o_p rfl (Zc rfl rfl c_i) <| o_p rfl (Zc rfl rfl c_i) <| o_n) (by kernel_rfl) (fun a g hst hb => ?_)
 refine wp_seq ?_
 refine r_s (T := [⟨[.old 0], _, [], [], [7]⟩, ⟨[.op 0 0], _, [], [0], [8]⟩, ⟨[.op 1 0], _, [], [0, 1], [9]⟩, ⟨[.op 2 0], _, [], [0, 1, 2], [10]⟩, ⟨[.op 3 0], _, [], Lr 4, [11]⟩, ⟨[.op 4 0, .old 0], _, [], Lr 5, [12]⟩, ⟨[.op 4 0, .op 5 0], _, [], Lr 6, [13]⟩, ⟨[.op 4 0, .op 6 0], _, [], Lr 7, [14]⟩, ⟨[.op 4 0, .op 7 0], _, [], Lr 8, [15]⟩, ⟨[.op 4 0, .op 8 0], _, [], Lr 9, [16]⟩]) (F := [.old 0, .op 9 0]) hst hb Zb
   (o_p rfl (Ze Zp2 rfl rfl u_0) <| o_p rfl (Zf Zuv rfl rfl u_0) <| o_p rfl (Zcj Tryd.underlying39 rfl rfl u_0) <| o_p rfl (Zby rfl rfl u_0 c_i) <| o_p rfl (Za rfl rfl u_0) <| o_g (g_f rfl rfl rfl (fun hG => Ze Zp2 rfl rfl u_0)) <| o_g (g_f rfl rfl rfl (fun hG => Zf Zuv rfl rfl (Opd.gd hG u_0))) <| o_g (g_f rfl rfl rfl (fun hG => Zcj Tryd.underlying39 rfl rfl (Opd.gd hG u_0))) <| o_g (g_f rfl rfl rfl (fun hG => Zc0 rfl rfl (Opd.gd hG u_0) c_i)) <| o_p rfl (Zbx rfl rfl u_0 (fun hz => (Opd.gd (bNF hz) u_1))) <| o_n) (by kernel_rfl) (fun a g hst hb => ?_)
 refine wp_cond_split (hst.bool 1 rfl) (fun hc1 => ?_) (fun hc1 => ?_)
 · replace H0 := Zz hc1 H0
   refine r_s (L := []) (T := [⟨[], _, [], [], [2]⟩, ⟨[], _, [], [0], [3]⟩]) (F := [.op 0 0, .op 1 0]) (hst.pick [] rfl) hb Zb
     (o_p rfl (Zc rfl rfl c_i) <| o_p rfl (Zc rfl rfl c_i) <| o_n) (by kernel_rfl) (fun a g hst hb => ?_)
   refine wp_ret ?_
   refine Zr ?_
   obtain rfl := Option.some.inj H0
   exact Ze0 rfl hst hb (Zl (s := 2)) (Zl (s := 3)) (Zde (hst.at 0 rfl) (hst.at 1 rfl))
 · replace H0 := Z0 hc1 H0
   refine wp_skip ?_
   refine Zu ?_
   refine wp_seq ?_
   refine r_s (L := [(1, _)]) (T := [⟨[.old 0], _, [], [], [17]⟩, ⟨[.op 0 0], _, [], [0], [18]⟩, ⟨[.op 1 0], _, [], [0, 1], [19]⟩, ⟨[], _, [], [], [20]⟩]) (F := [.op 1 0, .op 2 0, .op 3 0]) (hst.pick [0] rfl) hb Zb
     (o_p rfl (Ze Zp2 rfl rfl u_0) <| o_p rfl (Zf Zuv rfl rfl u_0) <| o_p rfl (Zcj Tryd.underlying39 rfl rfl u_0) <| o_p rfl (Za rfl rfl c_i) <| o_n) (by kernel_rfl) (fun a g hst hb => ?_)
   obtain ⟨z9, hz1, H0⟩ := Zh H0
   refine Zc2 (fun a w => ∃ (g : G), w = g.w ∧ St 33 [] a g ∧ Base g0 g ∧ (.inr ()) = z9) ?_ ?_
   · rintro a w ⟨g, rfl, hst, hb, rfl⟩
     refine Zu ?_
     refine r_s (T := [⟨[], _, [], [], [2]⟩, ⟨[], _, [], [0], [3]⟩]) (F := [.op 0 0, .op 1 0]) hst hb Zb
       (o_p rfl (Zc rfl rfl c_i) <| o_p rfl (Zc rfl rfl c_i) <| o_n) (by kernel_rfl) (fun a g hst hb => ?_)
     refine wp_ret ?_
     obtain rfl := Option.some.inj H0
     exact Ze0 rfl hst hb (Zl (s := 2)) (Zl (s := 3)) (Zde (hst.at 0 rfl) (hst.at 1 rfl))
   · refine wp_block ?_
     refine wp_loop_ghost (fun n a w => ∃ (x2 : Int) (g : G), w = g.w ∧ St 33 [(18, (Zbb.sl.pd a0.Acts)), (19, (pInt .i64 (a0.Acts.length : Int))), (20, (pInt .i64 x2))] a g ∧ Base g0 g ∧ Zft a0 n x2 = some z9) (Int.toNat ((a0.Acts.length : Int) - (0 : Int)) + 1) ⟨(0 : Int), g, rfl, (hst.pick [0, 1, 2] rfl), hb, hz1⟩ (fun n a w hI => ?_)
     obtain ⟨x2, g, rfl, hst, hb, H1⟩ := hI
     cases n with
     | zero => exact absurd H1 (by simp [Zft])
     | succ n =>
       rw [Zft] at H1
       refine r_s (T := [⟨[.old 2, .old 1], _, [], [], [21]⟩]) (F := [.old 0, .old 1, .old 2, .op 0 0]) hst hb Zb
         (o_p rfl (Zc1 rfl rfl u_0 u_1) <| o_n) (by kernel_rfl) (fun a g hst hb => ?_)
       refine wp_seq ?_
       refine wp_cond_split (hst.bool 3 rfl) (fun hc3 => ?_) (fun hc3 => ?_)
       · replace H1 := Zz hc3 H1
         refine wp_skip ?_
         refine Zu ?_
         refine wp_seq ?_
         refine wp_block ?_
         obtain ⟨e4, h5, H1⟩ := Zh H1
         refine r_s (L := [(18, _), (19, _), (20, _)]) (T := [⟨[.old 2], _, [], [], [22]⟩, ⟨[.old 0, .old 2], _, [], [], [23]⟩, ⟨[.op 1 0], _, [], [1], [24]⟩, ⟨[], [(5, (pBox Zbb 5 (default : Zv)))], [6], [], [5]⟩, ⟨[.op 0 0], _, [], Lr 4, [4]⟩, ⟨[.op 2 0, .op 3 0], _, [6], Lr 5, [5]⟩]) (F := [.op 4 0, .op 5 0, .old 0, .old 1, .old 2]) (hst.pick [0, 1, 2] rfl) hb Zb
           (o_p rfl (Za rfl rfl u_0) <| o_p rfl (Zb4 Tryd.underlying39 Z2n rfl rfl u_0 u_1 h5) <| o_p rfl (Zf Zj8 rfl rfl u_0) <| o_p rfl (Zbi (zs := [.int .i64 0, .string ByteArray.empty, .int .i64 0, .float .f64 0, .string ByteArray.empty, .int .i64 0, .int .i64 0, .int .i64 0, .int .i64 0, .float .f64 0, .int .i64 0, .string ByteArray.empty, .slice none 0 0, .bool false]) (by kernel_rfl) (fun g => Zru g) rfl rfl) <| o_p rfl (Zc rfl rfl u_0) <| o_p rfl (Zb9 Zj8 rfl rfl u_1 u_0) <| o_n) (by kernel_rfl) (fun a g hst hb => ?_)
         obtain ⟨r6, h7, H1⟩ := Zh H1
         refine r_s (T := [⟨[.old 1], _, [], [], [25]⟩, ⟨[.op 0 0], _, [], [0], [26]⟩, ⟨[.op 1 0], _, [], [0, 1], [6]⟩]) (F := [.old 0, .op 2 0, .old 2, .old 3, .old 4]) hst hb Zb
           (o_p rfl (Zf Zj8 rfl rfl u_0) <| o_p rfl (Zq Z20 (Zo3 _ h7) rfl rfl (.cons u_0 .nil)) <| o_p rfl (Zc rfl rfl u_0) <| o_n) (by kernel_rfl) (fun a g hst hb => ?_)
         refine r_s (T := [⟨[.old 1], _, [], [], [27]⟩, ⟨[.op 0 0], _, [], [0], [28]⟩]) (F := [.old 0, .old 1, .old 2, .old 3, .old 4, .op 1 0]) hst hb Zb
           (o_p rfl (Za rfl rfl u_0) <| o_p rfl (Zfg rfl rfl u_0 c_i) <| o_n) (by kernel_rfl) (fun a g hst hb => ?_)
         refine wp_cond_split (hst.bool 5 rfl) (fun hc8 => ?_) (fun hc8 => ?_)
         · replace H1 := Zz hc8 H1
           refine r_s (L := [(4, _), (6, _)]) (T := [⟨[.old 1], _, [], [], [29]⟩, ⟨[.old 0], _, [], [], [30]⟩, ⟨[.op 1 0], _, [], [1], [31]⟩, ⟨[.op 0 0], _, [], [0], [2]⟩, ⟨[.op 2 0], _, [], Lr 4, [3]⟩]) (F := [.op 3 0, .op 4 0]) (hst.pick [0, 1] rfl) hb Zb
             (o_p rfl (Za rfl rfl u_0) <| o_p rfl (Za rfl rfl u_0) <| o_p rfl (Zb8 rfl rfl u_0 c_i rfl) <| o_p rfl (Zc rfl rfl u_0) <| o_p rfl (Zc rfl rfl u_0) <| o_n) (by kernel_rfl) (fun a g hst hb => ?_)
           refine wp_ret ?_
           refine Z1 ?_
           refine Zr ?_
           refine Zr ?_
           refine Z1 ?_
           refine Zr ?_
           refine Zr ?_
           obtain rfl := Option.some.inj H1
           obtain rfl := Option.some.inj H0
           exact Ze0 rfl hst hb (Zl (s := 2)) (Zl (s := 3)) (Zde (hst.at 0 rfl) (hst.at 1 rfl))
         · replace H1 := Z0 hc8 H1
           refine wp_skip ?_
           refine Zbr ?_
           refine Zu ?_
           refine r_g (L := [(18, _), (19, _), (20, _)]) (T := [⟨[.old 2], _, [], [], [32]⟩, ⟨[.op 0 0], _, [], [0], [20]⟩]) (F := [.old 0, .old 1, .op 1 0]) (hst.pick [2, 3, 4] rfl) hb Zb
             (o_p rfl (Zb8 rfl rfl u_0 c_i rfl) <| o_p rfl (Za rfl rfl u_0) <| o_n) (by kernel_rfl) (fun a g hst hb => ?_)
           exact ⟨n, Nat.lt_succ_self _, (IntKind.i64.wrap (x2 + (1 : Int))), g, rfl, (hst.pick [0, 1, 2] rfl), hb, H1⟩
       · replace H1 := Z0 hc3 H1
         refine wp_exit ?_
         refine Zce ?_
         refine Zce ?_
         refine Zdc ?_
         exact ⟨g, rfl, (hst.pick [] rfl), hb, Option.some.inj H1⟩
end Go.CL
namespace Go.CL
open Go Go.RowKit
section
variable {P : Program} {N : Nat} {o : Oper} {uses outs : Z7} {S : List Nat} {d : Nat} {q : Pd} {x y z : Operand} {Q : Exit → Act → World → Prop} {a : Act} {w : World} {K : Act → World → Prop} {D : List Deferred} {g0 : G} {ops : Array Oper} {L : Z7} {T : List Spec} {F : List Ref} {os : List Oper} {X : Spec} {Xs : List Spec}
theorem Znk {ch : List PanicEntry} (h : Q (.panic ch) a w) : Exit.then K Q (.panic ch) a w := h
theorem Ztk {id : Nat} {ch : List PanicEntry} (h : Q (.panic ch) a w) : Exit.inBlock id Q (.panic ch) a w := h
theorem r_gQ {id : Nat} {draw : Bool} {a : Act} {g : G} {Q : Exit → Act → World → Prop} (h : StD D N L a g) (hb : Base g0 g) (hm : P.follows .mixedOrders = true) (hT : Zib P ops N L T D g0 Q ops.toList T) (hc : chk N ops L T F = true)
   (hQ : ∀ a g, StD D N (F.map (Zho L T)) a g → Base g0 g → Q .normal a g.w) : (Code.region id ops draw).wp P Q a g.w := Zxm hm hc hT h hb hQ
theorem q_p (hg : o.guard = none) (h : OB P N o (X.refs.map (Zho L T)) X.outs X.S) (hs : Zib P ops N L T D g0 Q os Xs) : Zib P ops N L T D g0 Q (o :: os) (X :: Xs) := ⟨(OT.plain hg h).q, hs⟩
theorem q_q (h : OTQ P ops N o (X.refs.map (Zho L T)) X.outs X.S D g0 Q) (hs : Zib P ops N L T D g0 Q os Xs) : Zib P ops N L T D g0 Q (o :: os) (X :: Xs) := ⟨h, hs⟩
theorem q_n : Zib P ops N L T D g0 Q [] [] := trivial
def pNo : Pd := ⟨fun _ _ => False, [], fun _ _ h => h⟩
theorem Zsg (hx : Opd uses x pNo) : OB P N o uses outs S := fun a g K Q hN hdN hu hK => (hx a g hu).elim
def Zj3 (t : TypeId) (q : Pd) : Pd := ⟨fun g v => ∃ u, v = .iface t u ∧ q.p g u, q.fp, fun st hd ⟨u, e, h⟩ => ⟨u, e, q.st st hd h⟩⟩
theorem Z1e {t : TypeId} (ht : (P.underlying t).map (fun u => match u with | .interface _ => true | _ => false) = some false) (hop : o.op = .makeInterface t x) (hd : o.dst = some d) (hx : Opd uses x q) : OB P N o uses [(d, Zj3 t q)] [] :=
 Zb3 hd fun a g hh => by
   refine ⟨.iface t (a.eval x), ?_, _, rfl, hx a g hh⟩
   cases hu : P.underlying t with
   | none => rw [hu] at ht; cases ht
   | some u =>
     rw [hu] at ht
     cases u <;> first | (simp at ht; done) | simp [execOp, hop, Instr.makeInterface, run_underlying hu]
theorem Z0r {t : TypeId} (hop : o.op = .panic x) (hg : o.guard = none) (hx : Opd uses x (Zj3 t q)) (hQ : ∀ (a : Act) g v, a.tmps.size = N → a.defers = D → Base g0 g → Zd0 uses a g → (Zj3 t q).p g v → Q (.panic [{ v := v, recovered := false }]) a g.w) : OTQ P ops N o uses outs S D g0 Q := by
 intro a g K hN hD hb hdN hu hK
 have : Region.wanted o (yielded ops a.tmps) = true := by simp [Region.wanted, hg]
 rw [if_pos this]
 obtain ⟨u, hv, hq⟩ := hx a g hu
 have hr : (execOp a.eval o).run P g.w = .halt (.panic (.iface t u)) g.w := by simp [execOp, hop, hv, Instr.panic, goPanic]
 unfold Oper.wp
 rw [hr]
 exact hQ a g _ hN hD hb hu ⟨u, rfl, hq⟩
def Zyq (P : Program) (f : FuncId) (A : List Pd) (q : Pd) : Prop := ∀ (g : G) (args : List Value), ArgsOk A g args → Calls P f args.toArray g.w (fun e w' => ∃ g' v, e = .panicked [{ v := v, recovered := false }] ∧ w' = g'.w ∧ Step [] g g' ∧ q.p g' v)
def Zzn (g0 : G) (q : Pd) : Ending → World → Prop := fun e w' => ∃ g1 v, e = .panicked [{ v := v, recovered := false }] ∧ w' = g1.w ∧ Base g0 g1 ∧ q.p g1 v
theorem Zz3 {g g0 : G} {A : List Pd} {args : List Value} {n : Nat} (hle : g.le g0) (hw : g0.w = g.w) (hargs : ArgsOk A g args) (hA : A.all (fun q => q.fp.isEmpty) = true) (hAN : A.length ≤ N) (hn : n = N) : St N (Zj9 A 0) { tmps := args.toArray ++ Array.replicate (n - args.toArray.size) undef, defers := [] } g0 := by
 refine ⟨?_, rfl, ?_⟩
 · have := hargs.1
   simp [hn]; omega
 · intro e he
   obtain ⟨i, h1, h2⟩ := Zmk he
   have hi : i < args.length := by rw [hargs.1]; exact (List.getElem?_eq_some_iff.1 h2).1
   have hfp : e.2.fp = [] := by
     have := List.all_eq_true.1 hA e.2 (List.mem_of_getElem? h2)
     simpa using this
   have hv : Act.at { tmps := args.toArray ++ Array.replicate (n - args.toArray.size) undef, defers := [] } e.1 = args[i] := by
     rw [h1, Nat.zero_add]
     simp only [Act.at, Array.getD_eq_getD_getElem?]
     rw [Array.getElem?_append, if_pos (by simpa using hi)]
     simp [hi]
   rw [hv]
   exact Pd.le hfp hle (by rw [hw]) (by rw [hw]) (by rw [hw]) (hargs.2 i e.2 _ h2 (List.getElem?_eq_getElem hi))
def G.bare (g : G) : G := ⟨g.w, g.pr, fun _ => 0, g.hpr, g.gl⟩
theorem Zns (g : G) : g.le g.bare := ⟨Nat.le_refl _, fun _ _ h => h, fun _ _ _ => rfl, fun _ _ => rfl⟩
theorem Zo4 (g : G) : Base g.bare g.bare := ⟨.refl _, rfl, rfl, rfl, fun _ _ _ => ⟨rfl, rfl, rfl⟩⟩
theorem Zox {g g1 : G} (hB : Base g.bare g1) : ∃ g2 : G, g2.w = g1.w ∧ Step [] g g2 ∧ g1.le g2 :=
 ⟨⟨g1.w, g1.pr, fun b => if b < g.w.heap.size then g.own b else 0, g1.hpr, g1.gl⟩, rfl, ⟨⟨hB.le.size, hB.le.pr, hB.le.cell, hB.le.blk⟩, hB.os, hB.tape, hB.output, fun b hb _ => ⟨(hB.same b hb rfl).1, (hB.same b hb rfl).2.1, if_pos hb⟩, fun b hb _ => .inl (if_neg (by omega)), fun _ _ h => by cases h⟩, ⟨Nat.le_refl _, fun _ _ h => h, fun _ _ _ => rfl, fun _ _ => rfl⟩⟩
theorem Z1k {f : FuncId} {fn : Func} {c : Code} {A : List Pd} (hf : P.funcs[f]? = some fn) (hb : fn.body = some c) (hn : fn.ntmps = N) (hAN : A.length ≤ N) (hA : A.all (fun q => q.fp.isEmpty) = true) (hq : q.fp = [])
   (h : ∀ (a : Act) (g : G), St N (Zj9 A 0) a g → Base g g → c.wp P (bodyPost P fn (Zzn g q)) a g.w) : Zyq P f A q := by
 intro g args hargs
 refine Calls.mono (calls_of_wp hf hb (h _ g.bare (Zz3 (Zns g) rfl hargs hA hAN hn) (Zo4 g))) ?_
 rintro e w' ⟨g1, v, rfl, rfl, hB, hv⟩
 obtain ⟨g2, e2, hS, hle⟩ := Zox hB
 exact ⟨g2, v, rfl, e2.symm, hS, Pd.le hq hle (by rw [e2]) (by rw [e2]) (by rw [e2]) hv⟩
theorem Z54 {fn : Func} {a : Act} {g : G} {v : Value} (hd : a.defers = []) (hb : Base g0 g) (hq : q.p g v) : bodyPost P fn (Zzn g0 q) (.panic [{ v := v, recovered := false }]) a g.w := ⟨hd, g, v, rfl, rfl, hb, hq⟩
theorem Zxc {f : FuncId} {xs : List Operand} {A : List Pd} {ty : Array TypeId} (he : Zp P f) (hok : Zyq P f A q) (hop : o.op = .call { callee := .value (.func f), args := xs.toArray, argTypes := ty }) (hg : o.guard = none) (hargs : OpdL uses xs A)
   (hQ : ∀ (a : Act) g v, a.tmps.size = N → a.defers = D → Base g0 g → Zd0 uses a g → q.p g v → Q (.panic [{ v := v, recovered := false }]) a g.w) : OTQ P ops N o uses outs S D g0 Q := by
 intro a g K hN hD hb hdN hu hK
 have : Region.wanted o (yielded ops a.tmps) = true := by simp [Region.wanted, hg]
 rw [if_pos this]
 have hr : (execOp a.eval o).run P g.w = .ok (.enter f (xs.map a.eval).toArray) g.w := by
   simp [execOp, hop, resolve, Zpx, Deferred.ofValue, invoke, Zin he]
 unfold Oper.wp
 rw [hr]
 show Calls P f _ g.w _
 refine Calls.mono (hok g _ (hargs.ok hu)) ?_
 rintro e w' ⟨g', v, rfl, rfl, hs, hq⟩
 exact hQ a g' v hN hD (hb.step hs (by simp)) (fun e he => e.2.st hs (fun _ _ h => by cases h) (hu e he)) hq
theorem Z56 {f : FuncId} {fn : Func} {c : Code} {A : List Pd} (hf : P.funcs[f]? = some fn) (hb : fn.body = some c) (hn : fn.ntmps = N) (hAN : A.length ≤ N) (hA : A.all (fun q => q.fp.isEmpty) = true) (hq : q.fp = [])
   (h : ∀ (a : Act) (g : G), (∀ b, g.own b = 0) → St N (Zj9 A 0) a g → Base g g → c.wp P (bodyPostD P fn (Fin g q)) a g.w) : FnOk P f A q := by
 intro g args hargs
 refine Calls.mono (calls_of_wp_defers hf hb (h _ g.bare (fun _ => rfl) (Zz3 (Zns g) rfl hargs hA hAN hn) (Zo4 g))) ?_
 rintro e w' ⟨g1, v, rfl, rfl, hB, hv⟩
 obtain ⟨g2, e2, hS, hle⟩ := Zox hB
 exact ⟨g2, v, rfl, e2.symm, hS, Pd.le hq hle (by rw [e2]) (by rw [e2]) (by rw [e2]) hv⟩
def dfr3 (f : FuncId) (v1 : Value) (b2 b3 : Nat) : List Deferred := [{ target := .fn (.func f) #[v1, .pointer (some ⟨b2, 0, none⟩), .pointer (some ⟨b3, 0, none⟩)], args := #[] }]
theorem Z1a {id f x1 x2 x3 d1 : Nat} {o1 o2 : Oper} {a : Act} {w : World} (h1 : o1.op = .makeFunc (.func f) #[] #[.tmp x1, .tmp x2, .tmp x3]) (hg1 : o1.guard = none) (hd1 : o1.dst = some d1) (h2 : o2.op = .defer { callee := .value (.tmp d1), args := #[], argTypes := #[] }) (hg2 : o2.guard = none) (hd2 : o2.dst = none) (hlt : d1 < a.tmps.size)
   {b2 b3 : Nat} {v1 : Value} (e1 : Act.at a x1 = v1) (e2 : Act.at a x2 = .pointer (some ⟨b2, 0, none⟩)) (e3 : Act.at a x3 = .pointer (some ⟨b3, 0, none⟩)) (hD : a.defers = [])
   (hK : Q .normal { tmps := (a.put (some d1) (.func (.func f) #[] #[v1, .pointer (some ⟨b2, 0, none⟩), .pointer (some ⟨b3, 0, none⟩)])).tmps, defers := dfr3 f v1 b2 b3 } w) : (Code.region id #[o1, o2] false).wp P Q a w := by
 refine wp_region ?_
 have q1 : a.eval (.tmp x1) = v1 := e1
 have q2 : a.eval (.tmp x2) = _ := e2
 have q3 : a.eval (.tmp x3) = _ := e3
 have hr1 : (execOp a.eval o1).run P w = .ok (.value (.func (.func f) #[] #[v1, .pointer (some ⟨b2, 0, none⟩), .pointer (some ⟨b3, 0, none⟩)])) w := by
   simp [execOp, h1, Instr.makeFunc, q1, q2, q3]
 have hev : (a.put (some d1) (.func (.func f) #[] #[v1, .pointer (some ⟨b2, 0, none⟩), .pointer (some ⟨b3, 0, none⟩)])).eval (.tmp d1) = .func (.func f) #[] #[v1, .pointer (some ⟨b2, 0, none⟩), .pointer (some ⟨b3, 0, none⟩)] := Ze4 _ hlt
 have hr2 : (execOp (a.put (some d1) (.func (.func f) #[] #[v1, .pointer (some ⟨b2, 0, none⟩), .pointer (some ⟨b3, 0, none⟩)])).eval o2).run P w = .ok (.defer { target := .fn (.func f) #[v1, .pointer (some ⟨b2, 0, none⟩), .pointer (some ⟨b3, 0, none⟩)], args := #[] }) w := by
   simp [execOp, h2, resolve, hev, Deferred.ofValue]
 have w1 : ∀ m, Region.wanted o1 m = true := fun m => by simp [Region.wanted, hg1]
 have w2 : ∀ m, Region.wanted o2 m = true := fun m => by simp [Region.wanted, hg2]
 show wpOps P #[o1, o2] _ (Lr 2) a w
 simp only [show Lr 2 = [0, 1] from rfl, wpOps, List.getElem?_toArray, List.getElem?_cons_zero, List.getElem?_cons_succ, w1, if_true]
 refine .inl ?_
 unfold Oper.wp
 rw [hr1, Oper.upon_value, hd1]
 simp only [w2, if_true]
 refine .inl ?_
 rw [hr2, Oper.upon_defer, hd2]
 have : ∀ (d : Deferred) (v : Value), ({ (a.put (some d1) v) with defers := d :: (a.put (some d1) v).defers } : Act) = { tmps := (a.put (some d1) v).tmps, defers := [d] } := fun d v => by
   rw [Zsi, hD]
 have h3 := this { target := .fn (.func f) #[v1, .pointer (some ⟨b2, 0, none⟩), .pointer (some ⟨b3, 0, none⟩)], args := #[] } (.func (.func f) #[] #[v1, .pointer (some ⟨b2, 0, none⟩), .pointer (some ⟨b3, 0, none⟩)])
 show Q .normal (Act.put { (a.put (some d1) (.func (.func f) #[] #[v1, .pointer (some ⟨b2, 0, none⟩), .pointer (some ⟨b3, 0, none⟩)])) with defers := _ :: (a.put (some d1) _).defers } none undef) w
 rw [h3]; exact hK
theorem Zx7 {α : Type} {dk : Kd α} {j : Nat} {v : α} {g : G} {u : Value} (h : (pBox dk j v).p g u) : ∃ b, u = .pointer (some ⟨b, 0, none⟩) ∧ (Zbk (some b) dk j v).p g u := by
 obtain ⟨b, cs, t, e, hm, _⟩ := h
 exact ⟨b, e, b, cs, t, e, hm, fun b' hb => Option.some.inj hb⟩
theorem Z4w {α γ σ : Type} {kV : Kd γ} {raw : α → σ → γ} {R : Hp σ} {j : Nat} {x : α} {g : G} {u : Value} (h : (pBxS kV raw R j x).p g u) : ∃ b, u = .pointer (some ⟨b, 0, none⟩) ∧ (Zhk (some b) kV raw R j x).p g u := by
 obtain ⟨s, h1, h2⟩ := h
 obtain ⟨b, e, h3⟩ := Zx7 h1
 exact ⟨b, e, s, h3, h2⟩
theorem Zz2 {α : Type} {dk : Kd α} {j b : Nat} {v : α} {g : G} {u : Value} (h : (Zbk (some b) dk j v).p g u) : u = .pointer (some ⟨b, 0, none⟩) := by
 obtain ⟨b', cs, t, e, hm, hb⟩ := h
 rw [e, hb b rfl]
section
variable {α β φ γ σ : Type} {kS : Kd α} {kR : Kd β} {kF : Kd φ} {kV : Kd γ} {raw : β → σ → γ} {R : Hp σ} {f : FuncId} {tf t4 t5 s4 s5 j4 j5 b4 b5 : Nat} {v2 v : Value}
abbrev ptrV (b : Nat) : Value := .pointer (some ⟨b, 0, none⟩)
def Zx5 (P : Program) (f : FuncId) : Prop := ∀ (g : G) (v2 : Value) (b4 b5 : Nat), CallsD P f #[v2, ptrV b4, ptrV b5] .returning g.w (fun e u' w' => e = .returned (.tuple #[]) ∧ u' = .returning ∧ ∃ g', w' = g'.w ∧ Step [] g g')
def Zxh (P : Program) (f : FuncId) (kS : Kd α) (kV : Kd γ) (raw : β → σ → γ) (kR : Kd β) (tf : TypeId) (kF : Kd φ) (mk : φ → β) : Prop := ∀ (g : G) (v2 v : Value) (b4 b5 : Nat) (s z4 : α) (x : β) (r : φ), (kS.ptr s).p g v2 → (Zbk (some b4) kS 0 z4).p g (ptrV b4) → (Zhk (some b5) kV raw hpT 1 x).p g (ptrV b5) → (Zj3 tf (kF.pd r)).p g v →
 CallsD P f #[v2, ptrV b4, ptrV b5] (.panicking [{ v := v, recovered := false }]) g.w (fun e u' w' => e = .returned (.tuple #[]) ∧ u' = .panicking [{ v := v, recovered := true }] ∧ ∃ g', w' = g'.w ∧ Base g g' ∧ (Zbk (some b4) kS 0 s).p g' (ptrV b4) ∧ (Zbk (some b5) kR 1 (mk r)).p g' (ptrV b5))
theorem Z5f {fn : Func} {r1 r2 : ResultVar} {v1 v2 : Value} {a : Act} {g g0 : G} {L : Z7} (hr : fn.results = #[r1, r2]) (h : St N L a g) (hb : Base g0 g) (h1 : Zg1 P a g r1 v1) (h2 : Zg1 P a g r2 v2) (hq : q.p g (.tuple #[v1, v2])) : bodyPostD P fn (Fin g0 q) .ret a g.w := by
 show Leaves P fn a.tmps _ a.defers .returning g.w
 rw [h.df]
 have h1' : (Zfd a.tmps r1).run P g.w = .ok v1 g.w := h1
 have h2' : (Zfd a.tmps r2).run P g.w = .ok v2 g.w := h2
 exact ⟨.tuple #[v1, v2], by simp [Zg0, hr, h1', h2'], g, _, rfl, rfl, hb, hq⟩
theorem Z0o (he : Zp P f) (caps : Array Value) (w : World) : (invoke (.fn (.func f) caps) #[]).run P w = .ok (.enter f caps) w := by
 simp [invoke, Zin he]
theorem Z4b {fn : Func} {a : Act} {g g0 : G} {L : Z7} {c4 c5 : Option Nat} {x : α} {y : β} (hc : Zx5 P f) (he : Zp P f) (hr : fn.results = #[.cell s4 t4, .cell s5 t5]) (hT4 : Ty P t4 kS) (hT5 : Ty P t5 kR) (h : StD (dfr3 f v2 b4 b5) N L a g) (hb : Base g0 g)
   (h4 : (Zbk c4 kS j4 x).p g (Act.at a s4)) (h5 : (Zbk c5 kR j5 y).p g (Act.at a s5)) : bodyPostD P fn (Fin g0 (pTup [kS.pd x, kR.pd y])) .ret a g.w := by
 show Leaves P fn a.tmps _ a.defers .returning g.w
 rw [h.df]
 refine leaves_cons (f := f) (args := #[v2, ptrV b4, ptrV b5]) (by simp) (Z0o he _ _) ?_
 refine (hc g v2 b4 b5).mono ?_
 rintro e u' w' ⟨rfl, rfl, g', rfl, hs⟩
 obtain ⟨u4, r4, q4⟩ := Zbe (P := P) hT4 ((Zbk c4 kS j4 x).st hs (fun _ _ h => by cases h) h4)
 obtain ⟨u5, r5, q5⟩ := Zbe (P := P) hT5 ((Zbk c5 kR j5 y).st hs (fun _ _ h => by cases h) h5)
 have r4' : (Zfd a.tmps (.cell s4 t4)).run P g'.w = .ok u4 g'.w := r4
 have r5' : (Zfd a.tmps (.cell s5 t5)).run P g'.w = .ok u5 g'.w := r5
 exact ⟨.tuple #[u4, u5], by simp [Zg0, hr, r4', r5'], g', _, rfl, rfl, hb.step hs (by simp), Zde q4 q5⟩
theorem Z05 {fn : Func} {a : Act} {g g0 : G} {z4 s : α} {x : β} {r : φ} {mk : φ → β} (hc : Zxh P f kS kV raw kR tf kF mk) (he : Zp P f) (hr : fn.results = #[.cell s4 t4, .cell s5 t5]) (hT4 : Ty P t4 kS) (hT5 : Ty P t5 kR) (h0 : ∀ b, g0.own b = 0) (hD : a.defers = dfr3 f v2 b4 b5) (hb : Base g0 g) (hj : j4 ≠ j5)
   (hs : (kS.ptr s).p g v2) (h4 : (Zbk (some b4) kS j4 z4).p g (Act.at a s4)) (h5 : (Zhk (some b5) kV raw R j5 x).p g (Act.at a s5)) (hv : (Zj3 tf (kF.pd r)).p g v) : bodyPostD P fn (Fin g0 (pTup [kS.pd s, kR.pd (mk r)])) (.panic [{ v := v, recovered := false }]) a g.w := by
 show Leaves P fn a.tmps _ a.defers (.panicking _) g.w
 rw [hD]
 refine leaves_cons (f := f) (args := #[v2, ptrV b4, ptrV b5]) (by simp) (Z0o he _ _) ?_
 obtain ⟨bb, cs4, ty4, e4, ⟨m1, m2, m3, m4, m5, m6⟩, hbb⟩ := h4
 obtain rfl := hbb _ rfl
 obtain ⟨sg, ⟨bb', cs5, ty5, e5, ⟨n1, n2, n3, n4, n5, n6⟩, hbb'⟩, _⟩ := h5
 obtain rfl := hbb' _ rfl
 have hne : bb ≠ bb' := fun h => by rw [h, n2] at m2; omega
 let gc : G := ⟨g.w, g.pr, fun c => if c = bb then 1 else if c = bb' then 2 else 0, g.hpr, g.gl⟩
 have hle : g.le gc := ⟨Nat.le_refl _, fun _ _ h => h, fun _ _ _ => rfl, fun _ _ => rfl⟩
 have own : ∀ c, gc.own c = if c = bb then 1 else if c = bb' then 2 else 0 := fun _ => rfl
 have k4 : (Zbk (some bb) kS 0 z4).p gc (ptrV bb) := ⟨bb, cs4, ty4, rfl, ⟨m1, by rw [own, if_pos rfl], fun b' _ ho => by
   rw [own] at ho
   split at ho
   · assumption
   · split at ho <;> omega, m4, kS.mono hle m5, m6⟩, hbb⟩
 have k5 : (Zhk (some bb') kV raw hpT 1 x).p gc (ptrV bb') := ⟨sg, ⟨bb', cs5, ty5, rfl, ⟨n1, by rw [own, if_neg (Ne.symm hne), if_pos rfl], fun b' _ ho => by
   rw [own] at ho
   split at ho
   · omega
   · split at ho
     · assumption
     · omega, n4, kV.mono hle n5, n6⟩, hbb'⟩, trivial⟩
 refine (hc gc v2 v bb bb' s z4 x r (Pd.le (q := kS.ptr s) rfl hle rfl rfl rfl hs) k4 k5 (Pd.le (q := Zj3 tf (kF.pd r)) rfl hle rfl rfl rfl hv)).mono ?_
 rintro e u' w' ⟨rfl, rfl, g', rfl, hB, q4, q5⟩
 have a4 : (Zbk (some bb) kS 0 s).p g' (Act.at a s4) := by rw [e4]; exact q4
 have a5 : (Zbk (some bb') kR 1 (mk r)).p g' (Act.at a s5) := by rw [e5]; exact q5
 obtain ⟨u4, r4, p4⟩ := Zbe (P := P) hT4 a4
 obtain ⟨u5, r5, p5⟩ := Zbe (P := P) hT5 a5
 have r4' : (Zfd a.tmps (.cell s4 t4)).run P g'.w = .ok u4 g'.w := r4
 have r5' : (Zfd a.tmps (.cell s5 t5)).run P g'.w = .ok u5 g'.w := r5
 have hle' : g.le g' := hle.trans hB.le
 show ∃ v, (results fn a.tmps).run P g'.w = .ok v g'.w ∧ _
 refine ⟨.tuple #[u4, u5], by simp [Zg0, hr, r4', r5'], g'.bare, _, rfl, rfl, ⟨hb.le.trans (hle'.trans (Zns g')), hB.os.trans hb.os, hB.tape.trans hb.tape, hB.output.trans hb.output, fun c hcl hc0 => ?_⟩, Zde (Pd.le (q := kS.pd s) rfl (Zns g') rfl rfl rfl p4) (Pd.le (q := kR.pd (mk r)) rfl (Zns g') rfl rfl rfl p5)⟩
 obtain ⟨k1, k2, k3⟩ := hb.same c hcl hc0
 have h1 : c ≠ bb := fun h => by rw [h, m2] at k3; omega
 have h2 : c ≠ bb' := fun h => by rw [h, n2] at k3; omega
 obtain ⟨l1, l2, l3⟩ := hB.same c (Nat.lt_of_lt_of_le hcl hb.le.size) (by rw [own, if_neg h1, if_neg h2])
 exact ⟨l1.trans k1, l2.trans k2, rfl⟩
theorem Zq3 {t : TypeId} {ms : _} (w : World) (k : Nat) (hu : P.underlying t = some (.interface ms)) : (Op.equalIn (k + 1) t .nilIface .nilIface).run P w = .ok true w := by simp [Op.equalIn, run_underlying hu]
theorem Zqm {t t2 : TypeId} {u2 : Value} {ms : _} (w : World) (k : Nat) (hu : P.underlying t = some (.interface ms)) : (Op.equalIn (k + 1) t (.iface t2 u2) .nilIface).run P w = .ok false w := by simp [Op.equalIn, run_underlying hu]
theorem Z3d {t ty : TypeId} (ht : (P.underlying t).map (fun u => match u with | .interface _ => true | _ => false) = some true) (hop : o.op = .binOp .eql t x (.const .nilIface) ty) (hd : o.dst = some d) (hx : Opd uses x (pEq .nilIface)) : OB P N o uses [(d, Zbc true)] [] :=
 Zb3 hd fun a g hh => by
   have hv : a.eval x = .nilIface := hx a g hh
   refine ⟨.bool true, ?_, Zeg _ g⟩
   cases hu : P.underlying t with
   | none => rw [hu] at ht; cases ht
   | some u =>
     rw [hu] at ht
     cases u <;> try (simp at ht; done)
     have hg : (eqGuard .eql t x (.const .nilIface) .nilIface .nilIface).run P g.w = .ok () g.w := by
       unfold eqGuard
       cases x <;> rfl
     have hb : (binOp .eql t .nilIface .nilIface).run P g.w = .ok (.bool true) g.w := by
       show (do pure (.bool (← Op.equal t .nilIface .nilIface)) : Sem Value).run P g.w = _
       have : (Op.equal t .nilIface .nilIface).run P g.w = .ok true g.w := by
         exact Zq3 g.w 9999 hu
       simp only [Sem.run_bind, this, Result.andThen_ok, Sem.run_pure]
     have hc : a.eval (.const .nilIface) = .nilIface := rfl
     simp [execOp, hop, hv, hc, hg, hb]
theorem Z10 {t ty t2 : TypeId} (ht : (P.underlying t).map (fun u => match u with | .interface _ => true | _ => false) = some true) (hop : o.op = .binOp .eql t x (.const .nilIface) ty) (hd : o.dst = some d) (hx : Opd uses x (Zj3 t2 q)) : OB P N o uses [(d, Zbc false)] [] :=
 Zb3 hd fun a g hh => by
   obtain ⟨u2, hv, _⟩ := hx a g hh
   refine ⟨.bool false, ?_, Zeg _ g⟩
   cases hu : P.underlying t with
   | none => rw [hu] at ht; cases ht
   | some u =>
     rw [hu] at ht
     cases u <;> try (simp at ht; done)
     have hg : (eqGuard .eql t x (.const .nilIface) (.iface t2 u2) .nilIface).run P g.w = .ok () g.w := by
       unfold eqGuard
       split <;> rfl
     have hb : (binOp .eql t (.iface t2 u2) .nilIface).run P g.w = .ok (.bool false) g.w := by
       show (do pure (.bool (← Op.equal t (.iface t2 u2) .nilIface)) : Sem Value).run P g.w = _
       have : (Op.equal t (.iface t2 u2) .nilIface).run P g.w = .ok false g.w := by
         exact Zqm g.w 9999 hu
       simp only [Sem.run_bind, this, Result.andThen_ok, Sem.run_pure]
     have hc : a.eval (.const .nilIface) = .nilIface := rfl
     simp [execOp, hop, hv, hc, hg, hb]
theorem Z0w {t t2 : TypeId} (ht : (P.underlying t2).map (fun u => match u with | .interface _ => true | _ => false) = some false) (hop : o.op = .typeAssert x t t2 true) (hd : o.dst = some d) (hx : Opd uses x (Zj3 t2 q)) : OB P N o uses [(d, pTup [q, Zbc true])] [] :=
 Zb3 hd fun a g hh => by
   obtain ⟨u2, hv, hq⟩ := hx a g hh
   refine ⟨.tuple #[u2, .bool true], ?_, Zde hq (Zeg _ g)⟩
   cases hu : P.underlying t2 with
   | none => rw [hu] at ht; cases ht
   | some u =>
     rw [hu] at ht
     cases u <;> first | (simp at ht; done) | simp [execOp, hop, hv, Instr.typeAssert, run_underlying hu]
end
theorem Z00 {c : Code} {a : Act} {w : World} (J : Act → Prop) (hJ : J a) (h : ∀ a, J a → c.wp P Q a w) : c.wp P Q a w := h a hJ
theorem Zuo {a : Act} {n : Nat} {g : G} {v : Value} (e : Act.at a n = v) (h : q.p g v) : q.p g (Act.at a n) := e ▸ h
abbrev dact (a : Act) (d1 : Nat) (v : Value) (D : List Deferred) : Act := { tmps := (a.put (some d1) v).tmps, defers := D }
theorem Zqd {a : Act} {d1 n : Nat} {v : Value} {D : List Deferred} {g : G} (h : n ≠ d1) (hq : q.p g (Act.at a n)) : q.p g (Act.at (dact a d1 v D) n) := by
 have : Act.at (dact a d1 v D) n = Act.at a n := Zil (a := a) v (fun e => h (Option.some.inj e).symm)
 rw [this]; exact hq
theorem Z1x {a : Act} {g : G} {v u : Value} (h : q.p g u) (e : u = v) : (pAt v q).p g (Act.at a 1000) := e ▸ h
theorem Z7u {k a b : Nat} (h : k = a) (h' : k = b) (hn : a ≠ b) : False := hn (h.symm.trans h')
end
end Go.CL
namespace Go.CL
open Go Go.RowKit Go.Proofs
theorem Zsv : Zx5 Tryd.prog 18 := by
 intro g v2 b4 b5
 refine callsD_of_wpS Tryd.func18 rfl fun c₀ cs hu => ?_
 apply wpS_seq
 apply wpS_region
 simp [wpOpsS, go_sem, recoverD, hu, Tryd.ntmps18, Exit.thenS]
 refine wpS_of_wp ?_
 refine Z00 (fun a => St 18 [(6, pEq .nilIface)] a g.bare) ?_ (fun a hst => ?_)
 · exact ⟨by simp, rfl, Ze6 (show Act.at _ _ = _ by simp [Act.at, Array.getD_eq_getD_getElem?, Array.getElem?_append, Array.getElem?_setIfInBounds]) Zmz⟩
 have hb := Zo4 g
 refine (show (Code.block _ _).wp Tryd.prog _ a g.bare.w from ?_)
 refine wp_block ?_
 refine r_s (T := [⟨[.old 0], _, [], [], [8]⟩]) (F := [.op 0 0, .old 0]) hst hb Zb
   (o_p rfl (Z3d (by kernel_rfl) rfl rfl u_0) <| o_n) (by kernel_rfl) (fun a g1 hst hb => ?_)
 refine wp_cond_split (hst.bool 0 rfl) (fun _ => ?_) (fun hc => by cases hc)
 refine r_g (L := [(6, _)]) (T := [⟨[.old 0], _, [], [], [3]⟩]) (F := [.old 0]) (hst.pick [1] rfl) hb Zb
   (o_p rfl (Zc rfl rfl u_0) <| o_n) (by kernel_rfl) (fun a g1 hst hb => ?_)
 refine Zbr ?_
 obtain ⟨g2, e2, hs, _⟩ := Zox hb
 refine ⟨hst.df, .returning, ?_, .tuple #[], by simp [results, Tryd.results18], rfl, rfl, g2, e2.symm, hs⟩
 rw [← hu]
theorem Zss : Zxh Tryd.prog 18 Zx Zcu Zdo Zfn 70 Zet (fun r => ({ Code := r.code, At := r.at_, Answers := ([] : List Zg) } : Zba)) := by
 intro g v2 v b4 b5 s z4 x r hs h4 h5 hv
 refine callsD_of_wpS Tryd.func18 rfl fun c₀ cs hu => ?_
 apply wpS_seq
 apply wpS_region
 simp [wpOpsS, go_sem, recoverD, hu, Tryd.ntmps18, Exit.thenS]
 refine wpS_of_wp ?_
 refine Z00 (fun a => St 18 [(0, Zx.ptr s), (1, Zbk (some b4) Zx 0 z4), (2, Zhk (some b5) Zcu Zdo hpT 1 x), (6, Zj3 70 (Zet.pd r))] a g) ?_ (fun a hst => ?_)
 · exact ⟨by simp, rfl, Ze6 (Zuo (v := v2) (by simp [Act.at, Array.getD_eq_getD_getElem?, Array.getElem?_append, Array.getElem?_setIfInBounds]) hs) (Ze6 (Zuo (v := ptrV b4) (by simp [Act.at, Array.getD_eq_getD_getElem?, Array.getElem?_append, Array.getElem?_setIfInBounds]) h4) (Ze6 (Zuo (v := ptrV b5) (by simp [Act.at, Array.getD_eq_getD_getElem?, Array.getElem?_append, Array.getElem?_setIfInBounds]) h5) (Ze6 (Zuo (v := v) (by simp [Act.at, Array.getD_eq_getD_getElem?, Array.getElem?_append, Array.getElem?_setIfInBounds]) hv) Zmz)))⟩
 have hb : Base g g := ⟨.refl _, rfl, rfl, rfl, fun _ _ h => ⟨rfl, rfl, h⟩⟩
 refine (show (Code.block _ _).wp Tryd.prog _ a g.w from ?_)
 refine wp_block ?_
 refine r_s (T := [⟨[.old 3], _, [], [], [8]⟩]) (F := [.old 0, .old 1, .old 2, .old 3, .op 0 0]) hst hb Zb
   (o_p rfl (Z10 (by kernel_rfl) rfl rfl u_0) <| o_n) (by kernel_rfl) (fun a g1 hst hb => ?_)
 refine wp_cond_split (hst.bool 4 rfl) (fun hc => by cases hc) (fun _ => ?_)
 refine r_s (L := [(0, _), (1, _), (2, _), (6, _)]) (T := [⟨[.old 3], _, [], [], [9]⟩, ⟨[.op 0 0], _, [], [0], [10]⟩, ⟨[.op 0 0], _, [], [0], [11]⟩]) (F := [.old 0, .old 1, .old 2, .op 1 0, .op 2 0]) (hst.pick [0, 1, 2, 3] rfl) hb Zb
   (o_p rfl (Z0w (by kernel_rfl) rfl rfl u_0) <| o_p rfl (Z4 rfl rfl u_0 rfl) <| o_p rfl (Z4 rfl rfl u_0 rfl) <| o_n) (by kernel_rfl) (fun a g1 hst hb => ?_)
 refine wp_cond_split (hst.bool 3 rfl) (fun _ => ?_) (fun hc => by cases hc)
 refine r_s (L := [(0, _), (1, _), (2, _), (11, _)]) (T := [⟨[], [(4, (pBox Zet 90 (default : Zda)))], [91], [], [4]⟩, ⟨[.op 0 0, .old 3], _, [91], [0], [4]⟩]) (F := [.old 0, .old 1, .old 2, .op 1 0]) (hst.pick [0, 1, 2, 4] rfl) hb Zb
   (o_p rfl (Zbi (zs := [.int .i64 0, .int .i64 0]) (by kernel_rfl) (fun g => Zr3 g) rfl rfl) <| o_p rfl (Zb9 Z7v rfl rfl u_0 u_1) <| o_n) (by kernel_rfl) (fun a g1 hst hb => ?_)
 refine r_g (T := [⟨[.old 0], _, [], [], [12]⟩, ⟨[.old 3], _, [], [], [13]⟩, ⟨[.op 1 0], _, [], [1], [14]⟩, ⟨[.old 3], _, [], [], [15]⟩, ⟨[.op 3 0], _, [], [3], [16]⟩, ⟨[.op 2 0, .op 4 0], _, [], [1, 2, 3, 4], [17]⟩, ⟨[.old 1, .op 0 0], _, [1], [0], [1]⟩, ⟨[.old 2, .op 5 0], _, [2], [0, 1, 2, 3, 4, 5, 6], [2]⟩]) (F := [.op 6 0, .op 7 0]) hst hb Zb
   (o_p rfl (Zf Zbm rfl rfl u_0) <| o_p rfl (Ze Z3u rfl rfl u_0) <| o_p rfl (Zf Zn9 rfl rfl u_0) <| o_p rfl (Ze Z4v rfl rfl u_0) <| o_p rfl (Zf ty_3 rfl rfl u_0) <| o_p rfl (Zt4 rfl rfl u_0 u_1) <| o_p rfl (Z6 Zbm rfl rfl u_0 u_1) <| o_p rfl (Zoi (kV := Zcu) (by rfl) Zmv rfl rfl u_0 u_1) <| o_n) (by kernel_rfl) (fun a g1 hst hb => ?_)
 refine Zbr ?_
 have k4 := hst.at 0 rfl
 have k5 := hst.at 1 rfl
 have w4 : Act.at a 1 = ptrV b4 := Zz2 k4
 have w5 : Act.at a 2 = ptrV b5 := Zz2 k5
 exact ⟨hst.df, .panicking [{ v := v, recovered := true }], rfl, .tuple #[], by simp [results, Tryd.results18], rfl, rfl, g1, rfl, hb, w4 ▸ k4, w5 ▸ k5⟩
theorem Zhx (a0 : Int) (a1 : Zd) (a2 : Bool) {r : Zd × Bool × Zg × Zd} (h : Zfm a0 a1 a2 = some r) : FnB Tryd.prog 50 [.val (pInt .i64 a0), .box Zi a1 r.2.2.2, .val (Kd.bool.ptr a2)] (pTup [(Zi.pd r.1), (Zbc r.2.1), (Zs.pd r.2.2.1)]) := by
 have H0 := h
 unfold Zfm at H0
 clear h
 refine Zik (N := 11) Tryd.func50 rfl rfl (Nat.le_of_ble_eq_true rfl) rfl rfl (fun a g0 bs hbs hst hb => ?_)
 obtain ⟨b1, rfl⟩ := Z6o hbs
 replace hst : St 11 [(0, (pInt .i64 a0)), (1, (Zbk (some b1) Zi 1 a1)), (2, (Kd.bool.ptr a2))] _ _ := hst
 refine r_s (T := [⟨[], [(4, (pBox Zi 4 (default : Zd)))], [5], [], [4]⟩, ⟨[], _, [], [], [5]⟩, ⟨[], [(6, (pBox Zs 6 (default : Zg)))], [7], [], [6]⟩]) (F := [.old 0, .old 1, .old 2, .op 0 0, .op 2 0]) hst hb Zb
   (o_p rfl (Zbi (zs := [.int .i64 0, .int .i64 0, .int .i64 0, .int .i64 0, .float .f64 0, .int .i64 0, .string ByteArray.empty, .slice none 0 0]) (by kernel_rfl) (fun g => Zb5 g) rfl rfl) <| o_p rfl (Zc rfl rfl c_b) <| o_p rfl (Zbi (zs := [.int .i64 0, .int .i64 0, .int .i64 0, .int .i64 0, .int .i64 0, .int .i64 0, .float .f64 0, .int .i64 0, .string ByteArray.empty, .slice none 0 0]) (by kernel_rfl) (fun g => Zfu g) rfl rfl) <| o_n) (by kernel_rfl) (fun a g hst hb => ?_)
 refine r_s (T := [⟨[.old 1], _, [], [], [7]⟩, ⟨[.old 2], _, [], [], [8]⟩, ⟨[.old 0], _, [], [], [9]⟩, ⟨[.op 2 0], _, [], [2], [10]⟩, ⟨[.op 0 0, .old 3], _, [5], [0], [4]⟩, ⟨[.op 1 0], _, [], [0, 1, 4], [5]⟩, ⟨[.op 3 0, .old 4], _, [7], Lr 6, [6]⟩]) (F := [.old 1, .op 4 0, .op 5 0, .op 6 0]) hst hb Zb
   (o_p rfl (Zca Zbf rfl rfl u_0) <| o_p rfl (Zf ty_4 rfl rfl u_0) <| o_p rfl (Za rfl rfl u_0) <| o_p rfl (Zsx rfl rfl u_0) <| o_p rfl (Z6 Zbf rfl rfl u_1 u_0) <| o_p rfl (Zc rfl rfl u_0) <| o_p rfl (Z6 Zcm rfl rfl u_1 u_0) <| o_n) (by kernel_rfl) (fun a g hst hb => ?_)
 refine wp_ret ?_
 obtain rfl := Option.some.inj H0
 obtain ⟨u0, hu0, hq0⟩ := Zbe (P := Tryd.prog) Zbf (hst.at 1 rfl)
 obtain ⟨u2, hu2, hq2⟩ := Zbe (P := Tryd.prog) Zcm (hst.at 3 rfl)
 exact Z7x rfl hst hb hu0 (Zl (s := 5)) hu2 (Zhv hq0 (hst.at 2 rfl) hq2) ⟨Zcc (hst.at 0 rfl), trivial⟩
theorem Zz7 (a0 : Int) {r : Int} (h : Zid a0 = some r) : FnOk Tryd.prog 51 [(pInt .i64 a0)] (pInt .i64 r) := by
 have H0 := h
 unfold Zid at H0
 clear h
 refine Zbs (N := 6) Tryd.func51 rfl rfl (Nat.le_of_ble_eq_true rfl) rfl rfl (fun a g0 hst hb => ?_)
 refine r_s (T := [⟨[], _, [], [], [2]⟩]) (F := [.old 0]) hst hb Zb
   (o_p rfl (Zc rfl rfl c_i) <| o_n) (by kernel_rfl) (fun a g hst hb => ?_)
 obtain ⟨r1, h2, H0⟩ := Zh H0
 refine r_s (T := [⟨[.old 0], _, [], [], [3]⟩, ⟨[.op 0 0], _, [], [0], [4]⟩, ⟨[.op 1 0], _, [], [0, 1], [5]⟩, ⟨[.op 2 0], _, [], [0, 1, 2], [2]⟩]) (F := [.op 3 0]) hst hb Zb
   (o_p rfl (Za rfl rfl u_0) <| o_p rfl (Zq Z2y (Zth _ h2) rfl rfl (.cons u_0 .nil)) <| o_p rfl (Z1h Zvx rfl rfl u_0) <| o_p rfl (Zc rfl rfl u_0) <| o_n) (by kernel_rfl) (fun a g hst hb => ?_)
 refine wp_ret ?_
 obtain rfl := Option.some.inj H0
 exact Z3 rfl hst hb (Zl (s := 2)) (hst.at 0 rfl)
end Go.CL
