/- A part of the proof of FoldWhole. -/
import Derived.Test.YtiggdpakpaickaaDoorFoldWholeC3
set_option linter.unusedVariables false
set_option linter.unusedSimpArgs false
set_option maxRecDepth 100000
namespace Go.CL
open Go Go.RowKit Go.Proofs
theorem Zut (a0 : Zj) (a1 : Zj) {r : Bool} (h : Zht a0 a1 = some r) : FnOk Tryd.prog 49 [(Zy.pd a0), (Zy.pd a1)] (Zbd r) := by
 have H0 := h
 unfold Zht at H0
 clear h
 refine Zbu (N := 17) Tryd.func49 rfl rfl (Nat.le_of_ble_eq_true rfl) rfl rfl (fun a g0 hst hb => ?_)
 refine r_s (T := [⟨[.old 0], _, [], [], [2]⟩, ⟨[.old 1], _, [], [], [3]⟩, ⟨[], _, [], [], [4]⟩]) (F := [.op 0 0, .op 1 0]) hst hb Zb
   (o_p rfl (Zbl rfl rfl u_0) <| o_p rfl (Zbl rfl rfl u_0) <| o_p rfl (Zc rfl rfl c_b) <| o_n) (by kernel_rfl) (fun a g hst hb => ?_)
 obtain ⟨r1, h2, H0⟩ := Zh H0
 refine r_s (T := ⟨[.old 0], _, [], [], [5]⟩ :: ⟨[.op 0 0], _, [], [0], [6]⟩ :: ⟨[.old 1], _, [], [], [7]⟩ :: ⟨[.op 2 0], _, [], [2], [8]⟩ :: ⟨[.op 1 0, .op 3 0], _, [], Lr 4, [9]⟩ :: ⟨[.op 4 0], _, [], Lr 5, [10]⟩ :: ⟨[.op 5 0, .old 0], _, [], Lr 6, [11]⟩ :: ⟨[.op 5 0, .op 6 0], _, [], Lr 7, [12]⟩ :: ⟨[.op 5 0, .old 1], _, [], Lr 6, [13]⟩ :: ⟨[.op 5 0, .op 8 0], _, [], [0, 1, 2, 3, 4, 5, 8], [14]⟩ :: ⟨[.op 5 0, .op 7 0, .op 9 0], _, [], Lr 10, [15]⟩ :: ⟨[.op 5 0, .op 10 0], _, [], Lr 11, [16]⟩ :: ⟨[.op 11 0], _, [], Lr 12, [4]⟩ :: []) (F := [.op 12 0]) hst hb Zb
   (o_p rfl (Ze Zf2 rfl rfl u_0) <| o_p rfl (Zf ty_9 rfl rfl u_0) <| o_p rfl (Ze Zf2 rfl rfl u_0) <| o_p rfl (Zf ty_9 rfl rfl u_0) <| o_p rfl (Zl2 rfl rfl u_0 u_1) <| o_p rfl (Za rfl rfl u_0) <| o_g (g_t rfl rfl rfl (fun hG => Ze Zgn rfl rfl u_0)) <| o_g (g_t rfl rfl rfl (fun hG => Zf Ze4 rfl rfl (Opd.gd hG u_0))) <| o_g (g_t rfl rfl rfl (fun hG => Ze Zgn rfl rfl u_0)) <| o_g (g_t rfl rfl rfl (fun hG => Zf Ze4 rfl rfl (Opd.gd hG u_0))) <| o_g (g_t rfl rfl rfl (fun hG => Zp Zqc (Zi7 _ _ (Zbq h2 hG)) rfl rfl (.cons (Opd.gd hG u_0) (.cons (Opd.gd hG u_1) .nil)))) <| o_p rfl (Zbj rfl rfl u_0 (fun hz => (Opd.gd hz u_1))) <| o_p rfl (Zc rfl rfl u_0) <| o_n) (by kernel_rfl) (fun a g hst hb => ?_)
 refine wp_ret ?_
 obtain rfl := Option.some.inj H0
 exact Z3 rfl hst hb (Zm (s := 4)) (hst.at 0 rfl)
theorem Znr (a0 : Zd) (a1 : Zd) {r : Bool} (h : Zkj a0 a1 = some r) : FnOk Tryd.prog 33 [(Zi.pd a0), (Zi.pd a1)] (Zbd r) := by
 have H0 := h
 unfold Zkj at H0
 clear h
 refine Zbu (N := 59) Tryd.func33 rfl rfl (Nat.le_of_ble_eq_true rfl) rfl rfl (fun a g0 hst hb => ?_)
 refine r_s (T := [⟨[.old 0], _, [], [], [2]⟩, ⟨[.old 1], _, [], [], [3]⟩, ⟨[], _, [], [], [4]⟩]) (F := [.op 0 0, .op 1 0]) hst hb Zb
   (o_p rfl (Zbl rfl rfl u_0) <| o_p rfl (Zbl rfl rfl u_0) <| o_p rfl (Zc rfl rfl c_b) <| o_n) (by kernel_rfl) (fun a g hst hb => ?_)
 obtain ⟨r1, h2, H0⟩ := Zh H0; obtain ⟨r3, h4, H0⟩ := Zh H0
 refine r_s (T := ⟨[.old 0], _, [], [], [5]⟩ :: ⟨[.op 0 0], _, [], [0], [6]⟩ :: ⟨[.old 1], _, [], [], [7]⟩ :: ⟨[.op 2 0], _, [], [2], [8]⟩ :: ⟨[.op 1 0, .op 3 0], _, [], Lr 4, [9]⟩ :: ⟨[.op 4 0], _, [], Lr 5, [10]⟩ :: ⟨[.op 5 0, .old 0], _, [], Lr 6, [11]⟩ :: ⟨[.op 5 0, .op 6 0], _, [], Lr 7, [12]⟩ :: ⟨[.op 5 0, .old 1], _, [], Lr 6, [13]⟩ :: ⟨[.op 5 0, .op 8 0], _, [], [0, 1, 2, 3, 4, 5, 8], [14]⟩ :: ⟨[.op 5 0, .op 7 0, .op 9 0], _, [], Lr 10, [15]⟩ :: ⟨[.op 5 0, .op 10 0], _, [], Lr 11, [16]⟩ :: ⟨[.op 11 0], _, [], Lr 12, [17]⟩ :: ⟨[.op 12 0, .old 0], _, [], Lr 13, [18]⟩ :: ⟨[.op 12 0, .op 13 0], _, [], Lr 14, [19]⟩ :: ⟨[.op 12 0, .old 1], _, [], Lr 13, [20]⟩ :: ⟨[.op 12 0, .op 15 0], _, [], 0 :: 1 :: 2 :: 3 :: 4 :: 5 :: 6 :: 7 :: 8 :: 9 :: 10 :: 11 :: 12 :: 15 :: [], [21]⟩ :: ⟨[.op 12 0, .op 14 0, .op 16 0], _, [], Lr 17, [22]⟩ :: ⟨[.op 12 0, .op 17 0], _, [], Lr 18, [23]⟩ :: ⟨[.op 18 0], _, [], Lr 19, [24]⟩ :: ⟨[.op 19 0, .old 0], _, [], Lr 20, [25]⟩ :: ⟨[.op 19 0, .op 20 0], _, [], Lr 21, [26]⟩ :: ⟨[.op 19 0, .old 1], _, [], Lr 20, [27]⟩ :: ⟨[.op 19 0, .op 22 0], _, [], 0 :: 1 :: 2 :: 3 :: 4 :: 5 :: 6 :: 7 :: 8 :: 9 :: 10 :: 11 :: 12 :: 13 :: 14 :: 15 :: 16 :: 17 :: 18 :: 19 :: 22 :: [], [28]⟩ :: ⟨[.op 19 0, .op 21 0, .op 23 0], _, [], Lr 24, [29]⟩ :: ⟨[.op 19 0, .op 24 0], _, [], Lr 25, [30]⟩ :: ⟨[.op 25 0], _, [], Lr 26, [31]⟩ :: ⟨[.op 26 0, .old 0], _, [], Lr 27, [32]⟩ :: ⟨[.op 26 0, .op 27 0], _, [], Lr 28, [33]⟩ :: ⟨[.op 26 0, .old 1], _, [], Lr 27, [34]⟩ :: ⟨[.op 26 0, .op 29 0], _, [], 0 :: 1 :: 2 :: 3 :: 4 :: 5 :: 6 :: 7 :: 8 :: 9 :: 10 :: 11 :: 12 :: 13 :: 14 :: 15 :: 16 :: 17 :: 18 :: 19 :: 20 :: 21 :: 22 :: 23 :: 24 :: 25 :: 26 :: 29 :: [], [35]⟩ :: ⟨[.op 26 0, .op 28 0, .op 30 0], _, [], Lr 31, [36]⟩ :: ⟨[.op 26 0, .op 31 0], _, [], Lr 32, [37]⟩ :: ⟨[.op 32 0], _, [], Lr 33, [38]⟩ :: ⟨[.op 33 0, .old 0], _, [], Lr 34, [39]⟩ :: ⟨[.op 33 0, .op 34 0], _, [], Lr 35, [40]⟩ :: ⟨[.op 33 0, .old 1], _, [], Lr 34, [41]⟩ :: ⟨[.op 33 0, .op 36 0], _, [], 0 :: 1 :: 2 :: 3 :: 4 :: 5 :: 6 :: 7 :: 8 :: 9 :: 10 :: 11 :: 12 :: 13 :: 14 :: 15 :: 16 :: 17 :: 18 :: 19 :: 20 :: 21 :: 22 :: 23 :: 24 :: 25 :: 26 :: 27 :: 28 :: 29 :: 30 :: 31 :: 32 :: 33 :: 36 :: [], [42]⟩ :: ⟨[.op 33 0, .op 35 0, .op 37 0], _, [], Lr 38, [43]⟩ :: ⟨[.op 33 0, .op 38 0], _, [], Lr 39, [44]⟩ :: ⟨[.op 39 0], _, [], Lr 40, [45]⟩ :: ⟨[.op 40 0, .old 0], _, [], Lr 41, [46]⟩ :: ⟨[.op 40 0, .op 41 0], _, [], Lr 42, [47]⟩ :: ⟨[.op 40 0, .old 1], _, [], Lr 41, [48]⟩ :: ⟨[.op 40 0, .op 43 0], _, [], 0 :: 1 :: 2 :: 3 :: 4 :: 5 :: 6 :: 7 :: 8 :: 9 :: 10 :: 11 :: 12 :: 13 :: 14 :: 15 :: 16 :: 17 :: 18 :: 19 :: 20 :: 21 :: 22 :: 23 :: 24 :: 25 :: 26 :: 27 :: 28 :: 29 :: 30 :: 31 :: 32 :: 33 :: 34 :: 35 :: 36 :: 37 :: 38 :: 39 :: 40 :: 43 :: [], [49]⟩ :: ⟨[.op 40 0, .op 42 0, .op 44 0], _, [], Lr 45, [50]⟩ :: ⟨[.op 40 0, .op 45 0], _, [], Lr 46, [51]⟩ :: ⟨[.op 46 0], _, [], Lr 47, [52]⟩ :: ⟨[.op 47 0, .old 0], _, [], Lr 48, [53]⟩ :: ⟨[.op 47 0, .op 48 0], _, [], Lr 49, [54]⟩ :: ⟨[.op 47 0, .old 1], _, [], Lr 48, [55]⟩ :: ⟨[.op 47 0, .op 50 0], _, [], 0 :: 1 :: 2 :: 3 :: 4 :: 5 :: 6 :: 7 :: 8 :: 9 :: 10 :: 11 :: 12 :: 13 :: 14 :: 15 :: 16 :: 17 :: 18 :: 19 :: 20 :: 21 :: 22 :: 23 :: 24 :: 25 :: 26 :: 27 :: 28 :: 29 :: 30 :: 31 :: 32 :: 33 :: 34 :: 35 :: 36 :: 37 :: 38 :: 39 :: 40 :: 41 :: 42 :: 43 :: 44 :: 45 :: 46 :: 47 :: 50 :: [], [56]⟩ :: ⟨[.op 47 0, .op 49 0, .op 51 0], _, [], Lr 52, [57]⟩ :: ⟨[.op 47 0, .op 52 0], _, [], Lr 53, [58]⟩ :: ⟨[.op 53 0], _, [], Lr 54, [4]⟩ :: []) (F := [.op 54 0]) hst hb Zb
   (o_p rfl (Ze Zf9 rfl rfl u_0) <| o_p rfl (Zf ty_3 rfl rfl u_0) <| o_p rfl (Ze Zf9 rfl rfl u_0) <| o_p rfl (Zf ty_3 rfl rfl u_0) <| o_p rfl (Zbw rfl rfl u_0 u_1) <| o_p rfl (Za rfl rfl u_0) <| o_g (g_t rfl rfl rfl (fun hG => Ze Zea rfl rfl u_0)) <| o_g (g_t rfl rfl rfl (fun hG => Zf ty_2 rfl rfl (Opd.gd hG u_0))) <| o_g (g_t rfl rfl rfl (fun hG => Ze Zea rfl rfl u_0)) <| o_g (g_t rfl rfl rfl (fun hG => Zf ty_2 rfl rfl (Opd.gd hG u_0))) <| o_g (g_t rfl rfl rfl (fun hG => Zbw rfl rfl (Opd.gd hG u_0) (Opd.gd hG u_1))) <| o_p rfl (Zbj rfl rfl u_0 (fun hz => (Opd.gd hz u_1))) <| o_p rfl (Za rfl rfl u_0) <| o_g (g_t rfl rfl rfl (fun hG => Ze Zj1 rfl rfl u_0)) <| o_g (g_t rfl rfl rfl (fun hG => Zf ty_2 rfl rfl (Opd.gd hG u_0))) <| o_g (g_t rfl rfl rfl (fun hG => Ze Zj1 rfl rfl u_0)) <| o_g (g_t rfl rfl rfl (fun hG => Zf ty_2 rfl rfl (Opd.gd hG u_0))) <| o_g (g_t rfl rfl rfl (fun hG => Zbw rfl rfl (Opd.gd hG u_0) (Opd.gd hG u_1))) <| o_p rfl (Zbj rfl rfl u_0 (fun hz => (Opd.gd hz u_1))) <| o_p rfl (Za rfl rfl u_0) <| o_g (g_t rfl rfl rfl (fun hG => Ze Zj3 rfl rfl u_0)) <| o_g (g_t rfl rfl rfl (fun hG => Zf ty_2 rfl rfl (Opd.gd hG u_0))) <| o_g (g_t rfl rfl rfl (fun hG => Ze Zj3 rfl rfl u_0)) <| o_g (g_t rfl rfl rfl (fun hG => Zf ty_2 rfl rfl (Opd.gd hG u_0))) <| o_g (g_t rfl rfl rfl (fun hG => Zbw rfl rfl (Opd.gd hG u_0) (Opd.gd hG u_1))) <| o_p rfl (Zbj rfl rfl u_0 (fun hz => (Opd.gd hz u_1))) <| o_p rfl (Za rfl rfl u_0) <| o_g (g_t rfl rfl rfl (fun hG => Ze Zkx rfl rfl u_0)) <| o_g (g_t rfl rfl rfl (fun hG => Zf Ze4 rfl rfl (Opd.gd hG u_0))) <| o_g (g_t rfl rfl rfl (fun hG => Ze Zkx rfl rfl u_0)) <| o_g (g_t rfl rfl rfl (fun hG => Zf Ze4 rfl rfl (Opd.gd hG u_0))) <| o_g (g_t rfl rfl rfl (fun hG => Zp Zqc (Zi7 _ _ (Zbq h2 hG)) rfl rfl (.cons (Opd.gd hG u_0) (.cons (Opd.gd hG u_1) .nil)))) <| o_p rfl (Zbj rfl rfl u_0 (fun hz => (Opd.gd hz u_1))) <| o_p rfl (Za rfl rfl u_0) <| o_g (g_t rfl rfl rfl (fun hG => Ze Zhp rfl rfl u_0)) <| o_g (g_t rfl rfl rfl (fun hG => Zf ty_3 rfl rfl (Opd.gd hG u_0))) <| o_g (g_t rfl rfl rfl (fun hG => Ze Zhp rfl rfl u_0)) <| o_g (g_t rfl rfl rfl (fun hG => Zf ty_3 rfl rfl (Opd.gd hG u_0))) <| o_g (g_t rfl rfl rfl (fun hG => Zbw rfl rfl (Opd.gd hG u_0) (Opd.gd hG u_1))) <| o_p rfl (Zbj rfl rfl u_0 (fun hz => (Opd.gd hz u_1))) <| o_p rfl (Za rfl rfl u_0) <| o_g (g_t rfl rfl rfl (fun hG => Ze Zjs rfl rfl u_0)) <| o_g (g_t rfl rfl rfl (fun hG => Zf ty_9 rfl rfl (Opd.gd hG u_0))) <| o_g (g_t rfl rfl rfl (fun hG => Ze Zjs rfl rfl u_0)) <| o_g (g_t rfl rfl rfl (fun hG => Zf ty_9 rfl rfl (Opd.gd hG u_0))) <| o_g (g_t rfl rfl rfl (fun hG => Zl2 rfl rfl (Opd.gd hG u_0) (Opd.gd hG u_1))) <| o_p rfl (Zbj rfl rfl u_0 (fun hz => (Opd.gd hz u_1))) <| o_p rfl (Za rfl rfl u_0) <| o_g (g_t rfl rfl rfl (fun hG => Ze Zdc rfl rfl u_0)) <| o_g (g_t rfl rfl rfl (fun hG => Zf Zev rfl rfl (Opd.gd hG u_0))) <| o_g (g_t rfl rfl rfl (fun hG => Ze Zdc rfl rfl u_0)) <| o_g (g_t rfl rfl rfl (fun hG => Zf Zev rfl rfl (Opd.gd hG u_0))) <| o_g (g_t rfl rfl rfl (fun hG => Zp Z7e (Zgc 49 [] rfl Z8w (fun y0 y1 => Zht y0 y1) (fun y0 y1 r h => Zut y0 y1 h) _ _ (Zbq h4 hG)) rfl rfl (.cons (Opd.gd hG u_0) (.cons (Opd.gd hG u_1) (.cons Opd.fnc .nil))))) <| o_p rfl (Zbj rfl rfl u_0 (fun hz => (Opd.gd hz u_1))) <| o_p rfl (Zc rfl rfl u_0) <| o_n) (by kernel_rfl) (fun a g hst hb => ?_)
 refine wp_ret ?_
 obtain rfl := Option.some.inj H0
 exact Z3 rfl hst hb (Zm (s := 4)) (hst.at 0 rfl)
theorem Zic (a0 : Zc1) (a1 : Int) {r : Bool} (h : Zc4 a0 a1 = some r) : FnOk Tryd.prog 90 [(Zdx.pd a0), (pInt .u8 a1)] (Zbd r) := by
 have H0 := h
 unfold Zc4 at H0
 clear h
 refine Zbu (N := 19) Tryd.func90 rfl rfl (Nat.le_of_ble_eq_true rfl) rfl rfl (fun a g0 hst hb => ?_)
 refine r_s (T := [⟨[.old 0], _, [], [], [2]⟩, ⟨[], _, [], [], [4]⟩]) (F := [.old 1, .op 0 0]) hst hb Zb
   (o_p rfl (Zbl rfl rfl u_0) <| o_p rfl (Zc rfl rfl c_b) <| o_n) (by kernel_rfl) (fun a g hst hb => ?_)
 refine wp_seq ?_
 refine r_s (T := [⟨[.old 1], _, [], [], [6]⟩, ⟨[.op 0 0], _, [], [0], [7]⟩, ⟨[.op 1 0], _, [], [0, 1], [8]⟩, ⟨[], _, [], [], [9]⟩]) (F := [.old 0, .old 1, .op 2 0, .op 3 0]) hst hb Zb
   (o_p rfl (Ze Zv6 rfl rfl u_0) <| o_p rfl (Zf ty_9 rfl rfl u_0) <| o_p rfl (Zft Tryd.underlying9 rfl rfl u_0) <| o_p rfl (Za rfl rfl c_i) <| o_n) (by kernel_rfl) (fun a g hst hb => ?_)
 obtain ⟨z6, hz1, H0⟩ := Zh H0
 refine Zc0 (fun a w => ∃ (g : G), w = g.w ∧ St 19 [] a g ∧ Base g0 g ∧ (.inr ()) = z6) ?_ ?_
 · rintro a w ⟨g, rfl, hst, hb, rfl⟩
   refine Zu ?_
   refine r_s (T := [⟨[], _, [], [], [4]⟩]) (F := [.op 0 0]) hst hb Zb
     (o_p rfl (Zc rfl rfl c_b) <| o_n) (by kernel_rfl) (fun a g hst hb => ?_)
   refine wp_ret ?_
   obtain rfl := Option.some.inj H0
   exact Z3 rfl hst hb (Zm (s := 4)) (hst.at 0 rfl)
 · refine wp_block ?_
   refine wp_loop_ghost (fun n a w => ∃ (x1 : Int) (g : G), w = g.w ∧ St 19 [(1, (pInt .u8 a1)), (2, (Zdx.ptr a0)), (8, (pInt .i64 (a0.has.size : Int))), (9, (pInt .i64 x1))] a g ∧ Base g0 g ∧ Zg0 a0 a1 n x1 = some z6) (Int.toNat ((a0.has.size : Int) - (0 : Int)) + 1) ⟨(0 : Int), g, rfl, (hst.pick [0, 1, 2, 3] rfl), hb, hz1⟩ (fun n a w hI => ?_)
   obtain ⟨x1, g, rfl, hst, hb, H1⟩ := hI
   cases n with
   | zero => exact absurd H1 (by simp [Zg0])
   | succ n =>
     rw [Zg0] at H1
     refine r_s (T := [⟨[.old 3, .old 2], _, [], [], [10]⟩]) (F := [.old 0, .old 1, .old 2, .old 3, .op 0 0]) hst hb Zb
       (o_p rfl (Zc2 rfl rfl u_0 u_1) <| o_n) (by kernel_rfl) (fun a g hst hb => ?_)
     refine wp_seq ?_
     refine wp_cond_split (hst.bool 4 rfl) (fun hc2 => ?_) (fun hc2 => ?_)
     · replace H1 := Z0 hc2 H1
       refine wp_skip ?_
       refine Zu ?_
       refine wp_seq ?_
       refine wp_block ?_
       refine r_s (L := [(1, _), (2, _), (8, _), (9, _)]) (T := [⟨[.old 3], _, [], [], [11]⟩, ⟨[.op 0 0], _, [], [0], [5]⟩]) (F := [.old 0, .old 1, .op 1 0, .old 2, .old 3]) (hst.pick [0, 1, 2, 3] rfl) hb Zb
         (o_p rfl (Za rfl rfl u_0) <| o_p rfl (Zc rfl rfl u_0) <| o_n) (by kernel_rfl) (fun a g hst hb => ?_)
       obtain ⟨b3, h4, H1⟩ := Zh H1
       refine r_s (T := [⟨[.old 1], _, [], [], [12]⟩, ⟨[.op 0 0], _, [], [0], [13]⟩, ⟨[.old 2], _, [], [], [14]⟩, ⟨[.op 1 0, .op 2 0], _, [], [0, 1, 2], [15]⟩, ⟨[.old 0], _, [], [], [16]⟩, ⟨[.op 3 0, .op 4 0], _, [], Lr 5, [17]⟩]) (F := [.old 0, .old 1, .old 3, .old 4, .op 5 0]) hst hb Zb
         (o_p rfl (Ze Zv6 rfl rfl u_0) <| o_p rfl (Zf ty_9 rfl rfl u_0) <| o_p rfl (Za rfl rfl u_0) <| o_p rfl (Zmp Tryd.underlying9 rfl rfl u_0 u_1 h4) <| o_p rfl (Za rfl rfl u_0) <| o_p rfl (Zbw rfl rfl u_0 u_1) <| o_n) (by kernel_rfl) (fun a g hst hb => ?_)
       refine wp_cond_split (hst.bool 4 rfl) (fun hc5 => ?_) (fun hc5 => ?_)
       · replace H1 := Z0 hc5 H1
         refine r_s (L := []) (T := [⟨[], _, [], [], [4]⟩]) (F := [.op 0 0]) (hst.pick [] rfl) hb Zb
           (o_p rfl (Zc rfl rfl c_b) <| o_n) (by kernel_rfl) (fun a g hst hb => ?_)
         refine wp_ret ?_
         refine Zw ?_
         refine Zn ?_
         refine Zn ?_
         refine Zw ?_
         refine Zn ?_
         refine Zn ?_
         obtain rfl := Option.some.inj H1
         obtain rfl := Option.some.inj H0
         exact Z3 rfl hst hb (Zm (s := 4)) (hst.at 0 rfl)
       · replace H1 := Zz hc5 H1
         refine wp_skip ?_
         refine Zbt ?_
         refine Zu ?_
         refine r_g (L := [(1, _), (2, _), (8, _), (9, _)]) (T := [⟨[.old 3], _, [], [], [18]⟩, ⟨[.op 0 0], _, [], [0], [9]⟩]) (F := [.old 0, .old 1, .old 2, .op 1 0]) (hst.pick [0, 1, 2, 3] rfl) hb Zb
           (o_p rfl (Zce rfl rfl u_0 c_i rfl) <| o_p rfl (Za rfl rfl u_0) <| o_n) (by kernel_rfl) (fun a g hst hb => ?_)
         exact ⟨n, Nat.lt_succ_self _, (IntKind.i64.wrap (x1 + (1 : Int))), g, rfl, (hst.pick [0, 1, 2, 3] rfl), hb, H1⟩
     · replace H1 := Zz hc2 H1
       refine wp_exit ?_
       refine Zca ?_
       refine Zca ?_
       refine Zcz ?_
       exact ⟨g, rfl, (hst.pick [] rfl), hb, Option.some.inj H1⟩
theorem Zw6 (a0 : Zx) (a1 : Zc1) {r : Bool} (h : Zov a0 a1 = some r) : FnOk Tryd.prog 61 [(Z7.pd a0), (Zdx.pd a1)] (Zbd r) := by
 have H0 := h
 unfold Zov at H0
 clear h
 refine Zbu (N := 40) Tryd.func61 rfl rfl (Nat.le_of_ble_eq_true rfl) rfl rfl (fun a g0 hst hb => ?_)
 refine r_s (T := [⟨[.old 0], _, [], [], [2]⟩, ⟨[.old 1], _, [], [], [3]⟩, ⟨[], _, [], [], [4]⟩]) (F := [.op 0 0, .op 1 0]) hst hb Zb
   (o_p rfl (Zbl rfl rfl u_0) <| o_p rfl (Zbl rfl rfl u_0) <| o_p rfl (Zc rfl rfl c_b) <| o_n) (by kernel_rfl) (fun a g hst hb => ?_)
 obtain ⟨r1, h2, H0⟩ := Zh H0; obtain ⟨r3, h4, H0⟩ := Zh H0; obtain ⟨r5, h6, H0⟩ := Zh H0; obtain ⟨r7, h8, H0⟩ := Zh H0; obtain ⟨r9, h10, H0⟩ := Zh H0; obtain ⟨r11, h12, H0⟩ := Zh H0
 refine r_s (T := ⟨[.old 1], _, [], [], [5]⟩ :: ⟨[.op 0 0], _, [], [0], [6]⟩ :: ⟨[.op 1 0], _, [], [0, 1], [7]⟩ :: ⟨[.op 2 0, .old 0], _, [], [0, 1, 2], [8]⟩ :: ⟨[.op 2 0, .op 3 0], _, [], Lr 4, [9]⟩ :: ⟨[.op 2 0, .op 4 0], _, [], Lr 5, [10]⟩ :: ⟨[.op 2 0, .op 5 0], _, [], Lr 6, [11]⟩ :: ⟨[.op 6 0], _, [], Lr 7, [12]⟩ :: ⟨[.op 7 0, .old 1], _, [], Lr 8, [13]⟩ :: ⟨[.op 7 0, .op 8 0], _, [], Lr 9, [14]⟩ :: ⟨[.op 7 0, .op 9 0], _, [], Lr 10, [15]⟩ :: ⟨[.op 10 0, .old 0], _, [], Lr 11, [16]⟩ :: ⟨[.op 10 0, .op 11 0], _, [], Lr 12, [17]⟩ :: ⟨[.op 10 0, .op 12 0], _, [], Lr 13, [18]⟩ :: ⟨[.op 7 0, .op 10 0, .op 13 0], _, [], Lr 14, [19]⟩ :: ⟨[.op 7 0, .op 14 0], _, [], Lr 15, [20]⟩ :: ⟨[.op 15 0], _, [], Lr 16, [21]⟩ :: ⟨[.op 16 0, .old 1], _, [], Lr 17, [22]⟩ :: ⟨[.op 16 0, .op 17 0], _, [], Lr 18, [23]⟩ :: ⟨[.op 16 0, .op 18 0], _, [], Lr 19, [24]⟩ :: ⟨[.op 19 0, .old 0], _, [], Lr 20, [25]⟩ :: ⟨[.op 19 0, .op 20 0], _, [], Lr 21, [26]⟩ :: ⟨[.op 19 0, .op 21 0], _, [], Lr 22, [27]⟩ :: ⟨[.op 16 0, .op 19 0, .op 22 0], _, [], Lr 23, [28]⟩ :: ⟨[.op 16 0, .op 23 0], _, [], Lr 24, [29]⟩ :: ⟨[.op 24 0], _, [], Lr 25, [30]⟩ :: ⟨[.op 25 0, .old 1], _, [], Lr 26, [31]⟩ :: ⟨[.op 25 0, .op 26 0], _, [], Lr 27, [32]⟩ :: ⟨[.op 25 0, .op 27 0], _, [], Lr 28, [33]⟩ :: ⟨[.op 28 0, .old 0], _, [], Lr 29, [34]⟩ :: ⟨[.op 28 0, .op 29 0], _, [], Lr 30, [35]⟩ :: ⟨[.op 28 0], _, [], Lr 29, [36]⟩ :: ⟨[.op 28 0, .op 30 0, .op 31 0], _, [], Lr 32, [37]⟩ :: ⟨[.op 25 0, .op 28 0, .op 32 0], _, [], Lr 33, [38]⟩ :: ⟨[.op 25 0, .op 33 0], _, [], Lr 34, [39]⟩ :: ⟨[.op 34 0], _, [], Lr 35, [4]⟩ :: []) (F := [.op 35 0]) hst hb Zb
   (o_p rfl (Zf Zi1 rfl rfl u_0) <| o_p rfl (Zp Zu9 (Zic _ _ h2) rfl rfl (.cons u_0 (.cons c_i .nil))) <| o_p rfl (Za rfl rfl u_0) <| o_g (g_f rfl rfl rfl (fun hG => Ze Zgp rfl rfl u_0)) <| o_g (g_f rfl rfl rfl (fun hG => Zf ty_2 rfl rfl (Opd.gd hG u_0))) <| o_g (g_f rfl rfl rfl (fun hG => Zbw rfl rfl (Opd.gd hG u_0) c_i)) <| o_p rfl (Zbz rfl rfl u_0 (fun hz => (Opd.gd (bNF hz) u_1))) <| o_p rfl (Za rfl rfl u_0) <| o_g (g_t rfl rfl rfl (fun hG => Zf Zi1 rfl rfl u_0)) <| o_g (g_t rfl rfl rfl (fun hG => Zp Zu9 (Zic _ _ (Zbq h4 hG)) rfl rfl (.cons (Opd.gd hG u_0) (.cons c_i .nil)))) <| o_g (g_t rfl rfl rfl (fun hG => Za rfl rfl (Opd.gd hG u_0))) <| o_g (g_fi rfl rfl rfl (fun hG => Ze Zqr rfl rfl u_0)) <| o_g (g_fi rfl rfl rfl (fun hG => Zf Ze4 rfl rfl (Opd.gd hG u_0))) <| o_g (g_fi rfl rfl rfl (fun hG => Zp Zqc (Zi7 _ _ (Zbq h6 hG)) rfl rfl (.cons (Opd.gd hG u_0) (.cons c_f .nil)))) <| o_g (g_t rfl rfl rfl (fun hG => Zbz rfl rfl (Opd.gd hG u_0) (fun hz => (Opd.gd (bA hG (bNF hz)) u_1)))) <| o_p rfl (Zbj rfl rfl u_0 (fun hz => (Opd.gd hz u_1))) <| o_p rfl (Za rfl rfl u_0) <| o_g (g_t rfl rfl rfl (fun hG => Zf Zi1 rfl rfl u_0)) <| o_g (g_t rfl rfl rfl (fun hG => Zp Zu9 (Zic _ _ (Zbq h8 hG)) rfl rfl (.cons (Opd.gd hG u_0) (.cons c_i .nil)))) <| o_g (g_t rfl rfl rfl (fun hG => Za rfl rfl (Opd.gd hG u_0))) <| o_g (g_fi rfl rfl rfl (fun hG => Ze Zi6 rfl rfl u_0)) <| o_g (g_fi rfl rfl rfl (fun hG => Zf ty_9 rfl rfl (Opd.gd hG u_0))) <| o_g (g_fi rfl rfl rfl (fun hG => Zl2 rfl rfl (Opd.gd hG u_0) c_s)) <| o_g (g_t rfl rfl rfl (fun hG => Zbz rfl rfl (Opd.gd hG u_0) (fun hz => (Opd.gd (bA hG (bNF hz)) u_1)))) <| o_p rfl (Zbj rfl rfl u_0 (fun hz => (Opd.gd hz u_1))) <| o_p rfl (Za rfl rfl u_0) <| o_g (g_t rfl rfl rfl (fun hG => Zf Zi1 rfl rfl u_0)) <| o_g (g_t rfl rfl rfl (fun hG => Zp Zu9 (Zic _ _ (Zbq h10 hG)) rfl rfl (.cons (Opd.gd hG u_0) (.cons c_i .nil)))) <| o_g (g_t rfl rfl rfl (fun hG => Za rfl rfl (Opd.gd hG u_0))) <| o_g (g_fi rfl rfl rfl (fun hG => Ze Zqe rfl rfl u_0)) <| o_g (g_fi rfl rfl rfl (fun hG => Zf Zbi rfl rfl (Opd.gd hG u_0))) <| o_g (g_fi rfl rfl rfl (fun hG => Zpj rfl rfl )) <| o_g (g_fi rfl rfl rfl (fun hG => Zp Zzz (Znr _ _ (Zbq h12 hG)) rfl rfl (.cons (Opd.gd hG u_0) (.cons (Opd.gd hG u_1) .nil)))) <| o_g (g_t rfl rfl rfl (fun hG => Zbz rfl rfl (Opd.gd hG u_0) (fun hz => (Opd.gd (bA hG (bNF hz)) u_1)))) <| o_p rfl (Zbj rfl rfl u_0 (fun hz => (Opd.gd hz u_1))) <| o_p rfl (Zc rfl rfl u_0) <| o_n) (by kernel_rfl) (fun a g hst hb => ?_)
 refine wp_ret ?_
 obtain rfl := Option.some.inj H0
 exact Z3 rfl hst hb (Zm (s := 4)) (hst.at 0 rfl)
theorem Zxo (a0 : Zc1) {r : Int} (h : Zok a0 = some r) : FnOk Tryd.prog 62 [(Zdx.pd a0)] (pInt .i64 r) := by
 have H0 := h
 unfold Zok at H0
 clear h
 refine Zbu (N := 6) Tryd.func62 rfl rfl (Nat.le_of_ble_eq_true rfl) rfl rfl (fun a g0 hst hb => ?_)
 refine r_s (T := [⟨[.old 0], _, [], [], [1]⟩, ⟨[], _, [], [], [2]⟩]) (F := [.op 0 0]) hst hb Zb
   (o_p rfl (Zbl rfl rfl u_0) <| o_p rfl (Zc rfl rfl c_i) <| o_n) (by kernel_rfl) (fun a g hst hb => ?_)
 refine wp_seq ?_
 refine r_s (T := [⟨[.old 0], _, [], [], [3]⟩, ⟨[.op 0 0], _, [], [0], [4]⟩, ⟨[.op 1 0], _, [], [0, 1], [5]⟩]) (F := [.op 2 0]) hst hb Zb
   (o_p rfl (Ze Zwq rfl rfl u_0) <| o_p rfl (Zf ty_3 rfl rfl u_0) <| o_p rfl (Zbw rfl rfl u_0 c_i) <| o_n) (by kernel_rfl) (fun a g hst hb => ?_)
 refine wp_cond_split (hst.bool 0 rfl) (fun hc1 => ?_) (fun hc1 => ?_)
 · replace H0 := Z0 hc1 H0
   refine r_s (L := []) (T := [⟨[], _, [], [], [2]⟩]) (F := [.op 0 0]) (hst.pick [] rfl) hb Zb
     (o_p rfl (Zc rfl rfl c_i) <| o_n) (by kernel_rfl) (fun a g hst hb => ?_)
   refine wp_ret ?_
   refine Zn ?_
   obtain rfl := Option.some.inj H0
   exact Z3 rfl hst hb (Zm (s := 2)) (hst.at 0 rfl)
 · replace H0 := Zz hc1 H0
   refine wp_skip ?_
   refine Zu ?_
   refine r_s (L := []) (T := [⟨[], _, [], [], [2]⟩]) (F := [.op 0 0]) (hst.pick [] rfl) hb Zb
     (o_p rfl (Zc rfl rfl c_i) <| o_n) (by kernel_rfl) (fun a g hst hb => ?_)
   refine wp_ret ?_
   obtain rfl := Option.some.inj H0
   exact Z3 rfl hst hb (Zm (s := 2)) (hst.at 0 rfl)
theorem Zpe (a0 : Zx) {r : Int} (h : Zgl a0 = some r) : FnOk Tryd.prog 42 [(Z7.pd a0)] (pInt .i64 r) := by
 have H0 := h
 unfold Zgl at H0
 clear h
 refine Zbu (N := 64) Tryd.func42 rfl rfl (Nat.le_of_ble_eq_true rfl) rfl rfl (fun a g0 hst hb => ?_)
 refine r_s (T := [⟨[.old 0], _, [], [], [1]⟩, ⟨[], _, [], [], [2]⟩]) (F := [.op 0 0]) hst hb Zb
   (o_p rfl (Zbl rfl rfl u_0) <| o_p rfl (Zc rfl rfl c_i) <| o_n) (by kernel_rfl) (fun a g hst hb => ?_)
 obtain ⟨r1, h2, H0⟩ := Zh H0
 refine r_s (T := [⟨[.old 0], _, [], [], [4]⟩, ⟨[.op 0 0], _, [], [0], [5]⟩, ⟨[.op 1 0], _, [], [0, 1], [6]⟩, ⟨[], [(3, (pBox Zdx 3 (default : Zc1)))], [4], [], [3]⟩, ⟨[.op 2 0, .op 3 0], _, [4], Lr 4, [3]⟩]) (F := [.old 0, .op 4 0]) hst hb Zb
   (o_p rfl (Ze Zhq rfl rfl u_0) <| o_p rfl (Zf ty_3 rfl rfl u_0) <| o_p rfl (Zp Z3d (Zt8 _ h2) rfl rfl (.cons u_0 .nil)) <| o_p rfl (Zbb (zs := [.string ByteArray.empty, .int .i64 0, .string ByteArray.empty]) (by kernel_rfl) (fun g => Zrc g) rfl rfl) <| o_p rfl (Zby Zi1 rfl rfl u_1 u_0) <| o_n) (by kernel_rfl) (fun a g hst hb => ?_)
 refine wp_seq ?_
 refine wp_block ?_
 refine r_s (T := [⟨[.old 1], _, [], [], [8]⟩, ⟨[.op 0 0], _, [], [0], [9]⟩, ⟨[.op 1 0], _, [], [0, 1], [10]⟩, ⟨[.op 2 0], _, [], [0, 1, 2], [7]⟩]) (F := [.old 0, .old 1, .op 3 0]) hst hb Zb
   (o_p rfl (Ze Z2t rfl rfl u_0) <| o_p rfl (Zf ty_9 rfl rfl u_0) <| o_p rfl (Zl2 rfl rfl u_0 c_s) <| o_p rfl (Zc rfl rfl u_0) <| o_n) (by kernel_rfl) (fun a g hst hb => ?_)
 refine wp_cond_split (hst.bool 2 rfl) (fun hc3 => ?_) (fun hc3 => ?_)
 · replace H0 := Z0 hc3 H0
   refine r_s (L := []) (T := [⟨[], _, [], [], [2]⟩]) (F := [.op 0 0]) (hst.pick [] rfl) hb Zb
     (o_p rfl (Zc rfl rfl c_i) <| o_n) (by kernel_rfl) (fun a g hst hb => ?_)
   refine wp_ret ?_
   refine Zw ?_
   refine Zn ?_
   obtain rfl := Option.some.inj H0
   exact Z3 rfl hst hb (Zm (s := 2)) (hst.at 0 rfl)
 · replace H0 := Zz hc3 H0
   refine r_s (L := [(1, _), (3, _)]) (T := [⟨[.old 0], _, [], [], [12]⟩, ⟨[.op 0 0], _, [], [0], [13]⟩, ⟨[.op 1 0], _, [], [0, 1], [14]⟩, ⟨[.op 2 0], _, [], [0, 1, 2], [15]⟩, ⟨[.op 3 0, .old 0], _, [], Lr 4, [16]⟩, ⟨[.op 3 0, .op 4 0], _, [], Lr 5, [17]⟩, ⟨[.op 3 0, .op 5 0], _, [], Lr 6, [18]⟩, ⟨[.op 3 0, .op 6 0], _, [], Lr 7, [19]⟩, ⟨[.op 3 0, .op 7 0], _, [], Lr 8, [20]⟩, ⟨[.op 8 0], _, [], Lr 9, [11]⟩]) (F := [.old 0, .old 1, .op 9 0]) (hst.pick [0, 1] rfl) hb Zb
     (o_p rfl (Ze Zmn rfl rfl u_0) <| o_p rfl (Zf ty_9 rfl rfl u_0) <| o_p rfl (Zl2 rfl rfl u_0 c_s) <| o_p rfl (Za rfl rfl u_0) <| o_g (g_f rfl rfl rfl (fun hG => Ze Zmn rfl rfl u_0)) <| o_g (g_f rfl rfl rfl (fun hG => Zf ty_9 rfl rfl (Opd.gd hG u_0))) <| o_g (g_f rfl rfl rfl (fun hG => Zft Tryd.underlying9 rfl rfl (Opd.gd hG u_0))) <| o_g (g_f rfl rfl rfl (fun hG => Zcr rfl rfl (Opd.gd hG u_0) c_i)) <| o_p rfl (Zbz rfl rfl u_0 (fun hz => (Opd.gd (bNF hz) u_1))) <| o_p rfl (Zc rfl rfl u_0) <| o_n) (by kernel_rfl) (fun a g hst hb => ?_)
   refine wp_cond_split (hst.bool 2 rfl) (fun hc4 => ?_) (fun hc4 => ?_)
   · replace H0 := Z0 hc4 H0
     refine r_s (L := []) (T := [⟨[], _, [], [], [2]⟩]) (F := [.op 0 0]) (hst.pick [] rfl) hb Zb
       (o_p rfl (Zc rfl rfl c_i) <| o_n) (by kernel_rfl) (fun a g hst hb => ?_)
     refine wp_ret ?_
     refine Zw ?_
     refine Zn ?_
     obtain rfl := Option.some.inj H0
     exact Z3 rfl hst hb (Zm (s := 2)) (hst.at 0 rfl)
   · replace H0 := Zz hc4 H0
     obtain ⟨r5, h6, H0⟩ := Zh H0
     refine r_s (L := [(1, _), (3, _)]) (T := [⟨[.old 0], _, [], [], [22]⟩, ⟨[.old 1], _, [], [], [23]⟩, ⟨[.op 0 0, .op 1 0], _, [], [0, 1], [24]⟩, ⟨[.op 2 0], _, [], [0, 1, 2], [25]⟩, ⟨[.op 3 0], _, [], Lr 4, [21]⟩]) (F := [.old 0, .old 1, .op 4 0]) (hst.pick [0, 1] rfl) hb Zb
       (o_p rfl (Zf Ze9 rfl rfl u_0) <| o_p rfl (Zf Zi1 rfl rfl u_0) <| o_p rfl (Zp Z7o (Zw6 _ _ h6) rfl rfl (.cons u_0 (.cons u_1 .nil))) <| o_p rfl (Zcn rfl rfl u_0) <| o_p rfl (Zc rfl rfl u_0) <| o_n) (by kernel_rfl) (fun a g hst hb => ?_)
     refine wp_cond_split (hst.bool 2 rfl) (fun hc7 => ?_) (fun hc7 => ?_)
     · replace H0 := Z0 hc7 H0
       refine r_s (L := []) (T := [⟨[], _, [], [], [2]⟩]) (F := [.op 0 0]) (hst.pick [] rfl) hb Zb
         (o_p rfl (Zc rfl rfl c_i) <| o_n) (by kernel_rfl) (fun a g hst hb => ?_)
       refine wp_ret ?_
       refine Zw ?_
       refine Zn ?_
       obtain rfl := Option.some.inj H0
       exact Z3 rfl hst hb (Zm (s := 2)) (hst.at 0 rfl)
     · replace H0 := Zz hc7 H0
       obtain ⟨r8, h9, H0⟩ := Zh H0
       refine r_s (L := [(1, _), (3, _)]) (T := [⟨[.old 0], _, [], [], [27]⟩, ⟨[.op 0 0], _, [], [0], [28]⟩, ⟨[.op 1 0], _, [], [0, 1], [29]⟩, ⟨[.old 1], _, [], [], [30]⟩, ⟨[.op 3 0], _, [], [3], [31]⟩, ⟨[.op 2 0, .op 4 0], _, [], Lr 5, [32]⟩, ⟨[.op 5 0], _, [], Lr 6, [26]⟩]) (F := [.old 0, .op 6 0]) (hst.pick [0, 1] rfl) hb Zb
         (o_p rfl (Ze Zi6 rfl rfl u_0) <| o_p rfl (Zf ty_9 rfl rfl u_0) <| o_p rfl (Zft Tryd.underlying9 rfl rfl u_0) <| o_p rfl (Zf Zi1 rfl rfl u_0) <| o_p rfl (Zp Z7a (Zxo _ h9) rfl rfl (.cons u_0 .nil)) <| o_p rfl (Zcr rfl rfl u_0 u_1) <| o_p rfl (Zc rfl rfl u_0) <| o_n) (by kernel_rfl) (fun a g hst hb => ?_)
       refine wp_cond_split (hst.bool 1 rfl) (fun hc10 => ?_) (fun hc10 => ?_)
       · replace H0 := Z0 hc10 H0
         refine r_s (L := []) (T := [⟨[], _, [], [], [2]⟩]) (F := [.op 0 0]) (hst.pick [] rfl) hb Zb
           (o_p rfl (Zc rfl rfl c_i) <| o_n) (by kernel_rfl) (fun a g hst hb => ?_)
         refine wp_ret ?_
         refine Zw ?_
         refine Zn ?_
         obtain rfl := Option.some.inj H0
         exact Z3 rfl hst hb (Zm (s := 2)) (hst.at 0 rfl)
       · replace H0 := Zz hc10 H0
         refine r_s (L := [(1, _)]) (T := ⟨[.old 0], _, [], [], [34]⟩ :: ⟨[.op 0 0], _, [], [0], [35]⟩ :: ⟨[.op 1 0], _, [], [0, 1], [36]⟩ :: ⟨[.op 2 0], _, [], [0, 1, 2], [37]⟩ :: ⟨[.op 3 0, .old 0], _, [], Lr 4, [38]⟩ :: ⟨[.op 3 0, .op 4 0], _, [], Lr 5, [39]⟩ :: ⟨[.op 3 0, .op 5 0], _, [], Lr 6, [40]⟩ :: ⟨[.op 3 0, .op 6 0], _, [], Lr 7, [41]⟩ :: ⟨[.op 7 0], _, [], Lr 8, [42]⟩ :: ⟨[.op 8 0, .old 0], _, [], Lr 9, [43]⟩ :: ⟨[.op 8 0, .op 9 0], _, [], Lr 10, [44]⟩ :: ⟨[.op 8 0, .op 10 0], _, [], Lr 11, [45]⟩ :: ⟨[.op 8 0, .op 11 0], _, [], Lr 12, [46]⟩ :: ⟨[.op 12 0, .old 0], _, [], Lr 13, [47]⟩ :: ⟨[.op 12 0, .op 13 0], _, [], Lr 14, [48]⟩ :: ⟨[.op 12 0, .op 14 0], _, [], Lr 15, [49]⟩ :: ⟨[.op 8 0, .op 12 0, .op 15 0], _, [], Lr 16, [50]⟩ :: ⟨[.op 8 0, .op 16 0], _, [], Lr 17, [51]⟩ :: ⟨[.op 17 0], _, [], Lr 18, [33]⟩ :: []) (F := [.old 0, .op 18 0]) (hst.pick [0] rfl) hb Zb
           (o_p rfl (Ze Zhq rfl rfl u_0) <| o_p rfl (Zf ty_3 rfl rfl u_0) <| o_p rfl (Zbw rfl rfl u_0 c_i) <| o_p rfl (Za rfl rfl u_0) <| o_g (g_f rfl rfl rfl (fun hG => Ze Zhq rfl rfl u_0)) <| o_g (g_f rfl rfl rfl (fun hG => Zf ty_3 rfl rfl (Opd.gd hG u_0))) <| o_g (g_f rfl rfl rfl (fun hG => Zbw rfl rfl (Opd.gd hG u_0) c_i)) <| o_p rfl (Zbz rfl rfl u_0 (fun hz => (Opd.gd (bNF hz) u_1))) <| o_p rfl (Za rfl rfl u_0) <| o_g (g_t rfl rfl rfl (fun hG => Ze Zgp rfl rfl u_0)) <| o_g (g_t rfl rfl rfl (fun hG => Zf ty_2 rfl rfl (Opd.gd hG u_0))) <| o_g (g_t rfl rfl rfl (fun hG => Zc2 rfl rfl (Opd.gd hG u_0) c_i)) <| o_g (g_t rfl rfl rfl (fun hG => Za rfl rfl (Opd.gd hG u_0))) <| o_g (g_fi rfl rfl rfl (fun hG => Ze Zgp rfl rfl u_0)) <| o_g (g_fi rfl rfl rfl (fun hG => Zf ty_2 rfl rfl (Opd.gd hG u_0))) <| o_g (g_fi rfl rfl rfl (fun hG => Zcr rfl rfl (Opd.gd hG u_0) c_i)) <| o_g (g_t rfl rfl rfl (fun hG => Zbz rfl rfl (Opd.gd hG u_0) (fun hz => (Opd.gd (bA hG (bNF hz)) u_1)))) <| o_p rfl (Zbj rfl rfl u_0 (fun hz => (Opd.gd hz u_1))) <| o_p rfl (Zc rfl rfl u_0) <| o_n) (by kernel_rfl) (fun a g hst hb => ?_)
         refine wp_cond_split (hst.bool 1 rfl) (fun hc11 => ?_) (fun hc11 => ?_)
         · replace H0 := Z0 hc11 H0
           refine r_s (L := []) (T := [⟨[], _, [], [], [2]⟩]) (F := [.op 0 0]) (hst.pick [] rfl) hb Zb
             (o_p rfl (Zc rfl rfl c_i) <| o_n) (by kernel_rfl) (fun a g hst hb => ?_)
           refine wp_ret ?_
           refine Zw ?_
           refine Zn ?_
           obtain rfl := Option.some.inj H0
           exact Z3 rfl hst hb (Zm (s := 2)) (hst.at 0 rfl)
         · replace H0 := Zz hc11 H0
           obtain ⟨r12, h13, H0⟩ := Zh H0
           refine r_s (L := [(1, _)]) (T := [⟨[.old 0], _, [], [], [53]⟩, ⟨[.op 0 0], _, [], [0], [54]⟩, ⟨[.op 1 0], _, [], [0, 1], [55]⟩, ⟨[.op 2 0], _, [], [0, 1, 2], [56]⟩, ⟨[.op 3 0], _, [], Lr 4, [52]⟩]) (F := [.old 0, .op 4 0]) (hst.pick [0] rfl) hb Zb
             (o_p rfl (Ze Zqr rfl rfl u_0) <| o_p rfl (Zf Ze4 rfl rfl u_0) <| o_p rfl (Zp Zzq (Zmc _ h13) rfl rfl (.cons u_0 .nil)) <| o_p rfl (Zcn rfl rfl u_0) <| o_p rfl (Zc rfl rfl u_0) <| o_n) (by kernel_rfl) (fun a g hst hb => ?_)
           refine wp_cond_split (hst.bool 1 rfl) (fun hc14 => ?_) (fun hc14 => ?_)
           · replace H0 := Z0 hc14 H0
             refine r_s (L := []) (T := [⟨[], _, [], [], [2]⟩]) (F := [.op 0 0]) (hst.pick [] rfl) hb Zb
               (o_p rfl (Zc rfl rfl c_i) <| o_n) (by kernel_rfl) (fun a g hst hb => ?_)
             refine wp_ret ?_
             refine Zw ?_
             refine Zn ?_
             obtain rfl := Option.some.inj H0
             exact Z3 rfl hst hb (Zm (s := 2)) (hst.at 0 rfl)
           · replace H0 := Zz hc14 H0
             refine r_s (L := [(1, _)]) (T := [⟨[.old 0], _, [], [], [58]⟩, ⟨[.op 0 0], _, [], [0], [59]⟩, ⟨[.op 1 0], _, [], [0, 1], [60]⟩, ⟨[.op 2 0], _, [], [0, 1, 2], [57]⟩]) (F := [.old 0, .op 3 0]) (hst.pick [0] rfl) hb Zb
               (o_p rfl (Ze Zhq rfl rfl u_0) <| o_p rfl (Zf ty_3 rfl rfl u_0) <| o_p rfl (Zbw rfl rfl u_0 c_i) <| o_p rfl (Zc rfl rfl u_0) <| o_n) (by kernel_rfl) (fun a g hst hb => ?_)
             refine wp_cond_split (hst.bool 1 rfl) (fun hc15 => ?_) (fun hc15 => ?_)
             · replace H0 := Z0 hc15 H0
               obtain ⟨r16, h17, H0⟩ := Zh H0
               refine r_s (L := [(1, _)]) (T := [⟨[.old 0], _, [], [], [61]⟩, ⟨[.op 0 0], _, [], [0], [62]⟩, ⟨[.op 1 0], _, [], [0, 1], [63]⟩, ⟨[.op 2 0], _, [], [0, 1, 2], [2]⟩]) (F := [.op 3 0]) (hst.pick [0] rfl) hb Zb
                 (o_p rfl (Ze Zqe rfl rfl u_0) <| o_p rfl (Zf Zbi rfl rfl u_0) <| o_p rfl (Zp Zzj (Zmy _ h17) rfl rfl (.cons u_0 .nil)) <| o_p rfl (Zc rfl rfl u_0) <| o_n) (by kernel_rfl) (fun a g hst hb => ?_)
               refine wp_ret ?_
               refine Zw ?_
               refine Zn ?_
               obtain rfl := Option.some.inj H0
               exact Z3 rfl hst hb (Zm (s := 2)) (hst.at 0 rfl)
             · replace H0 := Zz hc15 H0
               refine wp_skip ?_
               refine Zbt ?_
               refine Zu ?_
               refine r_s (L := []) (T := [⟨[], _, [], [], [2]⟩]) (F := [.op 0 0]) (hst.pick [] rfl) hb Zb
                 (o_p rfl (Zc rfl rfl c_i) <| o_n) (by kernel_rfl) (fun a g hst hb => ?_)
               refine wp_ret ?_
               obtain rfl := Option.some.inj H0
               exact Z3 rfl hst hb (Zm (s := 2)) (hst.at 0 rfl)
theorem Zhx (a0 : Int) (a1 : Zd) (a2 : Bool) {r : Zd × Bool × Zg × Zd} (h : Zfo a0 a1 a2 = some r) : FnB Tryd.prog 50 [.val (pInt .i64 a0), .box Zi a1 r.2.2.2, .val (Kd.bool.ptr a2)] (pTup [(Zi.pd r.1), (Zbd r.2.1), (Zs.pd r.2.2.1)]) := by
 have H0 := h
 unfold Zfo at H0
 clear h
 refine Zif (N := 11) Tryd.func50 rfl rfl (Nat.le_of_ble_eq_true rfl) rfl rfl (fun a g0 bs hbs hst hb => ?_)
 obtain ⟨b1, rfl⟩ := Z76 hbs
 replace hst : St 11 [(0, (pInt .i64 a0)), (1, (Zbm (some b1) Zi 1 a1)), (2, (Kd.bool.ptr a2))] _ _ := hst
 refine r_s (T := [⟨[], [(4, (pBox Zi 4 (default : Zd)))], [5], [], [4]⟩, ⟨[], _, [], [], [5]⟩, ⟨[], [(6, (pBox Zs 6 (default : Zg)))], [7], [], [6]⟩]) (F := [.old 0, .old 1, .old 2, .op 0 0, .op 2 0]) hst hb Zb
   (o_p rfl (Zbb (zs := [.int .i64 0, .int .i64 0, .int .i64 0, .int .i64 0, .float .f64 0, .int .i64 0, .string ByteArray.empty, .slice none 0 0]) (by kernel_rfl) (fun g => Zch g) rfl rfl) <| o_p rfl (Zc rfl rfl c_b) <| o_p rfl (Zbb (zs := [.int .i64 0, .int .i64 0, .int .i64 0, .int .i64 0, .int .i64 0, .int .i64 0, .float .f64 0, .int .i64 0, .string ByteArray.empty, .slice none 0 0]) (by kernel_rfl) (fun g => Zdy g) rfl rfl) <| o_n) (by kernel_rfl) (fun a g hst hb => ?_)
 refine r_s (T := [⟨[.old 1], _, [], [], [7]⟩, ⟨[.old 2], _, [], [], [8]⟩, ⟨[.old 0], _, [], [], [9]⟩, ⟨[.op 2 0], _, [], [2], [10]⟩, ⟨[.op 0 0, .old 3], _, [5], [0], [4]⟩, ⟨[.op 1 0], _, [], [0, 1, 4], [5]⟩, ⟨[.op 3 0, .old 4], _, [7], Lr 6, [6]⟩]) (F := [.old 1, .op 4 0, .op 5 0, .op 6 0]) hst hb Zb
   (o_p rfl (Zb8 Zbi rfl rfl u_0) <| o_p rfl (Zf ty_4 rfl rfl u_0) <| o_p rfl (Za rfl rfl u_0) <| o_p rfl (Ztf rfl rfl u_0) <| o_p rfl (Z6 Zbi rfl rfl u_1 u_0) <| o_p rfl (Zc rfl rfl u_0) <| o_p rfl (Z6 Zcb rfl rfl u_1 u_0) <| o_n) (by kernel_rfl) (fun a g hst hb => ?_)
 refine wp_ret ?_
 obtain rfl := Option.some.inj H0
 obtain ⟨u0, hu0, hq0⟩ := Zbh (P := Tryd.prog) Zbi (hst.at 1 rfl)
 obtain ⟨u2, hu2, hq2⟩ := Zbh (P := Tryd.prog) Zcb (hst.at 3 rfl)
 exact Z8l rfl hst hb hu0 (Zm (s := 5)) hu2 (Zhs hq0 (hst.at 2 rfl) hq2) ⟨Zcj (hst.at 0 rfl), trivial⟩
theorem Z1t (a0 : Int) {r : Int} (h : Zkc a0 = some r) : FnOk Tryd.prog 51 [(pInt .i64 a0)] (pInt .i64 r) := by
 have H0 := h
 unfold Zkc at H0
 clear h
 refine Zbu (N := 6) Tryd.func51 rfl rfl (Nat.le_of_ble_eq_true rfl) rfl rfl (fun a g0 hst hb => ?_)
 refine r_s (T := [⟨[], _, [], [], [2]⟩]) (F := [.old 0]) hst hb Zb
   (o_p rfl (Zc rfl rfl c_i) <| o_n) (by kernel_rfl) (fun a g hst hb => ?_)
 obtain ⟨r1, h2, H0⟩ := Zh H0
 refine r_s (T := [⟨[.old 0], _, [], [], [3]⟩, ⟨[.op 0 0], _, [], [0], [4]⟩, ⟨[.op 1 0], _, [], [0, 1], [5]⟩, ⟨[.op 2 0], _, [], [0, 1, 2], [2]⟩]) (F := [.op 3 0]) hst hb Zb
   (o_p rfl (Za rfl rfl u_0) <| o_p rfl (Zp Z3d (Zt8 _ h2) rfl rfl (.cons u_0 .nil)) <| o_p rfl (Z2d Zwq rfl rfl u_0) <| o_p rfl (Zc rfl rfl u_0) <| o_n) (by kernel_rfl) (fun a g hst hb => ?_)
 refine wp_ret ?_
 obtain rfl := Option.some.inj H0
 exact Z3 rfl hst hb (Zm (s := 2)) (hst.at 0 rfl)
theorem Zqu (a0 : Zd) (a1 : Zx) (a2 : Zg) {r : Int × Zd × Zg} (h : Zii a0 a1 a2 = some r) : FnB Tryd.prog 66 [.box Zi a0 r.2.1, .val (Z7.pd a1), .box Zs a2 r.2.2] (pInt .i64 r.1) := by
 have H0 := h
 unfold Zii at H0
 clear h
 refine Zif (N := 12) Tryd.func66 rfl rfl (Nat.le_of_ble_eq_true rfl) rfl rfl (fun a g0 bs hbs hst hb => ?_)
 obtain ⟨b0, b2, rfl⟩ := Zkg hbs
 replace hst : St 12 [(0, (Zbm (some b0) Zi 0 a0)), (1, (Z7.pd a1)), (2, (Zbm (some b2) Zs 2 a2))] _ _ := hst
 refine r_s (T := [⟨[.old 1], _, [], [], [4]⟩, ⟨[], _, [], [], [6]⟩]) (F := [.old 0, .old 2, .op 0 0]) hst hb Zb
   (o_p rfl (Zbl rfl rfl u_0) <| o_p rfl (Zc rfl rfl c_i) <| o_n) (by kernel_rfl) (fun a g hst hb => ?_)
 refine r_s (T := [⟨[.old 0], _, [], [], [7]⟩, ⟨[.old 2], _, [], [], [8]⟩, ⟨[.op 1 0], _, [], [1], [9]⟩, ⟨[.op 0 0], _, [], [0, 1, 2], [10]⟩, ⟨[.op 3 0], _, [], Lr 4, [11]⟩, ⟨[.op 2 0, .op 4 0, .old 0], _, [1], Lr 5, [0, 7, 10, 11]⟩]) (F := [.op 5 0, .old 1]) hst hb Zb
   (o_p rfl (Za rfl rfl u_0) <| o_p rfl (Ze Zi6 rfl rfl u_0) <| o_p rfl (Zf ty_9 rfl rfl u_0) <| o_p rfl (Zo rfl rfl u_0 (fun _ _ ⟨_, _, _, e, _⟩ => ⟨_, e⟩)) <| o_p rfl (Zbc Zjs (off := 6) (by kernel_rfl) rfl rfl u_0) <| o_p rfl (Zys ty_9 rfl rfl u_2 u_1 u_0) <| o_n) (by kernel_rfl) (fun a g hst hb => ?_)
 refine r_s (T := [⟨[], _, [], [], [6]⟩]) (F := [.old 0, .old 1, .op 0 0]) hst hb Zb
   (o_p rfl (Zc rfl rfl c_i) <| o_n) (by kernel_rfl) (fun a g hst hb => ?_)
 refine wp_ret ?_
 obtain rfl := Option.some.inj H0
 exact Zgu rfl hst hb (Zm (s := 6)) (hst.at 2 rfl) ⟨Zcj (hst.at 0 rfl), Zcj (hst.at 1 rfl), trivial⟩
theorem Zqw (a0 : Zd) (a1 : Zx) (a2 : Zg) {r : Int × Zd × Zg} (h : Zf4 a0 a1 a2 = some r) : FnB Tryd.prog 67 [.box Zi a0 r.2.1, .val (Z7.pd a1), .box Zs a2 r.2.2] (pInt .i64 r.1) := by
 have H0 := h
 unfold Zf4 at H0
 clear h
 refine Zif (N := 19) Tryd.func67 rfl rfl (Nat.le_of_ble_eq_true rfl) rfl rfl (fun a g0 bs hbs hst hb => ?_)
 obtain ⟨b0, b2, rfl⟩ := Zkg hbs
 replace hst : St 19 [(0, (Zbm (some b0) Zi 0 a0)), (1, (Z7.pd a1)), (2, (Zbm (some b2) Zs 2 a2))] _ _ := hst
 refine r_s (T := [⟨[.old 1], _, [], [], [4]⟩, ⟨[], _, [], [], [6]⟩]) (F := [.old 0, .old 2, .op 0 0]) hst hb Zb
   (o_p rfl (Zbl rfl rfl u_0) <| o_p rfl (Zc rfl rfl c_i) <| o_n) (by kernel_rfl) (fun a g hst hb => ?_)
 obtain ⟨r1, h2, H0⟩ := Zh H0
 refine r_s (T := [⟨[.old 1], _, [], [], [7]⟩, ⟨[.old 0], _, [], [], [8]⟩, ⟨[.op 1 0], _, [], [1], [9]⟩, ⟨[.op 2 0], _, [], [1, 2], [10]⟩, ⟨[.op 3 0], _, [], [1, 2, 3], [11]⟩, ⟨[.op 0 0], _, [], Lr 5, [12]⟩, ⟨[.op 5 0], _, [], Lr 6, [13]⟩, ⟨[.op 4 0, .op 6 0, .old 1], _, [3], Lr 7, [2, 7, 12, 13]⟩]) (F := [.old 0, .op 7 0, .old 2]) hst hb Zb
   (o_p rfl (Za rfl rfl u_0) <| o_p rfl (Za rfl rfl u_0) <| o_p rfl (Zo rfl rfl u_0 (fun _ _ ⟨_, _, _, e, _⟩ => ⟨_, e⟩)) <| o_p rfl (Zb8 Zbi rfl rfl u_0) <| o_p rfl (Zp Znk (Zgf _ h2) rfl rfl (.cons u_0 .nil)) <| o_p rfl (Zo rfl rfl u_0 (fun _ _ ⟨_, _, _, e, _⟩ => ⟨_, e⟩)) <| o_p rfl (Zbc Ztu (off := 2) (by kernel_rfl) rfl rfl u_0) <| o_p rfl (Z4s Zbi rfl rfl u_2 u_1 u_0) <| o_n) (by kernel_rfl) (fun a g hst hb => ?_)
 refine r_s (T := [⟨[.old 0], _, [], [], [14]⟩, ⟨[.old 2], _, [], [], [15]⟩, ⟨[.op 1 0], _, [], [1], [16]⟩, ⟨[.op 0 0], _, [], [0, 1, 2], [17]⟩, ⟨[.op 3 0], _, [], Lr 4, [18]⟩, ⟨[.op 2 0, .op 4 0, .old 0], _, [1], Lr 5, [0, 14, 17, 18]⟩]) (F := [.op 5 0, .old 1]) hst hb Zb
   (o_p rfl (Za rfl rfl u_0) <| o_p rfl (Ze Zi6 rfl rfl u_0) <| o_p rfl (Zf ty_9 rfl rfl u_0) <| o_p rfl (Zo rfl rfl u_0 (fun _ _ ⟨_, _, _, e, _⟩ => ⟨_, e⟩)) <| o_p rfl (Zbc Zjs (off := 6) (by kernel_rfl) rfl rfl u_0) <| o_p rfl (Zys ty_9 rfl rfl u_2 u_1 u_0) <| o_n) (by kernel_rfl) (fun a g hst hb => ?_)
 refine r_s (T := [⟨[], _, [], [], [6]⟩]) (F := [.old 0, .old 1, .op 0 0]) hst hb Zb
   (o_p rfl (Zc rfl rfl c_i) <| o_n) (by kernel_rfl) (fun a g hst hb => ?_)
 refine wp_ret ?_
 obtain rfl := Option.some.inj H0
 exact Zgu rfl hst hb (Zm (s := 6)) (hst.at 2 rfl) ⟨Zcj (hst.at 0 rfl), Zcj (hst.at 1 rfl), trivial⟩
theorem Zqx (a0 : Zd) (a1 : Zx) (a2 : Zg) {r : Int × Zd × Zg} (h : Zig a0 a1 a2 = some r) : FnB Tryd.prog 68 [.box Zi a0 r.2.1, .val (Z7.pd a1), .box Zs a2 r.2.2] (pInt .i64 r.1) := by
 have H0 := h
 unfold Zig at H0
 clear h
 refine Zif (N := 16) Tryd.func68 rfl rfl (Nat.le_of_ble_eq_true rfl) rfl rfl (fun a g0 bs hbs hst hb => ?_)
 obtain ⟨b0, b2, rfl⟩ := Zkg hbs
 replace hst : St 16 [(0, (Zbm (some b0) Zi 0 a0)), (1, (Z7.pd a1)), (2, (Zbm (some b2) Zs 2 a2))] _ _ := hst
 refine r_s (T := [⟨[.old 1], _, [], [], [4]⟩, ⟨[], _, [], [], [6]⟩]) (F := [.old 0, .old 2, .op 0 0]) hst hb Zb
   (o_p rfl (Zbl rfl rfl u_0) <| o_p rfl (Zc rfl rfl c_i) <| o_n) (by kernel_rfl) (fun a g hst hb => ?_)
 refine r_s (T := [⟨[.old 0], _, [], [], [7]⟩, ⟨[.op 0 0], _, [], [0], [8]⟩, ⟨[.op 1 0], _, [], [0, 1], [9]⟩, ⟨[.op 2 0], _, [], [0, 1, 2], [10]⟩, ⟨[.old 2], _, [], [], [11]⟩, ⟨[.op 4 0], _, [], [4], [12]⟩, ⟨[.op 3 0, .op 5 0], _, [], Lr 6, [13]⟩, ⟨[.op 0 0], _, [], Lr 7, [14]⟩, ⟨[.op 7 0], _, [], Lr 8, [15]⟩, ⟨[.op 6 0, .op 8 0, .old 0], _, [1], Lr 9, [0, 7, 8, 9, 14, 15]⟩]) (F := [.op 9 0, .old 1]) hst hb Zb
   (o_p rfl (Za rfl rfl u_0) <| o_p rfl (Zo rfl rfl u_0 (fun _ _ ⟨_, _, _, e, _⟩ => ⟨_, e⟩)) <| o_p rfl (Zbc Zea (off := 1) (by kernel_rfl) rfl rfl u_0) <| o_p rfl (Zcl ty_2 rfl rfl u_0) <| o_p rfl (Ze Zgp rfl rfl u_0) <| o_p rfl (Zf ty_2 rfl rfl u_0) <| o_p rfl (Zce rfl rfl u_0 u_1 rfl) <| o_p rfl (Zo rfl rfl u_0 (fun _ _ ⟨_, _, _, e, _⟩ => ⟨_, e⟩)) <| o_p rfl (Zbc Zea (off := 1) (by kernel_rfl) rfl rfl u_0) <| o_p rfl (Zqj ty_2 rfl rfl u_2 u_1 u_0) <| o_n) (by kernel_rfl) (fun a g hst hb => ?_)
 refine r_s (T := [⟨[], _, [], [], [6]⟩]) (F := [.old 0, .old 1, .op 0 0]) hst hb Zb
   (o_p rfl (Zc rfl rfl c_i) <| o_n) (by kernel_rfl) (fun a g hst hb => ?_)
 refine wp_ret ?_
 obtain rfl := Option.some.inj H0
 exact Zgu rfl hst hb (Zm (s := 6)) (hst.at 2 rfl) ⟨Zcj (hst.at 0 rfl), Zcj (hst.at 1 rfl), trivial⟩
theorem Zvt (a0 : Zd) (a1 : Zx) (a2 : Zg) {r : Int × Zd × Zg} (h : Zjp a0 a1 a2 = some r) : FnB Tryd.prog 69 [.box Zi a0 r.2.1, .val (Z7.pd a1), .box Zs a2 r.2.2] (pInt .i64 r.1) := by
 have H0 := h
 unfold Zjp at H0
 clear h
 refine Zif (N := 44) Tryd.func69 rfl rfl (Nat.le_of_ble_eq_true rfl) rfl rfl (fun a g0 bs hbs hst hb => ?_)
 obtain ⟨b0, b2, rfl⟩ := Zkg hbs
 replace hst : St 44 [(0, (Zbm (some b0) Zi 0 a0)), (1, (Z7.pd a1)), (2, (Zbm (some b2) Zs 2 a2))] _ _ := hst
 refine r_s (T := [⟨[.old 1], _, [], [], [4]⟩, ⟨[], _, [], [], [6]⟩]) (F := [.old 0, .old 2, .op 0 0]) hst hb Zb
   (o_p rfl (Zbl rfl rfl u_0) <| o_p rfl (Zc rfl rfl c_i) <| o_n) (by kernel_rfl) (fun a g hst hb => ?_)
 refine wp_seq ?_
 refine r_s (T := ⟨[.old 2], _, [], [], [7]⟩ :: ⟨[.op 0 0], _, [], [0], [8]⟩ :: ⟨[.op 1 0], _, [], [0, 1], [9]⟩ :: ⟨[.op 2 0], _, [], [0, 1, 2], [10]⟩ :: ⟨[.op 3 0, .old 0], _, [], Lr 4, [11]⟩ :: ⟨[.op 3 0, .op 4 0], _, [], Lr 5, [12]⟩ :: ⟨[.op 3 0, .op 5 0], _, [], Lr 6, [13]⟩ :: ⟨[.op 3 0, .op 6 0], _, [], Lr 7, [14]⟩ :: ⟨[.op 3 0, .old 2], _, [], Lr 4, [15]⟩ :: ⟨[.op 3 0, .op 8 0], _, [], [0, 1, 2, 3, 8], [16]⟩ :: ⟨[.op 3 0, .op 9 0], _, [], [0, 1, 2, 3, 8, 9], [17]⟩ :: ⟨[.op 3 0, .op 7 0, .op 10 0], _, [], Lr 11, [18]⟩ :: ⟨[.op 3 0, .op 11 0], _, [], Lr 12, [19]⟩ :: ⟨[.op 12 0], _, [], Lr 13, [20]⟩ :: ⟨[.op 13 0, .old 2], _, [], Lr 14, [21]⟩ :: ⟨[.op 13 0, .op 14 0], _, [], Lr 15, [22]⟩ :: ⟨[.op 13 0, .op 15 0], _, [], Lr 16, [23]⟩ :: ⟨[.op 13 0, .op 16 0], _, [], Lr 17, [24]⟩ :: ⟨[.op 17 0, .old 0], _, [], Lr 18, [25]⟩ :: ⟨[.op 17 0, .op 18 0], _, [], Lr 19, [26]⟩ :: ⟨[.op 17 0, .op 19 0], _, [], Lr 20, [27]⟩ :: ⟨[.op 17 0, .op 20 0], _, [], Lr 21, [28]⟩ :: ⟨[.op 17 0, .old 2], _, [], Lr 18, [29]⟩ :: ⟨[.op 17 0, .op 22 0], _, [], 0 :: 1 :: 2 :: 3 :: 4 :: 5 :: 6 :: 7 :: 8 :: 9 :: 10 :: 11 :: 12 :: 13 :: 14 :: 15 :: 16 :: 17 :: 22 :: [], [30]⟩ :: ⟨[.op 17 0, .op 23 0], _, [], 0 :: 1 :: 2 :: 3 :: 4 :: 5 :: 6 :: 7 :: 8 :: 9 :: 10 :: 11 :: 12 :: 13 :: 14 :: 15 :: 16 :: 17 :: 22 :: 23 :: [], [31]⟩ :: ⟨[.op 17 0, .op 21 0, .op 24 0], _, [], Lr 25, [32]⟩ :: ⟨[.op 13 0, .op 17 0, .op 25 0], _, [], Lr 26, [33]⟩ :: ⟨[.op 13 0, .op 26 0], _, [], Lr 27, [34]⟩ :: []) (F := [.old 0, .old 1, .old 2, .op 27 0]) hst hb Zb
   (o_p rfl (Ze Zgp rfl rfl u_0) <| o_p rfl (Zf ty_2 rfl rfl u_0) <| o_p rfl (Zcr rfl rfl u_0 c_i) <| o_p rfl (Za rfl rfl u_0) <| o_g (g_t rfl rfl rfl (fun hG => Za rfl rfl u_0)) <| o_g (g_t rfl rfl rfl (fun hG => Zo rfl rfl (Opd.gd hG u_0) (fun _ _ ⟨_, _, _, e, _⟩ => ⟨_, e⟩))) <| o_g (g_t rfl rfl rfl (fun hG => Zbc Zea (off := 1) (by kernel_rfl) rfl rfl (Opd.gd hG u_0))) <| o_g (g_t rfl rfl rfl (fun hG => Zcl ty_2 rfl rfl (Opd.gd hG u_0))) <| o_g (g_t rfl rfl rfl (fun hG => Ze Zgp rfl rfl u_0)) <| o_g (g_t rfl rfl rfl (fun hG => Zf ty_2 rfl rfl (Opd.gd hG u_0))) <| o_g (g_t rfl rfl rfl (fun hG => Zjj rfl rfl c_i (Opd.gd hG u_0) rfl)) <| o_g (g_t rfl rfl rfl (fun hG => Zcr rfl rfl (Opd.gd hG u_0) (Opd.gd hG u_1))) <| o_p rfl (Zbj rfl rfl u_0 (fun hz => (Opd.gd hz u_1))) <| o_p rfl (Za rfl rfl u_0) <| o_g (g_f rfl rfl rfl (fun hG => Ze Zgp rfl rfl u_0)) <| o_g (g_f rfl rfl rfl (fun hG => Zf ty_2 rfl rfl (Opd.gd hG u_0))) <| o_g (g_f rfl rfl rfl (fun hG => Zc2 rfl rfl (Opd.gd hG u_0) c_i)) <| o_g (g_f rfl rfl rfl (fun hG => Za rfl rfl (Opd.gd hG u_0))) <| o_g (g_ti rfl rfl rfl (fun hG => Za rfl rfl u_0)) <| o_g (g_ti rfl rfl rfl (fun hG => Zo rfl rfl (Opd.gd hG u_0) (fun _ _ ⟨_, _, _, e, _⟩ => ⟨_, e⟩))) <| o_g (g_ti rfl rfl rfl (fun hG => Zbc Zea (off := 1) (by kernel_rfl) rfl rfl (Opd.gd hG u_0))) <| o_g (g_ti rfl rfl rfl (fun hG => Zcl ty_2 rfl rfl (Opd.gd hG u_0))) <| o_g (g_ti rfl rfl rfl (fun hG => Ze Zgp rfl rfl u_0)) <| o_g (g_ti rfl rfl rfl (fun hG => Zf ty_2 rfl rfl (Opd.gd hG u_0))) <| o_g (g_ti rfl rfl rfl (fun hG => Zjj rfl rfl c_i (Opd.gd hG u_0) rfl)) <| o_g (g_ti rfl rfl rfl (fun hG => Zc2 rfl rfl (Opd.gd hG u_0) (Opd.gd hG u_1))) <| o_g (g_f rfl rfl rfl (fun hG => Zbj rfl rfl (Opd.gd hG u_0) (fun hz => (Opd.gd (bA hG hz) u_1)))) <| o_p rfl (Zbz rfl rfl u_0 (fun hz => (Opd.gd (bNF hz) u_1))) <| o_n) (by kernel_rfl) (fun a g hst hb => ?_)
 refine wp_cond_split (hst.bool 3 rfl) (fun hc1 => ?_) (fun hc1 => ?_)
 · replace H0 := Z0 hc1 H0
   refine r_s (L := [(0, _), (2, _)]) (T := [⟨[], _, [], [], [6]⟩]) (F := [.old 0, .old 1, .op 0 0]) (hst.pick [0, 1] rfl) hb Zb
     (o_p rfl (Zc rfl rfl c_i) <| o_n) (by kernel_rfl) (fun a g hst hb => ?_)
   refine wp_ret ?_
   refine Zn ?_
   obtain rfl := Option.some.inj H0
   exact Zgu rfl hst hb (Zm (s := 6)) (hst.at 2 rfl) ⟨Zcj (hst.at 0 rfl), Zcj (hst.at 1 rfl), trivial⟩
 · replace H0 := Zz hc1 H0
   refine wp_skip ?_
   refine Zu ?_
   refine r_s (L := [(0, _), (2, _), (4, _)]) (T := [⟨[.old 0], _, [], [], [35]⟩, ⟨[.op 0 0], _, [], [0], [36]⟩, ⟨[.op 1 0], _, [], [0, 1], [37]⟩, ⟨[.op 2 0], _, [], [0, 1, 2], [38]⟩, ⟨[.old 2], _, [], [], [39]⟩, ⟨[.op 4 0], _, [], [4], [40]⟩, ⟨[.op 3 0, .op 5 0], _, [], Lr 6, [41]⟩, ⟨[.op 0 0], _, [], Lr 7, [42]⟩, ⟨[.op 7 0], _, [], Lr 8, [43]⟩, ⟨[.op 6 0, .op 8 0, .old 0], _, [1], Lr 9, [0, 35, 36, 37, 42, 43]⟩]) (F := [.op 9 0, .old 1]) (hst.pick [0, 1, 2] rfl) hb Zb
     (o_p rfl (Za rfl rfl u_0) <| o_p rfl (Zo rfl rfl u_0 (fun _ _ ⟨_, _, _, e, _⟩ => ⟨_, e⟩)) <| o_p rfl (Zbc Zea (off := 1) (by kernel_rfl) rfl rfl u_0) <| o_p rfl (Zcl ty_2 rfl rfl u_0) <| o_p rfl (Ze Zgp rfl rfl u_0) <| o_p rfl (Zf ty_2 rfl rfl u_0) <| o_p rfl (Zce rfl rfl u_0 u_1 rfl) <| o_p rfl (Zo rfl rfl u_0 (fun _ _ ⟨_, _, _, e, _⟩ => ⟨_, e⟩)) <| o_p rfl (Zbc Zea (off := 1) (by kernel_rfl) rfl rfl u_0) <| o_p rfl (Zqj ty_2 rfl rfl u_2 u_1 u_0) <| o_n) (by kernel_rfl) (fun a g hst hb => ?_)
   refine r_s (T := [⟨[], _, [], [], [6]⟩]) (F := [.old 0, .old 1, .op 0 0]) hst hb Zb
     (o_p rfl (Zc rfl rfl c_i) <| o_n) (by kernel_rfl) (fun a g hst hb => ?_)
   refine wp_ret ?_
   obtain rfl := Option.some.inj H0
   exact Zgu rfl hst hb (Zm (s := 6)) (hst.at 2 rfl) ⟨Zcj (hst.at 0 rfl), Zcj (hst.at 1 rfl), trivial⟩
theorem Zno (a0 : Zd) (a1 : Zx) (a2 : Zg) {r : Int × Zd × Zg} (h : Zdm a0 a1 a2 = some r) : FnB Tryd.prog 70 [.box Zi a0 r.2.1, .val (Z7.pd a1), .box Zs a2 r.2.2] (pInt .i64 r.1) := by
 have H0 := h
 unfold Zdm at H0
 clear h
 refine Zif (N := 14) Tryd.func70 rfl rfl (Nat.le_of_ble_eq_true rfl) rfl rfl (fun a g0 bs hbs hst hb => ?_)
 obtain ⟨b0, b2, rfl⟩ := Zkg hbs
 replace hst : St 14 [(0, (Zbm (some b0) Zi 0 a0)), (1, (Z7.pd a1)), (2, (Zbm (some b2) Zs 2 a2))] _ _ := hst
 refine r_s (T := [⟨[.old 1], _, [], [], [4]⟩, ⟨[], _, [], [], [6]⟩]) (F := [.old 0, .old 2, .op 0 0]) hst hb Zb
   (o_p rfl (Zbl rfl rfl u_0) <| o_p rfl (Zc rfl rfl c_i) <| o_n) (by kernel_rfl) (fun a g hst hb => ?_)
 refine wp_seq ?_
 refine r_s (T := [⟨[.old 0], _, [], [], [7]⟩, ⟨[.op 0 0], _, [], [0], [8]⟩, ⟨[.op 1 0], _, [], [0, 1], [9]⟩, ⟨[.op 2 0], _, [], [0, 1, 2], [10]⟩, ⟨[.old 2], _, [], [], [11]⟩, ⟨[.op 4 0], _, [], [4], [12]⟩, ⟨[.op 3 0, .op 5 0], _, [], Lr 6, [13]⟩]) (F := [.old 0, .old 1, .op 6 0]) hst hb Zb
   (o_p rfl (Za rfl rfl u_0) <| o_p rfl (Zo rfl rfl u_0 (fun _ _ ⟨_, _, _, e, _⟩ => ⟨_, e⟩)) <| o_p rfl (Zbc Zea (off := 1) (by kernel_rfl) rfl rfl u_0) <| o_p rfl (Zcl ty_2 rfl rfl u_0) <| o_p rfl (Ze Zgp rfl rfl u_0) <| o_p rfl (Zf ty_2 rfl rfl u_0) <| o_p rfl (Zc2 rfl rfl u_0 u_1) <| o_n) (by kernel_rfl) (fun a g hst hb => ?_)
 refine wp_cond_split (hst.bool 2 rfl) (fun hc1 => ?_) (fun hc1 => ?_)
 · replace H0 := Z0 hc1 H0
   refine r_s (L := [(0, _), (2, _)]) (T := [⟨[], _, [], [], [6]⟩]) (F := [.old 0, .old 1, .op 0 0]) (hst.pick [0, 1] rfl) hb Zb
     (o_p rfl (Zc rfl rfl c_i) <| o_n) (by kernel_rfl) (fun a g hst hb => ?_)
   refine wp_ret ?_
   refine Zn ?_
   obtain rfl := Option.some.inj H0
   exact Zgu rfl hst hb (Zm (s := 6)) (hst.at 2 rfl) ⟨Zcj (hst.at 0 rfl), Zcj (hst.at 1 rfl), trivial⟩
 · replace H0 := Zz hc1 H0
   refine wp_skip ?_
   refine Zu ?_
   refine r_s (L := [(0, _), (2, _)]) (T := [⟨[], _, [], [], [6]⟩]) (F := [.old 0, .old 1, .op 0 0]) (hst.pick [0, 1] rfl) hb Zb
     (o_p rfl (Zc rfl rfl c_i) <| o_n) (by kernel_rfl) (fun a g hst hb => ?_)
   refine wp_ret ?_
   obtain rfl := Option.some.inj H0
   exact Zgu rfl hst hb (Zm (s := 6)) (hst.at 2 rfl) ⟨Zcj (hst.at 0 rfl), Zcj (hst.at 1 rfl), trivial⟩
theorem Zqt (a0 : Zd) (a1 : Zx) (a2 : Zg) {r : Int × Zd × Zg} (h : Zf7 a0 a1 a2 = some r) : FnB Tryd.prog 71 [.box Zi a0 r.2.1, .val (Z7.pd a1), .box Zs a2 r.2.2] (pInt .i64 r.1) := by
 have H0 := h
 unfold Zf7 at H0
 clear h
 refine Zif (N := 28) Tryd.func71 rfl rfl (Nat.le_of_ble_eq_true rfl) rfl rfl (fun a g0 bs hbs hst hb => ?_)
 obtain ⟨b0, b2, rfl⟩ := Zkg hbs
 replace hst : St 28 [(0, (Zbm (some b0) Zi 0 a0)), (1, (Z7.pd a1)), (2, (Zbm (some b2) Zs 2 a2))] _ _ := hst
 refine r_s (T := [⟨[.old 1], _, [], [], [4]⟩, ⟨[], _, [], [], [6]⟩]) (F := [.old 0, .old 2, .op 0 0]) hst hb Zb
   (o_p rfl (Zbl rfl rfl u_0) <| o_p rfl (Zc rfl rfl c_i) <| o_n) (by kernel_rfl) (fun a g hst hb => ?_)
 refine wp_seq ?_
 refine r_s (T := ⟨[.old 2], _, [], [], [7]⟩ :: ⟨[.op 0 0], _, [], [0], [8]⟩ :: ⟨[.old 0], _, [], [], [9]⟩ :: ⟨[.op 2 0], _, [], [2], [10]⟩ :: ⟨[.op 3 0], _, [], [2, 3], [11]⟩ :: ⟨[.op 4 0], _, [], [2, 3, 4], [12]⟩ :: ⟨[.old 0], _, [], [], [13]⟩ :: ⟨[.op 6 0], _, [], [6], [14]⟩ :: ⟨[.op 7 0], _, [], [6, 7], [15]⟩ :: ⟨[.op 8 0], _, [], [6, 7, 8], [16]⟩ :: ⟨[.op 5 0, .op 9 0], _, [], List.range' 2 8, [17]⟩ :: ⟨[.op 1 0, .op 10 0], _, [], Lr 11, [18]⟩ :: []) (F := [.old 0, .old 1, .old 2, .op 11 0]) hst hb Zb
   (o_p rfl (Ze Zgp rfl rfl u_0) <| o_p rfl (Zf ty_2 rfl rfl u_0) <| o_p rfl (Za rfl rfl u_0) <| o_p rfl (Zo rfl rfl u_0 (fun _ _ ⟨_, _, _, e, _⟩ => ⟨_, e⟩)) <| o_p rfl (Zbc Zj3 (off := 3) (by kernel_rfl) rfl rfl u_0) <| o_p rfl (Zcl ty_2 rfl rfl u_0) <| o_p rfl (Za rfl rfl u_0) <| o_p rfl (Zo rfl rfl u_0 (fun _ _ ⟨_, _, _, e, _⟩ => ⟨_, e⟩)) <| o_p rfl (Zbc Zea (off := 1) (by kernel_rfl) rfl rfl u_0) <| o_p rfl (Zcl ty_2 rfl rfl u_0) <| o_p rfl (Zjj rfl rfl u_0 u_1 rfl) <| o_p rfl (Zcr rfl rfl u_0 u_1) <| o_n) (by kernel_rfl) (fun a g hst hb => ?_)
 refine wp_cond_split (hst.bool 3 rfl) (fun hc1 => ?_) (fun hc1 => ?_)
 · replace H0 := Z0 hc1 H0
   refine r_s (L := [(0, _), (2, _)]) (T := [⟨[], _, [], [], [6]⟩]) (F := [.old 0, .old 1, .op 0 0]) (hst.pick [0, 1] rfl) hb Zb
     (o_p rfl (Zc rfl rfl c_i) <| o_n) (by kernel_rfl) (fun a g hst hb => ?_)
   refine wp_ret ?_
   refine Zn ?_
   obtain rfl := Option.some.inj H0
   exact Zgu rfl hst hb (Zm (s := 6)) (hst.at 2 rfl) ⟨Zcj (hst.at 0 rfl), Zcj (hst.at 1 rfl), trivial⟩
 · replace H0 := Zz hc1 H0
   refine wp_skip ?_
   refine Zu ?_
   refine r_s (L := [(0, _), (2, _), (4, _)]) (T := [⟨[.old 0], _, [], [], [19]⟩, ⟨[.op 0 0], _, [], [0], [20]⟩, ⟨[.op 1 0], _, [], [0, 1], [21]⟩, ⟨[.op 2 0], _, [], [0, 1, 2], [22]⟩, ⟨[.old 2], _, [], [], [23]⟩, ⟨[.op 4 0], _, [], [4], [24]⟩, ⟨[.op 3 0, .op 5 0], _, [], Lr 6, [25]⟩, ⟨[.op 0 0], _, [], Lr 7, [26]⟩, ⟨[.op 7 0], _, [], Lr 8, [27]⟩, ⟨[.op 6 0, .op 8 0, .old 0], _, [1], Lr 9, [0, 19, 20, 21, 26, 27]⟩]) (F := [.op 9 0, .old 1]) (hst.pick [0, 1, 2] rfl) hb Zb
     (o_p rfl (Za rfl rfl u_0) <| o_p rfl (Zo rfl rfl u_0 (fun _ _ ⟨_, _, _, e, _⟩ => ⟨_, e⟩)) <| o_p rfl (Zbc Zea (off := 1) (by kernel_rfl) rfl rfl u_0) <| o_p rfl (Zcl ty_2 rfl rfl u_0) <| o_p rfl (Ze Zgp rfl rfl u_0) <| o_p rfl (Zf ty_2 rfl rfl u_0) <| o_p rfl (Zce rfl rfl u_0 u_1 rfl) <| o_p rfl (Zo rfl rfl u_0 (fun _ _ ⟨_, _, _, e, _⟩ => ⟨_, e⟩)) <| o_p rfl (Zbc Zea (off := 1) (by kernel_rfl) rfl rfl u_0) <| o_p rfl (Zqj ty_2 rfl rfl u_2 u_1 u_0) <| o_n) (by kernel_rfl) (fun a g hst hb => ?_)
   refine r_s (T := [⟨[], _, [], [], [6]⟩]) (F := [.old 0, .old 1, .op 0 0]) hst hb Zb
     (o_p rfl (Zc rfl rfl c_i) <| o_n) (by kernel_rfl) (fun a g hst hb => ?_)
   refine wp_ret ?_
   obtain rfl := Option.some.inj H0
   exact Zgu rfl hst hb (Zm (s := 6)) (hst.at 2 rfl) ⟨Zcj (hst.at 0 rfl), Zcj (hst.at 1 rfl), trivial⟩
theorem Zq1 (a0 : Zd) (a1 : Zx) (a2 : Zg) {r : Int × Zd × Zg} (h : Zf5 a0 a1 a2 = some r) : FnB Tryd.prog 72 [.box Zi a0 r.2.1, .val (Z7.pd a1), .box Zs a2 r.2.2] (pInt .i64 r.1) := by
 have H0 := h
 unfold Zf5 at H0
 clear h
 refine Zif (N := 28) Tryd.func72 rfl rfl (Nat.le_of_ble_eq_true rfl) rfl rfl (fun a g0 bs hbs hst hb => ?_)
 obtain ⟨b0, b2, rfl⟩ := Zkg hbs
 replace hst : St 28 [(0, (Zbm (some b0) Zi 0 a0)), (1, (Z7.pd a1)), (2, (Zbm (some b2) Zs 2 a2))] _ _ := hst
 refine r_s (T := [⟨[.old 1], _, [], [], [4]⟩, ⟨[], _, [], [], [6]⟩]) (F := [.old 0, .old 2, .op 0 0]) hst hb Zb
   (o_p rfl (Zbl rfl rfl u_0) <| o_p rfl (Zc rfl rfl c_i) <| o_n) (by kernel_rfl) (fun a g hst hb => ?_)
 refine wp_seq ?_
 refine r_s (T := ⟨[.old 2], _, [], [], [7]⟩ :: ⟨[.op 0 0], _, [], [0], [8]⟩ :: ⟨[.old 0], _, [], [], [9]⟩ :: ⟨[.op 2 0], _, [], [2], [10]⟩ :: ⟨[.op 3 0], _, [], [2, 3], [11]⟩ :: ⟨[.op 4 0], _, [], [2, 3, 4], [12]⟩ :: ⟨[.old 0], _, [], [], [13]⟩ :: ⟨[.op 6 0], _, [], [6], [14]⟩ :: ⟨[.op 7 0], _, [], [6, 7], [15]⟩ :: ⟨[.op 8 0], _, [], [6, 7, 8], [16]⟩ :: ⟨[.op 5 0, .op 9 0], _, [], List.range' 2 8, [17]⟩ :: ⟨[.op 1 0, .op 10 0], _, [], Lr 11, [18]⟩ :: []) (F := [.old 0, .old 1, .old 2, .op 11 0]) hst hb Zb
   (o_p rfl (Ze Zgp rfl rfl u_0) <| o_p rfl (Zf ty_2 rfl rfl u_0) <| o_p rfl (Za rfl rfl u_0) <| o_p rfl (Zo rfl rfl u_0 (fun _ _ ⟨_, _, _, e, _⟩ => ⟨_, e⟩)) <| o_p rfl (Zbc Zea (off := 1) (by kernel_rfl) rfl rfl u_0) <| o_p rfl (Zcl ty_2 rfl rfl u_0) <| o_p rfl (Za rfl rfl u_0) <| o_p rfl (Zo rfl rfl u_0 (fun _ _ ⟨_, _, _, e, _⟩ => ⟨_, e⟩)) <| o_p rfl (Zbc Zj1 (off := 2) (by kernel_rfl) rfl rfl u_0) <| o_p rfl (Zcl ty_2 rfl rfl u_0) <| o_p rfl (Zjj rfl rfl u_0 u_1 rfl) <| o_p rfl (Zcr rfl rfl u_0 u_1) <| o_n) (by kernel_rfl) (fun a g hst hb => ?_)
 refine wp_cond_split (hst.bool 3 rfl) (fun hc1 => ?_) (fun hc1 => ?_)
 · replace H0 := Z0 hc1 H0
   refine r_s (L := [(0, _), (2, _)]) (T := [⟨[], _, [], [], [6]⟩]) (F := [.old 0, .old 1, .op 0 0]) (hst.pick [0, 1] rfl) hb Zb
     (o_p rfl (Zc rfl rfl c_i) <| o_n) (by kernel_rfl) (fun a g hst hb => ?_)
   refine wp_ret ?_
   refine Zn ?_
   obtain rfl := Option.some.inj H0
   exact Zgu rfl hst hb (Zm (s := 6)) (hst.at 2 rfl) ⟨Zcj (hst.at 0 rfl), Zcj (hst.at 1 rfl), trivial⟩
 · replace H0 := Zz hc1 H0
   refine wp_skip ?_
   refine Zu ?_
   refine r_s (L := [(0, _), (2, _), (4, _)]) (T := [⟨[.old 0], _, [], [], [19]⟩, ⟨[.op 0 0], _, [], [0], [20]⟩, ⟨[.op 1 0], _, [], [0, 1], [21]⟩, ⟨[.op 2 0], _, [], [0, 1, 2], [22]⟩, ⟨[.old 2], _, [], [], [23]⟩, ⟨[.op 4 0], _, [], [4], [24]⟩, ⟨[.op 3 0, .op 5 0], _, [], Lr 6, [25]⟩, ⟨[.op 0 0], _, [], Lr 7, [26]⟩, ⟨[.op 7 0], _, [], Lr 8, [27]⟩, ⟨[.op 6 0, .op 8 0, .old 0], _, [1], Lr 9, [0, 19, 20, 21, 26, 27]⟩]) (F := [.op 9 0, .old 1]) (hst.pick [0, 1, 2] rfl) hb Zb
     (o_p rfl (Za rfl rfl u_0) <| o_p rfl (Zo rfl rfl u_0 (fun _ _ ⟨_, _, _, e, _⟩ => ⟨_, e⟩)) <| o_p rfl (Zbc Zea (off := 1) (by kernel_rfl) rfl rfl u_0) <| o_p rfl (Zcl ty_2 rfl rfl u_0) <| o_p rfl (Ze Zgp rfl rfl u_0) <| o_p rfl (Zf ty_2 rfl rfl u_0) <| o_p rfl (Zjj rfl rfl u_0 u_1 rfl) <| o_p rfl (Zo rfl rfl u_0 (fun _ _ ⟨_, _, _, e, _⟩ => ⟨_, e⟩)) <| o_p rfl (Zbc Zea (off := 1) (by kernel_rfl) rfl rfl u_0) <| o_p rfl (Zqj ty_2 rfl rfl u_2 u_1 u_0) <| o_n) (by kernel_rfl) (fun a g hst hb => ?_)
   refine r_s (T := [⟨[], _, [], [], [6]⟩]) (F := [.old 0, .old 1, .op 0 0]) hst hb Zb
     (o_p rfl (Zc rfl rfl c_i) <| o_n) (by kernel_rfl) (fun a g hst hb => ?_)
   refine wp_ret ?_
   obtain rfl := Option.some.inj H0
   exact Zgu rfl hst hb (Zm (s := 6)) (hst.at 2 rfl) ⟨Zcj (hst.at 0 rfl), Zcj (hst.at 1 rfl), trivial⟩
theorem Zik (h : Nat) (he : Zq Tryd.prog h) (ψ : Nat → Nat → Option Nat) (hψ : ∀ x y z, ψ x y = some z → FnOk Tryd.prog h [pFlt x, pFlt y] (pFlt z)) (a0 : Zd) (a1 : Zx) (a2 : Zg) {z : Nat} (hz : ψ a0.Real a1.X = some z) : FnB Tryd.prog 92 [.box Zi a0 { a0 with Real := z }, .val (Z7.pd a1), .box Zs a2 a2, .val (Kd.fnc.ptr h)] (pInt .i64 0) := by
 refine Zif (N := 19) Tryd.func92 rfl rfl (Nat.le_of_ble_eq_true rfl) rfl rfl (fun a g0 bs hbs hst hb => ?_)
 obtain ⟨b0, b2, rfl⟩ := Zkg hbs
 replace hst : St 19 [(0, (Zbm (some b0) Zi 0 a0)), (1, (Z7.pd a1)), (2, (Zbm (some b2) Zs 2 a2)), (3, (Kd.fnc.ptr h))] _ _ := hst
 refine r_s (T := [⟨[.old 1], _, [], [], [5]⟩, ⟨[], _, [], [], [7]⟩]) (F := [.old 0, .old 2, .old 3, .op 0 0]) hst hb Zb
   (o_p rfl (Zbl rfl rfl u_0) <| o_p rfl (Zc rfl rfl c_i) <| o_n) (by kernel_rfl) (fun a g hst hb => ?_)
 refine r_s (T := [⟨[.old 0], _, [], [], [8]⟩, ⟨[.old 2], _, [], [], [9]⟩, ⟨[.old 0], _, [], [], [10]⟩, ⟨[.op 2 0], _, [], [2], [11]⟩, ⟨[.op 3 0], _, [], [2, 3], [12]⟩, ⟨[.op 4 0], _, [], [2, 3, 4], [13]⟩, ⟨[.old 3], _, [], [], [14]⟩, ⟨[.op 6 0], _, [], [6], [15]⟩, ⟨[.op 1 0, .op 5 0, .op 7 0], [(16, (pFlt z))], [], [1, 2, 3, 4, 5, 6, 7], [16]⟩, ⟨[.op 0 0], _, [], [0, 1, 2, 3, 4, 5, 6, 7, 8], [17]⟩, ⟨[.op 9 0], _, [], [0, 1, 2, 3, 4, 5, 6, 7, 8, 9], [18]⟩, ⟨[.op 8 0, .op 10 0, .old 0], _, [1], [0, 1, 2, 3, 4, 5, 6, 7, 8, 9, 10], [0, 8, 10, 11, 12, 17, 18]⟩]) (F := [.op 11 0, .old 1]) hst hb Zb
   (o_p rfl (Za rfl rfl u_0) <| o_p rfl (Zf Z4d rfl rfl u_0) <| o_p rfl (Za rfl rfl u_0) <| o_p rfl (Zo rfl rfl u_0 (fun _ _ ⟨_, _, _, e, _⟩ => ⟨_, e⟩)) <| o_p rfl (Zbc Zkx (off := 4) (by kernel_rfl) rfl rfl u_0) <| o_p rfl (Zcl Ze4 rfl rfl u_0) <| o_p rfl (Ze Zqr rfl rfl u_0) <| o_p rfl (Zf Ze4 rfl rfl u_0) <| o_p rfl (Zmt (C := []) (hC := rfl) he (hψ _ _ _ hz) rfl rfl (Opd.imp u_0 (fun _ _ h => Z5a h)) (.cons u_1 (.cons u_2 .nil))) <| o_p rfl (Zo rfl rfl u_0 (fun _ _ ⟨_, _, _, e, _⟩ => ⟨_, e⟩)) <| o_p rfl (Zbc Zkx (off := 4) (by kernel_rfl) rfl rfl u_0) <| o_p rfl (Z40 Ze4 rfl rfl u_2 u_1 u_0) <| o_n) (by kernel_rfl) (fun a g hst hb => ?_)
 refine r_s (T := [⟨[], _, [], [], [7]⟩]) (F := [.old 0, .old 1, .op 0 0]) hst hb Zb
   (o_p rfl (Zc rfl rfl c_i) <| o_n) (by kernel_rfl) (fun a g hst hb => ?_)
 refine wp_ret ?_
 exact Zgu rfl hst hb (Zm (s := 7)) (hst.at 2 rfl) ⟨Zcj (hst.at 0 rfl), Zcj (hst.at 1 rfl), trivial⟩
theorem Zjo (h : Nat) : FnOk Tryd.prog 73 [(Kd.fnc.pd h)] (pClo 92 [(Kd.fnc.ptr h)] rfl) := by
 refine Zbu (N := 4) Tryd.func73 rfl rfl (Nat.le_of_ble_eq_true rfl) rfl rfl (fun a g0 hst hb => ?_)
 refine r_s (T := [⟨[.old 0], _, [], [], [1]⟩, ⟨[], [], [], [], [2]⟩]) (F := [.op 0 0]) hst hb Zb
   (o_p rfl (Zbl rfl rfl u_0) <| o_p rfl (Z1z (.inr rfl)) <| o_n) (by kernel_rfl) (fun a g hst hb => ?_)
 refine r_s (T := [⟨[.old 0], [(3, (pClo 92 [(Kd.fnc.ptr h)] rfl))], [], [], [3]⟩, ⟨[.op 0 0], _, [], [0], [2]⟩]) (F := [.op 1 0]) hst hb Zb
   (o_p rfl (Zxp rfl rfl (.cons u_0 .nil)) <| o_p rfl (Zc rfl rfl u_0) <| o_n) (by kernel_rfl) (fun a g hst hb => ?_)
 refine wp_ret ?_
 exact Z3 rfl hst hb (Zm (s := 2)) (hst.at 0 rfl)
theorem Zyx (a0 : Nat) (a1 : Nat) {r : Nat} (h : Zjz a0 a1 = some r) : FnOk Tryd.prog 74 [(pFlt a0), (pFlt a1)] (pFlt r) := by
 have H0 := h
 unfold Zjz at H0
 clear h
 refine Zbu (N := 12) Tryd.func74 rfl rfl (Nat.le_of_ble_eq_true rfl) rfl rfl (fun a g0 hst hb => ?_)
 refine r_s (T := [⟨[], _, [], [], [4]⟩]) (F := [.old 0, .old 1]) hst hb Zb
   (o_p rfl (Zc rfl rfl c_f) <| o_n) (by kernel_rfl) (fun a g hst hb => ?_)
 refine wp_seq ?_
 obtain ⟨r1, h2, H0⟩ := Zh H0
 refine r_s (T := [⟨[.old 0], _, [], [], [5]⟩, ⟨[.old 1], _, [], [], [6]⟩, ⟨[.op 0 0, .op 1 0], _, [], [0, 1], [7]⟩]) (F := [.old 0, .old 1, .op 2 0]) hst hb Zb
   (o_p rfl (Za rfl rfl u_0) <| o_p rfl (Za rfl rfl u_0) <| o_p rfl (Zp Zzv (Znt _ _ h2) rfl rfl (.cons u_0 (.cons u_1 .nil))) <| o_n) (by kernel_rfl) (fun a g hst hb => ?_)
 refine wp_cond_split (hst.bool 2 rfl) (fun hc3 => ?_) (fun hc3 => ?_)
 · replace H0 := Z0 hc3 H0
   obtain ⟨r4, h5, H0⟩ := Zh H0
   refine r_s (L := [(1, _)]) (T := [⟨[.old 0], _, [], [], [8]⟩, ⟨[.op 0 0], _, [], [0], [9]⟩, ⟨[.op 1 0], _, [], [0, 1], [4]⟩]) (F := [.op 2 0]) (hst.pick [1] rfl) hb Zb
     (o_p rfl (Za rfl rfl u_0) <| o_p rfl (Zp Znb (Zge _ h5) rfl rfl (.cons u_0 .nil)) <| o_p rfl (Zc rfl rfl u_0) <| o_n) (by kernel_rfl) (fun a g hst hb => ?_)
   refine wp_ret ?_
   refine Zn ?_
   obtain rfl := Option.some.inj H0
   exact Z3 rfl hst hb (Zm (s := 4)) (hst.at 0 rfl)
 · replace H0 := Zz hc3 H0
   refine wp_skip ?_
   refine Zu ?_
   obtain ⟨r6, h7, H0⟩ := Zh H0
   refine r_s (L := [(0, _)]) (T := [⟨[.old 0], _, [], [], [10]⟩, ⟨[.op 0 0], _, [], [0], [11]⟩, ⟨[.op 1 0], _, [], [0, 1], [4]⟩]) (F := [.op 2 0]) (hst.pick [0] rfl) hb Zb
     (o_p rfl (Za rfl rfl u_0) <| o_p rfl (Zp Znb (Zge _ h7) rfl rfl (.cons u_0 .nil)) <| o_p rfl (Zc rfl rfl u_0) <| o_n) (by kernel_rfl) (fun a g hst hb => ?_)
   refine wp_ret ?_
   obtain rfl := Option.some.inj H0
   exact Z3 rfl hst hb (Zm (s := 4)) (hst.at 0 rfl)
theorem Zyz (a0 : Nat) (a1 : Nat) {r : Nat} (h : Zj4 a0 a1 = some r) : FnOk Tryd.prog 75 [(pFlt a0), (pFlt a1)] (pFlt r) := by
 have H0 := h
 unfold Zj4 at H0
 clear h
 refine Zbu (N := 12) Tryd.func75 rfl rfl (Nat.le_of_ble_eq_true rfl) rfl rfl (fun a g0 hst hb => ?_)
 refine r_s (T := [⟨[], _, [], [], [4]⟩]) (F := [.old 0, .old 1]) hst hb Zb
   (o_p rfl (Zc rfl rfl c_f) <| o_n) (by kernel_rfl) (fun a g hst hb => ?_)
 refine wp_seq ?_
 obtain ⟨r1, h2, H0⟩ := Zh H0
 refine r_s (T := [⟨[.old 1], _, [], [], [5]⟩, ⟨[.old 0], _, [], [], [6]⟩, ⟨[.op 0 0, .op 1 0], _, [], [0, 1], [7]⟩]) (F := [.old 0, .old 1, .op 2 0]) hst hb Zb
   (o_p rfl (Za rfl rfl u_0) <| o_p rfl (Za rfl rfl u_0) <| o_p rfl (Zp Zzv (Znt _ _ h2) rfl rfl (.cons u_0 (.cons u_1 .nil))) <| o_n) (by kernel_rfl) (fun a g hst hb => ?_)
 refine wp_cond_split (hst.bool 2 rfl) (fun hc3 => ?_) (fun hc3 => ?_)
 · replace H0 := Z0 hc3 H0
   obtain ⟨r4, h5, H0⟩ := Zh H0
   refine r_s (L := [(1, _)]) (T := [⟨[.old 0], _, [], [], [8]⟩, ⟨[.op 0 0], _, [], [0], [9]⟩, ⟨[.op 1 0], _, [], [0, 1], [4]⟩]) (F := [.op 2 0]) (hst.pick [1] rfl) hb Zb
     (o_p rfl (Za rfl rfl u_0) <| o_p rfl (Zp Znb (Zge _ h5) rfl rfl (.cons u_0 .nil)) <| o_p rfl (Zc rfl rfl u_0) <| o_n) (by kernel_rfl) (fun a g hst hb => ?_)
   refine wp_ret ?_
   refine Zn ?_
   obtain rfl := Option.some.inj H0
   exact Z3 rfl hst hb (Zm (s := 4)) (hst.at 0 rfl)
 · replace H0 := Zz hc3 H0
   refine wp_skip ?_
   refine Zu ?_
   obtain ⟨r6, h7, H0⟩ := Zh H0
   refine r_s (L := [(0, _)]) (T := [⟨[.old 0], _, [], [], [10]⟩, ⟨[.op 0 0], _, [], [0], [11]⟩, ⟨[.op 1 0], _, [], [0, 1], [4]⟩]) (F := [.op 2 0]) (hst.pick [0] rfl) hb Zb
     (o_p rfl (Za rfl rfl u_0) <| o_p rfl (Zp Znb (Zge _ h7) rfl rfl (.cons u_0 .nil)) <| o_p rfl (Zc rfl rfl u_0) <| o_n) (by kernel_rfl) (fun a g hst hb => ?_)
   refine wp_ret ?_
   obtain rfl := Option.some.inj H0
   exact Z3 rfl hst hb (Zm (s := 4)) (hst.at 0 rfl)
theorem Zw2 (a0 : Nat) (a1 : Nat) {r : Nat} (h : Zhh a0 a1 = some r) : FnOk Tryd.prog 76 [(pFlt a0), (pFlt a1)] (pFlt r) := by
 have H0 := h
 unfold Zhh at H0
 clear h
 refine Zbu (N := 9) Tryd.func76 rfl rfl (Nat.le_of_ble_eq_true rfl) rfl rfl (fun a g0 hst hb => ?_)
 refine r_s (T := [⟨[], _, [], [], [4]⟩]) (F := [.old 0, .old 1]) hst hb Zb
   (o_p rfl (Zc rfl rfl c_f) <| o_n) (by kernel_rfl) (fun a g hst hb => ?_)
 obtain ⟨r1, h2, H0⟩ := Zh H0
 refine r_s (T := [⟨[.old 0], _, [], [], [5]⟩, ⟨[.old 1], _, [], [], [6]⟩, ⟨[.op 0 0, .op 1 0], _, [], [0, 1], [7]⟩, ⟨[.op 2 0], _, [], [0, 1, 2], [8]⟩, ⟨[.op 3 0], _, [], Lr 4, [4]⟩]) (F := [.op 4 0]) hst hb Zb
   (o_p rfl (Za rfl rfl u_0) <| o_p rfl (Za rfl rfl u_0) <| o_p rfl (Z2n rfl rfl u_0 u_1) <| o_p rfl (Zp Znb (Zvx (fun r z hr hz => by simp only [Ze3, hr, hz, Option.bind_some, if_true]) (fun z r h => Zge z h) h2) rfl rfl (.cons u_0 .nil)) <| o_p rfl (Zc rfl rfl u_0) <| o_n) (by kernel_rfl) (fun a g hst hb => ?_)
 refine wp_ret ?_
 obtain rfl := Option.some.inj H0
 exact Z3 rfl hst hb (Zm (s := 4)) (hst.at 0 rfl)
theorem Zwp (a0 : Nat) (a1 : Nat) {r : Nat} (h : Zgk a0 a1 = some r) : FnOk Tryd.prog 77 [(pFlt a0), (pFlt a1)] (pFlt r) := by
 have H0 := h
 unfold Zgk at H0
 clear h
 refine Zbu (N := 9) Tryd.func77 rfl rfl (Nat.le_of_ble_eq_true rfl) rfl rfl (fun a g0 hst hb => ?_)
 refine r_s (T := [⟨[], _, [], [], [4]⟩]) (F := [.old 0, .old 1]) hst hb Zb
   (o_p rfl (Zc rfl rfl c_f) <| o_n) (by kernel_rfl) (fun a g hst hb => ?_)
 obtain ⟨r1, h2, H0⟩ := Zh H0
 refine r_s (T := [⟨[.old 0], _, [], [], [5]⟩, ⟨[.old 1], _, [], [], [6]⟩, ⟨[.op 0 0, .op 1 0], _, [], [0, 1], [7]⟩, ⟨[.op 2 0], _, [], [0, 1, 2], [8]⟩, ⟨[.op 3 0], _, [], Lr 4, [4]⟩]) (F := [.op 4 0]) hst hb Zb
   (o_p rfl (Za rfl rfl u_0) <| o_p rfl (Za rfl rfl u_0) <| o_p rfl (Z10 rfl rfl u_0 u_1) <| o_p rfl (Zp Znb (Zvx (fun r z hr hz => by simp only [Ze3, hr, hz, Option.bind_some, if_true]) (fun z r h => Zge z h) h2) rfl rfl (.cons u_0 .nil)) <| o_p rfl (Zc rfl rfl u_0) <| o_n) (by kernel_rfl) (fun a g hst hb => ?_)
 refine wp_ret ?_
 obtain rfl := Option.some.inj H0
 exact Z3 rfl hst hb (Zm (s := 4)) (hst.at 0 rfl)
theorem Zq0 (a0 : Nat) (a1 : Nat) {r : Nat} (h : Zf8 a0 a1 = some r) : FnOk Tryd.prog 78 [(pFlt a0), (pFlt a1)] (pFlt r) := by
 have H0 := h
 unfold Zf8 at H0
 clear h
 refine Zbu (N := 6) Tryd.func78 rfl rfl (Nat.le_of_ble_eq_true rfl) rfl rfl (fun a g0 hst hb => ?_)
 refine r_s (L := [(1, _)]) (T := [⟨[], _, [], [], [4]⟩]) (F := [.old 0]) (hst.pick [1] rfl) hb Zb
   (o_p rfl (Zc rfl rfl c_f) <| o_n) (by kernel_rfl) (fun a g hst hb => ?_)
 refine r_s (T := [⟨[.old 0], _, [], [], [5]⟩, ⟨[.op 0 0], _, [], [0], [4]⟩]) (F := [.op 1 0]) hst hb Zb
   (o_p rfl (Za rfl rfl u_0) <| o_p rfl (Zc rfl rfl u_0) <| o_n) (by kernel_rfl) (fun a g hst hb => ?_)
 refine wp_ret ?_
 obtain rfl := Option.some.inj H0
 exact Z3 rfl hst hb (Zm (s := 4)) (hst.at 0 rfl)
theorem Zgx (f2 : Nat) (C2 : List Pd) (hC2 : Free C2) (e2_ : Zq Tryd.prog f2) (φ2 : Zj → ByteArray → Option Int) (hφ2 : ∀ (y0 : Zj) (y1 : ByteArray) (r : Int), φ2 y0 y1 = some r → FnOk Tryd.prog f2 ([(Zy.pd y0), (pStr y1)] ++ C2) (pInt .i64 r)) (a0 : List Zj) (a1 : ByteArray) {r : Int × Bool} (h : Zco a0 a1 φ2 = some r) : FnOk Tryd.prog 94 [(Zy.sl.pd a0), (pStr a1), (pClo f2 C2 hC2)] (pTup [(pInt .i64 r.1), (Zbd r.2)]) := by
 have H0 := h
 unfold Zco at H0
 clear h
 refine Zbu (N := 49) Tryd.func94 rfl rfl (Nat.le_of_ble_eq_true rfl) rfl rfl (fun a g0 hst hb => ?_)
 refine r_s (T := [⟨[], _, [], [], [6]⟩, ⟨[], _, [], [0], [7]⟩]) (F := [.old 0, .old 1, .old 2]) hst hb Zb
   (o_p rfl (Zc rfl rfl c_i) <| o_p rfl (Zc rfl rfl c_b) <| o_n) (by kernel_rfl) (fun a g hst hb => ?_)
 refine r_s (T := [⟨[.old 0], _, [], [], [12]⟩, ⟨[.op 0 0], _, [], [0], [13]⟩, ⟨[.op 1 0], _, [], [0, 1], [8]⟩]) (F := [.old 0, .old 1, .old 2, .op 2 0, .op 0 0]) hst hb Zb
   (o_p rfl (Za rfl rfl u_0) <| o_p rfl (Zb3 Tryd.underlying43 rfl rfl u_0) <| o_p rfl (Zc rfl rfl u_0) <| o_n) (by kernel_rfl) (fun a g hst hb => ?_)
 refine r_s (T := [⟨[.old 3], _, [], [], [14]⟩, ⟨[], _, [], [], [9]⟩, ⟨[.op 0 0], _, [], [0, 1], [10]⟩]) (F := [.old 0, .old 1, .old 2, .old 3, .op 1 0, .op 2 0, .old 4]) hst hb Zb
   (o_p rfl (Za rfl rfl u_0) <| o_p rfl (Zc rfl rfl c_i) <| o_p rfl (Zc rfl rfl u_0) <| o_n) (by kernel_rfl) (fun a g hst hb => ?_)
 obtain ⟨z12, hz1, H0⟩ := Zh H0
 refine wp_seq ?_
 refine Zc0 (fun a w => ∃ (y11 : Int) (g : G), w = g.w ∧ St 49 [(0, (Zy.sl.pd a0)), (1, (pStr a1)), (2, (pClo f2 C2 hC2)), (8, (pInt .i64 (a0.length : Int))), (9, (pInt .i64 y11))] a g ∧ Base g0 g ∧ y11 = z12) ?_ ?_
 · rintro a w ⟨y11, g, rfl, hst, hb, rfl⟩
   refine Zu ?_
   obtain ⟨e13, h14, H0⟩ := Zh H0; obtain ⟨r15, h16, H0⟩ := Zh H0
   refine r_s (T := ⟨[.old 4], _, [], [], [35]⟩ :: ⟨[.old 4], _, [], [], [36]⟩ :: ⟨[.old 3], _, [], [], [37]⟩ :: ⟨[.op 1 0, .op 2 0], _, [], [1, 2], [38]⟩ :: ⟨[.op 3 0], _, [], [1, 2, 3], [39]⟩ :: ⟨[.op 4 0, .old 2], _, [], List.range' 1 4, [40]⟩ :: ⟨[.op 4 0, .old 0], _, [], List.range' 1 4, [41]⟩ :: ⟨[.op 4 0, .old 4], _, [], List.range' 1 4, [42]⟩ :: ⟨[.op 4 0, .op 6 0, .op 7 0], _, [], [1, 2, 3, 4, 6, 7], [43]⟩ :: ⟨[.op 4 0, .op 8 0], _, [], [1, 2, 3, 4, 6, 7, 8], [44]⟩ :: ⟨[.op 4 0, .old 1], _, [], List.range' 1 4, [45]⟩ :: ⟨[.op 4 0, .op 5 0, .op 9 0, .op 10 0], _, [], List.range' 1 10, [46]⟩ :: ⟨[.op 4 0, .op 11 0], _, [], List.range' 1 11, [47]⟩ :: ⟨[.op 4 0, .op 12 0], _, [], List.range' 1 12, [48]⟩ :: ⟨[.op 0 0], _, [], Lr 12, [6]⟩ :: ⟨[.op 13 0], _, [], Lr 15, [7]⟩ :: []) (F := [.op 14 0, .op 15 0]) hst hb Zb
     (o_p rfl (Za rfl rfl u_0) <| o_p rfl (Za rfl rfl u_0) <| o_p rfl (Za rfl rfl u_0) <| o_p rfl (Zc2 rfl rfl u_0 u_1) <| o_p rfl (Za rfl rfl u_0) <| o_g (g_t rfl rfl rfl (fun hG => Za rfl rfl u_0)) <| o_g (g_t rfl rfl rfl (fun hG => Za rfl rfl u_0)) <| o_g (g_t rfl rfl rfl (fun hG => Za rfl rfl u_0)) <| o_g (g_t rfl rfl rfl (fun hG => Zbv Tryd.underlying43 Zjc rfl rfl (Opd.gd hG u_0) (Opd.gd hG u_1) (Zbq h14 hG))) <| o_g (g_t rfl rfl rfl (fun hG => Zf Zfk rfl rfl (Opd.gd hG u_0))) <| o_g (g_t rfl rfl rfl (fun hG => Za rfl rfl u_0)) <| o_g (g_t rfl rfl rfl (fun hG => Zmt e2_ (hφ2 _ _ _ (Zbq h16 hG)) rfl rfl (Opd.gd hG u_0) (.cons (Opd.gd hG u_1) (.cons (Opd.gd hG u_2) .nil)))) <| o_g (g_t rfl rfl rfl (fun hG => Zbw rfl rfl (Opd.gd hG u_0) c_i)) <| o_p rfl (Zbj rfl rfl u_0 (fun hz => (Opd.gd hz u_1))) <| o_p rfl (Zc rfl rfl u_0) <| o_p rfl (Zc rfl rfl u_0) <| o_n) (by kernel_rfl) (fun a g hst hb => ?_)
   refine wp_ret ?_
   obtain rfl := Option.some.inj H0
   exact Zex rfl hst hb (Zm (s := 6)) (Zm (s := 7)) (Zde (hst.at 0 rfl) (hst.at 1 rfl))
 · refine wp_block ?_
   refine wp_loop_ghost (fun n a w => ∃ (x1 : Int) (x2 : Int) (g : G), w = g.w ∧ St 49 [(0, (Zy.sl.pd a0)), (1, (pStr a1)), (2, (pClo f2 C2 hC2)), (8, (pInt .i64 (a0.length : Int))), (9, (pInt .i64 x1)), (10, (pInt .i64 x2)), (12, (Zy.sl.pd a0))] a g ∧ Base g0 g ∧ Zbe a0 a1 φ2 n x1 x2 = some z12) (Int.toNat ((a0.length : Int) - (0 : Int)) + 1) ⟨(0 : Int), (a0.length : Int), g, rfl, (hst.pick [0, 1, 2, 3, 4, 5, 6] rfl), hb, hz1⟩ (fun n a w hI => ?_)
   obtain ⟨x1, x2, g, rfl, hst, hb, H1⟩ := hI
   cases n with
   | zero => exact absurd H1 (by simp [Zbe])
   | succ n =>
     rw [Zbe] at H1
     refine wp_seq ?_
     refine r_s (T := [⟨[.old 4], _, [], [], [15]⟩, ⟨[.old 5], _, [], [], [16]⟩, ⟨[.op 0 0, .op 1 0], _, [], [0, 1], [17]⟩]) (F := [.old 0, .old 1, .old 2, .old 3, .old 4, .old 5, .old 6, .op 2 0]) hst hb Zb
       (o_p rfl (Za rfl rfl u_0) <| o_p rfl (Za rfl rfl u_0) <| o_p rfl (Zc2 rfl rfl u_0 u_1) <| o_n) (by kernel_rfl) (fun a g hst hb => ?_)
     refine wp_cond_split (hst.bool 7 rfl) (fun hc3 => ?_) (fun hc3 => ?_)
     · replace H1 := Z0 hc3 H1
       refine wp_skip ?_
       refine Zu ?_
       refine Zc0 (fun a w => ∃ (j9 : Int) (j10 : Int) (g : G), w = g.w ∧ St 49 [(0, (Zy.sl.pd a0)), (1, (pStr a1)), (2, (pClo f2 C2 hC2)), (8, (pInt .i64 (a0.length : Int))), (9, (pInt .i64 j9)), (10, (pInt .i64 j10)), (12, (Zy.sl.pd a0))] a g ∧ Base g0 g ∧ Zb6 (Zbe a0 a1 φ2 n) j9 j10 = some z12) ?_ ?_
       · rintro a w ⟨j9, j10, g, rfl, hst, hb, H1⟩
         unfold Zb6 at H1
         exact ⟨n, Nat.lt_succ_self _, j9, j10, g, rfl, (hst.pick [0, 1, 2, 3, 4, 5, 6] rfl), hb, H1⟩
       · refine wp_block ?_
         refine r_s (L := [(0, _), (1, _), (2, _), (8, _), (9, _), (10, _), (12, _)]) (T := [⟨[.old 4], _, [], [], [18]⟩, ⟨[.old 5], _, [], [], [19]⟩, ⟨[.op 0 0, .op 1 0], _, [], [0, 1], [20]⟩, ⟨[.op 2 0], _, [], [0, 1, 2], [21]⟩, ⟨[.op 3 0], _, [], Lr 4, [22]⟩, ⟨[.op 4 0], _, [], Lr 5, [23]⟩, ⟨[.op 5 0], _, [], Lr 6, [11]⟩]) (F := [.old 0, .old 1, .old 2, .old 3, .old 4, .old 5, .op 6 0, .old 6]) (hst.pick [0, 1, 2, 3, 4, 5, 6] rfl) hb Zb
           (o_p rfl (Za rfl rfl u_0) <| o_p rfl (Za rfl rfl u_0) <| o_p rfl (Zce rfl rfl u_0 u_1 rfl) <| o_p rfl (Zye Tryd.underlying3 Tryd.underlying144 rfl rfl u_0 rfl) <| o_p rfl (Z51 rfl rfl u_0 c_i (by decide) rfl) <| o_p rfl (Zye Tryd.underlying144 Tryd.underlying3 rfl rfl u_0 rfl) <| o_p rfl (Zc rfl rfl u_0) <| o_n) (by kernel_rfl) (fun a g hst hb => ?_)
         obtain ⟨e4, h5, H1⟩ := Zh H1; obtain ⟨r6, h7, H1⟩ := Zh H1
         refine r_s (T := [⟨[.old 2], _, [], [], [24]⟩, ⟨[.old 0], _, [], [], [25]⟩, ⟨[.old 6], _, [], [], [26]⟩, ⟨[.op 1 0, .op 2 0], _, [], [1, 2], [27]⟩, ⟨[.op 3 0], _, [], [1, 2, 3], [28]⟩, ⟨[.old 1], _, [], [], [29]⟩, ⟨[.op 0 0, .op 4 0, .op 5 0], _, [], Lr 6, [30]⟩, ⟨[.op 6 0], _, [], Lr 7, [31]⟩]) (F := [.old 0, .old 1, .old 2, .old 3, .old 4, .old 5, .old 6, .old 7, .op 7 0]) hst hb Zb
           (o_p rfl (Za rfl rfl u_0) <| o_p rfl (Za rfl rfl u_0) <| o_p rfl (Za rfl rfl u_0) <| o_p rfl (Zbv Tryd.underlying43 Zjc rfl rfl u_0 u_1 h5) <| o_p rfl (Zf Zfk rfl rfl u_0) <| o_p rfl (Za rfl rfl u_0) <| o_p rfl (Zmt e2_ (hφ2 _ _ _ h7) rfl rfl u_0 (.cons u_1 (.cons u_2 .nil))) <| o_p rfl (Zc2 rfl rfl u_0 c_i) <| o_n) (by kernel_rfl) (fun a g hst hb => ?_)
         refine wp_cond_split (hst.bool 8 rfl) (fun hc8 => ?_) (fun hc8 => ?_)
         · replace H1 := Z0 hc8 H1
           refine r_g (L := [(0, _), (1, _), (2, _), (8, _), (10, _), (11, _), (12, _)]) (T := [⟨[.old 5], _, [], [], [32]⟩, ⟨[.op 0 0], _, [], [0], [33]⟩, ⟨[.op 1 0], _, [], [0, 1], [9]⟩]) (F := [.old 0, .old 1, .old 2, .old 3, .op 2 0, .old 4, .old 6]) (hst.pick [0, 1, 2, 3, 5, 6, 7] rfl) hb Zb
             (o_p rfl (Za rfl rfl u_0) <| o_p rfl (Zce rfl rfl u_0 c_i rfl) <| o_p rfl (Zc rfl rfl u_0) <| o_n) (by kernel_rfl) (fun a g hst hb => ?_)
           refine Zbt ?_
           exact ⟨(IntKind.i64.wrap ((IntKind.i64.wrap (Int.fdiv (IntKind.u64.wrap (IntKind.i64.wrap (x1 + x2))) (2 ^ 1))) + (1 : Int))), x2, g, rfl, (hst.pick [0, 1, 2, 3, 4, 5, 6] rfl), hb, H1⟩
         · replace H1 := Zz hc8 H1
           refine r_g (L := [(0, _), (1, _), (2, _), (8, _), (9, _), (11, _), (12, _)]) (T := [⟨[.old 5], _, [], [], [34]⟩, ⟨[.op 0 0], _, [], [0], [10]⟩]) (F := [.old 0, .old 1, .old 2, .old 3, .old 4, .op 1 0, .old 6]) (hst.pick [0, 1, 2, 3, 4, 6, 7] rfl) hb Zb
             (o_p rfl (Za rfl rfl u_0) <| o_p rfl (Zc rfl rfl u_0) <| o_n) (by kernel_rfl) (fun a g hst hb => ?_)
           refine Zbt ?_
           exact ⟨x1, (IntKind.i64.wrap (Int.fdiv (IntKind.u64.wrap (IntKind.i64.wrap (x1 + x2))) (2 ^ 1))), g, rfl, (hst.pick [0, 1, 2, 3, 4, 5, 6] rfl), hb, H1⟩
     · replace H1 := Zz hc3 H1
       refine wp_exit ?_
       refine Zca ?_
       refine Zca ?_
       refine Zcz ?_
       exact ⟨x1, g, rfl, (hst.pick [0, 1, 2, 3, 4] rfl), hb, Option.some.inj H1⟩
theorem Zto (a0 : Zj) (a1 : ByteArray) {r : Int} (h : Zh7 a0 a1 = some r) : FnOk Tryd.prog 95 [(Zy.pd a0), (pStr a1)] (pInt .i64 r) := by
 have H0 := h
 unfold Zh7 at H0
 clear h
 refine Zbu (N := 15) Tryd.func95 rfl rfl (Nat.le_of_ble_eq_true rfl) rfl rfl (fun a g0 hst hb => ?_)
 refine r_s (T := [⟨[.old 0], _, [], [], [2]⟩, ⟨[], _, [], [], [4]⟩]) (F := [.old 1, .op 0 0]) hst hb Zb
   (o_p rfl (Zbl rfl rfl u_0) <| o_p rfl (Zc rfl rfl c_i) <| o_n) (by kernel_rfl) (fun a g hst hb => ?_)
 refine wp_seq ?_
 refine wp_block ?_
 refine r_s (T := [⟨[.old 1], _, [], [], [6]⟩, ⟨[.op 0 0], _, [], [0], [7]⟩, ⟨[.old 0], _, [], [], [8]⟩, ⟨[.op 1 0, .op 2 0], _, [], [0, 1, 2], [9]⟩, ⟨[.op 3 0], _, [], Lr 4, [5]⟩]) (F := [.old 0, .old 1, .op 4 0]) hst hb Zb
   (o_p rfl (Ze Zf2 rfl rfl u_0) <| o_p rfl (Zf ty_9 rfl rfl u_0) <| o_p rfl (Za rfl rfl u_0) <| o_p rfl (Zl8 rfl rfl u_0 u_1) <| o_p rfl (Zc rfl rfl u_0) <| o_n) (by kernel_rfl) (fun a g hst hb => ?_)
 refine wp_cond_split (hst.bool 2 rfl) (fun hc1 => ?_) (fun hc1 => ?_)
 · replace H0 := Z0 hc1 H0
   refine r_s (L := []) (T := [⟨[], _, [], [], [4]⟩]) (F := [.op 0 0]) (hst.pick [] rfl) hb Zb
     (o_p rfl (Zc rfl rfl c_i) <| o_n) (by kernel_rfl) (fun a g hst hb => ?_)
   refine wp_ret ?_
   refine Zw ?_
   refine Zn ?_
   obtain rfl := Option.some.inj H0
   exact Z3 rfl hst hb (Zm (s := 4)) (hst.at 0 rfl)
 · replace H0 := Zz hc1 H0
   refine r_s (L := [(1, _), (2, _)]) (T := [⟨[.old 1], _, [], [], [11]⟩, ⟨[.op 0 0], _, [], [0], [12]⟩, ⟨[.old 0], _, [], [], [13]⟩, ⟨[.op 1 0, .op 2 0], _, [], [0, 1, 2], [14]⟩, ⟨[.op 3 0], _, [], Lr 4, [10]⟩]) (F := [.op 4 0]) (hst.pick [0, 1] rfl) hb Zb
     (o_p rfl (Ze Zf2 rfl rfl u_0) <| o_p rfl (Zf ty_9 rfl rfl u_0) <| o_p rfl (Za rfl rfl u_0) <| o_p rfl (Zsa rfl rfl u_0 u_1) <| o_p rfl (Zc rfl rfl u_0) <| o_n) (by kernel_rfl) (fun a g hst hb => ?_)
   refine wp_cond_split (hst.bool 0 rfl) (fun hc2 => ?_) (fun hc2 => ?_)
   · replace H0 := Z0 hc2 H0
     refine r_s (L := []) (T := [⟨[], _, [], [], [4]⟩]) (F := [.op 0 0]) (hst.pick [] rfl) hb Zb
       (o_p rfl (Zc rfl rfl c_i) <| o_n) (by kernel_rfl) (fun a g hst hb => ?_)
     refine wp_ret ?_
     refine Zw ?_
     refine Zn ?_
     obtain rfl := Option.some.inj H0
     exact Z3 rfl hst hb (Zm (s := 4)) (hst.at 0 rfl)
   · replace H0 := Zz hc2 H0
     refine wp_skip ?_
     refine Zbt ?_
     refine Zu ?_
     refine r_s (L := []) (T := [⟨[], _, [], [], [4]⟩]) (F := [.op 0 0]) (hst.pick [] rfl) hb Zb
       (o_p rfl (Zc rfl rfl c_i) <| o_n) (by kernel_rfl) (fun a g hst hb => ?_)
     refine wp_ret ?_
     obtain rfl := Option.some.inj H0
     exact Z3 rfl hst hb (Zm (s := 4)) (hst.at 0 rfl)
theorem Zm2 (a0 : List Zj) (a1 : ByteArray) {r : Int × Bool} (h : Zji a0 a1 = some r) : FnOk Tryd.prog 81 [(Zy.sl.pd a0), (pStr a1)] (pTup [(pInt .i64 r.1), (Zbd r.2)]) := by
 have H0 := h
 unfold Zji at H0
 clear h
 refine Zbu (N := 11) Tryd.func81 rfl rfl (Nat.le_of_ble_eq_true rfl) rfl rfl (fun a g0 hst hb => ?_)
 refine r_s (T := [⟨[], _, [], [], [4]⟩, ⟨[], _, [], [0], [5]⟩]) (F := [.old 0, .old 1]) hst hb Zb
   (o_p rfl (Zc rfl rfl c_i) <| o_p rfl (Zc rfl rfl c_b) <| o_n) (by kernel_rfl) (fun a g hst hb => ?_)
 obtain ⟨r1, h2, H0⟩ := Zh H0
 refine r_s (T := [⟨[.old 0], _, [], [], [6]⟩, ⟨[.old 1], _, [], [], [7]⟩, ⟨[.op 0 0, .op 1 0], _, [], [0, 1], [8]⟩, ⟨[.op 2 0], _, [], [0, 1, 2], [9]⟩, ⟨[.op 2 0], _, [], [0, 1, 2], [10]⟩, ⟨[.op 3 0], _, [], Lr 5, [4]⟩, ⟨[.op 4 0], _, [], Lr 6, [5]⟩]) (F := [.op 5 0, .op 6 0]) hst hb Zb
   (o_p rfl (Za rfl rfl u_0) <| o_p rfl (Za rfl rfl u_0) <| o_p rfl (Zp Z8h (Zgx 95 [] rfl Z7v (fun y0 y1 => Zh7 y0 y1) (fun y0 y1 r h => Zto y0 y1 h) _ _ h2) rfl rfl (.cons u_0 (.cons u_1 (.cons Opd.fnc .nil)))) <| o_p rfl (Z4 rfl rfl u_0 rfl) <| o_p rfl (Z4 rfl rfl u_0 rfl) <| o_p rfl (Zc rfl rfl u_0) <| o_p rfl (Zc rfl rfl u_0) <| o_n) (by kernel_rfl) (fun a g hst hb => ?_)
 refine wp_ret ?_
 obtain rfl := Option.some.inj H0
 exact Zex rfl hst hb (Zm (s := 4)) (Zm (s := 5)) (Zde (hst.at 0 rfl) (hst.at 1 rfl))
set_option maxHeartbeats 1000000 in
theorem Zgz (a0 : List Zj) (a1 : Int) (a2 : List Zj) {r : List Zj} (h : Zb5 a0 a1 a2 = some r) : Zve Tryd.prog 93 Zy 97 a0 [(pInt .i64 a1), (Zy.sl.pd a2)] (Zy.sl.pd r) := by
 unfold Zb5 at h
 obtain ⟨⟨hi0, hi1, hm, hsz⟩, H0⟩ := Zkd h
 obtain rfl := Option.some.inj H0
 obtain ⟨k, rfl⟩ := Int.eq_ofNat_of_zero_le hi0
 have hk : k ≤ a0.length := by omega
 have hb0 : (a0.length + a2.length) ≤ 140737488355328 := Nat.le_trans (Nat.le_mul_of_pos_right _ (by decide)) hsz
 simp only [Int.toNat_natCast]
 refine Zvy (N := 95) Tryd.func93 rfl rfl (Nat.le_of_ble_eq_true rfl) rfl (fun hx a g A0 hst hb => ?_) (fun a g cap hcap hmax hst hb => ?_)
 · subst hx
   obtain rfl : k = 0 := by simpa using hk
   refine r_s (T := [⟨[], [(6, (Zy.sl.pd []))], [], [], [6]⟩]) (F := [.old 0, .old 1, .old 2]) hst hb Zb
     (o_p rfl (Zc rfl rfl (Opd.c (fun g => Zkr g))) <| o_n) (by kernel_rfl) (fun a g hst hb => ?_)
   refine r_s (T := [⟨[.old 0], _, [], [], [10]⟩, ⟨[.old 1], _, [], [], [11]⟩, ⟨[.op 0 0, .op 1 0], _, [], [0, 1], [12]⟩]) (F := [.old 0, .old 1, .old 2]) hst hb Zb
     (o_p rfl (Za rfl rfl u_0) <| o_p rfl (Za rfl rfl u_0) <| o_p rfl (Z03 Zd7 rfl u_0 u_1) <| o_n) (by kernel_rfl) (fun a g hst hb => ?_)
   refine r_s (T := [⟨[.old 2], _, [], [], [13]⟩, ⟨[.op 0 0], _, [], [0], [14]⟩, ⟨[.op 1 0], _, [], [0, 1], [7]⟩]) (F := [.old 0, .old 1, .old 2, .op 2 0]) hst hb Zb
     (o_p rfl (Za rfl rfl u_0) <| o_p rfl (Zb3 Tryd.underlying43 rfl rfl u_0) <| o_p rfl (Zc rfl rfl u_0) <| o_n) (by kernel_rfl) (fun a g hst hb => ?_)
   refine wp_seq ?_
   refine r_s (T := [⟨[.old 3], _, [], [], [15]⟩, ⟨[.op 0 0], _, [], [0], [16]⟩]) (F := [.old 0, .old 1, .old 2, .old 3, .op 1 0]) hst hb Zb
     (o_p rfl (Za rfl rfl u_0) <| o_p rfl (Zbw rfl rfl u_0 c_i) <| o_n) (by kernel_rfl) (fun a g hst hb => ?_)
   refine wp_cond_split (hst.bool 4 rfl) (fun hc => ?_) (fun hc => ?_)
   · exact absurd (beq_iff_eq.1 hc) (by omega)
   · refine wp_skip ?_
     refine Zu ?_
     refine r_s (L := [(0, _), (1, _), (2, _), (7, _)]) (T := [⟨[.old 0], _, [], [], [18]⟩, ⟨[.op 0 0], _, [], [0], [19]⟩, ⟨[.op 1 0], _, [], [0, 1], [8]⟩]) (F := [.old 0, .old 1, .old 2, .old 3, .op 2 0]) (hst.pick [0, 1, 2, 3] rfl) hb Zb
       (o_p rfl (Za rfl rfl u_0) <| o_p rfl (Z4f Tryd.underlying43 rfl rfl u_0) <| o_p rfl (Zc rfl rfl u_0) <| o_n) (by kernel_rfl) (fun a g hst hb => ?_)
     refine wp_seq ?_
     refine r_s (T := [⟨[.old 1], _, [], [], [20]⟩, ⟨[.old 4], _, [], [], [21]⟩, ⟨[.op 0 0, .op 1 0], _, [], [0, 1], [22]⟩]) (F := [.old 0, .old 1, .old 2, .old 3, .old 4, .op 2 0]) hst hb Zb
       (o_p rfl (Za rfl rfl u_0) <| o_p rfl (Za rfl rfl u_0) <| o_p rfl (Zbw rfl rfl u_0 u_1) <| o_n) (by kernel_rfl) (fun a g hst hb => ?_)
     refine wp_cond_split (hst.bool 5 rfl) (fun hc => ?_) (fun hc => ?_)
     · refine r_s (L := [(0, _), (2, _)]) (T := [⟨[.old 0], _, [], [], [23]⟩, ⟨[.old 1], _, [], [], [24]⟩, ⟨[.op 0 0, .op 1 0], [(25, (pOwn Zy 97 25 none (a2.map some)))], [26], [0, 1], [25]⟩, ⟨[.op 2 0], _, [], [0, 1, 2], [6]⟩]) (F := [.op 3 0]) (hst.pick [0, 2] rfl) hb Zb
         (o_p rfl (Za rfl rfl u_0) <| o_p rfl (Za rfl rfl u_0) <| o_p rfl (Zyu Zd7 rfl rfl u_0 u_1 hm (by simpa using hsz)) <| o_p rfl (Zc rfl rfl u_0) <| o_n) (by kernel_rfl) (fun a g hst hb => ?_)
       refine wp_ret ?_
       refine Zn ?_
       have hq := hst.at 0 rfl
       have he : ([] : List Zj).take 0 ++ a2 ++ ([] : List Zj).drop 0 = a2 := by simp
       rw [he]
       exact Zn2 rfl hst hb (Zm (s := 6)) hq
     · exact absurd hc (by simp)
 · refine r_s (T := [⟨[], [(6, (Zy.sl.pd []))], [], [], [6]⟩]) (F := [.old 0, .old 1, .old 2]) hst hb Zb
     (o_p rfl (Zc rfl rfl (Opd.c (fun g => Zkr g))) <| o_n) (by kernel_rfl) (fun a g hst hb => ?_)
   refine r_s (T := [⟨[.old 0], _, [], [], [10]⟩, ⟨[.old 1], _, [], [], [11]⟩, ⟨[.op 0 0, .op 1 0], _, [], [0, 1], [12]⟩]) (F := [.old 0, .old 1, .old 2]) hst hb Zb
     (o_p rfl (Za rfl rfl u_0) <| o_p rfl (Za rfl rfl u_0) <| o_p rfl (Zgb Zd7 (by simpa using hk) rfl rfl u_0 u_1) <| o_n) (by kernel_rfl) (fun a g hst hb => ?_)
   refine r_s (T := [⟨[.old 2], _, [], [], [13]⟩, ⟨[.op 0 0], _, [], [0], [14]⟩, ⟨[.op 1 0], _, [], [0, 1], [7]⟩]) (F := [.old 0, .old 1, .old 2, .op 2 0]) hst hb Zb
     (o_p rfl (Za rfl rfl u_0) <| o_p rfl (Zb3 Tryd.underlying43 rfl rfl u_0) <| o_p rfl (Zc rfl rfl u_0) <| o_n) (by kernel_rfl) (fun a g hst hb => ?_)
   refine wp_seq ?_
   refine r_s (T := [⟨[.old 3], _, [], [], [15]⟩, ⟨[.op 0 0], _, [], [0], [16]⟩]) (F := [.old 0, .old 1, .old 2, .old 3, .op 1 0]) hst hb Zb
     (o_p rfl (Za rfl rfl u_0) <| o_p rfl (Zbw rfl rfl u_0 c_i) <| o_n) (by kernel_rfl) (fun a g hst hb => ?_)
   refine wp_cond_split (hst.bool 4 rfl) (fun hc => ?_) (fun hc => ?_)
   · exact absurd (beq_iff_eq.1 hc) (by omega)
   · refine wp_skip ?_
     refine Zu ?_
     refine r_s (L := [(0, _), (1, _), (2, _), (7, _)]) (T := [⟨[.old 0], _, [], [], [18]⟩, ⟨[.op 0 0], _, [], [0], [19]⟩, ⟨[.op 1 0], _, [], [0, 1], [8]⟩]) (F := [.old 0, .old 1, .old 2, .old 3, .op 2 0]) (hst.pick [0, 1, 2, 3] rfl) hb Zb
       (o_p rfl (Za rfl rfl u_0) <| o_p rfl (Zqs Tryd.underlying43 rfl rfl u_0) <| o_p rfl (Zc rfl rfl u_0) <| o_n) (by kernel_rfl) (fun a g hst hb => ?_)
     refine wp_seq ?_
     refine r_s (T := [⟨[.old 1], _, [], [], [20]⟩, ⟨[.old 4], _, [], [], [21]⟩, ⟨[.op 0 0, .op 1 0], _, [], [0, 1], [22]⟩]) (F := [.old 0, .old 1, .old 2, .old 3, .old 4, .op 2 0]) hst hb Zb
       (o_p rfl (Za rfl rfl u_0) <| o_p rfl (Za rfl rfl u_0) <| o_p rfl (Zbw rfl rfl u_0 u_1) <| o_n) (by kernel_rfl) (fun a g hst hb => ?_)
     refine wp_cond_split (hst.bool 5 rfl) (fun hc => ?_) (fun hc => ?_)
     · refine r_s (L := [(0, _), (2, _)]) (T := [⟨[.old 0], _, [], [], [23]⟩, ⟨[.old 1], _, [], [], [24]⟩, ⟨[.op 0 0, .op 1 0], _, [1], [0, 1], [25, 0, 23]⟩, ⟨[.op 2 0], _, [], [0, 1, 2], [6]⟩]) (F := [.op 3 0]) (hst.pick [0, 2] rfl) hb Zb
         (o_p rfl (Za rfl rfl u_0) <| o_p rfl (Za rfl rfl u_0) <| o_p rfl (Zsy Zd7 rfl rfl u_0 u_1 hsz) <| o_p rfl (Zc rfl rfl u_0) <| o_n) (by kernel_rfl) (fun a g hst hb => ?_)
       refine wp_ret ?_
       refine Zn ?_
       have hq := hst.at 0 rfl
       have hkn := beq_iff_eq.1 hc
       simp only [List.length_map] at hkn
       have hkn : k = a0.length := by omega
       have he : a0.take k ++ a2 ++ a0.drop k = a0 ++ a2 := by simp [hkn]
       rw [he]
       exact Zn2 rfl hst hb (Zm (s := 6)) hq
     · have hkn : k ≠ a0.length := fun h => (beq_eq_false_iff_ne.1 hc) (by simp only [List.length_map]; omega)
       refine wp_skip ?_
       refine Zu ?_
       refine wp_seq ?_
       refine r_s (L := [(0, _), (1, _), (2, _), (7, _), (8, _)]) (T := [⟨[.old 4], _, [], [], [26]⟩, ⟨[.old 3], _, [], [], [27]⟩, ⟨[.op 0 0, .op 1 0], _, [], [0, 1], [28]⟩, ⟨[.old 0], _, [], [], [29]⟩, ⟨[.op 3 0], _, [], [3], [30]⟩, ⟨[.op 2 0, .op 4 0], _, [], [0, 1, 2, 3, 4], [31]⟩]) (F := [.old 0, .old 1, .old 2, .old 3, .old 4, .op 5 0]) (hst.pick [0, 1, 2, 3, 4] rfl) hb Zb
         (o_p rfl (Za rfl rfl u_0) <| o_p rfl (Za rfl rfl u_0) <| o_p rfl (Zce rfl rfl u_0 u_1 (Zqk (by simp only [List.length_map]; omega))) <| o_p rfl (Za rfl rfl u_0) <| o_p rfl (Z42 Tryd.underlying43 rfl rfl u_0) <| o_p rfl (Zcr rfl rfl u_0 u_1) <| o_n) (by kernel_rfl) (fun a g hst hb => ?_)
       refine wp_cond_split (hst.bool 5 rfl) (fun hc2 => ?_) (fun hc2 => ?_)
       · have hgr : cap < k + (a0.length + a2.length - k) := by have := of_decide_eq_true hc2; simp only [List.length_map] at this; omega
         refine r_s (L := [(0, _), (1, _), (2, _), (7, _), (8, _)]) (T := [⟨[.old 0], _, [], [], [32]⟩, ⟨[.old 1], _, [], [], [33]⟩, ⟨[.op 0 0, .op 1 0], _, [], [0, 1], [34]⟩, ⟨[.old 4], _, [], [], [35]⟩, ⟨[.old 3], _, [], [], [36]⟩, ⟨[.op 3 0, .op 4 0], _, [], [3, 4], [37]⟩, ⟨[.old 1], _, [], [], [38]⟩, ⟨[.op 5 0, .op 6 0], _, [], [3, 4, 5, 6], [39]⟩, ⟨[.op 2 0, .op 7 0, .old 0], [(40, (pOwn Zy 97 40 none ((a0.take k).map some ++ List.replicate (a0.length + a2.length - k) none)))], [41], [0, 1, 2, 3, 4, 5, 6, 7], [40]⟩, ⟨[.op 8 0], _, [], [0, 1, 2, 3, 4, 5, 6, 7, 8], [9]⟩]) (F := [.old 0, .old 1, .old 2, .old 3, .op 9 0]) (hst.pick [0, 1, 2, 3, 4] rfl) hb Zb
           (o_p rfl (Za rfl rfl u_0) <| o_p rfl (Za rfl rfl u_0) <| o_p rfl (Zpq Zd7 (by simpa using hk) rfl rfl u_0 u_1) <| o_p rfl (Za rfl rfl u_0) <| o_p rfl (Za rfl rfl u_0) <| o_p rfl (Zce rfl rfl u_0 u_1 (Zqk (by simp only [List.length_map]; omega))) <| o_p rfl (Za rfl rfl u_0) <| o_p rfl (Zjj rfl rfl u_0 u_1 (Z6r (n := a0.length + a2.length) (by simp only [List.length_map]) (by omega) (by omega))) <| o_p rfl (Zyv (s := 0) (d2 := 40) (xs := a0.take k) Zd7 Tryd.underlying3 (by simp; omega) (by simp; omega) (by omega) hgr (by rw [show k + (a0.length + a2.length - k) = a0.length + a2.length by omega]; exact hsz) (Zs6 a0 k) rfl rfl u_0 u_1 u_2) <| o_p rfl (Zc rfl rfl u_0) <| o_n) (by kernel_rfl) (fun a g hst hb => ?_)
         have hl1 : (((a0.take k).map some ++ List.replicate (a0.length + a2.length - k) none) : List (Option Zj)).length = a0.length + a2.length := by simp; omega
         refine r_s (T := [⟨[.old 4], _, [], [], [41]⟩, ⟨[.old 1], _, [], [], [42]⟩, ⟨[.op 0 0, .op 1 0], _, [], [0, 1], [43]⟩, ⟨[.old 2], _, [], [], [44]⟩, ⟨[.op 2 0, .op 3 0, .old 4], _, [41], [0, 1, 2, 3], [45, 9, 41, 43]⟩]) (F := [.old 0, .old 1, .old 2, .old 3, .op 4 1]) hst hb Zb
           (o_p rfl (Za rfl rfl u_0) <| o_p rfl (Za rfl rfl u_0) <| o_p rfl (Zgb Zd7 (by rw [hl1]; omega) rfl rfl u_0 u_1) <| o_p rfl (Za rfl rfl u_0) <| o_p rfl (Zvl (s := 9) Zd7 (by rw [hl1]; omega) (by rw [hl1]; omega) rfl rfl (by decide) u_0 u_1 u_2) <| o_n) (by kernel_rfl) (fun a g hst hb => ?_)
         have hl2 : (over (((a0.take k).map some ++ List.replicate (a0.length + a2.length - k) none) : List (Option Zj)) k a2).length = a0.length + a2.length := by rw [Zkq (by rw [hl1]; omega), hl1]
         refine r_s (T := [⟨[.old 4], _, [], [], [46]⟩, ⟨[.old 1], _, [], [], [47]⟩, ⟨[.old 3], _, [], [], [48]⟩, ⟨[.op 1 0, .op 2 0], _, [], [1, 2], [49]⟩, ⟨[.op 0 0, .op 3 0], _, [], [0, 1, 2, 3], [50]⟩, ⟨[.old 0], _, [], [], [51]⟩, ⟨[.old 1], _, [], [], [52]⟩, ⟨[.op 5 0, .op 6 0], _, [], [5, 6], [53]⟩, ⟨[.op 4 0, .op 7 0, .old 4, .old 0], _, [41], [0, 1, 2, 3, 4, 5, 6, 7], [54, 9, 46, 50]⟩]) (F := [.op 8 1]) hst hb Zb
           (o_p rfl (Za rfl rfl u_0) <| o_p rfl (Za rfl rfl u_0) <| o_p rfl (Za rfl rfl u_0) <| o_p rfl (Zce rfl rfl u_0 u_1 (Zqk (by omega))) <| o_p rfl (Zgb Zd7 (by rw [hl2]; omega) rfl rfl u_0 u_1) <| o_p rfl (Za rfl rfl u_0) <| o_p rfl (Za rfl rfl u_0) <| o_p rfl (Zgb Zd7 (by simpa using hk) rfl rfl u_0 u_1) <| o_p rfl (Zvs (s := 9) (s2 := 0) (ws := a0.drop k) Zd7 (by rw [hl2]; omega) (by simp; omega) (by rw [hl2, List.length_map, List.length_drop]; exact (Nat.min_eq_left (by omega)).symm) (fun i x hx => by rw [List.getElem?_drop] at hx; rw [List.getElem?_map, hx]; rfl) rfl rfl (by decide) u_0 u_1 u_2 u_3) <| o_n) (by kernel_rfl) (fun a g hst hb => ?_)
         refine r_s (T := [⟨[.old 0], _, [], [], [55]⟩, ⟨[.op 0 0], _, [], [0], [6]⟩]) (F := [.op 1 0]) hst hb Zb
           (o_p rfl (Za rfl rfl u_0) <| o_p rfl (Zc rfl rfl u_0) <| o_n) (by kernel_rfl) (fun a g hst hb => ?_)
         refine wp_ret ?_
         refine Zn ?_
         have hq := hst.at 0 rfl
         rw [ins1 hk] at hq
         exact Zn2 rfl hst hb (Zm (s := 6)) hq
       · have hroom : a0.length + a2.length ≤ cap := by have := of_decide_eq_false hc2; simp only [List.length_map] at this; omega
         refine wp_skip ?_
         refine Zu ?_
         refine r_s (L := [(0, _), (1, _), (2, _), (7, _), (8, _)]) (T := [⟨[.old 0], _, [], [], [56]⟩, ⟨[.old 4], _, [], [], [57]⟩, ⟨[.old 3], _, [], [], [58]⟩, ⟨[.op 1 0, .op 2 0], _, [], [1, 2], [59]⟩, ⟨[.op 0 0, .op 3 0], [(60, (pOwn Zy 97 0 (some cap) (a0.map some ++ List.replicate (a0.length + a2.length - (a0.map some).length) none)))], [], [0, 1, 2, 3], [60]⟩, ⟨[.op 4 0], _, [], [0, 1, 2, 3, 4], [0]⟩]) (F := [.op 5 0, .old 1, .old 2, .old 3]) (hst.pick [0, 1, 2, 3, 4] rfl) hb Zb
           (o_p rfl (Za rfl rfl u_0) <| o_p rfl (Za rfl rfl u_0) <| o_p rfl (Za rfl rfl u_0) <| o_p rfl (Zce rfl rfl u_0 u_1 (Zqk (by simp only [List.length_map]; omega))) <| o_p rfl (Zw8 (h := a0.length + a2.length) Zd7 (by simp) hroom rfl rfl u_0 (Opd.to u_1 (by simp))) <| o_p rfl (Zc rfl rfl u_0) <| o_n) (by kernel_rfl) (fun a g hst hb => ?_)
         have hl1 : ((a0.map some ++ List.replicate (a0.length + a2.length - (a0.map some).length) none) : List (Option Zj)).length = a0.length + a2.length := by simp
         refine wp_seq ?_
         refine r_s (T := [⟨[.old 2], _, [], [], [61]⟩, ⟨[.old 0], _, [], [], [62]⟩, ⟨[.old 1], _, [], [], [63]⟩, ⟨[.old 3], _, [], [], [64]⟩, ⟨[.op 2 0, .op 3 0], _, [], [2, 3], [65]⟩, ⟨[.op 1 0, .op 4 0], _, [], [1, 2, 3, 4], [66]⟩, ⟨[.op 0 0, .op 5 0, .old 0], _, [], [0, 1, 2, 3, 4, 5], [67]⟩, ⟨[.op 6 0], _, [], [0, 1, 2, 3, 4, 5, 6], [68]⟩]) (F := [.old 0, .old 1, .old 2, .old 3, .op 7 0]) hst hb Zb
           (o_p rfl (Za rfl rfl u_0) <| o_p rfl (Za rfl rfl u_0) <| o_p rfl (Za rfl rfl u_0) <| o_p rfl (Za rfl rfl u_0) <| o_p rfl (Zce rfl rfl u_0 u_1 (Zqk (by omega))) <| o_p rfl (Zgb Zd7 (by rw [hl1]; omega) rfl rfl u_0 u_1) <| o_p rfl (Zxn (s := 0) Zd7 rfl Z60 (by rw [hl1]; omega) rfl rfl u_0 u_1 u_2) <| o_p rfl (Zcn rfl rfl u_0) <| o_n) (by kernel_rfl) (fun a g hst hb => ?_)
         refine wp_cond_split (hst.bool 4 rfl) (fun hc3 => ?_) (fun hc3 => absurd hc3 (by simp))
         refine r_s (L := [(0, _), (1, _), (2, _), (7, _)]) (T := [⟨[.old 0], _, [], [], [69]⟩, ⟨[.old 1], _, [], [], [70]⟩, ⟨[.old 3], _, [], [], [71]⟩, ⟨[.op 1 0, .op 2 0], _, [], [1, 2], [72]⟩, ⟨[.op 0 0, .op 3 0], _, [], [0, 1, 2, 3], [73]⟩, ⟨[.old 0], _, [], [], [74]⟩, ⟨[.old 1], _, [], [], [75]⟩, ⟨[.op 5 0, .op 6 0], _, [], [5, 6], [76]⟩, ⟨[.op 4 0, .op 7 0, .old 0, .old 0], _, [1], [0, 1, 2, 3, 4, 5, 6, 7], [77, 0, 69, 73, 74, 76]⟩]) (F := [.op 8 1, .old 1, .old 2, .old 3]) (hst.pick [0, 1, 2, 3] rfl) hb Zb
           (o_p rfl (Za rfl rfl u_0) <| o_p rfl (Za rfl rfl u_0) <| o_p rfl (Za rfl rfl u_0) <| o_p rfl (Zce rfl rfl u_0 u_1 (Zqk (by omega))) <| o_p rfl (Zgb Zd7 (by rw [hl1]; omega) rfl rfl u_0 u_1) <| o_p rfl (Za rfl rfl u_0) <| o_p rfl (Za rfl rfl u_0) <| o_p rfl (Zgb Zd7 (by rw [hl1]; omega) rfl rfl u_0 u_1) <| o_p rfl (Zvs (s := 0) (s2 := 0) (ws := a0.drop k) Zd7 (by rw [hl1]; omega) (by rw [hl1]; omega) (by rw [hl1, List.length_drop]; have hm1 : Nat.min (a0.length + a2.length - k) (a0.length + a2.length - (k + a2.length)) = a0.length + a2.length - (k + a2.length) := Nat.min_eq_right (by omega); rw [hm1]; omega) (fun i x hx => by have hi := (List.getElem?_eq_some_iff.1 hx).1; rw [List.length_drop] at hi; rw [List.getElem?_drop] at hx; rw [List.getElem?_append_left (by simp; omega), List.getElem?_map, hx]; rfl) rfl rfl (by decide) u_0 u_1 u_2 u_3) <| o_n) (by kernel_rfl) (fun a g hst hb => ?_)
         have hl2 : (over ((a0.map some ++ List.replicate (a0.length + a2.length - (a0.map some).length) none) : List (Option Zj)) (k + a2.length) (a0.drop k)).length = a0.length + a2.length := by rw [Zkq (by rw [hl1, List.length_drop]; omega), hl1]
         refine r_s (T := [⟨[.old 0], _, [], [], [78]⟩, ⟨[.old 1], _, [], [], [79]⟩, ⟨[.op 0 0, .op 1 0], _, [], [0, 1], [80]⟩, ⟨[.old 2], _, [], [], [81]⟩, ⟨[.op 2 0, .op 3 0, .old 0], _, [1], [0, 1, 2, 3], [82, 0, 78, 80]⟩]) (F := [.op 4 1]) hst hb Zb
           (o_p rfl (Za rfl rfl u_0) <| o_p rfl (Za rfl rfl u_0) <| o_p rfl (Zgb Zd7 (by rw [hl2]; omega) rfl rfl u_0 u_1) <| o_p rfl (Za rfl rfl u_0) <| o_p rfl (Zvl (s := 0) Zd7 (by rw [hl2]; omega) (by rw [hl2]; omega) rfl rfl (by decide) u_0 u_1 u_2) <| o_n) (by kernel_rfl) (fun a g hst hb => ?_)
         refine r_s (T := [⟨[.old 0], _, [], [], [83]⟩, ⟨[.op 0 0], _, [], [0], [6]⟩]) (F := [.op 1 0]) hst hb Zb
           (o_p rfl (Za rfl rfl u_0) <| o_p rfl (Zc rfl rfl u_0) <| o_n) (by kernel_rfl) (fun a g hst hb => ?_)
         refine wp_ret ?_
         refine Zn ?_
         have hq := hst.at 0 rfl
         rw [ins2 hk] at hq
         exact Zn2 rfl hst hb (Zm (s := 6)) hq
theorem Zv7 (a0 : Zd) (a1 : Zx) (a2 : Zg) {r : Int × Zd × Zg} (h : Zjm a0 a1 a2 = some r) : FnB Tryd.prog 79 [.box Zi a0 r.2.1, .val (Z7.pd a1), .box Zs a2 r.2.2] (pInt .i64 r.1) := by
 have H0 := h
 unfold Zjm at H0
 clear h
 refine Zif (N := 46) Tryd.func79 rfl rfl (Nat.le_of_ble_eq_true rfl) rfl rfl (fun a g0 bs hbs hst hb => ?_)
 obtain ⟨b0, b2, rfl⟩ := Zkg hbs
 replace hst : St 46 [(0, (Zbm (some b0) Zi 0 a0)), (1, (Z7.pd a1)), (2, (Zbm (some b2) Zs 2 a2))] _ _ := hst
 refine r_s (T := [⟨[.old 1], _, [], [], [4]⟩, ⟨[], _, [], [], [6]⟩]) (F := [.old 0, .old 2, .op 0 0]) hst hb Zb
   (o_p rfl (Zbl rfl rfl u_0) <| o_p rfl (Zc rfl rfl c_i) <| o_n) (by kernel_rfl) (fun a g hst hb => ?_)
 obtain ⟨r1, h2, H0⟩ := Zh H0
 refine r_s (T := ⟨[.old 0], _, [], [], [10]⟩ :: ⟨[.op 0 0], _, [], [0], [11]⟩ :: ⟨[.op 1 0], _, [], [0, 1], [12]⟩ :: ⟨[.op 2 0], _, [], [0, 1, 2], [13]⟩ :: ⟨[.old 2], _, [], [], [14]⟩ :: ⟨[.op 4 0], _, [], [4], [15]⟩ :: ⟨[.op 3 0, .op 5 0], _, [], Lr 6, [16]⟩ :: ⟨[.op 6 0], _, [], Lr 7, [9]⟩ :: ⟨[.op 7 0], _, [], Lr 8, [17]⟩ :: ⟨[.op 7 0], _, [], Lr 8, [18]⟩ :: ⟨[.op 8 0], _, [], Lr 9, [7]⟩ :: ⟨[.op 9 0], _, [], Lr 11, [8]⟩ :: []) (F := [.old 0, .old 1, .old 2, .op 10 0, .op 11 0]) hst hb Zb
   (o_p rfl (Za rfl rfl u_0) <| o_p rfl (Zo rfl rfl u_0 (fun _ _ ⟨_, _, _, e, _⟩ => ⟨_, e⟩)) <| o_p rfl (Zbc Zdc (off := 7) (by kernel_rfl) rfl rfl u_0) <| o_p rfl (Zcl Zev rfl rfl u_0) <| o_p rfl (Ze Zi6 rfl rfl u_0) <| o_p rfl (Zf ty_9 rfl rfl u_0) <| o_p rfl (Zp Zy9 (Zm2 _ _ h2) rfl rfl (.cons u_0 (.cons u_1 .nil))) <| o_p rfl (Za rfl rfl u_0) <| o_p rfl (Z4 rfl rfl u_0 rfl) <| o_p rfl (Z4 rfl rfl u_0 rfl) <| o_p rfl (Zc rfl rfl u_0) <| o_p rfl (Zc rfl rfl u_0) <| o_n) (by kernel_rfl) (fun a g hst hb => ?_)
 refine wp_seq ?_
 refine wp_block ?_
 refine r_s (T := [⟨[.old 4], _, [], [], [20]⟩, ⟨[.op 0 0], _, [], [0], [19]⟩]) (F := [.old 0, .old 1, .old 2, .old 3, .op 1 0]) hst hb Zb
   (o_p rfl (Za rfl rfl u_0) <| o_p rfl (Zc rfl rfl u_0) <| o_n) (by kernel_rfl) (fun a g hst hb => ?_)
 refine wp_cond_split (hst.bool 4 rfl) (fun hc3 => ?_) (fun hc3 => ?_)
 · replace H0 := Z0 hc3 H0
   refine r_s (L := [(0, _), (2, _)]) (T := [⟨[], _, [], [], [6]⟩]) (F := [.old 0, .old 1, .op 0 0]) (hst.pick [0, 1] rfl) hb Zb
     (o_p rfl (Zc rfl rfl c_i) <| o_n) (by kernel_rfl) (fun a g hst hb => ?_)
   refine wp_ret ?_
   refine Zw ?_
   refine Zn ?_
   obtain rfl := Option.some.inj H0
   exact Zgu rfl hst hb (Zm (s := 6)) (hst.at 2 rfl) ⟨Zcj (hst.at 0 rfl), Zcj (hst.at 1 rfl), trivial⟩
 · replace H0 := Zz hc3 H0
   refine r_s (L := [(0, _), (2, _), (4, _), (7, _)]) (T := [⟨[.old 0], _, [], [], [22]⟩, ⟨[.op 0 0], _, [], [0], [23]⟩, ⟨[.op 1 0], _, [], [0, 1], [24]⟩, ⟨[.op 2 0], _, [], [0, 1, 2], [25]⟩, ⟨[.op 3 0], _, [], Lr 4, [26]⟩, ⟨[.old 0], _, [], [], [27]⟩, ⟨[.op 5 0], _, [], [5], [28]⟩, ⟨[.op 6 0], _, [], [5, 6], [29]⟩, ⟨[.op 7 0], _, [], [5, 6, 7], [30]⟩, ⟨[.op 4 0, .op 8 0], _, [], Lr 9, [31]⟩, ⟨[.op 9 0], _, [], Lr 10, [21]⟩]) (F := [.old 0, .old 1, .old 2, .old 3, .op 10 0]) (hst.pick [0, 1, 2, 3] rfl) hb Zb
     (o_p rfl (Za rfl rfl u_0) <| o_p rfl (Zo rfl rfl u_0 (fun _ _ ⟨_, _, _, e, _⟩ => ⟨_, e⟩)) <| o_p rfl (Zbc Zdc (off := 7) (by kernel_rfl) rfl rfl u_0) <| o_p rfl (Zcl Zev rfl rfl u_0) <| o_p rfl (Zb3 Tryd.underlying43 rfl rfl u_0) <| o_p rfl (Za rfl rfl u_0) <| o_p rfl (Zo rfl rfl u_0 (fun _ _ ⟨_, _, _, e, _⟩ => ⟨_, e⟩)) <| o_p rfl (Zbc Zhp (off := 5) (by kernel_rfl) rfl rfl u_0) <| o_p rfl (Zcl ty_3 rfl rfl u_0) <| o_p rfl (Zso rfl rfl u_0 u_1) <| o_p rfl (Zc rfl rfl u_0) <| o_n) (by kernel_rfl) (fun a g hst hb => ?_)
   refine wp_cond_split (hst.bool 4 rfl) (fun hc4 => ?_) (fun hc4 => ?_)
   · replace H0 := Z0 hc4 H0
     refine r_s (L := [(0, _), (2, _)]) (T := [⟨[], _, [], [], [6]⟩]) (F := [.old 0, .old 1, .op 0 0]) (hst.pick [0, 1] rfl) hb Zb
       (o_p rfl (Zc rfl rfl c_i) <| o_n) (by kernel_rfl) (fun a g hst hb => ?_)
     refine wp_ret ?_
     refine Zw ?_
     refine Zn ?_
     obtain rfl := Option.some.inj H0
     exact Zgu rfl hst hb (Zm (s := 6)) (hst.at 2 rfl) ⟨Zcj (hst.at 0 rfl), Zcj (hst.at 1 rfl), trivial⟩
   · replace H0 := Zz hc4 H0
     refine wp_skip ?_
     refine Zbt ?_
     refine Zu ?_
     obtain ⟨r5, h6, H0⟩ := Zh H0; obtain ⟨r7, h8, H0⟩ := Zh H0
     refine r_s (L := [(0, _), (2, _), (4, _), (7, _)]) (T := ⟨[.old 0], _, [], [], [32]⟩ :: ⟨[.old 0], _, [], [], [33]⟩ :: ⟨[.op 1 0], _, [], [1], [34]⟩ :: ⟨[.op 2 0], _, [], [1, 2], [35]⟩ :: ⟨[.op 3 0], _, [], [1, 2, 3], [36]⟩ :: ⟨[.op 4 0], _, [38], List.range' 1 4, [37]⟩ :: ⟨[.old 3], _, [], [], [38]⟩ :: ⟨[.old 2], _, [], [], [39]⟩ :: ⟨[.op 7 0], _, [], [7], [40]⟩ :: ⟨[.op 8 0], _, [], [7, 8], [41]⟩ :: ⟨[.op 9 0], _, [], [7, 8, 9], [42]⟩ :: ⟨[.op 5 0, .op 6 0, .op 10 0], _, [38], List.range' 1 10, [37, 43]⟩ :: ⟨[.op 0 0], _, [], Lr 12, [44]⟩ :: ⟨[.op 12 0], _, [], Lr 13, [45]⟩ :: ⟨[.op 11 0, .op 13 0, .old 0], _, [1], Lr 14, [0, 32, 33, 34, 35, 44, 45]⟩ :: []) (F := [.op 14 0, .old 1]) (hst.pick [0, 1, 2, 3] rfl) hb Zb
       (o_p rfl (Za rfl rfl u_0) <| o_p rfl (Za rfl rfl u_0) <| o_p rfl (Zo rfl rfl u_0 (fun _ _ ⟨_, _, _, e, _⟩ => ⟨_, e⟩)) <| o_p rfl (Zbc Zdc (off := 7) (by kernel_rfl) rfl rfl u_0) <| o_p rfl (Zcl Zev rfl rfl u_0) <| o_p rfl (Zmu (j := 37) Zvi (Zem _ h6) rfl rfl (.cons u_0 .nil)) <| o_p rfl (Za rfl rfl u_0) <| o_p rfl (Ze Zi6 rfl rfl u_0) <| o_p rfl (Zf ty_9 rfl rfl u_0) <| o_p rfl (Z44 rfl rfl u_0) <| o_p rfl (Zjl Zd7 (xs := [.tmp 41]) (.cons u_0 .nil) (by decide) rfl rfl) <| o_p rfl (Zoh Z3g (Zgz _ _ _ h8) rfl rfl rfl u_0 (.cons u_1 (.cons u_2 .nil))) <| o_p rfl (Zo rfl rfl u_0 (fun _ _ ⟨_, _, _, e, _⟩ => ⟨_, e⟩)) <| o_p rfl (Zbc Zdc (off := 7) (by kernel_rfl) rfl rfl u_0) <| o_p rfl (Zqa Zev rfl rfl u_2 u_1 u_0) <| o_n) (by kernel_rfl) (fun a g hst hb => ?_)
     refine r_s (T := [⟨[], _, [], [], [6]⟩]) (F := [.old 0, .old 1, .op 0 0]) hst hb Zb
       (o_p rfl (Zc rfl rfl c_i) <| o_n) (by kernel_rfl) (fun a g hst hb => ?_)
     refine wp_ret ?_
     obtain rfl := Option.some.inj H0
     exact Zgu rfl hst hb (Zm (s := 6)) (hst.at 2 rfl) ⟨Zcj (hst.at 0 rfl), Zcj (hst.at 1 rfl), trivial⟩
theorem Zj9 (a0 : List Zj) (a1 a2 : Int) {r : List Zj} (h : Zd8 a0 a1 a2 = some r) : Zve Tryd.prog 82 Zy 97 a0 [(pInt .i64 a1), (pInt .i64 a2)] (Zy.sl.pd r) := by
 unfold Zd8 at h
 obtain ⟨⟨hpos, hi0, hij, hj, hsz⟩, H0⟩ := Zkd h
 obtain rfl := Option.some.inj H0
 obtain ⟨k, rfl⟩ := Int.eq_ofNat_of_zero_le hi0
 obtain ⟨l, rfl⟩ := Int.eq_ofNat_of_zero_le (Int.le_trans hi0 hij)
 have hkl : k ≤ l := by omega
 have hl : l ≤ a0.length := by omega
 simp only [Int.toNat_natCast]
 refine Zvy (N := 33) Tryd.func82 rfl rfl (Nat.le_of_ble_eq_true rfl) rfl (fun hx a g A0 hst hb => ?_) (fun a g cap hcap hmax hst hb => ?_)
 · rw [hx] at hpos; cases hpos
 · refine r_s (T := [⟨[], [(6, (Zy.sl.pd []))], [], [], [6]⟩]) (F := [.old 0, .old 1, .old 2]) hst hb Zb
     (o_p rfl (Zc rfl rfl (Opd.c (fun g => Zkr g))) <| o_n) (by kernel_rfl) (fun a g hst hb => ?_)
   refine r_s (T := [⟨[.old 0], _, [], [], [8]⟩, ⟨[.old 1], _, [], [], [9]⟩, ⟨[.old 2], _, [], [], [10]⟩, ⟨[.old 0], _, [], [], [11]⟩, ⟨[.op 3 0], _, [], [3], [12]⟩, ⟨[.op 0 0, .op 1 0, .op 2 0, .op 4 0], [], [], [0, 1, 2, 3, 4], [13]⟩]) (F := [.old 0, .old 1, .old 2]) hst hb Zb
     (o_p rfl (Za rfl rfl u_0) <| o_p rfl (Za rfl rfl u_0) <| o_p rfl (Za rfl rfl u_0) <| o_p rfl (Za rfl rfl u_0) <| o_p rfl (Zqs Tryd.underlying43 rfl rfl u_0) <| o_p rfl (Z0z Zd7 hkl (by simpa using hl) (Nat.le_refl _) rfl u_0 u_1 u_2 u_3) <| o_n) (by kernel_rfl) (fun a g hst hb => ?_)
   refine wp_seq ?_
   refine r_s (T := [⟨[.old 1], _, [], [], [14]⟩, ⟨[.old 2], _, [], [], [15]⟩, ⟨[.op 0 0, .op 1 0], _, [], [0, 1], [16]⟩]) (F := [.old 0, .old 1, .old 2, .op 2 0]) hst hb Zb
     (o_p rfl (Za rfl rfl u_0) <| o_p rfl (Za rfl rfl u_0) <| o_p rfl (Zbw rfl rfl u_0 u_1) <| o_n) (by kernel_rfl) (fun a g hst hb => ?_)
   refine wp_cond_split (hst.bool 3 rfl) (fun hc => ?_) (fun hc => ?_)
   · refine r_s (L := [(0, _)]) (T := [⟨[.old 0], _, [], [], [17]⟩, ⟨[.op 0 0], _, [], [0], [6]⟩]) (F := [.op 1 0]) (hst.pick [0] rfl) hb Zb
       (o_p rfl (Za rfl rfl u_0) <| o_p rfl (Zc rfl rfl u_0) <| o_n) (by kernel_rfl) (fun a g hst hb => ?_)
     refine wp_ret ?_
     refine Zn ?_
     have hq := hst.at 0 rfl
     have hkl2 := beq_iff_eq.1 hc
     have he : a0.take k ++ a0.drop l = a0 := by rw [show l = k by omega, List.take_append_drop]
     rw [he]
     exact Zn2 rfl hst hb (Zm (s := 6)) hq
   · refine wp_skip ?_
     refine Zu ?_
     refine r_s (L := [(0, _), (1, _), (2, _)]) (T := [⟨[.old 0], _, [], [], [18]⟩, ⟨[.op 0 0], _, [], [0], [19]⟩, ⟨[.op 1 0], _, [], [0, 1], [7]⟩]) (F := [.old 0, .old 1, .old 2, .op 2 0]) (hst.pick [0, 1, 2] rfl) hb Zb
       (o_p rfl (Za rfl rfl u_0) <| o_p rfl (Zqs Tryd.underlying43 rfl rfl u_0) <| o_p rfl (Zc rfl rfl u_0) <| o_n) (by kernel_rfl) (fun a g hst hb => ?_)
     refine r_s (T := [⟨[.old 0], _, [], [], [20]⟩, ⟨[.old 1], _, [], [], [21]⟩, ⟨[.op 0 0, .op 1 0], _, [], [0, 1], [22]⟩, ⟨[.old 0], _, [], [], [23]⟩, ⟨[.old 2], _, [], [], [24]⟩, ⟨[.op 3 0, .op 4 0], _, [], [3, 4], [25]⟩, ⟨[.op 2 0, .op 5 0, .old 0], [(26, (pOwn Zy 97 0 (some cap) ((a0.take k ++ a0.drop l).map some)))], [1], [0, 1, 2, 3, 4, 5], [26, 0, 20, 22, 23, 25]⟩, ⟨[.op 6 0], _, [], [0, 1, 2, 3, 4, 5, 6], [0]⟩]) (F := [.op 7 0, .old 3]) hst hb Zb
       (o_p rfl (Za rfl rfl u_0) <| o_p rfl (Za rfl rfl u_0) <| o_p rfl (Zpq Zd7 (by simp; omega) rfl rfl u_0 u_1) <| o_p rfl (Za rfl rfl u_0) <| o_p rfl (Za rfl rfl u_0) <| o_p rfl (Zgb Zd7 (by simpa using hl) rfl rfl u_0 u_1) <| o_p rfl (Zyy (s := 0) (k := cap) (xs := a0.take k) (ws := a0.drop l) Zd7 (by simp; omega) (by simp; omega) (by simp; omega) (by simp) (Zs6 a0 k) (Zy3 a0 l) rfl rfl u_0 u_1 u_2) <| o_p rfl (Zc rfl rfl u_0) <| o_n) (by kernel_rfl) (fun a g hst hb => ?_)
     have hl2 : ((a0.take k ++ a0.drop l).map some).length = k + (a0.length - l) := by simp; omega
     refine r_s (T := [⟨[.old 0], _, [], [], [27]⟩, ⟨[.old 0], _, [], [], [28]⟩, ⟨[.op 1 0], _, [], [1], [29]⟩, ⟨[.old 1], _, [], [], [30]⟩, ⟨[.op 0 0, .op 2 0, .op 3 0], _, [], [0, 1, 2, 3], [31]⟩, ⟨[.op 4 0, .old 0], _, [1], [0, 1, 2, 3, 4], [0, 27, 28, 31]⟩]) (F := [.op 5 0]) hst hb Zb
       (o_p rfl (Za rfl rfl u_0) <| o_p rfl (Za rfl rfl u_0) <| o_p rfl (Zqs Tryd.underlying43 rfl rfl u_0) <| o_p rfl (Za rfl rfl u_0) <| o_p rfl (Z1i (k := cap) Zd7 (by rw [hl2, List.length_map]; omega) (by rw [List.length_map]; omega) rfl rfl u_0 u_1 u_2) <| o_p rfl (Z0c (s := 0) (k := cap) Zd7 (by kernel_rfl) (Nat.le_refl _) (by rw [hl2, List.length_map]; omega) rfl rfl u_0 u_1) <| o_n) (by kernel_rfl) (fun a g hst hb => ?_)
     refine r_s (T := [⟨[.old 0], _, [], [], [32]⟩, ⟨[.op 0 0], _, [], [0], [6]⟩]) (F := [.op 1 0]) hst hb Zb
       (o_p rfl (Za rfl rfl u_0) <| o_p rfl (Zc rfl rfl u_0) <| o_n) (by kernel_rfl) (fun a g hst hb => ?_)
     refine wp_ret ?_
     exact Zn2 rfl hst hb (Zm (s := 6)) (hst.at 0 rfl)
theorem Zq3 (a0 : Zd) (a1 : Zx) (a2 : Zg) {r : Int × Zd × Zg} (h : Zih a0 a1 a2 = some r) : FnB Tryd.prog 80 [.box Zi a0 r.2.1, .val (Z7.pd a1), .box Zs a2 r.2.2] (pInt .i64 r.1) := by
 have H0 := h
 unfold Zih at H0
 clear h
 refine Zif (N := 32) Tryd.func80 rfl rfl (Nat.le_of_ble_eq_true rfl) rfl rfl (fun a g0 bs hbs hst hb => ?_)
 obtain ⟨b0, b2, rfl⟩ := Zkg hbs
 replace hst : St 32 [(0, (Zbm (some b0) Zi 0 a0)), (1, (Z7.pd a1)), (2, (Zbm (some b2) Zs 2 a2))] _ _ := hst
 refine r_s (T := [⟨[.old 1], _, [], [], [4]⟩, ⟨[], _, [], [], [6]⟩]) (F := [.old 0, .old 2, .op 0 0]) hst hb Zb
   (o_p rfl (Zbl rfl rfl u_0) <| o_p rfl (Zc rfl rfl c_i) <| o_n) (by kernel_rfl) (fun a g hst hb => ?_)
 refine wp_seq ?_
 obtain ⟨r1, h2, H0⟩ := Zh H0
 refine r_s (T := ⟨[.old 0], _, [], [], [10]⟩ :: ⟨[.op 0 0], _, [], [0], [11]⟩ :: ⟨[.op 1 0], _, [], [0, 1], [12]⟩ :: ⟨[.op 2 0], _, [], [0, 1, 2], [13]⟩ :: ⟨[.old 2], _, [], [], [14]⟩ :: ⟨[.op 4 0], _, [], [4], [15]⟩ :: ⟨[.op 3 0, .op 5 0], _, [], Lr 6, [16]⟩ :: ⟨[.op 6 0], _, [], Lr 7, [9]⟩ :: ⟨[.op 7 0], _, [], Lr 8, [17]⟩ :: ⟨[.op 7 0], _, [], Lr 8, [18]⟩ :: ⟨[.op 8 0], _, [], Lr 9, [7]⟩ :: ⟨[.op 9 0], _, [], Lr 11, [8]⟩ :: []) (F := [.old 0, .old 1, .op 10 0, .op 11 0]) hst hb Zb
   (o_p rfl (Za rfl rfl u_0) <| o_p rfl (Zo rfl rfl u_0 (fun _ _ ⟨_, _, _, e, _⟩ => ⟨_, e⟩)) <| o_p rfl (Zbc Zdc (off := 7) (by kernel_rfl) rfl rfl u_0) <| o_p rfl (Zcl Zev rfl rfl u_0) <| o_p rfl (Ze Zi6 rfl rfl u_0) <| o_p rfl (Zf ty_9 rfl rfl u_0) <| o_p rfl (Zp Zy9 (Zm2 _ _ h2) rfl rfl (.cons u_0 (.cons u_1 .nil))) <| o_p rfl (Za rfl rfl u_0) <| o_p rfl (Z4 rfl rfl u_0 rfl) <| o_p rfl (Z4 rfl rfl u_0 rfl) <| o_p rfl (Zc rfl rfl u_0) <| o_p rfl (Zc rfl rfl u_0) <| o_n) (by kernel_rfl) (fun a g hst hb => ?_)
 refine r_s (T := [⟨[.old 3], _, [], [], [19]⟩]) (F := [.old 0, .old 1, .old 2, .op 0 0]) hst hb Zb
   (o_p rfl (Za rfl rfl u_0) <| o_n) (by kernel_rfl) (fun a g hst hb => ?_)
 refine Zc0 (fun a w => ∃ (j8 : Zd) (g : G), w = g.w ∧ St 32 [(0, (Zbm (some b0) Zi 0 j8)), (2, (Zbm (some b2) Zs 2 a2))] a g ∧ Base g0 g ∧ Zid a2 j8 = some r) ?_ ?_
 · rintro a w ⟨j8, g, rfl, hst, hb, H0⟩
   unfold Zid at H0
   refine Zu ?_
   refine r_s (T := [⟨[], _, [], [], [6]⟩]) (F := [.old 0, .old 1, .op 0 0]) hst hb Zb
     (o_p rfl (Zc rfl rfl c_i) <| o_n) (by kernel_rfl) (fun a g hst hb => ?_)
   refine wp_ret ?_
   obtain rfl := Option.some.inj H0
   exact Zgu rfl hst hb (Zm (s := 6)) (hst.at 2 rfl) ⟨Zcj (hst.at 0 rfl), Zcj (hst.at 1 rfl), trivial⟩
 · refine wp_cond_split (hst.bool 3 rfl) (fun hc3 => ?_) (fun hc3 => ?_)
   · replace H0 := Z0 hc3 H0
     obtain ⟨r4, h5, H0⟩ := Zh H0; obtain ⟨r6, h7, H0⟩ := Zh H0
     refine r_g (L := [(0, _), (2, _), (7, _)]) (T := ⟨[.old 0], _, [], [], [20]⟩ :: ⟨[.old 0], _, [], [], [21]⟩ :: ⟨[.op 1 0], _, [], [1], [22]⟩ :: ⟨[.op 2 0], _, [], [1, 2], [23]⟩ :: ⟨[.op 3 0], _, [], [1, 2, 3], [24]⟩ :: ⟨[.op 4 0], _, [26], List.range' 1 4, [25]⟩ :: ⟨[.old 2], _, [], [], [26]⟩ :: ⟨[.old 2], _, [], [], [27]⟩ :: ⟨[.op 7 0], _, [], [7], [28]⟩ :: ⟨[.op 5 0, .op 6 0, .op 8 0], _, [26], List.range' 1 8, [25, 29]⟩ :: ⟨[.op 0 0], _, [], Lr 10, [30]⟩ :: ⟨[.op 10 0], _, [], Lr 11, [31]⟩ :: ⟨[.op 9 0, .op 11 0, .old 0], _, [1], Lr 12, [0, 20, 21, 22, 23, 30, 31]⟩ :: []) (F := [.op 12 0, .old 1]) (hst.pick [0, 1, 2] rfl) hb Zb
       (o_p rfl (Za rfl rfl u_0) <| o_p rfl (Za rfl rfl u_0) <| o_p rfl (Zo rfl rfl u_0 (fun _ _ ⟨_, _, _, e, _⟩ => ⟨_, e⟩)) <| o_p rfl (Zbc Zdc (off := 7) (by kernel_rfl) rfl rfl u_0) <| o_p rfl (Zcl Zev rfl rfl u_0) <| o_p rfl (Zmu (j := 25) Zvi (Zem _ h5) rfl rfl (.cons u_0 .nil)) <| o_p rfl (Za rfl rfl u_0) <| o_p rfl (Za rfl rfl u_0) <| o_p rfl (Zce rfl rfl u_0 c_i rfl) <| o_p rfl (Zoh Z7h (Zj9 _ _ _ h7) rfl rfl rfl u_0 (.cons u_1 (.cons u_2 .nil))) <| o_p rfl (Zo rfl rfl u_0 (fun _ _ ⟨_, _, _, e, _⟩ => ⟨_, e⟩)) <| o_p rfl (Zbc Zdc (off := 7) (by kernel_rfl) rfl rfl u_0) <| o_p rfl (Zqa Zev rfl rfl u_2 u_1 u_0) <| o_n) (by kernel_rfl) (fun a g hst hb => ?_)
     exact ⟨({ a0 with List := r6 }), g, rfl, (hst.pick [0, 1] rfl), hb, H0⟩
   · replace H0 := Zz hc3 H0
     refine wp_skip ?_
     exact ⟨a0, g, rfl, (hst.pick [0, 1] rfl), hb, H0⟩
theorem Zqv (a0 : Zd) (a1 : Zx) (a2 : Zg) {r : Int × Zd × Zg} (h : Zet a0 a1 a2 = some r) : FnB Tryd.prog 83 [.box Zi a0 r.2.1, .val (Z7.pd a1), .box Zs a2 r.2.2] (pInt .i64 r.1) := by
 have H0 := h
 unfold Zet at H0
 clear h
 refine Zif (N := 21) Tryd.func83 rfl rfl (Nat.le_of_ble_eq_true rfl) rfl rfl (fun a g0 bs hbs hst hb => ?_)
 obtain ⟨b0, b2, rfl⟩ := Zkg hbs
 replace hst : St 21 [(0, (Zbm (some b0) Zi 0 a0)), (1, (Z7.pd a1)), (2, (Zbm (some b2) Zs 2 a2))] _ _ := hst
 refine r_s (T := [⟨[.old 1], _, [], [], [4]⟩, ⟨[], _, [], [], [6]⟩]) (F := [.old 0, .old 2, .op 0 0]) hst hb Zb
   (o_p rfl (Zbl rfl rfl u_0) <| o_p rfl (Zc rfl rfl c_i) <| o_n) (by kernel_rfl) (fun a g hst hb => ?_)
 refine wp_seq ?_
 obtain ⟨r1, h2, H0⟩ := Zh H0
 refine r_s (T := ⟨[.old 0], _, [], [], [10]⟩ :: ⟨[.op 0 0], _, [], [0], [11]⟩ :: ⟨[.op 1 0], _, [], [0, 1], [12]⟩ :: ⟨[.op 2 0], _, [], [0, 1, 2], [13]⟩ :: ⟨[.old 2], _, [], [], [14]⟩ :: ⟨[.op 4 0], _, [], [4], [15]⟩ :: ⟨[.op 3 0, .op 5 0], _, [], Lr 6, [16]⟩ :: ⟨[.op 6 0], _, [], Lr 7, [9]⟩ :: ⟨[.op 7 0], _, [], Lr 8, [17]⟩ :: ⟨[.op 7 0], _, [], Lr 8, [18]⟩ :: ⟨[.op 8 0], _, [], Lr 9, [7]⟩ :: ⟨[.op 9 0], _, [], Lr 11, [8]⟩ :: []) (F := [.old 0, .old 1, .op 11 0]) hst hb Zb
   (o_p rfl (Za rfl rfl u_0) <| o_p rfl (Zo rfl rfl u_0 (fun _ _ ⟨_, _, _, e, _⟩ => ⟨_, e⟩)) <| o_p rfl (Zbc Zdc (off := 7) (by kernel_rfl) rfl rfl u_0) <| o_p rfl (Zcl Zev rfl rfl u_0) <| o_p rfl (Ze Zi6 rfl rfl u_0) <| o_p rfl (Zf ty_9 rfl rfl u_0) <| o_p rfl (Zp Zy9 (Zm2 _ _ h2) rfl rfl (.cons u_0 (.cons u_1 .nil))) <| o_p rfl (Za rfl rfl u_0) <| o_p rfl (Z4 rfl rfl u_0 rfl) <| o_p rfl (Z4 rfl rfl u_0 rfl) <| o_p rfl (Zc rfl rfl u_0) <| o_p rfl (Zc rfl rfl u_0) <| o_n) (by kernel_rfl) (fun a g hst hb => ?_)
 refine r_s (T := [⟨[.old 2], _, [], [], [19]⟩, ⟨[.op 0 0], _, [], [0], [20]⟩]) (F := [.old 0, .old 1, .op 1 0]) hst hb Zb
   (o_p rfl (Za rfl rfl u_0) <| o_p rfl (Zcn rfl rfl u_0) <| o_n) (by kernel_rfl) (fun a g hst hb => ?_)
 refine wp_cond_split (hst.bool 2 rfl) (fun hc3 => ?_) (fun hc3 => ?_)
 · replace H0 := Z0 hc3 H0
   refine r_s (L := [(0, _), (2, _)]) (T := [⟨[], _, [], [], [6]⟩]) (F := [.old 0, .old 1, .op 0 0]) (hst.pick [0, 1] rfl) hb Zb
     (o_p rfl (Zc rfl rfl c_i) <| o_n) (by kernel_rfl) (fun a g hst hb => ?_)
   refine wp_ret ?_
   refine Zn ?_
   obtain rfl := Option.some.inj H0
   exact Zgu rfl hst hb (Zm (s := 6)) (hst.at 2 rfl) ⟨Zcj (hst.at 0 rfl), Zcj (hst.at 1 rfl), trivial⟩
 · replace H0 := Zz hc3 H0
   refine wp_skip ?_
   refine Zu ?_
   refine r_s (L := [(0, _), (2, _)]) (T := [⟨[], _, [], [], [6]⟩]) (F := [.old 0, .old 1, .op 0 0]) (hst.pick [0, 1] rfl) hb Zb
     (o_p rfl (Zc rfl rfl c_i) <| o_n) (by kernel_rfl) (fun a g hst hb => ?_)
   refine wp_ret ?_
   obtain rfl := Option.some.inj H0
   exact Zgu rfl hst hb (Zm (s := 6)) (hst.at 2 rfl) ⟨Zcj (hst.at 0 rfl), Zcj (hst.at 1 rfl), trivial⟩
theorem Zuq (a0 : Zd) (a1 : Zx) (a2 : Zg) {r : Int × Zd × Zg} (h : Zit a0 a1 a2 = some r) : FnB Tryd.prog 84 [.box Zi a0 r.2.1, .val (Z7.pd a1), .box Zs a2 r.2.2] (pInt .i64 r.1) := by
 have H0 := h
 unfold Zit at H0
 clear h
 refine Zif (N := 75) Tryd.func84 rfl rfl (Nat.le_of_ble_eq_true rfl) rfl rfl (fun a g0 bs hbs hst hb => ?_)
 obtain ⟨b0, b2, rfl⟩ := Zkg hbs
 replace hst : St 75 [(0, (Zbm (some b0) Zi 0 a0)), (1, (Z7.pd a1)), (2, (Zbm (some b2) Zs 2 a2))] _ _ := hst
 refine r_s (T := [⟨[.old 1], _, [], [], [4]⟩, ⟨[], _, [], [], [6]⟩]) (F := [.old 0, .old 2, .op 0 0]) hst hb Zb
   (o_p rfl (Zbl rfl rfl u_0) <| o_p rfl (Zc rfl rfl c_i) <| o_n) (by kernel_rfl) (fun a g hst hb => ?_)
 refine r_s (T := [⟨[.old 2], _, [], [], [10]⟩, ⟨[.op 0 0], _, [], [0], [11]⟩, ⟨[.old 2], _, [], [], [12]⟩, ⟨[.op 2 0], _, [], [2], [13]⟩, ⟨[.op 1 0, .op 3 0], _, [], Lr 4, [14]⟩, ⟨[], [(7, (pBox Zy 7 (default : Zj)))], [8], [], [7]⟩, ⟨[.op 4 0, .op 5 0], _, [8], Lr 6, [7]⟩]) (F := [.old 0, .old 1, .op 6 0]) hst hb Zb
   (o_p rfl (Ze Zqr rfl rfl u_0) <| o_p rfl (Zf Ze4 rfl rfl u_0) <| o_p rfl (Ze Zi6 rfl rfl u_0) <| o_p rfl (Zf ty_9 rfl rfl u_0) <| o_p rfl (Z1m rfl rfl u_0 u_1) <| o_p rfl (Zbb (zs := [.float .f64 0, .string ByteArray.empty]) (by kernel_rfl) (fun g => Zi8 g) rfl rfl) <| o_p rfl (Zby Zfk rfl rfl u_1 u_0) <| o_n) (by kernel_rfl) (fun a g hst hb => ?_)
 refine r_s (T := [⟨[], _, [], [], [8]⟩]) (F := [.old 0, .old 1, .old 2, .op 0 0]) hst hb Zb
   (o_p rfl (Zc rfl rfl c_i) <| o_n) (by kernel_rfl) (fun a g hst hb => ?_)
 obtain ⟨z8, hz1, H0⟩ := Zh H0
 refine wp_seq ?_
 refine Zc0 (fun a w => ∃ (y7 : Int) (g : G), w = g.w ∧ St 75 [(0, (Zbm (some b0) Zi 0 a0)), (2, (Zbm (some b2) Zs 2 a2)), (7, (Zy.ptr ({ Score := a1.X, Name := a1.S } : Zj))), (8, (pInt .i64 y7))] a g ∧ Base g0 g ∧ y7 = z8) ?_ ?_
 · rintro a w ⟨y7, g, rfl, hst, hb, rfl⟩
   refine Zu ?_
   refine wp_seq ?_
   obtain ⟨e9, h10, H0⟩ := Zh H0; obtain ⟨r11, h12, H0⟩ := Zh H0
   refine r_s (T := ⟨[.old 3], _, [], [], [35]⟩ :: ⟨[.old 0], _, [], [], [36]⟩ :: ⟨[.op 1 0], _, [], [1], [37]⟩ :: ⟨[.op 2 0], _, [], [1, 2], [38]⟩ :: ⟨[.op 3 0], _, [], [1, 2, 3], [39]⟩ :: ⟨[.op 4 0], _, [], List.range' 1 4, [40]⟩ :: ⟨[.op 0 0, .op 5 0], _, [], Lr 6, [41]⟩ :: ⟨[.op 6 0], _, [], Lr 7, [42]⟩ :: ⟨[.op 7 0, .old 2], _, [], Lr 8, [43]⟩ :: ⟨[.op 7 0, .old 0], _, [], Lr 8, [44]⟩ :: ⟨[.op 7 0, .op 9 0], _, [], [0, 1, 2, 3, 4, 5, 6, 7, 9], [45]⟩ :: ⟨[.op 7 0, .op 10 0], _, [], [0, 1, 2, 3, 4, 5, 6, 7, 9, 10], [46]⟩ :: ⟨[.op 7 0, .op 11 0], _, [], [0, 1, 2, 3, 4, 5, 6, 7, 9, 10, 11], [47]⟩ :: ⟨[.op 7 0, .old 3], _, [], Lr 8, [48]⟩ :: ⟨[.op 7 0, .op 12 0, .op 13 0], _, [], 0 :: 1 :: 2 :: 3 :: 4 :: 5 :: 6 :: 7 :: 9 :: 10 :: 11 :: 12 :: 13 :: [], [49]⟩ :: ⟨[.op 7 0, .op 14 0], _, [], 0 :: 1 :: 2 :: 3 :: 4 :: 5 :: 6 :: 7 :: 9 :: 10 :: 11 :: 12 :: 13 :: 14 :: [], [50]⟩ :: ⟨[.op 7 0, .op 8 0, .op 15 0], _, [], Lr 16, [51]⟩ :: ⟨[.op 7 0, .op 16 0], _, [], Lr 17, [52]⟩ :: ⟨[.op 7 0, .op 17 0], _, [], Lr 18, [53]⟩ :: []) (F := [.old 0, .old 1, .old 2, .old 3, .op 18 0]) hst hb Zb
     (o_p rfl (Za rfl rfl u_0) <| o_p rfl (Za rfl rfl u_0) <| o_p rfl (Zo rfl rfl u_0 (fun _ _ ⟨_, _, _, e, _⟩ => ⟨_, e⟩)) <| o_p rfl (Zbc Zdc (off := 7) (by kernel_rfl) rfl rfl u_0) <| o_p rfl (Zcl Zev rfl rfl u_0) <| o_p rfl (Zb3 Tryd.underlying43 rfl rfl u_0) <| o_p rfl (Zc2 rfl rfl u_0 u_1) <| o_p rfl (Za rfl rfl u_0) <| o_g (g_t rfl rfl rfl (fun hG => Zf Zfk rfl rfl u_0)) <| o_g (g_t rfl rfl rfl (fun hG => Za rfl rfl u_0)) <| o_g (g_t rfl rfl rfl (fun hG => Zo rfl rfl (Opd.gd hG u_0) (fun _ _ ⟨_, _, _, e, _⟩ => ⟨_, e⟩))) <| o_g (g_t rfl rfl rfl (fun hG => Zbc Zdc (off := 7) (by kernel_rfl) rfl rfl (Opd.gd hG u_0))) <| o_g (g_t rfl rfl rfl (fun hG => Zcl Zev rfl rfl (Opd.gd hG u_0))) <| o_g (g_t rfl rfl rfl (fun hG => Za rfl rfl u_0)) <| o_g (g_t rfl rfl rfl (fun hG => Zbv Tryd.underlying43 Zjc rfl rfl (Opd.gd hG u_0) (Opd.gd hG u_1) (Zbq h10 hG))) <| o_g (g_t rfl rfl rfl (fun hG => Zf Zfk rfl rfl (Opd.gd hG u_0))) <| o_g (g_t rfl rfl rfl (fun hG => Zp Zzb (Zmb _ _ (Zbq h12 hG)) rfl rfl (.cons (Opd.gd hG u_0) (.cons (Opd.gd hG u_1) .nil)))) <| o_g (g_t rfl rfl rfl (fun hG => Zcn rfl rfl (Opd.gd hG u_0))) <| o_p rfl (Zbj rfl rfl u_0 (fun hz => (Opd.gd hz u_1))) <| o_n) (by kernel_rfl) (fun a g hst hb => ?_)
   refine wp_cond_split (hst.bool 4 rfl) (fun hc13 => ?_) (fun hc13 => ?_)
   · replace H0 := Z0 hc13 H0
     refine r_s (L := [(0, _), (2, _)]) (T := [⟨[], _, [], [], [6]⟩]) (F := [.old 0, .old 1, .op 0 0]) (hst.pick [0, 1] rfl) hb Zb
       (o_p rfl (Zc rfl rfl c_i) <| o_n) (by kernel_rfl) (fun a g hst hb => ?_)
     refine wp_ret ?_
     refine Zn ?_
     obtain rfl := Option.some.inj H0
     exact Zgu rfl hst hb (Zm (s := 6)) (hst.at 2 rfl) ⟨Zcj (hst.at 0 rfl), Zcj (hst.at 1 rfl), trivial⟩
   · replace H0 := Zz hc13 H0
     refine wp_skip ?_
     refine Zu ?_
     obtain ⟨r14, h15, H0⟩ := Zh H0; obtain ⟨r16, h17, H0⟩ := Zh H0
     refine r_s (L := [(0, _), (2, _), (7, _), (8, _)]) (T := [⟨[.old 0], _, [], [], [54]⟩, ⟨[.op 0 0], _, [], [0], [55]⟩, ⟨[.op 1 0], _, [], [0, 1], [56]⟩, ⟨[.op 2 0], _, [], [0, 1, 2], [57]⟩, ⟨[.op 3 0], _, [59], Lr 4, [58]⟩, ⟨[.old 3], _, [], [], [59]⟩, ⟨[.old 2], _, [], [], [60]⟩, ⟨[.op 6 0], _, [], [6], [61]⟩, ⟨[.op 4 0, .op 5 0, .op 7 0], _, [59], Lr 8, [58, 62]⟩, ⟨[.op 8 0], _, [], Lr 9, [9]⟩]) (F := [.old 0, .old 1, .op 9 0]) (hst.pick [0, 1, 2, 3] rfl) hb Zb
       (o_p rfl (Za rfl rfl u_0) <| o_p rfl (Zo rfl rfl u_0 (fun _ _ ⟨_, _, _, e, _⟩ => ⟨_, e⟩)) <| o_p rfl (Zbc Zdc (off := 7) (by kernel_rfl) rfl rfl u_0) <| o_p rfl (Zcl Zev rfl rfl u_0) <| o_p rfl (Zmu (j := 58) Zvi (Zem _ h15) rfl rfl (.cons u_0 .nil)) <| o_p rfl (Za rfl rfl u_0) <| o_p rfl (Zf Zfk rfl rfl u_0) <| o_p rfl (Zjl Zd7 (xs := [.tmp 60]) (.cons u_0 .nil) (by decide) rfl rfl) <| o_p rfl (Zoh Z3g (Zgz _ _ _ h17) rfl rfl rfl u_0 (.cons u_1 (.cons u_2 .nil))) <| o_p rfl (Zc rfl rfl u_0) <| o_n) (by kernel_rfl) (fun a g hst hb => ?_)
     obtain ⟨c18, h19, H0⟩ := Zh H0
     refine r_s (T := ⟨[.old 0], _, [], [], [63]⟩ :: ⟨[.old 2], _, [], [], [64]⟩ :: ⟨[.old 2], _, [], [], [65]⟩ :: ⟨[.op 2 0], _, [], [2], [66]⟩ :: ⟨[.old 0], _, [], [], [67]⟩ :: ⟨[.op 4 0], _, [], [4], [68]⟩ :: ⟨[.op 5 0], _, [], [4, 5], [69]⟩ :: ⟨[.op 6 0], _, [], [4, 5, 6], [70]⟩ :: ⟨[.op 3 0, .op 7 0], _, [], List.range' 2 6, [71]⟩ :: ⟨[.op 1 0, .op 8 0], _, [], List.range' 1 8, [72]⟩ :: ⟨[.op 0 0], _, [], Lr 10, [73]⟩ :: ⟨[.op 10 0], _, [], Lr 11, [74]⟩ :: ⟨[.op 9 0, .op 11 0, .old 0], _, [1], Lr 12, [0, 63, 67, 68, 69, 73, 74]⟩ :: []) (F := [.op 12 0, .old 1]) hst hb Zb
       (o_p rfl (Za rfl rfl u_0) <| o_p rfl (Za rfl rfl u_0) <| o_p rfl (Za rfl rfl u_0) <| o_p rfl (Zb3 Tryd.underlying43 rfl rfl u_0) <| o_p rfl (Za rfl rfl u_0) <| o_p rfl (Zo rfl rfl u_0 (fun _ _ ⟨_, _, _, e, _⟩ => ⟨_, e⟩)) <| o_p rfl (Zbc Zhp (off := 5) (by kernel_rfl) rfl rfl u_0) <| o_p rfl (Zcl ty_3 rfl rfl u_0) <| o_p rfl (Z53 rfl rfl u_0 u_1) <| o_p rfl (Zx6 Tryd.underlying43 Zjc rfl rfl u_0 u_1 h19) <| o_p rfl (Zo rfl rfl u_0 (fun _ _ ⟨_, _, _, e, _⟩ => ⟨_, e⟩)) <| o_p rfl (Zbc Zdc (off := 7) (by kernel_rfl) rfl rfl u_0) <| o_p rfl (Zqa Zev rfl rfl u_2 u_1 u_0) <| o_n) (by kernel_rfl) (fun a g hst hb => ?_)
     refine r_s (T := [⟨[], _, [], [], [6]⟩]) (F := [.old 0, .old 1, .op 0 0]) hst hb Zb
       (o_p rfl (Zc rfl rfl c_i) <| o_n) (by kernel_rfl) (fun a g hst hb => ?_)
     refine wp_ret ?_
     obtain rfl := Option.some.inj H0
     exact Zgu rfl hst hb (Zm (s := 6)) (hst.at 2 rfl) ⟨Zcj (hst.at 0 rfl), Zcj (hst.at 1 rfl), trivial⟩
 · refine wp_block ?_
   refine wp_loop_ghost (fun n a w => ∃ (x1 : Int) (g : G), w = g.w ∧ St 75 [(0, (Zbm (some b0) Zi 0 a0)), (2, (Zbm (some b2) Zs 2 a2)), (7, (Zy.ptr ({ Score := a1.X, Name := a1.S } : Zj))), (8, (pInt .i64 x1))] a g ∧ Base g0 g ∧ Zfa a0 a1 n x1 = some z8) (Int.toNat ((a0.List.length : Int) - (0 : Int)) + 1) ⟨(0 : Int), g, rfl, (hst.pick [0, 1, 2, 3] rfl), hb, hz1⟩ (fun n a w hI => ?_)
   obtain ⟨x1, g, rfl, hst, hb, H1⟩ := hI
   cases n with
   | zero => exact absurd H1 (by simp [Zfa])
   | succ n =>
     rw [Zfa] at H1
     refine wp_seq ?_
     obtain ⟨e2, h3, H1⟩ := Zh H1; obtain ⟨r4, h5, H1⟩ := Zh H1
     refine r_s (T := ⟨[.old 3], _, [], [], [15]⟩ :: ⟨[.old 0], _, [], [], [16]⟩ :: ⟨[.op 1 0], _, [], [1], [17]⟩ :: ⟨[.op 2 0], _, [], [1, 2], [18]⟩ :: ⟨[.op 3 0], _, [], [1, 2, 3], [19]⟩ :: ⟨[.op 4 0], _, [], List.range' 1 4, [20]⟩ :: ⟨[.op 0 0, .op 5 0], _, [], Lr 6, [21]⟩ :: ⟨[.op 6 0], _, [], Lr 7, [22]⟩ :: ⟨[.op 7 0, .old 0], _, [], Lr 8, [23]⟩ :: ⟨[.op 7 0, .op 8 0], _, [], Lr 9, [24]⟩ :: ⟨[.op 7 0, .op 9 0], _, [], Lr 10, [25]⟩ :: ⟨[.op 7 0, .op 10 0], _, [], Lr 11, [26]⟩ :: ⟨[.op 7 0, .old 3], _, [], Lr 8, [27]⟩ :: ⟨[.op 7 0, .op 11 0, .op 12 0], _, [], Lr 13, [28]⟩ :: ⟨[.op 7 0, .op 13 0], _, [], Lr 14, [29]⟩ :: ⟨[.op 7 0, .old 2], _, [], Lr 8, [30]⟩ :: ⟨[.op 7 0, .op 14 0, .op 15 0], _, [], Lr 16, [31]⟩ :: ⟨[.op 7 0, .op 16 0], _, [], Lr 17, [32]⟩ :: []) (F := [.old 0, .old 1, .old 2, .old 3, .op 17 0]) hst hb Zb
       (o_p rfl (Za rfl rfl u_0) <| o_p rfl (Za rfl rfl u_0) <| o_p rfl (Zo rfl rfl u_0 (fun _ _ ⟨_, _, _, e, _⟩ => ⟨_, e⟩)) <| o_p rfl (Zbc Zdc (off := 7) (by kernel_rfl) rfl rfl u_0) <| o_p rfl (Zcl Zev rfl rfl u_0) <| o_p rfl (Zb3 Tryd.underlying43 rfl rfl u_0) <| o_p rfl (Zc2 rfl rfl u_0 u_1) <| o_p rfl (Za rfl rfl u_0) <| o_g (g_t rfl rfl rfl (fun hG => Za rfl rfl u_0)) <| o_g (g_t rfl rfl rfl (fun hG => Zo rfl rfl (Opd.gd hG u_0) (fun _ _ ⟨_, _, _, e, _⟩ => ⟨_, e⟩))) <| o_g (g_t rfl rfl rfl (fun hG => Zbc Zdc (off := 7) (by kernel_rfl) rfl rfl (Opd.gd hG u_0))) <| o_g (g_t rfl rfl rfl (fun hG => Zcl Zev rfl rfl (Opd.gd hG u_0))) <| o_g (g_t rfl rfl rfl (fun hG => Za rfl rfl u_0)) <| o_g (g_t rfl rfl rfl (fun hG => Zbv Tryd.underlying43 Zjc rfl rfl (Opd.gd hG u_0) (Opd.gd hG u_1) (Zbq h3 hG))) <| o_g (g_t rfl rfl rfl (fun hG => Zf Zfk rfl rfl (Opd.gd hG u_0))) <| o_g (g_t rfl rfl rfl (fun hG => Zf Zfk rfl rfl u_0)) <| o_g (g_t rfl rfl rfl (fun hG => Zp Zzb (Zmb _ _ (Zbq h5 hG)) rfl rfl (.cons (Opd.gd hG u_0) (.cons (Opd.gd hG u_1) .nil)))) <| o_p rfl (Zbj rfl rfl u_0 (fun hz => (Opd.gd hz u_1))) <| o_n) (by kernel_rfl) (fun a g hst hb => ?_)
     refine wp_cond_split (hst.bool 4 rfl) (fun hc6 => ?_) (fun hc6 => ?_)
     · replace H1 := Z0 hc6 H1
       refine wp_skip ?_
       refine Zu ?_
       refine wp_block ?_
       refine r_g (L := [(0, _), (2, _), (7, _), (8, _)]) (T := [⟨[.old 3], _, [], [], [33]⟩, ⟨[.op 0 0], _, [], [0], [34]⟩, ⟨[.op 1 0], _, [], [0, 1], [8]⟩]) (F := [.old 0, .old 1, .old 2, .op 2 0]) (hst.pick [0, 1, 2, 3] rfl) hb Zb
         (o_p rfl (Za rfl rfl u_0) <| o_p rfl (Zce rfl rfl u_0 c_i rfl) <| o_p rfl (Zc rfl rfl u_0) <| o_n) (by kernel_rfl) (fun a g hst hb => ?_)
       refine Zbt ?_
       exact ⟨n, Nat.lt_succ_self _, (IntKind.i64.wrap (x1 + (1 : Int))), g, rfl, (hst.pick [0, 1, 2, 3] rfl), hb, H1⟩
     · replace H1 := Zz hc6 H1
       refine wp_exit ?_
       refine Zca ?_
       refine Zca ?_
       refine Zcz ?_
       exact ⟨x1, g, rfl, (hst.pick [0, 1, 2, 3] rfl), hb, Option.some.inj H1⟩
def Phi (k : Int) (f : FuncId) (C : List Pd) : Prop := ∀ (x0 x1 : Zd) (a : Zx) (y0 y1 : Zg) (c : Int), Z8 k x0 a y0 = some (c, x1, y1) → FnB Tryd.prog f ([.box Zi x0 x1, .val (Z7.pd a), .box Zs y0 y1] ++ C.map .val) (pInt .i64 c)
theorem Z4o {k : Int} {x0 : Zd} {a : Zx} {y0 : Zg} {r : Int × Zd × Zg} (h : Z8 k x0 a y0 = some r) : ∀ f C, Phi k f C → FnB Tryd.prog f ([.box Zi x0 r.2.1, .val (Z7.pd a), .box Zs y0 r.2.2] ++ C.map .val) (pInt .i64 r.1) := fun f C hΦ => hΦ _ _ _ _ _ _ h
def tabT : TabT := fun k => if 5 ≤ k ∧ k ≤ 21 then some (Phi k) else none
theorem Z5q {i : Int} (h : 5 ≤ i ∧ i ≤ 21) : tabT i.toNat = some (Phi i) := by
 unfold tabT
 rw [if_pos (by omega), show ((i.toNat : Nat) : Int) = i by omega]
theorem Z7g : Phi 5 66 [] := fun x0 x1 a y0 y1 c h => Zqu x0 a y0 (r := (c, x1, y1)) (by simpa [Z8] using h)
theorem Z6z : Phi 6 67 [] := fun x0 x1 a y0 y1 c h => Zqw x0 a y0 (r := (c, x1, y1)) (by simpa [Z8] using h)
theorem Z8p : Phi 7 68 [] := fun x0 x1 a y0 y1 c h => Zqx x0 a y0 (r := (c, x1, y1)) (by simpa [Z8] using h)
theorem Z8m : Phi 8 69 [] := fun x0 x1 a y0 y1 c h => Zvt x0 a y0 (r := (c, x1, y1)) (by simpa [Z8] using h)
theorem Z7w : Phi 9 70 [] := fun x0 x1 a y0 y1 c h => Zno x0 a y0 (r := (c, x1, y1)) (by simpa [Z8] using h)
theorem Z6o : Phi 10 71 [] := fun x0 x1 a y0 y1 c h => Zqt x0 a y0 (r := (c, x1, y1)) (by simpa [Z8] using h)
theorem Z6d : Phi 11 72 [] := fun x0 x1 a y0 y1 c h => Zq1 x0 a y0 (r := (c, x1, y1)) (by simpa [Z8] using h)
theorem Z58 : Phi 12 70 [] := fun x0 x1 a y0 y1 c h => Zno x0 a y0 (r := (c, x1, y1)) (by simpa [Z8] using h)
theorem Z5v : Phi 13 92 [(Kd.fnc.ptr 74)] := fun x0 x1 a y0 y1 c h => by
 have h' : Zd3 (fun x y => Zjz x y) x0 a y0 = some (c, x1, y1) := by simpa [Z8] using h
 obtain ⟨z, hz, h2⟩ := Zh h'
 injection h2 with h2
 simp only [Prod.mk.injEq] at h2
 obtain ⟨rfl, rfl, rfl⟩ := h2
 exact Zik 74 Z7m (fun x y => Zjz x y) (fun x y z h => Zyx x y h) x0 a y0 hz
theorem Z6u : Phi 14 92 [(Kd.fnc.ptr 75)] := fun x0 x1 a y0 y1 c h => by
 have h' : Zd3 (fun x y => Zj4 x y) x0 a y0 = some (c, x1, y1) := by simpa [Z8] using h
 obtain ⟨z, hz, h2⟩ := Zh h'
 injection h2 with h2
 simp only [Prod.mk.injEq] at h2
 obtain ⟨rfl, rfl, rfl⟩ := h2
 exact Zik 75 Z7j (fun x y => Zj4 x y) (fun x y z h => Zyz x y h) x0 a y0 hz
theorem Z6k : Phi 15 92 [(Kd.fnc.ptr 76)] := fun x0 x1 a y0 y1 c h => by
 have h' : Zd3 (fun x y => Zhh x y) x0 a y0 = some (c, x1, y1) := by simpa [Z8] using h
 obtain ⟨z, hz, h2⟩ := Zh h'
 injection h2 with h2
 simp only [Prod.mk.injEq] at h2
 obtain ⟨rfl, rfl, rfl⟩ := h2
 exact Zik 76 Z8o (fun x y => Zhh x y) (fun x y z h => Zw2 x y h) x0 a y0 hz
theorem Z6i : Phi 16 92 [(Kd.fnc.ptr 77)] := fun x0 x1 a y0 y1 c h => by
 have h' : Zd3 (fun x y => Zgk x y) x0 a y0 = some (c, x1, y1) := by simpa [Z8] using h
 obtain ⟨z, hz, h2⟩ := Zh h'
 injection h2 with h2
 simp only [Prod.mk.injEq] at h2
 obtain ⟨rfl, rfl, rfl⟩ := h2
 exact Zik 77 Z75 (fun x y => Zgk x y) (fun x y z h => Zwp x y h) x0 a y0 hz
theorem Z6l : Phi 17 92 [(Kd.fnc.ptr 78)] := fun x0 x1 a y0 y1 c h => by
 have h' : Zd3 (fun x y => Zf8 x y) x0 a y0 = some (c, x1, y1) := by simpa [Z8] using h
 obtain ⟨z, hz, h2⟩ := Zh h'
 injection h2 with h2
 simp only [Prod.mk.injEq] at h2
 obtain ⟨rfl, rfl, rfl⟩ := h2
 exact Zik 78 Z7y (fun x y => Zf8 x y) (fun x y z h => Zq0 x y h) x0 a y0 hz
theorem Z6e : Phi 18 79 [] := fun x0 x1 a y0 y1 c h => Zv7 x0 a y0 (r := (c, x1, y1)) (by simpa [Z8] using h)
theorem Z59 : Phi 19 80 [] := fun x0 x1 a y0 y1 c h => Zq3 x0 a y0 (r := (c, x1, y1)) (by simpa [Z8] using h)
theorem Z6q : Phi 20 83 [] := fun x0 x1 a y0 y1 c h => Zqv x0 a y0 (r := (c, x1, y1)) (by simpa [Z8] using h)
theorem Z54 : Phi 21 84 [] := fun x0 x1 a y0 y1 c h => Zuq x0 a y0 (r := (c, x1, y1)) (by simpa [Z8] using h)
theorem Zxl {N d : Nat} {o : Oper} {uses : Z9} (hop : o.op = .build 113 #[(5, .func 66), (6, .func 67), (7, .func 68), (8, .func 69), (9, .func 70), (12, .func 70), (10, .func 71), (11, .func 72), (13, .tmp 1), (14, .tmp 2), (15, .tmp 3), (16, .tmp 4), (17, .tmp 5), (18, .func 79), (19, .func 80), (20, .func 83), (21, .func 84)]) (hd : o.dst = some d) (h1 : Opd uses (.tmp 1) (pClo 92 [(Kd.fnc.ptr 74)] rfl)) (h2 : Opd uses (.tmp 2) (pClo 92 [(Kd.fnc.ptr 75)] rfl)) (h3 : Opd uses (.tmp 3) (pClo 92 [(Kd.fnc.ptr 76)] rfl)) (h4 : Opd uses (.tmp 4) (pClo 92 [(Kd.fnc.ptr 77)] rfl)) (h5 : Opd uses (.tmp 5) (pClo 92 [(Kd.fnc.ptr 78)] rfl)) : OB Tryd.prog N o uses [(d, ((Kd.tab Tryd.prog 22 (by decide)).pd tabT))] [] :=
 Zb7 hd fun a g hh => by
   obtain ⟨c1, e1, k1⟩ := h1 a g hh
   obtain ⟨c2, e2, k2⟩ := h2 a g hh
   obtain ⟨c3, e3, k3⟩ := h3 a g hh
   obtain ⟨c4, e4, k4⟩ := h4 a g hh
   obtain ⟨c5, e5, k5⟩ := h5 a g hh
   refine ⟨.agg #[.nilFunc, .nilFunc, .nilFunc, .nilFunc, .nilFunc, .func (.func 66) #[] #[], .func (.func 67) #[] #[], .func (.func 68) #[] #[], .func (.func 69) #[] #[], .func (.func 70) #[] #[], .func (.func 71) #[] #[], .func (.func 72) #[] #[], .func (.func 70) #[] #[], .func (.func 92) #[] c1.toArray, .func (.func 92) #[] c2.toArray, .func (.func 92) #[] c3.toArray, .func (.func 92) #[] c4.toArray, .func (.func 92) #[] c5.toArray, .func (.func 79) #[] #[], .func (.func 80) #[] #[], .func (.func 83) #[] #[], .func (.func 84) #[] #[]], ?_, [.nilFunc, .nilFunc, .nilFunc, .nilFunc, .nilFunc, .func (.func 66) #[] #[], .func (.func 67) #[] #[], .func (.func 68) #[] #[], .func (.func 69) #[] #[], .func (.func 70) #[] #[], .func (.func 71) #[] #[], .func (.func 72) #[] #[], .func (.func 70) #[] #[], .func (.func 92) #[] c1.toArray, .func (.func 92) #[] c2.toArray, .func (.func 92) #[] c3.toArray, .func (.func 92) #[] c4.toArray, .func (.func 92) #[] c5.toArray, .func (.func 79) #[] #[], .func (.func 80) #[] #[], .func (.func 83) #[] #[], .func (.func 84) #[] #[]], ⟨rfl, ?_, ?_⟩, rfl⟩
   · simp only [execOp, hop, Sem.run_bind, Sem.run_pure, Result.andThen_ok, List.map_toArray, List.map_cons, List.map_nil, e1, e2, e3, e4, e5]
     rw [Zwl Tryd.underlying113 (zero := .agg #[.nilFunc, .nilFunc, .nilFunc, .nilFunc, .nilFunc, .nilFunc, .nilFunc, .nilFunc, .nilFunc, .nilFunc, .nilFunc, .nilFunc, .nilFunc, .nilFunc, .nilFunc, .nilFunc, .nilFunc, .nilFunc, .nilFunc, .nilFunc, .nilFunc, .nilFunc]) (by kernel_rfl) (by kernel_rfl) (cells := #[.nilFunc, .nilFunc, .nilFunc, .nilFunc, .nilFunc, .func (.func 66) #[] #[], .func (.func 67) #[] #[], .func (.func 68) #[] #[], .func (.func 69) #[] #[], .func (.func 70) #[] #[], .func (.func 71) #[] #[], .func (.func 72) #[] #[], .func (.func 70) #[] #[], .func (.func 92) #[] c1.toArray, .func (.func 92) #[] c2.toArray, .func (.func 92) #[] c3.toArray, .func (.func 92) #[] c4.toArray, .func (.func 92) #[] c5.toArray, .func (.func 79) #[] #[], .func (.func 80) #[] #[], .func (.func 83) #[] #[], .func (.func 84) #[] #[]]) (by kernel_rfl) g.w]
     rfl
   · intro u hu
     simp only [List.mem_cons, List.not_mem_nil, or_false] at hu
     rcases hu with rfl | rfl | rfl | rfl | rfl | rfl | rfl | rfl | rfl | rfl | rfl | rfl | rfl | rfl | rfl | rfl | rfl | rfl | rfl | rfl | rfl | rfl <;> rfl
   · intro k F u hF hu
     unfold tabT at hF
     split at hF
     · rename_i hk
       obtain rfl := Option.some.inj hF
       obtain ⟨hk1, hk2⟩ := hk
       have hk : k = 5 ∨ k = 6 ∨ k = 7 ∨ k = 8 ∨ k = 9 ∨ k = 10 ∨ k = 11 ∨ k = 12 ∨ k = 13 ∨ k = 14 ∨ k = 15 ∨ k = 16 ∨ k = 17 ∨ k = 18 ∨ k = 19 ∨ k = 20 ∨ k = 21 := by omega
       rcases hk with rfl | rfl | rfl | rfl | rfl | rfl | rfl | rfl | rfl | rfl | rfl | rfl | rfl | rfl | rfl | rfl | rfl
       · obtain rfl := Option.some.inj hu; exact ⟨66, [], [], rfl, Z8i, rfl, Z7g, Zdw, fun q hq => by cases hq⟩
       · obtain rfl := Option.some.inj hu; exact ⟨67, [], [], rfl, Z7k, rfl, Z6z, Zdw, fun q hq => by cases hq⟩
       · obtain rfl := Option.some.inj hu; exact ⟨68, [], [], rfl, Z6y, rfl, Z8p, Zdw, fun q hq => by cases hq⟩
       · obtain rfl := Option.some.inj hu; exact ⟨69, [], [], rfl, Z7z, rfl, Z8m, Zdw, fun q hq => by cases hq⟩
       · obtain rfl := Option.some.inj hu; exact ⟨70, [], [], rfl, Z3f, rfl, Z7w, Zdw, fun q hq => by cases hq⟩
       · obtain rfl := Option.some.inj hu; exact ⟨71, [], [], rfl, Z7q, rfl, Z6o, Zdw, fun q hq => by cases hq⟩
       · obtain rfl := Option.some.inj hu; exact ⟨72, [], [], rfl, Z70, rfl, Z6d, Zdw, fun q hq => by cases hq⟩
       · obtain rfl := Option.some.inj hu; exact ⟨70, [], [], rfl, Z3f, rfl, Z58, Zdw, fun q hq => by cases hq⟩
       · obtain rfl := Option.some.inj hu; exact ⟨92, _, c1, rfl, Zr7, rfl, Z5v, k1, Zjh⟩
       · obtain rfl := Option.some.inj hu; exact ⟨92, _, c2, rfl, Zr7, rfl, Z6u, k2, Zjh⟩
       · obtain rfl := Option.some.inj hu; exact ⟨92, _, c3, rfl, Zr7, rfl, Z6k, k3, Zjh⟩
       · obtain rfl := Option.some.inj hu; exact ⟨92, _, c4, rfl, Zr7, rfl, Z6i, k4, Zjh⟩
       · obtain rfl := Option.some.inj hu; exact ⟨92, _, c5, rfl, Zr7, rfl, Z6l, k5, Zjh⟩
       · obtain rfl := Option.some.inj hu; exact ⟨79, [], [], rfl, Z63, rfl, Z6e, Zdw, fun q hq => by cases hq⟩
       · obtain rfl := Option.some.inj hu; exact ⟨80, [], [], rfl, Z7s, rfl, Z59, Zdw, fun q hq => by cases hq⟩
       · obtain rfl := Option.some.inj hu; exact ⟨83, [], [], rfl, Z7l, rfl, Z6q, Zdw, fun q hq => by cases hq⟩
       · obtain rfl := Option.some.inj hu; exact ⟨84, [], [], rfl, Z8s, rfl, Z54, Zdw, fun q hq => by cases hq⟩
     · cases hF
theorem Z1s : Ty Tryd.prog 113 (Kd.tab Tryd.prog 22 (by decide)) := ⟨by kernel_rfl, by kernel_rfl⟩
theorem Zsr : FnOk Tryd.prog 52 [] (pTab Tryd.prog 22 tabT) := by
 refine Zbu (N := 7) Tryd.func52 rfl rfl (Nat.le_of_ble_eq_true rfl) rfl rfl (fun a g0 hst hb => ?_)
 refine r_s (T := [⟨[], [(0, (pBox (Kd.tab Tryd.prog 22 (by decide)) 0 (fun _ => none)))], [1], [], [0]⟩]) (F := [.op 0 0]) hst hb Zb
   (o_p rfl (Zbb (zs := [.nilFunc, .nilFunc, .nilFunc, .nilFunc, .nilFunc, .nilFunc, .nilFunc, .nilFunc, .nilFunc, .nilFunc, .nilFunc, .nilFunc, .nilFunc, .nilFunc, .nilFunc, .nilFunc, .nilFunc, .nilFunc, .nilFunc, .nilFunc, .nilFunc, .nilFunc]) (by kernel_rfl) (fun g => ⟨rfl, by decide, fun k F u h => by cases h⟩) rfl rfl) <| o_n) (by kernel_rfl) (fun a g hst hb => ?_)
 refine r_s (T := [⟨[], _, [], [], [1]⟩, ⟨[], _, [], [0], [2]⟩, ⟨[], _, [], [0, 1], [3]⟩, ⟨[], _, [], [0, 1, 2], [4]⟩, ⟨[], _, [], [0, 1, 2, 3], [5]⟩, ⟨[.op 0 0, .op 1 0, .op 2 0, .op 3 0, .op 4 0], _, [], [0, 1, 2, 3, 4], [6]⟩, ⟨[.op 5 0, .old 0], [(0, (pBox (Kd.tab Tryd.prog 22 (by decide)) 0 tabT))], [1], [0, 1, 2, 3, 4, 5], [0]⟩]) (F := [.op 6 0]) hst hb Zb
   (o_p rfl (Zp Zs4 (Zjo 74) rfl rfl (.cons Opd.fncv .nil)) <| o_p rfl (Zp Zs4 (Zjo 75) rfl rfl (.cons Opd.fncv .nil)) <| o_p rfl (Zp Zs4 (Zjo 76) rfl rfl (.cons Opd.fncv .nil)) <| o_p rfl (Zp Zs4 (Zjo 77) rfl rfl (.cons Opd.fncv .nil)) <| o_p rfl (Zp Zs4 (Zjo 78) rfl rfl (.cons Opd.fncv .nil)) <| o_p rfl (Zxl rfl rfl u_0 u_1 u_2 u_3 u_4) <| o_p rfl (Z6 Z1s rfl rfl u_1 u_0) <| o_n) (by kernel_rfl) (fun a g hst hb => ?_)
 refine wp_ret ?_
 obtain ⟨u0, hu0, hq0⟩ := Zbh (P := Tryd.prog) Z1s (hst.at 0 rfl)
 exact Z3 rfl hst hb hu0 (Z20 hq0)
theorem Zux (a0 : Zd) (a1 : Bool) (a2 : Zx) {r : Zd × Bool × Zg} (h : Ziw a0 a1 a2 = some r) : FnOk Tryd.prog 35 [(Zi.pd a0), (Zbd a1), (Z7.pd a2)] (pTup [(Zi.pd r.1), (Zbd r.2.1), (Zs.pd r.2.2)]) := by
 have H0 := h
 unfold Ziw at H0
 clear h
 refine Zbu (N := 123) Tryd.func35 rfl rfl (Nat.le_of_ble_eq_true rfl) rfl rfl (fun a g0 hst hb => ?_)
 refine r_s (T := [⟨[.old 0], _, [4], [], [3]⟩, ⟨[.old 1], _, [], [], [4]⟩, ⟨[.old 2], _, [], [], [5]⟩, ⟨[], [(6, (pBox Zi 6 (default : Zd)))], [7], [], [6]⟩, ⟨[], _, [], [], [7]⟩, ⟨[], [(8, (pBox Zs 8 (default : Zg)))], [9], [], [8]⟩]) (F := [.op 0 0, .op 1 0, .op 2 0, .op 3 0, .op 5 0]) hst hb Zb
   (o_p rfl (Zqh rfl rfl u_0) <| o_p rfl (Zbl rfl rfl u_0) <| o_p rfl (Zbl rfl rfl u_0) <| o_p rfl (Zbb (zs := [.int .i64 0, .int .i64 0, .int .i64 0, .int .i64 0, .float .f64 0, .int .i64 0, .string ByteArray.empty, .slice none 0 0]) (by kernel_rfl) (fun g => Zch g) rfl rfl) <| o_p rfl (Zc rfl rfl c_b) <| o_p rfl (Zbb (zs := [.int .i64 0, .int .i64 0, .int .i64 0, .int .i64 0, .int .i64 0, .int .i64 0, .float .f64 0, .int .i64 0, .string ByteArray.empty, .slice none 0 0]) (by kernel_rfl) (fun g => Zdy g) rfl rfl) <| o_n) (by kernel_rfl) (fun a g hst hb => ?_)
 refine wp_seq ?_
 refine r_s (T := [⟨[.old 1], _, [], [], [15]⟩, ⟨[.op 0 0], _, [], [0], [16]⟩]) (F := [.old 0, .old 1, .old 2, .old 3, .old 4, .op 1 0]) hst hb Zb
   (o_p rfl (Zf ty_4 rfl rfl u_0) <| o_p rfl (Zcn rfl rfl u_0) <| o_n) (by kernel_rfl) (fun a g hst hb => ?_)
 refine Zc0 (fun a w => ∃ (j2 : Zd) (g : G), w = g.w ∧ St 123 [(3, (pBox Zi 3 j2)), (4, (Kd.bool.ptr a1)), (5, (Z7.ptr a2)), (6, (pBox Zi 6 (default : Zd))), (8, (pBox Zs 8 (default : Zg)))] a g ∧ Base g0 g ∧ Zfu a1 a2 j2 = some r) ?_ ?_
 · rintro a w ⟨j2, g, rfl, hst, hb, H0⟩
   unfold Zfu at H0
   refine Zu ?_
   obtain ⟨r3, h4, H0⟩ := Zh H0
   refine r_s (T := [⟨[.old 0], _, [], [], [18]⟩, ⟨[.op 0 0], _, [], [0], [19]⟩, ⟨[.op 1 0, .old 0], _, [4], [0, 1], [3]⟩]) (F := [.op 2 0, .old 1, .old 2, .old 3, .old 4]) hst hb Zb
     (o_p rfl (Zb8 Zbi rfl rfl u_0) <| o_p rfl (Zp Znk (Zgf _ h4) rfl rfl (.cons u_0 .nil)) <| o_p rfl (Z6 Zbi rfl rfl u_1 u_0) <| o_n) (by kernel_rfl) (fun a g hst hb => ?_)
   refine r_s (T := [⟨[.old 0, .old 1], _, [], [], [20]⟩, ⟨[.op 0 0], _, [], [0], [9]⟩]) (F := [.old 0, .old 1, .old 2, .old 3, .old 4, .op 1 0]) hst hb Zb
     (o_p rfl (Zvm rfl rfl (.cons u_0 (.cons u_1 .nil))) <| o_p rfl (Zc rfl rfl u_0) <| o_n) (by kernel_rfl) (fun a g hst hb => ?_)
   refine wp_seq ?_
   obtain ⟨r5, h6, H0⟩ := Zh H0
   refine r_s (T := [⟨[.old 2], _, [], [], [21]⟩, ⟨[.op 0 0], _, [], [0], [22]⟩, ⟨[.op 1 0], _, [], [0, 1], [10]⟩]) (F := [.old 0, .old 1, .old 2, .old 3, .old 4, .old 5, .op 2 0]) hst hb Zb
     (o_p rfl (Zf Ze9 rfl rfl u_0) <| o_p rfl (Zp Z29 (Zpe _ h6) rfl rfl (.cons u_0 .nil)) <| o_p rfl (Zc rfl rfl u_0) <| o_n) (by kernel_rfl) (fun a g hst hb => ?_)
   refine r_s (T := [⟨[.old 6], _, [], [], [23]⟩, ⟨[.op 0 0], _, [], [0], [24]⟩]) (F := [.old 0, .old 1, .old 2, .old 3, .old 4, .old 5, .old 6, .op 1 0]) hst hb Zb
     (o_p rfl (Za rfl rfl u_0) <| o_p rfl (Zer rfl rfl u_0 c_i) <| o_n) (by kernel_rfl) (fun a g hst hb => ?_)
   refine wp_cond_split (hst.bool 7 rfl) (fun hc7 => ?_) (fun hc7 => ?_)
   · replace H0 := Z0 hc7 H0
     obtain ⟨r8, h9, H0⟩ := Zh H0
     refine r_s (L := [(3, _), (4, _), (6, _), (8, _), (9, _), (10, _)]) (T := [⟨[.old 4], _, [], [], [25]⟩, ⟨[.old 5], _, [], [], [26]⟩, ⟨[.op 0 0, .op 1 0, .old 0], [(27, (pTup [(Zi.pd r8.1), (Zbd r8.2.1), (Zs.pd r8.2.2.1)])), (3, (pBox Zi 3 r8.2.2.2))], [4], [0, 1], [3, 9, 25, 27]⟩, ⟨[.op 2 0], _, [], [0, 1, 2], [28]⟩, ⟨[.op 2 0], _, [], [0, 1, 2], [29]⟩, ⟨[.op 2 0], _, [], [0, 1, 2], [30]⟩, ⟨[.op 3 0, .old 2], _, [7], Lr 6, [6]⟩, ⟨[.op 4 0], _, [], Lr 7, [7]⟩, ⟨[.op 5 0, .old 3], _, [9], Lr 8, [8]⟩]) (F := [.op 2 1, .old 1, .op 6 0, .op 7 0, .op 8 0]) (hst.pick [0, 1, 3, 4, 5, 6] rfl) hb Zb
       (o_p rfl (Za rfl rfl u_0) <| o_p rfl (Za rfl rfl u_0) <| o_p rfl (Zld (Ps := [.val (pInt .i64 r5)]) (hs := []) (ks := [(3, none, 3)]) Zsz (Zhx _ _ _ h9) rfl rfl rfl u_0 (.val u_1 .nil) (.box u_2 rfl (.val .nil)) rfl rfl rfl rfl) <| o_p rfl (Z4 rfl rfl u_0 rfl) <| o_p rfl (Z4 rfl rfl u_0 rfl) <| o_p rfl (Z4 rfl rfl u_0 rfl) <| o_p rfl (Z6 Zbi rfl rfl u_1 u_0) <| o_p rfl (Zc rfl rfl u_0) <| o_p rfl (Z6 Zcb rfl rfl u_1 u_0) <| o_n) (by kernel_rfl) (fun a g hst hb => ?_)
     refine wp_ret ?_
     refine Zn ?_
     obtain rfl := Option.some.inj H0
     obtain ⟨u0, hu0, hq0⟩ := Zbh (P := Tryd.prog) Zbi (hst.at 2 rfl)
     obtain ⟨u2, hu2, hq2⟩ := Zbh (P := Tryd.prog) Zcb (hst.at 4 rfl)
     exact Zju rfl hst hb hu0 (Zm (s := 7)) hu2 (Zhs hq0 (hst.at 3 rfl) hq2)
   · replace H0 := Zz hc7 H0
     refine wp_skip ?_
     refine Zu ?_
     refine wp_seq ?_
     refine r_s (L := [(3, _), (4, _), (5, _), (6, _), (8, _), (9, _)]) (T := [⟨[.old 1], _, [], [], [31]⟩]) (F := [.old 0, .old 1, .old 2, .old 3, .old 4, .old 5, .op 0 0]) (hst.pick [0, 1, 2, 3, 4, 5] rfl) hb Zb
       (o_p rfl (Zf ty_4 rfl rfl u_0) <| o_n) (by kernel_rfl) (fun a g hst hb => ?_)
     refine Zc0 (fun a w => ∃ (g : G), w = g.w ∧ St 123 [(3, (pBox Zi 3 r3)), (4, (Kd.bool.ptr a1)), (5, (Z7.ptr a2)), (6, (pBox Zi 6 (default : Zd))), (8, (pBox Zs 8 (default : Zg))), (9, (Zva 50 [(pBox Zi 3 r3), (Kd.bool.ptr a1)]))] a g ∧ Base g0 g ∧ Zfv a1 a2 r3 = some r) ?_ ?_
     · rintro a w ⟨g, rfl, hst, hb, H0⟩
       unfold Zfv at H0
       refine Zu ?_
       refine wp_seq ?_
       refine wp_block ?_
       refine r_s (T := [⟨[.old 2], _, [], [], [43]⟩, ⟨[.op 0 0], _, [], [0], [44]⟩, ⟨[.op 1 0], _, [], [0, 1], [45]⟩, ⟨[.op 2 0], _, [], [0, 1, 2], [46]⟩, ⟨[.op 3 0, .old 1], _, [], Lr 4, [47]⟩, ⟨[.op 3 0, .op 4 0], _, [], Lr 5, [48]⟩, ⟨[.op 5 0], _, [], Lr 6, [42]⟩]) (F := [.old 0, .old 1, .old 2, .old 3, .old 4, .old 5, .op 6 0]) hst hb Zb
         (o_p rfl (Ze Zhq rfl rfl u_0) <| o_p rfl (Zf ty_3 rfl rfl u_0) <| o_p rfl (Zbw rfl rfl u_0 c_i) <| o_p rfl (Za rfl rfl u_0) <| o_g (g_t rfl rfl rfl (fun hG => Zf ty_4 rfl rfl u_0)) <| o_p rfl (Zbj rfl rfl u_0 (fun hz => (Opd.gd hz u_1))) <| o_p rfl (Zc rfl rfl u_0) <| o_n) (by kernel_rfl) (fun a g hst hb => ?_)
       refine wp_cond_split (hst.bool 6 rfl) (fun hc16 => ?_) (fun hc16 => ?_)
       · replace H0 := Z0 hc16 H0
         obtain ⟨r17, h18, H0⟩ := Zh H0
         refine r_s (L := [(3, _), (4, _), (6, _), (8, _), (9, _)]) (T := [⟨[.old 4], _, [], [], [49]⟩, ⟨[.op 0 0, .old 0], [(50, (pTup [(Zi.pd r17.1), (Zbd r17.2.1), (Zs.pd r17.2.2.1)])), (3, (pBox Zi 3 r17.2.2.2))], [4], [0], [3, 9, 49, 50]⟩, ⟨[.op 1 0], _, [], [0, 1], [51]⟩, ⟨[.op 1 0], _, [], [0, 1], [52]⟩, ⟨[.op 1 0], _, [], [0, 1], [53]⟩, ⟨[.op 2 0, .old 2], _, [7], Lr 5, [6]⟩, ⟨[.op 3 0], _, [], Lr 6, [7]⟩, ⟨[.op 4 0, .old 3], _, [9], Lr 7, [8]⟩]) (F := [.op 1 1, .old 1, .op 5 0, .op 6 0, .op 7 0]) (hst.pick [0, 1, 3, 4, 5] rfl) hb Zb
           (o_p rfl (Za rfl rfl u_0) <| o_p rfl (Zld (Ps := [.val (pInt .i64 (7 : Int))]) (hs := []) (ks := [(3, none, 3)]) Zsz (Zhx _ _ _ h18) rfl rfl rfl u_0 (.val c_i .nil) (.box u_1 rfl (.val .nil)) rfl rfl rfl rfl) <| o_p rfl (Z4 rfl rfl u_0 rfl) <| o_p rfl (Z4 rfl rfl u_0 rfl) <| o_p rfl (Z4 rfl rfl u_0 rfl) <| o_p rfl (Z6 Zbi rfl rfl u_1 u_0) <| o_p rfl (Zc rfl rfl u_0) <| o_p rfl (Z6 Zcb rfl rfl u_1 u_0) <| o_n) (by kernel_rfl) (fun a g hst hb => ?_)
         refine wp_ret ?_
         refine Zw ?_
         refine Zn ?_
         obtain rfl := Option.some.inj H0
         obtain ⟨u0, hu0, hq0⟩ := Zbh (P := Tryd.prog) Zbi (hst.at 2 rfl)
         obtain ⟨u2, hu2, hq2⟩ := Zbh (P := Tryd.prog) Zcb (hst.at 4 rfl)
         exact Zju rfl hst hb hu0 (Zm (s := 7)) hu2 (Zhs hq0 (hst.at 3 rfl) hq2)
       · replace H0 := Zz hc16 H0
         refine r_s (L := [(3, _), (4, _), (5, _), (6, _), (8, _), (9, _)]) (T := [⟨[.old 2], _, [], [], [55]⟩, ⟨[.op 0 0], _, [], [0], [56]⟩, ⟨[.op 1 0], _, [], [0, 1], [57]⟩, ⟨[.op 2 0], _, [], [0, 1, 2], [54]⟩]) (F := [.old 0, .old 1, .old 2, .old 3, .old 4, .old 5, .op 3 0]) (hst.pick [0, 1, 2, 3, 4, 5] rfl) hb Zb
           (o_p rfl (Ze Zhq rfl rfl u_0) <| o_p rfl (Zf ty_3 rfl rfl u_0) <| o_p rfl (Zbw rfl rfl u_0 c_i) <| o_p rfl (Zc rfl rfl u_0) <| o_n) (by kernel_rfl) (fun a g hst hb => ?_)
         refine wp_cond_split (hst.bool 6 rfl) (fun hc19 => ?_) (fun hc19 => ?_)
         · replace H0 := Z0 hc19 H0
           obtain ⟨r20, h21, H0⟩ := Zh H0
           refine r_s (L := [(3, _), (4, _), (5, _), (6, _), (8, _)]) (T := [⟨[.old 2], _, [], [], [58]⟩, ⟨[.op 0 0], _, [], [0], [59]⟩, ⟨[.op 1 0], _, [], [0, 1], [60]⟩, ⟨[], _, [], [], [61]⟩, ⟨[.op 2 0, .old 3], _, [7], [0, 1, 2], [6]⟩, ⟨[], _, [], [0, 1, 2, 4], [7]⟩, ⟨[.op 3 0, .old 4], _, [9], Lr 6, [8]⟩]) (F := [.old 0, .old 1, .op 4 0, .op 5 0, .op 6 0]) (hst.pick [0, 1, 2, 3, 4] rfl) hb Zb
             (o_p rfl (Ze Zqe rfl rfl u_0) <| o_p rfl (Zf Zbi rfl rfl u_0) <| o_p rfl (Zp Znk (Zgf _ h21) rfl rfl (.cons u_0 .nil)) <| o_p rfl (Z0y rfl rfl ) <| o_p rfl (Z6 Zbi rfl rfl u_1 u_0) <| o_p rfl (Zc rfl rfl c_b) <| o_p rfl (Z6 Zcb rfl rfl u_1 u_0) <| o_n) (by kernel_rfl) (fun a g hst hb => ?_)
           refine wp_ret ?_
           refine Zw ?_
           refine Zn ?_
           obtain rfl := Option.some.inj H0
           obtain ⟨u0, hu0, hq0⟩ := Zbh (P := Tryd.prog) Zbi (hst.at 2 rfl)
           obtain ⟨u2, hu2, hq2⟩ := Zbh (P := Tryd.prog) Zcb (hst.at 4 rfl)
           exact Zju rfl hst hb hu0 (Zm (s := 7)) hu2 (Zhs hq0 (hst.at 3 rfl) hq2)
         · replace H0 := Zz hc19 H0
           refine r_s (L := [(3, _), (4, _), (5, _), (6, _), (8, _), (9, _)]) (T := [⟨[.old 2], _, [], [], [63]⟩, ⟨[.op 0 0], _, [], [0], [64]⟩, ⟨[.op 1 0], _, [], [0, 1], [65]⟩, ⟨[.op 2 0], _, [], [0, 1, 2], [62]⟩]) (F := [.old 0, .old 1, .old 2, .old 3, .old 4, .old 5, .op 3 0]) (hst.pick [0, 1, 2, 3, 4, 5] rfl) hb Zb
             (o_p rfl (Ze Zhq rfl rfl u_0) <| o_p rfl (Zf ty_3 rfl rfl u_0) <| o_p rfl (Zbw rfl rfl u_0 c_i) <| o_p rfl (Zc rfl rfl u_0) <| o_n) (by kernel_rfl) (fun a g hst hb => ?_)
           refine wp_cond_split (hst.bool 6 rfl) (fun hc22 => ?_) (fun hc22 => ?_)
           · replace H0 := Z0 hc22 H0
             refine r_s (L := [(3, _), (4, _), (6, _), (8, _)]) (T := [⟨[.old 0], _, [], [], [66]⟩, ⟨[.old 1], _, [], [], [67]⟩, ⟨[.old 0], _, [], [], [68]⟩, ⟨[.op 2 0], _, [], [2], [69]⟩, ⟨[.op 3 0], _, [], [2, 3], [70]⟩, ⟨[.op 0 0, .old 2], _, [7], [0], [6]⟩, ⟨[.op 1 0], _, [], [0, 1, 5], [7]⟩, ⟨[.op 4 0, .old 3], _, [9], Lr 7, [8]⟩]) (F := [.old 0, .old 1, .op 5 0, .op 6 0, .op 7 0]) (hst.pick [0, 1, 3, 4] rfl) hb Zb
               (o_p rfl (Zb8 Zbi rfl rfl u_0) <| o_p rfl (Zf ty_4 rfl rfl u_0) <| o_p rfl (Zbc Zf9 (off := 0) (by kernel_rfl) rfl rfl u_0) <| o_p rfl (Zcl ty_3 rfl rfl u_0) <| o_p rfl (Z5m rfl rfl u_0) <| o_p rfl (Z6 Zbi rfl rfl u_1 u_0) <| o_p rfl (Zc rfl rfl u_0) <| o_p rfl (Z6 Zcb rfl rfl u_1 u_0) <| o_n) (by kernel_rfl) (fun a g hst hb => ?_)
             refine wp_ret ?_
             refine Zw ?_
             refine Zn ?_
             obtain rfl := Option.some.inj H0
             obtain ⟨u0, hu0, hq0⟩ := Zbh (P := Tryd.prog) Zbi (hst.at 2 rfl)
             obtain ⟨u2, hu2, hq2⟩ := Zbh (P := Tryd.prog) Zcb (hst.at 4 rfl)
             exact Zju rfl hst hb hu0 (Zm (s := 7)) hu2 (Zhs hq0 (hst.at 3 rfl) hq2)
           · replace H0 := Zz hc22 H0
             refine r_s (L := [(3, _), (4, _), (5, _), (6, _), (8, _), (9, _)]) (T := [⟨[.old 1], _, [], [], [72]⟩, ⟨[.op 0 0], _, [], [0], [73]⟩, ⟨[.op 1 0], _, [], [0, 1], [71]⟩]) (F := [.old 0, .old 1, .old 2, .old 3, .old 4, .old 5, .op 2 0]) (hst.pick [0, 1, 2, 3, 4, 5] rfl) hb Zb
               (o_p rfl (Zf ty_4 rfl rfl u_0) <| o_p rfl (Zcn rfl rfl u_0) <| o_p rfl (Zc rfl rfl u_0) <| o_n) (by kernel_rfl) (fun a g hst hb => ?_)
             refine wp_cond_split (hst.bool 6 rfl) (fun hc23 => ?_) (fun hc23 => ?_)
             · replace H0 := Z0 hc23 H0
               obtain ⟨r24, h25, H0⟩ := Zh H0
               refine r_s (L := [(3, _), (4, _), (6, _), (8, _), (9, _)]) (T := [⟨[.old 4], _, [], [], [74]⟩, ⟨[.op 0 0, .old 0], [(75, (pTup [(Zi.pd r24.1), (Zbd r24.2.1), (Zs.pd r24.2.2.1)])), (3, (pBox Zi 3 r24.2.2.2))], [4], [0], [3, 9, 74, 75]⟩, ⟨[.op 1 0], _, [], [0, 1], [76]⟩, ⟨[.op 1 0], _, [], [0, 1], [77]⟩, ⟨[.op 1 0], _, [], [0, 1], [78]⟩, ⟨[.op 2 0, .old 2], _, [7], Lr 5, [6]⟩, ⟨[.op 3 0], _, [], Lr 6, [7]⟩, ⟨[.op 4 0, .old 3], _, [9], Lr 7, [8]⟩]) (F := [.op 1 1, .old 1, .op 5 0, .op 6 0, .op 7 0]) (hst.pick [0, 1, 3, 4, 5] rfl) hb Zb
                 (o_p rfl (Za rfl rfl u_0) <| o_p rfl (Zld (Ps := [.val (pInt .i64 (6 : Int))]) (hs := []) (ks := [(3, none, 3)]) Zsz (Zhx _ _ _ h25) rfl rfl rfl u_0 (.val c_i .nil) (.box u_1 rfl (.val .nil)) rfl rfl rfl rfl) <| o_p rfl (Z4 rfl rfl u_0 rfl) <| o_p rfl (Z4 rfl rfl u_0 rfl) <| o_p rfl (Z4 rfl rfl u_0 rfl) <| o_p rfl (Z6 Zbi rfl rfl u_1 u_0) <| o_p rfl (Zc rfl rfl u_0) <| o_p rfl (Z6 Zcb rfl rfl u_1 u_0) <| o_n) (by kernel_rfl) (fun a g hst hb => ?_)
               refine wp_ret ?_
               refine Zw ?_
               refine Zn ?_
               obtain rfl := Option.some.inj H0
               obtain ⟨u0, hu0, hq0⟩ := Zbh (P := Tryd.prog) Zbi (hst.at 2 rfl)
               obtain ⟨u2, hu2, hq2⟩ := Zbh (P := Tryd.prog) Zcb (hst.at 4 rfl)
               exact Zju rfl hst hb hu0 (Zm (s := 7)) hu2 (Zhs hq0 (hst.at 3 rfl) hq2)
             · replace H0 := Zz hc23 H0
               refine r_s (L := [(3, _), (4, _), (5, _), (6, _), (8, _), (9, _)]) (T := [⟨[.old 2], _, [], [], [80]⟩, ⟨[.op 0 0], _, [], [0], [81]⟩, ⟨[.op 1 0], _, [], [0, 1], [82]⟩, ⟨[.op 2 0], _, [], [0, 1, 2], [79]⟩]) (F := [.old 0, .old 1, .old 2, .old 3, .old 4, .old 5, .op 3 0]) (hst.pick [0, 1, 2, 3, 4, 5] rfl) hb Zb
                 (o_p rfl (Ze Zhq rfl rfl u_0) <| o_p rfl (Zf ty_3 rfl rfl u_0) <| o_p rfl (Zbw rfl rfl u_0 c_i) <| o_p rfl (Zc rfl rfl u_0) <| o_n) (by kernel_rfl) (fun a g hst hb => ?_)
               refine wp_cond_split (hst.bool 6 rfl) (fun hc26 => ?_) (fun hc26 => ?_)
               · replace H0 := Z0 hc26 H0
                 refine r_s (L := [(3, _), (4, _), (6, _), (8, _)]) (T := [⟨[], _, [], [], [83]⟩, ⟨[], _, [], [], [84]⟩, ⟨[.op 0 0, .old 2], _, [7], [0], [6]⟩, ⟨[], _, [], [0, 2], [7]⟩, ⟨[.op 1 0, .old 3], _, [9], Lr 4, [8]⟩]) (F := [.old 0, .old 1, .op 2 0, .op 3 0, .op 4 0]) (hst.pick [0, 1, 3, 4] rfl) hb Zb
                   (o_p rfl (Zpj rfl rfl ) <| o_p rfl (Z0y rfl rfl ) <| o_p rfl (Z6 Zbi rfl rfl u_1 u_0) <| o_p rfl (Zc rfl rfl c_b) <| o_p rfl (Z6 Zcb rfl rfl u_1 u_0) <| o_n) (by kernel_rfl) (fun a g hst hb => ?_)
                 refine wp_ret ?_
                 refine Zw ?_
                 refine Zn ?_
                 obtain rfl := Option.some.inj H0
                 obtain ⟨u0, hu0, hq0⟩ := Zbh (P := Tryd.prog) Zbi (hst.at 2 rfl)
                 obtain ⟨u2, hu2, hq2⟩ := Zbh (P := Tryd.prog) Zcb (hst.at 4 rfl)
                 exact Zju rfl hst hb hu0 (Zm (s := 7)) hu2 (Zhs hq0 (hst.at 3 rfl) hq2)
               · replace H0 := Zz hc26 H0
                 refine r_s (L := [(3, _), (4, _), (5, _), (6, _), (8, _), (9, _)]) (T := [⟨[.old 2], _, [], [], [86]⟩, ⟨[.op 0 0], _, [], [0], [87]⟩, ⟨[.op 1 0], _, [], [0, 1], [88]⟩, ⟨[.op 2 0], _, [], [0, 1, 2], [85]⟩]) (F := [.old 0, .old 1, .old 2, .old 3, .old 4, .old 5, .op 3 0]) (hst.pick [0, 1, 2, 3, 4, 5] rfl) hb Zb
                   (o_p rfl (Ze Zhq rfl rfl u_0) <| o_p rfl (Zf ty_3 rfl rfl u_0) <| o_p rfl (Zbw rfl rfl u_0 c_i) <| o_p rfl (Zc rfl rfl u_0) <| o_n) (by kernel_rfl) (fun a g hst hb => ?_)
                 refine wp_cond_split (hst.bool 6 rfl) (fun hc27 => ?_) (fun hc27 => ?_)
                 · replace H0 := Z0 hc27 H0
                   obtain ⟨r28, h29, H0⟩ := Zh H0
                   refine r_s (L := [(3, _), (4, _), (6, _), (8, _)]) (T := [⟨[.old 0], _, [], [], [89]⟩, ⟨[.old 1], _, [], [], [90]⟩, ⟨[.old 0], _, [], [], [91]⟩, ⟨[.op 2 0], _, [], [2], [92]⟩, ⟨[.op 3 0], _, [], [2, 3], [93]⟩, ⟨[.op 0 0, .old 2], _, [7], [0, 2, 3], [6]⟩, ⟨[.op 1 0], _, [], [0, 1, 2, 3, 5], [7]⟩, ⟨[.op 4 0, .old 3], _, [9], Lr 7, [8]⟩]) (F := [.old 0, .old 1, .op 5 0, .op 6 0, .op 7 0]) (hst.pick [0, 1, 3, 4] rfl) hb Zb
                     (o_p rfl (Zb8 Zbi rfl rfl u_0) <| o_p rfl (Zf ty_4 rfl rfl u_0) <| o_p rfl (Zb8 Zbi rfl rfl u_0) <| o_p rfl (Zp Znk (Zgf _ h29) rfl rfl (.cons u_0 .nil)) <| o_p rfl (Z30 rfl rfl u_0) <| o_p rfl (Z6 Zbi rfl rfl u_1 u_0) <| o_p rfl (Zc rfl rfl u_0) <| o_p rfl (Z6 Zcb rfl rfl u_1 u_0) <| o_n) (by kernel_rfl) (fun a g hst hb => ?_)
                   refine wp_ret ?_
                   refine Zw ?_
                   refine Zn ?_
                   obtain rfl := Option.some.inj H0
                   obtain ⟨u0, hu0, hq0⟩ := Zbh (P := Tryd.prog) Zbi (hst.at 2 rfl)
                   obtain ⟨u2, hu2, hq2⟩ := Zbh (P := Tryd.prog) Zcb (hst.at 4 rfl)
                   exact Zju rfl hst hb hu0 (Zm (s := 7)) hu2 (Zhs hq0 (hst.at 3 rfl) hq2)
                 · replace H0 := Zz hc27 H0
                   obtain ⟨r30, h31, H0⟩ := Zh H0
                   refine r_s (L := [(3, _), (4, _), (5, _), (6, _), (8, _), (9, _)]) (T := [⟨[.old 2], _, [], [], [95]⟩, ⟨[.op 0 0], _, [], [0], [96]⟩, ⟨[.op 1 0], _, [], [0, 1], [97]⟩, ⟨[.old 0], _, [], [], [98]⟩, ⟨[.op 3 0], _, [], [3], [99]⟩, ⟨[.op 2 0, .op 4 0], _, [], Lr 5, [100]⟩, ⟨[.op 5 0], _, [], Lr 6, [94]⟩]) (F := [.old 0, .old 1, .old 2, .old 3, .old 4, .old 5, .op 6 0]) (hst.pick [0, 1, 2, 3, 4, 5] rfl) hb Zb
                     (o_p rfl (Ze Zhq rfl rfl u_0) <| o_p rfl (Zf ty_3 rfl rfl u_0) <| o_p rfl (Zp Z8a (Z1t _ h31) rfl rfl (.cons u_0 .nil)) <| o_p rfl (Zbc Zf9 (off := 0) (by kernel_rfl) rfl rfl u_0) <| o_p rfl (Zcl ty_3 rfl rfl u_0) <| o_p rfl (Zer rfl rfl u_0 u_1) <| o_p rfl (Zc rfl rfl u_0) <| o_n) (by kernel_rfl) (fun a g hst hb => ?_)
                   refine wp_cond_split (hst.bool 6 rfl) (fun hc32 => ?_) (fun hc32 => ?_)
                   · replace H0 := Z0 hc32 H0
                     obtain ⟨r33, h34, H0⟩ := Zh H0
                     refine r_s (L := [(3, _), (4, _), (6, _), (8, _), (9, _)]) (T := [⟨[.old 4], _, [], [], [101]⟩, ⟨[.op 0 0, .old 0], [(102, (pTup [(Zi.pd r33.1), (Zbd r33.2.1), (Zs.pd r33.2.2.1)])), (3, (pBox Zi 3 r33.2.2.2))], [4], [0], [3, 9, 101, 102]⟩, ⟨[.op 1 0], _, [], [0, 1], [103]⟩, ⟨[.op 1 0], _, [], [0, 1], [104]⟩, ⟨[.op 1 0], _, [], [0, 1], [105]⟩, ⟨[.op 2 0, .old 2], _, [7], Lr 5, [6]⟩, ⟨[.op 3 0], _, [], Lr 6, [7]⟩, ⟨[.op 4 0, .old 3], _, [9], Lr 7, [8]⟩]) (F := [.op 1 1, .old 1, .op 5 0, .op 6 0, .op 7 0]) (hst.pick [0, 1, 3, 4, 5] rfl) hb Zb
                       (o_p rfl (Za rfl rfl u_0) <| o_p rfl (Zld (Ps := [.val (pInt .i64 (5 : Int))]) (hs := []) (ks := [(3, none, 3)]) Zsz (Zhx _ _ _ h34) rfl rfl rfl u_0 (.val c_i .nil) (.box u_1 rfl (.val .nil)) rfl rfl rfl rfl) <| o_p rfl (Z4 rfl rfl u_0 rfl) <| o_p rfl (Z4 rfl rfl u_0 rfl) <| o_p rfl (Z4 rfl rfl u_0 rfl) <| o_p rfl (Z6 Zbi rfl rfl u_1 u_0) <| o_p rfl (Zc rfl rfl u_0) <| o_p rfl (Z6 Zcb rfl rfl u_1 u_0) <| o_n) (by kernel_rfl) (fun a g hst hb => ?_)
                     refine wp_ret ?_
                     refine Zw ?_
                     refine Zn ?_
                     obtain rfl := Option.some.inj H0
                     obtain ⟨u0, hu0, hq0⟩ := Zbh (P := Tryd.prog) Zbi (hst.at 2 rfl)
                     obtain ⟨u2, hu2, hq2⟩ := Zbh (P := Tryd.prog) Zcb (hst.at 4 rfl)
                     exact Zju rfl hst hb hu0 (Zm (s := 7)) hu2 (Zhs hq0 (hst.at 3 rfl) hq2)
                   · replace H0 := Zz hc32 H0
                     refine wp_skip ?_
                     refine Zbt ?_
                     refine Zu ?_
                     obtain ⟨r35, h36, H0⟩ := Zh H0
                     refine r_s (L := [(3, _), (4, _), (5, _), (6, _), (8, _)]) (T := [⟨[.old 0], _, [], [], [106]⟩, ⟨[.op 0 0], _, [], [0], [107]⟩, ⟨[], [(12, (pBox Zi 12 (default : Zd)))], [13], [], [12]⟩, ⟨[.op 1 0, .op 2 0], _, [13], [0, 1, 2], [12]⟩]) (F := [.old 0, .old 1, .old 2, .old 3, .old 4, .op 3 0]) (hst.pick [0, 1, 2, 3, 4] rfl) hb Zb
                       (o_p rfl (Zb8 Zbi rfl rfl u_0) <| o_p rfl (Zp Znk (Zgf _ h36) rfl rfl (.cons u_0 .nil)) <| o_p rfl (Zbb (zs := [.int .i64 0, .int .i64 0, .int .i64 0, .int .i64 0, .float .f64 0, .int .i64 0, .string ByteArray.empty, .slice none 0 0]) (by kernel_rfl) (fun g => Zch g) rfl rfl) <| o_p rfl (Zby Zbi rfl rfl u_1 u_0) <| o_n) (by kernel_rfl) (fun a g hst hb => ?_)
                     refine r_s (T := [⟨[], [(13, (pBox Zs 13 (default : Zg)))], [14], [], [13]⟩]) (F := [.old 0, .old 1, .old 2, .old 3, .old 4, .old 5, .op 0 0]) hst hb Zb
                       (o_p rfl (Zbb (zs := [.int .i64 0, .int .i64 0, .int .i64 0, .int .i64 0, .int .i64 0, .int .i64 0, .float .f64 0, .int .i64 0, .string ByteArray.empty, .slice none 0 0]) (by kernel_rfl) (fun g => Zdy g) rfl rfl) <| o_n) (by kernel_rfl) (fun a g hst hb => ?_)
                     refine wp_seq ?_
                     obtain ⟨h37, H0⟩ := Zkd H0; obtain ⟨r38, h39, H0⟩ := Zh H0
                     refine r_s (T := [⟨[], _, [], [], [108]⟩, ⟨[.old 2], _, [], [], [109]⟩, ⟨[.op 1 0], _, [], [1], [110]⟩, ⟨[.op 0 0, .op 2 0], [(111, (pFun Tryd.prog (Phi a2.Kind)))], [], [0, 1, 2], [111]⟩, ⟨[.old 2], _, [], [], [112]⟩, ⟨[.op 3 0, .old 0, .op 4 0, .old 6], [(113, (pInt .i64 r38.1)), (3, (pBox Zi 3 r38.2.1)), (13, (pBox Zs 13 r38.2.2))], [4, 14], Lr 5, [3, 13, 113]⟩, ⟨[.op 5 0], _, [], Lr 6, [14]⟩]) (F := [.op 5 1, .old 1, .old 3, .old 4, .old 5, .op 5 2, .op 6 0]) hst hb Zb
                       (o_p rfl (Zp Z7p Zsr rfl rfl .nil) <| o_p rfl (Ze Zhq rfl rfl u_0) <| o_p rfl (Zf ty_3 rfl rfl u_0) <| o_p rfl (Zw3 Tryd.underlying113 (by kernel_rfl) ⟨_, Tryd.underlying112, rfl⟩ (by have := h37; omega) (Z5q h37) (by have := h37; omega) rfl rfl u_0 u_1) <| o_p rfl (Zf Ze9 rfl rfl u_0) <| o_p rfl (Zzt (hs := [(3, none, 3), (13, none, 13)]) (Z4o h39) rfl rfl rfl u_0 (.box u_1 u_1 rfl (.val u_2 (.box u_3 u_3 rfl .nil))) rfl rfl rfl) <| o_p rfl (Zc rfl rfl u_0) <| o_n) (by kernel_rfl) (fun a g hst hb => ?_)
                     refine r_s (T := [⟨[.old 6], _, [], [], [114]⟩, ⟨[.op 0 0], _, [], [0], [115]⟩]) (F := [.old 0, .old 1, .old 2, .old 3, .old 4, .old 5, .old 6, .op 1 0]) hst hb Zb
                       (o_p rfl (Za rfl rfl u_0) <| o_p rfl (Zer rfl rfl u_0 c_i) <| o_n) (by kernel_rfl) (fun a g hst hb => ?_)
                     refine wp_cond_split (hst.bool 7 rfl) (fun hc40 => ?_) (fun hc40 => ?_)
                     · replace H0 := Z0 hc40 H0
                       refine r_s (L := [(3, _), (4, _), (6, _), (8, _), (12, _), (14, _)]) (T := [⟨[.old 4], _, [], [], [116]⟩, ⟨[.old 1], _, [], [], [117]⟩, ⟨[.old 5], _, [], [], [118]⟩, ⟨[.op 2 0], _, [], [2], [119]⟩, ⟨[.op 0 0, .old 2], _, [7], [0], [6]⟩, ⟨[.op 1 0], _, [], [0, 1, 4], [7]⟩, ⟨[.op 3 0, .old 3], _, [9], Lr 6, [8]⟩]) (F := [.old 0, .old 1, .op 4 0, .op 5 0, .op 6 0]) (hst.pick [0, 1, 2, 3, 4, 6] rfl) hb Zb
                         (o_p rfl (Zf Zbi rfl rfl u_0) <| o_p rfl (Zf ty_4 rfl rfl u_0) <| o_p rfl (Za rfl rfl u_0) <| o_p rfl (Ztf rfl rfl u_0) <| o_p rfl (Z6 Zbi rfl rfl u_1 u_0) <| o_p rfl (Zc rfl rfl u_0) <| o_p rfl (Z6 Zcb rfl rfl u_1 u_0) <| o_n) (by kernel_rfl) (fun a g hst hb => ?_)
                       refine wp_ret ?_
                       refine Zn ?_
                       obtain rfl := Option.some.inj H0
                       obtain ⟨u0, hu0, hq0⟩ := Zbh (P := Tryd.prog) Zbi (hst.at 2 rfl)
                       obtain ⟨u2, hu2, hq2⟩ := Zbh (P := Tryd.prog) Zcb (hst.at 4 rfl)
                       exact Zju rfl hst hb hu0 (Zm (s := 7)) hu2 (Zhs hq0 (hst.at 3 rfl) hq2)
                     · replace H0 := Zz hc40 H0
                       refine wp_skip ?_
                       refine Zu ?_
                       refine r_s (L := [(3, _), (4, _), (6, _), (8, _), (13, _)]) (T := [⟨[.old 0], _, [], [], [120]⟩, ⟨[.old 1], _, [], [], [121]⟩, ⟨[.old 4], _, [], [], [122]⟩, ⟨[.op 0 0, .old 2], _, [7], [0], [6]⟩, ⟨[.op 1 0], _, [], [0, 1, 3], [7]⟩, ⟨[.op 2 0, .old 3], _, [9], Lr 5, [8]⟩]) (F := [.old 0, .old 1, .op 3 0, .op 4 0, .op 5 0]) (hst.pick [0, 1, 2, 3, 5] rfl) hb Zb
                         (o_p rfl (Zb8 Zbi rfl rfl u_0) <| o_p rfl (Zf ty_4 rfl rfl u_0) <| o_p rfl (Zb8 Zcb rfl rfl u_0) <| o_p rfl (Z6 Zbi rfl rfl u_1 u_0) <| o_p rfl (Zc rfl rfl u_0) <| o_p rfl (Z6 Zcb rfl rfl u_1 u_0) <| o_n) (by kernel_rfl) (fun a g hst hb => ?_)
                       refine wp_ret ?_
                       obtain rfl := Option.some.inj H0
                       obtain ⟨u0, hu0, hq0⟩ := Zbh (P := Tryd.prog) Zbi (hst.at 2 rfl)
                       obtain ⟨u2, hu2, hq2⟩ := Zbh (P := Tryd.prog) Zcb (hst.at 4 rfl)
                       exact Zju rfl hst hb hu0 (Zm (s := 7)) hu2 (Zhs hq0 (hst.at 3 rfl) hq2)
     · refine wp_cond_split (hst.bool 6 rfl) (fun hc10 => ?_) (fun hc10 => ?_)
       · replace H0 := Z0 hc10 H0
         obtain ⟨r11, h12, H0⟩ := Zh H0
         refine r_s (L := [(3, _), (4, _), (5, _), (6, _), (8, _), (9, _)]) (T := [⟨[.old 0], _, [], [], [32]⟩, ⟨[.op 0 0], _, [], [0], [33]⟩, ⟨[.op 1 0], _, [], [0, 1], [11]⟩]) (F := [.old 0, .old 1, .old 2, .old 3, .old 4, .old 5, .op 2 0]) (hst.pick [0, 1, 2, 3, 4, 5] rfl) hb Zb
           (o_p rfl (Zb8 Zbi rfl rfl u_0) <| o_p rfl (Zp Zzj (Zmy _ h12) rfl rfl (.cons u_0 .nil)) <| o_p rfl (Zc rfl rfl u_0) <| o_n) (by kernel_rfl) (fun a g hst hb => ?_)
         refine r_s (T := [⟨[.old 6], _, [], [], [34]⟩, ⟨[.op 0 0], _, [], [0], [35]⟩]) (F := [.old 0, .old 1, .old 2, .old 3, .old 4, .old 5, .old 6, .op 1 0]) hst hb Zb
           (o_p rfl (Za rfl rfl u_0) <| o_p rfl (Zer rfl rfl u_0 c_i) <| o_n) (by kernel_rfl) (fun a g hst hb => ?_)
         refine wp_cond_split (hst.bool 7 rfl) (fun hc13 => ?_) (fun hc13 => ?_)
         · replace H0 := Z0 hc13 H0
           obtain ⟨r14, h15, H0⟩ := Zh H0
           refine r_s (L := [(3, _), (4, _), (6, _), (8, _), (9, _), (11, _)]) (T := [⟨[.old 4], _, [], [], [36]⟩, ⟨[.old 5], _, [], [], [37]⟩, ⟨[.op 0 0, .op 1 0, .old 0], [(38, (pTup [(Zi.pd r14.1), (Zbd r14.2.1), (Zs.pd r14.2.2.1)])), (3, (pBox Zi 3 r14.2.2.2))], [4], [0, 1], [3, 9, 36, 38]⟩, ⟨[.op 2 0], _, [], [0, 1, 2], [39]⟩, ⟨[.op 2 0], _, [], [0, 1, 2], [40]⟩, ⟨[.op 2 0], _, [], [0, 1, 2], [41]⟩, ⟨[.op 3 0, .old 2], _, [7], Lr 6, [6]⟩, ⟨[.op 4 0], _, [], Lr 7, [7]⟩, ⟨[.op 5 0, .old 3], _, [9], Lr 8, [8]⟩]) (F := [.op 2 1, .old 1, .op 6 0, .op 7 0, .op 8 0]) (hst.pick [0, 1, 3, 4, 5, 6] rfl) hb Zb
             (o_p rfl (Za rfl rfl u_0) <| o_p rfl (Za rfl rfl u_0) <| o_p rfl (Zld (Ps := [.val (pInt .i64 r11)]) (hs := []) (ks := [(3, none, 3)]) Zsz (Zhx _ _ _ h15) rfl rfl rfl u_0 (.val u_1 .nil) (.box u_2 rfl (.val .nil)) rfl rfl rfl rfl) <| o_p rfl (Z4 rfl rfl u_0 rfl) <| o_p rfl (Z4 rfl rfl u_0 rfl) <| o_p rfl (Z4 rfl rfl u_0 rfl) <| o_p rfl (Z6 Zbi rfl rfl u_1 u_0) <| o_p rfl (Zc rfl rfl u_0) <| o_p rfl (Z6 Zcb rfl rfl u_1 u_0) <| o_n) (by kernel_rfl) (fun a g hst hb => ?_)
           refine wp_ret ?_
           refine Zn ?_
           refine Zn ?_
           obtain rfl := Option.some.inj H0
           obtain ⟨u0, hu0, hq0⟩ := Zbh (P := Tryd.prog) Zbi (hst.at 2 rfl)
           obtain ⟨u2, hu2, hq2⟩ := Zbh (P := Tryd.prog) Zcb (hst.at 4 rfl)
           exact Zju rfl hst hb hu0 (Zm (s := 7)) hu2 (Zhs hq0 (hst.at 3 rfl) hq2)
         · replace H0 := Zz hc13 H0
           refine wp_skip ?_
           exact ⟨g, rfl, (hst.pick [0, 1, 2, 3, 4, 5] rfl), hb, H0⟩
       · replace H0 := Zz hc10 H0
         refine wp_skip ?_
         exact ⟨g, rfl, (hst.pick [0, 1, 2, 3, 4, 5] rfl), hb, H0⟩
 · refine wp_cond_split (hst.bool 5 rfl) (fun hc1 => ?_) (fun hc1 => ?_)
   · replace H0 := Z0 hc1 H0
     refine r_g (L := [(3, _), (4, _), (5, _), (6, _), (8, _)]) (T := [⟨[], _, [], [], [17]⟩, ⟨[.op 0 0, .old 0], _, [4], [0], [3]⟩]) (F := [.op 1 0, .old 1, .old 2, .old 3, .old 4]) (hst.pick [0, 1, 2, 3, 4] rfl) hb Zb
       (o_p rfl (Zpj rfl rfl ) <| o_p rfl (Z6 Zbi rfl rfl u_1 u_0) <| o_n) (by kernel_rfl) (fun a g hst hb => ?_)
     exact ⟨({ Kind := (0 : Int), Num := (0 : Int), Low := (0 : Int), High := (0 : Int), Real := (0 : Nat), Cap := (0 : Int), Text := ByteArray.empty, List := ([] : List Zj) } : Zd), g, rfl, (hst.pick [0, 1, 2, 3, 4] rfl), hb, H0⟩
   · replace H0 := Zz hc1 H0
     refine wp_skip ?_
     exact ⟨a0, g, rfl, (hst.pick [0, 1, 2, 3, 4] rfl), hb, H0⟩
theorem Zww (a0 : Int) {r : Bool} (h : Zni a0 = some r) : FnOk Tryd.prog 36 [(pInt .i64 a0)] (Zbd r) := by
 have H0 := h
 unfold Zni at H0
 clear h
 refine Zbu (N := 21) Tryd.func36 rfl rfl (Nat.le_of_ble_eq_true rfl) rfl rfl (fun a g0 hst hb => ?_)
 refine r_s (T := [⟨[], _, [], [], [2]⟩]) (F := [.old 0]) hst hb Zb
   (o_p rfl (Zc rfl rfl c_b) <| o_n) (by kernel_rfl) (fun a g hst hb => ?_)
 refine r_s (T := ⟨[.old 0], _, [], [], [3]⟩ :: ⟨[.op 0 0], _, [], [0], [4]⟩ :: ⟨[.op 1 0], _, [], [0, 1], [5]⟩ :: ⟨[.op 2 0, .old 0], _, [], [0, 1, 2], [6]⟩ :: ⟨[.op 2 0, .op 3 0], _, [], Lr 4, [7]⟩ :: ⟨[.op 2 0, .op 4 0], _, [], Lr 5, [8]⟩ :: ⟨[.op 5 0], _, [], Lr 6, [9]⟩ :: ⟨[.op 6 0, .old 0], _, [], Lr 7, [10]⟩ :: ⟨[.op 6 0, .op 7 0], _, [], Lr 8, [11]⟩ :: ⟨[.op 6 0, .op 8 0], _, [], Lr 9, [12]⟩ :: ⟨[.op 9 0], _, [], Lr 10, [13]⟩ :: ⟨[.op 10 0, .old 0], _, [], Lr 11, [14]⟩ :: ⟨[.op 10 0, .op 11 0], _, [], Lr 12, [15]⟩ :: ⟨[.op 10 0, .op 12 0], _, [], Lr 13, [16]⟩ :: ⟨[.op 13 0], _, [], Lr 14, [17]⟩ :: ⟨[.op 14 0, .old 0], _, [], Lr 15, [18]⟩ :: ⟨[.op 14 0, .op 15 0], _, [], Lr 16, [19]⟩ :: ⟨[.op 14 0, .op 16 0], _, [], Lr 17, [20]⟩ :: ⟨[.op 17 0], _, [], Lr 18, [2]⟩ :: []) (F := [.op 18 0]) hst hb Zb
   (o_p rfl (Za rfl rfl u_0) <| o_p rfl (Zbw rfl rfl u_0 c_i) <| o_p rfl (Za rfl rfl u_0) <| o_g (g_f rfl rfl rfl (fun hG => Za rfl rfl u_0)) <| o_g (g_f rfl rfl rfl (fun hG => Zbw rfl rfl (Opd.gd hG u_0) c_i)) <| o_p rfl (Zbz rfl rfl u_0 (fun hz => (Opd.gd (bNF hz) u_1))) <| o_p rfl (Za rfl rfl u_0) <| o_g (g_f rfl rfl rfl (fun hG => Za rfl rfl u_0)) <| o_g (g_f rfl rfl rfl (fun hG => Zbw rfl rfl (Opd.gd hG u_0) c_i)) <| o_p rfl (Zbz rfl rfl u_0 (fun hz => (Opd.gd (bNF hz) u_1))) <| o_p rfl (Za rfl rfl u_0) <| o_g (g_f rfl rfl rfl (fun hG => Za rfl rfl u_0)) <| o_g (g_f rfl rfl rfl (fun hG => Zbw rfl rfl (Opd.gd hG u_0) c_i)) <| o_p rfl (Zbz rfl rfl u_0 (fun hz => (Opd.gd (bNF hz) u_1))) <| o_p rfl (Za rfl rfl u_0) <| o_g (g_f rfl rfl rfl (fun hG => Za rfl rfl u_0)) <| o_g (g_f rfl rfl rfl (fun hG => Zbw rfl rfl (Opd.gd hG u_0) c_i)) <| o_p rfl (Zbz rfl rfl u_0 (fun hz => (Opd.gd (bNF hz) u_1))) <| o_p rfl (Zc rfl rfl u_0) <| o_n) (by kernel_rfl) (fun a g hst hb => ?_)
 refine wp_ret ?_
 obtain rfl := Option.some.inj H0
 exact Z3 rfl hst hb (Zm (s := 2)) (hst.at 0 rfl)
theorem Zo2 (a0 : shelf_nodeT) {r : shelf_nodeT} (h : Zhi a0 = some r) : FnOk Tryd.prog 85 [(Z2.pd a0)] (Z2.pd r) := by
 have H0 := h
 unfold Zhi at H0
 clear h
 refine Zbu (N := 13) Tryd.func85 rfl rfl (Nat.le_of_ble_eq_true rfl) rfl rfl (fun a g0 hst hb => ?_)
 refine r_s (T := [⟨[], [(2, (Z2.pd shelf_nodeT.nil))], [], [], [2]⟩]) (F := [.old 0]) hst hb Zb
   (o_p rfl (Zc rfl rfl (Opd.c (fun g => Zdt g))) <| o_n) (by kernel_rfl) (fun a g hst hb => ?_)
 obtain ⟨z6, hz1, H0⟩ := Zh H0
 refine wp_seq ?_
 refine Zc0 (fun a w => ∃ (y5 : shelf_nodeT) (g : G), w = g.w ∧ St 13 [(0, (Z2.pd y5))] a g ∧ Base g0 g ∧ y5 = z6) ?_ ?_
 · rintro a w ⟨y5, g, rfl, hst, hb, rfl⟩
   refine Zu ?_
   refine r_s (T := [⟨[.old 0], _, [], [], [12]⟩, ⟨[.op 0 0], _, [], [0], [2]⟩]) (F := [.op 1 0]) hst hb Zb
     (o_p rfl (Za rfl rfl u_0) <| o_p rfl (Zc rfl rfl u_0) <| o_n) (by kernel_rfl) (fun a g hst hb => ?_)
   refine wp_ret ?_
   obtain rfl := Option.some.inj H0
   exact Z3 rfl hst hb (Zm (s := 2)) (hst.at 0 rfl)
 · refine wp_block ?_
   refine wp_loop_ghost (fun n a w => ∃ (x1 : shelf_nodeT) (g : G), w = g.w ∧ St 13 [(0, (Z2.pd x1))] a g ∧ Base g0 g ∧ Zed n x1 = some z6) (a0.hh + 1) ⟨a0, g, rfl, (hst.pick [0] rfl), hb, hz1⟩ (fun n a w hI => ?_)
   obtain ⟨x1, g, rfl, hst, hb, H1⟩ := hI
   cases n with
   | zero => exact absurd H1 (by simp [Zed])
   | succ n =>
     rw [Zed] at H1
     refine wp_seq ?_
     obtain ⟨n2, h3, H1⟩ := Zh H1
     refine r_s (T := [⟨[.old 0], _, [], [], [3]⟩, ⟨[.op 0 0], _, [], [0], [4]⟩, ⟨[.op 1 0], _, [], [0, 1], [5]⟩, ⟨[.op 2 0], _, [], [0, 1, 2], [6]⟩, ⟨[.op 3 0], _, [], Lr 4, [7]⟩]) (F := [.old 0, .op 4 0]) hst hb Zb
       (o_p rfl (Za rfl rfl u_0) <| o_p rfl (Zo rfl rfl (Opd.imp u_0 (fun _ _ h => Zr h3 h)) (fun _ _ ⟨_, _, _, e, _⟩ => ⟨_, e⟩)) <| o_p rfl (Ze Zd9 rfl rfl u_0) <| o_p rfl (Zf Zcv rfl rfl u_0) <| o_p rfl (Zvv Tryd.underlying25 rfl rfl u_0 (Zeb _)) <| o_n) (by kernel_rfl) (fun a g hst hb => ?_)
     refine wp_cond_split (hst.bool 1 rfl) (fun hc4 => ?_) (fun hc4 => ?_)
     · replace H1 := Z0 hc4 H1
       refine wp_skip ?_
       refine Zu ?_
       refine wp_block ?_
       refine r_g (L := [(0, _)]) (T := [⟨[.old 0], _, [], [], [8]⟩, ⟨[.op 0 0], _, [], [0], [9]⟩, ⟨[.op 1 0], _, [], [0, 1], [10]⟩, ⟨[.op 2 0], _, [], [0, 1, 2], [11]⟩, ⟨[.op 3 0], _, [], Lr 4, [0]⟩]) (F := [.op 4 0]) (hst.pick [0] rfl) hb Zb
         (o_p rfl (Za rfl rfl u_0) <| o_p rfl (Zo rfl rfl (Opd.imp u_0 (fun _ _ h => Zr h3 h)) (fun _ _ ⟨_, _, _, e, _⟩ => ⟨_, e⟩)) <| o_p rfl (Ze Zd9 rfl rfl u_0) <| o_p rfl (Zf Zcv rfl rfl u_0) <| o_p rfl (Zc rfl rfl u_0) <| o_n) (by kernel_rfl) (fun a g hst hb => ?_)
       refine Zbt ?_
       exact ⟨n, Nat.lt_succ_self _, n2.left, g, rfl, (hst.pick [0] rfl), hb, H1⟩
     · replace H1 := Zz hc4 H1
       refine wp_exit ?_
       refine Zca ?_
       refine Zca ?_
       refine Zcz ?_
       exact ⟨x1, g, rfl, (hst.pick [0] rfl), hb, Option.some.inj H1⟩
theorem Zo6 (self : shelf_nodeT → ByteArray → Option (shelf_nodeT)) (hself : ∀ (a0 : shelf_nodeT) (a1 : ByteArray) {r : shelf_nodeT}, self a0 a1 = some r → FnOk Tryd.prog 53 [(Z2.pd a0), (pStr a1)] (Z2.pd r)) (a0 : shelf_nodeT) (a1 : ByteArray) {r : shelf_nodeT} (h : Ziy self a0 a1 = some r) : FnOk Tryd.prog 53 [(Z2.pd a0), (pStr a1)] (Z2.pd r) := by
 have H0 := h
 unfold Ziy at H0
 clear h
 refine Zbu (N := 108) Tryd.func53 rfl rfl (Nat.le_of_ble_eq_true rfl) rfl rfl (fun a g0 hst hb => ?_)
 refine r_s (T := [⟨[], [(4, (Z2.pd shelf_nodeT.nil))], [], [], [4]⟩]) (F := [.old 0, .old 1]) hst hb Zb
   (o_p rfl (Zc rfl rfl (Opd.c (fun g => Zdt g))) <| o_n) (by kernel_rfl) (fun a g hst hb => ?_)
 refine wp_seq ?_
 refine wp_block ?_
 refine r_s (T := [⟨[.old 0], _, [], [], [7]⟩, ⟨[.op 0 0], _, [], [0], [8]⟩, ⟨[.op 1 0], _, [], [0, 1], [6]⟩]) (F := [.old 0, .old 1, .op 2 0]) hst hb Zb
   (o_p rfl (Za rfl rfl u_0) <| o_p rfl (Zn8 Tryd.underlying25 rfl rfl u_0 (Zeb _)) <| o_p rfl (Zc rfl rfl u_0) <| o_n) (by kernel_rfl) (fun a g hst hb => ?_)
 refine wp_cond_split (hst.bool 2 rfl) (fun hc1 => ?_) (fun hc1 => ?_)
 · replace H0 := Z0 hc1 H0
   refine r_s (L := []) (T := [⟨[], [(4, (Z2.pd shelf_nodeT.nil))], [], [], [4]⟩]) (F := [.op 0 0]) (hst.pick [] rfl) hb Zb
     (o_p rfl (Zc rfl rfl (Opd.c (fun g => Zdt g))) <| o_n) (by kernel_rfl) (fun a g hst hb => ?_)
   refine wp_ret ?_
   refine Zw ?_
   refine Zn ?_
   obtain rfl := Option.some.inj H0
   exact Z3 rfl hst hb (Zm (s := 4)) (hst.at 0 rfl)
 · replace H0 := Zz hc1 H0
   obtain ⟨n2, h3, H0⟩ := Zh H0
   refine r_s (L := [(0, _), (1, _)]) (T := [⟨[.old 1], _, [], [], [10]⟩, ⟨[.old 0], _, [], [], [11]⟩, ⟨[.op 1 0], _, [], [1], [12]⟩, ⟨[.op 2 0], _, [], [1, 2], [13]⟩, ⟨[.op 3 0], _, [], [1, 2, 3], [14]⟩, ⟨[.op 0 0, .op 4 0], _, [], Lr 5, [15]⟩, ⟨[.op 5 0], _, [], Lr 6, [9]⟩]) (F := [.old 0, .old 1, .op 6 0]) (hst.pick [0, 1] rfl) hb Zb
     (o_p rfl (Za rfl rfl u_0) <| o_p rfl (Za rfl rfl u_0) <| o_p rfl (Zo rfl rfl (Opd.imp u_0 (fun _ _ h => Zr h3 h)) (fun _ _ ⟨_, _, _, e, _⟩ => ⟨_, e⟩)) <| o_p rfl (Ze Zes rfl rfl u_0) <| o_p rfl (Zf ty_9 rfl rfl u_0) <| o_p rfl (Zl8 rfl rfl u_0 u_1) <| o_p rfl (Zc rfl rfl u_0) <| o_n) (by kernel_rfl) (fun a g hst hb => ?_)
   refine wp_cond_split (hst.bool 2 rfl) (fun hc4 => ?_) (fun hc4 => ?_)
   · replace H0 := Z0 hc4 H0
     obtain ⟨r5, h6, H0⟩ := Zh H0; obtain ⟨r7, h8, H0⟩ := Zh H0
     refine r_s (L := [(0, _), (1, _)]) (T := ⟨[.old 0], _, [], [], [16]⟩ :: ⟨[.op 0 0], _, [], [0], [17]⟩ :: ⟨[.op 1 0], _, [], [0, 1], [18]⟩ :: ⟨[.op 2 0], _, [], [0, 1, 2], [19]⟩ :: ⟨[.old 0], _, [], [], [20]⟩ :: ⟨[.op 4 0], _, [], [4], [21]⟩ :: ⟨[.op 5 0], _, [], [4, 5], [22]⟩ :: ⟨[.op 6 0], _, [], [4, 5, 6], [23]⟩ :: ⟨[.old 0], _, [], [], [24]⟩ :: ⟨[.op 8 0], _, [], [8], [25]⟩ :: ⟨[.op 9 0], _, [], [8, 9], [26]⟩ :: ⟨[.op 10 0], _, [], [8, 9, 10], [27]⟩ :: ⟨[.old 1], _, [], [], [28]⟩ :: ⟨[.op 11 0, .op 12 0], _, [], List.range' 8 5, [29]⟩ :: ⟨[.old 0], _, [], [], [30]⟩ :: ⟨[.op 14 0], _, [], [14], [31]⟩ :: ⟨[.op 15 0], _, [], [14, 15], [32]⟩ :: ⟨[.op 16 0], _, [], [14, 15, 16], [33]⟩ :: ⟨[.op 3 0, .op 7 0, .op 13 0, .op 17 0], _, [], Lr 18, [34]⟩ :: ⟨[.op 18 0], _, [], Lr 19, [4]⟩ :: []) (F := [.op 19 0]) (hst.pick [0, 1] rfl) hb Zb
       (o_p rfl (Za rfl rfl u_0) <| o_p rfl (Zo rfl rfl (Opd.imp u_0 (fun _ _ h => Zr h3 h)) (fun _ _ ⟨_, _, _, e, _⟩ => ⟨_, e⟩)) <| o_p rfl (Ze Zes rfl rfl u_0) <| o_p rfl (Zf ty_9 rfl rfl u_0) <| o_p rfl (Za rfl rfl u_0) <| o_p rfl (Zo rfl rfl (Opd.imp u_0 (fun _ _ h => Zr h3 h)) (fun _ _ ⟨_, _, _, e, _⟩ => ⟨_, e⟩)) <| o_p rfl (Ze Zhf rfl rfl u_0) <| o_p rfl (Zf Zbi rfl rfl u_0) <| o_p rfl (Za rfl rfl u_0) <| o_p rfl (Zo rfl rfl (Opd.imp u_0 (fun _ _ h => Zr h3 h)) (fun _ _ ⟨_, _, _, e, _⟩ => ⟨_, e⟩)) <| o_p rfl (Ze Zd9 rfl rfl u_0) <| o_p rfl (Zf Zcv rfl rfl u_0) <| o_p rfl (Za rfl rfl u_0) <| o_p rfl (Zp Zu5 (hself _ _ h6) rfl rfl (.cons u_0 (.cons u_1 .nil))) <| o_p rfl (Za rfl rfl u_0) <| o_p rfl (Zo rfl rfl (Opd.imp u_0 (fun _ _ h => Zr h3 h)) (fun _ _ ⟨_, _, _, e, _⟩ => ⟨_, e⟩)) <| o_p rfl (Ze Zeu rfl rfl u_0) <| o_p rfl (Zf Zcv rfl rfl u_0) <| o_p rfl (Zp Zsc (Zi2 _ _ _ _ h8) rfl rfl (.cons u_0 (.cons u_1 (.cons u_2 (.cons u_3 .nil))))) <| o_p rfl (Zc rfl rfl u_0) <| o_n) (by kernel_rfl) (fun a g hst hb => ?_)
     refine wp_ret ?_
     refine Zw ?_
     refine Zn ?_
     obtain rfl := Option.some.inj H0
     exact Z3 rfl hst hb (Zm (s := 4)) (hst.at 0 rfl)
   · replace H0 := Zz hc4 H0
     refine r_s (L := [(0, _), (1, _)]) (T := [⟨[.old 1], _, [], [], [36]⟩, ⟨[.old 0], _, [], [], [37]⟩, ⟨[.op 1 0], _, [], [1], [38]⟩, ⟨[.op 2 0], _, [], [1, 2], [39]⟩, ⟨[.op 3 0], _, [], [1, 2, 3], [40]⟩, ⟨[.op 0 0, .op 4 0], _, [], Lr 5, [41]⟩, ⟨[.op 5 0], _, [], Lr 6, [35]⟩]) (F := [.old 0, .old 1, .op 6 0]) (hst.pick [0, 1] rfl) hb Zb
       (o_p rfl (Za rfl rfl u_0) <| o_p rfl (Za rfl rfl u_0) <| o_p rfl (Zo rfl rfl (Opd.imp u_0 (fun _ _ h => Zr h3 h)) (fun _ _ ⟨_, _, _, e, _⟩ => ⟨_, e⟩)) <| o_p rfl (Ze Zes rfl rfl u_0) <| o_p rfl (Zf ty_9 rfl rfl u_0) <| o_p rfl (Zsa rfl rfl u_0 u_1) <| o_p rfl (Zc rfl rfl u_0) <| o_n) (by kernel_rfl) (fun a g hst hb => ?_)
     refine wp_cond_split (hst.bool 2 rfl) (fun hc9 => ?_) (fun hc9 => ?_)
     · replace H0 := Z0 hc9 H0
       obtain ⟨r10, h11, H0⟩ := Zh H0; obtain ⟨r12, h13, H0⟩ := Zh H0
       refine r_s (L := [(0, _), (1, _)]) (T := ⟨[.old 0], _, [], [], [42]⟩ :: ⟨[.op 0 0], _, [], [0], [43]⟩ :: ⟨[.op 1 0], _, [], [0, 1], [44]⟩ :: ⟨[.op 2 0], _, [], [0, 1, 2], [45]⟩ :: ⟨[.old 0], _, [], [], [46]⟩ :: ⟨[.op 4 0], _, [], [4], [47]⟩ :: ⟨[.op 5 0], _, [], [4, 5], [48]⟩ :: ⟨[.op 6 0], _, [], [4, 5, 6], [49]⟩ :: ⟨[.old 0], _, [], [], [50]⟩ :: ⟨[.op 8 0], _, [], [8], [51]⟩ :: ⟨[.op 9 0], _, [], [8, 9], [52]⟩ :: ⟨[.op 10 0], _, [], [8, 9, 10], [53]⟩ :: ⟨[.old 0], _, [], [], [54]⟩ :: ⟨[.op 12 0], _, [], [12], [55]⟩ :: ⟨[.op 13 0], _, [], [12, 13], [56]⟩ :: ⟨[.op 14 0], _, [], [12, 13, 14], [57]⟩ :: ⟨[.old 1], _, [], [], [58]⟩ :: ⟨[.op 15 0, .op 16 0], _, [], List.range' 12 5, [59]⟩ :: ⟨[.op 3 0, .op 7 0, .op 11 0, .op 17 0], _, [], Lr 18, [60]⟩ :: ⟨[.op 18 0], _, [], Lr 19, [4]⟩ :: []) (F := [.op 19 0]) (hst.pick [0, 1] rfl) hb Zb
         (o_p rfl (Za rfl rfl u_0) <| o_p rfl (Zo rfl rfl (Opd.imp u_0 (fun _ _ h => Zr h3 h)) (fun _ _ ⟨_, _, _, e, _⟩ => ⟨_, e⟩)) <| o_p rfl (Ze Zes rfl rfl u_0) <| o_p rfl (Zf ty_9 rfl rfl u_0) <| o_p rfl (Za rfl rfl u_0) <| o_p rfl (Zo rfl rfl (Opd.imp u_0 (fun _ _ h => Zr h3 h)) (fun _ _ ⟨_, _, _, e, _⟩ => ⟨_, e⟩)) <| o_p rfl (Ze Zhf rfl rfl u_0) <| o_p rfl (Zf Zbi rfl rfl u_0) <| o_p rfl (Za rfl rfl u_0) <| o_p rfl (Zo rfl rfl (Opd.imp u_0 (fun _ _ h => Zr h3 h)) (fun _ _ ⟨_, _, _, e, _⟩ => ⟨_, e⟩)) <| o_p rfl (Ze Zd9 rfl rfl u_0) <| o_p rfl (Zf Zcv rfl rfl u_0) <| o_p rfl (Za rfl rfl u_0) <| o_p rfl (Zo rfl rfl (Opd.imp u_0 (fun _ _ h => Zr h3 h)) (fun _ _ ⟨_, _, _, e, _⟩ => ⟨_, e⟩)) <| o_p rfl (Ze Zeu rfl rfl u_0) <| o_p rfl (Zf Zcv rfl rfl u_0) <| o_p rfl (Za rfl rfl u_0) <| o_p rfl (Zp Zu5 (hself _ _ h11) rfl rfl (.cons u_0 (.cons u_1 .nil))) <| o_p rfl (Zp Zsc (Zi2 _ _ _ _ h13) rfl rfl (.cons u_0 (.cons u_1 (.cons u_2 (.cons u_3 .nil))))) <| o_p rfl (Zc rfl rfl u_0) <| o_n) (by kernel_rfl) (fun a g hst hb => ?_)
       refine wp_ret ?_
       refine Zw ?_
       refine Zn ?_
       obtain rfl := Option.some.inj H0
       exact Z3 rfl hst hb (Zm (s := 4)) (hst.at 0 rfl)
     · replace H0 := Zz hc9 H0
       refine r_s (L := [(0, _)]) (T := [⟨[.old 0], _, [], [], [62]⟩, ⟨[.op 0 0], _, [], [0], [63]⟩, ⟨[.op 1 0], _, [], [0, 1], [64]⟩, ⟨[.op 2 0], _, [], [0, 1, 2], [65]⟩, ⟨[.op 3 0], _, [], Lr 4, [66]⟩, ⟨[.op 4 0], _, [], Lr 5, [61]⟩]) (F := [.old 0, .op 5 0]) (hst.pick [0] rfl) hb Zb
         (o_p rfl (Za rfl rfl u_0) <| o_p rfl (Zo rfl rfl (Opd.imp u_0 (fun _ _ h => Zr h3 h)) (fun _ _ ⟨_, _, _, e, _⟩ => ⟨_, e⟩)) <| o_p rfl (Ze Zd9 rfl rfl u_0) <| o_p rfl (Zf Zcv rfl rfl u_0) <| o_p rfl (Zn8 Tryd.underlying25 rfl rfl u_0 (Zeb _)) <| o_p rfl (Zc rfl rfl u_0) <| o_n) (by kernel_rfl) (fun a g hst hb => ?_)
       refine wp_cond_split (hst.bool 1 rfl) (fun hc14 => ?_) (fun hc14 => ?_)
       · replace H0 := Z0 hc14 H0
         refine r_s (L := [(0, _)]) (T := [⟨[.old 0], _, [], [], [67]⟩, ⟨[.op 0 0], _, [], [0], [68]⟩, ⟨[.op 1 0], _, [], [0, 1], [69]⟩, ⟨[.op 2 0], _, [], [0, 1, 2], [70]⟩, ⟨[.op 3 0], _, [], Lr 4, [4]⟩]) (F := [.op 4 0]) (hst.pick [0] rfl) hb Zb
           (o_p rfl (Za rfl rfl u_0) <| o_p rfl (Zo rfl rfl (Opd.imp u_0 (fun _ _ h => Zr h3 h)) (fun _ _ ⟨_, _, _, e, _⟩ => ⟨_, e⟩)) <| o_p rfl (Ze Zeu rfl rfl u_0) <| o_p rfl (Zf Zcv rfl rfl u_0) <| o_p rfl (Zc rfl rfl u_0) <| o_n) (by kernel_rfl) (fun a g hst hb => ?_)
         refine wp_ret ?_
         refine Zw ?_
         refine Zn ?_
         obtain rfl := Option.some.inj H0
         exact Z3 rfl hst hb (Zm (s := 4)) (hst.at 0 rfl)
       · replace H0 := Zz hc14 H0
         refine r_s (L := [(0, _)]) (T := [⟨[.old 0], _, [], [], [72]⟩, ⟨[.op 0 0], _, [], [0], [73]⟩, ⟨[.op 1 0], _, [], [0, 1], [74]⟩, ⟨[.op 2 0], _, [], [0, 1, 2], [75]⟩, ⟨[.op 3 0], _, [], Lr 4, [76]⟩, ⟨[.op 4 0], _, [], Lr 5, [71]⟩]) (F := [.old 0, .op 5 0]) (hst.pick [0] rfl) hb Zb
           (o_p rfl (Za rfl rfl u_0) <| o_p rfl (Zo rfl rfl (Opd.imp u_0 (fun _ _ h => Zr h3 h)) (fun _ _ ⟨_, _, _, e, _⟩ => ⟨_, e⟩)) <| o_p rfl (Ze Zeu rfl rfl u_0) <| o_p rfl (Zf Zcv rfl rfl u_0) <| o_p rfl (Zn8 Tryd.underlying25 rfl rfl u_0 (Zeb _)) <| o_p rfl (Zc rfl rfl u_0) <| o_n) (by kernel_rfl) (fun a g hst hb => ?_)
         refine wp_cond_split (hst.bool 1 rfl) (fun hc15 => ?_) (fun hc15 => ?_)
         · replace H0 := Z0 hc15 H0
           refine r_s (L := [(0, _)]) (T := [⟨[.old 0], _, [], [], [77]⟩, ⟨[.op 0 0], _, [], [0], [78]⟩, ⟨[.op 1 0], _, [], [0, 1], [79]⟩, ⟨[.op 2 0], _, [], [0, 1, 2], [80]⟩, ⟨[.op 3 0], _, [], Lr 4, [4]⟩]) (F := [.op 4 0]) (hst.pick [0] rfl) hb Zb
             (o_p rfl (Za rfl rfl u_0) <| o_p rfl (Zo rfl rfl (Opd.imp u_0 (fun _ _ h => Zr h3 h)) (fun _ _ ⟨_, _, _, e, _⟩ => ⟨_, e⟩)) <| o_p rfl (Ze Zd9 rfl rfl u_0) <| o_p rfl (Zf Zcv rfl rfl u_0) <| o_p rfl (Zc rfl rfl u_0) <| o_n) (by kernel_rfl) (fun a g hst hb => ?_)
           refine wp_ret ?_
           refine Zw ?_
           refine Zn ?_
           obtain rfl := Option.some.inj H0
           exact Z3 rfl hst hb (Zm (s := 4)) (hst.at 0 rfl)
         · replace H0 := Zz hc15 H0
           refine wp_skip ?_
           refine Zbt ?_
           refine Zu ?_
           obtain ⟨r16, h17, H0⟩ := Zh H0
           refine r_s (L := [(0, _)]) (T := [⟨[.old 0], _, [], [], [81]⟩, ⟨[.op 0 0], _, [], [0], [82]⟩, ⟨[.op 1 0], _, [], [0, 1], [83]⟩, ⟨[.op 2 0], _, [], [0, 1, 2], [84]⟩, ⟨[.op 3 0], _, [], Lr 4, [85]⟩, ⟨[.op 4 0], _, [], Lr 5, [5]⟩]) (F := [.old 0, .op 5 0]) (hst.pick [0] rfl) hb Zb
             (o_p rfl (Za rfl rfl u_0) <| o_p rfl (Zo rfl rfl (Opd.imp u_0 (fun _ _ h => Zr h3 h)) (fun _ _ ⟨_, _, _, e, _⟩ => ⟨_, e⟩)) <| o_p rfl (Ze Zeu rfl rfl u_0) <| o_p rfl (Zf Zcv rfl rfl u_0) <| o_p rfl (Zp Z8b (Zo2 _ h17) rfl rfl (.cons u_0 .nil)) <| o_p rfl (Zc rfl rfl u_0) <| o_n) (by kernel_rfl) (fun a g hst hb => ?_)
           obtain ⟨n18, h19, H0⟩ := Zh H0; obtain ⟨r20, h21, H0⟩ := Zh H0; obtain ⟨r22, h23, H0⟩ := Zh H0
           refine r_s (T := ⟨[.old 1], _, [], [], [86]⟩ :: ⟨[.op 0 0], _, [], [0], [87]⟩ :: ⟨[.op 1 0], _, [], [0, 1], [88]⟩ :: ⟨[.op 2 0], _, [], [0, 1, 2], [89]⟩ :: ⟨[.old 1], _, [], [], [90]⟩ :: ⟨[.op 4 0], _, [], [4], [91]⟩ :: ⟨[.op 5 0], _, [], [4, 5], [92]⟩ :: ⟨[.op 6 0], _, [], [4, 5, 6], [93]⟩ :: ⟨[.old 0], _, [], [], [94]⟩ :: ⟨[.op 8 0], _, [], [8], [95]⟩ :: ⟨[.op 9 0], _, [], [8, 9], [96]⟩ :: ⟨[.op 10 0], _, [], [8, 9, 10], [97]⟩ :: ⟨[.old 0], _, [], [], [98]⟩ :: ⟨[.op 12 0], _, [], [12], [99]⟩ :: ⟨[.op 13 0], _, [], [12, 13], [100]⟩ :: ⟨[.op 14 0], _, [], [12, 13, 14], [101]⟩ :: ⟨[.old 1], _, [], [], [102]⟩ :: ⟨[.op 16 0], _, [], [16], [103]⟩ :: ⟨[.op 17 0], _, [], [16, 17], [104]⟩ :: ⟨[.op 18 0], _, [], [16, 17, 18], [105]⟩ :: ⟨[.op 15 0, .op 19 0], _, [], List.range' 12 8, [106]⟩ :: ⟨[.op 3 0, .op 7 0, .op 11 0, .op 20 0], _, [], Lr 21, [107]⟩ :: ⟨[.op 21 0], _, [], Lr 22, [4]⟩ :: []) (F := [.op 22 0]) hst hb Zb
             (o_p rfl (Za rfl rfl u_0) <| o_p rfl (Zo rfl rfl (Opd.imp u_0 (fun _ _ h => Zr h19 h)) (fun _ _ ⟨_, _, _, e, _⟩ => ⟨_, e⟩)) <| o_p rfl (Ze Zes rfl rfl u_0) <| o_p rfl (Zf ty_9 rfl rfl u_0) <| o_p rfl (Za rfl rfl u_0) <| o_p rfl (Zo rfl rfl (Opd.imp u_0 (fun _ _ h => Zr h19 h)) (fun _ _ ⟨_, _, _, e, _⟩ => ⟨_, e⟩)) <| o_p rfl (Ze Zhf rfl rfl u_0) <| o_p rfl (Zf Zbi rfl rfl u_0) <| o_p rfl (Za rfl rfl u_0) <| o_p rfl (Zo rfl rfl (Opd.imp u_0 (fun _ _ h => Zr h3 h)) (fun _ _ ⟨_, _, _, e, _⟩ => ⟨_, e⟩)) <| o_p rfl (Ze Zd9 rfl rfl u_0) <| o_p rfl (Zf Zcv rfl rfl u_0) <| o_p rfl (Za rfl rfl u_0) <| o_p rfl (Zo rfl rfl (Opd.imp u_0 (fun _ _ h => Zr h3 h)) (fun _ _ ⟨_, _, _, e, _⟩ => ⟨_, e⟩)) <| o_p rfl (Ze Zeu rfl rfl u_0) <| o_p rfl (Zf Zcv rfl rfl u_0) <| o_p rfl (Za rfl rfl u_0) <| o_p rfl (Zo rfl rfl (Opd.imp u_0 (fun _ _ h => Zr h19 h)) (fun _ _ ⟨_, _, _, e, _⟩ => ⟨_, e⟩)) <| o_p rfl (Ze Zes rfl rfl u_0) <| o_p rfl (Zf ty_9 rfl rfl u_0) <| o_p rfl (Zp Zu5 (hself _ _ h21) rfl rfl (.cons u_0 (.cons u_1 .nil))) <| o_p rfl (Zp Zsc (Zi2 _ _ _ _ h23) rfl rfl (.cons u_0 (.cons u_1 (.cons u_2 (.cons u_3 .nil))))) <| o_p rfl (Zc rfl rfl u_0) <| o_n) (by kernel_rfl) (fun a g hst hb => ?_)
           refine wp_ret ?_
           obtain rfl := Option.some.inj H0
           exact Z3 rfl hst hb (Zm (s := 4)) (hst.at 0 rfl)
theorem Zlk : ∀ (n : Nat) (a0 : shelf_nodeT) (a1 : ByteArray) {r : shelf_nodeT}, Zfb n a0 a1 = some r → FnOk Tryd.prog 53 [(Z2.pd a0), (pStr a1)] (Z2.pd r)
 | 0, _, _, _, h => by simp [Zfb] at h
 | n + 1, a0, a1, _, h => Zo6 (Zfb n) (fun a0 a1 r h => Zlk n a0 a1 h) a0 a1 h
theorem Zqz (a0 : shelf_nodeT) (a1 : ByteArray) {r : shelf_nodeT} (h : Zlm a0 a1 = some r) : FnOk Tryd.prog 53 [(Z2.pd a0), (pStr a1)] (Z2.pd r) := Zlk _ a0 a1 h
theorem Zo8 (a0 : Zk) (a1 : ByteArray) {r : Zk × Bool} (h : Zfp a0 a1 = some r) : FnOk Tryd.prog 37 [(Zt.pd a0), (pStr a1)] (pTup [(Zt.pd r.1), (Zbd r.2)]) := by
 have H0 := h
 unfold Zfp at H0
 clear h
 refine Zbu (N := 24) Tryd.func37 rfl rfl (Nat.le_of_ble_eq_true rfl) rfl rfl (fun a g0 hst hb => ?_)
 refine r_s (T := [⟨[.old 0], _, [], [], [2]⟩, ⟨[], [(4, (pBox Zt 4 (default : Zk)))], [5], [], [4]⟩, ⟨[], _, [], [], [5]⟩]) (F := [.old 1, .op 0 0, .op 1 0]) hst hb Zb
   (o_p rfl (Zbl rfl rfl u_0) <| o_p rfl (Zbb (zs := [.pointer none, .int .i64 0]) (by kernel_rfl) (fun g => Zci g) rfl rfl) <| o_p rfl (Zc rfl rfl c_b) <| o_n) (by kernel_rfl) (fun a g hst hb => ?_)
 refine wp_seq ?_
 obtain ⟨r1, h2, H0⟩ := Zh H0
 refine r_s (T := [⟨[.old 1], _, [], [], [9]⟩, ⟨[.old 0], _, [], [], [10]⟩, ⟨[.op 0 0, .op 1 0], _, [], [0, 1], [11]⟩, ⟨[.op 2 0], _, [], [0, 1, 2], [8]⟩, ⟨[.op 3 0], _, [], Lr 4, [12]⟩, ⟨[.op 3 0], _, [], Lr 4, [13]⟩, ⟨[], [(6, (pBox Zi 6 (default : Zd)))], [7], [], [6]⟩, ⟨[.op 4 0, .op 6 0], _, [7], [0, 1, 2, 3, 4, 6], [6]⟩, ⟨[.op 5 0], _, [], Lr 8, [7]⟩]) (F := [.old 0, .old 1, .old 2, .op 8 0]) hst hb Zb
   (o_p rfl (Zf Zbf rfl rfl u_0) <| o_p rfl (Za rfl rfl u_0) <| o_p rfl (Zp Zzk (Zjq _ _ h2) rfl rfl (.cons u_0 (.cons u_1 .nil))) <| o_p rfl (Za rfl rfl u_0) <| o_p rfl (Z4 rfl rfl u_0 rfl) <| o_p rfl (Z4 rfl rfl u_0 rfl) <| o_p rfl (Zbb (zs := [.int .i64 0, .int .i64 0, .int .i64 0, .int .i64 0, .float .f64 0, .int .i64 0, .string ByteArray.empty, .slice none 0 0]) (by kernel_rfl) (fun g => Zch g) rfl rfl) <| o_p rfl (Zby Zbi rfl rfl u_1 u_0) <| o_p rfl (Zc rfl rfl u_0) <| o_n) (by kernel_rfl) (fun a g hst hb => ?_)
 refine r_s (T := [⟨[.old 3], _, [], [], [14]⟩, ⟨[.op 0 0], _, [], [0], [15]⟩]) (F := [.old 0, .old 1, .old 2, .op 1 0]) hst hb Zb
   (o_p rfl (Za rfl rfl u_0) <| o_p rfl (Zcn rfl rfl u_0) <| o_n) (by kernel_rfl) (fun a g hst hb => ?_)
 refine wp_cond_split (hst.bool 3 rfl) (fun hc3 => ?_) (fun hc3 => ?_)
 · replace H0 := Z0 hc3 H0
   refine r_s (L := [(2, _), (4, _)]) (T := [⟨[.old 0], _, [], [], [16]⟩, ⟨[.op 0 0, .old 1], _, [5], [0], [4]⟩, ⟨[], _, [], [0, 1], [5]⟩]) (F := [.op 1 0, .op 2 0]) (hst.pick [1, 2] rfl) hb Zb
     (o_p rfl (Zf Zbf rfl rfl u_0) <| o_p rfl (Z6 Zbf rfl rfl u_1 u_0) <| o_p rfl (Zc rfl rfl c_b) <| o_n) (by kernel_rfl) (fun a g hst hb => ?_)
   refine wp_ret ?_
   refine Zn ?_
   obtain rfl := Option.some.inj H0
   obtain ⟨u0, hu0, hq0⟩ := Zbh (P := Tryd.prog) Zbf (hst.at 0 rfl)
   exact Zex rfl hst hb hu0 (Zm (s := 5)) (Zde hq0 (hst.at 1 rfl))
 · replace H0 := Zz hc3 H0
   refine wp_skip ?_
   refine Zu ?_
   obtain ⟨r4, h5, H0⟩ := Zh H0
   refine r_s (L := [(1, _), (2, _), (4, _)]) (T := [⟨[.old 1], _, [], [], [17]⟩, ⟨[.op 0 0], _, [], [0], [18]⟩, ⟨[.old 0], _, [], [], [19]⟩, ⟨[.op 1 0, .op 2 0], _, [], [0, 1, 2], [20]⟩, ⟨[.old 1], _, [], [], [21]⟩, ⟨[.op 4 0], _, [], [4], [22]⟩, ⟨[.op 3 0, .op 5 0], _, [], Lr 6, [23]⟩, ⟨[.op 6 0, .old 2], _, [5], Lr 7, [4]⟩, ⟨[], _, [], Lr 8, [5]⟩]) (F := [.op 7 0, .op 8 0]) (hst.pick [0, 1, 2] rfl) hb Zb
     (o_p rfl (Ze Zn9 rfl rfl u_0) <| o_p rfl (Zf Zcv rfl rfl u_0) <| o_p rfl (Za rfl rfl u_0) <| o_p rfl (Zp Zu5 (Zqz _ _ h5) rfl rfl (.cons u_0 (.cons u_1 .nil))) <| o_p rfl (Ze Ztt rfl rfl u_0) <| o_p rfl (Zf ty_3 rfl rfl u_0) <| o_p rfl (Zue rfl rfl u_0 u_1) <| o_p rfl (Z6 Zbf rfl rfl u_1 u_0) <| o_p rfl (Zc rfl rfl c_b) <| o_n) (by kernel_rfl) (fun a g hst hb => ?_)
   refine wp_ret ?_
   obtain rfl := Option.some.inj H0
   obtain ⟨u0, hu0, hq0⟩ := Zbh (P := Tryd.prog) Zbf (hst.at 0 rfl)
   exact Zex rfl hst hb hu0 (Zm (s := 5)) (Zde hq0 (hst.at 1 rfl))
end Go.CL
