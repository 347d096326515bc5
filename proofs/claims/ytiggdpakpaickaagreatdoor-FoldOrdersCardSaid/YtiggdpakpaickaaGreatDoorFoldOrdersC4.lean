/- A part of the proof of FoldOrders. -/
import Derived.Test.YtiggdpakpaickaaGreatDoorFoldOrdersC3
set_option linter.unusedVariables false
set_option linter.unusedSimpArgs false
set_option maxRecDepth 100000
namespace Go.CL
open Go Go.RowKit Go.Proofs
theorem Zg9 (f2 : Nat) (C2 : List Pd) (hC2 : Free C2) (e2_ : Zp Tryz.prog f2) (φ2 : Zl → Zl → Option Bool) (hφ2 : ∀ (y0 : Zl) (y1 : Zl) (r : Bool), φ2 y0 y1 = some r → FnOk Tryz.prog f2 ([(Zy.pd y0), (Zy.pd y1)] ++ C2) (Zbg r)) (a0 : List Zl) (a1 : List Zl) {r : Bool} (h : Zce a0 a1 φ2 = some r) : FnOk Tryz.prog 65 [(Zy.sl.pd a0), (Zy.sl.pd a1), (pClo f2 C2 hC2)] (Zbg r) := by
 have H0 := h
 unfold Zce at H0
 clear h
 refine Zbp (N := 32) Tryz.func65 rfl rfl (Nat.le_of_ble_eq_true rfl) rfl rfl (fun a g0 hst hb => ?_)
 refine r_s (T := [⟨[], _, [], [], [6]⟩]) (F := [.old 0, .old 1, .old 2]) hst hb Za
   (o_p rfl (Zc rfl rfl c_b) <| o_n) (by kernel_rfl) (fun a g hst hb => ?_)
 refine wp_seq ?_
 refine r_s (T := [⟨[.old 0], _, [], [], [10]⟩, ⟨[.op 0 0], _, [], [0], [11]⟩, ⟨[.old 1], _, [], [], [12]⟩, ⟨[.op 2 0], _, [], [2], [13]⟩, ⟨[.op 1 0, .op 3 0], _, [], Lr 4, [14]⟩]) (F := [.old 0, .old 1, .old 2, .op 4 0]) hst hb Za
   (o_p rfl (Zb rfl rfl u_0) <| o_p rfl (Zbu Tryz.underlying62 rfl rfl u_0) <| o_p rfl (Zb rfl rfl u_0) <| o_p rfl (Zbu Tryz.underlying62 rfl rfl u_0) <| o_p rfl (Zc6 rfl rfl u_0 u_1) <| o_n) (by kernel_rfl) (fun a g hst hb => ?_)
 refine wp_cond_split (hst.bool 3 rfl) (fun hc1 => ?_) (fun hc1 => ?_)
 · replace H0 := Zw hc1 H0
   refine r_s (L := []) (T := [⟨[], _, [], [], [6]⟩]) (F := [.op 0 0]) (hst.pick [] rfl) hb Za
     (o_p rfl (Zc rfl rfl c_b) <| o_n) (by kernel_rfl) (fun a g hst hb => ?_)
   refine wp_ret ?_
   refine Zq ?_
   obtain rfl := Option.some.inj H0
   exact Z1 rfl hst hb (Zk (s := 6)) (hst.at 0 rfl)
 · replace H0 := Zx hc1 H0
   refine wp_skip ?_
   refine Zr ?_
   refine wp_seq ?_
   refine r_s (L := [(0, _), (1, _), (2, _)]) (T := [⟨[.old 0], _, [], [], [15]⟩, ⟨[.op 0 0], _, [], [0], [16]⟩, ⟨[], _, [], [], [17]⟩]) (F := [.old 1, .old 2, .op 0 0, .op 1 0, .op 2 0]) (hst.pick [0, 1, 2] rfl) hb Za
     (o_p rfl (Zb rfl rfl u_0) <| o_p rfl (Zbu Tryz.underlying62 rfl rfl u_0) <| o_p rfl (Zb rfl rfl c_i) <| o_n) (by kernel_rfl) (fun a g hst hb => ?_)
   obtain ⟨z11, hz1, H0⟩ := Zh H0
   refine Zb8 (fun a w => ∃ (g : G), w = g.w ∧ St 32 [] a g ∧ Base g0 g ∧ (.inr ()) = z11) ?_ ?_
   · rintro a w ⟨g, rfl, hst, hb, rfl⟩
     refine Zr ?_
     refine r_s (T := [⟨[], _, [], [], [6]⟩]) (F := [.op 0 0]) hst hb Za
       (o_p rfl (Zc rfl rfl c_b) <| o_n) (by kernel_rfl) (fun a g hst hb => ?_)
     refine wp_ret ?_
     obtain rfl := Option.some.inj H0
     exact Z1 rfl hst hb (Zk (s := 6)) (hst.at 0 rfl)
   · refine wp_block ?_
     refine wp_loop_ghost (fun n a w => ∃ (x2 : Int) (g : G), w = g.w ∧ St 32 [(1, (Zy.sl.pd a1)), (2, (pClo f2 C2 hC2)), (15, (Zy.sl.pd a0)), (16, (pInt .i64 (a0.length : Int))), (17, (pInt .i64 x2))] a g ∧ Base g0 g ∧ Zbr a0 a1 φ2 n x2 = some z11) (Int.toNat ((a0.length : Int) - (0 : Int)) + 1) ⟨(0 : Int), g, rfl, (hst.pick [0, 1, 2, 3, 4] rfl), hb, hz1⟩ (fun n a w hI => ?_)
     obtain ⟨x2, g, rfl, hst, hb, H1⟩ := hI
     cases n with
     | zero => exact absurd H1 (by simp [Zbr])
     | succ n =>
       rw [Zbr] at H1
       refine r_s (T := [⟨[.old 4, .old 3], _, [], [], [18]⟩]) (F := [.old 0, .old 1, .old 2, .old 3, .old 4, .op 0 0]) hst hb Za
         (o_p rfl (Zcc rfl rfl u_0 u_1) <| o_n) (by kernel_rfl) (fun a g hst hb => ?_)
       refine wp_seq ?_
       refine wp_cond_split (hst.bool 5 rfl) (fun hc3 => ?_) (fun hc3 => ?_)
       · replace H1 := Zw hc3 H1
         refine wp_skip ?_
         refine Zr ?_
         refine wp_seq ?_
         refine wp_block ?_
         obtain ⟨e4, h5, H1⟩ := Zh H1
         refine r_s (L := [(1, _), (2, _), (15, _), (16, _), (17, _)]) (T := [⟨[.old 4], _, [], [], [19]⟩, ⟨[.old 2, .old 4], _, [], [], [20]⟩, ⟨[.op 1 0], _, [], [1], [21]⟩, ⟨[], [(8, (pBox Zy 8 (default : Zl)))], [9], [], [8]⟩, ⟨[.op 0 0], _, [], Lr 4, [7]⟩, ⟨[.op 2 0, .op 3 0], _, [9], Lr 5, [8]⟩]) (F := [.old 0, .old 1, .op 4 0, .op 5 0, .old 2, .old 3, .old 4]) (hst.pick [0, 1, 2, 3, 4] rfl) hb Za
           (o_p rfl (Zb rfl rfl u_0) <| o_p rfl (Zbf Tryz.underlying62 Zeq rfl rfl u_0 u_1 h5) <| o_p rfl (Zf Zdt rfl rfl u_0) <| o_p rfl (Zbd (zs := [.float .f64 0, .string ByteArray.empty]) (by kernel_rfl) (fun g => Zkf g) rfl rfl) <| o_p rfl (Zc rfl rfl u_0) <| o_p rfl (Zb5 Zdt rfl rfl u_1 u_0) <| o_n) (by kernel_rfl) (fun a g hst hb => ?_)
         obtain ⟨e6, h7, H1⟩ := Zh H1
         refine r_s (T := [⟨[.old 0], _, [], [], [22]⟩, ⟨[.old 2], _, [], [], [23]⟩, ⟨[.op 0 0, .op 1 0], _, [], [0, 1], [24]⟩, ⟨[.op 2 0], _, [], [0, 1, 2], [25]⟩, ⟨[], [(9, (pBox Zy 9 (default : Zl)))], [10], [], [9]⟩, ⟨[.op 3 0, .op 4 0], _, [10], Lr 5, [9]⟩]) (F := [.old 0, .old 1, .old 3, .op 5 0, .old 4, .old 5, .old 6]) hst hb Za
           (o_p rfl (Zb rfl rfl u_0) <| o_p rfl (Zb rfl rfl u_0) <| o_p rfl (Zbf Tryz.underlying62 Zeq rfl rfl u_0 u_1 h7) <| o_p rfl (Zf Zdt rfl rfl u_0) <| o_p rfl (Zbd (zs := [.float .f64 0, .string ByteArray.empty]) (by kernel_rfl) (fun g => Zkf g) rfl rfl) <| o_p rfl (Zb5 Zdt rfl rfl u_1 u_0) <| o_n) (by kernel_rfl) (fun a g hst hb => ?_)
         obtain ⟨r8, h9, H1⟩ := Zh H1
         refine r_s (T := [⟨[.old 1], _, [], [], [26]⟩, ⟨[.old 2], _, [], [], [27]⟩, ⟨[.old 3], _, [], [], [28]⟩, ⟨[.op 0 0, .op 1 0, .op 2 0], _, [], [0, 1, 2], [29]⟩, ⟨[.op 3 0], _, [], Lr 4, [30]⟩]) (F := [.old 0, .old 1, .old 4, .old 5, .old 6, .op 4 0]) hst hb Za
           (o_p rfl (Zb rfl rfl u_0) <| o_p rfl (Zf Zdt rfl rfl u_0) <| o_p rfl (Zf Zdt rfl rfl u_0) <| o_p rfl (Zns e2_ (hφ2 _ _ _ h9) rfl rfl u_0 (.cons u_1 (.cons u_2 .nil))) <| o_p rfl (Zb7 rfl rfl u_0) <| o_n) (by kernel_rfl) (fun a g hst hb => ?_)
         refine wp_cond_split (hst.bool 5 rfl) (fun hc10 => ?_) (fun hc10 => ?_)
         · replace H1 := Zw hc10 H1
           refine r_s (L := []) (T := [⟨[], _, [], [], [6]⟩]) (F := [.op 0 0]) (hst.pick [] rfl) hb Za
             (o_p rfl (Zc rfl rfl c_b) <| o_n) (by kernel_rfl) (fun a g hst hb => ?_)
           refine wp_ret ?_
           refine Z2 ?_
           refine Zq ?_
           refine Zq ?_
           refine Z2 ?_
           refine Zq ?_
           refine Zq ?_
           obtain rfl := Option.some.inj H1
           obtain rfl := Option.some.inj H0
           exact Z1 rfl hst hb (Zk (s := 6)) (hst.at 0 rfl)
         · replace H1 := Zx hc10 H1
           refine wp_skip ?_
           refine Zba ?_
           refine Zr ?_
           refine r_g (L := [(1, _), (2, _), (15, _), (16, _), (17, _)]) (T := [⟨[.old 4], _, [], [], [31]⟩, ⟨[.op 0 0], _, [], [0], [17]⟩]) (F := [.old 0, .old 1, .old 2, .old 3, .op 1 0]) (hst.pick [0, 1, 2, 3, 4] rfl) hb Za
             (o_p rfl (Zb3 rfl rfl u_0 c_i rfl) <| o_p rfl (Zb rfl rfl u_0) <| o_n) (by kernel_rfl) (fun a g hst hb => ?_)
           exact ⟨n, Nat.lt_succ_self _, (IntKind.i64.wrap (x2 + (1 : Int))), g, rfl, (hst.pick [0, 1, 2, 3, 4] rfl), hb, H1⟩
       · replace H1 := Zx hc3 H1
         refine wp_exit ?_
         refine Zb6 ?_
         refine Zb6 ?_
         refine Zco ?_
         exact ⟨g, rfl, (hst.pick [] rfl), hb, Option.some.inj H1⟩
theorem Zwi (a0 : Zl) (a1 : Zl) {r : Bool} (h : Zis a0 a1 = some r) : FnOk Tryz.prog 66 [(Zy.pd a0), (Zy.pd a1)] (Zbg r) := by
 have H0 := h
 unfold Zis at H0
 clear h
 refine Zbp (N := 17) Tryz.func66 rfl rfl (Nat.le_of_ble_eq_true rfl) rfl rfl (fun a g0 hst hb => ?_)
 refine r_s (T := [⟨[.old 0], _, [], [], [2]⟩, ⟨[.old 1], _, [], [], [3]⟩, ⟨[], _, [], [], [4]⟩]) (F := [.op 0 0, .op 1 0]) hst hb Za
   (o_p rfl (Zbj rfl rfl u_0) <| o_p rfl (Zbj rfl rfl u_0) <| o_p rfl (Zc rfl rfl c_b) <| o_n) (by kernel_rfl) (fun a g hst hb => ?_)
 obtain ⟨r1, h2, H0⟩ := Zh H0
 refine r_s (T := ⟨[.old 0], _, [], [], [5]⟩ :: ⟨[.op 0 0], _, [], [0], [6]⟩ :: ⟨[.old 1], _, [], [], [7]⟩ :: ⟨[.op 2 0], _, [], [2], [8]⟩ :: ⟨[.op 1 0, .op 3 0], _, [], Lr 4, [9]⟩ :: ⟨[.op 4 0], _, [], Lr 5, [10]⟩ :: ⟨[.op 5 0, .old 0], _, [], Lr 6, [11]⟩ :: ⟨[.op 5 0, .op 6 0], _, [], Lr 7, [12]⟩ :: ⟨[.op 5 0, .old 1], _, [], Lr 6, [13]⟩ :: ⟨[.op 5 0, .op 8 0], _, [], [0, 1, 2, 3, 4, 5, 8], [14]⟩ :: ⟨[.op 5 0, .op 7 0, .op 9 0], _, [], Lr 10, [15]⟩ :: ⟨[.op 5 0, .op 10 0], _, [], Lr 11, [16]⟩ :: ⟨[.op 11 0], _, [], Lr 12, [4]⟩ :: []) (F := [.op 12 0]) hst hb Za
   (o_p rfl (Zd Zdo rfl rfl u_0) <| o_p rfl (Zf ty_9 rfl rfl u_0) <| o_p rfl (Zd Zdo rfl rfl u_0) <| o_p rfl (Zf ty_9 rfl rfl u_0) <| o_p rfl (Zkl rfl rfl u_0 u_1) <| o_p rfl (Zb rfl rfl u_0) <| o_g (g_t rfl rfl rfl (fun hG => Zd Ze8 rfl rfl u_0)) <| o_g (g_t rfl rfl rfl (fun hG => Zf Zcv rfl rfl (Opd.gd hG u_0))) <| o_g (g_t rfl rfl rfl (fun hG => Zd Ze8 rfl rfl u_0)) <| o_g (g_t rfl rfl rfl (fun hG => Zf Zcv rfl rfl (Opd.gd hG u_0))) <| o_g (g_t rfl rfl rfl (fun hG => Zn Zr1 (Zke _ _ (Zbm h2 hG)) rfl rfl (.cons (Opd.gd hG u_0) (.cons (Opd.gd hG u_1) .nil)))) <| o_p rfl (Zbc rfl rfl u_0 (fun hz => (Opd.gd hz u_1))) <| o_p rfl (Zc rfl rfl u_0) <| o_n) (by kernel_rfl) (fun a g hst hb => ?_)
 refine wp_ret ?_
 obtain rfl := Option.some.inj H0
 exact Z1 rfl hst hb (Zk (s := 4)) (hst.at 0 rfl)
theorem Zsn (a0 : Ze) (a1 : Ze) {r : Bool} (h : Zml a0 a1 = some r) : FnOk Tryz.prog 37 [(Zi.pd a0), (Zi.pd a1)] (Zbg r) := by
 have H0 := h
 unfold Zml at H0
 clear h
 refine Zbp (N := 59) Tryz.func37 rfl rfl (Nat.le_of_ble_eq_true rfl) rfl rfl (fun a g0 hst hb => ?_)
 refine r_s (T := [⟨[.old 0], _, [], [], [2]⟩, ⟨[.old 1], _, [], [], [3]⟩, ⟨[], _, [], [], [4]⟩]) (F := [.op 0 0, .op 1 0]) hst hb Za
   (o_p rfl (Zbj rfl rfl u_0) <| o_p rfl (Zbj rfl rfl u_0) <| o_p rfl (Zc rfl rfl c_b) <| o_n) (by kernel_rfl) (fun a g hst hb => ?_)
 obtain ⟨r1, h2, H0⟩ := Zh H0; obtain ⟨r3, h4, H0⟩ := Zh H0
 refine r_s (T := ⟨[.old 0], _, [], [], [5]⟩ :: ⟨[.op 0 0], _, [], [0], [6]⟩ :: ⟨[.old 1], _, [], [], [7]⟩ :: ⟨[.op 2 0], _, [], [2], [8]⟩ :: ⟨[.op 1 0, .op 3 0], _, [], Lr 4, [9]⟩ :: ⟨[.op 4 0], _, [], Lr 5, [10]⟩ :: ⟨[.op 5 0, .old 0], _, [], Lr 6, [11]⟩ :: ⟨[.op 5 0, .op 6 0], _, [], Lr 7, [12]⟩ :: ⟨[.op 5 0, .old 1], _, [], Lr 6, [13]⟩ :: ⟨[.op 5 0, .op 8 0], _, [], [0, 1, 2, 3, 4, 5, 8], [14]⟩ :: ⟨[.op 5 0, .op 7 0, .op 9 0], _, [], Lr 10, [15]⟩ :: ⟨[.op 5 0, .op 10 0], _, [], Lr 11, [16]⟩ :: ⟨[.op 11 0], _, [], Lr 12, [17]⟩ :: ⟨[.op 12 0, .old 0], _, [], Lr 13, [18]⟩ :: ⟨[.op 12 0, .op 13 0], _, [], Lr 14, [19]⟩ :: ⟨[.op 12 0, .old 1], _, [], Lr 13, [20]⟩ :: ⟨[.op 12 0, .op 15 0], _, [], 0 :: 1 :: 2 :: 3 :: 4 :: 5 :: 6 :: 7 :: 8 :: 9 :: 10 :: 11 :: 12 :: 15 :: [], [21]⟩ :: ⟨[.op 12 0, .op 14 0, .op 16 0], _, [], Lr 17, [22]⟩ :: ⟨[.op 12 0, .op 17 0], _, [], Lr 18, [23]⟩ :: ⟨[.op 18 0], _, [], Lr 19, [24]⟩ :: ⟨[.op 19 0, .old 0], _, [], Lr 20, [25]⟩ :: ⟨[.op 19 0, .op 20 0], _, [], Lr 21, [26]⟩ :: ⟨[.op 19 0, .old 1], _, [], Lr 20, [27]⟩ :: ⟨[.op 19 0, .op 22 0], _, [], 0 :: 1 :: 2 :: 3 :: 4 :: 5 :: 6 :: 7 :: 8 :: 9 :: 10 :: 11 :: 12 :: 13 :: 14 :: 15 :: 16 :: 17 :: 18 :: 19 :: 22 :: [], [28]⟩ :: ⟨[.op 19 0, .op 21 0, .op 23 0], _, [], Lr 24, [29]⟩ :: ⟨[.op 19 0, .op 24 0], _, [], Lr 25, [30]⟩ :: ⟨[.op 25 0], _, [], Lr 26, [31]⟩ :: ⟨[.op 26 0, .old 0], _, [], Lr 27, [32]⟩ :: ⟨[.op 26 0, .op 27 0], _, [], Lr 28, [33]⟩ :: ⟨[.op 26 0, .old 1], _, [], Lr 27, [34]⟩ :: ⟨[.op 26 0, .op 29 0], _, [], 0 :: 1 :: 2 :: 3 :: 4 :: 5 :: 6 :: 7 :: 8 :: 9 :: 10 :: 11 :: 12 :: 13 :: 14 :: 15 :: 16 :: 17 :: 18 :: 19 :: 20 :: 21 :: 22 :: 23 :: 24 :: 25 :: 26 :: 29 :: [], [35]⟩ :: ⟨[.op 26 0, .op 28 0, .op 30 0], _, [], Lr 31, [36]⟩ :: ⟨[.op 26 0, .op 31 0], _, [], Lr 32, [37]⟩ :: ⟨[.op 32 0], _, [], Lr 33, [38]⟩ :: ⟨[.op 33 0, .old 0], _, [], Lr 34, [39]⟩ :: ⟨[.op 33 0, .op 34 0], _, [], Lr 35, [40]⟩ :: ⟨[.op 33 0, .old 1], _, [], Lr 34, [41]⟩ :: ⟨[.op 33 0, .op 36 0], _, [], 0 :: 1 :: 2 :: 3 :: 4 :: 5 :: 6 :: 7 :: 8 :: 9 :: 10 :: 11 :: 12 :: 13 :: 14 :: 15 :: 16 :: 17 :: 18 :: 19 :: 20 :: 21 :: 22 :: 23 :: 24 :: 25 :: 26 :: 27 :: 28 :: 29 :: 30 :: 31 :: 32 :: 33 :: 36 :: [], [42]⟩ :: ⟨[.op 33 0, .op 35 0, .op 37 0], _, [], Lr 38, [43]⟩ :: ⟨[.op 33 0, .op 38 0], _, [], Lr 39, [44]⟩ :: ⟨[.op 39 0], _, [], Lr 40, [45]⟩ :: ⟨[.op 40 0, .old 0], _, [], Lr 41, [46]⟩ :: ⟨[.op 40 0, .op 41 0], _, [], Lr 42, [47]⟩ :: ⟨[.op 40 0, .old 1], _, [], Lr 41, [48]⟩ :: ⟨[.op 40 0, .op 43 0], _, [], 0 :: 1 :: 2 :: 3 :: 4 :: 5 :: 6 :: 7 :: 8 :: 9 :: 10 :: 11 :: 12 :: 13 :: 14 :: 15 :: 16 :: 17 :: 18 :: 19 :: 20 :: 21 :: 22 :: 23 :: 24 :: 25 :: 26 :: 27 :: 28 :: 29 :: 30 :: 31 :: 32 :: 33 :: 34 :: 35 :: 36 :: 37 :: 38 :: 39 :: 40 :: 43 :: [], [49]⟩ :: ⟨[.op 40 0, .op 42 0, .op 44 0], _, [], Lr 45, [50]⟩ :: ⟨[.op 40 0, .op 45 0], _, [], Lr 46, [51]⟩ :: ⟨[.op 46 0], _, [], Lr 47, [52]⟩ :: ⟨[.op 47 0, .old 0], _, [], Lr 48, [53]⟩ :: ⟨[.op 47 0, .op 48 0], _, [], Lr 49, [54]⟩ :: ⟨[.op 47 0, .old 1], _, [], Lr 48, [55]⟩ :: ⟨[.op 47 0, .op 50 0], _, [], 0 :: 1 :: 2 :: 3 :: 4 :: 5 :: 6 :: 7 :: 8 :: 9 :: 10 :: 11 :: 12 :: 13 :: 14 :: 15 :: 16 :: 17 :: 18 :: 19 :: 20 :: 21 :: 22 :: 23 :: 24 :: 25 :: 26 :: 27 :: 28 :: 29 :: 30 :: 31 :: 32 :: 33 :: 34 :: 35 :: 36 :: 37 :: 38 :: 39 :: 40 :: 41 :: 42 :: 43 :: 44 :: 45 :: 46 :: 47 :: 50 :: [], [56]⟩ :: ⟨[.op 47 0, .op 49 0, .op 51 0], _, [], Lr 52, [57]⟩ :: ⟨[.op 47 0, .op 52 0], _, [], Lr 53, [58]⟩ :: ⟨[.op 53 0], _, [], Lr 54, [4]⟩ :: []) (F := [.op 54 0]) hst hb Za
   (o_p rfl (Zd Zfq rfl rfl u_0) <| o_p rfl (Zf ty_3 rfl rfl u_0) <| o_p rfl (Zd Zfq rfl rfl u_0) <| o_p rfl (Zf ty_3 rfl rfl u_0) <| o_p rfl (Zbl rfl rfl u_0 u_1) <| o_p rfl (Zb rfl rfl u_0) <| o_g (g_t rfl rfl rfl (fun hG => Zd Zcs rfl rfl u_0)) <| o_g (g_t rfl rfl rfl (fun hG => Zf ty_2 rfl rfl (Opd.gd hG u_0))) <| o_g (g_t rfl rfl rfl (fun hG => Zd Zcs rfl rfl u_0)) <| o_g (g_t rfl rfl rfl (fun hG => Zf ty_2 rfl rfl (Opd.gd hG u_0))) <| o_g (g_t rfl rfl rfl (fun hG => Zbl rfl rfl (Opd.gd hG u_0) (Opd.gd hG u_1))) <| o_p rfl (Zbc rfl rfl u_0 (fun hz => (Opd.gd hz u_1))) <| o_p rfl (Zb rfl rfl u_0) <| o_g (g_t rfl rfl rfl (fun hG => Zd Ziq rfl rfl u_0)) <| o_g (g_t rfl rfl rfl (fun hG => Zf ty_2 rfl rfl (Opd.gd hG u_0))) <| o_g (g_t rfl rfl rfl (fun hG => Zd Ziq rfl rfl u_0)) <| o_g (g_t rfl rfl rfl (fun hG => Zf ty_2 rfl rfl (Opd.gd hG u_0))) <| o_g (g_t rfl rfl rfl (fun hG => Zbl rfl rfl (Opd.gd hG u_0) (Opd.gd hG u_1))) <| o_p rfl (Zbc rfl rfl u_0 (fun hz => (Opd.gd hz u_1))) <| o_p rfl (Zb rfl rfl u_0) <| o_g (g_t rfl rfl rfl (fun hG => Zd Zip rfl rfl u_0)) <| o_g (g_t rfl rfl rfl (fun hG => Zf ty_2 rfl rfl (Opd.gd hG u_0))) <| o_g (g_t rfl rfl rfl (fun hG => Zd Zip rfl rfl u_0)) <| o_g (g_t rfl rfl rfl (fun hG => Zf ty_2 rfl rfl (Opd.gd hG u_0))) <| o_g (g_t rfl rfl rfl (fun hG => Zbl rfl rfl (Opd.gd hG u_0) (Opd.gd hG u_1))) <| o_p rfl (Zbc rfl rfl u_0 (fun hz => (Opd.gd hz u_1))) <| o_p rfl (Zb rfl rfl u_0) <| o_g (g_t rfl rfl rfl (fun hG => Zd Zfj rfl rfl u_0)) <| o_g (g_t rfl rfl rfl (fun hG => Zf Zcv rfl rfl (Opd.gd hG u_0))) <| o_g (g_t rfl rfl rfl (fun hG => Zd Zfj rfl rfl u_0)) <| o_g (g_t rfl rfl rfl (fun hG => Zf Zcv rfl rfl (Opd.gd hG u_0))) <| o_g (g_t rfl rfl rfl (fun hG => Zn Zr1 (Zke _ _ (Zbm h2 hG)) rfl rfl (.cons (Opd.gd hG u_0) (.cons (Opd.gd hG u_1) .nil)))) <| o_p rfl (Zbc rfl rfl u_0 (fun hz => (Opd.gd hz u_1))) <| o_p rfl (Zb rfl rfl u_0) <| o_g (g_t rfl rfl rfl (fun hG => Zd Zf9 rfl rfl u_0)) <| o_g (g_t rfl rfl rfl (fun hG => Zf ty_3 rfl rfl (Opd.gd hG u_0))) <| o_g (g_t rfl rfl rfl (fun hG => Zd Zf9 rfl rfl u_0)) <| o_g (g_t rfl rfl rfl (fun hG => Zf ty_3 rfl rfl (Opd.gd hG u_0))) <| o_g (g_t rfl rfl rfl (fun hG => Zbl rfl rfl (Opd.gd hG u_0) (Opd.gd hG u_1))) <| o_p rfl (Zbc rfl rfl u_0 (fun hz => (Opd.gd hz u_1))) <| o_p rfl (Zb rfl rfl u_0) <| o_g (g_t rfl rfl rfl (fun hG => Zd Zia rfl rfl u_0)) <| o_g (g_t rfl rfl rfl (fun hG => Zf ty_9 rfl rfl (Opd.gd hG u_0))) <| o_g (g_t rfl rfl rfl (fun hG => Zd Zia rfl rfl u_0)) <| o_g (g_t rfl rfl rfl (fun hG => Zf ty_9 rfl rfl (Opd.gd hG u_0))) <| o_g (g_t rfl rfl rfl (fun hG => Zkl rfl rfl (Opd.gd hG u_0) (Opd.gd hG u_1))) <| o_p rfl (Zbc rfl rfl u_0 (fun hz => (Opd.gd hz u_1))) <| o_p rfl (Zb rfl rfl u_0) <| o_g (g_t rfl rfl rfl (fun hG => Zd Zca rfl rfl u_0)) <| o_g (g_t rfl rfl rfl (fun hG => Zf Zc1 rfl rfl (Opd.gd hG u_0))) <| o_g (g_t rfl rfl rfl (fun hG => Zd Zca rfl rfl u_0)) <| o_g (g_t rfl rfl rfl (fun hG => Zf Zc1 rfl rfl (Opd.gd hG u_0))) <| o_g (g_t rfl rfl rfl (fun hG => Zn Zbak (Zg9 66 [] rfl Z9l (fun y0 y1 => Zis y0 y1) (fun y0 y1 r h => Zwi y0 y1 h) _ _ (Zbm h4 hG)) rfl rfl (.cons (Opd.gd hG u_0) (.cons (Opd.gd hG u_1) (.cons Opd.fnc .nil))))) <| o_p rfl (Zbc rfl rfl u_0 (fun hz => (Opd.gd hz u_1))) <| o_p rfl (Zc rfl rfl u_0) <| o_n) (by kernel_rfl) (fun a g hst hb => ?_)
 refine wp_ret ?_
 obtain rfl := Option.some.inj H0
 exact Z1 rfl hst hb (Zk (s := 4)) (hst.at 0 rfl)
theorem Zjj (a0 : Zdd) (a1 : Int) {r : Bool} (h : Zdf a0 a1 = some r) : FnOk Tryz.prog 133 [(Zej.pd a0), (pInt .u8 a1)] (Zbg r) := by
 have H0 := h
 unfold Zdf at H0
 clear h
 refine Zbp (N := 19) Tryz.func133 rfl rfl (Nat.le_of_ble_eq_true rfl) rfl rfl (fun a g0 hst hb => ?_)
 refine r_s (T := [⟨[.old 0], _, [], [], [2]⟩, ⟨[], _, [], [], [4]⟩]) (F := [.old 1, .op 0 0]) hst hb Za
   (o_p rfl (Zbj rfl rfl u_0) <| o_p rfl (Zc rfl rfl c_b) <| o_n) (by kernel_rfl) (fun a g hst hb => ?_)
 refine wp_seq ?_
 refine r_s (T := [⟨[.old 1], _, [], [], [6]⟩, ⟨[.op 0 0], _, [], [0], [7]⟩, ⟨[.op 1 0], _, [], [0, 1], [8]⟩, ⟨[], _, [], [], [9]⟩]) (F := [.old 0, .old 1, .op 2 0, .op 3 0]) hst hb Za
   (o_p rfl (Zd Zxc rfl rfl u_0) <| o_p rfl (Zf ty_9 rfl rfl u_0) <| o_p rfl (Ze3 Tryz.underlying9 rfl rfl u_0) <| o_p rfl (Zb rfl rfl c_i) <| o_n) (by kernel_rfl) (fun a g hst hb => ?_)
 obtain ⟨z6, hz1, H0⟩ := Zh H0
 refine Zb8 (fun a w => ∃ (g : G), w = g.w ∧ St 19 [] a g ∧ Base g0 g ∧ (.inr ()) = z6) ?_ ?_
 · rintro a w ⟨g, rfl, hst, hb, rfl⟩
   refine Zr ?_
   refine r_s (T := [⟨[], _, [], [], [4]⟩]) (F := [.op 0 0]) hst hb Za
     (o_p rfl (Zc rfl rfl c_b) <| o_n) (by kernel_rfl) (fun a g hst hb => ?_)
   refine wp_ret ?_
   obtain rfl := Option.some.inj H0
   exact Z1 rfl hst hb (Zk (s := 4)) (hst.at 0 rfl)
 · refine wp_block ?_
   refine wp_loop_ghost (fun n a w => ∃ (x1 : Int) (g : G), w = g.w ∧ St 19 [(1, (pInt .u8 a1)), (2, (Zej.ptr a0)), (8, (pInt .i64 (a0.has.size : Int))), (9, (pInt .i64 x1))] a g ∧ Base g0 g ∧ Zhw a0 a1 n x1 = some z6) (Int.toNat ((a0.has.size : Int) - (0 : Int)) + 1) ⟨(0 : Int), g, rfl, (hst.pick [0, 1, 2, 3] rfl), hb, hz1⟩ (fun n a w hI => ?_)
   obtain ⟨x1, g, rfl, hst, hb, H1⟩ := hI
   cases n with
   | zero => exact absurd H1 (by simp [Zhw])
   | succ n =>
     rw [Zhw] at H1
     refine r_s (T := [⟨[.old 3, .old 2], _, [], [], [10]⟩]) (F := [.old 0, .old 1, .old 2, .old 3, .op 0 0]) hst hb Za
       (o_p rfl (Zcc rfl rfl u_0 u_1) <| o_n) (by kernel_rfl) (fun a g hst hb => ?_)
     refine wp_seq ?_
     refine wp_cond_split (hst.bool 4 rfl) (fun hc2 => ?_) (fun hc2 => ?_)
     · replace H1 := Zw hc2 H1
       refine wp_skip ?_
       refine Zr ?_
       refine wp_seq ?_
       refine wp_block ?_
       refine r_s (L := [(1, _), (2, _), (8, _), (9, _)]) (T := [⟨[.old 3], _, [], [], [11]⟩, ⟨[.op 0 0], _, [], [0], [5]⟩]) (F := [.old 0, .old 1, .op 1 0, .old 2, .old 3]) (hst.pick [0, 1, 2, 3] rfl) hb Za
         (o_p rfl (Zb rfl rfl u_0) <| o_p rfl (Zc rfl rfl u_0) <| o_n) (by kernel_rfl) (fun a g hst hb => ?_)
       obtain ⟨b3, h4, H1⟩ := Zh H1
       refine r_s (T := [⟨[.old 1], _, [], [], [12]⟩, ⟨[.op 0 0], _, [], [0], [13]⟩, ⟨[.old 2], _, [], [], [14]⟩, ⟨[.op 1 0, .op 2 0], _, [], [0, 1, 2], [15]⟩, ⟨[.old 0], _, [], [], [16]⟩, ⟨[.op 3 0, .op 4 0], _, [], Lr 5, [17]⟩]) (F := [.old 0, .old 1, .old 3, .old 4, .op 5 0]) hst hb Za
         (o_p rfl (Zd Zxc rfl rfl u_0) <| o_p rfl (Zf ty_9 rfl rfl u_0) <| o_p rfl (Zb rfl rfl u_0) <| o_p rfl (Zmn Tryz.underlying9 rfl rfl u_0 u_1 h4) <| o_p rfl (Zb rfl rfl u_0) <| o_p rfl (Zbl rfl rfl u_0 u_1) <| o_n) (by kernel_rfl) (fun a g hst hb => ?_)
       refine wp_cond_split (hst.bool 4 rfl) (fun hc5 => ?_) (fun hc5 => ?_)
       · replace H1 := Zw hc5 H1
         refine r_s (L := []) (T := [⟨[], _, [], [], [4]⟩]) (F := [.op 0 0]) (hst.pick [] rfl) hb Za
           (o_p rfl (Zc rfl rfl c_b) <| o_n) (by kernel_rfl) (fun a g hst hb => ?_)
         refine wp_ret ?_
         refine Z2 ?_
         refine Zq ?_
         refine Zq ?_
         refine Z2 ?_
         refine Zq ?_
         refine Zq ?_
         obtain rfl := Option.some.inj H1
         obtain rfl := Option.some.inj H0
         exact Z1 rfl hst hb (Zk (s := 4)) (hst.at 0 rfl)
       · replace H1 := Zx hc5 H1
         refine wp_skip ?_
         refine Zba ?_
         refine Zr ?_
         refine r_g (L := [(1, _), (2, _), (8, _), (9, _)]) (T := [⟨[.old 3], _, [], [], [18]⟩, ⟨[.op 0 0], _, [], [0], [9]⟩]) (F := [.old 0, .old 1, .old 2, .op 1 0]) (hst.pick [0, 1, 2, 3] rfl) hb Za
           (o_p rfl (Zb3 rfl rfl u_0 c_i rfl) <| o_p rfl (Zb rfl rfl u_0) <| o_n) (by kernel_rfl) (fun a g hst hb => ?_)
         exact ⟨n, Nat.lt_succ_self _, (IntKind.i64.wrap (x1 + (1 : Int))), g, rfl, (hst.pick [0, 1, 2, 3] rfl), hb, H1⟩
     · replace H1 := Zx hc2 H1
       refine wp_exit ?_
       refine Zb6 ?_
       refine Zb6 ?_
       refine Zco ?_
       exact ⟨g, rfl, (hst.pick [] rfl), hb, Option.some.inj H1⟩
theorem Zze (a0 : Z3) (a1 : Zdd) {r : Bool} (h : Zp3 a0 a1 = some r) : FnOk Tryz.prog 93 [(Zbe.pd a0), (Zej.pd a1)] (Zbg r) := by
 have H0 := h
 unfold Zp3 at H0
 clear h
 refine Zbp (N := 40) Tryz.func93 rfl rfl (Nat.le_of_ble_eq_true rfl) rfl rfl (fun a g0 hst hb => ?_)
 refine r_s (T := [⟨[.old 0], _, [], [], [2]⟩, ⟨[.old 1], _, [], [], [3]⟩, ⟨[], _, [], [], [4]⟩]) (F := [.op 0 0, .op 1 0]) hst hb Za
   (o_p rfl (Zbj rfl rfl u_0) <| o_p rfl (Zbj rfl rfl u_0) <| o_p rfl (Zc rfl rfl c_b) <| o_n) (by kernel_rfl) (fun a g hst hb => ?_)
 obtain ⟨r1, h2, H0⟩ := Zh H0; obtain ⟨r3, h4, H0⟩ := Zh H0; obtain ⟨r5, h6, H0⟩ := Zh H0; obtain ⟨r7, h8, H0⟩ := Zh H0; obtain ⟨r9, h10, H0⟩ := Zh H0; obtain ⟨r11, h12, H0⟩ := Zh H0
 refine r_s (T := ⟨[.old 1], _, [], [], [5]⟩ :: ⟨[.op 0 0], _, [], [0], [6]⟩ :: ⟨[.op 1 0], _, [], [0, 1], [7]⟩ :: ⟨[.op 2 0, .old 0], _, [], [0, 1, 2], [8]⟩ :: ⟨[.op 2 0, .op 3 0], _, [], Lr 4, [9]⟩ :: ⟨[.op 2 0, .op 4 0], _, [], Lr 5, [10]⟩ :: ⟨[.op 2 0, .op 5 0], _, [], Lr 6, [11]⟩ :: ⟨[.op 6 0], _, [], Lr 7, [12]⟩ :: ⟨[.op 7 0, .old 1], _, [], Lr 8, [13]⟩ :: ⟨[.op 7 0, .op 8 0], _, [], Lr 9, [14]⟩ :: ⟨[.op 7 0, .op 9 0], _, [], Lr 10, [15]⟩ :: ⟨[.op 10 0, .old 0], _, [], Lr 11, [16]⟩ :: ⟨[.op 10 0, .op 11 0], _, [], Lr 12, [17]⟩ :: ⟨[.op 10 0, .op 12 0], _, [], Lr 13, [18]⟩ :: ⟨[.op 7 0, .op 10 0, .op 13 0], _, [], Lr 14, [19]⟩ :: ⟨[.op 7 0, .op 14 0], _, [], Lr 15, [20]⟩ :: ⟨[.op 15 0], _, [], Lr 16, [21]⟩ :: ⟨[.op 16 0, .old 1], _, [], Lr 17, [22]⟩ :: ⟨[.op 16 0, .op 17 0], _, [], Lr 18, [23]⟩ :: ⟨[.op 16 0, .op 18 0], _, [], Lr 19, [24]⟩ :: ⟨[.op 19 0, .old 0], _, [], Lr 20, [25]⟩ :: ⟨[.op 19 0, .op 20 0], _, [], Lr 21, [26]⟩ :: ⟨[.op 19 0, .op 21 0], _, [], Lr 22, [27]⟩ :: ⟨[.op 16 0, .op 19 0, .op 22 0], _, [], Lr 23, [28]⟩ :: ⟨[.op 16 0, .op 23 0], _, [], Lr 24, [29]⟩ :: ⟨[.op 24 0], _, [], Lr 25, [30]⟩ :: ⟨[.op 25 0, .old 1], _, [], Lr 26, [31]⟩ :: ⟨[.op 25 0, .op 26 0], _, [], Lr 27, [32]⟩ :: ⟨[.op 25 0, .op 27 0], _, [], Lr 28, [33]⟩ :: ⟨[.op 28 0, .old 0], _, [], Lr 29, [34]⟩ :: ⟨[.op 28 0, .op 29 0], _, [], Lr 30, [35]⟩ :: ⟨[.op 28 0], _, [], Lr 29, [36]⟩ :: ⟨[.op 28 0, .op 30 0, .op 31 0], _, [], Lr 32, [37]⟩ :: ⟨[.op 25 0, .op 28 0, .op 32 0], _, [], Lr 33, [38]⟩ :: ⟨[.op 25 0, .op 33 0], _, [], Lr 34, [39]⟩ :: ⟨[.op 34 0], _, [], Lr 35, [4]⟩ :: []) (F := [.op 35 0]) hst hb Za
   (o_p rfl (Zf Zkc rfl rfl u_0) <| o_p rfl (Zn Ztv (Zjj _ _ h2) rfl rfl (.cons u_0 (.cons c_i .nil))) <| o_p rfl (Zb rfl rfl u_0) <| o_g (g_f rfl rfl rfl (fun hG => Zd Zdv rfl rfl u_0)) <| o_g (g_f rfl rfl rfl (fun hG => Zf ty_2 rfl rfl (Opd.gd hG u_0))) <| o_g (g_f rfl rfl rfl (fun hG => Zbl rfl rfl (Opd.gd hG u_0) c_i)) <| o_p rfl (Zbt rfl rfl u_0 (fun hz => (Opd.gd (bNF hz) u_1))) <| o_p rfl (Zb rfl rfl u_0) <| o_g (g_t rfl rfl rfl (fun hG => Zf Zkc rfl rfl u_0)) <| o_g (g_t rfl rfl rfl (fun hG => Zn Ztv (Zjj _ _ (Zbm h4 hG)) rfl rfl (.cons (Opd.gd hG u_0) (.cons c_i .nil)))) <| o_g (g_t rfl rfl rfl (fun hG => Zb rfl rfl (Opd.gd hG u_0))) <| o_g (g_fi rfl rfl rfl (fun hG => Zd Zin rfl rfl u_0)) <| o_g (g_fi rfl rfl rfl (fun hG => Zf Zcv rfl rfl (Opd.gd hG u_0))) <| o_g (g_fi rfl rfl rfl (fun hG => Zn Zr1 (Zke _ _ (Zbm h6 hG)) rfl rfl (.cons (Opd.gd hG u_0) (.cons c_f .nil)))) <| o_g (g_t rfl rfl rfl (fun hG => Zbt rfl rfl (Opd.gd hG u_0) (fun hz => (Opd.gd (bA hG (bNF hz)) u_1)))) <| o_p rfl (Zbc rfl rfl u_0 (fun hz => (Opd.gd hz u_1))) <| o_p rfl (Zb rfl rfl u_0) <| o_g (g_t rfl rfl rfl (fun hG => Zf Zkc rfl rfl u_0)) <| o_g (g_t rfl rfl rfl (fun hG => Zn Ztv (Zjj _ _ (Zbm h8 hG)) rfl rfl (.cons (Opd.gd hG u_0) (.cons c_i .nil)))) <| o_g (g_t rfl rfl rfl (fun hG => Zb rfl rfl (Opd.gd hG u_0))) <| o_g (g_fi rfl rfl rfl (fun hG => Zd Zfc rfl rfl u_0)) <| o_g (g_fi rfl rfl rfl (fun hG => Zf ty_9 rfl rfl (Opd.gd hG u_0))) <| o_g (g_fi rfl rfl rfl (fun hG => Zkl rfl rfl (Opd.gd hG u_0) c_s)) <| o_g (g_t rfl rfl rfl (fun hG => Zbt rfl rfl (Opd.gd hG u_0) (fun hz => (Opd.gd (bA hG (bNF hz)) u_1)))) <| o_p rfl (Zbc rfl rfl u_0 (fun hz => (Opd.gd hz u_1))) <| o_p rfl (Zb rfl rfl u_0) <| o_g (g_t rfl rfl rfl (fun hG => Zf Zkc rfl rfl u_0)) <| o_g (g_t rfl rfl rfl (fun hG => Zn Ztv (Zjj _ _ (Zbm h10 hG)) rfl rfl (.cons (Opd.gd hG u_0) (.cons c_i .nil)))) <| o_g (g_t rfl rfl rfl (fun hG => Zb rfl rfl (Opd.gd hG u_0))) <| o_g (g_fi rfl rfl rfl (fun hG => Zd Zmm rfl rfl u_0)) <| o_g (g_fi rfl rfl rfl (fun hG => Zf Zbb rfl rfl (Opd.gd hG u_0))) <| o_g (g_fi rfl rfl rfl (fun hG => Zma rfl rfl )) <| o_g (g_fi rfl rfl rfl (fun hG => Zn Z5f (Zsn _ _ (Zbm h12 hG)) rfl rfl (.cons (Opd.gd hG u_0) (.cons (Opd.gd hG u_1) .nil)))) <| o_g (g_t rfl rfl rfl (fun hG => Zbt rfl rfl (Opd.gd hG u_0) (fun hz => (Opd.gd (bA hG (bNF hz)) u_1)))) <| o_p rfl (Zbc rfl rfl u_0 (fun hz => (Opd.gd hz u_1))) <| o_p rfl (Zc rfl rfl u_0) <| o_n) (by kernel_rfl) (fun a g hst hb => ?_)
 refine wp_ret ?_
 obtain rfl := Option.some.inj H0
 exact Z1 rfl hst hb (Zk (s := 4)) (hst.at 0 rfl)
theorem Zy6 (a0 : Zdd) {r : Int} (h : Zpy a0 = some r) : FnOk Tryz.prog 94 [(Zej.pd a0)] (pInt .i64 r) := by
 have H0 := h
 unfold Zpy at H0
 clear h
 refine Zbp (N := 6) Tryz.func94 rfl rfl (Nat.le_of_ble_eq_true rfl) rfl rfl (fun a g0 hst hb => ?_)
 refine r_s (T := [⟨[.old 0], _, [], [], [1]⟩, ⟨[], _, [], [], [2]⟩]) (F := [.op 0 0]) hst hb Za
   (o_p rfl (Zbj rfl rfl u_0) <| o_p rfl (Zc rfl rfl c_i) <| o_n) (by kernel_rfl) (fun a g hst hb => ?_)
 refine wp_seq ?_
 refine r_s (T := [⟨[.old 0], _, [], [], [3]⟩, ⟨[.op 0 0], _, [], [0], [4]⟩, ⟨[.op 1 0], _, [], [0, 1], [5]⟩]) (F := [.op 2 0]) hst hb Za
   (o_p rfl (Zd Zw9 rfl rfl u_0) <| o_p rfl (Zf ty_3 rfl rfl u_0) <| o_p rfl (Zbl rfl rfl u_0 c_i) <| o_n) (by kernel_rfl) (fun a g hst hb => ?_)
 refine wp_cond_split (hst.bool 0 rfl) (fun hc1 => ?_) (fun hc1 => ?_)
 · replace H0 := Zw hc1 H0
   refine r_s (L := []) (T := [⟨[], _, [], [], [2]⟩]) (F := [.op 0 0]) (hst.pick [] rfl) hb Za
     (o_p rfl (Zc rfl rfl c_i) <| o_n) (by kernel_rfl) (fun a g hst hb => ?_)
   refine wp_ret ?_
   refine Zq ?_
   obtain rfl := Option.some.inj H0
   exact Z1 rfl hst hb (Zk (s := 2)) (hst.at 0 rfl)
 · replace H0 := Zx hc1 H0
   refine wp_skip ?_
   refine Zr ?_
   refine r_s (L := []) (T := [⟨[], _, [], [], [2]⟩]) (F := [.op 0 0]) (hst.pick [] rfl) hb Za
     (o_p rfl (Zc rfl rfl c_i) <| o_n) (by kernel_rfl) (fun a g hst hb => ?_)
   refine wp_ret ?_
   obtain rfl := Option.some.inj H0
   exact Z1 rfl hst hb (Zk (s := 2)) (hst.at 0 rfl)
theorem Zrq (a0 : Z3) {r : Int} (h : Zhg a0 = some r) : FnOk Tryz.prog 67 [(Zbe.pd a0)] (pInt .i64 r) := by
 have H0 := h
 unfold Zhg at H0
 clear h
 refine Zbp (N := 64) Tryz.func67 rfl rfl (Nat.le_of_ble_eq_true rfl) rfl rfl (fun a g0 hst hb => ?_)
 refine r_s (T := [⟨[.old 0], _, [], [], [1]⟩, ⟨[], _, [], [], [2]⟩]) (F := [.op 0 0]) hst hb Za
   (o_p rfl (Zbj rfl rfl u_0) <| o_p rfl (Zc rfl rfl c_i) <| o_n) (by kernel_rfl) (fun a g hst hb => ?_)
 obtain ⟨r1, h2, H0⟩ := Zh H0
 refine r_s (T := [⟨[.old 0], _, [], [], [4]⟩, ⟨[.op 0 0], _, [], [0], [5]⟩, ⟨[.op 1 0], _, [], [0, 1], [6]⟩, ⟨[], [(3, (pBox Zej 3 (default : Zdd)))], [4], [], [3]⟩, ⟨[.op 2 0, .op 3 0], _, [4], Lr 4, [3]⟩]) (F := [.old 0, .op 4 0]) hst hb Za
   (o_p rfl (Zd Zdc rfl rfl u_0) <| o_p rfl (Zf ty_3 rfl rfl u_0) <| o_p rfl (Zn Z4w (Zv2 _ h2) rfl rfl (.cons u_0 .nil)) <| o_p rfl (Zbd (zs := [.string ByteArray.empty, .int .i64 0, .string ByteArray.empty]) (by kernel_rfl) (fun g => Zsq g) rfl rfl) <| o_p rfl (Zb5 Zkc rfl rfl u_1 u_0) <| o_n) (by kernel_rfl) (fun a g hst hb => ?_)
 refine wp_seq ?_
 refine wp_block ?_
 refine r_s (T := [⟨[.old 1], _, [], [], [8]⟩, ⟨[.op 0 0], _, [], [0], [9]⟩, ⟨[.op 1 0], _, [], [0, 1], [10]⟩, ⟨[.op 2 0], _, [], [0, 1, 2], [7]⟩]) (F := [.old 0, .old 1, .op 3 0]) hst hb Za
   (o_p rfl (Zd Z4n rfl rfl u_0) <| o_p rfl (Zf ty_9 rfl rfl u_0) <| o_p rfl (Zkl rfl rfl u_0 c_s) <| o_p rfl (Zc rfl rfl u_0) <| o_n) (by kernel_rfl) (fun a g hst hb => ?_)
 refine wp_cond_split (hst.bool 2 rfl) (fun hc3 => ?_) (fun hc3 => ?_)
 · replace H0 := Zw hc3 H0
   refine r_s (L := []) (T := [⟨[], _, [], [], [2]⟩]) (F := [.op 0 0]) (hst.pick [] rfl) hb Za
     (o_p rfl (Zc rfl rfl c_i) <| o_n) (by kernel_rfl) (fun a g hst hb => ?_)
   refine wp_ret ?_
   refine Z2 ?_
   refine Zq ?_
   obtain rfl := Option.some.inj H0
   exact Z1 rfl hst hb (Zk (s := 2)) (hst.at 0 rfl)
 · replace H0 := Zx hc3 H0
   refine r_s (L := [(1, _), (3, _)]) (T := [⟨[.old 0], _, [], [], [12]⟩, ⟨[.op 0 0], _, [], [0], [13]⟩, ⟨[.op 1 0], _, [], [0, 1], [14]⟩, ⟨[.op 2 0], _, [], [0, 1, 2], [15]⟩, ⟨[.op 3 0, .old 0], _, [], Lr 4, [16]⟩, ⟨[.op 3 0, .op 4 0], _, [], Lr 5, [17]⟩, ⟨[.op 3 0, .op 5 0], _, [], Lr 6, [18]⟩, ⟨[.op 3 0, .op 6 0], _, [], Lr 7, [19]⟩, ⟨[.op 3 0, .op 7 0], _, [], Lr 8, [20]⟩, ⟨[.op 8 0], _, [], Lr 9, [11]⟩]) (F := [.old 0, .old 1, .op 9 0]) (hst.pick [0, 1] rfl) hb Za
     (o_p rfl (Zd Zjn rfl rfl u_0) <| o_p rfl (Zf ty_9 rfl rfl u_0) <| o_p rfl (Zkl rfl rfl u_0 c_s) <| o_p rfl (Zb rfl rfl u_0) <| o_g (g_f rfl rfl rfl (fun hG => Zd Zjn rfl rfl u_0)) <| o_g (g_f rfl rfl rfl (fun hG => Zf ty_9 rfl rfl (Opd.gd hG u_0))) <| o_g (g_f rfl rfl rfl (fun hG => Ze3 Tryz.underlying9 rfl rfl (Opd.gd hG u_0))) <| o_g (g_f rfl rfl rfl (fun hG => Zck rfl rfl (Opd.gd hG u_0) c_i)) <| o_p rfl (Zbt rfl rfl u_0 (fun hz => (Opd.gd (bNF hz) u_1))) <| o_p rfl (Zc rfl rfl u_0) <| o_n) (by kernel_rfl) (fun a g hst hb => ?_)
   refine wp_cond_split (hst.bool 2 rfl) (fun hc4 => ?_) (fun hc4 => ?_)
   · replace H0 := Zw hc4 H0
     refine r_s (L := []) (T := [⟨[], _, [], [], [2]⟩]) (F := [.op 0 0]) (hst.pick [] rfl) hb Za
       (o_p rfl (Zc rfl rfl c_i) <| o_n) (by kernel_rfl) (fun a g hst hb => ?_)
     refine wp_ret ?_
     refine Z2 ?_
     refine Zq ?_
     obtain rfl := Option.some.inj H0
     exact Z1 rfl hst hb (Zk (s := 2)) (hst.at 0 rfl)
   · replace H0 := Zx hc4 H0
     obtain ⟨r5, h6, H0⟩ := Zh H0
     refine r_s (L := [(1, _), (3, _)]) (T := [⟨[.old 0], _, [], [], [22]⟩, ⟨[.old 1], _, [], [], [23]⟩, ⟨[.op 0 0, .op 1 0], _, [], [0, 1], [24]⟩, ⟨[.op 2 0], _, [], [0, 1, 2], [25]⟩, ⟨[.op 3 0], _, [], Lr 4, [21]⟩]) (F := [.old 0, .old 1, .op 4 0]) (hst.pick [0, 1] rfl) hb Za
       (o_p rfl (Zf Zfl rfl rfl u_0) <| o_p rfl (Zf Zkc rfl rfl u_0) <| o_p rfl (Zn Z93 (Zze _ _ h6) rfl rfl (.cons u_0 (.cons u_1 .nil))) <| o_p rfl (Zb7 rfl rfl u_0) <| o_p rfl (Zc rfl rfl u_0) <| o_n) (by kernel_rfl) (fun a g hst hb => ?_)
     refine wp_cond_split (hst.bool 2 rfl) (fun hc7 => ?_) (fun hc7 => ?_)
     · replace H0 := Zw hc7 H0
       refine r_s (L := []) (T := [⟨[], _, [], [], [2]⟩]) (F := [.op 0 0]) (hst.pick [] rfl) hb Za
         (o_p rfl (Zc rfl rfl c_i) <| o_n) (by kernel_rfl) (fun a g hst hb => ?_)
       refine wp_ret ?_
       refine Z2 ?_
       refine Zq ?_
       obtain rfl := Option.some.inj H0
       exact Z1 rfl hst hb (Zk (s := 2)) (hst.at 0 rfl)
     · replace H0 := Zx hc7 H0
       obtain ⟨r8, h9, H0⟩ := Zh H0
       refine r_s (L := [(1, _), (3, _)]) (T := [⟨[.old 0], _, [], [], [27]⟩, ⟨[.op 0 0], _, [], [0], [28]⟩, ⟨[.op 1 0], _, [], [0, 1], [29]⟩, ⟨[.old 1], _, [], [], [30]⟩, ⟨[.op 3 0], _, [], [3], [31]⟩, ⟨[.op 2 0, .op 4 0], _, [], Lr 5, [32]⟩, ⟨[.op 5 0], _, [], Lr 6, [26]⟩]) (F := [.old 0, .op 6 0]) (hst.pick [0, 1] rfl) hb Za
         (o_p rfl (Zd Zfc rfl rfl u_0) <| o_p rfl (Zf ty_9 rfl rfl u_0) <| o_p rfl (Ze3 Tryz.underlying9 rfl rfl u_0) <| o_p rfl (Zf Zkc rfl rfl u_0) <| o_p rfl (Zn Z95 (Zy6 _ h9) rfl rfl (.cons u_0 .nil)) <| o_p rfl (Zck rfl rfl u_0 u_1) <| o_p rfl (Zc rfl rfl u_0) <| o_n) (by kernel_rfl) (fun a g hst hb => ?_)
       refine wp_cond_split (hst.bool 1 rfl) (fun hc10 => ?_) (fun hc10 => ?_)
       · replace H0 := Zw hc10 H0
         refine r_s (L := []) (T := [⟨[], _, [], [], [2]⟩]) (F := [.op 0 0]) (hst.pick [] rfl) hb Za
           (o_p rfl (Zc rfl rfl c_i) <| o_n) (by kernel_rfl) (fun a g hst hb => ?_)
         refine wp_ret ?_
         refine Z2 ?_
         refine Zq ?_
         obtain rfl := Option.some.inj H0
         exact Z1 rfl hst hb (Zk (s := 2)) (hst.at 0 rfl)
       · replace H0 := Zx hc10 H0
         refine r_s (L := [(1, _)]) (T := ⟨[.old 0], _, [], [], [34]⟩ :: ⟨[.op 0 0], _, [], [0], [35]⟩ :: ⟨[.op 1 0], _, [], [0, 1], [36]⟩ :: ⟨[.op 2 0], _, [], [0, 1, 2], [37]⟩ :: ⟨[.op 3 0, .old 0], _, [], Lr 4, [38]⟩ :: ⟨[.op 3 0, .op 4 0], _, [], Lr 5, [39]⟩ :: ⟨[.op 3 0, .op 5 0], _, [], Lr 6, [40]⟩ :: ⟨[.op 3 0, .op 6 0], _, [], Lr 7, [41]⟩ :: ⟨[.op 7 0], _, [], Lr 8, [42]⟩ :: ⟨[.op 8 0, .old 0], _, [], Lr 9, [43]⟩ :: ⟨[.op 8 0, .op 9 0], _, [], Lr 10, [44]⟩ :: ⟨[.op 8 0, .op 10 0], _, [], Lr 11, [45]⟩ :: ⟨[.op 8 0, .op 11 0], _, [], Lr 12, [46]⟩ :: ⟨[.op 12 0, .old 0], _, [], Lr 13, [47]⟩ :: ⟨[.op 12 0, .op 13 0], _, [], Lr 14, [48]⟩ :: ⟨[.op 12 0, .op 14 0], _, [], Lr 15, [49]⟩ :: ⟨[.op 8 0, .op 12 0, .op 15 0], _, [], Lr 16, [50]⟩ :: ⟨[.op 8 0, .op 16 0], _, [], Lr 17, [51]⟩ :: ⟨[.op 17 0], _, [], Lr 18, [33]⟩ :: []) (F := [.old 0, .op 18 0]) (hst.pick [0] rfl) hb Za
           (o_p rfl (Zd Zdc rfl rfl u_0) <| o_p rfl (Zf ty_3 rfl rfl u_0) <| o_p rfl (Zbl rfl rfl u_0 c_i) <| o_p rfl (Zb rfl rfl u_0) <| o_g (g_f rfl rfl rfl (fun hG => Zd Zdc rfl rfl u_0)) <| o_g (g_f rfl rfl rfl (fun hG => Zf ty_3 rfl rfl (Opd.gd hG u_0))) <| o_g (g_f rfl rfl rfl (fun hG => Zbl rfl rfl (Opd.gd hG u_0) c_i)) <| o_p rfl (Zbt rfl rfl u_0 (fun hz => (Opd.gd (bNF hz) u_1))) <| o_p rfl (Zb rfl rfl u_0) <| o_g (g_t rfl rfl rfl (fun hG => Zd Zdv rfl rfl u_0)) <| o_g (g_t rfl rfl rfl (fun hG => Zf ty_2 rfl rfl (Opd.gd hG u_0))) <| o_g (g_t rfl rfl rfl (fun hG => Zcc rfl rfl (Opd.gd hG u_0) c_i)) <| o_g (g_t rfl rfl rfl (fun hG => Zb rfl rfl (Opd.gd hG u_0))) <| o_g (g_fi rfl rfl rfl (fun hG => Zd Zdv rfl rfl u_0)) <| o_g (g_fi rfl rfl rfl (fun hG => Zf ty_2 rfl rfl (Opd.gd hG u_0))) <| o_g (g_fi rfl rfl rfl (fun hG => Zck rfl rfl (Opd.gd hG u_0) c_i)) <| o_g (g_t rfl rfl rfl (fun hG => Zbt rfl rfl (Opd.gd hG u_0) (fun hz => (Opd.gd (bA hG (bNF hz)) u_1)))) <| o_p rfl (Zbc rfl rfl u_0 (fun hz => (Opd.gd hz u_1))) <| o_p rfl (Zc rfl rfl u_0) <| o_n) (by kernel_rfl) (fun a g hst hb => ?_)
         refine wp_cond_split (hst.bool 1 rfl) (fun hc11 => ?_) (fun hc11 => ?_)
         · replace H0 := Zw hc11 H0
           refine r_s (L := []) (T := [⟨[], _, [], [], [2]⟩]) (F := [.op 0 0]) (hst.pick [] rfl) hb Za
             (o_p rfl (Zc rfl rfl c_i) <| o_n) (by kernel_rfl) (fun a g hst hb => ?_)
           refine wp_ret ?_
           refine Z2 ?_
           refine Zq ?_
           obtain rfl := Option.some.inj H0
           exact Z1 rfl hst hb (Zk (s := 2)) (hst.at 0 rfl)
         · replace H0 := Zx hc11 H0
           obtain ⟨r12, h13, H0⟩ := Zh H0
           refine r_s (L := [(1, _)]) (T := [⟨[.old 0], _, [], [], [53]⟩, ⟨[.op 0 0], _, [], [0], [54]⟩, ⟨[.op 1 0], _, [], [0, 1], [55]⟩, ⟨[.op 2 0], _, [], [0, 1, 2], [56]⟩, ⟨[.op 3 0], _, [], Lr 4, [52]⟩]) (F := [.old 0, .op 4 0]) (hst.pick [0] rfl) hb Za
             (o_p rfl (Zd Zin rfl rfl u_0) <| o_p rfl (Zf Zcv rfl rfl u_0) <| o_p rfl (Zn Z0s (Zne _ h13) rfl rfl (.cons u_0 .nil)) <| o_p rfl (Zb7 rfl rfl u_0) <| o_p rfl (Zc rfl rfl u_0) <| o_n) (by kernel_rfl) (fun a g hst hb => ?_)
           refine wp_cond_split (hst.bool 1 rfl) (fun hc14 => ?_) (fun hc14 => ?_)
           · replace H0 := Zw hc14 H0
             refine r_s (L := []) (T := [⟨[], _, [], [], [2]⟩]) (F := [.op 0 0]) (hst.pick [] rfl) hb Za
               (o_p rfl (Zc rfl rfl c_i) <| o_n) (by kernel_rfl) (fun a g hst hb => ?_)
             refine wp_ret ?_
             refine Z2 ?_
             refine Zq ?_
             obtain rfl := Option.some.inj H0
             exact Z1 rfl hst hb (Zk (s := 2)) (hst.at 0 rfl)
           · replace H0 := Zx hc14 H0
             refine r_s (L := [(1, _)]) (T := [⟨[.old 0], _, [], [], [58]⟩, ⟨[.op 0 0], _, [], [0], [59]⟩, ⟨[.op 1 0], _, [], [0, 1], [60]⟩, ⟨[.op 2 0], _, [], [0, 1, 2], [57]⟩]) (F := [.old 0, .op 3 0]) (hst.pick [0] rfl) hb Za
               (o_p rfl (Zd Zdc rfl rfl u_0) <| o_p rfl (Zf ty_3 rfl rfl u_0) <| o_p rfl (Zbl rfl rfl u_0 c_i) <| o_p rfl (Zc rfl rfl u_0) <| o_n) (by kernel_rfl) (fun a g hst hb => ?_)
             refine wp_cond_split (hst.bool 1 rfl) (fun hc15 => ?_) (fun hc15 => ?_)
             · replace H0 := Zw hc15 H0
               obtain ⟨r16, h17, H0⟩ := Zh H0
               refine r_s (L := [(1, _)]) (T := [⟨[.old 0], _, [], [], [61]⟩, ⟨[.op 0 0], _, [], [0], [62]⟩, ⟨[.op 1 0], _, [], [0, 1], [63]⟩, ⟨[.op 2 0], _, [], [0, 1, 2], [2]⟩]) (F := [.op 3 0]) (hst.pick [0] rfl) hb Za
                 (o_p rfl (Zd Zmm rfl rfl u_0) <| o_p rfl (Zf Zbb rfl rfl u_0) <| o_p rfl (Zn Z05 (Znt _ h17) rfl rfl (.cons u_0 .nil)) <| o_p rfl (Zc rfl rfl u_0) <| o_n) (by kernel_rfl) (fun a g hst hb => ?_)
               refine wp_ret ?_
               refine Z2 ?_
               refine Zq ?_
               obtain rfl := Option.some.inj H0
               exact Z1 rfl hst hb (Zk (s := 2)) (hst.at 0 rfl)
             · replace H0 := Zx hc15 H0
               refine wp_skip ?_
               refine Zba ?_
               refine Zr ?_
               refine r_s (L := []) (T := [⟨[], _, [], [], [2]⟩]) (F := [.op 0 0]) (hst.pick [] rfl) hb Za
                 (o_p rfl (Zc rfl rfl c_i) <| o_n) (by kernel_rfl) (fun a g hst hb => ?_)
               refine wp_ret ?_
               obtain rfl := Option.some.inj H0
               exact Z1 rfl hst hb (Zk (s := 2)) (hst.at 0 rfl)
theorem Ziz (a0 : Int) (a1 : Ze) (a2 : Bool) {r : Ze × Bool × Zg × Ze} (h : Zgo a0 a1 a2 = some r) : FnB Tryz.prog 68 [.val (pInt .i64 a0), .box Zi a1 r.2.2.2, .val (Kd.bool.ptr a2)] (pTup [(Zi.pd r.1), (Zbg r.2.1), (Zm.pd r.2.2.1)]) := by
 have H0 := h
 unfold Zgo at H0
 clear h
 refine Zjq (N := 11) Tryz.func68 rfl rfl (Nat.le_of_ble_eq_true rfl) rfl rfl (fun a g0 bs hbs hst hb => ?_)
 obtain ⟨b1, rfl⟩ := Z87 hbs
 replace hst : St 11 [(0, (pInt .i64 a0)), (1, (Zby (some b1) Zi 1 a1)), (2, (Kd.bool.ptr a2))] _ _ := hst
 refine r_s (T := [⟨[], [(4, (pBox Zi 4 (default : Ze)))], [5], [], [4]⟩, ⟨[], _, [], [], [5]⟩, ⟨[], [(6, (pBox Zm 6 (default : Zg)))], [7], [], [6]⟩]) (F := [.old 0, .old 1, .old 2, .op 0 0, .op 2 0]) hst hb Za
   (o_p rfl (Zbd (zs := [.int .i64 0, .int .i64 0, .int .i64 0, .int .i64 0, .float .f64 0, .int .i64 0, .string ByteArray.empty, .slice none 0 0]) (by kernel_rfl) (fun g => Zb9 g) rfl rfl) <| o_p rfl (Zc rfl rfl c_b) <| o_p rfl (Zbd (zs := [.int .i64 0, .int .i64 0, .int .i64 0, .int .i64 0, .int .i64 0, .int .i64 0, .float .f64 0, .int .i64 0, .string ByteArray.empty, .slice none 0 0]) (by kernel_rfl) (fun g => Zcx g) rfl rfl) <| o_n) (by kernel_rfl) (fun a g hst hb => ?_)
 refine r_s (T := [⟨[.old 1], _, [], [], [7]⟩, ⟨[.old 2], _, [], [], [8]⟩, ⟨[.old 0], _, [], [], [9]⟩, ⟨[.op 2 0], _, [], [2], [10]⟩, ⟨[.op 0 0, .old 3], _, [5], [0], [4]⟩, ⟨[.op 1 0], _, [], [0, 1, 4], [5]⟩, ⟨[.op 3 0, .old 4], _, [7], Lr 6, [6]⟩]) (F := [.old 1, .op 4 0, .op 5 0, .op 6 0]) hst hb Za
   (o_p rfl (Zbw Zbb rfl rfl u_0) <| o_p rfl (Zf ty_4 rfl rfl u_0) <| o_p rfl (Zb rfl rfl u_0) <| o_p rfl (Zpf rfl rfl u_0) <| o_p rfl (Zz Zbb rfl rfl u_1 u_0) <| o_p rfl (Zc rfl rfl u_0) <| o_p rfl (Zz Zbz rfl rfl u_1 u_0) <| o_n) (by kernel_rfl) (fun a g hst hb => ?_)
 refine wp_ret ?_
 obtain rfl := Option.some.inj H0
 obtain ⟨u0, hu0, hq0⟩ := Z8 (P := Tryz.prog) Zbb (hst.at 1 rfl)
 obtain ⟨u2, hu2, hq2⟩ := Z8 (P := Tryz.prog) Zbz (hst.at 3 rfl)
 exact Zbap rfl hst hb hu0 (Zk (s := 5)) hu2 (Zgh hq0 (hst.at 2 rfl) hq2) ⟨Zcu (hst.at 0 rfl), trivial⟩
theorem Z2w (a0 : Int) {r : Int} (h : Zli a0 = some r) : FnOk Tryz.prog 69 [(pInt .i64 a0)] (pInt .i64 r) := by
 have H0 := h
 unfold Zli at H0
 clear h
 refine Zbp (N := 6) Tryz.func69 rfl rfl (Nat.le_of_ble_eq_true rfl) rfl rfl (fun a g0 hst hb => ?_)
 refine r_s (T := [⟨[], _, [], [], [2]⟩]) (F := [.old 0]) hst hb Za
   (o_p rfl (Zc rfl rfl c_i) <| o_n) (by kernel_rfl) (fun a g hst hb => ?_)
 obtain ⟨r1, h2, H0⟩ := Zh H0
 refine r_s (T := [⟨[.old 0], _, [], [], [3]⟩, ⟨[.op 0 0], _, [], [0], [4]⟩, ⟨[.op 1 0], _, [], [0, 1], [5]⟩, ⟨[.op 2 0], _, [], [0, 1, 2], [2]⟩]) (F := [.op 3 0]) hst hb Za
   (o_p rfl (Zb rfl rfl u_0) <| o_p rfl (Zn Z4w (Zv2 _ h2) rfl rfl (.cons u_0 .nil)) <| o_p rfl (Z38 Zw9 rfl rfl u_0) <| o_p rfl (Zc rfl rfl u_0) <| o_n) (by kernel_rfl) (fun a g hst hb => ?_)
 refine wp_ret ?_
 obtain rfl := Option.some.inj H0
 exact Z1 rfl hst hb (Zk (s := 2)) (hst.at 0 rfl)
theorem Zsi (a0 : Ze) (a1 : Z3) (a2 : Zg) {r : Int × Ze × Zg} (h : Zjo a0 a1 a2 = some r) : FnB Tryz.prog 95 [.box Zi a0 r.2.1, .val (Zbe.pd a1), .box Zm a2 r.2.2] (pInt .i64 r.1) := by
 have H0 := h
 unfold Zjo at H0
 clear h
 refine Zjq (N := 12) Tryz.func95 rfl rfl (Nat.le_of_ble_eq_true rfl) rfl rfl (fun a g0 bs hbs hst hb => ?_)
 obtain ⟨b0, b2, rfl⟩ := Zlk hbs
 replace hst : St 12 [(0, (Zby (some b0) Zi 0 a0)), (1, (Zbe.pd a1)), (2, (Zby (some b2) Zm 2 a2))] _ _ := hst
 refine r_s (T := [⟨[.old 1], _, [], [], [4]⟩, ⟨[], _, [], [], [6]⟩]) (F := [.old 0, .old 2, .op 0 0]) hst hb Za
   (o_p rfl (Zbj rfl rfl u_0) <| o_p rfl (Zc rfl rfl c_i) <| o_n) (by kernel_rfl) (fun a g hst hb => ?_)
 refine r_s (T := [⟨[.old 0], _, [], [], [7]⟩, ⟨[.old 2], _, [], [], [8]⟩, ⟨[.op 1 0], _, [], [1], [9]⟩, ⟨[.op 0 0], _, [], [0, 1, 2], [10]⟩, ⟨[.op 3 0], _, [], Lr 4, [11]⟩, ⟨[.op 2 0, .op 4 0, .old 0], _, [1], Lr 5, [0, 7, 10, 11]⟩]) (F := [.op 5 0, .old 1]) hst hb Za
   (o_p rfl (Zb rfl rfl u_0) <| o_p rfl (Zd Zfc rfl rfl u_0) <| o_p rfl (Zf ty_9 rfl rfl u_0) <| o_p rfl (Zu rfl rfl u_0 (fun _ _ ⟨_, _, _, e, _⟩ => ⟨_, e⟩)) <| o_p rfl (Zs Zia (off := 6) (by kernel_rfl) rfl rfl u_0) <| o_p rfl (Zru ty_9 rfl rfl u_2 u_1 u_0) <| o_n) (by kernel_rfl) (fun a g hst hb => ?_)
 refine r_s (T := [⟨[], _, [], [], [6]⟩]) (F := [.old 0, .old 1, .op 0 0]) hst hb Za
   (o_p rfl (Zc rfl rfl c_i) <| o_n) (by kernel_rfl) (fun a g hst hb => ?_)
 refine wp_ret ?_
 obtain rfl := Option.some.inj H0
 exact Zho rfl hst hb (Zk (s := 6)) (hst.at 2 rfl) ⟨Zcu (hst.at 0 rfl), Zcu (hst.at 1 rfl), trivial⟩
theorem Zsf (a0 : Ze) (a1 : Z3) (a2 : Zg) {r : Int × Ze × Zg} (h : Zg3 a0 a1 a2 = some r) : FnB Tryz.prog 96 [.box Zi a0 r.2.1, .val (Zbe.pd a1), .box Zm a2 r.2.2] (pInt .i64 r.1) := by
 have H0 := h
 unfold Zg3 at H0
 clear h
 refine Zjq (N := 19) Tryz.func96 rfl rfl (Nat.le_of_ble_eq_true rfl) rfl rfl (fun a g0 bs hbs hst hb => ?_)
 obtain ⟨b0, b2, rfl⟩ := Zlk hbs
 replace hst : St 19 [(0, (Zby (some b0) Zi 0 a0)), (1, (Zbe.pd a1)), (2, (Zby (some b2) Zm 2 a2))] _ _ := hst
 refine r_s (T := [⟨[.old 1], _, [], [], [4]⟩, ⟨[], _, [], [], [6]⟩]) (F := [.old 0, .old 2, .op 0 0]) hst hb Za
   (o_p rfl (Zbj rfl rfl u_0) <| o_p rfl (Zc rfl rfl c_i) <| o_n) (by kernel_rfl) (fun a g hst hb => ?_)
 obtain ⟨r1, h2, H0⟩ := Zh H0
 refine r_s (T := [⟨[.old 1], _, [], [], [7]⟩, ⟨[.old 0], _, [], [], [8]⟩, ⟨[.op 1 0], _, [], [1], [9]⟩, ⟨[.op 2 0], _, [], [1, 2], [10]⟩, ⟨[.op 3 0], _, [], [1, 2, 3], [11]⟩, ⟨[.op 0 0], _, [], Lr 5, [12]⟩, ⟨[.op 5 0], _, [], Lr 6, [13]⟩, ⟨[.op 4 0, .op 6 0, .old 1], _, [3], Lr 7, [2, 7, 12, 13]⟩]) (F := [.old 0, .op 7 0, .old 2]) hst hb Za
   (o_p rfl (Zb rfl rfl u_0) <| o_p rfl (Zb rfl rfl u_0) <| o_p rfl (Zu rfl rfl u_0 (fun _ _ ⟨_, _, _, e, _⟩ => ⟨_, e⟩)) <| o_p rfl (Zbw Zbb rfl rfl u_0) <| o_p rfl (Zn Zok (Zhk _ h2) rfl rfl (.cons u_0 .nil)) <| o_p rfl (Zu rfl rfl u_0 (fun _ _ ⟨_, _, _, e, _⟩ => ⟨_, e⟩)) <| o_p rfl (Zs Znm (off := 2) (by kernel_rfl) rfl rfl u_0) <| o_p rfl (Zzk Zbb rfl rfl u_2 u_1 u_0) <| o_n) (by kernel_rfl) (fun a g hst hb => ?_)
 refine r_s (T := [⟨[.old 0], _, [], [], [14]⟩, ⟨[.old 2], _, [], [], [15]⟩, ⟨[.op 1 0], _, [], [1], [16]⟩, ⟨[.op 0 0], _, [], [0, 1, 2], [17]⟩, ⟨[.op 3 0], _, [], Lr 4, [18]⟩, ⟨[.op 2 0, .op 4 0, .old 0], _, [1], Lr 5, [0, 14, 17, 18]⟩]) (F := [.op 5 0, .old 1]) hst hb Za
   (o_p rfl (Zb rfl rfl u_0) <| o_p rfl (Zd Zfc rfl rfl u_0) <| o_p rfl (Zf ty_9 rfl rfl u_0) <| o_p rfl (Zu rfl rfl u_0 (fun _ _ ⟨_, _, _, e, _⟩ => ⟨_, e⟩)) <| o_p rfl (Zs Zia (off := 6) (by kernel_rfl) rfl rfl u_0) <| o_p rfl (Zru ty_9 rfl rfl u_2 u_1 u_0) <| o_n) (by kernel_rfl) (fun a g hst hb => ?_)
 refine r_s (T := [⟨[], _, [], [], [6]⟩]) (F := [.old 0, .old 1, .op 0 0]) hst hb Za
   (o_p rfl (Zc rfl rfl c_i) <| o_n) (by kernel_rfl) (fun a g hst hb => ?_)
 refine wp_ret ?_
 obtain rfl := Option.some.inj H0
 exact Zho rfl hst hb (Zk (s := 6)) (hst.at 2 rfl) ⟨Zcu (hst.at 0 rfl), Zcu (hst.at 1 rfl), trivial⟩
theorem Zsj (a0 : Ze) (a1 : Z3) (a2 : Zg) {r : Int × Ze × Zg} (h : Zjp a0 a1 a2 = some r) : FnB Tryz.prog 97 [.box Zi a0 r.2.1, .val (Zbe.pd a1), .box Zm a2 r.2.2] (pInt .i64 r.1) := by
 have H0 := h
 unfold Zjp at H0
 clear h
 refine Zjq (N := 16) Tryz.func97 rfl rfl (Nat.le_of_ble_eq_true rfl) rfl rfl (fun a g0 bs hbs hst hb => ?_)
 obtain ⟨b0, b2, rfl⟩ := Zlk hbs
 replace hst : St 16 [(0, (Zby (some b0) Zi 0 a0)), (1, (Zbe.pd a1)), (2, (Zby (some b2) Zm 2 a2))] _ _ := hst
 refine r_s (T := [⟨[.old 1], _, [], [], [4]⟩, ⟨[], _, [], [], [6]⟩]) (F := [.old 0, .old 2, .op 0 0]) hst hb Za
   (o_p rfl (Zbj rfl rfl u_0) <| o_p rfl (Zc rfl rfl c_i) <| o_n) (by kernel_rfl) (fun a g hst hb => ?_)
 refine r_s (T := [⟨[.old 0], _, [], [], [7]⟩, ⟨[.op 0 0], _, [], [0], [8]⟩, ⟨[.op 1 0], _, [], [0, 1], [9]⟩, ⟨[.op 2 0], _, [], [0, 1, 2], [10]⟩, ⟨[.old 2], _, [], [], [11]⟩, ⟨[.op 4 0], _, [], [4], [12]⟩, ⟨[.op 3 0, .op 5 0], _, [], Lr 6, [13]⟩, ⟨[.op 0 0], _, [], Lr 7, [14]⟩, ⟨[.op 7 0], _, [], Lr 8, [15]⟩, ⟨[.op 6 0, .op 8 0, .old 0], _, [1], Lr 9, [0, 7, 8, 9, 14, 15]⟩]) (F := [.op 9 0, .old 1]) hst hb Za
   (o_p rfl (Zb rfl rfl u_0) <| o_p rfl (Zu rfl rfl u_0 (fun _ _ ⟨_, _, _, e, _⟩ => ⟨_, e⟩)) <| o_p rfl (Zs Zcs (off := 1) (by kernel_rfl) rfl rfl u_0) <| o_p rfl (Zbq ty_2 rfl rfl u_0) <| o_p rfl (Zd Zdv rfl rfl u_0) <| o_p rfl (Zf ty_2 rfl rfl u_0) <| o_p rfl (Zb3 rfl rfl u_0 u_1 rfl) <| o_p rfl (Zu rfl rfl u_0 (fun _ _ ⟨_, _, _, e, _⟩ => ⟨_, e⟩)) <| o_p rfl (Zs Zcs (off := 1) (by kernel_rfl) rfl rfl u_0) <| o_p rfl (Zlt ty_2 rfl rfl u_2 u_1 u_0) <| o_n) (by kernel_rfl) (fun a g hst hb => ?_)
 refine r_s (T := [⟨[], _, [], [], [6]⟩]) (F := [.old 0, .old 1, .op 0 0]) hst hb Za
   (o_p rfl (Zc rfl rfl c_i) <| o_n) (by kernel_rfl) (fun a g hst hb => ?_)
 refine wp_ret ?_
 obtain rfl := Option.some.inj H0
 exact Zho rfl hst hb (Zk (s := 6)) (hst.at 2 rfl) ⟨Zcu (hst.at 0 rfl), Zcu (hst.at 1 rfl), trivial⟩
theorem Zyl (a0 : Ze) (a1 : Z3) (a2 : Zg) {r : Int × Ze × Zg} (h : Zkk a0 a1 a2 = some r) : FnB Tryz.prog 98 [.box Zi a0 r.2.1, .val (Zbe.pd a1), .box Zm a2 r.2.2] (pInt .i64 r.1) := by
 have H0 := h
 unfold Zkk at H0
 clear h
 refine Zjq (N := 44) Tryz.func98 rfl rfl (Nat.le_of_ble_eq_true rfl) rfl rfl (fun a g0 bs hbs hst hb => ?_)
 obtain ⟨b0, b2, rfl⟩ := Zlk hbs
 replace hst : St 44 [(0, (Zby (some b0) Zi 0 a0)), (1, (Zbe.pd a1)), (2, (Zby (some b2) Zm 2 a2))] _ _ := hst
 refine r_s (T := [⟨[.old 1], _, [], [], [4]⟩, ⟨[], _, [], [], [6]⟩]) (F := [.old 0, .old 2, .op 0 0]) hst hb Za
   (o_p rfl (Zbj rfl rfl u_0) <| o_p rfl (Zc rfl rfl c_i) <| o_n) (by kernel_rfl) (fun a g hst hb => ?_)
 refine wp_seq ?_
 refine r_s (T := ⟨[.old 2], _, [], [], [7]⟩ :: ⟨[.op 0 0], _, [], [0], [8]⟩ :: ⟨[.op 1 0], _, [], [0, 1], [9]⟩ :: ⟨[.op 2 0], _, [], [0, 1, 2], [10]⟩ :: ⟨[.op 3 0, .old 0], _, [], Lr 4, [11]⟩ :: ⟨[.op 3 0, .op 4 0], _, [], Lr 5, [12]⟩ :: ⟨[.op 3 0, .op 5 0], _, [], Lr 6, [13]⟩ :: ⟨[.op 3 0, .op 6 0], _, [], Lr 7, [14]⟩ :: ⟨[.op 3 0, .old 2], _, [], Lr 4, [15]⟩ :: ⟨[.op 3 0, .op 8 0], _, [], [0, 1, 2, 3, 8], [16]⟩ :: ⟨[.op 3 0, .op 9 0], _, [], [0, 1, 2, 3, 8, 9], [17]⟩ :: ⟨[.op 3 0, .op 7 0, .op 10 0], _, [], Lr 11, [18]⟩ :: ⟨[.op 3 0, .op 11 0], _, [], Lr 12, [19]⟩ :: ⟨[.op 12 0], _, [], Lr 13, [20]⟩ :: ⟨[.op 13 0, .old 2], _, [], Lr 14, [21]⟩ :: ⟨[.op 13 0, .op 14 0], _, [], Lr 15, [22]⟩ :: ⟨[.op 13 0, .op 15 0], _, [], Lr 16, [23]⟩ :: ⟨[.op 13 0, .op 16 0], _, [], Lr 17, [24]⟩ :: ⟨[.op 17 0, .old 0], _, [], Lr 18, [25]⟩ :: ⟨[.op 17 0, .op 18 0], _, [], Lr 19, [26]⟩ :: ⟨[.op 17 0, .op 19 0], _, [], Lr 20, [27]⟩ :: ⟨[.op 17 0, .op 20 0], _, [], Lr 21, [28]⟩ :: ⟨[.op 17 0, .old 2], _, [], Lr 18, [29]⟩ :: ⟨[.op 17 0, .op 22 0], _, [], 0 :: 1 :: 2 :: 3 :: 4 :: 5 :: 6 :: 7 :: 8 :: 9 :: 10 :: 11 :: 12 :: 13 :: 14 :: 15 :: 16 :: 17 :: 22 :: [], [30]⟩ :: ⟨[.op 17 0, .op 23 0], _, [], 0 :: 1 :: 2 :: 3 :: 4 :: 5 :: 6 :: 7 :: 8 :: 9 :: 10 :: 11 :: 12 :: 13 :: 14 :: 15 :: 16 :: 17 :: 22 :: 23 :: [], [31]⟩ :: ⟨[.op 17 0, .op 21 0, .op 24 0], _, [], Lr 25, [32]⟩ :: ⟨[.op 13 0, .op 17 0, .op 25 0], _, [], Lr 26, [33]⟩ :: ⟨[.op 13 0, .op 26 0], _, [], Lr 27, [34]⟩ :: []) (F := [.old 0, .old 1, .old 2, .op 27 0]) hst hb Za
   (o_p rfl (Zd Zdv rfl rfl u_0) <| o_p rfl (Zf ty_2 rfl rfl u_0) <| o_p rfl (Zck rfl rfl u_0 c_i) <| o_p rfl (Zb rfl rfl u_0) <| o_g (g_t rfl rfl rfl (fun hG => Zb rfl rfl u_0)) <| o_g (g_t rfl rfl rfl (fun hG => Zu rfl rfl (Opd.gd hG u_0) (fun _ _ ⟨_, _, _, e, _⟩ => ⟨_, e⟩))) <| o_g (g_t rfl rfl rfl (fun hG => Zs Zcs (off := 1) (by kernel_rfl) rfl rfl (Opd.gd hG u_0))) <| o_g (g_t rfl rfl rfl (fun hG => Zbq ty_2 rfl rfl (Opd.gd hG u_0))) <| o_g (g_t rfl rfl rfl (fun hG => Zd Zdv rfl rfl u_0)) <| o_g (g_t rfl rfl rfl (fun hG => Zf ty_2 rfl rfl (Opd.gd hG u_0))) <| o_g (g_t rfl rfl rfl (fun hG => Zgn rfl rfl c_i (Opd.gd hG u_0) rfl)) <| o_g (g_t rfl rfl rfl (fun hG => Zck rfl rfl (Opd.gd hG u_0) (Opd.gd hG u_1))) <| o_p rfl (Zbc rfl rfl u_0 (fun hz => (Opd.gd hz u_1))) <| o_p rfl (Zb rfl rfl u_0) <| o_g (g_f rfl rfl rfl (fun hG => Zd Zdv rfl rfl u_0)) <| o_g (g_f rfl rfl rfl (fun hG => Zf ty_2 rfl rfl (Opd.gd hG u_0))) <| o_g (g_f rfl rfl rfl (fun hG => Zcc rfl rfl (Opd.gd hG u_0) c_i)) <| o_g (g_f rfl rfl rfl (fun hG => Zb rfl rfl (Opd.gd hG u_0))) <| o_g (g_ti rfl rfl rfl (fun hG => Zb rfl rfl u_0)) <| o_g (g_ti rfl rfl rfl (fun hG => Zu rfl rfl (Opd.gd hG u_0) (fun _ _ ⟨_, _, _, e, _⟩ => ⟨_, e⟩))) <| o_g (g_ti rfl rfl rfl (fun hG => Zs Zcs (off := 1) (by kernel_rfl) rfl rfl (Opd.gd hG u_0))) <| o_g (g_ti rfl rfl rfl (fun hG => Zbq ty_2 rfl rfl (Opd.gd hG u_0))) <| o_g (g_ti rfl rfl rfl (fun hG => Zd Zdv rfl rfl u_0)) <| o_g (g_ti rfl rfl rfl (fun hG => Zf ty_2 rfl rfl (Opd.gd hG u_0))) <| o_g (g_ti rfl rfl rfl (fun hG => Zgn rfl rfl c_i (Opd.gd hG u_0) rfl)) <| o_g (g_ti rfl rfl rfl (fun hG => Zcc rfl rfl (Opd.gd hG u_0) (Opd.gd hG u_1))) <| o_g (g_f rfl rfl rfl (fun hG => Zbc rfl rfl (Opd.gd hG u_0) (fun hz => (Opd.gd (bA hG hz) u_1)))) <| o_p rfl (Zbt rfl rfl u_0 (fun hz => (Opd.gd (bNF hz) u_1))) <| o_n) (by kernel_rfl) (fun a g hst hb => ?_)
 refine wp_cond_split (hst.bool 3 rfl) (fun hc1 => ?_) (fun hc1 => ?_)
 · replace H0 := Zw hc1 H0
   refine r_s (L := [(0, _), (2, _)]) (T := [⟨[], _, [], [], [6]⟩]) (F := [.old 0, .old 1, .op 0 0]) (hst.pick [0, 1] rfl) hb Za
     (o_p rfl (Zc rfl rfl c_i) <| o_n) (by kernel_rfl) (fun a g hst hb => ?_)
   refine wp_ret ?_
   refine Zq ?_
   obtain rfl := Option.some.inj H0
   exact Zho rfl hst hb (Zk (s := 6)) (hst.at 2 rfl) ⟨Zcu (hst.at 0 rfl), Zcu (hst.at 1 rfl), trivial⟩
 · replace H0 := Zx hc1 H0
   refine wp_skip ?_
   refine Zr ?_
   refine r_s (L := [(0, _), (2, _), (4, _)]) (T := [⟨[.old 0], _, [], [], [35]⟩, ⟨[.op 0 0], _, [], [0], [36]⟩, ⟨[.op 1 0], _, [], [0, 1], [37]⟩, ⟨[.op 2 0], _, [], [0, 1, 2], [38]⟩, ⟨[.old 2], _, [], [], [39]⟩, ⟨[.op 4 0], _, [], [4], [40]⟩, ⟨[.op 3 0, .op 5 0], _, [], Lr 6, [41]⟩, ⟨[.op 0 0], _, [], Lr 7, [42]⟩, ⟨[.op 7 0], _, [], Lr 8, [43]⟩, ⟨[.op 6 0, .op 8 0, .old 0], _, [1], Lr 9, [0, 35, 36, 37, 42, 43]⟩]) (F := [.op 9 0, .old 1]) (hst.pick [0, 1, 2] rfl) hb Za
     (o_p rfl (Zb rfl rfl u_0) <| o_p rfl (Zu rfl rfl u_0 (fun _ _ ⟨_, _, _, e, _⟩ => ⟨_, e⟩)) <| o_p rfl (Zs Zcs (off := 1) (by kernel_rfl) rfl rfl u_0) <| o_p rfl (Zbq ty_2 rfl rfl u_0) <| o_p rfl (Zd Zdv rfl rfl u_0) <| o_p rfl (Zf ty_2 rfl rfl u_0) <| o_p rfl (Zb3 rfl rfl u_0 u_1 rfl) <| o_p rfl (Zu rfl rfl u_0 (fun _ _ ⟨_, _, _, e, _⟩ => ⟨_, e⟩)) <| o_p rfl (Zs Zcs (off := 1) (by kernel_rfl) rfl rfl u_0) <| o_p rfl (Zlt ty_2 rfl rfl u_2 u_1 u_0) <| o_n) (by kernel_rfl) (fun a g hst hb => ?_)
   refine r_s (T := [⟨[], _, [], [], [6]⟩]) (F := [.old 0, .old 1, .op 0 0]) hst hb Za
     (o_p rfl (Zc rfl rfl c_i) <| o_n) (by kernel_rfl) (fun a g hst hb => ?_)
   refine wp_ret ?_
   obtain rfl := Option.some.inj H0
   exact Zho rfl hst hb (Zk (s := 6)) (hst.at 2 rfl) ⟨Zcu (hst.at 0 rfl), Zcu (hst.at 1 rfl), trivial⟩
theorem Zod (a0 : Ze) (a1 : Z3) (a2 : Zg) {r : Int × Ze × Zg} (h : Zd5 a0 a1 a2 = some r) : FnB Tryz.prog 99 [.box Zi a0 r.2.1, .val (Zbe.pd a1), .box Zm a2 r.2.2] (pInt .i64 r.1) := by
 have H0 := h
 unfold Zd5 at H0
 clear h
 refine Zjq (N := 14) Tryz.func99 rfl rfl (Nat.le_of_ble_eq_true rfl) rfl rfl (fun a g0 bs hbs hst hb => ?_)
 obtain ⟨b0, b2, rfl⟩ := Zlk hbs
 replace hst : St 14 [(0, (Zby (some b0) Zi 0 a0)), (1, (Zbe.pd a1)), (2, (Zby (some b2) Zm 2 a2))] _ _ := hst
 refine r_s (T := [⟨[.old 1], _, [], [], [4]⟩, ⟨[], _, [], [], [6]⟩]) (F := [.old 0, .old 2, .op 0 0]) hst hb Za
   (o_p rfl (Zbj rfl rfl u_0) <| o_p rfl (Zc rfl rfl c_i) <| o_n) (by kernel_rfl) (fun a g hst hb => ?_)
 refine wp_seq ?_
 refine r_s (T := [⟨[.old 0], _, [], [], [7]⟩, ⟨[.op 0 0], _, [], [0], [8]⟩, ⟨[.op 1 0], _, [], [0, 1], [9]⟩, ⟨[.op 2 0], _, [], [0, 1, 2], [10]⟩, ⟨[.old 2], _, [], [], [11]⟩, ⟨[.op 4 0], _, [], [4], [12]⟩, ⟨[.op 3 0, .op 5 0], _, [], Lr 6, [13]⟩]) (F := [.old 0, .old 1, .op 6 0]) hst hb Za
   (o_p rfl (Zb rfl rfl u_0) <| o_p rfl (Zu rfl rfl u_0 (fun _ _ ⟨_, _, _, e, _⟩ => ⟨_, e⟩)) <| o_p rfl (Zs Zcs (off := 1) (by kernel_rfl) rfl rfl u_0) <| o_p rfl (Zbq ty_2 rfl rfl u_0) <| o_p rfl (Zd Zdv rfl rfl u_0) <| o_p rfl (Zf ty_2 rfl rfl u_0) <| o_p rfl (Zcc rfl rfl u_0 u_1) <| o_n) (by kernel_rfl) (fun a g hst hb => ?_)
 refine wp_cond_split (hst.bool 2 rfl) (fun hc1 => ?_) (fun hc1 => ?_)
 · replace H0 := Zw hc1 H0
   refine r_s (L := [(0, _), (2, _)]) (T := [⟨[], _, [], [], [6]⟩]) (F := [.old 0, .old 1, .op 0 0]) (hst.pick [0, 1] rfl) hb Za
     (o_p rfl (Zc rfl rfl c_i) <| o_n) (by kernel_rfl) (fun a g hst hb => ?_)
   refine wp_ret ?_
   refine Zq ?_
   obtain rfl := Option.some.inj H0
   exact Zho rfl hst hb (Zk (s := 6)) (hst.at 2 rfl) ⟨Zcu (hst.at 0 rfl), Zcu (hst.at 1 rfl), trivial⟩
 · replace H0 := Zx hc1 H0
   refine wp_skip ?_
   refine Zr ?_
   refine r_s (L := [(0, _), (2, _)]) (T := [⟨[], _, [], [], [6]⟩]) (F := [.old 0, .old 1, .op 0 0]) (hst.pick [0, 1] rfl) hb Za
     (o_p rfl (Zc rfl rfl c_i) <| o_n) (by kernel_rfl) (fun a g hst hb => ?_)
   refine wp_ret ?_
   obtain rfl := Option.some.inj H0
   exact Zho rfl hst hb (Zk (s := 6)) (hst.at 2 rfl) ⟨Zcu (hst.at 0 rfl), Zcu (hst.at 1 rfl), trivial⟩
theorem Zsa (a0 : Ze) (a1 : Z3) (a2 : Zg) {r : Int × Ze × Zg} (h : Zg5 a0 a1 a2 = some r) : FnB Tryz.prog 100 [.box Zi a0 r.2.1, .val (Zbe.pd a1), .box Zm a2 r.2.2] (pInt .i64 r.1) := by
 have H0 := h
 unfold Zg5 at H0
 clear h
 refine Zjq (N := 28) Tryz.func100 rfl rfl (Nat.le_of_ble_eq_true rfl) rfl rfl (fun a g0 bs hbs hst hb => ?_)
 obtain ⟨b0, b2, rfl⟩ := Zlk hbs
 replace hst : St 28 [(0, (Zby (some b0) Zi 0 a0)), (1, (Zbe.pd a1)), (2, (Zby (some b2) Zm 2 a2))] _ _ := hst
 refine r_s (T := [⟨[.old 1], _, [], [], [4]⟩, ⟨[], _, [], [], [6]⟩]) (F := [.old 0, .old 2, .op 0 0]) hst hb Za
   (o_p rfl (Zbj rfl rfl u_0) <| o_p rfl (Zc rfl rfl c_i) <| o_n) (by kernel_rfl) (fun a g hst hb => ?_)
 refine wp_seq ?_
 refine r_s (T := ⟨[.old 2], _, [], [], [7]⟩ :: ⟨[.op 0 0], _, [], [0], [8]⟩ :: ⟨[.old 0], _, [], [], [9]⟩ :: ⟨[.op 2 0], _, [], [2], [10]⟩ :: ⟨[.op 3 0], _, [], [2, 3], [11]⟩ :: ⟨[.op 4 0], _, [], [2, 3, 4], [12]⟩ :: ⟨[.old 0], _, [], [], [13]⟩ :: ⟨[.op 6 0], _, [], [6], [14]⟩ :: ⟨[.op 7 0], _, [], [6, 7], [15]⟩ :: ⟨[.op 8 0], _, [], [6, 7, 8], [16]⟩ :: ⟨[.op 5 0, .op 9 0], _, [], List.range' 2 8, [17]⟩ :: ⟨[.op 1 0, .op 10 0], _, [], Lr 11, [18]⟩ :: []) (F := [.old 0, .old 1, .old 2, .op 11 0]) hst hb Za
   (o_p rfl (Zd Zdv rfl rfl u_0) <| o_p rfl (Zf ty_2 rfl rfl u_0) <| o_p rfl (Zb rfl rfl u_0) <| o_p rfl (Zu rfl rfl u_0 (fun _ _ ⟨_, _, _, e, _⟩ => ⟨_, e⟩)) <| o_p rfl (Zs Zip (off := 3) (by kernel_rfl) rfl rfl u_0) <| o_p rfl (Zbq ty_2 rfl rfl u_0) <| o_p rfl (Zb rfl rfl u_0) <| o_p rfl (Zu rfl rfl u_0 (fun _ _ ⟨_, _, _, e, _⟩ => ⟨_, e⟩)) <| o_p rfl (Zs Zcs (off := 1) (by kernel_rfl) rfl rfl u_0) <| o_p rfl (Zbq ty_2 rfl rfl u_0) <| o_p rfl (Zgn rfl rfl u_0 u_1 rfl) <| o_p rfl (Zck rfl rfl u_0 u_1) <| o_n) (by kernel_rfl) (fun a g hst hb => ?_)
 refine wp_cond_split (hst.bool 3 rfl) (fun hc1 => ?_) (fun hc1 => ?_)
 · replace H0 := Zw hc1 H0
   refine r_s (L := [(0, _), (2, _)]) (T := [⟨[], _, [], [], [6]⟩]) (F := [.old 0, .old 1, .op 0 0]) (hst.pick [0, 1] rfl) hb Za
     (o_p rfl (Zc rfl rfl c_i) <| o_n) (by kernel_rfl) (fun a g hst hb => ?_)
   refine wp_ret ?_
   refine Zq ?_
   obtain rfl := Option.some.inj H0
   exact Zho rfl hst hb (Zk (s := 6)) (hst.at 2 rfl) ⟨Zcu (hst.at 0 rfl), Zcu (hst.at 1 rfl), trivial⟩
 · replace H0 := Zx hc1 H0
   refine wp_skip ?_
   refine Zr ?_
   refine r_s (L := [(0, _), (2, _), (4, _)]) (T := [⟨[.old 0], _, [], [], [19]⟩, ⟨[.op 0 0], _, [], [0], [20]⟩, ⟨[.op 1 0], _, [], [0, 1], [21]⟩, ⟨[.op 2 0], _, [], [0, 1, 2], [22]⟩, ⟨[.old 2], _, [], [], [23]⟩, ⟨[.op 4 0], _, [], [4], [24]⟩, ⟨[.op 3 0, .op 5 0], _, [], Lr 6, [25]⟩, ⟨[.op 0 0], _, [], Lr 7, [26]⟩, ⟨[.op 7 0], _, [], Lr 8, [27]⟩, ⟨[.op 6 0, .op 8 0, .old 0], _, [1], Lr 9, [0, 19, 20, 21, 26, 27]⟩]) (F := [.op 9 0, .old 1]) (hst.pick [0, 1, 2] rfl) hb Za
     (o_p rfl (Zb rfl rfl u_0) <| o_p rfl (Zu rfl rfl u_0 (fun _ _ ⟨_, _, _, e, _⟩ => ⟨_, e⟩)) <| o_p rfl (Zs Zcs (off := 1) (by kernel_rfl) rfl rfl u_0) <| o_p rfl (Zbq ty_2 rfl rfl u_0) <| o_p rfl (Zd Zdv rfl rfl u_0) <| o_p rfl (Zf ty_2 rfl rfl u_0) <| o_p rfl (Zb3 rfl rfl u_0 u_1 rfl) <| o_p rfl (Zu rfl rfl u_0 (fun _ _ ⟨_, _, _, e, _⟩ => ⟨_, e⟩)) <| o_p rfl (Zs Zcs (off := 1) (by kernel_rfl) rfl rfl u_0) <| o_p rfl (Zlt ty_2 rfl rfl u_2 u_1 u_0) <| o_n) (by kernel_rfl) (fun a g hst hb => ?_)
   refine r_s (T := [⟨[], _, [], [], [6]⟩]) (F := [.old 0, .old 1, .op 0 0]) hst hb Za
     (o_p rfl (Zc rfl rfl c_i) <| o_n) (by kernel_rfl) (fun a g hst hb => ?_)
   refine wp_ret ?_
   obtain rfl := Option.some.inj H0
   exact Zho rfl hst hb (Zk (s := 6)) (hst.at 2 rfl) ⟨Zcu (hst.at 0 rfl), Zcu (hst.at 1 rfl), trivial⟩
theorem Zsg (a0 : Ze) (a1 : Z3) (a2 : Zg) {r : Int × Ze × Zg} (h : Zg0 a0 a1 a2 = some r) : FnB Tryz.prog 101 [.box Zi a0 r.2.1, .val (Zbe.pd a1), .box Zm a2 r.2.2] (pInt .i64 r.1) := by
 have H0 := h
 unfold Zg0 at H0
 clear h
 refine Zjq (N := 28) Tryz.func101 rfl rfl (Nat.le_of_ble_eq_true rfl) rfl rfl (fun a g0 bs hbs hst hb => ?_)
 obtain ⟨b0, b2, rfl⟩ := Zlk hbs
 replace hst : St 28 [(0, (Zby (some b0) Zi 0 a0)), (1, (Zbe.pd a1)), (2, (Zby (some b2) Zm 2 a2))] _ _ := hst
 refine r_s (T := [⟨[.old 1], _, [], [], [4]⟩, ⟨[], _, [], [], [6]⟩]) (F := [.old 0, .old 2, .op 0 0]) hst hb Za
   (o_p rfl (Zbj rfl rfl u_0) <| o_p rfl (Zc rfl rfl c_i) <| o_n) (by kernel_rfl) (fun a g hst hb => ?_)
 refine wp_seq ?_
 refine r_s (T := ⟨[.old 2], _, [], [], [7]⟩ :: ⟨[.op 0 0], _, [], [0], [8]⟩ :: ⟨[.old 0], _, [], [], [9]⟩ :: ⟨[.op 2 0], _, [], [2], [10]⟩ :: ⟨[.op 3 0], _, [], [2, 3], [11]⟩ :: ⟨[.op 4 0], _, [], [2, 3, 4], [12]⟩ :: ⟨[.old 0], _, [], [], [13]⟩ :: ⟨[.op 6 0], _, [], [6], [14]⟩ :: ⟨[.op 7 0], _, [], [6, 7], [15]⟩ :: ⟨[.op 8 0], _, [], [6, 7, 8], [16]⟩ :: ⟨[.op 5 0, .op 9 0], _, [], List.range' 2 8, [17]⟩ :: ⟨[.op 1 0, .op 10 0], _, [], Lr 11, [18]⟩ :: []) (F := [.old 0, .old 1, .old 2, .op 11 0]) hst hb Za
   (o_p rfl (Zd Zdv rfl rfl u_0) <| o_p rfl (Zf ty_2 rfl rfl u_0) <| o_p rfl (Zb rfl rfl u_0) <| o_p rfl (Zu rfl rfl u_0 (fun _ _ ⟨_, _, _, e, _⟩ => ⟨_, e⟩)) <| o_p rfl (Zs Zcs (off := 1) (by kernel_rfl) rfl rfl u_0) <| o_p rfl (Zbq ty_2 rfl rfl u_0) <| o_p rfl (Zb rfl rfl u_0) <| o_p rfl (Zu rfl rfl u_0 (fun _ _ ⟨_, _, _, e, _⟩ => ⟨_, e⟩)) <| o_p rfl (Zs Ziq (off := 2) (by kernel_rfl) rfl rfl u_0) <| o_p rfl (Zbq ty_2 rfl rfl u_0) <| o_p rfl (Zgn rfl rfl u_0 u_1 rfl) <| o_p rfl (Zck rfl rfl u_0 u_1) <| o_n) (by kernel_rfl) (fun a g hst hb => ?_)
 refine wp_cond_split (hst.bool 3 rfl) (fun hc1 => ?_) (fun hc1 => ?_)
 · replace H0 := Zw hc1 H0
   refine r_s (L := [(0, _), (2, _)]) (T := [⟨[], _, [], [], [6]⟩]) (F := [.old 0, .old 1, .op 0 0]) (hst.pick [0, 1] rfl) hb Za
     (o_p rfl (Zc rfl rfl c_i) <| o_n) (by kernel_rfl) (fun a g hst hb => ?_)
   refine wp_ret ?_
   refine Zq ?_
   obtain rfl := Option.some.inj H0
   exact Zho rfl hst hb (Zk (s := 6)) (hst.at 2 rfl) ⟨Zcu (hst.at 0 rfl), Zcu (hst.at 1 rfl), trivial⟩
 · replace H0 := Zx hc1 H0
   refine wp_skip ?_
   refine Zr ?_
   refine r_s (L := [(0, _), (2, _), (4, _)]) (T := [⟨[.old 0], _, [], [], [19]⟩, ⟨[.op 0 0], _, [], [0], [20]⟩, ⟨[.op 1 0], _, [], [0, 1], [21]⟩, ⟨[.op 2 0], _, [], [0, 1, 2], [22]⟩, ⟨[.old 2], _, [], [], [23]⟩, ⟨[.op 4 0], _, [], [4], [24]⟩, ⟨[.op 3 0, .op 5 0], _, [], Lr 6, [25]⟩, ⟨[.op 0 0], _, [], Lr 7, [26]⟩, ⟨[.op 7 0], _, [], Lr 8, [27]⟩, ⟨[.op 6 0, .op 8 0, .old 0], _, [1], Lr 9, [0, 19, 20, 21, 26, 27]⟩]) (F := [.op 9 0, .old 1]) (hst.pick [0, 1, 2] rfl) hb Za
     (o_p rfl (Zb rfl rfl u_0) <| o_p rfl (Zu rfl rfl u_0 (fun _ _ ⟨_, _, _, e, _⟩ => ⟨_, e⟩)) <| o_p rfl (Zs Zcs (off := 1) (by kernel_rfl) rfl rfl u_0) <| o_p rfl (Zbq ty_2 rfl rfl u_0) <| o_p rfl (Zd Zdv rfl rfl u_0) <| o_p rfl (Zf ty_2 rfl rfl u_0) <| o_p rfl (Zgn rfl rfl u_0 u_1 rfl) <| o_p rfl (Zu rfl rfl u_0 (fun _ _ ⟨_, _, _, e, _⟩ => ⟨_, e⟩)) <| o_p rfl (Zs Zcs (off := 1) (by kernel_rfl) rfl rfl u_0) <| o_p rfl (Zlt ty_2 rfl rfl u_2 u_1 u_0) <| o_n) (by kernel_rfl) (fun a g hst hb => ?_)
   refine r_s (T := [⟨[], _, [], [], [6]⟩]) (F := [.old 0, .old 1, .op 0 0]) hst hb Za
     (o_p rfl (Zc rfl rfl c_i) <| o_n) (by kernel_rfl) (fun a g hst hb => ?_)
   refine wp_ret ?_
   obtain rfl := Option.some.inj H0
   exact Zho rfl hst hb (Zk (s := 6)) (hst.at 2 rfl) ⟨Zcu (hst.at 0 rfl), Zcu (hst.at 1 rfl), trivial⟩
theorem Zjm (h : Nat) (he : Zp Tryz.prog h) (ψ : Nat → Nat → Option Nat) (hψ : ∀ x y z, ψ x y = some z → FnOk Tryz.prog h [pFlt x, pFlt y] (pFlt z)) (a0 : Ze) (a1 : Z3) (a2 : Zg) {z : Nat} (hz : ψ a0.Real a1.X = some z) : FnB Tryz.prog 134 [.box Zi a0 { a0 with Real := z }, .val (Zbe.pd a1), .box Zm a2 a2, .val (Kd.fnc.ptr h)] (pInt .i64 0) := by
 refine Zjq (N := 19) Tryz.func134 rfl rfl (Nat.le_of_ble_eq_true rfl) rfl rfl (fun a g0 bs hbs hst hb => ?_)
 obtain ⟨b0, b2, rfl⟩ := Zlk hbs
 replace hst : St 19 [(0, (Zby (some b0) Zi 0 a0)), (1, (Zbe.pd a1)), (2, (Zby (some b2) Zm 2 a2)), (3, (Kd.fnc.ptr h))] _ _ := hst
 refine r_s (T := [⟨[.old 1], _, [], [], [5]⟩, ⟨[], _, [], [], [7]⟩]) (F := [.old 0, .old 2, .old 3, .op 0 0]) hst hb Za
   (o_p rfl (Zbj rfl rfl u_0) <| o_p rfl (Zc rfl rfl c_i) <| o_n) (by kernel_rfl) (fun a g hst hb => ?_)
 refine r_s (T := [⟨[.old 0], _, [], [], [8]⟩, ⟨[.old 2], _, [], [], [9]⟩, ⟨[.old 0], _, [], [], [10]⟩, ⟨[.op 2 0], _, [], [2], [11]⟩, ⟨[.op 3 0], _, [], [2, 3], [12]⟩, ⟨[.op 4 0], _, [], [2, 3, 4], [13]⟩, ⟨[.old 3], _, [], [], [14]⟩, ⟨[.op 6 0], _, [], [6], [15]⟩, ⟨[.op 1 0, .op 5 0, .op 7 0], [(16, (pFlt z))], [], [1, 2, 3, 4, 5, 6, 7], [16]⟩, ⟨[.op 0 0], _, [], [0, 1, 2, 3, 4, 5, 6, 7, 8], [17]⟩, ⟨[.op 9 0], _, [], [0, 1, 2, 3, 4, 5, 6, 7, 8, 9], [18]⟩, ⟨[.op 8 0, .op 10 0, .old 0], _, [1], [0, 1, 2, 3, 4, 5, 6, 7, 8, 9, 10], [0, 8, 10, 11, 12, 17, 18]⟩]) (F := [.op 11 0, .old 1]) hst hb Za
   (o_p rfl (Zb rfl rfl u_0) <| o_p rfl (Zf Z5z rfl rfl u_0) <| o_p rfl (Zb rfl rfl u_0) <| o_p rfl (Zu rfl rfl u_0 (fun _ _ ⟨_, _, _, e, _⟩ => ⟨_, e⟩)) <| o_p rfl (Zs Zfj (off := 4) (by kernel_rfl) rfl rfl u_0) <| o_p rfl (Zbq Zcv rfl rfl u_0) <| o_p rfl (Zd Zin rfl rfl u_0) <| o_p rfl (Zf Zcv rfl rfl u_0) <| o_p rfl (Zns (C := []) (hC := rfl) he (hψ _ _ _ hz) rfl rfl (Opd.imp u_0 (fun _ _ h => Z6d h)) (.cons u_1 (.cons u_2 .nil))) <| o_p rfl (Zu rfl rfl u_0 (fun _ _ ⟨_, _, _, e, _⟩ => ⟨_, e⟩)) <| o_p rfl (Zs Zfj (off := 4) (by kernel_rfl) rfl rfl u_0) <| o_p rfl (Znj Zcv rfl rfl u_2 u_1 u_0) <| o_n) (by kernel_rfl) (fun a g hst hb => ?_)
 refine r_s (T := [⟨[], _, [], [], [7]⟩]) (F := [.old 0, .old 1, .op 0 0]) hst hb Za
   (o_p rfl (Zc rfl rfl c_i) <| o_n) (by kernel_rfl) (fun a g hst hb => ?_)
 refine wp_ret ?_
 exact Zho rfl hst hb (Zk (s := 7)) (hst.at 2 rfl) ⟨Zcu (hst.at 0 rfl), Zcu (hst.at 1 rfl), trivial⟩
theorem Zkp (h : Nat) : FnOk Tryz.prog 102 [(Kd.fnc.pd h)] (pClo 134 [(Kd.fnc.ptr h)] rfl) := by
 refine Zbp (N := 4) Tryz.func102 rfl rfl (Nat.le_of_ble_eq_true rfl) rfl rfl (fun a g0 hst hb => ?_)
 refine r_s (T := [⟨[.old 0], _, [], [], [1]⟩, ⟨[], [], [], [], [2]⟩]) (F := [.op 0 0]) hst hb Za
   (o_p rfl (Zbj rfl rfl u_0) <| o_p rfl (Z37 (.inr rfl)) <| o_n) (by kernel_rfl) (fun a g hst hb => ?_)
 refine r_s (T := [⟨[.old 0], [(3, (pClo 134 [(Kd.fnc.ptr h)] rfl))], [], [], [3]⟩, ⟨[.op 0 0], _, [], [0], [2]⟩]) (F := [.op 1 0]) hst hb Za
   (o_p rfl (Zyt rfl rfl (.cons u_0 .nil)) <| o_p rfl (Zc rfl rfl u_0) <| o_n) (by kernel_rfl) (fun a g hst hb => ?_)
 refine wp_ret ?_
 exact Z1 rfl hst hb (Zk (s := 2)) (hst.at 0 rfl)
theorem Z0f (a0 : Nat) (a1 : Nat) {r : Nat} (h : Zk8 a0 a1 = some r) : FnOk Tryz.prog 103 [(pFlt a0), (pFlt a1)] (pFlt r) := by
 have H0 := h
 unfold Zk8 at H0
 clear h
 refine Zbp (N := 12) Tryz.func103 rfl rfl (Nat.le_of_ble_eq_true rfl) rfl rfl (fun a g0 hst hb => ?_)
 refine r_s (T := [⟨[], _, [], [], [4]⟩]) (F := [.old 0, .old 1]) hst hb Za
   (o_p rfl (Zc rfl rfl c_f) <| o_n) (by kernel_rfl) (fun a g hst hb => ?_)
 refine wp_seq ?_
 obtain ⟨r1, h2, H0⟩ := Zh H0
 refine r_s (T := [⟨[.old 0], _, [], [], [5]⟩, ⟨[.old 1], _, [], [], [6]⟩, ⟨[.op 0 0, .op 1 0], _, [], [0, 1], [7]⟩]) (F := [.old 0, .old 1, .op 2 0]) hst hb Za
   (o_p rfl (Zb rfl rfl u_0) <| o_p rfl (Zb rfl rfl u_0) <| o_p rfl (Zn Zxh (Zot _ _ h2) rfl rfl (.cons u_0 (.cons u_1 .nil))) <| o_n) (by kernel_rfl) (fun a g hst hb => ?_)
 refine wp_cond_split (hst.bool 2 rfl) (fun hc3 => ?_) (fun hc3 => ?_)
 · replace H0 := Zw hc3 H0
   obtain ⟨r4, h5, H0⟩ := Zh H0
   refine r_s (L := [(1, _)]) (T := [⟨[.old 0], _, [], [], [8]⟩, ⟨[.op 0 0], _, [], [0], [9]⟩, ⟨[.op 1 0], _, [], [0, 1], [4]⟩]) (F := [.op 2 0]) (hst.pick [1] rfl) hb Za
     (o_p rfl (Zb rfl rfl u_0) <| o_p rfl (Zn Zm4 (Zhd _ h5) rfl rfl (.cons u_0 .nil)) <| o_p rfl (Zc rfl rfl u_0) <| o_n) (by kernel_rfl) (fun a g hst hb => ?_)
   refine wp_ret ?_
   refine Zq ?_
   obtain rfl := Option.some.inj H0
   exact Z1 rfl hst hb (Zk (s := 4)) (hst.at 0 rfl)
 · replace H0 := Zx hc3 H0
   refine wp_skip ?_
   refine Zr ?_
   obtain ⟨r6, h7, H0⟩ := Zh H0
   refine r_s (L := [(0, _)]) (T := [⟨[.old 0], _, [], [], [10]⟩, ⟨[.op 0 0], _, [], [0], [11]⟩, ⟨[.op 1 0], _, [], [0, 1], [4]⟩]) (F := [.op 2 0]) (hst.pick [0] rfl) hb Za
     (o_p rfl (Zb rfl rfl u_0) <| o_p rfl (Zn Zm4 (Zhd _ h7) rfl rfl (.cons u_0 .nil)) <| o_p rfl (Zc rfl rfl u_0) <| o_n) (by kernel_rfl) (fun a g hst hb => ?_)
   refine wp_ret ?_
   obtain rfl := Option.some.inj H0
   exact Z1 rfl hst hb (Zk (s := 4)) (hst.at 0 rfl)
theorem Z06 (a0 : Nat) (a1 : Nat) {r : Nat} (h : Zk9 a0 a1 = some r) : FnOk Tryz.prog 104 [(pFlt a0), (pFlt a1)] (pFlt r) := by
 have H0 := h
 unfold Zk9 at H0
 clear h
 refine Zbp (N := 12) Tryz.func104 rfl rfl (Nat.le_of_ble_eq_true rfl) rfl rfl (fun a g0 hst hb => ?_)
 refine r_s (T := [⟨[], _, [], [], [4]⟩]) (F := [.old 0, .old 1]) hst hb Za
   (o_p rfl (Zc rfl rfl c_f) <| o_n) (by kernel_rfl) (fun a g hst hb => ?_)
 refine wp_seq ?_
 obtain ⟨r1, h2, H0⟩ := Zh H0
 refine r_s (T := [⟨[.old 1], _, [], [], [5]⟩, ⟨[.old 0], _, [], [], [6]⟩, ⟨[.op 0 0, .op 1 0], _, [], [0, 1], [7]⟩]) (F := [.old 0, .old 1, .op 2 0]) hst hb Za
   (o_p rfl (Zb rfl rfl u_0) <| o_p rfl (Zb rfl rfl u_0) <| o_p rfl (Zn Zxh (Zot _ _ h2) rfl rfl (.cons u_0 (.cons u_1 .nil))) <| o_n) (by kernel_rfl) (fun a g hst hb => ?_)
 refine wp_cond_split (hst.bool 2 rfl) (fun hc3 => ?_) (fun hc3 => ?_)
 · replace H0 := Zw hc3 H0
   obtain ⟨r4, h5, H0⟩ := Zh H0
   refine r_s (L := [(1, _)]) (T := [⟨[.old 0], _, [], [], [8]⟩, ⟨[.op 0 0], _, [], [0], [9]⟩, ⟨[.op 1 0], _, [], [0, 1], [4]⟩]) (F := [.op 2 0]) (hst.pick [1] rfl) hb Za
     (o_p rfl (Zb rfl rfl u_0) <| o_p rfl (Zn Zm4 (Zhd _ h5) rfl rfl (.cons u_0 .nil)) <| o_p rfl (Zc rfl rfl u_0) <| o_n) (by kernel_rfl) (fun a g hst hb => ?_)
   refine wp_ret ?_
   refine Zq ?_
   obtain rfl := Option.some.inj H0
   exact Z1 rfl hst hb (Zk (s := 4)) (hst.at 0 rfl)
 · replace H0 := Zx hc3 H0
   refine wp_skip ?_
   refine Zr ?_
   obtain ⟨r6, h7, H0⟩ := Zh H0
   refine r_s (L := [(0, _)]) (T := [⟨[.old 0], _, [], [], [10]⟩, ⟨[.op 0 0], _, [], [0], [11]⟩, ⟨[.op 1 0], _, [], [0, 1], [4]⟩]) (F := [.op 2 0]) (hst.pick [0] rfl) hb Za
     (o_p rfl (Zb rfl rfl u_0) <| o_p rfl (Zn Zm4 (Zhd _ h7) rfl rfl (.cons u_0 .nil)) <| o_p rfl (Zc rfl rfl u_0) <| o_n) (by kernel_rfl) (fun a g hst hb => ?_)
   refine wp_ret ?_
   obtain rfl := Option.some.inj H0
   exact Z1 rfl hst hb (Zk (s := 4)) (hst.at 0 rfl)
theorem Zzb (a0 : Nat) (a1 : Nat) {r : Nat} (h : Zih a0 a1 = some r) : FnOk Tryz.prog 105 [(pFlt a0), (pFlt a1)] (pFlt r) := by
 have H0 := h
 unfold Zih at H0
 clear h
 refine Zbp (N := 9) Tryz.func105 rfl rfl (Nat.le_of_ble_eq_true rfl) rfl rfl (fun a g0 hst hb => ?_)
 refine r_s (T := [⟨[], _, [], [], [4]⟩]) (F := [.old 0, .old 1]) hst hb Za
   (o_p rfl (Zc rfl rfl c_f) <| o_n) (by kernel_rfl) (fun a g hst hb => ?_)
 obtain ⟨r1, h2, H0⟩ := Zh H0
 refine r_s (T := [⟨[.old 0], _, [], [], [5]⟩, ⟨[.old 1], _, [], [], [6]⟩, ⟨[.op 0 0, .op 1 0], _, [], [0, 1], [7]⟩, ⟨[.op 2 0], _, [], [0, 1, 2], [8]⟩, ⟨[.op 3 0], _, [], Lr 4, [4]⟩]) (F := [.op 4 0]) hst hb Za
   (o_p rfl (Zb rfl rfl u_0) <| o_p rfl (Zb rfl rfl u_0) <| o_p rfl (Zxt rfl rfl u_0 u_1) <| o_p rfl (Zn Zm4 (Zp9 (fun r z hr hz => by simp only [Zfx, hr, hz, Option.bind_some, if_true]) (fun z r h => Zhd z h) h2) rfl rfl (.cons u_0 .nil)) <| o_p rfl (Zc rfl rfl u_0) <| o_n) (by kernel_rfl) (fun a g hst hb => ?_)
 refine wp_ret ?_
 obtain rfl := Option.some.inj H0
 exact Z1 rfl hst hb (Zk (s := 4)) (hst.at 0 rfl)
theorem Zxk (a0 : Nat) (a1 : Nat) {r : Nat} (h : Zhj a0 a1 = some r) : FnOk Tryz.prog 106 [(pFlt a0), (pFlt a1)] (pFlt r) := by
 have H0 := h
 unfold Zhj at H0
 clear h
 refine Zbp (N := 9) Tryz.func106 rfl rfl (Nat.le_of_ble_eq_true rfl) rfl rfl (fun a g0 hst hb => ?_)
 refine r_s (T := [⟨[], _, [], [], [4]⟩]) (F := [.old 0, .old 1]) hst hb Za
   (o_p rfl (Zc rfl rfl c_f) <| o_n) (by kernel_rfl) (fun a g hst hb => ?_)
 obtain ⟨r1, h2, H0⟩ := Zh H0
 refine r_s (T := [⟨[.old 0], _, [], [], [5]⟩, ⟨[.old 1], _, [], [], [6]⟩, ⟨[.op 0 0, .op 1 0], _, [], [0, 1], [7]⟩, ⟨[.op 2 0], _, [], [0, 1, 2], [8]⟩, ⟨[.op 3 0], _, [], Lr 4, [4]⟩]) (F := [.op 4 0]) hst hb Za
   (o_p rfl (Zb rfl rfl u_0) <| o_p rfl (Zb rfl rfl u_0) <| o_p rfl (Zxl rfl rfl u_0 u_1) <| o_p rfl (Zn Zm4 (Zp9 (fun r z hr hz => by simp only [Zfx, hr, hz, Option.bind_some, if_true]) (fun z r h => Zhd z h) h2) rfl rfl (.cons u_0 .nil)) <| o_p rfl (Zc rfl rfl u_0) <| o_n) (by kernel_rfl) (fun a g hst hb => ?_)
 refine wp_ret ?_
 obtain rfl := Option.some.inj H0
 exact Z1 rfl hst hb (Zk (s := 4)) (hst.at 0 rfl)
theorem Zsk (a0 : Nat) (a1 : Nat) {r : Nat} (h : Zg1 a0 a1 = some r) : FnOk Tryz.prog 107 [(pFlt a0), (pFlt a1)] (pFlt r) := by
 have H0 := h
 unfold Zg1 at H0
 clear h
 refine Zbp (N := 6) Tryz.func107 rfl rfl (Nat.le_of_ble_eq_true rfl) rfl rfl (fun a g0 hst hb => ?_)
 refine r_s (L := [(1, _)]) (T := [⟨[], _, [], [], [4]⟩]) (F := [.old 0]) (hst.pick [1] rfl) hb Za
   (o_p rfl (Zc rfl rfl c_f) <| o_n) (by kernel_rfl) (fun a g hst hb => ?_)
 refine r_s (T := [⟨[.old 0], _, [], [], [5]⟩, ⟨[.op 0 0], _, [], [0], [4]⟩]) (F := [.op 1 0]) hst hb Za
   (o_p rfl (Zb rfl rfl u_0) <| o_p rfl (Zc rfl rfl u_0) <| o_n) (by kernel_rfl) (fun a g hst hb => ?_)
 refine wp_ret ?_
 obtain rfl := Option.some.inj H0
 exact Z1 rfl hst hb (Zk (s := 4)) (hst.at 0 rfl)
theorem Zhu (f2 : Nat) (C2 : List Pd) (hC2 : Free C2) (e2_ : Zp Tryz.prog f2) (φ2 : Zl → ByteArray → Option Int) (hφ2 : ∀ (y0 : Zl) (y1 : ByteArray) (r : Int), φ2 y0 y1 = some r → FnOk Tryz.prog f2 ([(Zy.pd y0), (pStr y1)] ++ C2) (pInt .i64 r)) (a0 : List Zl) (a1 : ByteArray) {r : Int × Bool} (h : Zcz a0 a1 φ2 = some r) : FnOk Tryz.prog 137 [(Zy.sl.pd a0), (pStr a1), (pClo f2 C2 hC2)] (pTup [(pInt .i64 r.1), (Zbg r.2)]) := by
 have H0 := h
 unfold Zcz at H0
 clear h
 refine Zbp (N := 49) Tryz.func137 rfl rfl (Nat.le_of_ble_eq_true rfl) rfl rfl (fun a g0 hst hb => ?_)
 refine r_s (T := [⟨[], _, [], [], [6]⟩, ⟨[], _, [], [0], [7]⟩]) (F := [.old 0, .old 1, .old 2]) hst hb Za
   (o_p rfl (Zc rfl rfl c_i) <| o_p rfl (Zc rfl rfl c_b) <| o_n) (by kernel_rfl) (fun a g hst hb => ?_)
 refine r_s (T := [⟨[.old 0], _, [], [], [12]⟩, ⟨[.op 0 0], _, [], [0], [13]⟩, ⟨[.op 1 0], _, [], [0, 1], [8]⟩]) (F := [.old 0, .old 1, .old 2, .op 2 0, .op 0 0]) hst hb Za
   (o_p rfl (Zb rfl rfl u_0) <| o_p rfl (Zbu Tryz.underlying62 rfl rfl u_0) <| o_p rfl (Zc rfl rfl u_0) <| o_n) (by kernel_rfl) (fun a g hst hb => ?_)
 refine r_s (T := [⟨[.old 3], _, [], [], [14]⟩, ⟨[], _, [], [], [9]⟩, ⟨[.op 0 0], _, [], [0, 1], [10]⟩]) (F := [.old 0, .old 1, .old 2, .old 3, .op 1 0, .op 2 0, .old 4]) hst hb Za
   (o_p rfl (Zb rfl rfl u_0) <| o_p rfl (Zc rfl rfl c_i) <| o_p rfl (Zc rfl rfl u_0) <| o_n) (by kernel_rfl) (fun a g hst hb => ?_)
 obtain ⟨z12, hz1, H0⟩ := Zh H0
 refine wp_seq ?_
 refine Zb8 (fun a w => ∃ (y11 : Int) (g : G), w = g.w ∧ St 49 [(0, (Zy.sl.pd a0)), (1, (pStr a1)), (2, (pClo f2 C2 hC2)), (8, (pInt .i64 (a0.length : Int))), (9, (pInt .i64 y11))] a g ∧ Base g0 g ∧ y11 = z12) ?_ ?_
 · rintro a w ⟨y11, g, rfl, hst, hb, rfl⟩
   refine Zr ?_
   obtain ⟨e13, h14, H0⟩ := Zh H0; obtain ⟨r15, h16, H0⟩ := Zh H0
   refine r_s (T := ⟨[.old 4], _, [], [], [35]⟩ :: ⟨[.old 4], _, [], [], [36]⟩ :: ⟨[.old 3], _, [], [], [37]⟩ :: ⟨[.op 1 0, .op 2 0], _, [], [1, 2], [38]⟩ :: ⟨[.op 3 0], _, [], [1, 2, 3], [39]⟩ :: ⟨[.op 4 0, .old 2], _, [], List.range' 1 4, [40]⟩ :: ⟨[.op 4 0, .old 0], _, [], List.range' 1 4, [41]⟩ :: ⟨[.op 4 0, .old 4], _, [], List.range' 1 4, [42]⟩ :: ⟨[.op 4 0, .op 6 0, .op 7 0], _, [], [1, 2, 3, 4, 6, 7], [43]⟩ :: ⟨[.op 4 0, .op 8 0], _, [], [1, 2, 3, 4, 6, 7, 8], [44]⟩ :: ⟨[.op 4 0, .old 1], _, [], List.range' 1 4, [45]⟩ :: ⟨[.op 4 0, .op 5 0, .op 9 0, .op 10 0], _, [], List.range' 1 10, [46]⟩ :: ⟨[.op 4 0, .op 11 0], _, [], List.range' 1 11, [47]⟩ :: ⟨[.op 4 0, .op 12 0], _, [], List.range' 1 12, [48]⟩ :: ⟨[.op 0 0], _, [], Lr 12, [6]⟩ :: ⟨[.op 13 0], _, [], Lr 15, [7]⟩ :: []) (F := [.op 14 0, .op 15 0]) hst hb Za
     (o_p rfl (Zb rfl rfl u_0) <| o_p rfl (Zb rfl rfl u_0) <| o_p rfl (Zb rfl rfl u_0) <| o_p rfl (Zcc rfl rfl u_0 u_1) <| o_p rfl (Zb rfl rfl u_0) <| o_g (g_t rfl rfl rfl (fun hG => Zb rfl rfl u_0)) <| o_g (g_t rfl rfl rfl (fun hG => Zb rfl rfl u_0)) <| o_g (g_t rfl rfl rfl (fun hG => Zb rfl rfl u_0)) <| o_g (g_t rfl rfl rfl (fun hG => Zbf Tryz.underlying62 Zeq rfl rfl (Opd.gd hG u_0) (Opd.gd hG u_1) (Zbm h14 hG))) <| o_g (g_t rfl rfl rfl (fun hG => Zf Zdt rfl rfl (Opd.gd hG u_0))) <| o_g (g_t rfl rfl rfl (fun hG => Zb rfl rfl u_0)) <| o_g (g_t rfl rfl rfl (fun hG => Zns e2_ (hφ2 _ _ _ (Zbm h16 hG)) rfl rfl (Opd.gd hG u_0) (.cons (Opd.gd hG u_1) (.cons (Opd.gd hG u_2) .nil)))) <| o_g (g_t rfl rfl rfl (fun hG => Zbl rfl rfl (Opd.gd hG u_0) c_i)) <| o_p rfl (Zbc rfl rfl u_0 (fun hz => (Opd.gd hz u_1))) <| o_p rfl (Zc rfl rfl u_0) <| o_p rfl (Zc rfl rfl u_0) <| o_n) (by kernel_rfl) (fun a g hst hb => ?_)
   refine wp_ret ?_
   obtain rfl := Option.some.inj H0
   exact Zda rfl hst hb (Zk (s := 6)) (Zk (s := 7)) (Zcn (hst.at 0 rfl) (hst.at 1 rfl))
 · refine wp_block ?_
   refine wp_loop_ghost (fun n a w => ∃ (x1 : Int) (x2 : Int) (g : G), w = g.w ∧ St 49 [(0, (Zy.sl.pd a0)), (1, (pStr a1)), (2, (pClo f2 C2 hC2)), (8, (pInt .i64 (a0.length : Int))), (9, (pInt .i64 x1)), (10, (pInt .i64 x2)), (12, (Zy.sl.pd a0))] a g ∧ Base g0 g ∧ Zbo a0 a1 φ2 n x1 x2 = some z12) (Int.toNat ((a0.length : Int) - (0 : Int)) + 1) ⟨(0 : Int), (a0.length : Int), g, rfl, (hst.pick [0, 1, 2, 3, 4, 5, 6] rfl), hb, hz1⟩ (fun n a w hI => ?_)
   obtain ⟨x1, x2, g, rfl, hst, hb, H1⟩ := hI
   cases n with
   | zero => exact absurd H1 (by simp [Zbo])
   | succ n =>
     rw [Zbo] at H1
     refine wp_seq ?_
     refine r_s (T := [⟨[.old 4], _, [], [], [15]⟩, ⟨[.old 5], _, [], [], [16]⟩, ⟨[.op 0 0, .op 1 0], _, [], [0, 1], [17]⟩]) (F := [.old 0, .old 1, .old 2, .old 3, .old 4, .old 5, .old 6, .op 2 0]) hst hb Za
       (o_p rfl (Zb rfl rfl u_0) <| o_p rfl (Zb rfl rfl u_0) <| o_p rfl (Zcc rfl rfl u_0 u_1) <| o_n) (by kernel_rfl) (fun a g hst hb => ?_)
     refine wp_cond_split (hst.bool 7 rfl) (fun hc3 => ?_) (fun hc3 => ?_)
     · replace H1 := Zw hc3 H1
       refine wp_skip ?_
       refine Zr ?_
       refine Zb8 (fun a w => ∃ (j9 : Int) (j10 : Int) (g : G), w = g.w ∧ St 49 [(0, (Zy.sl.pd a0)), (1, (pStr a1)), (2, (pClo f2 C2 hC2)), (8, (pInt .i64 (a0.length : Int))), (9, (pInt .i64 j9)), (10, (pInt .i64 j10)), (12, (Zy.sl.pd a0))] a g ∧ Base g0 g ∧ Zcg (Zbo a0 a1 φ2 n) j9 j10 = some z12) ?_ ?_
       · rintro a w ⟨j9, j10, g, rfl, hst, hb, H1⟩
         unfold Zcg at H1
         exact ⟨n, Nat.lt_succ_self _, j9, j10, g, rfl, (hst.pick [0, 1, 2, 3, 4, 5, 6] rfl), hb, H1⟩
       · refine wp_block ?_
         refine r_s (L := [(0, _), (1, _), (2, _), (8, _), (9, _), (10, _), (12, _)]) (T := [⟨[.old 4], _, [], [], [18]⟩, ⟨[.old 5], _, [], [], [19]⟩, ⟨[.op 0 0, .op 1 0], _, [], [0, 1], [20]⟩, ⟨[.op 2 0], _, [], [0, 1, 2], [21]⟩, ⟨[.op 3 0], _, [], Lr 4, [22]⟩, ⟨[.op 4 0], _, [], Lr 5, [23]⟩, ⟨[.op 5 0], _, [], Lr 6, [11]⟩]) (F := [.old 0, .old 1, .old 2, .old 3, .old 4, .old 5, .op 6 0, .old 6]) (hst.pick [0, 1, 2, 3, 4, 5, 6] rfl) hb Za
           (o_p rfl (Zb rfl rfl u_0) <| o_p rfl (Zb rfl rfl u_0) <| o_p rfl (Zb3 rfl rfl u_0 u_1 rfl) <| o_p rfl (Zzv Tryz.underlying3 Tryz.underlying175 rfl rfl u_0 rfl) <| o_p rfl (Z69 rfl rfl u_0 c_i (by decide) rfl) <| o_p rfl (Zzv Tryz.underlying175 Tryz.underlying3 rfl rfl u_0 rfl) <| o_p rfl (Zc rfl rfl u_0) <| o_n) (by kernel_rfl) (fun a g hst hb => ?_)
         obtain ⟨e4, h5, H1⟩ := Zh H1; obtain ⟨r6, h7, H1⟩ := Zh H1
         refine r_s (T := [⟨[.old 2], _, [], [], [24]⟩, ⟨[.old 0], _, [], [], [25]⟩, ⟨[.old 6], _, [], [], [26]⟩, ⟨[.op 1 0, .op 2 0], _, [], [1, 2], [27]⟩, ⟨[.op 3 0], _, [], [1, 2, 3], [28]⟩, ⟨[.old 1], _, [], [], [29]⟩, ⟨[.op 0 0, .op 4 0, .op 5 0], _, [], Lr 6, [30]⟩, ⟨[.op 6 0], _, [], Lr 7, [31]⟩]) (F := [.old 0, .old 1, .old 2, .old 3, .old 4, .old 5, .old 6, .old 7, .op 7 0]) hst hb Za
           (o_p rfl (Zb rfl rfl u_0) <| o_p rfl (Zb rfl rfl u_0) <| o_p rfl (Zb rfl rfl u_0) <| o_p rfl (Zbf Tryz.underlying62 Zeq rfl rfl u_0 u_1 h5) <| o_p rfl (Zf Zdt rfl rfl u_0) <| o_p rfl (Zb rfl rfl u_0) <| o_p rfl (Zns e2_ (hφ2 _ _ _ h7) rfl rfl u_0 (.cons u_1 (.cons u_2 .nil))) <| o_p rfl (Zcc rfl rfl u_0 c_i) <| o_n) (by kernel_rfl) (fun a g hst hb => ?_)
         refine wp_cond_split (hst.bool 8 rfl) (fun hc8 => ?_) (fun hc8 => ?_)
         · replace H1 := Zw hc8 H1
           refine r_g (L := [(0, _), (1, _), (2, _), (8, _), (10, _), (11, _), (12, _)]) (T := [⟨[.old 5], _, [], [], [32]⟩, ⟨[.op 0 0], _, [], [0], [33]⟩, ⟨[.op 1 0], _, [], [0, 1], [9]⟩]) (F := [.old 0, .old 1, .old 2, .old 3, .op 2 0, .old 4, .old 6]) (hst.pick [0, 1, 2, 3, 5, 6, 7] rfl) hb Za
             (o_p rfl (Zb rfl rfl u_0) <| o_p rfl (Zb3 rfl rfl u_0 c_i rfl) <| o_p rfl (Zc rfl rfl u_0) <| o_n) (by kernel_rfl) (fun a g hst hb => ?_)
           refine Zba ?_
           exact ⟨(IntKind.i64.wrap ((IntKind.i64.wrap (Int.fdiv (IntKind.u64.wrap (IntKind.i64.wrap (x1 + x2))) (2 ^ 1))) + (1 : Int))), x2, g, rfl, (hst.pick [0, 1, 2, 3, 4, 5, 6] rfl), hb, H1⟩
         · replace H1 := Zx hc8 H1
           refine r_g (L := [(0, _), (1, _), (2, _), (8, _), (9, _), (11, _), (12, _)]) (T := [⟨[.old 5], _, [], [], [34]⟩, ⟨[.op 0 0], _, [], [0], [10]⟩]) (F := [.old 0, .old 1, .old 2, .old 3, .old 4, .op 1 0, .old 6]) (hst.pick [0, 1, 2, 3, 4, 6, 7] rfl) hb Za
             (o_p rfl (Zb rfl rfl u_0) <| o_p rfl (Zc rfl rfl u_0) <| o_n) (by kernel_rfl) (fun a g hst hb => ?_)
           refine Zba ?_
           exact ⟨x1, (IntKind.i64.wrap (Int.fdiv (IntKind.u64.wrap (IntKind.i64.wrap (x1 + x2))) (2 ^ 1))), g, rfl, (hst.pick [0, 1, 2, 3, 4, 5, 6] rfl), hb, H1⟩
     · replace H1 := Zx hc3 H1
       refine wp_exit ?_
       refine Zb6 ?_
       refine Zb6 ?_
       refine Zco ?_
       exact ⟨x1, g, rfl, (hst.pick [0, 1, 2, 3, 4] rfl), hb, Option.some.inj H1⟩
theorem Zu2 (a0 : Zl) (a1 : ByteArray) {r : Int} (h : Zjh a0 a1 = some r) : FnOk Tryz.prog 138 [(Zy.pd a0), (pStr a1)] (pInt .i64 r) := by
 have H0 := h
 unfold Zjh at H0
 clear h
 refine Zbp (N := 15) Tryz.func138 rfl rfl (Nat.le_of_ble_eq_true rfl) rfl rfl (fun a g0 hst hb => ?_)
 refine r_s (T := [⟨[.old 0], _, [], [], [2]⟩, ⟨[], _, [], [], [4]⟩]) (F := [.old 1, .op 0 0]) hst hb Za
   (o_p rfl (Zbj rfl rfl u_0) <| o_p rfl (Zc rfl rfl c_i) <| o_n) (by kernel_rfl) (fun a g hst hb => ?_)
 refine wp_seq ?_
 refine wp_block ?_
 refine r_s (T := [⟨[.old 1], _, [], [], [6]⟩, ⟨[.op 0 0], _, [], [0], [7]⟩, ⟨[.old 0], _, [], [], [8]⟩, ⟨[.op 1 0, .op 2 0], _, [], [0, 1, 2], [9]⟩, ⟨[.op 3 0], _, [], Lr 4, [5]⟩]) (F := [.old 0, .old 1, .op 4 0]) hst hb Za
   (o_p rfl (Zd Zdo rfl rfl u_0) <| o_p rfl (Zf ty_9 rfl rfl u_0) <| o_p rfl (Zb rfl rfl u_0) <| o_p rfl (Zl9 rfl rfl u_0 u_1) <| o_p rfl (Zc rfl rfl u_0) <| o_n) (by kernel_rfl) (fun a g hst hb => ?_)
 refine wp_cond_split (hst.bool 2 rfl) (fun hc1 => ?_) (fun hc1 => ?_)
 · replace H0 := Zw hc1 H0
   refine r_s (L := []) (T := [⟨[], _, [], [], [4]⟩]) (F := [.op 0 0]) (hst.pick [] rfl) hb Za
     (o_p rfl (Zc rfl rfl c_i) <| o_n) (by kernel_rfl) (fun a g hst hb => ?_)
   refine wp_ret ?_
   refine Z2 ?_
   refine Zq ?_
   obtain rfl := Option.some.inj H0
   exact Z1 rfl hst hb (Zk (s := 4)) (hst.at 0 rfl)
 · replace H0 := Zx hc1 H0
   refine r_s (L := [(1, _), (2, _)]) (T := [⟨[.old 1], _, [], [], [11]⟩, ⟨[.op 0 0], _, [], [0], [12]⟩, ⟨[.old 0], _, [], [], [13]⟩, ⟨[.op 1 0, .op 2 0], _, [], [0, 1, 2], [14]⟩, ⟨[.op 3 0], _, [], Lr 4, [10]⟩]) (F := [.op 4 0]) (hst.pick [0, 1] rfl) hb Za
     (o_p rfl (Zd Zdo rfl rfl u_0) <| o_p rfl (Zf ty_9 rfl rfl u_0) <| o_p rfl (Zb rfl rfl u_0) <| o_p rfl (Zuf rfl rfl u_0 u_1) <| o_p rfl (Zc rfl rfl u_0) <| o_n) (by kernel_rfl) (fun a g hst hb => ?_)
   refine wp_cond_split (hst.bool 0 rfl) (fun hc2 => ?_) (fun hc2 => ?_)
   · replace H0 := Zw hc2 H0
     refine r_s (L := []) (T := [⟨[], _, [], [], [4]⟩]) (F := [.op 0 0]) (hst.pick [] rfl) hb Za
       (o_p rfl (Zc rfl rfl c_i) <| o_n) (by kernel_rfl) (fun a g hst hb => ?_)
     refine wp_ret ?_
     refine Z2 ?_
     refine Zq ?_
     obtain rfl := Option.some.inj H0
     exact Z1 rfl hst hb (Zk (s := 4)) (hst.at 0 rfl)
   · replace H0 := Zx hc2 H0
     refine wp_skip ?_
     refine Zba ?_
     refine Zr ?_
     refine r_s (L := []) (T := [⟨[], _, [], [], [4]⟩]) (F := [.op 0 0]) (hst.pick [] rfl) hb Za
       (o_p rfl (Zc rfl rfl c_i) <| o_n) (by kernel_rfl) (fun a g hst hb => ?_)
     refine wp_ret ?_
     obtain rfl := Option.some.inj H0
     exact Z1 rfl hst hb (Zk (s := 4)) (hst.at 0 rfl)
theorem Zn4 (a0 : List Zl) (a1 : ByteArray) {r : Int × Bool} (h : Zkv a0 a1 = some r) : FnOk Tryz.prog 110 [(Zy.sl.pd a0), (pStr a1)] (pTup [(pInt .i64 r.1), (Zbg r.2)]) := by
 have H0 := h
 unfold Zkv at H0
 clear h
 refine Zbp (N := 11) Tryz.func110 rfl rfl (Nat.le_of_ble_eq_true rfl) rfl rfl (fun a g0 hst hb => ?_)
 refine r_s (T := [⟨[], _, [], [], [4]⟩, ⟨[], _, [], [0], [5]⟩]) (F := [.old 0, .old 1]) hst hb Za
   (o_p rfl (Zc rfl rfl c_i) <| o_p rfl (Zc rfl rfl c_b) <| o_n) (by kernel_rfl) (fun a g hst hb => ?_)
 obtain ⟨r1, h2, H0⟩ := Zh H0
 refine r_s (T := [⟨[.old 0], _, [], [], [6]⟩, ⟨[.old 1], _, [], [], [7]⟩, ⟨[.op 0 0, .op 1 0], _, [], [0, 1], [8]⟩, ⟨[.op 2 0], _, [], [0, 1, 2], [9]⟩, ⟨[.op 2 0], _, [], [0, 1, 2], [10]⟩, ⟨[.op 3 0], _, [], Lr 5, [4]⟩, ⟨[.op 4 0], _, [], Lr 6, [5]⟩]) (F := [.op 5 0, .op 6 0]) hst hb Za
   (o_p rfl (Zb rfl rfl u_0) <| o_p rfl (Zb rfl rfl u_0) <| o_p rfl (Zn Z78 (Zhu 138 [] rfl Z67 (fun y0 y1 => Zjh y0 y1) (fun y0 y1 r h => Zu2 y0 y1 h) _ _ h2) rfl rfl (.cons u_0 (.cons u_1 (.cons Opd.fnc .nil)))) <| o_p rfl (Z4 rfl rfl u_0 rfl) <| o_p rfl (Z4 rfl rfl u_0 rfl) <| o_p rfl (Zc rfl rfl u_0) <| o_p rfl (Zc rfl rfl u_0) <| o_n) (by kernel_rfl) (fun a g hst hb => ?_)
 refine wp_ret ?_
 obtain rfl := Option.some.inj H0
 exact Zda rfl hst hb (Zk (s := 4)) (Zk (s := 5)) (Zcn (hst.at 0 rfl) (hst.at 1 rfl))
set_option maxHeartbeats 1000000 in
theorem Zhr (a0 : List Zl) (a1 : Int) (a2 : List Zl) {r : List Zl} (h : Zcf a0 a1 a2 = some r) : Zws Tryz.prog 136 Zy 105 a0 [(pInt .i64 a1), (Zy.sl.pd a2)] (Zy.sl.pd r) := by
 unfold Zcf at h
 obtain ⟨⟨hi0, hi1, hm, hsz⟩, H0⟩ := Zge h
 obtain rfl := Option.some.inj H0
 obtain ⟨k, rfl⟩ := Int.eq_ofNat_of_zero_le hi0
 have hk : k ≤ a0.length := by omega
 have hb0 : (a0.length + a2.length) ≤ 140737488355328 := Nat.le_trans (Nat.le_mul_of_pos_right _ (by decide)) hsz
 simp only [Int.toNat_natCast]
 refine Zx9 (N := 95) Tryz.func136 rfl rfl (Nat.le_of_ble_eq_true rfl) rfl (fun hx a g A0 hst hb => ?_) (fun a g cap hcap hmax hst hb => ?_)
 · subst hx
   obtain rfl : k = 0 := by simpa using hk
   refine r_s (T := [⟨[], [(6, (Zy.sl.pd []))], [], [], [6]⟩]) (F := [.old 0, .old 1, .old 2]) hst hb Za
     (o_p rfl (Zc rfl rfl (Opd.c (fun g => Zj0 g))) <| o_n) (by kernel_rfl) (fun a g hst hb => ?_)
   refine r_s (T := [⟨[.old 0], _, [], [], [10]⟩, ⟨[.old 1], _, [], [], [11]⟩, ⟨[.op 0 0, .op 1 0], _, [], [0, 1], [12]⟩]) (F := [.old 0, .old 1, .old 2]) hst hb Za
     (o_p rfl (Zb rfl rfl u_0) <| o_p rfl (Zb rfl rfl u_0) <| o_p rfl (Z1x Zdb rfl u_0 u_1) <| o_n) (by kernel_rfl) (fun a g hst hb => ?_)
   refine r_s (T := [⟨[.old 2], _, [], [], [13]⟩, ⟨[.op 0 0], _, [], [0], [14]⟩, ⟨[.op 1 0], _, [], [0, 1], [7]⟩]) (F := [.old 0, .old 1, .old 2, .op 2 0]) hst hb Za
     (o_p rfl (Zb rfl rfl u_0) <| o_p rfl (Zbu Tryz.underlying62 rfl rfl u_0) <| o_p rfl (Zc rfl rfl u_0) <| o_n) (by kernel_rfl) (fun a g hst hb => ?_)
   refine wp_seq ?_
   refine r_s (T := [⟨[.old 3], _, [], [], [15]⟩, ⟨[.op 0 0], _, [], [0], [16]⟩]) (F := [.old 0, .old 1, .old 2, .old 3, .op 1 0]) hst hb Za
     (o_p rfl (Zb rfl rfl u_0) <| o_p rfl (Zbl rfl rfl u_0 c_i) <| o_n) (by kernel_rfl) (fun a g hst hb => ?_)
   refine wp_cond_split (hst.bool 4 rfl) (fun hc => ?_) (fun hc => ?_)
   · exact absurd (beq_iff_eq.1 hc) (by omega)
   · refine wp_skip ?_
     refine Zr ?_
     refine r_s (L := [(0, _), (1, _), (2, _), (7, _)]) (T := [⟨[.old 0], _, [], [], [18]⟩, ⟨[.op 0 0], _, [], [0], [19]⟩, ⟨[.op 1 0], _, [], [0, 1], [8]⟩]) (F := [.old 0, .old 1, .old 2, .old 3, .op 2 0]) (hst.pick [0, 1, 2, 3] rfl) hb Za
       (o_p rfl (Zb rfl rfl u_0) <| o_p rfl (Z5p Tryz.underlying62 rfl rfl u_0) <| o_p rfl (Zc rfl rfl u_0) <| o_n) (by kernel_rfl) (fun a g hst hb => ?_)
     refine wp_seq ?_
     refine r_s (T := [⟨[.old 1], _, [], [], [20]⟩, ⟨[.old 4], _, [], [], [21]⟩, ⟨[.op 0 0, .op 1 0], _, [], [0, 1], [22]⟩]) (F := [.old 0, .old 1, .old 2, .old 3, .old 4, .op 2 0]) hst hb Za
       (o_p rfl (Zb rfl rfl u_0) <| o_p rfl (Zb rfl rfl u_0) <| o_p rfl (Zbl rfl rfl u_0 u_1) <| o_n) (by kernel_rfl) (fun a g hst hb => ?_)
     refine wp_cond_split (hst.bool 5 rfl) (fun hc => ?_) (fun hc => ?_)
     · refine r_s (L := [(0, _), (2, _)]) (T := [⟨[.old 0], _, [], [], [23]⟩, ⟨[.old 1], _, [], [], [24]⟩, ⟨[.op 0 0, .op 1 0], [(25, (pOwn Zy 105 25 none (a2.map some)))], [26], [0, 1], [25]⟩, ⟨[.op 2 0], _, [], [0, 1, 2], [6]⟩]) (F := [.op 3 0]) (hst.pick [0, 2] rfl) hb Za
         (o_p rfl (Zb rfl rfl u_0) <| o_p rfl (Zb rfl rfl u_0) <| o_p rfl (Z1j Zdb rfl rfl u_0 u_1 hm (by simpa using hsz)) <| o_p rfl (Zc rfl rfl u_0) <| o_n) (by kernel_rfl) (fun a g hst hb => ?_)
       refine wp_ret ?_
       refine Zq ?_
       have hq := hst.at 0 rfl
       have he : ([] : List Zl).take 0 ++ a2 ++ ([] : List Zl).drop 0 = a2 := by simp
       rw [he]
       exact Zpb rfl hst hb (Zk (s := 6)) hq
     · exact absurd hc (by simp)
 · refine r_s (T := [⟨[], [(6, (Zy.sl.pd []))], [], [], [6]⟩]) (F := [.old 0, .old 1, .old 2]) hst hb Za
     (o_p rfl (Zc rfl rfl (Opd.c (fun g => Zj0 g))) <| o_n) (by kernel_rfl) (fun a g hst hb => ?_)
   refine r_s (T := [⟨[.old 0], _, [], [], [10]⟩, ⟨[.old 1], _, [], [], [11]⟩, ⟨[.op 0 0, .op 1 0], _, [], [0, 1], [12]⟩]) (F := [.old 0, .old 1, .old 2]) hst hb Za
     (o_p rfl (Zb rfl rfl u_0) <| o_p rfl (Zb rfl rfl u_0) <| o_p rfl (Zha Zdb (by simpa using hk) rfl rfl u_0 u_1) <| o_n) (by kernel_rfl) (fun a g hst hb => ?_)
   refine r_s (T := [⟨[.old 2], _, [], [], [13]⟩, ⟨[.op 0 0], _, [], [0], [14]⟩, ⟨[.op 1 0], _, [], [0, 1], [7]⟩]) (F := [.old 0, .old 1, .old 2, .op 2 0]) hst hb Za
     (o_p rfl (Zb rfl rfl u_0) <| o_p rfl (Zbu Tryz.underlying62 rfl rfl u_0) <| o_p rfl (Zc rfl rfl u_0) <| o_n) (by kernel_rfl) (fun a g hst hb => ?_)
   refine wp_seq ?_
   refine r_s (T := [⟨[.old 3], _, [], [], [15]⟩, ⟨[.op 0 0], _, [], [0], [16]⟩]) (F := [.old 0, .old 1, .old 2, .old 3, .op 1 0]) hst hb Za
     (o_p rfl (Zb rfl rfl u_0) <| o_p rfl (Zbl rfl rfl u_0 c_i) <| o_n) (by kernel_rfl) (fun a g hst hb => ?_)
   refine wp_cond_split (hst.bool 4 rfl) (fun hc => ?_) (fun hc => ?_)
   · exact absurd (beq_iff_eq.1 hc) (by omega)
   · refine wp_skip ?_
     refine Zr ?_
     refine r_s (L := [(0, _), (1, _), (2, _), (7, _)]) (T := [⟨[.old 0], _, [], [], [18]⟩, ⟨[.op 0 0], _, [], [0], [19]⟩, ⟨[.op 1 0], _, [], [0, 1], [8]⟩]) (F := [.old 0, .old 1, .old 2, .old 3, .op 2 0]) (hst.pick [0, 1, 2, 3] rfl) hb Za
       (o_p rfl (Zb rfl rfl u_0) <| o_p rfl (Zrx Tryz.underlying62 rfl rfl u_0) <| o_p rfl (Zc rfl rfl u_0) <| o_n) (by kernel_rfl) (fun a g hst hb => ?_)
     refine wp_seq ?_
     refine r_s (T := [⟨[.old 1], _, [], [], [20]⟩, ⟨[.old 4], _, [], [], [21]⟩, ⟨[.op 0 0, .op 1 0], _, [], [0, 1], [22]⟩]) (F := [.old 0, .old 1, .old 2, .old 3, .old 4, .op 2 0]) hst hb Za
       (o_p rfl (Zb rfl rfl u_0) <| o_p rfl (Zb rfl rfl u_0) <| o_p rfl (Zbl rfl rfl u_0 u_1) <| o_n) (by kernel_rfl) (fun a g hst hb => ?_)
     refine wp_cond_split (hst.bool 5 rfl) (fun hc => ?_) (fun hc => ?_)
     · refine r_s (L := [(0, _), (2, _)]) (T := [⟨[.old 0], _, [], [], [23]⟩, ⟨[.old 1], _, [], [], [24]⟩, ⟨[.op 0 0, .op 1 0], _, [1], [0, 1], [25, 0, 23]⟩, ⟨[.op 2 0], _, [], [0, 1, 2], [6]⟩]) (F := [.op 3 0]) (hst.pick [0, 2] rfl) hb Za
         (o_p rfl (Zb rfl rfl u_0) <| o_p rfl (Zb rfl rfl u_0) <| o_p rfl (Zt6 Zdb rfl rfl u_0 u_1 hsz) <| o_p rfl (Zc rfl rfl u_0) <| o_n) (by kernel_rfl) (fun a g hst hb => ?_)
       refine wp_ret ?_
       refine Zq ?_
       have hq := hst.at 0 rfl
       have hkn := beq_iff_eq.1 hc
       simp only [List.length_map] at hkn
       have hkn : k = a0.length := by omega
       have he : a0.take k ++ a2 ++ a0.drop k = a0 ++ a2 := by simp [hkn]
       rw [he]
       exact Zpb rfl hst hb (Zk (s := 6)) hq
     · have hkn : k ≠ a0.length := fun h => (beq_eq_false_iff_ne.1 hc) (by simp only [List.length_map]; omega)
       refine wp_skip ?_
       refine Zr ?_
       refine wp_seq ?_
       refine r_s (L := [(0, _), (1, _), (2, _), (7, _), (8, _)]) (T := [⟨[.old 4], _, [], [], [26]⟩, ⟨[.old 3], _, [], [], [27]⟩, ⟨[.op 0 0, .op 1 0], _, [], [0, 1], [28]⟩, ⟨[.old 0], _, [], [], [29]⟩, ⟨[.op 3 0], _, [], [3], [30]⟩, ⟨[.op 2 0, .op 4 0], _, [], [0, 1, 2, 3, 4], [31]⟩]) (F := [.old 0, .old 1, .old 2, .old 3, .old 4, .op 5 0]) (hst.pick [0, 1, 2, 3, 4] rfl) hb Za
         (o_p rfl (Zb rfl rfl u_0) <| o_p rfl (Zb rfl rfl u_0) <| o_p rfl (Zb3 rfl rfl u_0 u_1 (Zry (by simp only [List.length_map]; omega))) <| o_p rfl (Zb rfl rfl u_0) <| o_p rfl (Z55 Tryz.underlying62 rfl rfl u_0) <| o_p rfl (Zck rfl rfl u_0 u_1) <| o_n) (by kernel_rfl) (fun a g hst hb => ?_)
       refine wp_cond_split (hst.bool 5 rfl) (fun hc2 => ?_) (fun hc2 => ?_)
       · have hgr : cap < k + (a0.length + a2.length - k) := by have := of_decide_eq_true hc2; simp only [List.length_map] at this; omega
         refine r_s (L := [(0, _), (1, _), (2, _), (7, _), (8, _)]) (T := [⟨[.old 0], _, [], [], [32]⟩, ⟨[.old 1], _, [], [], [33]⟩, ⟨[.op 0 0, .op 1 0], _, [], [0, 1], [34]⟩, ⟨[.old 4], _, [], [], [35]⟩, ⟨[.old 3], _, [], [], [36]⟩, ⟨[.op 3 0, .op 4 0], _, [], [3, 4], [37]⟩, ⟨[.old 1], _, [], [], [38]⟩, ⟨[.op 5 0, .op 6 0], _, [], [3, 4, 5, 6], [39]⟩, ⟨[.op 2 0, .op 7 0, .old 0], [(40, (pOwn Zy 105 40 none ((a0.take k).map some ++ List.replicate (a0.length + a2.length - k) none)))], [41], [0, 1, 2, 3, 4, 5, 6, 7], [40]⟩, ⟨[.op 8 0], _, [], [0, 1, 2, 3, 4, 5, 6, 7, 8], [9]⟩]) (F := [.old 0, .old 1, .old 2, .old 3, .op 9 0]) (hst.pick [0, 1, 2, 3, 4] rfl) hb Za
           (o_p rfl (Zb rfl rfl u_0) <| o_p rfl (Zb rfl rfl u_0) <| o_p rfl (Zqn Zdb (by simpa using hk) rfl rfl u_0 u_1) <| o_p rfl (Zb rfl rfl u_0) <| o_p rfl (Zb rfl rfl u_0) <| o_p rfl (Zb3 rfl rfl u_0 u_1 (Zry (by simp only [List.length_map]; omega))) <| o_p rfl (Zb rfl rfl u_0) <| o_p rfl (Zgn rfl rfl u_0 u_1 (Z7g (n := a0.length + a2.length) (by simp only [List.length_map]) (by omega) (by omega))) <| o_p rfl (Z1g (s := 0) (d2 := 40) (xs := a0.take k) Zdb Tryz.underlying3 (by simp; omega) (by simp; omega) (by omega) hgr (by rw [show k + (a0.length + a2.length - k) = a0.length + a2.length by omega]; exact hsz) (Zue a0 k) rfl rfl u_0 u_1 u_2) <| o_p rfl (Zc rfl rfl u_0) <| o_n) (by kernel_rfl) (fun a g hst hb => ?_)
         have hl1 : (((a0.take k).map some ++ List.replicate (a0.length + a2.length - k) none) : List (Option Zl)).length = a0.length + a2.length := by simp; omega
         refine r_s (T := [⟨[.old 4], _, [], [], [41]⟩, ⟨[.old 1], _, [], [], [42]⟩, ⟨[.op 0 0, .op 1 0], _, [], [0, 1], [43]⟩, ⟨[.old 2], _, [], [], [44]⟩, ⟨[.op 2 0, .op 3 0, .old 4], _, [41], [0, 1, 2, 3], [45, 9, 41, 43]⟩]) (F := [.old 0, .old 1, .old 2, .old 3, .op 4 1]) hst hb Za
           (o_p rfl (Zb rfl rfl u_0) <| o_p rfl (Zb rfl rfl u_0) <| o_p rfl (Zha Zdb (by rw [hl1]; omega) rfl rfl u_0 u_1) <| o_p rfl (Zb rfl rfl u_0) <| o_p rfl (Zyb (s := 9) Zdb (by rw [hl1]; omega) (by rw [hl1]; omega) rfl rfl (by decide) u_0 u_1 u_2) <| o_n) (by kernel_rfl) (fun a g hst hb => ?_)
         have hl2 : (over (((a0.take k).map some ++ List.replicate (a0.length + a2.length - k) none) : List (Option Zl)) k a2).length = a0.length + a2.length := by rw [Zlm (by rw [hl1]; omega), hl1]
         refine r_s (T := [⟨[.old 4], _, [], [], [46]⟩, ⟨[.old 1], _, [], [], [47]⟩, ⟨[.old 3], _, [], [], [48]⟩, ⟨[.op 1 0, .op 2 0], _, [], [1, 2], [49]⟩, ⟨[.op 0 0, .op 3 0], _, [], [0, 1, 2, 3], [50]⟩, ⟨[.old 0], _, [], [], [51]⟩, ⟨[.old 1], _, [], [], [52]⟩, ⟨[.op 5 0, .op 6 0], _, [], [5, 6], [53]⟩, ⟨[.op 4 0, .op 7 0, .old 4, .old 0], _, [41], [0, 1, 2, 3, 4, 5, 6, 7], [54, 9, 46, 50]⟩]) (F := [.op 8 1]) hst hb Za
           (o_p rfl (Zb rfl rfl u_0) <| o_p rfl (Zb rfl rfl u_0) <| o_p rfl (Zb rfl rfl u_0) <| o_p rfl (Zb3 rfl rfl u_0 u_1 (Zry (by omega))) <| o_p rfl (Zha Zdb (by rw [hl2]; omega) rfl rfl u_0 u_1) <| o_p rfl (Zb rfl rfl u_0) <| o_p rfl (Zb rfl rfl u_0) <| o_p rfl (Zha Zdb (by simpa using hk) rfl rfl u_0 u_1) <| o_p rfl (Zw7 (s := 9) (s2 := 0) (ws := a0.drop k) Zdb (by rw [hl2]; omega) (by simp; omega) (by rw [hl2, List.length_map, List.length_drop]; exact (Nat.min_eq_left (by omega)).symm) (fun i x hx => by rw [List.getElem?_drop] at hx; rw [List.getElem?_map, hx]; rfl) rfl rfl (by decide) u_0 u_1 u_2 u_3) <| o_n) (by kernel_rfl) (fun a g hst hb => ?_)
         refine r_s (T := [⟨[.old 0], _, [], [], [55]⟩, ⟨[.op 0 0], _, [], [0], [6]⟩]) (F := [.op 1 0]) hst hb Za
           (o_p rfl (Zb rfl rfl u_0) <| o_p rfl (Zc rfl rfl u_0) <| o_n) (by kernel_rfl) (fun a g hst hb => ?_)
         refine wp_ret ?_
         refine Zq ?_
         have hq := hst.at 0 rfl
         rw [ins1 hk] at hq
         exact Zpb rfl hst hb (Zk (s := 6)) hq
       · have hroom : a0.length + a2.length ≤ cap := by have := of_decide_eq_false hc2; simp only [List.length_map] at this; omega
         refine wp_skip ?_
         refine Zr ?_
         refine r_s (L := [(0, _), (1, _), (2, _), (7, _), (8, _)]) (T := [⟨[.old 0], _, [], [], [56]⟩, ⟨[.old 4], _, [], [], [57]⟩, ⟨[.old 3], _, [], [], [58]⟩, ⟨[.op 1 0, .op 2 0], _, [], [1, 2], [59]⟩, ⟨[.op 0 0, .op 3 0], [(60, (pOwn Zy 105 0 (some cap) (a0.map some ++ List.replicate (a0.length + a2.length - (a0.map some).length) none)))], [], [0, 1, 2, 3], [60]⟩, ⟨[.op 4 0], _, [], [0, 1, 2, 3, 4], [0]⟩]) (F := [.op 5 0, .old 1, .old 2, .old 3]) (hst.pick [0, 1, 2, 3, 4] rfl) hb Za
           (o_p rfl (Zb rfl rfl u_0) <| o_p rfl (Zb rfl rfl u_0) <| o_p rfl (Zb rfl rfl u_0) <| o_p rfl (Zb3 rfl rfl u_0 u_1 (Zry (by simp only [List.length_map]; omega))) <| o_p rfl (Zy3 (h := a0.length + a2.length) Zdb (by simp) hroom rfl rfl u_0 (Opd.to u_1 (by simp))) <| o_p rfl (Zc rfl rfl u_0) <| o_n) (by kernel_rfl) (fun a g hst hb => ?_)
         have hl1 : ((a0.map some ++ List.replicate (a0.length + a2.length - (a0.map some).length) none) : List (Option Zl)).length = a0.length + a2.length := by simp
         refine wp_seq ?_
         refine r_s (T := [⟨[.old 2], _, [], [], [61]⟩, ⟨[.old 0], _, [], [], [62]⟩, ⟨[.old 1], _, [], [], [63]⟩, ⟨[.old 3], _, [], [], [64]⟩, ⟨[.op 2 0, .op 3 0], _, [], [2, 3], [65]⟩, ⟨[.op 1 0, .op 4 0], _, [], [1, 2, 3, 4], [66]⟩, ⟨[.op 0 0, .op 5 0, .old 0], _, [], [0, 1, 2, 3, 4, 5], [67]⟩, ⟨[.op 6 0], _, [], [0, 1, 2, 3, 4, 5, 6], [68]⟩]) (F := [.old 0, .old 1, .old 2, .old 3, .op 7 0]) hst hb Za
           (o_p rfl (Zb rfl rfl u_0) <| o_p rfl (Zb rfl rfl u_0) <| o_p rfl (Zb rfl rfl u_0) <| o_p rfl (Zb rfl rfl u_0) <| o_p rfl (Zb3 rfl rfl u_0 u_1 (Zry (by omega))) <| o_p rfl (Zha Zdb (by rw [hl1]; omega) rfl rfl u_0 u_1) <| o_p rfl (Zy2 (s := 0) Zdb rfl Z8l (by rw [hl1]; omega) rfl rfl u_0 u_1 u_2) <| o_p rfl (Zb7 rfl rfl u_0) <| o_n) (by kernel_rfl) (fun a g hst hb => ?_)
         refine wp_cond_split (hst.bool 4 rfl) (fun hc3 => ?_) (fun hc3 => absurd hc3 (by simp))
         refine r_s (L := [(0, _), (1, _), (2, _), (7, _)]) (T := [⟨[.old 0], _, [], [], [69]⟩, ⟨[.old 1], _, [], [], [70]⟩, ⟨[.old 3], _, [], [], [71]⟩, ⟨[.op 1 0, .op 2 0], _, [], [1, 2], [72]⟩, ⟨[.op 0 0, .op 3 0], _, [], [0, 1, 2, 3], [73]⟩, ⟨[.old 0], _, [], [], [74]⟩, ⟨[.old 1], _, [], [], [75]⟩, ⟨[.op 5 0, .op 6 0], _, [], [5, 6], [76]⟩, ⟨[.op 4 0, .op 7 0, .old 0, .old 0], _, [1], [0, 1, 2, 3, 4, 5, 6, 7], [77, 0, 69, 73, 74, 76]⟩]) (F := [.op 8 1, .old 1, .old 2, .old 3]) (hst.pick [0, 1, 2, 3] rfl) hb Za
           (o_p rfl (Zb rfl rfl u_0) <| o_p rfl (Zb rfl rfl u_0) <| o_p rfl (Zb rfl rfl u_0) <| o_p rfl (Zb3 rfl rfl u_0 u_1 (Zry (by omega))) <| o_p rfl (Zha Zdb (by rw [hl1]; omega) rfl rfl u_0 u_1) <| o_p rfl (Zb rfl rfl u_0) <| o_p rfl (Zb rfl rfl u_0) <| o_p rfl (Zha Zdb (by rw [hl1]; omega) rfl rfl u_0 u_1) <| o_p rfl (Zw7 (s := 0) (s2 := 0) (ws := a0.drop k) Zdb (by rw [hl1]; omega) (by rw [hl1]; omega) (by rw [hl1, List.length_drop]; have hm1 : Nat.min (a0.length + a2.length - k) (a0.length + a2.length - (k + a2.length)) = a0.length + a2.length - (k + a2.length) := Nat.min_eq_right (by omega); rw [hm1]; omega) (fun i x hx => by have hi := (List.getElem?_eq_some_iff.1 hx).1; rw [List.length_drop] at hi; rw [List.getElem?_drop] at hx; rw [List.getElem?_append_left (by simp; omega), List.getElem?_map, hx]; rfl) rfl rfl (by decide) u_0 u_1 u_2 u_3) <| o_n) (by kernel_rfl) (fun a g hst hb => ?_)
         have hl2 : (over ((a0.map some ++ List.replicate (a0.length + a2.length - (a0.map some).length) none) : List (Option Zl)) (k + a2.length) (a0.drop k)).length = a0.length + a2.length := by rw [Zlm (by rw [hl1, List.length_drop]; omega), hl1]
         refine r_s (T := [⟨[.old 0], _, [], [], [78]⟩, ⟨[.old 1], _, [], [], [79]⟩, ⟨[.op 0 0, .op 1 0], _, [], [0, 1], [80]⟩, ⟨[.old 2], _, [], [], [81]⟩, ⟨[.op 2 0, .op 3 0, .old 0], _, [1], [0, 1, 2, 3], [82, 0, 78, 80]⟩]) (F := [.op 4 1]) hst hb Za
           (o_p rfl (Zb rfl rfl u_0) <| o_p rfl (Zb rfl rfl u_0) <| o_p rfl (Zha Zdb (by rw [hl2]; omega) rfl rfl u_0 u_1) <| o_p rfl (Zb rfl rfl u_0) <| o_p rfl (Zyb (s := 0) Zdb (by rw [hl2]; omega) (by rw [hl2]; omega) rfl rfl (by decide) u_0 u_1 u_2) <| o_n) (by kernel_rfl) (fun a g hst hb => ?_)
         refine r_s (T := [⟨[.old 0], _, [], [], [83]⟩, ⟨[.op 0 0], _, [], [0], [6]⟩]) (F := [.op 1 0]) hst hb Za
           (o_p rfl (Zb rfl rfl u_0) <| o_p rfl (Zc rfl rfl u_0) <| o_n) (by kernel_rfl) (fun a g hst hb => ?_)
         refine wp_ret ?_
         refine Zq ?_
         have hq := hst.at 0 rfl
         rw [ins2 hk] at hq
         exact Zpb rfl hst hb (Zk (s := 6)) hq
theorem Zxo (a0 : Ze) (a1 : Z3) (a2 : Zg) {r : Int × Ze × Zg} (h : Zkn a0 a1 a2 = some r) : FnB Tryz.prog 108 [.box Zi a0 r.2.1, .val (Zbe.pd a1), .box Zm a2 r.2.2] (pInt .i64 r.1) := by
 have H0 := h
 unfold Zkn at H0
 clear h
 refine Zjq (N := 46) Tryz.func108 rfl rfl (Nat.le_of_ble_eq_true rfl) rfl rfl (fun a g0 bs hbs hst hb => ?_)
 obtain ⟨b0, b2, rfl⟩ := Zlk hbs
 replace hst : St 46 [(0, (Zby (some b0) Zi 0 a0)), (1, (Zbe.pd a1)), (2, (Zby (some b2) Zm 2 a2))] _ _ := hst
 refine r_s (T := [⟨[.old 1], _, [], [], [4]⟩, ⟨[], _, [], [], [6]⟩]) (F := [.old 0, .old 2, .op 0 0]) hst hb Za
   (o_p rfl (Zbj rfl rfl u_0) <| o_p rfl (Zc rfl rfl c_i) <| o_n) (by kernel_rfl) (fun a g hst hb => ?_)
 obtain ⟨r1, h2, H0⟩ := Zh H0
 refine r_s (T := ⟨[.old 0], _, [], [], [10]⟩ :: ⟨[.op 0 0], _, [], [0], [11]⟩ :: ⟨[.op 1 0], _, [], [0, 1], [12]⟩ :: ⟨[.op 2 0], _, [], [0, 1, 2], [13]⟩ :: ⟨[.old 2], _, [], [], [14]⟩ :: ⟨[.op 4 0], _, [], [4], [15]⟩ :: ⟨[.op 3 0, .op 5 0], _, [], Lr 6, [16]⟩ :: ⟨[.op 6 0], _, [], Lr 7, [9]⟩ :: ⟨[.op 7 0], _, [], Lr 8, [17]⟩ :: ⟨[.op 7 0], _, [], Lr 8, [18]⟩ :: ⟨[.op 8 0], _, [], Lr 9, [7]⟩ :: ⟨[.op 9 0], _, [], Lr 11, [8]⟩ :: []) (F := [.old 0, .old 1, .old 2, .op 10 0, .op 11 0]) hst hb Za
   (o_p rfl (Zb rfl rfl u_0) <| o_p rfl (Zu rfl rfl u_0 (fun _ _ ⟨_, _, _, e, _⟩ => ⟨_, e⟩)) <| o_p rfl (Zs Zca (off := 7) (by kernel_rfl) rfl rfl u_0) <| o_p rfl (Zbq Zc1 rfl rfl u_0) <| o_p rfl (Zd Zfc rfl rfl u_0) <| o_p rfl (Zf ty_9 rfl rfl u_0) <| o_p rfl (Zn Zw8 (Zn4 _ _ h2) rfl rfl (.cons u_0 (.cons u_1 .nil))) <| o_p rfl (Zb rfl rfl u_0) <| o_p rfl (Z4 rfl rfl u_0 rfl) <| o_p rfl (Z4 rfl rfl u_0 rfl) <| o_p rfl (Zc rfl rfl u_0) <| o_p rfl (Zc rfl rfl u_0) <| o_n) (by kernel_rfl) (fun a g hst hb => ?_)
 refine wp_seq ?_
 refine wp_block ?_
 refine r_s (T := [⟨[.old 4], _, [], [], [20]⟩, ⟨[.op 0 0], _, [], [0], [19]⟩]) (F := [.old 0, .old 1, .old 2, .old 3, .op 1 0]) hst hb Za
   (o_p rfl (Zb rfl rfl u_0) <| o_p rfl (Zc rfl rfl u_0) <| o_n) (by kernel_rfl) (fun a g hst hb => ?_)
 refine wp_cond_split (hst.bool 4 rfl) (fun hc3 => ?_) (fun hc3 => ?_)
 · replace H0 := Zw hc3 H0
   refine r_s (L := [(0, _), (2, _)]) (T := [⟨[], _, [], [], [6]⟩]) (F := [.old 0, .old 1, .op 0 0]) (hst.pick [0, 1] rfl) hb Za
     (o_p rfl (Zc rfl rfl c_i) <| o_n) (by kernel_rfl) (fun a g hst hb => ?_)
   refine wp_ret ?_
   refine Z2 ?_
   refine Zq ?_
   obtain rfl := Option.some.inj H0
   exact Zho rfl hst hb (Zk (s := 6)) (hst.at 2 rfl) ⟨Zcu (hst.at 0 rfl), Zcu (hst.at 1 rfl), trivial⟩
 · replace H0 := Zx hc3 H0
   refine r_s (L := [(0, _), (2, _), (4, _), (7, _)]) (T := [⟨[.old 0], _, [], [], [22]⟩, ⟨[.op 0 0], _, [], [0], [23]⟩, ⟨[.op 1 0], _, [], [0, 1], [24]⟩, ⟨[.op 2 0], _, [], [0, 1, 2], [25]⟩, ⟨[.op 3 0], _, [], Lr 4, [26]⟩, ⟨[.old 0], _, [], [], [27]⟩, ⟨[.op 5 0], _, [], [5], [28]⟩, ⟨[.op 6 0], _, [], [5, 6], [29]⟩, ⟨[.op 7 0], _, [], [5, 6, 7], [30]⟩, ⟨[.op 4 0, .op 8 0], _, [], Lr 9, [31]⟩, ⟨[.op 9 0], _, [], Lr 10, [21]⟩]) (F := [.old 0, .old 1, .old 2, .old 3, .op 10 0]) (hst.pick [0, 1, 2, 3] rfl) hb Za
     (o_p rfl (Zb rfl rfl u_0) <| o_p rfl (Zu rfl rfl u_0 (fun _ _ ⟨_, _, _, e, _⟩ => ⟨_, e⟩)) <| o_p rfl (Zs Zca (off := 7) (by kernel_rfl) rfl rfl u_0) <| o_p rfl (Zbq Zc1 rfl rfl u_0) <| o_p rfl (Zbu Tryz.underlying62 rfl rfl u_0) <| o_p rfl (Zb rfl rfl u_0) <| o_p rfl (Zu rfl rfl u_0 (fun _ _ ⟨_, _, _, e, _⟩ => ⟨_, e⟩)) <| o_p rfl (Zs Zf9 (off := 5) (by kernel_rfl) rfl rfl u_0) <| o_p rfl (Zbq ty_3 rfl rfl u_0) <| o_p rfl (Zk4 rfl rfl u_0 u_1) <| o_p rfl (Zc rfl rfl u_0) <| o_n) (by kernel_rfl) (fun a g hst hb => ?_)
   refine wp_cond_split (hst.bool 4 rfl) (fun hc4 => ?_) (fun hc4 => ?_)
   · replace H0 := Zw hc4 H0
     refine r_s (L := [(0, _), (2, _)]) (T := [⟨[], _, [], [], [6]⟩]) (F := [.old 0, .old 1, .op 0 0]) (hst.pick [0, 1] rfl) hb Za
       (o_p rfl (Zc rfl rfl c_i) <| o_n) (by kernel_rfl) (fun a g hst hb => ?_)
     refine wp_ret ?_
     refine Z2 ?_
     refine Zq ?_
     obtain rfl := Option.some.inj H0
     exact Zho rfl hst hb (Zk (s := 6)) (hst.at 2 rfl) ⟨Zcu (hst.at 0 rfl), Zcu (hst.at 1 rfl), trivial⟩
   · replace H0 := Zx hc4 H0
     refine wp_skip ?_
     refine Zba ?_
     refine Zr ?_
     obtain ⟨r5, h6, H0⟩ := Zh H0; obtain ⟨r7, h8, H0⟩ := Zh H0
     refine r_s (L := [(0, _), (2, _), (4, _), (7, _)]) (T := ⟨[.old 0], _, [], [], [32]⟩ :: ⟨[.old 0], _, [], [], [33]⟩ :: ⟨[.op 1 0], _, [], [1], [34]⟩ :: ⟨[.op 2 0], _, [], [1, 2], [35]⟩ :: ⟨[.op 3 0], _, [], [1, 2, 3], [36]⟩ :: ⟨[.op 4 0], _, [38], List.range' 1 4, [37]⟩ :: ⟨[.old 3], _, [], [], [38]⟩ :: ⟨[.old 2], _, [], [], [39]⟩ :: ⟨[.op 7 0], _, [], [7], [40]⟩ :: ⟨[.op 8 0], _, [], [7, 8], [41]⟩ :: ⟨[.op 9 0], _, [], [7, 8, 9], [42]⟩ :: ⟨[.op 5 0, .op 6 0, .op 10 0], _, [38], List.range' 1 10, [37, 43]⟩ :: ⟨[.op 0 0], _, [], Lr 12, [44]⟩ :: ⟨[.op 12 0], _, [], Lr 13, [45]⟩ :: ⟨[.op 11 0, .op 13 0, .old 0], _, [1], Lr 14, [0, 32, 33, 34, 35, 44, 45]⟩ :: []) (F := [.op 14 0, .old 1]) (hst.pick [0, 1, 2, 3] rfl) hb Za
       (o_p rfl (Zb rfl rfl u_0) <| o_p rfl (Zb rfl rfl u_0) <| o_p rfl (Zu rfl rfl u_0 (fun _ _ ⟨_, _, _, e, _⟩ => ⟨_, e⟩)) <| o_p rfl (Zs Zca (off := 7) (by kernel_rfl) rfl rfl u_0) <| o_p rfl (Zbq Zc1 rfl rfl u_0) <| o_p rfl (Zn6 (j := 37) Zwk (Zfe _ h6) rfl rfl (.cons u_0 .nil)) <| o_p rfl (Zb rfl rfl u_0) <| o_p rfl (Zd Zfc rfl rfl u_0) <| o_p rfl (Zf ty_9 rfl rfl u_0) <| o_p rfl (Zyd rfl rfl u_0) <| o_p rfl (Zhi Zdb (xs := [.tmp 41]) (.cons u_0 .nil) (by decide) rfl rfl) <| o_p rfl (Zp5 Z1v (Zhr _ _ _ h8) rfl rfl rfl u_0 (.cons u_1 (.cons u_2 .nil))) <| o_p rfl (Zu rfl rfl u_0 (fun _ _ ⟨_, _, _, e, _⟩ => ⟨_, e⟩)) <| o_p rfl (Zs Zca (off := 7) (by kernel_rfl) rfl rfl u_0) <| o_p rfl (Zlq Zc1 rfl rfl u_2 u_1 u_0) <| o_n) (by kernel_rfl) (fun a g hst hb => ?_)
     refine r_s (T := [⟨[], _, [], [], [6]⟩]) (F := [.old 0, .old 1, .op 0 0]) hst hb Za
       (o_p rfl (Zc rfl rfl c_i) <| o_n) (by kernel_rfl) (fun a g hst hb => ?_)
     refine wp_ret ?_
     obtain rfl := Option.some.inj H0
     exact Zho rfl hst hb (Zk (s := 6)) (hst.at 2 rfl) ⟨Zcu (hst.at 0 rfl), Zcu (hst.at 1 rfl), trivial⟩
theorem Zlb (a0 : List Zl) (a1 a2 : Int) {r : List Zl} (h : Ze2 a0 a1 a2 = some r) : Zws Tryz.prog 111 Zy 105 a0 [(pInt .i64 a1), (pInt .i64 a2)] (Zy.sl.pd r) := by
 unfold Ze2 at h
 obtain ⟨⟨hpos, hi0, hij, hj, hsz⟩, H0⟩ := Zge h
 obtain rfl := Option.some.inj H0
 obtain ⟨k, rfl⟩ := Int.eq_ofNat_of_zero_le hi0
 obtain ⟨l, rfl⟩ := Int.eq_ofNat_of_zero_le (Int.le_trans hi0 hij)
 have hkl : k ≤ l := by omega
 have hl : l ≤ a0.length := by omega
 simp only [Int.toNat_natCast]
 refine Zx9 (N := 33) Tryz.func111 rfl rfl (Nat.le_of_ble_eq_true rfl) rfl (fun hx a g A0 hst hb => ?_) (fun a g cap hcap hmax hst hb => ?_)
 · rw [hx] at hpos; cases hpos
 · refine r_s (T := [⟨[], [(6, (Zy.sl.pd []))], [], [], [6]⟩]) (F := [.old 0, .old 1, .old 2]) hst hb Za
     (o_p rfl (Zc rfl rfl (Opd.c (fun g => Zj0 g))) <| o_n) (by kernel_rfl) (fun a g hst hb => ?_)
   refine r_s (T := [⟨[.old 0], _, [], [], [8]⟩, ⟨[.old 1], _, [], [], [9]⟩, ⟨[.old 2], _, [], [], [10]⟩, ⟨[.old 0], _, [], [], [11]⟩, ⟨[.op 3 0], _, [], [3], [12]⟩, ⟨[.op 0 0, .op 1 0, .op 2 0, .op 4 0], [], [], [0, 1, 2, 3, 4], [13]⟩]) (F := [.old 0, .old 1, .old 2]) hst hb Za
     (o_p rfl (Zb rfl rfl u_0) <| o_p rfl (Zb rfl rfl u_0) <| o_p rfl (Zb rfl rfl u_0) <| o_p rfl (Zb rfl rfl u_0) <| o_p rfl (Zrx Tryz.underlying62 rfl rfl u_0) <| o_p rfl (Z3f Zdb hkl (by simpa using hl) (Nat.le_refl _) rfl u_0 u_1 u_2 u_3) <| o_n) (by kernel_rfl) (fun a g hst hb => ?_)
   refine wp_seq ?_
   refine r_s (T := [⟨[.old 1], _, [], [], [14]⟩, ⟨[.old 2], _, [], [], [15]⟩, ⟨[.op 0 0, .op 1 0], _, [], [0, 1], [16]⟩]) (F := [.old 0, .old 1, .old 2, .op 2 0]) hst hb Za
     (o_p rfl (Zb rfl rfl u_0) <| o_p rfl (Zb rfl rfl u_0) <| o_p rfl (Zbl rfl rfl u_0 u_1) <| o_n) (by kernel_rfl) (fun a g hst hb => ?_)
   refine wp_cond_split (hst.bool 3 rfl) (fun hc => ?_) (fun hc => ?_)
   · refine r_s (L := [(0, _)]) (T := [⟨[.old 0], _, [], [], [17]⟩, ⟨[.op 0 0], _, [], [0], [6]⟩]) (F := [.op 1 0]) (hst.pick [0] rfl) hb Za
       (o_p rfl (Zb rfl rfl u_0) <| o_p rfl (Zc rfl rfl u_0) <| o_n) (by kernel_rfl) (fun a g hst hb => ?_)
     refine wp_ret ?_
     refine Zq ?_
     have hq := hst.at 0 rfl
     have hkl2 := beq_iff_eq.1 hc
     have he : a0.take k ++ a0.drop l = a0 := by rw [show l = k by omega, List.take_append_drop]
     rw [he]
     exact Zpb rfl hst hb (Zk (s := 6)) hq
   · refine wp_skip ?_
     refine Zr ?_
     refine r_s (L := [(0, _), (1, _), (2, _)]) (T := [⟨[.old 0], _, [], [], [18]⟩, ⟨[.op 0 0], _, [], [0], [19]⟩, ⟨[.op 1 0], _, [], [0, 1], [7]⟩]) (F := [.old 0, .old 1, .old 2, .op 2 0]) (hst.pick [0, 1, 2] rfl) hb Za
       (o_p rfl (Zb rfl rfl u_0) <| o_p rfl (Zrx Tryz.underlying62 rfl rfl u_0) <| o_p rfl (Zc rfl rfl u_0) <| o_n) (by kernel_rfl) (fun a g hst hb => ?_)
     refine r_s (T := [⟨[.old 0], _, [], [], [20]⟩, ⟨[.old 1], _, [], [], [21]⟩, ⟨[.op 0 0, .op 1 0], _, [], [0, 1], [22]⟩, ⟨[.old 0], _, [], [], [23]⟩, ⟨[.old 2], _, [], [], [24]⟩, ⟨[.op 3 0, .op 4 0], _, [], [3, 4], [25]⟩, ⟨[.op 2 0, .op 5 0, .old 0], [(26, (pOwn Zy 105 0 (some cap) ((a0.take k ++ a0.drop l).map some)))], [1], [0, 1, 2, 3, 4, 5], [26, 0, 20, 22, 23, 25]⟩, ⟨[.op 6 0], _, [], [0, 1, 2, 3, 4, 5, 6], [0]⟩]) (F := [.op 7 0, .old 3]) hst hb Za
       (o_p rfl (Zb rfl rfl u_0) <| o_p rfl (Zb rfl rfl u_0) <| o_p rfl (Zqn Zdb (by simp; omega) rfl rfl u_0 u_1) <| o_p rfl (Zb rfl rfl u_0) <| o_p rfl (Zb rfl rfl u_0) <| o_p rfl (Zha Zdb (by simpa using hl) rfl rfl u_0 u_1) <| o_p rfl (Z1m (s := 0) (k := cap) (xs := a0.take k) (ws := a0.drop l) Zdb (by simp; omega) (by simp; omega) (by simp; omega) (by simp) (Zue a0 k) (Z02 a0 l) rfl rfl u_0 u_1 u_2) <| o_p rfl (Zc rfl rfl u_0) <| o_n) (by kernel_rfl) (fun a g hst hb => ?_)
     have hl2 : ((a0.take k ++ a0.drop l).map some).length = k + (a0.length - l) := by simp; omega
     refine r_s (T := [⟨[.old 0], _, [], [], [27]⟩, ⟨[.old 0], _, [], [], [28]⟩, ⟨[.op 1 0], _, [], [1], [29]⟩, ⟨[.old 1], _, [], [], [30]⟩, ⟨[.op 0 0, .op 2 0, .op 3 0], _, [], [0, 1, 2, 3], [31]⟩, ⟨[.op 4 0, .old 0], _, [1], [0, 1, 2, 3, 4], [0, 27, 28, 31]⟩]) (F := [.op 5 0]) hst hb Za
       (o_p rfl (Zb rfl rfl u_0) <| o_p rfl (Zb rfl rfl u_0) <| o_p rfl (Zrx Tryz.underlying62 rfl rfl u_0) <| o_p rfl (Zb rfl rfl u_0) <| o_p rfl (Z3b (k := cap) Zdb (by rw [hl2, List.length_map]; omega) (by rw [List.length_map]; omega) rfl rfl u_0 u_1 u_2) <| o_p rfl (Z2u (s := 0) (k := cap) Zdb (by kernel_rfl) (Nat.le_refl _) (by rw [hl2, List.length_map]; omega) rfl rfl u_0 u_1) <| o_n) (by kernel_rfl) (fun a g hst hb => ?_)
     refine r_s (T := [⟨[.old 0], _, [], [], [32]⟩, ⟨[.op 0 0], _, [], [0], [6]⟩]) (F := [.op 1 0]) hst hb Za
       (o_p rfl (Zb rfl rfl u_0) <| o_p rfl (Zc rfl rfl u_0) <| o_n) (by kernel_rfl) (fun a g hst hb => ?_)
     refine wp_ret ?_
     exact Zpb rfl hst hb (Zk (s := 6)) (hst.at 0 rfl)
theorem Zr8 (a0 : Ze) (a1 : Z3) (a2 : Zg) {r : Int × Ze × Zg} (h : Zjs a0 a1 a2 = some r) : FnB Tryz.prog 109 [.box Zi a0 r.2.1, .val (Zbe.pd a1), .box Zm a2 r.2.2] (pInt .i64 r.1) := by
 have H0 := h
 unfold Zjs at H0
 clear h
 refine Zjq (N := 32) Tryz.func109 rfl rfl (Nat.le_of_ble_eq_true rfl) rfl rfl (fun a g0 bs hbs hst hb => ?_)
 obtain ⟨b0, b2, rfl⟩ := Zlk hbs
 replace hst : St 32 [(0, (Zby (some b0) Zi 0 a0)), (1, (Zbe.pd a1)), (2, (Zby (some b2) Zm 2 a2))] _ _ := hst
 refine r_s (T := [⟨[.old 1], _, [], [], [4]⟩, ⟨[], _, [], [], [6]⟩]) (F := [.old 0, .old 2, .op 0 0]) hst hb Za
   (o_p rfl (Zbj rfl rfl u_0) <| o_p rfl (Zc rfl rfl c_i) <| o_n) (by kernel_rfl) (fun a g hst hb => ?_)
 refine wp_seq ?_
 obtain ⟨r1, h2, H0⟩ := Zh H0
 refine r_s (T := ⟨[.old 0], _, [], [], [10]⟩ :: ⟨[.op 0 0], _, [], [0], [11]⟩ :: ⟨[.op 1 0], _, [], [0, 1], [12]⟩ :: ⟨[.op 2 0], _, [], [0, 1, 2], [13]⟩ :: ⟨[.old 2], _, [], [], [14]⟩ :: ⟨[.op 4 0], _, [], [4], [15]⟩ :: ⟨[.op 3 0, .op 5 0], _, [], Lr 6, [16]⟩ :: ⟨[.op 6 0], _, [], Lr 7, [9]⟩ :: ⟨[.op 7 0], _, [], Lr 8, [17]⟩ :: ⟨[.op 7 0], _, [], Lr 8, [18]⟩ :: ⟨[.op 8 0], _, [], Lr 9, [7]⟩ :: ⟨[.op 9 0], _, [], Lr 11, [8]⟩ :: []) (F := [.old 0, .old 1, .op 10 0, .op 11 0]) hst hb Za
   (o_p rfl (Zb rfl rfl u_0) <| o_p rfl (Zu rfl rfl u_0 (fun _ _ ⟨_, _, _, e, _⟩ => ⟨_, e⟩)) <| o_p rfl (Zs Zca (off := 7) (by kernel_rfl) rfl rfl u_0) <| o_p rfl (Zbq Zc1 rfl rfl u_0) <| o_p rfl (Zd Zfc rfl rfl u_0) <| o_p rfl (Zf ty_9 rfl rfl u_0) <| o_p rfl (Zn Zw8 (Zn4 _ _ h2) rfl rfl (.cons u_0 (.cons u_1 .nil))) <| o_p rfl (Zb rfl rfl u_0) <| o_p rfl (Z4 rfl rfl u_0 rfl) <| o_p rfl (Z4 rfl rfl u_0 rfl) <| o_p rfl (Zc rfl rfl u_0) <| o_p rfl (Zc rfl rfl u_0) <| o_n) (by kernel_rfl) (fun a g hst hb => ?_)
 refine r_s (T := [⟨[.old 3], _, [], [], [19]⟩]) (F := [.old 0, .old 1, .old 2, .op 0 0]) hst hb Za
   (o_p rfl (Zb rfl rfl u_0) <| o_n) (by kernel_rfl) (fun a g hst hb => ?_)
 refine Zb8 (fun a w => ∃ (j8 : Ze) (g : G), w = g.w ∧ St 32 [(0, (Zby (some b0) Zi 0 j8)), (2, (Zby (some b2) Zm 2 a2))] a g ∧ Base g0 g ∧ Zjk a2 j8 = some r) ?_ ?_
 · rintro a w ⟨j8, g, rfl, hst, hb, H0⟩
   unfold Zjk at H0
   refine Zr ?_
   refine r_s (T := [⟨[], _, [], [], [6]⟩]) (F := [.old 0, .old 1, .op 0 0]) hst hb Za
     (o_p rfl (Zc rfl rfl c_i) <| o_n) (by kernel_rfl) (fun a g hst hb => ?_)
   refine wp_ret ?_
   obtain rfl := Option.some.inj H0
   exact Zho rfl hst hb (Zk (s := 6)) (hst.at 2 rfl) ⟨Zcu (hst.at 0 rfl), Zcu (hst.at 1 rfl), trivial⟩
 · refine wp_cond_split (hst.bool 3 rfl) (fun hc3 => ?_) (fun hc3 => ?_)
   · replace H0 := Zw hc3 H0
     obtain ⟨r4, h5, H0⟩ := Zh H0; obtain ⟨r6, h7, H0⟩ := Zh H0
     refine r_g (L := [(0, _), (2, _), (7, _)]) (T := ⟨[.old 0], _, [], [], [20]⟩ :: ⟨[.old 0], _, [], [], [21]⟩ :: ⟨[.op 1 0], _, [], [1], [22]⟩ :: ⟨[.op 2 0], _, [], [1, 2], [23]⟩ :: ⟨[.op 3 0], _, [], [1, 2, 3], [24]⟩ :: ⟨[.op 4 0], _, [26], List.range' 1 4, [25]⟩ :: ⟨[.old 2], _, [], [], [26]⟩ :: ⟨[.old 2], _, [], [], [27]⟩ :: ⟨[.op 7 0], _, [], [7], [28]⟩ :: ⟨[.op 5 0, .op 6 0, .op 8 0], _, [26], List.range' 1 8, [25, 29]⟩ :: ⟨[.op 0 0], _, [], Lr 10, [30]⟩ :: ⟨[.op 10 0], _, [], Lr 11, [31]⟩ :: ⟨[.op 9 0, .op 11 0, .old 0], _, [1], Lr 12, [0, 20, 21, 22, 23, 30, 31]⟩ :: []) (F := [.op 12 0, .old 1]) (hst.pick [0, 1, 2] rfl) hb Za
       (o_p rfl (Zb rfl rfl u_0) <| o_p rfl (Zb rfl rfl u_0) <| o_p rfl (Zu rfl rfl u_0 (fun _ _ ⟨_, _, _, e, _⟩ => ⟨_, e⟩)) <| o_p rfl (Zs Zca (off := 7) (by kernel_rfl) rfl rfl u_0) <| o_p rfl (Zbq Zc1 rfl rfl u_0) <| o_p rfl (Zn6 (j := 25) Zwk (Zfe _ h5) rfl rfl (.cons u_0 .nil)) <| o_p rfl (Zb rfl rfl u_0) <| o_p rfl (Zb rfl rfl u_0) <| o_p rfl (Zb3 rfl rfl u_0 c_i rfl) <| o_p rfl (Zp5 Z8b (Zlb _ _ _ h7) rfl rfl rfl u_0 (.cons u_1 (.cons u_2 .nil))) <| o_p rfl (Zu rfl rfl u_0 (fun _ _ ⟨_, _, _, e, _⟩ => ⟨_, e⟩)) <| o_p rfl (Zs Zca (off := 7) (by kernel_rfl) rfl rfl u_0) <| o_p rfl (Zlq Zc1 rfl rfl u_2 u_1 u_0) <| o_n) (by kernel_rfl) (fun a g hst hb => ?_)
     exact ⟨({ a0 with List := r6 }), g, rfl, (hst.pick [0, 1] rfl), hb, H0⟩
   · replace H0 := Zx hc3 H0
     refine wp_skip ?_
     exact ⟨a0, g, rfl, (hst.pick [0, 1] rfl), hb, H0⟩
theorem Zsb (a0 : Ze) (a1 : Z3) (a2 : Zg) {r : Int × Ze × Zg} (h : Zfn a0 a1 a2 = some r) : FnB Tryz.prog 112 [.box Zi a0 r.2.1, .val (Zbe.pd a1), .box Zm a2 r.2.2] (pInt .i64 r.1) := by
 have H0 := h
 unfold Zfn at H0
 clear h
 refine Zjq (N := 21) Tryz.func112 rfl rfl (Nat.le_of_ble_eq_true rfl) rfl rfl (fun a g0 bs hbs hst hb => ?_)
 obtain ⟨b0, b2, rfl⟩ := Zlk hbs
 replace hst : St 21 [(0, (Zby (some b0) Zi 0 a0)), (1, (Zbe.pd a1)), (2, (Zby (some b2) Zm 2 a2))] _ _ := hst
 refine r_s (T := [⟨[.old 1], _, [], [], [4]⟩, ⟨[], _, [], [], [6]⟩]) (F := [.old 0, .old 2, .op 0 0]) hst hb Za
   (o_p rfl (Zbj rfl rfl u_0) <| o_p rfl (Zc rfl rfl c_i) <| o_n) (by kernel_rfl) (fun a g hst hb => ?_)
 refine wp_seq ?_
 obtain ⟨r1, h2, H0⟩ := Zh H0
 refine r_s (T := ⟨[.old 0], _, [], [], [10]⟩ :: ⟨[.op 0 0], _, [], [0], [11]⟩ :: ⟨[.op 1 0], _, [], [0, 1], [12]⟩ :: ⟨[.op 2 0], _, [], [0, 1, 2], [13]⟩ :: ⟨[.old 2], _, [], [], [14]⟩ :: ⟨[.op 4 0], _, [], [4], [15]⟩ :: ⟨[.op 3 0, .op 5 0], _, [], Lr 6, [16]⟩ :: ⟨[.op 6 0], _, [], Lr 7, [9]⟩ :: ⟨[.op 7 0], _, [], Lr 8, [17]⟩ :: ⟨[.op 7 0], _, [], Lr 8, [18]⟩ :: ⟨[.op 8 0], _, [], Lr 9, [7]⟩ :: ⟨[.op 9 0], _, [], Lr 11, [8]⟩ :: []) (F := [.old 0, .old 1, .op 11 0]) hst hb Za
   (o_p rfl (Zb rfl rfl u_0) <| o_p rfl (Zu rfl rfl u_0 (fun _ _ ⟨_, _, _, e, _⟩ => ⟨_, e⟩)) <| o_p rfl (Zs Zca (off := 7) (by kernel_rfl) rfl rfl u_0) <| o_p rfl (Zbq Zc1 rfl rfl u_0) <| o_p rfl (Zd Zfc rfl rfl u_0) <| o_p rfl (Zf ty_9 rfl rfl u_0) <| o_p rfl (Zn Zw8 (Zn4 _ _ h2) rfl rfl (.cons u_0 (.cons u_1 .nil))) <| o_p rfl (Zb rfl rfl u_0) <| o_p rfl (Z4 rfl rfl u_0 rfl) <| o_p rfl (Z4 rfl rfl u_0 rfl) <| o_p rfl (Zc rfl rfl u_0) <| o_p rfl (Zc rfl rfl u_0) <| o_n) (by kernel_rfl) (fun a g hst hb => ?_)
 refine r_s (T := [⟨[.old 2], _, [], [], [19]⟩, ⟨[.op 0 0], _, [], [0], [20]⟩]) (F := [.old 0, .old 1, .op 1 0]) hst hb Za
   (o_p rfl (Zb rfl rfl u_0) <| o_p rfl (Zb7 rfl rfl u_0) <| o_n) (by kernel_rfl) (fun a g hst hb => ?_)
 refine wp_cond_split (hst.bool 2 rfl) (fun hc3 => ?_) (fun hc3 => ?_)
 · replace H0 := Zw hc3 H0
   refine r_s (L := [(0, _), (2, _)]) (T := [⟨[], _, [], [], [6]⟩]) (F := [.old 0, .old 1, .op 0 0]) (hst.pick [0, 1] rfl) hb Za
     (o_p rfl (Zc rfl rfl c_i) <| o_n) (by kernel_rfl) (fun a g hst hb => ?_)
   refine wp_ret ?_
   refine Zq ?_
   obtain rfl := Option.some.inj H0
   exact Zho rfl hst hb (Zk (s := 6)) (hst.at 2 rfl) ⟨Zcu (hst.at 0 rfl), Zcu (hst.at 1 rfl), trivial⟩
 · replace H0 := Zx hc3 H0
   refine wp_skip ?_
   refine Zr ?_
   refine r_s (L := [(0, _), (2, _)]) (T := [⟨[], _, [], [], [6]⟩]) (F := [.old 0, .old 1, .op 0 0]) (hst.pick [0, 1] rfl) hb Za
     (o_p rfl (Zc rfl rfl c_i) <| o_n) (by kernel_rfl) (fun a g hst hb => ?_)
   refine wp_ret ?_
   obtain rfl := Option.some.inj H0
   exact Zho rfl hst hb (Zk (s := 6)) (hst.at 2 rfl) ⟨Zcu (hst.at 0 rfl), Zcu (hst.at 1 rfl), trivial⟩
theorem Zv7 (a0 : Ze) (a1 : Z3) (a2 : Zg) {r : Int × Ze × Zg} (h : Zj2 a0 a1 a2 = some r) : FnB Tryz.prog 113 [.box Zi a0 r.2.1, .val (Zbe.pd a1), .box Zm a2 r.2.2] (pInt .i64 r.1) := by
 have H0 := h
 unfold Zj2 at H0
 clear h
 refine Zjq (N := 75) Tryz.func113 rfl rfl (Nat.le_of_ble_eq_true rfl) rfl rfl (fun a g0 bs hbs hst hb => ?_)
 obtain ⟨b0, b2, rfl⟩ := Zlk hbs
 replace hst : St 75 [(0, (Zby (some b0) Zi 0 a0)), (1, (Zbe.pd a1)), (2, (Zby (some b2) Zm 2 a2))] _ _ := hst
 refine r_s (T := [⟨[.old 1], _, [], [], [4]⟩, ⟨[], _, [], [], [6]⟩]) (F := [.old 0, .old 2, .op 0 0]) hst hb Za
   (o_p rfl (Zbj rfl rfl u_0) <| o_p rfl (Zc rfl rfl c_i) <| o_n) (by kernel_rfl) (fun a g hst hb => ?_)
 refine r_s (T := [⟨[.old 2], _, [], [], [10]⟩, ⟨[.op 0 0], _, [], [0], [11]⟩, ⟨[.old 2], _, [], [], [12]⟩, ⟨[.op 2 0], _, [], [2], [13]⟩, ⟨[.op 1 0, .op 3 0], _, [], Lr 4, [14]⟩, ⟨[], [(7, (pBox Zy 7 (default : Zl)))], [8], [], [7]⟩, ⟨[.op 4 0, .op 5 0], _, [8], Lr 6, [7]⟩]) (F := [.old 0, .old 1, .op 6 0]) hst hb Za
   (o_p rfl (Zd Zin rfl rfl u_0) <| o_p rfl (Zf Zcv rfl rfl u_0) <| o_p rfl (Zd Zfc rfl rfl u_0) <| o_p rfl (Zf ty_9 rfl rfl u_0) <| o_p rfl (Zt5 rfl rfl u_0 u_1) <| o_p rfl (Zbd (zs := [.float .f64 0, .string ByteArray.empty]) (by kernel_rfl) (fun g => Zkf g) rfl rfl) <| o_p rfl (Zb5 Zdt rfl rfl u_1 u_0) <| o_n) (by kernel_rfl) (fun a g hst hb => ?_)
 refine r_s (T := [⟨[], _, [], [], [8]⟩]) (F := [.old 0, .old 1, .old 2, .op 0 0]) hst hb Za
   (o_p rfl (Zc rfl rfl c_i) <| o_n) (by kernel_rfl) (fun a g hst hb => ?_)
 obtain ⟨z8, hz1, H0⟩ := Zh H0
 refine wp_seq ?_
 refine Zb8 (fun a w => ∃ (y7 : Int) (g : G), w = g.w ∧ St 75 [(0, (Zby (some b0) Zi 0 a0)), (2, (Zby (some b2) Zm 2 a2)), (7, (Zy.ptr ({ Score := a1.X, Name := a1.S } : Zl))), (8, (pInt .i64 y7))] a g ∧ Base g0 g ∧ y7 = z8) ?_ ?_
 · rintro a w ⟨y7, g, rfl, hst, hb, rfl⟩
   refine Zr ?_
   refine wp_seq ?_
   obtain ⟨e9, h10, H0⟩ := Zh H0; obtain ⟨r11, h12, H0⟩ := Zh H0
   refine r_s (T := ⟨[.old 3], _, [], [], [35]⟩ :: ⟨[.old 0], _, [], [], [36]⟩ :: ⟨[.op 1 0], _, [], [1], [37]⟩ :: ⟨[.op 2 0], _, [], [1, 2], [38]⟩ :: ⟨[.op 3 0], _, [], [1, 2, 3], [39]⟩ :: ⟨[.op 4 0], _, [], List.range' 1 4, [40]⟩ :: ⟨[.op 0 0, .op 5 0], _, [], Lr 6, [41]⟩ :: ⟨[.op 6 0], _, [], Lr 7, [42]⟩ :: ⟨[.op 7 0, .old 2], _, [], Lr 8, [43]⟩ :: ⟨[.op 7 0, .old 0], _, [], Lr 8, [44]⟩ :: ⟨[.op 7 0, .op 9 0], _, [], [0, 1, 2, 3, 4, 5, 6, 7, 9], [45]⟩ :: ⟨[.op 7 0, .op 10 0], _, [], [0, 1, 2, 3, 4, 5, 6, 7, 9, 10], [46]⟩ :: ⟨[.op 7 0, .op 11 0], _, [], [0, 1, 2, 3, 4, 5, 6, 7, 9, 10, 11], [47]⟩ :: ⟨[.op 7 0, .old 3], _, [], Lr 8, [48]⟩ :: ⟨[.op 7 0, .op 12 0, .op 13 0], _, [], 0 :: 1 :: 2 :: 3 :: 4 :: 5 :: 6 :: 7 :: 9 :: 10 :: 11 :: 12 :: 13 :: [], [49]⟩ :: ⟨[.op 7 0, .op 14 0], _, [], 0 :: 1 :: 2 :: 3 :: 4 :: 5 :: 6 :: 7 :: 9 :: 10 :: 11 :: 12 :: 13 :: 14 :: [], [50]⟩ :: ⟨[.op 7 0, .op 8 0, .op 15 0], _, [], Lr 16, [51]⟩ :: ⟨[.op 7 0, .op 16 0], _, [], Lr 17, [52]⟩ :: ⟨[.op 7 0, .op 17 0], _, [], Lr 18, [53]⟩ :: []) (F := [.old 0, .old 1, .old 2, .old 3, .op 18 0]) hst hb Za
     (o_p rfl (Zb rfl rfl u_0) <| o_p rfl (Zb rfl rfl u_0) <| o_p rfl (Zu rfl rfl u_0 (fun _ _ ⟨_, _, _, e, _⟩ => ⟨_, e⟩)) <| o_p rfl (Zs Zca (off := 7) (by kernel_rfl) rfl rfl u_0) <| o_p rfl (Zbq Zc1 rfl rfl u_0) <| o_p rfl (Zbu Tryz.underlying62 rfl rfl u_0) <| o_p rfl (Zcc rfl rfl u_0 u_1) <| o_p rfl (Zb rfl rfl u_0) <| o_g (g_t rfl rfl rfl (fun hG => Zf Zdt rfl rfl u_0)) <| o_g (g_t rfl rfl rfl (fun hG => Zb rfl rfl u_0)) <| o_g (g_t rfl rfl rfl (fun hG => Zu rfl rfl (Opd.gd hG u_0) (fun _ _ ⟨_, _, _, e, _⟩ => ⟨_, e⟩))) <| o_g (g_t rfl rfl rfl (fun hG => Zs Zca (off := 7) (by kernel_rfl) rfl rfl (Opd.gd hG u_0))) <| o_g (g_t rfl rfl rfl (fun hG => Zbq Zc1 rfl rfl (Opd.gd hG u_0))) <| o_g (g_t rfl rfl rfl (fun hG => Zb rfl rfl u_0)) <| o_g (g_t rfl rfl rfl (fun hG => Zbf Tryz.underlying62 Zeq rfl rfl (Opd.gd hG u_0) (Opd.gd hG u_1) (Zbm h10 hG))) <| o_g (g_t rfl rfl rfl (fun hG => Zf Zdt rfl rfl (Opd.gd hG u_0))) <| o_g (g_t rfl rfl rfl (fun hG => Zn Zx6 (Znd _ _ (Zbm h12 hG)) rfl rfl (.cons (Opd.gd hG u_0) (.cons (Opd.gd hG u_1) .nil)))) <| o_g (g_t rfl rfl rfl (fun hG => Zb7 rfl rfl (Opd.gd hG u_0))) <| o_p rfl (Zbc rfl rfl u_0 (fun hz => (Opd.gd hz u_1))) <| o_n) (by kernel_rfl) (fun a g hst hb => ?_)
   refine wp_cond_split (hst.bool 4 rfl) (fun hc13 => ?_) (fun hc13 => ?_)
   · replace H0 := Zw hc13 H0
     refine r_s (L := [(0, _), (2, _)]) (T := [⟨[], _, [], [], [6]⟩]) (F := [.old 0, .old 1, .op 0 0]) (hst.pick [0, 1] rfl) hb Za
       (o_p rfl (Zc rfl rfl c_i) <| o_n) (by kernel_rfl) (fun a g hst hb => ?_)
     refine wp_ret ?_
     refine Zq ?_
     obtain rfl := Option.some.inj H0
     exact Zho rfl hst hb (Zk (s := 6)) (hst.at 2 rfl) ⟨Zcu (hst.at 0 rfl), Zcu (hst.at 1 rfl), trivial⟩
   · replace H0 := Zx hc13 H0
     refine wp_skip ?_
     refine Zr ?_
     obtain ⟨r14, h15, H0⟩ := Zh H0; obtain ⟨r16, h17, H0⟩ := Zh H0
     refine r_s (L := [(0, _), (2, _), (7, _), (8, _)]) (T := [⟨[.old 0], _, [], [], [54]⟩, ⟨[.op 0 0], _, [], [0], [55]⟩, ⟨[.op 1 0], _, [], [0, 1], [56]⟩, ⟨[.op 2 0], _, [], [0, 1, 2], [57]⟩, ⟨[.op 3 0], _, [59], Lr 4, [58]⟩, ⟨[.old 3], _, [], [], [59]⟩, ⟨[.old 2], _, [], [], [60]⟩, ⟨[.op 6 0], _, [], [6], [61]⟩, ⟨[.op 4 0, .op 5 0, .op 7 0], _, [59], Lr 8, [58, 62]⟩, ⟨[.op 8 0], _, [], Lr 9, [9]⟩]) (F := [.old 0, .old 1, .op 9 0]) (hst.pick [0, 1, 2, 3] rfl) hb Za
       (o_p rfl (Zb rfl rfl u_0) <| o_p rfl (Zu rfl rfl u_0 (fun _ _ ⟨_, _, _, e, _⟩ => ⟨_, e⟩)) <| o_p rfl (Zs Zca (off := 7) (by kernel_rfl) rfl rfl u_0) <| o_p rfl (Zbq Zc1 rfl rfl u_0) <| o_p rfl (Zn6 (j := 58) Zwk (Zfe _ h15) rfl rfl (.cons u_0 .nil)) <| o_p rfl (Zb rfl rfl u_0) <| o_p rfl (Zf Zdt rfl rfl u_0) <| o_p rfl (Zhi Zdb (xs := [.tmp 60]) (.cons u_0 .nil) (by decide) rfl rfl) <| o_p rfl (Zp5 Z1v (Zhr _ _ _ h17) rfl rfl rfl u_0 (.cons u_1 (.cons u_2 .nil))) <| o_p rfl (Zc rfl rfl u_0) <| o_n) (by kernel_rfl) (fun a g hst hb => ?_)
     obtain ⟨c18, h19, H0⟩ := Zh H0
     refine r_s (T := ⟨[.old 0], _, [], [], [63]⟩ :: ⟨[.old 2], _, [], [], [64]⟩ :: ⟨[.old 2], _, [], [], [65]⟩ :: ⟨[.op 2 0], _, [], [2], [66]⟩ :: ⟨[.old 0], _, [], [], [67]⟩ :: ⟨[.op 4 0], _, [], [4], [68]⟩ :: ⟨[.op 5 0], _, [], [4, 5], [69]⟩ :: ⟨[.op 6 0], _, [], [4, 5, 6], [70]⟩ :: ⟨[.op 3 0, .op 7 0], _, [], List.range' 2 6, [71]⟩ :: ⟨[.op 1 0, .op 8 0], _, [], List.range' 1 8, [72]⟩ :: ⟨[.op 0 0], _, [], Lr 10, [73]⟩ :: ⟨[.op 10 0], _, [], Lr 11, [74]⟩ :: ⟨[.op 9 0, .op 11 0, .old 0], _, [1], Lr 12, [0, 63, 67, 68, 69, 73, 74]⟩ :: []) (F := [.op 12 0, .old 1]) hst hb Za
       (o_p rfl (Zb rfl rfl u_0) <| o_p rfl (Zb rfl rfl u_0) <| o_p rfl (Zb rfl rfl u_0) <| o_p rfl (Zbu Tryz.underlying62 rfl rfl u_0) <| o_p rfl (Zb rfl rfl u_0) <| o_p rfl (Zu rfl rfl u_0 (fun _ _ ⟨_, _, _, e, _⟩ => ⟨_, e⟩)) <| o_p rfl (Zs Zf9 (off := 5) (by kernel_rfl) rfl rfl u_0) <| o_p rfl (Zbq ty_3 rfl rfl u_0) <| o_p rfl (Z7r rfl rfl u_0 u_1) <| o_p rfl (Zrr Tryz.underlying62 Zeq rfl rfl u_0 u_1 h19) <| o_p rfl (Zu rfl rfl u_0 (fun _ _ ⟨_, _, _, e, _⟩ => ⟨_, e⟩)) <| o_p rfl (Zs Zca (off := 7) (by kernel_rfl) rfl rfl u_0) <| o_p rfl (Zlq Zc1 rfl rfl u_2 u_1 u_0) <| o_n) (by kernel_rfl) (fun a g hst hb => ?_)
     refine r_s (T := [⟨[], _, [], [], [6]⟩]) (F := [.old 0, .old 1, .op 0 0]) hst hb Za
       (o_p rfl (Zc rfl rfl c_i) <| o_n) (by kernel_rfl) (fun a g hst hb => ?_)
     refine wp_ret ?_
     obtain rfl := Option.some.inj H0
     exact Zho rfl hst hb (Zk (s := 6)) (hst.at 2 rfl) ⟨Zcu (hst.at 0 rfl), Zcu (hst.at 1 rfl), trivial⟩
 · refine wp_block ?_
   refine wp_loop_ghost (fun n a w => ∃ (x1 : Int) (g : G), w = g.w ∧ St 75 [(0, (Zby (some b0) Zi 0 a0)), (2, (Zby (some b2) Zm 2 a2)), (7, (Zy.ptr ({ Score := a1.X, Name := a1.S } : Zl))), (8, (pInt .i64 x1))] a g ∧ Base g0 g ∧ Zf5 a0 a1 n x1 = some z8) (Int.toNat ((a0.List.length : Int) - (0 : Int)) + 1) ⟨(0 : Int), g, rfl, (hst.pick [0, 1, 2, 3] rfl), hb, hz1⟩ (fun n a w hI => ?_)
   obtain ⟨x1, g, rfl, hst, hb, H1⟩ := hI
   cases n with
   | zero => exact absurd H1 (by simp [Zf5])
   | succ n =>
     rw [Zf5] at H1
     refine wp_seq ?_
     obtain ⟨e2, h3, H1⟩ := Zh H1; obtain ⟨r4, h5, H1⟩ := Zh H1
     refine r_s (T := ⟨[.old 3], _, [], [], [15]⟩ :: ⟨[.old 0], _, [], [], [16]⟩ :: ⟨[.op 1 0], _, [], [1], [17]⟩ :: ⟨[.op 2 0], _, [], [1, 2], [18]⟩ :: ⟨[.op 3 0], _, [], [1, 2, 3], [19]⟩ :: ⟨[.op 4 0], _, [], List.range' 1 4, [20]⟩ :: ⟨[.op 0 0, .op 5 0], _, [], Lr 6, [21]⟩ :: ⟨[.op 6 0], _, [], Lr 7, [22]⟩ :: ⟨[.op 7 0, .old 0], _, [], Lr 8, [23]⟩ :: ⟨[.op 7 0, .op 8 0], _, [], Lr 9, [24]⟩ :: ⟨[.op 7 0, .op 9 0], _, [], Lr 10, [25]⟩ :: ⟨[.op 7 0, .op 10 0], _, [], Lr 11, [26]⟩ :: ⟨[.op 7 0, .old 3], _, [], Lr 8, [27]⟩ :: ⟨[.op 7 0, .op 11 0, .op 12 0], _, [], Lr 13, [28]⟩ :: ⟨[.op 7 0, .op 13 0], _, [], Lr 14, [29]⟩ :: ⟨[.op 7 0, .old 2], _, [], Lr 8, [30]⟩ :: ⟨[.op 7 0, .op 14 0, .op 15 0], _, [], Lr 16, [31]⟩ :: ⟨[.op 7 0, .op 16 0], _, [], Lr 17, [32]⟩ :: []) (F := [.old 0, .old 1, .old 2, .old 3, .op 17 0]) hst hb Za
       (o_p rfl (Zb rfl rfl u_0) <| o_p rfl (Zb rfl rfl u_0) <| o_p rfl (Zu rfl rfl u_0 (fun _ _ ⟨_, _, _, e, _⟩ => ⟨_, e⟩)) <| o_p rfl (Zs Zca (off := 7) (by kernel_rfl) rfl rfl u_0) <| o_p rfl (Zbq Zc1 rfl rfl u_0) <| o_p rfl (Zbu Tryz.underlying62 rfl rfl u_0) <| o_p rfl (Zcc rfl rfl u_0 u_1) <| o_p rfl (Zb rfl rfl u_0) <| o_g (g_t rfl rfl rfl (fun hG => Zb rfl rfl u_0)) <| o_g (g_t rfl rfl rfl (fun hG => Zu rfl rfl (Opd.gd hG u_0) (fun _ _ ⟨_, _, _, e, _⟩ => ⟨_, e⟩))) <| o_g (g_t rfl rfl rfl (fun hG => Zs Zca (off := 7) (by kernel_rfl) rfl rfl (Opd.gd hG u_0))) <| o_g (g_t rfl rfl rfl (fun hG => Zbq Zc1 rfl rfl (Opd.gd hG u_0))) <| o_g (g_t rfl rfl rfl (fun hG => Zb rfl rfl u_0)) <| o_g (g_t rfl rfl rfl (fun hG => Zbf Tryz.underlying62 Zeq rfl rfl (Opd.gd hG u_0) (Opd.gd hG u_1) (Zbm h3 hG))) <| o_g (g_t rfl rfl rfl (fun hG => Zf Zdt rfl rfl (Opd.gd hG u_0))) <| o_g (g_t rfl rfl rfl (fun hG => Zf Zdt rfl rfl u_0)) <| o_g (g_t rfl rfl rfl (fun hG => Zn Zx6 (Znd _ _ (Zbm h5 hG)) rfl rfl (.cons (Opd.gd hG u_0) (.cons (Opd.gd hG u_1) .nil)))) <| o_p rfl (Zbc rfl rfl u_0 (fun hz => (Opd.gd hz u_1))) <| o_n) (by kernel_rfl) (fun a g hst hb => ?_)
     refine wp_cond_split (hst.bool 4 rfl) (fun hc6 => ?_) (fun hc6 => ?_)
     · replace H1 := Zw hc6 H1
       refine wp_skip ?_
       refine Zr ?_
       refine wp_block ?_
       refine r_g (L := [(0, _), (2, _), (7, _), (8, _)]) (T := [⟨[.old 3], _, [], [], [33]⟩, ⟨[.op 0 0], _, [], [0], [34]⟩, ⟨[.op 1 0], _, [], [0, 1], [8]⟩]) (F := [.old 0, .old 1, .old 2, .op 2 0]) (hst.pick [0, 1, 2, 3] rfl) hb Za
         (o_p rfl (Zb rfl rfl u_0) <| o_p rfl (Zb3 rfl rfl u_0 c_i rfl) <| o_p rfl (Zc rfl rfl u_0) <| o_n) (by kernel_rfl) (fun a g hst hb => ?_)
       refine Zba ?_
       exact ⟨n, Nat.lt_succ_self _, (IntKind.i64.wrap (x1 + (1 : Int))), g, rfl, (hst.pick [0, 1, 2, 3] rfl), hb, H1⟩
     · replace H1 := Zx hc6 H1
       refine wp_exit ?_
       refine Zb6 ?_
       refine Zb6 ?_
       refine Zco ?_
       exact ⟨x1, g, rfl, (hst.pick [0, 1, 2, 3] rfl), hb, Option.some.inj H1⟩
def Phi (k : Int) (f : FuncId) (C : List Pd) : Prop := ∀ (x0 x1 : Ze) (a : Z3) (y0 y1 : Zg) (c : Int), Zbi k x0 a y0 = some (c, x1, y1) → FnB Tryz.prog f ([.box Zi x0 x1, .val (Zbe.pd a), .box Zm y0 y1] ++ C.map .val) (pInt .i64 c)
theorem Z59 {k : Int} {x0 : Ze} {a : Z3} {y0 : Zg} {r : Int × Ze × Zg} (h : Zbi k x0 a y0 = some r) : ∀ f C, Phi k f C → FnB Tryz.prog f ([.box Zi x0 r.2.1, .val (Zbe.pd a), .box Zm y0 r.2.2] ++ C.map .val) (pInt .i64 r.1) := fun f C hΦ => hΦ _ _ _ _ _ _ h
def tabT : TabT := fun k => if 5 ≤ k ∧ k ≤ 21 then some (Phi k) else none
theorem Z72 {i : Int} (h : 5 ≤ i ∧ i ≤ 21) : tabT i.toNat = some (Phi i) := by
 unfold tabT
 rw [if_pos (by omega), show ((i.toNat : Nat) : Int) = i by omega]
theorem Z97 : Phi 5 95 [] := fun x0 x1 a y0 y1 c h => Zsi x0 a y0 (r := (c, x1, y1)) (by simpa [Zbi] using h)
theorem Zbah : Phi 6 96 [] := fun x0 x1 a y0 y1 c h => Zsf x0 a y0 (r := (c, x1, y1)) (by simpa [Zbi] using h)
theorem Zbam : Phi 7 97 [] := fun x0 x1 a y0 y1 c h => Zsj x0 a y0 (r := (c, x1, y1)) (by simpa [Zbi] using h)
theorem Zbaf : Phi 8 98 [] := fun x0 x1 a y0 y1 c h => Zyl x0 a y0 (r := (c, x1, y1)) (by simpa [Zbi] using h)
theorem Zbao : Phi 9 99 [] := fun x0 x1 a y0 y1 c h => Zod x0 a y0 (r := (c, x1, y1)) (by simpa [Zbi] using h)
theorem Z7p : Phi 10 100 [] := fun x0 x1 a y0 y1 c h => Zsa x0 a y0 (r := (c, x1, y1)) (by simpa [Zbi] using h)
theorem Z66 : Phi 11 101 [] := fun x0 x1 a y0 y1 c h => Zsg x0 a y0 (r := (c, x1, y1)) (by simpa [Zbi] using h)
theorem Z7h : Phi 12 99 [] := fun x0 x1 a y0 y1 c h => Zod x0 a y0 (r := (c, x1, y1)) (by simpa [Zbi] using h)
theorem Z7x : Phi 13 134 [(Kd.fnc.ptr 103)] := fun x0 x1 a y0 y1 c h => by
 have h' : Zer (fun x y => Zk8 x y) x0 a y0 = some (c, x1, y1) := by simpa [Zbi] using h
 obtain ⟨z, hz, h2⟩ := Zh h'
 injection h2 with h2
 simp only [Prod.mk.injEq] at h2
 obtain ⟨rfl, rfl, rfl⟩ := h2
 exact Zjm 103 Z8x (fun x y => Zk8 x y) (fun x y z h => Z0f x y h) x0 a y0 hz
theorem Z77 : Phi 14 134 [(Kd.fnc.ptr 104)] := fun x0 x1 a y0 y1 c h => by
 have h' : Zer (fun x y => Zk9 x y) x0 a y0 = some (c, x1, y1) := by simpa [Zbi] using h
 obtain ⟨z, hz, h2⟩ := Zh h'
 injection h2 with h2
 simp only [Prod.mk.injEq] at h2
 obtain ⟨rfl, rfl, rfl⟩ := h2
 exact Zjm 104 Z7q (fun x y => Zk9 x y) (fun x y z h => Z06 x y h) x0 a y0 hz
theorem Z8p : Phi 15 134 [(Kd.fnc.ptr 105)] := fun x0 x1 a y0 y1 c h => by
 have h' : Zer (fun x y => Zih x y) x0 a y0 = some (c, x1, y1) := by simpa [Zbi] using h
 obtain ⟨z, hz, h2⟩ := Zh h'
 injection h2 with h2
 simp only [Prod.mk.injEq] at h2
 obtain ⟨rfl, rfl, rfl⟩ := h2
 exact Zjm 105 Z75 (fun x y => Zih x y) (fun x y z h => Zzb x y h) x0 a y0 hz
theorem Z8w : Phi 16 134 [(Kd.fnc.ptr 106)] := fun x0 x1 a y0 y1 c h => by
 have h' : Zer (fun x y => Zhj x y) x0 a y0 = some (c, x1, y1) := by simpa [Zbi] using h
 obtain ⟨z, hz, h2⟩ := Zh h'
 injection h2 with h2
 simp only [Prod.mk.injEq] at h2
 obtain ⟨rfl, rfl, rfl⟩ := h2
 exact Zjm 106 Z8n (fun x y => Zhj x y) (fun x y z h => Zxk x y h) x0 a y0 hz
theorem Z8m : Phi 17 134 [(Kd.fnc.ptr 107)] := fun x0 x1 a y0 y1 c h => by
 have h' : Zer (fun x y => Zg1 x y) x0 a y0 = some (c, x1, y1) := by simpa [Zbi] using h
 obtain ⟨z, hz, h2⟩ := Zh h'
 injection h2 with h2
 simp only [Prod.mk.injEq] at h2
 obtain ⟨rfl, rfl, rfl⟩ := h2
 exact Zjm 107 Z7l (fun x y => Zg1 x y) (fun x y z h => Zsk x y h) x0 a y0 hz
theorem Z7u : Phi 18 108 [] := fun x0 x1 a y0 y1 c h => Zxo x0 a y0 (r := (c, x1, y1)) (by simpa [Zbi] using h)
theorem Z7w : Phi 19 109 [] := fun x0 x1 a y0 y1 c h => Zr8 x0 a y0 (r := (c, x1, y1)) (by simpa [Zbi] using h)
theorem Z8i : Phi 20 112 [] := fun x0 x1 a y0 y1 c h => Zsb x0 a y0 (r := (c, x1, y1)) (by simpa [Zbi] using h)
theorem Z7a : Phi 21 113 [] := fun x0 x1 a y0 y1 c h => Zv7 x0 a y0 (r := (c, x1, y1)) (by simpa [Zbi] using h)
theorem Zyr {N d : Nat} {o : Oper} {uses : Zbh} (hop : o.op = .build 126 #[(5, .func 95), (6, .func 96), (7, .func 97), (8, .func 98), (9, .func 99), (12, .func 99), (10, .func 100), (11, .func 101), (13, .tmp 1), (14, .tmp 2), (15, .tmp 3), (16, .tmp 4), (17, .tmp 5), (18, .func 108), (19, .func 109), (20, .func 112), (21, .func 113)]) (hd : o.dst = some d) (h1 : Opd uses (.tmp 1) (pClo 134 [(Kd.fnc.ptr 103)] rfl)) (h2 : Opd uses (.tmp 2) (pClo 134 [(Kd.fnc.ptr 104)] rfl)) (h3 : Opd uses (.tmp 3) (pClo 134 [(Kd.fnc.ptr 105)] rfl)) (h4 : Opd uses (.tmp 4) (pClo 134 [(Kd.fnc.ptr 106)] rfl)) (h5 : Opd uses (.tmp 5) (pClo 134 [(Kd.fnc.ptr 107)] rfl)) : OB Tryz.prog N o uses [(d, ((Kd.tab Tryz.prog 22 (by decide)).pd tabT))] [] :=
 Zci hd fun a g hh => by
   obtain ⟨c1, e1, k1⟩ := h1 a g hh
   obtain ⟨c2, e2, k2⟩ := h2 a g hh
   obtain ⟨c3, e3, k3⟩ := h3 a g hh
   obtain ⟨c4, e4, k4⟩ := h4 a g hh
   obtain ⟨c5, e5, k5⟩ := h5 a g hh
   refine ⟨.agg #[.nilFunc, .nilFunc, .nilFunc, .nilFunc, .nilFunc, .func (.func 95) #[] #[], .func (.func 96) #[] #[], .func (.func 97) #[] #[], .func (.func 98) #[] #[], .func (.func 99) #[] #[], .func (.func 100) #[] #[], .func (.func 101) #[] #[], .func (.func 99) #[] #[], .func (.func 134) #[] c1.toArray, .func (.func 134) #[] c2.toArray, .func (.func 134) #[] c3.toArray, .func (.func 134) #[] c4.toArray, .func (.func 134) #[] c5.toArray, .func (.func 108) #[] #[], .func (.func 109) #[] #[], .func (.func 112) #[] #[], .func (.func 113) #[] #[]], ?_, [.nilFunc, .nilFunc, .nilFunc, .nilFunc, .nilFunc, .func (.func 95) #[] #[], .func (.func 96) #[] #[], .func (.func 97) #[] #[], .func (.func 98) #[] #[], .func (.func 99) #[] #[], .func (.func 100) #[] #[], .func (.func 101) #[] #[], .func (.func 99) #[] #[], .func (.func 134) #[] c1.toArray, .func (.func 134) #[] c2.toArray, .func (.func 134) #[] c3.toArray, .func (.func 134) #[] c4.toArray, .func (.func 134) #[] c5.toArray, .func (.func 108) #[] #[], .func (.func 109) #[] #[], .func (.func 112) #[] #[], .func (.func 113) #[] #[]], ⟨rfl, ?_, ?_⟩, rfl⟩
   · simp only [execOp, hop, Sem.run_bind, Sem.run_pure, Result.andThen_ok, List.map_toArray, List.map_cons, List.map_nil, e1, e2, e3, e4, e5]
     rw [Zyo Tryz.underlying126 (zero := .agg #[.nilFunc, .nilFunc, .nilFunc, .nilFunc, .nilFunc, .nilFunc, .nilFunc, .nilFunc, .nilFunc, .nilFunc, .nilFunc, .nilFunc, .nilFunc, .nilFunc, .nilFunc, .nilFunc, .nilFunc, .nilFunc, .nilFunc, .nilFunc, .nilFunc, .nilFunc]) (by kernel_rfl) (by kernel_rfl) (cells := #[.nilFunc, .nilFunc, .nilFunc, .nilFunc, .nilFunc, .func (.func 95) #[] #[], .func (.func 96) #[] #[], .func (.func 97) #[] #[], .func (.func 98) #[] #[], .func (.func 99) #[] #[], .func (.func 100) #[] #[], .func (.func 101) #[] #[], .func (.func 99) #[] #[], .func (.func 134) #[] c1.toArray, .func (.func 134) #[] c2.toArray, .func (.func 134) #[] c3.toArray, .func (.func 134) #[] c4.toArray, .func (.func 134) #[] c5.toArray, .func (.func 108) #[] #[], .func (.func 109) #[] #[], .func (.func 112) #[] #[], .func (.func 113) #[] #[]]) (by kernel_rfl) g.w]
     rfl
   · intro u hu
     simp only [List.mem_cons, List.not_mem_nil, or_false] at hu
     rcases hu with rfl | rfl | rfl | rfl | rfl | rfl | rfl | rfl | rfl | rfl | rfl | rfl | rfl | rfl | rfl | rfl | rfl | rfl | rfl | rfl | rfl | rfl <;> rfl
   · intro k F u hF hu
     unfold tabT at hF
     split at hF
     · rename_i hk
       obtain rfl := Option.some.inj hF
       obtain ⟨hk1, hk2⟩ := hk
       have hk : k = 5 ∨ k = 6 ∨ k = 7 ∨ k = 8 ∨ k = 9 ∨ k = 10 ∨ k = 11 ∨ k = 12 ∨ k = 13 ∨ k = 14 ∨ k = 15 ∨ k = 16 ∨ k = 17 ∨ k = 18 ∨ k = 19 ∨ k = 20 ∨ k = 21 := by omega
       rcases hk with rfl | rfl | rfl | rfl | rfl | rfl | rfl | rfl | rfl | rfl | rfl | rfl | rfl | rfl | rfl | rfl | rfl
       · obtain rfl := Option.some.inj hu; exact ⟨95, [], [], rfl, Zbas, rfl, Z97, Zek, fun q hq => by cases hq⟩
       · obtain rfl := Option.some.inj hu; exact ⟨96, [], [], rfl, Zbab, rfl, Zbah, Zek, fun q hq => by cases hq⟩
       · obtain rfl := Option.some.inj hu; exact ⟨97, [], [], rfl, Z96, rfl, Zbam, Zek, fun q hq => by cases hq⟩
       · obtain rfl := Option.some.inj hu; exact ⟨98, [], [], rfl, Z8y, rfl, Zbaf, Zek, fun q hq => by cases hq⟩
       · obtain rfl := Option.some.inj hu; exact ⟨99, [], [], rfl, Z5h, rfl, Zbao, Zek, fun q hq => by cases hq⟩
       · obtain rfl := Option.some.inj hu; exact ⟨100, [], [], rfl, Z7d, rfl, Z7p, Zek, fun q hq => by cases hq⟩
       · obtain rfl := Option.some.inj hu; exact ⟨101, [], [], rfl, Z7m, rfl, Z66, Zek, fun q hq => by cases hq⟩
       · obtain rfl := Option.some.inj hu; exact ⟨99, [], [], rfl, Z5h, rfl, Z7h, Zek, fun q hq => by cases hq⟩
       · obtain rfl := Option.some.inj hu; exact ⟨134, _, c1, rfl, Zq3, rfl, Z7x, k1, Zku⟩
       · obtain rfl := Option.some.inj hu; exact ⟨134, _, c2, rfl, Zq3, rfl, Z77, k2, Zku⟩
       · obtain rfl := Option.some.inj hu; exact ⟨134, _, c3, rfl, Zq3, rfl, Z8p, k3, Zku⟩
       · obtain rfl := Option.some.inj hu; exact ⟨134, _, c4, rfl, Zq3, rfl, Z8w, k4, Zku⟩
       · obtain rfl := Option.some.inj hu; exact ⟨134, _, c5, rfl, Zq3, rfl, Z8m, k5, Zku⟩
       · obtain rfl := Option.some.inj hu; exact ⟨108, [], [], rfl, Z8s, rfl, Z7u, Zek, fun q hq => by cases hq⟩
       · obtain rfl := Option.some.inj hu; exact ⟨109, [], [], rfl, Z8r, rfl, Z7w, Zek, fun q hq => by cases hq⟩
       · obtain rfl := Option.some.inj hu; exact ⟨112, [], [], rfl, Z7f, rfl, Z8i, Zek, fun q hq => by cases hq⟩
       · obtain rfl := Option.some.inj hu; exact ⟨113, [], [], rfl, Z7b, rfl, Z7a, Zek, fun q hq => by cases hq⟩
     · cases hF
theorem Z24 : Ty Tryz.prog 126 (Kd.tab Tryz.prog 22 (by decide)) := ⟨by kernel_rfl, by kernel_rfl⟩
theorem Zui : FnOk Tryz.prog 70 [] (pTab Tryz.prog 22 tabT) := by
 refine Zbp (N := 7) Tryz.func70 rfl rfl (Nat.le_of_ble_eq_true rfl) rfl rfl (fun a g0 hst hb => ?_)
 refine r_s (T := [⟨[], [(0, (pBox (Kd.tab Tryz.prog 22 (by decide)) 0 (fun _ => none)))], [1], [], [0]⟩]) (F := [.op 0 0]) hst hb Za
   (o_p rfl (Zbd (zs := [.nilFunc, .nilFunc, .nilFunc, .nilFunc, .nilFunc, .nilFunc, .nilFunc, .nilFunc, .nilFunc, .nilFunc, .nilFunc, .nilFunc, .nilFunc, .nilFunc, .nilFunc, .nilFunc, .nilFunc, .nilFunc, .nilFunc, .nilFunc, .nilFunc, .nilFunc]) (by kernel_rfl) (fun g => ⟨rfl, by decide, fun k F u h => by cases h⟩) rfl rfl) <| o_n) (by kernel_rfl) (fun a g hst hb => ?_)
 refine r_s (T := [⟨[], _, [], [], [1]⟩, ⟨[], _, [], [0], [2]⟩, ⟨[], _, [], [0, 1], [3]⟩, ⟨[], _, [], [0, 1, 2], [4]⟩, ⟨[], _, [], [0, 1, 2, 3], [5]⟩, ⟨[.op 0 0, .op 1 0, .op 2 0, .op 3 0, .op 4 0], _, [], [0, 1, 2, 3, 4], [6]⟩, ⟨[.op 5 0, .old 0], [(0, (pBox (Kd.tab Tryz.prog 22 (by decide)) 0 tabT))], [1], [0, 1, 2, 3, 4, 5], [0]⟩]) (F := [.op 6 0]) hst hb Za
   (o_p rfl (Zn Zqt (Zkp 103) rfl rfl (.cons Opd.fncv .nil)) <| o_p rfl (Zn Zqt (Zkp 104) rfl rfl (.cons Opd.fncv .nil)) <| o_p rfl (Zn Zqt (Zkp 105) rfl rfl (.cons Opd.fncv .nil)) <| o_p rfl (Zn Zqt (Zkp 106) rfl rfl (.cons Opd.fncv .nil)) <| o_p rfl (Zn Zqt (Zkp 107) rfl rfl (.cons Opd.fncv .nil)) <| o_p rfl (Zyr rfl rfl u_0 u_1 u_2 u_3 u_4) <| o_p rfl (Zz Z24 rfl rfl u_1 u_0) <| o_n) (by kernel_rfl) (fun a g hst hb => ?_)
 refine wp_ret ?_
 obtain ⟨u0, hu0, hq0⟩ := Z8 (P := Tryz.prog) Z24 (hst.at 0 rfl)
 exact Z1 rfl hst hb hu0 (Z3p hq0)
theorem Zwf (a0 : Ze) (a1 : Bool) (a2 : Z3) {r : Ze × Bool × Zg} (h : Zjz a0 a1 a2 = some r) : FnOk Tryz.prog 44 [(Zi.pd a0), (Zbg a1), (Zbe.pd a2)] (pTup [(Zi.pd r.1), (Zbg r.2.1), (Zm.pd r.2.2)]) := by
 have H0 := h
 unfold Zjz at H0
 clear h
 refine Zbp (N := 123) Tryz.func44 rfl rfl (Nat.le_of_ble_eq_true rfl) rfl rfl (fun a g0 hst hb => ?_)
 refine r_s (T := [⟨[.old 0], _, [4], [], [3]⟩, ⟨[.old 1], _, [], [], [4]⟩, ⟨[.old 2], _, [], [], [5]⟩, ⟨[], [(6, (pBox Zi 6 (default : Ze)))], [7], [], [6]⟩, ⟨[], _, [], [], [7]⟩, ⟨[], [(8, (pBox Zm 8 (default : Zg)))], [9], [], [8]⟩]) (F := [.op 0 0, .op 1 0, .op 2 0, .op 3 0, .op 5 0]) hst hb Za
   (o_p rfl (Zk3 rfl rfl u_0) <| o_p rfl (Zbj rfl rfl u_0) <| o_p rfl (Zbj rfl rfl u_0) <| o_p rfl (Zbd (zs := [.int .i64 0, .int .i64 0, .int .i64 0, .int .i64 0, .float .f64 0, .int .i64 0, .string ByteArray.empty, .slice none 0 0]) (by kernel_rfl) (fun g => Zb9 g) rfl rfl) <| o_p rfl (Zc rfl rfl c_b) <| o_p rfl (Zbd (zs := [.int .i64 0, .int .i64 0, .int .i64 0, .int .i64 0, .int .i64 0, .int .i64 0, .float .f64 0, .int .i64 0, .string ByteArray.empty, .slice none 0 0]) (by kernel_rfl) (fun g => Zcx g) rfl rfl) <| o_n) (by kernel_rfl) (fun a g hst hb => ?_)
 refine wp_seq ?_
 refine r_s (T := [⟨[.old 1], _, [], [], [15]⟩, ⟨[.op 0 0], _, [], [0], [16]⟩]) (F := [.old 0, .old 1, .old 2, .old 3, .old 4, .op 1 0]) hst hb Za
   (o_p rfl (Zf ty_4 rfl rfl u_0) <| o_p rfl (Zb7 rfl rfl u_0) <| o_n) (by kernel_rfl) (fun a g hst hb => ?_)
 refine Zb8 (fun a w => ∃ (j2 : Ze) (g : G), w = g.w ∧ St 123 [(3, (pBox Zi 3 j2)), (4, (Kd.bool.ptr a1)), (5, (Zbe.ptr a2)), (6, (pBox Zi 6 (default : Ze))), (8, (pBox Zm 8 (default : Zg)))] a g ∧ Base g0 g ∧ Zgv a1 a2 j2 = some r) ?_ ?_
 · rintro a w ⟨j2, g, rfl, hst, hb, H0⟩
   unfold Zgv at H0
   refine Zr ?_
   obtain ⟨r3, h4, H0⟩ := Zh H0
   refine r_s (T := [⟨[.old 0], _, [], [], [18]⟩, ⟨[.op 0 0], _, [], [0], [19]⟩, ⟨[.op 1 0, .old 0], _, [4], [0, 1], [3]⟩]) (F := [.op 2 0, .old 1, .old 2, .old 3, .old 4]) hst hb Za
     (o_p rfl (Zbw Zbb rfl rfl u_0) <| o_p rfl (Zn Zok (Zhk _ h4) rfl rfl (.cons u_0 .nil)) <| o_p rfl (Zz Zbb rfl rfl u_1 u_0) <| o_n) (by kernel_rfl) (fun a g hst hb => ?_)
   refine r_s (T := [⟨[.old 0, .old 1], _, [], [], [20]⟩, ⟨[.op 0 0], _, [], [0], [9]⟩]) (F := [.old 0, .old 1, .old 2, .old 3, .old 4, .op 1 0]) hst hb Za
     (o_p rfl (Zxn rfl rfl (.cons u_0 (.cons u_1 .nil))) <| o_p rfl (Zc rfl rfl u_0) <| o_n) (by kernel_rfl) (fun a g hst hb => ?_)
   refine wp_seq ?_
   obtain ⟨r5, h6, H0⟩ := Zh H0
   refine r_s (T := [⟨[.old 2], _, [], [], [21]⟩, ⟨[.op 0 0], _, [], [0], [22]⟩, ⟨[.op 1 0], _, [], [0, 1], [10]⟩]) (F := [.old 0, .old 1, .old 2, .old 3, .old 4, .old 5, .op 2 0]) hst hb Za
     (o_p rfl (Zf Zfl rfl rfl u_0) <| o_p rfl (Zn Z40 (Zrq _ h6) rfl rfl (.cons u_0 .nil)) <| o_p rfl (Zc rfl rfl u_0) <| o_n) (by kernel_rfl) (fun a g hst hb => ?_)
   refine r_s (T := [⟨[.old 6], _, [], [], [23]⟩, ⟨[.op 0 0], _, [], [0], [24]⟩]) (F := [.old 0, .old 1, .old 2, .old 3, .old 4, .old 5, .old 6, .op 1 0]) hst hb Za
     (o_p rfl (Zb rfl rfl u_0) <| o_p rfl (Zc6 rfl rfl u_0 c_i) <| o_n) (by kernel_rfl) (fun a g hst hb => ?_)
   refine wp_cond_split (hst.bool 7 rfl) (fun hc7 => ?_) (fun hc7 => ?_)
   · replace H0 := Zw hc7 H0
     obtain ⟨r8, h9, H0⟩ := Zh H0
     refine r_s (L := [(3, _), (4, _), (6, _), (8, _), (9, _), (10, _)]) (T := [⟨[.old 4], _, [], [], [25]⟩, ⟨[.old 5], _, [], [], [26]⟩, ⟨[.op 0 0, .op 1 0, .old 0], [(27, (pTup [(Zi.pd r8.1), (Zbg r8.2.1), (Zm.pd r8.2.2.1)])), (3, (pBox Zi 3 r8.2.2.2))], [4], [0, 1], [3, 9, 25, 27]⟩, ⟨[.op 2 0], _, [], [0, 1, 2], [28]⟩, ⟨[.op 2 0], _, [], [0, 1, 2], [29]⟩, ⟨[.op 2 0], _, [], [0, 1, 2], [30]⟩, ⟨[.op 3 0, .old 2], _, [7], Lr 6, [6]⟩, ⟨[.op 4 0], _, [], Lr 7, [7]⟩, ⟨[.op 5 0, .old 3], _, [9], Lr 8, [8]⟩]) (F := [.op 2 1, .old 1, .op 6 0, .op 7 0, .op 8 0]) (hst.pick [0, 1, 3, 4, 5, 6] rfl) hb Za
       (o_p rfl (Zb rfl rfl u_0) <| o_p rfl (Zb rfl rfl u_0) <| o_p rfl (Zl6 (Ps := [.val (pInt .i64 r5)]) (hs := []) (ks := [(3, none, 3)]) Ztm (Ziz _ _ _ h9) rfl rfl rfl u_0 (.val u_1 .nil) (.box u_2 rfl (.val .nil)) rfl rfl rfl rfl) <| o_p rfl (Z4 rfl rfl u_0 rfl) <| o_p rfl (Z4 rfl rfl u_0 rfl) <| o_p rfl (Z4 rfl rfl u_0 rfl) <| o_p rfl (Zz Zbb rfl rfl u_1 u_0) <| o_p rfl (Zc rfl rfl u_0) <| o_p rfl (Zz Zbz rfl rfl u_1 u_0) <| o_n) (by kernel_rfl) (fun a g hst hb => ?_)
     refine wp_ret ?_
     refine Zq ?_
     obtain rfl := Option.some.inj H0
     obtain ⟨u0, hu0, hq0⟩ := Z8 (P := Tryz.prog) Zbb (hst.at 2 rfl)
     obtain ⟨u2, hu2, hq2⟩ := Z8 (P := Tryz.prog) Zbz (hst.at 4 rfl)
     exact Zh4 rfl hst hb hu0 (Zk (s := 7)) hu2 (Zgh hq0 (hst.at 3 rfl) hq2)
   · replace H0 := Zx hc7 H0
     refine wp_skip ?_
     refine Zr ?_
     refine wp_seq ?_
     refine r_s (L := [(3, _), (4, _), (5, _), (6, _), (8, _), (9, _)]) (T := [⟨[.old 1], _, [], [], [31]⟩]) (F := [.old 0, .old 1, .old 2, .old 3, .old 4, .old 5, .op 0 0]) (hst.pick [0, 1, 2, 3, 4, 5] rfl) hb Za
       (o_p rfl (Zf ty_4 rfl rfl u_0) <| o_n) (by kernel_rfl) (fun a g hst hb => ?_)
     refine Zb8 (fun a w => ∃ (g : G), w = g.w ∧ St 123 [(3, (pBox Zi 3 r3)), (4, (Kd.bool.ptr a1)), (5, (Zbe.ptr a2)), (6, (pBox Zi 6 (default : Ze))), (8, (pBox Zm 8 (default : Zg))), (9, (Zwj 68 [(pBox Zi 3 r3), (Kd.bool.ptr a1)]))] a g ∧ Base g0 g ∧ Zgw a1 a2 r3 = some r) ?_ ?_
     · rintro a w ⟨g, rfl, hst, hb, H0⟩
       unfold Zgw at H0
       refine Zr ?_
       refine wp_seq ?_
       refine wp_block ?_
       refine r_s (T := [⟨[.old 2], _, [], [], [43]⟩, ⟨[.op 0 0], _, [], [0], [44]⟩, ⟨[.op 1 0], _, [], [0, 1], [45]⟩, ⟨[.op 2 0], _, [], [0, 1, 2], [46]⟩, ⟨[.op 3 0, .old 1], _, [], Lr 4, [47]⟩, ⟨[.op 3 0, .op 4 0], _, [], Lr 5, [48]⟩, ⟨[.op 5 0], _, [], Lr 6, [42]⟩]) (F := [.old 0, .old 1, .old 2, .old 3, .old 4, .old 5, .op 6 0]) hst hb Za
         (o_p rfl (Zd Zdc rfl rfl u_0) <| o_p rfl (Zf ty_3 rfl rfl u_0) <| o_p rfl (Zbl rfl rfl u_0 c_i) <| o_p rfl (Zb rfl rfl u_0) <| o_g (g_t rfl rfl rfl (fun hG => Zf ty_4 rfl rfl u_0)) <| o_p rfl (Zbc rfl rfl u_0 (fun hz => (Opd.gd hz u_1))) <| o_p rfl (Zc rfl rfl u_0) <| o_n) (by kernel_rfl) (fun a g hst hb => ?_)
       refine wp_cond_split (hst.bool 6 rfl) (fun hc16 => ?_) (fun hc16 => ?_)
       · replace H0 := Zw hc16 H0
         obtain ⟨r17, h18, H0⟩ := Zh H0
         refine r_s (L := [(3, _), (4, _), (6, _), (8, _), (9, _)]) (T := [⟨[.old 4], _, [], [], [49]⟩, ⟨[.op 0 0, .old 0], [(50, (pTup [(Zi.pd r17.1), (Zbg r17.2.1), (Zm.pd r17.2.2.1)])), (3, (pBox Zi 3 r17.2.2.2))], [4], [0], [3, 9, 49, 50]⟩, ⟨[.op 1 0], _, [], [0, 1], [51]⟩, ⟨[.op 1 0], _, [], [0, 1], [52]⟩, ⟨[.op 1 0], _, [], [0, 1], [53]⟩, ⟨[.op 2 0, .old 2], _, [7], Lr 5, [6]⟩, ⟨[.op 3 0], _, [], Lr 6, [7]⟩, ⟨[.op 4 0, .old 3], _, [9], Lr 7, [8]⟩]) (F := [.op 1 1, .old 1, .op 5 0, .op 6 0, .op 7 0]) (hst.pick [0, 1, 3, 4, 5] rfl) hb Za
           (o_p rfl (Zb rfl rfl u_0) <| o_p rfl (Zl6 (Ps := [.val (pInt .i64 (7 : Int))]) (hs := []) (ks := [(3, none, 3)]) Ztm (Ziz _ _ _ h18) rfl rfl rfl u_0 (.val c_i .nil) (.box u_1 rfl (.val .nil)) rfl rfl rfl rfl) <| o_p rfl (Z4 rfl rfl u_0 rfl) <| o_p rfl (Z4 rfl rfl u_0 rfl) <| o_p rfl (Z4 rfl rfl u_0 rfl) <| o_p rfl (Zz Zbb rfl rfl u_1 u_0) <| o_p rfl (Zc rfl rfl u_0) <| o_p rfl (Zz Zbz rfl rfl u_1 u_0) <| o_n) (by kernel_rfl) (fun a g hst hb => ?_)
         refine wp_ret ?_
         refine Z2 ?_
         refine Zq ?_
         obtain rfl := Option.some.inj H0
         obtain ⟨u0, hu0, hq0⟩ := Z8 (P := Tryz.prog) Zbb (hst.at 2 rfl)
         obtain ⟨u2, hu2, hq2⟩ := Z8 (P := Tryz.prog) Zbz (hst.at 4 rfl)
         exact Zh4 rfl hst hb hu0 (Zk (s := 7)) hu2 (Zgh hq0 (hst.at 3 rfl) hq2)
       · replace H0 := Zx hc16 H0
         refine r_s (L := [(3, _), (4, _), (5, _), (6, _), (8, _), (9, _)]) (T := [⟨[.old 2], _, [], [], [55]⟩, ⟨[.op 0 0], _, [], [0], [56]⟩, ⟨[.op 1 0], _, [], [0, 1], [57]⟩, ⟨[.op 2 0], _, [], [0, 1, 2], [54]⟩]) (F := [.old 0, .old 1, .old 2, .old 3, .old 4, .old 5, .op 3 0]) (hst.pick [0, 1, 2, 3, 4, 5] rfl) hb Za
           (o_p rfl (Zd Zdc rfl rfl u_0) <| o_p rfl (Zf ty_3 rfl rfl u_0) <| o_p rfl (Zbl rfl rfl u_0 c_i) <| o_p rfl (Zc rfl rfl u_0) <| o_n) (by kernel_rfl) (fun a g hst hb => ?_)
         refine wp_cond_split (hst.bool 6 rfl) (fun hc19 => ?_) (fun hc19 => ?_)
         · replace H0 := Zw hc19 H0
           obtain ⟨r20, h21, H0⟩ := Zh H0
           refine r_s (L := [(3, _), (4, _), (5, _), (6, _), (8, _)]) (T := [⟨[.old 2], _, [], [], [58]⟩, ⟨[.op 0 0], _, [], [0], [59]⟩, ⟨[.op 1 0], _, [], [0, 1], [60]⟩, ⟨[], _, [], [], [61]⟩, ⟨[.op 2 0, .old 3], _, [7], [0, 1, 2], [6]⟩, ⟨[], _, [], [0, 1, 2, 4], [7]⟩, ⟨[.op 3 0, .old 4], _, [9], Lr 6, [8]⟩]) (F := [.old 0, .old 1, .op 4 0, .op 5 0, .op 6 0]) (hst.pick [0, 1, 2, 3, 4] rfl) hb Za
             (o_p rfl (Zd Zmm rfl rfl u_0) <| o_p rfl (Zf Zbb rfl rfl u_0) <| o_p rfl (Zn Zok (Zhk _ h21) rfl rfl (.cons u_0 .nil)) <| o_p rfl (Zou rfl rfl ) <| o_p rfl (Zz Zbb rfl rfl u_1 u_0) <| o_p rfl (Zc rfl rfl c_b) <| o_p rfl (Zz Zbz rfl rfl u_1 u_0) <| o_n) (by kernel_rfl) (fun a g hst hb => ?_)
           refine wp_ret ?_
           refine Z2 ?_
           refine Zq ?_
           obtain rfl := Option.some.inj H0
           obtain ⟨u0, hu0, hq0⟩ := Z8 (P := Tryz.prog) Zbb (hst.at 2 rfl)
           obtain ⟨u2, hu2, hq2⟩ := Z8 (P := Tryz.prog) Zbz (hst.at 4 rfl)
           exact Zh4 rfl hst hb hu0 (Zk (s := 7)) hu2 (Zgh hq0 (hst.at 3 rfl) hq2)
         · replace H0 := Zx hc19 H0
           refine r_s (L := [(3, _), (4, _), (5, _), (6, _), (8, _), (9, _)]) (T := [⟨[.old 2], _, [], [], [63]⟩, ⟨[.op 0 0], _, [], [0], [64]⟩, ⟨[.op 1 0], _, [], [0, 1], [65]⟩, ⟨[.op 2 0], _, [], [0, 1, 2], [62]⟩]) (F := [.old 0, .old 1, .old 2, .old 3, .old 4, .old 5, .op 3 0]) (hst.pick [0, 1, 2, 3, 4, 5] rfl) hb Za
             (o_p rfl (Zd Zdc rfl rfl u_0) <| o_p rfl (Zf ty_3 rfl rfl u_0) <| o_p rfl (Zbl rfl rfl u_0 c_i) <| o_p rfl (Zc rfl rfl u_0) <| o_n) (by kernel_rfl) (fun a g hst hb => ?_)
           refine wp_cond_split (hst.bool 6 rfl) (fun hc22 => ?_) (fun hc22 => ?_)
           · replace H0 := Zw hc22 H0
             refine r_s (L := [(3, _), (4, _), (6, _), (8, _)]) (T := [⟨[.old 0], _, [], [], [66]⟩, ⟨[.old 1], _, [], [], [67]⟩, ⟨[.old 0], _, [], [], [68]⟩, ⟨[.op 2 0], _, [], [2], [69]⟩, ⟨[.op 3 0], _, [], [2, 3], [70]⟩, ⟨[.op 0 0, .old 2], _, [7], [0], [6]⟩, ⟨[.op 1 0], _, [], [0, 1, 5], [7]⟩, ⟨[.op 4 0, .old 3], _, [9], Lr 7, [8]⟩]) (F := [.old 0, .old 1, .op 5 0, .op 6 0, .op 7 0]) (hst.pick [0, 1, 3, 4] rfl) hb Za
               (o_p rfl (Zbw Zbb rfl rfl u_0) <| o_p rfl (Zf ty_4 rfl rfl u_0) <| o_p rfl (Zs Zfq (off := 0) (by kernel_rfl) rfl rfl u_0) <| o_p rfl (Zbq ty_3 rfl rfl u_0) <| o_p rfl (Zz4 rfl rfl u_0) <| o_p rfl (Zz Zbb rfl rfl u_1 u_0) <| o_p rfl (Zc rfl rfl u_0) <| o_p rfl (Zz Zbz rfl rfl u_1 u_0) <| o_n) (by kernel_rfl) (fun a g hst hb => ?_)
             refine wp_ret ?_
             refine Z2 ?_
             refine Zq ?_
             obtain rfl := Option.some.inj H0
             obtain ⟨u0, hu0, hq0⟩ := Z8 (P := Tryz.prog) Zbb (hst.at 2 rfl)
             obtain ⟨u2, hu2, hq2⟩ := Z8 (P := Tryz.prog) Zbz (hst.at 4 rfl)
             exact Zh4 rfl hst hb hu0 (Zk (s := 7)) hu2 (Zgh hq0 (hst.at 3 rfl) hq2)
           · replace H0 := Zx hc22 H0
             refine r_s (L := [(3, _), (4, _), (5, _), (6, _), (8, _), (9, _)]) (T := [⟨[.old 1], _, [], [], [72]⟩, ⟨[.op 0 0], _, [], [0], [73]⟩, ⟨[.op 1 0], _, [], [0, 1], [71]⟩]) (F := [.old 0, .old 1, .old 2, .old 3, .old 4, .old 5, .op 2 0]) (hst.pick [0, 1, 2, 3, 4, 5] rfl) hb Za
               (o_p rfl (Zf ty_4 rfl rfl u_0) <| o_p rfl (Zb7 rfl rfl u_0) <| o_p rfl (Zc rfl rfl u_0) <| o_n) (by kernel_rfl) (fun a g hst hb => ?_)
             refine wp_cond_split (hst.bool 6 rfl) (fun hc23 => ?_) (fun hc23 => ?_)
             · replace H0 := Zw hc23 H0
               obtain ⟨r24, h25, H0⟩ := Zh H0
               refine r_s (L := [(3, _), (4, _), (6, _), (8, _), (9, _)]) (T := [⟨[.old 4], _, [], [], [74]⟩, ⟨[.op 0 0, .old 0], [(75, (pTup [(Zi.pd r24.1), (Zbg r24.2.1), (Zm.pd r24.2.2.1)])), (3, (pBox Zi 3 r24.2.2.2))], [4], [0], [3, 9, 74, 75]⟩, ⟨[.op 1 0], _, [], [0, 1], [76]⟩, ⟨[.op 1 0], _, [], [0, 1], [77]⟩, ⟨[.op 1 0], _, [], [0, 1], [78]⟩, ⟨[.op 2 0, .old 2], _, [7], Lr 5, [6]⟩, ⟨[.op 3 0], _, [], Lr 6, [7]⟩, ⟨[.op 4 0, .old 3], _, [9], Lr 7, [8]⟩]) (F := [.op 1 1, .old 1, .op 5 0, .op 6 0, .op 7 0]) (hst.pick [0, 1, 3, 4, 5] rfl) hb Za
                 (o_p rfl (Zb rfl rfl u_0) <| o_p rfl (Zl6 (Ps := [.val (pInt .i64 (6 : Int))]) (hs := []) (ks := [(3, none, 3)]) Ztm (Ziz _ _ _ h25) rfl rfl rfl u_0 (.val c_i .nil) (.box u_1 rfl (.val .nil)) rfl rfl rfl rfl) <| o_p rfl (Z4 rfl rfl u_0 rfl) <| o_p rfl (Z4 rfl rfl u_0 rfl) <| o_p rfl (Z4 rfl rfl u_0 rfl) <| o_p rfl (Zz Zbb rfl rfl u_1 u_0) <| o_p rfl (Zc rfl rfl u_0) <| o_p rfl (Zz Zbz rfl rfl u_1 u_0) <| o_n) (by kernel_rfl) (fun a g hst hb => ?_)
               refine wp_ret ?_
               refine Z2 ?_
               refine Zq ?_
               obtain rfl := Option.some.inj H0
               obtain ⟨u0, hu0, hq0⟩ := Z8 (P := Tryz.prog) Zbb (hst.at 2 rfl)
               obtain ⟨u2, hu2, hq2⟩ := Z8 (P := Tryz.prog) Zbz (hst.at 4 rfl)
               exact Zh4 rfl hst hb hu0 (Zk (s := 7)) hu2 (Zgh hq0 (hst.at 3 rfl) hq2)
             · replace H0 := Zx hc23 H0
               refine r_s (L := [(3, _), (4, _), (5, _), (6, _), (8, _), (9, _)]) (T := [⟨[.old 2], _, [], [], [80]⟩, ⟨[.op 0 0], _, [], [0], [81]⟩, ⟨[.op 1 0], _, [], [0, 1], [82]⟩, ⟨[.op 2 0], _, [], [0, 1, 2], [79]⟩]) (F := [.old 0, .old 1, .old 2, .old 3, .old 4, .old 5, .op 3 0]) (hst.pick [0, 1, 2, 3, 4, 5] rfl) hb Za
                 (o_p rfl (Zd Zdc rfl rfl u_0) <| o_p rfl (Zf ty_3 rfl rfl u_0) <| o_p rfl (Zbl rfl rfl u_0 c_i) <| o_p rfl (Zc rfl rfl u_0) <| o_n) (by kernel_rfl) (fun a g hst hb => ?_)
               refine wp_cond_split (hst.bool 6 rfl) (fun hc26 => ?_) (fun hc26 => ?_)
               · replace H0 := Zw hc26 H0
                 refine r_s (L := [(3, _), (4, _), (6, _), (8, _)]) (T := [⟨[], _, [], [], [83]⟩, ⟨[], _, [], [], [84]⟩, ⟨[.op 0 0, .old 2], _, [7], [0], [6]⟩, ⟨[], _, [], [0, 2], [7]⟩, ⟨[.op 1 0, .old 3], _, [9], Lr 4, [8]⟩]) (F := [.old 0, .old 1, .op 2 0, .op 3 0, .op 4 0]) (hst.pick [0, 1, 3, 4] rfl) hb Za
                   (o_p rfl (Zma rfl rfl ) <| o_p rfl (Zou rfl rfl ) <| o_p rfl (Zz Zbb rfl rfl u_1 u_0) <| o_p rfl (Zc rfl rfl c_b) <| o_p rfl (Zz Zbz rfl rfl u_1 u_0) <| o_n) (by kernel_rfl) (fun a g hst hb => ?_)
                 refine wp_ret ?_
                 refine Z2 ?_
                 refine Zq ?_
                 obtain rfl := Option.some.inj H0
                 obtain ⟨u0, hu0, hq0⟩ := Z8 (P := Tryz.prog) Zbb (hst.at 2 rfl)
                 obtain ⟨u2, hu2, hq2⟩ := Z8 (P := Tryz.prog) Zbz (hst.at 4 rfl)
                 exact Zh4 rfl hst hb hu0 (Zk (s := 7)) hu2 (Zgh hq0 (hst.at 3 rfl) hq2)
               · replace H0 := Zx hc26 H0
                 refine r_s (L := [(3, _), (4, _), (5, _), (6, _), (8, _), (9, _)]) (T := [⟨[.old 2], _, [], [], [86]⟩, ⟨[.op 0 0], _, [], [0], [87]⟩, ⟨[.op 1 0], _, [], [0, 1], [88]⟩, ⟨[.op 2 0], _, [], [0, 1, 2], [85]⟩]) (F := [.old 0, .old 1, .old 2, .old 3, .old 4, .old 5, .op 3 0]) (hst.pick [0, 1, 2, 3, 4, 5] rfl) hb Za
                   (o_p rfl (Zd Zdc rfl rfl u_0) <| o_p rfl (Zf ty_3 rfl rfl u_0) <| o_p rfl (Zbl rfl rfl u_0 c_i) <| o_p rfl (Zc rfl rfl u_0) <| o_n) (by kernel_rfl) (fun a g hst hb => ?_)
                 refine wp_cond_split (hst.bool 6 rfl) (fun hc27 => ?_) (fun hc27 => ?_)
                 · replace H0 := Zw hc27 H0
                   obtain ⟨r28, h29, H0⟩ := Zh H0
                   refine r_s (L := [(3, _), (4, _), (6, _), (8, _)]) (T := [⟨[.old 0], _, [], [], [89]⟩, ⟨[.old 1], _, [], [], [90]⟩, ⟨[.old 0], _, [], [], [91]⟩, ⟨[.op 2 0], _, [], [2], [92]⟩, ⟨[.op 3 0], _, [], [2, 3], [93]⟩, ⟨[.op 0 0, .old 2], _, [7], [0, 2, 3], [6]⟩, ⟨[.op 1 0], _, [], [0, 1, 2, 3, 5], [7]⟩, ⟨[.op 4 0, .old 3], _, [9], Lr 7, [8]⟩]) (F := [.old 0, .old 1, .op 5 0, .op 6 0, .op 7 0]) (hst.pick [0, 1, 3, 4] rfl) hb Za
                     (o_p rfl (Zbw Zbb rfl rfl u_0) <| o_p rfl (Zf ty_4 rfl rfl u_0) <| o_p rfl (Zbw Zbb rfl rfl u_0) <| o_p rfl (Zn Zok (Zhk _ h29) rfl rfl (.cons u_0 .nil)) <| o_p rfl (Zzx rfl rfl u_0) <| o_p rfl (Zz Zbb rfl rfl u_1 u_0) <| o_p rfl (Zc rfl rfl u_0) <| o_p rfl (Zz Zbz rfl rfl u_1 u_0) <| o_n) (by kernel_rfl) (fun a g hst hb => ?_)
                   refine wp_ret ?_
                   refine Z2 ?_
                   refine Zq ?_
                   obtain rfl := Option.some.inj H0
                   obtain ⟨u0, hu0, hq0⟩ := Z8 (P := Tryz.prog) Zbb (hst.at 2 rfl)
                   obtain ⟨u2, hu2, hq2⟩ := Z8 (P := Tryz.prog) Zbz (hst.at 4 rfl)
                   exact Zh4 rfl hst hb hu0 (Zk (s := 7)) hu2 (Zgh hq0 (hst.at 3 rfl) hq2)
                 · replace H0 := Zx hc27 H0
                   obtain ⟨r30, h31, H0⟩ := Zh H0
                   refine r_s (L := [(3, _), (4, _), (5, _), (6, _), (8, _), (9, _)]) (T := [⟨[.old 2], _, [], [], [95]⟩, ⟨[.op 0 0], _, [], [0], [96]⟩, ⟨[.op 1 0], _, [], [0, 1], [97]⟩, ⟨[.old 0], _, [], [], [98]⟩, ⟨[.op 3 0], _, [], [3], [99]⟩, ⟨[.op 2 0, .op 4 0], _, [], Lr 5, [100]⟩, ⟨[.op 5 0], _, [], Lr 6, [94]⟩]) (F := [.old 0, .old 1, .old 2, .old 3, .old 4, .old 5, .op 6 0]) (hst.pick [0, 1, 2, 3, 4, 5] rfl) hb Za
                     (o_p rfl (Zd Zdc rfl rfl u_0) <| o_p rfl (Zf ty_3 rfl rfl u_0) <| o_p rfl (Zn Z88 (Z2w _ h31) rfl rfl (.cons u_0 .nil)) <| o_p rfl (Zs Zfq (off := 0) (by kernel_rfl) rfl rfl u_0) <| o_p rfl (Zbq ty_3 rfl rfl u_0) <| o_p rfl (Zc6 rfl rfl u_0 u_1) <| o_p rfl (Zc rfl rfl u_0) <| o_n) (by kernel_rfl) (fun a g hst hb => ?_)
                   refine wp_cond_split (hst.bool 6 rfl) (fun hc32 => ?_) (fun hc32 => ?_)
                   · replace H0 := Zw hc32 H0
                     obtain ⟨r33, h34, H0⟩ := Zh H0
                     refine r_s (L := [(3, _), (4, _), (6, _), (8, _), (9, _)]) (T := [⟨[.old 4], _, [], [], [101]⟩, ⟨[.op 0 0, .old 0], [(102, (pTup [(Zi.pd r33.1), (Zbg r33.2.1), (Zm.pd r33.2.2.1)])), (3, (pBox Zi 3 r33.2.2.2))], [4], [0], [3, 9, 101, 102]⟩, ⟨[.op 1 0], _, [], [0, 1], [103]⟩, ⟨[.op 1 0], _, [], [0, 1], [104]⟩, ⟨[.op 1 0], _, [], [0, 1], [105]⟩, ⟨[.op 2 0, .old 2], _, [7], Lr 5, [6]⟩, ⟨[.op 3 0], _, [], Lr 6, [7]⟩, ⟨[.op 4 0, .old 3], _, [9], Lr 7, [8]⟩]) (F := [.op 1 1, .old 1, .op 5 0, .op 6 0, .op 7 0]) (hst.pick [0, 1, 3, 4, 5] rfl) hb Za
                       (o_p rfl (Zb rfl rfl u_0) <| o_p rfl (Zl6 (Ps := [.val (pInt .i64 (5 : Int))]) (hs := []) (ks := [(3, none, 3)]) Ztm (Ziz _ _ _ h34) rfl rfl rfl u_0 (.val c_i .nil) (.box u_1 rfl (.val .nil)) rfl rfl rfl rfl) <| o_p rfl (Z4 rfl rfl u_0 rfl) <| o_p rfl (Z4 rfl rfl u_0 rfl) <| o_p rfl (Z4 rfl rfl u_0 rfl) <| o_p rfl (Zz Zbb rfl rfl u_1 u_0) <| o_p rfl (Zc rfl rfl u_0) <| o_p rfl (Zz Zbz rfl rfl u_1 u_0) <| o_n) (by kernel_rfl) (fun a g hst hb => ?_)
                     refine wp_ret ?_
                     refine Z2 ?_
                     refine Zq ?_
                     obtain rfl := Option.some.inj H0
                     obtain ⟨u0, hu0, hq0⟩ := Z8 (P := Tryz.prog) Zbb (hst.at 2 rfl)
                     obtain ⟨u2, hu2, hq2⟩ := Z8 (P := Tryz.prog) Zbz (hst.at 4 rfl)
                     exact Zh4 rfl hst hb hu0 (Zk (s := 7)) hu2 (Zgh hq0 (hst.at 3 rfl) hq2)
                   · replace H0 := Zx hc32 H0
                     refine wp_skip ?_
                     refine Zba ?_
                     refine Zr ?_
                     obtain ⟨r35, h36, H0⟩ := Zh H0
                     refine r_s (L := [(3, _), (4, _), (5, _), (6, _), (8, _)]) (T := [⟨[.old 0], _, [], [], [106]⟩, ⟨[.op 0 0], _, [], [0], [107]⟩, ⟨[], [(12, (pBox Zi 12 (default : Ze)))], [13], [], [12]⟩, ⟨[.op 1 0, .op 2 0], _, [13], [0, 1, 2], [12]⟩]) (F := [.old 0, .old 1, .old 2, .old 3, .old 4, .op 3 0]) (hst.pick [0, 1, 2, 3, 4] rfl) hb Za
                       (o_p rfl (Zbw Zbb rfl rfl u_0) <| o_p rfl (Zn Zok (Zhk _ h36) rfl rfl (.cons u_0 .nil)) <| o_p rfl (Zbd (zs := [.int .i64 0, .int .i64 0, .int .i64 0, .int .i64 0, .float .f64 0, .int .i64 0, .string ByteArray.empty, .slice none 0 0]) (by kernel_rfl) (fun g => Zb9 g) rfl rfl) <| o_p rfl (Zb5 Zbb rfl rfl u_1 u_0) <| o_n) (by kernel_rfl) (fun a g hst hb => ?_)
                     refine r_s (T := [⟨[], [(13, (pBox Zm 13 (default : Zg)))], [14], [], [13]⟩]) (F := [.old 0, .old 1, .old 2, .old 3, .old 4, .old 5, .op 0 0]) hst hb Za
                       (o_p rfl (Zbd (zs := [.int .i64 0, .int .i64 0, .int .i64 0, .int .i64 0, .int .i64 0, .int .i64 0, .float .f64 0, .int .i64 0, .string ByteArray.empty, .slice none 0 0]) (by kernel_rfl) (fun g => Zcx g) rfl rfl) <| o_n) (by kernel_rfl) (fun a g hst hb => ?_)
                     refine wp_seq ?_
                     obtain ⟨h37, H0⟩ := Zge H0; obtain ⟨r38, h39, H0⟩ := Zh H0
                     refine r_s (T := [⟨[], _, [], [], [108]⟩, ⟨[.old 2], _, [], [], [109]⟩, ⟨[.op 1 0], _, [], [1], [110]⟩, ⟨[.op 0 0, .op 2 0], [(111, (pFun Tryz.prog (Phi a2.Kind)))], [], [0, 1, 2], [111]⟩, ⟨[.old 2], _, [], [], [112]⟩, ⟨[.op 3 0, .old 0, .op 4 0, .old 6], [(113, (pInt .i64 r38.1)), (3, (pBox Zi 3 r38.2.1)), (13, (pBox Zm 13 r38.2.2))], [4, 14], Lr 5, [3, 13, 113]⟩, ⟨[.op 5 0], _, [], Lr 6, [14]⟩]) (F := [.op 5 1, .old 1, .old 3, .old 4, .old 5, .op 5 2, .op 6 0]) hst hb Za
                       (o_p rfl (Zn Zbaa Zui rfl rfl .nil) <| o_p rfl (Zd Zdc rfl rfl u_0) <| o_p rfl (Zf ty_3 rfl rfl u_0) <| o_p rfl (Zy7 Tryz.underlying126 (by kernel_rfl) ⟨_, Tryz.underlying125, rfl⟩ (by have := h37; omega) (Z72 h37) (by have := h37; omega) rfl rfl u_0 u_1) <| o_p rfl (Zf Zfl rfl rfl u_0) <| o_p rfl (Z0n (hs := [(3, none, 3), (13, none, 13)]) (Z59 h39) rfl rfl rfl u_0 (.box u_1 u_1 rfl (.val u_2 (.box u_3 u_3 rfl .nil))) rfl rfl rfl) <| o_p rfl (Zc rfl rfl u_0) <| o_n) (by kernel_rfl) (fun a g hst hb => ?_)
                     refine r_s (T := [⟨[.old 6], _, [], [], [114]⟩, ⟨[.op 0 0], _, [], [0], [115]⟩]) (F := [.old 0, .old 1, .old 2, .old 3, .old 4, .old 5, .old 6, .op 1 0]) hst hb Za
                       (o_p rfl (Zb rfl rfl u_0) <| o_p rfl (Zc6 rfl rfl u_0 c_i) <| o_n) (by kernel_rfl) (fun a g hst hb => ?_)
                     refine wp_cond_split (hst.bool 7 rfl) (fun hc40 => ?_) (fun hc40 => ?_)
                     · replace H0 := Zw hc40 H0
                       refine r_s (L := [(3, _), (4, _), (6, _), (8, _), (12, _), (14, _)]) (T := [⟨[.old 4], _, [], [], [116]⟩, ⟨[.old 1], _, [], [], [117]⟩, ⟨[.old 5], _, [], [], [118]⟩, ⟨[.op 2 0], _, [], [2], [119]⟩, ⟨[.op 0 0, .old 2], _, [7], [0], [6]⟩, ⟨[.op 1 0], _, [], [0, 1, 4], [7]⟩, ⟨[.op 3 0, .old 3], _, [9], Lr 6, [8]⟩]) (F := [.old 0, .old 1, .op 4 0, .op 5 0, .op 6 0]) (hst.pick [0, 1, 2, 3, 4, 6] rfl) hb Za
                         (o_p rfl (Zf Zbb rfl rfl u_0) <| o_p rfl (Zf ty_4 rfl rfl u_0) <| o_p rfl (Zb rfl rfl u_0) <| o_p rfl (Zpf rfl rfl u_0) <| o_p rfl (Zz Zbb rfl rfl u_1 u_0) <| o_p rfl (Zc rfl rfl u_0) <| o_p rfl (Zz Zbz rfl rfl u_1 u_0) <| o_n) (by kernel_rfl) (fun a g hst hb => ?_)
                       refine wp_ret ?_
                       refine Zq ?_
                       obtain rfl := Option.some.inj H0
                       obtain ⟨u0, hu0, hq0⟩ := Z8 (P := Tryz.prog) Zbb (hst.at 2 rfl)
                       obtain ⟨u2, hu2, hq2⟩ := Z8 (P := Tryz.prog) Zbz (hst.at 4 rfl)
                       exact Zh4 rfl hst hb hu0 (Zk (s := 7)) hu2 (Zgh hq0 (hst.at 3 rfl) hq2)
                     · replace H0 := Zx hc40 H0
                       refine wp_skip ?_
                       refine Zr ?_
                       refine r_s (L := [(3, _), (4, _), (6, _), (8, _), (13, _)]) (T := [⟨[.old 0], _, [], [], [120]⟩, ⟨[.old 1], _, [], [], [121]⟩, ⟨[.old 4], _, [], [], [122]⟩, ⟨[.op 0 0, .old 2], _, [7], [0], [6]⟩, ⟨[.op 1 0], _, [], [0, 1, 3], [7]⟩, ⟨[.op 2 0, .old 3], _, [9], Lr 5, [8]⟩]) (F := [.old 0, .old 1, .op 3 0, .op 4 0, .op 5 0]) (hst.pick [0, 1, 2, 3, 5] rfl) hb Za
                         (o_p rfl (Zbw Zbb rfl rfl u_0) <| o_p rfl (Zf ty_4 rfl rfl u_0) <| o_p rfl (Zbw Zbz rfl rfl u_0) <| o_p rfl (Zz Zbb rfl rfl u_1 u_0) <| o_p rfl (Zc rfl rfl u_0) <| o_p rfl (Zz Zbz rfl rfl u_1 u_0) <| o_n) (by kernel_rfl) (fun a g hst hb => ?_)
                       refine wp_ret ?_
                       obtain rfl := Option.some.inj H0
                       obtain ⟨u0, hu0, hq0⟩ := Z8 (P := Tryz.prog) Zbb (hst.at 2 rfl)
                       obtain ⟨u2, hu2, hq2⟩ := Z8 (P := Tryz.prog) Zbz (hst.at 4 rfl)
                       exact Zh4 rfl hst hb hu0 (Zk (s := 7)) hu2 (Zgh hq0 (hst.at 3 rfl) hq2)
     · refine wp_cond_split (hst.bool 6 rfl) (fun hc10 => ?_) (fun hc10 => ?_)
       · replace H0 := Zw hc10 H0
         obtain ⟨r11, h12, H0⟩ := Zh H0
         refine r_s (L := [(3, _), (4, _), (5, _), (6, _), (8, _), (9, _)]) (T := [⟨[.old 0], _, [], [], [32]⟩, ⟨[.op 0 0], _, [], [0], [33]⟩, ⟨[.op 1 0], _, [], [0, 1], [11]⟩]) (F := [.old 0, .old 1, .old 2, .old 3, .old 4, .old 5, .op 2 0]) (hst.pick [0, 1, 2, 3, 4, 5] rfl) hb Za
           (o_p rfl (Zbw Zbb rfl rfl u_0) <| o_p rfl (Zn Z05 (Znt _ h12) rfl rfl (.cons u_0 .nil)) <| o_p rfl (Zc rfl rfl u_0) <| o_n) (by kernel_rfl) (fun a g hst hb => ?_)
         refine r_s (T := [⟨[.old 6], _, [], [], [34]⟩, ⟨[.op 0 0], _, [], [0], [35]⟩]) (F := [.old 0, .old 1, .old 2, .old 3, .old 4, .old 5, .old 6, .op 1 0]) hst hb Za
           (o_p rfl (Zb rfl rfl u_0) <| o_p rfl (Zc6 rfl rfl u_0 c_i) <| o_n) (by kernel_rfl) (fun a g hst hb => ?_)
         refine wp_cond_split (hst.bool 7 rfl) (fun hc13 => ?_) (fun hc13 => ?_)
         · replace H0 := Zw hc13 H0
           obtain ⟨r14, h15, H0⟩ := Zh H0
           refine r_s (L := [(3, _), (4, _), (6, _), (8, _), (9, _), (11, _)]) (T := [⟨[.old 4], _, [], [], [36]⟩, ⟨[.old 5], _, [], [], [37]⟩, ⟨[.op 0 0, .op 1 0, .old 0], [(38, (pTup [(Zi.pd r14.1), (Zbg r14.2.1), (Zm.pd r14.2.2.1)])), (3, (pBox Zi 3 r14.2.2.2))], [4], [0, 1], [3, 9, 36, 38]⟩, ⟨[.op 2 0], _, [], [0, 1, 2], [39]⟩, ⟨[.op 2 0], _, [], [0, 1, 2], [40]⟩, ⟨[.op 2 0], _, [], [0, 1, 2], [41]⟩, ⟨[.op 3 0, .old 2], _, [7], Lr 6, [6]⟩, ⟨[.op 4 0], _, [], Lr 7, [7]⟩, ⟨[.op 5 0, .old 3], _, [9], Lr 8, [8]⟩]) (F := [.op 2 1, .old 1, .op 6 0, .op 7 0, .op 8 0]) (hst.pick [0, 1, 3, 4, 5, 6] rfl) hb Za
             (o_p rfl (Zb rfl rfl u_0) <| o_p rfl (Zb rfl rfl u_0) <| o_p rfl (Zl6 (Ps := [.val (pInt .i64 r11)]) (hs := []) (ks := [(3, none, 3)]) Ztm (Ziz _ _ _ h15) rfl rfl rfl u_0 (.val u_1 .nil) (.box u_2 rfl (.val .nil)) rfl rfl rfl rfl) <| o_p rfl (Z4 rfl rfl u_0 rfl) <| o_p rfl (Z4 rfl rfl u_0 rfl) <| o_p rfl (Z4 rfl rfl u_0 rfl) <| o_p rfl (Zz Zbb rfl rfl u_1 u_0) <| o_p rfl (Zc rfl rfl u_0) <| o_p rfl (Zz Zbz rfl rfl u_1 u_0) <| o_n) (by kernel_rfl) (fun a g hst hb => ?_)
           refine wp_ret ?_
           refine Zq ?_
           refine Zq ?_
           obtain rfl := Option.some.inj H0
           obtain ⟨u0, hu0, hq0⟩ := Z8 (P := Tryz.prog) Zbb (hst.at 2 rfl)
           obtain ⟨u2, hu2, hq2⟩ := Z8 (P := Tryz.prog) Zbz (hst.at 4 rfl)
           exact Zh4 rfl hst hb hu0 (Zk (s := 7)) hu2 (Zgh hq0 (hst.at 3 rfl) hq2)
         · replace H0 := Zx hc13 H0
           refine wp_skip ?_
           exact ⟨g, rfl, (hst.pick [0, 1, 2, 3, 4, 5] rfl), hb, H0⟩
       · replace H0 := Zx hc10 H0
         refine wp_skip ?_
         exact ⟨g, rfl, (hst.pick [0, 1, 2, 3, 4, 5] rfl), hb, H0⟩
 · refine wp_cond_split (hst.bool 5 rfl) (fun hc1 => ?_) (fun hc1 => ?_)
   · replace H0 := Zw hc1 H0
     refine r_g (L := [(3, _), (4, _), (5, _), (6, _), (8, _)]) (T := [⟨[], _, [], [], [17]⟩, ⟨[.op 0 0, .old 0], _, [4], [0], [3]⟩]) (F := [.op 1 0, .old 1, .old 2, .old 3, .old 4]) (hst.pick [0, 1, 2, 3, 4] rfl) hb Za
       (o_p rfl (Zma rfl rfl ) <| o_p rfl (Zz Zbb rfl rfl u_1 u_0) <| o_n) (by kernel_rfl) (fun a g hst hb => ?_)
     exact ⟨({ Kind := (0 : Int), Num := (0 : Int), Low := (0 : Int), High := (0 : Int), Real := (0 : Nat), Cap := (0 : Int), Text := ByteArray.empty, List := ([] : List Zl) } : Ze), g, rfl, (hst.pick [0, 1, 2, 3, 4] rfl), hb, H0⟩
   · replace H0 := Zx hc1 H0
     refine wp_skip ?_
     exact ⟨a0, g, rfl, (hst.pick [0, 1, 2, 3, 4] rfl), hb, H0⟩
theorem Zyi (a0 : Int) {r : Bool} (h : Zoe a0 = some r) : FnOk Tryz.prog 45 [(pInt .i64 a0)] (Zbg r) := by
 have H0 := h
 unfold Zoe at H0
 clear h
 refine Zbp (N := 21) Tryz.func45 rfl rfl (Nat.le_of_ble_eq_true rfl) rfl rfl (fun a g0 hst hb => ?_)
 refine r_s (T := [⟨[], _, [], [], [2]⟩]) (F := [.old 0]) hst hb Za
   (o_p rfl (Zc rfl rfl c_b) <| o_n) (by kernel_rfl) (fun a g hst hb => ?_)
 refine r_s (T := ⟨[.old 0], _, [], [], [3]⟩ :: ⟨[.op 0 0], _, [], [0], [4]⟩ :: ⟨[.op 1 0], _, [], [0, 1], [5]⟩ :: ⟨[.op 2 0, .old 0], _, [], [0, 1, 2], [6]⟩ :: ⟨[.op 2 0, .op 3 0], _, [], Lr 4, [7]⟩ :: ⟨[.op 2 0, .op 4 0], _, [], Lr 5, [8]⟩ :: ⟨[.op 5 0], _, [], Lr 6, [9]⟩ :: ⟨[.op 6 0, .old 0], _, [], Lr 7, [10]⟩ :: ⟨[.op 6 0, .op 7 0], _, [], Lr 8, [11]⟩ :: ⟨[.op 6 0, .op 8 0], _, [], Lr 9, [12]⟩ :: ⟨[.op 9 0], _, [], Lr 10, [13]⟩ :: ⟨[.op 10 0, .old 0], _, [], Lr 11, [14]⟩ :: ⟨[.op 10 0, .op 11 0], _, [], Lr 12, [15]⟩ :: ⟨[.op 10 0, .op 12 0], _, [], Lr 13, [16]⟩ :: ⟨[.op 13 0], _, [], Lr 14, [17]⟩ :: ⟨[.op 14 0, .old 0], _, [], Lr 15, [18]⟩ :: ⟨[.op 14 0, .op 15 0], _, [], Lr 16, [19]⟩ :: ⟨[.op 14 0, .op 16 0], _, [], Lr 17, [20]⟩ :: ⟨[.op 17 0], _, [], Lr 18, [2]⟩ :: []) (F := [.op 18 0]) hst hb Za
   (o_p rfl (Zb rfl rfl u_0) <| o_p rfl (Zbl rfl rfl u_0 c_i) <| o_p rfl (Zb rfl rfl u_0) <| o_g (g_f rfl rfl rfl (fun hG => Zb rfl rfl u_0)) <| o_g (g_f rfl rfl rfl (fun hG => Zbl rfl rfl (Opd.gd hG u_0) c_i)) <| o_p rfl (Zbt rfl rfl u_0 (fun hz => (Opd.gd (bNF hz) u_1))) <| o_p rfl (Zb rfl rfl u_0) <| o_g (g_f rfl rfl rfl (fun hG => Zb rfl rfl u_0)) <| o_g (g_f rfl rfl rfl (fun hG => Zbl rfl rfl (Opd.gd hG u_0) c_i)) <| o_p rfl (Zbt rfl rfl u_0 (fun hz => (Opd.gd (bNF hz) u_1))) <| o_p rfl (Zb rfl rfl u_0) <| o_g (g_f rfl rfl rfl (fun hG => Zb rfl rfl u_0)) <| o_g (g_f rfl rfl rfl (fun hG => Zbl rfl rfl (Opd.gd hG u_0) c_i)) <| o_p rfl (Zbt rfl rfl u_0 (fun hz => (Opd.gd (bNF hz) u_1))) <| o_p rfl (Zb rfl rfl u_0) <| o_g (g_f rfl rfl rfl (fun hG => Zb rfl rfl u_0)) <| o_g (g_f rfl rfl rfl (fun hG => Zbl rfl rfl (Opd.gd hG u_0) c_i)) <| o_p rfl (Zbt rfl rfl u_0 (fun hz => (Opd.gd (bNF hz) u_1))) <| o_p rfl (Zc rfl rfl u_0) <| o_n) (by kernel_rfl) (fun a g hst hb => ?_)
 refine wp_ret ?_
 obtain rfl := Option.some.inj H0
 exact Z1 rfl hst hb (Zk (s := 2)) (hst.at 0 rfl)
theorem Zqi (a0 : shelf_nodeT) {r : shelf_nodeT} (h : Zif a0 = some r) : FnOk Tryz.prog 114 [(Z7.pd a0)] (Z7.pd r) := by
 have H0 := h
 unfold Zif at H0
 clear h
 refine Zbp (N := 13) Tryz.func114 rfl rfl (Nat.le_of_ble_eq_true rfl) rfl rfl (fun a g0 hst hb => ?_)
 refine r_s (T := [⟨[], [(2, (Z7.pd shelf_nodeT.nil))], [], [], [2]⟩]) (F := [.old 0]) hst hb Za
   (o_p rfl (Zc rfl rfl (Opd.c (fun g => Zee g))) <| o_n) (by kernel_rfl) (fun a g hst hb => ?_)
 obtain ⟨z6, hz1, H0⟩ := Zh H0
 refine wp_seq ?_
 refine Zb8 (fun a w => ∃ (y5 : shelf_nodeT) (g : G), w = g.w ∧ St 13 [(0, (Z7.pd y5))] a g ∧ Base g0 g ∧ y5 = z6) ?_ ?_
 · rintro a w ⟨y5, g, rfl, hst, hb, rfl⟩
   refine Zr ?_
   refine r_s (T := [⟨[.old 0], _, [], [], [12]⟩, ⟨[.op 0 0], _, [], [0], [2]⟩]) (F := [.op 1 0]) hst hb Za
     (o_p rfl (Zb rfl rfl u_0) <| o_p rfl (Zc rfl rfl u_0) <| o_n) (by kernel_rfl) (fun a g hst hb => ?_)
   refine wp_ret ?_
   obtain rfl := Option.some.inj H0
   exact Z1 rfl hst hb (Zk (s := 2)) (hst.at 0 rfl)
 · refine wp_block ?_
   refine wp_loop_ghost (fun n a w => ∃ (x1 : shelf_nodeT) (g : G), w = g.w ∧ St 13 [(0, (Z7.pd x1))] a g ∧ Base g0 g ∧ Ze9 n x1 = some z6) (a0.hh + 1) ⟨a0, g, rfl, (hst.pick [0] rfl), hb, hz1⟩ (fun n a w hI => ?_)
   obtain ⟨x1, g, rfl, hst, hb, H1⟩ := hI
   cases n with
   | zero => exact absurd H1 (by simp [Ze9])
   | succ n =>
     rw [Ze9] at H1
     refine wp_seq ?_
     obtain ⟨n2, h3, H1⟩ := Zh H1
     refine r_s (T := [⟨[.old 0], _, [], [], [3]⟩, ⟨[.op 0 0], _, [], [0], [4]⟩, ⟨[.op 1 0], _, [], [0, 1], [5]⟩, ⟨[.op 2 0], _, [], [0, 1, 2], [6]⟩, ⟨[.op 3 0], _, [], Lr 4, [7]⟩]) (F := [.old 0, .op 4 0]) hst hb Za
       (o_p rfl (Zb rfl rfl u_0) <| o_p rfl (Zu rfl rfl (Opd.imp u_0 (fun _ _ h => Zv h3 h)) (fun _ _ ⟨_, _, _, e, _⟩ => ⟨_, e⟩)) <| o_p rfl (Zd Zea rfl rfl u_0) <| o_p rfl (Zf Zc5 rfl rfl u_0) <| o_p rfl (Zxa Tryz.underlying25 rfl rfl u_0 (Ze4 _)) <| o_n) (by kernel_rfl) (fun a g hst hb => ?_)
     refine wp_cond_split (hst.bool 1 rfl) (fun hc4 => ?_) (fun hc4 => ?_)
     · replace H1 := Zw hc4 H1
       refine wp_skip ?_
       refine Zr ?_
       refine wp_block ?_
       refine r_g (L := [(0, _)]) (T := [⟨[.old 0], _, [], [], [8]⟩, ⟨[.op 0 0], _, [], [0], [9]⟩, ⟨[.op 1 0], _, [], [0, 1], [10]⟩, ⟨[.op 2 0], _, [], [0, 1, 2], [11]⟩, ⟨[.op 3 0], _, [], Lr 4, [0]⟩]) (F := [.op 4 0]) (hst.pick [0] rfl) hb Za
         (o_p rfl (Zb rfl rfl u_0) <| o_p rfl (Zu rfl rfl (Opd.imp u_0 (fun _ _ h => Zv h3 h)) (fun _ _ ⟨_, _, _, e, _⟩ => ⟨_, e⟩)) <| o_p rfl (Zd Zea rfl rfl u_0) <| o_p rfl (Zf Zc5 rfl rfl u_0) <| o_p rfl (Zc rfl rfl u_0) <| o_n) (by kernel_rfl) (fun a g hst hb => ?_)
       refine Zba ?_
       exact ⟨n, Nat.lt_succ_self _, n2.left, g, rfl, (hst.pick [0] rfl), hb, H1⟩
     · replace H1 := Zx hc4 H1
       refine wp_exit ?_
       refine Zb6 ?_
       refine Zb6 ?_
       refine Zco ?_
       exact ⟨x1, g, rfl, (hst.pick [0] rfl), hb, Option.some.inj H1⟩
end Go.CL
