/- A part of the proof of WholeMoney. -/
import Derived.Test.YtfmmgkiihhnehaaDoorWholeMoneyC4
set_option linter.unusedVariables false
set_option linter.unusedSimpArgs false
set_option maxRecDepth 100000
namespace Go.CL
open Go Go.RowKit Go.Proofs
theorem Zqi (a0 : Zd) (a1 : Zv) (a2 : Zg) {r : Int × Zd × Zg} (h : Zif a0 a1 a2 = some r) : FnB Tryd.prog 63 [.box Zi a0 r.2.1, .val (Zbb.pd a1), .box Zs a2 r.2.2] (pInt .i64 r.1) := by
 have H0 := h
 unfold Zif at H0
 clear h
 refine Zik (N := 12) Tryd.func63 rfl rfl (Nat.le_of_ble_eq_true rfl) rfl rfl (fun a g0 bs hbs hst hb => ?_)
 obtain ⟨b0, b2, rfl⟩ := Zj6 hbs
 replace hst : St 12 [(0, (Zbk (some b0) Zi 0 a0)), (1, (Zbb.pd a1)), (2, (Zbk (some b2) Zs 2 a2))] _ _ := hst
 refine r_s (T := [⟨[.old 1], _, [], [], [4]⟩, ⟨[], _, [], [], [6]⟩]) (F := [.old 0, .old 2, .op 0 0]) hst hb Zb
   (o_p rfl (Zbl rfl rfl u_0) <| o_p rfl (Zc rfl rfl c_i) <| o_n) (by kernel_rfl) (fun a g hst hb => ?_)
 refine r_s (T := [⟨[.old 0], _, [], [], [7]⟩, ⟨[.old 2], _, [], [], [8]⟩, ⟨[.op 1 0], _, [], [1], [9]⟩, ⟨[.op 0 0], _, [], [0, 1, 2], [10]⟩, ⟨[.op 3 0], _, [], Lr 4, [11]⟩, ⟨[.op 2 0, .op 4 0, .old 0], _, [1], Lr 5, [0, 7, 10, 11]⟩]) (F := [.op 5 0, .old 1]) hst hb Zb
   (o_p rfl (Za rfl rfl u_0) <| o_p rfl (Ze Zju rfl rfl u_0) <| o_p rfl (Zf ty_9 rfl rfl u_0) <| o_p rfl (Zn rfl rfl u_0 (fun _ _ ⟨_, _, _, e, _⟩ => ⟨_, e⟩)) <| o_p rfl (Z8 Zjl (off := 6) (by kernel_rfl) rfl rfl u_0) <| o_p rfl (Zxz ty_9 rfl rfl u_2 u_1 u_0) <| o_n) (by kernel_rfl) (fun a g hst hb => ?_)
 refine r_s (T := [⟨[], _, [], [], [6]⟩]) (F := [.old 0, .old 1, .op 0 0]) hst hb Zb
   (o_p rfl (Zc rfl rfl c_i) <| o_n) (by kernel_rfl) (fun a g hst hb => ?_)
 refine wp_ret ?_
 obtain rfl := Option.some.inj H0
 exact Zgq rfl hst hb (Zl (s := 6)) (hst.at 2 rfl) ⟨Zcc (hst.at 0 rfl), Zcc (hst.at 1 rfl), trivial⟩
theorem Zqf (a0 : Zd) (a1 : Zv) (a2 : Zg) {r : Int × Zd × Zg} (h : Zf5 a0 a1 a2 = some r) : FnB Tryd.prog 64 [.box Zi a0 r.2.1, .val (Zbb.pd a1), .box Zs a2 r.2.2] (pInt .i64 r.1) := by
 have H0 := h
 unfold Zf5 at H0
 clear h
 refine Zik (N := 19) Tryd.func64 rfl rfl (Nat.le_of_ble_eq_true rfl) rfl rfl (fun a g0 bs hbs hst hb => ?_)
 obtain ⟨b0, b2, rfl⟩ := Zj6 hbs
 replace hst : St 19 [(0, (Zbk (some b0) Zi 0 a0)), (1, (Zbb.pd a1)), (2, (Zbk (some b2) Zs 2 a2))] _ _ := hst
 refine r_s (T := [⟨[.old 1], _, [], [], [4]⟩, ⟨[], _, [], [], [6]⟩]) (F := [.old 0, .old 2, .op 0 0]) hst hb Zb
   (o_p rfl (Zbl rfl rfl u_0) <| o_p rfl (Zc rfl rfl c_i) <| o_n) (by kernel_rfl) (fun a g hst hb => ?_)
 obtain ⟨r1, h2, H0⟩ := Zh H0
 refine r_s (T := [⟨[.old 1], _, [], [], [7]⟩, ⟨[.old 0], _, [], [], [8]⟩, ⟨[.op 1 0], _, [], [1], [9]⟩, ⟨[.op 2 0], _, [], [1, 2], [10]⟩, ⟨[.op 3 0], _, [], [1, 2, 3], [11]⟩, ⟨[.op 0 0], _, [], Lr 5, [12]⟩, ⟨[.op 5 0], _, [], Lr 6, [13]⟩, ⟨[.op 4 0, .op 6 0, .old 1], _, [3], Lr 7, [2, 7, 12, 13]⟩]) (F := [.old 0, .op 7 0, .old 2]) hst hb Zb
   (o_p rfl (Za rfl rfl u_0) <| o_p rfl (Za rfl rfl u_0) <| o_p rfl (Zn rfl rfl u_0 (fun _ _ ⟨_, _, _, e, _⟩ => ⟨_, e⟩)) <| o_p rfl (Zca Zbf rfl rfl u_0) <| o_p rfl (Zq Zmt (Zgh _ h2) rfl rfl (.cons u_0 .nil)) <| o_p rfl (Zn rfl rfl u_0 (fun _ _ ⟨_, _, _, e, _⟩ => ⟨_, e⟩)) <| o_p rfl (Z8 Z32 (off := 2) (by kernel_rfl) rfl rfl u_0) <| o_p rfl (Z3z Zbf rfl rfl u_2 u_1 u_0) <| o_n) (by kernel_rfl) (fun a g hst hb => ?_)
 refine r_s (T := [⟨[.old 0], _, [], [], [14]⟩, ⟨[.old 2], _, [], [], [15]⟩, ⟨[.op 1 0], _, [], [1], [16]⟩, ⟨[.op 0 0], _, [], [0, 1, 2], [17]⟩, ⟨[.op 3 0], _, [], Lr 4, [18]⟩, ⟨[.op 2 0, .op 4 0, .old 0], _, [1], Lr 5, [0, 14, 17, 18]⟩]) (F := [.op 5 0, .old 1]) hst hb Zb
   (o_p rfl (Za rfl rfl u_0) <| o_p rfl (Ze Zju rfl rfl u_0) <| o_p rfl (Zf ty_9 rfl rfl u_0) <| o_p rfl (Zn rfl rfl u_0 (fun _ _ ⟨_, _, _, e, _⟩ => ⟨_, e⟩)) <| o_p rfl (Z8 Zjl (off := 6) (by kernel_rfl) rfl rfl u_0) <| o_p rfl (Zxz ty_9 rfl rfl u_2 u_1 u_0) <| o_n) (by kernel_rfl) (fun a g hst hb => ?_)
 refine r_s (T := [⟨[], _, [], [], [6]⟩]) (F := [.old 0, .old 1, .op 0 0]) hst hb Zb
   (o_p rfl (Zc rfl rfl c_i) <| o_n) (by kernel_rfl) (fun a g hst hb => ?_)
 refine wp_ret ?_
 obtain rfl := Option.some.inj H0
 exact Zgq rfl hst hb (Zl (s := 6)) (hst.at 2 rfl) ⟨Zcc (hst.at 0 rfl), Zcc (hst.at 1 rfl), trivial⟩
theorem Zqg (a0 : Zd) (a1 : Zv) (a2 : Zg) {r : Int × Zd × Zg} (h : Zih a0 a1 a2 = some r) : FnB Tryd.prog 65 [.box Zi a0 r.2.1, .val (Zbb.pd a1), .box Zs a2 r.2.2] (pInt .i64 r.1) := by
 have H0 := h
 unfold Zih at H0
 clear h
 refine Zik (N := 16) Tryd.func65 rfl rfl (Nat.le_of_ble_eq_true rfl) rfl rfl (fun a g0 bs hbs hst hb => ?_)
 obtain ⟨b0, b2, rfl⟩ := Zj6 hbs
 replace hst : St 16 [(0, (Zbk (some b0) Zi 0 a0)), (1, (Zbb.pd a1)), (2, (Zbk (some b2) Zs 2 a2))] _ _ := hst
 refine r_s (T := [⟨[.old 1], _, [], [], [4]⟩, ⟨[], _, [], [], [6]⟩]) (F := [.old 0, .old 2, .op 0 0]) hst hb Zb
   (o_p rfl (Zbl rfl rfl u_0) <| o_p rfl (Zc rfl rfl c_i) <| o_n) (by kernel_rfl) (fun a g hst hb => ?_)
 refine r_s (T := [⟨[.old 0], _, [], [], [7]⟩, ⟨[.op 0 0], _, [], [0], [8]⟩, ⟨[.op 1 0], _, [], [0, 1], [9]⟩, ⟨[.op 2 0], _, [], [0, 1, 2], [10]⟩, ⟨[.old 2], _, [], [], [11]⟩, ⟨[.op 4 0], _, [], [4], [12]⟩, ⟨[.op 3 0, .op 5 0], _, [], Lr 6, [13]⟩, ⟨[.op 0 0], _, [], Lr 7, [14]⟩, ⟨[.op 7 0], _, [], Lr 8, [15]⟩, ⟨[.op 6 0, .op 8 0, .old 0], _, [1], Lr 9, [0, 7, 8, 9, 14, 15]⟩]) (F := [.op 9 0, .old 1]) hst hb Zb
   (o_p rfl (Za rfl rfl u_0) <| o_p rfl (Zn rfl rfl u_0 (fun _ _ ⟨_, _, _, e, _⟩ => ⟨_, e⟩)) <| o_p rfl (Z8 Zd3 (off := 1) (by kernel_rfl) rfl rfl u_0) <| o_p rfl (Zci ty_2 rfl rfl u_0) <| o_p rfl (Ze Zgs rfl rfl u_0) <| o_p rfl (Zf ty_2 rfl rfl u_0) <| o_p rfl (Zb8 rfl rfl u_0 u_1 rfl) <| o_p rfl (Zn rfl rfl u_0 (fun _ _ ⟨_, _, _, e, _⟩ => ⟨_, e⟩)) <| o_p rfl (Z8 Zd3 (off := 1) (by kernel_rfl) rfl rfl u_0) <| o_p rfl (Zp5 ty_2 rfl rfl u_2 u_1 u_0) <| o_n) (by kernel_rfl) (fun a g hst hb => ?_)
 refine r_s (T := [⟨[], _, [], [], [6]⟩]) (F := [.old 0, .old 1, .op 0 0]) hst hb Zb
   (o_p rfl (Zc rfl rfl c_i) <| o_n) (by kernel_rfl) (fun a g hst hb => ?_)
 refine wp_ret ?_
 obtain rfl := Option.some.inj H0
 exact Zgq rfl hst hb (Zl (s := 6)) (hst.at 2 rfl) ⟨Zcc (hst.at 0 rfl), Zcc (hst.at 1 rfl), trivial⟩
theorem Zu1 (a0 : Zd) (a1 : Zv) (a2 : Zg) {r : Int × Zd × Zg} (h : Zjg a0 a1 a2 = some r) : FnB Tryd.prog 66 [.box Zi a0 r.2.1, .val (Zbb.pd a1), .box Zs a2 r.2.2] (pInt .i64 r.1) := by
 have H0 := h
 unfold Zjg at H0
 clear h
 refine Zik (N := 44) Tryd.func66 rfl rfl (Nat.le_of_ble_eq_true rfl) rfl rfl (fun a g0 bs hbs hst hb => ?_)
 obtain ⟨b0, b2, rfl⟩ := Zj6 hbs
 replace hst : St 44 [(0, (Zbk (some b0) Zi 0 a0)), (1, (Zbb.pd a1)), (2, (Zbk (some b2) Zs 2 a2))] _ _ := hst
 refine r_s (T := [⟨[.old 1], _, [], [], [4]⟩, ⟨[], _, [], [], [6]⟩]) (F := [.old 0, .old 2, .op 0 0]) hst hb Zb
   (o_p rfl (Zbl rfl rfl u_0) <| o_p rfl (Zc rfl rfl c_i) <| o_n) (by kernel_rfl) (fun a g hst hb => ?_)
 refine wp_seq ?_
 refine r_s (T := ⟨[.old 2], _, [], [], [7]⟩ :: ⟨[.op 0 0], _, [], [0], [8]⟩ :: ⟨[.op 1 0], _, [], [0, 1], [9]⟩ :: ⟨[.op 2 0], _, [], [0, 1, 2], [10]⟩ :: ⟨[.op 3 0, .old 0], _, [], Lr 4, [11]⟩ :: ⟨[.op 3 0, .op 4 0], _, [], Lr 5, [12]⟩ :: ⟨[.op 3 0, .op 5 0], _, [], Lr 6, [13]⟩ :: ⟨[.op 3 0, .op 6 0], _, [], Lr 7, [14]⟩ :: ⟨[.op 3 0, .old 2], _, [], Lr 4, [15]⟩ :: ⟨[.op 3 0, .op 8 0], _, [], [0, 1, 2, 3, 8], [16]⟩ :: ⟨[.op 3 0, .op 9 0], _, [], [0, 1, 2, 3, 8, 9], [17]⟩ :: ⟨[.op 3 0, .op 7 0, .op 10 0], _, [], Lr 11, [18]⟩ :: ⟨[.op 3 0, .op 11 0], _, [], Lr 12, [19]⟩ :: ⟨[.op 12 0], _, [], Lr 13, [20]⟩ :: ⟨[.op 13 0, .old 2], _, [], Lr 14, [21]⟩ :: ⟨[.op 13 0, .op 14 0], _, [], Lr 15, [22]⟩ :: ⟨[.op 13 0, .op 15 0], _, [], Lr 16, [23]⟩ :: ⟨[.op 13 0, .op 16 0], _, [], Lr 17, [24]⟩ :: ⟨[.op 17 0, .old 0], _, [], Lr 18, [25]⟩ :: ⟨[.op 17 0, .op 18 0], _, [], Lr 19, [26]⟩ :: ⟨[.op 17 0, .op 19 0], _, [], Lr 20, [27]⟩ :: ⟨[.op 17 0, .op 20 0], _, [], Lr 21, [28]⟩ :: ⟨[.op 17 0, .old 2], _, [], Lr 18, [29]⟩ :: ⟨[.op 17 0, .op 22 0], _, [], 0 :: 1 :: 2 :: 3 :: 4 :: 5 :: 6 :: 7 :: 8 :: 9 :: 10 :: 11 :: 12 :: 13 :: 14 :: 15 :: 16 :: 17 :: 22 :: [], [30]⟩ :: ⟨[.op 17 0, .op 23 0], _, [], 0 :: 1 :: 2 :: 3 :: 4 :: 5 :: 6 :: 7 :: 8 :: 9 :: 10 :: 11 :: 12 :: 13 :: 14 :: 15 :: 16 :: 17 :: 22 :: 23 :: [], [31]⟩ :: ⟨[.op 17 0, .op 21 0, .op 24 0], _, [], Lr 25, [32]⟩ :: ⟨[.op 13 0, .op 17 0, .op 25 0], _, [], Lr 26, [33]⟩ :: ⟨[.op 13 0, .op 26 0], _, [], Lr 27, [34]⟩ :: []) (F := [.old 0, .old 1, .old 2, .op 27 0]) hst hb Zb
   (o_p rfl (Ze Zgs rfl rfl u_0) <| o_p rfl (Zf ty_2 rfl rfl u_0) <| o_p rfl (Zc0 rfl rfl u_0 c_i) <| o_p rfl (Za rfl rfl u_0) <| o_g (g_t rfl rfl rfl (fun hG => Za rfl rfl u_0)) <| o_g (g_t rfl rfl rfl (fun hG => Zn rfl rfl (Opd.gd hG u_0) (fun _ _ ⟨_, _, _, e, _⟩ => ⟨_, e⟩))) <| o_g (g_t rfl rfl rfl (fun hG => Z8 Zd3 (off := 1) (by kernel_rfl) rfl rfl (Opd.gd hG u_0))) <| o_g (g_t rfl rfl rfl (fun hG => Zci ty_2 rfl rfl (Opd.gd hG u_0))) <| o_g (g_t rfl rfl rfl (fun hG => Ze Zgs rfl rfl u_0)) <| o_g (g_t rfl rfl rfl (fun hG => Zf ty_2 rfl rfl (Opd.gd hG u_0))) <| o_g (g_t rfl rfl rfl (fun hG => Zja rfl rfl c_i (Opd.gd hG u_0) rfl)) <| o_g (g_t rfl rfl rfl (fun hG => Zc0 rfl rfl (Opd.gd hG u_0) (Opd.gd hG u_1))) <| o_p rfl (Zbp rfl rfl u_0 (fun hz => (Opd.gd hz u_1))) <| o_p rfl (Za rfl rfl u_0) <| o_g (g_f rfl rfl rfl (fun hG => Ze Zgs rfl rfl u_0)) <| o_g (g_f rfl rfl rfl (fun hG => Zf ty_2 rfl rfl (Opd.gd hG u_0))) <| o_g (g_f rfl rfl rfl (fun hG => Zc1 rfl rfl (Opd.gd hG u_0) c_i)) <| o_g (g_f rfl rfl rfl (fun hG => Za rfl rfl (Opd.gd hG u_0))) <| o_g (g_ti rfl rfl rfl (fun hG => Za rfl rfl u_0)) <| o_g (g_ti rfl rfl rfl (fun hG => Zn rfl rfl (Opd.gd hG u_0) (fun _ _ ⟨_, _, _, e, _⟩ => ⟨_, e⟩))) <| o_g (g_ti rfl rfl rfl (fun hG => Z8 Zd3 (off := 1) (by kernel_rfl) rfl rfl (Opd.gd hG u_0))) <| o_g (g_ti rfl rfl rfl (fun hG => Zci ty_2 rfl rfl (Opd.gd hG u_0))) <| o_g (g_ti rfl rfl rfl (fun hG => Ze Zgs rfl rfl u_0)) <| o_g (g_ti rfl rfl rfl (fun hG => Zf ty_2 rfl rfl (Opd.gd hG u_0))) <| o_g (g_ti rfl rfl rfl (fun hG => Zja rfl rfl c_i (Opd.gd hG u_0) rfl)) <| o_g (g_ti rfl rfl rfl (fun hG => Zc1 rfl rfl (Opd.gd hG u_0) (Opd.gd hG u_1))) <| o_g (g_f rfl rfl rfl (fun hG => Zbp rfl rfl (Opd.gd hG u_0) (fun hz => (Opd.gd (bA hG hz) u_1)))) <| o_p rfl (Zbx rfl rfl u_0 (fun hz => (Opd.gd (bNF hz) u_1))) <| o_n) (by kernel_rfl) (fun a g hst hb => ?_)
 refine wp_cond_split (hst.bool 3 rfl) (fun hc1 => ?_) (fun hc1 => ?_)
 · replace H0 := Zz hc1 H0
   refine r_s (L := [(0, _), (2, _)]) (T := [⟨[], _, [], [], [6]⟩]) (F := [.old 0, .old 1, .op 0 0]) (hst.pick [0, 1] rfl) hb Zb
     (o_p rfl (Zc rfl rfl c_i) <| o_n) (by kernel_rfl) (fun a g hst hb => ?_)
   refine wp_ret ?_
   refine Zr ?_
   obtain rfl := Option.some.inj H0
   exact Zgq rfl hst hb (Zl (s := 6)) (hst.at 2 rfl) ⟨Zcc (hst.at 0 rfl), Zcc (hst.at 1 rfl), trivial⟩
 · replace H0 := Z0 hc1 H0
   refine wp_skip ?_
   refine Zu ?_
   refine r_s (L := [(0, _), (2, _), (4, _)]) (T := [⟨[.old 0], _, [], [], [35]⟩, ⟨[.op 0 0], _, [], [0], [36]⟩, ⟨[.op 1 0], _, [], [0, 1], [37]⟩, ⟨[.op 2 0], _, [], [0, 1, 2], [38]⟩, ⟨[.old 2], _, [], [], [39]⟩, ⟨[.op 4 0], _, [], [4], [40]⟩, ⟨[.op 3 0, .op 5 0], _, [], Lr 6, [41]⟩, ⟨[.op 0 0], _, [], Lr 7, [42]⟩, ⟨[.op 7 0], _, [], Lr 8, [43]⟩, ⟨[.op 6 0, .op 8 0, .old 0], _, [1], Lr 9, [0, 35, 36, 37, 42, 43]⟩]) (F := [.op 9 0, .old 1]) (hst.pick [0, 1, 2] rfl) hb Zb
     (o_p rfl (Za rfl rfl u_0) <| o_p rfl (Zn rfl rfl u_0 (fun _ _ ⟨_, _, _, e, _⟩ => ⟨_, e⟩)) <| o_p rfl (Z8 Zd3 (off := 1) (by kernel_rfl) rfl rfl u_0) <| o_p rfl (Zci ty_2 rfl rfl u_0) <| o_p rfl (Ze Zgs rfl rfl u_0) <| o_p rfl (Zf ty_2 rfl rfl u_0) <| o_p rfl (Zb8 rfl rfl u_0 u_1 rfl) <| o_p rfl (Zn rfl rfl u_0 (fun _ _ ⟨_, _, _, e, _⟩ => ⟨_, e⟩)) <| o_p rfl (Z8 Zd3 (off := 1) (by kernel_rfl) rfl rfl u_0) <| o_p rfl (Zp5 ty_2 rfl rfl u_2 u_1 u_0) <| o_n) (by kernel_rfl) (fun a g hst hb => ?_)
   refine r_s (T := [⟨[], _, [], [], [6]⟩]) (F := [.old 0, .old 1, .op 0 0]) hst hb Zb
     (o_p rfl (Zc rfl rfl c_i) <| o_n) (by kernel_rfl) (fun a g hst hb => ?_)
   refine wp_ret ?_
   obtain rfl := Option.some.inj H0
   exact Zgq rfl hst hb (Zl (s := 6)) (hst.at 2 rfl) ⟨Zcc (hst.at 0 rfl), Zcc (hst.at 1 rfl), trivial⟩
theorem Zmw (a0 : Zd) (a1 : Zv) (a2 : Zg) {r : Int × Zd × Zg} (h : Zdi a0 a1 a2 = some r) : FnB Tryd.prog 67 [.box Zi a0 r.2.1, .val (Zbb.pd a1), .box Zs a2 r.2.2] (pInt .i64 r.1) := by
 have H0 := h
 unfold Zdi at H0
 clear h
 refine Zik (N := 14) Tryd.func67 rfl rfl (Nat.le_of_ble_eq_true rfl) rfl rfl (fun a g0 bs hbs hst hb => ?_)
 obtain ⟨b0, b2, rfl⟩ := Zj6 hbs
 replace hst : St 14 [(0, (Zbk (some b0) Zi 0 a0)), (1, (Zbb.pd a1)), (2, (Zbk (some b2) Zs 2 a2))] _ _ := hst
 refine r_s (T := [⟨[.old 1], _, [], [], [4]⟩, ⟨[], _, [], [], [6]⟩]) (F := [.old 0, .old 2, .op 0 0]) hst hb Zb
   (o_p rfl (Zbl rfl rfl u_0) <| o_p rfl (Zc rfl rfl c_i) <| o_n) (by kernel_rfl) (fun a g hst hb => ?_)
 refine wp_seq ?_
 refine r_s (T := [⟨[.old 0], _, [], [], [7]⟩, ⟨[.op 0 0], _, [], [0], [8]⟩, ⟨[.op 1 0], _, [], [0, 1], [9]⟩, ⟨[.op 2 0], _, [], [0, 1, 2], [10]⟩, ⟨[.old 2], _, [], [], [11]⟩, ⟨[.op 4 0], _, [], [4], [12]⟩, ⟨[.op 3 0, .op 5 0], _, [], Lr 6, [13]⟩]) (F := [.old 0, .old 1, .op 6 0]) hst hb Zb
   (o_p rfl (Za rfl rfl u_0) <| o_p rfl (Zn rfl rfl u_0 (fun _ _ ⟨_, _, _, e, _⟩ => ⟨_, e⟩)) <| o_p rfl (Z8 Zd3 (off := 1) (by kernel_rfl) rfl rfl u_0) <| o_p rfl (Zci ty_2 rfl rfl u_0) <| o_p rfl (Ze Zgs rfl rfl u_0) <| o_p rfl (Zf ty_2 rfl rfl u_0) <| o_p rfl (Zc1 rfl rfl u_0 u_1) <| o_n) (by kernel_rfl) (fun a g hst hb => ?_)
 refine wp_cond_split (hst.bool 2 rfl) (fun hc1 => ?_) (fun hc1 => ?_)
 · replace H0 := Zz hc1 H0
   refine r_s (L := [(0, _), (2, _)]) (T := [⟨[], _, [], [], [6]⟩]) (F := [.old 0, .old 1, .op 0 0]) (hst.pick [0, 1] rfl) hb Zb
     (o_p rfl (Zc rfl rfl c_i) <| o_n) (by kernel_rfl) (fun a g hst hb => ?_)
   refine wp_ret ?_
   refine Zr ?_
   obtain rfl := Option.some.inj H0
   exact Zgq rfl hst hb (Zl (s := 6)) (hst.at 2 rfl) ⟨Zcc (hst.at 0 rfl), Zcc (hst.at 1 rfl), trivial⟩
 · replace H0 := Z0 hc1 H0
   refine wp_skip ?_
   refine Zu ?_
   refine r_s (L := [(0, _), (2, _)]) (T := [⟨[], _, [], [], [6]⟩]) (F := [.old 0, .old 1, .op 0 0]) (hst.pick [0, 1] rfl) hb Zb
     (o_p rfl (Zc rfl rfl c_i) <| o_n) (by kernel_rfl) (fun a g hst hb => ?_)
   refine wp_ret ?_
   obtain rfl := Option.some.inj H0
   exact Zgq rfl hst hb (Zl (s := 6)) (hst.at 2 rfl) ⟨Zcc (hst.at 0 rfl), Zcc (hst.at 1 rfl), trivial⟩
theorem Zqr (a0 : Zd) (a1 : Zv) (a2 : Zg) {r : Int × Zd × Zg} (h : Zeu a0 a1 a2 = some r) : FnB Tryd.prog 68 [.box Zi a0 r.2.1, .val (Zbb.pd a1), .box Zs a2 r.2.2] (pInt .i64 r.1) := by
 have H0 := h
 unfold Zeu at H0
 clear h
 refine Zik (N := 28) Tryd.func68 rfl rfl (Nat.le_of_ble_eq_true rfl) rfl rfl (fun a g0 bs hbs hst hb => ?_)
 obtain ⟨b0, b2, rfl⟩ := Zj6 hbs
 replace hst : St 28 [(0, (Zbk (some b0) Zi 0 a0)), (1, (Zbb.pd a1)), (2, (Zbk (some b2) Zs 2 a2))] _ _ := hst
 refine r_s (T := [⟨[.old 1], _, [], [], [4]⟩, ⟨[], _, [], [], [6]⟩]) (F := [.old 0, .old 2, .op 0 0]) hst hb Zb
   (o_p rfl (Zbl rfl rfl u_0) <| o_p rfl (Zc rfl rfl c_i) <| o_n) (by kernel_rfl) (fun a g hst hb => ?_)
 refine wp_seq ?_
 refine r_s (T := ⟨[.old 2], _, [], [], [7]⟩ :: ⟨[.op 0 0], _, [], [0], [8]⟩ :: ⟨[.old 0], _, [], [], [9]⟩ :: ⟨[.op 2 0], _, [], [2], [10]⟩ :: ⟨[.op 3 0], _, [], [2, 3], [11]⟩ :: ⟨[.op 4 0], _, [], [2, 3, 4], [12]⟩ :: ⟨[.old 0], _, [], [], [13]⟩ :: ⟨[.op 6 0], _, [], [6], [14]⟩ :: ⟨[.op 7 0], _, [], [6, 7], [15]⟩ :: ⟨[.op 8 0], _, [], [6, 7, 8], [16]⟩ :: ⟨[.op 5 0, .op 9 0], _, [], List.range' 2 8, [17]⟩ :: ⟨[.op 1 0, .op 10 0], _, [], Lr 11, [18]⟩ :: []) (F := [.old 0, .old 1, .old 2, .op 11 0]) hst hb Zb
   (o_p rfl (Ze Zgs rfl rfl u_0) <| o_p rfl (Zf ty_2 rfl rfl u_0) <| o_p rfl (Za rfl rfl u_0) <| o_p rfl (Zn rfl rfl u_0 (fun _ _ ⟨_, _, _, e, _⟩ => ⟨_, e⟩)) <| o_p rfl (Z8 Zjp (off := 3) (by kernel_rfl) rfl rfl u_0) <| o_p rfl (Zci ty_2 rfl rfl u_0) <| o_p rfl (Za rfl rfl u_0) <| o_p rfl (Zn rfl rfl u_0 (fun _ _ ⟨_, _, _, e, _⟩ => ⟨_, e⟩)) <| o_p rfl (Z8 Zd3 (off := 1) (by kernel_rfl) rfl rfl u_0) <| o_p rfl (Zci ty_2 rfl rfl u_0) <| o_p rfl (Zja rfl rfl u_0 u_1 rfl) <| o_p rfl (Zc0 rfl rfl u_0 u_1) <| o_n) (by kernel_rfl) (fun a g hst hb => ?_)
 refine wp_cond_split (hst.bool 3 rfl) (fun hc1 => ?_) (fun hc1 => ?_)
 · replace H0 := Zz hc1 H0
   refine r_s (L := [(0, _), (2, _)]) (T := [⟨[], _, [], [], [6]⟩]) (F := [.old 0, .old 1, .op 0 0]) (hst.pick [0, 1] rfl) hb Zb
     (o_p rfl (Zc rfl rfl c_i) <| o_n) (by kernel_rfl) (fun a g hst hb => ?_)
   refine wp_ret ?_
   refine Zr ?_
   obtain rfl := Option.some.inj H0
   exact Zgq rfl hst hb (Zl (s := 6)) (hst.at 2 rfl) ⟨Zcc (hst.at 0 rfl), Zcc (hst.at 1 rfl), trivial⟩
 · replace H0 := Z0 hc1 H0
   refine wp_skip ?_
   refine Zu ?_
   refine r_s (L := [(0, _), (2, _), (4, _)]) (T := [⟨[.old 0], _, [], [], [19]⟩, ⟨[.op 0 0], _, [], [0], [20]⟩, ⟨[.op 1 0], _, [], [0, 1], [21]⟩, ⟨[.op 2 0], _, [], [0, 1, 2], [22]⟩, ⟨[.old 2], _, [], [], [23]⟩, ⟨[.op 4 0], _, [], [4], [24]⟩, ⟨[.op 3 0, .op 5 0], _, [], Lr 6, [25]⟩, ⟨[.op 0 0], _, [], Lr 7, [26]⟩, ⟨[.op 7 0], _, [], Lr 8, [27]⟩, ⟨[.op 6 0, .op 8 0, .old 0], _, [1], Lr 9, [0, 19, 20, 21, 26, 27]⟩]) (F := [.op 9 0, .old 1]) (hst.pick [0, 1, 2] rfl) hb Zb
     (o_p rfl (Za rfl rfl u_0) <| o_p rfl (Zn rfl rfl u_0 (fun _ _ ⟨_, _, _, e, _⟩ => ⟨_, e⟩)) <| o_p rfl (Z8 Zd3 (off := 1) (by kernel_rfl) rfl rfl u_0) <| o_p rfl (Zci ty_2 rfl rfl u_0) <| o_p rfl (Ze Zgs rfl rfl u_0) <| o_p rfl (Zf ty_2 rfl rfl u_0) <| o_p rfl (Zb8 rfl rfl u_0 u_1 rfl) <| o_p rfl (Zn rfl rfl u_0 (fun _ _ ⟨_, _, _, e, _⟩ => ⟨_, e⟩)) <| o_p rfl (Z8 Zd3 (off := 1) (by kernel_rfl) rfl rfl u_0) <| o_p rfl (Zp5 ty_2 rfl rfl u_2 u_1 u_0) <| o_n) (by kernel_rfl) (fun a g hst hb => ?_)
   refine r_s (T := [⟨[], _, [], [], [6]⟩]) (F := [.old 0, .old 1, .op 0 0]) hst hb Zb
     (o_p rfl (Zc rfl rfl c_i) <| o_n) (by kernel_rfl) (fun a g hst hb => ?_)
   refine wp_ret ?_
   obtain rfl := Option.some.inj H0
   exact Zgq rfl hst hb (Zl (s := 6)) (hst.at 2 rfl) ⟨Zcc (hst.at 0 rfl), Zcc (hst.at 1 rfl), trivial⟩
theorem Zqn (a0 : Zd) (a1 : Zv) (a2 : Zg) {r : Int × Zd × Zg} (h : Zem a0 a1 a2 = some r) : FnB Tryd.prog 69 [.box Zi a0 r.2.1, .val (Zbb.pd a1), .box Zs a2 r.2.2] (pInt .i64 r.1) := by
 have H0 := h
 unfold Zem at H0
 clear h
 refine Zik (N := 28) Tryd.func69 rfl rfl (Nat.le_of_ble_eq_true rfl) rfl rfl (fun a g0 bs hbs hst hb => ?_)
 obtain ⟨b0, b2, rfl⟩ := Zj6 hbs
 replace hst : St 28 [(0, (Zbk (some b0) Zi 0 a0)), (1, (Zbb.pd a1)), (2, (Zbk (some b2) Zs 2 a2))] _ _ := hst
 refine r_s (T := [⟨[.old 1], _, [], [], [4]⟩, ⟨[], _, [], [], [6]⟩]) (F := [.old 0, .old 2, .op 0 0]) hst hb Zb
   (o_p rfl (Zbl rfl rfl u_0) <| o_p rfl (Zc rfl rfl c_i) <| o_n) (by kernel_rfl) (fun a g hst hb => ?_)
 refine wp_seq ?_
 refine r_s (T := ⟨[.old 2], _, [], [], [7]⟩ :: ⟨[.op 0 0], _, [], [0], [8]⟩ :: ⟨[.old 0], _, [], [], [9]⟩ :: ⟨[.op 2 0], _, [], [2], [10]⟩ :: ⟨[.op 3 0], _, [], [2, 3], [11]⟩ :: ⟨[.op 4 0], _, [], [2, 3, 4], [12]⟩ :: ⟨[.old 0], _, [], [], [13]⟩ :: ⟨[.op 6 0], _, [], [6], [14]⟩ :: ⟨[.op 7 0], _, [], [6, 7], [15]⟩ :: ⟨[.op 8 0], _, [], [6, 7, 8], [16]⟩ :: ⟨[.op 5 0, .op 9 0], _, [], List.range' 2 8, [17]⟩ :: ⟨[.op 1 0, .op 10 0], _, [], Lr 11, [18]⟩ :: []) (F := [.old 0, .old 1, .old 2, .op 11 0]) hst hb Zb
   (o_p rfl (Ze Zgs rfl rfl u_0) <| o_p rfl (Zf ty_2 rfl rfl u_0) <| o_p rfl (Za rfl rfl u_0) <| o_p rfl (Zn rfl rfl u_0 (fun _ _ ⟨_, _, _, e, _⟩ => ⟨_, e⟩)) <| o_p rfl (Z8 Zd3 (off := 1) (by kernel_rfl) rfl rfl u_0) <| o_p rfl (Zci ty_2 rfl rfl u_0) <| o_p rfl (Za rfl rfl u_0) <| o_p rfl (Zn rfl rfl u_0 (fun _ _ ⟨_, _, _, e, _⟩ => ⟨_, e⟩)) <| o_p rfl (Z8 Zjm (off := 2) (by kernel_rfl) rfl rfl u_0) <| o_p rfl (Zci ty_2 rfl rfl u_0) <| o_p rfl (Zja rfl rfl u_0 u_1 rfl) <| o_p rfl (Zc0 rfl rfl u_0 u_1) <| o_n) (by kernel_rfl) (fun a g hst hb => ?_)
 refine wp_cond_split (hst.bool 3 rfl) (fun hc1 => ?_) (fun hc1 => ?_)
 · replace H0 := Zz hc1 H0
   refine r_s (L := [(0, _), (2, _)]) (T := [⟨[], _, [], [], [6]⟩]) (F := [.old 0, .old 1, .op 0 0]) (hst.pick [0, 1] rfl) hb Zb
     (o_p rfl (Zc rfl rfl c_i) <| o_n) (by kernel_rfl) (fun a g hst hb => ?_)
   refine wp_ret ?_
   refine Zr ?_
   obtain rfl := Option.some.inj H0
   exact Zgq rfl hst hb (Zl (s := 6)) (hst.at 2 rfl) ⟨Zcc (hst.at 0 rfl), Zcc (hst.at 1 rfl), trivial⟩
 · replace H0 := Z0 hc1 H0
   refine wp_skip ?_
   refine Zu ?_
   refine r_s (L := [(0, _), (2, _), (4, _)]) (T := [⟨[.old 0], _, [], [], [19]⟩, ⟨[.op 0 0], _, [], [0], [20]⟩, ⟨[.op 1 0], _, [], [0, 1], [21]⟩, ⟨[.op 2 0], _, [], [0, 1, 2], [22]⟩, ⟨[.old 2], _, [], [], [23]⟩, ⟨[.op 4 0], _, [], [4], [24]⟩, ⟨[.op 3 0, .op 5 0], _, [], Lr 6, [25]⟩, ⟨[.op 0 0], _, [], Lr 7, [26]⟩, ⟨[.op 7 0], _, [], Lr 8, [27]⟩, ⟨[.op 6 0, .op 8 0, .old 0], _, [1], Lr 9, [0, 19, 20, 21, 26, 27]⟩]) (F := [.op 9 0, .old 1]) (hst.pick [0, 1, 2] rfl) hb Zb
     (o_p rfl (Za rfl rfl u_0) <| o_p rfl (Zn rfl rfl u_0 (fun _ _ ⟨_, _, _, e, _⟩ => ⟨_, e⟩)) <| o_p rfl (Z8 Zd3 (off := 1) (by kernel_rfl) rfl rfl u_0) <| o_p rfl (Zci ty_2 rfl rfl u_0) <| o_p rfl (Ze Zgs rfl rfl u_0) <| o_p rfl (Zf ty_2 rfl rfl u_0) <| o_p rfl (Zja rfl rfl u_0 u_1 rfl) <| o_p rfl (Zn rfl rfl u_0 (fun _ _ ⟨_, _, _, e, _⟩ => ⟨_, e⟩)) <| o_p rfl (Z8 Zd3 (off := 1) (by kernel_rfl) rfl rfl u_0) <| o_p rfl (Zp5 ty_2 rfl rfl u_2 u_1 u_0) <| o_n) (by kernel_rfl) (fun a g hst hb => ?_)
   refine r_s (T := [⟨[], _, [], [], [6]⟩]) (F := [.old 0, .old 1, .op 0 0]) hst hb Zb
     (o_p rfl (Zc rfl rfl c_i) <| o_n) (by kernel_rfl) (fun a g hst hb => ?_)
   refine wp_ret ?_
   obtain rfl := Option.some.inj H0
   exact Zgq rfl hst hb (Zl (s := 6)) (hst.at 2 rfl) ⟨Zcc (hst.at 0 rfl), Zcc (hst.at 1 rfl), trivial⟩
theorem Zie (h : Nat) (he : Zp Tryd.prog h) (ψ : Nat → Nat → Option Nat) (hψ : ∀ x y z, ψ x y = some z → FnOk Tryd.prog h [pFlt x, pFlt y] (pFlt z)) (a0 : Zd) (a1 : Zv) (a2 : Zg) {z : Nat} (hz : ψ a0.Real a1.X = some z) : FnB Tryd.prog 87 [.box Zi a0 { a0 with Real := z }, .val (Zbb.pd a1), .box Zs a2 a2, .val (Kd.fnc.ptr h)] (pInt .i64 0) := by
 refine Zik (N := 19) Tryd.func87 rfl rfl (Nat.le_of_ble_eq_true rfl) rfl rfl (fun a g0 bs hbs hst hb => ?_)
 obtain ⟨b0, b2, rfl⟩ := Zj6 hbs
 replace hst : St 19 [(0, (Zbk (some b0) Zi 0 a0)), (1, (Zbb.pd a1)), (2, (Zbk (some b2) Zs 2 a2)), (3, (Kd.fnc.ptr h))] _ _ := hst
 refine r_s (T := [⟨[.old 1], _, [], [], [5]⟩, ⟨[], _, [], [], [7]⟩]) (F := [.old 0, .old 2, .old 3, .op 0 0]) hst hb Zb
   (o_p rfl (Zbl rfl rfl u_0) <| o_p rfl (Zc rfl rfl c_i) <| o_n) (by kernel_rfl) (fun a g hst hb => ?_)
 refine r_s (T := [⟨[.old 0], _, [], [], [8]⟩, ⟨[.old 2], _, [], [], [9]⟩, ⟨[.old 0], _, [], [], [10]⟩, ⟨[.op 2 0], _, [], [2], [11]⟩, ⟨[.op 3 0], _, [], [2, 3], [12]⟩, ⟨[.op 4 0], _, [], [2, 3, 4], [13]⟩, ⟨[.old 3], _, [], [], [14]⟩, ⟨[.op 6 0], _, [], [6], [15]⟩, ⟨[.op 1 0, .op 5 0, .op 7 0], [(16, (pFlt z))], [], [1, 2, 3, 4, 5, 6, 7], [16]⟩, ⟨[.op 0 0], _, [], [0, 1, 2, 3, 4, 5, 6, 7, 8], [17]⟩, ⟨[.op 9 0], _, [], [0, 1, 2, 3, 4, 5, 6, 7, 8, 9], [18]⟩, ⟨[.op 8 0, .op 10 0, .old 0], _, [1], [0, 1, 2, 3, 4, 5, 6, 7, 8, 9, 10], [0, 8, 10, 11, 12, 17, 18]⟩]) (F := [.op 11 0, .old 1]) hst hb Zb
   (o_p rfl (Za rfl rfl u_0) <| o_p rfl (Zf Z4i rfl rfl u_0) <| o_p rfl (Za rfl rfl u_0) <| o_p rfl (Zn rfl rfl u_0 (fun _ _ ⟨_, _, _, e, _⟩ => ⟨_, e⟩)) <| o_p rfl (Z8 Zkr (off := 4) (by kernel_rfl) rfl rfl u_0) <| o_p rfl (Zci Ze1 rfl rfl u_0) <| o_p rfl (Ze Zqb rfl rfl u_0) <| o_p rfl (Zf Ze1 rfl rfl u_0) <| o_p rfl (Zog (C := []) (hC := rfl) he (hψ _ _ _ hz) rfl rfl (Opd.imp u_0 (fun _ _ h => Z45 h)) (.cons u_1 (.cons u_2 .nil))) <| o_p rfl (Zn rfl rfl u_0 (fun _ _ ⟨_, _, _, e, _⟩ => ⟨_, e⟩)) <| o_p rfl (Z8 Zkr (off := 4) (by kernel_rfl) rfl rfl u_0) <| o_p rfl (Z3t Ze1 rfl rfl u_2 u_1 u_0) <| o_n) (by kernel_rfl) (fun a g hst hb => ?_)
 refine r_s (T := [⟨[], _, [], [], [7]⟩]) (F := [.old 0, .old 1, .op 0 0]) hst hb Zb
   (o_p rfl (Zc rfl rfl c_i) <| o_n) (by kernel_rfl) (fun a g hst hb => ?_)
 refine wp_ret ?_
 exact Zgq rfl hst hb (Zl (s := 7)) (hst.at 2 rfl) ⟨Zcc (hst.at 0 rfl), Zcc (hst.at 1 rfl), trivial⟩
theorem Zjb (h : Nat) : FnOk Tryd.prog 70 [(Kd.fnc.pd h)] (pClo 87 [(Kd.fnc.ptr h)] rfl) := by
 refine Zbs (N := 4) Tryd.func70 rfl rfl (Nat.le_of_ble_eq_true rfl) rfl rfl (fun a g0 hst hb => ?_)
 refine r_s (T := [⟨[.old 0], _, [], [], [1]⟩, ⟨[], [], [], [], [2]⟩]) (F := [.op 0 0]) hst hb Zb
   (o_p rfl (Zbl rfl rfl u_0) <| o_p rfl (Z16 (.inr rfl)) <| o_n) (by kernel_rfl) (fun a g hst hb => ?_)
 refine r_s (T := [⟨[.old 0], [(3, (pClo 87 [(Kd.fnc.ptr h)] rfl))], [], [], [3]⟩, ⟨[.op 0 0], _, [], [0], [2]⟩]) (F := [.op 1 0]) hst hb Zb
   (o_p rfl (Zxd rfl rfl (.cons u_0 .nil)) <| o_p rfl (Zc rfl rfl u_0) <| o_n) (by kernel_rfl) (fun a g hst hb => ?_)
 refine wp_ret ?_
 exact Z3 rfl hst hb (Zl (s := 2)) (hst.at 0 rfl)
theorem Zy9 (a0 : Nat) (a1 : Nat) {r : Nat} (h : Zjo a0 a1 = some r) : FnOk Tryd.prog 71 [(pFlt a0), (pFlt a1)] (pFlt r) := by
 have H0 := h
 unfold Zjo at H0
 clear h
 refine Zbs (N := 12) Tryd.func71 rfl rfl (Nat.le_of_ble_eq_true rfl) rfl rfl (fun a g0 hst hb => ?_)
 refine r_s (T := [⟨[], _, [], [], [4]⟩]) (F := [.old 0, .old 1]) hst hb Zb
   (o_p rfl (Zc rfl rfl c_f) <| o_n) (by kernel_rfl) (fun a g hst hb => ?_)
 refine wp_seq ?_
 obtain ⟨r1, h2, H0⟩ := Zh H0
 refine r_s (T := [⟨[.old 0], _, [], [], [5]⟩, ⟨[.old 1], _, [], [], [6]⟩, ⟨[.op 0 0, .op 1 0], _, [], [0, 1], [7]⟩]) (F := [.old 0, .old 1, .op 2 0]) hst hb Zb
   (o_p rfl (Za rfl rfl u_0) <| o_p rfl (Za rfl rfl u_0) <| o_p rfl (Zq Zze (Zm8 _ _ h2) rfl rfl (.cons u_0 (.cons u_1 .nil))) <| o_n) (by kernel_rfl) (fun a g hst hb => ?_)
 refine wp_cond_split (hst.bool 2 rfl) (fun hc3 => ?_) (fun hc3 => ?_)
 · replace H0 := Zz hc3 H0
   obtain ⟨r4, h5, H0⟩ := Zh H0
   refine r_s (L := [(1, _)]) (T := [⟨[.old 0], _, [], [], [8]⟩, ⟨[.op 0 0], _, [], [0], [9]⟩, ⟨[.op 1 0], _, [], [0, 1], [4]⟩]) (F := [.op 2 0]) (hst.pick [1] rfl) hb Zb
     (o_p rfl (Za rfl rfl u_0) <| o_p rfl (Zq Zm4 (Zgg _ h5) rfl rfl (.cons u_0 .nil)) <| o_p rfl (Zc rfl rfl u_0) <| o_n) (by kernel_rfl) (fun a g hst hb => ?_)
   refine wp_ret ?_
   refine Zr ?_
   obtain rfl := Option.some.inj H0
   exact Z3 rfl hst hb (Zl (s := 4)) (hst.at 0 rfl)
 · replace H0 := Z0 hc3 H0
   refine wp_skip ?_
   refine Zu ?_
   obtain ⟨r6, h7, H0⟩ := Zh H0
   refine r_s (L := [(0, _)]) (T := [⟨[.old 0], _, [], [], [10]⟩, ⟨[.op 0 0], _, [], [0], [11]⟩, ⟨[.op 1 0], _, [], [0, 1], [4]⟩]) (F := [.op 2 0]) (hst.pick [0] rfl) hb Zb
     (o_p rfl (Za rfl rfl u_0) <| o_p rfl (Zq Zm4 (Zgg _ h7) rfl rfl (.cons u_0 .nil)) <| o_p rfl (Zc rfl rfl u_0) <| o_n) (by kernel_rfl) (fun a g hst hb => ?_)
   refine wp_ret ?_
   obtain rfl := Option.some.inj H0
   exact Z3 rfl hst hb (Zl (s := 4)) (hst.at 0 rfl)
theorem Zyr (a0 : Nat) (a1 : Nat) {r : Nat} (h : Zjq a0 a1 = some r) : FnOk Tryd.prog 72 [(pFlt a0), (pFlt a1)] (pFlt r) := by
 have H0 := h
 unfold Zjq at H0
 clear h
 refine Zbs (N := 12) Tryd.func72 rfl rfl (Nat.le_of_ble_eq_true rfl) rfl rfl (fun a g0 hst hb => ?_)
 refine r_s (T := [⟨[], _, [], [], [4]⟩]) (F := [.old 0, .old 1]) hst hb Zb
   (o_p rfl (Zc rfl rfl c_f) <| o_n) (by kernel_rfl) (fun a g hst hb => ?_)
 refine wp_seq ?_
 obtain ⟨r1, h2, H0⟩ := Zh H0
 refine r_s (T := [⟨[.old 1], _, [], [], [5]⟩, ⟨[.old 0], _, [], [], [6]⟩, ⟨[.op 0 0, .op 1 0], _, [], [0, 1], [7]⟩]) (F := [.old 0, .old 1, .op 2 0]) hst hb Zb
   (o_p rfl (Za rfl rfl u_0) <| o_p rfl (Za rfl rfl u_0) <| o_p rfl (Zq Zze (Zm8 _ _ h2) rfl rfl (.cons u_0 (.cons u_1 .nil))) <| o_n) (by kernel_rfl) (fun a g hst hb => ?_)
 refine wp_cond_split (hst.bool 2 rfl) (fun hc3 => ?_) (fun hc3 => ?_)
 · replace H0 := Zz hc3 H0
   obtain ⟨r4, h5, H0⟩ := Zh H0
   refine r_s (L := [(1, _)]) (T := [⟨[.old 0], _, [], [], [8]⟩, ⟨[.op 0 0], _, [], [0], [9]⟩, ⟨[.op 1 0], _, [], [0, 1], [4]⟩]) (F := [.op 2 0]) (hst.pick [1] rfl) hb Zb
     (o_p rfl (Za rfl rfl u_0) <| o_p rfl (Zq Zm4 (Zgg _ h5) rfl rfl (.cons u_0 .nil)) <| o_p rfl (Zc rfl rfl u_0) <| o_n) (by kernel_rfl) (fun a g hst hb => ?_)
   refine wp_ret ?_
   refine Zr ?_
   obtain rfl := Option.some.inj H0
   exact Z3 rfl hst hb (Zl (s := 4)) (hst.at 0 rfl)
 · replace H0 := Z0 hc3 H0
   refine wp_skip ?_
   refine Zu ?_
   obtain ⟨r6, h7, H0⟩ := Zh H0
   refine r_s (L := [(0, _)]) (T := [⟨[.old 0], _, [], [], [10]⟩, ⟨[.op 0 0], _, [], [0], [11]⟩, ⟨[.op 1 0], _, [], [0, 1], [4]⟩]) (F := [.op 2 0]) (hst.pick [0] rfl) hb Zb
     (o_p rfl (Za rfl rfl u_0) <| o_p rfl (Zq Zm4 (Zgg _ h7) rfl rfl (.cons u_0 .nil)) <| o_p rfl (Zc rfl rfl u_0) <| o_n) (by kernel_rfl) (fun a g hst hb => ?_)
   refine wp_ret ?_
   obtain rfl := Option.some.inj H0
   exact Z3 rfl hst hb (Zl (s := 4)) (hst.at 0 rfl)
theorem Zw3 (a0 : Nat) (a1 : Nat) {r : Nat} (h : Zhg a0 a1 = some r) : FnOk Tryd.prog 73 [(pFlt a0), (pFlt a1)] (pFlt r) := by
 have H0 := h
 unfold Zhg at H0
 clear h
 refine Zbs (N := 9) Tryd.func73 rfl rfl (Nat.le_of_ble_eq_true rfl) rfl rfl (fun a g0 hst hb => ?_)
 refine r_s (T := [⟨[], _, [], [], [4]⟩]) (F := [.old 0, .old 1]) hst hb Zb
   (o_p rfl (Zc rfl rfl c_f) <| o_n) (by kernel_rfl) (fun a g hst hb => ?_)
 obtain ⟨r1, h2, H0⟩ := Zh H0
 refine r_s (T := [⟨[.old 0], _, [], [], [5]⟩, ⟨[.old 1], _, [], [], [6]⟩, ⟨[.op 0 0, .op 1 0], _, [], [0, 1], [7]⟩, ⟨[.op 2 0], _, [], [0, 1, 2], [8]⟩, ⟨[.op 3 0], _, [], Lr 4, [4]⟩]) (F := [.op 4 0]) hst hb Zb
   (o_p rfl (Za rfl rfl u_0) <| o_p rfl (Za rfl rfl u_0) <| o_p rfl (Z1f rfl rfl u_0 u_1) <| o_p rfl (Zq Zm4 (Zvv (fun r z hr hz => by simp only [Ze3, hr, hz, Option.bind_some, if_true]) (fun z r h => Zgg z h) h2) rfl rfl (.cons u_0 .nil)) <| o_p rfl (Zc rfl rfl u_0) <| o_n) (by kernel_rfl) (fun a g hst hb => ?_)
 refine wp_ret ?_
 obtain rfl := Option.some.inj H0
 exact Z3 rfl hst hb (Zl (s := 4)) (hst.at 0 rfl)
theorem Zvf (a0 : Nat) (a1 : Nat) {r : Nat} (h : Zgi a0 a1 = some r) : FnOk Tryd.prog 74 [(pFlt a0), (pFlt a1)] (pFlt r) := by
 have H0 := h
 unfold Zgi at H0
 clear h
 refine Zbs (N := 9) Tryd.func74 rfl rfl (Nat.le_of_ble_eq_true rfl) rfl rfl (fun a g0 hst hb => ?_)
 refine r_s (T := [⟨[], _, [], [], [4]⟩]) (F := [.old 0, .old 1]) hst hb Zb
   (o_p rfl (Zc rfl rfl c_f) <| o_n) (by kernel_rfl) (fun a g hst hb => ?_)
 obtain ⟨r1, h2, H0⟩ := Zh H0
 refine r_s (T := [⟨[.old 0], _, [], [], [5]⟩, ⟨[.old 1], _, [], [], [6]⟩, ⟨[.op 0 0, .op 1 0], _, [], [0, 1], [7]⟩, ⟨[.op 2 0], _, [], [0, 1, 2], [8]⟩, ⟨[.op 3 0], _, [], Lr 4, [4]⟩]) (F := [.op 4 0]) hst hb Zb
   (o_p rfl (Za rfl rfl u_0) <| o_p rfl (Za rfl rfl u_0) <| o_p rfl (Z15 rfl rfl u_0 u_1) <| o_p rfl (Zq Zm4 (Zvv (fun r z hr hz => by simp only [Ze3, hr, hz, Option.bind_some, if_true]) (fun z r h => Zgg z h) h2) rfl rfl (.cons u_0 .nil)) <| o_p rfl (Zc rfl rfl u_0) <| o_n) (by kernel_rfl) (fun a g hst hb => ?_)
 refine wp_ret ?_
 obtain rfl := Option.some.inj H0
 exact Z3 rfl hst hb (Zl (s := 4)) (hst.at 0 rfl)
theorem Zqq (a0 : Nat) (a1 : Nat) {r : Nat} (h : Zf7 a0 a1 = some r) : FnOk Tryd.prog 75 [(pFlt a0), (pFlt a1)] (pFlt r) := by
 have H0 := h
 unfold Zf7 at H0
 clear h
 refine Zbs (N := 6) Tryd.func75 rfl rfl (Nat.le_of_ble_eq_true rfl) rfl rfl (fun a g0 hst hb => ?_)
 refine r_s (L := [(1, _)]) (T := [⟨[], _, [], [], [4]⟩]) (F := [.old 0]) (hst.pick [1] rfl) hb Zb
   (o_p rfl (Zc rfl rfl c_f) <| o_n) (by kernel_rfl) (fun a g hst hb => ?_)
 refine r_s (T := [⟨[.old 0], _, [], [], [5]⟩, ⟨[.op 0 0], _, [], [0], [4]⟩]) (F := [.op 1 0]) hst hb Zb
   (o_p rfl (Za rfl rfl u_0) <| o_p rfl (Zc rfl rfl u_0) <| o_n) (by kernel_rfl) (fun a g hst hb => ?_)
 refine wp_ret ?_
 obtain rfl := Option.some.inj H0
 exact Z3 rfl hst hb (Zl (s := 4)) (hst.at 0 rfl)
theorem Zgx (f2 : Nat) (C2 : List Pd) (hC2 : Free C2) (e2_ : Zp Tryd.prog f2) (φ2 : Zj → ByteArray → Option Int) (hφ2 : ∀ (y0 : Zj) (y1 : ByteArray) (r : Int), φ2 y0 y1 = some r → FnOk Tryd.prog f2 ([(Zt.pd y0), (pStr y1)] ++ C2) (pInt .i64 r)) (a0 : List Zj) (a1 : ByteArray) {r : Int × Bool} (h : Zch a0 a1 φ2 = some r) : FnOk Tryd.prog 89 [(Zt.sl.pd a0), (pStr a1), (pClo f2 C2 hC2)] (pTup [(pInt .i64 r.1), (Zbc r.2)]) := by
 have H0 := h
 unfold Zch at H0
 clear h
 refine Zbs (N := 49) Tryd.func89 rfl rfl (Nat.le_of_ble_eq_true rfl) rfl rfl (fun a g0 hst hb => ?_)
 refine r_s (T := [⟨[], _, [], [], [6]⟩, ⟨[], _, [], [0], [7]⟩]) (F := [.old 0, .old 1, .old 2]) hst hb Zb
   (o_p rfl (Zc rfl rfl c_i) <| o_p rfl (Zc rfl rfl c_b) <| o_n) (by kernel_rfl) (fun a g hst hb => ?_)
 refine r_s (T := [⟨[.old 0], _, [], [], [12]⟩, ⟨[.op 0 0], _, [], [0], [13]⟩, ⟨[.op 1 0], _, [], [0, 1], [8]⟩]) (F := [.old 0, .old 1, .old 2, .op 2 0, .op 0 0]) hst hb Zb
   (o_p rfl (Za rfl rfl u_0) <| o_p rfl (Zcj Tryd.underlying52 rfl rfl u_0) <| o_p rfl (Zc rfl rfl u_0) <| o_n) (by kernel_rfl) (fun a g hst hb => ?_)
 refine r_s (T := [⟨[.old 3], _, [], [], [14]⟩, ⟨[], _, [], [], [9]⟩, ⟨[.op 0 0], _, [], [0, 1], [10]⟩]) (F := [.old 0, .old 1, .old 2, .old 3, .op 1 0, .op 2 0, .old 4]) hst hb Zb
   (o_p rfl (Za rfl rfl u_0) <| o_p rfl (Zc rfl rfl c_i) <| o_p rfl (Zc rfl rfl u_0) <| o_n) (by kernel_rfl) (fun a g hst hb => ?_)
 obtain ⟨z12, hz1, H0⟩ := Zh H0
 refine wp_seq ?_
 refine Zc2 (fun a w => ∃ (y11 : Int) (g : G), w = g.w ∧ St 49 [(0, (Zt.sl.pd a0)), (1, (pStr a1)), (2, (pClo f2 C2 hC2)), (8, (pInt .i64 (a0.length : Int))), (9, (pInt .i64 y11))] a g ∧ Base g0 g ∧ y11 = z12) ?_ ?_
 · rintro a w ⟨y11, g, rfl, hst, hb, rfl⟩
   refine Zu ?_
   obtain ⟨e13, h14, H0⟩ := Zh H0; obtain ⟨r15, h16, H0⟩ := Zh H0
   refine r_s (T := ⟨[.old 4], _, [], [], [35]⟩ :: ⟨[.old 4], _, [], [], [36]⟩ :: ⟨[.old 3], _, [], [], [37]⟩ :: ⟨[.op 1 0, .op 2 0], _, [], [1, 2], [38]⟩ :: ⟨[.op 3 0], _, [], [1, 2, 3], [39]⟩ :: ⟨[.op 4 0, .old 2], _, [], List.range' 1 4, [40]⟩ :: ⟨[.op 4 0, .old 0], _, [], List.range' 1 4, [41]⟩ :: ⟨[.op 4 0, .old 4], _, [], List.range' 1 4, [42]⟩ :: ⟨[.op 4 0, .op 6 0, .op 7 0], _, [], [1, 2, 3, 4, 6, 7], [43]⟩ :: ⟨[.op 4 0, .op 8 0], _, [], [1, 2, 3, 4, 6, 7, 8], [44]⟩ :: ⟨[.op 4 0, .old 1], _, [], List.range' 1 4, [45]⟩ :: ⟨[.op 4 0, .op 5 0, .op 9 0, .op 10 0], _, [], List.range' 1 10, [46]⟩ :: ⟨[.op 4 0, .op 11 0], _, [], List.range' 1 11, [47]⟩ :: ⟨[.op 4 0, .op 12 0], _, [], List.range' 1 12, [48]⟩ :: ⟨[.op 0 0], _, [], Lr 12, [6]⟩ :: ⟨[.op 13 0], _, [], Lr 15, [7]⟩ :: []) (F := [.op 14 0, .op 15 0]) hst hb Zb
     (o_p rfl (Za rfl rfl u_0) <| o_p rfl (Za rfl rfl u_0) <| o_p rfl (Za rfl rfl u_0) <| o_p rfl (Zc1 rfl rfl u_0 u_1) <| o_p rfl (Za rfl rfl u_0) <| o_g (g_t rfl rfl rfl (fun hG => Za rfl rfl u_0)) <| o_g (g_t rfl rfl rfl (fun hG => Za rfl rfl u_0)) <| o_g (g_t rfl rfl rfl (fun hG => Za rfl rfl u_0)) <| o_g (g_t rfl rfl rfl (fun hG => Zb4 Tryd.underlying52 Zi5 rfl rfl (Opd.gd hG u_0) (Opd.gd hG u_1) (Zbv h14 hG))) <| o_g (g_t rfl rfl rfl (fun hG => Zf Zff rfl rfl (Opd.gd hG u_0))) <| o_g (g_t rfl rfl rfl (fun hG => Za rfl rfl u_0)) <| o_g (g_t rfl rfl rfl (fun hG => Zog e2_ (hφ2 _ _ _ (Zbv h16 hG)) rfl rfl (Opd.gd hG u_0) (.cons (Opd.gd hG u_1) (.cons (Opd.gd hG u_2) .nil)))) <| o_g (g_t rfl rfl rfl (fun hG => Zby rfl rfl (Opd.gd hG u_0) c_i)) <| o_p rfl (Zbp rfl rfl u_0 (fun hz => (Opd.gd hz u_1))) <| o_p rfl (Zc rfl rfl u_0) <| o_p rfl (Zc rfl rfl u_0) <| o_n) (by kernel_rfl) (fun a g hst hb => ?_)
   refine wp_ret ?_
   obtain rfl := Option.some.inj H0
   exact Ze0 rfl hst hb (Zl (s := 6)) (Zl (s := 7)) (Zde (hst.at 0 rfl) (hst.at 1 rfl))
 · refine wp_block ?_
   refine wp_loop_ghost (fun n a w => ∃ (x1 : Int) (x2 : Int) (g : G), w = g.w ∧ St 49 [(0, (Zt.sl.pd a0)), (1, (pStr a1)), (2, (pClo f2 C2 hC2)), (8, (pInt .i64 (a0.length : Int))), (9, (pInt .i64 x1)), (10, (pInt .i64 x2)), (12, (Zt.sl.pd a0))] a g ∧ Base g0 g ∧ Z9 a0 a1 φ2 n x1 x2 = some z12) (Int.toNat ((a0.length : Int) - (0 : Int)) + 1) ⟨(0 : Int), (a0.length : Int), g, rfl, (hst.pick [0, 1, 2, 3, 4, 5, 6] rfl), hb, hz1⟩ (fun n a w hI => ?_)
   obtain ⟨x1, x2, g, rfl, hst, hb, H1⟩ := hI
   cases n with
   | zero => exact absurd H1 (by simp [Z9])
   | succ n =>
     rw [Z9] at H1
     refine wp_seq ?_
     refine r_s (T := [⟨[.old 4], _, [], [], [15]⟩, ⟨[.old 5], _, [], [], [16]⟩, ⟨[.op 0 0, .op 1 0], _, [], [0, 1], [17]⟩]) (F := [.old 0, .old 1, .old 2, .old 3, .old 4, .old 5, .old 6, .op 2 0]) hst hb Zb
       (o_p rfl (Za rfl rfl u_0) <| o_p rfl (Za rfl rfl u_0) <| o_p rfl (Zc1 rfl rfl u_0 u_1) <| o_n) (by kernel_rfl) (fun a g hst hb => ?_)
     refine wp_cond_split (hst.bool 7 rfl) (fun hc3 => ?_) (fun hc3 => ?_)
     · replace H1 := Zz hc3 H1
       refine wp_skip ?_
       refine Zu ?_
       refine Zc2 (fun a w => ∃ (j9 : Int) (j10 : Int) (g : G), w = g.w ∧ St 49 [(0, (Zt.sl.pd a0)), (1, (pStr a1)), (2, (pClo f2 C2 hC2)), (8, (pInt .i64 (a0.length : Int))), (9, (pInt .i64 j9)), (10, (pInt .i64 j10)), (12, (Zt.sl.pd a0))] a g ∧ Base g0 g ∧ Zb2 (Z9 a0 a1 φ2 n) j9 j10 = some z12) ?_ ?_
       · rintro a w ⟨j9, j10, g, rfl, hst, hb, H1⟩
         unfold Zb2 at H1
         exact ⟨n, Nat.lt_succ_self _, j9, j10, g, rfl, (hst.pick [0, 1, 2, 3, 4, 5, 6] rfl), hb, H1⟩
       · refine wp_block ?_
         refine r_s (L := [(0, _), (1, _), (2, _), (8, _), (9, _), (10, _), (12, _)]) (T := [⟨[.old 4], _, [], [], [18]⟩, ⟨[.old 5], _, [], [], [19]⟩, ⟨[.op 0 0, .op 1 0], _, [], [0, 1], [20]⟩, ⟨[.op 2 0], _, [], [0, 1, 2], [21]⟩, ⟨[.op 3 0], _, [], Lr 4, [22]⟩, ⟨[.op 4 0], _, [], Lr 5, [23]⟩, ⟨[.op 5 0], _, [], Lr 6, [11]⟩]) (F := [.old 0, .old 1, .old 2, .old 3, .old 4, .old 5, .op 6 0, .old 6]) (hst.pick [0, 1, 2, 3, 4, 5, 6] rfl) hb Zb
           (o_p rfl (Za rfl rfl u_0) <| o_p rfl (Za rfl rfl u_0) <| o_p rfl (Zb8 rfl rfl u_0 u_1 rfl) <| o_p rfl (Zs0 Tryd.underlying3 Tryd.underlying140 rfl rfl u_0 rfl) <| o_p rfl (Z5w rfl rfl u_0 c_i (by decide) rfl) <| o_p rfl (Zs0 Tryd.underlying140 Tryd.underlying3 rfl rfl u_0 rfl) <| o_p rfl (Zc rfl rfl u_0) <| o_n) (by kernel_rfl) (fun a g hst hb => ?_)
         obtain ⟨e4, h5, H1⟩ := Zh H1; obtain ⟨r6, h7, H1⟩ := Zh H1
         refine r_s (T := [⟨[.old 2], _, [], [], [24]⟩, ⟨[.old 0], _, [], [], [25]⟩, ⟨[.old 6], _, [], [], [26]⟩, ⟨[.op 1 0, .op 2 0], _, [], [1, 2], [27]⟩, ⟨[.op 3 0], _, [], [1, 2, 3], [28]⟩, ⟨[.old 1], _, [], [], [29]⟩, ⟨[.op 0 0, .op 4 0, .op 5 0], _, [], Lr 6, [30]⟩, ⟨[.op 6 0], _, [], Lr 7, [31]⟩]) (F := [.old 0, .old 1, .old 2, .old 3, .old 4, .old 5, .old 6, .old 7, .op 7 0]) hst hb Zb
           (o_p rfl (Za rfl rfl u_0) <| o_p rfl (Za rfl rfl u_0) <| o_p rfl (Za rfl rfl u_0) <| o_p rfl (Zb4 Tryd.underlying52 Zi5 rfl rfl u_0 u_1 h5) <| o_p rfl (Zf Zff rfl rfl u_0) <| o_p rfl (Za rfl rfl u_0) <| o_p rfl (Zog e2_ (hφ2 _ _ _ h7) rfl rfl u_0 (.cons u_1 (.cons u_2 .nil))) <| o_p rfl (Zc1 rfl rfl u_0 c_i) <| o_n) (by kernel_rfl) (fun a g hst hb => ?_)
         refine wp_cond_split (hst.bool 8 rfl) (fun hc8 => ?_) (fun hc8 => ?_)
         · replace H1 := Zz hc8 H1
           refine r_g (L := [(0, _), (1, _), (2, _), (8, _), (10, _), (11, _), (12, _)]) (T := [⟨[.old 5], _, [], [], [32]⟩, ⟨[.op 0 0], _, [], [0], [33]⟩, ⟨[.op 1 0], _, [], [0, 1], [9]⟩]) (F := [.old 0, .old 1, .old 2, .old 3, .op 2 0, .old 4, .old 6]) (hst.pick [0, 1, 2, 3, 5, 6, 7] rfl) hb Zb
             (o_p rfl (Za rfl rfl u_0) <| o_p rfl (Zb8 rfl rfl u_0 c_i rfl) <| o_p rfl (Zc rfl rfl u_0) <| o_n) (by kernel_rfl) (fun a g hst hb => ?_)
           refine Zbr ?_
           exact ⟨(IntKind.i64.wrap ((IntKind.i64.wrap (Int.fdiv (IntKind.u64.wrap (IntKind.i64.wrap (x1 + x2))) (2 ^ 1))) + (1 : Int))), x2, g, rfl, (hst.pick [0, 1, 2, 3, 4, 5, 6] rfl), hb, H1⟩
         · replace H1 := Z0 hc8 H1
           refine r_g (L := [(0, _), (1, _), (2, _), (8, _), (9, _), (11, _), (12, _)]) (T := [⟨[.old 5], _, [], [], [34]⟩, ⟨[.op 0 0], _, [], [0], [10]⟩]) (F := [.old 0, .old 1, .old 2, .old 3, .old 4, .op 1 0, .old 6]) (hst.pick [0, 1, 2, 3, 4, 6, 7] rfl) hb Zb
             (o_p rfl (Za rfl rfl u_0) <| o_p rfl (Zc rfl rfl u_0) <| o_n) (by kernel_rfl) (fun a g hst hb => ?_)
           refine Zbr ?_
           exact ⟨x1, (IntKind.i64.wrap (Int.fdiv (IntKind.u64.wrap (IntKind.i64.wrap (x1 + x2))) (2 ^ 1))), g, rfl, (hst.pick [0, 1, 2, 3, 4, 5, 6] rfl), hb, H1⟩
     · replace H1 := Z0 hc3 H1
       refine wp_exit ?_
       refine Zce ?_
       refine Zce ?_
       refine Zdc ?_
       exact ⟨x1, g, rfl, (hst.pick [0, 1, 2, 3, 4] rfl), hb, Option.some.inj H1⟩
theorem Zs3 (a0 : Zj) (a1 : ByteArray) {r : Int} (h : Zh4 a0 a1 = some r) : FnOk Tryd.prog 90 [(Zt.pd a0), (pStr a1)] (pInt .i64 r) := by
 have H0 := h
 unfold Zh4 at H0
 clear h
 refine Zbs (N := 15) Tryd.func90 rfl rfl (Nat.le_of_ble_eq_true rfl) rfl rfl (fun a g0 hst hb => ?_)
 refine r_s (T := [⟨[.old 0], _, [], [], [2]⟩, ⟨[], _, [], [], [4]⟩]) (F := [.old 1, .op 0 0]) hst hb Zb
   (o_p rfl (Zbl rfl rfl u_0) <| o_p rfl (Zc rfl rfl c_i) <| o_n) (by kernel_rfl) (fun a g hst hb => ?_)
 refine wp_seq ?_
 refine wp_block ?_
 refine r_s (T := [⟨[.old 1], _, [], [], [6]⟩, ⟨[.op 0 0], _, [], [0], [7]⟩, ⟨[.old 0], _, [], [], [8]⟩, ⟨[.op 1 0, .op 2 0], _, [], [0, 1, 2], [9]⟩, ⟨[.op 3 0], _, [], Lr 4, [5]⟩]) (F := [.old 0, .old 1, .op 4 0]) hst hb Zb
   (o_p rfl (Ze Zf4 rfl rfl u_0) <| o_p rfl (Zf ty_9 rfl rfl u_0) <| o_p rfl (Za rfl rfl u_0) <| o_p rfl (Zll rfl rfl u_0 u_1) <| o_p rfl (Zc rfl rfl u_0) <| o_n) (by kernel_rfl) (fun a g hst hb => ?_)
 refine wp_cond_split (hst.bool 2 rfl) (fun hc1 => ?_) (fun hc1 => ?_)
 · replace H0 := Zz hc1 H0
   refine r_s (L := []) (T := [⟨[], _, [], [], [4]⟩]) (F := [.op 0 0]) (hst.pick [] rfl) hb Zb
     (o_p rfl (Zc rfl rfl c_i) <| o_n) (by kernel_rfl) (fun a g hst hb => ?_)
   refine wp_ret ?_
   refine Z1 ?_
   refine Zr ?_
   obtain rfl := Option.some.inj H0
   exact Z3 rfl hst hb (Zl (s := 4)) (hst.at 0 rfl)
 · replace H0 := Z0 hc1 H0
   refine r_s (L := [(1, _), (2, _)]) (T := [⟨[.old 1], _, [], [], [11]⟩, ⟨[.op 0 0], _, [], [0], [12]⟩, ⟨[.old 0], _, [], [], [13]⟩, ⟨[.op 1 0, .op 2 0], _, [], [0, 1, 2], [14]⟩, ⟨[.op 3 0], _, [], Lr 4, [10]⟩]) (F := [.op 4 0]) (hst.pick [0, 1] rfl) hb Zb
     (o_p rfl (Ze Zf4 rfl rfl u_0) <| o_p rfl (Zf ty_9 rfl rfl u_0) <| o_p rfl (Za rfl rfl u_0) <| o_p rfl (Zrl rfl rfl u_0 u_1) <| o_p rfl (Zc rfl rfl u_0) <| o_n) (by kernel_rfl) (fun a g hst hb => ?_)
   refine wp_cond_split (hst.bool 0 rfl) (fun hc2 => ?_) (fun hc2 => ?_)
   · replace H0 := Zz hc2 H0
     refine r_s (L := []) (T := [⟨[], _, [], [], [4]⟩]) (F := [.op 0 0]) (hst.pick [] rfl) hb Zb
       (o_p rfl (Zc rfl rfl c_i) <| o_n) (by kernel_rfl) (fun a g hst hb => ?_)
     refine wp_ret ?_
     refine Z1 ?_
     refine Zr ?_
     obtain rfl := Option.some.inj H0
     exact Z3 rfl hst hb (Zl (s := 4)) (hst.at 0 rfl)
   · replace H0 := Z0 hc2 H0
     refine wp_skip ?_
     refine Zbr ?_
     refine Zu ?_
     refine r_s (L := []) (T := [⟨[], _, [], [], [4]⟩]) (F := [.op 0 0]) (hst.pick [] rfl) hb Zb
       (o_p rfl (Zc rfl rfl c_i) <| o_n) (by kernel_rfl) (fun a g hst hb => ?_)
     refine wp_ret ?_
     obtain rfl := Option.some.inj H0
     exact Z3 rfl hst hb (Zl (s := 4)) (hst.at 0 rfl)
theorem Zl8 (a0 : List Zj) (a1 : ByteArray) {r : Int × Bool} (h : Zje a0 a1 = some r) : FnOk Tryd.prog 78 [(Zt.sl.pd a0), (pStr a1)] (pTup [(pInt .i64 r.1), (Zbc r.2)]) := by
 have H0 := h
 unfold Zje at H0
 clear h
 refine Zbs (N := 11) Tryd.func78 rfl rfl (Nat.le_of_ble_eq_true rfl) rfl rfl (fun a g0 hst hb => ?_)
 refine r_s (T := [⟨[], _, [], [], [4]⟩, ⟨[], _, [], [0], [5]⟩]) (F := [.old 0, .old 1]) hst hb Zb
   (o_p rfl (Zc rfl rfl c_i) <| o_p rfl (Zc rfl rfl c_b) <| o_n) (by kernel_rfl) (fun a g hst hb => ?_)
 obtain ⟨r1, h2, H0⟩ := Zh H0
 refine r_s (T := [⟨[.old 0], _, [], [], [6]⟩, ⟨[.old 1], _, [], [], [7]⟩, ⟨[.op 0 0, .op 1 0], _, [], [0, 1], [8]⟩, ⟨[.op 2 0], _, [], [0, 1, 2], [9]⟩, ⟨[.op 2 0], _, [], [0, 1, 2], [10]⟩, ⟨[.op 3 0], _, [], Lr 5, [4]⟩, ⟨[.op 4 0], _, [], Lr 6, [5]⟩]) (F := [.op 5 0, .op 6 0]) hst hb Zb
   (o_p rfl (Za rfl rfl u_0) <| o_p rfl (Za rfl rfl u_0) <| o_p rfl (Zq Z6k (Zgx 90 [] rfl Z6n (fun y0 y1 => Zh4 y0 y1) (fun y0 y1 r h => Zs3 y0 y1 h) _ _ h2) rfl rfl (.cons u_0 (.cons u_1 (.cons Opd.fnc .nil)))) <| o_p rfl (Z4 rfl rfl u_0 rfl) <| o_p rfl (Z4 rfl rfl u_0 rfl) <| o_p rfl (Zc rfl rfl u_0) <| o_p rfl (Zc rfl rfl u_0) <| o_n) (by kernel_rfl) (fun a g hst hb => ?_)
 refine wp_ret ?_
 obtain rfl := Option.some.inj H0
 exact Ze0 rfl hst hb (Zl (s := 4)) (Zl (s := 5)) (Zde (hst.at 0 rfl) (hst.at 1 rfl))
set_option maxHeartbeats 1000000 in
theorem Zgv (a0 : List Zj) (a1 : Int) (a2 : List Zj) {r : List Zj} (h : Zb1 a0 a1 a2 = some r) : Zut Tryd.prog 88 Zt 78 a0 [(pInt .i64 a1), (Zt.sl.pd a2)] (Zt.sl.pd r) := by
 unfold Zb1 at h
 obtain ⟨⟨hi0, hi1, hm, hsz⟩, H0⟩ := Zj5 h
 obtain rfl := Option.some.inj H0
 obtain ⟨k, rfl⟩ := Int.eq_ofNat_of_zero_le hi0
 have hk : k ≤ a0.length := by omega
 have hb0 : (a0.length + a2.length) ≤ 140737488355328 := Nat.le_trans (Nat.le_mul_of_pos_right _ (by decide)) hsz
 simp only [Int.toNat_natCast]
 refine Zvy (N := 95) Tryd.func88 rfl rfl (Nat.le_of_ble_eq_true rfl) rfl (fun hx a g A0 hst hb => ?_) (fun a g cap hcap hmax hst hb => ?_)
 · subst hx
   obtain rfl : k = 0 := by simpa using hk
   refine r_s (T := [⟨[], [(6, (Zt.sl.pd []))], [], [], [6]⟩]) (F := [.old 0, .old 1, .old 2]) hst hb Zb
     (o_p rfl (Zc rfl rfl (Opd.c (fun g => Zkg g))) <| o_n) (by kernel_rfl) (fun a g hst hb => ?_)
   refine r_s (T := [⟨[.old 0], _, [], [], [10]⟩, ⟨[.old 1], _, [], [], [11]⟩, ⟨[.op 0 0, .op 1 0], _, [], [0, 1], [12]⟩]) (F := [.old 0, .old 1, .old 2]) hst hb Zb
     (o_p rfl (Za rfl rfl u_0) <| o_p rfl (Za rfl rfl u_0) <| o_p rfl (Zzs Zd4 rfl u_0 u_1) <| o_n) (by kernel_rfl) (fun a g hst hb => ?_)
   refine r_s (T := [⟨[.old 2], _, [], [], [13]⟩, ⟨[.op 0 0], _, [], [0], [14]⟩, ⟨[.op 1 0], _, [], [0, 1], [7]⟩]) (F := [.old 0, .old 1, .old 2, .op 2 0]) hst hb Zb
     (o_p rfl (Za rfl rfl u_0) <| o_p rfl (Zcj Tryd.underlying52 rfl rfl u_0) <| o_p rfl (Zc rfl rfl u_0) <| o_n) (by kernel_rfl) (fun a g hst hb => ?_)
   refine wp_seq ?_
   refine r_s (T := [⟨[.old 3], _, [], [], [15]⟩, ⟨[.op 0 0], _, [], [0], [16]⟩]) (F := [.old 0, .old 1, .old 2, .old 3, .op 1 0]) hst hb Zb
     (o_p rfl (Za rfl rfl u_0) <| o_p rfl (Zby rfl rfl u_0 c_i) <| o_n) (by kernel_rfl) (fun a g hst hb => ?_)
   refine wp_cond_split (hst.bool 4 rfl) (fun hc => ?_) (fun hc => ?_)
   · exact absurd (beq_iff_eq.1 hc) (by omega)
   · refine wp_skip ?_
     refine Zu ?_
     refine r_s (L := [(0, _), (1, _), (2, _), (7, _)]) (T := [⟨[.old 0], _, [], [], [18]⟩, ⟨[.op 0 0], _, [], [0], [19]⟩, ⟨[.op 1 0], _, [], [0, 1], [8]⟩]) (F := [.old 0, .old 1, .old 2, .old 3, .op 2 0]) (hst.pick [0, 1, 2, 3] rfl) hb Zb
       (o_p rfl (Za rfl rfl u_0) <| o_p rfl (Z3i Tryd.underlying52 rfl rfl u_0) <| o_p rfl (Zc rfl rfl u_0) <| o_n) (by kernel_rfl) (fun a g hst hb => ?_)
     refine wp_seq ?_
     refine r_s (T := [⟨[.old 1], _, [], [], [20]⟩, ⟨[.old 4], _, [], [], [21]⟩, ⟨[.op 0 0, .op 1 0], _, [], [0, 1], [22]⟩]) (F := [.old 0, .old 1, .old 2, .old 3, .old 4, .op 2 0]) hst hb Zb
       (o_p rfl (Za rfl rfl u_0) <| o_p rfl (Za rfl rfl u_0) <| o_p rfl (Zby rfl rfl u_0 u_1) <| o_n) (by kernel_rfl) (fun a g hst hb => ?_)
     refine wp_cond_split (hst.bool 5 rfl) (fun hc => ?_) (fun hc => ?_)
     · refine r_s (L := [(0, _), (2, _)]) (T := [⟨[.old 0], _, [], [], [23]⟩, ⟨[.old 1], _, [], [], [24]⟩, ⟨[.op 0 0, .op 1 0], [(25, (pOwn Zt 78 25 none (a2.map some)))], [26], [0, 1], [25]⟩, ⟨[.op 2 0], _, [], [0, 1, 2], [6]⟩]) (F := [.op 3 0]) (hst.pick [0, 2] rfl) hb Zb
         (o_p rfl (Za rfl rfl u_0) <| o_p rfl (Za rfl rfl u_0) <| o_p rfl (Zy5 Zd4 rfl rfl u_0 u_1 hm (by simpa using hsz)) <| o_p rfl (Zc rfl rfl u_0) <| o_n) (by kernel_rfl) (fun a g hst hb => ?_)
       refine wp_ret ?_
       refine Zr ?_
       have hq := hst.at 0 rfl
       have he : ([] : List Zj).take 0 ++ a2 ++ ([] : List Zj).drop 0 = a2 := by simp
       rw [he]
       exact Znq rfl hst hb (Zl (s := 6)) hq
     · exact absurd hc (by simp)
 · refine r_s (T := [⟨[], [(6, (Zt.sl.pd []))], [], [], [6]⟩]) (F := [.old 0, .old 1, .old 2]) hst hb Zb
     (o_p rfl (Zc rfl rfl (Opd.c (fun g => Zkg g))) <| o_n) (by kernel_rfl) (fun a g hst hb => ?_)
   refine r_s (T := [⟨[.old 0], _, [], [], [10]⟩, ⟨[.old 1], _, [], [], [11]⟩, ⟨[.op 0 0, .op 1 0], _, [], [0, 1], [12]⟩]) (F := [.old 0, .old 1, .old 2]) hst hb Zb
     (o_p rfl (Za rfl rfl u_0) <| o_p rfl (Za rfl rfl u_0) <| o_p rfl (Zf8 Zd4 (by simpa using hk) rfl rfl u_0 u_1) <| o_n) (by kernel_rfl) (fun a g hst hb => ?_)
   refine r_s (T := [⟨[.old 2], _, [], [], [13]⟩, ⟨[.op 0 0], _, [], [0], [14]⟩, ⟨[.op 1 0], _, [], [0, 1], [7]⟩]) (F := [.old 0, .old 1, .old 2, .op 2 0]) hst hb Zb
     (o_p rfl (Za rfl rfl u_0) <| o_p rfl (Zcj Tryd.underlying52 rfl rfl u_0) <| o_p rfl (Zc rfl rfl u_0) <| o_n) (by kernel_rfl) (fun a g hst hb => ?_)
   refine wp_seq ?_
   refine r_s (T := [⟨[.old 3], _, [], [], [15]⟩, ⟨[.op 0 0], _, [], [0], [16]⟩]) (F := [.old 0, .old 1, .old 2, .old 3, .op 1 0]) hst hb Zb
     (o_p rfl (Za rfl rfl u_0) <| o_p rfl (Zby rfl rfl u_0 c_i) <| o_n) (by kernel_rfl) (fun a g hst hb => ?_)
   refine wp_cond_split (hst.bool 4 rfl) (fun hc => ?_) (fun hc => ?_)
   · exact absurd (beq_iff_eq.1 hc) (by omega)
   · refine wp_skip ?_
     refine Zu ?_
     refine r_s (L := [(0, _), (1, _), (2, _), (7, _)]) (T := [⟨[.old 0], _, [], [], [18]⟩, ⟨[.op 0 0], _, [], [0], [19]⟩, ⟨[.op 1 0], _, [], [0, 1], [8]⟩]) (F := [.old 0, .old 1, .old 2, .old 3, .op 2 0]) (hst.pick [0, 1, 2, 3] rfl) hb Zb
       (o_p rfl (Za rfl rfl u_0) <| o_p rfl (Zpu Tryd.underlying52 rfl rfl u_0) <| o_p rfl (Zc rfl rfl u_0) <| o_n) (by kernel_rfl) (fun a g hst hb => ?_)
     refine wp_seq ?_
     refine r_s (T := [⟨[.old 1], _, [], [], [20]⟩, ⟨[.old 4], _, [], [], [21]⟩, ⟨[.op 0 0, .op 1 0], _, [], [0, 1], [22]⟩]) (F := [.old 0, .old 1, .old 2, .old 3, .old 4, .op 2 0]) hst hb Zb
       (o_p rfl (Za rfl rfl u_0) <| o_p rfl (Za rfl rfl u_0) <| o_p rfl (Zby rfl rfl u_0 u_1) <| o_n) (by kernel_rfl) (fun a g hst hb => ?_)
     refine wp_cond_split (hst.bool 5 rfl) (fun hc => ?_) (fun hc => ?_)
     · refine r_s (L := [(0, _), (2, _)]) (T := [⟨[.old 0], _, [], [], [23]⟩, ⟨[.old 1], _, [], [], [24]⟩, ⟨[.op 0 0, .op 1 0], _, [1], [0, 1], [25, 0, 23]⟩, ⟨[.op 2 0], _, [], [0, 1, 2], [6]⟩]) (F := [.op 3 0]) (hst.pick [0, 2] rfl) hb Zb
         (o_p rfl (Za rfl rfl u_0) <| o_p rfl (Za rfl rfl u_0) <| o_p rfl (Zr8 Zd4 rfl rfl u_0 u_1 hsz) <| o_p rfl (Zc rfl rfl u_0) <| o_n) (by kernel_rfl) (fun a g hst hb => ?_)
       refine wp_ret ?_
       refine Zr ?_
       have hq := hst.at 0 rfl
       have hkn := beq_iff_eq.1 hc
       simp only [List.length_map] at hkn
       have hkn : k = a0.length := by omega
       have he : a0.take k ++ a2 ++ a0.drop k = a0 ++ a2 := by simp [hkn]
       rw [he]
       exact Znq rfl hst hb (Zl (s := 6)) hq
     · have hkn : k ≠ a0.length := fun h => (beq_eq_false_iff_ne.1 hc) (by simp only [List.length_map]; omega)
       refine wp_skip ?_
       refine Zu ?_
       refine wp_seq ?_
       refine r_s (L := [(0, _), (1, _), (2, _), (7, _), (8, _)]) (T := [⟨[.old 4], _, [], [], [26]⟩, ⟨[.old 3], _, [], [], [27]⟩, ⟨[.op 0 0, .op 1 0], _, [], [0, 1], [28]⟩, ⟨[.old 0], _, [], [], [29]⟩, ⟨[.op 3 0], _, [], [3], [30]⟩, ⟨[.op 2 0, .op 4 0], _, [], [0, 1, 2, 3, 4], [31]⟩]) (F := [.old 0, .old 1, .old 2, .old 3, .old 4, .op 5 0]) (hst.pick [0, 1, 2, 3, 4] rfl) hb Zb
         (o_p rfl (Za rfl rfl u_0) <| o_p rfl (Za rfl rfl u_0) <| o_p rfl (Zb8 rfl rfl u_0 u_1 (Zqe (by simp only [List.length_map]; omega))) <| o_p rfl (Za rfl rfl u_0) <| o_p rfl (Z33 Tryd.underlying52 rfl rfl u_0) <| o_p rfl (Zc0 rfl rfl u_0 u_1) <| o_n) (by kernel_rfl) (fun a g hst hb => ?_)
       refine wp_cond_split (hst.bool 5 rfl) (fun hc2 => ?_) (fun hc2 => ?_)
       · have hgr : cap < k + (a0.length + a2.length - k) := by have := of_decide_eq_true hc2; simp only [List.length_map] at this; omega
         refine r_s (L := [(0, _), (1, _), (2, _), (7, _), (8, _)]) (T := [⟨[.old 0], _, [], [], [32]⟩, ⟨[.old 1], _, [], [], [33]⟩, ⟨[.op 0 0, .op 1 0], _, [], [0, 1], [34]⟩, ⟨[.old 4], _, [], [], [35]⟩, ⟨[.old 3], _, [], [], [36]⟩, ⟨[.op 3 0, .op 4 0], _, [], [3, 4], [37]⟩, ⟨[.old 1], _, [], [], [38]⟩, ⟨[.op 5 0, .op 6 0], _, [], [3, 4, 5, 6], [39]⟩, ⟨[.op 2 0, .op 7 0, .old 0], [(40, (pOwn Zt 78 40 none ((a0.take k).map some ++ List.replicate (a0.length + a2.length - k) none)))], [41], [0, 1, 2, 3, 4, 5, 6, 7], [40]⟩, ⟨[.op 8 0], _, [], [0, 1, 2, 3, 4, 5, 6, 7, 8], [9]⟩]) (F := [.old 0, .old 1, .old 2, .old 3, .op 9 0]) (hst.pick [0, 1, 2, 3, 4] rfl) hb Zb
           (o_p rfl (Za rfl rfl u_0) <| o_p rfl (Za rfl rfl u_0) <| o_p rfl (Zo6 Zd4 (by simpa using hk) rfl rfl u_0 u_1) <| o_p rfl (Za rfl rfl u_0) <| o_p rfl (Za rfl rfl u_0) <| o_p rfl (Zb8 rfl rfl u_0 u_1 (Zqe (by simp only [List.length_map]; omega))) <| o_p rfl (Za rfl rfl u_0) <| o_p rfl (Zja rfl rfl u_0 u_1 (Z6c (n := a0.length + a2.length) (by simp only [List.length_map]) (by omega) (by omega))) <| o_p rfl (Zyh (s := 0) (d2 := 40) (xs := a0.take k) Zd4 Tryd.underlying3 (by simp; omega) (by simp; omega) (by omega) hgr (by rw [show k + (a0.length + a2.length - k) = a0.length + a2.length by omega]; exact hsz) (Zrw a0 k) rfl rfl u_0 u_1 u_2) <| o_p rfl (Zc rfl rfl u_0) <| o_n) (by kernel_rfl) (fun a g hst hb => ?_)
         have hl1 : (((a0.take k).map some ++ List.replicate (a0.length + a2.length - k) none) : List (Option Zj)).length = a0.length + a2.length := by simp; omega
         refine r_s (T := [⟨[.old 4], _, [], [], [41]⟩, ⟨[.old 1], _, [], [], [42]⟩, ⟨[.op 0 0, .op 1 0], _, [], [0, 1], [43]⟩, ⟨[.old 2], _, [], [], [44]⟩, ⟨[.op 2 0, .op 3 0, .old 4], _, [41], [0, 1, 2, 3], [45, 9, 41, 43]⟩]) (F := [.old 0, .old 1, .old 2, .old 3, .op 4 1]) hst hb Zb
           (o_p rfl (Za rfl rfl u_0) <| o_p rfl (Za rfl rfl u_0) <| o_p rfl (Zf8 Zd4 (by rw [hl1]; omega) rfl rfl u_0 u_1) <| o_p rfl (Za rfl rfl u_0) <| o_p rfl (Zvk (s := 9) Zd4 (by rw [hl1]; omega) (by rw [hl1]; omega) rfl rfl (by decide) u_0 u_1 u_2) <| o_n) (by kernel_rfl) (fun a g hst hb => ?_)
         have hl2 : (over (((a0.take k).map some ++ List.replicate (a0.length + a2.length - k) none) : List (Option Zj)) k a2).length = a0.length + a2.length := by rw [Zke (by rw [hl1]; omega), hl1]
         refine r_s (T := [⟨[.old 4], _, [], [], [46]⟩, ⟨[.old 1], _, [], [], [47]⟩, ⟨[.old 3], _, [], [], [48]⟩, ⟨[.op 1 0, .op 2 0], _, [], [1, 2], [49]⟩, ⟨[.op 0 0, .op 3 0], _, [], [0, 1, 2, 3], [50]⟩, ⟨[.old 0], _, [], [], [51]⟩, ⟨[.old 1], _, [], [], [52]⟩, ⟨[.op 5 0, .op 6 0], _, [], [5, 6], [53]⟩, ⟨[.op 4 0, .op 7 0, .old 4, .old 0], _, [41], [0, 1, 2, 3, 4, 5, 6, 7], [54, 9, 46, 50]⟩]) (F := [.op 8 1]) hst hb Zb
           (o_p rfl (Za rfl rfl u_0) <| o_p rfl (Za rfl rfl u_0) <| o_p rfl (Za rfl rfl u_0) <| o_p rfl (Zb8 rfl rfl u_0 u_1 (Zqe (by omega))) <| o_p rfl (Zf8 Zd4 (by rw [hl2]; omega) rfl rfl u_0 u_1) <| o_p rfl (Za rfl rfl u_0) <| o_p rfl (Za rfl rfl u_0) <| o_p rfl (Zf8 Zd4 (by simpa using hk) rfl rfl u_0 u_1) <| o_p rfl (Zwj (s := 9) (s2 := 0) (ws := a0.drop k) Zd4 (by rw [hl2]; omega) (by simp; omega) (by rw [hl2, List.length_map, List.length_drop]; exact (Nat.min_eq_left (by omega)).symm) (fun i x hx => by rw [List.getElem?_drop] at hx; rw [List.getElem?_map, hx]; rfl) rfl rfl (by decide) u_0 u_1 u_2 u_3) <| o_n) (by kernel_rfl) (fun a g hst hb => ?_)
         refine r_s (T := [⟨[.old 0], _, [], [], [55]⟩, ⟨[.op 0 0], _, [], [0], [6]⟩]) (F := [.op 1 0]) hst hb Zb
           (o_p rfl (Za rfl rfl u_0) <| o_p rfl (Zc rfl rfl u_0) <| o_n) (by kernel_rfl) (fun a g hst hb => ?_)
         refine wp_ret ?_
         refine Zr ?_
         have hq := hst.at 0 rfl
         rw [ins1 hk] at hq
         exact Znq rfl hst hb (Zl (s := 6)) hq
       · have hroom : a0.length + a2.length ≤ cap := by have := of_decide_eq_false hc2; simp only [List.length_map] at this; omega
         refine wp_skip ?_
         refine Zu ?_
         refine r_s (L := [(0, _), (1, _), (2, _), (7, _), (8, _)]) (T := [⟨[.old 0], _, [], [], [56]⟩, ⟨[.old 4], _, [], [], [57]⟩, ⟨[.old 3], _, [], [], [58]⟩, ⟨[.op 1 0, .op 2 0], _, [], [1, 2], [59]⟩, ⟨[.op 0 0, .op 3 0], [(60, (pOwn Zt 78 0 (some cap) (a0.map some ++ List.replicate (a0.length + a2.length - (a0.map some).length) none)))], [], [0, 1, 2, 3], [60]⟩, ⟨[.op 4 0], _, [], [0, 1, 2, 3, 4], [0]⟩]) (F := [.op 5 0, .old 1, .old 2, .old 3]) (hst.pick [0, 1, 2, 3, 4] rfl) hb Zb
           (o_p rfl (Za rfl rfl u_0) <| o_p rfl (Za rfl rfl u_0) <| o_p rfl (Za rfl rfl u_0) <| o_p rfl (Zb8 rfl rfl u_0 u_1 (Zqe (by simp only [List.length_map]; omega))) <| o_p rfl (Zw4 (h := a0.length + a2.length) Zd4 (by simp) hroom rfl rfl u_0 (Opd.to u_1 (by simp))) <| o_p rfl (Zc rfl rfl u_0) <| o_n) (by kernel_rfl) (fun a g hst hb => ?_)
         have hl1 : ((a0.map some ++ List.replicate (a0.length + a2.length - (a0.map some).length) none) : List (Option Zj)).length = a0.length + a2.length := by simp
         refine wp_seq ?_
         refine r_s (T := [⟨[.old 2], _, [], [], [61]⟩, ⟨[.old 0], _, [], [], [62]⟩, ⟨[.old 1], _, [], [], [63]⟩, ⟨[.old 3], _, [], [], [64]⟩, ⟨[.op 2 0, .op 3 0], _, [], [2, 3], [65]⟩, ⟨[.op 1 0, .op 4 0], _, [], [1, 2, 3, 4], [66]⟩, ⟨[.op 0 0, .op 5 0, .old 0], _, [], [0, 1, 2, 3, 4, 5], [67]⟩, ⟨[.op 6 0], _, [], [0, 1, 2, 3, 4, 5, 6], [68]⟩]) (F := [.old 0, .old 1, .old 2, .old 3, .op 7 0]) hst hb Zb
           (o_p rfl (Za rfl rfl u_0) <| o_p rfl (Za rfl rfl u_0) <| o_p rfl (Za rfl rfl u_0) <| o_p rfl (Za rfl rfl u_0) <| o_p rfl (Zb8 rfl rfl u_0 u_1 (Zqe (by omega))) <| o_p rfl (Zf8 Zd4 (by rw [hl1]; omega) rfl rfl u_0 u_1) <| o_p rfl (Zwu (s := 0) Zd4 rfl Z7s (by rw [hl1]; omega) rfl rfl u_0 u_1 u_2) <| o_p rfl (Zcs rfl rfl u_0) <| o_n) (by kernel_rfl) (fun a g hst hb => ?_)
         refine wp_cond_split (hst.bool 4 rfl) (fun hc3 => ?_) (fun hc3 => absurd hc3 (by simp))
         refine r_s (L := [(0, _), (1, _), (2, _), (7, _)]) (T := [⟨[.old 0], _, [], [], [69]⟩, ⟨[.old 1], _, [], [], [70]⟩, ⟨[.old 3], _, [], [], [71]⟩, ⟨[.op 1 0, .op 2 0], _, [], [1, 2], [72]⟩, ⟨[.op 0 0, .op 3 0], _, [], [0, 1, 2, 3], [73]⟩, ⟨[.old 0], _, [], [], [74]⟩, ⟨[.old 1], _, [], [], [75]⟩, ⟨[.op 5 0, .op 6 0], _, [], [5, 6], [76]⟩, ⟨[.op 4 0, .op 7 0, .old 0, .old 0], _, [1], [0, 1, 2, 3, 4, 5, 6, 7], [77, 0, 69, 73, 74, 76]⟩]) (F := [.op 8 1, .old 1, .old 2, .old 3]) (hst.pick [0, 1, 2, 3] rfl) hb Zb
           (o_p rfl (Za rfl rfl u_0) <| o_p rfl (Za rfl rfl u_0) <| o_p rfl (Za rfl rfl u_0) <| o_p rfl (Zb8 rfl rfl u_0 u_1 (Zqe (by omega))) <| o_p rfl (Zf8 Zd4 (by rw [hl1]; omega) rfl rfl u_0 u_1) <| o_p rfl (Za rfl rfl u_0) <| o_p rfl (Za rfl rfl u_0) <| o_p rfl (Zf8 Zd4 (by rw [hl1]; omega) rfl rfl u_0 u_1) <| o_p rfl (Zwj (s := 0) (s2 := 0) (ws := a0.drop k) Zd4 (by rw [hl1]; omega) (by rw [hl1]; omega) (by rw [hl1, List.length_drop]; have hm1 : Nat.min (a0.length + a2.length - k) (a0.length + a2.length - (k + a2.length)) = a0.length + a2.length - (k + a2.length) := Nat.min_eq_right (by omega); rw [hm1]; omega) (fun i x hx => by have hi := (List.getElem?_eq_some_iff.1 hx).1; rw [List.length_drop] at hi; rw [List.getElem?_drop] at hx; rw [List.getElem?_append_left (by simp; omega), List.getElem?_map, hx]; rfl) rfl rfl (by decide) u_0 u_1 u_2 u_3) <| o_n) (by kernel_rfl) (fun a g hst hb => ?_)
         have hl2 : (over ((a0.map some ++ List.replicate (a0.length + a2.length - (a0.map some).length) none) : List (Option Zj)) (k + a2.length) (a0.drop k)).length = a0.length + a2.length := by rw [Zke (by rw [hl1, List.length_drop]; omega), hl1]
         refine r_s (T := [⟨[.old 0], _, [], [], [78]⟩, ⟨[.old 1], _, [], [], [79]⟩, ⟨[.op 0 0, .op 1 0], _, [], [0, 1], [80]⟩, ⟨[.old 2], _, [], [], [81]⟩, ⟨[.op 2 0, .op 3 0, .old 0], _, [1], [0, 1, 2, 3], [82, 0, 78, 80]⟩]) (F := [.op 4 1]) hst hb Zb
           (o_p rfl (Za rfl rfl u_0) <| o_p rfl (Za rfl rfl u_0) <| o_p rfl (Zf8 Zd4 (by rw [hl2]; omega) rfl rfl u_0 u_1) <| o_p rfl (Za rfl rfl u_0) <| o_p rfl (Zvk (s := 0) Zd4 (by rw [hl2]; omega) (by rw [hl2]; omega) rfl rfl (by decide) u_0 u_1 u_2) <| o_n) (by kernel_rfl) (fun a g hst hb => ?_)
         refine r_s (T := [⟨[.old 0], _, [], [], [83]⟩, ⟨[.op 0 0], _, [], [0], [6]⟩]) (F := [.op 1 0]) hst hb Zb
           (o_p rfl (Za rfl rfl u_0) <| o_p rfl (Zc rfl rfl u_0) <| o_n) (by kernel_rfl) (fun a g hst hb => ?_)
         refine wp_ret ?_
         refine Zr ?_
         have hq := hst.at 0 rfl
         rw [ins2 hk] at hq
         exact Znq rfl hst hb (Zl (s := 6)) hq
theorem Zve (a0 : Zd) (a1 : Zv) (a2 : Zg) {r : Int × Zd × Zg} (h : Zjh a0 a1 a2 = some r) : FnB Tryd.prog 76 [.box Zi a0 r.2.1, .val (Zbb.pd a1), .box Zs a2 r.2.2] (pInt .i64 r.1) := by
 have H0 := h
 unfold Zjh at H0
 clear h
 refine Zik (N := 46) Tryd.func76 rfl rfl (Nat.le_of_ble_eq_true rfl) rfl rfl (fun a g0 bs hbs hst hb => ?_)
 obtain ⟨b0, b2, rfl⟩ := Zj6 hbs
 replace hst : St 46 [(0, (Zbk (some b0) Zi 0 a0)), (1, (Zbb.pd a1)), (2, (Zbk (some b2) Zs 2 a2))] _ _ := hst
 refine r_s (T := [⟨[.old 1], _, [], [], [4]⟩, ⟨[], _, [], [], [6]⟩]) (F := [.old 0, .old 2, .op 0 0]) hst hb Zb
   (o_p rfl (Zbl rfl rfl u_0) <| o_p rfl (Zc rfl rfl c_i) <| o_n) (by kernel_rfl) (fun a g hst hb => ?_)
 obtain ⟨r1, h2, H0⟩ := Zh H0
 refine r_s (T := ⟨[.old 0], _, [], [], [10]⟩ :: ⟨[.op 0 0], _, [], [0], [11]⟩ :: ⟨[.op 1 0], _, [], [0, 1], [12]⟩ :: ⟨[.op 2 0], _, [], [0, 1, 2], [13]⟩ :: ⟨[.old 2], _, [], [], [14]⟩ :: ⟨[.op 4 0], _, [], [4], [15]⟩ :: ⟨[.op 3 0, .op 5 0], _, [], Lr 6, [16]⟩ :: ⟨[.op 6 0], _, [], Lr 7, [9]⟩ :: ⟨[.op 7 0], _, [], Lr 8, [17]⟩ :: ⟨[.op 7 0], _, [], Lr 8, [18]⟩ :: ⟨[.op 8 0], _, [], Lr 9, [7]⟩ :: ⟨[.op 9 0], _, [], Lr 11, [8]⟩ :: []) (F := [.old 0, .old 1, .old 2, .op 10 0, .op 11 0]) hst hb Zb
   (o_p rfl (Za rfl rfl u_0) <| o_p rfl (Zn rfl rfl u_0 (fun _ _ ⟨_, _, _, e, _⟩ => ⟨_, e⟩)) <| o_p rfl (Z8 Zc8 (off := 7) (by kernel_rfl) rfl rfl u_0) <| o_p rfl (Zci Zer rfl rfl u_0) <| o_p rfl (Ze Zju rfl rfl u_0) <| o_p rfl (Zf ty_9 rfl rfl u_0) <| o_p rfl (Zq Zy3 (Zl8 _ _ h2) rfl rfl (.cons u_0 (.cons u_1 .nil))) <| o_p rfl (Za rfl rfl u_0) <| o_p rfl (Z4 rfl rfl u_0 rfl) <| o_p rfl (Z4 rfl rfl u_0 rfl) <| o_p rfl (Zc rfl rfl u_0) <| o_p rfl (Zc rfl rfl u_0) <| o_n) (by kernel_rfl) (fun a g hst hb => ?_)
 refine wp_seq ?_
 refine wp_block ?_
 refine r_s (T := [⟨[.old 4], _, [], [], [20]⟩, ⟨[.op 0 0], _, [], [0], [19]⟩]) (F := [.old 0, .old 1, .old 2, .old 3, .op 1 0]) hst hb Zb
   (o_p rfl (Za rfl rfl u_0) <| o_p rfl (Zc rfl rfl u_0) <| o_n) (by kernel_rfl) (fun a g hst hb => ?_)
 refine wp_cond_split (hst.bool 4 rfl) (fun hc3 => ?_) (fun hc3 => ?_)
 · replace H0 := Zz hc3 H0
   refine r_s (L := [(0, _), (2, _)]) (T := [⟨[], _, [], [], [6]⟩]) (F := [.old 0, .old 1, .op 0 0]) (hst.pick [0, 1] rfl) hb Zb
     (o_p rfl (Zc rfl rfl c_i) <| o_n) (by kernel_rfl) (fun a g hst hb => ?_)
   refine wp_ret ?_
   refine Z1 ?_
   refine Zr ?_
   obtain rfl := Option.some.inj H0
   exact Zgq rfl hst hb (Zl (s := 6)) (hst.at 2 rfl) ⟨Zcc (hst.at 0 rfl), Zcc (hst.at 1 rfl), trivial⟩
 · replace H0 := Z0 hc3 H0
   refine r_s (L := [(0, _), (2, _), (4, _), (7, _)]) (T := [⟨[.old 0], _, [], [], [22]⟩, ⟨[.op 0 0], _, [], [0], [23]⟩, ⟨[.op 1 0], _, [], [0, 1], [24]⟩, ⟨[.op 2 0], _, [], [0, 1, 2], [25]⟩, ⟨[.op 3 0], _, [], Lr 4, [26]⟩, ⟨[.old 0], _, [], [], [27]⟩, ⟨[.op 5 0], _, [], [5], [28]⟩, ⟨[.op 6 0], _, [], [5, 6], [29]⟩, ⟨[.op 7 0], _, [], [5, 6, 7], [30]⟩, ⟨[.op 4 0, .op 8 0], _, [], Lr 9, [31]⟩, ⟨[.op 9 0], _, [], Lr 10, [21]⟩]) (F := [.old 0, .old 1, .old 2, .old 3, .op 10 0]) (hst.pick [0, 1, 2, 3] rfl) hb Zb
     (o_p rfl (Za rfl rfl u_0) <| o_p rfl (Zn rfl rfl u_0 (fun _ _ ⟨_, _, _, e, _⟩ => ⟨_, e⟩)) <| o_p rfl (Z8 Zc8 (off := 7) (by kernel_rfl) rfl rfl u_0) <| o_p rfl (Zci Zer rfl rfl u_0) <| o_p rfl (Zcj Tryd.underlying52 rfl rfl u_0) <| o_p rfl (Za rfl rfl u_0) <| o_p rfl (Zn rfl rfl u_0 (fun _ _ ⟨_, _, _, e, _⟩ => ⟨_, e⟩)) <| o_p rfl (Z8 Zhm (off := 5) (by kernel_rfl) rfl rfl u_0) <| o_p rfl (Zci ty_3 rfl rfl u_0) <| o_p rfl (Zrr rfl rfl u_0 u_1) <| o_p rfl (Zc rfl rfl u_0) <| o_n) (by kernel_rfl) (fun a g hst hb => ?_)
   refine wp_cond_split (hst.bool 4 rfl) (fun hc4 => ?_) (fun hc4 => ?_)
   · replace H0 := Zz hc4 H0
     refine r_s (L := [(0, _), (2, _)]) (T := [⟨[], _, [], [], [6]⟩]) (F := [.old 0, .old 1, .op 0 0]) (hst.pick [0, 1] rfl) hb Zb
       (o_p rfl (Zc rfl rfl c_i) <| o_n) (by kernel_rfl) (fun a g hst hb => ?_)
     refine wp_ret ?_
     refine Z1 ?_
     refine Zr ?_
     obtain rfl := Option.some.inj H0
     exact Zgq rfl hst hb (Zl (s := 6)) (hst.at 2 rfl) ⟨Zcc (hst.at 0 rfl), Zcc (hst.at 1 rfl), trivial⟩
   · replace H0 := Z0 hc4 H0
     refine wp_skip ?_
     refine Zbr ?_
     refine Zu ?_
     obtain ⟨r5, h6, H0⟩ := Zh H0; obtain ⟨r7, h8, H0⟩ := Zh H0
     refine r_s (L := [(0, _), (2, _), (4, _), (7, _)]) (T := ⟨[.old 0], _, [], [], [32]⟩ :: ⟨[.old 0], _, [], [], [33]⟩ :: ⟨[.op 1 0], _, [], [1], [34]⟩ :: ⟨[.op 2 0], _, [], [1, 2], [35]⟩ :: ⟨[.op 3 0], _, [], [1, 2, 3], [36]⟩ :: ⟨[.op 4 0], _, [38], List.range' 1 4, [37]⟩ :: ⟨[.old 3], _, [], [], [38]⟩ :: ⟨[.old 2], _, [], [], [39]⟩ :: ⟨[.op 7 0], _, [], [7], [40]⟩ :: ⟨[.op 8 0], _, [], [7, 8], [41]⟩ :: ⟨[.op 9 0], _, [], [7, 8, 9], [42]⟩ :: ⟨[.op 5 0, .op 6 0, .op 10 0], _, [38], List.range' 1 10, [37, 43]⟩ :: ⟨[.op 0 0], _, [], Lr 12, [44]⟩ :: ⟨[.op 12 0], _, [], Lr 13, [45]⟩ :: ⟨[.op 11 0, .op 13 0, .old 0], _, [1], Lr 14, [0, 32, 33, 34, 35, 44, 45]⟩ :: []) (F := [.op 14 0, .old 1]) (hst.pick [0, 1, 2, 3] rfl) hb Zb
       (o_p rfl (Za rfl rfl u_0) <| o_p rfl (Za rfl rfl u_0) <| o_p rfl (Zn rfl rfl u_0 (fun _ _ ⟨_, _, _, e, _⟩ => ⟨_, e⟩)) <| o_p rfl (Z8 Zc8 (off := 7) (by kernel_rfl) rfl rfl u_0) <| o_p rfl (Zci Zer rfl rfl u_0) <| o_p rfl (Zmj (j := 37) Zuz (Zel _ h6) rfl rfl (.cons u_0 .nil)) <| o_p rfl (Za rfl rfl u_0) <| o_p rfl (Ze Zju rfl rfl u_0) <| o_p rfl (Zf ty_9 rfl rfl u_0) <| o_p rfl (Z3f rfl rfl u_0) <| o_p rfl (Zmr Zd4 (xs := [.tmp 41]) (.cons u_0 .nil) (by decide) rfl rfl) <| o_p rfl (Zol Z2b (Zgv _ _ _ h8) rfl rfl rfl u_0 (.cons u_1 (.cons u_2 .nil))) <| o_p rfl (Zn rfl rfl u_0 (fun _ _ ⟨_, _, _, e, _⟩ => ⟨_, e⟩)) <| o_p rfl (Z8 Zc8 (off := 7) (by kernel_rfl) rfl rfl u_0) <| o_p rfl (Zp4 Zer rfl rfl u_2 u_1 u_0) <| o_n) (by kernel_rfl) (fun a g hst hb => ?_)
     refine r_s (T := [⟨[], _, [], [], [6]⟩]) (F := [.old 0, .old 1, .op 0 0]) hst hb Zb
       (o_p rfl (Zc rfl rfl c_i) <| o_n) (by kernel_rfl) (fun a g hst hb => ?_)
     refine wp_ret ?_
     obtain rfl := Option.some.inj H0
     exact Zgq rfl hst hb (Zl (s := 6)) (hst.at 2 rfl) ⟨Zcc (hst.at 0 rfl), Zcc (hst.at 1 rfl), trivial⟩
theorem Zj0 (a0 : List Zj) (a1 a2 : Int) {r : List Zj} (h : Zd6 a0 a1 a2 = some r) : Zut Tryd.prog 79 Zt 78 a0 [(pInt .i64 a1), (pInt .i64 a2)] (Zt.sl.pd r) := by
 unfold Zd6 at h
 obtain ⟨⟨hpos, hi0, hij, hj, hsz⟩, H0⟩ := Zj5 h
 obtain rfl := Option.some.inj H0
 obtain ⟨k, rfl⟩ := Int.eq_ofNat_of_zero_le hi0
 obtain ⟨l, rfl⟩ := Int.eq_ofNat_of_zero_le (Int.le_trans hi0 hij)
 have hkl : k ≤ l := by omega
 have hl : l ≤ a0.length := by omega
 simp only [Int.toNat_natCast]
 refine Zvy (N := 33) Tryd.func79 rfl rfl (Nat.le_of_ble_eq_true rfl) rfl (fun hx a g A0 hst hb => ?_) (fun a g cap hcap hmax hst hb => ?_)
 · rw [hx] at hpos; cases hpos
 · refine r_s (T := [⟨[], [(6, (Zt.sl.pd []))], [], [], [6]⟩]) (F := [.old 0, .old 1, .old 2]) hst hb Zb
     (o_p rfl (Zc rfl rfl (Opd.c (fun g => Zkg g))) <| o_n) (by kernel_rfl) (fun a g hst hb => ?_)
   refine r_s (T := [⟨[.old 0], _, [], [], [8]⟩, ⟨[.old 1], _, [], [], [9]⟩, ⟨[.old 2], _, [], [], [10]⟩, ⟨[.old 0], _, [], [], [11]⟩, ⟨[.op 3 0], _, [], [3], [12]⟩, ⟨[.op 0 0, .op 1 0, .op 2 0, .op 4 0], [], [], [0, 1, 2, 3, 4], [13]⟩]) (F := [.old 0, .old 1, .old 2]) hst hb Zb
     (o_p rfl (Za rfl rfl u_0) <| o_p rfl (Za rfl rfl u_0) <| o_p rfl (Za rfl rfl u_0) <| o_p rfl (Za rfl rfl u_0) <| o_p rfl (Zpu Tryd.underlying52 rfl rfl u_0) <| o_p rfl (Z0u Zd4 hkl (by simpa using hl) (Nat.le_refl _) rfl u_0 u_1 u_2 u_3) <| o_n) (by kernel_rfl) (fun a g hst hb => ?_)
   refine wp_seq ?_
   refine r_s (T := [⟨[.old 1], _, [], [], [14]⟩, ⟨[.old 2], _, [], [], [15]⟩, ⟨[.op 0 0, .op 1 0], _, [], [0, 1], [16]⟩]) (F := [.old 0, .old 1, .old 2, .op 2 0]) hst hb Zb
     (o_p rfl (Za rfl rfl u_0) <| o_p rfl (Za rfl rfl u_0) <| o_p rfl (Zby rfl rfl u_0 u_1) <| o_n) (by kernel_rfl) (fun a g hst hb => ?_)
   refine wp_cond_split (hst.bool 3 rfl) (fun hc => ?_) (fun hc => ?_)
   · refine r_s (L := [(0, _)]) (T := [⟨[.old 0], _, [], [], [17]⟩, ⟨[.op 0 0], _, [], [0], [6]⟩]) (F := [.op 1 0]) (hst.pick [0] rfl) hb Zb
       (o_p rfl (Za rfl rfl u_0) <| o_p rfl (Zc rfl rfl u_0) <| o_n) (by kernel_rfl) (fun a g hst hb => ?_)
     refine wp_ret ?_
     refine Zr ?_
     have hq := hst.at 0 rfl
     have hkl2 := beq_iff_eq.1 hc
     have he : a0.take k ++ a0.drop l = a0 := by rw [show l = k by omega, List.take_append_drop]
     rw [he]
     exact Znq rfl hst hb (Zl (s := 6)) hq
   · refine wp_skip ?_
     refine Zu ?_
     refine r_s (L := [(0, _), (1, _), (2, _)]) (T := [⟨[.old 0], _, [], [], [18]⟩, ⟨[.op 0 0], _, [], [0], [19]⟩, ⟨[.op 1 0], _, [], [0, 1], [7]⟩]) (F := [.old 0, .old 1, .old 2, .op 2 0]) (hst.pick [0, 1, 2] rfl) hb Zb
       (o_p rfl (Za rfl rfl u_0) <| o_p rfl (Zpu Tryd.underlying52 rfl rfl u_0) <| o_p rfl (Zc rfl rfl u_0) <| o_n) (by kernel_rfl) (fun a g hst hb => ?_)
     refine r_s (T := [⟨[.old 0], _, [], [], [20]⟩, ⟨[.old 1], _, [], [], [21]⟩, ⟨[.op 0 0, .op 1 0], _, [], [0, 1], [22]⟩, ⟨[.old 0], _, [], [], [23]⟩, ⟨[.old 2], _, [], [], [24]⟩, ⟨[.op 3 0, .op 4 0], _, [], [3, 4], [25]⟩, ⟨[.op 2 0, .op 5 0, .old 0], [(26, (pOwn Zt 78 0 (some cap) ((a0.take k ++ a0.drop l).map some)))], [1], [0, 1, 2, 3, 4, 5], [26, 0, 20, 22, 23, 25]⟩, ⟨[.op 6 0], _, [], [0, 1, 2, 3, 4, 5, 6], [0]⟩]) (F := [.op 7 0, .old 3]) hst hb Zb
       (o_p rfl (Za rfl rfl u_0) <| o_p rfl (Za rfl rfl u_0) <| o_p rfl (Zo6 Zd4 (by simp; omega) rfl rfl u_0 u_1) <| o_p rfl (Za rfl rfl u_0) <| o_p rfl (Za rfl rfl u_0) <| o_p rfl (Zf8 Zd4 (by simpa using hl) rfl rfl u_0 u_1) <| o_p rfl (Zza (s := 0) (k := cap) (xs := a0.take k) (ws := a0.drop l) Zd4 (by simp; omega) (by simp; omega) (by simp; omega) (by simp) (Zrw a0 k) (Zy4 a0 l) rfl rfl u_0 u_1 u_2) <| o_p rfl (Zc rfl rfl u_0) <| o_n) (by kernel_rfl) (fun a g hst hb => ?_)
     have hl2 : ((a0.take k ++ a0.drop l).map some).length = k + (a0.length - l) := by simp; omega
     refine r_s (T := [⟨[.old 0], _, [], [], [27]⟩, ⟨[.old 0], _, [], [], [28]⟩, ⟨[.op 1 0], _, [], [1], [29]⟩, ⟨[.old 1], _, [], [], [30]⟩, ⟨[.op 0 0, .op 2 0, .op 3 0], _, [], [0, 1, 2, 3], [31]⟩, ⟨[.op 4 0, .old 0], _, [1], [0, 1, 2, 3, 4], [0, 27, 28, 31]⟩]) (F := [.op 5 0]) hst hb Zb
       (o_p rfl (Za rfl rfl u_0) <| o_p rfl (Za rfl rfl u_0) <| o_p rfl (Zpu Tryd.underlying52 rfl rfl u_0) <| o_p rfl (Za rfl rfl u_0) <| o_p rfl (Z06 (k := cap) Zd4 (by rw [hl2, List.length_map]; omega) (by rw [List.length_map]; omega) rfl rfl u_0 u_1 u_2) <| o_p rfl (Zzx (s := 0) (k := cap) Zd4 (by kernel_rfl) (Nat.le_refl _) (by rw [hl2, List.length_map]; omega) rfl rfl u_0 u_1) <| o_n) (by kernel_rfl) (fun a g hst hb => ?_)
     refine r_s (T := [⟨[.old 0], _, [], [], [32]⟩, ⟨[.op 0 0], _, [], [0], [6]⟩]) (F := [.op 1 0]) hst hb Zb
       (o_p rfl (Za rfl rfl u_0) <| o_p rfl (Zc rfl rfl u_0) <| o_n) (by kernel_rfl) (fun a g hst hb => ?_)
     refine wp_ret ?_
     exact Znq rfl hst hb (Zl (s := 6)) (hst.at 0 rfl)
theorem Zqp (a0 : Zd) (a1 : Zv) (a2 : Zg) {r : Int × Zd × Zg} (h : Zig a0 a1 a2 = some r) : FnB Tryd.prog 77 [.box Zi a0 r.2.1, .val (Zbb.pd a1), .box Zs a2 r.2.2] (pInt .i64 r.1) := by
 have H0 := h
 unfold Zig at H0
 clear h
 refine Zik (N := 32) Tryd.func77 rfl rfl (Nat.le_of_ble_eq_true rfl) rfl rfl (fun a g0 bs hbs hst hb => ?_)
 obtain ⟨b0, b2, rfl⟩ := Zj6 hbs
 replace hst : St 32 [(0, (Zbk (some b0) Zi 0 a0)), (1, (Zbb.pd a1)), (2, (Zbk (some b2) Zs 2 a2))] _ _ := hst
 refine r_s (T := [⟨[.old 1], _, [], [], [4]⟩, ⟨[], _, [], [], [6]⟩]) (F := [.old 0, .old 2, .op 0 0]) hst hb Zb
   (o_p rfl (Zbl rfl rfl u_0) <| o_p rfl (Zc rfl rfl c_i) <| o_n) (by kernel_rfl) (fun a g hst hb => ?_)
 refine wp_seq ?_
 obtain ⟨r1, h2, H0⟩ := Zh H0
 refine r_s (T := ⟨[.old 0], _, [], [], [10]⟩ :: ⟨[.op 0 0], _, [], [0], [11]⟩ :: ⟨[.op 1 0], _, [], [0, 1], [12]⟩ :: ⟨[.op 2 0], _, [], [0, 1, 2], [13]⟩ :: ⟨[.old 2], _, [], [], [14]⟩ :: ⟨[.op 4 0], _, [], [4], [15]⟩ :: ⟨[.op 3 0, .op 5 0], _, [], Lr 6, [16]⟩ :: ⟨[.op 6 0], _, [], Lr 7, [9]⟩ :: ⟨[.op 7 0], _, [], Lr 8, [17]⟩ :: ⟨[.op 7 0], _, [], Lr 8, [18]⟩ :: ⟨[.op 8 0], _, [], Lr 9, [7]⟩ :: ⟨[.op 9 0], _, [], Lr 11, [8]⟩ :: []) (F := [.old 0, .old 1, .op 10 0, .op 11 0]) hst hb Zb
   (o_p rfl (Za rfl rfl u_0) <| o_p rfl (Zn rfl rfl u_0 (fun _ _ ⟨_, _, _, e, _⟩ => ⟨_, e⟩)) <| o_p rfl (Z8 Zc8 (off := 7) (by kernel_rfl) rfl rfl u_0) <| o_p rfl (Zci Zer rfl rfl u_0) <| o_p rfl (Ze Zju rfl rfl u_0) <| o_p rfl (Zf ty_9 rfl rfl u_0) <| o_p rfl (Zq Zy3 (Zl8 _ _ h2) rfl rfl (.cons u_0 (.cons u_1 .nil))) <| o_p rfl (Za rfl rfl u_0) <| o_p rfl (Z4 rfl rfl u_0 rfl) <| o_p rfl (Z4 rfl rfl u_0 rfl) <| o_p rfl (Zc rfl rfl u_0) <| o_p rfl (Zc rfl rfl u_0) <| o_n) (by kernel_rfl) (fun a g hst hb => ?_)
 refine r_s (T := [⟨[.old 3], _, [], [], [19]⟩]) (F := [.old 0, .old 1, .old 2, .op 0 0]) hst hb Zb
   (o_p rfl (Za rfl rfl u_0) <| o_n) (by kernel_rfl) (fun a g hst hb => ?_)
 refine Zc2 (fun a w => ∃ (j8 : Zd) (g : G), w = g.w ∧ St 32 [(0, (Zbk (some b0) Zi 0 j8)), (2, (Zbk (some b2) Zs 2 a2))] a g ∧ Base g0 g ∧ Zh9 a2 j8 = some r) ?_ ?_
 · rintro a w ⟨j8, g, rfl, hst, hb, H0⟩
   unfold Zh9 at H0
   refine Zu ?_
   refine r_s (T := [⟨[], _, [], [], [6]⟩]) (F := [.old 0, .old 1, .op 0 0]) hst hb Zb
     (o_p rfl (Zc rfl rfl c_i) <| o_n) (by kernel_rfl) (fun a g hst hb => ?_)
   refine wp_ret ?_
   obtain rfl := Option.some.inj H0
   exact Zgq rfl hst hb (Zl (s := 6)) (hst.at 2 rfl) ⟨Zcc (hst.at 0 rfl), Zcc (hst.at 1 rfl), trivial⟩
 · refine wp_cond_split (hst.bool 3 rfl) (fun hc3 => ?_) (fun hc3 => ?_)
   · replace H0 := Zz hc3 H0
     obtain ⟨r4, h5, H0⟩ := Zh H0; obtain ⟨r6, h7, H0⟩ := Zh H0
     refine r_g (L := [(0, _), (2, _), (7, _)]) (T := ⟨[.old 0], _, [], [], [20]⟩ :: ⟨[.old 0], _, [], [], [21]⟩ :: ⟨[.op 1 0], _, [], [1], [22]⟩ :: ⟨[.op 2 0], _, [], [1, 2], [23]⟩ :: ⟨[.op 3 0], _, [], [1, 2, 3], [24]⟩ :: ⟨[.op 4 0], _, [26], List.range' 1 4, [25]⟩ :: ⟨[.old 2], _, [], [], [26]⟩ :: ⟨[.old 2], _, [], [], [27]⟩ :: ⟨[.op 7 0], _, [], [7], [28]⟩ :: ⟨[.op 5 0, .op 6 0, .op 8 0], _, [26], List.range' 1 8, [25, 29]⟩ :: ⟨[.op 0 0], _, [], Lr 10, [30]⟩ :: ⟨[.op 10 0], _, [], Lr 11, [31]⟩ :: ⟨[.op 9 0, .op 11 0, .old 0], _, [1], Lr 12, [0, 20, 21, 22, 23, 30, 31]⟩ :: []) (F := [.op 12 0, .old 1]) (hst.pick [0, 1, 2] rfl) hb Zb
       (o_p rfl (Za rfl rfl u_0) <| o_p rfl (Za rfl rfl u_0) <| o_p rfl (Zn rfl rfl u_0 (fun _ _ ⟨_, _, _, e, _⟩ => ⟨_, e⟩)) <| o_p rfl (Z8 Zc8 (off := 7) (by kernel_rfl) rfl rfl u_0) <| o_p rfl (Zci Zer rfl rfl u_0) <| o_p rfl (Zmj (j := 25) Zuz (Zel _ h5) rfl rfl (.cons u_0 .nil)) <| o_p rfl (Za rfl rfl u_0) <| o_p rfl (Za rfl rfl u_0) <| o_p rfl (Zb8 rfl rfl u_0 c_i rfl) <| o_p rfl (Zol Z72 (Zj0 _ _ _ h7) rfl rfl rfl u_0 (.cons u_1 (.cons u_2 .nil))) <| o_p rfl (Zn rfl rfl u_0 (fun _ _ ⟨_, _, _, e, _⟩ => ⟨_, e⟩)) <| o_p rfl (Z8 Zc8 (off := 7) (by kernel_rfl) rfl rfl u_0) <| o_p rfl (Zp4 Zer rfl rfl u_2 u_1 u_0) <| o_n) (by kernel_rfl) (fun a g hst hb => ?_)
     exact ⟨({ a0 with List := r6 }), g, rfl, (hst.pick [0, 1] rfl), hb, H0⟩
   · replace H0 := Z0 hc3 H0
     refine wp_skip ?_
     exact ⟨a0, g, rfl, (hst.pick [0, 1] rfl), hb, H0⟩
theorem Zqo (a0 : Zd) (a1 : Zv) (a2 : Zg) {r : Int × Zd × Zg} (h : Zep a0 a1 a2 = some r) : FnB Tryd.prog 80 [.box Zi a0 r.2.1, .val (Zbb.pd a1), .box Zs a2 r.2.2] (pInt .i64 r.1) := by
 have H0 := h
 unfold Zep at H0
 clear h
 refine Zik (N := 21) Tryd.func80 rfl rfl (Nat.le_of_ble_eq_true rfl) rfl rfl (fun a g0 bs hbs hst hb => ?_)
 obtain ⟨b0, b2, rfl⟩ := Zj6 hbs
 replace hst : St 21 [(0, (Zbk (some b0) Zi 0 a0)), (1, (Zbb.pd a1)), (2, (Zbk (some b2) Zs 2 a2))] _ _ := hst
 refine r_s (T := [⟨[.old 1], _, [], [], [4]⟩, ⟨[], _, [], [], [6]⟩]) (F := [.old 0, .old 2, .op 0 0]) hst hb Zb
   (o_p rfl (Zbl rfl rfl u_0) <| o_p rfl (Zc rfl rfl c_i) <| o_n) (by kernel_rfl) (fun a g hst hb => ?_)
 refine wp_seq ?_
 obtain ⟨r1, h2, H0⟩ := Zh H0
 refine r_s (T := ⟨[.old 0], _, [], [], [10]⟩ :: ⟨[.op 0 0], _, [], [0], [11]⟩ :: ⟨[.op 1 0], _, [], [0, 1], [12]⟩ :: ⟨[.op 2 0], _, [], [0, 1, 2], [13]⟩ :: ⟨[.old 2], _, [], [], [14]⟩ :: ⟨[.op 4 0], _, [], [4], [15]⟩ :: ⟨[.op 3 0, .op 5 0], _, [], Lr 6, [16]⟩ :: ⟨[.op 6 0], _, [], Lr 7, [9]⟩ :: ⟨[.op 7 0], _, [], Lr 8, [17]⟩ :: ⟨[.op 7 0], _, [], Lr 8, [18]⟩ :: ⟨[.op 8 0], _, [], Lr 9, [7]⟩ :: ⟨[.op 9 0], _, [], Lr 11, [8]⟩ :: []) (F := [.old 0, .old 1, .op 11 0]) hst hb Zb
   (o_p rfl (Za rfl rfl u_0) <| o_p rfl (Zn rfl rfl u_0 (fun _ _ ⟨_, _, _, e, _⟩ => ⟨_, e⟩)) <| o_p rfl (Z8 Zc8 (off := 7) (by kernel_rfl) rfl rfl u_0) <| o_p rfl (Zci Zer rfl rfl u_0) <| o_p rfl (Ze Zju rfl rfl u_0) <| o_p rfl (Zf ty_9 rfl rfl u_0) <| o_p rfl (Zq Zy3 (Zl8 _ _ h2) rfl rfl (.cons u_0 (.cons u_1 .nil))) <| o_p rfl (Za rfl rfl u_0) <| o_p rfl (Z4 rfl rfl u_0 rfl) <| o_p rfl (Z4 rfl rfl u_0 rfl) <| o_p rfl (Zc rfl rfl u_0) <| o_p rfl (Zc rfl rfl u_0) <| o_n) (by kernel_rfl) (fun a g hst hb => ?_)
 refine r_s (T := [⟨[.old 2], _, [], [], [19]⟩, ⟨[.op 0 0], _, [], [0], [20]⟩]) (F := [.old 0, .old 1, .op 1 0]) hst hb Zb
   (o_p rfl (Za rfl rfl u_0) <| o_p rfl (Zcs rfl rfl u_0) <| o_n) (by kernel_rfl) (fun a g hst hb => ?_)
 refine wp_cond_split (hst.bool 2 rfl) (fun hc3 => ?_) (fun hc3 => ?_)
 · replace H0 := Zz hc3 H0
   refine r_s (L := [(0, _), (2, _)]) (T := [⟨[], _, [], [], [6]⟩]) (F := [.old 0, .old 1, .op 0 0]) (hst.pick [0, 1] rfl) hb Zb
     (o_p rfl (Zc rfl rfl c_i) <| o_n) (by kernel_rfl) (fun a g hst hb => ?_)
   refine wp_ret ?_
   refine Zr ?_
   obtain rfl := Option.some.inj H0
   exact Zgq rfl hst hb (Zl (s := 6)) (hst.at 2 rfl) ⟨Zcc (hst.at 0 rfl), Zcc (hst.at 1 rfl), trivial⟩
 · replace H0 := Z0 hc3 H0
   refine wp_skip ?_
   refine Zu ?_
   refine r_s (L := [(0, _), (2, _)]) (T := [⟨[], _, [], [], [6]⟩]) (F := [.old 0, .old 1, .op 0 0]) (hst.pick [0, 1] rfl) hb Zb
     (o_p rfl (Zc rfl rfl c_i) <| o_n) (by kernel_rfl) (fun a g hst hb => ?_)
   refine wp_ret ?_
   obtain rfl := Option.some.inj H0
   exact Zgq rfl hst hb (Zl (s := 6)) (hst.at 2 rfl) ⟨Zcc (hst.at 0 rfl), Zcc (hst.at 1 rfl), trivial⟩
theorem Zug (a0 : Zd) (a1 : Zv) (a2 : Zg) {r : Int × Zd × Zg} (h : Zit a0 a1 a2 = some r) : FnB Tryd.prog 81 [.box Zi a0 r.2.1, .val (Zbb.pd a1), .box Zs a2 r.2.2] (pInt .i64 r.1) := by
 have H0 := h
 unfold Zit at H0
 clear h
 refine Zik (N := 75) Tryd.func81 rfl rfl (Nat.le_of_ble_eq_true rfl) rfl rfl (fun a g0 bs hbs hst hb => ?_)
 obtain ⟨b0, b2, rfl⟩ := Zj6 hbs
 replace hst : St 75 [(0, (Zbk (some b0) Zi 0 a0)), (1, (Zbb.pd a1)), (2, (Zbk (some b2) Zs 2 a2))] _ _ := hst
 refine r_s (T := [⟨[.old 1], _, [], [], [4]⟩, ⟨[], _, [], [], [6]⟩]) (F := [.old 0, .old 2, .op 0 0]) hst hb Zb
   (o_p rfl (Zbl rfl rfl u_0) <| o_p rfl (Zc rfl rfl c_i) <| o_n) (by kernel_rfl) (fun a g hst hb => ?_)
 refine r_s (T := [⟨[.old 2], _, [], [], [10]⟩, ⟨[.op 0 0], _, [], [0], [11]⟩, ⟨[.old 2], _, [], [], [12]⟩, ⟨[.op 2 0], _, [], [2], [13]⟩, ⟨[.op 1 0, .op 3 0], _, [], Lr 4, [14]⟩, ⟨[], [(7, (pBox Zt 7 (default : Zj)))], [8], [], [7]⟩, ⟨[.op 4 0, .op 5 0], _, [8], Lr 6, [7]⟩]) (F := [.old 0, .old 1, .op 6 0]) hst hb Zb
   (o_p rfl (Ze Zqb rfl rfl u_0) <| o_p rfl (Zf Ze1 rfl rfl u_0) <| o_p rfl (Ze Zju rfl rfl u_0) <| o_p rfl (Zf ty_9 rfl rfl u_0) <| o_p rfl (Zzy rfl rfl u_0 u_1) <| o_p rfl (Zbi (zs := [.float .f64 0, .string ByteArray.empty]) (by kernel_rfl) (fun g => Zi2 g) rfl rfl) <| o_p rfl (Zb9 Zff rfl rfl u_1 u_0) <| o_n) (by kernel_rfl) (fun a g hst hb => ?_)
 refine r_s (T := [⟨[], _, [], [], [8]⟩]) (F := [.old 0, .old 1, .old 2, .op 0 0]) hst hb Zb
   (o_p rfl (Zc rfl rfl c_i) <| o_n) (by kernel_rfl) (fun a g hst hb => ?_)
 obtain ⟨z8, hz1, H0⟩ := Zh H0
 refine wp_seq ?_
 refine Zc2 (fun a w => ∃ (y7 : Int) (g : G), w = g.w ∧ St 75 [(0, (Zbk (some b0) Zi 0 a0)), (2, (Zbk (some b2) Zs 2 a2)), (7, (Zt.ptr ({ Score := a1.X, Name := a1.S } : Zj))), (8, (pInt .i64 y7))] a g ∧ Base g0 g ∧ y7 = z8) ?_ ?_
 · rintro a w ⟨y7, g, rfl, hst, hb, rfl⟩
   refine Zu ?_
   refine wp_seq ?_
   obtain ⟨e9, h10, H0⟩ := Zh H0; obtain ⟨r11, h12, H0⟩ := Zh H0
   refine r_s (T := ⟨[.old 3], _, [], [], [35]⟩ :: ⟨[.old 0], _, [], [], [36]⟩ :: ⟨[.op 1 0], _, [], [1], [37]⟩ :: ⟨[.op 2 0], _, [], [1, 2], [38]⟩ :: ⟨[.op 3 0], _, [], [1, 2, 3], [39]⟩ :: ⟨[.op 4 0], _, [], List.range' 1 4, [40]⟩ :: ⟨[.op 0 0, .op 5 0], _, [], Lr 6, [41]⟩ :: ⟨[.op 6 0], _, [], Lr 7, [42]⟩ :: ⟨[.op 7 0, .old 2], _, [], Lr 8, [43]⟩ :: ⟨[.op 7 0, .old 0], _, [], Lr 8, [44]⟩ :: ⟨[.op 7 0, .op 9 0], _, [], [0, 1, 2, 3, 4, 5, 6, 7, 9], [45]⟩ :: ⟨[.op 7 0, .op 10 0], _, [], [0, 1, 2, 3, 4, 5, 6, 7, 9, 10], [46]⟩ :: ⟨[.op 7 0, .op 11 0], _, [], [0, 1, 2, 3, 4, 5, 6, 7, 9, 10, 11], [47]⟩ :: ⟨[.op 7 0, .old 3], _, [], Lr 8, [48]⟩ :: ⟨[.op 7 0, .op 12 0, .op 13 0], _, [], 0 :: 1 :: 2 :: 3 :: 4 :: 5 :: 6 :: 7 :: 9 :: 10 :: 11 :: 12 :: 13 :: [], [49]⟩ :: ⟨[.op 7 0, .op 14 0], _, [], 0 :: 1 :: 2 :: 3 :: 4 :: 5 :: 6 :: 7 :: 9 :: 10 :: 11 :: 12 :: 13 :: 14 :: [], [50]⟩ :: ⟨[.op 7 0, .op 8 0, .op 15 0], _, [], Lr 16, [51]⟩ :: ⟨[.op 7 0, .op 16 0], _, [], Lr 17, [52]⟩ :: ⟨[.op 7 0, .op 17 0], _, [], Lr 18, [53]⟩ :: []) (F := [.old 0, .old 1, .old 2, .old 3, .op 18 0]) hst hb Zb
     (o_p rfl (Za rfl rfl u_0) <| o_p rfl (Za rfl rfl u_0) <| o_p rfl (Zn rfl rfl u_0 (fun _ _ ⟨_, _, _, e, _⟩ => ⟨_, e⟩)) <| o_p rfl (Z8 Zc8 (off := 7) (by kernel_rfl) rfl rfl u_0) <| o_p rfl (Zci Zer rfl rfl u_0) <| o_p rfl (Zcj Tryd.underlying52 rfl rfl u_0) <| o_p rfl (Zc1 rfl rfl u_0 u_1) <| o_p rfl (Za rfl rfl u_0) <| o_g (g_t rfl rfl rfl (fun hG => Zf Zff rfl rfl u_0)) <| o_g (g_t rfl rfl rfl (fun hG => Za rfl rfl u_0)) <| o_g (g_t rfl rfl rfl (fun hG => Zn rfl rfl (Opd.gd hG u_0) (fun _ _ ⟨_, _, _, e, _⟩ => ⟨_, e⟩))) <| o_g (g_t rfl rfl rfl (fun hG => Z8 Zc8 (off := 7) (by kernel_rfl) rfl rfl (Opd.gd hG u_0))) <| o_g (g_t rfl rfl rfl (fun hG => Zci Zer rfl rfl (Opd.gd hG u_0))) <| o_g (g_t rfl rfl rfl (fun hG => Za rfl rfl u_0)) <| o_g (g_t rfl rfl rfl (fun hG => Zb4 Tryd.underlying52 Zi5 rfl rfl (Opd.gd hG u_0) (Opd.gd hG u_1) (Zbv h10 hG))) <| o_g (g_t rfl rfl rfl (fun hG => Zf Zff rfl rfl (Opd.gd hG u_0))) <| o_g (g_t rfl rfl rfl (fun hG => Zq Zyn (Zlw _ _ (Zbv h12 hG)) rfl rfl (.cons (Opd.gd hG u_0) (.cons (Opd.gd hG u_1) .nil)))) <| o_g (g_t rfl rfl rfl (fun hG => Zcs rfl rfl (Opd.gd hG u_0))) <| o_p rfl (Zbp rfl rfl u_0 (fun hz => (Opd.gd hz u_1))) <| o_n) (by kernel_rfl) (fun a g hst hb => ?_)
   refine wp_cond_split (hst.bool 4 rfl) (fun hc13 => ?_) (fun hc13 => ?_)
   · replace H0 := Zz hc13 H0
     refine r_s (L := [(0, _), (2, _)]) (T := [⟨[], _, [], [], [6]⟩]) (F := [.old 0, .old 1, .op 0 0]) (hst.pick [0, 1] rfl) hb Zb
       (o_p rfl (Zc rfl rfl c_i) <| o_n) (by kernel_rfl) (fun a g hst hb => ?_)
     refine wp_ret ?_
     refine Zr ?_
     obtain rfl := Option.some.inj H0
     exact Zgq rfl hst hb (Zl (s := 6)) (hst.at 2 rfl) ⟨Zcc (hst.at 0 rfl), Zcc (hst.at 1 rfl), trivial⟩
   · replace H0 := Z0 hc13 H0
     refine wp_skip ?_
     refine Zu ?_
     obtain ⟨r14, h15, H0⟩ := Zh H0; obtain ⟨r16, h17, H0⟩ := Zh H0
     refine r_s (L := [(0, _), (2, _), (7, _), (8, _)]) (T := [⟨[.old 0], _, [], [], [54]⟩, ⟨[.op 0 0], _, [], [0], [55]⟩, ⟨[.op 1 0], _, [], [0, 1], [56]⟩, ⟨[.op 2 0], _, [], [0, 1, 2], [57]⟩, ⟨[.op 3 0], _, [59], Lr 4, [58]⟩, ⟨[.old 3], _, [], [], [59]⟩, ⟨[.old 2], _, [], [], [60]⟩, ⟨[.op 6 0], _, [], [6], [61]⟩, ⟨[.op 4 0, .op 5 0, .op 7 0], _, [59], Lr 8, [58, 62]⟩, ⟨[.op 8 0], _, [], Lr 9, [9]⟩]) (F := [.old 0, .old 1, .op 9 0]) (hst.pick [0, 1, 2, 3] rfl) hb Zb
       (o_p rfl (Za rfl rfl u_0) <| o_p rfl (Zn rfl rfl u_0 (fun _ _ ⟨_, _, _, e, _⟩ => ⟨_, e⟩)) <| o_p rfl (Z8 Zc8 (off := 7) (by kernel_rfl) rfl rfl u_0) <| o_p rfl (Zci Zer rfl rfl u_0) <| o_p rfl (Zmj (j := 58) Zuz (Zel _ h15) rfl rfl (.cons u_0 .nil)) <| o_p rfl (Za rfl rfl u_0) <| o_p rfl (Zf Zff rfl rfl u_0) <| o_p rfl (Zmr Zd4 (xs := [.tmp 60]) (.cons u_0 .nil) (by decide) rfl rfl) <| o_p rfl (Zol Z2b (Zgv _ _ _ h17) rfl rfl rfl u_0 (.cons u_1 (.cons u_2 .nil))) <| o_p rfl (Zc rfl rfl u_0) <| o_n) (by kernel_rfl) (fun a g hst hb => ?_)
     obtain ⟨c18, h19, H0⟩ := Zh H0
     refine r_s (T := ⟨[.old 0], _, [], [], [63]⟩ :: ⟨[.old 2], _, [], [], [64]⟩ :: ⟨[.old 2], _, [], [], [65]⟩ :: ⟨[.op 2 0], _, [], [2], [66]⟩ :: ⟨[.old 0], _, [], [], [67]⟩ :: ⟨[.op 4 0], _, [], [4], [68]⟩ :: ⟨[.op 5 0], _, [], [4, 5], [69]⟩ :: ⟨[.op 6 0], _, [], [4, 5, 6], [70]⟩ :: ⟨[.op 3 0, .op 7 0], _, [], List.range' 2 6, [71]⟩ :: ⟨[.op 1 0, .op 8 0], _, [], List.range' 1 8, [72]⟩ :: ⟨[.op 0 0], _, [], Lr 10, [73]⟩ :: ⟨[.op 10 0], _, [], Lr 11, [74]⟩ :: ⟨[.op 9 0, .op 11 0, .old 0], _, [1], Lr 12, [0, 63, 67, 68, 69, 73, 74]⟩ :: []) (F := [.op 12 0, .old 1]) hst hb Zb
       (o_p rfl (Za rfl rfl u_0) <| o_p rfl (Za rfl rfl u_0) <| o_p rfl (Za rfl rfl u_0) <| o_p rfl (Zcj Tryd.underlying52 rfl rfl u_0) <| o_p rfl (Za rfl rfl u_0) <| o_p rfl (Zn rfl rfl u_0 (fun _ _ ⟨_, _, _, e, _⟩ => ⟨_, e⟩)) <| o_p rfl (Z8 Zhm (off := 5) (by kernel_rfl) rfl rfl u_0) <| o_p rfl (Zci ty_3 rfl rfl u_0) <| o_p rfl (Z5u rfl rfl u_0 u_1) <| o_p rfl (Zxj Tryd.underlying52 Zi5 rfl rfl u_0 u_1 h19) <| o_p rfl (Zn rfl rfl u_0 (fun _ _ ⟨_, _, _, e, _⟩ => ⟨_, e⟩)) <| o_p rfl (Z8 Zc8 (off := 7) (by kernel_rfl) rfl rfl u_0) <| o_p rfl (Zp4 Zer rfl rfl u_2 u_1 u_0) <| o_n) (by kernel_rfl) (fun a g hst hb => ?_)
     refine r_s (T := [⟨[], _, [], [], [6]⟩]) (F := [.old 0, .old 1, .op 0 0]) hst hb Zb
       (o_p rfl (Zc rfl rfl c_i) <| o_n) (by kernel_rfl) (fun a g hst hb => ?_)
     refine wp_ret ?_
     obtain rfl := Option.some.inj H0
     exact Zgq rfl hst hb (Zl (s := 6)) (hst.at 2 rfl) ⟨Zcc (hst.at 0 rfl), Zcc (hst.at 1 rfl), trivial⟩
 · refine wp_block ?_
   refine wp_loop_ghost (fun n a w => ∃ (x1 : Int) (g : G), w = g.w ∧ St 75 [(0, (Zbk (some b0) Zi 0 a0)), (2, (Zbk (some b2) Zs 2 a2)), (7, (Zt.ptr ({ Score := a1.X, Name := a1.S } : Zj))), (8, (pInt .i64 x1))] a g ∧ Base g0 g ∧ Ze7 a0 a1 n x1 = some z8) (Int.toNat ((a0.List.length : Int) - (0 : Int)) + 1) ⟨(0 : Int), g, rfl, (hst.pick [0, 1, 2, 3] rfl), hb, hz1⟩ (fun n a w hI => ?_)
   obtain ⟨x1, g, rfl, hst, hb, H1⟩ := hI
   cases n with
   | zero => exact absurd H1 (by simp [Ze7])
   | succ n =>
     rw [Ze7] at H1
     refine wp_seq ?_
     obtain ⟨e2, h3, H1⟩ := Zh H1; obtain ⟨r4, h5, H1⟩ := Zh H1
     refine r_s (T := ⟨[.old 3], _, [], [], [15]⟩ :: ⟨[.old 0], _, [], [], [16]⟩ :: ⟨[.op 1 0], _, [], [1], [17]⟩ :: ⟨[.op 2 0], _, [], [1, 2], [18]⟩ :: ⟨[.op 3 0], _, [], [1, 2, 3], [19]⟩ :: ⟨[.op 4 0], _, [], List.range' 1 4, [20]⟩ :: ⟨[.op 0 0, .op 5 0], _, [], Lr 6, [21]⟩ :: ⟨[.op 6 0], _, [], Lr 7, [22]⟩ :: ⟨[.op 7 0, .old 0], _, [], Lr 8, [23]⟩ :: ⟨[.op 7 0, .op 8 0], _, [], Lr 9, [24]⟩ :: ⟨[.op 7 0, .op 9 0], _, [], Lr 10, [25]⟩ :: ⟨[.op 7 0, .op 10 0], _, [], Lr 11, [26]⟩ :: ⟨[.op 7 0, .old 3], _, [], Lr 8, [27]⟩ :: ⟨[.op 7 0, .op 11 0, .op 12 0], _, [], Lr 13, [28]⟩ :: ⟨[.op 7 0, .op 13 0], _, [], Lr 14, [29]⟩ :: ⟨[.op 7 0, .old 2], _, [], Lr 8, [30]⟩ :: ⟨[.op 7 0, .op 14 0, .op 15 0], _, [], Lr 16, [31]⟩ :: ⟨[.op 7 0, .op 16 0], _, [], Lr 17, [32]⟩ :: []) (F := [.old 0, .old 1, .old 2, .old 3, .op 17 0]) hst hb Zb
       (o_p rfl (Za rfl rfl u_0) <| o_p rfl (Za rfl rfl u_0) <| o_p rfl (Zn rfl rfl u_0 (fun _ _ ⟨_, _, _, e, _⟩ => ⟨_, e⟩)) <| o_p rfl (Z8 Zc8 (off := 7) (by kernel_rfl) rfl rfl u_0) <| o_p rfl (Zci Zer rfl rfl u_0) <| o_p rfl (Zcj Tryd.underlying52 rfl rfl u_0) <| o_p rfl (Zc1 rfl rfl u_0 u_1) <| o_p rfl (Za rfl rfl u_0) <| o_g (g_t rfl rfl rfl (fun hG => Za rfl rfl u_0)) <| o_g (g_t rfl rfl rfl (fun hG => Zn rfl rfl (Opd.gd hG u_0) (fun _ _ ⟨_, _, _, e, _⟩ => ⟨_, e⟩))) <| o_g (g_t rfl rfl rfl (fun hG => Z8 Zc8 (off := 7) (by kernel_rfl) rfl rfl (Opd.gd hG u_0))) <| o_g (g_t rfl rfl rfl (fun hG => Zci Zer rfl rfl (Opd.gd hG u_0))) <| o_g (g_t rfl rfl rfl (fun hG => Za rfl rfl u_0)) <| o_g (g_t rfl rfl rfl (fun hG => Zb4 Tryd.underlying52 Zi5 rfl rfl (Opd.gd hG u_0) (Opd.gd hG u_1) (Zbv h3 hG))) <| o_g (g_t rfl rfl rfl (fun hG => Zf Zff rfl rfl (Opd.gd hG u_0))) <| o_g (g_t rfl rfl rfl (fun hG => Zf Zff rfl rfl u_0)) <| o_g (g_t rfl rfl rfl (fun hG => Zq Zyn (Zlw _ _ (Zbv h5 hG)) rfl rfl (.cons (Opd.gd hG u_0) (.cons (Opd.gd hG u_1) .nil)))) <| o_p rfl (Zbp rfl rfl u_0 (fun hz => (Opd.gd hz u_1))) <| o_n) (by kernel_rfl) (fun a g hst hb => ?_)
     refine wp_cond_split (hst.bool 4 rfl) (fun hc6 => ?_) (fun hc6 => ?_)
     · replace H1 := Zz hc6 H1
       refine wp_skip ?_
       refine Zu ?_
       refine wp_block ?_
       refine r_g (L := [(0, _), (2, _), (7, _), (8, _)]) (T := [⟨[.old 3], _, [], [], [33]⟩, ⟨[.op 0 0], _, [], [0], [34]⟩, ⟨[.op 1 0], _, [], [0, 1], [8]⟩]) (F := [.old 0, .old 1, .old 2, .op 2 0]) (hst.pick [0, 1, 2, 3] rfl) hb Zb
         (o_p rfl (Za rfl rfl u_0) <| o_p rfl (Zb8 rfl rfl u_0 c_i rfl) <| o_p rfl (Zc rfl rfl u_0) <| o_n) (by kernel_rfl) (fun a g hst hb => ?_)
       refine Zbr ?_
       exact ⟨n, Nat.lt_succ_self _, (IntKind.i64.wrap (x1 + (1 : Int))), g, rfl, (hst.pick [0, 1, 2, 3] rfl), hb, H1⟩
     · replace H1 := Z0 hc6 H1
       refine wp_exit ?_
       refine Zce ?_
       refine Zce ?_
       refine Zdc ?_
       exact ⟨x1, g, rfl, (hst.pick [0, 1, 2, 3] rfl), hb, Option.some.inj H1⟩
def Phi (k : Int) (f : FuncId) (C : List Pd) : Prop := ∀ (x0 x1 : Zd) (a : Zv) (y0 y1 : Zg) (c : Int), Z5 k x0 a y0 = some (c, x1, y1) → FnB Tryd.prog f ([.box Zi x0 x1, .val (Zbb.pd a), .box Zs y0 y1] ++ C.map .val) (pInt .i64 c)
theorem Z3m {k : Int} {x0 : Zd} {a : Zv} {y0 : Zg} {r : Int × Zd × Zg} (h : Z5 k x0 a y0 = some r) : ∀ f C, Phi k f C → FnB Tryd.prog f ([.box Zi x0 r.2.1, .val (Zbb.pd a), .box Zs y0 r.2.2] ++ C.map .val) (pInt .i64 r.1) := fun f C hΦ => hΦ _ _ _ _ _ _ h
def tabT : TabT := fun k => if 5 ≤ k ∧ k ≤ 21 then some (Phi k) else none
theorem Z5x {i : Int} (h : 5 ≤ i ∧ i ≤ 21) : tabT i.toNat = some (Phi i) := by
 unfold tabT
 rw [if_pos (by omega), show ((i.toNat : Nat) : Int) = i by omega]
theorem Z64 : Phi 5 63 [] := fun x0 x1 a y0 y1 c h => Zqi x0 a y0 (r := (c, x1, y1)) (by simpa [Z5] using h)
theorem Z6m : Phi 6 64 [] := fun x0 x1 a y0 y1 c h => Zqf x0 a y0 (r := (c, x1, y1)) (by simpa [Z5] using h)
theorem Z76 : Phi 7 65 [] := fun x0 x1 a y0 y1 c h => Zqg x0 a y0 (r := (c, x1, y1)) (by simpa [Z5] using h)
theorem Z71 : Phi 8 66 [] := fun x0 x1 a y0 y1 c h => Zu1 x0 a y0 (r := (c, x1, y1)) (by simpa [Z5] using h)
theorem Z6w : Phi 9 67 [] := fun x0 x1 a y0 y1 c h => Zmw x0 a y0 (r := (c, x1, y1)) (by simpa [Z5] using h)
theorem Z5s : Phi 10 68 [] := fun x0 x1 a y0 y1 c h => Zqr x0 a y0 (r := (c, x1, y1)) (by simpa [Z5] using h)
theorem Z5o : Phi 11 69 [] := fun x0 x1 a y0 y1 c h => Zqn x0 a y0 (r := (c, x1, y1)) (by simpa [Z5] using h)
theorem Z6e : Phi 12 67 [] := fun x0 x1 a y0 y1 c h => Zmw x0 a y0 (r := (c, x1, y1)) (by simpa [Z5] using h)
theorem Z58 : Phi 13 87 [(Kd.fnc.ptr 71)] := fun x0 x1 a y0 y1 c h => by
 have h' : Zdz (fun x y => Zjo x y) x0 a y0 = some (c, x1, y1) := by simpa [Z5] using h
 obtain ⟨z, hz, h2⟩ := Zh h'
 injection h2 with h2
 simp only [Prod.mk.injEq] at h2
 obtain ⟨rfl, rfl, rfl⟩ := h2
 exact Zie 71 Z6x (fun x y => Zjo x y) (fun x y z h => Zy9 x y h) x0 a y0 hz
theorem Z5i : Phi 14 87 [(Kd.fnc.ptr 72)] := fun x0 x1 a y0 y1 c h => by
 have h' : Zdz (fun x y => Zjq x y) x0 a y0 = some (c, x1, y1) := by simpa [Z5] using h
 obtain ⟨z, hz, h2⟩ := Zh h'
 injection h2 with h2
 simp only [Prod.mk.injEq] at h2
 obtain ⟨rfl, rfl, rfl⟩ := h2
 exact Zie 72 Z8d (fun x y => Zjq x y) (fun x y z h => Zyr x y h) x0 a y0 hz
theorem Z5q : Phi 15 87 [(Kd.fnc.ptr 73)] := fun x0 x1 a y0 y1 c h => by
 have h' : Zdz (fun x y => Zhg x y) x0 a y0 = some (c, x1, y1) := by simpa [Z5] using h
 obtain ⟨z, hz, h2⟩ := Zh h'
 injection h2 with h2
 simp only [Prod.mk.injEq] at h2
 obtain ⟨rfl, rfl, rfl⟩ := h2
 exact Zie 73 Z68 (fun x y => Zhg x y) (fun x y z h => Zw3 x y h) x0 a y0 hz
theorem Z6a : Phi 16 87 [(Kd.fnc.ptr 74)] := fun x0 x1 a y0 y1 c h => by
 have h' : Zdz (fun x y => Zgi x y) x0 a y0 = some (c, x1, y1) := by simpa [Z5] using h
 obtain ⟨z, hz, h2⟩ := Zh h'
 injection h2 with h2
 simp only [Prod.mk.injEq] at h2
 obtain ⟨rfl, rfl, rfl⟩ := h2
 exact Zie 74 Z7p (fun x y => Zgi x y) (fun x y z h => Zvf x y h) x0 a y0 hz
theorem Z53 : Phi 17 87 [(Kd.fnc.ptr 75)] := fun x0 x1 a y0 y1 c h => by
 have h' : Zdz (fun x y => Zf7 x y) x0 a y0 = some (c, x1, y1) := by simpa [Z5] using h
 obtain ⟨z, hz, h2⟩ := Zh h'
 injection h2 with h2
 simp only [Prod.mk.injEq] at h2
 obtain ⟨rfl, rfl, rfl⟩ := h2
 exact Zie 75 Z7n (fun x y => Zf7 x y) (fun x y z h => Zqq x y h) x0 a y0 hz
theorem Z49 : Phi 18 76 [] := fun x0 x1 a y0 y1 c h => Zve x0 a y0 (r := (c, x1, y1)) (by simpa [Z5] using h)
theorem Z5h : Phi 19 77 [] := fun x0 x1 a y0 y1 c h => Zqp x0 a y0 (r := (c, x1, y1)) (by simpa [Z5] using h)
theorem Z5m : Phi 20 80 [] := fun x0 x1 a y0 y1 c h => Zqo x0 a y0 (r := (c, x1, y1)) (by simpa [Z5] using h)
theorem Z6d : Phi 21 81 [] := fun x0 x1 a y0 y1 c h => Zug x0 a y0 (r := (c, x1, y1)) (by simpa [Z5] using h)
theorem Zwr {N d : Nat} {o : Oper} {uses : Z7} (hop : o.op = .build 116 #[(5, .func 63), (6, .func 64), (7, .func 65), (8, .func 66), (9, .func 67), (12, .func 67), (10, .func 68), (11, .func 69), (13, .tmp 1), (14, .tmp 2), (15, .tmp 3), (16, .tmp 4), (17, .tmp 5), (18, .func 76), (19, .func 77), (20, .func 80), (21, .func 81)]) (hd : o.dst = some d) (h1 : Opd uses (.tmp 1) (pClo 87 [(Kd.fnc.ptr 71)] rfl)) (h2 : Opd uses (.tmp 2) (pClo 87 [(Kd.fnc.ptr 72)] rfl)) (h3 : Opd uses (.tmp 3) (pClo 87 [(Kd.fnc.ptr 73)] rfl)) (h4 : Opd uses (.tmp 4) (pClo 87 [(Kd.fnc.ptr 74)] rfl)) (h5 : Opd uses (.tmp 5) (pClo 87 [(Kd.fnc.ptr 75)] rfl)) : OB Tryd.prog N o uses [(d, ((Kd.tab Tryd.prog 22 (by decide)).pd tabT))] [] :=
 Zb3 hd fun a g hh => by
   obtain ⟨c1, e1, k1⟩ := h1 a g hh
   obtain ⟨c2, e2, k2⟩ := h2 a g hh
   obtain ⟨c3, e3, k3⟩ := h3 a g hh
   obtain ⟨c4, e4, k4⟩ := h4 a g hh
   obtain ⟨c5, e5, k5⟩ := h5 a g hh
   refine ⟨.agg #[.nilFunc, .nilFunc, .nilFunc, .nilFunc, .nilFunc, .func (.func 63) #[] #[], .func (.func 64) #[] #[], .func (.func 65) #[] #[], .func (.func 66) #[] #[], .func (.func 67) #[] #[], .func (.func 68) #[] #[], .func (.func 69) #[] #[], .func (.func 67) #[] #[], .func (.func 87) #[] c1.toArray, .func (.func 87) #[] c2.toArray, .func (.func 87) #[] c3.toArray, .func (.func 87) #[] c4.toArray, .func (.func 87) #[] c5.toArray, .func (.func 76) #[] #[], .func (.func 77) #[] #[], .func (.func 80) #[] #[], .func (.func 81) #[] #[]], ?_, [.nilFunc, .nilFunc, .nilFunc, .nilFunc, .nilFunc, .func (.func 63) #[] #[], .func (.func 64) #[] #[], .func (.func 65) #[] #[], .func (.func 66) #[] #[], .func (.func 67) #[] #[], .func (.func 68) #[] #[], .func (.func 69) #[] #[], .func (.func 67) #[] #[], .func (.func 87) #[] c1.toArray, .func (.func 87) #[] c2.toArray, .func (.func 87) #[] c3.toArray, .func (.func 87) #[] c4.toArray, .func (.func 87) #[] c5.toArray, .func (.func 76) #[] #[], .func (.func 77) #[] #[], .func (.func 80) #[] #[], .func (.func 81) #[] #[]], ⟨rfl, ?_, ?_⟩, rfl⟩
   · simp only [execOp, hop, Sem.run_bind, Sem.run_pure, Result.andThen_ok, List.map_toArray, List.map_cons, List.map_nil, e1, e2, e3, e4, e5]
     rw [Zv3 Tryd.underlying116 (zero := .agg #[.nilFunc, .nilFunc, .nilFunc, .nilFunc, .nilFunc, .nilFunc, .nilFunc, .nilFunc, .nilFunc, .nilFunc, .nilFunc, .nilFunc, .nilFunc, .nilFunc, .nilFunc, .nilFunc, .nilFunc, .nilFunc, .nilFunc, .nilFunc, .nilFunc, .nilFunc]) (by kernel_rfl) (by kernel_rfl) (cells := #[.nilFunc, .nilFunc, .nilFunc, .nilFunc, .nilFunc, .func (.func 63) #[] #[], .func (.func 64) #[] #[], .func (.func 65) #[] #[], .func (.func 66) #[] #[], .func (.func 67) #[] #[], .func (.func 68) #[] #[], .func (.func 69) #[] #[], .func (.func 67) #[] #[], .func (.func 87) #[] c1.toArray, .func (.func 87) #[] c2.toArray, .func (.func 87) #[] c3.toArray, .func (.func 87) #[] c4.toArray, .func (.func 87) #[] c5.toArray, .func (.func 76) #[] #[], .func (.func 77) #[] #[], .func (.func 80) #[] #[], .func (.func 81) #[] #[]]) (by kernel_rfl) g.w]
     rfl
   · intro u hu
     simp only [List.mem_cons, List.not_mem_nil, or_false] at hu
     rcases hu with rfl | rfl | rfl | rfl | rfl | rfl | rfl | rfl | rfl | rfl | rfl | rfl | rfl | rfl | rfl | rfl | rfl | rfl | rfl | rfl | rfl | rfl <;> rfl
   · intro k F u hF hu
     unfold tabT at hF
     split at hF
     · rename_i hk
       obtain rfl := Option.some.inj hF
       obtain ⟨hk1, hk2⟩ := hk
       have hk : k = 5 ∨ k = 6 ∨ k = 7 ∨ k = 8 ∨ k = 9 ∨ k = 10 ∨ k = 11 ∨ k = 12 ∨ k = 13 ∨ k = 14 ∨ k = 15 ∨ k = 16 ∨ k = 17 ∨ k = 18 ∨ k = 19 ∨ k = 20 ∨ k = 21 := by omega
       rcases hk with rfl | rfl | rfl | rfl | rfl | rfl | rfl | rfl | rfl | rfl | rfl | rfl | rfl | rfl | rfl | rfl | rfl
       · obtain rfl := Option.some.inj hu; exact ⟨63, [], [], rfl, Z69, rfl, Z64, Zdr, fun q hq => by cases hq⟩
       · obtain rfl := Option.some.inj hu; exact ⟨64, [], [], rfl, Z6s, rfl, Z6m, Zdr, fun q hq => by cases hq⟩
       · obtain rfl := Option.some.inj hu; exact ⟨65, [], [], rfl, Z7m, rfl, Z76, Zdr, fun q hq => by cases hq⟩
       · obtain rfl := Option.some.inj hu; exact ⟨66, [], [], rfl, Z61, rfl, Z71, Zdr, fun q hq => by cases hq⟩
       · obtain rfl := Option.some.inj hu; exact ⟨67, [], [], rfl, Z2g, rfl, Z6w, Zdr, fun q hq => by cases hq⟩
       · obtain rfl := Option.some.inj hu; exact ⟨68, [], [], rfl, Z75, rfl, Z5s, Zdr, fun q hq => by cases hq⟩
       · obtain rfl := Option.some.inj hu; exact ⟨69, [], [], rfl, Z6v, rfl, Z5o, Zdr, fun q hq => by cases hq⟩
       · obtain rfl := Option.some.inj hu; exact ⟨67, [], [], rfl, Z2g, rfl, Z6e, Zdr, fun q hq => by cases hq⟩
       · obtain rfl := Option.some.inj hu; exact ⟨87, _, c1, rfl, Zsk, rfl, Z58, k1, Zjj⟩
       · obtain rfl := Option.some.inj hu; exact ⟨87, _, c2, rfl, Zsk, rfl, Z5i, k2, Zjj⟩
       · obtain rfl := Option.some.inj hu; exact ⟨87, _, c3, rfl, Zsk, rfl, Z5q, k3, Zjj⟩
       · obtain rfl := Option.some.inj hu; exact ⟨87, _, c4, rfl, Zsk, rfl, Z6a, k4, Zjj⟩
       · obtain rfl := Option.some.inj hu; exact ⟨87, _, c5, rfl, Zsk, rfl, Z53, k5, Zjj⟩
       · obtain rfl := Option.some.inj hu; exact ⟨76, [], [], rfl, Z78, rfl, Z49, Zdr, fun q hq => by cases hq⟩
       · obtain rfl := Option.some.inj hu; exact ⟨77, [], [], rfl, Z73, rfl, Z5h, Zdr, fun q hq => by cases hq⟩
       · obtain rfl := Option.some.inj hu; exact ⟨80, [], [], rfl, Z7l, rfl, Z5m, Zdr, fun q hq => by cases hq⟩
       · obtain rfl := Option.some.inj hu; exact ⟨81, [], [], rfl, Z6l, rfl, Z6d, Zdr, fun q hq => by cases hq⟩
     · cases hF
theorem Z0j : Ty Tryd.prog 116 (Kd.tab Tryd.prog 22 (by decide)) := ⟨by kernel_rfl, by kernel_rfl⟩
theorem Zro : FnOk Tryd.prog 52 [] (pTab Tryd.prog 22 tabT) := by
 refine Zbs (N := 7) Tryd.func52 rfl rfl (Nat.le_of_ble_eq_true rfl) rfl rfl (fun a g0 hst hb => ?_)
 refine r_s (T := [⟨[], [(0, (pBox (Kd.tab Tryd.prog 22 (by decide)) 0 (fun _ => none)))], [1], [], [0]⟩]) (F := [.op 0 0]) hst hb Zb
   (o_p rfl (Zbi (zs := [.nilFunc, .nilFunc, .nilFunc, .nilFunc, .nilFunc, .nilFunc, .nilFunc, .nilFunc, .nilFunc, .nilFunc, .nilFunc, .nilFunc, .nilFunc, .nilFunc, .nilFunc, .nilFunc, .nilFunc, .nilFunc, .nilFunc, .nilFunc, .nilFunc, .nilFunc]) (by kernel_rfl) (fun g => ⟨rfl, by decide, fun k F u h => by cases h⟩) rfl rfl) <| o_n) (by kernel_rfl) (fun a g hst hb => ?_)
 refine r_s (T := [⟨[], _, [], [], [1]⟩, ⟨[], _, [], [0], [2]⟩, ⟨[], _, [], [0, 1], [3]⟩, ⟨[], _, [], [0, 1, 2], [4]⟩, ⟨[], _, [], [0, 1, 2, 3], [5]⟩, ⟨[.op 0 0, .op 1 0, .op 2 0, .op 3 0, .op 4 0], _, [], [0, 1, 2, 3, 4], [6]⟩, ⟨[.op 5 0, .old 0], [(0, (pBox (Kd.tab Tryd.prog 22 (by decide)) 0 tabT))], [1], [0, 1, 2, 3, 4, 5], [0]⟩]) (F := [.op 6 0]) hst hb Zb
   (o_p rfl (Zq Zsj (Zjb 71) rfl rfl (.cons Opd.fncv .nil)) <| o_p rfl (Zq Zsj (Zjb 72) rfl rfl (.cons Opd.fncv .nil)) <| o_p rfl (Zq Zsj (Zjb 73) rfl rfl (.cons Opd.fncv .nil)) <| o_p rfl (Zq Zsj (Zjb 74) rfl rfl (.cons Opd.fncv .nil)) <| o_p rfl (Zq Zsj (Zjb 75) rfl rfl (.cons Opd.fncv .nil)) <| o_p rfl (Zwr rfl rfl u_0 u_1 u_2 u_3 u_4) <| o_p rfl (Z6 Z0j rfl rfl u_1 u_0) <| o_n) (by kernel_rfl) (fun a g hst hb => ?_)
 refine wp_ret ?_
 obtain ⟨u0, hu0, hq0⟩ := Zbe (P := Tryd.prog) Z0j (hst.at 0 rfl)
 exact Z3 rfl hst hb hu0 (Z1g hq0)
theorem Zuc (a0 : Zd) (a1 : Bool) (a2 : Zv) {r : Zd × Bool × Zg} (h : Zhq a0 a1 a2 = some r) : FnOk Tryd.prog 30 [(Zi.pd a0), (Zbc a1), (Zbb.pd a2)] (pTup [(Zi.pd r.1), (Zbc r.2.1), (Zs.pd r.2.2)]) := by
 have H0 := h
 unfold Zhq at H0
 clear h
 refine Zbs (N := 123) Tryd.func30 rfl rfl (Nat.le_of_ble_eq_true rfl) rfl rfl (fun a g0 hst hb => ?_)
 refine r_s (T := [⟨[.old 0], _, [4], [], [3]⟩, ⟨[.old 1], _, [], [], [4]⟩, ⟨[.old 2], _, [], [], [5]⟩, ⟨[], [(6, (pBox Zi 6 (default : Zd)))], [7], [], [6]⟩, ⟨[], _, [], [], [7]⟩, ⟨[], [(8, (pBox Zs 8 (default : Zg)))], [9], [], [8]⟩]) (F := [.op 0 0, .op 1 0, .op 2 0, .op 3 0, .op 5 0]) hst hb Zb
   (o_p rfl (Ztb rfl rfl u_0) <| o_p rfl (Zbl rfl rfl u_0) <| o_p rfl (Zbl rfl rfl u_0) <| o_p rfl (Zbi (zs := [.int .i64 0, .int .i64 0, .int .i64 0, .int .i64 0, .float .f64 0, .int .i64 0, .string ByteArray.empty, .slice none 0 0]) (by kernel_rfl) (fun g => Zb5 g) rfl rfl) <| o_p rfl (Zc rfl rfl c_b) <| o_p rfl (Zbi (zs := [.int .i64 0, .int .i64 0, .int .i64 0, .int .i64 0, .int .i64 0, .int .i64 0, .float .f64 0, .int .i64 0, .string ByteArray.empty, .slice none 0 0]) (by kernel_rfl) (fun g => Zfu g) rfl rfl) <| o_n) (by kernel_rfl) (fun a g hst hb => ?_)
 refine wp_seq ?_
 refine r_s (T := [⟨[.old 1], _, [], [], [15]⟩, ⟨[.op 0 0], _, [], [0], [16]⟩]) (F := [.old 0, .old 1, .old 2, .old 3, .old 4, .op 1 0]) hst hb Zb
   (o_p rfl (Zf ty_4 rfl rfl u_0) <| o_p rfl (Zcs rfl rfl u_0) <| o_n) (by kernel_rfl) (fun a g hst hb => ?_)
 refine Zc2 (fun a w => ∃ (j2 : Zd) (g : G), w = g.w ∧ St 123 [(3, (pBox Zi 3 j2)), (4, (Kd.bool.ptr a1)), (5, (Zbb.ptr a2)), (6, (pBox Zi 6 (default : Zd))), (8, (pBox Zs 8 (default : Zg)))] a g ∧ Base g0 g ∧ Zfx a1 a2 j2 = some r) ?_ ?_
 · rintro a w ⟨j2, g, rfl, hst, hb, H0⟩
   unfold Zfx at H0
   refine Zu ?_
   obtain ⟨r3, h4, H0⟩ := Zh H0
   refine r_s (T := [⟨[.old 0], _, [], [], [18]⟩, ⟨[.op 0 0], _, [], [0], [19]⟩, ⟨[.op 1 0, .old 0], _, [4], [0, 1], [3]⟩]) (F := [.op 2 0, .old 1, .old 2, .old 3, .old 4]) hst hb Zb
     (o_p rfl (Zca Zbf rfl rfl u_0) <| o_p rfl (Zq Zmt (Zgh _ h4) rfl rfl (.cons u_0 .nil)) <| o_p rfl (Z6 Zbf rfl rfl u_1 u_0) <| o_n) (by kernel_rfl) (fun a g hst hb => ?_)
   refine r_s (T := [⟨[.old 0, .old 1], _, [], [], [20]⟩, ⟨[.op 0 0], _, [], [0], [9]⟩]) (F := [.old 0, .old 1, .old 2, .old 3, .old 4, .op 1 0]) hst hb Zb
     (o_p rfl (Zvp rfl rfl (.cons u_0 (.cons u_1 .nil))) <| o_p rfl (Zc rfl rfl u_0) <| o_n) (by kernel_rfl) (fun a g hst hb => ?_)
   refine wp_seq ?_
   obtain ⟨r5, h6, H0⟩ := Zh H0
   refine r_s (T := [⟨[.old 2], _, [], [], [21]⟩, ⟨[.op 0 0], _, [], [0], [22]⟩, ⟨[.op 1 0], _, [], [0, 1], [10]⟩]) (F := [.old 0, .old 1, .old 2, .old 3, .old 4, .old 5, .op 2 0]) hst hb Zb
     (o_p rfl (Zf Zj8 rfl rfl u_0) <| o_p rfl (Zq Z20 (Zo3 _ h6) rfl rfl (.cons u_0 .nil)) <| o_p rfl (Zc rfl rfl u_0) <| o_n) (by kernel_rfl) (fun a g hst hb => ?_)
   refine r_s (T := [⟨[.old 6], _, [], [], [23]⟩, ⟨[.op 0 0], _, [], [0], [24]⟩]) (F := [.old 0, .old 1, .old 2, .old 3, .old 4, .old 5, .old 6, .op 1 0]) hst hb Zb
     (o_p rfl (Za rfl rfl u_0) <| o_p rfl (Zfg rfl rfl u_0 c_i) <| o_n) (by kernel_rfl) (fun a g hst hb => ?_)
   refine wp_cond_split (hst.bool 7 rfl) (fun hc7 => ?_) (fun hc7 => ?_)
   · replace H0 := Zz hc7 H0
     obtain ⟨r8, h9, H0⟩ := Zh H0
     refine r_s (L := [(3, _), (4, _), (6, _), (8, _), (9, _), (10, _)]) (T := [⟨[.old 4], _, [], [], [25]⟩, ⟨[.old 5], _, [], [], [26]⟩, ⟨[.op 0 0, .op 1 0, .old 0], [(27, (pTup [(Zi.pd r8.1), (Zbc r8.2.1), (Zs.pd r8.2.2.1)])), (3, (pBox Zi 3 r8.2.2.2))], [4], [0, 1], [3, 9, 25, 27]⟩, ⟨[.op 2 0], _, [], [0, 1, 2], [28]⟩, ⟨[.op 2 0], _, [], [0, 1, 2], [29]⟩, ⟨[.op 2 0], _, [], [0, 1, 2], [30]⟩, ⟨[.op 3 0, .old 2], _, [7], Lr 6, [6]⟩, ⟨[.op 4 0], _, [], Lr 7, [7]⟩, ⟨[.op 5 0, .old 3], _, [9], Lr 8, [8]⟩]) (F := [.op 2 1, .old 1, .op 6 0, .op 7 0, .op 8 0]) (hst.pick [0, 1, 3, 4, 5, 6] rfl) hb Zb
       (o_p rfl (Za rfl rfl u_0) <| o_p rfl (Za rfl rfl u_0) <| o_p rfl (Zku (Ps := [.val (pInt .i64 r5)]) (hs := []) (ks := [(3, none, 3)]) Zsq (Zhx _ _ _ h9) rfl rfl rfl u_0 (.val u_1 .nil) (.box u_2 rfl (.val .nil)) rfl rfl rfl rfl) <| o_p rfl (Z4 rfl rfl u_0 rfl) <| o_p rfl (Z4 rfl rfl u_0 rfl) <| o_p rfl (Z4 rfl rfl u_0 rfl) <| o_p rfl (Z6 Zbf rfl rfl u_1 u_0) <| o_p rfl (Zc rfl rfl u_0) <| o_p rfl (Z6 Zcm rfl rfl u_1 u_0) <| o_n) (by kernel_rfl) (fun a g hst hb => ?_)
     refine wp_ret ?_
     refine Zr ?_
     obtain rfl := Option.some.inj H0
     obtain ⟨u0, hu0, hq0⟩ := Zbe (P := Tryd.prog) Zbf (hst.at 2 rfl)
     obtain ⟨u2, hu2, hq2⟩ := Zbe (P := Tryd.prog) Zcm (hst.at 4 rfl)
     exact Zjr rfl hst hb hu0 (Zl (s := 7)) hu2 (Zhv hq0 (hst.at 3 rfl) hq2)
   · replace H0 := Z0 hc7 H0
     refine wp_skip ?_
     refine Zu ?_
     refine wp_seq ?_
     refine r_s (L := [(3, _), (4, _), (5, _), (6, _), (8, _), (9, _)]) (T := [⟨[.old 1], _, [], [], [31]⟩]) (F := [.old 0, .old 1, .old 2, .old 3, .old 4, .old 5, .op 0 0]) (hst.pick [0, 1, 2, 3, 4, 5] rfl) hb Zb
       (o_p rfl (Zf ty_4 rfl rfl u_0) <| o_n) (by kernel_rfl) (fun a g hst hb => ?_)
     refine Zc2 (fun a w => ∃ (g : G), w = g.w ∧ St 123 [(3, (pBox Zi 3 r3)), (4, (Kd.bool.ptr a1)), (5, (Zbb.ptr a2)), (6, (pBox Zi 6 (default : Zd))), (8, (pBox Zs 8 (default : Zg))), (9, (Zus 50 [(pBox Zi 3 r3), (Kd.bool.ptr a1)]))] a g ∧ Base g0 g ∧ Zfw a1 a2 r3 = some r) ?_ ?_
     · rintro a w ⟨g, rfl, hst, hb, H0⟩
       unfold Zfw at H0
       refine Zu ?_
       refine wp_seq ?_
       refine wp_block ?_
       refine r_s (T := [⟨[.old 2], _, [], [], [43]⟩, ⟨[.op 0 0], _, [], [0], [44]⟩, ⟨[.op 1 0], _, [], [0, 1], [45]⟩, ⟨[.op 2 0], _, [], [0, 1, 2], [46]⟩, ⟨[.op 3 0, .old 1], _, [], Lr 4, [47]⟩, ⟨[.op 3 0, .op 4 0], _, [], Lr 5, [48]⟩, ⟨[.op 5 0], _, [], Lr 6, [42]⟩]) (F := [.old 0, .old 1, .old 2, .old 3, .old 4, .old 5, .op 6 0]) hst hb Zb
         (o_p rfl (Ze Zhl rfl rfl u_0) <| o_p rfl (Zf ty_3 rfl rfl u_0) <| o_p rfl (Zby rfl rfl u_0 c_i) <| o_p rfl (Za rfl rfl u_0) <| o_g (g_t rfl rfl rfl (fun hG => Zf ty_4 rfl rfl u_0)) <| o_p rfl (Zbp rfl rfl u_0 (fun hz => (Opd.gd hz u_1))) <| o_p rfl (Zc rfl rfl u_0) <| o_n) (by kernel_rfl) (fun a g hst hb => ?_)
       refine wp_cond_split (hst.bool 6 rfl) (fun hc16 => ?_) (fun hc16 => ?_)
       · replace H0 := Zz hc16 H0
         obtain ⟨r17, h18, H0⟩ := Zh H0
         refine r_s (L := [(3, _), (4, _), (6, _), (8, _), (9, _)]) (T := [⟨[.old 4], _, [], [], [49]⟩, ⟨[.op 0 0, .old 0], [(50, (pTup [(Zi.pd r17.1), (Zbc r17.2.1), (Zs.pd r17.2.2.1)])), (3, (pBox Zi 3 r17.2.2.2))], [4], [0], [3, 9, 49, 50]⟩, ⟨[.op 1 0], _, [], [0, 1], [51]⟩, ⟨[.op 1 0], _, [], [0, 1], [52]⟩, ⟨[.op 1 0], _, [], [0, 1], [53]⟩, ⟨[.op 2 0, .old 2], _, [7], Lr 5, [6]⟩, ⟨[.op 3 0], _, [], Lr 6, [7]⟩, ⟨[.op 4 0, .old 3], _, [9], Lr 7, [8]⟩]) (F := [.op 1 1, .old 1, .op 5 0, .op 6 0, .op 7 0]) (hst.pick [0, 1, 3, 4, 5] rfl) hb Zb
           (o_p rfl (Za rfl rfl u_0) <| o_p rfl (Zku (Ps := [.val (pInt .i64 (7 : Int))]) (hs := []) (ks := [(3, none, 3)]) Zsq (Zhx _ _ _ h18) rfl rfl rfl u_0 (.val c_i .nil) (.box u_1 rfl (.val .nil)) rfl rfl rfl rfl) <| o_p rfl (Z4 rfl rfl u_0 rfl) <| o_p rfl (Z4 rfl rfl u_0 rfl) <| o_p rfl (Z4 rfl rfl u_0 rfl) <| o_p rfl (Z6 Zbf rfl rfl u_1 u_0) <| o_p rfl (Zc rfl rfl u_0) <| o_p rfl (Z6 Zcm rfl rfl u_1 u_0) <| o_n) (by kernel_rfl) (fun a g hst hb => ?_)
         refine wp_ret ?_
         refine Z1 ?_
         refine Zr ?_
         obtain rfl := Option.some.inj H0
         obtain ⟨u0, hu0, hq0⟩ := Zbe (P := Tryd.prog) Zbf (hst.at 2 rfl)
         obtain ⟨u2, hu2, hq2⟩ := Zbe (P := Tryd.prog) Zcm (hst.at 4 rfl)
         exact Zjr rfl hst hb hu0 (Zl (s := 7)) hu2 (Zhv hq0 (hst.at 3 rfl) hq2)
       · replace H0 := Z0 hc16 H0
         refine r_s (L := [(3, _), (4, _), (5, _), (6, _), (8, _), (9, _)]) (T := [⟨[.old 2], _, [], [], [55]⟩, ⟨[.op 0 0], _, [], [0], [56]⟩, ⟨[.op 1 0], _, [], [0, 1], [57]⟩, ⟨[.op 2 0], _, [], [0, 1, 2], [54]⟩]) (F := [.old 0, .old 1, .old 2, .old 3, .old 4, .old 5, .op 3 0]) (hst.pick [0, 1, 2, 3, 4, 5] rfl) hb Zb
           (o_p rfl (Ze Zhl rfl rfl u_0) <| o_p rfl (Zf ty_3 rfl rfl u_0) <| o_p rfl (Zby rfl rfl u_0 c_i) <| o_p rfl (Zc rfl rfl u_0) <| o_n) (by kernel_rfl) (fun a g hst hb => ?_)
         refine wp_cond_split (hst.bool 6 rfl) (fun hc19 => ?_) (fun hc19 => ?_)
         · replace H0 := Zz hc19 H0
           obtain ⟨r20, h21, H0⟩ := Zh H0
           refine r_s (L := [(3, _), (4, _), (5, _), (6, _), (8, _)]) (T := [⟨[.old 2], _, [], [], [58]⟩, ⟨[.op 0 0], _, [], [0], [59]⟩, ⟨[.op 1 0], _, [], [0, 1], [60]⟩, ⟨[], _, [], [], [61]⟩, ⟨[.op 2 0, .old 3], _, [7], [0, 1, 2], [6]⟩, ⟨[], _, [], [0, 1, 2, 4], [7]⟩, ⟨[.op 3 0, .old 4], _, [9], Lr 6, [8]⟩]) (F := [.old 0, .old 1, .op 4 0, .op 5 0, .op 6 0]) (hst.pick [0, 1, 2, 3, 4] rfl) hb Zb
             (o_p rfl (Ze Zte rfl rfl u_0) <| o_p rfl (Zf Zbf rfl rfl u_0) <| o_p rfl (Zq Zmt (Zgh _ h21) rfl rfl (.cons u_0 .nil)) <| o_p rfl (Z0z rfl rfl ) <| o_p rfl (Z6 Zbf rfl rfl u_1 u_0) <| o_p rfl (Zc rfl rfl c_b) <| o_p rfl (Z6 Zcm rfl rfl u_1 u_0) <| o_n) (by kernel_rfl) (fun a g hst hb => ?_)
           refine wp_ret ?_
           refine Z1 ?_
           refine Zr ?_
           obtain rfl := Option.some.inj H0
           obtain ⟨u0, hu0, hq0⟩ := Zbe (P := Tryd.prog) Zbf (hst.at 2 rfl)
           obtain ⟨u2, hu2, hq2⟩ := Zbe (P := Tryd.prog) Zcm (hst.at 4 rfl)
           exact Zjr rfl hst hb hu0 (Zl (s := 7)) hu2 (Zhv hq0 (hst.at 3 rfl) hq2)
         · replace H0 := Z0 hc19 H0
           refine r_s (L := [(3, _), (4, _), (5, _), (6, _), (8, _), (9, _)]) (T := [⟨[.old 2], _, [], [], [63]⟩, ⟨[.op 0 0], _, [], [0], [64]⟩, ⟨[.op 1 0], _, [], [0, 1], [65]⟩, ⟨[.op 2 0], _, [], [0, 1, 2], [62]⟩]) (F := [.old 0, .old 1, .old 2, .old 3, .old 4, .old 5, .op 3 0]) (hst.pick [0, 1, 2, 3, 4, 5] rfl) hb Zb
             (o_p rfl (Ze Zhl rfl rfl u_0) <| o_p rfl (Zf ty_3 rfl rfl u_0) <| o_p rfl (Zby rfl rfl u_0 c_i) <| o_p rfl (Zc rfl rfl u_0) <| o_n) (by kernel_rfl) (fun a g hst hb => ?_)
           refine wp_cond_split (hst.bool 6 rfl) (fun hc22 => ?_) (fun hc22 => ?_)
           · replace H0 := Zz hc22 H0
             refine r_s (L := [(3, _), (4, _), (6, _), (8, _)]) (T := [⟨[.old 0], _, [], [], [66]⟩, ⟨[.old 1], _, [], [], [67]⟩, ⟨[.old 0], _, [], [], [68]⟩, ⟨[.op 2 0], _, [], [2], [69]⟩, ⟨[.op 3 0], _, [], [2, 3], [70]⟩, ⟨[.op 0 0, .old 2], _, [7], [0], [6]⟩, ⟨[.op 1 0], _, [], [0, 1, 5], [7]⟩, ⟨[.op 4 0, .old 3], _, [9], Lr 7, [8]⟩]) (F := [.old 0, .old 1, .op 5 0, .op 6 0, .op 7 0]) (hst.pick [0, 1, 3, 4] rfl) hb Zb
               (o_p rfl (Zca Zbf rfl rfl u_0) <| o_p rfl (Zf ty_4 rfl rfl u_0) <| o_p rfl (Z8 Zfr (off := 0) (by kernel_rfl) rfl rfl u_0) <| o_p rfl (Zci ty_3 rfl rfl u_0) <| o_p rfl (Z3k rfl rfl u_0) <| o_p rfl (Z6 Zbf rfl rfl u_1 u_0) <| o_p rfl (Zc rfl rfl u_0) <| o_p rfl (Z6 Zcm rfl rfl u_1 u_0) <| o_n) (by kernel_rfl) (fun a g hst hb => ?_)
             refine wp_ret ?_
             refine Z1 ?_
             refine Zr ?_
             obtain rfl := Option.some.inj H0
             obtain ⟨u0, hu0, hq0⟩ := Zbe (P := Tryd.prog) Zbf (hst.at 2 rfl)
             obtain ⟨u2, hu2, hq2⟩ := Zbe (P := Tryd.prog) Zcm (hst.at 4 rfl)
             exact Zjr rfl hst hb hu0 (Zl (s := 7)) hu2 (Zhv hq0 (hst.at 3 rfl) hq2)
           · replace H0 := Z0 hc22 H0
             refine r_s (L := [(3, _), (4, _), (5, _), (6, _), (8, _), (9, _)]) (T := [⟨[.old 1], _, [], [], [72]⟩, ⟨[.op 0 0], _, [], [0], [73]⟩, ⟨[.op 1 0], _, [], [0, 1], [71]⟩]) (F := [.old 0, .old 1, .old 2, .old 3, .old 4, .old 5, .op 2 0]) (hst.pick [0, 1, 2, 3, 4, 5] rfl) hb Zb
               (o_p rfl (Zf ty_4 rfl rfl u_0) <| o_p rfl (Zcs rfl rfl u_0) <| o_p rfl (Zc rfl rfl u_0) <| o_n) (by kernel_rfl) (fun a g hst hb => ?_)
             refine wp_cond_split (hst.bool 6 rfl) (fun hc23 => ?_) (fun hc23 => ?_)
             · replace H0 := Zz hc23 H0
               obtain ⟨r24, h25, H0⟩ := Zh H0
               refine r_s (L := [(3, _), (4, _), (6, _), (8, _), (9, _)]) (T := [⟨[.old 4], _, [], [], [74]⟩, ⟨[.op 0 0, .old 0], [(75, (pTup [(Zi.pd r24.1), (Zbc r24.2.1), (Zs.pd r24.2.2.1)])), (3, (pBox Zi 3 r24.2.2.2))], [4], [0], [3, 9, 74, 75]⟩, ⟨[.op 1 0], _, [], [0, 1], [76]⟩, ⟨[.op 1 0], _, [], [0, 1], [77]⟩, ⟨[.op 1 0], _, [], [0, 1], [78]⟩, ⟨[.op 2 0, .old 2], _, [7], Lr 5, [6]⟩, ⟨[.op 3 0], _, [], Lr 6, [7]⟩, ⟨[.op 4 0, .old 3], _, [9], Lr 7, [8]⟩]) (F := [.op 1 1, .old 1, .op 5 0, .op 6 0, .op 7 0]) (hst.pick [0, 1, 3, 4, 5] rfl) hb Zb
                 (o_p rfl (Za rfl rfl u_0) <| o_p rfl (Zku (Ps := [.val (pInt .i64 (6 : Int))]) (hs := []) (ks := [(3, none, 3)]) Zsq (Zhx _ _ _ h25) rfl rfl rfl u_0 (.val c_i .nil) (.box u_1 rfl (.val .nil)) rfl rfl rfl rfl) <| o_p rfl (Z4 rfl rfl u_0 rfl) <| o_p rfl (Z4 rfl rfl u_0 rfl) <| o_p rfl (Z4 rfl rfl u_0 rfl) <| o_p rfl (Z6 Zbf rfl rfl u_1 u_0) <| o_p rfl (Zc rfl rfl u_0) <| o_p rfl (Z6 Zcm rfl rfl u_1 u_0) <| o_n) (by kernel_rfl) (fun a g hst hb => ?_)
               refine wp_ret ?_
               refine Z1 ?_
               refine Zr ?_
               obtain rfl := Option.some.inj H0
               obtain ⟨u0, hu0, hq0⟩ := Zbe (P := Tryd.prog) Zbf (hst.at 2 rfl)
               obtain ⟨u2, hu2, hq2⟩ := Zbe (P := Tryd.prog) Zcm (hst.at 4 rfl)
               exact Zjr rfl hst hb hu0 (Zl (s := 7)) hu2 (Zhv hq0 (hst.at 3 rfl) hq2)
             · replace H0 := Z0 hc23 H0
               refine r_s (L := [(3, _), (4, _), (5, _), (6, _), (8, _), (9, _)]) (T := [⟨[.old 2], _, [], [], [80]⟩, ⟨[.op 0 0], _, [], [0], [81]⟩, ⟨[.op 1 0], _, [], [0, 1], [82]⟩, ⟨[.op 2 0], _, [], [0, 1, 2], [79]⟩]) (F := [.old 0, .old 1, .old 2, .old 3, .old 4, .old 5, .op 3 0]) (hst.pick [0, 1, 2, 3, 4, 5] rfl) hb Zb
                 (o_p rfl (Ze Zhl rfl rfl u_0) <| o_p rfl (Zf ty_3 rfl rfl u_0) <| o_p rfl (Zby rfl rfl u_0 c_i) <| o_p rfl (Zc rfl rfl u_0) <| o_n) (by kernel_rfl) (fun a g hst hb => ?_)
               refine wp_cond_split (hst.bool 6 rfl) (fun hc26 => ?_) (fun hc26 => ?_)
               · replace H0 := Zz hc26 H0
                 refine r_s (L := [(3, _), (4, _), (6, _), (8, _)]) (T := [⟨[], _, [], [], [83]⟩, ⟨[], _, [], [], [84]⟩, ⟨[.op 0 0, .old 2], _, [7], [0], [6]⟩, ⟨[], _, [], [0, 2], [7]⟩, ⟨[.op 1 0, .old 3], _, [9], Lr 4, [8]⟩]) (F := [.old 0, .old 1, .op 2 0, .op 3 0, .op 4 0]) (hst.pick [0, 1, 3, 4] rfl) hb Zb
                   (o_p rfl (Zpf rfl rfl ) <| o_p rfl (Z0z rfl rfl ) <| o_p rfl (Z6 Zbf rfl rfl u_1 u_0) <| o_p rfl (Zc rfl rfl c_b) <| o_p rfl (Z6 Zcm rfl rfl u_1 u_0) <| o_n) (by kernel_rfl) (fun a g hst hb => ?_)
                 refine wp_ret ?_
                 refine Z1 ?_
                 refine Zr ?_
                 obtain rfl := Option.some.inj H0
                 obtain ⟨u0, hu0, hq0⟩ := Zbe (P := Tryd.prog) Zbf (hst.at 2 rfl)
                 obtain ⟨u2, hu2, hq2⟩ := Zbe (P := Tryd.prog) Zcm (hst.at 4 rfl)
                 exact Zjr rfl hst hb hu0 (Zl (s := 7)) hu2 (Zhv hq0 (hst.at 3 rfl) hq2)
               · replace H0 := Z0 hc26 H0
                 refine r_s (L := [(3, _), (4, _), (5, _), (6, _), (8, _), (9, _)]) (T := [⟨[.old 2], _, [], [], [86]⟩, ⟨[.op 0 0], _, [], [0], [87]⟩, ⟨[.op 1 0], _, [], [0, 1], [88]⟩, ⟨[.op 2 0], _, [], [0, 1, 2], [85]⟩]) (F := [.old 0, .old 1, .old 2, .old 3, .old 4, .old 5, .op 3 0]) (hst.pick [0, 1, 2, 3, 4, 5] rfl) hb Zb
                   (o_p rfl (Ze Zhl rfl rfl u_0) <| o_p rfl (Zf ty_3 rfl rfl u_0) <| o_p rfl (Zby rfl rfl u_0 c_i) <| o_p rfl (Zc rfl rfl u_0) <| o_n) (by kernel_rfl) (fun a g hst hb => ?_)
                 refine wp_cond_split (hst.bool 6 rfl) (fun hc27 => ?_) (fun hc27 => ?_)
                 · replace H0 := Zz hc27 H0
                   obtain ⟨r28, h29, H0⟩ := Zh H0
                   refine r_s (L := [(3, _), (4, _), (6, _), (8, _)]) (T := [⟨[.old 0], _, [], [], [89]⟩, ⟨[.old 1], _, [], [], [90]⟩, ⟨[.old 0], _, [], [], [91]⟩, ⟨[.op 2 0], _, [], [2], [92]⟩, ⟨[.op 3 0], _, [], [2, 3], [93]⟩, ⟨[.op 0 0, .old 2], _, [7], [0, 2, 3], [6]⟩, ⟨[.op 1 0], _, [], [0, 1, 2, 3, 5], [7]⟩, ⟨[.op 4 0, .old 3], _, [9], Lr 7, [8]⟩]) (F := [.old 0, .old 1, .op 5 0, .op 6 0, .op 7 0]) (hst.pick [0, 1, 3, 4] rfl) hb Zb
                     (o_p rfl (Zca Zbf rfl rfl u_0) <| o_p rfl (Zf ty_4 rfl rfl u_0) <| o_p rfl (Zca Zbf rfl rfl u_0) <| o_p rfl (Zq Zmt (Zgh _ h29) rfl rfl (.cons u_0 .nil)) <| o_p rfl (Z3g rfl rfl u_0) <| o_p rfl (Z6 Zbf rfl rfl u_1 u_0) <| o_p rfl (Zc rfl rfl u_0) <| o_p rfl (Z6 Zcm rfl rfl u_1 u_0) <| o_n) (by kernel_rfl) (fun a g hst hb => ?_)
                   refine wp_ret ?_
                   refine Z1 ?_
                   refine Zr ?_
                   obtain rfl := Option.some.inj H0
                   obtain ⟨u0, hu0, hq0⟩ := Zbe (P := Tryd.prog) Zbf (hst.at 2 rfl)
                   obtain ⟨u2, hu2, hq2⟩ := Zbe (P := Tryd.prog) Zcm (hst.at 4 rfl)
                   exact Zjr rfl hst hb hu0 (Zl (s := 7)) hu2 (Zhv hq0 (hst.at 3 rfl) hq2)
                 · replace H0 := Z0 hc27 H0
                   obtain ⟨r30, h31, H0⟩ := Zh H0
                   refine r_s (L := [(3, _), (4, _), (5, _), (6, _), (8, _), (9, _)]) (T := [⟨[.old 2], _, [], [], [95]⟩, ⟨[.op 0 0], _, [], [0], [96]⟩, ⟨[.op 1 0], _, [], [0, 1], [97]⟩, ⟨[.old 0], _, [], [], [98]⟩, ⟨[.op 3 0], _, [], [3], [99]⟩, ⟨[.op 2 0, .op 4 0], _, [], Lr 5, [100]⟩, ⟨[.op 5 0], _, [], Lr 6, [94]⟩]) (F := [.old 0, .old 1, .old 2, .old 3, .old 4, .old 5, .op 6 0]) (hst.pick [0, 1, 2, 3, 4, 5] rfl) hb Zb
                     (o_p rfl (Ze Zhl rfl rfl u_0) <| o_p rfl (Zf ty_3 rfl rfl u_0) <| o_p rfl (Zq Z60 (Zz7 _ h31) rfl rfl (.cons u_0 .nil)) <| o_p rfl (Z8 Zfr (off := 0) (by kernel_rfl) rfl rfl u_0) <| o_p rfl (Zci ty_3 rfl rfl u_0) <| o_p rfl (Zfg rfl rfl u_0 u_1) <| o_p rfl (Zc rfl rfl u_0) <| o_n) (by kernel_rfl) (fun a g hst hb => ?_)
                   refine wp_cond_split (hst.bool 6 rfl) (fun hc32 => ?_) (fun hc32 => ?_)
                   · replace H0 := Zz hc32 H0
                     obtain ⟨r33, h34, H0⟩ := Zh H0
                     refine r_s (L := [(3, _), (4, _), (6, _), (8, _), (9, _)]) (T := [⟨[.old 4], _, [], [], [101]⟩, ⟨[.op 0 0, .old 0], [(102, (pTup [(Zi.pd r33.1), (Zbc r33.2.1), (Zs.pd r33.2.2.1)])), (3, (pBox Zi 3 r33.2.2.2))], [4], [0], [3, 9, 101, 102]⟩, ⟨[.op 1 0], _, [], [0, 1], [103]⟩, ⟨[.op 1 0], _, [], [0, 1], [104]⟩, ⟨[.op 1 0], _, [], [0, 1], [105]⟩, ⟨[.op 2 0, .old 2], _, [7], Lr 5, [6]⟩, ⟨[.op 3 0], _, [], Lr 6, [7]⟩, ⟨[.op 4 0, .old 3], _, [9], Lr 7, [8]⟩]) (F := [.op 1 1, .old 1, .op 5 0, .op 6 0, .op 7 0]) (hst.pick [0, 1, 3, 4, 5] rfl) hb Zb
                       (o_p rfl (Za rfl rfl u_0) <| o_p rfl (Zku (Ps := [.val (pInt .i64 (5 : Int))]) (hs := []) (ks := [(3, none, 3)]) Zsq (Zhx _ _ _ h34) rfl rfl rfl u_0 (.val c_i .nil) (.box u_1 rfl (.val .nil)) rfl rfl rfl rfl) <| o_p rfl (Z4 rfl rfl u_0 rfl) <| o_p rfl (Z4 rfl rfl u_0 rfl) <| o_p rfl (Z4 rfl rfl u_0 rfl) <| o_p rfl (Z6 Zbf rfl rfl u_1 u_0) <| o_p rfl (Zc rfl rfl u_0) <| o_p rfl (Z6 Zcm rfl rfl u_1 u_0) <| o_n) (by kernel_rfl) (fun a g hst hb => ?_)
                     refine wp_ret ?_
                     refine Z1 ?_
                     refine Zr ?_
                     obtain rfl := Option.some.inj H0
                     obtain ⟨u0, hu0, hq0⟩ := Zbe (P := Tryd.prog) Zbf (hst.at 2 rfl)
                     obtain ⟨u2, hu2, hq2⟩ := Zbe (P := Tryd.prog) Zcm (hst.at 4 rfl)
                     exact Zjr rfl hst hb hu0 (Zl (s := 7)) hu2 (Zhv hq0 (hst.at 3 rfl) hq2)
                   · replace H0 := Z0 hc32 H0
                     refine wp_skip ?_
                     refine Zbr ?_
                     refine Zu ?_
                     obtain ⟨r35, h36, H0⟩ := Zh H0
                     refine r_s (L := [(3, _), (4, _), (5, _), (6, _), (8, _)]) (T := [⟨[.old 0], _, [], [], [106]⟩, ⟨[.op 0 0], _, [], [0], [107]⟩, ⟨[], [(12, (pBox Zi 12 (default : Zd)))], [13], [], [12]⟩, ⟨[.op 1 0, .op 2 0], _, [13], [0, 1, 2], [12]⟩]) (F := [.old 0, .old 1, .old 2, .old 3, .old 4, .op 3 0]) (hst.pick [0, 1, 2, 3, 4] rfl) hb Zb
                       (o_p rfl (Zca Zbf rfl rfl u_0) <| o_p rfl (Zq Zmt (Zgh _ h36) rfl rfl (.cons u_0 .nil)) <| o_p rfl (Zbi (zs := [.int .i64 0, .int .i64 0, .int .i64 0, .int .i64 0, .float .f64 0, .int .i64 0, .string ByteArray.empty, .slice none 0 0]) (by kernel_rfl) (fun g => Zb5 g) rfl rfl) <| o_p rfl (Zb9 Zbf rfl rfl u_1 u_0) <| o_n) (by kernel_rfl) (fun a g hst hb => ?_)
                     refine r_s (T := [⟨[], [(13, (pBox Zs 13 (default : Zg)))], [14], [], [13]⟩]) (F := [.old 0, .old 1, .old 2, .old 3, .old 4, .old 5, .op 0 0]) hst hb Zb
                       (o_p rfl (Zbi (zs := [.int .i64 0, .int .i64 0, .int .i64 0, .int .i64 0, .int .i64 0, .int .i64 0, .float .f64 0, .int .i64 0, .string ByteArray.empty, .slice none 0 0]) (by kernel_rfl) (fun g => Zfu g) rfl rfl) <| o_n) (by kernel_rfl) (fun a g hst hb => ?_)
                     refine wp_seq ?_
                     obtain ⟨h37, H0⟩ := Zj5 H0; obtain ⟨r38, h39, H0⟩ := Zh H0
                     refine r_s (T := [⟨[], _, [], [], [108]⟩, ⟨[.old 2], _, [], [], [109]⟩, ⟨[.op 1 0], _, [], [1], [110]⟩, ⟨[.op 0 0, .op 2 0], [(111, (pFun Tryd.prog (Phi a2.Kind)))], [], [0, 1, 2], [111]⟩, ⟨[.old 2], _, [], [], [112]⟩, ⟨[.op 3 0, .old 0, .op 4 0, .old 6], [(113, (pInt .i64 r38.1)), (3, (pBox Zi 3 r38.2.1)), (13, (pBox Zs 13 r38.2.2))], [4, 14], Lr 5, [3, 13, 113]⟩, ⟨[.op 5 0], _, [], Lr 6, [14]⟩]) (F := [.op 5 1, .old 1, .old 3, .old 4, .old 5, .op 5 2, .op 6 0]) hst hb Zb
                       (o_p rfl (Zq Z7j Zro rfl rfl .nil) <| o_p rfl (Ze Zhl rfl rfl u_0) <| o_p rfl (Zf ty_3 rfl rfl u_0) <| o_p rfl (Zw9 Tryd.underlying116 (by kernel_rfl) ⟨_, Tryd.underlying115, rfl⟩ (by have := h37; omega) (Z5x h37) (by have := h37; omega) rfl rfl u_0 u_1) <| o_p rfl (Zf Zj8 rfl rfl u_0) <| o_p rfl (Zyz (hs := [(3, none, 3), (13, none, 13)]) (Z3m h39) rfl rfl rfl u_0 (.box u_1 u_1 rfl (.val u_2 (.box u_3 u_3 rfl .nil))) rfl rfl rfl) <| o_p rfl (Zc rfl rfl u_0) <| o_n) (by kernel_rfl) (fun a g hst hb => ?_)
                     refine r_s (T := [⟨[.old 6], _, [], [], [114]⟩, ⟨[.op 0 0], _, [], [0], [115]⟩]) (F := [.old 0, .old 1, .old 2, .old 3, .old 4, .old 5, .old 6, .op 1 0]) hst hb Zb
                       (o_p rfl (Za rfl rfl u_0) <| o_p rfl (Zfg rfl rfl u_0 c_i) <| o_n) (by kernel_rfl) (fun a g hst hb => ?_)
                     refine wp_cond_split (hst.bool 7 rfl) (fun hc40 => ?_) (fun hc40 => ?_)
                     · replace H0 := Zz hc40 H0
                       refine r_s (L := [(3, _), (4, _), (6, _), (8, _), (12, _), (14, _)]) (T := [⟨[.old 4], _, [], [], [116]⟩, ⟨[.old 1], _, [], [], [117]⟩, ⟨[.old 5], _, [], [], [118]⟩, ⟨[.op 2 0], _, [], [2], [119]⟩, ⟨[.op 0 0, .old 2], _, [7], [0], [6]⟩, ⟨[.op 1 0], _, [], [0, 1, 4], [7]⟩, ⟨[.op 3 0, .old 3], _, [9], Lr 6, [8]⟩]) (F := [.old 0, .old 1, .op 4 0, .op 5 0, .op 6 0]) (hst.pick [0, 1, 2, 3, 4, 6] rfl) hb Zb
                         (o_p rfl (Zf Zbf rfl rfl u_0) <| o_p rfl (Zf ty_4 rfl rfl u_0) <| o_p rfl (Za rfl rfl u_0) <| o_p rfl (Zsx rfl rfl u_0) <| o_p rfl (Z6 Zbf rfl rfl u_1 u_0) <| o_p rfl (Zc rfl rfl u_0) <| o_p rfl (Z6 Zcm rfl rfl u_1 u_0) <| o_n) (by kernel_rfl) (fun a g hst hb => ?_)
                       refine wp_ret ?_
                       refine Zr ?_
                       obtain rfl := Option.some.inj H0
                       obtain ⟨u0, hu0, hq0⟩ := Zbe (P := Tryd.prog) Zbf (hst.at 2 rfl)
                       obtain ⟨u2, hu2, hq2⟩ := Zbe (P := Tryd.prog) Zcm (hst.at 4 rfl)
                       exact Zjr rfl hst hb hu0 (Zl (s := 7)) hu2 (Zhv hq0 (hst.at 3 rfl) hq2)
                     · replace H0 := Z0 hc40 H0
                       refine wp_skip ?_
                       refine Zu ?_
                       refine r_s (L := [(3, _), (4, _), (6, _), (8, _), (13, _)]) (T := [⟨[.old 0], _, [], [], [120]⟩, ⟨[.old 1], _, [], [], [121]⟩, ⟨[.old 4], _, [], [], [122]⟩, ⟨[.op 0 0, .old 2], _, [7], [0], [6]⟩, ⟨[.op 1 0], _, [], [0, 1, 3], [7]⟩, ⟨[.op 2 0, .old 3], _, [9], Lr 5, [8]⟩]) (F := [.old 0, .old 1, .op 3 0, .op 4 0, .op 5 0]) (hst.pick [0, 1, 2, 3, 5] rfl) hb Zb
                         (o_p rfl (Zca Zbf rfl rfl u_0) <| o_p rfl (Zf ty_4 rfl rfl u_0) <| o_p rfl (Zca Zcm rfl rfl u_0) <| o_p rfl (Z6 Zbf rfl rfl u_1 u_0) <| o_p rfl (Zc rfl rfl u_0) <| o_p rfl (Z6 Zcm rfl rfl u_1 u_0) <| o_n) (by kernel_rfl) (fun a g hst hb => ?_)
                       refine wp_ret ?_
                       obtain rfl := Option.some.inj H0
                       obtain ⟨u0, hu0, hq0⟩ := Zbe (P := Tryd.prog) Zbf (hst.at 2 rfl)
                       obtain ⟨u2, hu2, hq2⟩ := Zbe (P := Tryd.prog) Zcm (hst.at 4 rfl)
                       exact Zjr rfl hst hb hu0 (Zl (s := 7)) hu2 (Zhv hq0 (hst.at 3 rfl) hq2)
     · refine wp_cond_split (hst.bool 6 rfl) (fun hc10 => ?_) (fun hc10 => ?_)
       · replace H0 := Zz hc10 H0
         obtain ⟨r11, h12, H0⟩ := Zh H0
         refine r_s (L := [(3, _), (4, _), (5, _), (6, _), (8, _), (9, _)]) (T := [⟨[.old 0], _, [], [], [32]⟩, ⟨[.op 0 0], _, [], [0], [33]⟩, ⟨[.op 1 0], _, [], [0, 1], [11]⟩]) (F := [.old 0, .old 1, .old 2, .old 3, .old 4, .old 5, .op 2 0]) (hst.pick [0, 1, 2, 3, 4, 5] rfl) hb Zb
           (o_p rfl (Zca Zbf rfl rfl u_0) <| o_p rfl (Zq Zzf (Zl9 _ h12) rfl rfl (.cons u_0 .nil)) <| o_p rfl (Zc rfl rfl u_0) <| o_n) (by kernel_rfl) (fun a g hst hb => ?_)
         refine r_s (T := [⟨[.old 6], _, [], [], [34]⟩, ⟨[.op 0 0], _, [], [0], [35]⟩]) (F := [.old 0, .old 1, .old 2, .old 3, .old 4, .old 5, .old 6, .op 1 0]) hst hb Zb
           (o_p rfl (Za rfl rfl u_0) <| o_p rfl (Zfg rfl rfl u_0 c_i) <| o_n) (by kernel_rfl) (fun a g hst hb => ?_)
         refine wp_cond_split (hst.bool 7 rfl) (fun hc13 => ?_) (fun hc13 => ?_)
         · replace H0 := Zz hc13 H0
           obtain ⟨r14, h15, H0⟩ := Zh H0
           refine r_s (L := [(3, _), (4, _), (6, _), (8, _), (9, _), (11, _)]) (T := [⟨[.old 4], _, [], [], [36]⟩, ⟨[.old 5], _, [], [], [37]⟩, ⟨[.op 0 0, .op 1 0, .old 0], [(38, (pTup [(Zi.pd r14.1), (Zbc r14.2.1), (Zs.pd r14.2.2.1)])), (3, (pBox Zi 3 r14.2.2.2))], [4], [0, 1], [3, 9, 36, 38]⟩, ⟨[.op 2 0], _, [], [0, 1, 2], [39]⟩, ⟨[.op 2 0], _, [], [0, 1, 2], [40]⟩, ⟨[.op 2 0], _, [], [0, 1, 2], [41]⟩, ⟨[.op 3 0, .old 2], _, [7], Lr 6, [6]⟩, ⟨[.op 4 0], _, [], Lr 7, [7]⟩, ⟨[.op 5 0, .old 3], _, [9], Lr 8, [8]⟩]) (F := [.op 2 1, .old 1, .op 6 0, .op 7 0, .op 8 0]) (hst.pick [0, 1, 3, 4, 5, 6] rfl) hb Zb
             (o_p rfl (Za rfl rfl u_0) <| o_p rfl (Za rfl rfl u_0) <| o_p rfl (Zku (Ps := [.val (pInt .i64 r11)]) (hs := []) (ks := [(3, none, 3)]) Zsq (Zhx _ _ _ h15) rfl rfl rfl u_0 (.val u_1 .nil) (.box u_2 rfl (.val .nil)) rfl rfl rfl rfl) <| o_p rfl (Z4 rfl rfl u_0 rfl) <| o_p rfl (Z4 rfl rfl u_0 rfl) <| o_p rfl (Z4 rfl rfl u_0 rfl) <| o_p rfl (Z6 Zbf rfl rfl u_1 u_0) <| o_p rfl (Zc rfl rfl u_0) <| o_p rfl (Z6 Zcm rfl rfl u_1 u_0) <| o_n) (by kernel_rfl) (fun a g hst hb => ?_)
           refine wp_ret ?_
           refine Zr ?_
           refine Zr ?_
           obtain rfl := Option.some.inj H0
           obtain ⟨u0, hu0, hq0⟩ := Zbe (P := Tryd.prog) Zbf (hst.at 2 rfl)
           obtain ⟨u2, hu2, hq2⟩ := Zbe (P := Tryd.prog) Zcm (hst.at 4 rfl)
           exact Zjr rfl hst hb hu0 (Zl (s := 7)) hu2 (Zhv hq0 (hst.at 3 rfl) hq2)
         · replace H0 := Z0 hc13 H0
           refine wp_skip ?_
           exact ⟨g, rfl, (hst.pick [0, 1, 2, 3, 4, 5] rfl), hb, H0⟩
       · replace H0 := Z0 hc10 H0
         refine wp_skip ?_
         exact ⟨g, rfl, (hst.pick [0, 1, 2, 3, 4, 5] rfl), hb, H0⟩
 · refine wp_cond_split (hst.bool 5 rfl) (fun hc1 => ?_) (fun hc1 => ?_)
   · replace H0 := Zz hc1 H0
     refine r_g (L := [(3, _), (4, _), (5, _), (6, _), (8, _)]) (T := [⟨[], _, [], [], [17]⟩, ⟨[.op 0 0, .old 0], _, [4], [0], [3]⟩]) (F := [.op 1 0, .old 1, .old 2, .old 3, .old 4]) (hst.pick [0, 1, 2, 3, 4] rfl) hb Zb
       (o_p rfl (Zpf rfl rfl ) <| o_p rfl (Z6 Zbf rfl rfl u_1 u_0) <| o_n) (by kernel_rfl) (fun a g hst hb => ?_)
     exact ⟨({ Kind := (0 : Int), Num := (0 : Int), Low := (0 : Int), High := (0 : Int), Real := (0 : Nat), Cap := (0 : Int), Text := ByteArray.empty, List := ([] : List Zj) } : Zd), g, rfl, (hst.pick [0, 1, 2, 3, 4] rfl), hb, H0⟩
   · replace H0 := Z0 hc1 H0
     refine wp_skip ?_
     exact ⟨a0, g, rfl, (hst.pick [0, 1, 2, 3, 4] rfl), hb, H0⟩
theorem Zu3 (a0 : Int) {r : Bool} (h : Zli a0 = some r) : FnOk Tryd.prog 31 [(pInt .i64 a0)] (Zbc r) := by
 have H0 := h
 unfold Zli at H0
 clear h
 refine Zbs (N := 21) Tryd.func31 rfl rfl (Nat.le_of_ble_eq_true rfl) rfl rfl (fun a g0 hst hb => ?_)
 refine r_s (T := [⟨[], _, [], [], [2]⟩]) (F := [.old 0]) hst hb Zb
   (o_p rfl (Zc rfl rfl c_b) <| o_n) (by kernel_rfl) (fun a g hst hb => ?_)
 refine r_s (T := ⟨[.old 0], _, [], [], [3]⟩ :: ⟨[.op 0 0], _, [], [0], [4]⟩ :: ⟨[.op 1 0], _, [], [0, 1], [5]⟩ :: ⟨[.op 2 0, .old 0], _, [], [0, 1, 2], [6]⟩ :: ⟨[.op 2 0, .op 3 0], _, [], Lr 4, [7]⟩ :: ⟨[.op 2 0, .op 4 0], _, [], Lr 5, [8]⟩ :: ⟨[.op 5 0], _, [], Lr 6, [9]⟩ :: ⟨[.op 6 0, .old 0], _, [], Lr 7, [10]⟩ :: ⟨[.op 6 0, .op 7 0], _, [], Lr 8, [11]⟩ :: ⟨[.op 6 0, .op 8 0], _, [], Lr 9, [12]⟩ :: ⟨[.op 9 0], _, [], Lr 10, [13]⟩ :: ⟨[.op 10 0, .old 0], _, [], Lr 11, [14]⟩ :: ⟨[.op 10 0, .op 11 0], _, [], Lr 12, [15]⟩ :: ⟨[.op 10 0, .op 12 0], _, [], Lr 13, [16]⟩ :: ⟨[.op 13 0], _, [], Lr 14, [17]⟩ :: ⟨[.op 14 0, .old 0], _, [], Lr 15, [18]⟩ :: ⟨[.op 14 0, .op 15 0], _, [], Lr 16, [19]⟩ :: ⟨[.op 14 0, .op 16 0], _, [], Lr 17, [20]⟩ :: ⟨[.op 17 0], _, [], Lr 18, [2]⟩ :: []) (F := [.op 18 0]) hst hb Zb
   (o_p rfl (Za rfl rfl u_0) <| o_p rfl (Zby rfl rfl u_0 c_i) <| o_p rfl (Za rfl rfl u_0) <| o_g (g_f rfl rfl rfl (fun hG => Za rfl rfl u_0)) <| o_g (g_f rfl rfl rfl (fun hG => Zby rfl rfl (Opd.gd hG u_0) c_i)) <| o_p rfl (Zbx rfl rfl u_0 (fun hz => (Opd.gd (bNF hz) u_1))) <| o_p rfl (Za rfl rfl u_0) <| o_g (g_f rfl rfl rfl (fun hG => Za rfl rfl u_0)) <| o_g (g_f rfl rfl rfl (fun hG => Zby rfl rfl (Opd.gd hG u_0) c_i)) <| o_p rfl (Zbx rfl rfl u_0 (fun hz => (Opd.gd (bNF hz) u_1))) <| o_p rfl (Za rfl rfl u_0) <| o_g (g_f rfl rfl rfl (fun hG => Za rfl rfl u_0)) <| o_g (g_f rfl rfl rfl (fun hG => Zby rfl rfl (Opd.gd hG u_0) c_i)) <| o_p rfl (Zbx rfl rfl u_0 (fun hz => (Opd.gd (bNF hz) u_1))) <| o_p rfl (Za rfl rfl u_0) <| o_g (g_f rfl rfl rfl (fun hG => Za rfl rfl u_0)) <| o_g (g_f rfl rfl rfl (fun hG => Zby rfl rfl (Opd.gd hG u_0) c_i)) <| o_p rfl (Zbx rfl rfl u_0 (fun hz => (Opd.gd (bNF hz) u_1))) <| o_p rfl (Zc rfl rfl u_0) <| o_n) (by kernel_rfl) (fun a g hst hb => ?_)
 refine wp_ret ?_
 obtain rfl := Option.some.inj H0
 exact Z3 rfl hst hb (Zl (s := 2)) (hst.at 0 rfl)
theorem Zoq (a0 : shelf_nodeT) {r : shelf_nodeT} (h : Zhh a0 = some r) : FnOk Tryd.prog 82 [(Zy.pd a0)] (Zy.pd r) := by
 have H0 := h
 unfold Zhh at H0
 clear h
 refine Zbs (N := 13) Tryd.func82 rfl rfl (Nat.le_of_ble_eq_true rfl) rfl rfl (fun a g0 hst hb => ?_)
 refine r_s (T := [⟨[], [(2, (Zy.pd shelf_nodeT.nil))], [], [], [2]⟩]) (F := [.old 0]) hst hb Zb
   (o_p rfl (Zc rfl rfl (Opd.c (fun g => Zdp g))) <| o_n) (by kernel_rfl) (fun a g hst hb => ?_)
 obtain ⟨z6, hz1, H0⟩ := Zh H0
 refine wp_seq ?_
 refine Zc2 (fun a w => ∃ (y5 : shelf_nodeT) (g : G), w = g.w ∧ St 13 [(0, (Zy.pd y5))] a g ∧ Base g0 g ∧ y5 = z6) ?_ ?_
 · rintro a w ⟨y5, g, rfl, hst, hb, rfl⟩
   refine Zu ?_
   refine r_s (T := [⟨[.old 0], _, [], [], [12]⟩, ⟨[.op 0 0], _, [], [0], [2]⟩]) (F := [.op 1 0]) hst hb Zb
     (o_p rfl (Za rfl rfl u_0) <| o_p rfl (Zc rfl rfl u_0) <| o_n) (by kernel_rfl) (fun a g hst hb => ?_)
   refine wp_ret ?_
   obtain rfl := Option.some.inj H0
   exact Z3 rfl hst hb (Zl (s := 2)) (hst.at 0 rfl)
 · refine wp_block ?_
   refine wp_loop_ghost (fun n a w => ∃ (x1 : shelf_nodeT) (g : G), w = g.w ∧ St 13 [(0, (Zy.pd x1))] a g ∧ Base g0 g ∧ Zed n x1 = some z6) (a0.hh + 1) ⟨a0, g, rfl, (hst.pick [0] rfl), hb, hz1⟩ (fun n a w hI => ?_)
   obtain ⟨x1, g, rfl, hst, hb, H1⟩ := hI
   cases n with
   | zero => exact absurd H1 (by simp [Zed])
   | succ n =>
     rw [Zed] at H1
     refine wp_seq ?_
     obtain ⟨n2, h3, H1⟩ := Zh H1
     refine r_s (T := [⟨[.old 0], _, [], [], [3]⟩, ⟨[.op 0 0], _, [], [0], [4]⟩, ⟨[.op 1 0], _, [], [0, 1], [5]⟩, ⟨[.op 2 0], _, [], [0, 1, 2], [6]⟩, ⟨[.op 3 0], _, [], Lr 4, [7]⟩]) (F := [.old 0, .op 4 0]) hst hb Zb
       (o_p rfl (Za rfl rfl u_0) <| o_p rfl (Zn rfl rfl (Opd.imp u_0 (fun _ _ h => Zo h3 h)) (fun _ _ ⟨_, _, _, e, _⟩ => ⟨_, e⟩)) <| o_p rfl (Ze Zd7 rfl rfl u_0) <| o_p rfl (Zf Zcn rfl rfl u_0) <| o_p rfl (Zvw Tryd.underlying24 rfl rfl u_0 (Zea _)) <| o_n) (by kernel_rfl) (fun a g hst hb => ?_)
     refine wp_cond_split (hst.bool 1 rfl) (fun hc4 => ?_) (fun hc4 => ?_)
     · replace H1 := Zz hc4 H1
       refine wp_skip ?_
       refine Zu ?_
       refine wp_block ?_
       refine r_g (L := [(0, _)]) (T := [⟨[.old 0], _, [], [], [8]⟩, ⟨[.op 0 0], _, [], [0], [9]⟩, ⟨[.op 1 0], _, [], [0, 1], [10]⟩, ⟨[.op 2 0], _, [], [0, 1, 2], [11]⟩, ⟨[.op 3 0], _, [], Lr 4, [0]⟩]) (F := [.op 4 0]) (hst.pick [0] rfl) hb Zb
         (o_p rfl (Za rfl rfl u_0) <| o_p rfl (Zn rfl rfl (Opd.imp u_0 (fun _ _ h => Zo h3 h)) (fun _ _ ⟨_, _, _, e, _⟩ => ⟨_, e⟩)) <| o_p rfl (Ze Zd7 rfl rfl u_0) <| o_p rfl (Zf Zcn rfl rfl u_0) <| o_p rfl (Zc rfl rfl u_0) <| o_n) (by kernel_rfl) (fun a g hst hb => ?_)
       refine Zbr ?_
       exact ⟨n, Nat.lt_succ_self _, n2.left, g, rfl, (hst.pick [0] rfl), hb, H1⟩
     · replace H1 := Z0 hc4 H1
       refine wp_exit ?_
       refine Zce ?_
       refine Zce ?_
       refine Zdc ?_
       exact ⟨x1, g, rfl, (hst.pick [0] rfl), hb, Option.some.inj H1⟩
theorem Zos (self : shelf_nodeT → ByteArray → Option (shelf_nodeT)) (hself : ∀ (a0 : shelf_nodeT) (a1 : ByteArray) {r : shelf_nodeT}, self a0 a1 = some r → FnOk Tryd.prog 53 [(Zy.pd a0), (pStr a1)] (Zy.pd r)) (a0 : shelf_nodeT) (a1 : ByteArray) {r : shelf_nodeT} (h : Zir self a0 a1 = some r) : FnOk Tryd.prog 53 [(Zy.pd a0), (pStr a1)] (Zy.pd r) := by
 have H0 := h
 unfold Zir at H0
 clear h
 refine Zbs (N := 108) Tryd.func53 rfl rfl (Nat.le_of_ble_eq_true rfl) rfl rfl (fun a g0 hst hb => ?_)
 refine r_s (T := [⟨[], [(4, (Zy.pd shelf_nodeT.nil))], [], [], [4]⟩]) (F := [.old 0, .old 1]) hst hb Zb
   (o_p rfl (Zc rfl rfl (Opd.c (fun g => Zdp g))) <| o_n) (by kernel_rfl) (fun a g hst hb => ?_)
 refine wp_seq ?_
 refine wp_block ?_
 refine r_s (T := [⟨[.old 0], _, [], [], [7]⟩, ⟨[.op 0 0], _, [], [0], [8]⟩, ⟨[.op 1 0], _, [], [0, 1], [6]⟩]) (F := [.old 0, .old 1, .op 2 0]) hst hb Zb
   (o_p rfl (Za rfl rfl u_0) <| o_p rfl (Znc Tryd.underlying24 rfl rfl u_0 (Zea _)) <| o_p rfl (Zc rfl rfl u_0) <| o_n) (by kernel_rfl) (fun a g hst hb => ?_)
 refine wp_cond_split (hst.bool 2 rfl) (fun hc1 => ?_) (fun hc1 => ?_)
 · replace H0 := Zz hc1 H0
   refine r_s (L := []) (T := [⟨[], [(4, (Zy.pd shelf_nodeT.nil))], [], [], [4]⟩]) (F := [.op 0 0]) (hst.pick [] rfl) hb Zb
     (o_p rfl (Zc rfl rfl (Opd.c (fun g => Zdp g))) <| o_n) (by kernel_rfl) (fun a g hst hb => ?_)
   refine wp_ret ?_
   refine Z1 ?_
   refine Zr ?_
   obtain rfl := Option.some.inj H0
   exact Z3 rfl hst hb (Zl (s := 4)) (hst.at 0 rfl)
 · replace H0 := Z0 hc1 H0
   obtain ⟨n2, h3, H0⟩ := Zh H0
   refine r_s (L := [(0, _), (1, _)]) (T := [⟨[.old 1], _, [], [], [10]⟩, ⟨[.old 0], _, [], [], [11]⟩, ⟨[.op 1 0], _, [], [1], [12]⟩, ⟨[.op 2 0], _, [], [1, 2], [13]⟩, ⟨[.op 3 0], _, [], [1, 2, 3], [14]⟩, ⟨[.op 0 0, .op 4 0], _, [], Lr 5, [15]⟩, ⟨[.op 5 0], _, [], Lr 6, [9]⟩]) (F := [.old 0, .old 1, .op 6 0]) (hst.pick [0, 1] rfl) hb Zb
     (o_p rfl (Za rfl rfl u_0) <| o_p rfl (Za rfl rfl u_0) <| o_p rfl (Zn rfl rfl (Opd.imp u_0 (fun _ _ h => Zo h3 h)) (fun _ _ ⟨_, _, _, e, _⟩ => ⟨_, e⟩)) <| o_p rfl (Ze Zeq rfl rfl u_0) <| o_p rfl (Zf ty_9 rfl rfl u_0) <| o_p rfl (Zll rfl rfl u_0 u_1) <| o_p rfl (Zc rfl rfl u_0) <| o_n) (by kernel_rfl) (fun a g hst hb => ?_)
   refine wp_cond_split (hst.bool 2 rfl) (fun hc4 => ?_) (fun hc4 => ?_)
   · replace H0 := Zz hc4 H0
     obtain ⟨r5, h6, H0⟩ := Zh H0; obtain ⟨r7, h8, H0⟩ := Zh H0
     refine r_s (L := [(0, _), (1, _)]) (T := ⟨[.old 0], _, [], [], [16]⟩ :: ⟨[.op 0 0], _, [], [0], [17]⟩ :: ⟨[.op 1 0], _, [], [0, 1], [18]⟩ :: ⟨[.op 2 0], _, [], [0, 1, 2], [19]⟩ :: ⟨[.old 0], _, [], [], [20]⟩ :: ⟨[.op 4 0], _, [], [4], [21]⟩ :: ⟨[.op 5 0], _, [], [4, 5], [22]⟩ :: ⟨[.op 6 0], _, [], [4, 5, 6], [23]⟩ :: ⟨[.old 0], _, [], [], [24]⟩ :: ⟨[.op 8 0], _, [], [8], [25]⟩ :: ⟨[.op 9 0], _, [], [8, 9], [26]⟩ :: ⟨[.op 10 0], _, [], [8, 9, 10], [27]⟩ :: ⟨[.old 1], _, [], [], [28]⟩ :: ⟨[.op 11 0, .op 12 0], _, [], List.range' 8 5, [29]⟩ :: ⟨[.old 0], _, [], [], [30]⟩ :: ⟨[.op 14 0], _, [], [14], [31]⟩ :: ⟨[.op 15 0], _, [], [14, 15], [32]⟩ :: ⟨[.op 16 0], _, [], [14, 15, 16], [33]⟩ :: ⟨[.op 3 0, .op 7 0, .op 13 0, .op 17 0], _, [], Lr 18, [34]⟩ :: ⟨[.op 18 0], _, [], Lr 19, [4]⟩ :: []) (F := [.op 19 0]) (hst.pick [0, 1] rfl) hb Zb
       (o_p rfl (Za rfl rfl u_0) <| o_p rfl (Zn rfl rfl (Opd.imp u_0 (fun _ _ h => Zo h3 h)) (fun _ _ ⟨_, _, _, e, _⟩ => ⟨_, e⟩)) <| o_p rfl (Ze Zeq rfl rfl u_0) <| o_p rfl (Zf ty_9 rfl rfl u_0) <| o_p rfl (Za rfl rfl u_0) <| o_p rfl (Zn rfl rfl (Opd.imp u_0 (fun _ _ h => Zo h3 h)) (fun _ _ ⟨_, _, _, e, _⟩ => ⟨_, e⟩)) <| o_p rfl (Ze Zhc rfl rfl u_0) <| o_p rfl (Zf Zbf rfl rfl u_0) <| o_p rfl (Za rfl rfl u_0) <| o_p rfl (Zn rfl rfl (Opd.imp u_0 (fun _ _ h => Zo h3 h)) (fun _ _ ⟨_, _, _, e, _⟩ => ⟨_, e⟩)) <| o_p rfl (Ze Zd7 rfl rfl u_0) <| o_p rfl (Zf Zcn rfl rfl u_0) <| o_p rfl (Za rfl rfl u_0) <| o_p rfl (Zq Zuw (hself _ _ h6) rfl rfl (.cons u_0 (.cons u_1 .nil))) <| o_p rfl (Za rfl rfl u_0) <| o_p rfl (Zn rfl rfl (Opd.imp u_0 (fun _ _ h => Zo h3 h)) (fun _ _ ⟨_, _, _, e, _⟩ => ⟨_, e⟩)) <| o_p rfl (Ze Zes rfl rfl u_0) <| o_p rfl (Zf Zcn rfl rfl u_0) <| o_p rfl (Zq Zr4 (Ziz _ _ _ _ h8) rfl rfl (.cons u_0 (.cons u_1 (.cons u_2 (.cons u_3 .nil))))) <| o_p rfl (Zc rfl rfl u_0) <| o_n) (by kernel_rfl) (fun a g hst hb => ?_)
     refine wp_ret ?_
     refine Z1 ?_
     refine Zr ?_
     obtain rfl := Option.some.inj H0
     exact Z3 rfl hst hb (Zl (s := 4)) (hst.at 0 rfl)
   · replace H0 := Z0 hc4 H0
     refine r_s (L := [(0, _), (1, _)]) (T := [⟨[.old 1], _, [], [], [36]⟩, ⟨[.old 0], _, [], [], [37]⟩, ⟨[.op 1 0], _, [], [1], [38]⟩, ⟨[.op 2 0], _, [], [1, 2], [39]⟩, ⟨[.op 3 0], _, [], [1, 2, 3], [40]⟩, ⟨[.op 0 0, .op 4 0], _, [], Lr 5, [41]⟩, ⟨[.op 5 0], _, [], Lr 6, [35]⟩]) (F := [.old 0, .old 1, .op 6 0]) (hst.pick [0, 1] rfl) hb Zb
       (o_p rfl (Za rfl rfl u_0) <| o_p rfl (Za rfl rfl u_0) <| o_p rfl (Zn rfl rfl (Opd.imp u_0 (fun _ _ h => Zo h3 h)) (fun _ _ ⟨_, _, _, e, _⟩ => ⟨_, e⟩)) <| o_p rfl (Ze Zeq rfl rfl u_0) <| o_p rfl (Zf ty_9 rfl rfl u_0) <| o_p rfl (Zrl rfl rfl u_0 u_1) <| o_p rfl (Zc rfl rfl u_0) <| o_n) (by kernel_rfl) (fun a g hst hb => ?_)
     refine wp_cond_split (hst.bool 2 rfl) (fun hc9 => ?_) (fun hc9 => ?_)
     · replace H0 := Zz hc9 H0
       obtain ⟨r10, h11, H0⟩ := Zh H0; obtain ⟨r12, h13, H0⟩ := Zh H0
       refine r_s (L := [(0, _), (1, _)]) (T := ⟨[.old 0], _, [], [], [42]⟩ :: ⟨[.op 0 0], _, [], [0], [43]⟩ :: ⟨[.op 1 0], _, [], [0, 1], [44]⟩ :: ⟨[.op 2 0], _, [], [0, 1, 2], [45]⟩ :: ⟨[.old 0], _, [], [], [46]⟩ :: ⟨[.op 4 0], _, [], [4], [47]⟩ :: ⟨[.op 5 0], _, [], [4, 5], [48]⟩ :: ⟨[.op 6 0], _, [], [4, 5, 6], [49]⟩ :: ⟨[.old 0], _, [], [], [50]⟩ :: ⟨[.op 8 0], _, [], [8], [51]⟩ :: ⟨[.op 9 0], _, [], [8, 9], [52]⟩ :: ⟨[.op 10 0], _, [], [8, 9, 10], [53]⟩ :: ⟨[.old 0], _, [], [], [54]⟩ :: ⟨[.op 12 0], _, [], [12], [55]⟩ :: ⟨[.op 13 0], _, [], [12, 13], [56]⟩ :: ⟨[.op 14 0], _, [], [12, 13, 14], [57]⟩ :: ⟨[.old 1], _, [], [], [58]⟩ :: ⟨[.op 15 0, .op 16 0], _, [], List.range' 12 5, [59]⟩ :: ⟨[.op 3 0, .op 7 0, .op 11 0, .op 17 0], _, [], Lr 18, [60]⟩ :: ⟨[.op 18 0], _, [], Lr 19, [4]⟩ :: []) (F := [.op 19 0]) (hst.pick [0, 1] rfl) hb Zb
         (o_p rfl (Za rfl rfl u_0) <| o_p rfl (Zn rfl rfl (Opd.imp u_0 (fun _ _ h => Zo h3 h)) (fun _ _ ⟨_, _, _, e, _⟩ => ⟨_, e⟩)) <| o_p rfl (Ze Zeq rfl rfl u_0) <| o_p rfl (Zf ty_9 rfl rfl u_0) <| o_p rfl (Za rfl rfl u_0) <| o_p rfl (Zn rfl rfl (Opd.imp u_0 (fun _ _ h => Zo h3 h)) (fun _ _ ⟨_, _, _, e, _⟩ => ⟨_, e⟩)) <| o_p rfl (Ze Zhc rfl rfl u_0) <| o_p rfl (Zf Zbf rfl rfl u_0) <| o_p rfl (Za rfl rfl u_0) <| o_p rfl (Zn rfl rfl (Opd.imp u_0 (fun _ _ h => Zo h3 h)) (fun _ _ ⟨_, _, _, e, _⟩ => ⟨_, e⟩)) <| o_p rfl (Ze Zd7 rfl rfl u_0) <| o_p rfl (Zf Zcn rfl rfl u_0) <| o_p rfl (Za rfl rfl u_0) <| o_p rfl (Zn rfl rfl (Opd.imp u_0 (fun _ _ h => Zo h3 h)) (fun _ _ ⟨_, _, _, e, _⟩ => ⟨_, e⟩)) <| o_p rfl (Ze Zes rfl rfl u_0) <| o_p rfl (Zf Zcn rfl rfl u_0) <| o_p rfl (Za rfl rfl u_0) <| o_p rfl (Zq Zuw (hself _ _ h11) rfl rfl (.cons u_0 (.cons u_1 .nil))) <| o_p rfl (Zq Zr4 (Ziz _ _ _ _ h13) rfl rfl (.cons u_0 (.cons u_1 (.cons u_2 (.cons u_3 .nil))))) <| o_p rfl (Zc rfl rfl u_0) <| o_n) (by kernel_rfl) (fun a g hst hb => ?_)
       refine wp_ret ?_
       refine Z1 ?_
       refine Zr ?_
       obtain rfl := Option.some.inj H0
       exact Z3 rfl hst hb (Zl (s := 4)) (hst.at 0 rfl)
     · replace H0 := Z0 hc9 H0
       refine r_s (L := [(0, _)]) (T := [⟨[.old 0], _, [], [], [62]⟩, ⟨[.op 0 0], _, [], [0], [63]⟩, ⟨[.op 1 0], _, [], [0, 1], [64]⟩, ⟨[.op 2 0], _, [], [0, 1, 2], [65]⟩, ⟨[.op 3 0], _, [], Lr 4, [66]⟩, ⟨[.op 4 0], _, [], Lr 5, [61]⟩]) (F := [.old 0, .op 5 0]) (hst.pick [0] rfl) hb Zb
         (o_p rfl (Za rfl rfl u_0) <| o_p rfl (Zn rfl rfl (Opd.imp u_0 (fun _ _ h => Zo h3 h)) (fun _ _ ⟨_, _, _, e, _⟩ => ⟨_, e⟩)) <| o_p rfl (Ze Zd7 rfl rfl u_0) <| o_p rfl (Zf Zcn rfl rfl u_0) <| o_p rfl (Znc Tryd.underlying24 rfl rfl u_0 (Zea _)) <| o_p rfl (Zc rfl rfl u_0) <| o_n) (by kernel_rfl) (fun a g hst hb => ?_)
       refine wp_cond_split (hst.bool 1 rfl) (fun hc14 => ?_) (fun hc14 => ?_)
       · replace H0 := Zz hc14 H0
         refine r_s (L := [(0, _)]) (T := [⟨[.old 0], _, [], [], [67]⟩, ⟨[.op 0 0], _, [], [0], [68]⟩, ⟨[.op 1 0], _, [], [0, 1], [69]⟩, ⟨[.op 2 0], _, [], [0, 1, 2], [70]⟩, ⟨[.op 3 0], _, [], Lr 4, [4]⟩]) (F := [.op 4 0]) (hst.pick [0] rfl) hb Zb
           (o_p rfl (Za rfl rfl u_0) <| o_p rfl (Zn rfl rfl (Opd.imp u_0 (fun _ _ h => Zo h3 h)) (fun _ _ ⟨_, _, _, e, _⟩ => ⟨_, e⟩)) <| o_p rfl (Ze Zes rfl rfl u_0) <| o_p rfl (Zf Zcn rfl rfl u_0) <| o_p rfl (Zc rfl rfl u_0) <| o_n) (by kernel_rfl) (fun a g hst hb => ?_)
         refine wp_ret ?_
         refine Z1 ?_
         refine Zr ?_
         obtain rfl := Option.some.inj H0
         exact Z3 rfl hst hb (Zl (s := 4)) (hst.at 0 rfl)
       · replace H0 := Z0 hc14 H0
         refine r_s (L := [(0, _)]) (T := [⟨[.old 0], _, [], [], [72]⟩, ⟨[.op 0 0], _, [], [0], [73]⟩, ⟨[.op 1 0], _, [], [0, 1], [74]⟩, ⟨[.op 2 0], _, [], [0, 1, 2], [75]⟩, ⟨[.op 3 0], _, [], Lr 4, [76]⟩, ⟨[.op 4 0], _, [], Lr 5, [71]⟩]) (F := [.old 0, .op 5 0]) (hst.pick [0] rfl) hb Zb
           (o_p rfl (Za rfl rfl u_0) <| o_p rfl (Zn rfl rfl (Opd.imp u_0 (fun _ _ h => Zo h3 h)) (fun _ _ ⟨_, _, _, e, _⟩ => ⟨_, e⟩)) <| o_p rfl (Ze Zes rfl rfl u_0) <| o_p rfl (Zf Zcn rfl rfl u_0) <| o_p rfl (Znc Tryd.underlying24 rfl rfl u_0 (Zea _)) <| o_p rfl (Zc rfl rfl u_0) <| o_n) (by kernel_rfl) (fun a g hst hb => ?_)
         refine wp_cond_split (hst.bool 1 rfl) (fun hc15 => ?_) (fun hc15 => ?_)
         · replace H0 := Zz hc15 H0
           refine r_s (L := [(0, _)]) (T := [⟨[.old 0], _, [], [], [77]⟩, ⟨[.op 0 0], _, [], [0], [78]⟩, ⟨[.op 1 0], _, [], [0, 1], [79]⟩, ⟨[.op 2 0], _, [], [0, 1, 2], [80]⟩, ⟨[.op 3 0], _, [], Lr 4, [4]⟩]) (F := [.op 4 0]) (hst.pick [0] rfl) hb Zb
             (o_p rfl (Za rfl rfl u_0) <| o_p rfl (Zn rfl rfl (Opd.imp u_0 (fun _ _ h => Zo h3 h)) (fun _ _ ⟨_, _, _, e, _⟩ => ⟨_, e⟩)) <| o_p rfl (Ze Zd7 rfl rfl u_0) <| o_p rfl (Zf Zcn rfl rfl u_0) <| o_p rfl (Zc rfl rfl u_0) <| o_n) (by kernel_rfl) (fun a g hst hb => ?_)
           refine wp_ret ?_
           refine Z1 ?_
           refine Zr ?_
           obtain rfl := Option.some.inj H0
           exact Z3 rfl hst hb (Zl (s := 4)) (hst.at 0 rfl)
         · replace H0 := Z0 hc15 H0
           refine wp_skip ?_
           refine Zbr ?_
           refine Zu ?_
           obtain ⟨r16, h17, H0⟩ := Zh H0
           refine r_s (L := [(0, _)]) (T := [⟨[.old 0], _, [], [], [81]⟩, ⟨[.op 0 0], _, [], [0], [82]⟩, ⟨[.op 1 0], _, [], [0, 1], [83]⟩, ⟨[.op 2 0], _, [], [0, 1, 2], [84]⟩, ⟨[.op 3 0], _, [], Lr 4, [85]⟩, ⟨[.op 4 0], _, [], Lr 5, [5]⟩]) (F := [.old 0, .op 5 0]) (hst.pick [0] rfl) hb Zb
             (o_p rfl (Za rfl rfl u_0) <| o_p rfl (Zn rfl rfl (Opd.imp u_0 (fun _ _ h => Zo h3 h)) (fun _ _ ⟨_, _, _, e, _⟩ => ⟨_, e⟩)) <| o_p rfl (Ze Zes rfl rfl u_0) <| o_p rfl (Zf Zcn rfl rfl u_0) <| o_p rfl (Zq Z66 (Zoq _ h17) rfl rfl (.cons u_0 .nil)) <| o_p rfl (Zc rfl rfl u_0) <| o_n) (by kernel_rfl) (fun a g hst hb => ?_)
           obtain ⟨n18, h19, H0⟩ := Zh H0; obtain ⟨r20, h21, H0⟩ := Zh H0; obtain ⟨r22, h23, H0⟩ := Zh H0
           refine r_s (T := ⟨[.old 1], _, [], [], [86]⟩ :: ⟨[.op 0 0], _, [], [0], [87]⟩ :: ⟨[.op 1 0], _, [], [0, 1], [88]⟩ :: ⟨[.op 2 0], _, [], [0, 1, 2], [89]⟩ :: ⟨[.old 1], _, [], [], [90]⟩ :: ⟨[.op 4 0], _, [], [4], [91]⟩ :: ⟨[.op 5 0], _, [], [4, 5], [92]⟩ :: ⟨[.op 6 0], _, [], [4, 5, 6], [93]⟩ :: ⟨[.old 0], _, [], [], [94]⟩ :: ⟨[.op 8 0], _, [], [8], [95]⟩ :: ⟨[.op 9 0], _, [], [8, 9], [96]⟩ :: ⟨[.op 10 0], _, [], [8, 9, 10], [97]⟩ :: ⟨[.old 0], _, [], [], [98]⟩ :: ⟨[.op 12 0], _, [], [12], [99]⟩ :: ⟨[.op 13 0], _, [], [12, 13], [100]⟩ :: ⟨[.op 14 0], _, [], [12, 13, 14], [101]⟩ :: ⟨[.old 1], _, [], [], [102]⟩ :: ⟨[.op 16 0], _, [], [16], [103]⟩ :: ⟨[.op 17 0], _, [], [16, 17], [104]⟩ :: ⟨[.op 18 0], _, [], [16, 17, 18], [105]⟩ :: ⟨[.op 15 0, .op 19 0], _, [], List.range' 12 8, [106]⟩ :: ⟨[.op 3 0, .op 7 0, .op 11 0, .op 20 0], _, [], Lr 21, [107]⟩ :: ⟨[.op 21 0], _, [], Lr 22, [4]⟩ :: []) (F := [.op 22 0]) hst hb Zb
             (o_p rfl (Za rfl rfl u_0) <| o_p rfl (Zn rfl rfl (Opd.imp u_0 (fun _ _ h => Zo h19 h)) (fun _ _ ⟨_, _, _, e, _⟩ => ⟨_, e⟩)) <| o_p rfl (Ze Zeq rfl rfl u_0) <| o_p rfl (Zf ty_9 rfl rfl u_0) <| o_p rfl (Za rfl rfl u_0) <| o_p rfl (Zn rfl rfl (Opd.imp u_0 (fun _ _ h => Zo h19 h)) (fun _ _ ⟨_, _, _, e, _⟩ => ⟨_, e⟩)) <| o_p rfl (Ze Zhc rfl rfl u_0) <| o_p rfl (Zf Zbf rfl rfl u_0) <| o_p rfl (Za rfl rfl u_0) <| o_p rfl (Zn rfl rfl (Opd.imp u_0 (fun _ _ h => Zo h3 h)) (fun _ _ ⟨_, _, _, e, _⟩ => ⟨_, e⟩)) <| o_p rfl (Ze Zd7 rfl rfl u_0) <| o_p rfl (Zf Zcn rfl rfl u_0) <| o_p rfl (Za rfl rfl u_0) <| o_p rfl (Zn rfl rfl (Opd.imp u_0 (fun _ _ h => Zo h3 h)) (fun _ _ ⟨_, _, _, e, _⟩ => ⟨_, e⟩)) <| o_p rfl (Ze Zes rfl rfl u_0) <| o_p rfl (Zf Zcn rfl rfl u_0) <| o_p rfl (Za rfl rfl u_0) <| o_p rfl (Zn rfl rfl (Opd.imp u_0 (fun _ _ h => Zo h19 h)) (fun _ _ ⟨_, _, _, e, _⟩ => ⟨_, e⟩)) <| o_p rfl (Ze Zeq rfl rfl u_0) <| o_p rfl (Zf ty_9 rfl rfl u_0) <| o_p rfl (Zq Zuw (hself _ _ h21) rfl rfl (.cons u_0 (.cons u_1 .nil))) <| o_p rfl (Zq Zr4 (Ziz _ _ _ _ h23) rfl rfl (.cons u_0 (.cons u_1 (.cons u_2 (.cons u_3 .nil))))) <| o_p rfl (Zc rfl rfl u_0) <| o_n) (by kernel_rfl) (fun a g hst hb => ?_)
           refine wp_ret ?_
           obtain rfl := Option.some.inj H0
           exact Z3 rfl hst hb (Zl (s := 4)) (hst.at 0 rfl)
theorem Zk5 : ∀ (n : Nat) (a0 : shelf_nodeT) (a1 : ByteArray) {r : shelf_nodeT}, Ze8 n a0 a1 = some r → FnOk Tryd.prog 53 [(Zy.pd a0), (pStr a1)] (Zy.pd r)
 | 0, _, _, _, h => by simp [Ze8] at h
 | n + 1, a0, a1, _, h => Zos (Ze8 n) (fun a0 a1 r h => Zk5 n a0 a1 h) a0 a1 h
theorem Zqk (a0 : shelf_nodeT) (a1 : ByteArray) {r : shelf_nodeT} (h : Zlc a0 a1 = some r) : FnOk Tryd.prog 53 [(Zy.pd a0), (pStr a1)] (Zy.pd r) := Zk5 _ a0 a1 h
theorem Zpc (a0 : Zm) (a1 : ByteArray) {r : Zm × Bool} (h : Zfi a0 a1 = some r) : FnOk Tryd.prog 32 [(Zx.pd a0), (pStr a1)] (pTup [(Zx.pd r.1), (Zbc r.2)]) := by
 have H0 := h
 unfold Zfi at H0
 clear h
 refine Zbs (N := 24) Tryd.func32 rfl rfl (Nat.le_of_ble_eq_true rfl) rfl rfl (fun a g0 hst hb => ?_)
 refine r_s (T := [⟨[.old 0], _, [], [], [2]⟩, ⟨[], [(4, (pBox Zx 4 (default : Zm)))], [5], [], [4]⟩, ⟨[], _, [], [], [5]⟩]) (F := [.old 1, .op 0 0, .op 1 0]) hst hb Zb
   (o_p rfl (Zbl rfl rfl u_0) <| o_p rfl (Zbi (zs := [.pointer none, .int .i64 0]) (by kernel_rfl) (fun g => Zdh g) rfl rfl) <| o_p rfl (Zc rfl rfl c_b) <| o_n) (by kernel_rfl) (fun a g hst hb => ?_)
 refine wp_seq ?_
 obtain ⟨r1, h2, H0⟩ := Zh H0
 refine r_s (T := [⟨[.old 1], _, [], [], [9]⟩, ⟨[.old 0], _, [], [], [10]⟩, ⟨[.op 0 0, .op 1 0], _, [], [0, 1], [11]⟩, ⟨[.op 2 0], _, [], [0, 1, 2], [8]⟩, ⟨[.op 3 0], _, [], Lr 4, [12]⟩, ⟨[.op 3 0], _, [], Lr 4, [13]⟩, ⟨[], [(6, (pBox Zi 6 (default : Zd)))], [7], [], [6]⟩, ⟨[.op 4 0, .op 6 0], _, [7], [0, 1, 2, 3, 4, 6], [6]⟩, ⟨[.op 5 0], _, [], Lr 8, [7]⟩]) (F := [.old 0, .old 1, .old 2, .op 8 0]) hst hb Zb
   (o_p rfl (Zf Zbm rfl rfl u_0) <| o_p rfl (Za rfl rfl u_0) <| o_p rfl (Zq Zzk (Zjc _ _ h2) rfl rfl (.cons u_0 (.cons u_1 .nil))) <| o_p rfl (Za rfl rfl u_0) <| o_p rfl (Z4 rfl rfl u_0 rfl) <| o_p rfl (Z4 rfl rfl u_0 rfl) <| o_p rfl (Zbi (zs := [.int .i64 0, .int .i64 0, .int .i64 0, .int .i64 0, .float .f64 0, .int .i64 0, .string ByteArray.empty, .slice none 0 0]) (by kernel_rfl) (fun g => Zb5 g) rfl rfl) <| o_p rfl (Zb9 Zbf rfl rfl u_1 u_0) <| o_p rfl (Zc rfl rfl u_0) <| o_n) (by kernel_rfl) (fun a g hst hb => ?_)
 refine r_s (T := [⟨[.old 3], _, [], [], [14]⟩, ⟨[.op 0 0], _, [], [0], [15]⟩]) (F := [.old 0, .old 1, .old 2, .op 1 0]) hst hb Zb
   (o_p rfl (Za rfl rfl u_0) <| o_p rfl (Zcs rfl rfl u_0) <| o_n) (by kernel_rfl) (fun a g hst hb => ?_)
 refine wp_cond_split (hst.bool 3 rfl) (fun hc3 => ?_) (fun hc3 => ?_)
 · replace H0 := Zz hc3 H0
   refine r_s (L := [(2, _), (4, _)]) (T := [⟨[.old 0], _, [], [], [16]⟩, ⟨[.op 0 0, .old 1], _, [5], [0], [4]⟩, ⟨[], _, [], [0, 1], [5]⟩]) (F := [.op 1 0, .op 2 0]) (hst.pick [1, 2] rfl) hb Zb
     (o_p rfl (Zf Zbm rfl rfl u_0) <| o_p rfl (Z6 Zbm rfl rfl u_1 u_0) <| o_p rfl (Zc rfl rfl c_b) <| o_n) (by kernel_rfl) (fun a g hst hb => ?_)
   refine wp_ret ?_
   refine Zr ?_
   obtain rfl := Option.some.inj H0
   obtain ⟨u0, hu0, hq0⟩ := Zbe (P := Tryd.prog) Zbm (hst.at 0 rfl)
   exact Ze0 rfl hst hb hu0 (Zl (s := 5)) (Zde hq0 (hst.at 1 rfl))
 · replace H0 := Z0 hc3 H0
   refine wp_skip ?_
   refine Zu ?_
   obtain ⟨r4, h5, H0⟩ := Zh H0
   refine r_s (L := [(1, _), (2, _), (4, _)]) (T := [⟨[.old 1], _, [], [], [17]⟩, ⟨[.op 0 0], _, [], [0], [18]⟩, ⟨[.old 0], _, [], [], [19]⟩, ⟨[.op 1 0, .op 2 0], _, [], [0, 1, 2], [20]⟩, ⟨[.old 1], _, [], [], [21]⟩, ⟨[.op 4 0], _, [], [4], [22]⟩, ⟨[.op 3 0, .op 5 0], _, [], Lr 6, [23]⟩, ⟨[.op 6 0, .old 2], _, [5], Lr 7, [4]⟩, ⟨[], _, [], Lr 8, [5]⟩]) (F := [.op 7 0, .op 8 0]) (hst.pick [0, 1, 2] rfl) hb Zb
     (o_p rfl (Ze Znr rfl rfl u_0) <| o_p rfl (Zf Zcn rfl rfl u_0) <| o_p rfl (Za rfl rfl u_0) <| o_p rfl (Zq Zuw (Zqk _ _ h5) rfl rfl (.cons u_0 (.cons u_1 .nil))) <| o_p rfl (Ze Zpy rfl rfl u_0) <| o_p rfl (Zf ty_3 rfl rfl u_0) <| o_p rfl (Ztq rfl rfl u_0 u_1) <| o_p rfl (Z6 Zbm rfl rfl u_1 u_0) <| o_p rfl (Zc rfl rfl c_b) <| o_n) (by kernel_rfl) (fun a g hst hb => ?_)
   refine wp_ret ?_
   obtain rfl := Option.some.inj H0
   obtain ⟨u0, hu0, hq0⟩ := Zbe (P := Tryd.prog) Zbm (hst.at 0 rfl)
   exact Ze0 rfl hst hb hu0 (Zl (s := 5)) (Zde hq0 (hst.at 1 rfl))
theorem Zwx (a0 : Zm) (a1 : Zv) {r : Zm × Zg} (h : Zh3 a0 a1 = some r) : FnOk Tryd.prog 19 [(Zx.pd a0), (Zbb.pd a1)] (pTup [(Zx.pd r.1), (Zs.pd r.2)]) := by
 have H0 := h
 unfold Zh3 at H0
 clear h
 refine Zbs (N := 66) Tryd.func19 rfl rfl (Nat.le_of_ble_eq_true rfl) rfl rfl (fun a g0 hst hb => ?_)
 refine r_s (T := [⟨[.old 0], _, [3], [], [2]⟩, ⟨[.old 1], _, [], [], [3]⟩, ⟨[], [(4, (pBox Zx 4 (default : Zm)))], [5], [], [4]⟩, ⟨[], [(5, (pBox Zs 5 (default : Zg)))], [6], [], [5]⟩]) (F := [.op 0 0, .op 1 0, .op 2 0, .op 3 0]) hst hb Zb
   (o_p rfl (Ztb rfl rfl u_0) <| o_p rfl (Zbl rfl rfl u_0) <| o_p rfl (Zbi (zs := [.pointer none, .int .i64 0]) (by kernel_rfl) (fun g => Zdh g) rfl rfl) <| o_p rfl (Zbi (zs := [.int .i64 0, .int .i64 0, .int .i64 0, .int .i64 0, .int .i64 0, .int .i64 0, .float .f64 0, .int .i64 0, .string ByteArray.empty, .slice none 0 0]) (by kernel_rfl) (fun g => Zfu g) rfl rfl) <| o_n) (by kernel_rfl) (fun a g hst hb => ?_)
 obtain ⟨r1, h2, H0⟩ := Zh H0
 refine r_s (T := [⟨[.old 0], _, [], [], [14]⟩, ⟨[.old 1], _, [], [], [15]⟩, ⟨[.op 1 0], _, [], [1], [16]⟩, ⟨[.op 0 0, .op 2 0], _, [], [0, 1, 2], [17]⟩, ⟨[.op 3 0], _, [], Lr 4, [13]⟩, ⟨[.op 4 0], _, [], Lr 5, [18]⟩, ⟨[.op 4 0], _, [], Lr 5, [19]⟩, ⟨[], [(6, (pBox Zi 6 (default : Zd)))], [7], [], [6]⟩, ⟨[.op 5 0, .op 7 0], _, [7], [0, 1, 2, 3, 4, 5, 7], [6]⟩, ⟨[.op 6 0], _, [], Lr 9, [7]⟩]) (F := [.old 0, .old 1, .old 2, .old 3, .op 8 0, .op 9 0]) hst hb Zb
   (o_p rfl (Zca Zbm rfl rfl u_0) <| o_p rfl (Ze Znf rfl rfl u_0) <| o_p rfl (Zf ty_9 rfl rfl u_0) <| o_p rfl (Zq Zzk (Zjc _ _ h2) rfl rfl (.cons u_0 (.cons u_1 .nil))) <| o_p rfl (Za rfl rfl u_0) <| o_p rfl (Z4 rfl rfl u_0 rfl) <| o_p rfl (Z4 rfl rfl u_0 rfl) <| o_p rfl (Zbi (zs := [.int .i64 0, .int .i64 0, .int .i64 0, .int .i64 0, .float .f64 0, .int .i64 0, .string ByteArray.empty, .slice none 0 0]) (by kernel_rfl) (fun g => Zb5 g) rfl rfl) <| o_p rfl (Zb9 Zbf rfl rfl u_1 u_0) <| o_p rfl (Zc rfl rfl u_0) <| o_n) (by kernel_rfl) (fun a g hst hb => ?_)
 obtain ⟨r3, h4, H0⟩ := Zh H0
 refine r_s (T := ⟨[.old 4], _, [], [], [21]⟩ :: ⟨[.old 5], _, [], [], [22]⟩ :: ⟨[.old 1], _, [], [], [23]⟩ :: ⟨[.op 0 0, .op 1 0, .op 2 0], _, [], [0, 1, 2], [24]⟩ :: ⟨[.op 3 0], _, [], Lr 4, [20]⟩ :: ⟨[.op 4 0], _, [], Lr 5, [25]⟩ :: ⟨[.op 4 0], _, [], Lr 5, [26]⟩ :: ⟨[.op 4 0], _, [], Lr 5, [27]⟩ :: ⟨[], [(8, (pBox Zi 8 (default : Zd)))], [9], [], [8]⟩ :: ⟨[], [(10, (pBox Zs 10 (default : Zg)))], [11], [], [10]⟩ :: ⟨[.op 5 0, .op 8 0], _, [9], [0, 1, 2, 3, 4, 5, 8, 9], [8]⟩ :: ⟨[.op 6 0], _, [], [0, 1, 2, 3, 4, 5, 6, 8, 9, 10], [9]⟩ :: ⟨[.op 7 0, .op 9 0], _, [11], Lr 12, [10]⟩ :: []) (F := [.old 0, .old 1, .old 2, .old 3, .op 10 0, .op 11 0, .op 12 0]) hst hb Zb
   (o_p rfl (Zf Zbf rfl rfl u_0) <| o_p rfl (Za rfl rfl u_0) <| o_p rfl (Zf Zj8 rfl rfl u_0) <| o_p rfl (Zq Z74 (Zuc _ _ _ h4) rfl rfl (.cons u_0 (.cons u_1 (.cons u_2 .nil)))) <| o_p rfl (Za rfl rfl u_0) <| o_p rfl (Z4 rfl rfl u_0 rfl) <| o_p rfl (Z4 rfl rfl u_0 rfl) <| o_p rfl (Z4 rfl rfl u_0 rfl) <| o_p rfl (Zbi (zs := [.int .i64 0, .int .i64 0, .int .i64 0, .int .i64 0, .float .f64 0, .int .i64 0, .string ByteArray.empty, .slice none 0 0]) (by kernel_rfl) (fun g => Zb5 g) rfl rfl) <| o_p rfl (Zbi (zs := [.int .i64 0, .int .i64 0, .int .i64 0, .int .i64 0, .int .i64 0, .int .i64 0, .float .f64 0, .int .i64 0, .string ByteArray.empty, .slice none 0 0]) (by kernel_rfl) (fun g => Zfu g) rfl rfl) <| o_p rfl (Zb9 Zbf rfl rfl u_1 u_0) <| o_p rfl (Zc rfl rfl u_0) <| o_p rfl (Zb9 Zcm rfl rfl u_1 u_0) <| o_n) (by kernel_rfl) (fun a g hst hb => ?_)
 refine wp_seq ?_
 refine wp_block ?_
 obtain ⟨r5, h6, H0⟩ := Zh H0
 refine r_s (T := [⟨[.old 6], _, [], [], [29]⟩, ⟨[.op 0 0], _, [], [0], [30]⟩, ⟨[.op 1 0], _, [], [0, 1], [31]⟩, ⟨[.op 2 0], _, [], [0, 1, 2], [32]⟩, ⟨[.op 3 0, .old 1], _, [], Lr 4, [33]⟩, ⟨[.op 3 0, .op 4 0], _, [], Lr 5, [34]⟩, ⟨[.op 3 0, .op 5 0], _, [], Lr 6, [35]⟩, ⟨[.op 3 0, .op 6 0], _, [], Lr 7, [36]⟩, ⟨[.op 7 0], _, [], Lr 8, [28]⟩]) (F := [.old 0, .old 1, .old 2, .old 3, .old 4, .old 5, .old 6, .op 8 0]) hst hb Zb
   (o_p rfl (Ze Zpw rfl rfl u_0) <| o_p rfl (Zf Zn9 rfl rfl u_0) <| o_p rfl (Zfg rfl rfl u_0 c_i) <| o_p rfl (Za rfl rfl u_0) <| o_g (g_f rfl rfl rfl (fun hG => Ze Zhl rfl rfl u_0)) <| o_g (g_f rfl rfl rfl (fun hG => Zf ty_3 rfl rfl (Opd.gd hG u_0))) <| o_g (g_f rfl rfl rfl (fun hG => Zq Z6i (Zu3 _ (Zbv h6 hG)) rfl rfl (.cons (Opd.gd hG u_0) .nil))) <| o_p rfl (Zbx rfl rfl u_0 (fun hz => (Opd.gd (bNF hz) u_1))) <| o_p rfl (Zc rfl rfl u_0) <| o_n) (by kernel_rfl) (fun a g hst hb => ?_)
 refine wp_cond_split (hst.bool 7 rfl) (fun hc7 => ?_) (fun hc7 => ?_)
 · replace H0 := Zz hc7 H0
   refine r_s (L := [(2, _), (4, _), (5, _), (10, _)]) (T := [⟨[.old 0], _, [], [], [37]⟩, ⟨[.old 3], _, [], [], [38]⟩, ⟨[.op 0 0, .old 1], _, [5], [0], [4]⟩, ⟨[.op 1 0, .old 2], _, [6], [0, 1, 2], [5]⟩]) (F := [.op 2 0, .op 3 0]) (hst.pick [0, 2, 3, 6] rfl) hb Zb
     (o_p rfl (Zca Zbm rfl rfl u_0) <| o_p rfl (Zf Zcm rfl rfl u_0) <| o_p rfl (Z6 Zbm rfl rfl u_1 u_0) <| o_p rfl (Z6 Zcm rfl rfl u_1 u_0) <| o_n) (by kernel_rfl) (fun a g hst hb => ?_)
   refine wp_ret ?_
   refine Z1 ?_
   refine Zr ?_
   obtain rfl := Option.some.inj H0
   obtain ⟨u0, hu0, hq0⟩ := Zbe (P := Tryd.prog) Zbm (hst.at 0 rfl)
   obtain ⟨u1, hu1, hq1⟩ := Zbe (P := Tryd.prog) Zcm (hst.at 1 rfl)
   exact Ze0 rfl hst hb hu0 hu1 (Zde hq0 hq1)
 · replace H0 := Z0 hc7 H0
   refine r_s (L := [(2, _), (3, _), (4, _), (5, _), (8, _), (9, _), (10, _)]) (T := [⟨[.old 5], _, [], [], [40]⟩, ⟨[.op 0 0], _, [], [0], [41]⟩, ⟨[.op 1 0], _, [], [0, 1], [39]⟩]) (F := [.old 0, .old 1, .old 2, .old 3, .old 4, .old 6, .op 2 0]) (hst.pick [0, 1, 2, 3, 4, 5, 6] rfl) hb Zb
     (o_p rfl (Za rfl rfl u_0) <| o_p rfl (Zcs rfl rfl u_0) <| o_p rfl (Zc rfl rfl u_0) <| o_n) (by kernel_rfl) (fun a g hst hb => ?_)
   refine wp_cond_split (hst.bool 6 rfl) (fun hc8 => ?_) (fun hc8 => ?_)
   · replace H0 := Zz hc8 H0
     obtain ⟨r9, h10, H0⟩ := Zh H0
     refine r_s (L := [(2, _), (3, _), (4, _), (5, _), (10, _)]) (T := [⟨[.old 0], _, [], [], [43]⟩, ⟨[.old 1], _, [], [], [44]⟩, ⟨[.op 1 0], _, [], [1], [45]⟩, ⟨[.op 0 0, .op 2 0], _, [], [0, 1, 2], [46]⟩, ⟨[.op 3 0], _, [], Lr 4, [42]⟩, ⟨[.op 4 0], _, [], Lr 5, [47]⟩, ⟨[.op 4 0], _, [], Lr 5, [48]⟩, ⟨[.op 5 0, .old 0], _, [3], Lr 6, [2]⟩]) (F := [.op 7 0, .old 2, .old 3, .old 4]) (hst.pick [0, 1, 2, 3, 5] rfl) hb Zb
       (o_p rfl (Zca Zbm rfl rfl u_0) <| o_p rfl (Ze Znf rfl rfl u_0) <| o_p rfl (Zf ty_9 rfl rfl u_0) <| o_p rfl (Zq Z77 (Zpc _ _ h10) rfl rfl (.cons u_0 (.cons u_1 .nil))) <| o_p rfl (Za rfl rfl u_0) <| o_p rfl (Z4 rfl rfl u_0 rfl) <| o_p rfl (Z4 rfl rfl u_0 rfl) <| o_p rfl (Z6 Zbm rfl rfl u_1 u_0) <| o_n) (by kernel_rfl) (fun a g hst hb => ?_)
     refine r_s (T := [⟨[.old 0], _, [], [], [49]⟩, ⟨[.old 3], _, [], [], [50]⟩, ⟨[.op 0 0, .old 1], _, [5], [0], [4]⟩, ⟨[.op 1 0, .old 2], _, [6], [0, 1, 2], [5]⟩]) (F := [.op 2 0, .op 3 0]) hst hb Zb
       (o_p rfl (Zca Zbm rfl rfl u_0) <| o_p rfl (Zf Zcm rfl rfl u_0) <| o_p rfl (Z6 Zbm rfl rfl u_1 u_0) <| o_p rfl (Z6 Zcm rfl rfl u_1 u_0) <| o_n) (by kernel_rfl) (fun a g hst hb => ?_)
     refine wp_ret ?_
     refine Z1 ?_
     refine Zr ?_
     obtain rfl := Option.some.inj H0
     obtain ⟨u0, hu0, hq0⟩ := Zbe (P := Tryd.prog) Zbm (hst.at 0 rfl)
     obtain ⟨u1, hu1, hq1⟩ := Zbe (P := Tryd.prog) Zcm (hst.at 1 rfl)
     exact Ze0 rfl hst hb hu0 hu1 (Zde hq0 hq1)
   · replace H0 := Z0 hc8 H0
     refine wp_skip ?_
     refine Zbr ?_
     refine Zu ?_
     obtain ⟨r11, h12, H0⟩ := Zh H0
     refine r_s (L := [(2, _), (3, _), (4, _), (5, _), (8, _), (10, _)]) (T := [⟨[.old 0], _, [], [], [52]⟩, ⟨[.old 1], _, [], [], [53]⟩, ⟨[.op 1 0], _, [], [1], [54]⟩, ⟨[.old 4], _, [], [], [55]⟩, ⟨[.op 0 0, .op 2 0, .op 3 0], _, [], Lr 4, [56]⟩, ⟨[.op 4 0], _, [], Lr 5, [51]⟩, ⟨[.op 5 0], _, [], Lr 6, [57]⟩, ⟨[.op 5 0], _, [], Lr 6, [58]⟩, ⟨[], [(11, (pBox Zx 11 (default : Zm)))], [12], [], [11]⟩, ⟨[.op 6 0, .op 8 0], _, [12], [0, 1, 2, 3, 4, 5, 6, 8], [11]⟩, ⟨[.op 7 0], _, [], Lr 10, [12]⟩]) (F := [.old 0, .old 2, .old 3, .old 5, .op 9 0, .op 10 0]) (hst.pick [0, 1, 2, 3, 4, 5] rfl) hb Zb
       (o_p rfl (Zca Zbm rfl rfl u_0) <| o_p rfl (Ze Znf rfl rfl u_0) <| o_p rfl (Zf ty_9 rfl rfl u_0) <| o_p rfl (Zf Zbf rfl rfl u_0) <| o_p rfl (Zq Z2d (Zln _ _ _ h12) rfl rfl (.cons u_0 (.cons u_1 (.cons u_2 .nil)))) <| o_p rfl (Za rfl rfl u_0) <| o_p rfl (Z4 rfl rfl u_0 rfl) <| o_p rfl (Z4 rfl rfl u_0 rfl) <| o_p rfl (Zbi (zs := [.pointer none, .int .i64 0]) (by kernel_rfl) (fun g => Zdh g) rfl rfl) <| o_p rfl (Zb9 Zbm rfl rfl u_1 u_0) <| o_p rfl (Zc rfl rfl u_0) <| o_n) (by kernel_rfl) (fun a g hst hb => ?_)
     refine wp_seq ?_
     refine r_s (T := [⟨[.old 5], _, [], [], [59]⟩, ⟨[.op 0 0], _, [], [0], [60]⟩]) (F := [.old 0, .old 1, .old 2, .old 3, .old 4, .old 5, .op 1 0]) hst hb Zb
       (o_p rfl (Za rfl rfl u_0) <| o_p rfl (Zfg rfl rfl u_0 c_i) <| o_n) (by kernel_rfl) (fun a g hst hb => ?_)
     refine wp_cond_split (hst.bool 6 rfl) (fun hc13 => ?_) (fun hc13 => ?_)
     · replace H0 := Zz hc13 H0
       refine r_s (L := [(2, _), (4, _), (5, _), (12, _)]) (T := [⟨[.old 0], _, [], [], [61]⟩, ⟨[.old 3], _, [], [], [62]⟩, ⟨[.op 1 0], _, [], [1], [63]⟩, ⟨[.op 0 0, .old 1], _, [5], [0], [4]⟩, ⟨[.op 2 0, .old 2], _, [6], Lr 4, [5]⟩]) (F := [.op 3 0, .op 4 0]) (hst.pick [0, 1, 2, 5] rfl) hb Zb
         (o_p rfl (Zca Zbm rfl rfl u_0) <| o_p rfl (Za rfl rfl u_0) <| o_p rfl (Zsx rfl rfl u_0) <| o_p rfl (Z6 Zbm rfl rfl u_1 u_0) <| o_p rfl (Z6 Zcm rfl rfl u_1 u_0) <| o_n) (by kernel_rfl) (fun a g hst hb => ?_)
       refine wp_ret ?_
       refine Zr ?_
       obtain rfl := Option.some.inj H0
       obtain ⟨u0, hu0, hq0⟩ := Zbe (P := Tryd.prog) Zbm (hst.at 0 rfl)
       obtain ⟨u1, hu1, hq1⟩ := Zbe (P := Tryd.prog) Zcm (hst.at 1 rfl)
       exact Ze0 rfl hst hb hu0 hu1 (Zde hq0 hq1)
     · replace H0 := Z0 hc13 H0
       refine wp_skip ?_
       refine Zu ?_
       refine r_s (L := [(4, _), (5, _), (10, _), (11, _)]) (T := [⟨[.old 3], _, [], [], [64]⟩, ⟨[.old 2], _, [], [], [65]⟩, ⟨[.op 0 0, .old 0], _, [5], [0], [4]⟩, ⟨[.op 1 0, .old 1], _, [6], [0, 1, 2], [5]⟩]) (F := [.op 2 0, .op 3 0]) (hst.pick [1, 2, 3, 4] rfl) hb Zb
         (o_p rfl (Zf Zbm rfl rfl u_0) <| o_p rfl (Zf Zcm rfl rfl u_0) <| o_p rfl (Z6 Zbm rfl rfl u_1 u_0) <| o_p rfl (Z6 Zcm rfl rfl u_1 u_0) <| o_n) (by kernel_rfl) (fun a g hst hb => ?_)
       refine wp_ret ?_
       obtain rfl := Option.some.inj H0
       obtain ⟨u0, hu0, hq0⟩ := Zbe (P := Tryd.prog) Zbm (hst.at 0 rfl)
       obtain ⟨u1, hu1, hq1⟩ := Zbe (P := Tryd.prog) Zcm (hst.at 1 rfl)
       exact Ze0 rfl hst hb hu0 hu1 (Zde hq0 hq1)
theorem Zwb (a0 : Zv) (a1 : Zg) (a2 : Int) {r : Zg} (h : Zlp a0 a1 a2 = some r) : FnOk Tryd.prog 20 [(Zbb.pd a0), (Zs.pd a1), (pInt .i64 a2)] (Zs.pd r) := by
 have H0 := h
 unfold Zlp at H0
 clear h
 refine Zbs (N := 20) Tryd.func20 rfl rfl (Nat.le_of_ble_eq_true rfl) rfl rfl (fun a g0 hst hb => ?_)
 refine r_s (T := [⟨[.old 0], _, [], [], [3]⟩, ⟨[.old 1], _, [], [], [4]⟩, ⟨[], [(6, (pBox Zs 6 (default : Zg)))], [7], [], [6]⟩]) (F := [.old 2, .op 0 0, .op 1 0, .op 2 0]) hst hb Zb
   (o_p rfl (Zbl rfl rfl u_0) <| o_p rfl (Zbl rfl rfl u_0) <| o_p rfl (Zbi (zs := [.int .i64 0, .int .i64 0, .int .i64 0, .int .i64 0, .int .i64 0, .int .i64 0, .float .f64 0, .int .i64 0, .string ByteArray.empty, .slice none 0 0]) (by kernel_rfl) (fun g => Zfu g) rfl rfl) <| o_n) (by kernel_rfl) (fun a g hst hb => ?_)
 refine wp_seq ?_
 refine r_s (T := [⟨[.old 1], _, [], [], [7]⟩, ⟨[.op 0 0], _, [], [0], [8]⟩, ⟨[.op 1 0], _, [], [0, 1], [9]⟩, ⟨[.op 2 0, .old 2], _, [], [0, 1, 2], [10]⟩, ⟨[.op 2 0, .op 3 0], _, [], Lr 4, [11]⟩, ⟨[.op 2 0, .op 4 0], _, [], Lr 5, [12]⟩, ⟨[.op 2 0, .op 5 0], _, [], Lr 6, [13]⟩]) (F := [.old 0, .old 2, .old 3, .op 6 0]) hst hb Zb
   (o_p rfl (Ze Zya rfl rfl u_0) <| o_p rfl (Zf ty_4 rfl rfl u_0) <| o_p rfl (Za rfl rfl u_0) <| o_g (g_t rfl rfl rfl (fun hG => Ze Zpw rfl rfl u_0)) <| o_g (g_t rfl rfl rfl (fun hG => Zf Zn9 rfl rfl (Opd.gd hG u_0))) <| o_g (g_t rfl rfl rfl (fun hG => Zfg rfl rfl (Opd.gd hG u_0) c_i)) <| o_p rfl (Zbp rfl rfl u_0 (fun hz => (Opd.gd hz u_1))) <| o_n) (by kernel_rfl) (fun a g hst hb => ?_)
 refine Zc2 (fun a w => ∃ (g : G), w = g.w ∧ St 20 [(4, (Zs.ptr a1)), (6, (pBox Zs 6 (default : Zg)))] a g ∧ Base g0 g ∧ Zml a1 = some r) ?_ ?_
 · rintro a w ⟨g, rfl, hst, hb, H0⟩
   unfold Zml at H0
   refine Zu ?_
   refine r_s (T := [⟨[.old 0], _, [], [], [19]⟩, ⟨[.op 0 0, .old 1], _, [7], [0], [6]⟩]) (F := [.op 1 0]) hst hb Zb
     (o_p rfl (Zf Zcm rfl rfl u_0) <| o_p rfl (Z6 Zcm rfl rfl u_1 u_0) <| o_n) (by kernel_rfl) (fun a g hst hb => ?_)
   refine wp_ret ?_
   obtain rfl := Option.some.inj H0
   obtain ⟨u0, hu0, hq0⟩ := Zbe (P := Tryd.prog) Zcm (hst.at 0 rfl)
   exact Z3 rfl hst hb hu0 hq0
 · refine wp_cond_split (hst.bool 3 rfl) (fun hc1 => ?_) (fun hc1 => ?_)
   · replace H0 := Zz hc1 H0
     cases H0
   · replace H0 := Z0 hc1 H0
     refine wp_skip ?_
     exact ⟨g, rfl, (hst.pick [1, 2] rfl), hb, H0⟩
theorem Zsw (a0 : Zv) (a1 : Zg) (a2 : Int) {r : Zda} (h : Zj2 a0 a1 a2 = some r) : Zyq Tryd.prog 20 [(Zbb.pd a0), (Zs.pd a1), (pInt .i64 a2)] (Zj3 70 (Zet.pd r)) := by
 have H0 := h
 unfold Zj2 at H0
 clear h
 refine Z1k (N := 20) Tryd.func20 rfl rfl (Nat.le_of_ble_eq_true rfl) rfl rfl (fun a g0 hst hb => ?_)
 refine r_s (T := [⟨[.old 0], _, [], [], [3]⟩, ⟨[.old 1], _, [], [], [4]⟩, ⟨[], [(6, (pBox Zs 6 (default : Zg)))], [7], [], [6]⟩]) (F := [.old 2, .op 0 0, .op 1 0, .op 2 0]) hst hb Zb
   (o_p rfl (Zbl rfl rfl u_0) <| o_p rfl (Zbl rfl rfl u_0) <| o_p rfl (Zbi (zs := [.int .i64 0, .int .i64 0, .int .i64 0, .int .i64 0, .int .i64 0, .int .i64 0, .float .f64 0, .int .i64 0, .string ByteArray.empty, .slice none 0 0]) (by kernel_rfl) (fun g => Zfu g) rfl rfl) <| o_n) (by kernel_rfl) (fun a g hst hb => ?_)
 refine wp_seq ?_
 refine r_s (T := [⟨[.old 1], _, [], [], [7]⟩, ⟨[.op 0 0], _, [], [0], [8]⟩, ⟨[.op 1 0], _, [], [0, 1], [9]⟩, ⟨[.op 2 0, .old 2], _, [], [0, 1, 2], [10]⟩, ⟨[.op 2 0, .op 3 0], _, [], Lr 4, [11]⟩, ⟨[.op 2 0, .op 4 0], _, [], Lr 5, [12]⟩, ⟨[.op 2 0, .op 5 0], _, [], Lr 6, [13]⟩]) (F := [.old 0, .old 2, .old 3, .op 6 0]) hst hb Zb
   (o_p rfl (Ze Zya rfl rfl u_0) <| o_p rfl (Zf ty_4 rfl rfl u_0) <| o_p rfl (Za rfl rfl u_0) <| o_g (g_t rfl rfl rfl (fun hG => Ze Zpw rfl rfl u_0)) <| o_g (g_t rfl rfl rfl (fun hG => Zf Zn9 rfl rfl (Opd.gd hG u_0))) <| o_g (g_t rfl rfl rfl (fun hG => Zfg rfl rfl (Opd.gd hG u_0) c_i)) <| o_p rfl (Zbp rfl rfl u_0 (fun hz => (Opd.gd hz u_1))) <| o_n) (by kernel_rfl) (fun a g hst hb => ?_)
 refine Zc2 (fun a w => ∃ (g : G), w = g.w ∧ St 20 [(4, (Zs.ptr a1)), (6, (pBox Zs 6 (default : Zg)))] a g ∧ Base g0 g ∧ Zld = some r) ?_ ?_
 · rintro a w ⟨g, rfl, hst, hb, H0⟩
   unfold Zld at H0
   refine Zu ?_
   refine r_s (T := [⟨[.old 0], _, [], [], [19]⟩, ⟨[.op 0 0, .old 1], _, [7], [0], [6]⟩]) (F := [.op 1 0]) hst hb Zb
     (o_p rfl (Zf Zcm rfl rfl u_0) <| o_p rfl (Z6 Zcm rfl rfl u_1 u_0) <| o_n) (by kernel_rfl) (fun a g hst hb => ?_)
   cases H0
 · refine wp_cond_split (hst.bool 3 rfl) (fun hc1 => ?_) (fun hc1 => ?_)
   · replace H0 := Zz hc1 H0
     obtain rfl := Option.some.inj H0
     refine r_gQ (L := [(2, _), (4, _), (6, _)]) (T := [⟨[.old 1], _, [], [], [14]⟩, ⟨[.op 0 0], _, [], [0], [15]⟩, ⟨[.old 0], _, [], [], [16]⟩, ⟨[.op 1 0, .op 2 0], _, [], [0, 1, 2], [17]⟩, ⟨[.op 3 0], _, [], Lr 4, [18]⟩, ⟨[.op 4 0], [(1001, pNo)], [], Lr 5, [1001]⟩]) (F := [.op 5 0]) (hst.pick [0, 1, 2] rfl) hb Zb
       (q_p rfl (Ze Zpw rfl rfl u_0) <| q_p rfl (Zf Zn9 rfl rfl u_0) <| q_p rfl (Za rfl rfl u_0) <| q_p rfl (Z0i rfl rfl u_0 u_1) <| q_p rfl (Z1e (by kernel_rfl) rfl rfl u_0) <| q_q (Z0r rfl rfl u_0 (fun a g v hN hD hb hu hv => by refine Znk ?_; refine Znk ?_; exact Z54 hD hb hv)) <| q_n) (by kernel_rfl) (fun a g hst hb => (hst.at 0 rfl).elim)
   · replace H0 := Z0 hc1 H0
     refine wp_skip ?_
     exact ⟨g, rfl, (hst.pick [1, 2] rfl), hb, H0⟩
theorem Zw2 (a0 : Zm) (a1 : Zbu) {r : Zm × Zba} (h : Zji a0 a1 = some r) : FnOk Tryd.prog 10 [(Zx.pd a0), (Zdt.pd a1)] (pTup [(Zx.pd r.1), (Zfn.pd r.2)]) := by
 have H0 := h
 unfold Zji at H0
 clear h
 refine Z56 (N := 52) Tryd.func10 rfl rfl (Nat.le_of_ble_eq_true rfl) rfl rfl (fun a g0 h0 hst hb => ?_)
 refine r_s (T := [⟨[.old 0], _, [], [], [2]⟩, ⟨[.old 1], _, [], [], [3]⟩, ⟨[], [(4, (pBox Zx 4 (default : Zm)))], [5], [], [4]⟩, ⟨[], [(5, (Zhk none Zcu Zdo (hpL (pRow Zs 72 505 ((default : Zba).Answers))) 5 (default : Zba)))], [6], [], [5]⟩]) (F := [.op 0 0, .op 1 0, .op 2 0, .op 3 0]) hst hb Zb
   (o_p rfl (Zbl rfl rfl u_0) <| o_p rfl (Zbl rfl rfl u_0) <| o_p rfl (Zbi (zs := [.pointer none, .int .i64 0]) (by kernel_rfl) (fun g => Zdh g) rfl rfl) <| o_p rfl (Z04 (R := hpL (pRow Zs 72 505 ((default : Zba).Answers))) (zs := [.int .i64 0, .int .i64 0, .slice none 0 0]) (none, 0, 0) (by kernel_rfl) Zrq (fun g => Zvq 505 g) rfl rfl) <| o_n) (by kernel_rfl) (fun a g hst hb => ?_)
 refine wp_seq ?_
 obtain ⟨r1, h2, H0⟩ := Zh H0
 refine r_s (T := [⟨[.old 1], _, [], [], [13]⟩, ⟨[.op 0 0], _, [], [0], [14]⟩, ⟨[.op 1 0], _, [], [0, 1], [12]⟩, ⟨[.op 2 0], _, [], [0, 1, 2], [15]⟩, ⟨[.op 2 0], _, [], [0, 1, 2], [16]⟩, ⟨[.op 3 0], _, [], Lr 4, [6]⟩, ⟨[.op 4 0], _, [], Lr 6, [7]⟩]) (F := [.old 0, .old 1, .old 2, .old 3, .op 5 0, .op 6 0]) hst hb Zb
   (o_p rfl (Zf Zux rfl rfl u_0) <| o_p rfl (Zq Z6q (Zud _ h2) rfl rfl (.cons u_0 .nil)) <| o_p rfl (Za rfl rfl u_0) <| o_p rfl (Z4 rfl rfl u_0 rfl) <| o_p rfl (Z4 rfl rfl u_0 rfl) <| o_p rfl (Zc rfl rfl u_0) <| o_p rfl (Zc rfl rfl u_0) <| o_n) (by kernel_rfl) (fun a g hst hb => ?_)
 refine r_s (T := [⟨[.old 4], _, [], [], [17]⟩, ⟨[.op 0 0], _, [], [0], [18]⟩]) (F := [.old 0, .old 1, .old 2, .old 3, .old 4, .old 5, .op 1 0]) hst hb Zb
   (o_p rfl (Za rfl rfl u_0) <| o_p rfl (Zfg rfl rfl u_0 c_i) <| o_n) (by kernel_rfl) (fun a g hst hb => ?_)
 refine wp_cond_split (hst.bool 6 rfl) (fun hc3 => ?_) (fun hc3 => ?_)
 · replace H0 := Zz hc3 H0
   refine r_s (L := [(2, _), (4, _), (5, _), (6, _), (7, _)]) (T := [⟨[.old 0], _, [], [], [19]⟩, ⟨[.old 3], _, [], [], [20]⟩, ⟨[.old 4], _, [], [], [21]⟩, ⟨[.op 1 0, .op 2 0], _, [], [1, 2], [22]⟩, ⟨[.op 0 0, .old 1], _, [5], [0], [4]⟩, ⟨[.op 3 0, .old 2], _, [6], Lr 5, [5]⟩]) (F := [.old 0, .op 4 0, .op 5 0]) (hst.pick [0, 2, 3, 4, 5] rfl) hb Zb
     (o_p rfl (Zf Zbm rfl rfl u_0) <| o_p rfl (Za rfl rfl u_0) <| o_p rfl (Za rfl rfl u_0) <| o_p rfl (Zt4 rfl rfl u_0 u_1) <| o_p rfl (Z6 Zbm rfl rfl u_1 u_0) <| o_p rfl (Zoi (kV := Zcu) (by rfl) Zmv rfl rfl u_1 u_0) <| o_n) (by kernel_rfl) (fun a g hst hb => ?_)
   refine wp_ret ?_
   refine Zr ?_
   obtain rfl := Option.some.inj H0
   obtain ⟨u0, hu0, hq0⟩ := Zbe (P := Tryd.prog) Zbm (hst.at 1 rfl)
   obtain ⟨u1, hu1, hq1⟩ := Zbe (P := Tryd.prog) Zmv (hst.at 2 rfl)
   exact Z5f rfl hst hb hu0 hu1 (Zde hq0 hq1)
 · replace H0 := Z0 hc3 H0
   refine wp_skip ?_
   refine Zu ?_
   obtain ⟨b4, e4, q4⟩ := Zx7 (hst.at 2 rfl)
   obtain ⟨b5, e5, q5⟩ := Z4w (hst.at 3 rfl)
   refine wp_seq ?_
   have q2 := (hst.at 0 rfl)
   obtain ⟨v2, hv2⟩ : ∃ v2, Act.at a 2 = v2 := ⟨_, rfl⟩
   refine Z1a (f := 18) (d1 := 23) (x1 := 2) (x2 := 4) (x3 := 5) ?_ ?_ ?_ ?_ ?_ ?_ ?_ hv2 e4 e5 hst.df ?_
   · rfl
   · rfl
   · rfl
   · rfl
   · rfl
   · rfl
   · rw [hst.size]; decide
   replace hst : StD (dfr3 18 v2 b4 b5) 52 [(2, (Zx.ptr a0)), (3, (Zdt.ptr a1)), (4, (Zbk (some b4) Zx 4 (default : Zm))), (5, (Zhk (some b5) Zcu Zdo (hpL (pRow Zs 72 505 ((default : Zba).Answers))) 5 (default : Zba))), (1000, (pAt v2 (Zx.ptr a0)))] (dact a 23 (.func (.func 18) #[] #[v2, .pointer (some ⟨b4, 0, none⟩), .pointer (some ⟨b5, 0, none⟩)]) (dfr3 18 v2 b4 b5)) g := ⟨(Zv0 ..).trans hst.size, rfl, (Ze6 (Zqd (by decide) (hst.at 0 rfl)) (Ze6 (Zqd (by decide) (hst.at 1 rfl)) (Ze6 (Zqd (by decide) q4) (Ze6 (Zqd (by decide) q5) (Ze6 (Z1x q2 hv2) Zmz)))))⟩
   refine Zu ?_
   refine r_s (T := [⟨[.old 0], _, [], [], [24]⟩, ⟨[], [(8, (pBox Zx 8 (default : Zm)))], [9], [], [8]⟩, ⟨[.op 0 0, .op 1 0], _, [9], [0, 1], [8]⟩]) (F := [.old 0, .old 1, .old 2, .old 3, .op 2 0, .old 4]) hst hb Zb
     (o_p rfl (Zf Zbm rfl rfl u_0) <| o_p rfl (Zbi (zs := [.pointer none, .int .i64 0]) (by kernel_rfl) (fun g => Zdh g) rfl rfl) <| o_p rfl (Z6 Zbm rfl rfl u_1 u_0) <| o_n) (by kernel_rfl) (fun a g hst hb => ?_)
   refine wp_seq ?_
   refine r_s (T := [⟨[.old 1], _, [], [], [25]⟩, ⟨[.op 0 0], _, [], [0], [26]⟩, ⟨[.op 1 0], _, [], [0, 1], [27]⟩, ⟨[], _, [], [], [28]⟩]) (F := [.old 0, .old 2, .old 3, .old 4, .op 1 0, .op 2 0, .op 3 0, .old 5]) hst hb Zb
     (o_p rfl (Ze Zp2 rfl rfl u_0) <| o_p rfl (Zf Zuv rfl rfl u_0) <| o_p rfl (Zcj Tryd.underlying39 rfl rfl u_0) <| o_p rfl (Za rfl rfl c_i) <| o_n) (by kernel_rfl) (fun a g hst hb => ?_)
   obtain ⟨z19, hz1, H0⟩ := Zh H0
   refine Zc2 (fun a w => ∃ (y17 : Zba) (y18 : Zm) (g : G), w = g.w ∧ StD (dfr3 18 v2 b4 b5) 52 [(2, (Zx.ptr a0)), (4, (Zbk (some b4) Zx 4 (default : Zm))), (5, (Zhk (some b5) Zcu Zdo (hpL (pRow Zs 72 505 y17.Answers)) 5 y17)), (8, (pBox Zx 8 y18)), (1000, (pAt v2 (Zx.ptr a0)))] a g ∧ Base g0 g ∧ (.inr (y17, y18)) = z19) ?_ ?_
   · rintro a w ⟨y17, y18, g, rfl, hst, hb, rfl⟩
     refine Zu ?_
     refine r_s (T := [⟨[.old 3], _, [], [], [50]⟩, ⟨[.old 2], _, [], [], [51]⟩, ⟨[.op 0 0, .old 1], _, [5], [0], [4]⟩, ⟨[.op 1 0, .old 2], _, [6], [0, 1, 2], [5]⟩]) (F := [.old 0, .op 2 0, .op 3 0, .old 4]) hst hb Zb
       (o_p rfl (Zca Zbm rfl rfl u_0) <| o_p rfl (Z1r Zso Zmv rfl rfl u_0) <| o_p rfl (Z6 Zbm rfl rfl u_1 u_0) <| o_p rfl (Zoi (kV := Zcu) (by rfl) Zmv rfl rfl u_1 u_0) <| o_n) (by kernel_rfl) (fun a g hst hb => ?_)
     refine wp_ret ?_
     obtain rfl := Option.some.inj H0
     exact Z4b Zsv Z2a rfl Zbm Zmv hst hb (hst.at 1 rfl) (hst.at 2 rfl)
   · refine wp_block ?_
     refine wp_loop_ghost (fun n a w => ∃ (x4 : Zba) (x5 : Zm) (x6 : Int) (g : G), w = g.w ∧ StD (dfr3 18 v2 b4 b5) 52 [(2, (Zx.ptr a0)), (4, (Zbk (some b4) Zx 4 (default : Zm))), (5, (Zhk (some b5) Zcu Zdo (hpL (pRow Zs 72 505 x4.Answers)) 5 x4)), (8, (pBox Zx 8 x5)), (26, (Zbb.sl.pd a1.Acts)), (27, (pInt .i64 (a1.Acts.length : Int))), (28, (pInt .i64 x6)), (1000, (pAt v2 (Zx.ptr a0)))] a g ∧ Base g0 g ∧ Zd8 a0 a1 n x4 x5 x6 = some z19) (Int.toNat ((a1.Acts.length : Int) - (0 : Int)) + 1) ⟨(default : Zba), a0, (0 : Int), g, rfl, (hst.pick [0, 1, 2, 3, 4, 5, 6, 7] rfl), hb, hz1⟩ (fun n a w hI => ?_)
     obtain ⟨x4, x5, x6, g, rfl, hst, hb, H1⟩ := hI
     cases n with
     | zero => exact absurd H1 (by simp [Zd8])
     | succ n =>
       rw [Zd8] at H1
       refine r_s (T := [⟨[.old 6, .old 5], _, [], [], [29]⟩]) (F := [.old 0, .old 1, .old 2, .old 3, .old 4, .old 5, .old 6, .op 0 0, .old 7]) hst hb Zb
         (o_p rfl (Zc1 rfl rfl u_0 u_1) <| o_n) (by kernel_rfl) (fun a g hst hb => ?_)
       refine wp_seq ?_
       refine wp_cond_split (hst.bool 7 rfl) (fun hc7 => ?_) (fun hc7 => ?_)
       · replace H1 := Zz hc7 H1
         refine wp_skip ?_
         refine Zu ?_
         refine wp_seq ?_
         refine wp_block ?_
         obtain ⟨e8, h9, H1⟩ := Zh H1
         refine r_s (L := [(2, _), (4, _), (5, _), (8, _), (26, _), (27, _), (28, _), (1000, _)]) (T := [⟨[.old 6], _, [], [], [30]⟩, ⟨[.old 4, .old 6], _, [], [], [31]⟩, ⟨[.op 1 0], _, [], [1], [32]⟩, ⟨[], [(10, (pBox Zbb 10 (default : Zv)))], [11], [], [10]⟩, ⟨[.op 0 0], _, [], Lr 4, [9]⟩, ⟨[.op 2 0, .op 3 0], _, [11], Lr 5, [10]⟩]) (F := [.old 0, .old 1, .old 2, .old 3, .op 4 0, .op 5 0, .old 4, .old 5, .old 6, .old 7]) (hst.pick [0, 1, 2, 3, 4, 5, 6, 8] rfl) hb Zb
           (o_p rfl (Za rfl rfl u_0) <| o_p rfl (Zb4 Tryd.underlying39 Z2n rfl rfl u_0 u_1 h9) <| o_p rfl (Zf Zj8 rfl rfl u_0) <| o_p rfl (Zbi (zs := [.int .i64 0, .string ByteArray.empty, .int .i64 0, .float .f64 0, .string ByteArray.empty, .int .i64 0, .int .i64 0, .int .i64 0, .int .i64 0, .float .f64 0, .int .i64 0, .string ByteArray.empty, .slice none 0 0, .bool false]) (by kernel_rfl) (fun g => Zru g) rfl rfl) <| o_p rfl (Zc rfl rfl u_0) <| o_p rfl (Zb9 Zj8 rfl rfl u_1 u_0) <| o_n) (by kernel_rfl) (fun a g hst hb => ?_)
         refine r_s (T := [⟨[], [(11, (pBox Zs 11 (default : Zg)))], [12], [], [11]⟩]) (F := [.old 0, .old 1, .old 2, .old 3, .old 4, .old 5, .op 0 0, .old 6, .old 7, .old 8, .old 9]) hst hb Zb
           (o_p rfl (Zbi (zs := [.int .i64 0, .int .i64 0, .int .i64 0, .int .i64 0, .int .i64 0, .int .i64 0, .float .f64 0, .int .i64 0, .string ByteArray.empty, .slice none 0 0]) (by kernel_rfl) (fun g => Zfu g) rfl rfl) <| o_n) (by kernel_rfl) (fun a g hst hb => ?_)
         obtain ⟨r10, h11, H1⟩ := Zh H1
         refine r_s (T := [⟨[.old 3], _, [], [], [34]⟩, ⟨[.old 5], _, [], [], [35]⟩, ⟨[.op 0 0, .op 1 0], _, [], [0, 1], [36]⟩, ⟨[.op 2 0], _, [], [0, 1, 2], [33]⟩, ⟨[.op 3 0], _, [], Lr 4, [37]⟩, ⟨[.op 3 0], _, [], Lr 4, [38]⟩, ⟨[.op 4 0, .old 3], _, [9], Lr 5, [8]⟩, ⟨[.op 5 0, .old 6], _, [12], Lr 7, [11]⟩]) (F := [.old 0, .old 1, .old 2, .op 6 0, .old 4, .old 5, .op 7 0, .old 7, .old 8, .old 9, .old 10]) hst hb Zb
           (o_p rfl (Zca Zbm rfl rfl u_0) <| o_p rfl (Zf Zj8 rfl rfl u_0) <| o_p rfl (Zq Z7k (Zwx _ _ h11) rfl rfl (.cons u_0 (.cons u_1 .nil))) <| o_p rfl (Za rfl rfl u_0) <| o_p rfl (Z4 rfl rfl u_0 rfl) <| o_p rfl (Z4 rfl rfl u_0 rfl) <| o_p rfl (Z6 Zbm rfl rfl u_1 u_0) <| o_p rfl (Z6 Zcm rfl rfl u_1 u_0) <| o_n) (by kernel_rfl) (fun a g hst hb => ?_)
         rcases Z19 H1 with ⟨p12, h13, H1⟩ | ⟨h13, H1⟩
         · obtain rfl := Option.some.inj H1
           obtain rfl := Option.some.inj H0
           refine r_gQ (L := [(2, _), (4, _), (5, _), (8, _), (9, _), (10, _), (11, _), (26, _), (27, _), (28, _), (1000, _)]) (T := [⟨[.old 2], _, [], [], [39]⟩, ⟨[.op 0 0], _, [], [0], [40]⟩, ⟨[.old 5], _, [], [], [41]⟩, ⟨[.old 6], _, [], [], [42]⟩, ⟨[.old 4], _, [], [], [43]⟩, ⟨[.op 4 0], _, [], [4], [44]⟩, ⟨[.op 2 0, .op 3 0, .op 5 0, .old 1, .old 2, .old 10], [(45, pNo)], [], List.range' 2 4, [45]⟩, ⟨[.op 6 0], [], [], List.range' 2 5, [46]⟩, ⟨[.op 6 0], [], [], Lr 8, [47]⟩, ⟨[.op 6 0], [], [], Lr 9, [48]⟩, ⟨[.op 6 0], [], [], Lr 10, []⟩]) (F := [.op 6 0]) hst hb Zb
             (q_p rfl (Zo1 Zra (off := 2) (q := (pRow Zs 72 505 x4.Answers)) (by kernel_rfl) (pr := id) (fun _ => rfl) (fun _ _ h => h) rfl rfl u_0) <| q_p rfl (Zv8 Zvz rfl rfl u_0) <| q_p rfl (Zf Zj8 rfl rfl u_0) <| q_p rfl (Zca Zcm rfl rfl u_0) <| q_p rfl (Za rfl rfl u_0) <| q_p rfl (Zb8 rfl rfl u_0 c_i rfl) <| q_q (Zxc Z21 (Zsw _ _ _ h13) rfl rfl (.cons u_0 (.cons u_1 (.cons u_2 .nil))) (fun a g v hN hD hb hu hv => by refine Ztk ?_; refine Znk ?_; refine Znk ?_; refine Ztk ?_; refine Znk ?_; refine Znk ?_; exact Z05 (r := p12) (s4 := 4) (s5 := 5) Zss Z2a rfl Zbm Zmv h0 hD hb (by decide) (hu _ (List.mem_of_getElem? (i := 5) rfl)) (hu _ (List.mem_of_getElem? (i := 3) rfl)) (hu _ (List.mem_of_getElem? (i := 4) rfl)) hv)) <| q_p rfl (Zsg u_0) <| q_p rfl (Zsg u_0) <| q_p rfl (Zsg u_0) <| q_p rfl (Zsg u_0) <| q_n) (by kernel_rfl) (fun a g hst hb => (hst.at 0 rfl).elim)
         · obtain ⟨r14, h15, H1⟩ := Zh H1; obtain ⟨h16, H1⟩ := Zj5 H1
           refine r_g (T := [⟨[.old 2], _, [], [], [39]⟩, ⟨[.op 0 0], _, [], [0], [40]⟩, ⟨[.old 5], _, [], [], [41]⟩, ⟨[.old 6], _, [], [], [42]⟩, ⟨[.old 4], _, [], [], [43]⟩, ⟨[.op 4 0], _, [], [4], [44]⟩, ⟨[.op 2 0, .op 3 0, .op 5 0], _, [], List.range' 2 4, [45]⟩, ⟨[.op 6 0], _, [], List.range' 2 5, [46]⟩, ⟨[.op 1 0, .op 7 0, .old 2], _, [506], Lr 8, [5, 39, 40, 47]⟩, ⟨[.op 8 0], _, [], Lr 9, [48]⟩, ⟨[.op 8 1, .op 9 0, .op 8 0], _, [6], Lr 10, [5, 39, 48]⟩]) (F := [.old 0, .old 1, .op 10 0, .old 3, .old 7, .old 8, .old 9, .old 10]) hst hb Zb
             (o_p rfl (Zo1 Zra (off := 2) (q := (pRow Zs 72 505 x4.Answers)) (by kernel_rfl) (pr := id) (fun _ => rfl) (fun _ _ h => h) rfl rfl u_0) <| o_p rfl (Zv8 Zvz rfl rfl u_0) <| o_p rfl (Zf Zj8 rfl rfl u_0) <| o_p rfl (Zca Zcm rfl rfl u_0) <| o_p rfl (Za rfl rfl u_0) <| o_p rfl (Zb8 rfl rfl u_0 c_i rfl) <| o_p rfl (Zq Z21 (Zwb _ _ _ h15) rfl rfl (.cons u_0 (.cons u_1 (.cons u_2 .nil)))) <| o_p rfl (Zmr Z24 (xs := [.tmp 45]) (.cons u_0 .nil) (by decide) rfl rfl) <| o_p rfl (OB.frameU (Zkp Z24 rfl rfl u_0 u_1 h16) (Opd.imp u_2 (fun _ _ h => Z6z h)) (fun k hk hS => Z7u (List.mem_singleton.1 hk) (List.mem_singleton.1 hS) (by decide)) (fun h => by cases h)) <| o_p rfl (Zo1 Zra (off := 2) (q := pAny) (by kernel_rfl) (pr := id) (fun _ => rfl) (fun _ _ _ => trivial) rfl rfl u_0) <| o_p rfl (Zz6 (x' := ({ x4 with Answers := (x4.Answers ++ ([r14] : List Zg)) } : Zba)) (R2 := hpL (pRow Zs 72 505 (({ x4 with Answers := (x4.Answers ++ ([r14] : List Zg)) } : Zba).Answers))) (upd := fun _ s2 => s2) Zvz rfl rfl (fun _ _ h => Z4p h) (fun k hk => by rw [List.mem_singleton.1 hk]; decide) (fun k hk => by cases hk) u_2 (fun a g hh => Z4l (u_1 a g hh)) u_0 (fun _ _ _ _ h => h) (fun g cs s0 s1 ys h k => Zrm h k)) <| o_n) (by kernel_rfl) (fun a g hst hb => ?_)
           refine Zbr ?_
           refine Zu ?_
           refine r_g (T := [⟨[.old 6], _, [], [], [49]⟩, ⟨[.op 0 0], _, [], [0], [28]⟩]) (F := [.old 0, .old 1, .old 2, .old 3, .old 4, .old 5, .op 1 0, .old 7]) hst hb Zb
             (o_p rfl (Zb8 rfl rfl u_0 c_i rfl) <| o_p rfl (Za rfl rfl u_0) <| o_n) (by kernel_rfl) (fun a g hst hb => ?_)
           exact ⟨n, Nat.lt_succ_self _, ({ x4 with Answers := (x4.Answers ++ ([r14] : List Zg)) } : Zba), r10.1, (IntKind.i64.wrap (x6 + (1 : Int))), g, rfl, (hst.pick [0, 1, 2, 3, 4, 5, 6, 7] rfl), hb, H1⟩
       · replace H1 := Z0 hc7 H1
         refine wp_exit ?_
         refine Zce ?_
         refine Zce ?_
         refine Zdc ?_
         exact ⟨x4, x5, g, rfl, (hst.pick [0, 1, 2, 3, 8] rfl), hb, Option.some.inj H1⟩
end Go.CL
