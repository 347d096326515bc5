/- A part of the proof of ShareSlices. -/
import Derived.Test.YtbiobpmabomjfaaDoorShareSlicesC3
set_option linter.unusedVariables false
set_option linter.unusedSimpArgs false
set_option maxRecDepth 100000
namespace Go.CL
open Go Go.RowKit Go.Proofs
theorem Zmd (a0 : Zd) (a1 : Zu) (a2 : Zq) {r : Int × Zd × Zq} (h : Zic a0 a1 a2 = some r) : FnB Tryd.prog 82 [.box Zf a0 r.2.1, .val (Z1.pd a1), .box Z0 a2 r.2.2] (pInt .i64 r.1) := by
 have H0 := h
 unfold Zic at H0
 clear h
 refine Zf6 (N := 12) Tryd.func82 rfl rfl (Nat.le_of_ble_eq_true rfl) rfl rfl (fun a g0 bs hbs hst hb => ?_)
 obtain ⟨b0, b2, rfl⟩ := Zhf hbs
 replace hst : St 12 [(0, (Zbd (some b0) Zf 0 a0)), (1, (Z1.pd a1)), (2, (Zbd (some b2) Z0 2 a2))] _ _ := hst
 refine r_s (T := [⟨[.old 1], _, [], [], [4]⟩, ⟨[], _, [], [], [6]⟩]) (F := [.old 0, .old 2, .op 0 0]) hst hb Za
   (o_p rfl (Zbk rfl rfl u_0) <| o_p rfl (Zb rfl rfl c_i) <| o_n) (by kernel_rfl) (fun a g hst hb => ?_)
 refine r_s (T := [⟨[.old 0], _, [], [], [7]⟩, ⟨[.old 2], _, [], [], [8]⟩, ⟨[.op 1 0], _, [], [1], [9]⟩, ⟨[.op 0 0], _, [], [0, 1, 2], [10]⟩, ⟨[.op 3 0], _, [], Lr 4, [11]⟩, ⟨[.op 2 0, .op 4 0, .old 0], _, [1], Lr 5, [0, 7, 10, 11]⟩]) (F := [.op 5 0, .old 1]) hst hb Za
   (o_p rfl (Zc rfl rfl u_0) <| o_p rfl (Ze Zf4 rfl rfl u_0) <| o_p rfl (Zg ty_9 rfl rfl u_0) <| o_p rfl (Z7 rfl rfl u_0 (fun _ _ ⟨_, _, _, e, _⟩ => ⟨_, e⟩)) <| o_p rfl (Zo Zf1 (off := 6) (by kernel_rfl) rfl rfl u_0) <| o_p rfl (Zrf ty_9 rfl rfl u_2 u_1 u_0) <| o_n) (by kernel_rfl) (fun a g hst hb => ?_)
 refine r_s (T := [⟨[], _, [], [], [6]⟩]) (F := [.old 0, .old 1, .op 0 0]) hst hb Za
   (o_p rfl (Zb rfl rfl c_i) <| o_n) (by kernel_rfl) (fun a g hst hb => ?_)
 refine wp_ret ?_
 obtain rfl := Option.some.inj H0
 exact Zem rfl hst hb (Zi (s := 6)) (hst.at 2 rfl) ⟨Zby (hst.at 0 rfl), Zby (hst.at 1 rfl), trivial⟩
theorem Zme (a0 : Zd) (a1 : Zu) (a2 : Zq) {r : Int × Zd × Zq} (h : Zii a0 a1 a2 = some r) : FnB Tryd.prog 83 [.box Zf a0 r.2.1, .val (Z1.pd a1), .box Z0 a2 r.2.2] (pInt .i64 r.1) := by
 have H0 := h
 unfold Zii at H0
 clear h
 refine Zf6 (N := 19) Tryd.func83 rfl rfl (Nat.le_of_ble_eq_true rfl) rfl rfl (fun a g0 bs hbs hst hb => ?_)
 obtain ⟨b0, b2, rfl⟩ := Zhf hbs
 replace hst : St 19 [(0, (Zbd (some b0) Zf 0 a0)), (1, (Z1.pd a1)), (2, (Zbd (some b2) Z0 2 a2))] _ _ := hst
 refine r_s (T := [⟨[.old 1], _, [], [], [4]⟩, ⟨[], _, [], [], [6]⟩]) (F := [.old 0, .old 2, .op 0 0]) hst hb Za
   (o_p rfl (Zbk rfl rfl u_0) <| o_p rfl (Zb rfl rfl c_i) <| o_n) (by kernel_rfl) (fun a g hst hb => ?_)
 obtain ⟨r1, h2, H0⟩ := Zh H0
 refine r_s (T := [⟨[.old 1], _, [], [], [7]⟩, ⟨[.old 0], _, [], [], [8]⟩, ⟨[.op 1 0], _, [], [1], [9]⟩, ⟨[.op 2 0], _, [], [1, 2], [10]⟩, ⟨[.op 3 0], _, [], [1, 2, 3], [11]⟩, ⟨[.op 0 0], _, [], Lr 5, [12]⟩, ⟨[.op 5 0], _, [], Lr 6, [13]⟩, ⟨[.op 4 0, .op 6 0, .old 1], _, [3], Lr 7, [2, 7, 12, 13]⟩]) (F := [.old 0, .op 7 0, .old 2]) hst hb Za
   (o_p rfl (Zc rfl rfl u_0) <| o_p rfl (Zc rfl rfl u_0) <| o_p rfl (Z7 rfl rfl u_0 (fun _ _ ⟨_, _, _, e, _⟩ => ⟨_, e⟩)) <| o_p rfl (Zdd Z4 rfl rfl u_0) <| o_p rfl (Zs Zks (Ze6 _ h2) rfl rfl (.cons u_0 .nil)) <| o_p rfl (Z7 rfl rfl u_0 (fun _ _ ⟨_, _, _, e, _⟩ => ⟨_, e⟩)) <| o_p rfl (Zo Zwx (off := 2) (by kernel_rfl) rfl rfl u_0) <| o_p rfl (Zww Z4 rfl rfl u_2 u_1 u_0) <| o_n) (by kernel_rfl) (fun a g hst hb => ?_)
 refine r_s (T := [⟨[.old 0], _, [], [], [14]⟩, ⟨[.old 2], _, [], [], [15]⟩, ⟨[.op 1 0], _, [], [1], [16]⟩, ⟨[.op 0 0], _, [], [0, 1, 2], [17]⟩, ⟨[.op 3 0], _, [], Lr 4, [18]⟩, ⟨[.op 2 0, .op 4 0, .old 0], _, [1], Lr 5, [0, 14, 17, 18]⟩]) (F := [.op 5 0, .old 1]) hst hb Za
   (o_p rfl (Zc rfl rfl u_0) <| o_p rfl (Ze Zf4 rfl rfl u_0) <| o_p rfl (Zg ty_9 rfl rfl u_0) <| o_p rfl (Z7 rfl rfl u_0 (fun _ _ ⟨_, _, _, e, _⟩ => ⟨_, e⟩)) <| o_p rfl (Zo Zf1 (off := 6) (by kernel_rfl) rfl rfl u_0) <| o_p rfl (Zrf ty_9 rfl rfl u_2 u_1 u_0) <| o_n) (by kernel_rfl) (fun a g hst hb => ?_)
 refine r_s (T := [⟨[], _, [], [], [6]⟩]) (F := [.old 0, .old 1, .op 0 0]) hst hb Za
   (o_p rfl (Zb rfl rfl c_i) <| o_n) (by kernel_rfl) (fun a g hst hb => ?_)
 refine wp_ret ?_
 obtain rfl := Option.some.inj H0
 exact Zem rfl hst hb (Zi (s := 6)) (hst.at 2 rfl) ⟨Zby (hst.at 0 rfl), Zby (hst.at 1 rfl), trivial⟩
theorem Zl5 (a0 : Zd) (a1 : Zu) (a2 : Zq) {r : Int × Zd × Zq} (h : Zie a0 a1 a2 = some r) : FnB Tryd.prog 84 [.box Zf a0 r.2.1, .val (Z1.pd a1), .box Z0 a2 r.2.2] (pInt .i64 r.1) := by
 have H0 := h
 unfold Zie at H0
 clear h
 refine Zf6 (N := 16) Tryd.func84 rfl rfl (Nat.le_of_ble_eq_true rfl) rfl rfl (fun a g0 bs hbs hst hb => ?_)
 obtain ⟨b0, b2, rfl⟩ := Zhf hbs
 replace hst : St 16 [(0, (Zbd (some b0) Zf 0 a0)), (1, (Z1.pd a1)), (2, (Zbd (some b2) Z0 2 a2))] _ _ := hst
 refine r_s (T := [⟨[.old 1], _, [], [], [4]⟩, ⟨[], _, [], [], [6]⟩]) (F := [.old 0, .old 2, .op 0 0]) hst hb Za
   (o_p rfl (Zbk rfl rfl u_0) <| o_p rfl (Zb rfl rfl c_i) <| o_n) (by kernel_rfl) (fun a g hst hb => ?_)
 refine r_s (T := [⟨[.old 0], _, [], [], [7]⟩, ⟨[.op 0 0], _, [], [0], [8]⟩, ⟨[.op 1 0], _, [], [0, 1], [9]⟩, ⟨[.op 2 0], _, [], [0, 1, 2], [10]⟩, ⟨[.old 2], _, [], [], [11]⟩, ⟨[.op 4 0], _, [], [4], [12]⟩, ⟨[.op 3 0, .op 5 0], _, [], Lr 6, [13]⟩, ⟨[.op 0 0], _, [], Lr 7, [14]⟩, ⟨[.op 7 0], _, [], Lr 8, [15]⟩, ⟨[.op 6 0, .op 8 0, .old 0], _, [1], Lr 9, [0, 7, 8, 9, 14, 15]⟩]) (F := [.op 9 0, .old 1]) hst hb Za
   (o_p rfl (Zc rfl rfl u_0) <| o_p rfl (Z7 rfl rfl u_0 (fun _ _ ⟨_, _, _, e, _⟩ => ⟨_, e⟩)) <| o_p rfl (Zo Zb6 (off := 1) (by kernel_rfl) rfl rfl u_0) <| o_p rfl (Zbi ty_2 rfl rfl u_0) <| o_p rfl (Ze Zc3 rfl rfl u_0) <| o_p rfl (Zg ty_2 rfl rfl u_0) <| o_p rfl (Zcq rfl rfl u_0 u_1 rfl) <| o_p rfl (Z7 rfl rfl u_0 (fun _ _ ⟨_, _, _, e, _⟩ => ⟨_, e⟩)) <| o_p rfl (Zo Zb6 (off := 1) (by kernel_rfl) rfl rfl u_0) <| o_p rfl (Zj5 ty_2 rfl rfl u_2 u_1 u_0) <| o_n) (by kernel_rfl) (fun a g hst hb => ?_)
 refine r_s (T := [⟨[], _, [], [], [6]⟩]) (F := [.old 0, .old 1, .op 0 0]) hst hb Za
   (o_p rfl (Zb rfl rfl c_i) <| o_n) (by kernel_rfl) (fun a g hst hb => ?_)
 refine wp_ret ?_
 obtain rfl := Option.some.inj H0
 exact Zem rfl hst hb (Zi (s := 6)) (hst.at 2 rfl) ⟨Zby (hst.at 0 rfl), Zby (hst.at 1 rfl), trivial⟩
theorem Zp1 (a0 : Zd) (a1 : Zu) (a2 : Zq) {r : Int × Zd × Zq} (h : Zli a0 a1 a2 = some r) : FnB Tryd.prog 85 [.box Zf a0 r.2.1, .val (Z1.pd a1), .box Z0 a2 r.2.2] (pInt .i64 r.1) := by
 have H0 := h
 unfold Zli at H0
 clear h
 refine Zf6 (N := 44) Tryd.func85 rfl rfl (Nat.le_of_ble_eq_true rfl) rfl rfl (fun a g0 bs hbs hst hb => ?_)
 obtain ⟨b0, b2, rfl⟩ := Zhf hbs
 replace hst : St 44 [(0, (Zbd (some b0) Zf 0 a0)), (1, (Z1.pd a1)), (2, (Zbd (some b2) Z0 2 a2))] _ _ := hst
 refine r_s (T := [⟨[.old 1], _, [], [], [4]⟩, ⟨[], _, [], [], [6]⟩]) (F := [.old 0, .old 2, .op 0 0]) hst hb Za
   (o_p rfl (Zbk rfl rfl u_0) <| o_p rfl (Zb rfl rfl c_i) <| o_n) (by kernel_rfl) (fun a g hst hb => ?_)
 refine wp_seq ?_
 refine r_s (T := ⟨[.old 2], _, [], [], [7]⟩ :: ⟨[.op 0 0], _, [], [0], [8]⟩ :: ⟨[.op 1 0], _, [], [0, 1], [9]⟩ :: ⟨[.op 2 0], _, [], [0, 1, 2], [10]⟩ :: ⟨[.op 3 0, .old 0], _, [], Lr 4, [11]⟩ :: ⟨[.op 3 0, .op 4 0], _, [], Lr 5, [12]⟩ :: ⟨[.op 3 0, .op 5 0], _, [], Lr 6, [13]⟩ :: ⟨[.op 3 0, .op 6 0], _, [], Lr 7, [14]⟩ :: ⟨[.op 3 0, .old 2], _, [], Lr 4, [15]⟩ :: ⟨[.op 3 0, .op 8 0], _, [], [0, 1, 2, 3, 8], [16]⟩ :: ⟨[.op 3 0, .op 9 0], _, [], [0, 1, 2, 3, 8, 9], [17]⟩ :: ⟨[.op 3 0, .op 7 0, .op 10 0], _, [], Lr 11, [18]⟩ :: ⟨[.op 3 0, .op 11 0], _, [], Lr 12, [19]⟩ :: ⟨[.op 12 0], _, [], Lr 13, [20]⟩ :: ⟨[.op 13 0, .old 2], _, [], Lr 14, [21]⟩ :: ⟨[.op 13 0, .op 14 0], _, [], Lr 15, [22]⟩ :: ⟨[.op 13 0, .op 15 0], _, [], Lr 16, [23]⟩ :: ⟨[.op 13 0, .op 16 0], _, [], Lr 17, [24]⟩ :: ⟨[.op 17 0, .old 0], _, [], Lr 18, [25]⟩ :: ⟨[.op 17 0, .op 18 0], _, [], Lr 19, [26]⟩ :: ⟨[.op 17 0, .op 19 0], _, [], Lr 20, [27]⟩ :: ⟨[.op 17 0, .op 20 0], _, [], Lr 21, [28]⟩ :: ⟨[.op 17 0, .old 2], _, [], Lr 18, [29]⟩ :: ⟨[.op 17 0, .op 22 0], _, [], 0 :: 1 :: 2 :: 3 :: 4 :: 5 :: 6 :: 7 :: 8 :: 9 :: 10 :: 11 :: 12 :: 13 :: 14 :: 15 :: 16 :: 17 :: 22 :: [], [30]⟩ :: ⟨[.op 17 0, .op 23 0], _, [], 0 :: 1 :: 2 :: 3 :: 4 :: 5 :: 6 :: 7 :: 8 :: 9 :: 10 :: 11 :: 12 :: 13 :: 14 :: 15 :: 16 :: 17 :: 22 :: 23 :: [], [31]⟩ :: ⟨[.op 17 0, .op 21 0, .op 24 0], _, [], Lr 25, [32]⟩ :: ⟨[.op 13 0, .op 17 0, .op 25 0], _, [], Lr 26, [33]⟩ :: ⟨[.op 13 0, .op 26 0], _, [], Lr 27, [34]⟩ :: []) (F := [.old 0, .old 1, .old 2, .op 27 0]) hst hb Za
   (o_p rfl (Ze Zc3 rfl rfl u_0) <| o_p rfl (Zg ty_2 rfl rfl u_0) <| o_p rfl (Zb9 rfl rfl u_0 c_i) <| o_p rfl (Zc rfl rfl u_0) <| o_g (g_t rfl rfl rfl (fun hG => Zc rfl rfl u_0)) <| o_g (g_t rfl rfl rfl (fun hG => Z7 rfl rfl (Opd.gd hG u_0) (fun _ _ ⟨_, _, _, e, _⟩ => ⟨_, e⟩))) <| o_g (g_t rfl rfl rfl (fun hG => Zo Zb6 (off := 1) (by kernel_rfl) rfl rfl (Opd.gd hG u_0))) <| o_g (g_t rfl rfl rfl (fun hG => Zbi ty_2 rfl rfl (Opd.gd hG u_0))) <| o_g (g_t rfl rfl rfl (fun hG => Ze Zc3 rfl rfl u_0)) <| o_g (g_t rfl rfl rfl (fun hG => Zg ty_2 rfl rfl (Opd.gd hG u_0))) <| o_g (g_t rfl rfl rfl (fun hG => Zei rfl rfl c_i (Opd.gd hG u_0) rfl)) <| o_g (g_t rfl rfl rfl (fun hG => Zb9 rfl rfl (Opd.gd hG u_0) (Opd.gd hG u_1))) <| o_p rfl (Zbb rfl rfl u_0 (fun hz => (Opd.gd hz u_1))) <| o_p rfl (Zc rfl rfl u_0) <| o_g (g_f rfl rfl rfl (fun hG => Ze Zc3 rfl rfl u_0)) <| o_g (g_f rfl rfl rfl (fun hG => Zg ty_2 rfl rfl (Opd.gd hG u_0))) <| o_g (g_f rfl rfl rfl (fun hG => Zce rfl rfl (Opd.gd hG u_0) c_i)) <| o_g (g_f rfl rfl rfl (fun hG => Zc rfl rfl (Opd.gd hG u_0))) <| o_g (g_ti rfl rfl rfl (fun hG => Zc rfl rfl u_0)) <| o_g (g_ti rfl rfl rfl (fun hG => Z7 rfl rfl (Opd.gd hG u_0) (fun _ _ ⟨_, _, _, e, _⟩ => ⟨_, e⟩))) <| o_g (g_ti rfl rfl rfl (fun hG => Zo Zb6 (off := 1) (by kernel_rfl) rfl rfl (Opd.gd hG u_0))) <| o_g (g_ti rfl rfl rfl (fun hG => Zbi ty_2 rfl rfl (Opd.gd hG u_0))) <| o_g (g_ti rfl rfl rfl (fun hG => Ze Zc3 rfl rfl u_0)) <| o_g (g_ti rfl rfl rfl (fun hG => Zg ty_2 rfl rfl (Opd.gd hG u_0))) <| o_g (g_ti rfl rfl rfl (fun hG => Zei rfl rfl c_i (Opd.gd hG u_0) rfl)) <| o_g (g_ti rfl rfl rfl (fun hG => Zce rfl rfl (Opd.gd hG u_0) (Opd.gd hG u_1))) <| o_g (g_f rfl rfl rfl (fun hG => Zbb rfl rfl (Opd.gd hG u_0) (fun hz => (Opd.gd (bA hG hz) u_1)))) <| o_p rfl (Zbg rfl rfl u_0 (fun hz => (Opd.gd (bNF hz) u_1))) <| o_n) (by kernel_rfl) (fun a g hst hb => ?_)
 refine wp_cond_split (hst.bool 3 rfl) (fun hc1 => ?_) (fun hc1 => ?_)
 · replace H0 := Zp hc1 H0
   refine r_s (L := [(0, _), (2, _)]) (T := [⟨[], _, [], [], [6]⟩]) (F := [.old 0, .old 1, .op 0 0]) (hst.pick [0, 1] rfl) hb Za
     (o_p rfl (Zb rfl rfl c_i) <| o_n) (by kernel_rfl) (fun a g hst hb => ?_)
   refine wp_ret ?_
   refine Zk ?_
   obtain rfl := Option.some.inj H0
   exact Zem rfl hst hb (Zi (s := 6)) (hst.at 2 rfl) ⟨Zby (hst.at 0 rfl), Zby (hst.at 1 rfl), trivial⟩
 · replace H0 := Zr hc1 H0
   refine wp_skip ?_
   refine Zn ?_
   refine r_s (L := [(0, _), (2, _), (4, _)]) (T := [⟨[.old 0], _, [], [], [35]⟩, ⟨[.op 0 0], _, [], [0], [36]⟩, ⟨[.op 1 0], _, [], [0, 1], [37]⟩, ⟨[.op 2 0], _, [], [0, 1, 2], [38]⟩, ⟨[.old 2], _, [], [], [39]⟩, ⟨[.op 4 0], _, [], [4], [40]⟩, ⟨[.op 3 0, .op 5 0], _, [], Lr 6, [41]⟩, ⟨[.op 0 0], _, [], Lr 7, [42]⟩, ⟨[.op 7 0], _, [], Lr 8, [43]⟩, ⟨[.op 6 0, .op 8 0, .old 0], _, [1], Lr 9, [0, 35, 36, 37, 42, 43]⟩]) (F := [.op 9 0, .old 1]) (hst.pick [0, 1, 2] rfl) hb Za
     (o_p rfl (Zc rfl rfl u_0) <| o_p rfl (Z7 rfl rfl u_0 (fun _ _ ⟨_, _, _, e, _⟩ => ⟨_, e⟩)) <| o_p rfl (Zo Zb6 (off := 1) (by kernel_rfl) rfl rfl u_0) <| o_p rfl (Zbi ty_2 rfl rfl u_0) <| o_p rfl (Ze Zc3 rfl rfl u_0) <| o_p rfl (Zg ty_2 rfl rfl u_0) <| o_p rfl (Zcq rfl rfl u_0 u_1 rfl) <| o_p rfl (Z7 rfl rfl u_0 (fun _ _ ⟨_, _, _, e, _⟩ => ⟨_, e⟩)) <| o_p rfl (Zo Zb6 (off := 1) (by kernel_rfl) rfl rfl u_0) <| o_p rfl (Zj5 ty_2 rfl rfl u_2 u_1 u_0) <| o_n) (by kernel_rfl) (fun a g hst hb => ?_)
   refine r_s (T := [⟨[], _, [], [], [6]⟩]) (F := [.old 0, .old 1, .op 0 0]) hst hb Za
     (o_p rfl (Zb rfl rfl c_i) <| o_n) (by kernel_rfl) (fun a g hst hb => ?_)
   refine wp_ret ?_
   obtain rfl := Option.some.inj H0
   exact Zem rfl hst hb (Zi (s := 6)) (hst.at 2 rfl) ⟨Zby (hst.at 0 rfl), Zby (hst.at 1 rfl), trivial⟩
theorem Zjq (a0 : Zd) (a1 : Zu) (a2 : Zq) {r : Int × Zd × Zq} (h : Zhu a0 a1 a2 = some r) : FnB Tryd.prog 86 [.box Zf a0 r.2.1, .val (Z1.pd a1), .box Z0 a2 r.2.2] (pInt .i64 r.1) := by
 have H0 := h
 unfold Zhu at H0
 clear h
 refine Zf6 (N := 14) Tryd.func86 rfl rfl (Nat.le_of_ble_eq_true rfl) rfl rfl (fun a g0 bs hbs hst hb => ?_)
 obtain ⟨b0, b2, rfl⟩ := Zhf hbs
 replace hst : St 14 [(0, (Zbd (some b0) Zf 0 a0)), (1, (Z1.pd a1)), (2, (Zbd (some b2) Z0 2 a2))] _ _ := hst
 refine r_s (T := [⟨[.old 1], _, [], [], [4]⟩, ⟨[], _, [], [], [6]⟩]) (F := [.old 0, .old 2, .op 0 0]) hst hb Za
   (o_p rfl (Zbk rfl rfl u_0) <| o_p rfl (Zb rfl rfl c_i) <| o_n) (by kernel_rfl) (fun a g hst hb => ?_)
 refine wp_seq ?_
 refine r_s (T := [⟨[.old 0], _, [], [], [7]⟩, ⟨[.op 0 0], _, [], [0], [8]⟩, ⟨[.op 1 0], _, [], [0, 1], [9]⟩, ⟨[.op 2 0], _, [], [0, 1, 2], [10]⟩, ⟨[.old 2], _, [], [], [11]⟩, ⟨[.op 4 0], _, [], [4], [12]⟩, ⟨[.op 3 0, .op 5 0], _, [], Lr 6, [13]⟩]) (F := [.old 0, .old 1, .op 6 0]) hst hb Za
   (o_p rfl (Zc rfl rfl u_0) <| o_p rfl (Z7 rfl rfl u_0 (fun _ _ ⟨_, _, _, e, _⟩ => ⟨_, e⟩)) <| o_p rfl (Zo Zb6 (off := 1) (by kernel_rfl) rfl rfl u_0) <| o_p rfl (Zbi ty_2 rfl rfl u_0) <| o_p rfl (Ze Zc3 rfl rfl u_0) <| o_p rfl (Zg ty_2 rfl rfl u_0) <| o_p rfl (Zce rfl rfl u_0 u_1) <| o_n) (by kernel_rfl) (fun a g hst hb => ?_)
 refine wp_cond_split (hst.bool 2 rfl) (fun hc1 => ?_) (fun hc1 => ?_)
 · replace H0 := Zp hc1 H0
   refine r_s (L := [(0, _), (2, _)]) (T := [⟨[], _, [], [], [6]⟩]) (F := [.old 0, .old 1, .op 0 0]) (hst.pick [0, 1] rfl) hb Za
     (o_p rfl (Zb rfl rfl c_i) <| o_n) (by kernel_rfl) (fun a g hst hb => ?_)
   refine wp_ret ?_
   refine Zk ?_
   obtain rfl := Option.some.inj H0
   exact Zem rfl hst hb (Zi (s := 6)) (hst.at 2 rfl) ⟨Zby (hst.at 0 rfl), Zby (hst.at 1 rfl), trivial⟩
 · replace H0 := Zr hc1 H0
   refine wp_skip ?_
   refine Zn ?_
   refine r_s (L := [(0, _), (2, _)]) (T := [⟨[], _, [], [], [6]⟩]) (F := [.old 0, .old 1, .op 0 0]) (hst.pick [0, 1] rfl) hb Za
     (o_p rfl (Zb rfl rfl c_i) <| o_n) (by kernel_rfl) (fun a g hst hb => ?_)
   refine wp_ret ?_
   obtain rfl := Option.some.inj H0
   exact Zem rfl hst hb (Zi (s := 6)) (hst.at 2 rfl) ⟨Zby (hst.at 0 rfl), Zby (hst.at 1 rfl), trivial⟩
theorem Zl4 (a0 : Zd) (a1 : Zu) (a2 : Zq) {r : Int × Zd × Zq} (h : Zid a0 a1 a2 = some r) : FnB Tryd.prog 87 [.box Zf a0 r.2.1, .val (Z1.pd a1), .box Z0 a2 r.2.2] (pInt .i64 r.1) := by
 have H0 := h
 unfold Zid at H0
 clear h
 refine Zf6 (N := 28) Tryd.func87 rfl rfl (Nat.le_of_ble_eq_true rfl) rfl rfl (fun a g0 bs hbs hst hb => ?_)
 obtain ⟨b0, b2, rfl⟩ := Zhf hbs
 replace hst : St 28 [(0, (Zbd (some b0) Zf 0 a0)), (1, (Z1.pd a1)), (2, (Zbd (some b2) Z0 2 a2))] _ _ := hst
 refine r_s (T := [⟨[.old 1], _, [], [], [4]⟩, ⟨[], _, [], [], [6]⟩]) (F := [.old 0, .old 2, .op 0 0]) hst hb Za
   (o_p rfl (Zbk rfl rfl u_0) <| o_p rfl (Zb rfl rfl c_i) <| o_n) (by kernel_rfl) (fun a g hst hb => ?_)
 refine wp_seq ?_
 refine r_s (T := ⟨[.old 2], _, [], [], [7]⟩ :: ⟨[.op 0 0], _, [], [0], [8]⟩ :: ⟨[.old 0], _, [], [], [9]⟩ :: ⟨[.op 2 0], _, [], [2], [10]⟩ :: ⟨[.op 3 0], _, [], [2, 3], [11]⟩ :: ⟨[.op 4 0], _, [], [2, 3, 4], [12]⟩ :: ⟨[.old 0], _, [], [], [13]⟩ :: ⟨[.op 6 0], _, [], [6], [14]⟩ :: ⟨[.op 7 0], _, [], [6, 7], [15]⟩ :: ⟨[.op 8 0], _, [], [6, 7, 8], [16]⟩ :: ⟨[.op 5 0, .op 9 0], _, [], List.range' 2 8, [17]⟩ :: ⟨[.op 1 0, .op 10 0], _, [], Lr 11, [18]⟩ :: []) (F := [.old 0, .old 1, .old 2, .op 11 0]) hst hb Za
   (o_p rfl (Ze Zc3 rfl rfl u_0) <| o_p rfl (Zg ty_2 rfl rfl u_0) <| o_p rfl (Zc rfl rfl u_0) <| o_p rfl (Z7 rfl rfl u_0 (fun _ _ ⟨_, _, _, e, _⟩ => ⟨_, e⟩)) <| o_p rfl (Zo Zfb (off := 3) (by kernel_rfl) rfl rfl u_0) <| o_p rfl (Zbi ty_2 rfl rfl u_0) <| o_p rfl (Zc rfl rfl u_0) <| o_p rfl (Z7 rfl rfl u_0 (fun _ _ ⟨_, _, _, e, _⟩ => ⟨_, e⟩)) <| o_p rfl (Zo Zb6 (off := 1) (by kernel_rfl) rfl rfl u_0) <| o_p rfl (Zbi ty_2 rfl rfl u_0) <| o_p rfl (Zei rfl rfl u_0 u_1 rfl) <| o_p rfl (Zb9 rfl rfl u_0 u_1) <| o_n) (by kernel_rfl) (fun a g hst hb => ?_)
 refine wp_cond_split (hst.bool 3 rfl) (fun hc1 => ?_) (fun hc1 => ?_)
 · replace H0 := Zp hc1 H0
   refine r_s (L := [(0, _), (2, _)]) (T := [⟨[], _, [], [], [6]⟩]) (F := [.old 0, .old 1, .op 0 0]) (hst.pick [0, 1] rfl) hb Za
     (o_p rfl (Zb rfl rfl c_i) <| o_n) (by kernel_rfl) (fun a g hst hb => ?_)
   refine wp_ret ?_
   refine Zk ?_
   obtain rfl := Option.some.inj H0
   exact Zem rfl hst hb (Zi (s := 6)) (hst.at 2 rfl) ⟨Zby (hst.at 0 rfl), Zby (hst.at 1 rfl), trivial⟩
 · replace H0 := Zr hc1 H0
   refine wp_skip ?_
   refine Zn ?_
   refine r_s (L := [(0, _), (2, _), (4, _)]) (T := [⟨[.old 0], _, [], [], [19]⟩, ⟨[.op 0 0], _, [], [0], [20]⟩, ⟨[.op 1 0], _, [], [0, 1], [21]⟩, ⟨[.op 2 0], _, [], [0, 1, 2], [22]⟩, ⟨[.old 2], _, [], [], [23]⟩, ⟨[.op 4 0], _, [], [4], [24]⟩, ⟨[.op 3 0, .op 5 0], _, [], Lr 6, [25]⟩, ⟨[.op 0 0], _, [], Lr 7, [26]⟩, ⟨[.op 7 0], _, [], Lr 8, [27]⟩, ⟨[.op 6 0, .op 8 0, .old 0], _, [1], Lr 9, [0, 19, 20, 21, 26, 27]⟩]) (F := [.op 9 0, .old 1]) (hst.pick [0, 1, 2] rfl) hb Za
     (o_p rfl (Zc rfl rfl u_0) <| o_p rfl (Z7 rfl rfl u_0 (fun _ _ ⟨_, _, _, e, _⟩ => ⟨_, e⟩)) <| o_p rfl (Zo Zb6 (off := 1) (by kernel_rfl) rfl rfl u_0) <| o_p rfl (Zbi ty_2 rfl rfl u_0) <| o_p rfl (Ze Zc3 rfl rfl u_0) <| o_p rfl (Zg ty_2 rfl rfl u_0) <| o_p rfl (Zcq rfl rfl u_0 u_1 rfl) <| o_p rfl (Z7 rfl rfl u_0 (fun _ _ ⟨_, _, _, e, _⟩ => ⟨_, e⟩)) <| o_p rfl (Zo Zb6 (off := 1) (by kernel_rfl) rfl rfl u_0) <| o_p rfl (Zj5 ty_2 rfl rfl u_2 u_1 u_0) <| o_n) (by kernel_rfl) (fun a g hst hb => ?_)
   refine r_s (T := [⟨[], _, [], [], [6]⟩]) (F := [.old 0, .old 1, .op 0 0]) hst hb Za
     (o_p rfl (Zb rfl rfl c_i) <| o_n) (by kernel_rfl) (fun a g hst hb => ?_)
   refine wp_ret ?_
   obtain rfl := Option.some.inj H0
   exact Zem rfl hst hb (Zi (s := 6)) (hst.at 2 rfl) ⟨Zby (hst.at 0 rfl), Zby (hst.at 1 rfl), trivial⟩
theorem Zmc (a0 : Zd) (a1 : Zu) (a2 : Zq) {r : Int × Zd × Zq} (h : Zij a0 a1 a2 = some r) : FnB Tryd.prog 88 [.box Zf a0 r.2.1, .val (Z1.pd a1), .box Z0 a2 r.2.2] (pInt .i64 r.1) := by
 have H0 := h
 unfold Zij at H0
 clear h
 refine Zf6 (N := 28) Tryd.func88 rfl rfl (Nat.le_of_ble_eq_true rfl) rfl rfl (fun a g0 bs hbs hst hb => ?_)
 obtain ⟨b0, b2, rfl⟩ := Zhf hbs
 replace hst : St 28 [(0, (Zbd (some b0) Zf 0 a0)), (1, (Z1.pd a1)), (2, (Zbd (some b2) Z0 2 a2))] _ _ := hst
 refine r_s (T := [⟨[.old 1], _, [], [], [4]⟩, ⟨[], _, [], [], [6]⟩]) (F := [.old 0, .old 2, .op 0 0]) hst hb Za
   (o_p rfl (Zbk rfl rfl u_0) <| o_p rfl (Zb rfl rfl c_i) <| o_n) (by kernel_rfl) (fun a g hst hb => ?_)
 refine wp_seq ?_
 refine r_s (T := ⟨[.old 2], _, [], [], [7]⟩ :: ⟨[.op 0 0], _, [], [0], [8]⟩ :: ⟨[.old 0], _, [], [], [9]⟩ :: ⟨[.op 2 0], _, [], [2], [10]⟩ :: ⟨[.op 3 0], _, [], [2, 3], [11]⟩ :: ⟨[.op 4 0], _, [], [2, 3, 4], [12]⟩ :: ⟨[.old 0], _, [], [], [13]⟩ :: ⟨[.op 6 0], _, [], [6], [14]⟩ :: ⟨[.op 7 0], _, [], [6, 7], [15]⟩ :: ⟨[.op 8 0], _, [], [6, 7, 8], [16]⟩ :: ⟨[.op 5 0, .op 9 0], _, [], List.range' 2 8, [17]⟩ :: ⟨[.op 1 0, .op 10 0], _, [], Lr 11, [18]⟩ :: []) (F := [.old 0, .old 1, .old 2, .op 11 0]) hst hb Za
   (o_p rfl (Ze Zc3 rfl rfl u_0) <| o_p rfl (Zg ty_2 rfl rfl u_0) <| o_p rfl (Zc rfl rfl u_0) <| o_p rfl (Z7 rfl rfl u_0 (fun _ _ ⟨_, _, _, e, _⟩ => ⟨_, e⟩)) <| o_p rfl (Zo Zb6 (off := 1) (by kernel_rfl) rfl rfl u_0) <| o_p rfl (Zbi ty_2 rfl rfl u_0) <| o_p rfl (Zc rfl rfl u_0) <| o_p rfl (Z7 rfl rfl u_0 (fun _ _ ⟨_, _, _, e, _⟩ => ⟨_, e⟩)) <| o_p rfl (Zo Zfc (off := 2) (by kernel_rfl) rfl rfl u_0) <| o_p rfl (Zbi ty_2 rfl rfl u_0) <| o_p rfl (Zei rfl rfl u_0 u_1 rfl) <| o_p rfl (Zb9 rfl rfl u_0 u_1) <| o_n) (by kernel_rfl) (fun a g hst hb => ?_)
 refine wp_cond_split (hst.bool 3 rfl) (fun hc1 => ?_) (fun hc1 => ?_)
 · replace H0 := Zp hc1 H0
   refine r_s (L := [(0, _), (2, _)]) (T := [⟨[], _, [], [], [6]⟩]) (F := [.old 0, .old 1, .op 0 0]) (hst.pick [0, 1] rfl) hb Za
     (o_p rfl (Zb rfl rfl c_i) <| o_n) (by kernel_rfl) (fun a g hst hb => ?_)
   refine wp_ret ?_
   refine Zk ?_
   obtain rfl := Option.some.inj H0
   exact Zem rfl hst hb (Zi (s := 6)) (hst.at 2 rfl) ⟨Zby (hst.at 0 rfl), Zby (hst.at 1 rfl), trivial⟩
 · replace H0 := Zr hc1 H0
   refine wp_skip ?_
   refine Zn ?_
   refine r_s (L := [(0, _), (2, _), (4, _)]) (T := [⟨[.old 0], _, [], [], [19]⟩, ⟨[.op 0 0], _, [], [0], [20]⟩, ⟨[.op 1 0], _, [], [0, 1], [21]⟩, ⟨[.op 2 0], _, [], [0, 1, 2], [22]⟩, ⟨[.old 2], _, [], [], [23]⟩, ⟨[.op 4 0], _, [], [4], [24]⟩, ⟨[.op 3 0, .op 5 0], _, [], Lr 6, [25]⟩, ⟨[.op 0 0], _, [], Lr 7, [26]⟩, ⟨[.op 7 0], _, [], Lr 8, [27]⟩, ⟨[.op 6 0, .op 8 0, .old 0], _, [1], Lr 9, [0, 19, 20, 21, 26, 27]⟩]) (F := [.op 9 0, .old 1]) (hst.pick [0, 1, 2] rfl) hb Za
     (o_p rfl (Zc rfl rfl u_0) <| o_p rfl (Z7 rfl rfl u_0 (fun _ _ ⟨_, _, _, e, _⟩ => ⟨_, e⟩)) <| o_p rfl (Zo Zb6 (off := 1) (by kernel_rfl) rfl rfl u_0) <| o_p rfl (Zbi ty_2 rfl rfl u_0) <| o_p rfl (Ze Zc3 rfl rfl u_0) <| o_p rfl (Zg ty_2 rfl rfl u_0) <| o_p rfl (Zei rfl rfl u_0 u_1 rfl) <| o_p rfl (Z7 rfl rfl u_0 (fun _ _ ⟨_, _, _, e, _⟩ => ⟨_, e⟩)) <| o_p rfl (Zo Zb6 (off := 1) (by kernel_rfl) rfl rfl u_0) <| o_p rfl (Zj5 ty_2 rfl rfl u_2 u_1 u_0) <| o_n) (by kernel_rfl) (fun a g hst hb => ?_)
   refine r_s (T := [⟨[], _, [], [], [6]⟩]) (F := [.old 0, .old 1, .op 0 0]) hst hb Za
     (o_p rfl (Zb rfl rfl c_i) <| o_n) (by kernel_rfl) (fun a g hst hb => ?_)
   refine wp_ret ?_
   obtain rfl := Option.some.inj H0
   exact Zem rfl hst hb (Zi (s := 6)) (hst.at 2 rfl) ⟨Zby (hst.at 0 rfl), Zby (hst.at 1 rfl), trivial⟩
theorem Zf2 (h : Nat) (he : Zl Tryd.prog h) (ψ : Nat → Nat → Option Nat) (hψ : ∀ x y z, ψ x y = some z → FnOk Tryd.prog h [pFlt x, pFlt y] (pFlt z)) (a0 : Zd) (a1 : Zu) (a2 : Zq) {z : Nat} (hz : ψ a0.Real a1.X = some z) : FnB Tryd.prog 106 [.box Zf a0 { a0 with Real := z }, .val (Z1.pd a1), .box Z0 a2 a2, .val (Kd.fnc.ptr h)] (pInt .i64 0) := by
 refine Zf6 (N := 19) Tryd.func106 rfl rfl (Nat.le_of_ble_eq_true rfl) rfl rfl (fun a g0 bs hbs hst hb => ?_)
 obtain ⟨b0, b2, rfl⟩ := Zhf hbs
 replace hst : St 19 [(0, (Zbd (some b0) Zf 0 a0)), (1, (Z1.pd a1)), (2, (Zbd (some b2) Z0 2 a2)), (3, (Kd.fnc.ptr h))] _ _ := hst
 refine r_s (T := [⟨[.old 1], _, [], [], [5]⟩, ⟨[], _, [], [], [7]⟩]) (F := [.old 0, .old 2, .old 3, .op 0 0]) hst hb Za
   (o_p rfl (Zbk rfl rfl u_0) <| o_p rfl (Zb rfl rfl c_i) <| o_n) (by kernel_rfl) (fun a g hst hb => ?_)
 refine r_s (T := [⟨[.old 0], _, [], [], [8]⟩, ⟨[.old 2], _, [], [], [9]⟩, ⟨[.old 0], _, [], [], [10]⟩, ⟨[.op 2 0], _, [], [2], [11]⟩, ⟨[.op 3 0], _, [], [2, 3], [12]⟩, ⟨[.op 4 0], _, [], [2, 3, 4], [13]⟩, ⟨[.old 3], _, [], [], [14]⟩, ⟨[.op 6 0], _, [], [6], [15]⟩, ⟨[.op 1 0, .op 5 0, .op 7 0], [(16, (pFlt z))], [], [1, 2, 3, 4, 5, 6, 7], [16]⟩, ⟨[.op 0 0], _, [], [0, 1, 2, 3, 4, 5, 6, 7, 8], [17]⟩, ⟨[.op 9 0], _, [], [0, 1, 2, 3, 4, 5, 6, 7, 8, 9], [18]⟩, ⟨[.op 8 0, .op 10 0, .old 0], _, [1], [0, 1, 2, 3, 4, 5, 6, 7, 8, 9, 10], [0, 8, 10, 11, 12, 17, 18]⟩]) (F := [.op 11 0, .old 1]) hst hb Za
   (o_p rfl (Zc rfl rfl u_0) <| o_p rfl (Zg Zx4 rfl rfl u_0) <| o_p rfl (Zc rfl rfl u_0) <| o_p rfl (Z7 rfl rfl u_0 (fun _ _ ⟨_, _, _, e, _⟩ => ⟨_, e⟩)) <| o_p rfl (Zo Zd5 (off := 4) (by kernel_rfl) rfl rfl u_0) <| o_p rfl (Zbi Zci rfl rfl u_0) <| o_p rfl (Ze Zj4 rfl rfl u_0) <| o_p rfl (Zg Zci rfl rfl u_0) <| o_p rfl (Zkk (C := []) (hC := rfl) he (hψ _ _ _ hz) rfl rfl (Opd.imp u_0 (fun _ _ h => Zvz h)) (.cons u_1 (.cons u_2 .nil))) <| o_p rfl (Z7 rfl rfl u_0 (fun _ _ ⟨_, _, _, e, _⟩ => ⟨_, e⟩)) <| o_p rfl (Zo Zd5 (off := 4) (by kernel_rfl) rfl rfl u_0) <| o_p rfl (Znp Zci rfl rfl u_2 u_1 u_0) <| o_n) (by kernel_rfl) (fun a g hst hb => ?_)
 refine r_s (T := [⟨[], _, [], [], [7]⟩]) (F := [.old 0, .old 1, .op 0 0]) hst hb Za
   (o_p rfl (Zb rfl rfl c_i) <| o_n) (by kernel_rfl) (fun a g hst hb => ?_)
 refine wp_ret ?_
 exact Zem rfl hst hb (Zi (s := 7)) (hst.at 2 rfl) ⟨Zby (hst.at 0 rfl), Zby (hst.at 1 rfl), trivial⟩
theorem Zgv (h : Nat) : FnOk Tryd.prog 89 [(Kd.fnc.pd h)] (pClo 106 [(Kd.fnc.ptr h)] rfl) := by
 refine Zbo (N := 4) Tryd.func89 rfl rfl (Nat.le_of_ble_eq_true rfl) rfl rfl (fun a g0 hst hb => ?_)
 refine r_s (T := [⟨[.old 0], _, [], [], [1]⟩, ⟨[], [], [], [], [2]⟩]) (F := [.op 0 0]) hst hb Za
   (o_p rfl (Zbk rfl rfl u_0) <| o_p rfl (Zt3 (.inr rfl)) <| o_n) (by kernel_rfl) (fun a g hst hb => ?_)
 refine r_s (T := [⟨[.old 0], [(3, (pClo 106 [(Kd.fnc.ptr h)] rfl))], [], [], [3]⟩, ⟨[.op 0 0], _, [], [0], [2]⟩]) (F := [.op 1 0]) hst hb Za
   (o_p rfl (Zqg rfl rfl (.cons u_0 .nil)) <| o_p rfl (Zb rfl rfl u_0) <| o_n) (by kernel_rfl) (fun a g hst hb => ?_)
 refine wp_ret ?_
 exact Zy rfl hst hb (Zi (s := 2)) (hst.at 0 rfl)
theorem Zqk (a0 : Nat) (a1 : Nat) {r : Nat} (h : Zjd a0 a1 = some r) : FnOk Tryd.prog 90 [(pFlt a0), (pFlt a1)] (pFlt r) := by
 have H0 := h
 unfold Zjd at H0
 clear h
 refine Zbo (N := 9) Tryd.func90 rfl rfl (Nat.le_of_ble_eq_true rfl) rfl rfl (fun a g0 hst hb => ?_)
 refine r_s (T := [⟨[], _, [], [], [4]⟩]) (F := [.old 0, .old 1]) hst hb Za
   (o_p rfl (Zb rfl rfl c_f) <| o_n) (by kernel_rfl) (fun a g hst hb => ?_)
 obtain ⟨r1, h2, H0⟩ := Zh H0
 refine r_s (T := [⟨[.old 0], _, [], [], [5]⟩, ⟨[.old 1], _, [], [], [6]⟩, ⟨[.op 0 0, .op 1 0], _, [], [0, 1], [7]⟩, ⟨[.op 2 0], _, [], [0, 1, 2], [8]⟩, ⟨[.op 3 0], _, [], Lr 4, [4]⟩]) (F := [.op 4 0]) hst hb Za
   (o_p rfl (Zc rfl rfl u_0) <| o_p rfl (Zc rfl rfl u_0) <| o_p rfl (Zuc rfl rfl u_0 u_1) <| o_p rfl (Zs Zjp (Zqa (fun r z hr hz => by simp only [Zdj, hr, hz, Option.bind_some, if_true]) (fun z r h => Zej z h) h2) rfl rfl (.cons u_0 .nil)) <| o_p rfl (Zb rfl rfl u_0) <| o_n) (by kernel_rfl) (fun a g hst hb => ?_)
 refine wp_ret ?_
 obtain rfl := Option.some.inj H0
 exact Zy rfl hst hb (Zi (s := 4)) (hst.at 0 rfl)
theorem Zpv (a0 : Nat) (a1 : Nat) {r : Nat} (h : Zio a0 a1 = some r) : FnOk Tryd.prog 91 [(pFlt a0), (pFlt a1)] (pFlt r) := by
 have H0 := h
 unfold Zio at H0
 clear h
 refine Zbo (N := 9) Tryd.func91 rfl rfl (Nat.le_of_ble_eq_true rfl) rfl rfl (fun a g0 hst hb => ?_)
 refine r_s (T := [⟨[], _, [], [], [4]⟩]) (F := [.old 0, .old 1]) hst hb Za
   (o_p rfl (Zb rfl rfl c_f) <| o_n) (by kernel_rfl) (fun a g hst hb => ?_)
 obtain ⟨r1, h2, H0⟩ := Zh H0
 refine r_s (T := [⟨[.old 0], _, [], [], [5]⟩, ⟨[.old 1], _, [], [], [6]⟩, ⟨[.op 0 0, .op 1 0], _, [], [0, 1], [7]⟩, ⟨[.op 2 0], _, [], [0, 1, 2], [8]⟩, ⟨[.op 3 0], _, [], Lr 4, [4]⟩]) (F := [.op 4 0]) hst hb Za
   (o_p rfl (Zc rfl rfl u_0) <| o_p rfl (Zc rfl rfl u_0) <| o_p rfl (Ztv rfl rfl u_0 u_1) <| o_p rfl (Zs Zjp (Zqa (fun r z hr hz => by simp only [Zdj, hr, hz, Option.bind_some, if_true]) (fun z r h => Zej z h) h2) rfl rfl (.cons u_0 .nil)) <| o_p rfl (Zb rfl rfl u_0) <| o_n) (by kernel_rfl) (fun a g hst hb => ?_)
 refine wp_ret ?_
 obtain rfl := Option.some.inj H0
 exact Zy rfl hst hb (Zi (s := 4)) (hst.at 0 rfl)
theorem Zl8 (a0 : Nat) (a1 : Nat) {r : Nat} (h : Zf3 a0 a1 = some r) : FnOk Tryd.prog 92 [(pFlt a0), (pFlt a1)] (pFlt r) := by
 have H0 := h
 unfold Zf3 at H0
 clear h
 refine Zbo (N := 6) Tryd.func92 rfl rfl (Nat.le_of_ble_eq_true rfl) rfl rfl (fun a g0 hst hb => ?_)
 refine r_s (L := [(1, _)]) (T := [⟨[], _, [], [], [4]⟩]) (F := [.old 0]) (hst.pick [1] rfl) hb Za
   (o_p rfl (Zb rfl rfl c_f) <| o_n) (by kernel_rfl) (fun a g hst hb => ?_)
 refine r_s (T := [⟨[.old 0], _, [], [], [5]⟩, ⟨[.op 0 0], _, [], [0], [4]⟩]) (F := [.op 1 0]) hst hb Za
   (o_p rfl (Zc rfl rfl u_0) <| o_p rfl (Zb rfl rfl u_0) <| o_n) (by kernel_rfl) (fun a g hst hb => ?_)
 refine wp_ret ?_
 obtain rfl := Option.some.inj H0
 exact Zy rfl hst hb (Zi (s := 4)) (hst.at 0 rfl)
theorem Zet (f2 : Nat) (C2 : List Pd) (hC2 : Free C2) (e2_ : Zl Tryd.prog f2) (φ2 : Zj → ByteArray → Option Int) (hφ2 : ∀ (y0 : Zj) (y1 : ByteArray) (r : Int), φ2 y0 y1 = some r → FnOk Tryd.prog f2 ([(Zm.pd y0), (pStr y1)] ++ C2) (pInt .i64 r)) (a0 : List Zj) (a1 : ByteArray) {r : Int × Bool} (h : Zcj a0 a1 φ2 = some r) : FnOk Tryd.prog 108 [(Zm.sl.pd a0), (pStr a1), (pClo f2 C2 hC2)] (pTup [(pInt .i64 r.1), (Z5 r.2)]) := by
 have H0 := h
 unfold Zcj at H0
 clear h
 refine Zbo (N := 49) Tryd.func108 rfl rfl (Nat.le_of_ble_eq_true rfl) rfl rfl (fun a g0 hst hb => ?_)
 refine r_s (T := [⟨[], _, [], [], [6]⟩, ⟨[], _, [], [0], [7]⟩]) (F := [.old 0, .old 1, .old 2]) hst hb Za
   (o_p rfl (Zb rfl rfl c_i) <| o_p rfl (Zb rfl rfl c_b) <| o_n) (by kernel_rfl) (fun a g hst hb => ?_)
 refine r_s (T := [⟨[.old 0], _, [], [], [12]⟩, ⟨[.op 0 0], _, [], [0], [13]⟩, ⟨[.op 1 0], _, [], [0, 1], [8]⟩]) (F := [.old 0, .old 1, .old 2, .op 2 0, .op 0 0]) hst hb Za
   (o_p rfl (Zc rfl rfl u_0) <| o_p rfl (Zca Tryd.underlying23 rfl rfl u_0) <| o_p rfl (Zb rfl rfl u_0) <| o_n) (by kernel_rfl) (fun a g hst hb => ?_)
 refine r_s (T := [⟨[.old 3], _, [], [], [14]⟩, ⟨[], _, [], [], [9]⟩, ⟨[.op 0 0], _, [], [0, 1], [10]⟩]) (F := [.old 0, .old 1, .old 2, .old 3, .op 1 0, .op 2 0, .old 4]) hst hb Za
   (o_p rfl (Zc rfl rfl u_0) <| o_p rfl (Zb rfl rfl c_i) <| o_p rfl (Zb rfl rfl u_0) <| o_n) (by kernel_rfl) (fun a g hst hb => ?_)
 obtain ⟨z12, hz1, H0⟩ := Zh H0
 refine wp_seq ?_
 refine Zcf (fun a w => ∃ (y11 : Int) (g : G), w = g.w ∧ St 49 [(0, (Zm.sl.pd a0)), (1, (pStr a1)), (2, (pClo f2 C2 hC2)), (8, (pInt .i64 (a0.length : Int))), (9, (pInt .i64 y11)), (12, (Zm.sl.pd a0))] a g ∧ Base g0 g ∧ y11 = z12) ?_ ?_
 · rintro a w ⟨y11, g, rfl, hst, hb, rfl⟩
   refine Zn ?_
   obtain ⟨e13, h14, H0⟩ := Zh H0; obtain ⟨r15, h16, H0⟩ := Zh H0
   refine r_s (T := ⟨[.old 4], _, [], [], [35]⟩ :: ⟨[.old 4], _, [], [], [36]⟩ :: ⟨[.old 3], _, [], [], [37]⟩ :: ⟨[.op 1 0, .op 2 0], _, [], [1, 2], [38]⟩ :: ⟨[.op 3 0], _, [], [1, 2, 3], [39]⟩ :: ⟨[.op 4 0, .old 2], _, [], List.range' 1 4, [40]⟩ :: ⟨[.op 4 0, .old 0], _, [], List.range' 1 4, [41]⟩ :: ⟨[.op 4 0, .old 4], _, [], List.range' 1 4, [42]⟩ :: ⟨[.op 4 0, .op 6 0, .op 7 0], _, [], [1, 2, 3, 4, 6, 7], [43]⟩ :: ⟨[.op 4 0, .op 8 0], _, [], [1, 2, 3, 4, 6, 7, 8], [44]⟩ :: ⟨[.op 4 0, .old 1], _, [], List.range' 1 4, [45]⟩ :: ⟨[.op 4 0, .op 5 0, .op 9 0, .op 10 0], _, [], List.range' 1 10, [46]⟩ :: ⟨[.op 4 0, .op 11 0], _, [], List.range' 1 11, [47]⟩ :: ⟨[.op 4 0, .op 12 0], _, [], List.range' 1 12, [48]⟩ :: ⟨[.op 0 0], _, [], Lr 12, [6]⟩ :: ⟨[.op 13 0], _, [], Lr 15, [7]⟩ :: []) (F := [.op 14 0, .op 15 0]) hst hb Za
     (o_p rfl (Zc rfl rfl u_0) <| o_p rfl (Zc rfl rfl u_0) <| o_p rfl (Zc rfl rfl u_0) <| o_p rfl (Zce rfl rfl u_0 u_1) <| o_p rfl (Zc rfl rfl u_0) <| o_g (g_t rfl rfl rfl (fun hG => Zc rfl rfl u_0)) <| o_g (g_t rfl rfl rfl (fun hG => Zc rfl rfl u_0)) <| o_g (g_t rfl rfl rfl (fun hG => Zc rfl rfl u_0)) <| o_g (g_t rfl rfl rfl (fun hG => Zbn Tryd.underlying23 Zen rfl rfl (Opd.gd hG u_0) (Opd.gd hG u_1) (Zbp h14 hG))) <| o_g (g_t rfl rfl rfl (fun hG => Zg Zc9 rfl rfl (Opd.gd hG u_0))) <| o_g (g_t rfl rfl rfl (fun hG => Zc rfl rfl u_0)) <| o_g (g_t rfl rfl rfl (fun hG => Zkk e2_ (hφ2 _ _ _ (Zbp h16 hG)) rfl rfl (Opd.gd hG u_0) (.cons (Opd.gd hG u_1) (.cons (Opd.gd hG u_2) .nil)))) <| o_g (g_t rfl rfl rfl (fun hG => Z8 rfl rfl (Opd.gd hG u_0) c_i)) <| o_p rfl (Zbb rfl rfl u_0 (fun hz => (Opd.gd hz u_1))) <| o_p rfl (Zb rfl rfl u_0) <| o_p rfl (Zb rfl rfl u_0) <| o_n) (by kernel_rfl) (fun a g hst hb => ?_)
   refine wp_ret ?_
   obtain rfl := Option.some.inj H0
   exact Zef rfl hst hb (Zi (s := 6)) (Zi (s := 7)) (Zdi (hst.at 0 rfl) (hst.at 1 rfl))
 · refine wp_block ?_
   refine wp_loop_ghost (fun n a w => ∃ (x1 : Int) (x2 : Int) (g : G), w = g.w ∧ St 49 [(0, (Zm.sl.pd a0)), (1, (pStr a1)), (2, (pClo f2 C2 hC2)), (8, (pInt .i64 (a0.length : Int))), (9, (pInt .i64 x1)), (10, (pInt .i64 x2)), (12, (Zm.sl.pd a0))] a g ∧ Base g0 g ∧ Zbc a0 a1 φ2 n x1 x2 = some z12) (Int.toNat ((a0.length : Int) - (0 : Int)) + 1) ⟨(0 : Int), (a0.length : Int), g, rfl, (hst.pick [0, 1, 2, 3, 4, 5, 6] rfl), hb, hz1⟩ (fun n a w hI => ?_)
   obtain ⟨x1, x2, g, rfl, hst, hb, H1⟩ := hI
   cases n with
   | zero => exact absurd H1 (by simp [Zbc])
   | succ n =>
     rw [Zbc] at H1
     refine wp_seq ?_
     refine r_s (T := [⟨[.old 4], _, [], [], [15]⟩, ⟨[.old 5], _, [], [], [16]⟩, ⟨[.op 0 0, .op 1 0], _, [], [0, 1], [17]⟩]) (F := [.old 0, .old 1, .old 2, .old 3, .old 4, .old 5, .old 6, .op 2 0]) hst hb Za
       (o_p rfl (Zc rfl rfl u_0) <| o_p rfl (Zc rfl rfl u_0) <| o_p rfl (Zce rfl rfl u_0 u_1) <| o_n) (by kernel_rfl) (fun a g hst hb => ?_)
     refine wp_cond_split (hst.bool 7 rfl) (fun hc3 => ?_) (fun hc3 => ?_)
     · replace H1 := Zp hc3 H1
       refine wp_skip ?_
       refine Zn ?_
       refine Zcf (fun a w => ∃ (j9 : Int) (j10 : Int) (g : G), w = g.w ∧ St 49 [(0, (Zm.sl.pd a0)), (1, (pStr a1)), (2, (pClo f2 C2 hC2)), (8, (pInt .i64 (a0.length : Int))), (9, (pInt .i64 j9)), (10, (pInt .i64 j10)), (12, (Zm.sl.pd a0))] a g ∧ Base g0 g ∧ Zbx (Zbc a0 a1 φ2 n) j9 j10 = some z12) ?_ ?_
       · rintro a w ⟨j9, j10, g, rfl, hst, hb, H1⟩
         unfold Zbx at H1
         exact ⟨n, Nat.lt_succ_self _, j9, j10, g, rfl, (hst.pick [0, 1, 2, 3, 4, 5, 6] rfl), hb, H1⟩
       · refine wp_block ?_
         refine r_s (L := [(0, _), (1, _), (2, _), (8, _), (9, _), (10, _), (12, _)]) (T := [⟨[.old 4], _, [], [], [18]⟩, ⟨[.old 5], _, [], [], [19]⟩, ⟨[.op 0 0, .op 1 0], _, [], [0, 1], [20]⟩, ⟨[.op 2 0], _, [], [0, 1, 2], [21]⟩, ⟨[.op 3 0], _, [], Lr 4, [22]⟩, ⟨[.op 4 0], _, [], Lr 5, [23]⟩, ⟨[.op 5 0], _, [], Lr 6, [11]⟩]) (F := [.old 0, .old 1, .old 2, .old 3, .old 4, .old 5, .op 6 0, .old 6]) (hst.pick [0, 1, 2, 3, 4, 5, 6] rfl) hb Za
           (o_p rfl (Zc rfl rfl u_0) <| o_p rfl (Zc rfl rfl u_0) <| o_p rfl (Zcq rfl rfl u_0 u_1 rfl) <| o_p rfl (Zeo Tryd.underlying3 Tryd.underlying142 rfl rfl u_0 rfl) <| o_p rfl (Zyc rfl rfl u_0 c_i (by decide) rfl) <| o_p rfl (Zeo Tryd.underlying142 Tryd.underlying3 rfl rfl u_0 rfl) <| o_p rfl (Zb rfl rfl u_0) <| o_n) (by kernel_rfl) (fun a g hst hb => ?_)
         obtain ⟨e4, h5, H1⟩ := Zh H1; obtain ⟨r6, h7, H1⟩ := Zh H1
         refine r_s (T := [⟨[.old 2], _, [], [], [24]⟩, ⟨[.old 0], _, [], [], [25]⟩, ⟨[.old 6], _, [], [], [26]⟩, ⟨[.op 1 0, .op 2 0], _, [], [1, 2], [27]⟩, ⟨[.op 3 0], _, [], [1, 2, 3], [28]⟩, ⟨[.old 1], _, [], [], [29]⟩, ⟨[.op 0 0, .op 4 0, .op 5 0], _, [], Lr 6, [30]⟩, ⟨[.op 6 0], _, [], Lr 7, [31]⟩]) (F := [.old 0, .old 1, .old 2, .old 3, .old 4, .old 5, .old 6, .old 7, .op 7 0]) hst hb Za
           (o_p rfl (Zc rfl rfl u_0) <| o_p rfl (Zc rfl rfl u_0) <| o_p rfl (Zc rfl rfl u_0) <| o_p rfl (Zbn Tryd.underlying23 Zen rfl rfl u_0 u_1 h5) <| o_p rfl (Zg Zc9 rfl rfl u_0) <| o_p rfl (Zc rfl rfl u_0) <| o_p rfl (Zkk e2_ (hφ2 _ _ _ h7) rfl rfl u_0 (.cons u_1 (.cons u_2 .nil))) <| o_p rfl (Zce rfl rfl u_0 c_i) <| o_n) (by kernel_rfl) (fun a g hst hb => ?_)
         refine wp_cond_split (hst.bool 8 rfl) (fun hc8 => ?_) (fun hc8 => ?_)
         · replace H1 := Zp hc8 H1
           refine r_g (L := [(0, _), (1, _), (2, _), (8, _), (10, _), (11, _), (12, _)]) (T := [⟨[.old 5], _, [], [], [32]⟩, ⟨[.op 0 0], _, [], [0], [33]⟩, ⟨[.op 1 0], _, [], [0, 1], [9]⟩]) (F := [.old 0, .old 1, .old 2, .old 3, .op 2 0, .old 4, .old 6]) (hst.pick [0, 1, 2, 3, 5, 6, 7] rfl) hb Za
             (o_p rfl (Zc rfl rfl u_0) <| o_p rfl (Zcq rfl rfl u_0 c_i rfl) <| o_p rfl (Zb rfl rfl u_0) <| o_n) (by kernel_rfl) (fun a g hst hb => ?_)
           refine Zbe ?_
           exact ⟨(IntKind.i64.wrap ((IntKind.i64.wrap (Int.fdiv (IntKind.u64.wrap (IntKind.i64.wrap (x1 + x2))) (2 ^ 1))) + (1 : Int))), x2, g, rfl, (hst.pick [0, 1, 2, 3, 4, 5, 6] rfl), hb, H1⟩
         · replace H1 := Zr hc8 H1
           refine r_g (L := [(0, _), (1, _), (2, _), (8, _), (9, _), (11, _), (12, _)]) (T := [⟨[.old 5], _, [], [], [34]⟩, ⟨[.op 0 0], _, [], [0], [10]⟩]) (F := [.old 0, .old 1, .old 2, .old 3, .old 4, .op 1 0, .old 6]) (hst.pick [0, 1, 2, 3, 4, 6, 7] rfl) hb Za
             (o_p rfl (Zc rfl rfl u_0) <| o_p rfl (Zb rfl rfl u_0) <| o_n) (by kernel_rfl) (fun a g hst hb => ?_)
           refine Zbe ?_
           exact ⟨x1, (IntKind.i64.wrap (Int.fdiv (IntKind.u64.wrap (IntKind.i64.wrap (x1 + x2))) (2 ^ 1))), g, rfl, (hst.pick [0, 1, 2, 3, 4, 5, 6] rfl), hb, H1⟩
     · replace H1 := Zr hc3 H1
       refine wp_exit ?_
       refine Zcg ?_
       refine Zcg ?_
       refine Zc4 ?_
       exact ⟨x1, g, rfl, (hst.pick [0, 1, 2, 3, 4, 6] rfl), hb, Option.some.inj H1⟩
theorem Zn0 (a0 : Zj) (a1 : ByteArray) {r : Int} (h : Zim a0 a1 = some r) : FnOk Tryd.prog 109 [(Zm.pd a0), (pStr a1)] (pInt .i64 r) := by
 have H0 := h
 unfold Zim at H0
 clear h
 refine Zbo (N := 15) Tryd.func109 rfl rfl (Nat.le_of_ble_eq_true rfl) rfl rfl (fun a g0 hst hb => ?_)
 refine r_s (T := [⟨[.old 0], _, [], [], [2]⟩, ⟨[], _, [], [], [4]⟩]) (F := [.old 1, .op 0 0]) hst hb Za
   (o_p rfl (Zbk rfl rfl u_0) <| o_p rfl (Zb rfl rfl c_i) <| o_n) (by kernel_rfl) (fun a g hst hb => ?_)
 refine wp_seq ?_
 refine wp_block ?_
 refine r_s (T := [⟨[.old 1], _, [], [], [6]⟩, ⟨[.op 0 0], _, [], [0], [7]⟩, ⟨[.old 0], _, [], [], [8]⟩, ⟨[.op 1 0, .op 2 0], _, [], [0, 1, 2], [9]⟩, ⟨[.op 3 0], _, [], Lr 4, [5]⟩]) (F := [.old 0, .old 1, .op 4 0]) hst hb Za
   (o_p rfl (Ze Zdg rfl rfl u_0) <| o_p rfl (Zg ty_9 rfl rfl u_0) <| o_p rfl (Zc rfl rfl u_0) <| o_p rfl (Zm9 rfl rfl u_0 u_1) <| o_p rfl (Zb rfl rfl u_0) <| o_n) (by kernel_rfl) (fun a g hst hb => ?_)
 refine wp_cond_split (hst.bool 2 rfl) (fun hc1 => ?_) (fun hc1 => ?_)
 · replace H0 := Zp hc1 H0
   refine r_s (L := []) (T := [⟨[], _, [], [], [4]⟩]) (F := [.op 0 0]) (hst.pick [] rfl) hb Za
     (o_p rfl (Zb rfl rfl c_i) <| o_n) (by kernel_rfl) (fun a g hst hb => ?_)
   refine wp_ret ?_
   refine Zt ?_
   refine Zk ?_
   obtain rfl := Option.some.inj H0
   exact Zy rfl hst hb (Zi (s := 4)) (hst.at 0 rfl)
 · replace H0 := Zr hc1 H0
   refine r_s (L := [(1, _), (2, _)]) (T := [⟨[.old 1], _, [], [], [11]⟩, ⟨[.op 0 0], _, [], [0], [12]⟩, ⟨[.old 0], _, [], [], [13]⟩, ⟨[.op 1 0, .op 2 0], _, [], [0, 1, 2], [14]⟩, ⟨[.op 3 0], _, [], Lr 4, [10]⟩]) (F := [.op 4 0]) (hst.pick [0, 1] rfl) hb Za
     (o_p rfl (Ze Zdg rfl rfl u_0) <| o_p rfl (Zg ty_9 rfl rfl u_0) <| o_p rfl (Zc rfl rfl u_0) <| o_p rfl (Zx5 rfl rfl u_0 u_1) <| o_p rfl (Zb rfl rfl u_0) <| o_n) (by kernel_rfl) (fun a g hst hb => ?_)
   refine wp_cond_split (hst.bool 0 rfl) (fun hc2 => ?_) (fun hc2 => ?_)
   · replace H0 := Zp hc2 H0
     refine r_s (L := []) (T := [⟨[], _, [], [], [4]⟩]) (F := [.op 0 0]) (hst.pick [] rfl) hb Za
       (o_p rfl (Zb rfl rfl c_i) <| o_n) (by kernel_rfl) (fun a g hst hb => ?_)
     refine wp_ret ?_
     refine Zt ?_
     refine Zk ?_
     obtain rfl := Option.some.inj H0
     exact Zy rfl hst hb (Zi (s := 4)) (hst.at 0 rfl)
   · replace H0 := Zr hc2 H0
     refine wp_skip ?_
     refine Zbe ?_
     refine Zn ?_
     refine r_s (L := []) (T := [⟨[], _, [], [], [4]⟩]) (F := [.op 0 0]) (hst.pick [] rfl) hb Za
       (o_p rfl (Zb rfl rfl c_i) <| o_n) (by kernel_rfl) (fun a g hst hb => ?_)
     refine wp_ret ?_
     obtain rfl := Option.some.inj H0
     exact Zy rfl hst hb (Zi (s := 4)) (hst.at 0 rfl)
theorem Zjb (a0 : List Zj) (a1 : ByteArray) {r : Int × Bool} (h : Zit a0 a1 = some r) : FnOk Tryd.prog 95 [(Zm.sl.pd a0), (pStr a1)] (pTup [(pInt .i64 r.1), (Z5 r.2)]) := by
 have H0 := h
 unfold Zit at H0
 clear h
 refine Zbo (N := 11) Tryd.func95 rfl rfl (Nat.le_of_ble_eq_true rfl) rfl rfl (fun a g0 hst hb => ?_)
 refine r_s (T := [⟨[], _, [], [], [4]⟩, ⟨[], _, [], [0], [5]⟩]) (F := [.old 0, .old 1]) hst hb Za
   (o_p rfl (Zb rfl rfl c_i) <| o_p rfl (Zb rfl rfl c_b) <| o_n) (by kernel_rfl) (fun a g hst hb => ?_)
 obtain ⟨r1, h2, H0⟩ := Zh H0
 refine r_s (T := [⟨[.old 0], _, [], [], [6]⟩, ⟨[.old 1], _, [], [], [7]⟩, ⟨[.op 0 0, .op 1 0], _, [], [0, 1], [8]⟩, ⟨[.op 2 0], _, [], [0, 1, 2], [9]⟩, ⟨[.op 2 0], _, [], [0, 1, 2], [10]⟩, ⟨[.op 3 0], _, [], Lr 5, [4]⟩, ⟨[.op 4 0], _, [], Lr 6, [5]⟩]) (F := [.op 5 0, .op 6 0]) hst hb Za
   (o_p rfl (Zc rfl rfl u_0) <| o_p rfl (Zc rfl rfl u_0) <| o_p rfl (Zs Zxc (Zet 109 [] rfl Zyb (fun y0 y1 => Zim y0 y1) (fun y0 y1 r h => Zn0 y0 y1 h) _ _ h2) rfl rfl (.cons u_0 (.cons u_1 (.cons Opd.fnc .nil)))) <| o_p rfl (Z9 rfl rfl u_0 rfl) <| o_p rfl (Z9 rfl rfl u_0 rfl) <| o_p rfl (Zb rfl rfl u_0) <| o_p rfl (Zb rfl rfl u_0) <| o_n) (by kernel_rfl) (fun a g hst hb => ?_)
 refine wp_ret ?_
 obtain rfl := Option.some.inj H0
 exact Zef rfl hst hb (Zi (s := 4)) (Zi (s := 5)) (Zdi (hst.at 0 rfl) (hst.at 1 rfl))
set_option maxHeartbeats 1000000 in
theorem Zev (a0 : List Zj) (a1 : Int) (a2 : List Zj) {r : List Zj} (h : Zc2 a0 a1 a2 = some r) : Zpb Tryd.prog 107 Zm 75 a0 [(pInt .i64 a1), (Zm.sl.pd a2)] (Zm.sl.pd r) := by
 unfold Zc2 at h
 obtain ⟨⟨hi0, hi1, hm, hsz⟩, H0⟩ := Zh4 h
 obtain rfl := Option.some.inj H0
 obtain ⟨k, rfl⟩ := Int.eq_ofNat_of_zero_le hi0
 have hk : k ≤ a0.length := by omega
 have hb0 : (a0.length + a2.length) ≤ 140737488355328 := Nat.le_trans (Nat.le_mul_of_pos_right _ (by decide)) hsz
 simp only [Int.toNat_natCast]
 refine Zqd (N := 95) Tryd.func107 rfl rfl (Nat.le_of_ble_eq_true rfl) rfl (fun hx a g A0 hst hb => ?_) (fun a g cap hcap hmax hst hb => ?_)
 · subst hx
   obtain rfl : k = 0 := by simpa using hk
   refine r_s (T := [⟨[], [(6, (Zm.sl.pd []))], [], [], [6]⟩]) (F := [.old 0, .old 1, .old 2]) hst hb Za
     (o_p rfl (Zb rfl rfl (Opd.c (fun g => Zhj g))) <| o_n) (by kernel_rfl) (fun a g hst hb => ?_)
   refine r_s (T := [⟨[.old 0], _, [], [], [10]⟩, ⟨[.old 1], _, [], [], [11]⟩, ⟨[.op 0 0, .op 1 0], _, [], [0, 1], [12]⟩]) (F := [.old 0, .old 1, .old 2]) hst hb Za
     (o_p rfl (Zc rfl rfl u_0) <| o_p rfl (Zc rfl rfl u_0) <| o_p rfl (Zst Zc1 rfl u_0 u_1) <| o_n) (by kernel_rfl) (fun a g hst hb => ?_)
   refine r_s (T := [⟨[.old 2], _, [], [], [13]⟩, ⟨[.op 0 0], _, [], [0], [14]⟩, ⟨[.op 1 0], _, [], [0, 1], [7]⟩]) (F := [.old 0, .old 1, .old 2, .op 2 0]) hst hb Za
     (o_p rfl (Zc rfl rfl u_0) <| o_p rfl (Zca Tryd.underlying23 rfl rfl u_0) <| o_p rfl (Zb rfl rfl u_0) <| o_n) (by kernel_rfl) (fun a g hst hb => ?_)
   refine wp_seq ?_
   refine r_s (T := [⟨[.old 3], _, [], [], [15]⟩, ⟨[.op 0 0], _, [], [0], [16]⟩]) (F := [.old 0, .old 1, .old 2, .old 3, .op 1 0]) hst hb Za
     (o_p rfl (Zc rfl rfl u_0) <| o_p rfl (Z8 rfl rfl u_0 c_i) <| o_n) (by kernel_rfl) (fun a g hst hb => ?_)
   refine wp_cond_split (hst.bool 4 rfl) (fun hc => ?_) (fun hc => ?_)
   · exact absurd (beq_iff_eq.1 hc) (by omega)
   · refine wp_skip ?_
     refine Zn ?_
     refine r_s (L := [(0, _), (1, _), (2, _), (7, _)]) (T := [⟨[.old 0], _, [], [], [18]⟩, ⟨[.op 0 0], _, [], [0], [19]⟩, ⟨[.op 1 0], _, [], [0, 1], [8]⟩]) (F := [.old 0, .old 1, .old 2, .old 3, .op 2 0]) (hst.pick [0, 1, 2, 3] rfl) hb Za
       (o_p rfl (Zc rfl rfl u_0) <| o_p rfl (Zwi Tryd.underlying23 rfl rfl u_0) <| o_p rfl (Zb rfl rfl u_0) <| o_n) (by kernel_rfl) (fun a g hst hb => ?_)
     refine wp_seq ?_
     refine r_s (T := [⟨[.old 1], _, [], [], [20]⟩, ⟨[.old 4], _, [], [], [21]⟩, ⟨[.op 0 0, .op 1 0], _, [], [0, 1], [22]⟩]) (F := [.old 0, .old 1, .old 2, .old 3, .old 4, .op 2 0]) hst hb Za
       (o_p rfl (Zc rfl rfl u_0) <| o_p rfl (Zc rfl rfl u_0) <| o_p rfl (Z8 rfl rfl u_0 u_1) <| o_n) (by kernel_rfl) (fun a g hst hb => ?_)
     refine wp_cond_split (hst.bool 5 rfl) (fun hc => ?_) (fun hc => ?_)
     · refine r_s (L := [(0, _), (2, _)]) (T := [⟨[.old 0], _, [], [], [23]⟩, ⟨[.old 1], _, [], [], [24]⟩, ⟨[.op 0 0, .op 1 0], [(25, (pOwn Zm 75 25 none (a2.map some)))], [26], [0, 1], [25]⟩, ⟨[.op 2 0], _, [], [0, 1, 2], [6]⟩]) (F := [.op 3 0]) (hst.pick [0, 2] rfl) hb Za
         (o_p rfl (Zc rfl rfl u_0) <| o_p rfl (Zc rfl rfl u_0) <| o_p rfl (Znm Zc1 rfl rfl u_0 u_1 hm (by simpa using hsz)) <| o_p rfl (Zb rfl rfl u_0) <| o_n) (by kernel_rfl) (fun a g hst hb => ?_)
       refine wp_ret ?_
       refine Zk ?_
       have hq := hst.at 0 rfl
       have he : ([] : List Zj).take 0 ++ a2 ++ ([] : List Zj).drop 0 = a2 := by simp
       rw [he]
       exact Zjz rfl hst hb (Zi (s := 6)) hq
     · exact absurd hc (by simp)
 · refine r_s (T := [⟨[], [(6, (Zm.sl.pd []))], [], [], [6]⟩]) (F := [.old 0, .old 1, .old 2]) hst hb Za
     (o_p rfl (Zb rfl rfl (Opd.c (fun g => Zhj g))) <| o_n) (by kernel_rfl) (fun a g hst hb => ?_)
   refine r_s (T := [⟨[.old 0], _, [], [], [10]⟩, ⟨[.old 1], _, [], [], [11]⟩, ⟨[.op 0 0, .op 1 0], _, [], [0, 1], [12]⟩]) (F := [.old 0, .old 1, .old 2]) hst hb Za
     (o_p rfl (Zc rfl rfl u_0) <| o_p rfl (Zc rfl rfl u_0) <| o_p rfl (Zed Zc1 (by simpa using hk) rfl rfl u_0 u_1) <| o_n) (by kernel_rfl) (fun a g hst hb => ?_)
   refine r_s (T := [⟨[.old 2], _, [], [], [13]⟩, ⟨[.op 0 0], _, [], [0], [14]⟩, ⟨[.op 1 0], _, [], [0, 1], [7]⟩]) (F := [.old 0, .old 1, .old 2, .op 2 0]) hst hb Za
     (o_p rfl (Zc rfl rfl u_0) <| o_p rfl (Zca Tryd.underlying23 rfl rfl u_0) <| o_p rfl (Zb rfl rfl u_0) <| o_n) (by kernel_rfl) (fun a g hst hb => ?_)
   refine wp_seq ?_
   refine r_s (T := [⟨[.old 3], _, [], [], [15]⟩, ⟨[.op 0 0], _, [], [0], [16]⟩]) (F := [.old 0, .old 1, .old 2, .old 3, .op 1 0]) hst hb Za
     (o_p rfl (Zc rfl rfl u_0) <| o_p rfl (Z8 rfl rfl u_0 c_i) <| o_n) (by kernel_rfl) (fun a g hst hb => ?_)
   refine wp_cond_split (hst.bool 4 rfl) (fun hc => ?_) (fun hc => ?_)
   · exact absurd (beq_iff_eq.1 hc) (by omega)
   · refine wp_skip ?_
     refine Zn ?_
     refine r_s (L := [(0, _), (1, _), (2, _), (7, _)]) (T := [⟨[.old 0], _, [], [], [18]⟩, ⟨[.op 0 0], _, [], [0], [19]⟩, ⟨[.op 1 0], _, [], [0, 1], [8]⟩]) (F := [.old 0, .old 1, .old 2, .old 3, .op 2 0]) (hst.pick [0, 1, 2, 3] rfl) hb Za
       (o_p rfl (Zc rfl rfl u_0) <| o_p rfl (Zly Tryd.underlying23 rfl rfl u_0) <| o_p rfl (Zb rfl rfl u_0) <| o_n) (by kernel_rfl) (fun a g hst hb => ?_)
     refine wp_seq ?_
     refine r_s (T := [⟨[.old 1], _, [], [], [20]⟩, ⟨[.old 4], _, [], [], [21]⟩, ⟨[.op 0 0, .op 1 0], _, [], [0, 1], [22]⟩]) (F := [.old 0, .old 1, .old 2, .old 3, .old 4, .op 2 0]) hst hb Za
       (o_p rfl (Zc rfl rfl u_0) <| o_p rfl (Zc rfl rfl u_0) <| o_p rfl (Z8 rfl rfl u_0 u_1) <| o_n) (by kernel_rfl) (fun a g hst hb => ?_)
     refine wp_cond_split (hst.bool 5 rfl) (fun hc => ?_) (fun hc => ?_)
     · refine r_s (L := [(0, _), (2, _)]) (T := [⟨[.old 0], _, [], [], [23]⟩, ⟨[.old 1], _, [], [], [24]⟩, ⟨[.op 0 0, .op 1 0], _, [1], [0, 1], [25, 0, 23]⟩, ⟨[.op 2 0], _, [], [0, 1, 2], [6]⟩]) (F := [.op 3 0]) (hst.pick [0, 2] rfl) hb Za
         (o_p rfl (Zc rfl rfl u_0) <| o_p rfl (Zc rfl rfl u_0) <| o_p rfl (Zkq Zc1 rfl rfl u_0 u_1 hsz) <| o_p rfl (Zb rfl rfl u_0) <| o_n) (by kernel_rfl) (fun a g hst hb => ?_)
       refine wp_ret ?_
       refine Zk ?_
       have hq := hst.at 0 rfl
       have hkn := beq_iff_eq.1 hc
       simp only [List.length_map] at hkn
       have hkn : k = a0.length := by omega
       have he : a0.take k ++ a2 ++ a0.drop k = a0 ++ a2 := by simp [hkn]
       rw [he]
       exact Zjz rfl hst hb (Zi (s := 6)) hq
     · have hkn : k ≠ a0.length := fun h => (beq_eq_false_iff_ne.1 hc) (by simp only [List.length_map]; omega)
       refine wp_skip ?_
       refine Zn ?_
       refine wp_seq ?_
       refine r_s (L := [(0, _), (1, _), (2, _), (7, _), (8, _)]) (T := [⟨[.old 4], _, [], [], [26]⟩, ⟨[.old 3], _, [], [], [27]⟩, ⟨[.op 0 0, .op 1 0], _, [], [0, 1], [28]⟩, ⟨[.old 0], _, [], [], [29]⟩, ⟨[.op 3 0], _, [], [3], [30]⟩, ⟨[.op 2 0, .op 4 0], _, [], [0, 1, 2, 3, 4], [31]⟩]) (F := [.old 0, .old 1, .old 2, .old 3, .old 4, .op 5 0]) (hst.pick [0, 1, 2, 3, 4] rfl) hb Za
         (o_p rfl (Zc rfl rfl u_0) <| o_p rfl (Zc rfl rfl u_0) <| o_p rfl (Zcq rfl rfl u_0 u_1 (Zlu (by simp only [List.length_map]; omega))) <| o_p rfl (Zc rfl rfl u_0) <| o_p rfl (Zwd Tryd.underlying23 rfl rfl u_0) <| o_p rfl (Zb9 rfl rfl u_0 u_1) <| o_n) (by kernel_rfl) (fun a g hst hb => ?_)
       refine wp_cond_split (hst.bool 5 rfl) (fun hc2 => ?_) (fun hc2 => ?_)
       · have hgr : cap < k + (a0.length + a2.length - k) := by have := of_decide_eq_true hc2; simp only [List.length_map] at this; omega
         refine r_s (L := [(0, _), (1, _), (2, _), (7, _), (8, _)]) (T := [⟨[.old 0], _, [], [], [32]⟩, ⟨[.old 1], _, [], [], [33]⟩, ⟨[.op 0 0, .op 1 0], _, [], [0, 1], [34]⟩, ⟨[.old 4], _, [], [], [35]⟩, ⟨[.old 3], _, [], [], [36]⟩, ⟨[.op 3 0, .op 4 0], _, [], [3, 4], [37]⟩, ⟨[.old 1], _, [], [], [38]⟩, ⟨[.op 5 0, .op 6 0], _, [], [3, 4, 5, 6], [39]⟩, ⟨[.op 2 0, .op 7 0, .old 0], [(40, (pOwn Zm 75 40 none ((a0.take k).map some ++ List.replicate (a0.length + a2.length - k) none)))], [41], [0, 1, 2, 3, 4, 5, 6, 7], [40]⟩, ⟨[.op 8 0], _, [], [0, 1, 2, 3, 4, 5, 6, 7, 8], [9]⟩]) (F := [.old 0, .old 1, .old 2, .old 3, .op 9 0]) (hst.pick [0, 1, 2, 3, 4] rfl) hb Za
           (o_p rfl (Zc rfl rfl u_0) <| o_p rfl (Zc rfl rfl u_0) <| o_p rfl (Zlr Zc1 (by simpa using hk) rfl rfl u_0 u_1) <| o_p rfl (Zc rfl rfl u_0) <| o_p rfl (Zc rfl rfl u_0) <| o_p rfl (Zcq rfl rfl u_0 u_1 (Zlu (by simp only [List.length_map]; omega))) <| o_p rfl (Zc rfl rfl u_0) <| o_p rfl (Zei rfl rfl u_0 u_1 (Zxv (n := a0.length + a2.length) (by simp only [List.length_map]) (by omega) (by omega))) <| o_p rfl (Zrs (s := 0) (d2 := 40) (xs := a0.take k) Zc1 Tryd.underlying3 (by simp; omega) (by simp; omega) (by omega) hgr (by rw [show k + (a0.length + a2.length - k) = a0.length + a2.length by omega]; exact hsz) (Zne a0 k) rfl rfl u_0 u_1 u_2) <| o_p rfl (Zb rfl rfl u_0) <| o_n) (by kernel_rfl) (fun a g hst hb => ?_)
         have hl1 : (((a0.take k).map some ++ List.replicate (a0.length + a2.length - k) none) : List (Option Zj)).length = a0.length + a2.length := by simp; omega
         refine r_s (T := [⟨[.old 4], _, [], [], [41]⟩, ⟨[.old 1], _, [], [], [42]⟩, ⟨[.op 0 0, .op 1 0], _, [], [0, 1], [43]⟩, ⟨[.old 2], _, [], [], [44]⟩, ⟨[.op 2 0, .op 3 0, .old 4], _, [41], [0, 1, 2, 3], [45, 9, 41, 43]⟩]) (F := [.old 0, .old 1, .old 2, .old 3, .op 4 1]) hst hb Za
           (o_p rfl (Zc rfl rfl u_0) <| o_p rfl (Zc rfl rfl u_0) <| o_p rfl (Zed Zc1 (by rw [hl1]; omega) rfl rfl u_0 u_1) <| o_p rfl (Zc rfl rfl u_0) <| o_p rfl (Zpu (s := 9) Zc1 (by rw [hl1]; omega) (by rw [hl1]; omega) rfl rfl (by decide) u_0 u_1 u_2) <| o_n) (by kernel_rfl) (fun a g hst hb => ?_)
         have hl2 : (over (((a0.take k).map some ++ List.replicate (a0.length + a2.length - k) none) : List (Option Zj)) k a2).length = a0.length + a2.length := by rw [Zhh (by rw [hl1]; omega), hl1]
         refine r_s (T := [⟨[.old 4], _, [], [], [46]⟩, ⟨[.old 1], _, [], [], [47]⟩, ⟨[.old 3], _, [], [], [48]⟩, ⟨[.op 1 0, .op 2 0], _, [], [1, 2], [49]⟩, ⟨[.op 0 0, .op 3 0], _, [], [0, 1, 2, 3], [50]⟩, ⟨[.old 0], _, [], [], [51]⟩, ⟨[.old 1], _, [], [], [52]⟩, ⟨[.op 5 0, .op 6 0], _, [], [5, 6], [53]⟩, ⟨[.op 4 0, .op 7 0, .old 4, .old 0], _, [41], [0, 1, 2, 3, 4, 5, 6, 7], [54, 9, 46, 50]⟩]) (F := [.op 8 1]) hst hb Za
           (o_p rfl (Zc rfl rfl u_0) <| o_p rfl (Zc rfl rfl u_0) <| o_p rfl (Zc rfl rfl u_0) <| o_p rfl (Zcq rfl rfl u_0 u_1 (Zlu (by omega))) <| o_p rfl (Zed Zc1 (by rw [hl2]; omega) rfl rfl u_0 u_1) <| o_p rfl (Zc rfl rfl u_0) <| o_p rfl (Zc rfl rfl u_0) <| o_p rfl (Zed Zc1 (by simpa using hk) rfl rfl u_0 u_1) <| o_p rfl (Zpj (s := 9) (s2 := 0) (ws := a0.drop k) Zc1 (by rw [hl2]; omega) (by simp; omega) (by rw [hl2, List.length_map, List.length_drop]; exact (Nat.min_eq_left (by omega)).symm) (fun i x hx => by rw [List.getElem?_drop] at hx; rw [List.getElem?_map, hx]; rfl) rfl rfl (by decide) u_0 u_1 u_2 u_3) <| o_n) (by kernel_rfl) (fun a g hst hb => ?_)
         refine r_s (T := [⟨[.old 0], _, [], [], [55]⟩, ⟨[.op 0 0], _, [], [0], [6]⟩]) (F := [.op 1 0]) hst hb Za
           (o_p rfl (Zc rfl rfl u_0) <| o_p rfl (Zb rfl rfl u_0) <| o_n) (by kernel_rfl) (fun a g hst hb => ?_)
         refine wp_ret ?_
         refine Zk ?_
         have hq := hst.at 0 rfl
         rw [ins1 hk] at hq
         exact Zjz rfl hst hb (Zi (s := 6)) hq
       · have hroom : a0.length + a2.length ≤ cap := by have := of_decide_eq_false hc2; simp only [List.length_map] at this; omega
         refine wp_skip ?_
         refine Zn ?_
         refine r_s (L := [(0, _), (1, _), (2, _), (7, _), (8, _)]) (T := [⟨[.old 0], _, [], [], [56]⟩, ⟨[.old 4], _, [], [], [57]⟩, ⟨[.old 3], _, [], [], [58]⟩, ⟨[.op 1 0, .op 2 0], _, [], [1, 2], [59]⟩, ⟨[.op 0 0, .op 3 0], [(60, (pOwn Zm 75 0 (some cap) (a0.map some ++ List.replicate (a0.length + a2.length - (a0.map some).length) none)))], [], [0, 1, 2, 3], [60]⟩, ⟨[.op 4 0], _, [], [0, 1, 2, 3, 4], [0]⟩]) (F := [.op 5 0, .old 1, .old 2, .old 3]) (hst.pick [0, 1, 2, 3, 4] rfl) hb Za
           (o_p rfl (Zc rfl rfl u_0) <| o_p rfl (Zc rfl rfl u_0) <| o_p rfl (Zc rfl rfl u_0) <| o_p rfl (Zcq rfl rfl u_0 u_1 (Zlu (by simp only [List.length_map]; omega))) <| o_p rfl (Zql (h := a0.length + a2.length) Zc1 (by simp) hroom rfl rfl u_0 (Opd.to u_1 (by simp))) <| o_p rfl (Zb rfl rfl u_0) <| o_n) (by kernel_rfl) (fun a g hst hb => ?_)
         have hl1 : ((a0.map some ++ List.replicate (a0.length + a2.length - (a0.map some).length) none) : List (Option Zj)).length = a0.length + a2.length := by simp
         refine wp_seq ?_
         refine r_s (T := [⟨[.old 2], _, [], [], [61]⟩, ⟨[.old 0], _, [], [], [62]⟩, ⟨[.old 1], _, [], [], [63]⟩, ⟨[.old 3], _, [], [], [64]⟩, ⟨[.op 2 0, .op 3 0], _, [], [2, 3], [65]⟩, ⟨[.op 1 0, .op 4 0], _, [], [1, 2, 3, 4], [66]⟩, ⟨[.op 0 0, .op 5 0, .old 0], _, [], [0, 1, 2, 3, 4, 5], [67]⟩, ⟨[.op 6 0], _, [], [0, 1, 2, 3, 4, 5, 6], [68]⟩]) (F := [.old 0, .old 1, .old 2, .old 3, .op 7 0]) hst hb Za
           (o_p rfl (Zc rfl rfl u_0) <| o_p rfl (Zc rfl rfl u_0) <| o_p rfl (Zc rfl rfl u_0) <| o_p rfl (Zc rfl rfl u_0) <| o_p rfl (Zcq rfl rfl u_0 u_1 (Zlu (by omega))) <| o_p rfl (Zed Zc1 (by rw [hl1]; omega) rfl rfl u_0 u_1) <| o_p rfl (Zqv (s := 0) Zc1 rfl Zya (by rw [hl1]; omega) rfl rfl u_0 u_1 u_2) <| o_p rfl (Zb7 rfl rfl u_0) <| o_n) (by kernel_rfl) (fun a g hst hb => ?_)
         refine wp_cond_split (hst.bool 4 rfl) (fun hc3 => ?_) (fun hc3 => absurd hc3 (by simp))
         refine r_s (L := [(0, _), (1, _), (2, _), (7, _)]) (T := [⟨[.old 0], _, [], [], [69]⟩, ⟨[.old 1], _, [], [], [70]⟩, ⟨[.old 3], _, [], [], [71]⟩, ⟨[.op 1 0, .op 2 0], _, [], [1, 2], [72]⟩, ⟨[.op 0 0, .op 3 0], _, [], [0, 1, 2, 3], [73]⟩, ⟨[.old 0], _, [], [], [74]⟩, ⟨[.old 1], _, [], [], [75]⟩, ⟨[.op 5 0, .op 6 0], _, [], [5, 6], [76]⟩, ⟨[.op 4 0, .op 7 0, .old 0, .old 0], _, [1], [0, 1, 2, 3, 4, 5, 6, 7], [77, 0, 69, 73, 74, 76]⟩]) (F := [.op 8 1, .old 1, .old 2, .old 3]) (hst.pick [0, 1, 2, 3] rfl) hb Za
           (o_p rfl (Zc rfl rfl u_0) <| o_p rfl (Zc rfl rfl u_0) <| o_p rfl (Zc rfl rfl u_0) <| o_p rfl (Zcq rfl rfl u_0 u_1 (Zlu (by omega))) <| o_p rfl (Zed Zc1 (by rw [hl1]; omega) rfl rfl u_0 u_1) <| o_p rfl (Zc rfl rfl u_0) <| o_p rfl (Zc rfl rfl u_0) <| o_p rfl (Zed Zc1 (by rw [hl1]; omega) rfl rfl u_0 u_1) <| o_p rfl (Zpj (s := 0) (s2 := 0) (ws := a0.drop k) Zc1 (by rw [hl1]; omega) (by rw [hl1]; omega) (by rw [hl1, List.length_drop]; have hm1 : Nat.min (a0.length + a2.length - k) (a0.length + a2.length - (k + a2.length)) = a0.length + a2.length - (k + a2.length) := Nat.min_eq_right (by omega); rw [hm1]; omega) (fun i x hx => by have hi := (List.getElem?_eq_some_iff.1 hx).1; rw [List.length_drop] at hi; rw [List.getElem?_drop] at hx; rw [List.getElem?_append_left (by simp; omega), List.getElem?_map, hx]; rfl) rfl rfl (by decide) u_0 u_1 u_2 u_3) <| o_n) (by kernel_rfl) (fun a g hst hb => ?_)
         have hl2 : (over ((a0.map some ++ List.replicate (a0.length + a2.length - (a0.map some).length) none) : List (Option Zj)) (k + a2.length) (a0.drop k)).length = a0.length + a2.length := by rw [Zhh (by rw [hl1, List.length_drop]; omega), hl1]
         refine r_s (T := [⟨[.old 0], _, [], [], [78]⟩, ⟨[.old 1], _, [], [], [79]⟩, ⟨[.op 0 0, .op 1 0], _, [], [0, 1], [80]⟩, ⟨[.old 2], _, [], [], [81]⟩, ⟨[.op 2 0, .op 3 0, .old 0], _, [1], [0, 1, 2, 3], [82, 0, 78, 80]⟩]) (F := [.op 4 1]) hst hb Za
           (o_p rfl (Zc rfl rfl u_0) <| o_p rfl (Zc rfl rfl u_0) <| o_p rfl (Zed Zc1 (by rw [hl2]; omega) rfl rfl u_0 u_1) <| o_p rfl (Zc rfl rfl u_0) <| o_p rfl (Zpu (s := 0) Zc1 (by rw [hl2]; omega) (by rw [hl2]; omega) rfl rfl (by decide) u_0 u_1 u_2) <| o_n) (by kernel_rfl) (fun a g hst hb => ?_)
         refine r_s (T := [⟨[.old 0], _, [], [], [83]⟩, ⟨[.op 0 0], _, [], [0], [6]⟩]) (F := [.op 1 0]) hst hb Za
           (o_p rfl (Zc rfl rfl u_0) <| o_p rfl (Zb rfl rfl u_0) <| o_n) (by kernel_rfl) (fun a g hst hb => ?_)
         refine wp_ret ?_
         refine Zk ?_
         have hq := hst.at 0 rfl
         rw [ins2 hk] at hq
         exact Zjz rfl hst hb (Zi (s := 6)) hq
theorem Zpq (a0 : Zd) (a1 : Zu) (a2 : Zq) {r : Int × Zd × Zq} (h : Zk5 a0 a1 a2 = some r) : FnB Tryd.prog 93 [.box Zf a0 r.2.1, .val (Z1.pd a1), .box Z0 a2 r.2.2] (pInt .i64 r.1) := by
 have H0 := h
 unfold Zk5 at H0
 clear h
 refine Zf6 (N := 46) Tryd.func93 rfl rfl (Nat.le_of_ble_eq_true rfl) rfl rfl (fun a g0 bs hbs hst hb => ?_)
 obtain ⟨b0, b2, rfl⟩ := Zhf hbs
 replace hst : St 46 [(0, (Zbd (some b0) Zf 0 a0)), (1, (Z1.pd a1)), (2, (Zbd (some b2) Z0 2 a2))] _ _ := hst
 refine r_s (T := [⟨[.old 1], _, [], [], [4]⟩, ⟨[], _, [], [], [6]⟩]) (F := [.old 0, .old 2, .op 0 0]) hst hb Za
   (o_p rfl (Zbk rfl rfl u_0) <| o_p rfl (Zb rfl rfl c_i) <| o_n) (by kernel_rfl) (fun a g hst hb => ?_)
 obtain ⟨r1, h2, H0⟩ := Zh H0
 refine r_s (T := ⟨[.old 0], _, [], [], [10]⟩ :: ⟨[.op 0 0], _, [], [0], [11]⟩ :: ⟨[.op 1 0], _, [], [0, 1], [12]⟩ :: ⟨[.op 2 0], _, [], [0, 1, 2], [13]⟩ :: ⟨[.old 2], _, [], [], [14]⟩ :: ⟨[.op 4 0], _, [], [4], [15]⟩ :: ⟨[.op 3 0, .op 5 0], _, [], Lr 6, [16]⟩ :: ⟨[.op 6 0], _, [], Lr 7, [9]⟩ :: ⟨[.op 7 0], _, [], Lr 8, [17]⟩ :: ⟨[.op 7 0], _, [], Lr 8, [18]⟩ :: ⟨[.op 8 0], _, [], Lr 9, [7]⟩ :: ⟨[.op 9 0], _, [], Lr 11, [8]⟩ :: []) (F := [.old 0, .old 1, .old 2, .op 10 0, .op 11 0]) hst hb Za
   (o_p rfl (Zc rfl rfl u_0) <| o_p rfl (Z7 rfl rfl u_0 (fun _ _ ⟨_, _, _, e, _⟩ => ⟨_, e⟩)) <| o_p rfl (Zo Zbu (off := 7) (by kernel_rfl) rfl rfl u_0) <| o_p rfl (Zbi Zck rfl rfl u_0) <| o_p rfl (Ze Zf4 rfl rfl u_0) <| o_p rfl (Zg ty_9 rfl rfl u_0) <| o_p rfl (Zs Zr1 (Zjb _ _ h2) rfl rfl (.cons u_0 (.cons u_1 .nil))) <| o_p rfl (Zc rfl rfl u_0) <| o_p rfl (Z9 rfl rfl u_0 rfl) <| o_p rfl (Z9 rfl rfl u_0 rfl) <| o_p rfl (Zb rfl rfl u_0) <| o_p rfl (Zb rfl rfl u_0) <| o_n) (by kernel_rfl) (fun a g hst hb => ?_)
 refine wp_seq ?_
 refine wp_block ?_
 refine r_s (T := [⟨[.old 4], _, [], [], [20]⟩, ⟨[.op 0 0], _, [], [0], [19]⟩]) (F := [.old 0, .old 1, .old 2, .old 3, .op 1 0]) hst hb Za
   (o_p rfl (Zc rfl rfl u_0) <| o_p rfl (Zb rfl rfl u_0) <| o_n) (by kernel_rfl) (fun a g hst hb => ?_)
 refine wp_cond_split (hst.bool 4 rfl) (fun hc3 => ?_) (fun hc3 => ?_)
 · replace H0 := Zp hc3 H0
   refine r_s (L := [(0, _), (2, _)]) (T := [⟨[], _, [], [], [6]⟩]) (F := [.old 0, .old 1, .op 0 0]) (hst.pick [0, 1] rfl) hb Za
     (o_p rfl (Zb rfl rfl c_i) <| o_n) (by kernel_rfl) (fun a g hst hb => ?_)
   refine wp_ret ?_
   refine Zt ?_
   refine Zk ?_
   obtain rfl := Option.some.inj H0
   exact Zem rfl hst hb (Zi (s := 6)) (hst.at 2 rfl) ⟨Zby (hst.at 0 rfl), Zby (hst.at 1 rfl), trivial⟩
 · replace H0 := Zr hc3 H0
   refine r_s (L := [(0, _), (2, _), (4, _), (7, _)]) (T := [⟨[.old 0], _, [], [], [22]⟩, ⟨[.op 0 0], _, [], [0], [23]⟩, ⟨[.op 1 0], _, [], [0, 1], [24]⟩, ⟨[.op 2 0], _, [], [0, 1, 2], [25]⟩, ⟨[.op 3 0], _, [], Lr 4, [26]⟩, ⟨[.old 0], _, [], [], [27]⟩, ⟨[.op 5 0], _, [], [5], [28]⟩, ⟨[.op 6 0], _, [], [5, 6], [29]⟩, ⟨[.op 7 0], _, [], [5, 6, 7], [30]⟩, ⟨[.op 4 0, .op 8 0], _, [], Lr 9, [31]⟩, ⟨[.op 9 0], _, [], Lr 10, [21]⟩]) (F := [.old 0, .old 1, .old 2, .old 3, .op 10 0]) (hst.pick [0, 1, 2, 3] rfl) hb Za
     (o_p rfl (Zc rfl rfl u_0) <| o_p rfl (Z7 rfl rfl u_0 (fun _ _ ⟨_, _, _, e, _⟩ => ⟨_, e⟩)) <| o_p rfl (Zo Zbu (off := 7) (by kernel_rfl) rfl rfl u_0) <| o_p rfl (Zbi Zck rfl rfl u_0) <| o_p rfl (Zca Tryd.underlying23 rfl rfl u_0) <| o_p rfl (Zc rfl rfl u_0) <| o_p rfl (Z7 rfl rfl u_0 (fun _ _ ⟨_, _, _, e, _⟩ => ⟨_, e⟩)) <| o_p rfl (Zo Zds (off := 5) (by kernel_rfl) rfl rfl u_0) <| o_p rfl (Zbi ty_3 rfl rfl u_0) <| o_p rfl (Zl0 rfl rfl u_0 u_1) <| o_p rfl (Zb rfl rfl u_0) <| o_n) (by kernel_rfl) (fun a g hst hb => ?_)
   refine wp_cond_split (hst.bool 4 rfl) (fun hc4 => ?_) (fun hc4 => ?_)
   · replace H0 := Zp hc4 H0
     refine r_s (L := [(0, _), (2, _)]) (T := [⟨[], _, [], [], [6]⟩]) (F := [.old 0, .old 1, .op 0 0]) (hst.pick [0, 1] rfl) hb Za
       (o_p rfl (Zb rfl rfl c_i) <| o_n) (by kernel_rfl) (fun a g hst hb => ?_)
     refine wp_ret ?_
     refine Zt ?_
     refine Zk ?_
     obtain rfl := Option.some.inj H0
     exact Zem rfl hst hb (Zi (s := 6)) (hst.at 2 rfl) ⟨Zby (hst.at 0 rfl), Zby (hst.at 1 rfl), trivial⟩
   · replace H0 := Zr hc4 H0
     refine wp_skip ?_
     refine Zbe ?_
     refine Zn ?_
     obtain ⟨r5, h6, H0⟩ := Zh H0; obtain ⟨r7, h8, H0⟩ := Zh H0
     refine r_s (L := [(0, _), (2, _), (4, _), (7, _)]) (T := ⟨[.old 0], _, [], [], [32]⟩ :: ⟨[.old 0], _, [], [], [33]⟩ :: ⟨[.op 1 0], _, [], [1], [34]⟩ :: ⟨[.op 2 0], _, [], [1, 2], [35]⟩ :: ⟨[.op 3 0], _, [], [1, 2, 3], [36]⟩ :: ⟨[.op 4 0], _, [38], List.range' 1 4, [37]⟩ :: ⟨[.old 3], _, [], [], [38]⟩ :: ⟨[.old 2], _, [], [], [39]⟩ :: ⟨[.op 7 0], _, [], [7], [40]⟩ :: ⟨[.op 8 0], _, [], [7, 8], [41]⟩ :: ⟨[.op 9 0], _, [], [7, 8, 9], [42]⟩ :: ⟨[.op 5 0, .op 6 0, .op 10 0], _, [38], List.range' 1 10, [37, 43]⟩ :: ⟨[.op 0 0], _, [], Lr 12, [44]⟩ :: ⟨[.op 12 0], _, [], Lr 13, [45]⟩ :: ⟨[.op 11 0, .op 13 0, .old 0], _, [1], Lr 14, [0, 32, 33, 34, 35, 44, 45]⟩ :: []) (F := [.op 14 0, .old 1]) (hst.pick [0, 1, 2, 3] rfl) hb Za
       (o_p rfl (Zc rfl rfl u_0) <| o_p rfl (Zc rfl rfl u_0) <| o_p rfl (Z7 rfl rfl u_0 (fun _ _ ⟨_, _, _, e, _⟩ => ⟨_, e⟩)) <| o_p rfl (Zo Zbu (off := 7) (by kernel_rfl) rfl rfl u_0) <| o_p rfl (Zbi Zck rfl rfl u_0) <| o_p rfl (Zi6 (j := 37) Zpf (Zdc _ h6) rfl rfl (.cons u_0 .nil)) <| o_p rfl (Zc rfl rfl u_0) <| o_p rfl (Ze Zf4 rfl rfl u_0) <| o_p rfl (Zg ty_9 rfl rfl u_0) <| o_p rfl (Zwy rfl rfl u_0) <| o_p rfl (Zh1 Zc1 (xs := [.tmp 41]) (.cons u_0 .nil) (by decide) rfl rfl) <| o_p rfl (Zkt Zsr (Zev _ _ _ h8) rfl rfl rfl u_0 (.cons u_1 (.cons u_2 .nil))) <| o_p rfl (Z7 rfl rfl u_0 (fun _ _ ⟨_, _, _, e, _⟩ => ⟨_, e⟩)) <| o_p rfl (Zo Zbu (off := 7) (by kernel_rfl) rfl rfl u_0) <| o_p rfl (Zlv Zck rfl rfl u_2 u_1 u_0) <| o_n) (by kernel_rfl) (fun a g hst hb => ?_)
     refine r_s (T := [⟨[], _, [], [], [6]⟩]) (F := [.old 0, .old 1, .op 0 0]) hst hb Za
       (o_p rfl (Zb rfl rfl c_i) <| o_n) (by kernel_rfl) (fun a g hst hb => ?_)
     refine wp_ret ?_
     obtain rfl := Option.some.inj H0
     exact Zem rfl hst hb (Zi (s := 6)) (hst.at 2 rfl) ⟨Zby (hst.at 0 rfl), Zby (hst.at 1 rfl), trivial⟩
theorem Zg4 (a0 : List Zj) (a1 a2 : Int) {r : List Zj} (h : Zdw a0 a1 a2 = some r) : Zpb Tryd.prog 96 Zm 75 a0 [(pInt .i64 a1), (pInt .i64 a2)] (Zm.sl.pd r) := by
 unfold Zdw at h
 obtain ⟨⟨hpos, hi0, hij, hj, hsz⟩, H0⟩ := Zh4 h
 obtain rfl := Option.some.inj H0
 obtain ⟨k, rfl⟩ := Int.eq_ofNat_of_zero_le hi0
 obtain ⟨l, rfl⟩ := Int.eq_ofNat_of_zero_le (Int.le_trans hi0 hij)
 have hkl : k ≤ l := by omega
 have hl : l ≤ a0.length := by omega
 simp only [Int.toNat_natCast]
 refine Zqd (N := 33) Tryd.func96 rfl rfl (Nat.le_of_ble_eq_true rfl) rfl (fun hx a g A0 hst hb => ?_) (fun a g cap hcap hmax hst hb => ?_)
 · rw [hx] at hpos; cases hpos
 · refine r_s (T := [⟨[], [(6, (Zm.sl.pd []))], [], [], [6]⟩]) (F := [.old 0, .old 1, .old 2]) hst hb Za
     (o_p rfl (Zb rfl rfl (Opd.c (fun g => Zhj g))) <| o_n) (by kernel_rfl) (fun a g hst hb => ?_)
   refine r_s (T := [⟨[.old 0], _, [], [], [8]⟩, ⟨[.old 1], _, [], [], [9]⟩, ⟨[.old 2], _, [], [], [10]⟩, ⟨[.old 0], _, [], [], [11]⟩, ⟨[.op 3 0], _, [], [3], [12]⟩, ⟨[.op 0 0, .op 1 0, .op 2 0, .op 4 0], [], [], [0, 1, 2, 3, 4], [13]⟩]) (F := [.old 0, .old 1, .old 2]) hst hb Za
     (o_p rfl (Zc rfl rfl u_0) <| o_p rfl (Zc rfl rfl u_0) <| o_p rfl (Zc rfl rfl u_0) <| o_p rfl (Zc rfl rfl u_0) <| o_p rfl (Zly Tryd.underlying23 rfl rfl u_0) <| o_p rfl (Zsx Zc1 hkl (by simpa using hl) (Nat.le_refl _) rfl u_0 u_1 u_2 u_3) <| o_n) (by kernel_rfl) (fun a g hst hb => ?_)
   refine wp_seq ?_
   refine r_s (T := [⟨[.old 1], _, [], [], [14]⟩, ⟨[.old 2], _, [], [], [15]⟩, ⟨[.op 0 0, .op 1 0], _, [], [0, 1], [16]⟩]) (F := [.old 0, .old 1, .old 2, .op 2 0]) hst hb Za
     (o_p rfl (Zc rfl rfl u_0) <| o_p rfl (Zc rfl rfl u_0) <| o_p rfl (Z8 rfl rfl u_0 u_1) <| o_n) (by kernel_rfl) (fun a g hst hb => ?_)
   refine wp_cond_split (hst.bool 3 rfl) (fun hc => ?_) (fun hc => ?_)
   · refine r_s (L := [(0, _)]) (T := [⟨[.old 0], _, [], [], [17]⟩, ⟨[.op 0 0], _, [], [0], [6]⟩]) (F := [.op 1 0]) (hst.pick [0] rfl) hb Za
       (o_p rfl (Zc rfl rfl u_0) <| o_p rfl (Zb rfl rfl u_0) <| o_n) (by kernel_rfl) (fun a g hst hb => ?_)
     refine wp_ret ?_
     refine Zk ?_
     have hq := hst.at 0 rfl
     have hkl2 := beq_iff_eq.1 hc
     have he : a0.take k ++ a0.drop l = a0 := by rw [show l = k by omega, List.take_append_drop]
     rw [he]
     exact Zjz rfl hst hb (Zi (s := 6)) hq
   · refine wp_skip ?_
     refine Zn ?_
     refine r_s (L := [(0, _), (1, _), (2, _)]) (T := [⟨[.old 0], _, [], [], [18]⟩, ⟨[.op 0 0], _, [], [0], [19]⟩, ⟨[.op 1 0], _, [], [0, 1], [7]⟩]) (F := [.old 0, .old 1, .old 2, .op 2 0]) (hst.pick [0, 1, 2] rfl) hb Za
       (o_p rfl (Zc rfl rfl u_0) <| o_p rfl (Zly Tryd.underlying23 rfl rfl u_0) <| o_p rfl (Zb rfl rfl u_0) <| o_n) (by kernel_rfl) (fun a g hst hb => ?_)
     refine r_s (T := [⟨[.old 0], _, [], [], [20]⟩, ⟨[.old 1], _, [], [], [21]⟩, ⟨[.op 0 0, .op 1 0], _, [], [0, 1], [22]⟩, ⟨[.old 0], _, [], [], [23]⟩, ⟨[.old 2], _, [], [], [24]⟩, ⟨[.op 3 0, .op 4 0], _, [], [3, 4], [25]⟩, ⟨[.op 2 0, .op 5 0, .old 0], [(26, (pOwn Zm 75 0 (some cap) ((a0.take k ++ a0.drop l).map some)))], [1], [0, 1, 2, 3, 4, 5], [26, 0, 20, 22, 23, 25]⟩, ⟨[.op 6 0], _, [], [0, 1, 2, 3, 4, 5, 6], [0]⟩]) (F := [.op 7 0, .old 3]) hst hb Za
       (o_p rfl (Zc rfl rfl u_0) <| o_p rfl (Zc rfl rfl u_0) <| o_p rfl (Zlr Zc1 (by simp; omega) rfl rfl u_0 u_1) <| o_p rfl (Zc rfl rfl u_0) <| o_p rfl (Zc rfl rfl u_0) <| o_p rfl (Zed Zc1 (by simpa using hl) rfl rfl u_0 u_1) <| o_p rfl (Zsg (s := 0) (k := cap) (xs := a0.take k) (ws := a0.drop l) Zc1 (by simp; omega) (by simp; omega) (by simp; omega) (by simp) (Zne a0 k) (Zrq a0 l) rfl rfl u_0 u_1 u_2) <| o_p rfl (Zb rfl rfl u_0) <| o_n) (by kernel_rfl) (fun a g hst hb => ?_)
     have hl2 : ((a0.take k ++ a0.drop l).map some).length = k + (a0.length - l) := by simp; omega
     refine r_s (T := [⟨[.old 0], _, [], [], [27]⟩, ⟨[.old 0], _, [], [], [28]⟩, ⟨[.op 1 0], _, [], [1], [29]⟩, ⟨[.old 1], _, [], [], [30]⟩, ⟨[.op 0 0, .op 2 0, .op 3 0], _, [], [0, 1, 2, 3], [31]⟩, ⟨[.op 4 0, .old 0], _, [1], [0, 1, 2, 3, 4], [0, 27, 28, 31]⟩]) (F := [.op 5 0]) hst hb Za
       (o_p rfl (Zc rfl rfl u_0) <| o_p rfl (Zc rfl rfl u_0) <| o_p rfl (Zly Tryd.underlying23 rfl rfl u_0) <| o_p rfl (Zc rfl rfl u_0) <| o_p rfl (Zsn (k := cap) Zc1 (by rw [hl2, List.length_map]; omega) (by rw [List.length_map]; omega) rfl rfl u_0 u_1 u_2) <| o_p rfl (Zso (s := 0) (k := cap) Zc1 (by kernel_rfl) (Nat.le_refl _) (by rw [hl2, List.length_map]; omega) rfl rfl u_0 u_1) <| o_n) (by kernel_rfl) (fun a g hst hb => ?_)
     refine r_s (T := [⟨[.old 0], _, [], [], [32]⟩, ⟨[.op 0 0], _, [], [0], [6]⟩]) (F := [.op 1 0]) hst hb Za
       (o_p rfl (Zc rfl rfl u_0) <| o_p rfl (Zb rfl rfl u_0) <| o_n) (by kernel_rfl) (fun a g hst hb => ?_)
     refine wp_ret ?_
     exact Zjz rfl hst hb (Zi (s := 6)) (hst.at 0 rfl)
theorem Zma (a0 : Zd) (a1 : Zu) (a2 : Zq) {r : Int × Zd × Zq} (h : Zib a0 a1 a2 = some r) : FnB Tryd.prog 94 [.box Zf a0 r.2.1, .val (Z1.pd a1), .box Z0 a2 r.2.2] (pInt .i64 r.1) := by
 have H0 := h
 unfold Zib at H0
 clear h
 refine Zf6 (N := 32) Tryd.func94 rfl rfl (Nat.le_of_ble_eq_true rfl) rfl rfl (fun a g0 bs hbs hst hb => ?_)
 obtain ⟨b0, b2, rfl⟩ := Zhf hbs
 replace hst : St 32 [(0, (Zbd (some b0) Zf 0 a0)), (1, (Z1.pd a1)), (2, (Zbd (some b2) Z0 2 a2))] _ _ := hst
 refine r_s (T := [⟨[.old 1], _, [], [], [4]⟩, ⟨[], _, [], [], [6]⟩]) (F := [.old 0, .old 2, .op 0 0]) hst hb Za
   (o_p rfl (Zbk rfl rfl u_0) <| o_p rfl (Zb rfl rfl c_i) <| o_n) (by kernel_rfl) (fun a g hst hb => ?_)
 refine wp_seq ?_
 obtain ⟨r1, h2, H0⟩ := Zh H0
 refine r_s (T := ⟨[.old 0], _, [], [], [10]⟩ :: ⟨[.op 0 0], _, [], [0], [11]⟩ :: ⟨[.op 1 0], _, [], [0, 1], [12]⟩ :: ⟨[.op 2 0], _, [], [0, 1, 2], [13]⟩ :: ⟨[.old 2], _, [], [], [14]⟩ :: ⟨[.op 4 0], _, [], [4], [15]⟩ :: ⟨[.op 3 0, .op 5 0], _, [], Lr 6, [16]⟩ :: ⟨[.op 6 0], _, [], Lr 7, [9]⟩ :: ⟨[.op 7 0], _, [], Lr 8, [17]⟩ :: ⟨[.op 7 0], _, [], Lr 8, [18]⟩ :: ⟨[.op 8 0], _, [], Lr 9, [7]⟩ :: ⟨[.op 9 0], _, [], Lr 11, [8]⟩ :: []) (F := [.old 0, .old 1, .op 10 0, .op 11 0]) hst hb Za
   (o_p rfl (Zc rfl rfl u_0) <| o_p rfl (Z7 rfl rfl u_0 (fun _ _ ⟨_, _, _, e, _⟩ => ⟨_, e⟩)) <| o_p rfl (Zo Zbu (off := 7) (by kernel_rfl) rfl rfl u_0) <| o_p rfl (Zbi Zck rfl rfl u_0) <| o_p rfl (Ze Zf4 rfl rfl u_0) <| o_p rfl (Zg ty_9 rfl rfl u_0) <| o_p rfl (Zs Zr1 (Zjb _ _ h2) rfl rfl (.cons u_0 (.cons u_1 .nil))) <| o_p rfl (Zc rfl rfl u_0) <| o_p rfl (Z9 rfl rfl u_0 rfl) <| o_p rfl (Z9 rfl rfl u_0 rfl) <| o_p rfl (Zb rfl rfl u_0) <| o_p rfl (Zb rfl rfl u_0) <| o_n) (by kernel_rfl) (fun a g hst hb => ?_)
 refine r_s (T := [⟨[.old 3], _, [], [], [19]⟩]) (F := [.old 0, .old 1, .old 2, .op 0 0]) hst hb Za
   (o_p rfl (Zc rfl rfl u_0) <| o_n) (by kernel_rfl) (fun a g hst hb => ?_)
 refine Zcf (fun a w => ∃ (j8 : Zd) (g : G), w = g.w ∧ St 32 [(0, (Zbd (some b0) Zf 0 j8)), (2, (Zbd (some b2) Z0 2 a2))] a g ∧ Base g0 g ∧ Zfu a2 j8 = some r) ?_ ?_
 · rintro a w ⟨j8, g, rfl, hst, hb, H0⟩
   unfold Zfu at H0
   refine Zn ?_
   refine r_s (T := [⟨[], _, [], [], [6]⟩]) (F := [.old 0, .old 1, .op 0 0]) hst hb Za
     (o_p rfl (Zb rfl rfl c_i) <| o_n) (by kernel_rfl) (fun a g hst hb => ?_)
   refine wp_ret ?_
   obtain rfl := Option.some.inj H0
   exact Zem rfl hst hb (Zi (s := 6)) (hst.at 2 rfl) ⟨Zby (hst.at 0 rfl), Zby (hst.at 1 rfl), trivial⟩
 · refine wp_cond_split (hst.bool 3 rfl) (fun hc3 => ?_) (fun hc3 => ?_)
   · replace H0 := Zp hc3 H0
     obtain ⟨r4, h5, H0⟩ := Zh H0; obtain ⟨r6, h7, H0⟩ := Zh H0
     refine r_g (L := [(0, _), (2, _), (7, _)]) (T := ⟨[.old 0], _, [], [], [20]⟩ :: ⟨[.old 0], _, [], [], [21]⟩ :: ⟨[.op 1 0], _, [], [1], [22]⟩ :: ⟨[.op 2 0], _, [], [1, 2], [23]⟩ :: ⟨[.op 3 0], _, [], [1, 2, 3], [24]⟩ :: ⟨[.op 4 0], _, [26], List.range' 1 4, [25]⟩ :: ⟨[.old 2], _, [], [], [26]⟩ :: ⟨[.old 2], _, [], [], [27]⟩ :: ⟨[.op 7 0], _, [], [7], [28]⟩ :: ⟨[.op 5 0, .op 6 0, .op 8 0], _, [26], List.range' 1 8, [25, 29]⟩ :: ⟨[.op 0 0], _, [], Lr 10, [30]⟩ :: ⟨[.op 10 0], _, [], Lr 11, [31]⟩ :: ⟨[.op 9 0, .op 11 0, .old 0], _, [1], Lr 12, [0, 20, 21, 22, 23, 30, 31]⟩ :: []) (F := [.op 12 0, .old 1]) (hst.pick [0, 1, 2] rfl) hb Za
       (o_p rfl (Zc rfl rfl u_0) <| o_p rfl (Zc rfl rfl u_0) <| o_p rfl (Z7 rfl rfl u_0 (fun _ _ ⟨_, _, _, e, _⟩ => ⟨_, e⟩)) <| o_p rfl (Zo Zbu (off := 7) (by kernel_rfl) rfl rfl u_0) <| o_p rfl (Zbi Zck rfl rfl u_0) <| o_p rfl (Zi6 (j := 25) Zpf (Zdc _ h5) rfl rfl (.cons u_0 .nil)) <| o_p rfl (Zc rfl rfl u_0) <| o_p rfl (Zc rfl rfl u_0) <| o_p rfl (Zcq rfl rfl u_0 c_i rfl) <| o_p rfl (Zkt Zzm (Zg4 _ _ _ h7) rfl rfl rfl u_0 (.cons u_1 (.cons u_2 .nil))) <| o_p rfl (Z7 rfl rfl u_0 (fun _ _ ⟨_, _, _, e, _⟩ => ⟨_, e⟩)) <| o_p rfl (Zo Zbu (off := 7) (by kernel_rfl) rfl rfl u_0) <| o_p rfl (Zlv Zck rfl rfl u_2 u_1 u_0) <| o_n) (by kernel_rfl) (fun a g hst hb => ?_)
     exact ⟨({ a0 with List := r6 }), g, rfl, (hst.pick [0, 1] rfl), hb, H0⟩
   · replace H0 := Zr hc3 H0
     refine wp_skip ?_
     exact ⟨a0, g, rfl, (hst.pick [0, 1] rfl), hb, H0⟩
theorem Zl9 (a0 : Zd) (a1 : Zu) (a2 : Zq) {r : Int × Zd × Zq} (h : Zih a0 a1 a2 = some r) : FnB Tryd.prog 97 [.box Zf a0 r.2.1, .val (Z1.pd a1), .box Z0 a2 r.2.2] (pInt .i64 r.1) := by
 have H0 := h
 unfold Zih at H0
 clear h
 refine Zf6 (N := 21) Tryd.func97 rfl rfl (Nat.le_of_ble_eq_true rfl) rfl rfl (fun a g0 bs hbs hst hb => ?_)
 obtain ⟨b0, b2, rfl⟩ := Zhf hbs
 replace hst : St 21 [(0, (Zbd (some b0) Zf 0 a0)), (1, (Z1.pd a1)), (2, (Zbd (some b2) Z0 2 a2))] _ _ := hst
 refine r_s (T := [⟨[.old 1], _, [], [], [4]⟩, ⟨[], _, [], [], [6]⟩]) (F := [.old 0, .old 2, .op 0 0]) hst hb Za
   (o_p rfl (Zbk rfl rfl u_0) <| o_p rfl (Zb rfl rfl c_i) <| o_n) (by kernel_rfl) (fun a g hst hb => ?_)
 refine wp_seq ?_
 obtain ⟨r1, h2, H0⟩ := Zh H0
 refine r_s (T := ⟨[.old 0], _, [], [], [10]⟩ :: ⟨[.op 0 0], _, [], [0], [11]⟩ :: ⟨[.op 1 0], _, [], [0, 1], [12]⟩ :: ⟨[.op 2 0], _, [], [0, 1, 2], [13]⟩ :: ⟨[.old 2], _, [], [], [14]⟩ :: ⟨[.op 4 0], _, [], [4], [15]⟩ :: ⟨[.op 3 0, .op 5 0], _, [], Lr 6, [16]⟩ :: ⟨[.op 6 0], _, [], Lr 7, [9]⟩ :: ⟨[.op 7 0], _, [], Lr 8, [17]⟩ :: ⟨[.op 7 0], _, [], Lr 8, [18]⟩ :: ⟨[.op 8 0], _, [], Lr 9, [7]⟩ :: ⟨[.op 9 0], _, [], Lr 11, [8]⟩ :: []) (F := [.old 0, .old 1, .op 11 0]) hst hb Za
   (o_p rfl (Zc rfl rfl u_0) <| o_p rfl (Z7 rfl rfl u_0 (fun _ _ ⟨_, _, _, e, _⟩ => ⟨_, e⟩)) <| o_p rfl (Zo Zbu (off := 7) (by kernel_rfl) rfl rfl u_0) <| o_p rfl (Zbi Zck rfl rfl u_0) <| o_p rfl (Ze Zf4 rfl rfl u_0) <| o_p rfl (Zg ty_9 rfl rfl u_0) <| o_p rfl (Zs Zr1 (Zjb _ _ h2) rfl rfl (.cons u_0 (.cons u_1 .nil))) <| o_p rfl (Zc rfl rfl u_0) <| o_p rfl (Z9 rfl rfl u_0 rfl) <| o_p rfl (Z9 rfl rfl u_0 rfl) <| o_p rfl (Zb rfl rfl u_0) <| o_p rfl (Zb rfl rfl u_0) <| o_n) (by kernel_rfl) (fun a g hst hb => ?_)
 refine r_s (T := [⟨[.old 2], _, [], [], [19]⟩, ⟨[.op 0 0], _, [], [0], [20]⟩]) (F := [.old 0, .old 1, .op 1 0]) hst hb Za
   (o_p rfl (Zc rfl rfl u_0) <| o_p rfl (Zb7 rfl rfl u_0) <| o_n) (by kernel_rfl) (fun a g hst hb => ?_)
 refine wp_cond_split (hst.bool 2 rfl) (fun hc3 => ?_) (fun hc3 => ?_)
 · replace H0 := Zp hc3 H0
   refine r_s (L := [(0, _), (2, _)]) (T := [⟨[], _, [], [], [6]⟩]) (F := [.old 0, .old 1, .op 0 0]) (hst.pick [0, 1] rfl) hb Za
     (o_p rfl (Zb rfl rfl c_i) <| o_n) (by kernel_rfl) (fun a g hst hb => ?_)
   refine wp_ret ?_
   refine Zk ?_
   obtain rfl := Option.some.inj H0
   exact Zem rfl hst hb (Zi (s := 6)) (hst.at 2 rfl) ⟨Zby (hst.at 0 rfl), Zby (hst.at 1 rfl), trivial⟩
 · replace H0 := Zr hc3 H0
   refine wp_skip ?_
   refine Zn ?_
   refine r_s (L := [(0, _), (2, _)]) (T := [⟨[], _, [], [], [6]⟩]) (F := [.old 0, .old 1, .op 0 0]) (hst.pick [0, 1] rfl) hb Za
     (o_p rfl (Zb rfl rfl c_i) <| o_n) (by kernel_rfl) (fun a g hst hb => ?_)
   refine wp_ret ?_
   obtain rfl := Option.some.inj H0
   exact Zem rfl hst hb (Zi (s := 6)) (hst.at 2 rfl) ⟨Zby (hst.at 0 rfl), Zby (hst.at 1 rfl), trivial⟩
theorem Zow (a0 : Zd) (a1 : Zu) (a2 : Zq) {r : Int × Zd × Zq} (h : Zke a0 a1 a2 = some r) : FnB Tryd.prog 98 [.box Zf a0 r.2.1, .val (Z1.pd a1), .box Z0 a2 r.2.2] (pInt .i64 r.1) := by
 have H0 := h
 unfold Zke at H0
 clear h
 refine Zf6 (N := 75) Tryd.func98 rfl rfl (Nat.le_of_ble_eq_true rfl) rfl rfl (fun a g0 bs hbs hst hb => ?_)
 obtain ⟨b0, b2, rfl⟩ := Zhf hbs
 replace hst : St 75 [(0, (Zbd (some b0) Zf 0 a0)), (1, (Z1.pd a1)), (2, (Zbd (some b2) Z0 2 a2))] _ _ := hst
 refine r_s (T := [⟨[.old 1], _, [], [], [4]⟩, ⟨[], _, [], [], [6]⟩]) (F := [.old 0, .old 2, .op 0 0]) hst hb Za
   (o_p rfl (Zbk rfl rfl u_0) <| o_p rfl (Zb rfl rfl c_i) <| o_n) (by kernel_rfl) (fun a g hst hb => ?_)
 refine r_s (T := [⟨[.old 2], _, [], [], [10]⟩, ⟨[.op 0 0], _, [], [0], [11]⟩, ⟨[.old 2], _, [], [], [12]⟩, ⟨[.op 2 0], _, [], [2], [13]⟩, ⟨[.op 1 0, .op 3 0], _, [], Lr 4, [14]⟩, ⟨[], [(7, (pBox Zm 7 (default : Zj)))], [8], [], [7]⟩, ⟨[.op 4 0, .op 5 0], _, [8], Lr 6, [7]⟩]) (F := [.old 0, .old 1, .op 6 0]) hst hb Za
   (o_p rfl (Ze Zj4 rfl rfl u_0) <| o_p rfl (Zg Zci rfl rfl u_0) <| o_p rfl (Ze Zf4 rfl rfl u_0) <| o_p rfl (Zg ty_9 rfl rfl u_0) <| o_p rfl (Zsu rfl rfl u_0 u_1) <| o_p rfl (Zbj (zs := [.float .f64 0, .string ByteArray.empty]) (by kernel_rfl) (fun g => Zey g) rfl rfl) <| o_p rfl (Zb4 Zc9 rfl rfl u_1 u_0) <| o_n) (by kernel_rfl) (fun a g hst hb => ?_)
 refine r_s (T := [⟨[], _, [], [], [8]⟩]) (F := [.old 0, .old 1, .old 2, .op 0 0]) hst hb Za
   (o_p rfl (Zb rfl rfl c_i) <| o_n) (by kernel_rfl) (fun a g hst hb => ?_)
 obtain ⟨z8, hz1, H0⟩ := Zh H0
 refine wp_seq ?_
 refine Zcf (fun a w => ∃ (y7 : Int) (g : G), w = g.w ∧ St 75 [(0, (Zbd (some b0) Zf 0 a0)), (2, (Zbd (some b2) Z0 2 a2)), (7, (Zm.ptr ({ Score := a1.X, Name := a1.S } : Zj))), (8, (pInt .i64 y7))] a g ∧ Base g0 g ∧ y7 = z8) ?_ ?_
 · rintro a w ⟨y7, g, rfl, hst, hb, rfl⟩
   refine Zn ?_
   refine wp_seq ?_
   obtain ⟨e9, h10, H0⟩ := Zh H0; obtain ⟨r11, h12, H0⟩ := Zh H0
   refine r_s (T := ⟨[.old 3], _, [], [], [35]⟩ :: ⟨[.old 0], _, [], [], [36]⟩ :: ⟨[.op 1 0], _, [], [1], [37]⟩ :: ⟨[.op 2 0], _, [], [1, 2], [38]⟩ :: ⟨[.op 3 0], _, [], [1, 2, 3], [39]⟩ :: ⟨[.op 4 0], _, [], List.range' 1 4, [40]⟩ :: ⟨[.op 0 0, .op 5 0], _, [], Lr 6, [41]⟩ :: ⟨[.op 6 0], _, [], Lr 7, [42]⟩ :: ⟨[.op 7 0, .old 2], _, [], Lr 8, [43]⟩ :: ⟨[.op 7 0, .old 0], _, [], Lr 8, [44]⟩ :: ⟨[.op 7 0, .op 9 0], _, [], [0, 1, 2, 3, 4, 5, 6, 7, 9], [45]⟩ :: ⟨[.op 7 0, .op 10 0], _, [], [0, 1, 2, 3, 4, 5, 6, 7, 9, 10], [46]⟩ :: ⟨[.op 7 0, .op 11 0], _, [], [0, 1, 2, 3, 4, 5, 6, 7, 9, 10, 11], [47]⟩ :: ⟨[.op 7 0, .old 3], _, [], Lr 8, [48]⟩ :: ⟨[.op 7 0, .op 12 0, .op 13 0], _, [], 0 :: 1 :: 2 :: 3 :: 4 :: 5 :: 6 :: 7 :: 9 :: 10 :: 11 :: 12 :: 13 :: [], [49]⟩ :: ⟨[.op 7 0, .op 14 0], _, [], 0 :: 1 :: 2 :: 3 :: 4 :: 5 :: 6 :: 7 :: 9 :: 10 :: 11 :: 12 :: 13 :: 14 :: [], [50]⟩ :: ⟨[.op 7 0, .op 8 0, .op 15 0], _, [], Lr 16, [51]⟩ :: ⟨[.op 7 0, .op 16 0], _, [], Lr 17, [52]⟩ :: ⟨[.op 7 0, .op 17 0], _, [], Lr 18, [53]⟩ :: []) (F := [.old 0, .old 1, .old 2, .old 3, .op 18 0]) hst hb Za
     (o_p rfl (Zc rfl rfl u_0) <| o_p rfl (Zc rfl rfl u_0) <| o_p rfl (Z7 rfl rfl u_0 (fun _ _ ⟨_, _, _, e, _⟩ => ⟨_, e⟩)) <| o_p rfl (Zo Zbu (off := 7) (by kernel_rfl) rfl rfl u_0) <| o_p rfl (Zbi Zck rfl rfl u_0) <| o_p rfl (Zca Tryd.underlying23 rfl rfl u_0) <| o_p rfl (Zce rfl rfl u_0 u_1) <| o_p rfl (Zc rfl rfl u_0) <| o_g (g_t rfl rfl rfl (fun hG => Zg Zc9 rfl rfl u_0)) <| o_g (g_t rfl rfl rfl (fun hG => Zc rfl rfl u_0)) <| o_g (g_t rfl rfl rfl (fun hG => Z7 rfl rfl (Opd.gd hG u_0) (fun _ _ ⟨_, _, _, e, _⟩ => ⟨_, e⟩))) <| o_g (g_t rfl rfl rfl (fun hG => Zo Zbu (off := 7) (by kernel_rfl) rfl rfl (Opd.gd hG u_0))) <| o_g (g_t rfl rfl rfl (fun hG => Zbi Zck rfl rfl (Opd.gd hG u_0))) <| o_g (g_t rfl rfl rfl (fun hG => Zc rfl rfl u_0)) <| o_g (g_t rfl rfl rfl (fun hG => Zbn Tryd.underlying23 Zen rfl rfl (Opd.gd hG u_0) (Opd.gd hG u_1) (Zbp h10 hG))) <| o_g (g_t rfl rfl rfl (fun hG => Zg Zc9 rfl rfl (Opd.gd hG u_0))) <| o_g (g_t rfl rfl rfl (fun hG => Zs Zr8 (Ziu _ _ (Zbp h12 hG)) rfl rfl (.cons (Opd.gd hG u_0) (.cons (Opd.gd hG u_1) .nil)))) <| o_g (g_t rfl rfl rfl (fun hG => Zb7 rfl rfl (Opd.gd hG u_0))) <| o_p rfl (Zbb rfl rfl u_0 (fun hz => (Opd.gd hz u_1))) <| o_n) (by kernel_rfl) (fun a g hst hb => ?_)
   refine wp_cond_split (hst.bool 4 rfl) (fun hc13 => ?_) (fun hc13 => ?_)
   · replace H0 := Zp hc13 H0
     refine r_s (L := [(0, _), (2, _)]) (T := [⟨[], _, [], [], [6]⟩]) (F := [.old 0, .old 1, .op 0 0]) (hst.pick [0, 1] rfl) hb Za
       (o_p rfl (Zb rfl rfl c_i) <| o_n) (by kernel_rfl) (fun a g hst hb => ?_)
     refine wp_ret ?_
     refine Zk ?_
     obtain rfl := Option.some.inj H0
     exact Zem rfl hst hb (Zi (s := 6)) (hst.at 2 rfl) ⟨Zby (hst.at 0 rfl), Zby (hst.at 1 rfl), trivial⟩
   · replace H0 := Zr hc13 H0
     refine wp_skip ?_
     refine Zn ?_
     obtain ⟨r14, h15, H0⟩ := Zh H0; obtain ⟨r16, h17, H0⟩ := Zh H0
     refine r_s (L := [(0, _), (2, _), (7, _), (8, _)]) (T := [⟨[.old 0], _, [], [], [54]⟩, ⟨[.op 0 0], _, [], [0], [55]⟩, ⟨[.op 1 0], _, [], [0, 1], [56]⟩, ⟨[.op 2 0], _, [], [0, 1, 2], [57]⟩, ⟨[.op 3 0], _, [59], Lr 4, [58]⟩, ⟨[.old 3], _, [], [], [59]⟩, ⟨[.old 2], _, [], [], [60]⟩, ⟨[.op 6 0], _, [], [6], [61]⟩, ⟨[.op 4 0, .op 5 0, .op 7 0], _, [59], Lr 8, [58, 62]⟩, ⟨[.op 8 0], _, [], Lr 9, [9]⟩]) (F := [.old 0, .old 1, .op 9 0]) (hst.pick [0, 1, 2, 3] rfl) hb Za
       (o_p rfl (Zc rfl rfl u_0) <| o_p rfl (Z7 rfl rfl u_0 (fun _ _ ⟨_, _, _, e, _⟩ => ⟨_, e⟩)) <| o_p rfl (Zo Zbu (off := 7) (by kernel_rfl) rfl rfl u_0) <| o_p rfl (Zbi Zck rfl rfl u_0) <| o_p rfl (Zi6 (j := 58) Zpf (Zdc _ h15) rfl rfl (.cons u_0 .nil)) <| o_p rfl (Zc rfl rfl u_0) <| o_p rfl (Zg Zc9 rfl rfl u_0) <| o_p rfl (Zh1 Zc1 (xs := [.tmp 60]) (.cons u_0 .nil) (by decide) rfl rfl) <| o_p rfl (Zkt Zsr (Zev _ _ _ h17) rfl rfl rfl u_0 (.cons u_1 (.cons u_2 .nil))) <| o_p rfl (Zb rfl rfl u_0) <| o_n) (by kernel_rfl) (fun a g hst hb => ?_)
     obtain ⟨c18, h19, H0⟩ := Zh H0
     refine r_s (T := ⟨[.old 0], _, [], [], [63]⟩ :: ⟨[.old 2], _, [], [], [64]⟩ :: ⟨[.old 2], _, [], [], [65]⟩ :: ⟨[.op 2 0], _, [], [2], [66]⟩ :: ⟨[.old 0], _, [], [], [67]⟩ :: ⟨[.op 4 0], _, [], [4], [68]⟩ :: ⟨[.op 5 0], _, [], [4, 5], [69]⟩ :: ⟨[.op 6 0], _, [], [4, 5, 6], [70]⟩ :: ⟨[.op 3 0, .op 7 0], _, [], List.range' 2 6, [71]⟩ :: ⟨[.op 1 0, .op 8 0], _, [], List.range' 1 8, [72]⟩ :: ⟨[.op 0 0], _, [], Lr 10, [73]⟩ :: ⟨[.op 10 0], _, [], Lr 11, [74]⟩ :: ⟨[.op 9 0, .op 11 0, .old 0], _, [1], Lr 12, [0, 63, 67, 68, 69, 73, 74]⟩ :: []) (F := [.op 12 0, .old 1]) hst hb Za
       (o_p rfl (Zc rfl rfl u_0) <| o_p rfl (Zc rfl rfl u_0) <| o_p rfl (Zc rfl rfl u_0) <| o_p rfl (Zca Tryd.underlying23 rfl rfl u_0) <| o_p rfl (Zc rfl rfl u_0) <| o_p rfl (Z7 rfl rfl u_0 (fun _ _ ⟨_, _, _, e, _⟩ => ⟨_, e⟩)) <| o_p rfl (Zo Zds (off := 5) (by kernel_rfl) rfl rfl u_0) <| o_p rfl (Zbi ty_3 rfl rfl u_0) <| o_p rfl (Zxx rfl rfl u_0 u_1) <| o_p rfl (Zw3 Tryd.underlying23 Zen rfl rfl u_0 u_1 h19) <| o_p rfl (Z7 rfl rfl u_0 (fun _ _ ⟨_, _, _, e, _⟩ => ⟨_, e⟩)) <| o_p rfl (Zo Zbu (off := 7) (by kernel_rfl) rfl rfl u_0) <| o_p rfl (Zlv Zck rfl rfl u_2 u_1 u_0) <| o_n) (by kernel_rfl) (fun a g hst hb => ?_)
     refine r_s (T := [⟨[], _, [], [], [6]⟩]) (F := [.old 0, .old 1, .op 0 0]) hst hb Za
       (o_p rfl (Zb rfl rfl c_i) <| o_n) (by kernel_rfl) (fun a g hst hb => ?_)
     refine wp_ret ?_
     obtain rfl := Option.some.inj H0
     exact Zem rfl hst hb (Zi (s := 6)) (hst.at 2 rfl) ⟨Zby (hst.at 0 rfl), Zby (hst.at 1 rfl), trivial⟩
 · refine wp_block ?_
   refine wp_loop_ghost (fun n a w => ∃ (x1 : Int) (g : G), w = g.w ∧ St 75 [(0, (Zbd (some b0) Zf 0 a0)), (2, (Zbd (some b2) Z0 2 a2)), (7, (Zm.ptr ({ Score := a1.X, Name := a1.S } : Zj))), (8, (pInt .i64 x1))] a g ∧ Base g0 g ∧ Zge a0 a1 n x1 = some z8) (Int.toNat ((a0.List.length : Int) - (0 : Int)) + 1) ⟨(0 : Int), g, rfl, (hst.pick [0, 1, 2, 3] rfl), hb, hz1⟩ (fun n a w hI => ?_)
   obtain ⟨x1, g, rfl, hst, hb, H1⟩ := hI
   cases n with
   | zero => exact absurd H1 (by simp [Zge])
   | succ n =>
     rw [Zge] at H1
     refine wp_seq ?_
     obtain ⟨e2, h3, H1⟩ := Zh H1; obtain ⟨r4, h5, H1⟩ := Zh H1
     refine r_s (T := ⟨[.old 3], _, [], [], [15]⟩ :: ⟨[.old 0], _, [], [], [16]⟩ :: ⟨[.op 1 0], _, [], [1], [17]⟩ :: ⟨[.op 2 0], _, [], [1, 2], [18]⟩ :: ⟨[.op 3 0], _, [], [1, 2, 3], [19]⟩ :: ⟨[.op 4 0], _, [], List.range' 1 4, [20]⟩ :: ⟨[.op 0 0, .op 5 0], _, [], Lr 6, [21]⟩ :: ⟨[.op 6 0], _, [], Lr 7, [22]⟩ :: ⟨[.op 7 0, .old 0], _, [], Lr 8, [23]⟩ :: ⟨[.op 7 0, .op 8 0], _, [], Lr 9, [24]⟩ :: ⟨[.op 7 0, .op 9 0], _, [], Lr 10, [25]⟩ :: ⟨[.op 7 0, .op 10 0], _, [], Lr 11, [26]⟩ :: ⟨[.op 7 0, .old 3], _, [], Lr 8, [27]⟩ :: ⟨[.op 7 0, .op 11 0, .op 12 0], _, [], Lr 13, [28]⟩ :: ⟨[.op 7 0, .op 13 0], _, [], Lr 14, [29]⟩ :: ⟨[.op 7 0, .old 2], _, [], Lr 8, [30]⟩ :: ⟨[.op 7 0, .op 14 0, .op 15 0], _, [], Lr 16, [31]⟩ :: ⟨[.op 7 0, .op 16 0], _, [], Lr 17, [32]⟩ :: []) (F := [.old 0, .old 1, .old 2, .old 3, .op 17 0]) hst hb Za
       (o_p rfl (Zc rfl rfl u_0) <| o_p rfl (Zc rfl rfl u_0) <| o_p rfl (Z7 rfl rfl u_0 (fun _ _ ⟨_, _, _, e, _⟩ => ⟨_, e⟩)) <| o_p rfl (Zo Zbu (off := 7) (by kernel_rfl) rfl rfl u_0) <| o_p rfl (Zbi Zck rfl rfl u_0) <| o_p rfl (Zca Tryd.underlying23 rfl rfl u_0) <| o_p rfl (Zce rfl rfl u_0 u_1) <| o_p rfl (Zc rfl rfl u_0) <| o_g (g_t rfl rfl rfl (fun hG => Zc rfl rfl u_0)) <| o_g (g_t rfl rfl rfl (fun hG => Z7 rfl rfl (Opd.gd hG u_0) (fun _ _ ⟨_, _, _, e, _⟩ => ⟨_, e⟩))) <| o_g (g_t rfl rfl rfl (fun hG => Zo Zbu (off := 7) (by kernel_rfl) rfl rfl (Opd.gd hG u_0))) <| o_g (g_t rfl rfl rfl (fun hG => Zbi Zck rfl rfl (Opd.gd hG u_0))) <| o_g (g_t rfl rfl rfl (fun hG => Zc rfl rfl u_0)) <| o_g (g_t rfl rfl rfl (fun hG => Zbn Tryd.underlying23 Zen rfl rfl (Opd.gd hG u_0) (Opd.gd hG u_1) (Zbp h3 hG))) <| o_g (g_t rfl rfl rfl (fun hG => Zg Zc9 rfl rfl (Opd.gd hG u_0))) <| o_g (g_t rfl rfl rfl (fun hG => Zg Zc9 rfl rfl u_0)) <| o_g (g_t rfl rfl rfl (fun hG => Zs Zr8 (Ziu _ _ (Zbp h5 hG)) rfl rfl (.cons (Opd.gd hG u_0) (.cons (Opd.gd hG u_1) .nil)))) <| o_p rfl (Zbb rfl rfl u_0 (fun hz => (Opd.gd hz u_1))) <| o_n) (by kernel_rfl) (fun a g hst hb => ?_)
     refine wp_cond_split (hst.bool 4 rfl) (fun hc6 => ?_) (fun hc6 => ?_)
     · replace H1 := Zp hc6 H1
       refine wp_skip ?_
       refine Zn ?_
       refine wp_block ?_
       refine r_g (L := [(0, _), (2, _), (7, _), (8, _)]) (T := [⟨[.old 3], _, [], [], [33]⟩, ⟨[.op 0 0], _, [], [0], [34]⟩, ⟨[.op 1 0], _, [], [0, 1], [8]⟩]) (F := [.old 0, .old 1, .old 2, .op 2 0]) (hst.pick [0, 1, 2, 3] rfl) hb Za
         (o_p rfl (Zc rfl rfl u_0) <| o_p rfl (Zcq rfl rfl u_0 c_i rfl) <| o_p rfl (Zb rfl rfl u_0) <| o_n) (by kernel_rfl) (fun a g hst hb => ?_)
       refine Zbe ?_
       exact ⟨n, Nat.lt_succ_self _, (IntKind.i64.wrap (x1 + (1 : Int))), g, rfl, (hst.pick [0, 1, 2, 3] rfl), hb, H1⟩
     · replace H1 := Zr hc6 H1
       refine wp_exit ?_
       refine Zcg ?_
       refine Zcg ?_
       refine Zc4 ?_
       exact ⟨x1, g, rfl, (hst.pick [0, 1, 2, 3] rfl), hb, Option.some.inj H1⟩
def Phi (k : Int) (f : FuncId) (C : List Pd) : Prop := ∀ (x0 x1 : Zd) (a : Zu) (y0 y1 : Zq) (c : Int), Zb3 k x0 a y0 = some (c, x1, y1) → FnB Tryd.prog f ([.box Zf x0 x1, .val (Z1.pd a), .box Z0 y0 y1] ++ C.map .val) (pInt .i64 c)
theorem Zwl {k : Int} {x0 : Zd} {a : Zu} {y0 : Zq} {r : Int × Zd × Zq} (h : Zb3 k x0 a y0 = some r) : ∀ f C, Phi k f C → FnB Tryd.prog f ([.box Zf x0 r.2.1, .val (Z1.pd a), .box Z0 y0 r.2.2] ++ C.map .val) (pInt .i64 r.1) := fun f C hΦ => hΦ _ _ _ _ _ _ h
def tabT : TabT := fun k => if 5 ≤ k ∧ k ≤ 21 then some (Phi k) else none
theorem Zx3 {i : Int} (h : 5 ≤ i ∧ i ≤ 21) : tabT i.toNat = some (Phi i) := by
 unfold tabT
 rw [if_pos (by omega), show ((i.toNat : Nat) : Int) = i by omega]
theorem Zy8 : Phi 5 82 [] := fun x0 x1 a y0 y1 c h => Zmd x0 a y0 (r := (c, x1, y1)) (by simpa [Zb3] using h)
theorem Zzi : Phi 6 83 [] := fun x0 x1 a y0 y1 c h => Zme x0 a y0 (r := (c, x1, y1)) (by simpa [Zb3] using h)
theorem Zze : Phi 7 84 [] := fun x0 x1 a y0 y1 c h => Zl5 x0 a y0 (r := (c, x1, y1)) (by simpa [Zb3] using h)
theorem Zyw : Phi 8 85 [] := fun x0 x1 a y0 y1 c h => Zp1 x0 a y0 (r := (c, x1, y1)) (by simpa [Zb3] using h)
theorem Zyu : Phi 9 86 [] := fun x0 x1 a y0 y1 c h => Zjq x0 a y0 (r := (c, x1, y1)) (by simpa [Zb3] using h)
theorem Zxk : Phi 10 87 [] := fun x0 x1 a y0 y1 c h => Zl4 x0 a y0 (r := (c, x1, y1)) (by simpa [Zb3] using h)
theorem Zxp : Phi 11 88 [] := fun x0 x1 a y0 y1 c h => Zmc x0 a y0 (r := (c, x1, y1)) (by simpa [Zb3] using h)
theorem Zxw : Phi 12 86 [] := fun x0 x1 a y0 y1 c h => Zjq x0 a y0 (r := (c, x1, y1)) (by simpa [Zb3] using h)
theorem Zxl : Phi 13 106 [(Kd.fnc.ptr 38)] := fun x0 x1 a y0 y1 c h => by
 have h' : Zdx (fun x y => Zhm x y) x0 a y0 = some (c, x1, y1) := by simpa [Zb3] using h
 obtain ⟨z, hz, h2⟩ := Zh h'
 injection h2 with h2
 simp only [Prod.mk.injEq] at h2
 obtain ⟨rfl, rfl, rfl⟩ := h2
 exact Zf2 38 Zu0 (fun x y => Zhm x y) (fun x y z h => Znh x y h) x0 a y0 hz
theorem Zxn : Phi 14 106 [(Kd.fnc.ptr 39)] := fun x0 x1 a y0 y1 c h => by
 have h' : Zdx (fun x y => Zhp x y) x0 a y0 = some (c, x1, y1) := by simpa [Zb3] using h
 obtain ⟨z, hz, h2⟩ := Zh h'
 injection h2 with h2
 simp only [Prod.mk.injEq] at h2
 obtain ⟨rfl, rfl, rfl⟩ := h2
 exact Zf2 39 Zu8 (fun x y => Zhp x y) (fun x y z h => Zng x y h) x0 a y0 hz
theorem Zx6 : Phi 15 106 [(Kd.fnc.ptr 90)] := fun x0 x1 a y0 y1 c h => by
 have h' : Zdx (fun x y => Zjd x y) x0 a y0 = some (c, x1, y1) := by simpa [Zb3] using h
 obtain ⟨z, hz, h2⟩ := Zh h'
 injection h2 with h2
 simp only [Prod.mk.injEq] at h2
 obtain ⟨rfl, rfl, rfl⟩ := h2
 exact Zf2 90 Zyk (fun x y => Zjd x y) (fun x y z h => Zqk x y h) x0 a y0 hz
theorem Zx0 : Phi 16 106 [(Kd.fnc.ptr 91)] := fun x0 x1 a y0 y1 c h => by
 have h' : Zdx (fun x y => Zio x y) x0 a y0 = some (c, x1, y1) := by simpa [Zb3] using h
 obtain ⟨z, hz, h2⟩ := Zh h'
 injection h2 with h2
 simp only [Prod.mk.injEq] at h2
 obtain ⟨rfl, rfl, rfl⟩ := h2
 exact Zf2 91 Zy4 (fun x y => Zio x y) (fun x y z h => Zpv x y h) x0 a y0 hz
theorem Zxm : Phi 17 106 [(Kd.fnc.ptr 92)] := fun x0 x1 a y0 y1 c h => by
 have h' : Zdx (fun x y => Zf3 x y) x0 a y0 = some (c, x1, y1) := by simpa [Zb3] using h
 obtain ⟨z, hz, h2⟩ := Zh h'
 injection h2 with h2
 simp only [Prod.mk.injEq] at h2
 obtain ⟨rfl, rfl, rfl⟩ := h2
 exact Zf2 92 Zzc (fun x y => Zf3 x y) (fun x y z h => Zl8 x y h) x0 a y0 hz
theorem Zxb : Phi 18 93 [] := fun x0 x1 a y0 y1 c h => Zpq x0 a y0 (r := (c, x1, y1)) (by simpa [Zb3] using h)
theorem Zxd : Phi 19 94 [] := fun x0 x1 a y0 y1 c h => Zma x0 a y0 (r := (c, x1, y1)) (by simpa [Zb3] using h)
theorem Zxg : Phi 20 97 [] := fun x0 x1 a y0 y1 c h => Zl9 x0 a y0 (r := (c, x1, y1)) (by simpa [Zb3] using h)
theorem Zxf : Phi 21 98 [] := fun x0 x1 a y0 y1 c h => Zow x0 a y0 (r := (c, x1, y1)) (by simpa [Zb3] using h)
theorem Zqx {N d : Nat} {o : Oper} {uses : Z3} (hop : o.op = .build 116 #[(5, .func 82), (6, .func 83), (7, .func 84), (8, .func 85), (9, .func 86), (12, .func 86), (10, .func 87), (11, .func 88), (13, .tmp 1), (14, .tmp 2), (15, .tmp 3), (16, .tmp 4), (17, .tmp 5), (18, .func 93), (19, .func 94), (20, .func 97), (21, .func 98)]) (hd : o.dst = some d) (h1 : Opd uses (.tmp 1) (pClo 106 [(Kd.fnc.ptr 38)] rfl)) (h2 : Opd uses (.tmp 2) (pClo 106 [(Kd.fnc.ptr 39)] rfl)) (h3 : Opd uses (.tmp 3) (pClo 106 [(Kd.fnc.ptr 90)] rfl)) (h4 : Opd uses (.tmp 4) (pClo 106 [(Kd.fnc.ptr 91)] rfl)) (h5 : Opd uses (.tmp 5) (pClo 106 [(Kd.fnc.ptr 92)] rfl)) : OB Tryd.prog N o uses [(d, ((Kd.tab Tryd.prog 22 (by decide)).pd tabT))] [] :=
 Zbs hd fun a g hh => by
   obtain ⟨c1, e1, k1⟩ := h1 a g hh
   obtain ⟨c2, e2, k2⟩ := h2 a g hh
   obtain ⟨c3, e3, k3⟩ := h3 a g hh
   obtain ⟨c4, e4, k4⟩ := h4 a g hh
   obtain ⟨c5, e5, k5⟩ := h5 a g hh
   refine ⟨.agg #[.nilFunc, .nilFunc, .nilFunc, .nilFunc, .nilFunc, .func (.func 82) #[] #[], .func (.func 83) #[] #[], .func (.func 84) #[] #[], .func (.func 85) #[] #[], .func (.func 86) #[] #[], .func (.func 87) #[] #[], .func (.func 88) #[] #[], .func (.func 86) #[] #[], .func (.func 106) #[] c1.toArray, .func (.func 106) #[] c2.toArray, .func (.func 106) #[] c3.toArray, .func (.func 106) #[] c4.toArray, .func (.func 106) #[] c5.toArray, .func (.func 93) #[] #[], .func (.func 94) #[] #[], .func (.func 97) #[] #[], .func (.func 98) #[] #[]], ?_, [.nilFunc, .nilFunc, .nilFunc, .nilFunc, .nilFunc, .func (.func 82) #[] #[], .func (.func 83) #[] #[], .func (.func 84) #[] #[], .func (.func 85) #[] #[], .func (.func 86) #[] #[], .func (.func 87) #[] #[], .func (.func 88) #[] #[], .func (.func 86) #[] #[], .func (.func 106) #[] c1.toArray, .func (.func 106) #[] c2.toArray, .func (.func 106) #[] c3.toArray, .func (.func 106) #[] c4.toArray, .func (.func 106) #[] c5.toArray, .func (.func 93) #[] #[], .func (.func 94) #[] #[], .func (.func 97) #[] #[], .func (.func 98) #[] #[]], ⟨rfl, ?_, ?_⟩, rfl⟩
   · simp only [execOp, hop, Sem.run_bind, Sem.run_pure, Result.andThen_ok, List.map_toArray, List.map_cons, List.map_nil, e1, e2, e3, e4, e5]
     rw [Zpp Tryd.underlying116 (zero := .agg #[.nilFunc, .nilFunc, .nilFunc, .nilFunc, .nilFunc, .nilFunc, .nilFunc, .nilFunc, .nilFunc, .nilFunc, .nilFunc, .nilFunc, .nilFunc, .nilFunc, .nilFunc, .nilFunc, .nilFunc, .nilFunc, .nilFunc, .nilFunc, .nilFunc, .nilFunc]) (by kernel_rfl) (by kernel_rfl) (cells := #[.nilFunc, .nilFunc, .nilFunc, .nilFunc, .nilFunc, .func (.func 82) #[] #[], .func (.func 83) #[] #[], .func (.func 84) #[] #[], .func (.func 85) #[] #[], .func (.func 86) #[] #[], .func (.func 87) #[] #[], .func (.func 88) #[] #[], .func (.func 86) #[] #[], .func (.func 106) #[] c1.toArray, .func (.func 106) #[] c2.toArray, .func (.func 106) #[] c3.toArray, .func (.func 106) #[] c4.toArray, .func (.func 106) #[] c5.toArray, .func (.func 93) #[] #[], .func (.func 94) #[] #[], .func (.func 97) #[] #[], .func (.func 98) #[] #[]]) (by kernel_rfl) g.w]
     rfl
   · intro u hu
     simp only [List.mem_cons, List.not_mem_nil, or_false] at hu
     rcases hu with rfl | rfl | rfl | rfl | rfl | rfl | rfl | rfl | rfl | rfl | rfl | rfl | rfl | rfl | rfl | rfl | rfl | rfl | rfl | rfl | rfl | rfl <;> rfl
   · intro k F u hF hu
     unfold tabT at hF
     split at hF
     · rename_i hk
       obtain rfl := Option.some.inj hF
       obtain ⟨hk1, hk2⟩ := hk
       have hk : k = 5 ∨ k = 6 ∨ k = 7 ∨ k = 8 ∨ k = 9 ∨ k = 10 ∨ k = 11 ∨ k = 12 ∨ k = 13 ∨ k = 14 ∨ k = 15 ∨ k = 16 ∨ k = 17 ∨ k = 18 ∨ k = 19 ∨ k = 20 ∨ k = 21 := by omega
       rcases hk with rfl | rfl | rfl | rfl | rfl | rfl | rfl | rfl | rfl | rfl | rfl | rfl | rfl | rfl | rfl | rfl | rfl
       · obtain rfl := Option.some.inj hu; exact ⟨82, [], [], rfl, Zy3, rfl, Zy8, Zcu, fun q hq => by cases hq⟩
       · obtain rfl := Option.some.inj hu; exact ⟨83, [], [], rfl, Zyo, rfl, Zzi, Zcu, fun q hq => by cases hq⟩
       · obtain rfl := Option.some.inj hu; exact ⟨84, [], [], rfl, Zyn, rfl, Zze, Zcu, fun q hq => by cases hq⟩
       · obtain rfl := Option.some.inj hu; exact ⟨85, [], [], rfl, Zzn, rfl, Zyw, Zcu, fun q hq => by cases hq⟩
       · obtain rfl := Option.some.inj hu; exact ⟨86, [], [], rfl, Zur, rfl, Zyu, Zcu, fun q hq => by cases hq⟩
       · obtain rfl := Option.some.inj hu; exact ⟨87, [], [], rfl, Zzf, rfl, Zxk, Zcu, fun q hq => by cases hq⟩
       · obtain rfl := Option.some.inj hu; exact ⟨88, [], [], rfl, Zzv, rfl, Zxp, Zcu, fun q hq => by cases hq⟩
       · obtain rfl := Option.some.inj hu; exact ⟨86, [], [], rfl, Zur, rfl, Zxw, Zcu, fun q hq => by cases hq⟩
       · obtain rfl := Option.some.inj hu; exact ⟨106, _, c1, rfl, Zk6, rfl, Zxl, k1, Zgu⟩
       · obtain rfl := Option.some.inj hu; exact ⟨106, _, c2, rfl, Zk6, rfl, Zxn, k2, Zgu⟩
       · obtain rfl := Option.some.inj hu; exact ⟨106, _, c3, rfl, Zk6, rfl, Zx6, k3, Zgu⟩
       · obtain rfl := Option.some.inj hu; exact ⟨106, _, c4, rfl, Zk6, rfl, Zx0, k4, Zgu⟩
       · obtain rfl := Option.some.inj hu; exact ⟨106, _, c5, rfl, Zk6, rfl, Zxm, k5, Zgu⟩
       · obtain rfl := Option.some.inj hu; exact ⟨93, [], [], rfl, Zzo, rfl, Zxb, Zcu, fun q hq => by cases hq⟩
       · obtain rfl := Option.some.inj hu; exact ⟨94, [], [], rfl, Zym, rfl, Zxd, Zcu, fun q hq => by cases hq⟩
       · obtain rfl := Option.some.inj hu; exact ⟨97, [], [], rfl, Zzu, rfl, Zxg, Zcu, fun q hq => by cases hq⟩
       · obtain rfl := Option.some.inj hu; exact ⟨98, [], [], rfl, Zyt, rfl, Zxf, Zcu, fun q hq => by cases hq⟩
     · cases hF
theorem Zs3 : Ty Tryd.prog 116 (Kd.tab Tryd.prog 22 (by decide)) := ⟨by kernel_rfl, by kernel_rfl⟩
theorem Znb : FnOk Tryd.prog 68 [] (pTab Tryd.prog 22 tabT) := by
 refine Zbo (N := 7) Tryd.func68 rfl rfl (Nat.le_of_ble_eq_true rfl) rfl rfl (fun a g0 hst hb => ?_)
 refine r_s (T := [⟨[], [(0, (pBox (Kd.tab Tryd.prog 22 (by decide)) 0 (fun _ => none)))], [1], [], [0]⟩]) (F := [.op 0 0]) hst hb Za
   (o_p rfl (Zbj (zs := [.nilFunc, .nilFunc, .nilFunc, .nilFunc, .nilFunc, .nilFunc, .nilFunc, .nilFunc, .nilFunc, .nilFunc, .nilFunc, .nilFunc, .nilFunc, .nilFunc, .nilFunc, .nilFunc, .nilFunc, .nilFunc, .nilFunc, .nilFunc, .nilFunc, .nilFunc]) (by kernel_rfl) (fun g => ⟨rfl, by decide, fun k F u h => by cases h⟩) rfl rfl) <| o_n) (by kernel_rfl) (fun a g hst hb => ?_)
 refine r_s (T := [⟨[], _, [], [], [1]⟩, ⟨[], _, [], [0], [2]⟩, ⟨[], _, [], [0, 1], [3]⟩, ⟨[], _, [], [0, 1, 2], [4]⟩, ⟨[], _, [], [0, 1, 2, 3], [5]⟩, ⟨[.op 0 0, .op 1 0, .op 2 0, .op 3 0, .op 4 0], _, [], [0, 1, 2, 3, 4], [6]⟩, ⟨[.op 5 0, .old 0], [(0, (pBox (Kd.tab Tryd.prog 22 (by decide)) 0 tabT))], [1], [0, 1, 2, 3, 4, 5], [0]⟩]) (F := [.op 6 0]) hst hb Za
   (o_p rfl (Zs Znk (Zgv 38) rfl rfl (.cons Opd.fncv .nil)) <| o_p rfl (Zs Znk (Zgv 39) rfl rfl (.cons Opd.fncv .nil)) <| o_p rfl (Zs Znk (Zgv 90) rfl rfl (.cons Opd.fncv .nil)) <| o_p rfl (Zs Znk (Zgv 91) rfl rfl (.cons Opd.fncv .nil)) <| o_p rfl (Zs Znk (Zgv 92) rfl rfl (.cons Opd.fncv .nil)) <| o_p rfl (Zqx rfl rfl u_0 u_1 u_2 u_3 u_4) <| o_p rfl (Z6 Zs3 rfl rfl u_1 u_0) <| o_n) (by kernel_rfl) (fun a g hst hb => ?_)
 refine wp_ret ?_
 obtain ⟨u0, hu0, hq0⟩ := Zba (P := Tryd.prog) Zs3 (hst.at 0 rfl)
 exact Zy rfl hst hb hu0 (Ztw hq0)
theorem Zky (a0 : Zd) (a1 : Bool) (a2 : Zu) {r : Zd × Bool × Zq} (h : Zi0 a0 a1 a2 = some r) : FnOk Tryd.prog 40 [(Zf.pd a0), (Z5 a1), (Z1.pd a2)] (pTup [(Zf.pd r.1), (Z5 r.2.1), (Z0.pd r.2.2)]) := by
 have H0 := h
 unfold Zi0 at H0
 clear h
 refine Zbo (N := 123) Tryd.func40 rfl rfl (Nat.le_of_ble_eq_true rfl) rfl rfl (fun a g0 hst hb => ?_)
 refine r_s (T := [⟨[.old 0], _, [4], [], [3]⟩, ⟨[.old 1], _, [], [], [4]⟩, ⟨[.old 2], _, [], [], [5]⟩, ⟨[], [(6, (pBox Zf 6 (default : Zd)))], [7], [], [6]⟩, ⟨[], _, [], [], [7]⟩, ⟨[], [(8, (pBox Z0 8 (default : Zq)))], [9], [], [8]⟩]) (F := [.op 0 0, .op 1 0, .op 2 0, .op 3 0, .op 5 0]) hst hb Za
   (o_p rfl (Zj2 rfl rfl u_0) <| o_p rfl (Zbk rfl rfl u_0) <| o_p rfl (Zbk rfl rfl u_0) <| o_p rfl (Zbj (zs := [.int .i64 0, .int .i64 0, .int .i64 0, .int .i64 0, .float .f64 0, .int .i64 0, .string ByteArray.empty, .slice none 0 0]) (by kernel_rfl) (fun g => Zbr g) rfl rfl) <| o_p rfl (Zb rfl rfl c_b) <| o_p rfl (Zbj (zs := [.int .i64 0, .int .i64 0, .int .i64 0, .int .i64 0, .int .i64 0, .int .i64 0, .float .f64 0, .int .i64 0, .string ByteArray.empty, .slice none 0 0]) (by kernel_rfl) (fun g => Zhb g) rfl rfl) <| o_n) (by kernel_rfl) (fun a g hst hb => ?_)
 refine wp_seq ?_
 refine r_s (T := [⟨[.old 1], _, [], [], [15]⟩, ⟨[.op 0 0], _, [], [0], [16]⟩]) (F := [.old 0, .old 1, .old 2, .old 3, .old 4, .op 1 0]) hst hb Za
   (o_p rfl (Zg ty_4 rfl rfl u_0) <| o_p rfl (Zb7 rfl rfl u_0) <| o_n) (by kernel_rfl) (fun a g hst hb => ?_)
 refine Zcf (fun a w => ∃ (j2 : Zd) (g : G), w = g.w ∧ St 123 [(3, (pBox Zf 3 j2)), (4, (Kd.bool.ptr a1)), (5, (Z1.ptr a2)), (6, (pBox Zf 6 (default : Zd))), (8, (pBox Z0 8 (default : Zq)))] a g ∧ Base g0 g ∧ Zhe a1 a2 j2 = some r) ?_ ?_
 · rintro a w ⟨j2, g, rfl, hst, hb, H0⟩
   unfold Zhe at H0
   refine Zn ?_
   obtain ⟨r3, h4, H0⟩ := Zh H0
   refine r_s (T := [⟨[.old 0], _, [], [], [18]⟩, ⟨[.op 0 0], _, [], [0], [19]⟩, ⟨[.op 1 0, .old 0], _, [4], [0, 1], [3]⟩]) (F := [.op 2 0, .old 1, .old 2, .old 3, .old 4]) hst hb Za
     (o_p rfl (Zdd Z4 rfl rfl u_0) <| o_p rfl (Zs Zks (Ze6 _ h4) rfl rfl (.cons u_0 .nil)) <| o_p rfl (Z6 Z4 rfl rfl u_1 u_0) <| o_n) (by kernel_rfl) (fun a g hst hb => ?_)
   refine r_s (T := [⟨[.old 0, .old 1], _, [], [], [20]⟩, ⟨[.op 0 0], _, [], [0], [9]⟩]) (F := [.old 0, .old 1, .old 2, .old 3, .old 4, .op 1 0]) hst hb Za
     (o_p rfl (Zp3 rfl rfl (.cons u_0 (.cons u_1 .nil))) <| o_p rfl (Zb rfl rfl u_0) <| o_n) (by kernel_rfl) (fun a g hst hb => ?_)
   refine wp_seq ?_
   obtain ⟨r5, h6, H0⟩ := Zh H0
   refine r_s (T := [⟨[.old 2], _, [], [], [21]⟩, ⟨[.op 0 0], _, [], [0], [22]⟩, ⟨[.op 1 0], _, [], [0, 1], [10]⟩]) (F := [.old 0, .old 1, .old 2, .old 3, .old 4, .old 5, .op 2 0]) hst hb Za
     (o_p rfl (Zg Zf9 rfl rfl u_0) <| o_p rfl (Zs Zu5 (Zlf _ h6) rfl rfl (.cons u_0 .nil)) <| o_p rfl (Zb rfl rfl u_0) <| o_n) (by kernel_rfl) (fun a g hst hb => ?_)
   refine r_s (T := [⟨[.old 6], _, [], [], [23]⟩, ⟨[.op 0 0], _, [], [0], [24]⟩]) (F := [.old 0, .old 1, .old 2, .old 3, .old 4, .old 5, .old 6, .op 1 0]) hst hb Za
     (o_p rfl (Zc rfl rfl u_0) <| o_p rfl (Zcv rfl rfl u_0 c_i) <| o_n) (by kernel_rfl) (fun a g hst hb => ?_)
   refine wp_cond_split (hst.bool 7 rfl) (fun hc7 => ?_) (fun hc7 => ?_)
   · replace H0 := Zp hc7 H0
     obtain ⟨r8, h9, H0⟩ := Zh H0
     refine r_s (L := [(3, _), (4, _), (6, _), (8, _), (9, _), (10, _)]) (T := [⟨[.old 4], _, [], [], [25]⟩, ⟨[.old 5], _, [], [], [26]⟩, ⟨[.op 0 0, .op 1 0, .old 0], [(27, (pTup [(Zf.pd r8.1), (Z5 r8.2.1), (Z0.pd r8.2.2.1)])), (3, (pBox Zf 3 r8.2.2.2))], [4], [0, 1], [3, 9, 25, 27]⟩, ⟨[.op 2 0], _, [], [0, 1, 2], [28]⟩, ⟨[.op 2 0], _, [], [0, 1, 2], [29]⟩, ⟨[.op 2 0], _, [], [0, 1, 2], [30]⟩, ⟨[.op 3 0, .old 2], _, [7], Lr 6, [6]⟩, ⟨[.op 4 0], _, [], Lr 7, [7]⟩, ⟨[.op 5 0, .old 3], _, [9], Lr 8, [8]⟩]) (F := [.op 2 1, .old 1, .op 6 0, .op 7 0, .op 8 0]) (hst.pick [0, 1, 3, 4, 5, 6] rfl) hb Za
       (o_p rfl (Zc rfl rfl u_0) <| o_p rfl (Zc rfl rfl u_0) <| o_p rfl (Zhz (Ps := [.val (pInt .i64 r5)]) (hs := []) (ks := [(3, none, 3)]) Zm0 (Zfl _ _ _ h9) rfl rfl rfl u_0 (.val u_1 .nil) (.box u_2 rfl (.val .nil)) rfl rfl rfl rfl) <| o_p rfl (Z9 rfl rfl u_0 rfl) <| o_p rfl (Z9 rfl rfl u_0 rfl) <| o_p rfl (Z9 rfl rfl u_0 rfl) <| o_p rfl (Z6 Z4 rfl rfl u_1 u_0) <| o_p rfl (Zb rfl rfl u_0) <| o_p rfl (Z6 Zdl rfl rfl u_1 u_0) <| o_n) (by kernel_rfl) (fun a g hst hb => ?_)
     refine wp_ret ?_
     refine Zk ?_
     obtain rfl := Option.some.inj H0
     obtain ⟨u0, hu0, hq0⟩ := Zba (P := Tryd.prog) Z4 (hst.at 2 rfl)
     obtain ⟨u2, hu2, hq2⟩ := Zba (P := Tryd.prog) Zdl (hst.at 4 rfl)
     exact Zhw rfl hst hb hu0 (Zi (s := 7)) hu2 (Zgd hq0 (hst.at 3 rfl) hq2)
   · replace H0 := Zr hc7 H0
     refine wp_skip ?_
     refine Zn ?_
     refine wp_seq ?_
     refine r_s (L := [(3, _), (4, _), (5, _), (6, _), (8, _), (9, _)]) (T := [⟨[.old 1], _, [], [], [31]⟩]) (F := [.old 0, .old 1, .old 2, .old 3, .old 4, .old 5, .op 0 0]) (hst.pick [0, 1, 2, 3, 4, 5] rfl) hb Za
       (o_p rfl (Zg ty_4 rfl rfl u_0) <| o_n) (by kernel_rfl) (fun a g hst hb => ?_)
     refine Zcf (fun a w => ∃ (g : G), w = g.w ∧ St 123 [(3, (pBox Zf 3 r3)), (4, (Kd.bool.ptr a1)), (5, (Z1.ptr a2)), (6, (pBox Zf 6 (default : Zd))), (8, (pBox Z0 8 (default : Zq))), (9, (Zo3 67 [(pBox Zf 3 r3), (Kd.bool.ptr a1)]))] a g ∧ Base g0 g ∧ Zhd a1 a2 r3 = some r) ?_ ?_
     · rintro a w ⟨g, rfl, hst, hb, H0⟩
       unfold Zhd at H0
       refine Zn ?_
       refine wp_seq ?_
       refine wp_block ?_
       refine r_s (T := [⟨[.old 2], _, [], [], [43]⟩, ⟨[.op 0 0], _, [], [0], [44]⟩, ⟨[.op 1 0], _, [], [0, 1], [45]⟩, ⟨[.op 2 0], _, [], [0, 1, 2], [46]⟩, ⟨[.op 3 0, .old 1], _, [], Lr 4, [47]⟩, ⟨[.op 3 0, .op 4 0], _, [], Lr 5, [48]⟩, ⟨[.op 5 0], _, [], Lr 6, [42]⟩]) (F := [.old 0, .old 1, .old 2, .old 3, .old 4, .old 5, .op 6 0]) hst hb Za
         (o_p rfl (Ze Zdm rfl rfl u_0) <| o_p rfl (Zg ty_3 rfl rfl u_0) <| o_p rfl (Z8 rfl rfl u_0 c_i) <| o_p rfl (Zc rfl rfl u_0) <| o_g (g_t rfl rfl rfl (fun hG => Zg ty_4 rfl rfl u_0)) <| o_p rfl (Zbb rfl rfl u_0 (fun hz => (Opd.gd hz u_1))) <| o_p rfl (Zb rfl rfl u_0) <| o_n) (by kernel_rfl) (fun a g hst hb => ?_)
       refine wp_cond_split (hst.bool 6 rfl) (fun hc16 => ?_) (fun hc16 => ?_)
       · replace H0 := Zp hc16 H0
         obtain ⟨r17, h18, H0⟩ := Zh H0
         refine r_s (L := [(3, _), (4, _), (6, _), (8, _), (9, _)]) (T := [⟨[.old 4], _, [], [], [49]⟩, ⟨[.op 0 0, .old 0], [(50, (pTup [(Zf.pd r17.1), (Z5 r17.2.1), (Z0.pd r17.2.2.1)])), (3, (pBox Zf 3 r17.2.2.2))], [4], [0], [3, 9, 49, 50]⟩, ⟨[.op 1 0], _, [], [0, 1], [51]⟩, ⟨[.op 1 0], _, [], [0, 1], [52]⟩, ⟨[.op 1 0], _, [], [0, 1], [53]⟩, ⟨[.op 2 0, .old 2], _, [7], Lr 5, [6]⟩, ⟨[.op 3 0], _, [], Lr 6, [7]⟩, ⟨[.op 4 0, .old 3], _, [9], Lr 7, [8]⟩]) (F := [.op 1 1, .old 1, .op 5 0, .op 6 0, .op 7 0]) (hst.pick [0, 1, 3, 4, 5] rfl) hb Za
           (o_p rfl (Zc rfl rfl u_0) <| o_p rfl (Zhz (Ps := [.val (pInt .i64 (7 : Int))]) (hs := []) (ks := [(3, none, 3)]) Zm0 (Zfl _ _ _ h18) rfl rfl rfl u_0 (.val c_i .nil) (.box u_1 rfl (.val .nil)) rfl rfl rfl rfl) <| o_p rfl (Z9 rfl rfl u_0 rfl) <| o_p rfl (Z9 rfl rfl u_0 rfl) <| o_p rfl (Z9 rfl rfl u_0 rfl) <| o_p rfl (Z6 Z4 rfl rfl u_1 u_0) <| o_p rfl (Zb rfl rfl u_0) <| o_p rfl (Z6 Zdl rfl rfl u_1 u_0) <| o_n) (by kernel_rfl) (fun a g hst hb => ?_)
         refine wp_ret ?_
         refine Zt ?_
         refine Zk ?_
         obtain rfl := Option.some.inj H0
         obtain ⟨u0, hu0, hq0⟩ := Zba (P := Tryd.prog) Z4 (hst.at 2 rfl)
         obtain ⟨u2, hu2, hq2⟩ := Zba (P := Tryd.prog) Zdl (hst.at 4 rfl)
         exact Zhw rfl hst hb hu0 (Zi (s := 7)) hu2 (Zgd hq0 (hst.at 3 rfl) hq2)
       · replace H0 := Zr hc16 H0
         refine r_s (L := [(3, _), (4, _), (5, _), (6, _), (8, _), (9, _)]) (T := [⟨[.old 2], _, [], [], [55]⟩, ⟨[.op 0 0], _, [], [0], [56]⟩, ⟨[.op 1 0], _, [], [0, 1], [57]⟩, ⟨[.op 2 0], _, [], [0, 1, 2], [54]⟩]) (F := [.old 0, .old 1, .old 2, .old 3, .old 4, .old 5, .op 3 0]) (hst.pick [0, 1, 2, 3, 4, 5] rfl) hb Za
           (o_p rfl (Ze Zdm rfl rfl u_0) <| o_p rfl (Zg ty_3 rfl rfl u_0) <| o_p rfl (Z8 rfl rfl u_0 c_i) <| o_p rfl (Zb rfl rfl u_0) <| o_n) (by kernel_rfl) (fun a g hst hb => ?_)
         refine wp_cond_split (hst.bool 6 rfl) (fun hc19 => ?_) (fun hc19 => ?_)
         · replace H0 := Zp hc19 H0
           obtain ⟨r20, h21, H0⟩ := Zh H0
           refine r_s (L := [(3, _), (4, _), (5, _), (6, _), (8, _)]) (T := [⟨[.old 2], _, [], [], [58]⟩, ⟨[.op 0 0], _, [], [0], [59]⟩, ⟨[.op 1 0], _, [], [0, 1], [60]⟩, ⟨[], _, [], [], [61]⟩, ⟨[.op 2 0, .old 3], _, [7], [0, 1, 2], [6]⟩, ⟨[], _, [], [0, 1, 2, 4], [7]⟩, ⟨[.op 3 0, .old 4], _, [9], Lr 6, [8]⟩]) (F := [.old 0, .old 1, .op 4 0, .op 5 0, .op 6 0]) (hst.pick [0, 1, 2, 3, 4] rfl) hb Za
             (o_p rfl (Ze Zl2 rfl rfl u_0) <| o_p rfl (Zg Z4 rfl rfl u_0) <| o_p rfl (Zs Zks (Ze6 _ h21) rfl rfl (.cons u_0 .nil)) <| o_p rfl (Zsm rfl rfl ) <| o_p rfl (Z6 Z4 rfl rfl u_1 u_0) <| o_p rfl (Zb rfl rfl c_b) <| o_p rfl (Z6 Zdl rfl rfl u_1 u_0) <| o_n) (by kernel_rfl) (fun a g hst hb => ?_)
           refine wp_ret ?_
           refine Zt ?_
           refine Zk ?_
           obtain rfl := Option.some.inj H0
           obtain ⟨u0, hu0, hq0⟩ := Zba (P := Tryd.prog) Z4 (hst.at 2 rfl)
           obtain ⟨u2, hu2, hq2⟩ := Zba (P := Tryd.prog) Zdl (hst.at 4 rfl)
           exact Zhw rfl hst hb hu0 (Zi (s := 7)) hu2 (Zgd hq0 (hst.at 3 rfl) hq2)
         · replace H0 := Zr hc19 H0
           refine r_s (L := [(3, _), (4, _), (5, _), (6, _), (8, _), (9, _)]) (T := [⟨[.old 2], _, [], [], [63]⟩, ⟨[.op 0 0], _, [], [0], [64]⟩, ⟨[.op 1 0], _, [], [0, 1], [65]⟩, ⟨[.op 2 0], _, [], [0, 1, 2], [62]⟩]) (F := [.old 0, .old 1, .old 2, .old 3, .old 4, .old 5, .op 3 0]) (hst.pick [0, 1, 2, 3, 4, 5] rfl) hb Za
             (o_p rfl (Ze Zdm rfl rfl u_0) <| o_p rfl (Zg ty_3 rfl rfl u_0) <| o_p rfl (Z8 rfl rfl u_0 c_i) <| o_p rfl (Zb rfl rfl u_0) <| o_n) (by kernel_rfl) (fun a g hst hb => ?_)
           refine wp_cond_split (hst.bool 6 rfl) (fun hc22 => ?_) (fun hc22 => ?_)
           · replace H0 := Zp hc22 H0
             refine r_s (L := [(3, _), (4, _), (6, _), (8, _)]) (T := [⟨[.old 0], _, [], [], [66]⟩, ⟨[.old 1], _, [], [], [67]⟩, ⟨[.old 0], _, [], [], [68]⟩, ⟨[.op 2 0], _, [], [2], [69]⟩, ⟨[.op 3 0], _, [], [2, 3], [70]⟩, ⟨[.op 0 0, .old 2], _, [7], [0], [6]⟩, ⟨[.op 1 0], _, [], [0, 1, 5], [7]⟩, ⟨[.op 4 0, .old 3], _, [9], Lr 7, [8]⟩]) (F := [.old 0, .old 1, .op 5 0, .op 6 0, .op 7 0]) (hst.pick [0, 1, 3, 4] rfl) hb Za
               (o_p rfl (Zdd Z4 rfl rfl u_0) <| o_p rfl (Zg ty_4 rfl rfl u_0) <| o_p rfl (Zo Zcn (off := 0) (by kernel_rfl) rfl rfl u_0) <| o_p rfl (Zbi ty_3 rfl rfl u_0) <| o_p rfl (Zvl rfl rfl u_0) <| o_p rfl (Z6 Z4 rfl rfl u_1 u_0) <| o_p rfl (Zb rfl rfl u_0) <| o_p rfl (Z6 Zdl rfl rfl u_1 u_0) <| o_n) (by kernel_rfl) (fun a g hst hb => ?_)
             refine wp_ret ?_
             refine Zt ?_
             refine Zk ?_
             obtain rfl := Option.some.inj H0
             obtain ⟨u0, hu0, hq0⟩ := Zba (P := Tryd.prog) Z4 (hst.at 2 rfl)
             obtain ⟨u2, hu2, hq2⟩ := Zba (P := Tryd.prog) Zdl (hst.at 4 rfl)
             exact Zhw rfl hst hb hu0 (Zi (s := 7)) hu2 (Zgd hq0 (hst.at 3 rfl) hq2)
           · replace H0 := Zr hc22 H0
             refine r_s (L := [(3, _), (4, _), (5, _), (6, _), (8, _), (9, _)]) (T := [⟨[.old 1], _, [], [], [72]⟩, ⟨[.op 0 0], _, [], [0], [73]⟩, ⟨[.op 1 0], _, [], [0, 1], [71]⟩]) (F := [.old 0, .old 1, .old 2, .old 3, .old 4, .old 5, .op 2 0]) (hst.pick [0, 1, 2, 3, 4, 5] rfl) hb Za
               (o_p rfl (Zg ty_4 rfl rfl u_0) <| o_p rfl (Zb7 rfl rfl u_0) <| o_p rfl (Zb rfl rfl u_0) <| o_n) (by kernel_rfl) (fun a g hst hb => ?_)
             refine wp_cond_split (hst.bool 6 rfl) (fun hc23 => ?_) (fun hc23 => ?_)
             · replace H0 := Zp hc23 H0
               obtain ⟨r24, h25, H0⟩ := Zh H0
               refine r_s (L := [(3, _), (4, _), (6, _), (8, _), (9, _)]) (T := [⟨[.old 4], _, [], [], [74]⟩, ⟨[.op 0 0, .old 0], [(75, (pTup [(Zf.pd r24.1), (Z5 r24.2.1), (Z0.pd r24.2.2.1)])), (3, (pBox Zf 3 r24.2.2.2))], [4], [0], [3, 9, 74, 75]⟩, ⟨[.op 1 0], _, [], [0, 1], [76]⟩, ⟨[.op 1 0], _, [], [0, 1], [77]⟩, ⟨[.op 1 0], _, [], [0, 1], [78]⟩, ⟨[.op 2 0, .old 2], _, [7], Lr 5, [6]⟩, ⟨[.op 3 0], _, [], Lr 6, [7]⟩, ⟨[.op 4 0, .old 3], _, [9], Lr 7, [8]⟩]) (F := [.op 1 1, .old 1, .op 5 0, .op 6 0, .op 7 0]) (hst.pick [0, 1, 3, 4, 5] rfl) hb Za
                 (o_p rfl (Zc rfl rfl u_0) <| o_p rfl (Zhz (Ps := [.val (pInt .i64 (6 : Int))]) (hs := []) (ks := [(3, none, 3)]) Zm0 (Zfl _ _ _ h25) rfl rfl rfl u_0 (.val c_i .nil) (.box u_1 rfl (.val .nil)) rfl rfl rfl rfl) <| o_p rfl (Z9 rfl rfl u_0 rfl) <| o_p rfl (Z9 rfl rfl u_0 rfl) <| o_p rfl (Z9 rfl rfl u_0 rfl) <| o_p rfl (Z6 Z4 rfl rfl u_1 u_0) <| o_p rfl (Zb rfl rfl u_0) <| o_p rfl (Z6 Zdl rfl rfl u_1 u_0) <| o_n) (by kernel_rfl) (fun a g hst hb => ?_)
               refine wp_ret ?_
               refine Zt ?_
               refine Zk ?_
               obtain rfl := Option.some.inj H0
               obtain ⟨u0, hu0, hq0⟩ := Zba (P := Tryd.prog) Z4 (hst.at 2 rfl)
               obtain ⟨u2, hu2, hq2⟩ := Zba (P := Tryd.prog) Zdl (hst.at 4 rfl)
               exact Zhw rfl hst hb hu0 (Zi (s := 7)) hu2 (Zgd hq0 (hst.at 3 rfl) hq2)
             · replace H0 := Zr hc23 H0
               refine r_s (L := [(3, _), (4, _), (5, _), (6, _), (8, _), (9, _)]) (T := [⟨[.old 2], _, [], [], [80]⟩, ⟨[.op 0 0], _, [], [0], [81]⟩, ⟨[.op 1 0], _, [], [0, 1], [82]⟩, ⟨[.op 2 0], _, [], [0, 1, 2], [79]⟩]) (F := [.old 0, .old 1, .old 2, .old 3, .old 4, .old 5, .op 3 0]) (hst.pick [0, 1, 2, 3, 4, 5] rfl) hb Za
                 (o_p rfl (Ze Zdm rfl rfl u_0) <| o_p rfl (Zg ty_3 rfl rfl u_0) <| o_p rfl (Z8 rfl rfl u_0 c_i) <| o_p rfl (Zb rfl rfl u_0) <| o_n) (by kernel_rfl) (fun a g hst hb => ?_)
               refine wp_cond_split (hst.bool 6 rfl) (fun hc26 => ?_) (fun hc26 => ?_)
               · replace H0 := Zp hc26 H0
                 refine r_s (L := [(3, _), (4, _), (6, _), (8, _)]) (T := [⟨[], _, [], [], [83]⟩, ⟨[], _, [], [], [84]⟩, ⟨[.op 0 0, .old 2], _, [7], [0], [6]⟩, ⟨[], _, [], [0, 2], [7]⟩, ⟨[.op 1 0, .old 3], _, [9], Lr 4, [8]⟩]) (F := [.old 0, .old 1, .op 2 0, .op 3 0, .op 4 0]) (hst.pick [0, 1, 3, 4] rfl) hb Za
                   (o_p rfl (Zka rfl rfl ) <| o_p rfl (Zsm rfl rfl ) <| o_p rfl (Z6 Z4 rfl rfl u_1 u_0) <| o_p rfl (Zb rfl rfl c_b) <| o_p rfl (Z6 Zdl rfl rfl u_1 u_0) <| o_n) (by kernel_rfl) (fun a g hst hb => ?_)
                 refine wp_ret ?_
                 refine Zt ?_
                 refine Zk ?_
                 obtain rfl := Option.some.inj H0
                 obtain ⟨u0, hu0, hq0⟩ := Zba (P := Tryd.prog) Z4 (hst.at 2 rfl)
                 obtain ⟨u2, hu2, hq2⟩ := Zba (P := Tryd.prog) Zdl (hst.at 4 rfl)
                 exact Zhw rfl hst hb hu0 (Zi (s := 7)) hu2 (Zgd hq0 (hst.at 3 rfl) hq2)
               · replace H0 := Zr hc26 H0
                 refine r_s (L := [(3, _), (4, _), (5, _), (6, _), (8, _), (9, _)]) (T := [⟨[.old 2], _, [], [], [86]⟩, ⟨[.op 0 0], _, [], [0], [87]⟩, ⟨[.op 1 0], _, [], [0, 1], [88]⟩, ⟨[.op 2 0], _, [], [0, 1, 2], [85]⟩]) (F := [.old 0, .old 1, .old 2, .old 3, .old 4, .old 5, .op 3 0]) (hst.pick [0, 1, 2, 3, 4, 5] rfl) hb Za
                   (o_p rfl (Ze Zdm rfl rfl u_0) <| o_p rfl (Zg ty_3 rfl rfl u_0) <| o_p rfl (Z8 rfl rfl u_0 c_i) <| o_p rfl (Zb rfl rfl u_0) <| o_n) (by kernel_rfl) (fun a g hst hb => ?_)
                 refine wp_cond_split (hst.bool 6 rfl) (fun hc27 => ?_) (fun hc27 => ?_)
                 · replace H0 := Zp hc27 H0
                   obtain ⟨r28, h29, H0⟩ := Zh H0
                   refine r_s (L := [(3, _), (4, _), (6, _), (8, _)]) (T := [⟨[.old 0], _, [], [], [89]⟩, ⟨[.old 1], _, [], [], [90]⟩, ⟨[.old 0], _, [], [], [91]⟩, ⟨[.op 2 0], _, [], [2], [92]⟩, ⟨[.op 3 0], _, [], [2, 3], [93]⟩, ⟨[.op 0 0, .old 2], _, [7], [0, 2, 3], [6]⟩, ⟨[.op 1 0], _, [], [0, 1, 2, 3, 5], [7]⟩, ⟨[.op 4 0, .old 3], _, [9], Lr 7, [8]⟩]) (F := [.old 0, .old 1, .op 5 0, .op 6 0, .op 7 0]) (hst.pick [0, 1, 3, 4] rfl) hb Za
                     (o_p rfl (Zdd Z4 rfl rfl u_0) <| o_p rfl (Zg ty_4 rfl rfl u_0) <| o_p rfl (Zdd Z4 rfl rfl u_0) <| o_p rfl (Zs Zks (Ze6 _ h29) rfl rfl (.cons u_0 .nil)) <| o_p rfl (Zwj rfl rfl u_0) <| o_p rfl (Z6 Z4 rfl rfl u_1 u_0) <| o_p rfl (Zb rfl rfl u_0) <| o_p rfl (Z6 Zdl rfl rfl u_1 u_0) <| o_n) (by kernel_rfl) (fun a g hst hb => ?_)
                   refine wp_ret ?_
                   refine Zt ?_
                   refine Zk ?_
                   obtain rfl := Option.some.inj H0
                   obtain ⟨u0, hu0, hq0⟩ := Zba (P := Tryd.prog) Z4 (hst.at 2 rfl)
                   obtain ⟨u2, hu2, hq2⟩ := Zba (P := Tryd.prog) Zdl (hst.at 4 rfl)
                   exact Zhw rfl hst hb hu0 (Zi (s := 7)) hu2 (Zgd hq0 (hst.at 3 rfl) hq2)
                 · replace H0 := Zr hc27 H0
                   obtain ⟨r30, h31, H0⟩ := Zh H0
                   refine r_s (L := [(3, _), (4, _), (5, _), (6, _), (8, _), (9, _)]) (T := [⟨[.old 2], _, [], [], [95]⟩, ⟨[.op 0 0], _, [], [0], [96]⟩, ⟨[.op 1 0], _, [], [0, 1], [97]⟩, ⟨[.old 0], _, [], [], [98]⟩, ⟨[.op 3 0], _, [], [3], [99]⟩, ⟨[.op 2 0, .op 4 0], _, [], Lr 5, [100]⟩, ⟨[.op 5 0], _, [], Lr 6, [94]⟩]) (F := [.old 0, .old 1, .old 2, .old 3, .old 4, .old 5, .op 6 0]) (hst.pick [0, 1, 2, 3, 4, 5] rfl) hb Za
                     (o_p rfl (Ze Zdm rfl rfl u_0) <| o_p rfl (Zg ty_3 rfl rfl u_0) <| o_p rfl (Zs Zum (Zoo _ h31) rfl rfl (.cons u_0 .nil)) <| o_p rfl (Zo Zcn (off := 0) (by kernel_rfl) rfl rfl u_0) <| o_p rfl (Zbi ty_3 rfl rfl u_0) <| o_p rfl (Zcv rfl rfl u_0 u_1) <| o_p rfl (Zb rfl rfl u_0) <| o_n) (by kernel_rfl) (fun a g hst hb => ?_)
                   refine wp_cond_split (hst.bool 6 rfl) (fun hc32 => ?_) (fun hc32 => ?_)
                   · replace H0 := Zp hc32 H0
                     obtain ⟨r33, h34, H0⟩ := Zh H0
                     refine r_s (L := [(3, _), (4, _), (6, _), (8, _), (9, _)]) (T := [⟨[.old 4], _, [], [], [101]⟩, ⟨[.op 0 0, .old 0], [(102, (pTup [(Zf.pd r33.1), (Z5 r33.2.1), (Z0.pd r33.2.2.1)])), (3, (pBox Zf 3 r33.2.2.2))], [4], [0], [3, 9, 101, 102]⟩, ⟨[.op 1 0], _, [], [0, 1], [103]⟩, ⟨[.op 1 0], _, [], [0, 1], [104]⟩, ⟨[.op 1 0], _, [], [0, 1], [105]⟩, ⟨[.op 2 0, .old 2], _, [7], Lr 5, [6]⟩, ⟨[.op 3 0], _, [], Lr 6, [7]⟩, ⟨[.op 4 0, .old 3], _, [9], Lr 7, [8]⟩]) (F := [.op 1 1, .old 1, .op 5 0, .op 6 0, .op 7 0]) (hst.pick [0, 1, 3, 4, 5] rfl) hb Za
                       (o_p rfl (Zc rfl rfl u_0) <| o_p rfl (Zhz (Ps := [.val (pInt .i64 (5 : Int))]) (hs := []) (ks := [(3, none, 3)]) Zm0 (Zfl _ _ _ h34) rfl rfl rfl u_0 (.val c_i .nil) (.box u_1 rfl (.val .nil)) rfl rfl rfl rfl) <| o_p rfl (Z9 rfl rfl u_0 rfl) <| o_p rfl (Z9 rfl rfl u_0 rfl) <| o_p rfl (Z9 rfl rfl u_0 rfl) <| o_p rfl (Z6 Z4 rfl rfl u_1 u_0) <| o_p rfl (Zb rfl rfl u_0) <| o_p rfl (Z6 Zdl rfl rfl u_1 u_0) <| o_n) (by kernel_rfl) (fun a g hst hb => ?_)
                     refine wp_ret ?_
                     refine Zt ?_
                     refine Zk ?_
                     obtain rfl := Option.some.inj H0
                     obtain ⟨u0, hu0, hq0⟩ := Zba (P := Tryd.prog) Z4 (hst.at 2 rfl)
                     obtain ⟨u2, hu2, hq2⟩ := Zba (P := Tryd.prog) Zdl (hst.at 4 rfl)
                     exact Zhw rfl hst hb hu0 (Zi (s := 7)) hu2 (Zgd hq0 (hst.at 3 rfl) hq2)
                   · replace H0 := Zr hc32 H0
                     refine wp_skip ?_
                     refine Zbe ?_
                     refine Zn ?_
                     obtain ⟨r35, h36, H0⟩ := Zh H0
                     refine r_s (L := [(3, _), (4, _), (5, _), (6, _), (8, _)]) (T := [⟨[.old 0], _, [], [], [106]⟩, ⟨[.op 0 0], _, [], [0], [107]⟩, ⟨[], [(12, (pBox Zf 12 (default : Zd)))], [13], [], [12]⟩, ⟨[.op 1 0, .op 2 0], _, [13], [0, 1, 2], [12]⟩]) (F := [.old 0, .old 1, .old 2, .old 3, .old 4, .op 3 0]) (hst.pick [0, 1, 2, 3, 4] rfl) hb Za
                       (o_p rfl (Zdd Z4 rfl rfl u_0) <| o_p rfl (Zs Zks (Ze6 _ h36) rfl rfl (.cons u_0 .nil)) <| o_p rfl (Zbj (zs := [.int .i64 0, .int .i64 0, .int .i64 0, .int .i64 0, .float .f64 0, .int .i64 0, .string ByteArray.empty, .slice none 0 0]) (by kernel_rfl) (fun g => Zbr g) rfl rfl) <| o_p rfl (Zb4 Z4 rfl rfl u_1 u_0) <| o_n) (by kernel_rfl) (fun a g hst hb => ?_)
                     refine r_s (T := [⟨[], [(13, (pBox Z0 13 (default : Zq)))], [14], [], [13]⟩]) (F := [.old 0, .old 1, .old 2, .old 3, .old 4, .old 5, .op 0 0]) hst hb Za
                       (o_p rfl (Zbj (zs := [.int .i64 0, .int .i64 0, .int .i64 0, .int .i64 0, .int .i64 0, .int .i64 0, .float .f64 0, .int .i64 0, .string ByteArray.empty, .slice none 0 0]) (by kernel_rfl) (fun g => Zhb g) rfl rfl) <| o_n) (by kernel_rfl) (fun a g hst hb => ?_)
                     refine wp_seq ?_
                     obtain ⟨h37, H0⟩ := Zh4 H0; obtain ⟨r38, h39, H0⟩ := Zh H0
                     refine r_s (T := [⟨[], _, [], [], [108]⟩, ⟨[.old 2], _, [], [], [109]⟩, ⟨[.op 1 0], _, [], [1], [110]⟩, ⟨[.op 0 0, .op 2 0], [(111, (pFun Tryd.prog (Phi a2.Kind)))], [], [0, 1, 2], [111]⟩, ⟨[.old 2], _, [], [], [112]⟩, ⟨[.op 3 0, .old 0, .op 4 0, .old 6], [(113, (pInt .i64 r38.1)), (3, (pBox Zf 3 r38.2.1)), (13, (pBox Z0 13 r38.2.2))], [4, 14], Lr 5, [3, 13, 113]⟩, ⟨[.op 5 0], _, [], Lr 6, [14]⟩]) (F := [.op 5 1, .old 1, .old 3, .old 4, .old 5, .op 5 2, .op 6 0]) hst hb Za
                       (o_p rfl (Zs Zzl Znb rfl rfl .nil) <| o_p rfl (Ze Zdm rfl rfl u_0) <| o_p rfl (Zg ty_3 rfl rfl u_0) <| o_p rfl (Zqt Tryd.underlying116 (by kernel_rfl) ⟨_, Tryd.underlying115, rfl⟩ (by have := h37; omega) (Zx3 h37) (by have := h37; omega) rfl rfl u_0 u_1) <| o_p rfl (Zg Zf9 rfl rfl u_0) <| o_p rfl (Zr7 (hs := [(3, none, 3), (13, none, 13)]) (Zwl h39) rfl rfl rfl u_0 (.box u_1 u_1 rfl (.val u_2 (.box u_3 u_3 rfl .nil))) rfl rfl rfl) <| o_p rfl (Zb rfl rfl u_0) <| o_n) (by kernel_rfl) (fun a g hst hb => ?_)
                     refine r_s (T := [⟨[.old 6], _, [], [], [114]⟩, ⟨[.op 0 0], _, [], [0], [115]⟩]) (F := [.old 0, .old 1, .old 2, .old 3, .old 4, .old 5, .old 6, .op 1 0]) hst hb Za
                       (o_p rfl (Zc rfl rfl u_0) <| o_p rfl (Zcv rfl rfl u_0 c_i) <| o_n) (by kernel_rfl) (fun a g hst hb => ?_)
                     refine wp_cond_split (hst.bool 7 rfl) (fun hc40 => ?_) (fun hc40 => ?_)
                     · replace H0 := Zp hc40 H0
                       refine r_s (L := [(3, _), (4, _), (6, _), (8, _), (12, _), (14, _)]) (T := [⟨[.old 4], _, [], [], [116]⟩, ⟨[.old 1], _, [], [], [117]⟩, ⟨[.old 5], _, [], [], [118]⟩, ⟨[.op 2 0], _, [], [2], [119]⟩, ⟨[.op 0 0, .old 2], _, [7], [0], [6]⟩, ⟨[.op 1 0], _, [], [0, 1, 4], [7]⟩, ⟨[.op 3 0, .old 3], _, [9], Lr 6, [8]⟩]) (F := [.old 0, .old 1, .op 4 0, .op 5 0, .op 6 0]) (hst.pick [0, 1, 2, 3, 4, 6] rfl) hb Za
                         (o_p rfl (Zg Z4 rfl rfl u_0) <| o_p rfl (Zg ty_4 rfl rfl u_0) <| o_p rfl (Zc rfl rfl u_0) <| o_p rfl (Zq7 rfl rfl u_0) <| o_p rfl (Z6 Z4 rfl rfl u_1 u_0) <| o_p rfl (Zb rfl rfl u_0) <| o_p rfl (Z6 Zdl rfl rfl u_1 u_0) <| o_n) (by kernel_rfl) (fun a g hst hb => ?_)
                       refine wp_ret ?_
                       refine Zk ?_
                       obtain rfl := Option.some.inj H0
                       obtain ⟨u0, hu0, hq0⟩ := Zba (P := Tryd.prog) Z4 (hst.at 2 rfl)
                       obtain ⟨u2, hu2, hq2⟩ := Zba (P := Tryd.prog) Zdl (hst.at 4 rfl)
                       exact Zhw rfl hst hb hu0 (Zi (s := 7)) hu2 (Zgd hq0 (hst.at 3 rfl) hq2)
                     · replace H0 := Zr hc40 H0
                       refine wp_skip ?_
                       refine Zn ?_
                       refine r_s (L := [(3, _), (4, _), (6, _), (8, _), (13, _)]) (T := [⟨[.old 0], _, [], [], [120]⟩, ⟨[.old 1], _, [], [], [121]⟩, ⟨[.old 4], _, [], [], [122]⟩, ⟨[.op 0 0, .old 2], _, [7], [0], [6]⟩, ⟨[.op 1 0], _, [], [0, 1, 3], [7]⟩, ⟨[.op 2 0, .old 3], _, [9], Lr 5, [8]⟩]) (F := [.old 0, .old 1, .op 3 0, .op 4 0, .op 5 0]) (hst.pick [0, 1, 2, 3, 5] rfl) hb Za
                         (o_p rfl (Zdd Z4 rfl rfl u_0) <| o_p rfl (Zg ty_4 rfl rfl u_0) <| o_p rfl (Zdd Zdl rfl rfl u_0) <| o_p rfl (Z6 Z4 rfl rfl u_1 u_0) <| o_p rfl (Zb rfl rfl u_0) <| o_p rfl (Z6 Zdl rfl rfl u_1 u_0) <| o_n) (by kernel_rfl) (fun a g hst hb => ?_)
                       refine wp_ret ?_
                       obtain rfl := Option.some.inj H0
                       obtain ⟨u0, hu0, hq0⟩ := Zba (P := Tryd.prog) Z4 (hst.at 2 rfl)
                       obtain ⟨u2, hu2, hq2⟩ := Zba (P := Tryd.prog) Zdl (hst.at 4 rfl)
                       exact Zhw rfl hst hb hu0 (Zi (s := 7)) hu2 (Zgd hq0 (hst.at 3 rfl) hq2)
     · refine wp_cond_split (hst.bool 6 rfl) (fun hc10 => ?_) (fun hc10 => ?_)
       · replace H0 := Zp hc10 H0
         obtain ⟨r11, h12, H0⟩ := Zh H0
         refine r_s (L := [(3, _), (4, _), (5, _), (6, _), (8, _), (9, _)]) (T := [⟨[.old 0], _, [], [], [32]⟩, ⟨[.op 0 0], _, [], [0], [33]⟩, ⟨[.op 1 0], _, [], [0, 1], [11]⟩]) (F := [.old 0, .old 1, .old 2, .old 3, .old 4, .old 5, .op 2 0]) (hst.pick [0, 1, 2, 3, 4, 5] rfl) hb Za
           (o_p rfl (Zdd Z4 rfl rfl u_0) <| o_p rfl (Zs Zo2 (Zh2 _ h12) rfl rfl (.cons u_0 .nil)) <| o_p rfl (Zb rfl rfl u_0) <| o_n) (by kernel_rfl) (fun a g hst hb => ?_)
         refine r_s (T := [⟨[.old 6], _, [], [], [34]⟩, ⟨[.op 0 0], _, [], [0], [35]⟩]) (F := [.old 0, .old 1, .old 2, .old 3, .old 4, .old 5, .old 6, .op 1 0]) hst hb Za
           (o_p rfl (Zc rfl rfl u_0) <| o_p rfl (Zcv rfl rfl u_0 c_i) <| o_n) (by kernel_rfl) (fun a g hst hb => ?_)
         refine wp_cond_split (hst.bool 7 rfl) (fun hc13 => ?_) (fun hc13 => ?_)
         · replace H0 := Zp hc13 H0
           obtain ⟨r14, h15, H0⟩ := Zh H0
           refine r_s (L := [(3, _), (4, _), (6, _), (8, _), (9, _), (11, _)]) (T := [⟨[.old 4], _, [], [], [36]⟩, ⟨[.old 5], _, [], [], [37]⟩, ⟨[.op 0 0, .op 1 0, .old 0], [(38, (pTup [(Zf.pd r14.1), (Z5 r14.2.1), (Z0.pd r14.2.2.1)])), (3, (pBox Zf 3 r14.2.2.2))], [4], [0, 1], [3, 9, 36, 38]⟩, ⟨[.op 2 0], _, [], [0, 1, 2], [39]⟩, ⟨[.op 2 0], _, [], [0, 1, 2], [40]⟩, ⟨[.op 2 0], _, [], [0, 1, 2], [41]⟩, ⟨[.op 3 0, .old 2], _, [7], Lr 6, [6]⟩, ⟨[.op 4 0], _, [], Lr 7, [7]⟩, ⟨[.op 5 0, .old 3], _, [9], Lr 8, [8]⟩]) (F := [.op 2 1, .old 1, .op 6 0, .op 7 0, .op 8 0]) (hst.pick [0, 1, 3, 4, 5, 6] rfl) hb Za
             (o_p rfl (Zc rfl rfl u_0) <| o_p rfl (Zc rfl rfl u_0) <| o_p rfl (Zhz (Ps := [.val (pInt .i64 r11)]) (hs := []) (ks := [(3, none, 3)]) Zm0 (Zfl _ _ _ h15) rfl rfl rfl u_0 (.val u_1 .nil) (.box u_2 rfl (.val .nil)) rfl rfl rfl rfl) <| o_p rfl (Z9 rfl rfl u_0 rfl) <| o_p rfl (Z9 rfl rfl u_0 rfl) <| o_p rfl (Z9 rfl rfl u_0 rfl) <| o_p rfl (Z6 Z4 rfl rfl u_1 u_0) <| o_p rfl (Zb rfl rfl u_0) <| o_p rfl (Z6 Zdl rfl rfl u_1 u_0) <| o_n) (by kernel_rfl) (fun a g hst hb => ?_)
           refine wp_ret ?_
           refine Zk ?_
           refine Zk ?_
           obtain rfl := Option.some.inj H0
           obtain ⟨u0, hu0, hq0⟩ := Zba (P := Tryd.prog) Z4 (hst.at 2 rfl)
           obtain ⟨u2, hu2, hq2⟩ := Zba (P := Tryd.prog) Zdl (hst.at 4 rfl)
           exact Zhw rfl hst hb hu0 (Zi (s := 7)) hu2 (Zgd hq0 (hst.at 3 rfl) hq2)
         · replace H0 := Zr hc13 H0
           refine wp_skip ?_
           exact ⟨g, rfl, (hst.pick [0, 1, 2, 3, 4, 5] rfl), hb, H0⟩
       · replace H0 := Zr hc10 H0
         refine wp_skip ?_
         exact ⟨g, rfl, (hst.pick [0, 1, 2, 3, 4, 5] rfl), hb, H0⟩
 · refine wp_cond_split (hst.bool 5 rfl) (fun hc1 => ?_) (fun hc1 => ?_)
   · replace H0 := Zp hc1 H0
     refine r_g (L := [(3, _), (4, _), (5, _), (6, _), (8, _)]) (T := [⟨[], _, [], [], [17]⟩, ⟨[.op 0 0, .old 0], _, [4], [0], [3]⟩]) (F := [.op 1 0, .old 1, .old 2, .old 3, .old 4]) (hst.pick [0, 1, 2, 3, 4] rfl) hb Za
       (o_p rfl (Zka rfl rfl ) <| o_p rfl (Z6 Z4 rfl rfl u_1 u_0) <| o_n) (by kernel_rfl) (fun a g hst hb => ?_)
     exact ⟨({ Kind := (0 : Int), Num := (0 : Int), Low := (0 : Int), High := (0 : Int), Real := (0 : Nat), Cap := (0 : Int), Text := ByteArray.empty, List := ([] : List Zj) } : Zd), g, rfl, (hst.pick [0, 1, 2, 3, 4] rfl), hb, H0⟩
   · replace H0 := Zr hc1 H0
     refine wp_skip ?_
     exact ⟨a0, g, rfl, (hst.pick [0, 1, 2, 3, 4] rfl), hb, H0⟩
theorem Zj6 (a0 : Zd) (a1 : List Zd) {r : Zd} (h : Zg9 a0 a1 = some r) : FnOk Tryd.prog 15 [(Zf.pd a0), (Zf.sl.pd a1)] (Zf.pd r) := by
 have H0 := h
 unfold Zg9 at H0
 clear h
 refine Zbo (N := 76) Tryd.func15 rfl rfl (Nat.le_of_ble_eq_true rfl) rfl rfl (fun a g0 hst hb => ?_)
 refine r_s (T := [⟨[.old 0], _, [3], [], [2]⟩, ⟨[], [(4, (pBox Zf 4 (default : Zd)))], [5], [], [4]⟩]) (F := [.old 1, .op 0 0, .op 1 0]) hst hb Za
   (o_p rfl (Zj2 rfl rfl u_0) <| o_p rfl (Zbj (zs := [.int .i64 0, .int .i64 0, .int .i64 0, .int .i64 0, .float .f64 0, .int .i64 0, .string ByteArray.empty, .slice none 0 0]) (by kernel_rfl) (fun g => Zbr g) rfl rfl) <| o_n) (by kernel_rfl) (fun a g hst hb => ?_)
 obtain ⟨r1, h2, H0⟩ := Zh H0
 refine r_s (T := [⟨[.old 1], _, [], [], [10]⟩, ⟨[.op 0 0], _, [], [0], [11]⟩, ⟨[.op 1 0, .old 1], _, [3], [0, 1], [2]⟩]) (F := [.old 0, .op 2 0, .old 2]) hst hb Za
   (o_p rfl (Zdd Z4 rfl rfl u_0) <| o_p rfl (Zs Zks (Ze6 _ h2) rfl rfl (.cons u_0 .nil)) <| o_p rfl (Z6 Z4 rfl rfl u_1 u_0) <| o_n) (by kernel_rfl) (fun a g hst hb => ?_)
 refine wp_seq ?_
 refine r_s (T := [⟨[.old 0], _, [], [], [12]⟩, ⟨[.op 0 0], _, [], [0], [13]⟩, ⟨[], _, [], [], [14]⟩]) (F := [.old 1, .old 2, .op 0 0, .op 1 0, .op 2 0]) hst hb Za
   (o_p rfl (Zc rfl rfl u_0) <| o_p rfl (Zca Tryd.underlying33 rfl rfl u_0) <| o_p rfl (Zc rfl rfl c_i) <| o_n) (by kernel_rfl) (fun a g hst hb => ?_)
 obtain ⟨z34, hz1, H0⟩ := Zh H0
 refine Zcf (fun a w => ∃ (y33 : Zd) (g : G), w = g.w ∧ St 76 [(2, (pBox Zf 2 y33)), (4, (pBox Zf 4 (default : Zd)))] a g ∧ Base g0 g ∧ y33 = z34) ?_ ?_
 · rintro a w ⟨y33, g, rfl, hst, hb, rfl⟩
   refine Zn ?_
   refine r_s (T := [⟨[.old 0], _, [], [], [75]⟩, ⟨[.op 0 0, .old 1], _, [5], [0], [4]⟩]) (F := [.op 1 0]) hst hb Za
     (o_p rfl (Zdd Z4 rfl rfl u_0) <| o_p rfl (Z6 Z4 rfl rfl u_1 u_0) <| o_n) (by kernel_rfl) (fun a g hst hb => ?_)
   refine wp_ret ?_
   obtain rfl := Option.some.inj H0
   obtain ⟨u0, hu0, hq0⟩ := Zba (P := Tryd.prog) Z4 (hst.at 0 rfl)
   exact Zy rfl hst hb hu0 hq0
 · refine wp_block ?_
   refine wp_loop_ghost (fun n a w => ∃ (x3 : Zd) (x4 : Int) (g : G), w = g.w ∧ St 76 [(2, (pBox Zf 2 x3)), (4, (pBox Zf 4 (default : Zd))), (12, (Zf.sl.pd a1)), (13, (pInt .i64 (a1.length : Int))), (14, (pInt .i64 x4))] a g ∧ Base g0 g ∧ Zb5 a1 n x3 x4 = some z34) (Int.toNat ((a1.length : Int) - (0 : Int)) + 1) ⟨r1, (0 : Int), g, rfl, (hst.pick [0, 1, 2, 3, 4] rfl), hb, hz1⟩ (fun n a w hI => ?_)
   obtain ⟨x3, x4, g, rfl, hst, hb, H1⟩ := hI
   cases n with
   | zero => exact absurd H1 (by simp [Zb5])
   | succ n =>
     rw [Zb5] at H1
     refine r_s (T := [⟨[.old 4, .old 3], _, [], [], [15]⟩]) (F := [.old 0, .old 1, .old 2, .old 3, .old 4, .op 0 0]) hst hb Za
       (o_p rfl (Zce rfl rfl u_0 u_1) <| o_n) (by kernel_rfl) (fun a g hst hb => ?_)
     refine wp_seq ?_
     refine wp_cond_split (hst.bool 5 rfl) (fun hc5 => ?_) (fun hc5 => ?_)
     · replace H1 := Zp hc5 H1
       refine wp_skip ?_
       refine Zn ?_
       refine wp_seq ?_
       refine Zcf (fun a w => ∃ (j32 : Zd) (g : G), w = g.w ∧ St 76 [(2, (pBox Zf 2 j32)), (4, (pBox Zf 4 (default : Zd))), (12, (Zf.sl.pd a1)), (13, (pInt .i64 (a1.length : Int))), (14, (pInt .i64 x4))] a g ∧ Base g0 g ∧ Zcl x4 (Zb5 a1 n) j32 = some z34) ?_ ?_
       · rintro a w ⟨j32, g, rfl, hst, hb, H1⟩
         unfold Zcl at H1
         refine Zn ?_
         refine r_g (T := [⟨[.old 4], _, [], [], [74]⟩, ⟨[.op 0 0], _, [], [0], [14]⟩]) (F := [.old 0, .old 1, .old 2, .old 3, .op 1 0]) hst hb Za
           (o_p rfl (Zcq rfl rfl u_0 c_i rfl) <| o_p rfl (Zc rfl rfl u_0) <| o_n) (by kernel_rfl) (fun a g hst hb => ?_)
         exact ⟨n, Nat.lt_succ_self _, j32, (IntKind.i64.wrap (x4 + (1 : Int))), g, rfl, (hst.pick [0, 1, 2, 3, 4] rfl), hb, H1⟩
       · refine wp_block ?_
         obtain ⟨e6, h7, H1⟩ := Zh H1
         refine r_s (L := [(2, _), (4, _), (12, _), (13, _), (14, _)]) (T := [⟨[.old 2, .old 4], _, [], [], [16]⟩, ⟨[.op 0 0], _, [], [0], [17]⟩, ⟨[], [(6, (pBox Zf 6 (default : Zd)))], [7], [], [6]⟩, ⟨[.op 1 0, .op 2 0], _, [7], [0, 1, 2], [6]⟩]) (F := [.old 0, .old 1, .op 3 0, .old 2, .old 3, .old 4]) (hst.pick [0, 1, 2, 3, 4] rfl) hb Za
           (o_p rfl (Zbn Tryd.underlying33 Zyq rfl rfl u_0 u_1 h7) <| o_p rfl (Zg Z4 rfl rfl u_0) <| o_p rfl (Zbj (zs := [.int .i64 0, .int .i64 0, .int .i64 0, .int .i64 0, .float .f64 0, .int .i64 0, .string ByteArray.empty, .slice none 0 0]) (by kernel_rfl) (fun g => Zbr g) rfl rfl) <| o_p rfl (Zb4 Z4 rfl rfl u_1 u_0) <| o_n) (by kernel_rfl) (fun a g hst hb => ?_)
         refine r_s (T := [⟨[.old 0], _, [], [], [18]⟩, ⟨[.op 0 0], _, [], [0], [19]⟩]) (F := [.old 0, .old 1, .old 2, .old 3, .old 4, .old 5, .op 1 0]) hst hb Za
           (o_p rfl (Zo Zcn (off := 0) (by kernel_rfl) rfl rfl u_0) <| o_p rfl (Zbi ty_3 rfl rfl u_0) <| o_n) (by kernel_rfl) (fun a g hst hb => ?_)
         refine wp_block ?_
         refine wp_seq ?_
         refine r_s (T := [⟨[.old 6], _, [], [], [21]⟩, ⟨[.op 0 0], _, [], [0], [20]⟩]) (F := [.old 0, .old 1, .old 2, .old 3, .old 4, .old 5, .old 6, .op 1 0]) hst hb Za
           (o_p rfl (Z8 rfl rfl u_0 c_i) <| o_p rfl (Zb rfl rfl u_0) <| o_n) (by kernel_rfl) (fun a g hst hb => ?_)
         refine Zcf (fun a w => ∃ (j10 : Bool) (g : G), w = g.w ∧ St 76 [(2, (pBox Zf 2 x3)), (4, (pBox Zf 4 (default : Zd))), (6, (Zf.ptr e6)), (12, (Zf.sl.pd a1)), (13, (pInt .i64 (a1.length : Int))), (14, (pInt .i64 x4)), (19, (pInt .i64 x3.Kind)), (20, (Z5 j10))] a g ∧ Base g0 g ∧ Ze0 x3 x4 e6 (Zb5 a1 n) j10 = some z34) ?_ ?_
         · rintro a w ⟨j10, g, rfl, hst, hb, H1⟩
           unfold Ze0 at H1
           refine Zn ?_
           refine wp_cond_split (hst.bool 7 rfl) (fun hc11 => ?_) (fun hc11 => ?_)
           · replace H1 := Zp hc11 H1
             refine r_g (L := [(2, _), (4, _), (6, _), (12, _), (13, _), (14, _)]) (T := [⟨[.old 0], _, [], [], [24]⟩, ⟨[.op 0 0], _, [], [0], [25]⟩, ⟨[.old 2], _, [], [], [26]⟩, ⟨[.op 2 0], _, [], [2], [27]⟩, ⟨[.op 1 0, .op 3 0], _, [], Lr 4, [28]⟩, ⟨[.old 0], _, [], Lr 5, [29]⟩, ⟨[.op 4 0, .op 5 0, .old 0], _, [3], Lr 6, [2, 24, 29]⟩]) (F := [.op 6 0, .old 1, .old 3, .old 4, .old 5]) (hst.pick [0, 1, 2, 3, 4, 5] rfl) hb Za
               (o_p rfl (Zo Zb6 (off := 1) (by kernel_rfl) rfl rfl u_0) <| o_p rfl (Zbi ty_2 rfl rfl u_0) <| o_p rfl (Ze Zb6 rfl rfl u_0) <| o_p rfl (Zg ty_2 rfl rfl u_0) <| o_p rfl (Zcq rfl rfl u_0 u_1 rfl) <| o_p rfl (Zo Zb6 (off := 1) (by kernel_rfl) rfl rfl u_0) <| o_p rfl (Zj5 ty_2 rfl rfl u_2 u_1 u_0) <| o_n) (by kernel_rfl) (fun a g hst hb => ?_)
             refine Zbe ?_
             refine Zbe ?_
             exact ⟨({ x3 with Num := (IntKind.i64.wrap (x3.Num + e6.Num)) }), g, rfl, (hst.pick [0, 1, 2, 3, 4] rfl), hb, H1⟩
           · replace H1 := Zr hc11 H1
             refine r_s (L := [(2, _), (4, _), (6, _), (12, _), (13, _), (14, _), (19, _)]) (T := [⟨[.old 6], _, [], [], [31]⟩, ⟨[.op 0 0], _, [], [0], [30]⟩]) (F := [.old 0, .old 1, .old 2, .old 3, .old 4, .old 5, .old 6, .op 1 0]) (hst.pick [0, 1, 2, 3, 4, 5, 6] rfl) hb Za
               (o_p rfl (Z8 rfl rfl u_0 c_i) <| o_p rfl (Zb rfl rfl u_0) <| o_n) (by kernel_rfl) (fun a g hst hb => ?_)
             refine wp_cond_split (hst.bool 7 rfl) (fun hc12 => ?_) (fun hc12 => ?_)
             · replace H1 := Zp hc12 H1
               obtain ⟨r13, h14, H1⟩ := Zh H1
               refine r_g (L := [(2, _), (4, _), (6, _), (12, _), (13, _), (14, _)]) (T := [⟨[.old 0], _, [], [], [32]⟩, ⟨[.op 0 0], _, [], [0], [33]⟩, ⟨[.old 2], _, [], [], [34]⟩, ⟨[.op 2 0], _, [], [2], [35]⟩, ⟨[.op 1 0, .op 3 0], _, [], Lr 4, [36]⟩, ⟨[.old 0], _, [], Lr 5, [37]⟩, ⟨[.op 4 0, .op 5 0, .old 0], _, [3], Lr 6, [2, 32, 37]⟩]) (F := [.op 6 0, .old 1, .old 3, .old 4, .old 5]) (hst.pick [0, 1, 2, 3, 4, 5] rfl) hb Za
                 (o_p rfl (Zo Zd5 (off := 4) (by kernel_rfl) rfl rfl u_0) <| o_p rfl (Zbi Zci rfl rfl u_0) <| o_p rfl (Ze Zd5 rfl rfl u_0) <| o_p rfl (Zg Zci rfl rfl u_0) <| o_p rfl (Zs Zu0 (Znh _ _ h14) rfl rfl (.cons u_0 (.cons u_1 .nil))) <| o_p rfl (Zo Zd5 (off := 4) (by kernel_rfl) rfl rfl u_0) <| o_p rfl (Znp Zci rfl rfl u_2 u_1 u_0) <| o_n) (by kernel_rfl) (fun a g hst hb => ?_)
               refine Zbe ?_
               refine Zbe ?_
               exact ⟨({ x3 with Real := r13 }), g, rfl, (hst.pick [0, 1, 2, 3, 4] rfl), hb, H1⟩
             · replace H1 := Zr hc12 H1
               refine r_s (L := [(2, _), (4, _), (6, _), (12, _), (13, _), (14, _), (19, _)]) (T := [⟨[.old 6], _, [], [], [39]⟩, ⟨[.op 0 0], _, [], [0], [38]⟩]) (F := [.old 0, .old 1, .old 2, .old 3, .old 4, .old 5, .old 6, .op 1 0]) (hst.pick [0, 1, 2, 3, 4, 5, 6] rfl) hb Za
                 (o_p rfl (Z8 rfl rfl u_0 c_i) <| o_p rfl (Zb rfl rfl u_0) <| o_n) (by kernel_rfl) (fun a g hst hb => ?_)
               refine wp_cond_split (hst.bool 7 rfl) (fun hc15 => ?_) (fun hc15 => ?_)
               · replace H1 := Zp hc15 H1
                 obtain ⟨r16, h17, H1⟩ := Zh H1
                 refine r_g (L := [(2, _), (4, _), (6, _), (12, _), (13, _), (14, _)]) (T := [⟨[.old 0], _, [], [], [40]⟩, ⟨[.op 0 0], _, [], [0], [41]⟩, ⟨[.old 2], _, [], [], [42]⟩, ⟨[.op 2 0], _, [], [2], [43]⟩, ⟨[.op 1 0, .op 3 0], _, [], Lr 4, [44]⟩, ⟨[.old 0], _, [], Lr 5, [45]⟩, ⟨[.op 4 0, .op 5 0, .old 0], _, [3], Lr 6, [2, 40, 45]⟩]) (F := [.op 6 0, .old 1, .old 3, .old 4, .old 5]) (hst.pick [0, 1, 2, 3, 4, 5] rfl) hb Za
                   (o_p rfl (Zo Zd5 (off := 4) (by kernel_rfl) rfl rfl u_0) <| o_p rfl (Zbi Zci rfl rfl u_0) <| o_p rfl (Ze Zd5 rfl rfl u_0) <| o_p rfl (Zg Zci rfl rfl u_0) <| o_p rfl (Zs Zu8 (Zng _ _ h17) rfl rfl (.cons u_0 (.cons u_1 .nil))) <| o_p rfl (Zo Zd5 (off := 4) (by kernel_rfl) rfl rfl u_0) <| o_p rfl (Znp Zci rfl rfl u_2 u_1 u_0) <| o_n) (by kernel_rfl) (fun a g hst hb => ?_)
                 refine Zbe ?_
                 refine Zbe ?_
                 exact ⟨({ x3 with Real := r16 }), g, rfl, (hst.pick [0, 1, 2, 3, 4] rfl), hb, H1⟩
               · replace H1 := Zr hc15 H1
                 refine wp_seq ?_
                 refine r_s (L := [(2, _), (4, _), (6, _), (12, _), (13, _), (14, _), (19, _)]) (T := [⟨[.old 6], _, [], [], [47]⟩, ⟨[.op 0 0], _, [], [0], [46]⟩]) (F := [.old 0, .old 1, .old 2, .old 3, .old 4, .old 5, .old 6, .op 1 0]) (hst.pick [0, 1, 2, 3, 4, 5, 6] rfl) hb Za
                   (o_p rfl (Z8 rfl rfl u_0 c_i) <| o_p rfl (Zb rfl rfl u_0) <| o_n) (by kernel_rfl) (fun a g hst hb => ?_)
                 refine Zcf (fun a w => ∃ (j19 : Bool) (g : G), w = g.w ∧ St 76 [(2, (pBox Zf 2 x3)), (4, (pBox Zf 4 (default : Zd))), (6, (Zf.ptr e6)), (12, (Zf.sl.pd a1)), (13, (pInt .i64 (a1.length : Int))), (14, (pInt .i64 x4)), (46, (Z5 j19))] a g ∧ Base g0 g ∧ Ze2 x3 x4 e6 (Zb5 a1 n) j19 = some z34) ?_ ?_
                 · rintro a w ⟨j19, g, rfl, hst, hb, H1⟩
                   unfold Ze2 at H1
                   refine Zn ?_
                   refine wp_cond_split (hst.bool 6 rfl) (fun hc20 => ?_) (fun hc20 => ?_)
                   · replace H1 := Zp hc20 H1
                     refine r_s (L := [(2, _), (4, _), (6, _), (12, _), (13, _), (14, _)]) (T := [⟨[.old 2], _, [], [], [49]⟩, ⟨[.op 0 0], _, [], [0], [50]⟩, ⟨[.op 1 0], _, [], [0, 1], [51]⟩, ⟨[], _, [], [], [52]⟩]) (F := [.old 0, .old 1, .old 3, .old 4, .old 5, .op 1 0, .op 2 0, .op 3 0]) (hst.pick [0, 1, 2, 3, 4, 5] rfl) hb Za
                       (o_p rfl (Ze Zbu rfl rfl u_0) <| o_p rfl (Zg Zck rfl rfl u_0) <| o_p rfl (Zca Tryd.underlying23 rfl rfl u_0) <| o_p rfl (Zc rfl rfl c_i) <| o_n) (by kernel_rfl) (fun a g hst hb => ?_)
                     obtain ⟨z31, hz2, H1⟩ := Zh H1
                     refine Zcf (fun a w => ∃ (y30 : Zd) (g : G), w = g.w ∧ St 76 [(2, (pBox Zf 2 y30)), (4, (pBox Zf 4 (default : Zd))), (12, (Zf.sl.pd a1)), (13, (pInt .i64 (a1.length : Int))), (14, (pInt .i64 x4))] a g ∧ Base g0 g ∧ y30 = z31) ?_ ?_
                     · rintro a w ⟨y30, g, rfl, hst, hb, rfl⟩
                       refine Zbe ?_
                       refine Zbe ?_
                       exact ⟨y30, g, rfl, (hst.pick [0, 1, 2, 3, 4] rfl), hb, H1⟩
                     · refine wp_block ?_
                       refine wp_loop_ghost (fun n a w => ∃ (x21 : Zd) (x22 : Int) (g : G), w = g.w ∧ St 76 [(2, (pBox Zf 2 x21)), (4, (pBox Zf 4 (default : Zd))), (12, (Zf.sl.pd a1)), (13, (pInt .i64 (a1.length : Int))), (14, (pInt .i64 x4)), (50, (Zm.sl.pd e6.List)), (51, (pInt .i64 (e6.List.length : Int))), (52, (pInt .i64 x22))] a g ∧ Base g0 g ∧ Zdh e6 n x21 x22 = some z31) (Int.toNat ((e6.List.length : Int) - (0 : Int)) + 1) ⟨x3, (0 : Int), g, rfl, (hst.pick [0, 1, 2, 3, 4, 5, 6, 7] rfl), hb, hz2⟩ (fun n a w hI => ?_)
                       obtain ⟨x21, x22, g, rfl, hst, hb, H2⟩ := hI
                       cases n with
                       | zero => exact absurd H2 (by simp [Zdh])
                       | succ n =>
                         rw [Zdh] at H2
                         refine r_s (T := [⟨[.old 7, .old 6], _, [], [], [53]⟩]) (F := [.old 0, .old 1, .old 2, .old 3, .old 4, .old 5, .old 6, .old 7, .op 0 0]) hst hb Za
                           (o_p rfl (Zce rfl rfl u_0 u_1) <| o_n) (by kernel_rfl) (fun a g hst hb => ?_)
                         refine wp_seq ?_
                         refine wp_cond_split (hst.bool 8 rfl) (fun hc23 => ?_) (fun hc23 => ?_)
                         · replace H2 := Zp hc23 H2
                           refine wp_skip ?_
                           refine Zn ?_
                           refine wp_seq ?_
                           refine wp_block ?_
                           obtain ⟨e24, h25, H2⟩ := Zh H2
                           refine r_s (L := [(2, _), (4, _), (12, _), (13, _), (14, _), (50, _), (51, _), (52, _)]) (T := [⟨[.old 5, .old 7], _, [], [], [54]⟩, ⟨[.op 0 0], _, [], [0], [55]⟩, ⟨[], [(8, (pBox Zm 8 (default : Zj)))], [9], [], [8]⟩, ⟨[.op 1 0, .op 2 0], _, [9], [0, 1, 2], [8]⟩]) (F := [.old 0, .old 1, .op 3 0, .old 2, .old 3, .old 4, .old 5, .old 6, .old 7]) (hst.pick [0, 1, 2, 3, 4, 5, 6, 7] rfl) hb Za
                             (o_p rfl (Zbn Tryd.underlying23 Zen rfl rfl u_0 u_1 h25) <| o_p rfl (Zg Zc9 rfl rfl u_0) <| o_p rfl (Zbj (zs := [.float .f64 0, .string ByteArray.empty]) (by kernel_rfl) (fun g => Zey g) rfl rfl) <| o_p rfl (Zb4 Zc9 rfl rfl u_1 u_0) <| o_n) (by kernel_rfl) (fun a g hst hb => ?_)
                           refine r_s (T := [⟨[.old 2], _, [], [], [56]⟩, ⟨[.op 0 0], _, [], [0], [57]⟩, ⟨[.op 1 0], _, [], [0, 1], [58]⟩, ⟨[], [(9, (pBox Z1 9 (default : Zu)))], [10], [], [9]⟩, ⟨[.op 2 0, .op 3 0], _, [10], Lr 4, [9]⟩]) (F := [.old 0, .old 1, .old 2, .op 4 0, .old 3, .old 4, .old 5, .old 6, .old 7, .old 8]) hst hb Za
                             (o_p rfl (Ze Zdg rfl rfl u_0) <| o_p rfl (Zg ty_9 rfl rfl u_0) <| o_p rfl (Zqz rfl rfl c_i c_s u_0) <| o_p rfl (Zbj (zs := [.int .i64 0, .string ByteArray.empty, .int .i64 0, .float .f64 0, .string ByteArray.empty, .int .i64 0, .int .i64 0, .int .i64 0, .int .i64 0, .float .f64 0, .int .i64 0, .string ByteArray.empty, .slice none 0 0, .bool false]) (by kernel_rfl) (fun g => Ziy g) rfl rfl) <| o_p rfl (Z6 Zf9 rfl rfl u_1 u_0) <| o_n) (by kernel_rfl) (fun a g hst hb => ?_)
                           refine wp_seq ?_
                           refine r_s (T := [⟨[.old 0], _, [], [], [59]⟩, ⟨[.op 0 0], _, [], [0], [60]⟩, ⟨[.op 1 0], _, [], [0, 1], [61]⟩]) (F := [.old 0, .old 1, .old 2, .old 3, .old 4, .old 5, .old 6, .old 7, .old 8, .old 9, .op 2 0]) hst hb Za
                             (o_p rfl (Zo Zcn (off := 0) (by kernel_rfl) rfl rfl u_0) <| o_p rfl (Zbi ty_3 rfl rfl u_0) <| o_p rfl (Z8 rfl rfl u_0 c_i) <| o_n) (by kernel_rfl) (fun a g hst hb => ?_)
                           refine Zcf (fun a w => ∃ (j27 : Zu) (g : G), w = g.w ∧ St 76 [(2, (pBox Zf 2 x21)), (4, (pBox Zf 4 (default : Zd))), (9, (pBox Z1 9 j27)), (12, (Zf.sl.pd a1)), (13, (pInt .i64 (a1.length : Int))), (14, (pInt .i64 x4)), (50, (Zm.sl.pd e6.List)), (51, (pInt .i64 (e6.List.length : Int))), (52, (pInt .i64 x22))] a g ∧ Base g0 g ∧ Zgy x21 x22 (Zdh e6 n) j27 = some z31) ?_ ?_
                           · rintro a w ⟨j27, g, rfl, hst, hb, H2⟩
                             unfold Zgy at H2
                             refine Zn ?_
                             obtain ⟨r28, h29, H2⟩ := Zh H2
                             refine r_g (T := [⟨[.old 0], _, [], [], [67]⟩, ⟨[.old 2], _, [], [], [68]⟩, ⟨[.op 0 0, .op 1 0], _, [], [0, 1], [69]⟩, ⟨[.op 2 0], _, [], [0, 1, 2], [66]⟩, ⟨[.op 3 0], _, [], Lr 4, [70]⟩, ⟨[.op 3 0], _, [], Lr 4, [71]⟩, ⟨[.op 3 0], _, [], Lr 4, [72]⟩, ⟨[.op 4 0, .old 0], _, [3], Lr 5, [2]⟩]) (F := [.op 7 0, .old 1, .old 3, .old 4, .old 5, .old 6, .old 7, .old 8]) hst hb Za
                               (o_p rfl (Zdd Z4 rfl rfl u_0) <| o_p rfl (Zdd Zf9 rfl rfl u_0) <| o_p rfl (Zs Zuj (Zky _ _ _ h29) rfl rfl (.cons u_0 (.cons c_b (.cons u_1 .nil)))) <| o_p rfl (Zc rfl rfl u_0) <| o_p rfl (Z9 rfl rfl u_0 rfl) <| o_p rfl (Z9 rfl rfl u_0 rfl) <| o_p rfl (Z9 rfl rfl u_0 rfl) <| o_p rfl (Z6 Z4 rfl rfl u_1 u_0) <| o_n) (by kernel_rfl) (fun a g hst hb => ?_)
                             refine Zbe ?_
                             refine Zn ?_
                             refine r_g (T := [⟨[.old 7], _, [], [], [73]⟩, ⟨[.op 0 0], _, [], [0], [52]⟩]) (F := [.old 0, .old 1, .old 2, .old 3, .old 4, .old 5, .old 6, .op 1 0]) hst hb Za
                               (o_p rfl (Zcq rfl rfl u_0 c_i rfl) <| o_p rfl (Zc rfl rfl u_0) <| o_n) (by kernel_rfl) (fun a g hst hb => ?_)
                             exact ⟨n, Nat.lt_succ_self _, r28.1, (IntKind.i64.wrap (x22 + (1 : Int))), g, rfl, (hst.pick [0, 1, 2, 3, 4, 5, 6, 7] rfl), hb, H2⟩
                           · refine wp_cond_split (hst.bool 10 rfl) (fun hc26 => ?_) (fun hc26 => ?_)
                             · replace H2 := Zp hc26 H2
                               refine r_g (L := [(2, _), (4, _), (8, _), (9, _), (12, _), (13, _), (14, _), (50, _), (51, _), (52, _)]) (T := [⟨[.old 2], _, [], [], [62]⟩, ⟨[.op 0 0], _, [], [0], [63]⟩, ⟨[.old 3], _, [], [], [64]⟩, ⟨[.op 2 0, .old 3], _, [10], [2], [9, 64]⟩, ⟨[.op 3 0], _, [], Lr 4, [65]⟩, ⟨[.op 1 0, .op 4 0, .op 3 0], _, [10], Lr 5, [9, 64, 65]⟩]) (F := [.old 0, .old 1, .op 5 0, .old 4, .old 5, .old 6, .old 7, .old 8, .old 9]) (hst.pick [0, 1, 2, 3, 4, 5, 6, 7, 8, 9] rfl) hb Za
                                 (o_p rfl (Ze Zdr rfl rfl u_0) <| o_p rfl (Zg Zci rfl rfl u_0) <| o_p rfl (Zo Zdm (off := 0) (by kernel_rfl) rfl rfl u_0) <| o_p rfl (Zn2 ty_3 rfl rfl u_1 u_0 c_i) <| o_p rfl (Zo Zj4 (off := 3) (by kernel_rfl) rfl rfl u_0) <| o_p rfl (Zw2 Zci rfl rfl u_2 u_1 u_0) <| o_n) (by kernel_rfl) (fun a g hst hb => ?_)
                               exact ⟨({ ({ ({ Kind := (18 : Int), Key := (⟨#[107]⟩ : ByteArray), N := (0 : Int), X := (0 : Nat), S := e24.Name, Make := (default : Zd), Must := false } : Zu) with Kind := (21 : Int) }) with X := e24.Score }), g, rfl, (hst.pick [0, 1, 2, 3, 4, 5, 6, 7, 8] rfl), hb, H2⟩
                             · replace H2 := Zr hc26 H2
                               refine wp_skip ?_
                               exact ⟨({ Kind := (18 : Int), Key := (⟨#[107]⟩ : ByteArray), N := (0 : Int), X := (0 : Nat), S := e24.Name, Make := (default : Zd), Must := false } : Zu), g, rfl, (hst.pick [0, 1, 3, 4, 5, 6, 7, 8, 9] rfl), hb, H2⟩
                         · replace H2 := Zr hc23 H2
                           refine wp_exit ?_
                           refine Zcg ?_
                           refine Zcg ?_
                           refine Zc4 ?_
                           exact ⟨x21, g, rfl, (hst.pick [0, 1, 2, 3, 4] rfl), hb, Option.some.inj H2⟩
                   · replace H1 := Zr hc20 H1
                     refine wp_skip ?_
                     refine Zbe ?_
                     refine Zbe ?_
                     exact ⟨x3, g, rfl, (hst.pick [0, 1, 3, 4, 5] rfl), hb, H1⟩
                 · refine wp_cond_split (hst.bool 7 rfl) (fun hc18 => ?_) (fun hc18 => ?_)
                   · replace H1 := Zp hc18 H1
                     refine wp_skip ?_
                     exact ⟨(x3.Kind == (8 : Int)), g, rfl, (hst.pick [0, 1, 2, 3, 4, 5, 7] rfl), hb, H1⟩
                   · replace H1 := Zr hc18 H1
                     refine r_g (L := [(2, _), (4, _), (6, _), (12, _), (13, _), (14, _), (19, _)]) (T := [⟨[.old 6], _, [], [], [48]⟩, ⟨[.op 0 0], _, [], [0], [46]⟩]) (F := [.old 0, .old 1, .old 2, .old 3, .old 4, .old 5, .op 1 0]) (hst.pick [0, 1, 2, 3, 4, 5, 6] rfl) hb Za
                       (o_p rfl (Z8 rfl rfl u_0 c_i) <| o_p rfl (Zb rfl rfl u_0) <| o_n) (by kernel_rfl) (fun a g hst hb => ?_)
                     exact ⟨(x3.Kind == (9 : Int)), g, rfl, (hst.pick [0, 1, 2, 3, 4, 5, 6] rfl), hb, H1⟩
         · refine wp_cond_split (hst.bool 7 rfl) (fun hc8 => ?_) (fun hc8 => ?_)
           · replace H1 := Zp hc8 H1
             refine wp_skip ?_
             exact ⟨(x3.Kind == (2 : Int)), g, rfl, (hst.pick [0, 1, 2, 3, 4, 5, 6, 7] rfl), hb, H1⟩
           · replace H1 := Zr hc8 H1
             refine r_s (L := [(2, _), (4, _), (6, _), (12, _), (13, _), (14, _), (19, _)]) (T := [⟨[.old 6], _, [], [], [22]⟩, ⟨[.op 0 0], _, [], [0], [20]⟩]) (F := [.old 0, .old 1, .old 2, .old 3, .old 4, .old 5, .old 6, .op 1 0]) (hst.pick [0, 1, 2, 3, 4, 5, 6] rfl) hb Za
               (o_p rfl (Z8 rfl rfl u_0 c_i) <| o_p rfl (Zb rfl rfl u_0) <| o_n) (by kernel_rfl) (fun a g hst hb => ?_)
             refine wp_cond_split (hst.bool 7 rfl) (fun hc9 => ?_) (fun hc9 => ?_)
             · replace H1 := Zp hc9 H1
               refine wp_skip ?_
               exact ⟨(x3.Kind == (3 : Int)), g, rfl, (hst.pick [0, 1, 2, 3, 4, 5, 6, 7] rfl), hb, H1⟩
             · replace H1 := Zr hc9 H1
               refine r_g (L := [(2, _), (4, _), (6, _), (12, _), (13, _), (14, _), (19, _)]) (T := [⟨[.old 6], _, [], [], [23]⟩, ⟨[.op 0 0], _, [], [0], [20]⟩]) (F := [.old 0, .old 1, .old 2, .old 3, .old 4, .old 5, .old 6, .op 1 0]) (hst.pick [0, 1, 2, 3, 4, 5, 6] rfl) hb Za
                 (o_p rfl (Z8 rfl rfl u_0 c_i) <| o_p rfl (Zb rfl rfl u_0) <| o_n) (by kernel_rfl) (fun a g hst hb => ?_)
               exact ⟨(x3.Kind == (4 : Int)), g, rfl, (hst.pick [0, 1, 2, 3, 4, 5, 6, 7] rfl), hb, H1⟩
     · replace H1 := Zr hc5 H1
       refine wp_exit ?_
       refine Zcg ?_
       refine Zcg ?_
       refine Zc4 ?_
       exact ⟨x3, g, rfl, (hst.pick [0, 1] rfl), hb, Option.some.inj H1⟩
theorem Zqp (a0 : Zd) (a1 : Zu) {r : Zd} (h : Zms a0 a1 = some r) : FnOk Tryd.prog 16 [(Zf.pd a0), (Z1.pd a1)] (Zf.pd r) := by
 have H0 := h
 unfold Zms at H0
 clear h
 refine Zbo (N := 29) Tryd.func16 rfl rfl (Nat.le_of_ble_eq_true rfl) rfl rfl (fun a g0 hst hb => ?_)
 refine r_s (T := [⟨[.old 0], _, [], [], [2]⟩, ⟨[.old 1], _, [4], [], [3]⟩, ⟨[], [(4, (pBox Zf 4 (default : Zd)))], [5], [], [4]⟩]) (F := [.op 0 0, .op 1 0, .op 2 0]) hst hb Za
   (o_p rfl (Zbk rfl rfl u_0) <| o_p rfl (Zj2 rfl rfl u_0) <| o_p rfl (Zbj (zs := [.int .i64 0, .int .i64 0, .int .i64 0, .int .i64 0, .float .f64 0, .int .i64 0, .string ByteArray.empty, .slice none 0 0]) (by kernel_rfl) (fun g => Zbr g) rfl rfl) <| o_n) (by kernel_rfl) (fun a g hst hb => ?_)
 refine wp_seq ?_
 refine r_s (T := [⟨[.old 1], _, [], [], [8]⟩, ⟨[.op 0 0], _, [], [0], [9]⟩]) (F := [.old 0, .old 1, .old 2, .op 1 0]) hst hb Za
   (o_p rfl (Zo Zdm (off := 0) (by kernel_rfl) rfl rfl u_0) <| o_p rfl (Zbi ty_3 rfl rfl u_0) <| o_n) (by kernel_rfl) (fun a g hst hb => ?_)
 refine Zcf (fun a w => ∃ (j5 : Zu) (g : G), w = g.w ∧ St 29 [(2, (Zf.ptr a0)), (3, (pBox Z1 3 j5)), (4, (pBox Zf 4 (default : Zd)))] a g ∧ Base g0 g ∧ Zg6 a0 j5 = some r) ?_ ?_
 · rintro a w ⟨j5, g, rfl, hst, hb, H0⟩
   unfold Zg6 at H0
   refine Zn ?_
   obtain ⟨r6, h7, H0⟩ := Zh H0
   refine r_s (T := ⟨[.old 0], _, [], [], [22]⟩ :: ⟨[.old 1], _, [], [], [23]⟩ :: ⟨[.op 0 0, .op 1 0], _, [], [0, 1], [24]⟩ :: ⟨[.op 2 0], _, [], [0, 1, 2], [21]⟩ :: ⟨[.op 3 0], _, [], Lr 4, [25]⟩ :: ⟨[.op 3 0], _, [], Lr 4, [26]⟩ :: ⟨[.op 3 0], _, [], Lr 4, [27]⟩ :: ⟨[], [(5, (pBox Zf 5 (default : Zd)))], [6], [], [5]⟩ :: ⟨[], [(7, (pBox Z0 7 (default : Zq)))], [8], [], [7]⟩ :: ⟨[.op 4 0, .op 7 0], _, [6], [0, 1, 2, 3, 4, 7, 8], [5]⟩ :: ⟨[.op 5 0], _, [], [0, 1, 2, 3, 4, 5, 7, 8, 9], [6]⟩ :: ⟨[.op 6 0, .op 8 0], _, [8], Lr 11, [7]⟩ :: []) (F := [.old 2, .op 9 0]) hst hb Za
     (o_p rfl (Zg Z4 rfl rfl u_0) <| o_p rfl (Zdd Zf9 rfl rfl u_0) <| o_p rfl (Zs Zuj (Zky _ _ _ h7) rfl rfl (.cons u_0 (.cons c_b (.cons u_1 .nil)))) <| o_p rfl (Zc rfl rfl u_0) <| o_p rfl (Z9 rfl rfl u_0 rfl) <| o_p rfl (Z9 rfl rfl u_0 rfl) <| o_p rfl (Z9 rfl rfl u_0 rfl) <| o_p rfl (Zbj (zs := [.int .i64 0, .int .i64 0, .int .i64 0, .int .i64 0, .float .f64 0, .int .i64 0, .string ByteArray.empty, .slice none 0 0]) (by kernel_rfl) (fun g => Zbr g) rfl rfl) <| o_p rfl (Zbj (zs := [.int .i64 0, .int .i64 0, .int .i64 0, .int .i64 0, .int .i64 0, .int .i64 0, .float .f64 0, .int .i64 0, .string ByteArray.empty, .slice none 0 0]) (by kernel_rfl) (fun g => Zhb g) rfl rfl) <| o_p rfl (Zb4 Z4 rfl rfl u_1 u_0) <| o_p rfl (Zb rfl rfl u_0) <| o_p rfl (Zb4 Zdl rfl rfl u_1 u_0) <| o_n) (by kernel_rfl) (fun a g hst hb => ?_)
   refine r_s (T := [⟨[.old 1], _, [], [], [28]⟩, ⟨[.op 0 0, .old 0], _, [5], [0], [4]⟩]) (F := [.op 1 0]) hst hb Za
     (o_p rfl (Zg Z4 rfl rfl u_0) <| o_p rfl (Z6 Z4 rfl rfl u_1 u_0) <| o_n) (by kernel_rfl) (fun a g hst hb => ?_)
   refine wp_ret ?_
   obtain rfl := Option.some.inj H0
   obtain ⟨u0, hu0, hq0⟩ := Zba (P := Tryd.prog) Z4 (hst.at 0 rfl)
   exact Zy rfl hst hb hu0 hq0
 · refine wp_block ?_
   refine wp_seq ?_
   refine r_s (T := [⟨[.old 3], _, [], [], [11]⟩, ⟨[.op 0 0], _, [], [0], [10]⟩]) (F := [.old 0, .old 1, .old 2, .old 3, .op 1 0]) hst hb Za
     (o_p rfl (Z8 rfl rfl u_0 c_i) <| o_p rfl (Zb rfl rfl u_0) <| o_n) (by kernel_rfl) (fun a g hst hb => ?_)
   refine Zcf (fun a w => ∃ (j2 : Bool) (g : G), w = g.w ∧ St 29 [(2, (Zf.ptr a0)), (3, (pBox Z1 3 a1)), (4, (pBox Zf 4 (default : Zd))), (9, (pInt .i64 a1.Kind)), (10, (Z5 j2))] a g ∧ Base g0 g ∧ Zik a0 a1 j2 = some r) ?_ ?_
   · rintro a w ⟨j2, g, rfl, hst, hb, H0⟩
     unfold Zik at H0
     refine Zn ?_
     refine wp_cond_split (hst.bool 4 rfl) (fun hc3 => ?_) (fun hc3 => ?_)
     · replace H0 := Zp hc3 H0
       refine r_g (L := [(2, _), (3, _), (4, _)]) (T := [⟨[.old 1], _, [], [], [13]⟩, ⟨[.op 0 0, .old 1], _, [4], [0], [3, 13]⟩]) (F := [.old 0, .op 1 0, .old 2]) (hst.pick [0, 1, 2] rfl) hb Za
         (o_p rfl (Zo Zdm (off := 0) (by kernel_rfl) rfl rfl u_0) <| o_p rfl (Zn2 ty_3 rfl rfl u_1 u_0 c_i) <| o_n) (by kernel_rfl) (fun a g hst hb => ?_)
       refine Zbe ?_
       exact ⟨({ a1 with Kind := (7 : Int) }), g, rfl, (hst.pick [0, 1, 2] rfl), hb, H0⟩
     · replace H0 := Zr hc3 H0
       refine r_s (L := [(2, _), (3, _), (4, _), (9, _)]) (T := [⟨[.old 3], _, [], [], [15]⟩, ⟨[.op 0 0], _, [], [0], [14]⟩]) (F := [.old 0, .old 1, .old 2, .op 1 0]) (hst.pick [0, 1, 2, 3] rfl) hb Za
         (o_p rfl (Z8 rfl rfl u_0 c_i) <| o_p rfl (Zb rfl rfl u_0) <| o_n) (by kernel_rfl) (fun a g hst hb => ?_)
       refine wp_cond_split (hst.bool 3 rfl) (fun hc4 => ?_) (fun hc4 => ?_)
       · replace H0 := Zp hc4 H0
         refine r_g (L := [(2, _), (3, _), (4, _)]) (T := [⟨[.old 1], _, [], [], [16]⟩, ⟨[.op 0 0], _, [], [0], [17]⟩, ⟨[.op 1 0], _, [], [0, 1], [18]⟩, ⟨[.old 1], _, [], [0, 1], [19]⟩, ⟨[.op 3 0, .old 1], _, [4], [0, 1, 3], [3, 16, 19]⟩, ⟨[.op 4 0], _, [], Lr 5, [20]⟩, ⟨[.op 2 0, .op 5 0, .op 4 0], _, [4], Lr 6, [3, 16, 19, 20]⟩]) (F := [.old 0, .op 6 0, .old 2]) (hst.pick [0, 1, 2] rfl) hb Za
           (o_p rfl (Zo Zc3 (off := 2) (by kernel_rfl) rfl rfl u_0) <| o_p rfl (Zbi ty_2 rfl rfl u_0) <| o_p rfl (Zp4 rfl rfl u_0 rfl) <| o_p rfl (Zo Zdm (off := 0) (by kernel_rfl) rfl rfl u_0) <| o_p rfl (Zn2 ty_3 rfl rfl u_1 u_0 c_i) <| o_p rfl (Zo Zc3 (off := 2) (by kernel_rfl) rfl rfl u_0) <| o_p rfl (Zwp ty_2 rfl rfl u_2 u_1 u_0) <| o_n) (by kernel_rfl) (fun a g hst hb => ?_)
         refine Zbe ?_
         exact ⟨({ ({ a1 with Kind := (7 : Int) }) with N := (IntKind.i64.wrap (0 - a1.N)) }), g, rfl, (hst.pick [0, 1, 2] rfl), hb, H0⟩
       · replace H0 := Zr hc4 H0
         refine wp_skip ?_
         refine Zbe ?_
         exact ⟨a1, g, rfl, (hst.pick [0, 1, 2] rfl), hb, H0⟩
   · refine wp_cond_split (hst.bool 4 rfl) (fun hc1 => ?_) (fun hc1 => ?_)
     · replace H0 := Zp hc1 H0
       refine wp_skip ?_
       exact ⟨(a1.Kind == (8 : Int)), g, rfl, (hst.pick [0, 1, 2, 3, 4] rfl), hb, H0⟩
     · replace H0 := Zr hc1 H0
       refine r_g (L := [(2, _), (3, _), (4, _), (9, _)]) (T := [⟨[.old 3], _, [], [], [12]⟩, ⟨[.op 0 0], _, [], [0], [10]⟩]) (F := [.old 0, .old 1, .old 2, .old 3, .op 1 0]) (hst.pick [0, 1, 2, 3] rfl) hb Za
         (o_p rfl (Z8 rfl rfl u_0 c_i) <| o_p rfl (Zb rfl rfl u_0) <| o_n) (by kernel_rfl) (fun a g hst hb => ?_)
       exact ⟨(a1.Kind == (10 : Int)), g, rfl, (hst.pick [0, 1, 2, 3, 4] rfl), hb, H0⟩
theorem Zou (a0 : Zd) {r : Zx × Bool} (h : Zkh a0 = some r) : FnOk Tryd.prog 53 [(Zf.pd a0)] (pTup [(Z2.pd r.1), (Z5 r.2)]) := by
 have H0 := h
 unfold Zkh at H0
 clear h
 refine Zbo (N := 43) Tryd.func53 rfl rfl (Nat.le_of_ble_eq_true rfl) rfl rfl (fun a g0 hst hb => ?_)
 refine r_s (T := [⟨[.old 0], _, [], [], [1]⟩, ⟨[], [(2, (pBox Z2 2 (default : Zx)))], [3], [], [2]⟩, ⟨[], _, [], [], [3]⟩]) (F := [.op 0 0, .op 1 0]) hst hb Za
   (o_p rfl (Zbk rfl rfl u_0) <| o_p rfl (Zbj (zs := [.int .u64 0, .int .u64 0]) (by kernel_rfl) (fun g => Zgj g) rfl rfl) <| o_p rfl (Zb rfl rfl c_b) <| o_n) (by kernel_rfl) (fun a g hst hb => ?_)
 refine wp_seq ?_
 refine r_s (T := [⟨[.old 0], _, [], [], [4]⟩, ⟨[.op 0 0], _, [], [0], [5]⟩]) (F := [.old 0, .old 1, .op 1 0]) hst hb Za
   (o_p rfl (Ze Zcn rfl rfl u_0) <| o_p rfl (Zg ty_3 rfl rfl u_0) <| o_n) (by kernel_rfl) (fun a g hst hb => ?_)
 refine wp_block ?_
 refine r_s (T := [⟨[.old 2], _, [], [], [7]⟩, ⟨[.op 0 0], _, [], [0], [6]⟩]) (F := [.old 0, .old 1, .old 2, .op 1 0]) hst hb Za
   (o_p rfl (Z8 rfl rfl u_0 c_i) <| o_p rfl (Zb rfl rfl u_0) <| o_n) (by kernel_rfl) (fun a g hst hb => ?_)
 refine wp_cond_split (hst.bool 3 rfl) (fun hc1 => ?_) (fun hc1 => ?_)
 · replace H0 := Zp hc1 H0
   refine r_s (L := [(1, _), (2, _)]) (T := [⟨[.old 0], _, [], [], [8]⟩, ⟨[.op 0 0], _, [], [0], [9]⟩, ⟨[.op 1 0], _, [], [0, 1], [10]⟩, ⟨[.op 2 0], _, [], [0, 1, 2], [11]⟩, ⟨[.old 0], _, [], [], [12]⟩, ⟨[.op 4 0], _, [], [4], [13]⟩, ⟨[.op 5 0], _, [], [4, 5], [14]⟩, ⟨[.op 6 0], _, [], [4, 5, 6], [15]⟩, ⟨[.op 3 0, .op 7 0], _, [], Lr 8, [16]⟩, ⟨[.op 8 0, .old 1], _, [3], Lr 9, [2]⟩, ⟨[], _, [], Lr 10, [3]⟩]) (F := [.op 9 0, .op 10 0]) (hst.pick [0, 1] rfl) hb Za
     (o_p rfl (Ze Zb6 rfl rfl u_0) <| o_p rfl (Zg ty_2 rfl rfl u_0) <| o_p rfl (Zeo Tryd.underlying2 Tryd.underlying62 rfl rfl u_0 rfl) <| o_p rfl (Zei rfl rfl c_i u_0 rfl) <| o_p rfl (Ze Zb6 rfl rfl u_0) <| o_p rfl (Zg ty_2 rfl rfl u_0) <| o_p rfl (Zeo Tryd.underlying2 Tryd.underlying62 rfl rfl u_0 rfl) <| o_p rfl (Zei rfl rfl u_0 c_i rfl) <| o_p rfl (Zla rfl rfl u_0 u_1) <| o_p rfl (Z6 Zc8 rfl rfl u_1 u_0) <| o_p rfl (Zb rfl rfl c_b) <| o_n) (by kernel_rfl) (fun a g hst hb => ?_)
   refine wp_ret ?_
   refine Zt ?_
   refine Zk ?_
   obtain rfl := Option.some.inj H0
   obtain ⟨u0, hu0, hq0⟩ := Zba (P := Tryd.prog) Zc8 (hst.at 0 rfl)
   exact Zef rfl hst hb hu0 (Zi (s := 3)) (Zdi hq0 (hst.at 1 rfl))
 · replace H0 := Zr hc1 H0
   refine r_s (L := [(1, _), (2, _), (5, _)]) (T := [⟨[.old 2], _, [], [], [18]⟩, ⟨[.op 0 0], _, [], [0], [17]⟩]) (F := [.old 0, .old 1, .old 2, .op 1 0]) (hst.pick [0, 1, 2] rfl) hb Za
     (o_p rfl (Z8 rfl rfl u_0 c_i) <| o_p rfl (Zb rfl rfl u_0) <| o_n) (by kernel_rfl) (fun a g hst hb => ?_)
   refine wp_cond_split (hst.bool 3 rfl) (fun hc2 => ?_) (fun hc2 => ?_)
   · replace H0 := Zp hc2 H0
     refine r_s (L := [(1, _), (2, _)]) (T := ⟨[.old 0], _, [], [], [19]⟩ :: ⟨[.op 0 0], _, [], [0], [20]⟩ :: ⟨[.old 0], _, [], [], [21]⟩ :: ⟨[.op 2 0], _, [], [2], [22]⟩ :: ⟨[.op 1 0, .op 3 0], _, [], Lr 4, [23]⟩ :: ⟨[.op 4 0], _, [], Lr 5, [24]⟩ :: ⟨[.old 0], _, [], [], [25]⟩ :: ⟨[.op 6 0], _, [], [6], [26]⟩ :: ⟨[.old 0], _, [], [], [27]⟩ :: ⟨[.op 8 0], _, [], [8], [28]⟩ :: ⟨[.op 7 0, .op 9 0], _, [], List.range' 6 4, [29]⟩ :: ⟨[.op 10 0], _, [], List.range' 6 5, [30]⟩ :: ⟨[.op 5 0, .op 11 0], _, [], Lr 12, [31]⟩ :: ⟨[.op 12 0, .old 1], _, [3], Lr 13, [2]⟩ :: ⟨[], _, [], Lr 14, [3]⟩ :: []) (F := [.op 13 0, .op 14 0]) (hst.pick [0, 1] rfl) hb Za
       (o_p rfl (Ze Zfb rfl rfl u_0) <| o_p rfl (Zg ty_2 rfl rfl u_0) <| o_p rfl (Ze Zb6 rfl rfl u_0) <| o_p rfl (Zg ty_2 rfl rfl u_0) <| o_p rfl (Zei rfl rfl u_0 u_1 rfl) <| o_p rfl (Zeo Tryd.underlying2 Tryd.underlying62 rfl rfl u_0 rfl) <| o_p rfl (Ze Zb6 rfl rfl u_0) <| o_p rfl (Zg ty_2 rfl rfl u_0) <| o_p rfl (Ze Zfc rfl rfl u_0) <| o_p rfl (Zg ty_2 rfl rfl u_0) <| o_p rfl (Zei rfl rfl u_0 u_1 rfl) <| o_p rfl (Zeo Tryd.underlying2 Tryd.underlying62 rfl rfl u_0 rfl) <| o_p rfl (Zla rfl rfl u_0 u_1) <| o_p rfl (Z6 Zc8 rfl rfl u_1 u_0) <| o_p rfl (Zb rfl rfl c_b) <| o_n) (by kernel_rfl) (fun a g hst hb => ?_)
     refine wp_ret ?_
     refine Zt ?_
     refine Zk ?_
     obtain rfl := Option.some.inj H0
     obtain ⟨u0, hu0, hq0⟩ := Zba (P := Tryd.prog) Zc8 (hst.at 0 rfl)
     exact Zef rfl hst hb hu0 (Zi (s := 3)) (Zdi hq0 (hst.at 1 rfl))
   · replace H0 := Zr hc2 H0
     refine r_s (L := [(1, _), (2, _), (5, _)]) (T := [⟨[.old 2], _, [], [], [33]⟩, ⟨[.op 0 0], _, [], [0], [32]⟩]) (F := [.old 0, .old 1, .op 1 0]) (hst.pick [0, 1, 2] rfl) hb Za
       (o_p rfl (Z8 rfl rfl u_0 c_i) <| o_p rfl (Zb rfl rfl u_0) <| o_n) (by kernel_rfl) (fun a g hst hb => ?_)
     refine wp_cond_split (hst.bool 2 rfl) (fun hc3 => ?_) (fun hc3 => ?_)
     · replace H0 := Zp hc3 H0
       refine r_s (L := [(1, _), (2, _)]) (T := [⟨[.old 0], _, [], [], [34]⟩, ⟨[.op 0 0], _, [], [0], [35]⟩, ⟨[.old 0], _, [], [], [36]⟩, ⟨[.op 2 0], _, [], [2], [37]⟩, ⟨[.op 3 0], _, [], [2, 3], [38]⟩, ⟨[.op 1 0, .op 4 0], _, [], Lr 5, [39]⟩, ⟨[.op 5 0], _, [], Lr 6, [40]⟩, ⟨[.op 6 0], _, [], Lr 7, [41]⟩, ⟨[.op 7 0, .old 1], _, [3], Lr 8, [2]⟩, ⟨[], _, [], Lr 9, [3]⟩]) (F := [.op 8 0, .op 9 0]) (hst.pick [0, 1] rfl) hb Za
         (o_p rfl (Ze Zds rfl rfl u_0) <| o_p rfl (Zg ty_3 rfl rfl u_0) <| o_p rfl (Ze Zbu rfl rfl u_0) <| o_p rfl (Zg Zck rfl rfl u_0) <| o_p rfl (Zca Tryd.underlying23 rfl rfl u_0) <| o_p rfl (Zei rfl rfl u_0 u_1 rfl) <| o_p rfl (Zeo Tryd.underlying3 Tryd.underlying62 rfl rfl u_0 rfl) <| o_p rfl (Zlz rfl rfl u_0) <| o_p rfl (Z6 Zc8 rfl rfl u_1 u_0) <| o_p rfl (Zb rfl rfl c_b) <| o_n) (by kernel_rfl) (fun a g hst hb => ?_)
       refine wp_ret ?_
       refine Zt ?_
       refine Zk ?_
       obtain rfl := Option.some.inj H0
       obtain ⟨u0, hu0, hq0⟩ := Zba (P := Tryd.prog) Zc8 (hst.at 0 rfl)
       exact Zef rfl hst hb hu0 (Zi (s := 3)) (Zdi hq0 (hst.at 1 rfl))
     · replace H0 := Zr hc3 H0
       refine wp_skip ?_
       refine Zbe ?_
       refine Zn ?_
       refine r_s (L := [(2, _)]) (T := [⟨[], _, [], [], [42]⟩, ⟨[.op 0 0, .old 0], _, [3], [0], [2]⟩, ⟨[], _, [], [0, 1], [3]⟩]) (F := [.op 1 0, .op 2 0]) (hst.pick [1] rfl) hb Za
         (o_p rfl (Zp0 rfl rfl ) <| o_p rfl (Z6 Zc8 rfl rfl u_1 u_0) <| o_p rfl (Zb rfl rfl c_b) <| o_n) (by kernel_rfl) (fun a g hst hb => ?_)
       refine wp_ret ?_
       obtain rfl := Option.some.inj H0
       obtain ⟨u0, hu0, hq0⟩ := Zba (P := Tryd.prog) Zc8 (hst.at 0 rfl)
       exact Zef rfl hst hb hu0 (Zi (s := 3)) (Zdi hq0 (hst.at 1 rfl))
theorem Zk0 (a0 : Int) (a1 : Int) (a2 : Int) {r : Int} (h : Ziz a0 a1 a2 = some r) : FnOk Tryd.prog 54 [(pInt .u64 a0), (pInt .i64 a1), (pInt .i64 a2)] (pInt .u64 r) := by
 have H0 := h
 unfold Ziz at H0
 clear h
 refine Zbo (N := 22) Tryd.func54 rfl rfl (Nat.le_of_ble_eq_true rfl) rfl rfl (fun a g0 hst hb => ?_)
 refine r_s (T := [⟨[], _, [], [], [6]⟩]) (F := [.old 0, .old 1, .old 2]) hst hb Za
   (o_p rfl (Zb rfl rfl c_i) <| o_n) (by kernel_rfl) (fun a g hst hb => ?_)
 obtain ⟨h1, H0⟩ := Zh4 H0
 refine r_s (T := [⟨[.old 0], _, [], [], [8]⟩, ⟨[.old 2], _, [], [], [9]⟩, ⟨[.op 1 0], _, [], [1], [10]⟩, ⟨[.op 0 0, .op 2 0], _, [], [0, 1, 2], [11]⟩, ⟨[.op 3 0], _, [], Lr 4, [7]⟩]) (F := [.old 0, .old 1, .old 2, .op 4 0]) hst hb Za
   (o_p rfl (Zc rfl rfl u_0) <| o_p rfl (Zc rfl rfl u_0) <| o_p rfl (Zeo Tryd.underlying3 Tryd.underlying62 rfl rfl u_0 rfl) <| o_p rfl (Zxh rfl rfl u_0 u_1 h1) <| o_p rfl (Zb rfl rfl u_0) <| o_n) (by kernel_rfl) (fun a g hst hb => ?_)
 refine wp_seq ?_
 obtain ⟨h2, H0⟩ := Zh4 H0
 refine r_s (T := [⟨[.old 1], _, [], [], [12]⟩, ⟨[.op 0 0], _, [], [0], [13]⟩, ⟨[.old 0], _, [], [], [14]⟩, ⟨[.old 2], _, [], [], [15]⟩, ⟨[.op 3 0], _, [], [3], [16]⟩, ⟨[.op 2 0, .op 4 0], _, [], [2, 3, 4], [17]⟩, ⟨[.op 1 0, .op 5 0], _, [], Lr 6, [18]⟩]) (F := [.old 3, .op 6 0]) hst hb Za
   (o_p rfl (Zc rfl rfl u_0) <| o_p rfl (Zeo Tryd.underlying3 Tryd.underlying62 rfl rfl u_0 rfl) <| o_p rfl (Zc rfl rfl u_0) <| o_p rfl (Zc rfl rfl u_0) <| o_p rfl (Zeo Tryd.underlying3 Tryd.underlying62 rfl rfl u_0 rfl) <| o_p rfl (Zw8 rfl rfl u_0 u_1 h2) <| o_p rfl (Zce rfl rfl u_0 u_1) <| o_n) (by kernel_rfl) (fun a g hst hb => ?_)
 refine Zcf (fun a w => ∃ (j4 : Int) (g : G), w = g.w ∧ St 22 [(7, (pInt .u64 j4))] a g ∧ Base g0 g ∧ Zhg j4 = some r) ?_ ?_
 · rintro a w ⟨j4, g, rfl, hst, hb, H0⟩
   unfold Zhg at H0
   refine Zn ?_
   refine r_s (T := [⟨[.old 0], _, [], [], [21]⟩, ⟨[.op 0 0], _, [], [0], [6]⟩]) (F := [.op 1 0]) hst hb Za
     (o_p rfl (Zc rfl rfl u_0) <| o_p rfl (Zb rfl rfl u_0) <| o_n) (by kernel_rfl) (fun a g hst hb => ?_)
   refine wp_ret ?_
   obtain rfl := Option.some.inj H0
   exact Zy rfl hst hb (Zi (s := 6)) (hst.at 0 rfl)
 · refine wp_cond_split (hst.bool 1 rfl) (fun hc3 => ?_) (fun hc3 => ?_)
   · replace H0 := Zp hc3 H0
     refine r_g (L := [(7, _)]) (T := [⟨[.old 0], _, [], [], [19]⟩, ⟨[.op 0 0], _, [], [0], [20]⟩, ⟨[.op 1 0], _, [], [0, 1], [7]⟩]) (F := [.op 2 0]) (hst.pick [0] rfl) hb Za
       (o_p rfl (Zc rfl rfl u_0) <| o_p rfl (Zcq rfl rfl u_0 c_i rfl) <| o_p rfl (Zb rfl rfl u_0) <| o_n) (by kernel_rfl) (fun a g hst hb => ?_)
     exact ⟨(IntKind.u64.wrap ((IntKind.u64.wrap (Int.tdiv a0 (IntKind.u64.wrap a2))) + (1 : Int))), g, rfl, (hst.pick [0] rfl), hb, H0⟩
   · replace H0 := Zr hc3 H0
     refine wp_skip ?_
     exact ⟨(IntKind.u64.wrap (Int.tdiv a0 (IntKind.u64.wrap a2))), g, rfl, (hst.pick [0] rfl), hb, H0⟩
theorem Zqb (a0 : Zd) (a1 : Int) {r : (Option Zw) × Int} (h : Zlj a0 a1 = some r) : Zpk Tryd.prog 24 [(Zf.pd a0), (pInt .i64 a1)] Zc7 r.1 (pInt .i64 r.2) := by
 have H0 := h
 unfold Zlj at H0
 clear h
 refine Zsq (N := 66) Tryd.func24 rfl rfl (Nat.le_of_ble_eq_true rfl) rfl (fun a g0 h0 hst hb => ?_)
 refine r_s (T := [⟨[.old 0], _, [], [], [2]⟩, ⟨[], [(4, (pEq (.pointer none)))], [], [], [4]⟩, ⟨[], _, [], [1], [5]⟩]) (F := [.old 1, .op 0 0]) hst hb Za
   (o_p rfl (Zbk rfl rfl u_0) <| o_p rfl (Zb rfl rfl (Opd.c (fun g => Zm6 g))) <| o_p rfl (Zb rfl rfl c_i) <| o_n) (by kernel_rfl) (fun a g hst hb => ?_)
 refine wp_seq ?_
 refine r_s (T := [⟨[.old 0], _, [], [], [13]⟩, ⟨[.op 0 0], _, [], [0], [14]⟩, ⟨[.op 1 0], _, [], [0, 1], [15]⟩, ⟨[.op 2 0, .old 0], _, [], [0, 1, 2], [16]⟩, ⟨[.op 2 0, .op 3 0], _, [], Lr 4, [17]⟩, ⟨[.op 2 0, .op 4 0], _, [], Lr 5, [18]⟩]) (F := [.old 0, .old 1, .op 5 0]) hst hb Za
   (o_p rfl (Zc rfl rfl u_0) <| o_p rfl (Zce rfl rfl u_0 c_i) <| o_p rfl (Zc rfl rfl u_0) <| o_g (g_f rfl rfl rfl (fun hG => Zc rfl rfl u_0)) <| o_g (g_f rfl rfl rfl (fun hG => Zb9 rfl rfl (Opd.gd hG u_0) c_i)) <| o_p rfl (Zbg rfl rfl u_0 (fun hz => (Opd.gd (bNF hz) u_1))) <| o_n) (by kernel_rfl) (fun a g hst hb => ?_)
 refine wp_cond_split (hst.bool 2 rfl) (fun hc1 => ?_) (fun hc1 => ?_)
 · replace H0 := Zp hc1 H0
   refine r_s (L := []) (T := [⟨[], [(4, (pEq (.pointer none)))], [], [], [4]⟩, ⟨[], _, [], [0], [5]⟩]) (F := [.op 0 0, .op 1 0]) (hst.pick [] rfl) hb Za
     (o_p rfl (Zb rfl rfl (Opd.c (fun g => Zm6 g))) <| o_p rfl (Zb rfl rfl c_i) <| o_n) (by kernel_rfl) (fun a g hst hb => ?_)
   refine wp_ret ?_
   refine Zk ?_
   obtain rfl := Option.some.inj H0
   exact Zpa rfl hst hb (Zi (s := 4)) (Zi (s := 5)) (hst.at 1 rfl) (hst.at 0 rfl)
 · replace H0 := Zr hc1 H0
   refine wp_skip ?_
   refine Zn ?_
   refine wp_seq ?_
   obtain ⟨r2, h3, H0⟩ := Zh H0
   refine r_s (L := [(1, _), (2, _)]) (T := [⟨[.old 1], _, [], [], [19]⟩, ⟨[.op 0 0], _, [], [0], [20]⟩, ⟨[.op 1 0], _, [], [0, 1], [6]⟩]) (F := [.old 0, .old 1, .op 2 0]) (hst.pick [0, 1] rfl) hb Za
     (o_p rfl (Zg Z4 rfl rfl u_0) <| o_p rfl (Zs Zo2 (Zh2 _ h3) rfl rfl (.cons u_0 .nil)) <| o_p rfl (Zb rfl rfl u_0) <| o_n) (by kernel_rfl) (fun a g hst hb => ?_)
   refine r_s (T := [⟨[.old 2], _, [], [], [21]⟩, ⟨[.op 0 0], _, [], [0], [22]⟩]) (F := [.old 0, .old 1, .old 2, .op 1 0]) hst hb Za
     (o_p rfl (Zc rfl rfl u_0) <| o_p rfl (Zcv rfl rfl u_0 c_i) <| o_n) (by kernel_rfl) (fun a g hst hb => ?_)
   refine wp_cond_split (hst.bool 3 rfl) (fun hc4 => ?_) (fun hc4 => ?_)
   · replace H0 := Zp hc4 H0
     refine r_s (L := [(6, _)]) (T := [⟨[.old 0], _, [], [], [23]⟩, ⟨[], [(4, (pEq (.pointer none)))], [], [], [4]⟩, ⟨[.op 0 0], _, [], [0, 1], [5]⟩]) (F := [.op 1 0, .op 2 0]) (hst.pick [2] rfl) hb Za
       (o_p rfl (Zc rfl rfl u_0) <| o_p rfl (Zb rfl rfl (Opd.c (fun g => Zm6 g))) <| o_p rfl (Zb rfl rfl u_0) <| o_n) (by kernel_rfl) (fun a g hst hb => ?_)
     refine wp_ret ?_
     refine Zk ?_
     obtain rfl := Option.some.inj H0
     exact Zpa rfl hst hb (Zi (s := 4)) (Zi (s := 5)) (hst.at 1 rfl) (hst.at 0 rfl)
   · replace H0 := Zr hc4 H0
     refine wp_skip ?_
     refine Zn ?_
     refine wp_seq ?_
     obtain ⟨r5, h6, H0⟩ := Zh H0
     refine r_s (L := [(1, _), (2, _)]) (T := [⟨[.old 1], _, [], [], [25]⟩, ⟨[.op 0 0], _, [], [0], [26]⟩, ⟨[.op 1 0], _, [], [0, 1], [24]⟩, ⟨[.op 2 0], _, [], [0, 1, 2], [27]⟩, ⟨[.op 2 0], _, [], [0, 1, 2], [28]⟩, ⟨[], [(7, (pBox Zf 7 (default : Zd)))], [8], [], [7]⟩, ⟨[.op 3 0, .op 5 0], _, [8], [0, 1, 2, 3, 5], [7]⟩, ⟨[.op 4 0], _, [], Lr 7, [8]⟩]) (F := [.old 0, .old 1, .op 7 0]) (hst.pick [0, 1] rfl) hb Za
       (o_p rfl (Zg Z4 rfl rfl u_0) <| o_p rfl (Zs Zrx (Zia _ h6) rfl rfl (.cons u_0 .nil)) <| o_p rfl (Zc rfl rfl u_0) <| o_p rfl (Z9 rfl rfl u_0 rfl) <| o_p rfl (Z9 rfl rfl u_0 rfl) <| o_p rfl (Zbj (zs := [.int .i64 0, .int .i64 0, .int .i64 0, .int .i64 0, .float .f64 0, .int .i64 0, .string ByteArray.empty, .slice none 0 0]) (by kernel_rfl) (fun g => Zbr g) rfl rfl) <| o_p rfl (Zb4 Z4 rfl rfl u_1 u_0) <| o_p rfl (Zb rfl rfl u_0) <| o_n) (by kernel_rfl) (fun a g hst hb => ?_)
     refine r_s (T := [⟨[.old 2], _, [], [], [29]⟩, ⟨[.op 0 0], _, [], [0], [30]⟩]) (F := [.old 0, .old 1, .op 1 0]) hst hb Za
       (o_p rfl (Zc rfl rfl u_0) <| o_p rfl (Zb7 rfl rfl u_0) <| o_n) (by kernel_rfl) (fun a g hst hb => ?_)
     refine wp_cond_split (hst.bool 2 rfl) (fun hc7 => ?_) (fun hc7 => ?_)
     · replace H0 := Zp hc7 H0
       refine r_s (L := []) (T := [⟨[], [(4, (pEq (.pointer none)))], [], [], [4]⟩, ⟨[], _, [], [0], [5]⟩]) (F := [.op 0 0, .op 1 0]) (hst.pick [] rfl) hb Za
         (o_p rfl (Zb rfl rfl (Opd.c (fun g => Zm6 g))) <| o_p rfl (Zb rfl rfl c_i) <| o_n) (by kernel_rfl) (fun a g hst hb => ?_)
       refine wp_ret ?_
       refine Zk ?_
       obtain rfl := Option.some.inj H0
       exact Zpa rfl hst hb (Zi (s := 4)) (Zi (s := 5)) (hst.at 1 rfl) (hst.at 0 rfl)
     · replace H0 := Zr hc7 H0
       refine wp_skip ?_
       refine Zn ?_
       obtain ⟨r8, h9, H0⟩ := Zh H0
       refine r_s (L := [(1, _), (2, _)]) (T := [⟨[.old 1], _, [], [], [31]⟩, ⟨[.op 0 0], _, [], [0], [32]⟩, ⟨[.op 1 0], _, [], [0, 1], [33]⟩, ⟨[.op 2 0], [(34, (Zfj none Zbf Zbh hpT 34 ({ r := r8, by_ := ([] : List Zx) } : Zw))), (1002, (pBT Zbf Zbh Zbt Z2 96 34 534 ({ r := r8, by_ := ([] : List Zx) } : Zw)))], [35], [0, 1, 2], [34, 1002]⟩, ⟨[.op 3 0], _, [], Lr 4, [9]⟩]) (F := [.old 0, .old 1, .op 4 0, .op 3 1]) (hst.pick [0, 1] rfl) hb Za
         (o_p rfl (Zg Z4 rfl rfl u_0) <| o_p rfl (Zs Zks (Ze6 _ h9) rfl rfl (.cons u_0 .nil)) <| o_p rfl (Zvs rfl rfl u_0) <| o_p rfl (Zwz rfl rfl rfl u_0) <| o_p rfl (Zb rfl rfl u_0) <| o_n) (by kernel_rfl) (fun a g hst hb => ?_)
       obtain ⟨r10, h11, H0⟩ := Zh H0
       refine r_s (T := [⟨[.old 1], _, [], [], [36]⟩, ⟨[.op 0 0], _, [], [0], [37]⟩, ⟨[.op 1 0], _, [], [0, 1], [35]⟩, ⟨[.op 2 0], _, [], [0, 1, 2], [38]⟩, ⟨[.op 2 0], _, [], [0, 1, 2], [39]⟩, ⟨[], [(10, (pBox Z2 10 (default : Zx)))], [11], [], [10]⟩, ⟨[.op 3 0, .op 5 0], _, [11], [0, 1, 2, 3, 5], [10]⟩, ⟨[.op 4 0], _, [], Lr 7, [11]⟩]) (F := [.old 0, .old 2, .op 6 0, .old 3]) hst hb Za
         (o_p rfl (Zg Z4 rfl rfl u_0) <| o_p rfl (Zs Zzd (Zou _ h11) rfl rfl (.cons u_0 .nil)) <| o_p rfl (Zc rfl rfl u_0) <| o_p rfl (Z9 rfl rfl u_0 rfl) <| o_p rfl (Z9 rfl rfl u_0 rfl) <| o_p rfl (Zbj (zs := [.int .u64 0, .int .u64 0]) (by kernel_rfl) (fun g => Zgj g) rfl rfl) <| o_p rfl (Zb4 Zc8 rfl rfl u_1 u_0) <| o_p rfl (Zb rfl rfl u_0) <| o_n) (by kernel_rfl) (fun a g hst hb => ?_)
       refine wp_seq ?_
       refine r_s (T := [⟨[.old 0], _, [], [], [40]⟩, ⟨[], _, [], [], [41]⟩]) (F := [.old 0, .old 1, .old 2, .op 0 0, .op 1 0, .old 3]) hst hb Za
         (o_p rfl (Zc rfl rfl u_0) <| o_p rfl (Zc rfl rfl c_i) <| o_n) (by kernel_rfl) (fun a g hst hb => ?_)
       obtain ⟨z21, hz1, H0⟩ := Zh H0
       refine Zcf (fun a w => ∃ (y20 : Zw) (g : G), w = g.w ∧ St 66 [(9, (Zfj none Zbf Zbh hpT 34 y20)), (1002, (pBT Zbf Zbh Zbt Z2 96 34 534 y20))] a g ∧ Base g0 g ∧ y20 = z21) ?_ ?_
       · rintro a w ⟨y20, g, rfl, hst, hb, rfl⟩
         refine Zn ?_
         refine r_s (T := [⟨[.old 0], _, [], [], [65]⟩, ⟨[.op 0 0], _, [], [0], [4]⟩, ⟨[], _, [], [0, 1], [5]⟩]) (F := [.op 1 0, .op 2 0, .old 1]) hst hb Za
           (o_p rfl (Zc rfl rfl u_0) <| o_p rfl (Zb rfl rfl u_0) <| o_p rfl (Zb rfl rfl c_i) <| o_n) (by kernel_rfl) (fun a g hst hb => ?_)
         refine wp_ret ?_
         obtain rfl := Option.some.inj H0
         exact Zpa rfl hst hb (Zi (s := 4)) (Zi (s := 5)) (hst.at 1 rfl) ⟨34, 534, by decide, Zre (hst.at 0 rfl) (hst.at 2 rfl)⟩
       · refine wp_block ?_
         refine wp_loop_ghost (fun n a w => ∃ (x12 : Zw) (x13 : Int) (g : G), w = g.w ∧ St 66 [(1, (pInt .i64 a1)), (9, (Zfj none Zbf Zbh hpT 34 x12)), (10, (Z2.ptr r10.1)), (40, (pInt .i64 a1)), (41, (pInt .i64 x13)), (1002, (pBT Zbf Zbh Zbt Z2 96 34 534 x12))] a g ∧ Base g0 g ∧ Zgt a1 r10 n x12 x13 = some z21) (Int.toNat (a1 - (0 : Int)) + 1) ⟨({ r := r8, by_ := ([] : List Zx) } : Zw), (0 : Int), g, rfl, (hst.pick [0, 1, 2, 3, 4, 5] rfl), hb, hz1⟩ (fun n a w hI => ?_)
         obtain ⟨x12, x13, g, rfl, hst, hb, H1⟩ := hI
         cases n with
         | zero => exact absurd H1 (by simp [Zgt])
         | succ n =>
           rw [Zgt] at H1
           refine r_s (T := [⟨[.old 4, .old 3], _, [], [], [42]⟩]) (F := [.old 0, .old 1, .old 2, .old 3, .old 4, .op 0 0, .old 5]) hst hb Za
             (o_p rfl (Zce rfl rfl u_0 u_1) <| o_n) (by kernel_rfl) (fun a g hst hb => ?_)
           refine wp_seq ?_
           refine wp_cond_split (hst.bool 5 rfl) (fun hc14 => ?_) (fun hc14 => ?_)
           · replace H1 := Zp hc14 H1
             refine wp_skip ?_
             refine Zn ?_
             refine wp_seq ?_
             refine wp_block ?_
             refine r_s (L := [(1, _), (9, _), (10, _), (40, _), (41, _), (1002, _)]) (T := [⟨[.old 4], _, [], [], [43]⟩, ⟨[.op 0 0], _, [], [0], [12]⟩]) (F := [.old 0, .old 1, .old 2, .op 1 0, .old 3, .old 4, .old 5]) (hst.pick [0, 1, 2, 3, 4, 6] rfl) hb Za
               (o_p rfl (Zc rfl rfl u_0) <| o_p rfl (Zb rfl rfl u_0) <| o_n) (by kernel_rfl) (fun a g hst hb => ?_)
             obtain ⟨r15, h16, H1⟩ := Zh H1; obtain ⟨r17, h18, H1⟩ := Zh H1; obtain ⟨h19, H1⟩ := Zh4 H1
             refine r_g (T := ⟨[.old 1], _, [], [], [44]⟩ :: ⟨[.old 1], _, [], [], [45]⟩ :: ⟨[.op 1 0], _, [], [1], [46]⟩ :: ⟨[.op 2 0, .old 6], _, [], [1, 2], [47]⟩ :: ⟨[.op 3 0], _, [], [1, 2, 3], [48]⟩ :: ⟨[.old 2], _, [], [], [49]⟩ :: ⟨[.op 5 0], _, [], [5], [50]⟩ :: ⟨[.old 3], _, [], [], [51]⟩ :: ⟨[.old 0], _, [], [], [52]⟩ :: ⟨[.op 6 0, .op 7 0, .op 8 0], _, [], List.range' 5 4, [53]⟩ :: ⟨[.old 2], _, [], [], [54]⟩ :: ⟨[.op 10 0], _, [], [10], [55]⟩ :: ⟨[.old 3], _, [], [], [56]⟩ :: ⟨[.old 0], _, [], [], [57]⟩ :: ⟨[.op 11 0, .op 12 0, .op 13 0], _, [], List.range' 5 9, [58]⟩ :: ⟨[.op 9 0, .op 14 0], _, [], List.range' 5 10, [59]⟩ :: ⟨[.op 15 0], _, [], List.range' 5 11, [60]⟩ :: ⟨[.op 4 0, .op 16 0], _, [535], List.range' 1 16, [47, 48, 61, 1002]⟩ :: ⟨[.op 0 0], _, [], Lr 18, [62]⟩ :: ⟨[.op 18 0], _, [], Lr 19, [63]⟩ :: ⟨[.op 17 0, .op 19 0, .old 1], [(9, (Zfj none Zbf Zbh hpT 34 ({ x12 with by_ := (x12.by_ ++ ([({ up := r15, down := r17 } : Zx)] : List Zx)) } : Zw))), (1002, (pBT Zbf Zbh Zbt Z2 96 34 534 ({ x12 with by_ := (x12.by_ ++ ([({ up := r15, down := r17 } : Zx)] : List Zx)) } : Zw)))], [35], Lr 20, [9, 44, 45, 46, 47, 62, 63, 1002]⟩ :: []) (F := [.old 0, .op 20 0, .old 2, .old 4, .old 5, .op 20 1]) hst hb Za
               (o_p rfl (Zc rfl rfl u_0) <| o_p rfl (Zc rfl rfl u_0) <| o_p rfl (Z7 rfl rfl u_0 (fun _ _ ⟨_, ⟨_, _, _, e, _⟩, _⟩ => ⟨_, e⟩)) <| o_p rfl (Ziq Zi8 (off := 8) (q := (pArr Z2 96 534 (Zbt x12))) (by kernel_rfl) (pr := id) (fun _ => rfl) (fun _ _ h => h) rfl rfl (Opd.joinT u_0 u_1)) <| o_p rfl (Zkl Zln rfl rfl u_0) <| o_p rfl (Ze Zg0 rfl rfl u_0) <| o_p rfl (Zg Zfw rfl rfl u_0) <| o_p rfl (Zc rfl rfl u_0) <| o_p rfl (Zc rfl rfl u_0) <| o_p rfl (Zs Zvc (Zk0 _ _ _ h16) rfl rfl (.cons u_0 (.cons u_1 (.cons u_2 .nil)))) <| o_p rfl (Ze Zh9 rfl rfl u_0) <| o_p rfl (Zg Zfw rfl rfl u_0) <| o_p rfl (Zc rfl rfl u_0) <| o_p rfl (Zc rfl rfl u_0) <| o_p rfl (Zs Zvc (Zk0 _ _ _ h18) rfl rfl (.cons u_0 (.cons u_1 (.cons u_2 .nil)))) <| o_p rfl (Zla rfl rfl u_0 u_1) <| o_p rfl (Zh1 Zuu (xs := [.tmp 59]) (.cons u_0 .nil) (by decide) rfl rfl) <| o_p rfl (Zsb Zuu rfl rfl u_0 u_1 (by simp) h19) <| o_p rfl (Z7 rfl rfl u_0 (fun _ _ ⟨_, ⟨_, _, _, e, _⟩, _⟩ => ⟨_, e⟩)) <| o_p rfl (Ziq Zi8 (off := 8) (q := pAny) (by kernel_rfl) (pr := id) (fun _ => rfl) (fun _ _ _ => trivial) rfl rfl u_0) <| o_p rfl (OB.bxT (Zsy (x' := ({ x12 with by_ := (x12.by_ ++ ([({ up := r15, down := r17 } : Zx)] : List Zx)) } : Zw)) (R2 := hpL (pArr Z2 96 534 (Zbt ({ x12 with by_ := (x12.by_ ++ ([({ up := r15, down := r17 } : Zx)] : List Zx)) } : Zw)))) (upd := fun _ s2 => s2) Zln rfl rfl (fun _ _ h => Zwb h) (fun k hk => by rw [List.mem_singleton.1 hk]; decide) (fun k hk => by cases hk) u_2 (fun a g hh => Zv7 (u_1 a g hh)) u_0 (fun _ _ _ _ h => h) (fun g cs s0 s1 ys h k => Zmb h k))) <| o_n) (by kernel_rfl) (fun a g hst hb => ?_)
             refine Zbe ?_
             refine Zn ?_
             refine r_g (T := [⟨[.old 4], _, [], [], [64]⟩, ⟨[.op 0 0], _, [], [0], [41]⟩]) (F := [.old 0, .old 1, .old 2, .old 3, .op 1 0, .old 5]) hst hb Za
               (o_p rfl (Zcq rfl rfl u_0 c_i rfl) <| o_p rfl (Zc rfl rfl u_0) <| o_n) (by kernel_rfl) (fun a g hst hb => ?_)
             exact ⟨n, Nat.lt_succ_self _, ({ x12 with by_ := (x12.by_ ++ ([({ up := r15, down := r17 } : Zx)] : List Zx)) } : Zw), (IntKind.i64.wrap (x13 + (1 : Int))), g, rfl, (hst.pick [0, 1, 2, 3, 4, 5] rfl), hb, H1⟩
           · replace H1 := Zr hc14 H1
             refine wp_exit ?_
             refine Zcg ?_
             refine Zcg ?_
             refine Zc4 ?_
             exact ⟨x12, g, rfl, (hst.pick [1, 6] rfl), hb, Option.some.inj H1⟩
theorem Zjw (a0 : Zw) (a1 : Int) {r : Int × Int} (h : Zd4 a0 a1 = some r) : FnOk Tryd.prog 27 [(Zd9.ptr a0), (pInt .i64 a1)] (pTup [(pInt .u64 r.1), (pInt .u64 r.2)]) := by
 have H0 := h
 unfold Zd4 at H0
 clear h
 refine Zbo (N := 33) Tryd.func27 rfl rfl (Nat.le_of_ble_eq_true rfl) rfl rfl (fun a g0 hst hb => ?_)
 refine r_s (T := [⟨[], _, [], [], [4]⟩, ⟨[], _, [], [0], [5]⟩]) (F := [.old 0, .old 1]) hst hb Za
   (o_p rfl (Zb rfl rfl c_i) <| o_p rfl (Zb rfl rfl c_i) <| o_n) (by kernel_rfl) (fun a g hst hb => ?_)
 refine wp_seq ?_
 refine r_s (T := [⟨[.old 1], _, [], [], [6]⟩, ⟨[.op 0 0], _, [], [0], [7]⟩, ⟨[.op 1 0], _, [], [0, 1], [8]⟩, ⟨[.op 2 0, .old 1], _, [], [0, 1, 2], [9]⟩, ⟨[.op 2 0, .old 0], _, [], [0, 1, 2], [10]⟩, ⟨[.op 2 0, .op 4 0], _, [], [0, 1, 2, 4], [11]⟩, ⟨[.op 2 0, .op 5 0], _, [], [0, 1, 2, 4, 5], [12]⟩, ⟨[.op 2 0, .op 6 0], _, [], [0, 1, 2, 4, 5, 6], [13]⟩, ⟨[.op 2 0, .op 7 0], _, [], [0, 1, 2, 4, 5, 6, 7], [14]⟩, ⟨[.op 2 0, .op 3 0, .op 8 0], _, [], Lr 9, [15]⟩, ⟨[.op 2 0, .op 9 0], _, [], Lr 10, [16]⟩]) (F := [.old 0, .old 1, .op 10 0]) hst hb Za
   (o_p rfl (Zc rfl rfl u_0) <| o_p rfl (Zce rfl rfl u_0 c_i) <| o_p rfl (Zc rfl rfl u_0) <| o_g (g_f rfl rfl rfl (fun hG => Zc rfl rfl u_0)) <| o_g (g_f rfl rfl rfl (fun hG => Zc rfl rfl u_0)) <| o_g (g_f rfl rfl rfl (fun hG => Z7 rfl rfl (Opd.gd hG u_0) (fun _ _ ⟨_, _, _, e, _⟩ => ⟨_, e⟩))) <| o_g (g_f rfl rfl rfl (fun hG => Ze Zno rfl rfl (Opd.gd hG u_0))) <| o_g (g_f rfl rfl rfl (fun hG => Zg Zr9 rfl rfl (Opd.gd hG u_0))) <| o_g (g_f rfl rfl rfl (fun hG => Zca Tryd.underlying92 rfl rfl (Opd.gd hG u_0))) <| o_g (g_f rfl rfl rfl (fun hG => Zl0 rfl rfl (Opd.gd hG u_0) (Opd.gd hG u_1))) <| o_p rfl (Zbg rfl rfl u_0 (fun hz => (Opd.gd (bNF hz) u_1))) <| o_n) (by kernel_rfl) (fun a g hst hb => ?_)
 refine wp_cond_split (hst.bool 2 rfl) (fun hc1 => ?_) (fun hc1 => ?_)
 · replace H0 := Zp hc1 H0
   refine r_s (L := []) (T := [⟨[], _, [], [], [4]⟩, ⟨[], _, [], [0], [5]⟩]) (F := [.op 0 0, .op 1 0]) (hst.pick [] rfl) hb Za
     (o_p rfl (Zb rfl rfl c_i) <| o_p rfl (Zb rfl rfl c_i) <| o_n) (by kernel_rfl) (fun a g hst hb => ?_)
   refine wp_ret ?_
   refine Zk ?_
   obtain rfl := Option.some.inj H0
   exact Zef rfl hst hb (Zi (s := 4)) (Zi (s := 5)) (Zdi (hst.at 0 rfl) (hst.at 1 rfl))
 · replace H0 := Zr hc1 H0
   refine wp_skip ?_
   refine Zn ?_
   obtain ⟨e2, h3, H0⟩ := Zh H0; obtain ⟨e4, h5, H0⟩ := Zh H0
   refine r_s (L := [(0, _), (1, _)]) (T := ⟨[.old 0], _, [], [], [17]⟩ :: ⟨[.op 0 0], _, [], [0], [18]⟩ :: ⟨[.op 1 0], _, [], [0, 1], [19]⟩ :: ⟨[.op 2 0], _, [], [0, 1, 2], [20]⟩ :: ⟨[.old 1], _, [], [], [21]⟩ :: ⟨[.op 3 0, .op 4 0], _, [], Lr 5, [22]⟩ :: ⟨[.op 5 0], _, [], Lr 6, [23]⟩ :: ⟨[.op 6 0], _, [], Lr 7, [24]⟩ :: ⟨[.old 0], _, [], [], [25]⟩ :: ⟨[.op 8 0], _, [], [8], [26]⟩ :: ⟨[.op 9 0], _, [], [8, 9], [27]⟩ :: ⟨[.op 10 0], _, [], [8, 9, 10], [28]⟩ :: ⟨[.old 1], _, [], [], [29]⟩ :: ⟨[.op 11 0, .op 12 0], _, [], List.range' 8 5, [30]⟩ :: ⟨[.op 13 0], _, [], List.range' 8 6, [31]⟩ :: ⟨[.op 14 0], _, [], List.range' 8 7, [32]⟩ :: ⟨[.op 7 0], _, [], Lr 8, [4]⟩ :: ⟨[.op 15 0], _, [], Lr 17, [5]⟩ :: []) (F := [.op 16 0, .op 17 0]) (hst.pick [0, 1] rfl) hb Za
     (o_p rfl (Zc rfl rfl u_0) <| o_p rfl (Z7 rfl rfl u_0 (fun _ _ ⟨_, _, _, e, _⟩ => ⟨_, e⟩)) <| o_p rfl (Ze Zno rfl rfl u_0) <| o_p rfl (Zg Zr9 rfl rfl u_0) <| o_p rfl (Zc rfl rfl u_0) <| o_p rfl (Zbn Tryd.underlying92 Zo7 rfl rfl u_0 u_1 h3) <| o_p rfl (Ze Zg0 rfl rfl u_0) <| o_p rfl (Zg Zfw rfl rfl u_0) <| o_p rfl (Zc rfl rfl u_0) <| o_p rfl (Z7 rfl rfl u_0 (fun _ _ ⟨_, _, _, e, _⟩ => ⟨_, e⟩)) <| o_p rfl (Ze Zno rfl rfl u_0) <| o_p rfl (Zg Zr9 rfl rfl u_0) <| o_p rfl (Zc rfl rfl u_0) <| o_p rfl (Zbn Tryd.underlying92 Zo7 rfl rfl u_0 u_1 h5) <| o_p rfl (Ze Zh9 rfl rfl u_0) <| o_p rfl (Zg Zfw rfl rfl u_0) <| o_p rfl (Zb rfl rfl u_0) <| o_p rfl (Zb rfl rfl u_0) <| o_n) (by kernel_rfl) (fun a g hst hb => ?_)
   refine wp_ret ?_
   obtain rfl := Option.some.inj H0
   exact Zef rfl hst hb (Zi (s := 4)) (Zi (s := 5)) (Zdi (hst.at 0 rfl) (hst.at 1 rfl))
theorem Zkc (a0 : Zw) (a1 : Int) {r : Int × Int} (h : Zd4 a0 a1 = some r) : FnL Tryd.prog 27 [(Zd9.ptr a0), (pInt .i64 a1)] (pTup [(pInt .u64 r.1), (pInt .u64 r.2)]) := FnL.of (Zjw a0 a1 h) Zti
theorem Zht (a0 : Zw) (a1 : Int) {r : Int × Int} (h : Zd4 a0 a1 = some r) : FnM Tryd.prog 27 Zc7 a0 a0 [(pInt .i64 a1)] (pTup [(pInt .u64 r.1), (pInt .u64 r.2)]) := Ztr Zjo (Zkc a0 a1 h) rfl
end Go.CL
