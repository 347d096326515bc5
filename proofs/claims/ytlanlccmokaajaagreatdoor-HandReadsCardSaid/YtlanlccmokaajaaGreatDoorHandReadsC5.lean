/- A part of the proof of HandReads. -/
import Derived.Test.YtlanlccmokaajaaGreatDoorHandReadsC4
set_option linter.unusedVariables false
set_option linter.unusedSimpArgs false
set_option maxRecDepth 100000
namespace Go.CL
open Go Go.RowKit Go.Proofs
theorem Zj0 (a0 : Zu) (a1 : Zl) {r : Zl × (List Zs)} (h : Zd6 a0 a1 = some r) : FnMR Tryz.prog 15 Zci a0 a0 [(Zw.pd a1)] (pTup [(Zw.pd r.1), (Zy.sl.pd r.2)]) := by
 have H0 := h
 unfold Zd6 at H0
 clear h
 refine Zru (N := 116) Tryz.func15 rfl rfl (Nat.le_of_ble_eq_true rfl) rfl rfl (fun a g0 b0 hst hb => ?_)
 replace hst : St 116 [(0, (pEq (ptrB b0 0))), (1, (Zw.pd a1)), (1002, (pSJ Zbf Zbz (hpL (pRow Zn 68 1000000 (Zda a0))) 0 b0 a0))] _ _ := Zpq hst
 refine r_s (T := [⟨[.old 1], _, [4], [], [3]⟩, ⟨[], [(4, (pBox Zw 4 (default : Zl)))], [5], [], [4]⟩, ⟨[], [(5, (Zy.sl.pd ([] : List Zs)))], [], [], [5]⟩]) (F := [.old 0, .op 0 0, .op 1 0, .old 2]) hst hb Zb
   (o_p rfl (Zmn rfl rfl u_0) <| o_p rfl (Zbk (zs := [.pointer none, .int .i64 0]) (by kernel_rfl) (fun g => Zdq g) rfl rfl) <| o_p rfl (Zc rfl rfl (Opd.c (fun g => Zgn g))) <| o_n) (by kernel_rfl) (fun a g hst hb => ?_)
 refine r_s (T := [⟨[], [(6, (pRow Zy 40 6 ([] : List Zs)))], [], [], [6]⟩]) (F := [.old 0, .old 1, .old 2, .op 0 0, .old 3]) hst hb Zb
   (o_p rfl (Zc rfl rfl (Opd.c (fun g => Zn5 6 g))) <| o_n) (by kernel_rfl) (fun a g hst hb => ?_)
 refine wp_seq ?_
 refine r_s (T := ⟨[.old 0], _, [], [], [18]⟩ :: ⟨[.op 0 0], _, [], [0], [19]⟩ :: ⟨[.op 1 0], _, [], [0, 1], [20]⟩ :: ⟨[.op 2 0, .old 4], _, [], [0, 1, 2], [21]⟩ :: ⟨[.op 3 0], _, [], Lr 4, [22]⟩ :: ⟨[.op 4 0], _, [], Lr 5, [23]⟩ :: ⟨[.op 5 0, .old 0], _, [], Lr 6, [24]⟩ :: ⟨[.op 5 0, .op 6 0], _, [], Lr 7, [25]⟩ :: ⟨[.op 5 0, .op 7 0], _, [], Lr 8, [26]⟩ :: ⟨[.op 5 0, .op 8 0], _, [], Lr 9, [27]⟩ :: ⟨[.op 5 0, .op 9 0, .old 4], _, [], Lr 10, [28]⟩ :: ⟨[.op 5 0, .op 10 0], _, [], Lr 11, [29]⟩ :: ⟨[.op 5 0, .op 11 0], _, [], Lr 12, [30]⟩ :: []) (F := [.old 0, .old 1, .old 2, .old 3, .op 12 0, .old 4]) hst hb Zb
   (o_p rfl (Za rfl rfl u_0) <| o_p rfl (Zm rfl rfl u_0 (fun _ _ h => ⟨_, h⟩)) <| o_p rfl (Zb0 Zmi rfl rfl u_0) <| o_p rfl (Zez (u := a0.over) ty_4 (fun g s cs h _ => kp_4 h) rfl rfl u_1 u_0) <| o_p rfl (Zcg rfl rfl u_0) <| o_p rfl (Za rfl rfl u_0) <| o_g (g_f rfl rfl rfl (fun hG => Za rfl rfl u_0)) <| o_g (g_f rfl rfl rfl (fun hG => Zm rfl rfl (Opd.gd hG u_0) (fun _ _ h => ⟨_, h⟩))) <| o_g (g_f rfl rfl rfl (fun hG => Zb0 Zme rfl rfl (Opd.gd hG u_0))) <| o_g (g_f rfl rfl rfl (fun hG => Zb0 Z6v rfl rfl (Opd.gd hG u_0))) <| o_g (g_f rfl rfl rfl (fun hG => Zez (u := a0.out.Code) Zt4 (fun g s cs h _ => Z2w h) rfl rfl u_1 (Opd.gd hG u_0))) <| o_g (g_f rfl rfl rfl (fun hG => Zg9 rfl rfl (Opd.gd hG u_0) c_i)) <| o_p rfl (Zbu rfl rfl u_0 (fun hz => (Opd.gd (bNF hz) u_1))) <| o_n) (by kernel_rfl) (fun a g hst hb => ?_)
 refine wp_cond_split (hst.bool 4 rfl) (fun hc1 => ?_) (fun hc1 => ?_)
 · replace H0 := Zz hc1 H0
   refine r_s (L := [(0, _), (3, _), (4, _), (1002, _)]) (T := [⟨[.old 1], _, [], [], [31]⟩, ⟨[.op 0 0, .old 2], _, [5], [0], [4]⟩, ⟨[], [(5, (Zy.sl.pd ([] : List Zs)))], [], [0, 1], [5]⟩]) (F := [.old 0, .op 1 0, .op 2 0, .old 3]) (hst.pick [0, 1, 2, 5] rfl) hb Zb
     (o_p rfl (Zck Zbn rfl rfl u_0) <| o_p rfl (Zba Zbn rfl rfl u_1 u_0) <| o_p rfl (Zc rfl rfl (Opd.c (fun g => Zgn g))) <| o_n) (by kernel_rfl) (fun a g hst hb => ?_)
   refine wp_ret ?_
   refine Zt ?_
   obtain rfl := Option.some.inj H0
   obtain ⟨u0, hu0, hq0⟩ := Zbl (P := Tryz.prog) Zbn (hst.at 1 rfl)
   exact Zth rfl hst hb hu0 (Zk (s := 5)) (Zdx hq0 (hst.at 2 rfl)) (hst.at 3 rfl)
 · replace H0 := Z0 hc1 H0
   refine wp_skip ?_
   refine Zv ?_
   refine r_s (L := [(0, _), (3, _), (4, _), (6, _), (1002, _)]) (T := [⟨[], [(7, (pRow Kd.str 9 7 ([] : List ByteArray)))], [], [], [7]⟩]) (F := [.old 0, .old 1, .old 2, .old 3, .op 0 0, .old 4]) (hst.pick [0, 1, 2, 3, 5] rfl) hb Zb
     (o_p rfl (Zc rfl rfl (Opd.c (fun g => Zn5 7 g))) <| o_n) (by kernel_rfl) (fun a g hst hb => ?_)
   refine wp_seq ?_
   refine r_s (T := [⟨[.old 0], _, [], [], [32]⟩, ⟨[.op 0 0], _, [], [0], [33]⟩, ⟨[.op 1 0], _, [], [0, 1], [34]⟩, ⟨[.op 2 0], _, [], [0, 1, 2], [35]⟩, ⟨[.op 3 0, .old 5], _, [], Lr 4, [36]⟩, ⟨[.op 4 0], _, [], Lr 5, [37]⟩, ⟨[], _, [], [], [38]⟩]) (F := [.old 0, .old 1, .old 2, .old 3, .old 4, .op 4 0, .op 5 0, .op 6 0, .old 5]) hst hb Zb
     (o_p rfl (Za rfl rfl u_0) <| o_p rfl (Zm rfl rfl u_0 (fun _ _ h => ⟨_, h⟩)) <| o_p rfl (Zb0 Zu1 rfl rfl u_0) <| o_p rfl (Zb0 Zuj rfl rfl u_0) <| o_p rfl (Zez (u := a0.d.Acts) Zmr (fun g s cs h _ => Zxp h) rfl rfl u_1 u_0) <| o_p rfl (Zce Tryz.underlying23 rfl rfl u_0) <| o_p rfl (Za rfl rfl c_i) <| o_n) (by kernel_rfl) (fun a g hst hb => ?_)
   obtain ⟨z20, hz1, H0⟩ := Zg H0
   refine Zcs (fun a w => ∃ (y18 : List Zs) (y19 : List ByteArray) (g : G), w = g.w ∧ St 116 [(0, (pEq (ptrB b0 0))), (3, (pBox Zw 3 a1)), (4, (pBox Zw 4 (default : Zl))), (6, (pRow Zy 40 6 y18)), (7, (pRow Kd.str 9 7 y19)), (1002, (pSJ Zbf Zbz (hpL (pRow Zn 68 1000000 (Zda a0))) 0 b0 a0))] a g ∧ Base g0 g ∧ (y18, y19) = z20) ?_ ?_
   · rintro a w ⟨y18, y19, g, rfl, hst, hb, rfl⟩
     refine Zv ?_
     refine wp_seq ?_
     refine r_s (T := [⟨[.old 4], _, [], [], [63]⟩, ⟨[.op 0 0], _, [], [0], [64]⟩, ⟨[], _, [], [], [65]⟩]) (F := [.old 0, .old 1, .old 2, .old 3, .old 4, .op 0 0, .op 1 0, .op 2 0, .old 5]) hst hb Zb
       (o_p rfl (Za rfl rfl u_0) <| o_p rfl (Zce Tryz.underlying26 rfl rfl (Opd.imp u_0 (fun _ _ h => Zis h))) <| o_p rfl (Za rfl rfl c_i) <| o_n) (by kernel_rfl) (fun a g hst hb => ?_)
     obtain ⟨z33, hz2, H0⟩ := Zg H0
     refine Zcs (fun a w => ∃ (y32 : Zl) (g : G), w = g.w ∧ St 116 [(0, (pEq (ptrB b0 0))), (3, (pBox Zw 3 y32)), (4, (pBox Zw 4 (default : Zl))), (6, (pRow Zy 40 6 y18)), (7, (pRow Kd.str 9 7 y19)), (1002, (pSJ Zbf Zbz (hpL (pRow Zn 68 1000000 (Zda a0))) 0 b0 a0))] a g ∧ Base g0 g ∧ y32 = z33) ?_ ?_
     · rintro a w ⟨y32, g, rfl, hst, hb, rfl⟩
       refine Zv ?_
       refine wp_seq ?_
       refine r_s (T := [⟨[.old 4], _, [], [], [87]⟩, ⟨[.op 0 0], _, [], [0], [88]⟩, ⟨[], _, [], [], [89]⟩]) (F := [.old 0, .old 1, .old 2, .old 3, .op 0 0, .op 1 0, .op 2 0, .old 5]) hst hb Zb
         (o_p rfl (Za rfl rfl u_0) <| o_p rfl (Zce Tryz.underlying26 rfl rfl (Opd.imp u_0 (fun _ _ h => Zis h))) <| o_p rfl (Za rfl rfl c_i) <| o_n) (by kernel_rfl) (fun a g hst hb => ?_)
       obtain ⟨z46, hz3, H0⟩ := Zg H0
       refine Zcs (fun a w => ∃ (y45 : Zl) (g : G), w = g.w ∧ St 116 [(0, (pEq (ptrB b0 0))), (3, (pBox Zw 3 y45)), (4, (pBox Zw 4 (default : Zl))), (6, (pRow Zy 40 6 y18)), (1002, (pSJ Zbf Zbz (hpL (pRow Zn 68 1000000 (Zda a0))) 0 b0 a0))] a g ∧ Base g0 g ∧ y45 = z46) ?_ ?_
       · rintro a w ⟨y45, g, rfl, hst, hb, rfl⟩
         refine Zv ?_
         obtain ⟨r47, h48, H0⟩ := Zg H0
         refine r_s (T := [⟨[.old 1], _, [], [], [111]⟩, ⟨[.old 3], _, [], [], [112]⟩, ⟨[.op 1 0], _, [], [1], [113]⟩, ⟨[.op 2 0], _, [], [1, 2], [114]⟩, ⟨[.op 3 0], _, [], [1, 2, 3], [115]⟩, ⟨[.op 0 0, .old 2], _, [5], Lr 4, [4]⟩, ⟨[.op 4 0], _, [], Lr 6, [5]⟩]) (F := [.old 0, .op 5 0, .op 6 0, .old 4]) hst hb Zb
           (o_p rfl (Zck Zbn rfl rfl u_0) <| o_p rfl (Za rfl rfl u_0) <| o_p rfl (Z0l rfl rfl (Opd.imp u_0 (fun _ _ h => Zis h))) <| o_p rfl (Zq Z45 (Zp6 _ h48) rfl rfl (.cons u_0 .nil)) <| o_p rfl (Zyt Zkv rfl rfl u_0) <| o_p rfl (Zba Zbn rfl rfl u_1 u_0) <| o_p rfl (Zc rfl rfl u_0) <| o_n) (by kernel_rfl) (fun a g hst hb => ?_)
         refine wp_ret ?_
         obtain rfl := Option.some.inj H0
         obtain ⟨u0, hu0, hq0⟩ := Zbl (P := Tryz.prog) Zbn (hst.at 1 rfl)
         exact Zth rfl hst hb hu0 (Zk (s := 5)) (Zdx hq0 (hst.at 2 rfl)) (hst.at 3 rfl)
       · refine wp_block ?_
         refine wp_loop_ghost (fun n a w => ∃ (x34 : Zl) (x35 : Int) (g : G), w = g.w ∧ St 116 [(0, (pEq (ptrB b0 0))), (3, (pBox Zw 3 x34)), (4, (pBox Zw 4 (default : Zl))), (6, (pRow Zy 40 6 y18)), (87, (pRow Kd.str 9 7 y19)), (88, (pInt .i64 (y19.length : Int))), (89, (pInt .i64 x35)), (1002, (pSJ Zbf Zbz (hpL (pRow Zn 68 1000000 (Zda a0))) 0 b0 a0))] a g ∧ Base g0 g ∧ Zdi a0 y19 n x34 x35 = some z46) (Int.toNat ((y19.length : Int) - (0 : Int)) + 1) ⟨y32, (0 : Int), g, rfl, (hst.pick [0, 1, 2, 3, 4, 5, 6, 7] rfl), hb, hz3⟩ (fun n a w hI => ?_)
         obtain ⟨x34, x35, g, rfl, hst, hb, H1⟩ := hI
         cases n with
         | zero => exact absurd H1 (by simp [Zdi])
         | succ n =>
           rw [Zdi] at H1
           refine r_s (T := [⟨[.old 6, .old 5], _, [], [], [90]⟩]) (F := [.old 0, .old 1, .old 2, .old 3, .old 4, .old 5, .old 6, .op 0 0, .old 7]) hst hb Zb
             (o_p rfl (Zc0 rfl rfl u_0 u_1) <| o_n) (by kernel_rfl) (fun a g hst hb => ?_)
           refine wp_seq ?_
           refine wp_cond_split (hst.bool 7 rfl) (fun hc36 => ?_) (fun hc36 => ?_)
           · replace H1 := Zz hc36 H1
             refine wp_skip ?_
             refine Zv ?_
             refine wp_seq ?_
             refine Zcs (fun a w => ∃ (j44 : Zl) (g : G), w = g.w ∧ St 116 [(0, (pEq (ptrB b0 0))), (3, (pBox Zw 3 j44)), (4, (pBox Zw 4 (default : Zl))), (6, (pRow Zy 40 6 y18)), (87, (pRow Kd.str 9 7 y19)), (88, (pInt .i64 (y19.length : Int))), (89, (pInt .i64 x35)), (1002, (pSJ Zbf Zbz (hpL (pRow Zn 68 1000000 (Zda a0))) 0 b0 a0))] a g ∧ Base g0 g ∧ Zgk x35 (Zdi a0 y19 n) j44 = some z46) ?_ ?_
             · rintro a w ⟨j44, g, rfl, hst, hb, H1⟩
               unfold Zgk at H1
               refine Zv ?_
               refine r_g (T := [⟨[.old 6], _, [], [], [110]⟩, ⟨[.op 0 0], _, [], [0], [89]⟩]) (F := [.old 0, .old 1, .old 2, .old 3, .old 4, .old 5, .op 1 0, .old 7]) hst hb Zb
                 (o_p rfl (Zch rfl rfl u_0 c_i rfl) <| o_p rfl (Za rfl rfl u_0) <| o_n) (by kernel_rfl) (fun a g hst hb => ?_)
               exact ⟨n, Nat.lt_succ_self _, j44, (IntKind.i64.wrap (x35 + (1 : Int))), g, rfl, (hst.pick [0, 1, 2, 3, 4, 5, 6, 7] rfl), hb, H1⟩
             · refine wp_block ?_
               obtain ⟨e37, h38, H1⟩ := Zg H1
               refine r_s (L := [(0, _), (3, _), (4, _), (6, _), (87, _), (88, _), (89, _), (1002, _)]) (T := [⟨[.old 4, .old 6], _, [], [], [91]⟩, ⟨[.op 0 0], _, [], [0], [92]⟩, ⟨[.op 1 0], _, [], [0, 1], [15]⟩]) (F := [.old 0, .old 1, .old 2, .old 3, .op 2 0, .old 4, .old 5, .old 6, .old 7]) (hst.pick [0, 1, 2, 3, 4, 5, 6, 8] rfl) hb Zb
                 (o_p rfl (Zb4 Tryz.underlying26 sz_9 rfl rfl (Opd.imp u_0 (fun _ _ h => Zis h)) u_1 h38) <| o_p rfl (Zf ty_9 rfl rfl u_0) <| o_p rfl (Zc rfl rfl u_0) <| o_n) (by kernel_rfl) (fun a g hst hb => ?_)
               obtain ⟨r39, h40, H1⟩ := Zg H1
               refine r_s (T := ⟨[.old 0], _, [], [], [94]⟩ :: ⟨[.op 0 0], _, [], [0], [95]⟩ :: ⟨[.op 1 0], _, [], [0, 1], [96]⟩ :: ⟨[.op 2 0, .old 8], _, [], [0, 1, 2], [97]⟩ :: ⟨[.old 4], _, [], [], [98]⟩ :: ⟨[.op 3 0, .op 4 0], _, [], Lr 5, [99]⟩ :: ⟨[.op 5 0], _, [], Lr 6, [93]⟩ :: ⟨[.op 6 0], _, [], Lr 7, [100]⟩ :: ⟨[.op 6 0], _, [], Lr 7, [101]⟩ :: ⟨[], [(16, (pBox Zh 16 (default : Zd)))], [17], [], [16]⟩ :: ⟨[.op 7 0, .op 9 0], _, [17], [0, 1, 2, 3, 4, 5, 6, 7, 9], [16]⟩ :: ⟨[.op 8 0], _, [], Lr 11, [17]⟩ :: []) (F := [.old 0, .old 1, .old 2, .old 3, .old 4, .op 10 0, .op 11 0, .old 5, .old 6, .old 7, .old 8]) hst hb Zb
                 (o_p rfl (Za rfl rfl u_0) <| o_p rfl (Zm rfl rfl u_0 (fun _ _ h => ⟨_, h⟩)) <| o_p rfl (Zb0 Zrk rfl rfl u_0) <| o_p rfl (Zez (u := a0.now) Zbn (fun g s cs h _ => kp_2 h) rfl rfl u_1 u_0) <| o_p rfl (Za rfl rfl u_0) <| o_p rfl (Zq Zrv (Zfv _ _ h40) rfl rfl (.cons u_0 (.cons u_1 .nil))) <| o_p rfl (Za rfl rfl u_0) <| o_p rfl (Z4 rfl rfl u_0 rfl) <| o_p rfl (Z4 rfl rfl u_0 rfl) <| o_p rfl (Zbk (zs := [.int .i64 0, .int .i64 0, .int .i64 0, .int .i64 0, .float .f64 0, .int .i64 0, .string ByteArray.empty, .slice none 0 0]) (by kernel_rfl) (fun g => Zcd g) rfl rfl) <| o_p rfl (Zcb Zbh rfl rfl u_1 u_0) <| o_p rfl (Zc rfl rfl u_0) <| o_n) (by kernel_rfl) (fun a g hst hb => ?_)
               refine r_s (T := [⟨[.old 6], _, [], [], [102]⟩]) (F := [.old 0, .old 1, .old 2, .old 3, .old 4, .old 5, .old 7, .old 8, .old 9, .op 0 0, .old 10]) hst hb Zb
                 (o_p rfl (Za rfl rfl u_0) <| o_n) (by kernel_rfl) (fun a g hst hb => ?_)
               refine wp_cond_split (hst.bool 9 rfl) (fun hc41 => ?_) (fun hc41 => ?_)
               · replace H1 := Zz hc41 H1
                 obtain ⟨r42, h43, H1⟩ := Zg H1
                 refine r_g (L := [(0, _), (3, _), (4, _), (6, _), (15, _), (16, _), (87, _), (88, _), (89, _), (1002, _)]) (T := [⟨[.old 1], _, [], [], [104]⟩, ⟨[.old 4], _, [], [], [105]⟩, ⟨[.old 5], _, [], [], [106]⟩, ⟨[.op 0 0, .op 1 0, .op 2 0], _, [], [0, 1, 2], [107]⟩, ⟨[.op 3 0], _, [], Lr 4, [103]⟩, ⟨[.op 4 0], _, [], Lr 5, [108]⟩, ⟨[.op 4 0], _, [], Lr 5, [109]⟩, ⟨[.op 5 0, .old 1], _, [4], Lr 6, [3]⟩]) (F := [.old 0, .op 7 0, .old 2, .old 3, .old 6, .old 7, .old 8, .old 9]) (hst.pick [0, 1, 2, 3, 4, 5, 6, 7, 8, 10] rfl) hb Zb
                   (o_p rfl (Zck Zbn rfl rfl u_0) <| o_p rfl (Za rfl rfl u_0) <| o_p rfl (Zf Zbh rfl rfl u_0) <| o_p rfl (Zq Zw2 (Zit _ _ _ h43) rfl rfl (.cons u_0 (.cons u_1 (.cons u_2 .nil)))) <| o_p rfl (Za rfl rfl u_0) <| o_p rfl (Z4 rfl rfl u_0 rfl) <| o_p rfl (Z4 rfl rfl u_0 rfl) <| o_p rfl (Zba Zbn rfl rfl u_1 u_0) <| o_n) (by kernel_rfl) (fun a g hst hb => ?_)
                 refine Zbp ?_
                 exact ⟨r42.1, g, rfl, (hst.pick [0, 1, 2, 3, 4, 5, 6, 7] rfl), hb, H1⟩
               · replace H1 := Z0 hc41 H1
                 refine wp_skip ?_
                 refine Zbp ?_
                 exact ⟨x34, g, rfl, (hst.pick [0, 1, 2, 3, 6, 7, 8, 10] rfl), hb, H1⟩
           · replace H1 := Z0 hc36 H1
             refine wp_exit ?_
             refine Zca ?_
             refine Zca ?_
             refine Zcv ?_
             exact ⟨x34, g, rfl, (hst.pick [0, 1, 2, 3, 8] rfl), hb, Option.some.inj H1⟩
     · refine wp_block ?_
       refine wp_loop_ghost (fun n a w => ∃ (x21 : Zl) (x22 : Int) (g : G), w = g.w ∧ St 116 [(0, (pEq (ptrB b0 0))), (3, (pBox Zw 3 x21)), (4, (pBox Zw 4 (default : Zl))), (6, (pRow Zy 40 6 y18)), (7, (pRow Kd.str 9 7 y19)), (63, (pRow Kd.str 9 7 y19)), (64, (pInt .i64 (y19.length : Int))), (65, (pInt .i64 x22)), (1002, (pSJ Zbf Zbz (hpL (pRow Zn 68 1000000 (Zda a0))) 0 b0 a0))] a g ∧ Base g0 g ∧ Zdg a0 y19 n x21 x22 = some z33) (Int.toNat ((y19.length : Int) - (0 : Int)) + 1) ⟨a1, (0 : Int), g, rfl, (hst.pick [0, 1, 2, 3, 4, 5, 6, 7, 8] rfl), hb, hz2⟩ (fun n a w hI => ?_)
       obtain ⟨x21, x22, g, rfl, hst, hb, H1⟩ := hI
       cases n with
       | zero => exact absurd H1 (by simp [Zdg])
       | succ n =>
         rw [Zdg] at H1
         refine r_s (T := [⟨[.old 7, .old 6], _, [], [], [66]⟩]) (F := [.old 0, .old 1, .old 2, .old 3, .old 4, .old 5, .old 6, .old 7, .op 0 0, .old 8]) hst hb Zb
           (o_p rfl (Zc0 rfl rfl u_0 u_1) <| o_n) (by kernel_rfl) (fun a g hst hb => ?_)
         refine wp_seq ?_
         refine wp_cond_split (hst.bool 8 rfl) (fun hc23 => ?_) (fun hc23 => ?_)
         · replace H1 := Zz hc23 H1
           refine wp_skip ?_
           refine Zv ?_
           refine wp_seq ?_
           refine Zcs (fun a w => ∃ (j31 : Zl) (g : G), w = g.w ∧ St 116 [(0, (pEq (ptrB b0 0))), (3, (pBox Zw 3 j31)), (4, (pBox Zw 4 (default : Zl))), (6, (pRow Zy 40 6 y18)), (7, (pRow Kd.str 9 7 y19)), (63, (pRow Kd.str 9 7 y19)), (64, (pInt .i64 (y19.length : Int))), (65, (pInt .i64 x22)), (1002, (pSJ Zbf Zbz (hpL (pRow Zn 68 1000000 (Zda a0))) 0 b0 a0))] a g ∧ Base g0 g ∧ Zgj x22 (Zdg a0 y19 n) j31 = some z33) ?_ ?_
           · rintro a w ⟨j31, g, rfl, hst, hb, H1⟩
             unfold Zgj at H1
             refine Zv ?_
             refine r_g (T := [⟨[.old 7], _, [], [], [86]⟩, ⟨[.op 0 0], _, [], [0], [65]⟩]) (F := [.old 0, .old 1, .old 2, .old 3, .old 4, .old 5, .old 6, .op 1 0, .old 8]) hst hb Zb
               (o_p rfl (Zch rfl rfl u_0 c_i rfl) <| o_p rfl (Za rfl rfl u_0) <| o_n) (by kernel_rfl) (fun a g hst hb => ?_)
             exact ⟨n, Nat.lt_succ_self _, j31, (IntKind.i64.wrap (x22 + (1 : Int))), g, rfl, (hst.pick [0, 1, 2, 3, 4, 5, 6, 7, 8] rfl), hb, H1⟩
           · refine wp_block ?_
             obtain ⟨e24, h25, H1⟩ := Zg H1
             refine r_s (L := [(0, _), (3, _), (4, _), (6, _), (7, _), (63, _), (64, _), (65, _), (1002, _)]) (T := [⟨[.old 5, .old 7], _, [], [], [67]⟩, ⟨[.op 0 0], _, [], [0], [68]⟩, ⟨[.op 1 0], _, [], [0, 1], [11]⟩]) (F := [.old 0, .old 1, .old 2, .old 3, .old 4, .op 2 0, .old 5, .old 6, .old 7, .old 8]) (hst.pick [0, 1, 2, 3, 4, 5, 6, 7, 9] rfl) hb Zb
               (o_p rfl (Zb4 Tryz.underlying26 sz_9 rfl rfl (Opd.imp u_0 (fun _ _ h => Zis h)) u_1 h25) <| o_p rfl (Zf ty_9 rfl rfl u_0) <| o_p rfl (Zc rfl rfl u_0) <| o_n) (by kernel_rfl) (fun a g hst hb => ?_)
             obtain ⟨r26, h27, H1⟩ := Zg H1
             refine r_s (T := ⟨[.old 0], _, [], [], [70]⟩ :: ⟨[.op 0 0], _, [], [0], [71]⟩ :: ⟨[.op 1 0], _, [], [0, 1], [72]⟩ :: ⟨[.op 2 0, .old 9], _, [], [0, 1, 2], [73]⟩ :: ⟨[.old 5], _, [], [], [74]⟩ :: ⟨[.op 3 0, .op 4 0], _, [], Lr 5, [75]⟩ :: ⟨[.op 5 0], _, [], Lr 6, [69]⟩ :: ⟨[.op 6 0], _, [], Lr 7, [76]⟩ :: ⟨[.op 6 0], _, [], Lr 7, [77]⟩ :: ⟨[], [(12, (pBox Zh 12 (default : Zd)))], [13], [], [12]⟩ :: ⟨[.op 7 0, .op 9 0], _, [13], [0, 1, 2, 3, 4, 5, 6, 7, 9], [12]⟩ :: ⟨[.op 8 0], _, [], Lr 11, [13]⟩ :: []) (F := [.old 0, .old 1, .old 2, .old 3, .old 4, .old 5, .op 11 0, .old 6, .old 7, .old 8, .old 9]) hst hb Zb
               (o_p rfl (Za rfl rfl u_0) <| o_p rfl (Zm rfl rfl u_0 (fun _ _ h => ⟨_, h⟩)) <| o_p rfl (Zb0 Zrk rfl rfl u_0) <| o_p rfl (Zez (u := a0.now) Zbn (fun g s cs h _ => kp_2 h) rfl rfl u_1 u_0) <| o_p rfl (Za rfl rfl u_0) <| o_p rfl (Zq Zrv (Zfv _ _ h27) rfl rfl (.cons u_0 (.cons u_1 .nil))) <| o_p rfl (Za rfl rfl u_0) <| o_p rfl (Z4 rfl rfl u_0 rfl) <| o_p rfl (Z4 rfl rfl u_0 rfl) <| o_p rfl (Zbk (zs := [.int .i64 0, .int .i64 0, .int .i64 0, .int .i64 0, .float .f64 0, .int .i64 0, .string ByteArray.empty, .slice none 0 0]) (by kernel_rfl) (fun g => Zcd g) rfl rfl) <| o_p rfl (Zcb Zbh rfl rfl u_1 u_0) <| o_p rfl (Zc rfl rfl u_0) <| o_n) (by kernel_rfl) (fun a g hst hb => ?_)
             refine r_s (T := [⟨[.old 6], _, [], [], [78]⟩, ⟨[.op 0 0], _, [], [0], [79]⟩]) (F := [.old 0, .old 1, .old 2, .old 3, .old 4, .old 5, .old 7, .old 8, .old 9, .op 1 0, .old 10]) hst hb Zb
               (o_p rfl (Za rfl rfl u_0) <| o_p rfl (Zcg rfl rfl u_0) <| o_n) (by kernel_rfl) (fun a g hst hb => ?_)
             refine wp_cond_split (hst.bool 9 rfl) (fun hc28 => ?_) (fun hc28 => ?_)
             · replace H1 := Zz hc28 H1
               obtain ⟨r29, h30, H1⟩ := Zg H1
               refine r_g (L := [(0, _), (3, _), (4, _), (6, _), (7, _), (11, _), (63, _), (64, _), (65, _), (1002, _)]) (T := [⟨[.old 1], _, [], [], [81]⟩, ⟨[.old 5], _, [], [], [82]⟩, ⟨[.op 0 0, .op 1 0], _, [], [0, 1], [83]⟩, ⟨[.op 2 0], _, [], [0, 1, 2], [80]⟩, ⟨[.op 3 0], _, [], Lr 4, [84]⟩, ⟨[.op 3 0], _, [], Lr 4, [85]⟩, ⟨[.op 4 0, .old 1], _, [4], Lr 5, [3]⟩]) (F := [.old 0, .op 6 0, .old 2, .old 3, .old 4, .old 6, .old 7, .old 8, .old 9]) (hst.pick [0, 1, 2, 3, 4, 5, 6, 7, 8, 10] rfl) hb Zb
                 (o_p rfl (Zck Zbn rfl rfl u_0) <| o_p rfl (Za rfl rfl u_0) <| o_p rfl (Zq Z5b (Zm3 _ _ h30) rfl rfl (.cons u_0 (.cons u_1 .nil))) <| o_p rfl (Za rfl rfl u_0) <| o_p rfl (Z4 rfl rfl u_0 rfl) <| o_p rfl (Z4 rfl rfl u_0 rfl) <| o_p rfl (Zba Zbn rfl rfl u_1 u_0) <| o_n) (by kernel_rfl) (fun a g hst hb => ?_)
               refine Zbp ?_
               exact ⟨r29.1, g, rfl, (hst.pick [0, 1, 2, 3, 4, 5, 6, 7, 8] rfl), hb, H1⟩
             · replace H1 := Z0 hc28 H1
               refine wp_skip ?_
               refine Zbp ?_
               exact ⟨x21, g, rfl, (hst.pick [0, 1, 2, 3, 4, 6, 7, 8, 10] rfl), hb, H1⟩
         · replace H1 := Z0 hc23 H1
           refine wp_exit ?_
           refine Zca ?_
           refine Zca ?_
           refine Zcv ?_
           exact ⟨x21, g, rfl, (hst.pick [0, 1, 2, 3, 4, 9] rfl), hb, Option.some.inj H1⟩
   · refine wp_block ?_
     refine wp_loop_ghost (fun n a w => ∃ (x2 : List Zs) (x3 : List ByteArray) (x4 : Int) (g : G), w = g.w ∧ St 116 [(0, (pEq (ptrB b0 0))), (3, (pBox Zw 3 a1)), (4, (pBox Zw 4 (default : Zl))), (6, (pRow Zy 40 6 x2)), (7, (pRow Kd.str 9 7 x3)), (36, (Zy.sl.pd a0.d.Acts)), (37, (pInt .i64 (a0.d.Acts.length : Int))), (38, (pInt .i64 x4)), (1002, (pSJ Zbf Zbz (hpL (pRow Zn 68 1000000 (Zda a0))) 0 b0 a0))] a g ∧ Base g0 g ∧ Zc1 a0 n x2 x3 x4 = some z20) (Int.toNat ((a0.d.Acts.length : Int) - (0 : Int)) + 1) ⟨([] : List Zs), ([] : List ByteArray), (0 : Int), g, rfl, (hst.pick [0, 1, 2, 3, 4, 5, 6, 7, 8] rfl), hb, hz1⟩ (fun n a w hI => ?_)
     obtain ⟨x2, x3, x4, g, rfl, hst, hb, H1⟩ := hI
     cases n with
     | zero => exact absurd H1 (by simp [Zc1])
     | succ n =>
       rw [Zc1] at H1
       refine r_s (T := [⟨[.old 7, .old 6], _, [], [], [39]⟩]) (F := [.old 0, .old 1, .old 2, .old 3, .old 4, .old 5, .old 6, .old 7, .op 0 0, .old 8]) hst hb Zb
         (o_p rfl (Zc0 rfl rfl u_0 u_1) <| o_n) (by kernel_rfl) (fun a g hst hb => ?_)
       refine wp_seq ?_
       refine wp_cond_split (hst.bool 8 rfl) (fun hc5 => ?_) (fun hc5 => ?_)
       · replace H1 := Zz hc5 H1
         refine wp_skip ?_
         refine Zv ?_
         refine wp_seq ?_
         refine Zcs (fun a w => ∃ (j16 : List Zs) (j17 : List ByteArray) (g : G), w = g.w ∧ St 116 [(0, (pEq (ptrB b0 0))), (3, (pBox Zw 3 a1)), (4, (pBox Zw 4 (default : Zl))), (6, (pRow Zy 40 6 j16)), (7, (pRow Kd.str 9 7 j17)), (36, (Zy.sl.pd a0.d.Acts)), (37, (pInt .i64 (a0.d.Acts.length : Int))), (38, (pInt .i64 x4)), (1002, (pSJ Zbf Zbz (hpL (pRow Zn 68 1000000 (Zda a0))) 0 b0 a0))] a g ∧ Base g0 g ∧ Zfj x4 (Zc1 a0 n) j16 j17 = some z20) ?_ ?_
         · rintro a w ⟨j16, j17, g, rfl, hst, hb, H1⟩
           unfold Zfj at H1
           refine Zv ?_
           refine r_g (T := [⟨[.old 7], _, [], [], [62]⟩, ⟨[.op 0 0], _, [], [0], [38]⟩]) (F := [.old 0, .old 1, .old 2, .old 3, .old 4, .old 5, .old 6, .op 1 0, .old 8]) hst hb Zb
             (o_p rfl (Zch rfl rfl u_0 c_i rfl) <| o_p rfl (Za rfl rfl u_0) <| o_n) (by kernel_rfl) (fun a g hst hb => ?_)
           exact ⟨n, Nat.lt_succ_self _, j16, j17, (IntKind.i64.wrap (x4 + (1 : Int))), g, rfl, (hst.pick [0, 1, 2, 3, 4, 5, 6, 7, 8] rfl), hb, H1⟩
         · refine wp_block ?_
           obtain ⟨e6, h7, H1⟩ := Zg H1
           refine r_s (L := [(0, _), (3, _), (4, _), (6, _), (7, _), (36, _), (37, _), (38, _), (1002, _)]) (T := [⟨[.old 5, .old 7], _, [], [], [40]⟩, ⟨[.op 0 0], _, [], [0], [41]⟩, ⟨[], [(9, (pBox Zy 9 (default : Zs)))], [10], [], [9]⟩, ⟨[.op 1 0, .op 2 0], _, [10], [0, 1, 2], [9]⟩]) (F := [.old 0, .old 1, .old 2, .old 3, .old 4, .op 3 0, .old 5, .old 6, .old 7, .old 8]) (hst.pick [0, 1, 2, 3, 4, 5, 6, 7, 9] rfl) hb Zb
             (o_p rfl (Zb4 Tryz.underlying23 Zp5 rfl rfl u_0 u_1 h7) <| o_p rfl (Zf Zh2 rfl rfl u_0) <| o_p rfl (Zbk (zs := [.int .i64 0, .string ByteArray.empty, .int .i64 0, .float .f64 0, .string ByteArray.empty, .int .i64 0, .int .i64 0, .int .i64 0, .int .i64 0, .float .f64 0, .int .i64 0, .string ByteArray.empty, .slice none 0 0, .bool false]) (by kernel_rfl) (fun g => Zlz g) rfl rfl) <| o_p rfl (Zcb Zh2 rfl rfl u_1 u_0) <| o_n) (by kernel_rfl) (fun a g hst hb => ?_)
           obtain ⟨r8, h9, H1⟩ := Zg H1
           refine r_s (T := [⟨[.old 0], _, [], [], [42]⟩, ⟨[.op 0 0], _, [], [0], [43]⟩, ⟨[.op 1 0], _, [], [0, 1], [44]⟩, ⟨[.op 2 0, .old 9], _, [], [0, 1, 2], [45]⟩, ⟨[.old 5], _, [], [], [46]⟩, ⟨[.op 4 0], _, [], [4], [47]⟩, ⟨[.op 3 0, .op 5 0], _, [], Lr 6, [48]⟩]) (F := [.old 0, .old 1, .old 2, .old 3, .old 4, .old 5, .old 6, .old 7, .old 8, .op 6 0, .old 9]) hst hb Zb
             (o_p rfl (Za rfl rfl u_0) <| o_p rfl (Zm rfl rfl u_0 (fun _ _ h => ⟨_, h⟩)) <| o_p rfl (Zb0 Z0h rfl rfl u_0) <| o_p rfl (Zez (u := a0.split) Z5s (fun g s cs h _ => kp_1 h) rfl rfl u_1 u_0) <| o_p rfl (Ze Zjw rfl rfl u_0) <| o_p rfl (Zf ty_9 rfl rfl u_0) <| o_p rfl (Zq Z5r (Zhx _ _ h9) rfl rfl (.cons u_0 (.cons u_1 .nil))) <| o_n) (by kernel_rfl) (fun a g hst hb => ?_)
           refine wp_cond_split (hst.bool 9 rfl) (fun hc10 => ?_) (fun hc10 => ?_)
           · replace H1 := Zz hc10 H1
             obtain ⟨h11, H1⟩ := Zhi H1
             refine r_g (L := [(0, _), (3, _), (4, _), (6, _), (7, _), (9, _), (36, _), (37, _), (38, _), (1002, _)]) (T := [⟨[.old 3], _, [], [], [49]⟩, ⟨[.old 5], _, [], [], [50]⟩, ⟨[.op 1 0], _, [], [1], [51]⟩, ⟨[.op 0 0, .op 2 0], _, [7], [0, 1, 2], [6, 49, 52]⟩, ⟨[.op 3 0], _, [], Lr 4, [6]⟩]) (F := [.old 0, .old 1, .old 2, .op 4 0, .old 4, .old 6, .old 7, .old 8, .old 9]) (hst.pick [0, 1, 2, 3, 4, 5, 6, 7, 8, 10] rfl) hb Zb
               (o_p rfl (Za rfl rfl u_0) <| o_p rfl (Zf Zh2 rfl rfl u_0) <| o_p rfl (Zl1 Ztl (xs := [.tmp 50]) (.cons u_0 .nil) (by decide) rfl rfl) <| o_p rfl (Zje Ztl rfl rfl u_0 u_1 h11) <| o_p rfl (Zc rfl rfl u_0) <| o_n) (by kernel_rfl) (fun a g hst hb => ?_)
             refine Zbp ?_
             exact ⟨(x2 ++ ([e6] : List Zs)), x3, g, rfl, (hst.pick [0, 1, 2, 3, 4, 5, 6, 7, 8] rfl), hb, H1⟩
           · replace H1 := Z0 hc10 H1
             obtain ⟨r12, h13, H1⟩ := Zg H1
             refine r_s (L := [(0, _), (3, _), (4, _), (6, _), (7, _), (9, _), (36, _), (37, _), (38, _), (1002, _)]) (T := [⟨[.old 5], _, [], [], [53]⟩, ⟨[.op 0 0], _, [], [0], [54]⟩, ⟨[.op 1 0], _, [], [0, 1], [55]⟩, ⟨[.op 2 0], _, [], [0, 1, 2], [56]⟩]) (F := [.old 0, .old 1, .old 2, .old 3, .old 4, .old 5, .old 6, .old 7, .old 8, .op 3 0, .old 9]) (hst.pick [0, 1, 2, 3, 4, 5, 6, 7, 8, 10] rfl) hb Zb
               (o_p rfl (Ze Zg7 rfl rfl u_0) <| o_p rfl (Zf ty_3 rfl rfl u_0) <| o_p rfl (Zq Z0t (Zoh _ h13) rfl rfl (.cons u_0 .nil)) <| o_p rfl (Zcg rfl rfl u_0) <| o_n) (by kernel_rfl) (fun a g hst hb => ?_)
             refine wp_cond_split (hst.bool 9 rfl) (fun hc14 => ?_) (fun hc14 => ?_)
             · replace H1 := Zz hc14 H1
               obtain ⟨h15, H1⟩ := Zhi H1
               refine r_g (L := [(0, _), (3, _), (4, _), (6, _), (7, _), (9, _), (36, _), (37, _), (38, _), (1002, _)]) (T := [⟨[.old 4], _, [], [], [57]⟩, ⟨[.old 5], _, [], [], [58]⟩, ⟨[.op 1 0], _, [], [1], [59]⟩, ⟨[.op 2 0], _, [], [1, 2], [60]⟩, ⟨[.op 0 0, .op 3 0], _, [8], Lr 4, [7, 57, 61]⟩, ⟨[.op 4 0], _, [], Lr 5, [7]⟩]) (F := [.old 0, .old 1, .old 2, .old 3, .op 5 0, .old 6, .old 7, .old 8, .old 9]) (hst.pick [0, 1, 2, 3, 4, 5, 6, 7, 8, 10] rfl) hb Zb
                 (o_p rfl (Za rfl rfl u_0) <| o_p rfl (Ze Zjw rfl rfl u_0) <| o_p rfl (Zf ty_9 rfl rfl u_0) <| o_p rfl (Zl1 Zro (xs := [.tmp 59]) (.cons u_0 .nil) (by decide) rfl rfl) <| o_p rfl (Zje Zro rfl rfl u_0 u_1 h15) <| o_p rfl (Zc rfl rfl u_0) <| o_n) (by kernel_rfl) (fun a g hst hb => ?_)
               refine Zbp ?_
               exact ⟨x2, (x3 ++ ([e6.Key] : List ByteArray)), g, rfl, (hst.pick [0, 1, 2, 3, 4, 5, 6, 7, 8] rfl), hb, H1⟩
             · replace H1 := Z0 hc14 H1
               refine wp_skip ?_
               refine Zbp ?_
               exact ⟨x2, x3, g, rfl, (hst.pick [0, 1, 2, 3, 4, 6, 7, 8, 10] rfl), hb, H1⟩
       · replace H1 := Z0 hc5 H1
         refine wp_exit ?_
         refine Zca ?_
         refine Zca ?_
         refine Zcv ?_
         exact ⟨x2, x3, g, rfl, (hst.pick [0, 1, 2, 3, 4, 9] rfl), hb, Option.some.inj H1⟩
theorem Zk0 (a0 : Zu) {r : Bool} (h : Zgl a0 = some r) : FnMR Tryz.prog 16 Zci a0 a0 [] (Zbe r) := by
 have H0 := h
 unfold Zgl at H0
 clear h
 refine Zru (N := 7) Tryz.func16 rfl rfl (Nat.le_of_ble_eq_true rfl) rfl rfl (fun a g0 b0 hst hb => ?_)
 replace hst : St 7 [(0, (pEq (ptrB b0 0))), (1002, (pSJ Zbf Zbz (hpL (pRow Zn 68 1000000 (Zda a0))) 0 b0 a0))] _ _ := Zpq hst
 refine r_s (T := [⟨[], _, [], [], [2]⟩]) (F := [.old 0, .old 1]) hst hb Zb
   (o_p rfl (Zc rfl rfl c_b) <| o_n) (by kernel_rfl) (fun a g hst hb => ?_)
 refine r_s (T := [⟨[.old 0], _, [], [], [3]⟩, ⟨[.op 0 0], _, [], [0], [4]⟩, ⟨[.op 1 0], _, [], [0, 1], [5]⟩, ⟨[.op 2 0, .old 1], _, [], [0, 1, 2], [6]⟩, ⟨[.op 3 0], _, [], Lr 4, [2]⟩]) (F := [.old 0, .op 4 0, .old 1]) hst hb Zb
   (o_p rfl (Za rfl rfl u_0) <| o_p rfl (Zm rfl rfl u_0 (fun _ _ h => ⟨_, h⟩)) <| o_p rfl (Zb0 Zmi rfl rfl u_0) <| o_p rfl (Zez (u := a0.over) ty_4 (fun g s cs h _ => kp_4 h) rfl rfl u_1 u_0) <| o_p rfl (Zc rfl rfl u_0) <| o_n) (by kernel_rfl) (fun a g hst hb => ?_)
 refine wp_ret ?_
 obtain rfl := Option.some.inj H0
 exact Zw6 rfl hst hb (Zk (s := 2)) (hst.at 1 rfl) (hst.at 2 rfl)
theorem Znf (a0 : Zl) (a1 : Int) {r : ByteArray × Zd × Bool} (h : Zht a0 a1 = some r) : FnOk Tryz.prog 41 [(Zw.pd a0), (pInt .i64 a1)] (pTup [(pStr r.1), (Zh.pd r.2.1), (Zbe r.2.2)]) := by
 have H0 := h
 unfold Zht at H0
 clear h
 refine Zbv (N := 48) Tryz.func41 rfl rfl (Nat.le_of_ble_eq_true rfl) rfl rfl (fun a g0 hst hb => ?_)
 refine r_s (T := [⟨[.old 0], _, [], [], [2]⟩, ⟨[], _, [], [], [4]⟩, ⟨[], [(5, (pBox Zh 5 (default : Zd)))], [6], [], [5]⟩, ⟨[], _, [], [1], [6]⟩]) (F := [.old 1, .op 0 0, .op 2 0]) hst hb Zb
   (o_p rfl (Zbr rfl rfl u_0) <| o_p rfl (Zc rfl rfl c_s) <| o_p rfl (Zbk (zs := [.int .i64 0, .int .i64 0, .int .i64 0, .int .i64 0, .float .f64 0, .int .i64 0, .string ByteArray.empty, .slice none 0 0]) (by kernel_rfl) (fun g => Zcd g) rfl rfl) <| o_p rfl (Zc rfl rfl c_b) <| o_n) (by kernel_rfl) (fun a g hst hb => ?_)
 refine wp_seq ?_
 refine r_s (T := [⟨[.old 1], _, [], [], [9]⟩, ⟨[.op 0 0], _, [], [0], [10]⟩, ⟨[.op 1 0], _, [], [0, 1], [7]⟩]) (F := [.old 0, .old 2, .op 2 0]) hst hb Zb
   (o_p rfl (Ze Zpd rfl rfl u_0) <| o_p rfl (Zf Zcz rfl rfl u_0) <| o_p rfl (Zc rfl rfl u_0) <| o_n) (by kernel_rfl) (fun a g hst hb => ?_)
 obtain ⟨z16, hz1, H0⟩ := Zg H0
 refine Zcs (fun a w => ∃ (y15 : Zd) (g : G), w = g.w ∧ St 48 [(5, (pBox Zh 5 y15))] a g ∧ Base g0 g ∧ (.inr y15) = z16) ?_ ?_
 · rintro a w ⟨y15, g, rfl, hst, hb, rfl⟩
   refine Zv ?_
   refine r_s (T := [⟨[], _, [], [], [47]⟩, ⟨[], _, [], [], [4]⟩, ⟨[.op 0 0, .old 0], _, [6], [0, 1], [5]⟩, ⟨[], _, [], [0, 1, 2], [6]⟩]) (F := [.op 1 0, .op 2 0, .op 3 0]) hst hb Zb
     (o_p rfl (Zq9 rfl rfl ) <| o_p rfl (Zc rfl rfl c_s) <| o_p rfl (Zba Zbh rfl rfl u_1 u_0) <| o_p rfl (Zc rfl rfl c_b) <| o_n) (by kernel_rfl) (fun a g hst hb => ?_)
   refine wp_ret ?_
   obtain rfl := Option.some.inj H0
   obtain ⟨u1, hu1, hq1⟩ := Zbl (P := Tryz.prog) Zbh (hst.at 1 rfl)
   exact Zkk rfl hst hb (Zk (s := 4)) hu1 (Zk (s := 6)) (Zib (hst.at 0 rfl) hq1 (hst.at 2 rfl))
 · refine wp_block ?_
   refine wp_loop_ghost (fun n a w => ∃ (x1 : Int) (x2 : Zd) (x3 : shelf_nodeT) (g : G), w = g.w ∧ St 48 [(1, (pInt .i64 x1)), (5, (pBox Zh 5 x2)), (7, (Z5.pd x3))] a g ∧ Base g0 g ∧ Zdu n x1 x2 x3 = some z16) (a0.top.hh + 1) ⟨a1, (default : Zd), a0.top, g, rfl, (hst.pick [0, 1, 2] rfl), hb, hz1⟩ (fun n a w hI => ?_)
   obtain ⟨x1, x2, x3, g, rfl, hst, hb, H1⟩ := hI
   cases n with
   | zero => exact absurd H1 (by simp [Zdu])
   | succ n =>
     rw [Zdu] at H1
     refine wp_seq ?_
     refine r_s (T := [⟨[.old 2], _, [], [], [11]⟩, ⟨[.op 0 0], _, [], [0], [12]⟩]) (F := [.old 0, .old 1, .old 2, .op 1 0]) hst hb Zb
       (o_p rfl (Za rfl rfl u_0) <| o_p rfl (Zxl Tryz.underlying28 rfl rfl u_0 (Zev _)) <| o_n) (by kernel_rfl) (fun a g hst hb => ?_)
     refine wp_cond_split (hst.bool 3 rfl) (fun hc4 => ?_) (fun hc4 => ?_)
     · replace H1 := Zz hc4 H1
       refine wp_skip ?_
       refine Zv ?_
       refine Zcs (fun a w => ∃ (j13 : Int) (j14 : shelf_nodeT) (g : G), w = g.w ∧ St 48 [(1, (pInt .i64 j13)), (5, (pBox Zh 5 x2)), (7, (Z5.pd j14))] a g ∧ Base g0 g ∧ Zhn x2 (Zdu n) j13 j14 = some z16) ?_ ?_
       · rintro a w ⟨j13, j14, g, rfl, hst, hb, H1⟩
         unfold Zhn at H1
         exact ⟨n, Nat.lt_succ_self _, j13, x2, j14, g, rfl, (hst.pick [0, 1, 2] rfl), hb, H1⟩
       · refine wp_block ?_
         obtain ⟨n5, h6, H1⟩ := Zg H1; obtain ⟨r7, h8, H1⟩ := Zg H1
         refine r_s (L := [(1, _), (5, _), (7, _)]) (T := [⟨[.old 2], _, [], [], [13]⟩, ⟨[.op 0 0], _, [], [0], [14]⟩, ⟨[.op 1 0], _, [], [0, 1], [15]⟩, ⟨[.op 2 0], _, [], [0, 1, 2], [16]⟩, ⟨[.op 3 0], _, [], Lr 4, [17]⟩, ⟨[.op 4 0], _, [], Lr 5, [8]⟩]) (F := [.old 0, .old 1, .old 2, .op 5 0]) (hst.pick [0, 1, 2] rfl) hb Zb
           (o_p rfl (Za rfl rfl u_0) <| o_p rfl (Zm rfl rfl (Opd.imp u_0 (fun _ _ h => Zr h6 h)) (fun _ _ ⟨_, _, _, e, _⟩ => ⟨_, e⟩)) <| o_p rfl (Ze Zd7 rfl rfl u_0) <| o_p rfl (Zf Zcz rfl rfl u_0) <| o_p rfl (Zq Zmp (Zdh _ h8) rfl rfl (.cons u_0 .nil)) <| o_p rfl (Zc rfl rfl u_0) <| o_n) (by kernel_rfl) (fun a g hst hb => ?_)
         refine wp_block ?_
         refine r_s (T := [⟨[.old 0], _, [], [], [28]⟩, ⟨[.old 3], _, [], [], [29]⟩, ⟨[.op 0 0, .op 1 0], _, [], [0, 1], [30]⟩, ⟨[.op 2 0], _, [], [0, 1, 2], [27]⟩]) (F := [.old 0, .old 1, .old 2, .old 3, .op 3 0]) hst hb Zb
           (o_p rfl (Za rfl rfl u_0) <| o_p rfl (Za rfl rfl u_0) <| o_p rfl (Zc0 rfl rfl u_0 u_1) <| o_p rfl (Zc rfl rfl u_0) <| o_n) (by kernel_rfl) (fun a g hst hb => ?_)
         refine wp_cond_split (hst.bool 4 rfl) (fun hc9 => ?_) (fun hc9 => ?_)
         · replace H1 := Zz hc9 H1
           refine r_g (L := [(1, _), (5, _), (7, _)]) (T := [⟨[.old 2], _, [], [], [31]⟩, ⟨[.op 0 0], _, [], [0], [32]⟩, ⟨[.op 1 0], _, [], [0, 1], [33]⟩, ⟨[.op 2 0], _, [], [0, 1, 2], [34]⟩, ⟨[.op 3 0], _, [], Lr 4, [7]⟩]) (F := [.old 0, .old 1, .op 4 0]) (hst.pick [0, 1, 2] rfl) hb Zb
             (o_p rfl (Za rfl rfl u_0) <| o_p rfl (Zm rfl rfl (Opd.imp u_0 (fun _ _ h => Zr h6 h)) (fun _ _ ⟨_, _, _, e, _⟩ => ⟨_, e⟩)) <| o_p rfl (Ze Zd7 rfl rfl u_0) <| o_p rfl (Zf Zcz rfl rfl u_0) <| o_p rfl (Zc rfl rfl u_0) <| o_n) (by kernel_rfl) (fun a g hst hb => ?_)
           refine Zbp ?_
           refine Zbp ?_
           exact ⟨x1, n5.left, g, rfl, (hst.pick [0, 1, 2] rfl), hb, H1⟩
         · replace H1 := Z0 hc9 H1
           refine r_s (L := [(1, _), (5, _), (7, _), (8, _)]) (T := [⟨[.old 0], _, [], [], [36]⟩, ⟨[.old 3], _, [], [], [37]⟩, ⟨[.op 0 0, .op 1 0], _, [], [0, 1], [38]⟩, ⟨[.op 2 0], _, [], [0, 1, 2], [35]⟩]) (F := [.old 0, .old 1, .old 2, .old 3, .op 3 0]) (hst.pick [0, 1, 2, 3] rfl) hb Zb
             (o_p rfl (Za rfl rfl u_0) <| o_p rfl (Za rfl rfl u_0) <| o_p rfl (Zcy rfl rfl u_0 u_1) <| o_p rfl (Zc rfl rfl u_0) <| o_n) (by kernel_rfl) (fun a g hst hb => ?_)
           refine wp_cond_split (hst.bool 4 rfl) (fun hc10 => ?_) (fun hc10 => ?_)
           · replace H1 := Zz hc10 H1
             refine r_s (L := [(1, _), (5, _), (7, _), (8, _)]) (T := [⟨[.old 0], _, [], [], [39]⟩, ⟨[.old 3], _, [], [], [40]⟩, ⟨[.op 1 0], _, [], [1], [41]⟩, ⟨[.op 0 0, .op 2 0], _, [], [0, 1, 2], [42]⟩, ⟨[.op 3 0], _, [], Lr 4, [1]⟩]) (F := [.op 4 0, .old 1, .old 2]) (hst.pick [0, 1, 2, 3] rfl) hb Zb
               (o_p rfl (Za rfl rfl u_0) <| o_p rfl (Za rfl rfl u_0) <| o_p rfl (Zch rfl rfl u_0 c_i rfl) <| o_p rfl (Zkf rfl rfl u_0 u_1 rfl) <| o_p rfl (Zc rfl rfl u_0) <| o_n) (by kernel_rfl) (fun a g hst hb => ?_)
             refine r_g (T := [⟨[.old 2], _, [], [], [43]⟩, ⟨[.op 0 0], _, [], [0], [44]⟩, ⟨[.op 1 0], _, [], [0, 1], [45]⟩, ⟨[.op 2 0], _, [], [0, 1, 2], [46]⟩, ⟨[.op 3 0], _, [], Lr 4, [7]⟩]) (F := [.old 0, .old 1, .op 4 0]) hst hb Zb
               (o_p rfl (Za rfl rfl u_0) <| o_p rfl (Zm rfl rfl (Opd.imp u_0 (fun _ _ h => Zr h6 h)) (fun _ _ ⟨_, _, _, e, _⟩ => ⟨_, e⟩)) <| o_p rfl (Ze Zeq rfl rfl u_0) <| o_p rfl (Zf Zcz rfl rfl u_0) <| o_p rfl (Zc rfl rfl u_0) <| o_n) (by kernel_rfl) (fun a g hst hb => ?_)
             refine Zbp ?_
             refine Zbp ?_
             exact ⟨(IntKind.i64.wrap (x1 - (IntKind.i64.wrap (r7 + (1 : Int))))), n5.right, g, rfl, (hst.pick [0, 1, 2] rfl), hb, H1⟩
           · replace H1 := Z0 hc10 H1
             obtain ⟨r11, h12, H1⟩ := Zg H1
             refine r_s (L := [(5, _), (7, _)]) (T := ⟨[.old 1], _, [], [], [18]⟩ :: ⟨[.op 0 0], _, [], [0], [19]⟩ :: ⟨[.op 1 0], _, [], [0, 1], [20]⟩ :: ⟨[.op 2 0], _, [], [0, 1, 2], [21]⟩ :: ⟨[.old 1], _, [], [], [22]⟩ :: ⟨[.op 4 0], _, [], [4], [23]⟩ :: ⟨[.op 5 0], _, [], [4, 5], [24]⟩ :: ⟨[.op 6 0], _, [], [4, 5, 6], [25]⟩ :: ⟨[.op 7 0], _, [], List.range' 4 4, [26]⟩ :: ⟨[.op 3 0], _, [], Lr 9, [4]⟩ :: ⟨[.op 8 0, .old 0], _, [6], Lr 10, [5]⟩ :: ⟨[], _, [], Lr 11, [6]⟩ :: []) (F := [.op 9 0, .op 10 0, .op 11 0]) (hst.pick [1, 2] rfl) hb Zb
               (o_p rfl (Za rfl rfl u_0) <| o_p rfl (Zm rfl rfl (Opd.imp u_0 (fun _ _ h => Zr h6 h)) (fun _ _ ⟨_, _, _, e, _⟩ => ⟨_, e⟩)) <| o_p rfl (Ze Zep rfl rfl u_0) <| o_p rfl (Zf ty_9 rfl rfl u_0) <| o_p rfl (Za rfl rfl u_0) <| o_p rfl (Zm rfl rfl (Opd.imp u_0 (fun _ _ h => Zr h6 h)) (fun _ _ ⟨_, _, _, e, _⟩ => ⟨_, e⟩)) <| o_p rfl (Ze Zgo rfl rfl u_0) <| o_p rfl (Zf Zbh rfl rfl u_0) <| o_p rfl (Zq Zms (Zfl _ h12) rfl rfl (.cons u_0 .nil)) <| o_p rfl (Zc rfl rfl u_0) <| o_p rfl (Zba Zbh rfl rfl u_1 u_0) <| o_p rfl (Zc rfl rfl c_b) <| o_n) (by kernel_rfl) (fun a g hst hb => ?_)
             refine wp_ret ?_
             refine Z7 ?_
             refine Z7 ?_
             refine Zt ?_
             refine Zt ?_
             refine Z7 ?_
             refine Zt ?_
             refine Zt ?_
             obtain rfl := Option.some.inj H1
             obtain rfl := Option.some.inj H0
             obtain ⟨u1, hu1, hq1⟩ := Zbl (P := Tryz.prog) Zbh (hst.at 1 rfl)
             exact Zkk rfl hst hb (Zk (s := 4)) hu1 (Zk (s := 6)) (Zib (hst.at 0 rfl) hq1 (hst.at 2 rfl))
     · replace H1 := Z0 hc4 H1
       refine wp_exit ?_
       refine Zca ?_
       refine Zca ?_
       refine Zcv ?_
       exact ⟨x2, g, rfl, (hst.pick [1] rfl), hb, Option.some.inj H1⟩
theorem Zp9 (a0 : Zl) (a1 : Zl) {r : Bool} (h : Zjj a0 a1 = some r) : FnOk Tryz.prog 17 [(Zw.pd a0), (Zw.pd a1)] (Zbe r) := by
 have H0 := h
 unfold Zjj at H0
 clear h
 refine Zbv (N := 46) Tryz.func17 rfl rfl (Nat.le_of_ble_eq_true rfl) rfl rfl (fun a g0 hst hb => ?_)
 refine r_s (T := [⟨[.old 0], _, [], [], [2]⟩, ⟨[.old 1], _, [], [], [3]⟩, ⟨[], _, [], [], [4]⟩]) (F := [.op 0 0, .op 1 0]) hst hb Zb
   (o_p rfl (Zbr rfl rfl u_0) <| o_p rfl (Zbr rfl rfl u_0) <| o_p rfl (Zc rfl rfl c_b) <| o_n) (by kernel_rfl) (fun a g hst hb => ?_)
 refine wp_seq ?_
 obtain ⟨r1, h2, H0⟩ := Zg H0; obtain ⟨r3, h4, H0⟩ := Zg H0
 refine r_s (T := [⟨[.old 0], _, [], [], [12]⟩, ⟨[.op 0 0], _, [], [0], [13]⟩, ⟨[.old 1], _, [], [], [14]⟩, ⟨[.op 2 0], _, [], [0, 1, 2], [15]⟩, ⟨[.op 1 0, .op 3 0], _, [], Lr 4, [16]⟩]) (F := [.old 0, .old 1, .op 4 0]) hst hb Zb
   (o_p rfl (Zf Zbn rfl rfl u_0) <| o_p rfl (Zq Zwz (Zid _ h2) rfl rfl (.cons u_0 .nil)) <| o_p rfl (Zf Zbn rfl rfl u_0) <| o_p rfl (Zq Zwz (Zid _ h4) rfl rfl (.cons u_0 .nil)) <| o_p rfl (Zg9 rfl rfl u_0 u_1) <| o_n) (by kernel_rfl) (fun a g hst hb => ?_)
 refine wp_cond_split (hst.bool 2 rfl) (fun hc5 => ?_) (fun hc5 => ?_)
 · replace H0 := Zz hc5 H0
   refine r_s (L := []) (T := [⟨[], _, [], [], [4]⟩]) (F := [.op 0 0]) (hst.pick [] rfl) hb Zb
     (o_p rfl (Zc rfl rfl c_b) <| o_n) (by kernel_rfl) (fun a g hst hb => ?_)
   refine wp_ret ?_
   refine Zt ?_
   obtain rfl := Option.some.inj H0
   exact Z8 rfl hst hb (Zk (s := 4)) (hst.at 0 rfl)
 · replace H0 := Z0 hc5 H0
   refine wp_skip ?_
   refine Zv ?_
   refine wp_seq ?_
   obtain ⟨r6, h7, H0⟩ := Zg H0
   refine r_s (L := [(2, _), (3, _)]) (T := [⟨[.old 0], _, [], [], [17]⟩, ⟨[.op 0 0], _, [], [0], [18]⟩, ⟨[], _, [], [], [19]⟩]) (F := [.old 0, .old 1, .op 1 0, .op 2 0]) (hst.pick [0, 1] rfl) hb Zb
     (o_p rfl (Zf Zbn rfl rfl u_0) <| o_p rfl (Zq Zwz (Zid _ h7) rfl rfl (.cons u_0 .nil)) <| o_p rfl (Za rfl rfl c_i) <| o_n) (by kernel_rfl) (fun a g hst hb => ?_)
   obtain ⟨z17, hz1, H0⟩ := Zg H0
   refine Zcs (fun a w => ∃ (g : G), w = g.w ∧ St 46 [] a g ∧ Base g0 g ∧ (.inr ()) = z17) ?_ ?_
   · rintro a w ⟨g, rfl, hst, hb, rfl⟩
     refine Zv ?_
     refine r_s (T := [⟨[], _, [], [], [4]⟩]) (F := [.op 0 0]) hst hb Zb
       (o_p rfl (Zc rfl rfl c_b) <| o_n) (by kernel_rfl) (fun a g hst hb => ?_)
     refine wp_ret ?_
     obtain rfl := Option.some.inj H0
     exact Z8 rfl hst hb (Zk (s := 4)) (hst.at 0 rfl)
   · refine wp_block ?_
     refine wp_loop_ghost (fun n a w => ∃ (x8 : Int) (g : G), w = g.w ∧ St 46 [(2, (Zw.ptr a0)), (3, (Zw.ptr a1)), (18, (pInt .i64 r6)), (19, (pInt .i64 x8))] a g ∧ Base g0 g ∧ Zge a0 a1 r6 n x8 = some z17) (Int.toNat (r6 - (0 : Int)) + 1) ⟨(0 : Int), g, rfl, (hst.pick [0, 1, 2, 3] rfl), hb, hz1⟩ (fun n a w hI => ?_)
     obtain ⟨x8, g, rfl, hst, hb, H1⟩ := hI
     cases n with
     | zero => exact absurd H1 (by simp [Zge])
     | succ n =>
       rw [Zge] at H1
       refine r_s (T := [⟨[.old 3, .old 2], _, [], [], [20]⟩]) (F := [.old 0, .old 1, .old 2, .old 3, .op 0 0]) hst hb Zb
         (o_p rfl (Zc0 rfl rfl u_0 u_1) <| o_n) (by kernel_rfl) (fun a g hst hb => ?_)
       refine wp_seq ?_
       refine wp_cond_split (hst.bool 4 rfl) (fun hc9 => ?_) (fun hc9 => ?_)
       · replace H1 := Zz hc9 H1
         refine wp_skip ?_
         refine Zv ?_
         refine wp_seq ?_
         refine wp_block ?_
         refine r_s (L := [(2, _), (3, _), (18, _), (19, _)]) (T := [⟨[.old 3], _, [], [], [21]⟩, ⟨[.op 0 0], _, [], [0], [5]⟩]) (F := [.old 0, .old 1, .op 1 0, .old 2, .old 3]) (hst.pick [0, 1, 2, 3] rfl) hb Zb
           (o_p rfl (Za rfl rfl u_0) <| o_p rfl (Zc rfl rfl u_0) <| o_n) (by kernel_rfl) (fun a g hst hb => ?_)
         obtain ⟨r10, h11, H1⟩ := Zg H1
         refine r_s (T := [⟨[.old 0], _, [], [], [23]⟩, ⟨[.old 2], _, [], [], [24]⟩, ⟨[.op 0 0, .op 1 0], _, [], [0, 1], [25]⟩, ⟨[.op 2 0], _, [], [0, 1, 2], [22]⟩, ⟨[.op 3 0], _, [], Lr 4, [26]⟩, ⟨[.op 3 0], _, [], Lr 4, [27]⟩, ⟨[.op 3 0], _, [], Lr 4, [28]⟩, ⟨[], [(7, (pBox Zh 7 (default : Zd)))], [8], [], [7]⟩, ⟨[.op 4 0], _, [], [0, 1, 2, 3, 4, 7], [6]⟩, ⟨[.op 5 0, .op 7 0], _, [8], [0, 1, 2, 3, 4, 5, 7, 8], [7]⟩, ⟨[.op 6 0], _, [], Lr 10, [8]⟩]) (F := [.old 0, .old 1, .old 2, .op 8 0, .op 9 0, .old 3, .old 4]) hst hb Zb
           (o_p rfl (Zf Zbn rfl rfl u_0) <| o_p rfl (Za rfl rfl u_0) <| o_p rfl (Zq Z52 (Znf _ _ h11) rfl rfl (.cons u_0 (.cons u_1 .nil))) <| o_p rfl (Za rfl rfl u_0) <| o_p rfl (Z4 rfl rfl u_0 rfl) <| o_p rfl (Z4 rfl rfl u_0 rfl) <| o_p rfl (Z4 rfl rfl u_0 rfl) <| o_p rfl (Zbk (zs := [.int .i64 0, .int .i64 0, .int .i64 0, .int .i64 0, .float .f64 0, .int .i64 0, .string ByteArray.empty, .slice none 0 0]) (by kernel_rfl) (fun g => Zcd g) rfl rfl) <| o_p rfl (Zc rfl rfl u_0) <| o_p rfl (Zcb Zbh rfl rfl u_1 u_0) <| o_p rfl (Zc rfl rfl u_0) <| o_n) (by kernel_rfl) (fun a g hst hb => ?_)
         obtain ⟨r12, h13, H1⟩ := Zg H1
         refine r_s (T := [⟨[.old 1], _, [], [], [30]⟩, ⟨[.old 2], _, [], [], [31]⟩, ⟨[.op 0 0, .op 1 0], _, [], [0, 1], [32]⟩, ⟨[.op 2 0], _, [], [0, 1, 2], [29]⟩, ⟨[.op 3 0], _, [], Lr 4, [33]⟩, ⟨[.op 3 0], _, [], Lr 4, [34]⟩, ⟨[.op 3 0], _, [], Lr 4, [35]⟩, ⟨[], [(10, (pBox Zh 10 (default : Zd)))], [11], [], [10]⟩, ⟨[.op 4 0], _, [], [0, 1, 2, 3, 4, 7], [9]⟩, ⟨[.op 5 0, .op 7 0], _, [11], [0, 1, 2, 3, 4, 5, 7, 8], [10]⟩, ⟨[.op 6 0], _, [], Lr 10, [11]⟩]) (F := [.old 0, .old 1, .old 3, .old 4, .op 8 0, .op 9 0, .old 5, .old 6]) hst hb Zb
           (o_p rfl (Zf Zbn rfl rfl u_0) <| o_p rfl (Za rfl rfl u_0) <| o_p rfl (Zq Z52 (Znf _ _ h13) rfl rfl (.cons u_0 (.cons u_1 .nil))) <| o_p rfl (Za rfl rfl u_0) <| o_p rfl (Z4 rfl rfl u_0 rfl) <| o_p rfl (Z4 rfl rfl u_0 rfl) <| o_p rfl (Z4 rfl rfl u_0 rfl) <| o_p rfl (Zbk (zs := [.int .i64 0, .int .i64 0, .int .i64 0, .int .i64 0, .float .f64 0, .int .i64 0, .string ByteArray.empty, .slice none 0 0]) (by kernel_rfl) (fun g => Zcd g) rfl rfl) <| o_p rfl (Zc rfl rfl u_0) <| o_p rfl (Zcb Zbh rfl rfl u_1 u_0) <| o_p rfl (Zc rfl rfl u_0) <| o_n) (by kernel_rfl) (fun a g hst hb => ?_)
         obtain ⟨r14, h15, H1⟩ := Zg H1
         refine r_s (T := [⟨[.old 2], _, [], [], [36]⟩, ⟨[.old 4], _, [], [], [37]⟩, ⟨[.op 0 0, .op 1 0], _, [], [0, 1], [38]⟩, ⟨[.op 2 0], _, [], [0, 1, 2], [39]⟩, ⟨[.op 3 0, .old 3], _, [], Lr 4, [40]⟩, ⟨[.op 3 0, .old 5], _, [], Lr 4, [41]⟩, ⟨[.op 3 0, .op 4 0, .op 5 0], _, [], Lr 6, [42]⟩, ⟨[.op 3 0, .op 6 0], _, [], Lr 7, [43]⟩, ⟨[.op 3 0, .op 7 0], _, [], Lr 8, [44]⟩]) (F := [.old 0, .old 1, .old 6, .old 7, .op 8 0]) hst hb Zb
           (o_p rfl (Za rfl rfl u_0) <| o_p rfl (Za rfl rfl u_0) <| o_p rfl (Z3a rfl rfl u_0 u_1) <| o_p rfl (Za rfl rfl u_0) <| o_g (g_f rfl rfl rfl (fun hG => Zf Zbh rfl rfl u_0)) <| o_g (g_f rfl rfl rfl (fun hG => Zf Zbh rfl rfl u_0)) <| o_g (g_f rfl rfl rfl (fun hG => Zq Z5n (Zsj _ _ (Zbq h15 hG)) rfl rfl (.cons (Opd.gd hG u_0) (.cons (Opd.gd hG u_1) .nil)))) <| o_g (g_f rfl rfl rfl (fun hG => Zcg rfl rfl (Opd.gd hG u_0))) <| o_p rfl (Zbu rfl rfl u_0 (fun hz => (Opd.gd (bNF hz) u_1))) <| o_n) (by kernel_rfl) (fun a g hst hb => ?_)
         refine wp_cond_split (hst.bool 4 rfl) (fun hc16 => ?_) (fun hc16 => ?_)
         · replace H1 := Zz hc16 H1
           refine r_s (L := []) (T := [⟨[], _, [], [], [4]⟩]) (F := [.op 0 0]) (hst.pick [] rfl) hb Zb
             (o_p rfl (Zc rfl rfl c_b) <| o_n) (by kernel_rfl) (fun a g hst hb => ?_)
           refine wp_ret ?_
           refine Z7 ?_
           refine Zt ?_
           refine Zt ?_
           refine Z7 ?_
           refine Zt ?_
           refine Zt ?_
           obtain rfl := Option.some.inj H1
           obtain rfl := Option.some.inj H0
           exact Z8 rfl hst hb (Zk (s := 4)) (hst.at 0 rfl)
         · replace H1 := Z0 hc16 H1
           refine wp_skip ?_
           refine Zbp ?_
           refine Zv ?_
           refine r_g (L := [(2, _), (3, _), (18, _), (19, _)]) (T := [⟨[.old 3], _, [], [], [45]⟩, ⟨[.op 0 0], _, [], [0], [19]⟩]) (F := [.old 0, .old 1, .old 2, .op 1 0]) (hst.pick [0, 1, 2, 3] rfl) hb Zb
             (o_p rfl (Zch rfl rfl u_0 c_i rfl) <| o_p rfl (Za rfl rfl u_0) <| o_n) (by kernel_rfl) (fun a g hst hb => ?_)
           exact ⟨n, Nat.lt_succ_self _, (IntKind.i64.wrap (x8 + (1 : Int))), g, rfl, (hst.pick [0, 1, 2, 3] rfl), hb, H1⟩
       · replace H1 := Z0 hc9 H1
         refine wp_exit ?_
         refine Zca ?_
         refine Zca ?_
         refine Zcv ?_
         exact ⟨g, rfl, (hst.pick [] rfl), hb, Option.some.inj H1⟩
theorem Zin (a0 : Int) (a1 : Zd) (a2 : Bool) {r : Zd × Bool × Zi × Zd} (h : Zg2 a0 a1 a2 = some r) : FnB Tryz.prog 92 [.val (pInt .i64 a0), .box Zh a1 r.2.2.2, .val (Kd.bool.ptr a2)] (pTup [(Zh.pd r.1), (Zbe r.2.1), (Zn.pd r.2.2.1)]) := by
 have H0 := h
 unfold Zg2 at H0
 clear h
 refine Zi5 (N := 11) Tryz.func92 rfl rfl (Nat.le_of_ble_eq_true rfl) rfl rfl (fun a g0 bs hbs hst hb => ?_)
 obtain ⟨b1, rfl⟩ := Z5c hbs
 replace hst : St 11 [(0, (pInt .i64 a0)), (1, (Zb3 (some b1) Zh 1 a1)), (2, (Kd.bool.ptr a2))] _ _ := hst
 refine r_s (T := [⟨[], [(4, (pBox Zh 4 (default : Zd)))], [5], [], [4]⟩, ⟨[], _, [], [], [5]⟩, ⟨[], [(6, (pBox Zn 6 (default : Zi)))], [7], [], [6]⟩]) (F := [.old 0, .old 1, .old 2, .op 0 0, .op 2 0]) hst hb Zb
   (o_p rfl (Zbk (zs := [.int .i64 0, .int .i64 0, .int .i64 0, .int .i64 0, .float .f64 0, .int .i64 0, .string ByteArray.empty, .slice none 0 0]) (by kernel_rfl) (fun g => Zcd g) rfl rfl) <| o_p rfl (Zc rfl rfl c_b) <| o_p rfl (Zbk (zs := [.int .i64 0, .int .i64 0, .int .i64 0, .int .i64 0, .int .i64 0, .int .i64 0, .float .f64 0, .int .i64 0, .string ByteArray.empty, .slice none 0 0]) (by kernel_rfl) (fun g => Zh5 g) rfl rfl) <| o_n) (by kernel_rfl) (fun a g hst hb => ?_)
 refine r_s (T := [⟨[.old 1], _, [], [], [7]⟩, ⟨[.old 2], _, [], [], [8]⟩, ⟨[.old 0], _, [], [], [9]⟩, ⟨[.op 2 0], _, [], [2], [10]⟩, ⟨[.op 0 0, .old 3], _, [5], [0], [4]⟩, ⟨[.op 1 0], _, [], [0, 1, 4], [5]⟩, ⟨[.op 3 0, .old 4], _, [7], Lr 6, [6]⟩]) (F := [.old 1, .op 4 0, .op 5 0, .op 6 0]) hst hb Zb
   (o_p rfl (Zck Zbh rfl rfl u_0) <| o_p rfl (Zf ty_4 rfl rfl u_0) <| o_p rfl (Za rfl rfl u_0) <| o_p rfl (Zu7 rfl rfl u_0) <| o_p rfl (Zba Zbh rfl rfl u_1 u_0) <| o_p rfl (Zc rfl rfl u_0) <| o_p rfl (Zba Zdn rfl rfl u_1 u_0) <| o_n) (by kernel_rfl) (fun a g hst hb => ?_)
 refine wp_ret ?_
 obtain rfl := Option.some.inj H0
 obtain ⟨u0, hu0, hq0⟩ := Zbl (P := Tryz.prog) Zbh (hst.at 1 rfl)
 obtain ⟨u2, hu2, hq2⟩ := Zbl (P := Tryz.prog) Zdn (hst.at 3 rfl)
 exact Zbas rfl hst hb hu0 (Zk (s := 5)) hu2 (Zib hq0 (hst.at 2 rfl) hq2) ⟨Zcp (hst.at 0 rfl), trivial⟩
theorem Z3c (a0 : Int) {r : Int} (h : Zk6 a0 = some r) : FnOk Tryz.prog 93 [(pInt .i64 a0)] (pInt .i64 r) := by
 have H0 := h
 unfold Zk6 at H0
 clear h
 refine Zbv (N := 6) Tryz.func93 rfl rfl (Nat.le_of_ble_eq_true rfl) rfl rfl (fun a g0 hst hb => ?_)
 refine r_s (T := [⟨[], _, [], [], [2]⟩]) (F := [.old 0]) hst hb Zb
   (o_p rfl (Zc rfl rfl c_i) <| o_n) (by kernel_rfl) (fun a g hst hb => ?_)
 obtain ⟨r1, h2, H0⟩ := Zg H0
 refine r_s (T := [⟨[.old 0], _, [], [], [3]⟩, ⟨[.op 0 0], _, [], [0], [4]⟩, ⟨[.op 1 0], _, [], [0, 1], [5]⟩, ⟨[.op 2 0], _, [], [0, 1, 2], [2]⟩]) (F := [.op 3 0]) hst hb Zb
   (o_p rfl (Za rfl rfl u_0) <| o_p rfl (Zq Z5y (Zvo _ h2) rfl rfl (.cons u_0 .nil)) <| o_p rfl (Zyt Zxd rfl rfl u_0) <| o_p rfl (Zc rfl rfl u_0) <| o_n) (by kernel_rfl) (fun a g hst hb => ?_)
 refine wp_ret ?_
 obtain rfl := Option.some.inj H0
 exact Z8 rfl hst hb (Zk (s := 2)) (hst.at 0 rfl)
theorem Zr7 (a0 : Zd) (a1 : Zs) (a2 : Zi) {r : Int × Zd × Zi} (h : Zi6 a0 a1 a2 = some r) : FnB Tryz.prog 113 [.box Zh a0 r.2.1, .val (Zy.pd a1), .box Zn a2 r.2.2] (pInt .i64 r.1) := by
 have H0 := h
 unfold Zi6 at H0
 clear h
 refine Zi5 (N := 12) Tryz.func113 rfl rfl (Nat.le_of_ble_eq_true rfl) rfl rfl (fun a g0 bs hbs hst hb => ?_)
 obtain ⟨b0, b2, rfl⟩ := Zky hbs
 replace hst : St 12 [(0, (Zb3 (some b0) Zh 0 a0)), (1, (Zy.pd a1)), (2, (Zb3 (some b2) Zn 2 a2))] _ _ := hst
 refine r_s (T := [⟨[.old 1], _, [], [], [4]⟩, ⟨[], _, [], [], [6]⟩]) (F := [.old 0, .old 2, .op 0 0]) hst hb Zb
   (o_p rfl (Zbr rfl rfl u_0) <| o_p rfl (Zc rfl rfl c_i) <| o_n) (by kernel_rfl) (fun a g hst hb => ?_)
 refine r_s (T := [⟨[.old 0], _, [], [], [7]⟩, ⟨[.old 2], _, [], [], [8]⟩, ⟨[.op 1 0], _, [], [1], [9]⟩, ⟨[.op 0 0], _, [], [0, 1, 2], [10]⟩, ⟨[.op 3 0], _, [], Lr 4, [11]⟩, ⟨[.op 2 0, .op 4 0, .old 0], _, [1], Lr 5, [0, 7, 10, 11]⟩]) (F := [.op 5 0, .old 1]) hst hb Zb
   (o_p rfl (Za rfl rfl u_0) <| o_p rfl (Ze Zjy rfl rfl u_0) <| o_p rfl (Zf ty_9 rfl rfl u_0) <| o_p rfl (Zm rfl rfl u_0 (fun _ _ ⟨_, _, _, e, _⟩ => ⟨_, e⟩)) <| o_p rfl (Zbb Zkp (off := 6) (by kernel_rfl) rfl rfl u_0) <| o_p rfl (Zzv ty_9 rfl rfl u_2 u_1 u_0) <| o_n) (by kernel_rfl) (fun a g hst hb => ?_)
 refine r_s (T := [⟨[], _, [], [], [6]⟩]) (F := [.old 0, .old 1, .op 0 0]) hst hb Zb
   (o_p rfl (Zc rfl rfl c_i) <| o_n) (by kernel_rfl) (fun a g hst hb => ?_)
 refine wp_ret ?_
 obtain rfl := Option.some.inj H0
 exact Zhc rfl hst hb (Zk (s := 6)) (hst.at 2 rfl) ⟨Zcp (hst.at 0 rfl), Zcp (hst.at 1 rfl), trivial⟩
theorem Zr8 (a0 : Zd) (a1 : Zs) (a2 : Zi) {r : Int × Zd × Zi} (h : Zgm a0 a1 a2 = some r) : FnB Tryz.prog 114 [.box Zh a0 r.2.1, .val (Zy.pd a1), .box Zn a2 r.2.2] (pInt .i64 r.1) := by
 have H0 := h
 unfold Zgm at H0
 clear h
 refine Zi5 (N := 19) Tryz.func114 rfl rfl (Nat.le_of_ble_eq_true rfl) rfl rfl (fun a g0 bs hbs hst hb => ?_)
 obtain ⟨b0, b2, rfl⟩ := Zky hbs
 replace hst : St 19 [(0, (Zb3 (some b0) Zh 0 a0)), (1, (Zy.pd a1)), (2, (Zb3 (some b2) Zn 2 a2))] _ _ := hst
 refine r_s (T := [⟨[.old 1], _, [], [], [4]⟩, ⟨[], _, [], [], [6]⟩]) (F := [.old 0, .old 2, .op 0 0]) hst hb Zb
   (o_p rfl (Zbr rfl rfl u_0) <| o_p rfl (Zc rfl rfl c_i) <| o_n) (by kernel_rfl) (fun a g hst hb => ?_)
 obtain ⟨r1, h2, H0⟩ := Zg H0
 refine r_s (T := [⟨[.old 1], _, [], [], [7]⟩, ⟨[.old 0], _, [], [], [8]⟩, ⟨[.op 1 0], _, [], [1], [9]⟩, ⟨[.op 2 0], _, [], [1, 2], [10]⟩, ⟨[.op 3 0], _, [], [1, 2, 3], [11]⟩, ⟨[.op 0 0], _, [], Lr 5, [12]⟩, ⟨[.op 5 0], _, [], Lr 6, [13]⟩, ⟨[.op 4 0, .op 6 0, .old 1], _, [3], Lr 7, [2, 7, 12, 13]⟩]) (F := [.old 0, .op 7 0, .old 2]) hst hb Zb
   (o_p rfl (Za rfl rfl u_0) <| o_p rfl (Za rfl rfl u_0) <| o_p rfl (Zm rfl rfl u_0 (fun _ _ ⟨_, _, _, e, _⟩ => ⟨_, e⟩)) <| o_p rfl (Zck Zbh rfl rfl u_0) <| o_p rfl (Zq Zms (Zfl _ h2) rfl rfl (.cons u_0 .nil)) <| o_p rfl (Zm rfl rfl u_0 (fun _ _ ⟨_, _, _, e, _⟩ => ⟨_, e⟩)) <| o_p rfl (Zbb Zuq (off := 2) (by kernel_rfl) rfl rfl u_0) <| o_p rfl (Z54 Zbh rfl rfl u_2 u_1 u_0) <| o_n) (by kernel_rfl) (fun a g hst hb => ?_)
 refine r_s (T := [⟨[.old 0], _, [], [], [14]⟩, ⟨[.old 2], _, [], [], [15]⟩, ⟨[.op 1 0], _, [], [1], [16]⟩, ⟨[.op 0 0], _, [], [0, 1, 2], [17]⟩, ⟨[.op 3 0], _, [], Lr 4, [18]⟩, ⟨[.op 2 0, .op 4 0, .old 0], _, [1], Lr 5, [0, 14, 17, 18]⟩]) (F := [.op 5 0, .old 1]) hst hb Zb
   (o_p rfl (Za rfl rfl u_0) <| o_p rfl (Ze Zjy rfl rfl u_0) <| o_p rfl (Zf ty_9 rfl rfl u_0) <| o_p rfl (Zm rfl rfl u_0 (fun _ _ ⟨_, _, _, e, _⟩ => ⟨_, e⟩)) <| o_p rfl (Zbb Zkp (off := 6) (by kernel_rfl) rfl rfl u_0) <| o_p rfl (Zzv ty_9 rfl rfl u_2 u_1 u_0) <| o_n) (by kernel_rfl) (fun a g hst hb => ?_)
 refine r_s (T := [⟨[], _, [], [], [6]⟩]) (F := [.old 0, .old 1, .op 0 0]) hst hb Zb
   (o_p rfl (Zc rfl rfl c_i) <| o_n) (by kernel_rfl) (fun a g hst hb => ?_)
 refine wp_ret ?_
 obtain rfl := Option.some.inj H0
 exact Zhc rfl hst hb (Zk (s := 6)) (hst.at 2 rfl) ⟨Zcp (hst.at 0 rfl), Zcp (hst.at 1 rfl), trivial⟩
theorem Zr1 (a0 : Zd) (a1 : Zs) (a2 : Zi) {r : Int × Zd × Zi} (h : Zi7 a0 a1 a2 = some r) : FnB Tryz.prog 115 [.box Zh a0 r.2.1, .val (Zy.pd a1), .box Zn a2 r.2.2] (pInt .i64 r.1) := by
 have H0 := h
 unfold Zi7 at H0
 clear h
 refine Zi5 (N := 16) Tryz.func115 rfl rfl (Nat.le_of_ble_eq_true rfl) rfl rfl (fun a g0 bs hbs hst hb => ?_)
 obtain ⟨b0, b2, rfl⟩ := Zky hbs
 replace hst : St 16 [(0, (Zb3 (some b0) Zh 0 a0)), (1, (Zy.pd a1)), (2, (Zb3 (some b2) Zn 2 a2))] _ _ := hst
 refine r_s (T := [⟨[.old 1], _, [], [], [4]⟩, ⟨[], _, [], [], [6]⟩]) (F := [.old 0, .old 2, .op 0 0]) hst hb Zb
   (o_p rfl (Zbr rfl rfl u_0) <| o_p rfl (Zc rfl rfl c_i) <| o_n) (by kernel_rfl) (fun a g hst hb => ?_)
 refine r_s (T := [⟨[.old 0], _, [], [], [7]⟩, ⟨[.op 0 0], _, [], [0], [8]⟩, ⟨[.op 1 0], _, [], [0, 1], [9]⟩, ⟨[.op 2 0], _, [], [0, 1, 2], [10]⟩, ⟨[.old 2], _, [], [], [11]⟩, ⟨[.op 4 0], _, [], [4], [12]⟩, ⟨[.op 3 0, .op 5 0], _, [], Lr 6, [13]⟩, ⟨[.op 0 0], _, [], Lr 7, [14]⟩, ⟨[.op 7 0], _, [], Lr 8, [15]⟩, ⟨[.op 6 0, .op 8 0, .old 0], _, [1], Lr 9, [0, 7, 8, 9, 14, 15]⟩]) (F := [.op 9 0, .old 1]) hst hb Zb
   (o_p rfl (Za rfl rfl u_0) <| o_p rfl (Zm rfl rfl u_0 (fun _ _ ⟨_, _, _, e, _⟩ => ⟨_, e⟩)) <| o_p rfl (Zbb Zem (off := 1) (by kernel_rfl) rfl rfl u_0) <| o_p rfl (Zcm ty_2 rfl rfl u_0) <| o_p rfl (Ze Zhb rfl rfl u_0) <| o_p rfl (Zf ty_2 rfl rfl u_0) <| o_p rfl (Zch rfl rfl u_0 u_1 rfl) <| o_p rfl (Zm rfl rfl u_0 (fun _ _ ⟨_, _, _, e, _⟩ => ⟨_, e⟩)) <| o_p rfl (Zbb Zem (off := 1) (by kernel_rfl) rfl rfl u_0) <| o_p rfl (Zrn ty_2 rfl rfl u_2 u_1 u_0) <| o_n) (by kernel_rfl) (fun a g hst hb => ?_)
 refine r_s (T := [⟨[], _, [], [], [6]⟩]) (F := [.old 0, .old 1, .op 0 0]) hst hb Zb
   (o_p rfl (Zc rfl rfl c_i) <| o_n) (by kernel_rfl) (fun a g hst hb => ?_)
 refine wp_ret ?_
 obtain rfl := Option.some.inj H0
 exact Zhc rfl hst hb (Zk (s := 6)) (hst.at 2 rfl) ⟨Zcp (hst.at 0 rfl), Zcp (hst.at 1 rfl), trivial⟩
theorem Zyd (a0 : Zd) (a1 : Zs) (a2 : Zi) {r : Int × Zd × Zi} (h : Zj8 a0 a1 a2 = some r) : FnB Tryz.prog 116 [.box Zh a0 r.2.1, .val (Zy.pd a1), .box Zn a2 r.2.2] (pInt .i64 r.1) := by
 have H0 := h
 unfold Zj8 at H0
 clear h
 refine Zi5 (N := 44) Tryz.func116 rfl rfl (Nat.le_of_ble_eq_true rfl) rfl rfl (fun a g0 bs hbs hst hb => ?_)
 obtain ⟨b0, b2, rfl⟩ := Zky hbs
 replace hst : St 44 [(0, (Zb3 (some b0) Zh 0 a0)), (1, (Zy.pd a1)), (2, (Zb3 (some b2) Zn 2 a2))] _ _ := hst
 refine r_s (T := [⟨[.old 1], _, [], [], [4]⟩, ⟨[], _, [], [], [6]⟩]) (F := [.old 0, .old 2, .op 0 0]) hst hb Zb
   (o_p rfl (Zbr rfl rfl u_0) <| o_p rfl (Zc rfl rfl c_i) <| o_n) (by kernel_rfl) (fun a g hst hb => ?_)
 refine wp_seq ?_
 refine r_s (T := ⟨[.old 2], _, [], [], [7]⟩ :: ⟨[.op 0 0], _, [], [0], [8]⟩ :: ⟨[.op 1 0], _, [], [0, 1], [9]⟩ :: ⟨[.op 2 0], _, [], [0, 1, 2], [10]⟩ :: ⟨[.op 3 0, .old 0], _, [], Lr 4, [11]⟩ :: ⟨[.op 3 0, .op 4 0], _, [], Lr 5, [12]⟩ :: ⟨[.op 3 0, .op 5 0], _, [], Lr 6, [13]⟩ :: ⟨[.op 3 0, .op 6 0], _, [], Lr 7, [14]⟩ :: ⟨[.op 3 0, .old 2], _, [], Lr 4, [15]⟩ :: ⟨[.op 3 0, .op 8 0], _, [], [0, 1, 2, 3, 8], [16]⟩ :: ⟨[.op 3 0, .op 9 0], _, [], [0, 1, 2, 3, 8, 9], [17]⟩ :: ⟨[.op 3 0, .op 7 0, .op 10 0], _, [], Lr 11, [18]⟩ :: ⟨[.op 3 0, .op 11 0], _, [], Lr 12, [19]⟩ :: ⟨[.op 12 0], _, [], Lr 13, [20]⟩ :: ⟨[.op 13 0, .old 2], _, [], Lr 14, [21]⟩ :: ⟨[.op 13 0, .op 14 0], _, [], Lr 15, [22]⟩ :: ⟨[.op 13 0, .op 15 0], _, [], Lr 16, [23]⟩ :: ⟨[.op 13 0, .op 16 0], _, [], Lr 17, [24]⟩ :: ⟨[.op 17 0, .old 0], _, [], Lr 18, [25]⟩ :: ⟨[.op 17 0, .op 18 0], _, [], Lr 19, [26]⟩ :: ⟨[.op 17 0, .op 19 0], _, [], Lr 20, [27]⟩ :: ⟨[.op 17 0, .op 20 0], _, [], Lr 21, [28]⟩ :: ⟨[.op 17 0, .old 2], _, [], Lr 18, [29]⟩ :: ⟨[.op 17 0, .op 22 0], _, [], 0 :: 1 :: 2 :: 3 :: 4 :: 5 :: 6 :: 7 :: 8 :: 9 :: 10 :: 11 :: 12 :: 13 :: 14 :: 15 :: 16 :: 17 :: 22 :: [], [30]⟩ :: ⟨[.op 17 0, .op 23 0], _, [], 0 :: 1 :: 2 :: 3 :: 4 :: 5 :: 6 :: 7 :: 8 :: 9 :: 10 :: 11 :: 12 :: 13 :: 14 :: 15 :: 16 :: 17 :: 22 :: 23 :: [], [31]⟩ :: ⟨[.op 17 0, .op 21 0, .op 24 0], _, [], Lr 25, [32]⟩ :: ⟨[.op 13 0, .op 17 0, .op 25 0], _, [], Lr 26, [33]⟩ :: ⟨[.op 13 0, .op 26 0], _, [], Lr 27, [34]⟩ :: []) (F := [.old 0, .old 1, .old 2, .op 27 0]) hst hb Zb
   (o_p rfl (Ze Zhb rfl rfl u_0) <| o_p rfl (Zf ty_2 rfl rfl u_0) <| o_p rfl (Zcy rfl rfl u_0 c_i) <| o_p rfl (Za rfl rfl u_0) <| o_g (g_t rfl rfl rfl (fun hG => Za rfl rfl u_0)) <| o_g (g_t rfl rfl rfl (fun hG => Zm rfl rfl (Opd.gd hG u_0) (fun _ _ ⟨_, _, _, e, _⟩ => ⟨_, e⟩))) <| o_g (g_t rfl rfl rfl (fun hG => Zbb Zem (off := 1) (by kernel_rfl) rfl rfl (Opd.gd hG u_0))) <| o_g (g_t rfl rfl rfl (fun hG => Zcm ty_2 rfl rfl (Opd.gd hG u_0))) <| o_g (g_t rfl rfl rfl (fun hG => Ze Zhb rfl rfl u_0)) <| o_g (g_t rfl rfl rfl (fun hG => Zf ty_2 rfl rfl (Opd.gd hG u_0))) <| o_g (g_t rfl rfl rfl (fun hG => Zkf rfl rfl c_i (Opd.gd hG u_0) rfl)) <| o_g (g_t rfl rfl rfl (fun hG => Zcy rfl rfl (Opd.gd hG u_0) (Opd.gd hG u_1))) <| o_p rfl (Zbm rfl rfl u_0 (fun hz => (Opd.gd hz u_1))) <| o_p rfl (Za rfl rfl u_0) <| o_g (g_f rfl rfl rfl (fun hG => Ze Zhb rfl rfl u_0)) <| o_g (g_f rfl rfl rfl (fun hG => Zf ty_2 rfl rfl (Opd.gd hG u_0))) <| o_g (g_f rfl rfl rfl (fun hG => Zc0 rfl rfl (Opd.gd hG u_0) c_i)) <| o_g (g_f rfl rfl rfl (fun hG => Za rfl rfl (Opd.gd hG u_0))) <| o_g (g_ti rfl rfl rfl (fun hG => Za rfl rfl u_0)) <| o_g (g_ti rfl rfl rfl (fun hG => Zm rfl rfl (Opd.gd hG u_0) (fun _ _ ⟨_, _, _, e, _⟩ => ⟨_, e⟩))) <| o_g (g_ti rfl rfl rfl (fun hG => Zbb Zem (off := 1) (by kernel_rfl) rfl rfl (Opd.gd hG u_0))) <| o_g (g_ti rfl rfl rfl (fun hG => Zcm ty_2 rfl rfl (Opd.gd hG u_0))) <| o_g (g_ti rfl rfl rfl (fun hG => Ze Zhb rfl rfl u_0)) <| o_g (g_ti rfl rfl rfl (fun hG => Zf ty_2 rfl rfl (Opd.gd hG u_0))) <| o_g (g_ti rfl rfl rfl (fun hG => Zkf rfl rfl c_i (Opd.gd hG u_0) rfl)) <| o_g (g_ti rfl rfl rfl (fun hG => Zc0 rfl rfl (Opd.gd hG u_0) (Opd.gd hG u_1))) <| o_g (g_f rfl rfl rfl (fun hG => Zbm rfl rfl (Opd.gd hG u_0) (fun hz => (Opd.gd (bA hG hz) u_1)))) <| o_p rfl (Zbu rfl rfl u_0 (fun hz => (Opd.gd (bNF hz) u_1))) <| o_n) (by kernel_rfl) (fun a g hst hb => ?_)
 refine wp_cond_split (hst.bool 3 rfl) (fun hc1 => ?_) (fun hc1 => ?_)
 · replace H0 := Zz hc1 H0
   refine r_s (L := [(0, _), (2, _)]) (T := [⟨[], _, [], [], [6]⟩]) (F := [.old 0, .old 1, .op 0 0]) (hst.pick [0, 1] rfl) hb Zb
     (o_p rfl (Zc rfl rfl c_i) <| o_n) (by kernel_rfl) (fun a g hst hb => ?_)
   refine wp_ret ?_
   refine Zt ?_
   obtain rfl := Option.some.inj H0
   exact Zhc rfl hst hb (Zk (s := 6)) (hst.at 2 rfl) ⟨Zcp (hst.at 0 rfl), Zcp (hst.at 1 rfl), trivial⟩
 · replace H0 := Z0 hc1 H0
   refine wp_skip ?_
   refine Zv ?_
   refine r_s (L := [(0, _), (2, _), (4, _)]) (T := [⟨[.old 0], _, [], [], [35]⟩, ⟨[.op 0 0], _, [], [0], [36]⟩, ⟨[.op 1 0], _, [], [0, 1], [37]⟩, ⟨[.op 2 0], _, [], [0, 1, 2], [38]⟩, ⟨[.old 2], _, [], [], [39]⟩, ⟨[.op 4 0], _, [], [4], [40]⟩, ⟨[.op 3 0, .op 5 0], _, [], Lr 6, [41]⟩, ⟨[.op 0 0], _, [], Lr 7, [42]⟩, ⟨[.op 7 0], _, [], Lr 8, [43]⟩, ⟨[.op 6 0, .op 8 0, .old 0], _, [1], Lr 9, [0, 35, 36, 37, 42, 43]⟩]) (F := [.op 9 0, .old 1]) (hst.pick [0, 1, 2] rfl) hb Zb
     (o_p rfl (Za rfl rfl u_0) <| o_p rfl (Zm rfl rfl u_0 (fun _ _ ⟨_, _, _, e, _⟩ => ⟨_, e⟩)) <| o_p rfl (Zbb Zem (off := 1) (by kernel_rfl) rfl rfl u_0) <| o_p rfl (Zcm ty_2 rfl rfl u_0) <| o_p rfl (Ze Zhb rfl rfl u_0) <| o_p rfl (Zf ty_2 rfl rfl u_0) <| o_p rfl (Zch rfl rfl u_0 u_1 rfl) <| o_p rfl (Zm rfl rfl u_0 (fun _ _ ⟨_, _, _, e, _⟩ => ⟨_, e⟩)) <| o_p rfl (Zbb Zem (off := 1) (by kernel_rfl) rfl rfl u_0) <| o_p rfl (Zrn ty_2 rfl rfl u_2 u_1 u_0) <| o_n) (by kernel_rfl) (fun a g hst hb => ?_)
   refine r_s (T := [⟨[], _, [], [], [6]⟩]) (F := [.old 0, .old 1, .op 0 0]) hst hb Zb
     (o_p rfl (Zc rfl rfl c_i) <| o_n) (by kernel_rfl) (fun a g hst hb => ?_)
   refine wp_ret ?_
   obtain rfl := Option.some.inj H0
   exact Zhc rfl hst hb (Zk (s := 6)) (hst.at 2 rfl) ⟨Zcp (hst.at 0 rfl), Zcp (hst.at 1 rfl), trivial⟩
theorem Zon (a0 : Zd) (a1 : Zs) (a2 : Zi) {r : Int × Zd × Zi} (h : Zd4 a0 a1 a2 = some r) : FnB Tryz.prog 117 [.box Zh a0 r.2.1, .val (Zy.pd a1), .box Zn a2 r.2.2] (pInt .i64 r.1) := by
 have H0 := h
 unfold Zd4 at H0
 clear h
 refine Zi5 (N := 14) Tryz.func117 rfl rfl (Nat.le_of_ble_eq_true rfl) rfl rfl (fun a g0 bs hbs hst hb => ?_)
 obtain ⟨b0, b2, rfl⟩ := Zky hbs
 replace hst : St 14 [(0, (Zb3 (some b0) Zh 0 a0)), (1, (Zy.pd a1)), (2, (Zb3 (some b2) Zn 2 a2))] _ _ := hst
 refine r_s (T := [⟨[.old 1], _, [], [], [4]⟩, ⟨[], _, [], [], [6]⟩]) (F := [.old 0, .old 2, .op 0 0]) hst hb Zb
   (o_p rfl (Zbr rfl rfl u_0) <| o_p rfl (Zc rfl rfl c_i) <| o_n) (by kernel_rfl) (fun a g hst hb => ?_)
 refine wp_seq ?_
 refine r_s (T := [⟨[.old 0], _, [], [], [7]⟩, ⟨[.op 0 0], _, [], [0], [8]⟩, ⟨[.op 1 0], _, [], [0, 1], [9]⟩, ⟨[.op 2 0], _, [], [0, 1, 2], [10]⟩, ⟨[.old 2], _, [], [], [11]⟩, ⟨[.op 4 0], _, [], [4], [12]⟩, ⟨[.op 3 0, .op 5 0], _, [], Lr 6, [13]⟩]) (F := [.old 0, .old 1, .op 6 0]) hst hb Zb
   (o_p rfl (Za rfl rfl u_0) <| o_p rfl (Zm rfl rfl u_0 (fun _ _ ⟨_, _, _, e, _⟩ => ⟨_, e⟩)) <| o_p rfl (Zbb Zem (off := 1) (by kernel_rfl) rfl rfl u_0) <| o_p rfl (Zcm ty_2 rfl rfl u_0) <| o_p rfl (Ze Zhb rfl rfl u_0) <| o_p rfl (Zf ty_2 rfl rfl u_0) <| o_p rfl (Zc0 rfl rfl u_0 u_1) <| o_n) (by kernel_rfl) (fun a g hst hb => ?_)
 refine wp_cond_split (hst.bool 2 rfl) (fun hc1 => ?_) (fun hc1 => ?_)
 · replace H0 := Zz hc1 H0
   refine r_s (L := [(0, _), (2, _)]) (T := [⟨[], _, [], [], [6]⟩]) (F := [.old 0, .old 1, .op 0 0]) (hst.pick [0, 1] rfl) hb Zb
     (o_p rfl (Zc rfl rfl c_i) <| o_n) (by kernel_rfl) (fun a g hst hb => ?_)
   refine wp_ret ?_
   refine Zt ?_
   obtain rfl := Option.some.inj H0
   exact Zhc rfl hst hb (Zk (s := 6)) (hst.at 2 rfl) ⟨Zcp (hst.at 0 rfl), Zcp (hst.at 1 rfl), trivial⟩
 · replace H0 := Z0 hc1 H0
   refine wp_skip ?_
   refine Zv ?_
   refine r_s (L := [(0, _), (2, _)]) (T := [⟨[], _, [], [], [6]⟩]) (F := [.old 0, .old 1, .op 0 0]) (hst.pick [0, 1] rfl) hb Zb
     (o_p rfl (Zc rfl rfl c_i) <| o_n) (by kernel_rfl) (fun a g hst hb => ?_)
   refine wp_ret ?_
   obtain rfl := Option.some.inj H0
   exact Zhc rfl hst hb (Zk (s := 6)) (hst.at 2 rfl) ⟨Zcp (hst.at 0 rfl), Zcp (hst.at 1 rfl), trivial⟩
theorem Zr6 (a0 : Zd) (a1 : Zs) (a2 : Zi) {r : Int × Zd × Zi} (h : Zgw a0 a1 a2 = some r) : FnB Tryz.prog 118 [.box Zh a0 r.2.1, .val (Zy.pd a1), .box Zn a2 r.2.2] (pInt .i64 r.1) := by
 have H0 := h
 unfold Zgw at H0
 clear h
 refine Zi5 (N := 28) Tryz.func118 rfl rfl (Nat.le_of_ble_eq_true rfl) rfl rfl (fun a g0 bs hbs hst hb => ?_)
 obtain ⟨b0, b2, rfl⟩ := Zky hbs
 replace hst : St 28 [(0, (Zb3 (some b0) Zh 0 a0)), (1, (Zy.pd a1)), (2, (Zb3 (some b2) Zn 2 a2))] _ _ := hst
 refine r_s (T := [⟨[.old 1], _, [], [], [4]⟩, ⟨[], _, [], [], [6]⟩]) (F := [.old 0, .old 2, .op 0 0]) hst hb Zb
   (o_p rfl (Zbr rfl rfl u_0) <| o_p rfl (Zc rfl rfl c_i) <| o_n) (by kernel_rfl) (fun a g hst hb => ?_)
 refine wp_seq ?_
 refine r_s (T := ⟨[.old 2], _, [], [], [7]⟩ :: ⟨[.op 0 0], _, [], [0], [8]⟩ :: ⟨[.old 0], _, [], [], [9]⟩ :: ⟨[.op 2 0], _, [], [2], [10]⟩ :: ⟨[.op 3 0], _, [], [2, 3], [11]⟩ :: ⟨[.op 4 0], _, [], [2, 3, 4], [12]⟩ :: ⟨[.old 0], _, [], [], [13]⟩ :: ⟨[.op 6 0], _, [], [6], [14]⟩ :: ⟨[.op 7 0], _, [], [6, 7], [15]⟩ :: ⟨[.op 8 0], _, [], [6, 7, 8], [16]⟩ :: ⟨[.op 5 0, .op 9 0], _, [], List.range' 2 8, [17]⟩ :: ⟨[.op 1 0, .op 10 0], _, [], Lr 11, [18]⟩ :: []) (F := [.old 0, .old 1, .old 2, .op 11 0]) hst hb Zb
   (o_p rfl (Ze Zhb rfl rfl u_0) <| o_p rfl (Zf ty_2 rfl rfl u_0) <| o_p rfl (Za rfl rfl u_0) <| o_p rfl (Zm rfl rfl u_0 (fun _ _ ⟨_, _, _, e, _⟩ => ⟨_, e⟩)) <| o_p rfl (Zbb Zkt (off := 3) (by kernel_rfl) rfl rfl u_0) <| o_p rfl (Zcm ty_2 rfl rfl u_0) <| o_p rfl (Za rfl rfl u_0) <| o_p rfl (Zm rfl rfl u_0 (fun _ _ ⟨_, _, _, e, _⟩ => ⟨_, e⟩)) <| o_p rfl (Zbb Zem (off := 1) (by kernel_rfl) rfl rfl u_0) <| o_p rfl (Zcm ty_2 rfl rfl u_0) <| o_p rfl (Zkf rfl rfl u_0 u_1 rfl) <| o_p rfl (Zcy rfl rfl u_0 u_1) <| o_n) (by kernel_rfl) (fun a g hst hb => ?_)
 refine wp_cond_split (hst.bool 3 rfl) (fun hc1 => ?_) (fun hc1 => ?_)
 · replace H0 := Zz hc1 H0
   refine r_s (L := [(0, _), (2, _)]) (T := [⟨[], _, [], [], [6]⟩]) (F := [.old 0, .old 1, .op 0 0]) (hst.pick [0, 1] rfl) hb Zb
     (o_p rfl (Zc rfl rfl c_i) <| o_n) (by kernel_rfl) (fun a g hst hb => ?_)
   refine wp_ret ?_
   refine Zt ?_
   obtain rfl := Option.some.inj H0
   exact Zhc rfl hst hb (Zk (s := 6)) (hst.at 2 rfl) ⟨Zcp (hst.at 0 rfl), Zcp (hst.at 1 rfl), trivial⟩
 · replace H0 := Z0 hc1 H0
   refine wp_skip ?_
   refine Zv ?_
   refine r_s (L := [(0, _), (2, _), (4, _)]) (T := [⟨[.old 0], _, [], [], [19]⟩, ⟨[.op 0 0], _, [], [0], [20]⟩, ⟨[.op 1 0], _, [], [0, 1], [21]⟩, ⟨[.op 2 0], _, [], [0, 1, 2], [22]⟩, ⟨[.old 2], _, [], [], [23]⟩, ⟨[.op 4 0], _, [], [4], [24]⟩, ⟨[.op 3 0, .op 5 0], _, [], Lr 6, [25]⟩, ⟨[.op 0 0], _, [], Lr 7, [26]⟩, ⟨[.op 7 0], _, [], Lr 8, [27]⟩, ⟨[.op 6 0, .op 8 0, .old 0], _, [1], Lr 9, [0, 19, 20, 21, 26, 27]⟩]) (F := [.op 9 0, .old 1]) (hst.pick [0, 1, 2] rfl) hb Zb
     (o_p rfl (Za rfl rfl u_0) <| o_p rfl (Zm rfl rfl u_0 (fun _ _ ⟨_, _, _, e, _⟩ => ⟨_, e⟩)) <| o_p rfl (Zbb Zem (off := 1) (by kernel_rfl) rfl rfl u_0) <| o_p rfl (Zcm ty_2 rfl rfl u_0) <| o_p rfl (Ze Zhb rfl rfl u_0) <| o_p rfl (Zf ty_2 rfl rfl u_0) <| o_p rfl (Zch rfl rfl u_0 u_1 rfl) <| o_p rfl (Zm rfl rfl u_0 (fun _ _ ⟨_, _, _, e, _⟩ => ⟨_, e⟩)) <| o_p rfl (Zbb Zem (off := 1) (by kernel_rfl) rfl rfl u_0) <| o_p rfl (Zrn ty_2 rfl rfl u_2 u_1 u_0) <| o_n) (by kernel_rfl) (fun a g hst hb => ?_)
   refine r_s (T := [⟨[], _, [], [], [6]⟩]) (F := [.old 0, .old 1, .op 0 0]) hst hb Zb
     (o_p rfl (Zc rfl rfl c_i) <| o_n) (by kernel_rfl) (fun a g hst hb => ?_)
   refine wp_ret ?_
   obtain rfl := Option.some.inj H0
   exact Zhc rfl hst hb (Zk (s := 6)) (hst.at 2 rfl) ⟨Zcp (hst.at 0 rfl), Zcp (hst.at 1 rfl), trivial⟩
theorem Zr2 (a0 : Zd) (a1 : Zs) (a2 : Zi) {r : Int × Zd × Zi} (h : Zgp a0 a1 a2 = some r) : FnB Tryz.prog 119 [.box Zh a0 r.2.1, .val (Zy.pd a1), .box Zn a2 r.2.2] (pInt .i64 r.1) := by
 have H0 := h
 unfold Zgp at H0
 clear h
 refine Zi5 (N := 28) Tryz.func119 rfl rfl (Nat.le_of_ble_eq_true rfl) rfl rfl (fun a g0 bs hbs hst hb => ?_)
 obtain ⟨b0, b2, rfl⟩ := Zky hbs
 replace hst : St 28 [(0, (Zb3 (some b0) Zh 0 a0)), (1, (Zy.pd a1)), (2, (Zb3 (some b2) Zn 2 a2))] _ _ := hst
 refine r_s (T := [⟨[.old 1], _, [], [], [4]⟩, ⟨[], _, [], [], [6]⟩]) (F := [.old 0, .old 2, .op 0 0]) hst hb Zb
   (o_p rfl (Zbr rfl rfl u_0) <| o_p rfl (Zc rfl rfl c_i) <| o_n) (by kernel_rfl) (fun a g hst hb => ?_)
 refine wp_seq ?_
 refine r_s (T := ⟨[.old 2], _, [], [], [7]⟩ :: ⟨[.op 0 0], _, [], [0], [8]⟩ :: ⟨[.old 0], _, [], [], [9]⟩ :: ⟨[.op 2 0], _, [], [2], [10]⟩ :: ⟨[.op 3 0], _, [], [2, 3], [11]⟩ :: ⟨[.op 4 0], _, [], [2, 3, 4], [12]⟩ :: ⟨[.old 0], _, [], [], [13]⟩ :: ⟨[.op 6 0], _, [], [6], [14]⟩ :: ⟨[.op 7 0], _, [], [6, 7], [15]⟩ :: ⟨[.op 8 0], _, [], [6, 7, 8], [16]⟩ :: ⟨[.op 5 0, .op 9 0], _, [], List.range' 2 8, [17]⟩ :: ⟨[.op 1 0, .op 10 0], _, [], Lr 11, [18]⟩ :: []) (F := [.old 0, .old 1, .old 2, .op 11 0]) hst hb Zb
   (o_p rfl (Ze Zhb rfl rfl u_0) <| o_p rfl (Zf ty_2 rfl rfl u_0) <| o_p rfl (Za rfl rfl u_0) <| o_p rfl (Zm rfl rfl u_0 (fun _ _ ⟨_, _, _, e, _⟩ => ⟨_, e⟩)) <| o_p rfl (Zbb Zem (off := 1) (by kernel_rfl) rfl rfl u_0) <| o_p rfl (Zcm ty_2 rfl rfl u_0) <| o_p rfl (Za rfl rfl u_0) <| o_p rfl (Zm rfl rfl u_0 (fun _ _ ⟨_, _, _, e, _⟩ => ⟨_, e⟩)) <| o_p rfl (Zbb Zkj (off := 2) (by kernel_rfl) rfl rfl u_0) <| o_p rfl (Zcm ty_2 rfl rfl u_0) <| o_p rfl (Zkf rfl rfl u_0 u_1 rfl) <| o_p rfl (Zcy rfl rfl u_0 u_1) <| o_n) (by kernel_rfl) (fun a g hst hb => ?_)
 refine wp_cond_split (hst.bool 3 rfl) (fun hc1 => ?_) (fun hc1 => ?_)
 · replace H0 := Zz hc1 H0
   refine r_s (L := [(0, _), (2, _)]) (T := [⟨[], _, [], [], [6]⟩]) (F := [.old 0, .old 1, .op 0 0]) (hst.pick [0, 1] rfl) hb Zb
     (o_p rfl (Zc rfl rfl c_i) <| o_n) (by kernel_rfl) (fun a g hst hb => ?_)
   refine wp_ret ?_
   refine Zt ?_
   obtain rfl := Option.some.inj H0
   exact Zhc rfl hst hb (Zk (s := 6)) (hst.at 2 rfl) ⟨Zcp (hst.at 0 rfl), Zcp (hst.at 1 rfl), trivial⟩
 · replace H0 := Z0 hc1 H0
   refine wp_skip ?_
   refine Zv ?_
   refine r_s (L := [(0, _), (2, _), (4, _)]) (T := [⟨[.old 0], _, [], [], [19]⟩, ⟨[.op 0 0], _, [], [0], [20]⟩, ⟨[.op 1 0], _, [], [0, 1], [21]⟩, ⟨[.op 2 0], _, [], [0, 1, 2], [22]⟩, ⟨[.old 2], _, [], [], [23]⟩, ⟨[.op 4 0], _, [], [4], [24]⟩, ⟨[.op 3 0, .op 5 0], _, [], Lr 6, [25]⟩, ⟨[.op 0 0], _, [], Lr 7, [26]⟩, ⟨[.op 7 0], _, [], Lr 8, [27]⟩, ⟨[.op 6 0, .op 8 0, .old 0], _, [1], Lr 9, [0, 19, 20, 21, 26, 27]⟩]) (F := [.op 9 0, .old 1]) (hst.pick [0, 1, 2] rfl) hb Zb
     (o_p rfl (Za rfl rfl u_0) <| o_p rfl (Zm rfl rfl u_0 (fun _ _ ⟨_, _, _, e, _⟩ => ⟨_, e⟩)) <| o_p rfl (Zbb Zem (off := 1) (by kernel_rfl) rfl rfl u_0) <| o_p rfl (Zcm ty_2 rfl rfl u_0) <| o_p rfl (Ze Zhb rfl rfl u_0) <| o_p rfl (Zf ty_2 rfl rfl u_0) <| o_p rfl (Zkf rfl rfl u_0 u_1 rfl) <| o_p rfl (Zm rfl rfl u_0 (fun _ _ ⟨_, _, _, e, _⟩ => ⟨_, e⟩)) <| o_p rfl (Zbb Zem (off := 1) (by kernel_rfl) rfl rfl u_0) <| o_p rfl (Zrn ty_2 rfl rfl u_2 u_1 u_0) <| o_n) (by kernel_rfl) (fun a g hst hb => ?_)
   refine r_s (T := [⟨[], _, [], [], [6]⟩]) (F := [.old 0, .old 1, .op 0 0]) hst hb Zb
     (o_p rfl (Zc rfl rfl c_i) <| o_n) (by kernel_rfl) (fun a g hst hb => ?_)
   refine wp_ret ?_
   obtain rfl := Option.some.inj H0
   exact Zhc rfl hst hb (Zk (s := 6)) (hst.at 2 rfl) ⟨Zcp (hst.at 0 rfl), Zcp (hst.at 1 rfl), trivial⟩
theorem Zja (h : Nat) (he : Zp Tryz.prog h) (ψ : Nat → Nat → Option Nat) (hψ : ∀ x y z, ψ x y = some z → FnOk Tryz.prog h [pFlt x, pFlt y] (pFlt z)) (a0 : Zd) (a1 : Zs) (a2 : Zi) {z : Nat} (hz : ψ a0.Real a1.X = some z) : FnB Tryz.prog 135 [.box Zh a0 { a0 with Real := z }, .val (Zy.pd a1), .box Zn a2 a2, .val (Kd.fnc.ptr h)] (pInt .i64 0) := by
 refine Zi5 (N := 19) Tryz.func135 rfl rfl (Nat.le_of_ble_eq_true rfl) rfl rfl (fun a g0 bs hbs hst hb => ?_)
 obtain ⟨b0, b2, rfl⟩ := Zky hbs
 replace hst : St 19 [(0, (Zb3 (some b0) Zh 0 a0)), (1, (Zy.pd a1)), (2, (Zb3 (some b2) Zn 2 a2)), (3, (Kd.fnc.ptr h))] _ _ := hst
 refine r_s (T := [⟨[.old 1], _, [], [], [5]⟩, ⟨[], _, [], [], [7]⟩]) (F := [.old 0, .old 2, .old 3, .op 0 0]) hst hb Zb
   (o_p rfl (Zbr rfl rfl u_0) <| o_p rfl (Zc rfl rfl c_i) <| o_n) (by kernel_rfl) (fun a g hst hb => ?_)
 refine r_s (T := [⟨[.old 0], _, [], [], [8]⟩, ⟨[.old 2], _, [], [], [9]⟩, ⟨[.old 0], _, [], [], [10]⟩, ⟨[.op 2 0], _, [], [2], [11]⟩, ⟨[.op 3 0], _, [], [2, 3], [12]⟩, ⟨[.op 4 0], _, [], [2, 3, 4], [13]⟩, ⟨[.old 3], _, [], [], [14]⟩, ⟨[.op 6 0], _, [], [6], [15]⟩, ⟨[.op 1 0, .op 5 0, .op 7 0], [(16, (pFlt z))], [], [1, 2, 3, 4, 5, 6, 7], [16]⟩, ⟨[.op 0 0], _, [], [0, 1, 2, 3, 4, 5, 6, 7, 8], [17]⟩, ⟨[.op 9 0], _, [], [0, 1, 2, 3, 4, 5, 6, 7, 8, 9], [18]⟩, ⟨[.op 8 0, .op 10 0, .old 0], _, [1], [0, 1, 2, 3, 4, 5, 6, 7, 8, 9, 10], [0, 8, 10, 11, 12, 17, 18]⟩]) (F := [.op 11 0, .old 1]) hst hb Zb
   (o_p rfl (Za rfl rfl u_0) <| o_p rfl (Zf Z7h rfl rfl u_0) <| o_p rfl (Za rfl rfl u_0) <| o_p rfl (Zm rfl rfl u_0 (fun _ _ ⟨_, _, _, e, _⟩ => ⟨_, e⟩)) <| o_p rfl (Zbb Zlo (off := 4) (by kernel_rfl) rfl rfl u_0) <| o_p rfl (Zcm Zfg rfl rfl u_0) <| o_p rfl (Ze Zrl rfl rfl u_0) <| o_p rfl (Zf Zfg rfl rfl u_0) <| o_p rfl (Zpk (C := []) (hC := rfl) he (hψ _ _ _ hz) rfl rfl (Opd.imp u_0 (fun _ _ h => Z6q h)) (.cons u_1 (.cons u_2 .nil))) <| o_p rfl (Zm rfl rfl u_0 (fun _ _ ⟨_, _, _, e, _⟩ => ⟨_, e⟩)) <| o_p rfl (Zbb Zlo (off := 4) (by kernel_rfl) rfl rfl u_0) <| o_p rfl (Z6y Zfg rfl rfl u_2 u_1 u_0) <| o_n) (by kernel_rfl) (fun a g hst hb => ?_)
 refine r_s (T := [⟨[], _, [], [], [7]⟩]) (F := [.old 0, .old 1, .op 0 0]) hst hb Zb
   (o_p rfl (Zc rfl rfl c_i) <| o_n) (by kernel_rfl) (fun a g hst hb => ?_)
 refine wp_ret ?_
 exact Zhc rfl hst hb (Zk (s := 7)) (hst.at 2 rfl) ⟨Zcp (hst.at 0 rfl), Zcp (hst.at 1 rfl), trivial⟩
theorem Zke (h : Nat) : FnOk Tryz.prog 120 [(Kd.fnc.pd h)] (pClo 135 [(Kd.fnc.ptr h)] rfl) := by
 refine Zbv (N := 4) Tryz.func120 rfl rfl (Nat.le_of_ble_eq_true rfl) rfl rfl (fun a g0 hst hb => ?_)
 refine r_s (T := [⟨[.old 0], _, [], [], [1]⟩, ⟨[], [], [], [], [2]⟩]) (F := [.op 0 0]) hst hb Zb
   (o_p rfl (Zbr rfl rfl u_0) <| o_p rfl (Zyf (.inr rfl)) <| o_n) (by kernel_rfl) (fun a g hst hb => ?_)
 refine r_s (T := [⟨[.old 0], [(3, (pClo 135 [(Kd.fnc.ptr h)] rfl))], [], [], [3]⟩, ⟨[.op 0 0], _, [], [0], [2]⟩]) (F := [.op 1 0]) hst hb Zb
   (o_p rfl (Zy4 rfl rfl (.cons u_0 .nil)) <| o_p rfl (Zc rfl rfl u_0) <| o_n) (by kernel_rfl) (fun a g hst hb => ?_)
 refine wp_ret ?_
 exact Z8 rfl hst hb (Zk (s := 2)) (hst.at 0 rfl)
theorem Z1r (a0 : Nat) (a1 : Nat) {r : Nat} (h : Zkl a0 a1 = some r) : FnOk Tryz.prog 121 [(pFlt a0), (pFlt a1)] (pFlt r) := by
 have H0 := h
 unfold Zkl at H0
 clear h
 refine Zbv (N := 12) Tryz.func121 rfl rfl (Nat.le_of_ble_eq_true rfl) rfl rfl (fun a g0 hst hb => ?_)
 refine r_s (T := [⟨[], _, [], [], [4]⟩]) (F := [.old 0, .old 1]) hst hb Zb
   (o_p rfl (Zc rfl rfl c_f) <| o_n) (by kernel_rfl) (fun a g hst hb => ?_)
 refine wp_seq ?_
 obtain ⟨r1, h2, H0⟩ := Zg H0
 refine r_s (T := [⟨[.old 0], _, [], [], [5]⟩, ⟨[.old 1], _, [], [], [6]⟩, ⟨[.op 0 0, .op 1 0], _, [], [0, 1], [7]⟩]) (F := [.old 0, .old 1, .op 2 0]) hst hb Zb
   (o_p rfl (Za rfl rfl u_0) <| o_p rfl (Za rfl rfl u_0) <| o_p rfl (Zq Zxz (Zoz _ _ h2) rfl rfl (.cons u_0 (.cons u_1 .nil))) <| o_n) (by kernel_rfl) (fun a g hst hb => ?_)
 refine wp_cond_split (hst.bool 2 rfl) (fun hc3 => ?_) (fun hc3 => ?_)
 · replace H0 := Zz hc3 H0
   obtain ⟨r4, h5, H0⟩ := Zg H0
   refine r_s (L := [(1, _)]) (T := [⟨[.old 0], _, [], [], [8]⟩, ⟨[.op 0 0], _, [], [0], [9]⟩, ⟨[.op 1 0], _, [], [0, 1], [4]⟩]) (F := [.op 2 0]) (hst.pick [1] rfl) hb Zb
     (o_p rfl (Za rfl rfl u_0) <| o_p rfl (Zq Zmy (Zg4 _ h5) rfl rfl (.cons u_0 .nil)) <| o_p rfl (Zc rfl rfl u_0) <| o_n) (by kernel_rfl) (fun a g hst hb => ?_)
   refine wp_ret ?_
   refine Zt ?_
   obtain rfl := Option.some.inj H0
   exact Z8 rfl hst hb (Zk (s := 4)) (hst.at 0 rfl)
 · replace H0 := Z0 hc3 H0
   refine wp_skip ?_
   refine Zv ?_
   obtain ⟨r6, h7, H0⟩ := Zg H0
   refine r_s (L := [(0, _)]) (T := [⟨[.old 0], _, [], [], [10]⟩, ⟨[.op 0 0], _, [], [0], [11]⟩, ⟨[.op 1 0], _, [], [0, 1], [4]⟩]) (F := [.op 2 0]) (hst.pick [0] rfl) hb Zb
     (o_p rfl (Za rfl rfl u_0) <| o_p rfl (Zq Zmy (Zg4 _ h7) rfl rfl (.cons u_0 .nil)) <| o_p rfl (Zc rfl rfl u_0) <| o_n) (by kernel_rfl) (fun a g hst hb => ?_)
   refine wp_ret ?_
   obtain rfl := Option.some.inj H0
   exact Z8 rfl hst hb (Zk (s := 4)) (hst.at 0 rfl)
theorem Z0z (a0 : Nat) (a1 : Nat) {r : Nat} (h : Zko a0 a1 = some r) : FnOk Tryz.prog 122 [(pFlt a0), (pFlt a1)] (pFlt r) := by
 have H0 := h
 unfold Zko at H0
 clear h
 refine Zbv (N := 12) Tryz.func122 rfl rfl (Nat.le_of_ble_eq_true rfl) rfl rfl (fun a g0 hst hb => ?_)
 refine r_s (T := [⟨[], _, [], [], [4]⟩]) (F := [.old 0, .old 1]) hst hb Zb
   (o_p rfl (Zc rfl rfl c_f) <| o_n) (by kernel_rfl) (fun a g hst hb => ?_)
 refine wp_seq ?_
 obtain ⟨r1, h2, H0⟩ := Zg H0
 refine r_s (T := [⟨[.old 1], _, [], [], [5]⟩, ⟨[.old 0], _, [], [], [6]⟩, ⟨[.op 0 0, .op 1 0], _, [], [0, 1], [7]⟩]) (F := [.old 0, .old 1, .op 2 0]) hst hb Zb
   (o_p rfl (Za rfl rfl u_0) <| o_p rfl (Za rfl rfl u_0) <| o_p rfl (Zq Zxz (Zoz _ _ h2) rfl rfl (.cons u_0 (.cons u_1 .nil))) <| o_n) (by kernel_rfl) (fun a g hst hb => ?_)
 refine wp_cond_split (hst.bool 2 rfl) (fun hc3 => ?_) (fun hc3 => ?_)
 · replace H0 := Zz hc3 H0
   obtain ⟨r4, h5, H0⟩ := Zg H0
   refine r_s (L := [(1, _)]) (T := [⟨[.old 0], _, [], [], [8]⟩, ⟨[.op 0 0], _, [], [0], [9]⟩, ⟨[.op 1 0], _, [], [0, 1], [4]⟩]) (F := [.op 2 0]) (hst.pick [1] rfl) hb Zb
     (o_p rfl (Za rfl rfl u_0) <| o_p rfl (Zq Zmy (Zg4 _ h5) rfl rfl (.cons u_0 .nil)) <| o_p rfl (Zc rfl rfl u_0) <| o_n) (by kernel_rfl) (fun a g hst hb => ?_)
   refine wp_ret ?_
   refine Zt ?_
   obtain rfl := Option.some.inj H0
   exact Z8 rfl hst hb (Zk (s := 4)) (hst.at 0 rfl)
 · replace H0 := Z0 hc3 H0
   refine wp_skip ?_
   refine Zv ?_
   obtain ⟨r6, h7, H0⟩ := Zg H0
   refine r_s (L := [(0, _)]) (T := [⟨[.old 0], _, [], [], [10]⟩, ⟨[.op 0 0], _, [], [0], [11]⟩, ⟨[.op 1 0], _, [], [0, 1], [4]⟩]) (F := [.op 2 0]) (hst.pick [0] rfl) hb Zb
     (o_p rfl (Za rfl rfl u_0) <| o_p rfl (Zq Zmy (Zg4 _ h7) rfl rfl (.cons u_0 .nil)) <| o_p rfl (Zc rfl rfl u_0) <| o_n) (by kernel_rfl) (fun a g hst hb => ?_)
   refine wp_ret ?_
   obtain rfl := Option.some.inj H0
   exact Z8 rfl hst hb (Zk (s := 4)) (hst.at 0 rfl)
theorem Zzc (a0 : Nat) (a1 : Nat) {r : Nat} (h : Zhz a0 a1 = some r) : FnOk Tryz.prog 123 [(pFlt a0), (pFlt a1)] (pFlt r) := by
 have H0 := h
 unfold Zhz at H0
 clear h
 refine Zbv (N := 9) Tryz.func123 rfl rfl (Nat.le_of_ble_eq_true rfl) rfl rfl (fun a g0 hst hb => ?_)
 refine r_s (T := [⟨[], _, [], [], [4]⟩]) (F := [.old 0, .old 1]) hst hb Zb
   (o_p rfl (Zc rfl rfl c_f) <| o_n) (by kernel_rfl) (fun a g hst hb => ?_)
 obtain ⟨r1, h2, H0⟩ := Zg H0
 refine r_s (T := [⟨[.old 0], _, [], [], [5]⟩, ⟨[.old 1], _, [], [], [6]⟩, ⟨[.op 0 0, .op 1 0], _, [], [0, 1], [7]⟩, ⟨[.op 2 0], _, [], [0, 1, 2], [8]⟩, ⟨[.op 3 0], _, [], Lr 4, [4]⟩]) (F := [.op 4 0]) hst hb Zb
   (o_p rfl (Za rfl rfl u_0) <| o_p rfl (Za rfl rfl u_0) <| o_p rfl (Z4c rfl rfl u_0 u_1) <| o_p rfl (Zq Zmy (Zy0 (fun r z hr hz => by simp only [Zff, hr, hz, Option.bind_some, if_true]) (fun z r h => Zg4 z h) h2) rfl rfl (.cons u_0 .nil)) <| o_p rfl (Zc rfl rfl u_0) <| o_n) (by kernel_rfl) (fun a g hst hb => ?_)
 refine wp_ret ?_
 obtain rfl := Option.some.inj H0
 exact Z8 rfl hst hb (Zk (s := 4)) (hst.at 0 rfl)
theorem Zxi (a0 : Nat) (a1 : Nat) {r : Nat} (h : Zg6 a0 a1 = some r) : FnOk Tryz.prog 124 [(pFlt a0), (pFlt a1)] (pFlt r) := by
 have H0 := h
 unfold Zg6 at H0
 clear h
 refine Zbv (N := 9) Tryz.func124 rfl rfl (Nat.le_of_ble_eq_true rfl) rfl rfl (fun a g0 hst hb => ?_)
 refine r_s (T := [⟨[], _, [], [], [4]⟩]) (F := [.old 0, .old 1]) hst hb Zb
   (o_p rfl (Zc rfl rfl c_f) <| o_n) (by kernel_rfl) (fun a g hst hb => ?_)
 obtain ⟨r1, h2, H0⟩ := Zg H0
 refine r_s (T := [⟨[.old 0], _, [], [], [5]⟩, ⟨[.old 1], _, [], [], [6]⟩, ⟨[.op 0 0, .op 1 0], _, [], [0, 1], [7]⟩, ⟨[.op 2 0], _, [], [0, 1, 2], [8]⟩, ⟨[.op 3 0], _, [], Lr 4, [4]⟩]) (F := [.op 4 0]) hst hb Zb
   (o_p rfl (Za rfl rfl u_0) <| o_p rfl (Za rfl rfl u_0) <| o_p rfl (Z32 rfl rfl u_0 u_1) <| o_p rfl (Zq Zmy (Zy0 (fun r z hr hz => by simp only [Zff, hr, hz, Option.bind_some, if_true]) (fun z r h => Zg4 z h) h2) rfl rfl (.cons u_0 .nil)) <| o_p rfl (Zc rfl rfl u_0) <| o_n) (by kernel_rfl) (fun a g hst hb => ?_)
 refine wp_ret ?_
 obtain rfl := Option.some.inj H0
 exact Z8 rfl hst hb (Zk (s := 4)) (hst.at 0 rfl)
theorem Zr5 (a0 : Nat) (a1 : Nat) {r : Nat} (h : Zgx a0 a1 = some r) : FnOk Tryz.prog 125 [(pFlt a0), (pFlt a1)] (pFlt r) := by
 have H0 := h
 unfold Zgx at H0
 clear h
 refine Zbv (N := 6) Tryz.func125 rfl rfl (Nat.le_of_ble_eq_true rfl) rfl rfl (fun a g0 hst hb => ?_)
 refine r_s (L := [(1, _)]) (T := [⟨[], _, [], [], [4]⟩]) (F := [.old 0]) (hst.pick [1] rfl) hb Zb
   (o_p rfl (Zc rfl rfl c_f) <| o_n) (by kernel_rfl) (fun a g hst hb => ?_)
 refine r_s (T := [⟨[.old 0], _, [], [], [5]⟩, ⟨[.op 0 0], _, [], [0], [4]⟩]) (F := [.op 1 0]) hst hb Zb
   (o_p rfl (Za rfl rfl u_0) <| o_p rfl (Zc rfl rfl u_0) <| o_n) (by kernel_rfl) (fun a g hst hb => ?_)
 refine wp_ret ?_
 obtain rfl := Option.some.inj H0
 exact Z8 rfl hst hb (Zk (s := 4)) (hst.at 0 rfl)
theorem Zhl (f2 : Nat) (C2 : List Pd) (hC2 : Free C2) (e2_ : Zp Tryz.prog f2) (φ2 : Zj → ByteArray → Option Int) (hφ2 : ∀ (y0 : Zj) (y1 : ByteArray) (r : Int), φ2 y0 y1 = some r → FnOk Tryz.prog f2 ([(Zx.pd y0), (pStr y1)] ++ C2) (pInt .i64 r)) (a0 : List Zj) (a1 : ByteArray) {r : Int × Bool} (h : Zcu a0 a1 φ2 = some r) : FnOk Tryz.prog 137 [(Zx.sl.pd a0), (pStr a1), (pClo f2 C2 hC2)] (pTup [(pInt .i64 r.1), (Zbe r.2)]) := by
 have H0 := h
 unfold Zcu at H0
 clear h
 refine Zbv (N := 49) Tryz.func137 rfl rfl (Nat.le_of_ble_eq_true rfl) rfl rfl (fun a g0 hst hb => ?_)
 refine r_s (T := [⟨[], _, [], [], [6]⟩, ⟨[], _, [], [0], [7]⟩]) (F := [.old 0, .old 1, .old 2]) hst hb Zb
   (o_p rfl (Zc rfl rfl c_i) <| o_p rfl (Zc rfl rfl c_b) <| o_n) (by kernel_rfl) (fun a g hst hb => ?_)
 refine r_s (T := [⟨[.old 0], _, [], [], [12]⟩, ⟨[.op 0 0], _, [], [0], [13]⟩, ⟨[.op 1 0], _, [], [0, 1], [8]⟩]) (F := [.old 0, .old 1, .old 2, .op 2 0, .op 0 0]) hst hb Zb
   (o_p rfl (Za rfl rfl u_0) <| o_p rfl (Zce Tryz.underlying36 rfl rfl u_0) <| o_p rfl (Zc rfl rfl u_0) <| o_n) (by kernel_rfl) (fun a g hst hb => ?_)
 refine r_s (T := [⟨[.old 3], _, [], [], [14]⟩, ⟨[], _, [], [], [9]⟩, ⟨[.op 0 0], _, [], [0, 1], [10]⟩]) (F := [.old 0, .old 1, .old 2, .old 3, .op 1 0, .op 2 0, .old 4]) hst hb Zb
   (o_p rfl (Za rfl rfl u_0) <| o_p rfl (Zc rfl rfl c_i) <| o_p rfl (Zc rfl rfl u_0) <| o_n) (by kernel_rfl) (fun a g hst hb => ?_)
 obtain ⟨z12, hz1, H0⟩ := Zg H0
 refine wp_seq ?_
 refine Zcs (fun a w => ∃ (y11 : Int) (g : G), w = g.w ∧ St 49 [(0, (Zx.sl.pd a0)), (1, (pStr a1)), (2, (pClo f2 C2 hC2)), (8, (pInt .i64 (a0.length : Int))), (9, (pInt .i64 y11)), (12, (Zx.sl.pd a0))] a g ∧ Base g0 g ∧ y11 = z12) ?_ ?_
 · rintro a w ⟨y11, g, rfl, hst, hb, rfl⟩
   refine Zv ?_
   obtain ⟨e13, h14, H0⟩ := Zg H0; obtain ⟨r15, h16, H0⟩ := Zg H0
   refine r_s (T := ⟨[.old 4], _, [], [], [35]⟩ :: ⟨[.old 4], _, [], [], [36]⟩ :: ⟨[.old 3], _, [], [], [37]⟩ :: ⟨[.op 1 0, .op 2 0], _, [], [1, 2], [38]⟩ :: ⟨[.op 3 0], _, [], [1, 2, 3], [39]⟩ :: ⟨[.op 4 0, .old 2], _, [], List.range' 1 4, [40]⟩ :: ⟨[.op 4 0, .old 0], _, [], List.range' 1 4, [41]⟩ :: ⟨[.op 4 0, .old 4], _, [], List.range' 1 4, [42]⟩ :: ⟨[.op 4 0, .op 6 0, .op 7 0], _, [], [1, 2, 3, 4, 6, 7], [43]⟩ :: ⟨[.op 4 0, .op 8 0], _, [], [1, 2, 3, 4, 6, 7, 8], [44]⟩ :: ⟨[.op 4 0, .old 1], _, [], List.range' 1 4, [45]⟩ :: ⟨[.op 4 0, .op 5 0, .op 9 0, .op 10 0], _, [], List.range' 1 10, [46]⟩ :: ⟨[.op 4 0, .op 11 0], _, [], List.range' 1 11, [47]⟩ :: ⟨[.op 4 0, .op 12 0], _, [], List.range' 1 12, [48]⟩ :: ⟨[.op 0 0], _, [], Lr 12, [6]⟩ :: ⟨[.op 13 0], _, [], Lr 15, [7]⟩ :: []) (F := [.op 14 0, .op 15 0]) hst hb Zb
     (o_p rfl (Za rfl rfl u_0) <| o_p rfl (Za rfl rfl u_0) <| o_p rfl (Za rfl rfl u_0) <| o_p rfl (Zc0 rfl rfl u_0 u_1) <| o_p rfl (Za rfl rfl u_0) <| o_g (g_t rfl rfl rfl (fun hG => Za rfl rfl u_0)) <| o_g (g_t rfl rfl rfl (fun hG => Za rfl rfl u_0)) <| o_g (g_t rfl rfl rfl (fun hG => Za rfl rfl u_0)) <| o_g (g_t rfl rfl rfl (fun hG => Zb4 Tryz.underlying36 Zil rfl rfl (Opd.gd hG u_0) (Opd.gd hG u_1) (Zbq h14 hG))) <| o_g (g_t rfl rfl rfl (fun hG => Zf Ze1 rfl rfl (Opd.gd hG u_0))) <| o_g (g_t rfl rfl rfl (fun hG => Za rfl rfl u_0)) <| o_g (g_t rfl rfl rfl (fun hG => Zpk e2_ (hφ2 _ _ _ (Zbq h16 hG)) rfl rfl (Opd.gd hG u_0) (.cons (Opd.gd hG u_1) (.cons (Opd.gd hG u_2) .nil)))) <| o_g (g_t rfl rfl rfl (fun hG => Zb1 rfl rfl (Opd.gd hG u_0) c_i)) <| o_p rfl (Zbm rfl rfl u_0 (fun hz => (Opd.gd hz u_1))) <| o_p rfl (Zc rfl rfl u_0) <| o_p rfl (Zc rfl rfl u_0) <| o_n) (by kernel_rfl) (fun a g hst hb => ?_)
   refine wp_ret ?_
   obtain rfl := Option.some.inj H0
   exact Zfh rfl hst hb (Zk (s := 6)) (Zk (s := 7)) (Zdx (hst.at 0 rfl) (hst.at 1 rfl))
 · refine wp_block ?_
   refine wp_loop_ghost (fun n a w => ∃ (x1 : Int) (x2 : Int) (g : G), w = g.w ∧ St 49 [(0, (Zx.sl.pd a0)), (1, (pStr a1)), (2, (pClo f2 C2 hC2)), (8, (pInt .i64 (a0.length : Int))), (9, (pInt .i64 x1)), (10, (pInt .i64 x2)), (12, (Zx.sl.pd a0))] a g ∧ Base g0 g ∧ Zbi a0 a1 φ2 n x1 x2 = some z12) (Int.toNat ((a0.length : Int) - (0 : Int)) + 1) ⟨(0 : Int), (a0.length : Int), g, rfl, (hst.pick [0, 1, 2, 3, 4, 5, 6] rfl), hb, hz1⟩ (fun n a w hI => ?_)
   obtain ⟨x1, x2, g, rfl, hst, hb, H1⟩ := hI
   cases n with
   | zero => exact absurd H1 (by simp [Zbi])
   | succ n =>
     rw [Zbi] at H1
     refine wp_seq ?_
     refine r_s (T := [⟨[.old 4], _, [], [], [15]⟩, ⟨[.old 5], _, [], [], [16]⟩, ⟨[.op 0 0, .op 1 0], _, [], [0, 1], [17]⟩]) (F := [.old 0, .old 1, .old 2, .old 3, .old 4, .old 5, .old 6, .op 2 0]) hst hb Zb
       (o_p rfl (Za rfl rfl u_0) <| o_p rfl (Za rfl rfl u_0) <| o_p rfl (Zc0 rfl rfl u_0 u_1) <| o_n) (by kernel_rfl) (fun a g hst hb => ?_)
     refine wp_cond_split (hst.bool 7 rfl) (fun hc3 => ?_) (fun hc3 => ?_)
     · replace H1 := Zz hc3 H1
       refine wp_skip ?_
       refine Zv ?_
       refine Zcs (fun a w => ∃ (j9 : Int) (j10 : Int) (g : G), w = g.w ∧ St 49 [(0, (Zx.sl.pd a0)), (1, (pStr a1)), (2, (pClo f2 C2 hC2)), (8, (pInt .i64 (a0.length : Int))), (9, (pInt .i64 j9)), (10, (pInt .i64 j10)), (12, (Zx.sl.pd a0))] a g ∧ Base g0 g ∧ Zcc (Zbi a0 a1 φ2 n) j9 j10 = some z12) ?_ ?_
       · rintro a w ⟨j9, j10, g, rfl, hst, hb, H1⟩
         unfold Zcc at H1
         exact ⟨n, Nat.lt_succ_self _, j9, j10, g, rfl, (hst.pick [0, 1, 2, 3, 4, 5, 6] rfl), hb, H1⟩
       · refine wp_block ?_
         refine r_s (L := [(0, _), (1, _), (2, _), (8, _), (9, _), (10, _), (12, _)]) (T := [⟨[.old 4], _, [], [], [18]⟩, ⟨[.old 5], _, [], [], [19]⟩, ⟨[.op 0 0, .op 1 0], _, [], [0, 1], [20]⟩, ⟨[.op 2 0], _, [], [0, 1, 2], [21]⟩, ⟨[.op 3 0], _, [], Lr 4, [22]⟩, ⟨[.op 4 0], _, [], Lr 5, [23]⟩, ⟨[.op 5 0], _, [], Lr 6, [11]⟩]) (F := [.old 0, .old 1, .old 2, .old 3, .old 4, .old 5, .op 6 0, .old 6]) (hst.pick [0, 1, 2, 3, 4, 5, 6] rfl) hb Zb
           (o_p rfl (Za rfl rfl u_0) <| o_p rfl (Za rfl rfl u_0) <| o_p rfl (Zch rfl rfl u_0 u_1 rfl) <| o_p rfl (Z0o Tryz.underlying3 Tryz.underlying181 rfl rfl u_0 rfl) <| o_p rfl (Z7y rfl rfl u_0 c_i (by decide) rfl) <| o_p rfl (Z0o Tryz.underlying181 Tryz.underlying3 rfl rfl u_0 rfl) <| o_p rfl (Zc rfl rfl u_0) <| o_n) (by kernel_rfl) (fun a g hst hb => ?_)
         obtain ⟨e4, h5, H1⟩ := Zg H1; obtain ⟨r6, h7, H1⟩ := Zg H1
         refine r_s (T := [⟨[.old 2], _, [], [], [24]⟩, ⟨[.old 0], _, [], [], [25]⟩, ⟨[.old 6], _, [], [], [26]⟩, ⟨[.op 1 0, .op 2 0], _, [], [1, 2], [27]⟩, ⟨[.op 3 0], _, [], [1, 2, 3], [28]⟩, ⟨[.old 1], _, [], [], [29]⟩, ⟨[.op 0 0, .op 4 0, .op 5 0], _, [], Lr 6, [30]⟩, ⟨[.op 6 0], _, [], Lr 7, [31]⟩]) (F := [.old 0, .old 1, .old 2, .old 3, .old 4, .old 5, .old 6, .old 7, .op 7 0]) hst hb Zb
           (o_p rfl (Za rfl rfl u_0) <| o_p rfl (Za rfl rfl u_0) <| o_p rfl (Za rfl rfl u_0) <| o_p rfl (Zb4 Tryz.underlying36 Zil rfl rfl u_0 u_1 h5) <| o_p rfl (Zf Ze1 rfl rfl u_0) <| o_p rfl (Za rfl rfl u_0) <| o_p rfl (Zpk e2_ (hφ2 _ _ _ h7) rfl rfl u_0 (.cons u_1 (.cons u_2 .nil))) <| o_p rfl (Zc0 rfl rfl u_0 c_i) <| o_n) (by kernel_rfl) (fun a g hst hb => ?_)
         refine wp_cond_split (hst.bool 8 rfl) (fun hc8 => ?_) (fun hc8 => ?_)
         · replace H1 := Zz hc8 H1
           refine r_g (L := [(0, _), (1, _), (2, _), (8, _), (10, _), (11, _), (12, _)]) (T := [⟨[.old 5], _, [], [], [32]⟩, ⟨[.op 0 0], _, [], [0], [33]⟩, ⟨[.op 1 0], _, [], [0, 1], [9]⟩]) (F := [.old 0, .old 1, .old 2, .old 3, .op 2 0, .old 4, .old 6]) (hst.pick [0, 1, 2, 3, 5, 6, 7] rfl) hb Zb
             (o_p rfl (Za rfl rfl u_0) <| o_p rfl (Zch rfl rfl u_0 c_i rfl) <| o_p rfl (Zc rfl rfl u_0) <| o_n) (by kernel_rfl) (fun a g hst hb => ?_)
           refine Zbp ?_
           exact ⟨(IntKind.i64.wrap ((IntKind.i64.wrap (Int.fdiv (IntKind.u64.wrap (IntKind.i64.wrap (x1 + x2))) (2 ^ 1))) + (1 : Int))), x2, g, rfl, (hst.pick [0, 1, 2, 3, 4, 5, 6] rfl), hb, H1⟩
         · replace H1 := Z0 hc8 H1
           refine r_g (L := [(0, _), (1, _), (2, _), (8, _), (9, _), (11, _), (12, _)]) (T := [⟨[.old 5], _, [], [], [34]⟩, ⟨[.op 0 0], _, [], [0], [10]⟩]) (F := [.old 0, .old 1, .old 2, .old 3, .old 4, .op 1 0, .old 6]) (hst.pick [0, 1, 2, 3, 4, 6, 7] rfl) hb Zb
             (o_p rfl (Za rfl rfl u_0) <| o_p rfl (Zc rfl rfl u_0) <| o_n) (by kernel_rfl) (fun a g hst hb => ?_)
           refine Zbp ?_
           exact ⟨x1, (IntKind.i64.wrap (Int.fdiv (IntKind.u64.wrap (IntKind.i64.wrap (x1 + x2))) (2 ^ 1))), g, rfl, (hst.pick [0, 1, 2, 3, 4, 5, 6] rfl), hb, H1⟩
     · replace H1 := Z0 hc3 H1
       refine wp_exit ?_
       refine Zca ?_
       refine Zca ?_
       refine Zcv ?_
       exact ⟨x1, g, rfl, (hst.pick [0, 1, 2, 3, 4, 6] rfl), hb, Option.some.inj H1⟩
theorem Zu8 (a0 : Zj) (a1 : ByteArray) {r : Int} (h : Ziy a0 a1 = some r) : FnOk Tryz.prog 138 [(Zx.pd a0), (pStr a1)] (pInt .i64 r) := by
 have H0 := h
 unfold Ziy at H0
 clear h
 refine Zbv (N := 15) Tryz.func138 rfl rfl (Nat.le_of_ble_eq_true rfl) rfl rfl (fun a g0 hst hb => ?_)
 refine r_s (T := [⟨[.old 0], _, [], [], [2]⟩, ⟨[], _, [], [], [4]⟩]) (F := [.old 1, .op 0 0]) hst hb Zb
   (o_p rfl (Zbr rfl rfl u_0) <| o_p rfl (Zc rfl rfl c_i) <| o_n) (by kernel_rfl) (fun a g hst hb => ?_)
 refine wp_seq ?_
 refine wp_block ?_
 refine r_s (T := [⟨[.old 1], _, [], [], [6]⟩, ⟨[.op 0 0], _, [], [0], [7]⟩, ⟨[.old 0], _, [], [], [8]⟩, ⟨[.op 1 0, .op 2 0], _, [], [0, 1, 2], [9]⟩, ⟨[.op 3 0], _, [], Lr 4, [5]⟩]) (F := [.old 0, .old 1, .op 4 0]) hst hb Zb
   (o_p rfl (Ze Zft rfl rfl u_0) <| o_p rfl (Zf ty_9 rfl rfl u_0) <| o_p rfl (Za rfl rfl u_0) <| o_p rfl (Zmz rfl rfl u_0 u_1) <| o_p rfl (Zc rfl rfl u_0) <| o_n) (by kernel_rfl) (fun a g hst hb => ?_)
 refine wp_cond_split (hst.bool 2 rfl) (fun hc1 => ?_) (fun hc1 => ?_)
 · replace H0 := Zz hc1 H0
   refine r_s (L := []) (T := [⟨[], _, [], [], [4]⟩]) (F := [.op 0 0]) (hst.pick [] rfl) hb Zb
     (o_p rfl (Zc rfl rfl c_i) <| o_n) (by kernel_rfl) (fun a g hst hb => ?_)
   refine wp_ret ?_
   refine Z7 ?_
   refine Zt ?_
   obtain rfl := Option.some.inj H0
   exact Z8 rfl hst hb (Zk (s := 4)) (hst.at 0 rfl)
 · replace H0 := Z0 hc1 H0
   refine r_s (L := [(1, _), (2, _)]) (T := [⟨[.old 1], _, [], [], [11]⟩, ⟨[.op 0 0], _, [], [0], [12]⟩, ⟨[.old 0], _, [], [], [13]⟩, ⟨[.op 1 0, .op 2 0], _, [], [0, 1, 2], [14]⟩, ⟨[.op 3 0], _, [], Lr 4, [10]⟩]) (F := [.op 4 0]) (hst.pick [0, 1] rfl) hb Zb
     (o_p rfl (Ze Zft rfl rfl u_0) <| o_p rfl (Zf ty_9 rfl rfl u_0) <| o_p rfl (Za rfl rfl u_0) <| o_p rfl (Zt7 rfl rfl u_0 u_1) <| o_p rfl (Zc rfl rfl u_0) <| o_n) (by kernel_rfl) (fun a g hst hb => ?_)
   refine wp_cond_split (hst.bool 0 rfl) (fun hc2 => ?_) (fun hc2 => ?_)
   · replace H0 := Zz hc2 H0
     refine r_s (L := []) (T := [⟨[], _, [], [], [4]⟩]) (F := [.op 0 0]) (hst.pick [] rfl) hb Zb
       (o_p rfl (Zc rfl rfl c_i) <| o_n) (by kernel_rfl) (fun a g hst hb => ?_)
     refine wp_ret ?_
     refine Z7 ?_
     refine Zt ?_
     obtain rfl := Option.some.inj H0
     exact Z8 rfl hst hb (Zk (s := 4)) (hst.at 0 rfl)
   · replace H0 := Z0 hc2 H0
     refine wp_skip ?_
     refine Zbp ?_
     refine Zv ?_
     refine r_s (L := []) (T := [⟨[], _, [], [], [4]⟩]) (F := [.op 0 0]) (hst.pick [] rfl) hb Zb
       (o_p rfl (Zc rfl rfl c_i) <| o_n) (by kernel_rfl) (fun a g hst hb => ?_)
     refine wp_ret ?_
     obtain rfl := Option.some.inj H0
     exact Z8 rfl hst hb (Zk (s := 4)) (hst.at 0 rfl)
theorem Zob (a0 : List Zj) (a1 : ByteArray) {r : Int × Bool} (h : Zkc a0 a1 = some r) : FnOk Tryz.prog 128 [(Zx.sl.pd a0), (pStr a1)] (pTup [(pInt .i64 r.1), (Zbe r.2)]) := by
 have H0 := h
 unfold Zkc at H0
 clear h
 refine Zbv (N := 11) Tryz.func128 rfl rfl (Nat.le_of_ble_eq_true rfl) rfl rfl (fun a g0 hst hb => ?_)
 refine r_s (T := [⟨[], _, [], [], [4]⟩, ⟨[], _, [], [0], [5]⟩]) (F := [.old 0, .old 1]) hst hb Zb
   (o_p rfl (Zc rfl rfl c_i) <| o_p rfl (Zc rfl rfl c_b) <| o_n) (by kernel_rfl) (fun a g hst hb => ?_)
 obtain ⟨r1, h2, H0⟩ := Zg H0
 refine r_s (T := [⟨[.old 0], _, [], [], [6]⟩, ⟨[.old 1], _, [], [], [7]⟩, ⟨[.op 0 0, .op 1 0], _, [], [0, 1], [8]⟩, ⟨[.op 2 0], _, [], [0, 1, 2], [9]⟩, ⟨[.op 2 0], _, [], [0, 1, 2], [10]⟩, ⟨[.op 3 0], _, [], Lr 5, [4]⟩, ⟨[.op 4 0], _, [], Lr 6, [5]⟩]) (F := [.op 5 0, .op 6 0]) hst hb Zb
   (o_p rfl (Za rfl rfl u_0) <| o_p rfl (Za rfl rfl u_0) <| o_p rfl (Zq Z8i (Zhl 138 [] rfl Z81 (fun y0 y1 => Ziy y0 y1) (fun y0 y1 r h => Zu8 y0 y1 h) _ _ h2) rfl rfl (.cons u_0 (.cons u_1 (.cons Opd.fnc .nil)))) <| o_p rfl (Z4 rfl rfl u_0 rfl) <| o_p rfl (Z4 rfl rfl u_0 rfl) <| o_p rfl (Zc rfl rfl u_0) <| o_p rfl (Zc rfl rfl u_0) <| o_n) (by kernel_rfl) (fun a g hst hb => ?_)
 refine wp_ret ?_
 obtain rfl := Option.some.inj H0
 exact Zfh rfl hst hb (Zk (s := 4)) (Zk (s := 5)) (Zdx (hst.at 0 rfl) (hst.at 1 rfl))
set_option maxHeartbeats 1000000 in
theorem Zhj (a0 : List Zj) (a1 : Int) (a2 : List Zj) {r : List Zj} (h : Zb9 a0 a1 a2 = some r) : Zw5 Tryz.prog 136 Zx 116 a0 [(pInt .i64 a1), (Zx.sl.pd a2)] (Zx.sl.pd r) := by
 unfold Zb9 at h
 obtain ⟨⟨hi0, hi1, hm, hsz⟩, H0⟩ := Zhi h
 obtain rfl := Option.some.inj H0
 obtain ⟨k, rfl⟩ := Int.eq_ofNat_of_zero_le hi0
 have hk : k ≤ a0.length := by omega
 have hb0 : (a0.length + a2.length) ≤ 140737488355328 := Nat.le_trans (Nat.le_mul_of_pos_right _ (by decide)) hsz
 simp only [Int.toNat_natCast]
 refine Zyv (N := 95) Tryz.func136 rfl rfl (Nat.le_of_ble_eq_true rfl) rfl (fun hx a g A0 hst hb => ?_) (fun a g cap hcap hmax hst hb => ?_)
 · subst hx
   obtain rfl : k = 0 := by simpa using hk
   refine r_s (T := [⟨[], [(6, (Zx.sl.pd []))], [], [], [6]⟩]) (F := [.old 0, .old 1, .old 2]) hst hb Zb
     (o_p rfl (Zc rfl rfl (Opd.c (fun g => Zgn g))) <| o_n) (by kernel_rfl) (fun a g hst hb => ?_)
   refine r_s (T := [⟨[.old 0], _, [], [], [10]⟩, ⟨[.old 1], _, [], [], [11]⟩, ⟨[.op 0 0, .op 1 0], _, [], [0, 1], [12]⟩]) (F := [.old 0, .old 1, .old 2]) hst hb Zb
     (o_p rfl (Za rfl rfl u_0) <| o_p rfl (Za rfl rfl u_0) <| o_p rfl (Z15 Zeo rfl u_0 u_1) <| o_n) (by kernel_rfl) (fun a g hst hb => ?_)
   refine r_s (T := [⟨[.old 2], _, [], [], [13]⟩, ⟨[.op 0 0], _, [], [0], [14]⟩, ⟨[.op 1 0], _, [], [0, 1], [7]⟩]) (F := [.old 0, .old 1, .old 2, .op 2 0]) hst hb Zb
     (o_p rfl (Za rfl rfl u_0) <| o_p rfl (Zce Tryz.underlying36 rfl rfl u_0) <| o_p rfl (Zc rfl rfl u_0) <| o_n) (by kernel_rfl) (fun a g hst hb => ?_)
   refine wp_seq ?_
   refine r_s (T := [⟨[.old 3], _, [], [], [15]⟩, ⟨[.op 0 0], _, [], [0], [16]⟩]) (F := [.old 0, .old 1, .old 2, .old 3, .op 1 0]) hst hb Zb
     (o_p rfl (Za rfl rfl u_0) <| o_p rfl (Zb1 rfl rfl u_0 c_i) <| o_n) (by kernel_rfl) (fun a g hst hb => ?_)
   refine wp_cond_split (hst.bool 4 rfl) (fun hc => ?_) (fun hc => ?_)
   · exact absurd (beq_iff_eq.1 hc) (by omega)
   · refine wp_skip ?_
     refine Zv ?_
     refine r_s (L := [(0, _), (1, _), (2, _), (7, _)]) (T := [⟨[.old 0], _, [], [], [18]⟩, ⟨[.op 0 0], _, [], [0], [19]⟩, ⟨[.op 1 0], _, [], [0, 1], [8]⟩]) (F := [.old 0, .old 1, .old 2, .old 3, .op 2 0]) (hst.pick [0, 1, 2, 3] rfl) hb Zb
       (o_p rfl (Za rfl rfl u_0) <| o_p rfl (Z7b Tryz.underlying36 rfl rfl u_0) <| o_p rfl (Zc rfl rfl u_0) <| o_n) (by kernel_rfl) (fun a g hst hb => ?_)
     refine wp_seq ?_
     refine r_s (T := [⟨[.old 1], _, [], [], [20]⟩, ⟨[.old 4], _, [], [], [21]⟩, ⟨[.op 0 0, .op 1 0], _, [], [0, 1], [22]⟩]) (F := [.old 0, .old 1, .old 2, .old 3, .old 4, .op 2 0]) hst hb Zb
       (o_p rfl (Za rfl rfl u_0) <| o_p rfl (Za rfl rfl u_0) <| o_p rfl (Zb1 rfl rfl u_0 u_1) <| o_n) (by kernel_rfl) (fun a g hst hb => ?_)
     refine wp_cond_split (hst.bool 5 rfl) (fun hc => ?_) (fun hc => ?_)
     · refine r_s (L := [(0, _), (2, _)]) (T := [⟨[.old 0], _, [], [], [23]⟩, ⟨[.old 1], _, [], [], [24]⟩, ⟨[.op 0 0, .op 1 0], [(25, (pOwn Zx 116 25 none (a2.map some)))], [26], [0, 1], [25]⟩, ⟨[.op 2 0], _, [], [0, 1, 2], [6]⟩]) (F := [.op 3 0]) (hst.pick [0, 2] rfl) hb Zb
         (o_p rfl (Za rfl rfl u_0) <| o_p rfl (Za rfl rfl u_0) <| o_p rfl (Z1v Zeo rfl rfl u_0 u_1 hm (by simpa using hsz)) <| o_p rfl (Zc rfl rfl u_0) <| o_n) (by kernel_rfl) (fun a g hst hb => ?_)
       refine wp_ret ?_
       refine Zt ?_
       have hq := hst.at 0 rfl
       have he : ([] : List Zj).take 0 ++ a2 ++ ([] : List Zj).drop 0 = a2 := by simp
       rw [he]
       exact Zo4 rfl hst hb (Zk (s := 6)) hq
     · exact absurd hc (by simp)
 · refine r_s (T := [⟨[], [(6, (Zx.sl.pd []))], [], [], [6]⟩]) (F := [.old 0, .old 1, .old 2]) hst hb Zb
     (o_p rfl (Zc rfl rfl (Opd.c (fun g => Zgn g))) <| o_n) (by kernel_rfl) (fun a g hst hb => ?_)
   refine r_s (T := [⟨[.old 0], _, [], [], [10]⟩, ⟨[.old 1], _, [], [], [11]⟩, ⟨[.op 0 0, .op 1 0], _, [], [0, 1], [12]⟩]) (F := [.old 0, .old 1, .old 2]) hst hb Zb
     (o_p rfl (Za rfl rfl u_0) <| o_p rfl (Za rfl rfl u_0) <| o_p rfl (Zgz Zeo (by simpa using hk) rfl rfl u_0 u_1) <| o_n) (by kernel_rfl) (fun a g hst hb => ?_)
   refine r_s (T := [⟨[.old 2], _, [], [], [13]⟩, ⟨[.op 0 0], _, [], [0], [14]⟩, ⟨[.op 1 0], _, [], [0, 1], [7]⟩]) (F := [.old 0, .old 1, .old 2, .op 2 0]) hst hb Zb
     (o_p rfl (Za rfl rfl u_0) <| o_p rfl (Zce Tryz.underlying36 rfl rfl u_0) <| o_p rfl (Zc rfl rfl u_0) <| o_n) (by kernel_rfl) (fun a g hst hb => ?_)
   refine wp_seq ?_
   refine r_s (T := [⟨[.old 3], _, [], [], [15]⟩, ⟨[.op 0 0], _, [], [0], [16]⟩]) (F := [.old 0, .old 1, .old 2, .old 3, .op 1 0]) hst hb Zb
     (o_p rfl (Za rfl rfl u_0) <| o_p rfl (Zb1 rfl rfl u_0 c_i) <| o_n) (by kernel_rfl) (fun a g hst hb => ?_)
   refine wp_cond_split (hst.bool 4 rfl) (fun hc => ?_) (fun hc => ?_)
   · exact absurd (beq_iff_eq.1 hc) (by omega)
   · refine wp_skip ?_
     refine Zv ?_
     refine r_s (L := [(0, _), (1, _), (2, _), (7, _)]) (T := [⟨[.old 0], _, [], [], [18]⟩, ⟨[.op 0 0], _, [], [0], [19]⟩, ⟨[.op 1 0], _, [], [0, 1], [8]⟩]) (F := [.old 0, .old 1, .old 2, .old 3, .op 2 0]) (hst.pick [0, 1, 2, 3] rfl) hb Zb
       (o_p rfl (Za rfl rfl u_0) <| o_p rfl (Zrq Tryz.underlying36 rfl rfl u_0) <| o_p rfl (Zc rfl rfl u_0) <| o_n) (by kernel_rfl) (fun a g hst hb => ?_)
     refine wp_seq ?_
     refine r_s (T := [⟨[.old 1], _, [], [], [20]⟩, ⟨[.old 4], _, [], [], [21]⟩, ⟨[.op 0 0, .op 1 0], _, [], [0, 1], [22]⟩]) (F := [.old 0, .old 1, .old 2, .old 3, .old 4, .op 2 0]) hst hb Zb
       (o_p rfl (Za rfl rfl u_0) <| o_p rfl (Za rfl rfl u_0) <| o_p rfl (Zb1 rfl rfl u_0 u_1) <| o_n) (by kernel_rfl) (fun a g hst hb => ?_)
     refine wp_cond_split (hst.bool 5 rfl) (fun hc => ?_) (fun hc => ?_)
     · refine r_s (L := [(0, _), (2, _)]) (T := [⟨[.old 0], _, [], [], [23]⟩, ⟨[.old 1], _, [], [], [24]⟩, ⟨[.op 0 0, .op 1 0], _, [1], [0, 1], [25, 0, 23]⟩, ⟨[.op 2 0], _, [], [0, 1, 2], [6]⟩]) (F := [.op 3 0]) (hst.pick [0, 2] rfl) hb Zb
         (o_p rfl (Za rfl rfl u_0) <| o_p rfl (Za rfl rfl u_0) <| o_p rfl (Znj Zeo rfl rfl u_0 u_1 hsz) <| o_p rfl (Zc rfl rfl u_0) <| o_n) (by kernel_rfl) (fun a g hst hb => ?_)
       refine wp_ret ?_
       refine Zt ?_
       have hq := hst.at 0 rfl
       have hkn := beq_iff_eq.1 hc
       simp only [List.length_map] at hkn
       have hkn : k = a0.length := by omega
       have he : a0.take k ++ a2 ++ a0.drop k = a0 ++ a2 := by simp [hkn]
       rw [he]
       exact Zo4 rfl hst hb (Zk (s := 6)) hq
     · have hkn : k ≠ a0.length := fun h => (beq_eq_false_iff_ne.1 hc) (by simp only [List.length_map]; omega)
       refine wp_skip ?_
       refine Zv ?_
       refine wp_seq ?_
       refine r_s (L := [(0, _), (1, _), (2, _), (7, _), (8, _)]) (T := [⟨[.old 4], _, [], [], [26]⟩, ⟨[.old 3], _, [], [], [27]⟩, ⟨[.op 0 0, .op 1 0], _, [], [0, 1], [28]⟩, ⟨[.old 0], _, [], [], [29]⟩, ⟨[.op 3 0], _, [], [3], [30]⟩, ⟨[.op 2 0, .op 4 0], _, [], [0, 1, 2, 3, 4], [31]⟩]) (F := [.old 0, .old 1, .old 2, .old 3, .old 4, .op 5 0]) (hst.pick [0, 1, 2, 3, 4] rfl) hb Zb
         (o_p rfl (Za rfl rfl u_0) <| o_p rfl (Za rfl rfl u_0) <| o_p rfl (Zch rfl rfl u_0 u_1 (Zrt (by simp only [List.length_map]; omega))) <| o_p rfl (Za rfl rfl u_0) <| o_p rfl (Z6j Tryz.underlying36 rfl rfl u_0) <| o_p rfl (Zcy rfl rfl u_0 u_1) <| o_n) (by kernel_rfl) (fun a g hst hb => ?_)
       refine wp_cond_split (hst.bool 5 rfl) (fun hc2 => ?_) (fun hc2 => ?_)
       · have hgr : cap < k + (a0.length + a2.length - k) := by have := of_decide_eq_true hc2; simp only [List.length_map] at this; omega
         refine r_s (L := [(0, _), (1, _), (2, _), (7, _), (8, _)]) (T := [⟨[.old 0], _, [], [], [32]⟩, ⟨[.old 1], _, [], [], [33]⟩, ⟨[.op 0 0, .op 1 0], _, [], [0, 1], [34]⟩, ⟨[.old 4], _, [], [], [35]⟩, ⟨[.old 3], _, [], [], [36]⟩, ⟨[.op 3 0, .op 4 0], _, [], [3, 4], [37]⟩, ⟨[.old 1], _, [], [], [38]⟩, ⟨[.op 5 0, .op 6 0], _, [], [3, 4, 5, 6], [39]⟩, ⟨[.op 2 0, .op 7 0, .old 0], [(40, (pOwn Zx 116 40 none ((a0.take k).map some ++ List.replicate (a0.length + a2.length - k) none)))], [41], [0, 1, 2, 3, 4, 5, 6, 7], [40]⟩, ⟨[.op 8 0], _, [], [0, 1, 2, 3, 4, 5, 6, 7, 8], [9]⟩]) (F := [.old 0, .old 1, .old 2, .old 3, .op 9 0]) (hst.pick [0, 1, 2, 3, 4] rfl) hb Zb
           (o_p rfl (Za rfl rfl u_0) <| o_p rfl (Za rfl rfl u_0) <| o_p rfl (Zq0 Zeo (by simpa using hk) rfl rfl u_0 u_1) <| o_p rfl (Za rfl rfl u_0) <| o_p rfl (Za rfl rfl u_0) <| o_p rfl (Zch rfl rfl u_0 u_1 (Zrt (by simp only [List.length_map]; omega))) <| o_p rfl (Za rfl rfl u_0) <| o_p rfl (Zkf rfl rfl u_0 u_1 (Z87 (n := a0.length + a2.length) (by simp only [List.length_map]) (by omega) (by omega))) <| o_p rfl (Z03 (s := 0) (d2 := 40) (xs := a0.take k) Zeo Tryz.underlying3 (by simp; omega) (by simp; omega) (by omega) hgr (by rw [show k + (a0.length + a2.length - k) = a0.length + a2.length by omega]; exact hsz) (Ztz a0 k) rfl rfl u_0 u_1 u_2) <| o_p rfl (Zc rfl rfl u_0) <| o_n) (by kernel_rfl) (fun a g hst hb => ?_)
         have hl1 : (((a0.take k).map some ++ List.replicate (a0.length + a2.length - k) none) : List (Option Zj)).length = a0.length + a2.length := by simp; omega
         refine r_s (T := [⟨[.old 4], _, [], [], [41]⟩, ⟨[.old 1], _, [], [], [42]⟩, ⟨[.op 0 0, .op 1 0], _, [], [0, 1], [43]⟩, ⟨[.old 2], _, [], [], [44]⟩, ⟨[.op 2 0, .op 3 0, .old 4], _, [41], [0, 1, 2, 3], [45, 9, 41, 43]⟩]) (F := [.old 0, .old 1, .old 2, .old 3, .op 4 1]) hst hb Zb
           (o_p rfl (Za rfl rfl u_0) <| o_p rfl (Za rfl rfl u_0) <| o_p rfl (Zgz Zeo (by rw [hl1]; omega) rfl rfl u_0 u_1) <| o_p rfl (Za rfl rfl u_0) <| o_p rfl (Zxu (s := 9) Zeo (by rw [hl1]; omega) (by rw [hl1]; omega) rfl rfl (by decide) u_0 u_1 u_2) <| o_n) (by kernel_rfl) (fun a g hst hb => ?_)
         have hl2 : (over (((a0.take k).map some ++ List.replicate (a0.length + a2.length - k) none) : List (Option Zj)) k a2).length = a0.length + a2.length := by rw [Zld (by rw [hl1]; omega), hl1]
         refine r_s (T := [⟨[.old 4], _, [], [], [46]⟩, ⟨[.old 1], _, [], [], [47]⟩, ⟨[.old 3], _, [], [], [48]⟩, ⟨[.op 1 0, .op 2 0], _, [], [1, 2], [49]⟩, ⟨[.op 0 0, .op 3 0], _, [], [0, 1, 2, 3], [50]⟩, ⟨[.old 0], _, [], [], [51]⟩, ⟨[.old 1], _, [], [], [52]⟩, ⟨[.op 5 0, .op 6 0], _, [], [5, 6], [53]⟩, ⟨[.op 4 0, .op 7 0, .old 4, .old 0], _, [41], [0, 1, 2, 3, 4, 5, 6, 7], [54, 9, 46, 50]⟩]) (F := [.op 8 1]) hst hb Zb
           (o_p rfl (Za rfl rfl u_0) <| o_p rfl (Za rfl rfl u_0) <| o_p rfl (Za rfl rfl u_0) <| o_p rfl (Zch rfl rfl u_0 u_1 (Zrt (by omega))) <| o_p rfl (Zgz Zeo (by rw [hl2]; omega) rfl rfl u_0 u_1) <| o_p rfl (Za rfl rfl u_0) <| o_p rfl (Za rfl rfl u_0) <| o_p rfl (Zgz Zeo (by simpa using hk) rfl rfl u_0 u_1) <| o_p rfl (Zxo (s := 9) (s2 := 0) (ws := a0.drop k) Zeo (by rw [hl2]; omega) (by simp; omega) (by rw [hl2, List.length_map, List.length_drop]; exact (Nat.min_eq_left (by omega)).symm) (fun i x hx => by rw [List.getElem?_drop] at hx; rw [List.getElem?_map, hx]; rfl) rfl rfl (by decide) u_0 u_1 u_2 u_3) <| o_n) (by kernel_rfl) (fun a g hst hb => ?_)
         refine r_s (T := [⟨[.old 0], _, [], [], [55]⟩, ⟨[.op 0 0], _, [], [0], [6]⟩]) (F := [.op 1 0]) hst hb Zb
           (o_p rfl (Za rfl rfl u_0) <| o_p rfl (Zc rfl rfl u_0) <| o_n) (by kernel_rfl) (fun a g hst hb => ?_)
         refine wp_ret ?_
         refine Zt ?_
         have hq := hst.at 0 rfl
         rw [ins1 hk] at hq
         exact Zo4 rfl hst hb (Zk (s := 6)) hq
       · have hroom : a0.length + a2.length ≤ cap := by have := of_decide_eq_false hc2; simp only [List.length_map] at this; omega
         refine wp_skip ?_
         refine Zv ?_
         refine r_s (L := [(0, _), (1, _), (2, _), (7, _), (8, _)]) (T := [⟨[.old 0], _, [], [], [56]⟩, ⟨[.old 4], _, [], [], [57]⟩, ⟨[.old 3], _, [], [], [58]⟩, ⟨[.op 1 0, .op 2 0], _, [], [1, 2], [59]⟩, ⟨[.op 0 0, .op 3 0], [(60, (pOwn Zx 116 0 (some cap) (a0.map some ++ List.replicate (a0.length + a2.length - (a0.map some).length) none)))], [], [0, 1, 2, 3], [60]⟩, ⟨[.op 4 0], _, [], [0, 1, 2, 3, 4], [0]⟩]) (F := [.op 5 0, .old 1, .old 2, .old 3]) (hst.pick [0, 1, 2, 3, 4] rfl) hb Zb
           (o_p rfl (Za rfl rfl u_0) <| o_p rfl (Za rfl rfl u_0) <| o_p rfl (Za rfl rfl u_0) <| o_p rfl (Zch rfl rfl u_0 u_1 (Zrt (by simp only [List.length_map]; omega))) <| o_p rfl (Zy8 (h := a0.length + a2.length) Zeo (by simp) hroom rfl rfl u_0 (Opd.to u_1 (by simp))) <| o_p rfl (Zc rfl rfl u_0) <| o_n) (by kernel_rfl) (fun a g hst hb => ?_)
         have hl1 : ((a0.map some ++ List.replicate (a0.length + a2.length - (a0.map some).length) none) : List (Option Zj)).length = a0.length + a2.length := by simp
         refine wp_seq ?_
         refine r_s (T := [⟨[.old 2], _, [], [], [61]⟩, ⟨[.old 0], _, [], [], [62]⟩, ⟨[.old 1], _, [], [], [63]⟩, ⟨[.old 3], _, [], [], [64]⟩, ⟨[.op 2 0, .op 3 0], _, [], [2, 3], [65]⟩, ⟨[.op 1 0, .op 4 0], _, [], [1, 2, 3, 4], [66]⟩, ⟨[.op 0 0, .op 5 0, .old 0], _, [], [0, 1, 2, 3, 4, 5], [67]⟩, ⟨[.op 6 0], _, [], [0, 1, 2, 3, 4, 5, 6], [68]⟩]) (F := [.old 0, .old 1, .old 2, .old 3, .op 7 0]) hst hb Zb
           (o_p rfl (Za rfl rfl u_0) <| o_p rfl (Za rfl rfl u_0) <| o_p rfl (Za rfl rfl u_0) <| o_p rfl (Za rfl rfl u_0) <| o_p rfl (Zch rfl rfl u_0 u_1 (Zrt (by omega))) <| o_p rfl (Zgz Zeo (by rw [hl1]; omega) rfl rfl u_0 u_1) <| o_p rfl (Zzi (s := 0) Zeo rfl Z88 (by rw [hl1]; omega) rfl rfl u_0 u_1 u_2) <| o_p rfl (Zcg rfl rfl u_0) <| o_n) (by kernel_rfl) (fun a g hst hb => ?_)
         refine wp_cond_split (hst.bool 4 rfl) (fun hc3 => ?_) (fun hc3 => absurd hc3 (by simp))
         refine r_s (L := [(0, _), (1, _), (2, _), (7, _)]) (T := [⟨[.old 0], _, [], [], [69]⟩, ⟨[.old 1], _, [], [], [70]⟩, ⟨[.old 3], _, [], [], [71]⟩, ⟨[.op 1 0, .op 2 0], _, [], [1, 2], [72]⟩, ⟨[.op 0 0, .op 3 0], _, [], [0, 1, 2, 3], [73]⟩, ⟨[.old 0], _, [], [], [74]⟩, ⟨[.old 1], _, [], [], [75]⟩, ⟨[.op 5 0, .op 6 0], _, [], [5, 6], [76]⟩, ⟨[.op 4 0, .op 7 0, .old 0, .old 0], _, [1], [0, 1, 2, 3, 4, 5, 6, 7], [77, 0, 69, 73, 74, 76]⟩]) (F := [.op 8 1, .old 1, .old 2, .old 3]) (hst.pick [0, 1, 2, 3] rfl) hb Zb
           (o_p rfl (Za rfl rfl u_0) <| o_p rfl (Za rfl rfl u_0) <| o_p rfl (Za rfl rfl u_0) <| o_p rfl (Zch rfl rfl u_0 u_1 (Zrt (by omega))) <| o_p rfl (Zgz Zeo (by rw [hl1]; omega) rfl rfl u_0 u_1) <| o_p rfl (Za rfl rfl u_0) <| o_p rfl (Za rfl rfl u_0) <| o_p rfl (Zgz Zeo (by rw [hl1]; omega) rfl rfl u_0 u_1) <| o_p rfl (Zxo (s := 0) (s2 := 0) (ws := a0.drop k) Zeo (by rw [hl1]; omega) (by rw [hl1]; omega) (by rw [hl1, List.length_drop]; have hm1 : Nat.min (a0.length + a2.length - k) (a0.length + a2.length - (k + a2.length)) = a0.length + a2.length - (k + a2.length) := Nat.min_eq_right (by omega); rw [hm1]; omega) (fun i x hx => by have hi := (List.getElem?_eq_some_iff.1 hx).1; rw [List.length_drop] at hi; rw [List.getElem?_drop] at hx; rw [List.getElem?_append_left (by simp; omega), List.getElem?_map, hx]; rfl) rfl rfl (by decide) u_0 u_1 u_2 u_3) <| o_n) (by kernel_rfl) (fun a g hst hb => ?_)
         have hl2 : (over ((a0.map some ++ List.replicate (a0.length + a2.length - (a0.map some).length) none) : List (Option Zj)) (k + a2.length) (a0.drop k)).length = a0.length + a2.length := by rw [Zld (by rw [hl1, List.length_drop]; omega), hl1]
         refine r_s (T := [⟨[.old 0], _, [], [], [78]⟩, ⟨[.old 1], _, [], [], [79]⟩, ⟨[.op 0 0, .op 1 0], _, [], [0, 1], [80]⟩, ⟨[.old 2], _, [], [], [81]⟩, ⟨[.op 2 0, .op 3 0, .old 0], _, [1], [0, 1, 2, 3], [82, 0, 78, 80]⟩]) (F := [.op 4 1]) hst hb Zb
           (o_p rfl (Za rfl rfl u_0) <| o_p rfl (Za rfl rfl u_0) <| o_p rfl (Zgz Zeo (by rw [hl2]; omega) rfl rfl u_0 u_1) <| o_p rfl (Za rfl rfl u_0) <| o_p rfl (Zxu (s := 0) Zeo (by rw [hl2]; omega) (by rw [hl2]; omega) rfl rfl (by decide) u_0 u_1 u_2) <| o_n) (by kernel_rfl) (fun a g hst hb => ?_)
         refine r_s (T := [⟨[.old 0], _, [], [], [83]⟩, ⟨[.op 0 0], _, [], [0], [6]⟩]) (F := [.op 1 0]) hst hb Zb
           (o_p rfl (Za rfl rfl u_0) <| o_p rfl (Zc rfl rfl u_0) <| o_n) (by kernel_rfl) (fun a g hst hb => ?_)
         refine wp_ret ?_
         refine Zt ?_
         have hq := hst.at 0 rfl
         rw [ins2 hk] at hq
         exact Zo4 rfl hst hb (Zk (s := 6)) hq
theorem Zyy (a0 : Zd) (a1 : Zs) (a2 : Zi) {r : Int × Zd × Zi} (h : Zkh a0 a1 a2 = some r) : FnB Tryz.prog 126 [.box Zh a0 r.2.1, .val (Zy.pd a1), .box Zn a2 r.2.2] (pInt .i64 r.1) := by
 have H0 := h
 unfold Zkh at H0
 clear h
 refine Zi5 (N := 46) Tryz.func126 rfl rfl (Nat.le_of_ble_eq_true rfl) rfl rfl (fun a g0 bs hbs hst hb => ?_)
 obtain ⟨b0, b2, rfl⟩ := Zky hbs
 replace hst : St 46 [(0, (Zb3 (some b0) Zh 0 a0)), (1, (Zy.pd a1)), (2, (Zb3 (some b2) Zn 2 a2))] _ _ := hst
 refine r_s (T := [⟨[.old 1], _, [], [], [4]⟩, ⟨[], _, [], [], [6]⟩]) (F := [.old 0, .old 2, .op 0 0]) hst hb Zb
   (o_p rfl (Zbr rfl rfl u_0) <| o_p rfl (Zc rfl rfl c_i) <| o_n) (by kernel_rfl) (fun a g hst hb => ?_)
 obtain ⟨r1, h2, H0⟩ := Zg H0
 refine r_s (T := ⟨[.old 0], _, [], [], [10]⟩ :: ⟨[.op 0 0], _, [], [0], [11]⟩ :: ⟨[.op 1 0], _, [], [0, 1], [12]⟩ :: ⟨[.op 2 0], _, [], [0, 1, 2], [13]⟩ :: ⟨[.old 2], _, [], [], [14]⟩ :: ⟨[.op 4 0], _, [], [4], [15]⟩ :: ⟨[.op 3 0, .op 5 0], _, [], Lr 6, [16]⟩ :: ⟨[.op 6 0], _, [], Lr 7, [9]⟩ :: ⟨[.op 7 0], _, [], Lr 8, [17]⟩ :: ⟨[.op 7 0], _, [], Lr 8, [18]⟩ :: ⟨[.op 8 0], _, [], Lr 9, [7]⟩ :: ⟨[.op 9 0], _, [], Lr 11, [8]⟩ :: []) (F := [.old 0, .old 1, .old 2, .op 10 0, .op 11 0]) hst hb Zb
   (o_p rfl (Za rfl rfl u_0) <| o_p rfl (Zm rfl rfl u_0 (fun _ _ ⟨_, _, _, e, _⟩ => ⟨_, e⟩)) <| o_p rfl (Zbb Zdp (off := 7) (by kernel_rfl) rfl rfl u_0) <| o_p rfl (Zcm Ze9 rfl rfl u_0) <| o_p rfl (Ze Zjy rfl rfl u_0) <| o_p rfl (Zf ty_9 rfl rfl u_0) <| o_p rfl (Zq Zyh (Zob _ _ h2) rfl rfl (.cons u_0 (.cons u_1 .nil))) <| o_p rfl (Za rfl rfl u_0) <| o_p rfl (Z4 rfl rfl u_0 rfl) <| o_p rfl (Z4 rfl rfl u_0 rfl) <| o_p rfl (Zc rfl rfl u_0) <| o_p rfl (Zc rfl rfl u_0) <| o_n) (by kernel_rfl) (fun a g hst hb => ?_)
 refine wp_seq ?_
 refine wp_block ?_
 refine r_s (T := [⟨[.old 4], _, [], [], [20]⟩, ⟨[.op 0 0], _, [], [0], [19]⟩]) (F := [.old 0, .old 1, .old 2, .old 3, .op 1 0]) hst hb Zb
   (o_p rfl (Za rfl rfl u_0) <| o_p rfl (Zc rfl rfl u_0) <| o_n) (by kernel_rfl) (fun a g hst hb => ?_)
 refine wp_cond_split (hst.bool 4 rfl) (fun hc3 => ?_) (fun hc3 => ?_)
 · replace H0 := Zz hc3 H0
   refine r_s (L := [(0, _), (2, _)]) (T := [⟨[], _, [], [], [6]⟩]) (F := [.old 0, .old 1, .op 0 0]) (hst.pick [0, 1] rfl) hb Zb
     (o_p rfl (Zc rfl rfl c_i) <| o_n) (by kernel_rfl) (fun a g hst hb => ?_)
   refine wp_ret ?_
   refine Z7 ?_
   refine Zt ?_
   obtain rfl := Option.some.inj H0
   exact Zhc rfl hst hb (Zk (s := 6)) (hst.at 2 rfl) ⟨Zcp (hst.at 0 rfl), Zcp (hst.at 1 rfl), trivial⟩
 · replace H0 := Z0 hc3 H0
   refine r_s (L := [(0, _), (2, _), (4, _), (7, _)]) (T := [⟨[.old 0], _, [], [], [22]⟩, ⟨[.op 0 0], _, [], [0], [23]⟩, ⟨[.op 1 0], _, [], [0, 1], [24]⟩, ⟨[.op 2 0], _, [], [0, 1, 2], [25]⟩, ⟨[.op 3 0], _, [], Lr 4, [26]⟩, ⟨[.old 0], _, [], [], [27]⟩, ⟨[.op 5 0], _, [], [5], [28]⟩, ⟨[.op 6 0], _, [], [5, 6], [29]⟩, ⟨[.op 7 0], _, [], [5, 6, 7], [30]⟩, ⟨[.op 4 0, .op 8 0], _, [], Lr 9, [31]⟩, ⟨[.op 9 0], _, [], Lr 10, [21]⟩]) (F := [.old 0, .old 1, .old 2, .old 3, .op 10 0]) (hst.pick [0, 1, 2, 3] rfl) hb Zb
     (o_p rfl (Za rfl rfl u_0) <| o_p rfl (Zm rfl rfl u_0 (fun _ _ ⟨_, _, _, e, _⟩ => ⟨_, e⟩)) <| o_p rfl (Zbb Zdp (off := 7) (by kernel_rfl) rfl rfl u_0) <| o_p rfl (Zcm Ze9 rfl rfl u_0) <| o_p rfl (Zce Tryz.underlying36 rfl rfl u_0) <| o_p rfl (Za rfl rfl u_0) <| o_p rfl (Zm rfl rfl u_0 (fun _ _ ⟨_, _, _, e, _⟩ => ⟨_, e⟩)) <| o_p rfl (Zbb Zh7 (off := 5) (by kernel_rfl) rfl rfl u_0) <| o_p rfl (Zcm ty_3 rfl rfl u_0) <| o_p rfl (Zry rfl rfl u_0 u_1) <| o_p rfl (Zc rfl rfl u_0) <| o_n) (by kernel_rfl) (fun a g hst hb => ?_)
   refine wp_cond_split (hst.bool 4 rfl) (fun hc4 => ?_) (fun hc4 => ?_)
   · replace H0 := Zz hc4 H0
     refine r_s (L := [(0, _), (2, _)]) (T := [⟨[], _, [], [], [6]⟩]) (F := [.old 0, .old 1, .op 0 0]) (hst.pick [0, 1] rfl) hb Zb
       (o_p rfl (Zc rfl rfl c_i) <| o_n) (by kernel_rfl) (fun a g hst hb => ?_)
     refine wp_ret ?_
     refine Z7 ?_
     refine Zt ?_
     obtain rfl := Option.some.inj H0
     exact Zhc rfl hst hb (Zk (s := 6)) (hst.at 2 rfl) ⟨Zcp (hst.at 0 rfl), Zcp (hst.at 1 rfl), trivial⟩
   · replace H0 := Z0 hc4 H0
     refine wp_skip ?_
     refine Zbp ?_
     refine Zv ?_
     obtain ⟨r5, h6, H0⟩ := Zg H0; obtain ⟨r7, h8, H0⟩ := Zg H0
     refine r_s (L := [(0, _), (2, _), (4, _), (7, _)]) (T := ⟨[.old 0], _, [], [], [32]⟩ :: ⟨[.old 0], _, [], [], [33]⟩ :: ⟨[.op 1 0], _, [], [1], [34]⟩ :: ⟨[.op 2 0], _, [], [1, 2], [35]⟩ :: ⟨[.op 3 0], _, [], [1, 2, 3], [36]⟩ :: ⟨[.op 4 0], _, [38], List.range' 1 4, [37]⟩ :: ⟨[.old 3], _, [], [], [38]⟩ :: ⟨[.old 2], _, [], [], [39]⟩ :: ⟨[.op 7 0], _, [], [7], [40]⟩ :: ⟨[.op 8 0], _, [], [7, 8], [41]⟩ :: ⟨[.op 9 0], _, [], [7, 8, 9], [42]⟩ :: ⟨[.op 5 0, .op 6 0, .op 10 0], _, [38], List.range' 1 10, [37, 43]⟩ :: ⟨[.op 0 0], _, [], Lr 12, [44]⟩ :: ⟨[.op 12 0], _, [], Lr 13, [45]⟩ :: ⟨[.op 11 0, .op 13 0, .old 0], _, [1], Lr 14, [0, 32, 33, 34, 35, 44, 45]⟩ :: []) (F := [.op 14 0, .old 1]) (hst.pick [0, 1, 2, 3] rfl) hb Zb
       (o_p rfl (Za rfl rfl u_0) <| o_p rfl (Za rfl rfl u_0) <| o_p rfl (Zm rfl rfl u_0 (fun _ _ ⟨_, _, _, e, _⟩ => ⟨_, e⟩)) <| o_p rfl (Zbb Zdp (off := 7) (by kernel_rfl) rfl rfl u_0) <| o_p rfl (Zcm Ze9 rfl rfl u_0) <| o_p rfl (Zkb (j := 37) Zwy (Ze3 _ h6) rfl rfl (.cons u_0 .nil)) <| o_p rfl (Za rfl rfl u_0) <| o_p rfl (Ze Zjy rfl rfl u_0) <| o_p rfl (Zf ty_9 rfl rfl u_0) <| o_p rfl (Z3u rfl rfl u_0) <| o_p rfl (Zl1 Zeo (xs := [.tmp 41]) (.cons u_0 .nil) (by decide) rfl rfl) <| o_p rfl (Zpy Z10 (Zhj _ _ _ h8) rfl rfl rfl u_0 (.cons u_1 (.cons u_2 .nil))) <| o_p rfl (Zm rfl rfl u_0 (fun _ _ ⟨_, _, _, e, _⟩ => ⟨_, e⟩)) <| o_p rfl (Zbb Zdp (off := 7) (by kernel_rfl) rfl rfl u_0) <| o_p rfl (Zrz Ze9 rfl rfl u_2 u_1 u_0) <| o_n) (by kernel_rfl) (fun a g hst hb => ?_)
     refine r_s (T := [⟨[], _, [], [], [6]⟩]) (F := [.old 0, .old 1, .op 0 0]) hst hb Zb
       (o_p rfl (Zc rfl rfl c_i) <| o_n) (by kernel_rfl) (fun a g hst hb => ?_)
     refine wp_ret ?_
     obtain rfl := Option.some.inj H0
     exact Zhc rfl hst hb (Zk (s := 6)) (hst.at 2 rfl) ⟨Zcp (hst.at 0 rfl), Zcp (hst.at 1 rfl), trivial⟩
theorem Zk3 (a0 : List Zj) (a1 a2 : Int) {r : List Zj} (h : Zer a0 a1 a2 = some r) : Zw5 Tryz.prog 129 Zx 116 a0 [(pInt .i64 a1), (pInt .i64 a2)] (Zx.sl.pd r) := by
 unfold Zer at h
 obtain ⟨⟨hpos, hi0, hij, hj, hsz⟩, H0⟩ := Zhi h
 obtain rfl := Option.some.inj H0
 obtain ⟨k, rfl⟩ := Int.eq_ofNat_of_zero_le hi0
 obtain ⟨l, rfl⟩ := Int.eq_ofNat_of_zero_le (Int.le_trans hi0 hij)
 have hkl : k ≤ l := by omega
 have hl : l ≤ a0.length := by omega
 simp only [Int.toNat_natCast]
 refine Zyv (N := 33) Tryz.func129 rfl rfl (Nat.le_of_ble_eq_true rfl) rfl (fun hx a g A0 hst hb => ?_) (fun a g cap hcap hmax hst hb => ?_)
 · rw [hx] at hpos; cases hpos
 · refine r_s (T := [⟨[], [(6, (Zx.sl.pd []))], [], [], [6]⟩]) (F := [.old 0, .old 1, .old 2]) hst hb Zb
     (o_p rfl (Zc rfl rfl (Opd.c (fun g => Zgn g))) <| o_n) (by kernel_rfl) (fun a g hst hb => ?_)
   refine r_s (T := [⟨[.old 0], _, [], [], [8]⟩, ⟨[.old 1], _, [], [], [9]⟩, ⟨[.old 2], _, [], [], [10]⟩, ⟨[.old 0], _, [], [], [11]⟩, ⟨[.op 3 0], _, [], [3], [12]⟩, ⟨[.op 0 0, .op 1 0, .op 2 0, .op 4 0], [], [], [0, 1, 2, 3, 4], [13]⟩]) (F := [.old 0, .old 1, .old 2]) hst hb Zb
     (o_p rfl (Za rfl rfl u_0) <| o_p rfl (Za rfl rfl u_0) <| o_p rfl (Za rfl rfl u_0) <| o_p rfl (Za rfl rfl u_0) <| o_p rfl (Zrq Tryz.underlying36 rfl rfl u_0) <| o_p rfl (Z2v Zeo hkl (by simpa using hl) (Nat.le_refl _) rfl u_0 u_1 u_2 u_3) <| o_n) (by kernel_rfl) (fun a g hst hb => ?_)
   refine wp_seq ?_
   refine r_s (T := [⟨[.old 1], _, [], [], [14]⟩, ⟨[.old 2], _, [], [], [15]⟩, ⟨[.op 0 0, .op 1 0], _, [], [0, 1], [16]⟩]) (F := [.old 0, .old 1, .old 2, .op 2 0]) hst hb Zb
     (o_p rfl (Za rfl rfl u_0) <| o_p rfl (Za rfl rfl u_0) <| o_p rfl (Zb1 rfl rfl u_0 u_1) <| o_n) (by kernel_rfl) (fun a g hst hb => ?_)
   refine wp_cond_split (hst.bool 3 rfl) (fun hc => ?_) (fun hc => ?_)
   · refine r_s (L := [(0, _)]) (T := [⟨[.old 0], _, [], [], [17]⟩, ⟨[.op 0 0], _, [], [0], [6]⟩]) (F := [.op 1 0]) (hst.pick [0] rfl) hb Zb
       (o_p rfl (Za rfl rfl u_0) <| o_p rfl (Zc rfl rfl u_0) <| o_n) (by kernel_rfl) (fun a g hst hb => ?_)
     refine wp_ret ?_
     refine Zt ?_
     have hq := hst.at 0 rfl
     have hkl2 := beq_iff_eq.1 hc
     have he : a0.take k ++ a0.drop l = a0 := by rw [show l = k by omega, List.take_append_drop]
     rw [he]
     exact Zo4 rfl hst hb (Zk (s := 6)) hq
   · refine wp_skip ?_
     refine Zv ?_
     refine r_s (L := [(0, _), (1, _), (2, _)]) (T := [⟨[.old 0], _, [], [], [18]⟩, ⟨[.op 0 0], _, [], [0], [19]⟩, ⟨[.op 1 0], _, [], [0, 1], [7]⟩]) (F := [.old 0, .old 1, .old 2, .op 2 0]) (hst.pick [0, 1, 2] rfl) hb Zb
       (o_p rfl (Za rfl rfl u_0) <| o_p rfl (Zrq Tryz.underlying36 rfl rfl u_0) <| o_p rfl (Zc rfl rfl u_0) <| o_n) (by kernel_rfl) (fun a g hst hb => ?_)
     refine r_s (T := [⟨[.old 0], _, [], [], [20]⟩, ⟨[.old 1], _, [], [], [21]⟩, ⟨[.op 0 0, .op 1 0], _, [], [0, 1], [22]⟩, ⟨[.old 0], _, [], [], [23]⟩, ⟨[.old 2], _, [], [], [24]⟩, ⟨[.op 3 0, .op 4 0], _, [], [3, 4], [25]⟩, ⟨[.op 2 0, .op 5 0, .old 0], [(26, (pOwn Zx 116 0 (some cap) ((a0.take k ++ a0.drop l).map some)))], [1], [0, 1, 2, 3, 4, 5], [26, 0, 20, 22, 23, 25]⟩, ⟨[.op 6 0], _, [], [0, 1, 2, 3, 4, 5, 6], [0]⟩]) (F := [.op 7 0, .old 3]) hst hb Zb
       (o_p rfl (Za rfl rfl u_0) <| o_p rfl (Za rfl rfl u_0) <| o_p rfl (Zq0 Zeo (by simp; omega) rfl rfl u_0 u_1) <| o_p rfl (Za rfl rfl u_0) <| o_p rfl (Za rfl rfl u_0) <| o_p rfl (Zgz Zeo (by simpa using hl) rfl rfl u_0 u_1) <| o_p rfl (Z1x (s := 0) (k := cap) (xs := a0.take k) (ws := a0.drop l) Zeo (by simp; omega) (by simp; omega) (by simp; omega) (by simp) (Ztz a0 k) (Z04 a0 l) rfl rfl u_0 u_1 u_2) <| o_p rfl (Zc rfl rfl u_0) <| o_n) (by kernel_rfl) (fun a g hst hb => ?_)
     have hl2 : ((a0.take k ++ a0.drop l).map some).length = k + (a0.length - l) := by simp; omega
     refine r_s (T := [⟨[.old 0], _, [], [], [27]⟩, ⟨[.old 0], _, [], [], [28]⟩, ⟨[.op 1 0], _, [], [1], [29]⟩, ⟨[.old 1], _, [], [], [30]⟩, ⟨[.op 0 0, .op 2 0, .op 3 0], _, [], [0, 1, 2, 3], [31]⟩, ⟨[.op 4 0, .old 0], _, [1], [0, 1, 2, 3, 4], [0, 27, 28, 31]⟩]) (F := [.op 5 0]) hst hb Zb
       (o_p rfl (Za rfl rfl u_0) <| o_p rfl (Za rfl rfl u_0) <| o_p rfl (Zrq Tryz.underlying36 rfl rfl u_0) <| o_p rfl (Za rfl rfl u_0) <| o_p rfl (Z2n (k := cap) Zeo (by rw [hl2, List.length_map]; omega) (by rw [List.length_map]; omega) rfl rfl u_0 u_1 u_2) <| o_p rfl (Z2a (s := 0) (k := cap) Zeo (by kernel_rfl) (Nat.le_refl _) (by rw [hl2, List.length_map]; omega) rfl rfl u_0 u_1) <| o_n) (by kernel_rfl) (fun a g hst hb => ?_)
     refine r_s (T := [⟨[.old 0], _, [], [], [32]⟩, ⟨[.op 0 0], _, [], [0], [6]⟩]) (F := [.op 1 0]) hst hb Zb
       (o_p rfl (Za rfl rfl u_0) <| o_p rfl (Zc rfl rfl u_0) <| o_n) (by kernel_rfl) (fun a g hst hb => ?_)
     refine wp_ret ?_
     exact Zo4 rfl hst hb (Zk (s := 6)) (hst.at 0 rfl)
theorem Zr4 (a0 : Zd) (a1 : Zs) (a2 : Zi) {r : Int × Zd × Zi} (h : Zi8 a0 a1 a2 = some r) : FnB Tryz.prog 127 [.box Zh a0 r.2.1, .val (Zy.pd a1), .box Zn a2 r.2.2] (pInt .i64 r.1) := by
 have H0 := h
 unfold Zi8 at H0
 clear h
 refine Zi5 (N := 32) Tryz.func127 rfl rfl (Nat.le_of_ble_eq_true rfl) rfl rfl (fun a g0 bs hbs hst hb => ?_)
 obtain ⟨b0, b2, rfl⟩ := Zky hbs
 replace hst : St 32 [(0, (Zb3 (some b0) Zh 0 a0)), (1, (Zy.pd a1)), (2, (Zb3 (some b2) Zn 2 a2))] _ _ := hst
 refine r_s (T := [⟨[.old 1], _, [], [], [4]⟩, ⟨[], _, [], [], [6]⟩]) (F := [.old 0, .old 2, .op 0 0]) hst hb Zb
   (o_p rfl (Zbr rfl rfl u_0) <| o_p rfl (Zc rfl rfl c_i) <| o_n) (by kernel_rfl) (fun a g hst hb => ?_)
 refine wp_seq ?_
 obtain ⟨r1, h2, H0⟩ := Zg H0
 refine r_s (T := ⟨[.old 0], _, [], [], [10]⟩ :: ⟨[.op 0 0], _, [], [0], [11]⟩ :: ⟨[.op 1 0], _, [], [0, 1], [12]⟩ :: ⟨[.op 2 0], _, [], [0, 1, 2], [13]⟩ :: ⟨[.old 2], _, [], [], [14]⟩ :: ⟨[.op 4 0], _, [], [4], [15]⟩ :: ⟨[.op 3 0, .op 5 0], _, [], Lr 6, [16]⟩ :: ⟨[.op 6 0], _, [], Lr 7, [9]⟩ :: ⟨[.op 7 0], _, [], Lr 8, [17]⟩ :: ⟨[.op 7 0], _, [], Lr 8, [18]⟩ :: ⟨[.op 8 0], _, [], Lr 9, [7]⟩ :: ⟨[.op 9 0], _, [], Lr 11, [8]⟩ :: []) (F := [.old 0, .old 1, .op 10 0, .op 11 0]) hst hb Zb
   (o_p rfl (Za rfl rfl u_0) <| o_p rfl (Zm rfl rfl u_0 (fun _ _ ⟨_, _, _, e, _⟩ => ⟨_, e⟩)) <| o_p rfl (Zbb Zdp (off := 7) (by kernel_rfl) rfl rfl u_0) <| o_p rfl (Zcm Ze9 rfl rfl u_0) <| o_p rfl (Ze Zjy rfl rfl u_0) <| o_p rfl (Zf ty_9 rfl rfl u_0) <| o_p rfl (Zq Zyh (Zob _ _ h2) rfl rfl (.cons u_0 (.cons u_1 .nil))) <| o_p rfl (Za rfl rfl u_0) <| o_p rfl (Z4 rfl rfl u_0 rfl) <| o_p rfl (Z4 rfl rfl u_0 rfl) <| o_p rfl (Zc rfl rfl u_0) <| o_p rfl (Zc rfl rfl u_0) <| o_n) (by kernel_rfl) (fun a g hst hb => ?_)
 refine r_s (T := [⟨[.old 3], _, [], [], [19]⟩]) (F := [.old 0, .old 1, .old 2, .op 0 0]) hst hb Zb
   (o_p rfl (Za rfl rfl u_0) <| o_n) (by kernel_rfl) (fun a g hst hb => ?_)
 refine Zcs (fun a w => ∃ (j8 : Zd) (g : G), w = g.w ∧ St 32 [(0, (Zb3 (some b0) Zh 0 j8)), (2, (Zb3 (some b2) Zn 2 a2))] a g ∧ Base g0 g ∧ Zi3 a2 j8 = some r) ?_ ?_
 · rintro a w ⟨j8, g, rfl, hst, hb, H0⟩
   unfold Zi3 at H0
   refine Zv ?_
   refine r_s (T := [⟨[], _, [], [], [6]⟩]) (F := [.old 0, .old 1, .op 0 0]) hst hb Zb
     (o_p rfl (Zc rfl rfl c_i) <| o_n) (by kernel_rfl) (fun a g hst hb => ?_)
   refine wp_ret ?_
   obtain rfl := Option.some.inj H0
   exact Zhc rfl hst hb (Zk (s := 6)) (hst.at 2 rfl) ⟨Zcp (hst.at 0 rfl), Zcp (hst.at 1 rfl), trivial⟩
 · refine wp_cond_split (hst.bool 3 rfl) (fun hc3 => ?_) (fun hc3 => ?_)
   · replace H0 := Zz hc3 H0
     obtain ⟨r4, h5, H0⟩ := Zg H0; obtain ⟨r6, h7, H0⟩ := Zg H0
     refine r_g (L := [(0, _), (2, _), (7, _)]) (T := ⟨[.old 0], _, [], [], [20]⟩ :: ⟨[.old 0], _, [], [], [21]⟩ :: ⟨[.op 1 0], _, [], [1], [22]⟩ :: ⟨[.op 2 0], _, [], [1, 2], [23]⟩ :: ⟨[.op 3 0], _, [], [1, 2, 3], [24]⟩ :: ⟨[.op 4 0], _, [26], List.range' 1 4, [25]⟩ :: ⟨[.old 2], _, [], [], [26]⟩ :: ⟨[.old 2], _, [], [], [27]⟩ :: ⟨[.op 7 0], _, [], [7], [28]⟩ :: ⟨[.op 5 0, .op 6 0, .op 8 0], _, [26], List.range' 1 8, [25, 29]⟩ :: ⟨[.op 0 0], _, [], Lr 10, [30]⟩ :: ⟨[.op 10 0], _, [], Lr 11, [31]⟩ :: ⟨[.op 9 0, .op 11 0, .old 0], _, [1], Lr 12, [0, 20, 21, 22, 23, 30, 31]⟩ :: []) (F := [.op 12 0, .old 1]) (hst.pick [0, 1, 2] rfl) hb Zb
       (o_p rfl (Za rfl rfl u_0) <| o_p rfl (Za rfl rfl u_0) <| o_p rfl (Zm rfl rfl u_0 (fun _ _ ⟨_, _, _, e, _⟩ => ⟨_, e⟩)) <| o_p rfl (Zbb Zdp (off := 7) (by kernel_rfl) rfl rfl u_0) <| o_p rfl (Zcm Ze9 rfl rfl u_0) <| o_p rfl (Zkb (j := 25) Zwy (Ze3 _ h5) rfl rfl (.cons u_0 .nil)) <| o_p rfl (Za rfl rfl u_0) <| o_p rfl (Za rfl rfl u_0) <| o_p rfl (Zch rfl rfl u_0 c_i rfl) <| o_p rfl (Zpy Z9m (Zk3 _ _ _ h7) rfl rfl rfl u_0 (.cons u_1 (.cons u_2 .nil))) <| o_p rfl (Zm rfl rfl u_0 (fun _ _ ⟨_, _, _, e, _⟩ => ⟨_, e⟩)) <| o_p rfl (Zbb Zdp (off := 7) (by kernel_rfl) rfl rfl u_0) <| o_p rfl (Zrz Ze9 rfl rfl u_2 u_1 u_0) <| o_n) (by kernel_rfl) (fun a g hst hb => ?_)
     exact ⟨({ a0 with List := r6 }), g, rfl, (hst.pick [0, 1] rfl), hb, H0⟩
   · replace H0 := Z0 hc3 H0
     refine wp_skip ?_
     exact ⟨a0, g, rfl, (hst.pick [0, 1] rfl), hb, H0⟩
theorem Zr0 (a0 : Zd) (a1 : Zs) (a2 : Zi) {r : Int × Zd × Zi} (h : Zfc a0 a1 a2 = some r) : FnB Tryz.prog 130 [.box Zh a0 r.2.1, .val (Zy.pd a1), .box Zn a2 r.2.2] (pInt .i64 r.1) := by
 have H0 := h
 unfold Zfc at H0
 clear h
 refine Zi5 (N := 21) Tryz.func130 rfl rfl (Nat.le_of_ble_eq_true rfl) rfl rfl (fun a g0 bs hbs hst hb => ?_)
 obtain ⟨b0, b2, rfl⟩ := Zky hbs
 replace hst : St 21 [(0, (Zb3 (some b0) Zh 0 a0)), (1, (Zy.pd a1)), (2, (Zb3 (some b2) Zn 2 a2))] _ _ := hst
 refine r_s (T := [⟨[.old 1], _, [], [], [4]⟩, ⟨[], _, [], [], [6]⟩]) (F := [.old 0, .old 2, .op 0 0]) hst hb Zb
   (o_p rfl (Zbr rfl rfl u_0) <| o_p rfl (Zc rfl rfl c_i) <| o_n) (by kernel_rfl) (fun a g hst hb => ?_)
 refine wp_seq ?_
 obtain ⟨r1, h2, H0⟩ := Zg H0
 refine r_s (T := ⟨[.old 0], _, [], [], [10]⟩ :: ⟨[.op 0 0], _, [], [0], [11]⟩ :: ⟨[.op 1 0], _, [], [0, 1], [12]⟩ :: ⟨[.op 2 0], _, [], [0, 1, 2], [13]⟩ :: ⟨[.old 2], _, [], [], [14]⟩ :: ⟨[.op 4 0], _, [], [4], [15]⟩ :: ⟨[.op 3 0, .op 5 0], _, [], Lr 6, [16]⟩ :: ⟨[.op 6 0], _, [], Lr 7, [9]⟩ :: ⟨[.op 7 0], _, [], Lr 8, [17]⟩ :: ⟨[.op 7 0], _, [], Lr 8, [18]⟩ :: ⟨[.op 8 0], _, [], Lr 9, [7]⟩ :: ⟨[.op 9 0], _, [], Lr 11, [8]⟩ :: []) (F := [.old 0, .old 1, .op 11 0]) hst hb Zb
   (o_p rfl (Za rfl rfl u_0) <| o_p rfl (Zm rfl rfl u_0 (fun _ _ ⟨_, _, _, e, _⟩ => ⟨_, e⟩)) <| o_p rfl (Zbb Zdp (off := 7) (by kernel_rfl) rfl rfl u_0) <| o_p rfl (Zcm Ze9 rfl rfl u_0) <| o_p rfl (Ze Zjy rfl rfl u_0) <| o_p rfl (Zf ty_9 rfl rfl u_0) <| o_p rfl (Zq Zyh (Zob _ _ h2) rfl rfl (.cons u_0 (.cons u_1 .nil))) <| o_p rfl (Za rfl rfl u_0) <| o_p rfl (Z4 rfl rfl u_0 rfl) <| o_p rfl (Z4 rfl rfl u_0 rfl) <| o_p rfl (Zc rfl rfl u_0) <| o_p rfl (Zc rfl rfl u_0) <| o_n) (by kernel_rfl) (fun a g hst hb => ?_)
 refine r_s (T := [⟨[.old 2], _, [], [], [19]⟩, ⟨[.op 0 0], _, [], [0], [20]⟩]) (F := [.old 0, .old 1, .op 1 0]) hst hb Zb
   (o_p rfl (Za rfl rfl u_0) <| o_p rfl (Zcg rfl rfl u_0) <| o_n) (by kernel_rfl) (fun a g hst hb => ?_)
 refine wp_cond_split (hst.bool 2 rfl) (fun hc3 => ?_) (fun hc3 => ?_)
 · replace H0 := Zz hc3 H0
   refine r_s (L := [(0, _), (2, _)]) (T := [⟨[], _, [], [], [6]⟩]) (F := [.old 0, .old 1, .op 0 0]) (hst.pick [0, 1] rfl) hb Zb
     (o_p rfl (Zc rfl rfl c_i) <| o_n) (by kernel_rfl) (fun a g hst hb => ?_)
   refine wp_ret ?_
   refine Zt ?_
   obtain rfl := Option.some.inj H0
   exact Zhc rfl hst hb (Zk (s := 6)) (hst.at 2 rfl) ⟨Zcp (hst.at 0 rfl), Zcp (hst.at 1 rfl), trivial⟩
 · replace H0 := Z0 hc3 H0
   refine wp_skip ?_
   refine Zv ?_
   refine r_s (L := [(0, _), (2, _)]) (T := [⟨[], _, [], [], [6]⟩]) (F := [.old 0, .old 1, .op 0 0]) (hst.pick [0, 1] rfl) hb Zb
     (o_p rfl (Zc rfl rfl c_i) <| o_n) (by kernel_rfl) (fun a g hst hb => ?_)
   refine wp_ret ?_
   obtain rfl := Option.some.inj H0
   exact Zhc rfl hst hb (Zk (s := 6)) (hst.at 2 rfl) ⟨Zcp (hst.at 0 rfl), Zcp (hst.at 1 rfl), trivial⟩
theorem Zwf (a0 : Zd) (a1 : Zs) (a2 : Zi) {r : Int × Zd × Zi} (h : Zjk a0 a1 a2 = some r) : FnB Tryz.prog 131 [.box Zh a0 r.2.1, .val (Zy.pd a1), .box Zn a2 r.2.2] (pInt .i64 r.1) := by
 have H0 := h
 unfold Zjk at H0
 clear h
 refine Zi5 (N := 75) Tryz.func131 rfl rfl (Nat.le_of_ble_eq_true rfl) rfl rfl (fun a g0 bs hbs hst hb => ?_)
 obtain ⟨b0, b2, rfl⟩ := Zky hbs
 replace hst : St 75 [(0, (Zb3 (some b0) Zh 0 a0)), (1, (Zy.pd a1)), (2, (Zb3 (some b2) Zn 2 a2))] _ _ := hst
 refine r_s (T := [⟨[.old 1], _, [], [], [4]⟩, ⟨[], _, [], [], [6]⟩]) (F := [.old 0, .old 2, .op 0 0]) hst hb Zb
   (o_p rfl (Zbr rfl rfl u_0) <| o_p rfl (Zc rfl rfl c_i) <| o_n) (by kernel_rfl) (fun a g hst hb => ?_)
 refine r_s (T := [⟨[.old 2], _, [], [], [10]⟩, ⟨[.op 0 0], _, [], [0], [11]⟩, ⟨[.old 2], _, [], [], [12]⟩, ⟨[.op 2 0], _, [], [2], [13]⟩, ⟨[.op 1 0, .op 3 0], _, [], Lr 4, [14]⟩, ⟨[], [(7, (pBox Zx 7 (default : Zj)))], [8], [], [7]⟩, ⟨[.op 4 0, .op 5 0], _, [8], Lr 6, [7]⟩]) (F := [.old 0, .old 1, .op 6 0]) hst hb Zb
   (o_p rfl (Ze Zrl rfl rfl u_0) <| o_p rfl (Zf Zfg rfl rfl u_0) <| o_p rfl (Ze Zjy rfl rfl u_0) <| o_p rfl (Zf ty_9 rfl rfl u_0) <| o_p rfl (Z06 rfl rfl u_0 u_1) <| o_p rfl (Zbk (zs := [.float .f64 0, .string ByteArray.empty]) (by kernel_rfl) (fun g => Zju g) rfl rfl) <| o_p rfl (Zcb Ze1 rfl rfl u_1 u_0) <| o_n) (by kernel_rfl) (fun a g hst hb => ?_)
 refine r_s (T := [⟨[], _, [], [], [8]⟩]) (F := [.old 0, .old 1, .old 2, .op 0 0]) hst hb Zb
   (o_p rfl (Zc rfl rfl c_i) <| o_n) (by kernel_rfl) (fun a g hst hb => ?_)
 obtain ⟨z8, hz1, H0⟩ := Zg H0
 refine wp_seq ?_
 refine Zcs (fun a w => ∃ (y7 : Int) (g : G), w = g.w ∧ St 75 [(0, (Zb3 (some b0) Zh 0 a0)), (2, (Zb3 (some b2) Zn 2 a2)), (7, (Zx.ptr ({ Score := a1.X, Name := a1.S } : Zj))), (8, (pInt .i64 y7))] a g ∧ Base g0 g ∧ y7 = z8) ?_ ?_
 · rintro a w ⟨y7, g, rfl, hst, hb, rfl⟩
   refine Zv ?_
   refine wp_seq ?_
   obtain ⟨e9, h10, H0⟩ := Zg H0; obtain ⟨r11, h12, H0⟩ := Zg H0
   refine r_s (T := ⟨[.old 3], _, [], [], [35]⟩ :: ⟨[.old 0], _, [], [], [36]⟩ :: ⟨[.op 1 0], _, [], [1], [37]⟩ :: ⟨[.op 2 0], _, [], [1, 2], [38]⟩ :: ⟨[.op 3 0], _, [], [1, 2, 3], [39]⟩ :: ⟨[.op 4 0], _, [], List.range' 1 4, [40]⟩ :: ⟨[.op 0 0, .op 5 0], _, [], Lr 6, [41]⟩ :: ⟨[.op 6 0], _, [], Lr 7, [42]⟩ :: ⟨[.op 7 0, .old 2], _, [], Lr 8, [43]⟩ :: ⟨[.op 7 0, .old 0], _, [], Lr 8, [44]⟩ :: ⟨[.op 7 0, .op 9 0], _, [], [0, 1, 2, 3, 4, 5, 6, 7, 9], [45]⟩ :: ⟨[.op 7 0, .op 10 0], _, [], [0, 1, 2, 3, 4, 5, 6, 7, 9, 10], [46]⟩ :: ⟨[.op 7 0, .op 11 0], _, [], [0, 1, 2, 3, 4, 5, 6, 7, 9, 10, 11], [47]⟩ :: ⟨[.op 7 0, .old 3], _, [], Lr 8, [48]⟩ :: ⟨[.op 7 0, .op 12 0, .op 13 0], _, [], 0 :: 1 :: 2 :: 3 :: 4 :: 5 :: 6 :: 7 :: 9 :: 10 :: 11 :: 12 :: 13 :: [], [49]⟩ :: ⟨[.op 7 0, .op 14 0], _, [], 0 :: 1 :: 2 :: 3 :: 4 :: 5 :: 6 :: 7 :: 9 :: 10 :: 11 :: 12 :: 13 :: 14 :: [], [50]⟩ :: ⟨[.op 7 0, .op 8 0, .op 15 0], _, [], Lr 16, [51]⟩ :: ⟨[.op 7 0, .op 16 0], _, [], Lr 17, [52]⟩ :: ⟨[.op 7 0, .op 17 0], _, [], Lr 18, [53]⟩ :: []) (F := [.old 0, .old 1, .old 2, .old 3, .op 18 0]) hst hb Zb
     (o_p rfl (Za rfl rfl u_0) <| o_p rfl (Za rfl rfl u_0) <| o_p rfl (Zm rfl rfl u_0 (fun _ _ ⟨_, _, _, e, _⟩ => ⟨_, e⟩)) <| o_p rfl (Zbb Zdp (off := 7) (by kernel_rfl) rfl rfl u_0) <| o_p rfl (Zcm Ze9 rfl rfl u_0) <| o_p rfl (Zce Tryz.underlying36 rfl rfl u_0) <| o_p rfl (Zc0 rfl rfl u_0 u_1) <| o_p rfl (Za rfl rfl u_0) <| o_g (g_t rfl rfl rfl (fun hG => Zf Ze1 rfl rfl u_0)) <| o_g (g_t rfl rfl rfl (fun hG => Za rfl rfl u_0)) <| o_g (g_t rfl rfl rfl (fun hG => Zm rfl rfl (Opd.gd hG u_0) (fun _ _ ⟨_, _, _, e, _⟩ => ⟨_, e⟩))) <| o_g (g_t rfl rfl rfl (fun hG => Zbb Zdp (off := 7) (by kernel_rfl) rfl rfl (Opd.gd hG u_0))) <| o_g (g_t rfl rfl rfl (fun hG => Zcm Ze9 rfl rfl (Opd.gd hG u_0))) <| o_g (g_t rfl rfl rfl (fun hG => Za rfl rfl u_0)) <| o_g (g_t rfl rfl rfl (fun hG => Zb4 Tryz.underlying36 Zil rfl rfl (Opd.gd hG u_0) (Opd.gd hG u_1) (Zbq h10 hG))) <| o_g (g_t rfl rfl rfl (fun hG => Zf Ze1 rfl rfl (Opd.gd hG u_0))) <| o_g (g_t rfl rfl rfl (fun hG => Zq Zxs (Znd _ _ (Zbq h12 hG)) rfl rfl (.cons (Opd.gd hG u_0) (.cons (Opd.gd hG u_1) .nil)))) <| o_g (g_t rfl rfl rfl (fun hG => Zcg rfl rfl (Opd.gd hG u_0))) <| o_p rfl (Zbm rfl rfl u_0 (fun hz => (Opd.gd hz u_1))) <| o_n) (by kernel_rfl) (fun a g hst hb => ?_)
   refine wp_cond_split (hst.bool 4 rfl) (fun hc13 => ?_) (fun hc13 => ?_)
   · replace H0 := Zz hc13 H0
     refine r_s (L := [(0, _), (2, _)]) (T := [⟨[], _, [], [], [6]⟩]) (F := [.old 0, .old 1, .op 0 0]) (hst.pick [0, 1] rfl) hb Zb
       (o_p rfl (Zc rfl rfl c_i) <| o_n) (by kernel_rfl) (fun a g hst hb => ?_)
     refine wp_ret ?_
     refine Zt ?_
     obtain rfl := Option.some.inj H0
     exact Zhc rfl hst hb (Zk (s := 6)) (hst.at 2 rfl) ⟨Zcp (hst.at 0 rfl), Zcp (hst.at 1 rfl), trivial⟩
   · replace H0 := Z0 hc13 H0
     refine wp_skip ?_
     refine Zv ?_
     obtain ⟨r14, h15, H0⟩ := Zg H0; obtain ⟨r16, h17, H0⟩ := Zg H0
     refine r_s (L := [(0, _), (2, _), (7, _), (8, _)]) (T := [⟨[.old 0], _, [], [], [54]⟩, ⟨[.op 0 0], _, [], [0], [55]⟩, ⟨[.op 1 0], _, [], [0, 1], [56]⟩, ⟨[.op 2 0], _, [], [0, 1, 2], [57]⟩, ⟨[.op 3 0], _, [59], Lr 4, [58]⟩, ⟨[.old 3], _, [], [], [59]⟩, ⟨[.old 2], _, [], [], [60]⟩, ⟨[.op 6 0], _, [], [6], [61]⟩, ⟨[.op 4 0, .op 5 0, .op 7 0], _, [59], Lr 8, [58, 62]⟩, ⟨[.op 8 0], _, [], Lr 9, [9]⟩]) (F := [.old 0, .old 1, .op 9 0]) (hst.pick [0, 1, 2, 3] rfl) hb Zb
       (o_p rfl (Za rfl rfl u_0) <| o_p rfl (Zm rfl rfl u_0 (fun _ _ ⟨_, _, _, e, _⟩ => ⟨_, e⟩)) <| o_p rfl (Zbb Zdp (off := 7) (by kernel_rfl) rfl rfl u_0) <| o_p rfl (Zcm Ze9 rfl rfl u_0) <| o_p rfl (Zkb (j := 58) Zwy (Ze3 _ h15) rfl rfl (.cons u_0 .nil)) <| o_p rfl (Za rfl rfl u_0) <| o_p rfl (Zf Ze1 rfl rfl u_0) <| o_p rfl (Zl1 Zeo (xs := [.tmp 60]) (.cons u_0 .nil) (by decide) rfl rfl) <| o_p rfl (Zpy Z10 (Zhj _ _ _ h17) rfl rfl rfl u_0 (.cons u_1 (.cons u_2 .nil))) <| o_p rfl (Zc rfl rfl u_0) <| o_n) (by kernel_rfl) (fun a g hst hb => ?_)
     obtain ⟨c18, h19, H0⟩ := Zg H0
     refine r_s (T := ⟨[.old 0], _, [], [], [63]⟩ :: ⟨[.old 2], _, [], [], [64]⟩ :: ⟨[.old 2], _, [], [], [65]⟩ :: ⟨[.op 2 0], _, [], [2], [66]⟩ :: ⟨[.old 0], _, [], [], [67]⟩ :: ⟨[.op 4 0], _, [], [4], [68]⟩ :: ⟨[.op 5 0], _, [], [4, 5], [69]⟩ :: ⟨[.op 6 0], _, [], [4, 5, 6], [70]⟩ :: ⟨[.op 3 0, .op 7 0], _, [], List.range' 2 6, [71]⟩ :: ⟨[.op 1 0, .op 8 0], _, [], List.range' 1 8, [72]⟩ :: ⟨[.op 0 0], _, [], Lr 10, [73]⟩ :: ⟨[.op 10 0], _, [], Lr 11, [74]⟩ :: ⟨[.op 9 0, .op 11 0, .old 0], _, [1], Lr 12, [0, 63, 67, 68, 69, 73, 74]⟩ :: []) (F := [.op 12 0, .old 1]) hst hb Zb
       (o_p rfl (Za rfl rfl u_0) <| o_p rfl (Za rfl rfl u_0) <| o_p rfl (Za rfl rfl u_0) <| o_p rfl (Zce Tryz.underlying36 rfl rfl u_0) <| o_p rfl (Za rfl rfl u_0) <| o_p rfl (Zm rfl rfl u_0 (fun _ _ ⟨_, _, _, e, _⟩ => ⟨_, e⟩)) <| o_p rfl (Zbb Zh7 (off := 5) (by kernel_rfl) rfl rfl u_0) <| o_p rfl (Zcm ty_3 rfl rfl u_0) <| o_p rfl (Z9k rfl rfl u_0 u_1) <| o_p rfl (Z0p Tryz.underlying36 Zil rfl rfl u_0 u_1 h19) <| o_p rfl (Zm rfl rfl u_0 (fun _ _ ⟨_, _, _, e, _⟩ => ⟨_, e⟩)) <| o_p rfl (Zbb Zdp (off := 7) (by kernel_rfl) rfl rfl u_0) <| o_p rfl (Zrz Ze9 rfl rfl u_2 u_1 u_0) <| o_n) (by kernel_rfl) (fun a g hst hb => ?_)
     refine r_s (T := [⟨[], _, [], [], [6]⟩]) (F := [.old 0, .old 1, .op 0 0]) hst hb Zb
       (o_p rfl (Zc rfl rfl c_i) <| o_n) (by kernel_rfl) (fun a g hst hb => ?_)
     refine wp_ret ?_
     obtain rfl := Option.some.inj H0
     exact Zhc rfl hst hb (Zk (s := 6)) (hst.at 2 rfl) ⟨Zcp (hst.at 0 rfl), Zcp (hst.at 1 rfl), trivial⟩
 · refine wp_block ?_
   refine wp_loop_ghost (fun n a w => ∃ (x1 : Int) (g : G), w = g.w ∧ St 75 [(0, (Zb3 (some b0) Zh 0 a0)), (2, (Zb3 (some b2) Zn 2 a2)), (7, (Zx.ptr ({ Score := a1.X, Name := a1.S } : Zj))), (8, (pInt .i64 x1))] a g ∧ Base g0 g ∧ Zfq a0 a1 n x1 = some z8) (Int.toNat ((a0.List.length : Int) - (0 : Int)) + 1) ⟨(0 : Int), g, rfl, (hst.pick [0, 1, 2, 3] rfl), hb, hz1⟩ (fun n a w hI => ?_)
   obtain ⟨x1, g, rfl, hst, hb, H1⟩ := hI
   cases n with
   | zero => exact absurd H1 (by simp [Zfq])
   | succ n =>
     rw [Zfq] at H1
     refine wp_seq ?_
     obtain ⟨e2, h3, H1⟩ := Zg H1; obtain ⟨r4, h5, H1⟩ := Zg H1
     refine r_s (T := ⟨[.old 3], _, [], [], [15]⟩ :: ⟨[.old 0], _, [], [], [16]⟩ :: ⟨[.op 1 0], _, [], [1], [17]⟩ :: ⟨[.op 2 0], _, [], [1, 2], [18]⟩ :: ⟨[.op 3 0], _, [], [1, 2, 3], [19]⟩ :: ⟨[.op 4 0], _, [], List.range' 1 4, [20]⟩ :: ⟨[.op 0 0, .op 5 0], _, [], Lr 6, [21]⟩ :: ⟨[.op 6 0], _, [], Lr 7, [22]⟩ :: ⟨[.op 7 0, .old 0], _, [], Lr 8, [23]⟩ :: ⟨[.op 7 0, .op 8 0], _, [], Lr 9, [24]⟩ :: ⟨[.op 7 0, .op 9 0], _, [], Lr 10, [25]⟩ :: ⟨[.op 7 0, .op 10 0], _, [], Lr 11, [26]⟩ :: ⟨[.op 7 0, .old 3], _, [], Lr 8, [27]⟩ :: ⟨[.op 7 0, .op 11 0, .op 12 0], _, [], Lr 13, [28]⟩ :: ⟨[.op 7 0, .op 13 0], _, [], Lr 14, [29]⟩ :: ⟨[.op 7 0, .old 2], _, [], Lr 8, [30]⟩ :: ⟨[.op 7 0, .op 14 0, .op 15 0], _, [], Lr 16, [31]⟩ :: ⟨[.op 7 0, .op 16 0], _, [], Lr 17, [32]⟩ :: []) (F := [.old 0, .old 1, .old 2, .old 3, .op 17 0]) hst hb Zb
       (o_p rfl (Za rfl rfl u_0) <| o_p rfl (Za rfl rfl u_0) <| o_p rfl (Zm rfl rfl u_0 (fun _ _ ⟨_, _, _, e, _⟩ => ⟨_, e⟩)) <| o_p rfl (Zbb Zdp (off := 7) (by kernel_rfl) rfl rfl u_0) <| o_p rfl (Zcm Ze9 rfl rfl u_0) <| o_p rfl (Zce Tryz.underlying36 rfl rfl u_0) <| o_p rfl (Zc0 rfl rfl u_0 u_1) <| o_p rfl (Za rfl rfl u_0) <| o_g (g_t rfl rfl rfl (fun hG => Za rfl rfl u_0)) <| o_g (g_t rfl rfl rfl (fun hG => Zm rfl rfl (Opd.gd hG u_0) (fun _ _ ⟨_, _, _, e, _⟩ => ⟨_, e⟩))) <| o_g (g_t rfl rfl rfl (fun hG => Zbb Zdp (off := 7) (by kernel_rfl) rfl rfl (Opd.gd hG u_0))) <| o_g (g_t rfl rfl rfl (fun hG => Zcm Ze9 rfl rfl (Opd.gd hG u_0))) <| o_g (g_t rfl rfl rfl (fun hG => Za rfl rfl u_0)) <| o_g (g_t rfl rfl rfl (fun hG => Zb4 Tryz.underlying36 Zil rfl rfl (Opd.gd hG u_0) (Opd.gd hG u_1) (Zbq h3 hG))) <| o_g (g_t rfl rfl rfl (fun hG => Zf Ze1 rfl rfl (Opd.gd hG u_0))) <| o_g (g_t rfl rfl rfl (fun hG => Zf Ze1 rfl rfl u_0)) <| o_g (g_t rfl rfl rfl (fun hG => Zq Zxs (Znd _ _ (Zbq h5 hG)) rfl rfl (.cons (Opd.gd hG u_0) (.cons (Opd.gd hG u_1) .nil)))) <| o_p rfl (Zbm rfl rfl u_0 (fun hz => (Opd.gd hz u_1))) <| o_n) (by kernel_rfl) (fun a g hst hb => ?_)
     refine wp_cond_split (hst.bool 4 rfl) (fun hc6 => ?_) (fun hc6 => ?_)
     · replace H1 := Zz hc6 H1
       refine wp_skip ?_
       refine Zv ?_
       refine wp_block ?_
       refine r_g (L := [(0, _), (2, _), (7, _), (8, _)]) (T := [⟨[.old 3], _, [], [], [33]⟩, ⟨[.op 0 0], _, [], [0], [34]⟩, ⟨[.op 1 0], _, [], [0, 1], [8]⟩]) (F := [.old 0, .old 1, .old 2, .op 2 0]) (hst.pick [0, 1, 2, 3] rfl) hb Zb
         (o_p rfl (Za rfl rfl u_0) <| o_p rfl (Zch rfl rfl u_0 c_i rfl) <| o_p rfl (Zc rfl rfl u_0) <| o_n) (by kernel_rfl) (fun a g hst hb => ?_)
       refine Zbp ?_
       exact ⟨n, Nat.lt_succ_self _, (IntKind.i64.wrap (x1 + (1 : Int))), g, rfl, (hst.pick [0, 1, 2, 3] rfl), hb, H1⟩
     · replace H1 := Z0 hc6 H1
       refine wp_exit ?_
       refine Zca ?_
       refine Zca ?_
       refine Zcv ?_
       exact ⟨x1, g, rfl, (hst.pick [0, 1, 2, 3] rfl), hb, Option.some.inj H1⟩
def Phi (k : Int) (f : FuncId) (C : List Pd) : Prop := ∀ (x0 x1 : Zd) (a : Zs) (y0 y1 : Zi) (c : Int), Zbd k x0 a y0 = some (c, x1, y1) → FnB Tryz.prog f ([.box Zh x0 x1, .val (Zy.pd a), .box Zn y0 y1] ++ C.map .val) (pInt .i64 c)
theorem Z6b {k : Int} {x0 : Zd} {a : Zs} {y0 : Zi} {r : Int × Zd × Zi} (h : Zbd k x0 a y0 = some r) : ∀ f C, Phi k f C → FnB Tryz.prog f ([.box Zh x0 r.2.1, .val (Zy.pd a), .box Zn y0 r.2.2] ++ C.map .val) (pInt .i64 r.1) := fun f C hΦ => hΦ _ _ _ _ _ _ h
def tabT : TabT := fun k => if 5 ≤ k ∧ k ≤ 21 then some (Phi k) else none
theorem Z71 {i : Int} (h : 5 ≤ i ∧ i ≤ 21) : tabT i.toNat = some (Phi i) := by
 unfold tabT
 rw [if_pos (by omega), show ((i.toNat : Nat) : Int) = i by omega]
theorem Z9s : Phi 5 113 [] := fun x0 x1 a y0 y1 c h => Zr7 x0 a y0 (r := (c, x1, y1)) (by simpa [Zbd] using h)
theorem Zbaf : Phi 6 114 [] := fun x0 x1 a y0 y1 c h => Zr8 x0 a y0 (r := (c, x1, y1)) (by simpa [Zbd] using h)
theorem Zba5 : Phi 7 115 [] := fun x0 x1 a y0 y1 c h => Zr1 x0 a y0 (r := (c, x1, y1)) (by simpa [Zbd] using h)
theorem Z96 : Phi 8 116 [] := fun x0 x1 a y0 y1 c h => Zyd x0 a y0 (r := (c, x1, y1)) (by simpa [Zbd] using h)
theorem Z9u : Phi 9 117 [] := fun x0 x1 a y0 y1 c h => Zon x0 a y0 (r := (c, x1, y1)) (by simpa [Zbd] using h)
theorem Z7v : Phi 10 118 [] := fun x0 x1 a y0 y1 c h => Zr6 x0 a y0 (r := (c, x1, y1)) (by simpa [Zbd] using h)
theorem Z8g : Phi 11 119 [] := fun x0 x1 a y0 y1 c h => Zr2 x0 a y0 (r := (c, x1, y1)) (by simpa [Zbd] using h)
theorem Z89 : Phi 12 117 [] := fun x0 x1 a y0 y1 c h => Zon x0 a y0 (r := (c, x1, y1)) (by simpa [Zbd] using h)
theorem Z8z : Phi 13 135 [(Kd.fnc.ptr 121)] := fun x0 x1 a y0 y1 c h => by
 have h' : Zei (fun x y => Zkl x y) x0 a y0 = some (c, x1, y1) := by simpa [Zbd] using h
 obtain ⟨z, hz, h2⟩ := Zg h'
 injection h2 with h2
 simp only [Prod.mk.injEq] at h2
 obtain ⟨rfl, rfl, rfl⟩ := h2
 exact Zja 121 Z7x (fun x y => Zkl x y) (fun x y z h => Z1r x y h) x0 a y0 hz
theorem Z86 : Phi 14 135 [(Kd.fnc.ptr 122)] := fun x0 x1 a y0 y1 c h => by
 have h' : Zei (fun x y => Zko x y) x0 a y0 = some (c, x1, y1) := by simpa [Zbd] using h
 obtain ⟨z, hz, h2⟩ := Zg h'
 injection h2 with h2
 simp only [Prod.mk.injEq] at h2
 obtain ⟨rfl, rfl, rfl⟩ := h2
 exact Zja 122 Z8k (fun x y => Zko x y) (fun x y z h => Z0z x y h) x0 a y0 hz
theorem Z9p : Phi 15 135 [(Kd.fnc.ptr 123)] := fun x0 x1 a y0 y1 c h => by
 have h' : Zei (fun x y => Zhz x y) x0 a y0 = some (c, x1, y1) := by simpa [Zbd] using h
 obtain ⟨z, hz, h2⟩ := Zg h'
 injection h2 with h2
 simp only [Prod.mk.injEq] at h2
 obtain ⟨rfl, rfl, rfl⟩ := h2
 exact Zja 123 Z8r (fun x y => Zhz x y) (fun x y z h => Zzc x y h) x0 a y0 hz
theorem Z80 : Phi 16 135 [(Kd.fnc.ptr 124)] := fun x0 x1 a y0 y1 c h => by
 have h' : Zei (fun x y => Zg6 x y) x0 a y0 = some (c, x1, y1) := by simpa [Zbd] using h
 obtain ⟨z, hz, h2⟩ := Zg h'
 injection h2 with h2
 simp only [Prod.mk.injEq] at h2
 obtain ⟨rfl, rfl, rfl⟩ := h2
 exact Zja 124 Z8e (fun x y => Zg6 x y) (fun x y z h => Zxi x y h) x0 a y0 hz
theorem Z70 : Phi 17 135 [(Kd.fnc.ptr 125)] := fun x0 x1 a y0 y1 c h => by
 have h' : Zei (fun x y => Zgx x y) x0 a y0 = some (c, x1, y1) := by simpa [Zbd] using h
 obtain ⟨z, hz, h2⟩ := Zg h'
 injection h2 with h2
 simp only [Prod.mk.injEq] at h2
 obtain ⟨rfl, rfl, rfl⟩ := h2
 exact Zja 125 Z8a (fun x y => Zgx x y) (fun x y z h => Zr5 x y h) x0 a y0 hz
theorem Z76 : Phi 18 126 [] := fun x0 x1 a y0 y1 c h => Zyy x0 a y0 (r := (c, x1, y1)) (by simpa [Zbd] using h)
theorem Z8m : Phi 19 127 [] := fun x0 x1 a y0 y1 c h => Zr4 x0 a y0 (r := (c, x1, y1)) (by simpa [Zbd] using h)
theorem Z82 : Phi 20 130 [] := fun x0 x1 a y0 y1 c h => Zr0 x0 a y0 (r := (c, x1, y1)) (by simpa [Zbd] using h)
theorem Z8t : Phi 21 131 [] := fun x0 x1 a y0 y1 c h => Zwf x0 a y0 (r := (c, x1, y1)) (by simpa [Zbd] using h)
theorem Zy6 {N d : Nat} {o : Oper} {uses : Zbc} (hop : o.op = .build 157 #[(5, .func 113), (6, .func 114), (7, .func 115), (8, .func 116), (9, .func 117), (12, .func 117), (10, .func 118), (11, .func 119), (13, .tmp 1), (14, .tmp 2), (15, .tmp 3), (16, .tmp 4), (17, .tmp 5), (18, .func 126), (19, .func 127), (20, .func 130), (21, .func 131)]) (hd : o.dst = some d) (h1 : Opd uses (.tmp 1) (pClo 135 [(Kd.fnc.ptr 121)] rfl)) (h2 : Opd uses (.tmp 2) (pClo 135 [(Kd.fnc.ptr 122)] rfl)) (h3 : Opd uses (.tmp 3) (pClo 135 [(Kd.fnc.ptr 123)] rfl)) (h4 : Opd uses (.tmp 4) (pClo 135 [(Kd.fnc.ptr 124)] rfl)) (h5 : Opd uses (.tmp 5) (pClo 135 [(Kd.fnc.ptr 125)] rfl)) : OB Tryz.prog N o uses [(d, ((Kd.tab Tryz.prog 22 (by decide)).pd tabT))] [] :=
 Zb5 hd fun a g hh => by
   obtain ⟨c1, e1, k1⟩ := h1 a g hh
   obtain ⟨c2, e2, k2⟩ := h2 a g hh
   obtain ⟨c3, e3, k3⟩ := h3 a g hh
   obtain ⟨c4, e4, k4⟩ := h4 a g hh
   obtain ⟨c5, e5, k5⟩ := h5 a g hh
   refine ⟨.agg #[.nilFunc, .nilFunc, .nilFunc, .nilFunc, .nilFunc, .func (.func 113) #[] #[], .func (.func 114) #[] #[], .func (.func 115) #[] #[], .func (.func 116) #[] #[], .func (.func 117) #[] #[], .func (.func 118) #[] #[], .func (.func 119) #[] #[], .func (.func 117) #[] #[], .func (.func 135) #[] c1.toArray, .func (.func 135) #[] c2.toArray, .func (.func 135) #[] c3.toArray, .func (.func 135) #[] c4.toArray, .func (.func 135) #[] c5.toArray, .func (.func 126) #[] #[], .func (.func 127) #[] #[], .func (.func 130) #[] #[], .func (.func 131) #[] #[]], ?_, [.nilFunc, .nilFunc, .nilFunc, .nilFunc, .nilFunc, .func (.func 113) #[] #[], .func (.func 114) #[] #[], .func (.func 115) #[] #[], .func (.func 116) #[] #[], .func (.func 117) #[] #[], .func (.func 118) #[] #[], .func (.func 119) #[] #[], .func (.func 117) #[] #[], .func (.func 135) #[] c1.toArray, .func (.func 135) #[] c2.toArray, .func (.func 135) #[] c3.toArray, .func (.func 135) #[] c4.toArray, .func (.func 135) #[] c5.toArray, .func (.func 126) #[] #[], .func (.func 127) #[] #[], .func (.func 130) #[] #[], .func (.func 131) #[] #[]], ⟨rfl, ?_, ?_⟩, rfl⟩
   · simp only [execOp, hop, Sem.run_bind, Sem.run_pure, Result.andThen_ok, List.map_toArray, List.map_cons, List.map_nil, e1, e2, e3, e4, e5]
     rw [Zyz Tryz.underlying157 (zero := .agg #[.nilFunc, .nilFunc, .nilFunc, .nilFunc, .nilFunc, .nilFunc, .nilFunc, .nilFunc, .nilFunc, .nilFunc, .nilFunc, .nilFunc, .nilFunc, .nilFunc, .nilFunc, .nilFunc, .nilFunc, .nilFunc, .nilFunc, .nilFunc, .nilFunc, .nilFunc]) (by kernel_rfl) (by kernel_rfl) (cells := #[.nilFunc, .nilFunc, .nilFunc, .nilFunc, .nilFunc, .func (.func 113) #[] #[], .func (.func 114) #[] #[], .func (.func 115) #[] #[], .func (.func 116) #[] #[], .func (.func 117) #[] #[], .func (.func 118) #[] #[], .func (.func 119) #[] #[], .func (.func 117) #[] #[], .func (.func 135) #[] c1.toArray, .func (.func 135) #[] c2.toArray, .func (.func 135) #[] c3.toArray, .func (.func 135) #[] c4.toArray, .func (.func 135) #[] c5.toArray, .func (.func 126) #[] #[], .func (.func 127) #[] #[], .func (.func 130) #[] #[], .func (.func 131) #[] #[]]) (by kernel_rfl) g.w]
     rfl
   · intro u hu
     simp only [List.mem_cons, List.not_mem_nil, or_false] at hu
     rcases hu with rfl | rfl | rfl | rfl | rfl | rfl | rfl | rfl | rfl | rfl | rfl | rfl | rfl | rfl | rfl | rfl | rfl | rfl | rfl | rfl | rfl | rfl <;> rfl
   · intro k F u hF hu
     unfold tabT at hF
     split at hF
     · rename_i hk
       obtain rfl := Option.some.inj hF
       obtain ⟨hk1, hk2⟩ := hk
       have hk : k = 5 ∨ k = 6 ∨ k = 7 ∨ k = 8 ∨ k = 9 ∨ k = 10 ∨ k = 11 ∨ k = 12 ∨ k = 13 ∨ k = 14 ∨ k = 15 ∨ k = 16 ∨ k = 17 ∨ k = 18 ∨ k = 19 ∨ k = 20 ∨ k = 21 := by omega
       rcases hk with rfl | rfl | rfl | rfl | rfl | rfl | rfl | rfl | rfl | rfl | rfl | rfl | rfl | rfl | rfl | rfl | rfl
       · obtain rfl := Option.some.inj hu; exact ⟨113, [], [], rfl, Z8h, rfl, Z9s, Zeb, fun q hq => by cases hq⟩
       · obtain rfl := Option.some.inj hu; exact ⟨114, [], [], rfl, Z8x, rfl, Zbaf, Zeb, fun q hq => by cases hq⟩
       · obtain rfl := Option.some.inj hu; exact ⟨115, [], [], rfl, Z9h, rfl, Zba5, Zeb, fun q hq => by cases hq⟩
       · obtain rfl := Option.some.inj hu; exact ⟨116, [], [], rfl, Z9f, rfl, Z96, Zeb, fun q hq => by cases hq⟩
       · obtain rfl := Option.some.inj hu; exact ⟨117, [], [], rfl, Z2j, rfl, Z9u, Zeb, fun q hq => by cases hq⟩
       · obtain rfl := Option.some.inj hu; exact ⟨118, [], [], rfl, Z7w, rfl, Z7v, Zeb, fun q hq => by cases hq⟩
       · obtain rfl := Option.some.inj hu; exact ⟨119, [], [], rfl, Z85, rfl, Z8g, Zeb, fun q hq => by cases hq⟩
       · obtain rfl := Option.some.inj hu; exact ⟨117, [], [], rfl, Z2j, rfl, Z89, Zeb, fun q hq => by cases hq⟩
       · obtain rfl := Option.some.inj hu; exact ⟨135, _, c1, rfl, Zqn, rfl, Z8z, k1, Zka⟩
       · obtain rfl := Option.some.inj hu; exact ⟨135, _, c2, rfl, Zqn, rfl, Z86, k2, Zka⟩
       · obtain rfl := Option.some.inj hu; exact ⟨135, _, c3, rfl, Zqn, rfl, Z9p, k3, Zka⟩
       · obtain rfl := Option.some.inj hu; exact ⟨135, _, c4, rfl, Zqn, rfl, Z80, k4, Zka⟩
       · obtain rfl := Option.some.inj hu; exact ⟨135, _, c5, rfl, Zqn, rfl, Z70, k5, Zka⟩
       · obtain rfl := Option.some.inj hu; exact ⟨126, [], [], rfl, Z9n, rfl, Z76, Zeb, fun q hq => by cases hq⟩
       · obtain rfl := Option.some.inj hu; exact ⟨127, [], [], rfl, Z83, rfl, Z8m, Zeb, fun q hq => by cases hq⟩
       · obtain rfl := Option.some.inj hu; exact ⟨130, [], [], rfl, Z9a, rfl, Z82, Zeb, fun q hq => by cases hq⟩
       · obtain rfl := Option.some.inj hu; exact ⟨131, [], [], rfl, Z75, rfl, Z8t, Zeb, fun q hq => by cases hq⟩
     · cases hF
theorem Z2s : Ty Tryz.prog 157 (Kd.tab Tryz.prog 22 (by decide)) := ⟨by kernel_rfl, by kernel_rfl⟩
theorem Zuc : FnOk Tryz.prog 94 [] (pTab Tryz.prog 22 tabT) := by
 refine Zbv (N := 7) Tryz.func94 rfl rfl (Nat.le_of_ble_eq_true rfl) rfl rfl (fun a g0 hst hb => ?_)
 refine r_s (T := [⟨[], [(0, (pBox (Kd.tab Tryz.prog 22 (by decide)) 0 (fun _ => none)))], [1], [], [0]⟩]) (F := [.op 0 0]) hst hb Zb
   (o_p rfl (Zbk (zs := [.nilFunc, .nilFunc, .nilFunc, .nilFunc, .nilFunc, .nilFunc, .nilFunc, .nilFunc, .nilFunc, .nilFunc, .nilFunc, .nilFunc, .nilFunc, .nilFunc, .nilFunc, .nilFunc, .nilFunc, .nilFunc, .nilFunc, .nilFunc, .nilFunc, .nilFunc]) (by kernel_rfl) (fun g => ⟨rfl, by decide, fun k F u h => by cases h⟩) rfl rfl) <| o_n) (by kernel_rfl) (fun a g hst hb => ?_)
 refine r_s (T := [⟨[], _, [], [], [1]⟩, ⟨[], _, [], [0], [2]⟩, ⟨[], _, [], [0, 1], [3]⟩, ⟨[], _, [], [0, 1, 2], [4]⟩, ⟨[], _, [], [0, 1, 2, 3], [5]⟩, ⟨[.op 0 0, .op 1 0, .op 2 0, .op 3 0, .op 4 0], _, [], [0, 1, 2, 3, 4], [6]⟩, ⟨[.op 5 0, .old 0], [(0, (pBox (Kd.tab Tryz.prog 22 (by decide)) 0 tabT))], [1], [0, 1, 2, 3, 4, 5], [0]⟩]) (F := [.op 6 0]) hst hb Zb
   (o_p rfl (Zq Zqj (Zke 121) rfl rfl (.cons Opd.fncv .nil)) <| o_p rfl (Zq Zqj (Zke 122) rfl rfl (.cons Opd.fncv .nil)) <| o_p rfl (Zq Zqj (Zke 123) rfl rfl (.cons Opd.fncv .nil)) <| o_p rfl (Zq Zqj (Zke 124) rfl rfl (.cons Opd.fncv .nil)) <| o_p rfl (Zq Zqj (Zke 125) rfl rfl (.cons Opd.fncv .nil)) <| o_p rfl (Zy6 rfl rfl u_0 u_1 u_2 u_3 u_4) <| o_p rfl (Zba Z2s rfl rfl u_1 u_0) <| o_n) (by kernel_rfl) (fun a g hst hb => ?_)
 refine wp_ret ?_
 obtain ⟨u0, hu0, hq0⟩ := Zbl (P := Tryz.prog) Z2s (hst.at 0 rfl)
 exact Z8 rfl hst hb hu0 (Z41 hq0)
theorem Zwi (a0 : Zd) (a1 : Bool) (a2 : Zs) {r : Zd × Bool × Zi} (h : Zig a0 a1 a2 = some r) : FnOk Tryz.prog 68 [(Zh.pd a0), (Zbe a1), (Zy.pd a2)] (pTup [(Zh.pd r.1), (Zbe r.2.1), (Zn.pd r.2.2)]) := by
 have H0 := h
 unfold Zig at H0
 clear h
 refine Zbv (N := 123) Tryz.func68 rfl rfl (Nat.le_of_ble_eq_true rfl) rfl rfl (fun a g0 hst hb => ?_)
 refine r_s (T := [⟨[.old 0], _, [4], [], [3]⟩, ⟨[.old 1], _, [], [], [4]⟩, ⟨[.old 2], _, [], [], [5]⟩, ⟨[], [(6, (pBox Zh 6 (default : Zd)))], [7], [], [6]⟩, ⟨[], _, [], [], [7]⟩, ⟨[], [(8, (pBox Zn 8 (default : Zi)))], [9], [], [8]⟩]) (F := [.op 0 0, .op 1 0, .op 2 0, .op 3 0, .op 5 0]) hst hb Zb
   (o_p rfl (Zmn rfl rfl u_0) <| o_p rfl (Zbr rfl rfl u_0) <| o_p rfl (Zbr rfl rfl u_0) <| o_p rfl (Zbk (zs := [.int .i64 0, .int .i64 0, .int .i64 0, .int .i64 0, .float .f64 0, .int .i64 0, .string ByteArray.empty, .slice none 0 0]) (by kernel_rfl) (fun g => Zcd g) rfl rfl) <| o_p rfl (Zc rfl rfl c_b) <| o_p rfl (Zbk (zs := [.int .i64 0, .int .i64 0, .int .i64 0, .int .i64 0, .int .i64 0, .int .i64 0, .float .f64 0, .int .i64 0, .string ByteArray.empty, .slice none 0 0]) (by kernel_rfl) (fun g => Zh5 g) rfl rfl) <| o_n) (by kernel_rfl) (fun a g hst hb => ?_)
 refine wp_seq ?_
 refine r_s (T := [⟨[.old 1], _, [], [], [15]⟩, ⟨[.op 0 0], _, [], [0], [16]⟩]) (F := [.old 0, .old 1, .old 2, .old 3, .old 4, .op 1 0]) hst hb Zb
   (o_p rfl (Zf ty_4 rfl rfl u_0) <| o_p rfl (Zcg rfl rfl u_0) <| o_n) (by kernel_rfl) (fun a g hst hb => ?_)
 refine Zcs (fun a w => ∃ (j2 : Zd) (g : G), w = g.w ∧ St 123 [(3, (pBox Zh 3 j2)), (4, (Kd.bool.ptr a1)), (5, (Zy.ptr a2)), (6, (pBox Zh 6 (default : Zd))), (8, (pBox Zn 8 (default : Zi)))] a g ∧ Base g0 g ∧ Zh8 a1 a2 j2 = some r) ?_ ?_
 · rintro a w ⟨j2, g, rfl, hst, hb, H0⟩
   unfold Zh8 at H0
   refine Zv ?_
   obtain ⟨r3, h4, H0⟩ := Zg H0
   refine r_s (T := [⟨[.old 0], _, [], [], [18]⟩, ⟨[.op 0 0], _, [], [0], [19]⟩, ⟨[.op 1 0, .old 0], _, [4], [0, 1], [3]⟩]) (F := [.op 2 0, .old 1, .old 2, .old 3, .old 4]) hst hb Zb
     (o_p rfl (Zck Zbh rfl rfl u_0) <| o_p rfl (Zq Zms (Zfl _ h4) rfl rfl (.cons u_0 .nil)) <| o_p rfl (Zba Zbh rfl rfl u_1 u_0) <| o_n) (by kernel_rfl) (fun a g hst hb => ?_)
   refine r_s (T := [⟨[.old 0, .old 1], _, [], [], [20]⟩, ⟨[.op 0 0], _, [], [0], [9]⟩]) (F := [.old 0, .old 1, .old 2, .old 3, .old 4, .op 1 0]) hst hb Zb
     (o_p rfl (Zyj rfl rfl (.cons u_0 (.cons u_1 .nil))) <| o_p rfl (Zc rfl rfl u_0) <| o_n) (by kernel_rfl) (fun a g hst hb => ?_)
   refine wp_seq ?_
   obtain ⟨r5, h6, H0⟩ := Zg H0
   refine r_s (T := [⟨[.old 2], _, [], [], [21]⟩, ⟨[.op 0 0], _, [], [0], [22]⟩, ⟨[.op 1 0], _, [], [0, 1], [10]⟩]) (F := [.old 0, .old 1, .old 2, .old 3, .old 4, .old 5, .op 2 0]) hst hb Zb
     (o_p rfl (Zf Zh2 rfl rfl u_0) <| o_p rfl (Zq Z5o (Zq2 _ h6) rfl rfl (.cons u_0 .nil)) <| o_p rfl (Zc rfl rfl u_0) <| o_n) (by kernel_rfl) (fun a g hst hb => ?_)
   refine r_s (T := [⟨[.old 6], _, [], [], [23]⟩, ⟨[.op 0 0], _, [], [0], [24]⟩]) (F := [.old 0, .old 1, .old 2, .old 3, .old 4, .old 5, .old 6, .op 1 0]) hst hb Zb
     (o_p rfl (Za rfl rfl u_0) <| o_p rfl (Zg9 rfl rfl u_0 c_i) <| o_n) (by kernel_rfl) (fun a g hst hb => ?_)
   refine wp_cond_split (hst.bool 7 rfl) (fun hc7 => ?_) (fun hc7 => ?_)
   · replace H0 := Zz hc7 H0
     obtain ⟨r8, h9, H0⟩ := Zg H0
     refine r_s (L := [(3, _), (4, _), (6, _), (8, _), (9, _), (10, _)]) (T := [⟨[.old 4], _, [], [], [25]⟩, ⟨[.old 5], _, [], [], [26]⟩, ⟨[.op 0 0, .op 1 0, .old 0], [(27, (pTup [(Zh.pd r8.1), (Zbe r8.2.1), (Zn.pd r8.2.2.1)])), (3, (pBox Zh 3 r8.2.2.2))], [4], [0, 1], [3, 9, 25, 27]⟩, ⟨[.op 2 0], _, [], [0, 1, 2], [28]⟩, ⟨[.op 2 0], _, [], [0, 1, 2], [29]⟩, ⟨[.op 2 0], _, [], [0, 1, 2], [30]⟩, ⟨[.op 3 0, .old 2], _, [7], Lr 6, [6]⟩, ⟨[.op 4 0], _, [], Lr 7, [7]⟩, ⟨[.op 5 0, .old 3], _, [9], Lr 8, [8]⟩]) (F := [.op 2 1, .old 1, .op 6 0, .op 7 0, .op 8 0]) (hst.pick [0, 1, 3, 4, 5, 6] rfl) hb Zb
       (o_p rfl (Za rfl rfl u_0) <| o_p rfl (Za rfl rfl u_0) <| o_p rfl (Zlw (Ps := [.val (pInt .i64 r5)]) (hs := []) (ks := [(3, none, 3)]) Ztw (Zin _ _ _ h9) rfl rfl rfl u_0 (.val u_1 .nil) (.box u_2 rfl (.val .nil)) rfl rfl rfl rfl) <| o_p rfl (Z4 rfl rfl u_0 rfl) <| o_p rfl (Z4 rfl rfl u_0 rfl) <| o_p rfl (Z4 rfl rfl u_0 rfl) <| o_p rfl (Zba Zbh rfl rfl u_1 u_0) <| o_p rfl (Zc rfl rfl u_0) <| o_p rfl (Zba Zdn rfl rfl u_1 u_0) <| o_n) (by kernel_rfl) (fun a g hst hb => ?_)
     refine wp_ret ?_
     refine Zt ?_
     obtain rfl := Option.some.inj H0
     obtain ⟨u0, hu0, hq0⟩ := Zbl (P := Tryz.prog) Zbh (hst.at 2 rfl)
     obtain ⟨u2, hu2, hq2⟩ := Zbl (P := Tryz.prog) Zdn (hst.at 4 rfl)
     exact Zkk rfl hst hb hu0 (Zk (s := 7)) hu2 (Zib hq0 (hst.at 3 rfl) hq2)
   · replace H0 := Z0 hc7 H0
     refine wp_skip ?_
     refine Zv ?_
     refine wp_seq ?_
     refine r_s (L := [(3, _), (4, _), (5, _), (6, _), (8, _), (9, _)]) (T := [⟨[.old 1], _, [], [], [31]⟩]) (F := [.old 0, .old 1, .old 2, .old 3, .old 4, .old 5, .op 0 0]) (hst.pick [0, 1, 2, 3, 4, 5] rfl) hb Zb
       (o_p rfl (Zf ty_4 rfl rfl u_0) <| o_n) (by kernel_rfl) (fun a g hst hb => ?_)
     refine Zcs (fun a w => ∃ (g : G), w = g.w ∧ St 123 [(3, (pBox Zh 3 r3)), (4, (Kd.bool.ptr a1)), (5, (Zy.ptr a2)), (6, (pBox Zh 6 (default : Zd))), (8, (pBox Zn 8 (default : Zi))), (9, (Zw0 92 [(pBox Zh 3 r3), (Kd.bool.ptr a1)]))] a g ∧ Base g0 g ∧ Zh6 a1 a2 r3 = some r) ?_ ?_
     · rintro a w ⟨g, rfl, hst, hb, H0⟩
       unfold Zh6 at H0
       refine Zv ?_
       refine wp_seq ?_
       refine wp_block ?_
       refine r_s (T := [⟨[.old 2], _, [], [], [43]⟩, ⟨[.op 0 0], _, [], [0], [44]⟩, ⟨[.op 1 0], _, [], [0, 1], [45]⟩, ⟨[.op 2 0], _, [], [0, 1, 2], [46]⟩, ⟨[.op 3 0, .old 1], _, [], Lr 4, [47]⟩, ⟨[.op 3 0, .op 4 0], _, [], Lr 5, [48]⟩, ⟨[.op 5 0], _, [], Lr 6, [42]⟩]) (F := [.old 0, .old 1, .old 2, .old 3, .old 4, .old 5, .op 6 0]) hst hb Zb
         (o_p rfl (Ze Zg7 rfl rfl u_0) <| o_p rfl (Zf ty_3 rfl rfl u_0) <| o_p rfl (Zb1 rfl rfl u_0 c_i) <| o_p rfl (Za rfl rfl u_0) <| o_g (g_t rfl rfl rfl (fun hG => Zf ty_4 rfl rfl u_0)) <| o_p rfl (Zbm rfl rfl u_0 (fun hz => (Opd.gd hz u_1))) <| o_p rfl (Zc rfl rfl u_0) <| o_n) (by kernel_rfl) (fun a g hst hb => ?_)
       refine wp_cond_split (hst.bool 6 rfl) (fun hc16 => ?_) (fun hc16 => ?_)
       · replace H0 := Zz hc16 H0
         obtain ⟨r17, h18, H0⟩ := Zg H0
         refine r_s (L := [(3, _), (4, _), (6, _), (8, _), (9, _)]) (T := [⟨[.old 4], _, [], [], [49]⟩, ⟨[.op 0 0, .old 0], [(50, (pTup [(Zh.pd r17.1), (Zbe r17.2.1), (Zn.pd r17.2.2.1)])), (3, (pBox Zh 3 r17.2.2.2))], [4], [0], [3, 9, 49, 50]⟩, ⟨[.op 1 0], _, [], [0, 1], [51]⟩, ⟨[.op 1 0], _, [], [0, 1], [52]⟩, ⟨[.op 1 0], _, [], [0, 1], [53]⟩, ⟨[.op 2 0, .old 2], _, [7], Lr 5, [6]⟩, ⟨[.op 3 0], _, [], Lr 6, [7]⟩, ⟨[.op 4 0, .old 3], _, [9], Lr 7, [8]⟩]) (F := [.op 1 1, .old 1, .op 5 0, .op 6 0, .op 7 0]) (hst.pick [0, 1, 3, 4, 5] rfl) hb Zb
           (o_p rfl (Za rfl rfl u_0) <| o_p rfl (Zlw (Ps := [.val (pInt .i64 (7 : Int))]) (hs := []) (ks := [(3, none, 3)]) Ztw (Zin _ _ _ h18) rfl rfl rfl u_0 (.val c_i .nil) (.box u_1 rfl (.val .nil)) rfl rfl rfl rfl) <| o_p rfl (Z4 rfl rfl u_0 rfl) <| o_p rfl (Z4 rfl rfl u_0 rfl) <| o_p rfl (Z4 rfl rfl u_0 rfl) <| o_p rfl (Zba Zbh rfl rfl u_1 u_0) <| o_p rfl (Zc rfl rfl u_0) <| o_p rfl (Zba Zdn rfl rfl u_1 u_0) <| o_n) (by kernel_rfl) (fun a g hst hb => ?_)
         refine wp_ret ?_
         refine Z7 ?_
         refine Zt ?_
         obtain rfl := Option.some.inj H0
         obtain ⟨u0, hu0, hq0⟩ := Zbl (P := Tryz.prog) Zbh (hst.at 2 rfl)
         obtain ⟨u2, hu2, hq2⟩ := Zbl (P := Tryz.prog) Zdn (hst.at 4 rfl)
         exact Zkk rfl hst hb hu0 (Zk (s := 7)) hu2 (Zib hq0 (hst.at 3 rfl) hq2)
       · replace H0 := Z0 hc16 H0
         refine r_s (L := [(3, _), (4, _), (5, _), (6, _), (8, _), (9, _)]) (T := [⟨[.old 2], _, [], [], [55]⟩, ⟨[.op 0 0], _, [], [0], [56]⟩, ⟨[.op 1 0], _, [], [0, 1], [57]⟩, ⟨[.op 2 0], _, [], [0, 1, 2], [54]⟩]) (F := [.old 0, .old 1, .old 2, .old 3, .old 4, .old 5, .op 3 0]) (hst.pick [0, 1, 2, 3, 4, 5] rfl) hb Zb
           (o_p rfl (Ze Zg7 rfl rfl u_0) <| o_p rfl (Zf ty_3 rfl rfl u_0) <| o_p rfl (Zb1 rfl rfl u_0 c_i) <| o_p rfl (Zc rfl rfl u_0) <| o_n) (by kernel_rfl) (fun a g hst hb => ?_)
         refine wp_cond_split (hst.bool 6 rfl) (fun hc19 => ?_) (fun hc19 => ?_)
         · replace H0 := Zz hc19 H0
           obtain ⟨r20, h21, H0⟩ := Zg H0
           refine r_s (L := [(3, _), (4, _), (5, _), (6, _), (8, _)]) (T := [⟨[.old 2], _, [], [], [58]⟩, ⟨[.op 0 0], _, [], [0], [59]⟩, ⟨[.op 1 0], _, [], [0, 1], [60]⟩, ⟨[], _, [], [], [61]⟩, ⟨[.op 2 0, .old 3], _, [7], [0, 1, 2], [6]⟩, ⟨[], _, [], [0, 1, 2, 4], [7]⟩, ⟨[.op 3 0, .old 4], _, [9], Lr 6, [8]⟩]) (F := [.old 0, .old 1, .op 4 0, .op 5 0, .op 6 0]) (hst.pick [0, 1, 2, 3, 4] rfl) hb Zb
             (o_p rfl (Ze Znw rfl rfl u_0) <| o_p rfl (Zf Zbh rfl rfl u_0) <| o_p rfl (Zq Zms (Zfl _ h21) rfl rfl (.cons u_0 .nil)) <| o_p rfl (Z23 rfl rfl ) <| o_p rfl (Zba Zbh rfl rfl u_1 u_0) <| o_p rfl (Zc rfl rfl c_b) <| o_p rfl (Zba Zdn rfl rfl u_1 u_0) <| o_n) (by kernel_rfl) (fun a g hst hb => ?_)
           refine wp_ret ?_
           refine Z7 ?_
           refine Zt ?_
           obtain rfl := Option.some.inj H0
           obtain ⟨u0, hu0, hq0⟩ := Zbl (P := Tryz.prog) Zbh (hst.at 2 rfl)
           obtain ⟨u2, hu2, hq2⟩ := Zbl (P := Tryz.prog) Zdn (hst.at 4 rfl)
           exact Zkk rfl hst hb hu0 (Zk (s := 7)) hu2 (Zib hq0 (hst.at 3 rfl) hq2)
         · replace H0 := Z0 hc19 H0
           refine r_s (L := [(3, _), (4, _), (5, _), (6, _), (8, _), (9, _)]) (T := [⟨[.old 2], _, [], [], [63]⟩, ⟨[.op 0 0], _, [], [0], [64]⟩, ⟨[.op 1 0], _, [], [0, 1], [65]⟩, ⟨[.op 2 0], _, [], [0, 1, 2], [62]⟩]) (F := [.old 0, .old 1, .old 2, .old 3, .old 4, .old 5, .op 3 0]) (hst.pick [0, 1, 2, 3, 4, 5] rfl) hb Zb
             (o_p rfl (Ze Zg7 rfl rfl u_0) <| o_p rfl (Zf ty_3 rfl rfl u_0) <| o_p rfl (Zb1 rfl rfl u_0 c_i) <| o_p rfl (Zc rfl rfl u_0) <| o_n) (by kernel_rfl) (fun a g hst hb => ?_)
           refine wp_cond_split (hst.bool 6 rfl) (fun hc22 => ?_) (fun hc22 => ?_)
           · replace H0 := Zz hc22 H0
             refine r_s (L := [(3, _), (4, _), (6, _), (8, _)]) (T := [⟨[.old 0], _, [], [], [66]⟩, ⟨[.old 1], _, [], [], [67]⟩, ⟨[.old 0], _, [], [], [68]⟩, ⟨[.op 2 0], _, [], [2], [69]⟩, ⟨[.op 3 0], _, [], [2, 3], [70]⟩, ⟨[.op 0 0, .old 2], _, [7], [0], [6]⟩, ⟨[.op 1 0], _, [], [0, 1, 5], [7]⟩, ⟨[.op 4 0, .old 3], _, [9], Lr 7, [8]⟩]) (F := [.old 0, .old 1, .op 5 0, .op 6 0, .op 7 0]) (hst.pick [0, 1, 3, 4] rfl) hb Zb
               (o_p rfl (Zck Zbh rfl rfl u_0) <| o_p rfl (Zf ty_4 rfl rfl u_0) <| o_p rfl (Zbb Zgv (off := 0) (by kernel_rfl) rfl rfl u_0) <| o_p rfl (Zcm ty_3 rfl rfl u_0) <| o_p rfl (Z65 rfl rfl u_0) <| o_p rfl (Zba Zbh rfl rfl u_1 u_0) <| o_p rfl (Zc rfl rfl u_0) <| o_p rfl (Zba Zdn rfl rfl u_1 u_0) <| o_n) (by kernel_rfl) (fun a g hst hb => ?_)
             refine wp_ret ?_
             refine Z7 ?_
             refine Zt ?_
             obtain rfl := Option.some.inj H0
             obtain ⟨u0, hu0, hq0⟩ := Zbl (P := Tryz.prog) Zbh (hst.at 2 rfl)
             obtain ⟨u2, hu2, hq2⟩ := Zbl (P := Tryz.prog) Zdn (hst.at 4 rfl)
             exact Zkk rfl hst hb hu0 (Zk (s := 7)) hu2 (Zib hq0 (hst.at 3 rfl) hq2)
           · replace H0 := Z0 hc22 H0
             refine r_s (L := [(3, _), (4, _), (5, _), (6, _), (8, _), (9, _)]) (T := [⟨[.old 1], _, [], [], [72]⟩, ⟨[.op 0 0], _, [], [0], [73]⟩, ⟨[.op 1 0], _, [], [0, 1], [71]⟩]) (F := [.old 0, .old 1, .old 2, .old 3, .old 4, .old 5, .op 2 0]) (hst.pick [0, 1, 2, 3, 4, 5] rfl) hb Zb
               (o_p rfl (Zf ty_4 rfl rfl u_0) <| o_p rfl (Zcg rfl rfl u_0) <| o_p rfl (Zc rfl rfl u_0) <| o_n) (by kernel_rfl) (fun a g hst hb => ?_)
             refine wp_cond_split (hst.bool 6 rfl) (fun hc23 => ?_) (fun hc23 => ?_)
             · replace H0 := Zz hc23 H0
               obtain ⟨r24, h25, H0⟩ := Zg H0
               refine r_s (L := [(3, _), (4, _), (6, _), (8, _), (9, _)]) (T := [⟨[.old 4], _, [], [], [74]⟩, ⟨[.op 0 0, .old 0], [(75, (pTup [(Zh.pd r24.1), (Zbe r24.2.1), (Zn.pd r24.2.2.1)])), (3, (pBox Zh 3 r24.2.2.2))], [4], [0], [3, 9, 74, 75]⟩, ⟨[.op 1 0], _, [], [0, 1], [76]⟩, ⟨[.op 1 0], _, [], [0, 1], [77]⟩, ⟨[.op 1 0], _, [], [0, 1], [78]⟩, ⟨[.op 2 0, .old 2], _, [7], Lr 5, [6]⟩, ⟨[.op 3 0], _, [], Lr 6, [7]⟩, ⟨[.op 4 0, .old 3], _, [9], Lr 7, [8]⟩]) (F := [.op 1 1, .old 1, .op 5 0, .op 6 0, .op 7 0]) (hst.pick [0, 1, 3, 4, 5] rfl) hb Zb
                 (o_p rfl (Za rfl rfl u_0) <| o_p rfl (Zlw (Ps := [.val (pInt .i64 (6 : Int))]) (hs := []) (ks := [(3, none, 3)]) Ztw (Zin _ _ _ h25) rfl rfl rfl u_0 (.val c_i .nil) (.box u_1 rfl (.val .nil)) rfl rfl rfl rfl) <| o_p rfl (Z4 rfl rfl u_0 rfl) <| o_p rfl (Z4 rfl rfl u_0 rfl) <| o_p rfl (Z4 rfl rfl u_0 rfl) <| o_p rfl (Zba Zbh rfl rfl u_1 u_0) <| o_p rfl (Zc rfl rfl u_0) <| o_p rfl (Zba Zdn rfl rfl u_1 u_0) <| o_n) (by kernel_rfl) (fun a g hst hb => ?_)
               refine wp_ret ?_
               refine Z7 ?_
               refine Zt ?_
               obtain rfl := Option.some.inj H0
               obtain ⟨u0, hu0, hq0⟩ := Zbl (P := Tryz.prog) Zbh (hst.at 2 rfl)
               obtain ⟨u2, hu2, hq2⟩ := Zbl (P := Tryz.prog) Zdn (hst.at 4 rfl)
               exact Zkk rfl hst hb hu0 (Zk (s := 7)) hu2 (Zib hq0 (hst.at 3 rfl) hq2)
             · replace H0 := Z0 hc23 H0
               refine r_s (L := [(3, _), (4, _), (5, _), (6, _), (8, _), (9, _)]) (T := [⟨[.old 2], _, [], [], [80]⟩, ⟨[.op 0 0], _, [], [0], [81]⟩, ⟨[.op 1 0], _, [], [0, 1], [82]⟩, ⟨[.op 2 0], _, [], [0, 1, 2], [79]⟩]) (F := [.old 0, .old 1, .old 2, .old 3, .old 4, .old 5, .op 3 0]) (hst.pick [0, 1, 2, 3, 4, 5] rfl) hb Zb
                 (o_p rfl (Ze Zg7 rfl rfl u_0) <| o_p rfl (Zf ty_3 rfl rfl u_0) <| o_p rfl (Zb1 rfl rfl u_0 c_i) <| o_p rfl (Zc rfl rfl u_0) <| o_n) (by kernel_rfl) (fun a g hst hb => ?_)
               refine wp_cond_split (hst.bool 6 rfl) (fun hc26 => ?_) (fun hc26 => ?_)
               · replace H0 := Zz hc26 H0
                 refine r_s (L := [(3, _), (4, _), (6, _), (8, _)]) (T := [⟨[], _, [], [], [83]⟩, ⟨[], _, [], [], [84]⟩, ⟨[.op 0 0, .old 2], _, [7], [0], [6]⟩, ⟨[], _, [], [0, 2], [7]⟩, ⟨[.op 1 0, .old 3], _, [9], Lr 4, [8]⟩]) (F := [.old 0, .old 1, .op 2 0, .op 3 0, .op 4 0]) (hst.pick [0, 1, 3, 4] rfl) hb Zb
                   (o_p rfl (Zq9 rfl rfl ) <| o_p rfl (Z23 rfl rfl ) <| o_p rfl (Zba Zbh rfl rfl u_1 u_0) <| o_p rfl (Zc rfl rfl c_b) <| o_p rfl (Zba Zdn rfl rfl u_1 u_0) <| o_n) (by kernel_rfl) (fun a g hst hb => ?_)
                 refine wp_ret ?_
                 refine Z7 ?_
                 refine Zt ?_
                 obtain rfl := Option.some.inj H0
                 obtain ⟨u0, hu0, hq0⟩ := Zbl (P := Tryz.prog) Zbh (hst.at 2 rfl)
                 obtain ⟨u2, hu2, hq2⟩ := Zbl (P := Tryz.prog) Zdn (hst.at 4 rfl)
                 exact Zkk rfl hst hb hu0 (Zk (s := 7)) hu2 (Zib hq0 (hst.at 3 rfl) hq2)
               · replace H0 := Z0 hc26 H0
                 refine r_s (L := [(3, _), (4, _), (5, _), (6, _), (8, _), (9, _)]) (T := [⟨[.old 2], _, [], [], [86]⟩, ⟨[.op 0 0], _, [], [0], [87]⟩, ⟨[.op 1 0], _, [], [0, 1], [88]⟩, ⟨[.op 2 0], _, [], [0, 1, 2], [85]⟩]) (F := [.old 0, .old 1, .old 2, .old 3, .old 4, .old 5, .op 3 0]) (hst.pick [0, 1, 2, 3, 4, 5] rfl) hb Zb
                   (o_p rfl (Ze Zg7 rfl rfl u_0) <| o_p rfl (Zf ty_3 rfl rfl u_0) <| o_p rfl (Zb1 rfl rfl u_0 c_i) <| o_p rfl (Zc rfl rfl u_0) <| o_n) (by kernel_rfl) (fun a g hst hb => ?_)
                 refine wp_cond_split (hst.bool 6 rfl) (fun hc27 => ?_) (fun hc27 => ?_)
                 · replace H0 := Zz hc27 H0
                   obtain ⟨r28, h29, H0⟩ := Zg H0
                   refine r_s (L := [(3, _), (4, _), (6, _), (8, _)]) (T := [⟨[.old 0], _, [], [], [89]⟩, ⟨[.old 1], _, [], [], [90]⟩, ⟨[.old 0], _, [], [], [91]⟩, ⟨[.op 2 0], _, [], [2], [92]⟩, ⟨[.op 3 0], _, [], [2, 3], [93]⟩, ⟨[.op 0 0, .old 2], _, [7], [0, 2, 3], [6]⟩, ⟨[.op 1 0], _, [], [0, 1, 2, 3, 5], [7]⟩, ⟨[.op 4 0, .old 3], _, [9], Lr 7, [8]⟩]) (F := [.old 0, .old 1, .op 5 0, .op 6 0, .op 7 0]) (hst.pick [0, 1, 3, 4] rfl) hb Zb
                     (o_p rfl (Zck Zbh rfl rfl u_0) <| o_p rfl (Zf ty_4 rfl rfl u_0) <| o_p rfl (Zck Zbh rfl rfl u_0) <| o_p rfl (Zq Zms (Zfl _ h29) rfl rfl (.cons u_0 .nil)) <| o_p rfl (Z63 rfl rfl u_0) <| o_p rfl (Zba Zbh rfl rfl u_1 u_0) <| o_p rfl (Zc rfl rfl u_0) <| o_p rfl (Zba Zdn rfl rfl u_1 u_0) <| o_n) (by kernel_rfl) (fun a g hst hb => ?_)
                   refine wp_ret ?_
                   refine Z7 ?_
                   refine Zt ?_
                   obtain rfl := Option.some.inj H0
                   obtain ⟨u0, hu0, hq0⟩ := Zbl (P := Tryz.prog) Zbh (hst.at 2 rfl)
                   obtain ⟨u2, hu2, hq2⟩ := Zbl (P := Tryz.prog) Zdn (hst.at 4 rfl)
                   exact Zkk rfl hst hb hu0 (Zk (s := 7)) hu2 (Zib hq0 (hst.at 3 rfl) hq2)
                 · replace H0 := Z0 hc27 H0
                   obtain ⟨r30, h31, H0⟩ := Zg H0
                   refine r_s (L := [(3, _), (4, _), (5, _), (6, _), (8, _), (9, _)]) (T := [⟨[.old 2], _, [], [], [95]⟩, ⟨[.op 0 0], _, [], [0], [96]⟩, ⟨[.op 1 0], _, [], [0, 1], [97]⟩, ⟨[.old 0], _, [], [], [98]⟩, ⟨[.op 3 0], _, [], [3], [99]⟩, ⟨[.op 2 0, .op 4 0], _, [], Lr 5, [100]⟩, ⟨[.op 5 0], _, [], Lr 6, [94]⟩]) (F := [.old 0, .old 1, .old 2, .old 3, .old 4, .old 5, .op 6 0]) (hst.pick [0, 1, 2, 3, 4, 5] rfl) hb Zb
                     (o_p rfl (Ze Zg7 rfl rfl u_0) <| o_p rfl (Zf ty_3 rfl rfl u_0) <| o_p rfl (Zq Z91 (Z3c _ h31) rfl rfl (.cons u_0 .nil)) <| o_p rfl (Zbb Zgv (off := 0) (by kernel_rfl) rfl rfl u_0) <| o_p rfl (Zcm ty_3 rfl rfl u_0) <| o_p rfl (Zg9 rfl rfl u_0 u_1) <| o_p rfl (Zc rfl rfl u_0) <| o_n) (by kernel_rfl) (fun a g hst hb => ?_)
                   refine wp_cond_split (hst.bool 6 rfl) (fun hc32 => ?_) (fun hc32 => ?_)
                   · replace H0 := Zz hc32 H0
                     obtain ⟨r33, h34, H0⟩ := Zg H0
                     refine r_s (L := [(3, _), (4, _), (6, _), (8, _), (9, _)]) (T := [⟨[.old 4], _, [], [], [101]⟩, ⟨[.op 0 0, .old 0], [(102, (pTup [(Zh.pd r33.1), (Zbe r33.2.1), (Zn.pd r33.2.2.1)])), (3, (pBox Zh 3 r33.2.2.2))], [4], [0], [3, 9, 101, 102]⟩, ⟨[.op 1 0], _, [], [0, 1], [103]⟩, ⟨[.op 1 0], _, [], [0, 1], [104]⟩, ⟨[.op 1 0], _, [], [0, 1], [105]⟩, ⟨[.op 2 0, .old 2], _, [7], Lr 5, [6]⟩, ⟨[.op 3 0], _, [], Lr 6, [7]⟩, ⟨[.op 4 0, .old 3], _, [9], Lr 7, [8]⟩]) (F := [.op 1 1, .old 1, .op 5 0, .op 6 0, .op 7 0]) (hst.pick [0, 1, 3, 4, 5] rfl) hb Zb
                       (o_p rfl (Za rfl rfl u_0) <| o_p rfl (Zlw (Ps := [.val (pInt .i64 (5 : Int))]) (hs := []) (ks := [(3, none, 3)]) Ztw (Zin _ _ _ h34) rfl rfl rfl u_0 (.val c_i .nil) (.box u_1 rfl (.val .nil)) rfl rfl rfl rfl) <| o_p rfl (Z4 rfl rfl u_0 rfl) <| o_p rfl (Z4 rfl rfl u_0 rfl) <| o_p rfl (Z4 rfl rfl u_0 rfl) <| o_p rfl (Zba Zbh rfl rfl u_1 u_0) <| o_p rfl (Zc rfl rfl u_0) <| o_p rfl (Zba Zdn rfl rfl u_1 u_0) <| o_n) (by kernel_rfl) (fun a g hst hb => ?_)
                     refine wp_ret ?_
                     refine Z7 ?_
                     refine Zt ?_
                     obtain rfl := Option.some.inj H0
                     obtain ⟨u0, hu0, hq0⟩ := Zbl (P := Tryz.prog) Zbh (hst.at 2 rfl)
                     obtain ⟨u2, hu2, hq2⟩ := Zbl (P := Tryz.prog) Zdn (hst.at 4 rfl)
                     exact Zkk rfl hst hb hu0 (Zk (s := 7)) hu2 (Zib hq0 (hst.at 3 rfl) hq2)
                   · replace H0 := Z0 hc32 H0
                     refine wp_skip ?_
                     refine Zbp ?_
                     refine Zv ?_
                     obtain ⟨r35, h36, H0⟩ := Zg H0
                     refine r_s (L := [(3, _), (4, _), (5, _), (6, _), (8, _)]) (T := [⟨[.old 0], _, [], [], [106]⟩, ⟨[.op 0 0], _, [], [0], [107]⟩, ⟨[], [(12, (pBox Zh 12 (default : Zd)))], [13], [], [12]⟩, ⟨[.op 1 0, .op 2 0], _, [13], [0, 1, 2], [12]⟩]) (F := [.old 0, .old 1, .old 2, .old 3, .old 4, .op 3 0]) (hst.pick [0, 1, 2, 3, 4] rfl) hb Zb
                       (o_p rfl (Zck Zbh rfl rfl u_0) <| o_p rfl (Zq Zms (Zfl _ h36) rfl rfl (.cons u_0 .nil)) <| o_p rfl (Zbk (zs := [.int .i64 0, .int .i64 0, .int .i64 0, .int .i64 0, .float .f64 0, .int .i64 0, .string ByteArray.empty, .slice none 0 0]) (by kernel_rfl) (fun g => Zcd g) rfl rfl) <| o_p rfl (Zcb Zbh rfl rfl u_1 u_0) <| o_n) (by kernel_rfl) (fun a g hst hb => ?_)
                     refine r_s (T := [⟨[], [(13, (pBox Zn 13 (default : Zi)))], [14], [], [13]⟩]) (F := [.old 0, .old 1, .old 2, .old 3, .old 4, .old 5, .op 0 0]) hst hb Zb
                       (o_p rfl (Zbk (zs := [.int .i64 0, .int .i64 0, .int .i64 0, .int .i64 0, .int .i64 0, .int .i64 0, .float .f64 0, .int .i64 0, .string ByteArray.empty, .slice none 0 0]) (by kernel_rfl) (fun g => Zh5 g) rfl rfl) <| o_n) (by kernel_rfl) (fun a g hst hb => ?_)
                     refine wp_seq ?_
                     obtain ⟨h37, H0⟩ := Zhi H0; obtain ⟨r38, h39, H0⟩ := Zg H0
                     refine r_s (T := [⟨[], _, [], [], [108]⟩, ⟨[.old 2], _, [], [], [109]⟩, ⟨[.op 1 0], _, [], [1], [110]⟩, ⟨[.op 0 0, .op 2 0], [(111, (pFun Tryz.prog (Phi a2.Kind)))], [], [0, 1, 2], [111]⟩, ⟨[.old 2], _, [], [], [112]⟩, ⟨[.op 3 0, .old 0, .op 4 0, .old 6], [(113, (pInt .i64 r38.1)), (3, (pBox Zh 3 r38.2.1)), (13, (pBox Zn 13 r38.2.2))], [4, 14], Lr 5, [3, 13, 113]⟩, ⟨[.op 5 0], _, [], Lr 6, [14]⟩]) (F := [.op 5 1, .old 1, .old 3, .old 4, .old 5, .op 5 2, .op 6 0]) hst hb Zb
                       (o_p rfl (Zq Zbaa Zuc rfl rfl .nil) <| o_p rfl (Ze Zg7 rfl rfl u_0) <| o_p rfl (Zf ty_3 rfl rfl u_0) <| o_p rfl (Zzp Tryz.underlying157 (by kernel_rfl) ⟨_, Tryz.underlying156, rfl⟩ (by have := h37; omega) (Z71 h37) (by have := h37; omega) rfl rfl u_0 u_1) <| o_p rfl (Zf Zh2 rfl rfl u_0) <| o_p rfl (Z1h (hs := [(3, none, 3), (13, none, 13)]) (Z6b h39) rfl rfl rfl u_0 (.box u_1 u_1 rfl (.val u_2 (.box u_3 u_3 rfl .nil))) rfl rfl rfl) <| o_p rfl (Zc rfl rfl u_0) <| o_n) (by kernel_rfl) (fun a g hst hb => ?_)
                     refine r_s (T := [⟨[.old 6], _, [], [], [114]⟩, ⟨[.op 0 0], _, [], [0], [115]⟩]) (F := [.old 0, .old 1, .old 2, .old 3, .old 4, .old 5, .old 6, .op 1 0]) hst hb Zb
                       (o_p rfl (Za rfl rfl u_0) <| o_p rfl (Zg9 rfl rfl u_0 c_i) <| o_n) (by kernel_rfl) (fun a g hst hb => ?_)
                     refine wp_cond_split (hst.bool 7 rfl) (fun hc40 => ?_) (fun hc40 => ?_)
                     · replace H0 := Zz hc40 H0
                       refine r_s (L := [(3, _), (4, _), (6, _), (8, _), (12, _), (14, _)]) (T := [⟨[.old 4], _, [], [], [116]⟩, ⟨[.old 1], _, [], [], [117]⟩, ⟨[.old 5], _, [], [], [118]⟩, ⟨[.op 2 0], _, [], [2], [119]⟩, ⟨[.op 0 0, .old 2], _, [7], [0], [6]⟩, ⟨[.op 1 0], _, [], [0, 1, 4], [7]⟩, ⟨[.op 3 0, .old 3], _, [9], Lr 6, [8]⟩]) (F := [.old 0, .old 1, .op 4 0, .op 5 0, .op 6 0]) (hst.pick [0, 1, 2, 3, 4, 6] rfl) hb Zb
                         (o_p rfl (Zf Zbh rfl rfl u_0) <| o_p rfl (Zf ty_4 rfl rfl u_0) <| o_p rfl (Za rfl rfl u_0) <| o_p rfl (Zu7 rfl rfl u_0) <| o_p rfl (Zba Zbh rfl rfl u_1 u_0) <| o_p rfl (Zc rfl rfl u_0) <| o_p rfl (Zba Zdn rfl rfl u_1 u_0) <| o_n) (by kernel_rfl) (fun a g hst hb => ?_)
                       refine wp_ret ?_
                       refine Zt ?_
                       obtain rfl := Option.some.inj H0
                       obtain ⟨u0, hu0, hq0⟩ := Zbl (P := Tryz.prog) Zbh (hst.at 2 rfl)
                       obtain ⟨u2, hu2, hq2⟩ := Zbl (P := Tryz.prog) Zdn (hst.at 4 rfl)
                       exact Zkk rfl hst hb hu0 (Zk (s := 7)) hu2 (Zib hq0 (hst.at 3 rfl) hq2)
                     · replace H0 := Z0 hc40 H0
                       refine wp_skip ?_
                       refine Zv ?_
                       refine r_s (L := [(3, _), (4, _), (6, _), (8, _), (13, _)]) (T := [⟨[.old 0], _, [], [], [120]⟩, ⟨[.old 1], _, [], [], [121]⟩, ⟨[.old 4], _, [], [], [122]⟩, ⟨[.op 0 0, .old 2], _, [7], [0], [6]⟩, ⟨[.op 1 0], _, [], [0, 1, 3], [7]⟩, ⟨[.op 2 0, .old 3], _, [9], Lr 5, [8]⟩]) (F := [.old 0, .old 1, .op 3 0, .op 4 0, .op 5 0]) (hst.pick [0, 1, 2, 3, 5] rfl) hb Zb
                         (o_p rfl (Zck Zbh rfl rfl u_0) <| o_p rfl (Zf ty_4 rfl rfl u_0) <| o_p rfl (Zck Zdn rfl rfl u_0) <| o_p rfl (Zba Zbh rfl rfl u_1 u_0) <| o_p rfl (Zc rfl rfl u_0) <| o_p rfl (Zba Zdn rfl rfl u_1 u_0) <| o_n) (by kernel_rfl) (fun a g hst hb => ?_)
                       refine wp_ret ?_
                       obtain rfl := Option.some.inj H0
                       obtain ⟨u0, hu0, hq0⟩ := Zbl (P := Tryz.prog) Zbh (hst.at 2 rfl)
                       obtain ⟨u2, hu2, hq2⟩ := Zbl (P := Tryz.prog) Zdn (hst.at 4 rfl)
                       exact Zkk rfl hst hb hu0 (Zk (s := 7)) hu2 (Zib hq0 (hst.at 3 rfl) hq2)
     · refine wp_cond_split (hst.bool 6 rfl) (fun hc10 => ?_) (fun hc10 => ?_)
       · replace H0 := Zz hc10 H0
         obtain ⟨r11, h12, H0⟩ := Zg H0
         refine r_s (L := [(3, _), (4, _), (5, _), (6, _), (8, _), (9, _)]) (T := [⟨[.old 0], _, [], [], [32]⟩, ⟨[.op 0 0], _, [], [0], [33]⟩, ⟨[.op 1 0], _, [], [0, 1], [11]⟩]) (F := [.old 0, .old 1, .old 2, .old 3, .old 4, .old 5, .op 2 0]) (hst.pick [0, 1, 2, 3, 4, 5] rfl) hb Zb
           (o_p rfl (Zck Zbh rfl rfl u_0) <| o_p rfl (Zq Z0v (Zn1 _ h12) rfl rfl (.cons u_0 .nil)) <| o_p rfl (Zc rfl rfl u_0) <| o_n) (by kernel_rfl) (fun a g hst hb => ?_)
         refine r_s (T := [⟨[.old 6], _, [], [], [34]⟩, ⟨[.op 0 0], _, [], [0], [35]⟩]) (F := [.old 0, .old 1, .old 2, .old 3, .old 4, .old 5, .old 6, .op 1 0]) hst hb Zb
           (o_p rfl (Za rfl rfl u_0) <| o_p rfl (Zg9 rfl rfl u_0 c_i) <| o_n) (by kernel_rfl) (fun a g hst hb => ?_)
         refine wp_cond_split (hst.bool 7 rfl) (fun hc13 => ?_) (fun hc13 => ?_)
         · replace H0 := Zz hc13 H0
           obtain ⟨r14, h15, H0⟩ := Zg H0
           refine r_s (L := [(3, _), (4, _), (6, _), (8, _), (9, _), (11, _)]) (T := [⟨[.old 4], _, [], [], [36]⟩, ⟨[.old 5], _, [], [], [37]⟩, ⟨[.op 0 0, .op 1 0, .old 0], [(38, (pTup [(Zh.pd r14.1), (Zbe r14.2.1), (Zn.pd r14.2.2.1)])), (3, (pBox Zh 3 r14.2.2.2))], [4], [0, 1], [3, 9, 36, 38]⟩, ⟨[.op 2 0], _, [], [0, 1, 2], [39]⟩, ⟨[.op 2 0], _, [], [0, 1, 2], [40]⟩, ⟨[.op 2 0], _, [], [0, 1, 2], [41]⟩, ⟨[.op 3 0, .old 2], _, [7], Lr 6, [6]⟩, ⟨[.op 4 0], _, [], Lr 7, [7]⟩, ⟨[.op 5 0, .old 3], _, [9], Lr 8, [8]⟩]) (F := [.op 2 1, .old 1, .op 6 0, .op 7 0, .op 8 0]) (hst.pick [0, 1, 3, 4, 5, 6] rfl) hb Zb
             (o_p rfl (Za rfl rfl u_0) <| o_p rfl (Za rfl rfl u_0) <| o_p rfl (Zlw (Ps := [.val (pInt .i64 r11)]) (hs := []) (ks := [(3, none, 3)]) Ztw (Zin _ _ _ h15) rfl rfl rfl u_0 (.val u_1 .nil) (.box u_2 rfl (.val .nil)) rfl rfl rfl rfl) <| o_p rfl (Z4 rfl rfl u_0 rfl) <| o_p rfl (Z4 rfl rfl u_0 rfl) <| o_p rfl (Z4 rfl rfl u_0 rfl) <| o_p rfl (Zba Zbh rfl rfl u_1 u_0) <| o_p rfl (Zc rfl rfl u_0) <| o_p rfl (Zba Zdn rfl rfl u_1 u_0) <| o_n) (by kernel_rfl) (fun a g hst hb => ?_)
           refine wp_ret ?_
           refine Zt ?_
           refine Zt ?_
           obtain rfl := Option.some.inj H0
           obtain ⟨u0, hu0, hq0⟩ := Zbl (P := Tryz.prog) Zbh (hst.at 2 rfl)
           obtain ⟨u2, hu2, hq2⟩ := Zbl (P := Tryz.prog) Zdn (hst.at 4 rfl)
           exact Zkk rfl hst hb hu0 (Zk (s := 7)) hu2 (Zib hq0 (hst.at 3 rfl) hq2)
         · replace H0 := Z0 hc13 H0
           refine wp_skip ?_
           exact ⟨g, rfl, (hst.pick [0, 1, 2, 3, 4, 5] rfl), hb, H0⟩
       · replace H0 := Z0 hc10 H0
         refine wp_skip ?_
         exact ⟨g, rfl, (hst.pick [0, 1, 2, 3, 4, 5] rfl), hb, H0⟩
 · refine wp_cond_split (hst.bool 5 rfl) (fun hc1 => ?_) (fun hc1 => ?_)
   · replace H0 := Zz hc1 H0
     refine r_g (L := [(3, _), (4, _), (5, _), (6, _), (8, _)]) (T := [⟨[], _, [], [], [17]⟩, ⟨[.op 0 0, .old 0], _, [4], [0], [3]⟩]) (F := [.op 1 0, .old 1, .old 2, .old 3, .old 4]) (hst.pick [0, 1, 2, 3, 4] rfl) hb Zb
       (o_p rfl (Zq9 rfl rfl ) <| o_p rfl (Zba Zbh rfl rfl u_1 u_0) <| o_n) (by kernel_rfl) (fun a g hst hb => ?_)
     exact ⟨({ Kind := (0 : Int), Num := (0 : Int), Low := (0 : Int), High := (0 : Int), Real := (0 : Nat), Cap := (0 : Int), Text := ByteArray.empty, List := ([] : List Zj) } : Zd), g, rfl, (hst.pick [0, 1, 2, 3, 4] rfl), hb, H0⟩
   · replace H0 := Z0 hc1 H0
     refine wp_skip ?_
     exact ⟨a0, g, rfl, (hst.pick [0, 1, 2, 3, 4] rfl), hb, H0⟩
theorem Zy9 (a0 : Zl) (a1 : Zs) {r : Zl × Zi} (h : Zny a0 a1 = some r) : FnOk Tryz.prog 44 [(Zw.pd a0), (Zy.pd a1)] (pTup [(Zw.pd r.1), (Zn.pd r.2)]) := by
 have H0 := h
 unfold Zny at H0
 clear h
 refine Zbv (N := 66) Tryz.func44 rfl rfl (Nat.le_of_ble_eq_true rfl) rfl rfl (fun a g0 hst hb => ?_)
 refine r_s (T := [⟨[.old 0], _, [3], [], [2]⟩, ⟨[.old 1], _, [], [], [3]⟩, ⟨[], [(4, (pBox Zw 4 (default : Zl)))], [5], [], [4]⟩, ⟨[], [(5, (pBox Zn 5 (default : Zi)))], [6], [], [5]⟩]) (F := [.op 0 0, .op 1 0, .op 2 0, .op 3 0]) hst hb Zb
   (o_p rfl (Zmn rfl rfl u_0) <| o_p rfl (Zbr rfl rfl u_0) <| o_p rfl (Zbk (zs := [.pointer none, .int .i64 0]) (by kernel_rfl) (fun g => Zdq g) rfl rfl) <| o_p rfl (Zbk (zs := [.int .i64 0, .int .i64 0, .int .i64 0, .int .i64 0, .int .i64 0, .int .i64 0, .float .f64 0, .int .i64 0, .string ByteArray.empty, .slice none 0 0]) (by kernel_rfl) (fun g => Zh5 g) rfl rfl) <| o_n) (by kernel_rfl) (fun a g hst hb => ?_)
 obtain ⟨r1, h2, H0⟩ := Zg H0
 refine r_s (T := [⟨[.old 0], _, [], [], [14]⟩, ⟨[.old 1], _, [], [], [15]⟩, ⟨[.op 1 0], _, [], [1], [16]⟩, ⟨[.op 0 0, .op 2 0], _, [], [0, 1, 2], [17]⟩, ⟨[.op 3 0], _, [], Lr 4, [13]⟩, ⟨[.op 4 0], _, [], Lr 5, [18]⟩, ⟨[.op 4 0], _, [], Lr 5, [19]⟩, ⟨[], [(6, (pBox Zh 6 (default : Zd)))], [7], [], [6]⟩, ⟨[.op 5 0, .op 7 0], _, [7], [0, 1, 2, 3, 4, 5, 7], [6]⟩, ⟨[.op 6 0], _, [], Lr 9, [7]⟩]) (F := [.old 0, .old 1, .old 2, .old 3, .op 8 0, .op 9 0]) hst hb Zb
   (o_p rfl (Zck Zbn rfl rfl u_0) <| o_p rfl (Ze Zjw rfl rfl u_0) <| o_p rfl (Zf ty_9 rfl rfl u_0) <| o_p rfl (Zq Zrv (Zfv _ _ h2) rfl rfl (.cons u_0 (.cons u_1 .nil))) <| o_p rfl (Za rfl rfl u_0) <| o_p rfl (Z4 rfl rfl u_0 rfl) <| o_p rfl (Z4 rfl rfl u_0 rfl) <| o_p rfl (Zbk (zs := [.int .i64 0, .int .i64 0, .int .i64 0, .int .i64 0, .float .f64 0, .int .i64 0, .string ByteArray.empty, .slice none 0 0]) (by kernel_rfl) (fun g => Zcd g) rfl rfl) <| o_p rfl (Zcb Zbh rfl rfl u_1 u_0) <| o_p rfl (Zc rfl rfl u_0) <| o_n) (by kernel_rfl) (fun a g hst hb => ?_)
 obtain ⟨r3, h4, H0⟩ := Zg H0
 refine r_s (T := ⟨[.old 4], _, [], [], [21]⟩ :: ⟨[.old 5], _, [], [], [22]⟩ :: ⟨[.old 1], _, [], [], [23]⟩ :: ⟨[.op 0 0, .op 1 0, .op 2 0], _, [], [0, 1, 2], [24]⟩ :: ⟨[.op 3 0], _, [], Lr 4, [20]⟩ :: ⟨[.op 4 0], _, [], Lr 5, [25]⟩ :: ⟨[.op 4 0], _, [], Lr 5, [26]⟩ :: ⟨[.op 4 0], _, [], Lr 5, [27]⟩ :: ⟨[], [(8, (pBox Zh 8 (default : Zd)))], [9], [], [8]⟩ :: ⟨[], [(10, (pBox Zn 10 (default : Zi)))], [11], [], [10]⟩ :: ⟨[.op 5 0, .op 8 0], _, [9], [0, 1, 2, 3, 4, 5, 8, 9], [8]⟩ :: ⟨[.op 6 0], _, [], [0, 1, 2, 3, 4, 5, 6, 8, 9, 10], [9]⟩ :: ⟨[.op 7 0, .op 9 0], _, [11], Lr 12, [10]⟩ :: []) (F := [.old 0, .old 1, .old 2, .old 3, .op 10 0, .op 11 0, .op 12 0]) hst hb Zb
   (o_p rfl (Zf Zbh rfl rfl u_0) <| o_p rfl (Za rfl rfl u_0) <| o_p rfl (Zf Zh2 rfl rfl u_0) <| o_p rfl (Zq Zbad (Zwi _ _ _ h4) rfl rfl (.cons u_0 (.cons u_1 (.cons u_2 .nil)))) <| o_p rfl (Za rfl rfl u_0) <| o_p rfl (Z4 rfl rfl u_0 rfl) <| o_p rfl (Z4 rfl rfl u_0 rfl) <| o_p rfl (Z4 rfl rfl u_0 rfl) <| o_p rfl (Zbk (zs := [.int .i64 0, .int .i64 0, .int .i64 0, .int .i64 0, .float .f64 0, .int .i64 0, .string ByteArray.empty, .slice none 0 0]) (by kernel_rfl) (fun g => Zcd g) rfl rfl) <| o_p rfl (Zbk (zs := [.int .i64 0, .int .i64 0, .int .i64 0, .int .i64 0, .int .i64 0, .int .i64 0, .float .f64 0, .int .i64 0, .string ByteArray.empty, .slice none 0 0]) (by kernel_rfl) (fun g => Zh5 g) rfl rfl) <| o_p rfl (Zcb Zbh rfl rfl u_1 u_0) <| o_p rfl (Zc rfl rfl u_0) <| o_p rfl (Zcb Zdn rfl rfl u_1 u_0) <| o_n) (by kernel_rfl) (fun a g hst hb => ?_)
 refine wp_seq ?_
 refine wp_block ?_
 obtain ⟨r5, h6, H0⟩ := Zg H0
 refine r_s (T := [⟨[.old 6], _, [], [], [29]⟩, ⟨[.op 0 0], _, [], [0], [30]⟩, ⟨[.op 1 0], _, [], [0, 1], [31]⟩, ⟨[.op 2 0], _, [], [0, 1, 2], [32]⟩, ⟨[.op 3 0, .old 1], _, [], Lr 4, [33]⟩, ⟨[.op 3 0, .op 4 0], _, [], Lr 5, [34]⟩, ⟨[.op 3 0, .op 5 0], _, [], Lr 6, [35]⟩, ⟨[.op 3 0, .op 6 0], _, [], Lr 7, [36]⟩, ⟨[.op 7 0], _, [], Lr 8, [28]⟩]) (F := [.old 0, .old 1, .old 2, .old 3, .old 4, .old 5, .old 6, .op 8 0]) hst hb Zb
   (o_p rfl (Ze Zur rfl rfl u_0) <| o_p rfl (Zf Zt4 rfl rfl u_0) <| o_p rfl (Zg9 rfl rfl u_0 c_i) <| o_p rfl (Za rfl rfl u_0) <| o_g (g_f rfl rfl rfl (fun hG => Ze Zg7 rfl rfl u_0)) <| o_g (g_f rfl rfl rfl (fun hG => Zf ty_3 rfl rfl (Opd.gd hG u_0))) <| o_g (g_f rfl rfl rfl (fun hG => Zq Z0t (Zoh _ (Zbq h6 hG)) rfl rfl (.cons (Opd.gd hG u_0) .nil))) <| o_p rfl (Zbu rfl rfl u_0 (fun hz => (Opd.gd (bNF hz) u_1))) <| o_p rfl (Zc rfl rfl u_0) <| o_n) (by kernel_rfl) (fun a g hst hb => ?_)
 refine wp_cond_split (hst.bool 7 rfl) (fun hc7 => ?_) (fun hc7 => ?_)
 · replace H0 := Zz hc7 H0
   refine r_s (L := [(2, _), (4, _), (5, _), (10, _)]) (T := [⟨[.old 0], _, [], [], [37]⟩, ⟨[.old 3], _, [], [], [38]⟩, ⟨[.op 0 0, .old 1], _, [5], [0], [4]⟩, ⟨[.op 1 0, .old 2], _, [6], [0, 1, 2], [5]⟩]) (F := [.op 2 0, .op 3 0]) (hst.pick [0, 2, 3, 6] rfl) hb Zb
     (o_p rfl (Zck Zbn rfl rfl u_0) <| o_p rfl (Zf Zdn rfl rfl u_0) <| o_p rfl (Zba Zbn rfl rfl u_1 u_0) <| o_p rfl (Zba Zdn rfl rfl u_1 u_0) <| o_n) (by kernel_rfl) (fun a g hst hb => ?_)
   refine wp_ret ?_
   refine Z7 ?_
   refine Zt ?_
   obtain rfl := Option.some.inj H0
   obtain ⟨u0, hu0, hq0⟩ := Zbl (P := Tryz.prog) Zbn (hst.at 0 rfl)
   obtain ⟨u1, hu1, hq1⟩ := Zbl (P := Tryz.prog) Zdn (hst.at 1 rfl)
   exact Zfh rfl hst hb hu0 hu1 (Zdx hq0 hq1)
 · replace H0 := Z0 hc7 H0
   refine r_s (L := [(2, _), (3, _), (4, _), (5, _), (8, _), (9, _), (10, _)]) (T := [⟨[.old 5], _, [], [], [40]⟩, ⟨[.op 0 0], _, [], [0], [41]⟩, ⟨[.op 1 0], _, [], [0, 1], [39]⟩]) (F := [.old 0, .old 1, .old 2, .old 3, .old 4, .old 6, .op 2 0]) (hst.pick [0, 1, 2, 3, 4, 5, 6] rfl) hb Zb
     (o_p rfl (Za rfl rfl u_0) <| o_p rfl (Zcg rfl rfl u_0) <| o_p rfl (Zc rfl rfl u_0) <| o_n) (by kernel_rfl) (fun a g hst hb => ?_)
   refine wp_cond_split (hst.bool 6 rfl) (fun hc8 => ?_) (fun hc8 => ?_)
   · replace H0 := Zz hc8 H0
     obtain ⟨r9, h10, H0⟩ := Zg H0
     refine r_s (L := [(2, _), (3, _), (4, _), (5, _), (10, _)]) (T := [⟨[.old 0], _, [], [], [43]⟩, ⟨[.old 1], _, [], [], [44]⟩, ⟨[.op 1 0], _, [], [1], [45]⟩, ⟨[.op 0 0, .op 2 0], _, [], [0, 1, 2], [46]⟩, ⟨[.op 3 0], _, [], Lr 4, [42]⟩, ⟨[.op 4 0], _, [], Lr 5, [47]⟩, ⟨[.op 4 0], _, [], Lr 5, [48]⟩, ⟨[.op 5 0, .old 0], _, [3], Lr 6, [2]⟩]) (F := [.op 7 0, .old 2, .old 3, .old 4]) (hst.pick [0, 1, 2, 3, 5] rfl) hb Zb
       (o_p rfl (Zck Zbn rfl rfl u_0) <| o_p rfl (Ze Zjw rfl rfl u_0) <| o_p rfl (Zf ty_9 rfl rfl u_0) <| o_p rfl (Zq Z5b (Zm3 _ _ h10) rfl rfl (.cons u_0 (.cons u_1 .nil))) <| o_p rfl (Za rfl rfl u_0) <| o_p rfl (Z4 rfl rfl u_0 rfl) <| o_p rfl (Z4 rfl rfl u_0 rfl) <| o_p rfl (Zba Zbn rfl rfl u_1 u_0) <| o_n) (by kernel_rfl) (fun a g hst hb => ?_)
     refine r_s (T := [⟨[.old 0], _, [], [], [49]⟩, ⟨[.old 3], _, [], [], [50]⟩, ⟨[.op 0 0, .old 1], _, [5], [0], [4]⟩, ⟨[.op 1 0, .old 2], _, [6], [0, 1, 2], [5]⟩]) (F := [.op 2 0, .op 3 0]) hst hb Zb
       (o_p rfl (Zck Zbn rfl rfl u_0) <| o_p rfl (Zf Zdn rfl rfl u_0) <| o_p rfl (Zba Zbn rfl rfl u_1 u_0) <| o_p rfl (Zba Zdn rfl rfl u_1 u_0) <| o_n) (by kernel_rfl) (fun a g hst hb => ?_)
     refine wp_ret ?_
     refine Z7 ?_
     refine Zt ?_
     obtain rfl := Option.some.inj H0
     obtain ⟨u0, hu0, hq0⟩ := Zbl (P := Tryz.prog) Zbn (hst.at 0 rfl)
     obtain ⟨u1, hu1, hq1⟩ := Zbl (P := Tryz.prog) Zdn (hst.at 1 rfl)
     exact Zfh rfl hst hb hu0 hu1 (Zdx hq0 hq1)
   · replace H0 := Z0 hc8 H0
     refine wp_skip ?_
     refine Zbp ?_
     refine Zv ?_
     obtain ⟨r11, h12, H0⟩ := Zg H0
     refine r_s (L := [(2, _), (3, _), (4, _), (5, _), (8, _), (10, _)]) (T := [⟨[.old 0], _, [], [], [52]⟩, ⟨[.old 1], _, [], [], [53]⟩, ⟨[.op 1 0], _, [], [1], [54]⟩, ⟨[.old 4], _, [], [], [55]⟩, ⟨[.op 0 0, .op 2 0, .op 3 0], _, [], Lr 4, [56]⟩, ⟨[.op 4 0], _, [], Lr 5, [51]⟩, ⟨[.op 5 0], _, [], Lr 6, [57]⟩, ⟨[.op 5 0], _, [], Lr 6, [58]⟩, ⟨[], [(11, (pBox Zw 11 (default : Zl)))], [12], [], [11]⟩, ⟨[.op 6 0, .op 8 0], _, [12], [0, 1, 2, 3, 4, 5, 6, 8], [11]⟩, ⟨[.op 7 0], _, [], Lr 10, [12]⟩]) (F := [.old 0, .old 2, .old 3, .old 5, .op 9 0, .op 10 0]) (hst.pick [0, 1, 2, 3, 4, 5] rfl) hb Zb
       (o_p rfl (Zck Zbn rfl rfl u_0) <| o_p rfl (Ze Zjw rfl rfl u_0) <| o_p rfl (Zf ty_9 rfl rfl u_0) <| o_p rfl (Zf Zbh rfl rfl u_0) <| o_p rfl (Zq Zw2 (Zit _ _ _ h12) rfl rfl (.cons u_0 (.cons u_1 (.cons u_2 .nil)))) <| o_p rfl (Za rfl rfl u_0) <| o_p rfl (Z4 rfl rfl u_0 rfl) <| o_p rfl (Z4 rfl rfl u_0 rfl) <| o_p rfl (Zbk (zs := [.pointer none, .int .i64 0]) (by kernel_rfl) (fun g => Zdq g) rfl rfl) <| o_p rfl (Zcb Zbn rfl rfl u_1 u_0) <| o_p rfl (Zc rfl rfl u_0) <| o_n) (by kernel_rfl) (fun a g hst hb => ?_)
     refine wp_seq ?_
     refine r_s (T := [⟨[.old 5], _, [], [], [59]⟩, ⟨[.op 0 0], _, [], [0], [60]⟩]) (F := [.old 0, .old 1, .old 2, .old 3, .old 4, .old 5, .op 1 0]) hst hb Zb
       (o_p rfl (Za rfl rfl u_0) <| o_p rfl (Zg9 rfl rfl u_0 c_i) <| o_n) (by kernel_rfl) (fun a g hst hb => ?_)
     refine wp_cond_split (hst.bool 6 rfl) (fun hc13 => ?_) (fun hc13 => ?_)
     · replace H0 := Zz hc13 H0
       refine r_s (L := [(2, _), (4, _), (5, _), (12, _)]) (T := [⟨[.old 0], _, [], [], [61]⟩, ⟨[.old 3], _, [], [], [62]⟩, ⟨[.op 1 0], _, [], [1], [63]⟩, ⟨[.op 0 0, .old 1], _, [5], [0], [4]⟩, ⟨[.op 2 0, .old 2], _, [6], Lr 4, [5]⟩]) (F := [.op 3 0, .op 4 0]) (hst.pick [0, 1, 2, 5] rfl) hb Zb
         (o_p rfl (Zck Zbn rfl rfl u_0) <| o_p rfl (Za rfl rfl u_0) <| o_p rfl (Zu7 rfl rfl u_0) <| o_p rfl (Zba Zbn rfl rfl u_1 u_0) <| o_p rfl (Zba Zdn rfl rfl u_1 u_0) <| o_n) (by kernel_rfl) (fun a g hst hb => ?_)
       refine wp_ret ?_
       refine Zt ?_
       obtain rfl := Option.some.inj H0
       obtain ⟨u0, hu0, hq0⟩ := Zbl (P := Tryz.prog) Zbn (hst.at 0 rfl)
       obtain ⟨u1, hu1, hq1⟩ := Zbl (P := Tryz.prog) Zdn (hst.at 1 rfl)
       exact Zfh rfl hst hb hu0 hu1 (Zdx hq0 hq1)
     · replace H0 := Z0 hc13 H0
       refine wp_skip ?_
       refine Zv ?_
       refine r_s (L := [(4, _), (5, _), (10, _), (11, _)]) (T := [⟨[.old 3], _, [], [], [64]⟩, ⟨[.old 2], _, [], [], [65]⟩, ⟨[.op 0 0, .old 0], _, [5], [0], [4]⟩, ⟨[.op 1 0, .old 1], _, [6], [0, 1, 2], [5]⟩]) (F := [.op 2 0, .op 3 0]) (hst.pick [1, 2, 3, 4] rfl) hb Zb
         (o_p rfl (Zf Zbn rfl rfl u_0) <| o_p rfl (Zf Zdn rfl rfl u_0) <| o_p rfl (Zba Zbn rfl rfl u_1 u_0) <| o_p rfl (Zba Zdn rfl rfl u_1 u_0) <| o_n) (by kernel_rfl) (fun a g hst hb => ?_)
       refine wp_ret ?_
       obtain rfl := Option.some.inj H0
       obtain ⟨u0, hu0, hq0⟩ := Zbl (P := Tryz.prog) Zbn (hst.at 0 rfl)
       obtain ⟨u1, hu1, hq1⟩ := Zbl (P := Tryz.prog) Zdn (hst.at 1 rfl)
       exact Zfh rfl hst hb hu0 hu1 (Zdx hq0 hq1)
end Go.CL
