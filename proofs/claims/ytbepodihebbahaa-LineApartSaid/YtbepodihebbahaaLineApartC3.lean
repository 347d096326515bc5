/- A part of the proof of LineApart. -/
import Derived.Test.YtbepodihebbahaaLineApartC2
import Derived.Laws.Strings
import Derived.Test.YtbepodihebbahaaRows
set_option linter.unusedVariables false
set_option linter.unusedSimpArgs false
set_option maxRecDepth 100000
namespace Go.CL
open Go Go.RowKit Go.Proofs
theorem Zf1 {r : Bool} (h : Zdg = some r) : FnOk Try.prog 7 [] (Zo r) := by
 have H0 := h
 unfold Zdg at H0
 clear h
 refine Zb1 (N := 70) Try.func7 rfl rfl (Nat.le_of_ble_eq_true rfl) rfl rfl (fun a g0 hst hb => ?_)
 refine r_s (T := [⟨[], _, [], [], [0]⟩]) (F := []) hst hb Zb
   (o_p rfl (Zc rfl rfl c_b) <| o_n) (by kernel_rfl) (fun a g hst hb => ?_)
 refine r_s (T := [⟨[], _, [], [], [4]⟩, ⟨[.op 0 0], _, [], [0], [5]⟩, ⟨[.op 1 0], _, [], [0, 1], [6]⟩, ⟨[], [(1, (pBox Zf 1 (default : Ze)))], [2], [], [1]⟩, ⟨[.op 2 0, .op 3 0], _, [2], Lr 4, [1]⟩]) (F := [.op 4 0]) hst hb Zb
   (o_p rfl (Zjj rfl rfl c_i c_s c_i) <| o_p rfl (Zee Zn6 (xs := [.tmp 4]) (.cons u_0 .nil) (by decide) rfl rfl) <| o_p rfl (Zm2 rfl rfl u_0) <| o_p rfl (Zd6 (zs := [.slice none 0 0]) (by kernel_rfl) (fun g => Zg9 g) rfl rfl) <| o_p rfl (Zdq Zdl rfl rfl u_1 u_0) <| o_n) (by kernel_rfl) (fun a g hst hb => ?_)
 obtain ⟨r1, h2, H0⟩ := Zd H0
 refine r_s (T := [⟨[.old 0], _, [], [], [7]⟩, ⟨[.old 0], _, [], [], [8]⟩, ⟨[.op 0 0, .op 1 0], _, [], [0, 1], [9]⟩, ⟨[], _, [], [], [10]⟩, ⟨[.op 2 0, .op 3 0], [(11, (pObj Zx 11 r1))], [12, 1000012], Lr 4, [11]⟩, ⟨[.op 4 0], [(2, (pObj Zx 11 r1))], [], Lr 5, [2]⟩]) (F := [.old 0, .op 5 0]) hst hb Zb
   (o_p rfl (Zg Zdl rfl rfl u_0) <| o_p rfl (Zg Zdl rfl rfl u_0) <| o_p rfl (Zee Zl8 (xs := [.tmp 7, .tmp 8]) (.cons u_0 (.cons u_1 .nil)) (by decide) rfl rfl) <| o_p rfl (Zee Zdm (xs := [.const (.int .i64 0), .const (.int .i64 1)]) (.cons c_i (.cons c_i .nil)) (by decide) rfl rfl) <| o_p rfl (Zf3 Zkl (Zft _ _ _ h2) rfl rfl (.cons u_0 (.cons u_1 (.cons (Opd.c (fun g => Zfi g)) .nil)))) <| o_p rfl (Zc rfl rfl u_0) <| o_n) (by kernel_rfl) (fun a g hst hb => ?_)
 obtain ⟨r3, h4, H0⟩ := Zd H0
 refine r_s (T := [⟨[.old 0], _, [], [], [12]⟩, ⟨[.old 0], _, [], [], [13]⟩, ⟨[.op 0 0, .op 1 0], _, [], [0, 1], [14]⟩, ⟨[], _, [], [], [15]⟩, ⟨[], _, [], [], [16]⟩, ⟨[.op 2 0, .op 3 0, .op 4 0], [(17, (pObj Zx 17 r3))], [18, 1000018], Lr 5, [17]⟩, ⟨[.op 5 0], [(3, (pObj Zx 17 r3))], [], Lr 6, [3]⟩]) (F := [.old 1, .op 6 0]) hst hb Zb
   (o_p rfl (Zg Zdl rfl rfl u_0) <| o_p rfl (Zg Zdl rfl rfl u_0) <| o_p rfl (Zee Zl8 (xs := [.tmp 12, .tmp 13]) (.cons u_0 (.cons u_1 .nil)) (by decide) rfl rfl) <| o_p rfl (Zee Zdm (xs := [.const (.int .i64 0), .const (.int .i64 1)]) (.cons c_i (.cons c_i .nil)) (by decide) rfl rfl) <| o_p rfl (Zee Zno (xs := [.const (.string ⟨#[97]⟩)]) (.cons c_s .nil) (by decide) rfl rfl) <| o_p rfl (Zf3 Zkl (Zft _ _ _ h4) rfl rfl (.cons u_0 (.cons u_1 (.cons u_2 .nil)))) <| o_p rfl (Zc rfl rfl u_0) <| o_n) (by kernel_rfl) (fun a g hst hb => ?_)
 refine wp_seq ?_
 obtain ⟨r5, h6, H0⟩ := Zd H0
 refine r_s (T := [⟨[.old 0], [(18, (pObj Zx 11 r1))], [], [], [18]⟩, ⟨[.op 0 0], _, [], [0], [19]⟩, ⟨[.op 1 0], _, [], [0, 1], [20]⟩, ⟨[.op 2 0, .old 1], [(21, (pIf (!false) (pObj Zx 17 r3)))], [], [0, 1, 2], [21]⟩, ⟨[.op 2 0, .op 3 0], _, [], Lr 4, [22]⟩, ⟨[.op 2 0, .op 4 0], _, [], Lr 5, [23]⟩, ⟨[.op 5 0], _, [], Lr 6, [24]⟩, ⟨[.op 6 0, .old 0], [(25, (pIf (!(false || false)) (pObj Zx 11 r1)))], [], Lr 7, [25]⟩, ⟨[.op 6 0, .op 7 0, .old 0], [(26, (pIf (!(false || false)) (pInt .i64 r5))), (2, (pObj Zx 11 r1))], [12, 1000012], Lr 8, [2, 18, 25, 26]⟩, ⟨[.op 6 0, .op 8 0], _, [], Lr 9, [27]⟩, ⟨[.op 6 0, .op 9 0], _, [], Lr 10, [28]⟩]) (F := [.op 8 1, .old 1, .op 10 0]) hst hb Zb
   (o_p rfl (Za rfl rfl u_0) <| o_p rfl (Zkq Try.underlying28 rfl rfl u_0 Zjr) <| o_p rfl (Za rfl rfl u_0) <| o_g (g_f rfl rfl rfl (fun hG => Za rfl rfl u_0)) <| o_g (g_f rfl rfl rfl (fun hG => Zkq Try.underlying28 rfl rfl (Opd.gd hG u_0) Zjr)) <| o_p rfl (Zce rfl rfl u_0 (fun hz => (Opd.gd (bNF hz) u_1))) <| o_p rfl (Za rfl rfl u_0) <| o_g (g_f rfl rfl rfl (fun hG => Za rfl rfl u_0)) <| o_g (OT.guardM (!(false || false)) (gF (false || false)).1 (gF (false || false)).2 rfl rfl rfl (by decide) u_1 (fun hG => Zcl Zmc (Ze6 _ (Zbi h6 hG)) rfl rfl rfl (by decide) u_1 (Opd.gd hG u_0) .nil) (ite_self _).symm) <| o_g (g_f rfl rfl rfl (fun hG => Zke rfl rfl (Opd.gd hG u_0) c_i)) <| o_p rfl (Zce rfl rfl u_0 (fun hz => (Opd.gd (bNF hz) u_1))) <| o_n) (by kernel_rfl) (fun a g hst hb => ?_)
 refine wp_cond_split (hst.bool 2 rfl) (fun hc7 => ?_) (fun hc7 => ?_)
 · replace H0 := Z3 hc7 H0
   refine r_s (L := []) (T := [⟨[], _, [], [], [0]⟩]) (F := [.op 0 0]) (hst.pick [] rfl) hb Zb
     (o_p rfl (Zc rfl rfl c_b) <| o_n) (by kernel_rfl) (fun a g hst hb => ?_)
   refine wp_ret ?_
   refine Zi ?_
   obtain rfl := Option.some.inj H0
   exact Z6 rfl hst hb (Zl (s := 0)) (hst.at 0 rfl)
 · replace H0 := Z2 hc7 H0
   refine wp_skip ?_
   refine Zj ?_
   obtain ⟨r8, h9, H0⟩ := Zd H0; obtain ⟨r10, h11, H0⟩ := Zd H0; obtain ⟨r12, h13, H0⟩ := Zd H0; obtain ⟨r14, h15, H0⟩ := Zd H0; obtain ⟨r16, h17, H0⟩ := Zd H0; obtain ⟨r18, h19, H0⟩ := Zd H0; obtain ⟨r20, h21, H0⟩ := Zd H0; obtain ⟨r22, h23, H0⟩ := Zd H0; obtain ⟨r24, h25, H0⟩ := Zd H0; obtain ⟨r26, h27, H0⟩ := Zd H0
   refine r_s (L := [(2, _), (3, _)]) (T := ⟨[.old 0], [(29, (pObj Zx 11 r1))], [], [], [29]⟩ :: ⟨[.op 0 0, .old 0], [(30, (Zo r8)), (2, (pObj Zx 11 r1))], [12, 1000012], [0], [2, 29, 30]⟩ :: ⟨[.op 1 0], _, [], [0, 1], [31]⟩ :: ⟨[.op 2 0, .op 1 1], [(32, (pIf r8 (pObj Zx 11 r1)))], [], [0, 1, 2], [32]⟩ :: ⟨[.op 2 0, .op 3 0, .op 1 1], [(33, (pIf r8 (Zo r10))), (2, (pObj Zx 11 r1))], [12, 1000012], Lr 4, [2, 29, 32, 33]⟩ :: ⟨[.op 2 0, .op 4 0], _, [], Lr 5, [34]⟩ :: ⟨[.op 2 0, .op 5 0], _, [], Lr 6, [35]⟩ :: ⟨[.op 6 0], _, [], Lr 7, [36]⟩ :: ⟨[.op 7 0, .op 4 1], [(37, (pIf (r8 && (!r10)) (pObj Zx 11 r1)))], [], Lr 8, [37]⟩ :: ⟨[.op 7 0, .op 8 0, .op 4 1], [(38, (pIf (r8 && (!r10)) ((Kd.int .i64).sl.pd r12))), (2, (pObj Zx 11 r1))], [12, 1000012], Lr 9, [2, 29, 32, 37, 38]⟩ :: ⟨[.op 7 0], _, [], Lr 8, [39]⟩ :: ⟨[.op 7 0, .op 9 0, .op 10 0], _, [], Lr 11, [40]⟩ :: ⟨[.op 7 0, .op 11 0], _, [], Lr 12, [41]⟩ :: ⟨[.op 12 0], _, [], Lr 13, [42]⟩ :: ⟨[.op 13 0, .old 1], [(43, (pIf ((r8 && (!r10)) && r14) (pObj Zx 17 r3)))], [], Lr 14, [43]⟩ :: ⟨[.op 13 0, .op 14 0, .old 1], [(44, (pIf ((r8 && (!r10)) && r14) (Zo r16))), (3, (pObj Zx 17 r3))], [18, 1000018], Lr 15, [3, 43, 44]⟩ :: ⟨[.op 13 0, .op 15 0], _, [], Lr 16, [45]⟩ :: ⟨[.op 16 0], _, [], Lr 17, [46]⟩ :: ⟨[.op 17 0, .op 9 1], [(47, (pIf (((r8 && (!r10)) && r14) && r16) (pObj Zx 11 r1)))], [], Lr 18, [47]⟩ :: ⟨[.op 17 0, .op 18 0, .op 9 1], [(48, (pIf (((r8 && (!r10)) && r14) && r16) (Zo r18.2))), (2, (pObj Zx 11 (if (((r8 && (!r10)) && r14) && r16) = true then r18.1 else r1)))], [12, 1000012], Lr 19, [2, 29, 32, 37, 47, 48]⟩ :: ⟨[.op 17 0, .op 19 0], _, [], Lr 20, [49]⟩ :: ⟨[.op 17 0, .op 20 0], _, [], Lr 21, [50]⟩ :: ⟨[.op 21 0], _, [], Lr 22, [51]⟩ :: ⟨[.op 22 0, .op 19 1], [(52, (pIf ((((r8 && (!r10)) && r14) && r16) && (!r18.2)) (pObj Zx 11 (if (((r8 && (!r10)) && r14) && r16) = true then r18.1 else r1))))], [], Lr 23, [52]⟩ :: ⟨[.op 22 0, .op 23 0, .op 19 1], [(53, (pIf ((((r8 && (!r10)) && r14) && r16) && (!r18.2)) (Zo r20.2))), (2, (pObj Zx 11 (if ((((r8 && (!r10)) && r14) && r16) && (!r18.2)) = true then r20.1 else (if (((r8 && (!r10)) && r14) && r16) = true then r18.1 else r1))))], [12, 1000012], Lr 24, [2, 29, 32, 37, 47, 52, 53]⟩ :: ⟨[.op 22 0, .op 24 0], _, [], Lr 25, [54]⟩ :: ⟨[.op 25 0], _, [], Lr 26, [55]⟩ :: ⟨[.op 26 0, .op 24 1], [(56, (pIf (((((r8 && (!r10)) && r14) && r16) && (!r18.2)) && r20.2) (pObj Zx 11 (if ((((r8 && (!r10)) && r14) && r16) && (!r18.2)) = true then r20.1 else (if (((r8 && (!r10)) && r14) && r16) = true then r18.1 else r1)))))], [], Lr 27, [56]⟩ :: ⟨[.op 26 0, .op 27 0, .op 24 1], [(57, (pIf (((((r8 && (!r10)) && r14) && r16) && (!r18.2)) && r20.2) (Zo r22.2))), (2, (pObj Zx 11 (if (((((r8 && (!r10)) && r14) && r16) && (!r18.2)) && r20.2) = true then r22.1 else (if ((((r8 && (!r10)) && r14) && r16) && (!r18.2)) = true then r20.1 else (if (((r8 && (!r10)) && r14) && r16) = true then r18.1 else r1)))))], [12, 1000012], Lr 28, [2, 29, 32, 37, 47, 52, 56, 57]⟩ :: ⟨[.op 26 0, .op 28 0], _, [], Lr 29, [58]⟩ :: ⟨[.op 29 0], _, [], Lr 30, [59]⟩ :: ⟨[.op 30 0, .op 28 1], [(60, (pIf ((((((r8 && (!r10)) && r14) && r16) && (!r18.2)) && r20.2) && r22.2) (pObj Zx 11 (if (((((r8 && (!r10)) && r14) && r16) && (!r18.2)) && r20.2) = true then r22.1 else (if ((((r8 && (!r10)) && r14) && r16) && (!r18.2)) = true then r20.1 else (if (((r8 && (!r10)) && r14) && r16) = true then r18.1 else r1))))))], [], Lr 31, [60]⟩ :: ⟨[.op 30 0, .op 31 0, .op 28 1], [(61, (pIf ((((((r8 && (!r10)) && r14) && r16) && (!r18.2)) && r20.2) && r22.2) (pInt .i64 r24))), (2, (pObj Zx 11 (if (((((r8 && (!r10)) && r14) && r16) && (!r18.2)) && r20.2) = true then r22.1 else (if ((((r8 && (!r10)) && r14) && r16) && (!r18.2)) = true then r20.1 else (if (((r8 && (!r10)) && r14) && r16) = true then r18.1 else r1)))))], [12, 1000012], Lr 32, [2, 29, 32, 37, 47, 52, 56, 60, 61]⟩ :: ⟨[.op 30 0, .op 32 0], _, [], Lr 33, [62]⟩ :: ⟨[.op 30 0, .op 33 0], _, [], Lr 34, [63]⟩ :: ⟨[.op 34 0], _, [], Lr 35, [64]⟩ :: ⟨[.op 35 0, .op 32 1], [(65, (pIf (((((((r8 && (!r10)) && r14) && r16) && (!r18.2)) && r20.2) && r22.2) && (r24 == (0 : Int))) (pObj Zx 11 (if (((((r8 && (!r10)) && r14) && r16) && (!r18.2)) && r20.2) = true then r22.1 else (if ((((r8 && (!r10)) && r14) && r16) && (!r18.2)) = true then r20.1 else (if (((r8 && (!r10)) && r14) && r16) = true then r18.1 else r1))))))], [], Lr 36, [65]⟩ :: ⟨[.op 35 0, .op 36 0, .op 32 1], [(66, (pIf (((((((r8 && (!r10)) && r14) && r16) && (!r18.2)) && r20.2) && r22.2) && (r24 == (0 : Int))) ((Kd.int .i64).sl.pd r26))), (2, (pObj Zx 11 (if (((((r8 && (!r10)) && r14) && r16) && (!r18.2)) && r20.2) = true then r22.1 else (if ((((r8 && (!r10)) && r14) && r16) && (!r18.2)) = true then r20.1 else (if (((r8 && (!r10)) && r14) && r16) = true then r18.1 else r1)))))], [12, 1000012], Lr 37, [2, 29, 32, 37, 47, 52, 56, 60, 65, 66]⟩ :: ⟨[.op 35 0, .op 37 0], _, [], Lr 38, [67]⟩ :: ⟨[.op 35 0, .op 38 0], _, [], Lr 39, [68]⟩ :: ⟨[.op 35 0, .op 39 0], _, [], Lr 40, [69]⟩ :: ⟨[.op 40 0], _, [], Lr 41, [0]⟩ :: []) (F := [.op 41 0]) (hst.pick [0, 1] rfl) hb Zb
     (o_p rfl (Za rfl rfl u_0) <| o_p rfl (Zcl Zg7 (Zcq _ _ h9) rfl rfl rfl (by decide) u_1 u_0 (.cons c_i .nil)) <| o_p rfl (Za rfl rfl u_0) <| o_g (g_t rfl rfl rfl (fun hG => Za rfl rfl u_0)) <| o_g (OT.guardM r8 (gT r8).1 (gT r8).2 rfl rfl rfl (by decide) u_1 (fun hG => Zcl Zg7 (Zcq _ _ (Zbi h11 hG)) rfl rfl rfl (by decide) u_1 (Opd.gd hG u_0) (.cons c_i .nil)) (ite_self _).symm) <| o_g (g_t rfl rfl rfl (fun hG => Zdu rfl rfl (Opd.gd hG u_0))) <| o_p rfl (Zb2 rfl rfl u_0 (fun hz => (Opd.gd hz u_1))) <| o_p rfl (Za rfl rfl u_0) <| o_g (g_t rfl rfl rfl (fun hG => Za rfl rfl u_0)) <| o_g (OT.guardM (r8 && (!r10)) (gT (r8 && (!r10))).1 (gT (r8 && (!r10))).2 rfl rfl rfl (by decide) u_1 (fun hG => Zcl Zj2 (Ze1 _ _ (Zbi h13 hG)) rfl rfl rfl (by decide) u_1 (Opd.gd hG u_0) (.cons c_i .nil)) (ite_self _).symm) <| o_g (g_t rfl rfl rfl (fun hG => Zee Zdm (xs := [.const (.int .i64 0)]) (.cons c_i .nil) (by decide) rfl rfl)) <| o_g (g_t rfl rfl rfl (fun hG => Zbd Znq (Zgh _ _ (Zbi h15 hG)) rfl rfl (.cons (Opd.gd hG u_0) (.cons (Opd.gd hG u_1) .nil)))) <| o_p rfl (Zb2 rfl rfl u_0 (fun hz => (Opd.gd hz u_1))) <| o_p rfl (Za rfl rfl u_0) <| o_g (g_t rfl rfl rfl (fun hG => Za rfl rfl u_0)) <| o_g (OT.guardM ((r8 && (!r10)) && r14) (gT ((r8 && (!r10)) && r14)).1 (gT ((r8 && (!r10)) && r14)).2 rfl rfl rfl (by decide) u_1 (fun hG => Zcl Zg7 (Zcq _ _ (Zbi h17 hG)) rfl rfl rfl (by decide) u_1 (Opd.gd hG u_0) (.cons c_i .nil)) (ite_self _).symm) <| o_p rfl (Zb2 rfl rfl u_0 (fun hz => (Opd.gd hz u_1))) <| o_p rfl (Za rfl rfl u_0) <| o_g (g_t rfl rfl rfl (fun hG => Za rfl rfl u_0)) <| o_g (OT.guardM (((r8 && (!r10)) && r14) && r16) (gT (((r8 && (!r10)) && r14) && r16)).1 (gT (((r8 && (!r10)) && r14) && r16)).2 rfl rfl rfl (by decide) u_1 (fun hG => Zcl Zin (Zdk _ _ (Zbi h19 hG)) rfl rfl rfl (by decide) u_1 (Opd.gd hG u_0) (.cons c_i .nil)) rfl) <| o_g (g_t rfl rfl rfl (fun hG => Zdu rfl rfl (Opd.gd hG u_0))) <| o_p rfl (Zb2 rfl rfl u_0 (fun hz => (Opd.gd hz u_1))) <| o_p rfl (Za rfl rfl u_0) <| o_g (g_t rfl rfl rfl (fun hG => Za rfl rfl u_0)) <| o_g (OT.guardM ((((r8 && (!r10)) && r14) && r16) && (!r18.2)) (gT ((((r8 && (!r10)) && r14) && r16) && (!r18.2))).1 (gT ((((r8 && (!r10)) && r14) && r16) && (!r18.2))).2 rfl rfl rfl (by decide) u_1 (fun hG => Zcl Zin (Zdk _ _ (Zbi h21 hG)) rfl rfl rfl (by decide) u_1 (Opd.gd hG u_0) (.cons c_i .nil)) rfl) <| o_p rfl (Zb2 rfl rfl u_0 (fun hz => (Opd.gd hz u_1))) <| o_p rfl (Za rfl rfl u_0) <| o_g (g_t rfl rfl rfl (fun hG => Za rfl rfl u_0)) <| o_g (OT.guardM (((((r8 && (!r10)) && r14) && r16) && (!r18.2)) && r20.2) (gT (((((r8 && (!r10)) && r14) && r16) && (!r18.2)) && r20.2)).1 (gT (((((r8 && (!r10)) && r14) && r16) && (!r18.2)) && r20.2)).2 rfl rfl rfl (by decide) u_1 (fun hG => Zcl Zin (Zdk _ _ (Zbi h23 hG)) rfl rfl rfl (by decide) u_1 (Opd.gd hG u_0) (.cons c_i .nil)) rfl) <| o_p rfl (Zb2 rfl rfl u_0 (fun hz => (Opd.gd hz u_1))) <| o_p rfl (Za rfl rfl u_0) <| o_g (g_t rfl rfl rfl (fun hG => Za rfl rfl u_0)) <| o_g (OT.guardM ((((((r8 && (!r10)) && r14) && r16) && (!r18.2)) && r20.2) && r22.2) (gT ((((((r8 && (!r10)) && r14) && r16) && (!r18.2)) && r20.2) && r22.2)).1 (gT ((((((r8 && (!r10)) && r14) && r16) && (!r18.2)) && r20.2) && r22.2)).2 rfl rfl rfl (by decide) u_1 (fun hG => Zcl Zmc (Ze6 _ (Zbi h25 hG)) rfl rfl rfl (by decide) u_1 (Opd.gd hG u_0) .nil) (ite_self _).symm) <| o_g (g_t rfl rfl rfl (fun hG => Zcr rfl rfl (Opd.gd hG u_0) c_i)) <| o_p rfl (Zb2 rfl rfl u_0 (fun hz => (Opd.gd hz u_1))) <| o_p rfl (Za rfl rfl u_0) <| o_g (g_t rfl rfl rfl (fun hG => Za rfl rfl u_0)) <| o_g (OT.guardM (((((((r8 && (!r10)) && r14) && r16) && (!r18.2)) && r20.2) && r22.2) && (r24 == (0 : Int))) (gT (((((((r8 && (!r10)) && r14) && r16) && (!r18.2)) && r20.2) && r22.2) && (r24 == (0 : Int)))).1 (gT (((((((r8 && (!r10)) && r14) && r16) && (!r18.2)) && r20.2) && r22.2) && (r24 == (0 : Int)))).2 rfl rfl rfl (by decide) u_1 (fun hG => Zcl Zj2 (Ze1 _ _ (Zbi h27 hG)) rfl rfl rfl (by decide) u_1 (Opd.gd hG u_0) (.cons c_i .nil)) (ite_self _).symm) <| o_g (g_t rfl rfl rfl (fun hG => Z7 Try.underlying24 rfl rfl (Opd.gd hG u_0))) <| o_g (g_t rfl rfl rfl (fun hG => Zcr rfl rfl (Opd.gd hG u_0) c_i)) <| o_p rfl (Zb2 rfl rfl u_0 (fun hz => (Opd.gd hz u_1))) <| o_p rfl (Zc rfl rfl u_0) <| o_n) (by kernel_rfl) (fun a g hst hb => ?_)
   refine wp_ret ?_
   obtain rfl := Option.some.inj H0
   exact Z6 rfl hst hb (Zl (s := 0)) (hst.at 0 rfl)
theorem Zgn (a0 : Zy) {r : Int} (h : Zdf a0 = some r) : FnOk Try.prog 35 [(Zca.pd a0)] (pInt .i64 r) := by
 have H0 := h
 unfold Zdf at H0
 clear h
 refine Zb1 (N := 27) Try.func35 rfl rfl (Nat.le_of_ble_eq_true rfl) rfl rfl (fun a g0 hst hb => ?_)
 refine r_s (T := [⟨[.old 0], _, [], [], [1]⟩, ⟨[], _, [], [], [2]⟩]) (F := [.op 0 0]) hst hb Zb
   (o_p rfl (Zdn rfl rfl u_0) <| o_p rfl (Zc rfl rfl c_i) <| o_n) (by kernel_rfl) (fun a g hst hb => ?_)
 refine wp_seq ?_
 refine r_s (T := [⟨[.old 0], _, [], [], [5]⟩, ⟨[.op 0 0], _, [], [0], [6]⟩, ⟨[.op 1 0], _, [], [0, 1], [7]⟩, ⟨[.op 2 0], _, [], [0, 1, 2], [8]⟩, ⟨[.op 3 0], _, [], Lr 4, [9]⟩, ⟨[.op 4 0, .old 0], _, [], Lr 5, [10]⟩, ⟨[.op 4 0, .op 5 0], _, [], Lr 6, [11]⟩, ⟨[.op 4 0, .op 6 0], _, [], Lr 7, [12]⟩, ⟨[.op 4 0, .op 7 0], _, [], Lr 8, [13]⟩, ⟨[.op 4 0, .op 8 0], _, [], Lr 9, [14]⟩]) (F := [.old 0, .op 9 0]) hst hb Zb
   (o_p rfl (Zh Zjt rfl rfl u_0) <| o_p rfl (Zg Zmj rfl rfl u_0) <| o_p rfl (Z7 Try.underlying45 rfl rfl u_0) <| o_p rfl (Zec rfl rfl u_0 c_i) <| o_p rfl (Za rfl rfl u_0) <| o_g (g_f rfl rfl rfl (fun hG => Zh Zmn rfl rfl u_0)) <| o_g (g_f rfl rfl rfl (fun hG => Zg ty_9 rfl rfl (Opd.gd hG u_0))) <| o_g (g_f rfl rfl rfl (fun hG => Zg5 Try.underlying9 rfl rfl (Opd.gd hG u_0))) <| o_g (g_f rfl rfl rfl (fun hG => Zec rfl rfl (Opd.gd hG u_0) c_i)) <| o_p rfl (Zce rfl rfl u_0 (fun hz => (Opd.gd (bNF hz) u_1))) <| o_n) (by kernel_rfl) (fun a g hst hb => ?_)
 refine wp_cond_split (hst.bool 1 rfl) (fun hc1 => ?_) (fun hc1 => ?_)
 · replace H0 := Z3 hc1 H0
   refine r_s (L := []) (T := [⟨[], _, [], [], [2]⟩]) (F := [.op 0 0]) (hst.pick [] rfl) hb Zb
     (o_p rfl (Zc rfl rfl c_i) <| o_n) (by kernel_rfl) (fun a g hst hb => ?_)
   refine wp_ret ?_
   refine Zi ?_
   obtain rfl := Option.some.inj H0
   exact Z6 rfl hst hb (Zl (s := 2)) (hst.at 0 rfl)
 · replace H0 := Z2 hc1 H0
   refine wp_skip ?_
   refine Zj ?_
   refine wp_seq ?_
   refine r_s (L := [(1, _)]) (T := [⟨[.old 0], _, [], [], [15]⟩, ⟨[.op 0 0], _, [], [0], [16]⟩, ⟨[.op 1 0], _, [], [0, 1], [17]⟩, ⟨[], _, [], [], [18]⟩]) (F := [.op 1 0, .op 2 0, .op 3 0]) (hst.pick [0] rfl) hb Zb
     (o_p rfl (Zh Zjt rfl rfl u_0) <| o_p rfl (Zg Zmj rfl rfl u_0) <| o_p rfl (Z7 Try.underlying45 rfl rfl u_0) <| o_p rfl (Za rfl rfl c_i) <| o_n) (by kernel_rfl) (fun a g hst hb => ?_)
   obtain ⟨z7, hz1, H0⟩ := Zd H0
   refine Zbs (fun a w => ∃ (g : G), w = g.w ∧ St 27 [] a g ∧ Base g0 g ∧ (.inr ()) = z7) ?_ ?_
   · rintro a w ⟨g, rfl, hst, hb, rfl⟩
     refine Zj ?_
     refine r_s (T := [⟨[], _, [], [], [2]⟩]) (F := [.op 0 0]) hst hb Zb
       (o_p rfl (Zc rfl rfl c_i) <| o_n) (by kernel_rfl) (fun a g hst hb => ?_)
     refine wp_ret ?_
     obtain rfl := Option.some.inj H0
     exact Z6 rfl hst hb (Zl (s := 2)) (hst.at 0 rfl)
   · refine wp_block ?_
     refine wp_loop_ghost (fun n a w => ∃ (x2 : Int) (g : G), w = g.w ∧ St 27 [(16, (Zb4.sl.pd a0.List)), (17, (pInt .i64 (a0.List.length : Int))), (18, (pInt .i64 x2))] a g ∧ Base g0 g ∧ Zbq a0 n x2 = some z7) (Int.toNat ((a0.List.length : Int) - (0 : Int)) + 1) ⟨(0 : Int), g, rfl, (hst.pick [0, 1, 2] rfl), hb, hz1⟩ (fun n a w hI => ?_)
     obtain ⟨x2, g, rfl, hst, hb, H1⟩ := hI
     cases n with
     | zero => exact absurd H1 (by simp [Zbq])
     | succ n =>
       rw [Zbq] at H1
       refine r_s (T := [⟨[.old 2, .old 1], _, [], [], [19]⟩]) (F := [.old 0, .old 1, .old 2, .op 0 0]) hst hb Zb
         (o_p rfl (Zcg rfl rfl u_0 u_1) <| o_n) (by kernel_rfl) (fun a g hst hb => ?_)
       refine wp_seq ?_
       refine wp_cond_split (hst.bool 3 rfl) (fun hc3 => ?_) (fun hc3 => ?_)
       · replace H1 := Z3 hc3 H1
         refine wp_skip ?_
         refine Zj ?_
         refine wp_seq ?_
         refine wp_block ?_
         obtain ⟨e4, h5, H1⟩ := Zd H1
         refine r_s (L := [(16, _), (17, _), (18, _)]) (T := [⟨[.old 0, .old 2], _, [], [], [20]⟩, ⟨[.op 0 0], _, [], [0], [21]⟩, ⟨[], [(4, (pBox Zb4 4 (default : Zdh)))], [5], [], [4]⟩, ⟨[.op 1 0, .op 2 0], _, [5], [0, 1, 2], [4]⟩]) (F := [.op 3 0, .old 0, .old 1, .old 2]) (hst.pick [0, 1, 2] rfl) hb Zb
           (o_p rfl (Zs Try.underlying45 Znn rfl rfl u_0 u_1 h5) <| o_p rfl (Zg Zmb rfl rfl u_0) <| o_p rfl (Zd6 (zs := [.float .f64 0, .string ByteArray.empty]) (by kernel_rfl) (fun g => Zjl g) rfl rfl) <| o_p rfl (Zdq Zmb rfl rfl u_1 u_0) <| o_n) (by kernel_rfl) (fun a g hst hb => ?_)
         refine r_s (T := [⟨[.old 0], _, [], [], [22]⟩, ⟨[.op 0 0], _, [], [0], [23]⟩, ⟨[.op 1 0], _, [], [0, 1], [24]⟩, ⟨[.op 2 0], _, [], [0, 1, 2], [25]⟩]) (F := [.old 1, .old 2, .old 3, .op 3 0]) hst hb Zb
           (o_p rfl (Zh Zm1 rfl rfl u_0) <| o_p rfl (Zg ty_9 rfl rfl u_0) <| o_p rfl (Zg5 Try.underlying9 rfl rfl u_0) <| o_p rfl (Zec rfl rfl u_0 c_i) <| o_n) (by kernel_rfl) (fun a g hst hb => ?_)
         refine wp_cond_split (hst.bool 3 rfl) (fun hc6 => ?_) (fun hc6 => ?_)
         · replace H1 := Z3 hc6 H1
           refine r_s (L := []) (T := [⟨[], _, [], [], [2]⟩]) (F := [.op 0 0]) (hst.pick [] rfl) hb Zb
             (o_p rfl (Zc rfl rfl c_i) <| o_n) (by kernel_rfl) (fun a g hst hb => ?_)
           refine wp_ret ?_
           refine Zq ?_
           refine Zi ?_
           refine Zi ?_
           refine Zq ?_
           refine Zi ?_
           refine Zi ?_
           obtain rfl := Option.some.inj H1
           obtain rfl := Option.some.inj H0
           exact Z6 rfl hst hb (Zl (s := 2)) (hst.at 0 rfl)
         · replace H1 := Z2 hc6 H1
           refine wp_skip ?_
           refine Z5 ?_
           refine Zj ?_
           refine r_g (L := [(16, _), (17, _), (18, _)]) (T := [⟨[.old 2], _, [], [], [26]⟩, ⟨[.op 0 0], _, [], [0], [18]⟩]) (F := [.old 0, .old 1, .op 1 0]) (hst.pick [0, 1, 2] rfl) hb Zb
             (o_p rfl (Zbw rfl rfl u_0 c_i rfl) <| o_p rfl (Za rfl rfl u_0) <| o_n) (by kernel_rfl) (fun a g hst hb => ?_)
           exact ⟨n, Nat.lt_succ_self _, (IntKind.i64.wrap (x2 + (1 : Int))), g, rfl, (hst.pick [0, 1, 2] rfl), hb, H1⟩
       · replace H1 := Z2 hc3 H1
         refine wp_exit ?_
         refine Zz ?_
         refine Zz ?_
         refine Zbb ?_
         exact ⟨g, rfl, (hst.pick [] rfl), hb, Option.some.inj H1⟩
theorem Zgp (a0 : Zm) {r : Int} (h : Zcs a0 = some r) : FnOk Try.prog 29 [(Zp.pd a0)] (pInt .i64 r) := by
 have H0 := h
 unfold Zcs at H0
 clear h
 refine Zb1 (N := 19) Try.func29 rfl rfl (Nat.le_of_ble_eq_true rfl) rfl rfl (fun a g0 hst hb => ?_)
 refine r_s (T := [⟨[.old 0], _, [], [], [1]⟩, ⟨[], _, [], [], [2]⟩]) (F := [.op 0 0]) hst hb Zb
   (o_p rfl (Zdn rfl rfl u_0) <| o_p rfl (Zc rfl rfl c_i) <| o_n) (by kernel_rfl) (fun a g hst hb => ?_)
 refine wp_seq ?_
 obtain ⟨r1, h2, H0⟩ := Zd H0
 refine r_s (T := ⟨[.old 0], _, [], [], [3]⟩ :: ⟨[.op 0 0], _, [], [0], [4]⟩ :: ⟨[.op 1 0], _, [], [0, 1], [5]⟩ :: ⟨[.op 2 0], _, [], [0, 1, 2], [6]⟩ :: ⟨[.op 3 0], _, [], Lr 4, [7]⟩ :: ⟨[.op 4 0, .old 0], _, [], Lr 5, [8]⟩ :: ⟨[.op 4 0, .op 5 0], _, [], Lr 6, [9]⟩ :: ⟨[.op 4 0, .op 6 0], _, [], Lr 7, [10]⟩ :: ⟨[.op 4 0, .op 7 0], _, [], Lr 8, [11]⟩ :: ⟨[.op 4 0, .op 8 0], _, [], Lr 9, [12]⟩ :: ⟨[.op 9 0], _, [], Lr 10, [13]⟩ :: ⟨[.op 10 0, .old 0], _, [], Lr 11, [14]⟩ :: ⟨[.op 10 0, .op 11 0], _, [], Lr 12, [15]⟩ :: ⟨[.op 10 0, .op 12 0], _, [], Lr 13, [16]⟩ :: ⟨[.op 10 0, .op 13 0], _, [], Lr 14, [17]⟩ :: ⟨[.op 10 0, .op 14 0], _, [], Lr 15, [18]⟩ :: []) (F := [.op 15 0]) hst hb Zb
   (o_p rfl (Zh Zew rfl rfl u_0) <| o_p rfl (Zg ty_9 rfl rfl u_0) <| o_p rfl (Zg5 Try.underlying9 rfl rfl u_0) <| o_p rfl (Zec rfl rfl u_0 c_i) <| o_p rfl (Za rfl rfl u_0) <| o_g (g_f rfl rfl rfl (fun hG => Zh Zmw rfl rfl u_0)) <| o_g (g_f rfl rfl rfl (fun hG => Zg ty_9 rfl rfl (Opd.gd hG u_0))) <| o_g (g_f rfl rfl rfl (fun hG => Zg5 Try.underlying9 rfl rfl (Opd.gd hG u_0))) <| o_g (g_f rfl rfl rfl (fun hG => Zec rfl rfl (Opd.gd hG u_0) c_i)) <| o_p rfl (Zce rfl rfl u_0 (fun hz => (Opd.gd (bNF hz) u_1))) <| o_p rfl (Za rfl rfl u_0) <| o_g (g_f rfl rfl rfl (fun hG => Zh Zm3 rfl rfl u_0)) <| o_g (g_f rfl rfl rfl (fun hG => Zg Zoc rfl rfl (Opd.gd hG u_0))) <| o_g (g_f rfl rfl rfl (fun hG => Zbd Zn3 (Zgn _ (Zbi h2 hG)) rfl rfl (.cons (Opd.gd hG u_0) .nil))) <| o_g (g_f rfl rfl rfl (fun hG => Zec rfl rfl (Opd.gd hG u_0) c_i)) <| o_p rfl (Zce rfl rfl u_0 (fun hz => (Opd.gd (bNF hz) u_1))) <| o_n) (by kernel_rfl) (fun a g hst hb => ?_)
 refine wp_cond_split (hst.bool 0 rfl) (fun hc3 => ?_) (fun hc3 => ?_)
 · replace H0 := Z3 hc3 H0
   refine r_s (L := []) (T := [⟨[], _, [], [], [2]⟩]) (F := [.op 0 0]) (hst.pick [] rfl) hb Zb
     (o_p rfl (Zc rfl rfl c_i) <| o_n) (by kernel_rfl) (fun a g hst hb => ?_)
   refine wp_ret ?_
   refine Zi ?_
   obtain rfl := Option.some.inj H0
   exact Z6 rfl hst hb (Zl (s := 2)) (hst.at 0 rfl)
 · replace H0 := Z2 hc3 H0
   refine wp_skip ?_
   refine Zj ?_
   refine r_s (L := []) (T := [⟨[], _, [], [], [2]⟩]) (F := [.op 0 0]) (hst.pick [] rfl) hb Zb
     (o_p rfl (Zc rfl rfl c_i) <| o_n) (by kernel_rfl) (fun a g hst hb => ?_)
   refine wp_ret ?_
   obtain rfl := Option.some.inj H0
   exact Z6 rfl hst hb (Zl (s := 2)) (hst.at 0 rfl)
theorem Zgx (a0 : Ze) {r : Int} (h : Zct a0 = some r) : FnOk Try.prog 20 [(Zf.pd a0)] (pInt .i64 r) := by
 have H0 := h
 unfold Zct at H0
 clear h
 refine Zb1 (N := 20) Try.func20 rfl rfl (Nat.le_of_ble_eq_true rfl) rfl rfl (fun a g0 hst hb => ?_)
 refine r_s (T := [⟨[.old 0], _, [], [], [1]⟩, ⟨[], _, [], [], [2]⟩]) (F := [.op 0 0]) hst hb Zb
   (o_p rfl (Zdn rfl rfl u_0) <| o_p rfl (Zc rfl rfl c_i) <| o_n) (by kernel_rfl) (fun a g hst hb => ?_)
 refine wp_seq ?_
 refine r_s (T := [⟨[.old 0], _, [], [], [5]⟩, ⟨[.op 0 0], _, [], [0], [6]⟩, ⟨[.op 1 0], _, [], [0, 1], [7]⟩, ⟨[.op 2 0], _, [], [0, 1, 2], [8]⟩]) (F := [.old 0, .op 3 0]) hst hb Zb
   (o_p rfl (Zh Zc8 rfl rfl u_0) <| o_p rfl (Zg Zeh rfl rfl u_0) <| o_p rfl (Z7 Try.underlying41 rfl rfl u_0) <| o_p rfl (Zec rfl rfl u_0 c_i) <| o_n) (by kernel_rfl) (fun a g hst hb => ?_)
 refine wp_cond_split (hst.bool 1 rfl) (fun hc1 => ?_) (fun hc1 => ?_)
 · replace H0 := Z3 hc1 H0
   refine r_s (L := []) (T := [⟨[], _, [], [], [2]⟩]) (F := [.op 0 0]) (hst.pick [] rfl) hb Zb
     (o_p rfl (Zc rfl rfl c_i) <| o_n) (by kernel_rfl) (fun a g hst hb => ?_)
   refine wp_ret ?_
   refine Zi ?_
   obtain rfl := Option.some.inj H0
   exact Z6 rfl hst hb (Zl (s := 2)) (hst.at 0 rfl)
 · replace H0 := Z2 hc1 H0
   refine wp_skip ?_
   refine Zj ?_
   refine wp_seq ?_
   refine r_s (L := [(1, _)]) (T := [⟨[.old 0], _, [], [], [9]⟩, ⟨[.op 0 0], _, [], [0], [10]⟩, ⟨[.op 1 0], _, [], [0, 1], [11]⟩, ⟨[], _, [], [], [12]⟩]) (F := [.op 1 0, .op 2 0, .op 3 0]) (hst.pick [0] rfl) hb Zb
     (o_p rfl (Zh Zc8 rfl rfl u_0) <| o_p rfl (Zg Zeh rfl rfl u_0) <| o_p rfl (Z7 Try.underlying41 rfl rfl u_0) <| o_p rfl (Za rfl rfl c_i) <| o_n) (by kernel_rfl) (fun a g hst hb => ?_)
   obtain ⟨z9, hz1, H0⟩ := Zd H0
   refine Zbs (fun a w => ∃ (g : G), w = g.w ∧ St 20 [] a g ∧ Base g0 g ∧ (.inr ()) = z9) ?_ ?_
   · rintro a w ⟨g, rfl, hst, hb, rfl⟩
     refine Zj ?_
     refine r_s (T := [⟨[], _, [], [], [2]⟩]) (F := [.op 0 0]) hst hb Zb
       (o_p rfl (Zc rfl rfl c_i) <| o_n) (by kernel_rfl) (fun a g hst hb => ?_)
     refine wp_ret ?_
     obtain rfl := Option.some.inj H0
     exact Z6 rfl hst hb (Zl (s := 2)) (hst.at 0 rfl)
   · refine wp_block ?_
     refine wp_loop_ghost (fun n a w => ∃ (x2 : Int) (g : G), w = g.w ∧ St 20 [(10, (Zp.sl.pd a0.Acts)), (11, (pInt .i64 (a0.Acts.length : Int))), (12, (pInt .i64 x2))] a g ∧ Base g0 g ∧ Zbr a0 n x2 = some z9) (Int.toNat ((a0.Acts.length : Int) - (0 : Int)) + 1) ⟨(0 : Int), g, rfl, (hst.pick [0, 1, 2] rfl), hb, hz1⟩ (fun n a w hI => ?_)
     obtain ⟨x2, g, rfl, hst, hb, H1⟩ := hI
     cases n with
     | zero => exact absurd H1 (by simp [Zbr])
     | succ n =>
       rw [Zbr] at H1
       refine r_s (T := [⟨[.old 2, .old 1], _, [], [], [13]⟩]) (F := [.old 0, .old 1, .old 2, .op 0 0]) hst hb Zb
         (o_p rfl (Zcg rfl rfl u_0 u_1) <| o_n) (by kernel_rfl) (fun a g hst hb => ?_)
       refine wp_seq ?_
       refine wp_cond_split (hst.bool 3 rfl) (fun hc3 => ?_) (fun hc3 => ?_)
       · replace H1 := Z3 hc3 H1
         refine wp_skip ?_
         refine Zj ?_
         refine wp_seq ?_
         refine wp_block ?_
         obtain ⟨e4, h5, H1⟩ := Zd H1
         refine r_s (L := [(10, _), (11, _), (12, _)]) (T := [⟨[.old 0, .old 2], _, [], [], [14]⟩, ⟨[.op 0 0], _, [], [0], [15]⟩, ⟨[], [(4, (pBox Zp 4 (default : Zm)))], [5], [], [4]⟩, ⟨[.op 1 0, .op 2 0], _, [5], [0, 1, 2], [4]⟩]) (F := [.op 3 0, .old 0, .old 1, .old 2]) (hst.pick [0, 1, 2] rfl) hb Zb
           (o_p rfl (Zs Try.underlying41 Zfo rfl rfl u_0 u_1 h5) <| o_p rfl (Zg Zeg rfl rfl u_0) <| o_p rfl (Zd6 (zs := [.int .i64 0, .string ByteArray.empty, .int .i64 0, .float .f64 0, .string ByteArray.empty, .int .i64 0, .int .i64 0, .int .i64 0, .int .i64 0, .float .f64 0, .int .i64 0, .string ByteArray.empty, .slice none 0 0, .bool false]) (by kernel_rfl) (fun g => Zes g) rfl rfl) <| o_p rfl (Zdq Zeg rfl rfl u_1 u_0) <| o_n) (by kernel_rfl) (fun a g hst hb => ?_)
         obtain ⟨r6, h7, H1⟩ := Zd H1
         refine r_s (T := [⟨[.old 0], _, [], [], [16]⟩, ⟨[.op 0 0], _, [], [0], [17]⟩, ⟨[.op 1 0], _, [], [0, 1], [18]⟩]) (F := [.old 1, .old 2, .old 3, .op 2 0]) hst hb Zb
           (o_p rfl (Zg Zeg rfl rfl u_0) <| o_p rfl (Zbd Znw (Zgp _ h7) rfl rfl (.cons u_0 .nil)) <| o_p rfl (Zec rfl rfl u_0 c_i) <| o_n) (by kernel_rfl) (fun a g hst hb => ?_)
         refine wp_cond_split (hst.bool 3 rfl) (fun hc8 => ?_) (fun hc8 => ?_)
         · replace H1 := Z3 hc8 H1
           refine r_s (L := []) (T := [⟨[], _, [], [], [2]⟩]) (F := [.op 0 0]) (hst.pick [] rfl) hb Zb
             (o_p rfl (Zc rfl rfl c_i) <| o_n) (by kernel_rfl) (fun a g hst hb => ?_)
           refine wp_ret ?_
           refine Zq ?_
           refine Zi ?_
           refine Zi ?_
           refine Zq ?_
           refine Zi ?_
           refine Zi ?_
           obtain rfl := Option.some.inj H1
           obtain rfl := Option.some.inj H0
           exact Z6 rfl hst hb (Zl (s := 2)) (hst.at 0 rfl)
         · replace H1 := Z2 hc8 H1
           refine wp_skip ?_
           refine Z5 ?_
           refine Zj ?_
           refine r_g (L := [(10, _), (11, _), (12, _)]) (T := [⟨[.old 2], _, [], [], [19]⟩, ⟨[.op 0 0], _, [], [0], [12]⟩]) (F := [.old 0, .old 1, .op 1 0]) (hst.pick [0, 1, 2] rfl) hb Zb
             (o_p rfl (Zbw rfl rfl u_0 c_i rfl) <| o_p rfl (Za rfl rfl u_0) <| o_n) (by kernel_rfl) (fun a g hst hb => ?_)
           exact ⟨n, Nat.lt_succ_self _, (IntKind.i64.wrap (x2 + (1 : Int))), g, rfl, (hst.pick [0, 1, 2] rfl), hb, H1⟩
       · replace H1 := Z2 hc3 H1
         refine wp_exit ?_
         refine Zz ?_
         refine Zz ?_
         refine Zbb ?_
         exact ⟨g, rfl, (hst.pick [] rfl), hb, Option.some.inj H1⟩
theorem Zgo (a0 : List Ze) {r : Int} (h : Zdb a0 = some r) : FnOk Try.prog 8 [(Zf.sl.pd a0)] (pInt .i64 r) := by
 have H0 := h
 unfold Zdb at H0
 clear h
 refine Zb1 (N := 18) Try.func8 rfl rfl (Nat.le_of_ble_eq_true rfl) rfl rfl (fun a g0 hst hb => ?_)
 refine r_s (T := [⟨[], _, [], [], [2]⟩]) (F := [.old 0]) hst hb Zb
   (o_p rfl (Zc rfl rfl c_i) <| o_n) (by kernel_rfl) (fun a g hst hb => ?_)
 refine wp_seq ?_
 refine r_s (T := [⟨[.old 0], _, [], [], [5]⟩, ⟨[.op 0 0], _, [], [0], [6]⟩, ⟨[.op 1 0], _, [], [0, 1], [7]⟩]) (F := [.old 0, .op 2 0]) hst hb Zb
   (o_p rfl (Za rfl rfl u_0) <| o_p rfl (Z7 Try.underlying22 rfl rfl u_0) <| o_p rfl (Zec rfl rfl u_0 c_i) <| o_n) (by kernel_rfl) (fun a g hst hb => ?_)
 refine wp_cond_split (hst.bool 1 rfl) (fun hc1 => ?_) (fun hc1 => ?_)
 · replace H0 := Z3 hc1 H0
   refine r_s (L := []) (T := [⟨[], _, [], [], [2]⟩]) (F := [.op 0 0]) (hst.pick [] rfl) hb Zb
     (o_p rfl (Zc rfl rfl c_i) <| o_n) (by kernel_rfl) (fun a g hst hb => ?_)
   refine wp_ret ?_
   refine Zi ?_
   obtain rfl := Option.some.inj H0
   exact Z6 rfl hst hb (Zl (s := 2)) (hst.at 0 rfl)
 · replace H0 := Z2 hc1 H0
   refine wp_skip ?_
   refine Zj ?_
   refine wp_seq ?_
   refine r_s (L := [(0, _)]) (T := [⟨[.old 0], _, [], [], [8]⟩, ⟨[.op 0 0], _, [], [0], [9]⟩, ⟨[], _, [], [], [10]⟩]) (F := [.op 0 0, .op 1 0, .op 2 0]) (hst.pick [0] rfl) hb Zb
     (o_p rfl (Za rfl rfl u_0) <| o_p rfl (Z7 Try.underlying22 rfl rfl u_0) <| o_p rfl (Za rfl rfl c_i) <| o_n) (by kernel_rfl) (fun a g hst hb => ?_)
   obtain ⟨z9, hz1, H0⟩ := Zd H0
   refine Zbs (fun a w => ∃ (g : G), w = g.w ∧ St 18 [] a g ∧ Base g0 g ∧ (.inr ()) = z9) ?_ ?_
   · rintro a w ⟨g, rfl, hst, hb, rfl⟩
     refine Zj ?_
     refine r_s (T := [⟨[], _, [], [], [2]⟩]) (F := [.op 0 0]) hst hb Zb
       (o_p rfl (Zc rfl rfl c_i) <| o_n) (by kernel_rfl) (fun a g hst hb => ?_)
     refine wp_ret ?_
     obtain rfl := Option.some.inj H0
     exact Z6 rfl hst hb (Zl (s := 2)) (hst.at 0 rfl)
   · refine wp_block ?_
     refine wp_loop_ghost (fun n a w => ∃ (x2 : Int) (g : G), w = g.w ∧ St 18 [(8, (Zf.sl.pd a0)), (9, (pInt .i64 (a0.length : Int))), (10, (pInt .i64 x2))] a g ∧ Base g0 g ∧ Zbp a0 n x2 = some z9) (Int.toNat ((a0.length : Int) - (0 : Int)) + 1) ⟨(0 : Int), g, rfl, (hst.pick [0, 1, 2] rfl), hb, hz1⟩ (fun n a w hI => ?_)
     obtain ⟨x2, g, rfl, hst, hb, H1⟩ := hI
     cases n with
     | zero => exact absurd H1 (by simp [Zbp])
     | succ n =>
       rw [Zbp] at H1
       refine r_s (T := [⟨[.old 2, .old 1], _, [], [], [11]⟩]) (F := [.old 0, .old 1, .old 2, .op 0 0]) hst hb Zb
         (o_p rfl (Zcg rfl rfl u_0 u_1) <| o_n) (by kernel_rfl) (fun a g hst hb => ?_)
       refine wp_seq ?_
       refine wp_cond_split (hst.bool 3 rfl) (fun hc3 => ?_) (fun hc3 => ?_)
       · replace H1 := Z3 hc3 H1
         refine wp_skip ?_
         refine Zj ?_
         refine wp_seq ?_
         refine wp_block ?_
         obtain ⟨e4, h5, H1⟩ := Zd H1
         refine r_s (L := [(8, _), (9, _), (10, _)]) (T := [⟨[.old 0, .old 2], _, [], [], [12]⟩, ⟨[.op 0 0], _, [], [0], [13]⟩, ⟨[], [(4, (pBox Zf 4 (default : Ze)))], [5], [], [4]⟩, ⟨[.op 1 0, .op 2 0], _, [5], [0, 1, 2], [4]⟩]) (F := [.op 3 0, .old 0, .old 1, .old 2]) (hst.pick [0, 1, 2] rfl) hb Zb
           (o_p rfl (Zs Try.underlying22 Zho rfl rfl u_0 u_1 h5) <| o_p rfl (Zg Zdl rfl rfl u_0) <| o_p rfl (Zd6 (zs := [.slice none 0 0]) (by kernel_rfl) (fun g => Zg9 g) rfl rfl) <| o_p rfl (Zdq Zdl rfl rfl u_1 u_0) <| o_n) (by kernel_rfl) (fun a g hst hb => ?_)
         obtain ⟨r6, h7, H1⟩ := Zd H1
         refine r_s (T := [⟨[.old 0], _, [], [], [14]⟩, ⟨[.op 0 0], _, [], [0], [15]⟩, ⟨[.op 1 0], _, [], [0, 1], [16]⟩]) (F := [.old 1, .old 2, .old 3, .op 2 0]) hst hb Zb
           (o_p rfl (Zg Zdl rfl rfl u_0) <| o_p rfl (Zbd Zn7 (Zgx _ h7) rfl rfl (.cons u_0 .nil)) <| o_p rfl (Zec rfl rfl u_0 c_i) <| o_n) (by kernel_rfl) (fun a g hst hb => ?_)
         refine wp_cond_split (hst.bool 3 rfl) (fun hc8 => ?_) (fun hc8 => ?_)
         · replace H1 := Z3 hc8 H1
           refine r_s (L := []) (T := [⟨[], _, [], [], [2]⟩]) (F := [.op 0 0]) (hst.pick [] rfl) hb Zb
             (o_p rfl (Zc rfl rfl c_i) <| o_n) (by kernel_rfl) (fun a g hst hb => ?_)
           refine wp_ret ?_
           refine Zq ?_
           refine Zi ?_
           refine Zi ?_
           refine Zq ?_
           refine Zi ?_
           refine Zi ?_
           obtain rfl := Option.some.inj H1
           obtain rfl := Option.some.inj H0
           exact Z6 rfl hst hb (Zl (s := 2)) (hst.at 0 rfl)
         · replace H1 := Z2 hc8 H1
           refine wp_skip ?_
           refine Z5 ?_
           refine Zj ?_
           refine r_g (L := [(8, _), (9, _), (10, _)]) (T := [⟨[.old 2], _, [], [], [17]⟩, ⟨[.op 0 0], _, [], [0], [10]⟩]) (F := [.old 0, .old 1, .op 1 0]) (hst.pick [0, 1, 2] rfl) hb Zb
             (o_p rfl (Zbw rfl rfl u_0 c_i rfl) <| o_p rfl (Za rfl rfl u_0) <| o_n) (by kernel_rfl) (fun a g hst hb => ?_)
           exact ⟨n, Nat.lt_succ_self _, (IntKind.i64.wrap (x2 + (1 : Int))), g, rfl, (hst.pick [0, 1, 2] rfl), hb, H1⟩
       · replace H1 := Z2 hc3 H1
         refine wp_exit ?_
         refine Zz ?_
         refine Zz ?_
         refine Zbb ?_
         exact ⟨g, rfl, (hst.pick [] rfl), hb, Option.some.inj H1⟩
theorem Zgi (a0 : List Ze) (a1 : List Bool) {r : List Int} (h : Zc5 a0 a1 = some r) : FnOk Try.prog 9 [(Zf.sl.pd a0), (Kd.bool.sl.pd a1)] ((Kd.int .i64).sl.pd r) := by
 have H0 := h
 unfold Zc5 at H0
 clear h
 refine Zb1 (N := 29) Try.func9 rfl rfl (Nat.le_of_ble_eq_true rfl) rfl rfl (fun a g0 hst hb => ?_)
 refine r_s (T := [⟨[], [(4, ((Kd.int .i64).sl.pd ([] : List Int)))], [], [], [4]⟩]) (F := [.old 0, .old 1]) hst hb Zb
   (o_p rfl (Zc rfl rfl (Opd.c (fun g => Zfi g))) <| o_n) (by kernel_rfl) (fun a g hst hb => ?_)
 refine r_s (T := [⟨[], [(5, (pRow (Kd.int .i64) 3 5 ([] : List Int)))], [], [], [5]⟩]) (F := [.old 0, .old 1, .op 0 0]) hst hb Zb
   (o_p rfl (Zc rfl rfl (Opd.c (fun g => Zfa 5 g))) <| o_n) (by kernel_rfl) (fun a g hst hb => ?_)
 refine wp_seq ?_
 refine r_s (T := [⟨[.old 0], _, [], [], [7]⟩, ⟨[.op 0 0], _, [], [0], [8]⟩, ⟨[], _, [], [], [9]⟩]) (F := [.old 1, .old 2, .op 0 0, .op 1 0, .op 2 0]) hst hb Zb
   (o_p rfl (Za rfl rfl u_0) <| o_p rfl (Z7 Try.underlying22 rfl rfl u_0) <| o_p rfl (Za rfl rfl c_i) <| o_n) (by kernel_rfl) (fun a g hst hb => ?_)
 obtain ⟨z10, hz1, H0⟩ := Zd H0
 refine Zbs (fun a w => ∃ (y9 : List Int) (g : G), w = g.w ∧ St 29 [(5, (pRow (Kd.int .i64) 3 5 y9))] a g ∧ Base g0 g ∧ y9 = z10) ?_ ?_
 · rintro a w ⟨y9, g, rfl, hst, hb, rfl⟩
   refine Zj ?_
   refine r_s (T := [⟨[.old 0], _, [], [], [28]⟩, ⟨[.op 0 0], _, [], [0], [4]⟩]) (F := [.op 1 0]) hst hb Zb
     (o_p rfl (Za rfl rfl u_0) <| o_p rfl (Zc rfl rfl u_0) <| o_n) (by kernel_rfl) (fun a g hst hb => ?_)
   refine wp_ret ?_
   obtain rfl := Option.some.inj H0
   exact Z6 rfl hst hb (Zl (s := 4)) (Zgt (hst.at 0 rfl))
 · refine wp_block ?_
   refine wp_loop_ghost (fun n a w => ∃ (x1 : List Int) (x2 : Int) (g : G), w = g.w ∧ St 29 [(1, (Kd.bool.sl.pd a1)), (5, (pRow (Kd.int .i64) 3 5 x1)), (7, (Zf.sl.pd a0)), (8, (pInt .i64 (a0.length : Int))), (9, (pInt .i64 x2))] a g ∧ Base g0 g ∧ Z9 a0 a1 n x1 x2 = some z10) (Int.toNat ((a0.length : Int) - (0 : Int)) + 1) ⟨([] : List Int), (0 : Int), g, rfl, (hst.pick [0, 1, 2, 3, 4] rfl), hb, hz1⟩ (fun n a w hI => ?_)
   obtain ⟨x1, x2, g, rfl, hst, hb, H1⟩ := hI
   cases n with
   | zero => exact absurd H1 (by simp [Z9])
   | succ n =>
     rw [Z9] at H1
     refine r_s (T := [⟨[.old 4, .old 3], _, [], [], [10]⟩]) (F := [.old 0, .old 1, .old 2, .old 3, .old 4, .op 0 0]) hst hb Zb
       (o_p rfl (Zcg rfl rfl u_0 u_1) <| o_n) (by kernel_rfl) (fun a g hst hb => ?_)
     refine wp_seq ?_
     refine wp_cond_split (hst.bool 5 rfl) (fun hc3 => ?_) (fun hc3 => ?_)
     · replace H1 := Z3 hc3 H1
       refine wp_skip ?_
       refine Zj ?_
       refine wp_seq ?_
       refine Zbs (fun a w => ∃ (j8 : List Int) (g : G), w = g.w ∧ St 29 [(1, (Kd.bool.sl.pd a1)), (5, (pRow (Kd.int .i64) 3 5 j8)), (7, (Zf.sl.pd a0)), (8, (pInt .i64 (a0.length : Int))), (9, (pInt .i64 x2))] a g ∧ Base g0 g ∧ Zc7 x2 (Z9 a0 a1 n) j8 = some z10) ?_ ?_
       · rintro a w ⟨j8, g, rfl, hst, hb, H1⟩
         unfold Zc7 at H1
         refine Zj ?_
         refine r_g (T := [⟨[.old 4], _, [], [], [27]⟩, ⟨[.op 0 0], _, [], [0], [9]⟩]) (F := [.old 0, .old 1, .old 2, .old 3, .op 1 0]) hst hb Zb
           (o_p rfl (Zbw rfl rfl u_0 c_i rfl) <| o_p rfl (Za rfl rfl u_0) <| o_n) (by kernel_rfl) (fun a g hst hb => ?_)
         exact ⟨n, Nat.lt_succ_self _, j8, (IntKind.i64.wrap (x2 + (1 : Int))), g, rfl, (hst.pick [0, 1, 2, 3, 4] rfl), hb, H1⟩
       · refine wp_block ?_
         refine r_s (L := [(1, _), (5, _), (7, _), (8, _), (9, _)]) (T := [⟨[.old 4], _, [], [], [11]⟩, ⟨[.op 0 0], _, [], [0], [6]⟩]) (F := [.old 0, .old 1, .op 1 0, .old 2, .old 3, .old 4]) (hst.pick [0, 1, 2, 3, 4] rfl) hb Zb
           (o_p rfl (Za rfl rfl u_0) <| o_p rfl (Zc rfl rfl u_0) <| o_n) (by kernel_rfl) (fun a g hst hb => ?_)
         obtain ⟨e4, h5, H1⟩ := Zd H1
         refine r_s (T := [⟨[.old 2], _, [], [], [12]⟩, ⟨[.old 0], _, [], [], [13]⟩, ⟨[.op 1 0], _, [], [1], [14]⟩, ⟨[.op 0 0, .op 2 0], _, [], [0, 1, 2], [15]⟩, ⟨[.op 3 0], _, [], Lr 4, [16]⟩, ⟨[.op 4 0, .old 0], _, [], Lr 5, [17]⟩, ⟨[.op 4 0, .old 2], _, [], Lr 5, [18]⟩, ⟨[.op 4 0, .op 5 0, .op 6 0], _, [], Lr 7, [19]⟩, ⟨[.op 4 0, .op 7 0], _, [], Lr 8, [20]⟩, ⟨[.op 4 0, .op 8 0], _, [], Lr 9, [21]⟩, ⟨[.op 4 0, .op 9 0], _, [], Lr 10, [22]⟩]) (F := [.old 0, .old 1, .old 2, .old 3, .old 4, .old 5, .op 10 0]) hst hb Zb
           (o_p rfl (Za rfl rfl u_0) <| o_p rfl (Za rfl rfl u_0) <| o_p rfl (Z7 Try.underlying38 rfl rfl u_0) <| o_p rfl (Zil rfl rfl u_0 u_1) <| o_p rfl (Za rfl rfl u_0) <| o_g (g_f rfl rfl rfl (fun hG => Za rfl rfl u_0)) <| o_g (g_f rfl rfl rfl (fun hG => Za rfl rfl u_0)) <| o_g (g_f rfl rfl rfl (fun hG => Zs Try.underlying38 sz_4 rfl rfl (Opd.gd hG u_0) (Opd.gd hG u_1) (Zbi h5 hG))) <| o_g (g_f rfl rfl rfl (fun hG => Zg ty_4 rfl rfl (Opd.gd hG u_0))) <| o_g (g_f rfl rfl rfl (fun hG => Zdu rfl rfl (Opd.gd hG u_0))) <| o_p rfl (Zce rfl rfl u_0 (fun hz => (Opd.gd (bNF hz) u_1))) <| o_n) (by kernel_rfl) (fun a g hst hb => ?_)
         refine wp_cond_split (hst.bool 6 rfl) (fun hc6 => ?_) (fun hc6 => ?_)
         · replace H1 := Z3 hc6 H1
           obtain ⟨h7, H1⟩ := Zfg H1
           refine r_g (L := [(1, _), (5, _), (6, _), (7, _), (8, _), (9, _)]) (T := [⟨[.old 1], _, [], [], [23]⟩, ⟨[.old 2], _, [], [], [24]⟩, ⟨[.op 1 0], _, [], [1], [25]⟩, ⟨[.op 0 0, .op 2 0], _, [6], [0, 1, 2], [5, 23, 26]⟩, ⟨[.op 3 0], _, [], Lr 4, [5]⟩]) (F := [.old 0, .op 4 0, .old 3, .old 4, .old 5]) (hst.pick [0, 1, 2, 3, 4, 5] rfl) hb Zb
             (o_p rfl (Za rfl rfl u_0) <| o_p rfl (Za rfl rfl u_0) <| o_p rfl (Zee Zdm (xs := [.tmp 24]) (.cons u_0 .nil) (by decide) rfl rfl) <| o_p rfl (Zfl Zdm rfl rfl u_0 u_1 h7) <| o_p rfl (Zc rfl rfl u_0) <| o_n) (by kernel_rfl) (fun a g hst hb => ?_)
           refine Z5 ?_
           exact ⟨(x1 ++ ([x2] : List Int)), g, rfl, (hst.pick [0, 1, 2, 3, 4] rfl), hb, H1⟩
         · replace H1 := Z2 hc6 H1
           refine wp_skip ?_
           refine Z5 ?_
           exact ⟨x1, g, rfl, (hst.pick [0, 1, 3, 4, 5] rfl), hb, H1⟩
     · replace H1 := Z2 hc3 H1
       refine wp_exit ?_
       refine Zz ?_
       refine Zz ?_
       refine Zbb ?_
       exact ⟨x1, g, rfl, (hst.pick [1] rfl), hb, Option.some.inj H1⟩
theorem Zgs (a0 : List ByteArray) (a1 : ByteArray) {r : Bool} (h : Zdd a0 a1 = some r) : FnOk Try.prog 26 [(Kd.str.sl.pd a0), (pStr a1)] (Zo r) := by
 have H0 := h
 unfold Zdd at H0
 clear h
 refine Zb1 (N := 18) Try.func26 rfl rfl (Nat.le_of_ble_eq_true rfl) rfl rfl (fun a g0 hst hb => ?_)
 refine r_s (T := [⟨[], _, [], [], [4]⟩]) (F := [.old 0, .old 1]) hst hb Zb
   (o_p rfl (Zc rfl rfl c_b) <| o_n) (by kernel_rfl) (fun a g hst hb => ?_)
 refine wp_seq ?_
 refine r_s (T := [⟨[], _, [], [], [5]⟩]) (F := [.old 0, .old 1, .op 0 0]) hst hb Zb
   (o_p rfl (Zc rfl rfl c_i) <| o_n) (by kernel_rfl) (fun a g hst hb => ?_)
 obtain ⟨z6, hz1, H0⟩ := Zd H0
 refine Zbs (fun a w => ∃ (g : G), w = g.w ∧ St 18 [] a g ∧ Base g0 g ∧ (.inr ()) = z6) ?_ ?_
 · rintro a w ⟨g, rfl, hst, hb, rfl⟩
   refine Zj ?_
   refine r_s (T := [⟨[], _, [], [], [4]⟩]) (F := [.op 0 0]) hst hb Zb
     (o_p rfl (Zc rfl rfl c_b) <| o_n) (by kernel_rfl) (fun a g hst hb => ?_)
   refine wp_ret ?_
   obtain rfl := Option.some.inj H0
   exact Z6 rfl hst hb (Zl (s := 4)) (hst.at 0 rfl)
 · refine wp_block ?_
   refine wp_loop_ghost (fun n a w => ∃ (x1 : Int) (g : G), w = g.w ∧ St 18 [(0, (Kd.str.sl.pd a0)), (1, (pStr a1)), (5, (pInt .i64 x1))] a g ∧ Base g0 g ∧ Zbo a0 a1 n x1 = some z6) (Int.toNat ((a0.length : Int) - (0 : Int)) + 1) ⟨(0 : Int), g, rfl, (hst.pick [0, 1, 2] rfl), hb, hz1⟩ (fun n a w hI => ?_)
   obtain ⟨x1, g, rfl, hst, hb, H1⟩ := hI
   cases n with
   | zero => exact absurd H1 (by simp [Zbo])
   | succ n =>
     rw [Zbo] at H1
     refine wp_seq ?_
     refine r_s (T := [⟨[.old 2], _, [], [], [6]⟩, ⟨[.old 0], _, [], [], [7]⟩, ⟨[.op 1 0], _, [], [1], [8]⟩, ⟨[.op 0 0, .op 2 0], _, [], [0, 1, 2], [9]⟩]) (F := [.old 0, .old 1, .old 2, .op 3 0]) hst hb Zb
       (o_p rfl (Za rfl rfl u_0) <| o_p rfl (Za rfl rfl u_0) <| o_p rfl (Z7 Try.underlying23 rfl rfl u_0) <| o_p rfl (Zcg rfl rfl u_0 u_1) <| o_n) (by kernel_rfl) (fun a g hst hb => ?_)
     refine wp_cond_split (hst.bool 3 rfl) (fun hc2 => ?_) (fun hc2 => ?_)
     · replace H1 := Z3 hc2 H1
       refine wp_skip ?_
       refine Zj ?_
       refine wp_seq ?_
       refine wp_block ?_
       obtain ⟨e3, h4, H1⟩ := Zd H1
       refine r_s (L := [(0, _), (1, _), (5, _)]) (T := [⟨[.old 0], _, [], [], [12]⟩, ⟨[.old 2], _, [], [], [13]⟩, ⟨[.op 0 0, .op 1 0], _, [], [0, 1], [14]⟩, ⟨[.op 2 0], _, [], [0, 1, 2], [15]⟩, ⟨[.old 1], _, [], [], [16]⟩, ⟨[.op 3 0, .op 4 0], _, [], Lr 5, [17]⟩]) (F := [.old 0, .old 1, .old 2, .op 5 0]) (hst.pick [0, 1, 2] rfl) hb Zb
         (o_p rfl (Za rfl rfl u_0) <| o_p rfl (Za rfl rfl u_0) <| o_p rfl (Zs Try.underlying23 sz_9 rfl rfl u_0 u_1 h4) <| o_p rfl (Zg ty_9 rfl rfl u_0) <| o_p rfl (Za rfl rfl u_0) <| o_p rfl (Zhp rfl rfl u_0 u_1) <| o_n) (by kernel_rfl) (fun a g hst hb => ?_)
       refine wp_cond_split (hst.bool 3 rfl) (fun hc5 => ?_) (fun hc5 => ?_)
       · replace H1 := Z3 hc5 H1
         refine r_s (L := []) (T := [⟨[], _, [], [], [4]⟩]) (F := [.op 0 0]) (hst.pick [] rfl) hb Zb
           (o_p rfl (Zc rfl rfl c_b) <| o_n) (by kernel_rfl) (fun a g hst hb => ?_)
         refine wp_ret ?_
         refine Zq ?_
         refine Zi ?_
         refine Zi ?_
         refine Zq ?_
         refine Zi ?_
         refine Zi ?_
         obtain rfl := Option.some.inj H1
         obtain rfl := Option.some.inj H0
         exact Z6 rfl hst hb (Zl (s := 4)) (hst.at 0 rfl)
       · replace H1 := Z2 hc5 H1
         refine wp_skip ?_
         refine Z5 ?_
         refine Zj ?_
         refine r_g (L := [(0, _), (1, _), (5, _)]) (T := [⟨[.old 2], _, [], [], [10]⟩, ⟨[.op 0 0], _, [], [0], [11]⟩, ⟨[.op 1 0], _, [], [0, 1], [5]⟩]) (F := [.old 0, .old 1, .op 2 0]) (hst.pick [0, 1, 2] rfl) hb Zb
           (o_p rfl (Za rfl rfl u_0) <| o_p rfl (Zbw rfl rfl u_0 c_i rfl) <| o_p rfl (Zc rfl rfl u_0) <| o_n) (by kernel_rfl) (fun a g hst hb => ?_)
         exact ⟨n, Nat.lt_succ_self _, (IntKind.i64.wrap (x1 + (1 : Int))), g, rfl, (hst.pick [0, 1, 2] rfl), hb, H1⟩
     · replace H1 := Z2 hc2 H1
       refine wp_exit ?_
       refine Zz ?_
       refine Zz ?_
       refine Zbb ?_
       exact ⟨g, rfl, (hst.pick [] rfl), hb, Option.some.inj H1⟩
theorem Zer (a0 : Int) {r : Bool} (h : Zcw a0 = some r) : FnOk Try.prog 27 [(pInt .i64 a0)] (Zo r) := by
 have H0 := h
 unfold Zcw at H0
 clear h
 refine Zb1 (N := 21) Try.func27 rfl rfl (Nat.le_of_ble_eq_true rfl) rfl rfl (fun a g0 hst hb => ?_)
 refine r_s (T := [⟨[], _, [], [], [2]⟩]) (F := [.old 0]) hst hb Zb
   (o_p rfl (Zc rfl rfl c_b) <| o_n) (by kernel_rfl) (fun a g hst hb => ?_)
 refine r_s (T := ⟨[.old 0], _, [], [], [3]⟩ :: ⟨[.op 0 0], _, [], [0], [4]⟩ :: ⟨[.op 1 0], _, [], [0, 1], [5]⟩ :: ⟨[.op 2 0, .old 0], _, [], [0, 1, 2], [6]⟩ :: ⟨[.op 2 0, .op 3 0], _, [], Lr 4, [7]⟩ :: ⟨[.op 2 0, .op 4 0], _, [], Lr 5, [8]⟩ :: ⟨[.op 5 0], _, [], Lr 6, [9]⟩ :: ⟨[.op 6 0, .old 0], _, [], Lr 7, [10]⟩ :: ⟨[.op 6 0, .op 7 0], _, [], Lr 8, [11]⟩ :: ⟨[.op 6 0, .op 8 0], _, [], Lr 9, [12]⟩ :: ⟨[.op 9 0], _, [], Lr 10, [13]⟩ :: ⟨[.op 10 0, .old 0], _, [], Lr 11, [14]⟩ :: ⟨[.op 10 0, .op 11 0], _, [], Lr 12, [15]⟩ :: ⟨[.op 10 0, .op 12 0], _, [], Lr 13, [16]⟩ :: ⟨[.op 13 0], _, [], Lr 14, [17]⟩ :: ⟨[.op 14 0, .old 0], _, [], Lr 15, [18]⟩ :: ⟨[.op 14 0, .op 15 0], _, [], Lr 16, [19]⟩ :: ⟨[.op 14 0, .op 16 0], _, [], Lr 17, [20]⟩ :: ⟨[.op 17 0], _, [], Lr 18, [2]⟩ :: []) (F := [.op 18 0]) hst hb Zb
   (o_p rfl (Za rfl rfl u_0) <| o_p rfl (Zcr rfl rfl u_0 c_i) <| o_p rfl (Za rfl rfl u_0) <| o_g (g_f rfl rfl rfl (fun hG => Za rfl rfl u_0)) <| o_g (g_f rfl rfl rfl (fun hG => Zcr rfl rfl (Opd.gd hG u_0) c_i)) <| o_p rfl (Zce rfl rfl u_0 (fun hz => (Opd.gd (bNF hz) u_1))) <| o_p rfl (Za rfl rfl u_0) <| o_g (g_f rfl rfl rfl (fun hG => Za rfl rfl u_0)) <| o_g (g_f rfl rfl rfl (fun hG => Zcr rfl rfl (Opd.gd hG u_0) c_i)) <| o_p rfl (Zce rfl rfl u_0 (fun hz => (Opd.gd (bNF hz) u_1))) <| o_p rfl (Za rfl rfl u_0) <| o_g (g_f rfl rfl rfl (fun hG => Za rfl rfl u_0)) <| o_g (g_f rfl rfl rfl (fun hG => Zcr rfl rfl (Opd.gd hG u_0) c_i)) <| o_p rfl (Zce rfl rfl u_0 (fun hz => (Opd.gd (bNF hz) u_1))) <| o_p rfl (Za rfl rfl u_0) <| o_g (g_f rfl rfl rfl (fun hG => Za rfl rfl u_0)) <| o_g (g_f rfl rfl rfl (fun hG => Zcr rfl rfl (Opd.gd hG u_0) c_i)) <| o_p rfl (Zce rfl rfl u_0 (fun hz => (Opd.gd (bNF hz) u_1))) <| o_p rfl (Zc rfl rfl u_0) <| o_n) (by kernel_rfl) (fun a g hst hb => ?_)
 refine wp_ret ?_
 obtain rfl := Option.some.inj H0
 exact Z6 rfl hst hb (Zl (s := 2)) (hst.at 0 rfl)
theorem Zeo (a0 : Ze) {r : Bool} (h : Zb7 a0 = some r) : FnOk Try.prog 28 [(Zf.pd a0)] (Zo r) := by
 have H0 := h
 unfold Zb7 at H0
 clear h
 refine Zb1 (N := 27) Try.func28 rfl rfl (Nat.le_of_ble_eq_true rfl) rfl rfl (fun a g0 hst hb => ?_)
 refine r_s (T := [⟨[.old 0], _, [], [], [1]⟩, ⟨[], _, [], [], [2]⟩]) (F := [.op 0 0]) hst hb Zb
   (o_p rfl (Zdn rfl rfl u_0) <| o_p rfl (Zc rfl rfl c_b) <| o_n) (by kernel_rfl) (fun a g hst hb => ?_)
 refine wp_seq ?_
 refine r_s (T := [⟨[], _, [], [], [3]⟩]) (F := [.old 0, .op 0 0]) hst hb Zb
   (o_p rfl (Zc rfl rfl c_i) <| o_n) (by kernel_rfl) (fun a g hst hb => ?_)
 obtain ⟨z8, hz1, H0⟩ := Zd H0
 refine Zbs (fun a w => ∃ (g : G), w = g.w ∧ St 27 [] a g ∧ Base g0 g ∧ (.inr ()) = z8) ?_ ?_
 · rintro a w ⟨g, rfl, hst, hb, rfl⟩
   refine Zj ?_
   refine r_s (T := [⟨[], _, [], [], [2]⟩]) (F := [.op 0 0]) hst hb Zb
     (o_p rfl (Zc rfl rfl c_b) <| o_n) (by kernel_rfl) (fun a g hst hb => ?_)
   refine wp_ret ?_
   obtain rfl := Option.some.inj H0
   exact Z6 rfl hst hb (Zl (s := 2)) (hst.at 0 rfl)
 · refine wp_block ?_
   refine wp_loop_ghost (fun n a w => ∃ (x1 : Int) (g : G), w = g.w ∧ St 27 [(1, (Zf.ptr a0)), (3, (pInt .i64 x1))] a g ∧ Base g0 g ∧ Zbh a0 n x1 = some z8) (Int.toNat ((a0.Acts.length : Int) - (0 : Int)) + 1) ⟨(0 : Int), g, rfl, (hst.pick [0, 1] rfl), hb, hz1⟩ (fun n a w hI => ?_)
   obtain ⟨x1, g, rfl, hst, hb, H1⟩ := hI
   cases n with
   | zero => exact absurd H1 (by simp [Zbh])
   | succ n =>
     rw [Zbh] at H1
     refine wp_seq ?_
     refine r_s (T := [⟨[.old 1], _, [], [], [4]⟩, ⟨[.old 0], _, [], [], [5]⟩, ⟨[.op 1 0], _, [], [1], [6]⟩, ⟨[.op 2 0], _, [], [1, 2], [7]⟩, ⟨[.op 0 0, .op 3 0], _, [], Lr 4, [8]⟩]) (F := [.old 0, .old 1, .op 4 0]) hst hb Zb
       (o_p rfl (Za rfl rfl u_0) <| o_p rfl (Zh Zc8 rfl rfl u_0) <| o_p rfl (Zg Zeh rfl rfl u_0) <| o_p rfl (Z7 Try.underlying41 rfl rfl u_0) <| o_p rfl (Zcg rfl rfl u_0 u_1) <| o_n) (by kernel_rfl) (fun a g hst hb => ?_)
     refine wp_cond_split (hst.bool 2 rfl) (fun hc2 => ?_) (fun hc2 => ?_)
     · replace H1 := Z3 hc2 H1
       refine wp_skip ?_
       refine Zj ?_
       refine wp_seq ?_
       refine wp_block ?_
       obtain ⟨e3, h4, H1⟩ := Zd H1; obtain ⟨e5, h6, H1⟩ := Zd H1
       refine r_s (L := [(1, _), (3, _)]) (T := ⟨[.old 0], _, [], [], [11]⟩ :: ⟨[.op 0 0], _, [], [0], [12]⟩ :: ⟨[.old 1], _, [], [], [13]⟩ :: ⟨[.op 1 0, .op 2 0], _, [], [0, 1, 2], [14]⟩ :: ⟨[.op 3 0], _, [], Lr 4, [15]⟩ :: ⟨[.op 4 0], _, [], Lr 5, [16]⟩ :: ⟨[.op 5 0], _, [], Lr 6, [17]⟩ :: ⟨[.op 6 0], _, [], Lr 7, [18]⟩ :: ⟨[.op 7 0, .old 0], _, [], Lr 8, [19]⟩ :: ⟨[.op 7 0, .op 8 0], _, [], Lr 9, [20]⟩ :: ⟨[.op 7 0, .old 1], _, [], Lr 8, [21]⟩ :: ⟨[.op 7 0, .op 9 0, .op 10 0], _, [], Lr 11, [22]⟩ :: ⟨[.op 7 0, .op 11 0], _, [], Lr 12, [23]⟩ :: ⟨[.op 7 0, .op 12 0], _, [], Lr 13, [24]⟩ :: ⟨[.op 7 0, .op 13 0], _, [], Lr 14, [25]⟩ :: ⟨[.op 7 0, .op 14 0], _, [], Lr 15, [26]⟩ :: []) (F := [.old 0, .old 1, .op 15 0]) (hst.pick [0, 1] rfl) hb Zb
         (o_p rfl (Zh Zc8 rfl rfl u_0) <| o_p rfl (Zg Zeh rfl rfl u_0) <| o_p rfl (Za rfl rfl u_0) <| o_p rfl (Zs Try.underlying41 Zfo rfl rfl u_0 u_1 h4) <| o_p rfl (Zh Zen rfl rfl u_0) <| o_p rfl (Zg ty_3 rfl rfl u_0) <| o_p rfl (Zcr rfl rfl u_0 c_i) <| o_p rfl (Za rfl rfl u_0) <| o_g (g_f rfl rfl rfl (fun hG => Zh Zc8 rfl rfl u_0)) <| o_g (g_f rfl rfl rfl (fun hG => Zg Zeh rfl rfl (Opd.gd hG u_0))) <| o_g (g_f rfl rfl rfl (fun hG => Za rfl rfl u_0)) <| o_g (g_f rfl rfl rfl (fun hG => Zs Try.underlying41 Zfo rfl rfl (Opd.gd hG u_0) (Opd.gd hG u_1) (Zbi h6 hG))) <| o_g (g_f rfl rfl rfl (fun hG => Zh Zen rfl rfl (Opd.gd hG u_0))) <| o_g (g_f rfl rfl rfl (fun hG => Zg ty_3 rfl rfl (Opd.gd hG u_0))) <| o_g (g_f rfl rfl rfl (fun hG => Zcr rfl rfl (Opd.gd hG u_0) c_i)) <| o_p rfl (Zce rfl rfl u_0 (fun hz => (Opd.gd (bNF hz) u_1))) <| o_n) (by kernel_rfl) (fun a g hst hb => ?_)
       refine wp_cond_split (hst.bool 2 rfl) (fun hc7 => ?_) (fun hc7 => ?_)
       · replace H1 := Z3 hc7 H1
         refine r_s (L := []) (T := [⟨[], _, [], [], [2]⟩]) (F := [.op 0 0]) (hst.pick [] rfl) hb Zb
           (o_p rfl (Zc rfl rfl c_b) <| o_n) (by kernel_rfl) (fun a g hst hb => ?_)
         refine wp_ret ?_
         refine Zq ?_
         refine Zi ?_
         refine Zi ?_
         refine Zq ?_
         refine Zi ?_
         refine Zi ?_
         obtain rfl := Option.some.inj H1
         obtain rfl := Option.some.inj H0
         exact Z6 rfl hst hb (Zl (s := 2)) (hst.at 0 rfl)
       · replace H1 := Z2 hc7 H1
         refine wp_skip ?_
         refine Z5 ?_
         refine Zj ?_
         refine r_g (L := [(1, _), (3, _)]) (T := [⟨[.old 1], _, [], [], [9]⟩, ⟨[.op 0 0], _, [], [0], [10]⟩, ⟨[.op 1 0], _, [], [0, 1], [3]⟩]) (F := [.old 0, .op 2 0]) (hst.pick [0, 1] rfl) hb Zb
           (o_p rfl (Za rfl rfl u_0) <| o_p rfl (Zbw rfl rfl u_0 c_i rfl) <| o_p rfl (Zc rfl rfl u_0) <| o_n) (by kernel_rfl) (fun a g hst hb => ?_)
         exact ⟨n, Nat.lt_succ_self _, (IntKind.i64.wrap (x1 + (1 : Int))), g, rfl, (hst.pick [0, 1] rfl), hb, H1⟩
     · replace H1 := Z2 hc2 H1
       refine wp_exit ?_
       refine Zz ?_
       refine Zz ?_
       refine Zbb ?_
       exact ⟨g, rfl, (hst.pick [] rfl), hb, Option.some.inj H1⟩
theorem Zgl (a0 : Ze) (a1 : Ze) (a2 : List ByteArray) {r : Bool} (h : Zcj a0 a1 a2 = some r) : FnOk Try.prog 19 [(Zf.pd a0), (Zf.pd a1), (Kd.str.sl.pd a2)] (Zo r) := by
 have H0 := h
 unfold Zcj at H0
 clear h
 refine Zb1 (N := 65) Try.func19 rfl rfl (Nat.le_of_ble_eq_true rfl) rfl rfl (fun a g0 hst hb => ?_)
 refine r_s (T := [⟨[.old 0], _, [], [], [3]⟩, ⟨[.old 1], _, [], [], [4]⟩, ⟨[], _, [], [], [6]⟩]) (F := [.old 2, .op 0 0, .op 1 0]) hst hb Zb
   (o_p rfl (Zdn rfl rfl u_0) <| o_p rfl (Zdn rfl rfl u_0) <| o_p rfl (Zc rfl rfl c_b) <| o_n) (by kernel_rfl) (fun a g hst hb => ?_)
 refine wp_seq ?_
 refine r_s (T := [⟨[], _, [], [], [7]⟩]) (F := [.old 0, .old 1, .old 2, .op 0 0]) hst hb Zb
   (o_p rfl (Zc rfl rfl c_i) <| o_n) (by kernel_rfl) (fun a g hst hb => ?_)
 obtain ⟨z17, hz1, H0⟩ := Zd H0
 refine Zbs (fun a w => ∃ (g : G), w = g.w ∧ St 65 [(3, (Zf.ptr a0)), (4, (Zf.ptr a1))] a g ∧ Base g0 g ∧ (.inr ()) = z17) ?_ ?_
 · rintro a w ⟨g, rfl, hst, hb, rfl⟩
   refine Zj ?_
   obtain ⟨r18, h19, H0⟩ := Zd H0; obtain ⟨r20, h21, H0⟩ := Zd H0
   refine r_s (T := [⟨[.old 0], _, [], [], [59]⟩, ⟨[.op 0 0], _, [], [0], [60]⟩, ⟨[.op 1 0], _, [], [0, 1], [61]⟩, ⟨[.op 2 0, .old 1], _, [], [0, 1, 2], [62]⟩, ⟨[.op 2 0, .op 3 0], _, [], Lr 4, [63]⟩, ⟨[.op 2 0, .op 4 0], _, [], Lr 5, [64]⟩, ⟨[.op 5 0], _, [], Lr 6, [6]⟩]) (F := [.op 6 0]) hst hb Zb
     (o_p rfl (Zg Zdl rfl rfl u_0) <| o_p rfl (Zbd Zmd (Zeo _ h19) rfl rfl (.cons u_0 .nil)) <| o_p rfl (Za rfl rfl u_0) <| o_g (g_t rfl rfl rfl (fun hG => Zg Zdl rfl rfl u_0)) <| o_g (g_t rfl rfl rfl (fun hG => Zbd Zmd (Zeo _ (Zbi h21 hG)) rfl rfl (.cons (Opd.gd hG u_0) .nil))) <| o_p rfl (Zb2 rfl rfl u_0 (fun hz => (Opd.gd hz u_1))) <| o_p rfl (Zc rfl rfl u_0) <| o_n) (by kernel_rfl) (fun a g hst hb => ?_)
   refine wp_ret ?_
   obtain rfl := Option.some.inj H0
   exact Z6 rfl hst hb (Zl (s := 6)) (hst.at 0 rfl)
 · refine wp_block ?_
   refine wp_loop_ghost (fun n a w => ∃ (x1 : Int) (g : G), w = g.w ∧ St 65 [(2, (Kd.str.sl.pd a2)), (3, (Zf.ptr a0)), (4, (Zf.ptr a1)), (7, (pInt .i64 x1))] a g ∧ Base g0 g ∧ Zbm a0 a1 a2 n x1 = some z17) (Int.toNat ((a0.Acts.length : Int) - (0 : Int)) + 1) ⟨(0 : Int), g, rfl, (hst.pick [0, 1, 2, 3] rfl), hb, hz1⟩ (fun n a w hI => ?_)
   obtain ⟨x1, g, rfl, hst, hb, H1⟩ := hI
   cases n with
   | zero => exact absurd H1 (by simp [Zbm])
   | succ n =>
     rw [Zbm] at H1
     refine wp_seq ?_
     refine r_s (T := [⟨[.old 3], _, [], [], [11]⟩, ⟨[.old 1], _, [], [], [12]⟩, ⟨[.op 1 0], _, [], [1], [13]⟩, ⟨[.op 2 0], _, [], [1, 2], [14]⟩, ⟨[.op 0 0, .op 3 0], _, [], Lr 4, [15]⟩]) (F := [.old 0, .old 1, .old 2, .old 3, .op 4 0]) hst hb Zb
       (o_p rfl (Za rfl rfl u_0) <| o_p rfl (Zh Zc8 rfl rfl u_0) <| o_p rfl (Zg Zeh rfl rfl u_0) <| o_p rfl (Z7 Try.underlying41 rfl rfl u_0) <| o_p rfl (Zcg rfl rfl u_0 u_1) <| o_n) (by kernel_rfl) (fun a g hst hb => ?_)
     refine wp_cond_split (hst.bool 4 rfl) (fun hc2 => ?_) (fun hc2 => ?_)
     · replace H1 := Z3 hc2 H1
       refine wp_skip ?_
       refine Zj ?_
       refine wp_seq ?_
       refine wp_block ?_
       refine r_s (L := [(2, _), (3, _), (4, _), (7, _)]) (T := [⟨[], _, [], [], [8]⟩]) (F := [.old 0, .old 1, .old 2, .old 3, .op 0 0]) (hst.pick [0, 1, 2, 3] rfl) hb Zb
         (o_p rfl (Zc rfl rfl c_i) <| o_n) (by kernel_rfl) (fun a g hst hb => ?_)
       obtain ⟨z16, hz2, H1⟩ := Zd H1
       refine Zbs (fun a w => ∃ (g : G), w = g.w ∧ St 65 [(2, (Kd.str.sl.pd a2)), (3, (Zf.ptr a0)), (4, (Zf.ptr a1)), (7, (pInt .i64 x1))] a g ∧ Base g0 g ∧ (.inr ()) = z16) ?_ ?_
       · rintro a w ⟨g, rfl, hst, hb, rfl⟩
         refine Z5 ?_
         refine Zj ?_
         refine r_g (T := [⟨[.old 3], _, [], [], [16]⟩, ⟨[.op 0 0], _, [], [0], [17]⟩, ⟨[.op 1 0], _, [], [0, 1], [7]⟩]) (F := [.old 0, .old 1, .old 2, .op 2 0]) hst hb Zb
           (o_p rfl (Za rfl rfl u_0) <| o_p rfl (Zbw rfl rfl u_0 c_i rfl) <| o_p rfl (Zc rfl rfl u_0) <| o_n) (by kernel_rfl) (fun a g hst hb => ?_)
         exact ⟨n, Nat.lt_succ_self _, (IntKind.i64.wrap (x1 + (1 : Int))), g, rfl, (hst.pick [0, 1, 2, 3] rfl), hb, H1⟩
       · refine wp_block ?_
         refine wp_loop_ghost (fun n a w => ∃ (x3 : Int) (g : G), w = g.w ∧ St 65 [(2, (Kd.str.sl.pd a2)), (3, (Zf.ptr a0)), (4, (Zf.ptr a1)), (7, (pInt .i64 x1)), (8, (pInt .i64 x3))] a g ∧ Base g0 g ∧ Zbg a0 a1 a2 x1 n x3 = some z16) (Int.toNat ((a1.Acts.length : Int) - (0 : Int)) + 1) ⟨(0 : Int), g, rfl, (hst.pick [0, 1, 2, 3, 4] rfl), hb, hz2⟩ (fun n a w hI => ?_)
         obtain ⟨x3, g, rfl, hst, hb, H2⟩ := hI
         cases n with
         | zero => exact absurd H2 (by simp [Zbg])
         | succ n =>
           rw [Zbg] at H2
           refine wp_seq ?_
           refine r_s (T := [⟨[.old 4], _, [], [], [18]⟩, ⟨[.old 2], _, [], [], [19]⟩, ⟨[.op 1 0], _, [], [1], [20]⟩, ⟨[.op 2 0], _, [], [1, 2], [21]⟩, ⟨[.op 0 0, .op 3 0], _, [], Lr 4, [22]⟩]) (F := [.old 0, .old 1, .old 2, .old 3, .old 4, .op 4 0]) hst hb Zb
             (o_p rfl (Za rfl rfl u_0) <| o_p rfl (Zh Zc8 rfl rfl u_0) <| o_p rfl (Zg Zeh rfl rfl u_0) <| o_p rfl (Z7 Try.underlying41 rfl rfl u_0) <| o_p rfl (Zcg rfl rfl u_0 u_1) <| o_n) (by kernel_rfl) (fun a g hst hb => ?_)
           refine wp_cond_split (hst.bool 5 rfl) (fun hc4 => ?_) (fun hc4 => ?_)
           · replace H2 := Z3 hc4 H2
             refine wp_skip ?_
             refine Zj ?_
             refine wp_seq ?_
             refine wp_block ?_
             obtain ⟨e5, h6, H2⟩ := Zd H2; obtain ⟨e7, h8, H2⟩ := Zd H2
             refine r_s (L := [(2, _), (3, _), (4, _), (7, _), (8, _)]) (T := ⟨[.old 1], _, [], [], [25]⟩ :: ⟨[.op 0 0], _, [], [0], [26]⟩ :: ⟨[.old 3], _, [], [], [27]⟩ :: ⟨[.op 1 0, .op 2 0], _, [], [0, 1, 2], [28]⟩ :: ⟨[.op 3 0], _, [], Lr 4, [29]⟩ :: ⟨[.old 2], _, [], [], [30]⟩ :: ⟨[.op 5 0], _, [], [5], [31]⟩ :: ⟨[.old 4], _, [], [], [32]⟩ :: ⟨[.op 6 0, .op 7 0], _, [], [5, 6, 7], [33]⟩ :: ⟨[.op 8 0], _, [], List.range' 5 4, [34]⟩ :: ⟨[], [(9, (pBox Zp 9 (default : Zm)))], [10], [], [9]⟩ :: ⟨[], [(10, (pBox Zp 10 (default : Zm)))], [11], [], [10]⟩ :: ⟨[.op 4 0, .op 10 0], _, [10], [0, 1, 2, 3, 4, 10, 11], [9]⟩ :: ⟨[.op 9 0, .op 11 0], _, [11], Lr 13, [10]⟩ :: []) (F := [.old 0, .old 1, .old 2, .old 3, .old 4, .op 12 0, .op 13 0]) (hst.pick [0, 1, 2, 3, 4] rfl) hb Zb
               (o_p rfl (Zh Zc8 rfl rfl u_0) <| o_p rfl (Zg Zeh rfl rfl u_0) <| o_p rfl (Za rfl rfl u_0) <| o_p rfl (Zs Try.underlying41 Zfo rfl rfl u_0 u_1 h6) <| o_p rfl (Zg Zeg rfl rfl u_0) <| o_p rfl (Zh Zc8 rfl rfl u_0) <| o_p rfl (Zg Zeh rfl rfl u_0) <| o_p rfl (Za rfl rfl u_0) <| o_p rfl (Zs Try.underlying41 Zfo rfl rfl u_0 u_1 h8) <| o_p rfl (Zg Zeg rfl rfl u_0) <| o_p rfl (Zd6 (zs := [.int .i64 0, .string ByteArray.empty, .int .i64 0, .float .f64 0, .string ByteArray.empty, .int .i64 0, .int .i64 0, .int .i64 0, .int .i64 0, .float .f64 0, .int .i64 0, .string ByteArray.empty, .slice none 0 0, .bool false]) (by kernel_rfl) (fun g => Zes g) rfl rfl) <| o_p rfl (Zd6 (zs := [.int .i64 0, .string ByteArray.empty, .int .i64 0, .float .f64 0, .string ByteArray.empty, .int .i64 0, .int .i64 0, .int .i64 0, .int .i64 0, .float .f64 0, .int .i64 0, .string ByteArray.empty, .slice none 0 0, .bool false]) (by kernel_rfl) (fun g => Zes g) rfl rfl) <| o_p rfl (Zdq Zeg rfl rfl u_1 u_0) <| o_p rfl (Zdq Zeg rfl rfl u_1 u_0) <| o_n) (by kernel_rfl) (fun a g hst hb => ?_)
             obtain ⟨r9, h10, H2⟩ := Zd H2; obtain ⟨r11, h12, H2⟩ := Zd H2; obtain ⟨r13, h14, H2⟩ := Zd H2
             refine r_s (T := ⟨[.old 5], _, [], [], [35]⟩ :: ⟨[.op 0 0], _, [], [0], [36]⟩ :: ⟨[.old 6], _, [], [], [37]⟩ :: ⟨[.op 2 0], _, [], [2], [38]⟩ :: ⟨[.op 1 0, .op 3 0], _, [], Lr 4, [39]⟩ :: ⟨[.op 4 0], _, [], Lr 5, [40]⟩ :: ⟨[.op 5 0, .old 0], _, [], Lr 6, [41]⟩ :: ⟨[.op 5 0, .old 5], _, [], Lr 6, [42]⟩ :: ⟨[.op 5 0, .op 7 0], _, [], [0, 1, 2, 3, 4, 5, 7], [43]⟩ :: ⟨[.op 5 0, .op 6 0, .op 8 0], _, [], Lr 9, [44]⟩ :: ⟨[.op 5 0, .op 9 0], _, [], Lr 10, [45]⟩ :: ⟨[.op 5 0, .op 10 0], _, [], Lr 11, [46]⟩ :: ⟨[.op 11 0], _, [], Lr 12, [47]⟩ :: ⟨[.op 12 0, .old 5], _, [], Lr 13, [48]⟩ :: ⟨[.op 12 0, .op 13 0], _, [], Lr 14, [49]⟩ :: ⟨[.op 12 0, .op 14 0], _, [], Lr 15, [50]⟩ :: ⟨[.op 12 0, .op 15 0], _, [], Lr 16, [51]⟩ :: ⟨[.op 12 0, .op 16 0], _, [], Lr 17, [52]⟩ :: ⟨[.op 17 0, .old 6], _, [], Lr 18, [53]⟩ :: ⟨[.op 17 0, .op 18 0], _, [], Lr 19, [54]⟩ :: ⟨[.op 17 0, .op 19 0], _, [], Lr 20, [55]⟩ :: ⟨[.op 17 0, .op 20 0], _, [], Lr 21, [56]⟩ :: ⟨[.op 12 0, .op 17 0, .op 21 0], _, [], Lr 22, [57]⟩ :: ⟨[.op 12 0, .op 22 0], _, [], Lr 23, [58]⟩ :: []) (F := [.old 0, .old 1, .old 2, .old 3, .old 4, .op 23 0]) hst hb Zb
               (o_p rfl (Zh Zew rfl rfl u_0) <| o_p rfl (Zg ty_9 rfl rfl u_0) <| o_p rfl (Zh Zew rfl rfl u_0) <| o_p rfl (Zg ty_9 rfl rfl u_0) <| o_p rfl (Zhp rfl rfl u_0 u_1) <| o_p rfl (Za rfl rfl u_0) <| o_g (g_t rfl rfl rfl (fun hG => Za rfl rfl u_0)) <| o_g (g_t rfl rfl rfl (fun hG => Zh Zew rfl rfl u_0)) <| o_g (g_t rfl rfl rfl (fun hG => Zg ty_9 rfl rfl (Opd.gd hG u_0))) <| o_g (g_t rfl rfl rfl (fun hG => Zbd Zoa (Zgs _ _ (Zbi h10 hG)) rfl rfl (.cons (Opd.gd hG u_0) (.cons (Opd.gd hG u_1) .nil)))) <| o_g (g_t rfl rfl rfl (fun hG => Zdu rfl rfl (Opd.gd hG u_0))) <| o_p rfl (Zb2 rfl rfl u_0 (fun hz => (Opd.gd hz u_1))) <| o_p rfl (Za rfl rfl u_0) <| o_g (g_t rfl rfl rfl (fun hG => Zh Zen rfl rfl u_0)) <| o_g (g_t rfl rfl rfl (fun hG => Zg ty_3 rfl rfl (Opd.gd hG u_0))) <| o_g (g_t rfl rfl rfl (fun hG => Zbd Zmf (Zer _ (Zbi h12 hG)) rfl rfl (.cons (Opd.gd hG u_0) .nil))) <| o_g (g_t rfl rfl rfl (fun hG => Zdu rfl rfl (Opd.gd hG u_0))) <| o_g (g_t rfl rfl rfl (fun hG => Za rfl rfl (Opd.gd hG u_0))) <| o_g (g_fi rfl rfl rfl (fun hG => Zh Zen rfl rfl u_0)) <| o_g (g_fi rfl rfl rfl (fun hG => Zg ty_3 rfl rfl (Opd.gd hG u_0))) <| o_g (g_fi rfl rfl rfl (fun hG => Zbd Zmf (Zer _ (Zbi h14 hG)) rfl rfl (.cons (Opd.gd hG u_0) .nil))) <| o_g (g_fi rfl rfl rfl (fun hG => Zdu rfl rfl (Opd.gd hG u_0))) <| o_g (g_t rfl rfl rfl (fun hG => Zce rfl rfl (Opd.gd hG u_0) (fun hz => (Opd.gd (bA hG (bNF hz)) u_1)))) <| o_p rfl (Zb2 rfl rfl u_0 (fun hz => (Opd.gd hz u_1))) <| o_n) (by kernel_rfl) (fun a g hst hb => ?_)
             refine wp_cond_split (hst.bool 5 rfl) (fun hc15 => ?_) (fun hc15 => ?_)
             · replace H2 := Z3 hc15 H2
               refine r_s (L := []) (T := [⟨[], _, [], [], [6]⟩]) (F := [.op 0 0]) (hst.pick [] rfl) hb Zb
                 (o_p rfl (Zc rfl rfl c_b) <| o_n) (by kernel_rfl) (fun a g hst hb => ?_)
               refine wp_ret ?_
               refine Zq ?_
               refine Zi ?_
               refine Zi ?_
               refine Zq ?_
               refine Zi ?_
               refine Zq ?_
               refine Zi ?_
               refine Zi ?_
               refine Zq ?_
               refine Zi ?_
               refine Zi ?_
               obtain rfl := Option.some.inj H2
               obtain rfl := Option.some.inj H1
               obtain rfl := Option.some.inj H0
               exact Z6 rfl hst hb (Zl (s := 6)) (hst.at 0 rfl)
             · replace H2 := Z2 hc15 H2
               refine wp_skip ?_
               refine Z5 ?_
               refine Zj ?_
               refine r_g (L := [(2, _), (3, _), (4, _), (7, _), (8, _)]) (T := [⟨[.old 4], _, [], [], [23]⟩, ⟨[.op 0 0], _, [], [0], [24]⟩, ⟨[.op 1 0], _, [], [0, 1], [8]⟩]) (F := [.old 0, .old 1, .old 2, .old 3, .op 2 0]) (hst.pick [0, 1, 2, 3, 4] rfl) hb Zb
                 (o_p rfl (Za rfl rfl u_0) <| o_p rfl (Zbw rfl rfl u_0 c_i rfl) <| o_p rfl (Zc rfl rfl u_0) <| o_n) (by kernel_rfl) (fun a g hst hb => ?_)
               exact ⟨n, Nat.lt_succ_self _, (IntKind.i64.wrap (x3 + (1 : Int))), g, rfl, (hst.pick [0, 1, 2, 3, 4] rfl), hb, H2⟩
           · replace H2 := Z2 hc4 H2
             refine wp_exit ?_
             refine Zz ?_
             refine Zz ?_
             refine Zbb ?_
             exact ⟨g, rfl, (hst.pick [0, 1, 2, 3] rfl), hb, Option.some.inj H2⟩
     · replace H1 := Z2 hc2 H1
       refine wp_exit ?_
       refine Zz ?_
       refine Zz ?_
       refine Zbb ?_
       exact ⟨g, rfl, (hst.pick [1, 2] rfl), hb, Option.some.inj H1⟩
theorem Zff (a0 : List Ze) (a1 : List ByteArray) (a2 : List Int) {r : Bool} (h : Zcu a0 a1 a2 = some r) : FnOk Try.prog 5 [(Zf.sl.pd a0), (Kd.str.sl.pd a1), ((Kd.int .i64).sl.pd a2)] (Zo r) := by
 have H0 := h
 unfold Zcu at H0
 clear h
 refine Zb1 (N := 75) Try.func5 rfl rfl (Nat.le_of_ble_eq_true rfl) rfl rfl (fun a g0 hst hb => ?_)
 refine r_s (T := [⟨[], _, [], [], [6]⟩]) (F := [.old 0, .old 1, .old 2]) hst hb Zb
   (o_p rfl (Zc rfl rfl c_b) <| o_n) (by kernel_rfl) (fun a g hst hb => ?_)
 refine wp_seq ?_
 obtain ⟨r1, h2, H0⟩ := Zd H0
 refine r_s (T := [⟨[], _, [], [], [12]⟩, ⟨[.op 0 0], _, [], [0], [13]⟩]) (F := [.old 0, .old 1, .old 2, .op 1 0]) hst hb Zb
   (o_p rfl (Zbd en_7 (Zf1 h2) rfl rfl .nil) <| o_p rfl (Zdu rfl rfl u_0) <| o_n) (by kernel_rfl) (fun a g hst hb => ?_)
 refine wp_cond_split (hst.bool 3 rfl) (fun hc3 => ?_) (fun hc3 => ?_)
 · replace H0 := Z3 hc3 H0
   refine r_s (L := []) (T := [⟨[], _, [], [], [6]⟩]) (F := [.op 0 0]) (hst.pick [] rfl) hb Zb
     (o_p rfl (Zc rfl rfl c_b) <| o_n) (by kernel_rfl) (fun a g hst hb => ?_)
   refine wp_ret ?_
   refine Zi ?_
   obtain rfl := Option.some.inj H0
   exact Z6 rfl hst hb (Zl (s := 6)) (hst.at 0 rfl)
 · replace H0 := Z2 hc3 H0
   refine wp_skip ?_
   refine Zj ?_
   refine wp_seq ?_
   obtain ⟨r4, h5, H0⟩ := Zd H0
   refine r_s (L := [(0, _), (1, _), (2, _)]) (T := ⟨[.old 0], _, [], [], [14]⟩ :: ⟨[.op 0 0], _, [], [0], [15]⟩ :: ⟨[.op 1 0], _, [], [0, 1], [16]⟩ :: ⟨[.op 2 0], _, [], [0, 1, 2], [17]⟩ :: ⟨[.op 3 0, .old 1], _, [], Lr 4, [18]⟩ :: ⟨[.op 3 0, .op 4 0], _, [], Lr 5, [19]⟩ :: ⟨[.op 3 0, .op 5 0], _, [], Lr 6, [20]⟩ :: ⟨[.op 3 0, .op 6 0], _, [], Lr 7, [21]⟩ :: ⟨[.op 7 0], _, [], Lr 8, [22]⟩ :: ⟨[.op 8 0, .old 2], _, [], Lr 9, [23]⟩ :: ⟨[.op 8 0, .op 9 0], _, [], Lr 10, [24]⟩ :: ⟨[.op 8 0, .op 10 0], _, [], Lr 11, [25]⟩ :: ⟨[.op 8 0, .op 11 0], _, [], Lr 12, [26]⟩ :: []) (F := [.old 0, .old 1, .old 2, .op 12 0]) (hst.pick [0, 1, 2] rfl) hb Zb
     (o_p rfl (Za rfl rfl u_0) <| o_p rfl (Zbd en_8 (Zgo _ h5) rfl rfl (.cons u_0 .nil)) <| o_p rfl (Zec rfl rfl u_0 c_i) <| o_p rfl (Za rfl rfl u_0) <| o_g (g_f rfl rfl rfl (fun hG => Za rfl rfl u_0)) <| o_g (g_f rfl rfl rfl (fun hG => Z7 Try.underlying23 rfl rfl (Opd.gd hG u_0))) <| o_g (g_f rfl rfl rfl (fun hG => Zec rfl rfl (Opd.gd hG u_0) c_i)) <| o_p rfl (Zce rfl rfl u_0 (fun hz => (Opd.gd (bNF hz) u_1))) <| o_p rfl (Za rfl rfl u_0) <| o_g (g_f rfl rfl rfl (fun hG => Za rfl rfl u_0)) <| o_g (g_f rfl rfl rfl (fun hG => Z7 Try.underlying24 rfl rfl (Opd.gd hG u_0))) <| o_g (g_f rfl rfl rfl (fun hG => Zec rfl rfl (Opd.gd hG u_0) c_i)) <| o_p rfl (Zce rfl rfl u_0 (fun hz => (Opd.gd (bNF hz) u_1))) <| o_n) (by kernel_rfl) (fun a g hst hb => ?_)
   refine wp_cond_split (hst.bool 3 rfl) (fun hc6 => ?_) (fun hc6 => ?_)
   · replace H0 := Z3 hc6 H0
     refine r_s (L := []) (T := [⟨[], _, [], [], [6]⟩]) (F := [.op 0 0]) (hst.pick [] rfl) hb Zb
       (o_p rfl (Zc rfl rfl c_b) <| o_n) (by kernel_rfl) (fun a g hst hb => ?_)
     refine wp_ret ?_
     refine Zi ?_
     obtain rfl := Option.some.inj H0
     exact Z6 rfl hst hb (Zl (s := 6)) (hst.at 0 rfl)
   · replace H0 := Z2 hc6 H0
     refine wp_skip ?_
     refine Zj ?_
     obtain ⟨r7, h8, H0⟩ := Zd H0; obtain ⟨r9, h10, H0⟩ := Zd H0
     refine r_s (L := [(0, _), (1, _), (2, _)]) (T := [⟨[.old 0], _, [], [], [27]⟩, ⟨[.old 0], _, [], [], [28]⟩, ⟨[.op 1 0], [(29, ((Kd.int .i64).sl.pd r7))], [], [1], [29]⟩, ⟨[.old 1], _, [], [], [30]⟩, ⟨[.op 0 0, .op 2 0, .op 3 0], [(31, (pObj Zx 31 r9))], [32, 1000032], Lr 4, [31]⟩, ⟨[.op 4 0], [(7, (pObj Zx 31 r9))], [], Lr 5, [7]⟩]) (F := [.old 0, .old 1, .old 2, .op 5 0]) (hst.pick [0, 1, 2] rfl) hb Zb
       (o_p rfl (Za rfl rfl u_0) <| o_p rfl (Za rfl rfl u_0) <| o_p rfl (Zbd en_9 (Zgi _ _ h8) rfl rfl (.cons u_0 (.cons (Opd.c (fun g => Zfi g)) .nil))) <| o_p rfl (Za rfl rfl u_0) <| o_p rfl (Zf3 Zkl (Zft _ _ _ h10) rfl rfl (.cons u_0 (.cons u_1 (.cons u_2 .nil)))) <| o_p rfl (Zc rfl rfl u_0) <| o_n) (by kernel_rfl) (fun a g hst hb => ?_)
     refine wp_seq ?_
     obtain ⟨h11, H0⟩ := Zfg H0
     refine r_s (T := [⟨[], _, [33], [], [32]⟩, ⟨[.old 2], _, [], [], [33]⟩, ⟨[.op 0 0, .op 1 0], _, [33], [0, 1], [32, 34]⟩, ⟨[.op 2 0], _, [], [0, 1, 2], [35]⟩, ⟨[], _, [], [], [36]⟩]) (F := [.old 0, .old 1, .old 3, .op 2 0, .op 3 0, .op 4 0]) hst hb Zb
       (o_p rfl (Zkp 32 Zdm (xs := [.const (.int .i64 (-1))]) (.cons c_i .nil) (by decide) rfl rfl) <| o_p rfl (Za rfl rfl u_0) <| o_p rfl (Zfl Zdm rfl rfl u_0 u_1 h11) <| o_p rfl (Z7 Try.underlying24 rfl rfl (Opd.imp u_0 (fun _ _ h => Zgt h))) <| o_p rfl (Za rfl rfl c_i) <| o_n) (by kernel_rfl) (fun a g hst hb => ?_)
     obtain ⟨z36, hz1, H0⟩ := Zd H0
     refine Zbs (fun a w => ∃ (g : G), w = g.w ∧ St 75 [] a g ∧ Base g0 g ∧ (.inr ()) = z36) ?_ ?_
     · rintro a w ⟨g, rfl, hst, hb, rfl⟩
       refine Zj ?_
       refine r_s (T := [⟨[], _, [], [], [6]⟩]) (F := [.op 0 0]) hst hb Zb
         (o_p rfl (Zc rfl rfl c_b) <| o_n) (by kernel_rfl) (fun a g hst hb => ?_)
       refine wp_ret ?_
       obtain rfl := Option.some.inj H0
       exact Z6 rfl hst hb (Zl (s := 6)) (hst.at 0 rfl)
     · refine wp_block ?_
       refine wp_loop_ghost (fun n a w => ∃ (x12 : Z1) (x13 : Int) (g : G), w = g.w ∧ St 75 [(0, (Zf.sl.pd a0)), (1, (Kd.str.sl.pd a1)), (7, (pObj Zx 31 x12)), (34, (pRow (Kd.int .i64) 3 32 (([(-1 : Int)] : List Int) ++ a2))), (35, (pInt .i64 ((([(-1 : Int)] : List Int) ++ a2).length : Int))), (36, (pInt .i64 x13))] a g ∧ Base g0 g ∧ Z8 a0 a1 a2 n x12 x13 = some z36) (Int.toNat (((([(-1 : Int)] : List Int) ++ a2).length : Int) - (0 : Int)) + 1) ⟨r9, (0 : Int), g, rfl, (hst.pick [0, 1, 2, 3, 4, 5] rfl), hb, hz1⟩ (fun n a w hI => ?_)
       obtain ⟨x12, x13, g, rfl, hst, hb, H1⟩ := hI
       cases n with
       | zero => exact absurd H1 (by simp [Z8])
       | succ n =>
         rw [Z8] at H1
         refine r_s (T := [⟨[.old 5, .old 4], _, [], [], [37]⟩]) (F := [.old 0, .old 1, .old 2, .old 3, .old 4, .old 5, .op 0 0]) hst hb Zb
           (o_p rfl (Zcg rfl rfl u_0 u_1) <| o_n) (by kernel_rfl) (fun a g hst hb => ?_)
         refine wp_seq ?_
         refine wp_cond_split (hst.bool 6 rfl) (fun hc14 => ?_) (fun hc14 => ?_)
         · replace H1 := Z3 hc14 H1
           refine wp_skip ?_
           refine Zj ?_
           refine wp_seq ?_
           refine wp_block ?_
           obtain ⟨e15, h16, H1⟩ := Zd H1
           refine r_s (L := [(0, _), (1, _), (7, _), (34, _), (35, _), (36, _)]) (T := [⟨[.old 3, .old 5], _, [], [], [38]⟩, ⟨[.op 0 0], _, [], [0], [39]⟩, ⟨[.op 1 0], _, [], [0, 1], [9]⟩]) (F := [.old 0, .old 1, .old 2, .op 2 0, .old 3, .old 4, .old 5]) (hst.pick [0, 1, 2, 3, 4, 5] rfl) hb Zb
             (o_p rfl (Zs Try.underlying24 sz_3 rfl rfl (Opd.imp u_0 (fun _ _ h => Zgt h)) u_1 h16) <| o_p rfl (Zg ty_3 rfl rfl u_0) <| o_p rfl (Zc rfl rfl u_0) <| o_n) (by kernel_rfl) (fun a g hst hb => ?_)
           obtain ⟨r17, h18, H1⟩ := Zd H1
           refine r_s (T := [⟨[.old 2], [(40, (pObj Zx 31 x12))], [], [], [40]⟩, ⟨[.old 3], _, [], [], [41]⟩, ⟨[.op 0 0, .op 1 0, .old 2], [(42, (Zo r17.2)), (7, (pObj Zx 31 r17.1))], [32, 1000032], [0, 1], [7, 40, 42]⟩]) (F := [.old 0, .old 1, .op 2 1, .old 4, .old 5, .old 6]) hst hb Zb
             (o_p rfl (Za rfl rfl u_0) <| o_p rfl (Za rfl rfl u_0) <| o_p rfl (Zcl Zin (Zdk _ _ h18) rfl rfl rfl (by decide) u_2 u_0 (.cons u_1 .nil)) <| o_n) (by kernel_rfl) (fun a g hst hb => ?_)
           refine r_s (T := [⟨[.old 0], _, [], [], [43]⟩, ⟨[.op 0 0], _, [], [0], [44]⟩, ⟨[], _, [], [], [45]⟩]) (F := [.old 0, .old 1, .old 2, .old 3, .old 4, .old 5, .op 0 0, .op 1 0, .op 2 0]) hst hb Zb
             (o_p rfl (Za rfl rfl u_0) <| o_p rfl (Z7 Try.underlying22 rfl rfl u_0) <| o_p rfl (Za rfl rfl c_i) <| o_n) (by kernel_rfl) (fun a g hst hb => ?_)
           obtain ⟨z35, hz2, H1⟩ := Zd H1
           refine Zbs (fun a w => ∃ (g : G), w = g.w ∧ St 75 [(0, (Zf.sl.pd a0)), (1, (Kd.str.sl.pd a1)), (7, (pObj Zx 31 r17.1)), (34, (pRow (Kd.int .i64) 3 32 (([(-1 : Int)] : List Int) ++ a2))), (35, (pInt .i64 ((([(-1 : Int)] : List Int) ++ a2).length : Int))), (36, (pInt .i64 x13))] a g ∧ Base g0 g ∧ (.inr ()) = z35) ?_ ?_
           · rintro a w ⟨g, rfl, hst, hb, rfl⟩
             refine Z5 ?_
             refine Zj ?_
             refine r_g (T := [⟨[.old 5], _, [], [], [74]⟩, ⟨[.op 0 0], _, [], [0], [36]⟩]) (F := [.old 0, .old 1, .old 2, .old 3, .old 4, .op 1 0]) hst hb Zb
               (o_p rfl (Zbw rfl rfl u_0 c_i rfl) <| o_p rfl (Za rfl rfl u_0) <| o_n) (by kernel_rfl) (fun a g hst hb => ?_)
             exact ⟨n, Nat.lt_succ_self _, r17.1, (IntKind.i64.wrap (x13 + (1 : Int))), g, rfl, (hst.pick [0, 1, 2, 3, 4, 5] rfl), hb, H1⟩
           · refine wp_block ?_
             refine wp_loop_ghost (fun n a w => ∃ (x19 : Int) (g : G), w = g.w ∧ St 75 [(0, (Zf.sl.pd a0)), (1, (Kd.str.sl.pd a1)), (7, (pObj Zx 31 r17.1)), (34, (pRow (Kd.int .i64) 3 32 (([(-1 : Int)] : List Int) ++ a2))), (35, (pInt .i64 ((([(-1 : Int)] : List Int) ++ a2).length : Int))), (36, (pInt .i64 x13)), (43, (Zf.sl.pd a0)), (44, (pInt .i64 (a0.length : Int))), (45, (pInt .i64 x19))] a g ∧ Base g0 g ∧ Zv a0 a1 r17 n x19 = some z35) (Int.toNat ((a0.length : Int) - (0 : Int)) + 1) ⟨(0 : Int), g, rfl, (hst.pick [0, 1, 2, 3, 4, 5, 6, 7, 8] rfl), hb, hz2⟩ (fun n a w hI => ?_)
             obtain ⟨x19, g, rfl, hst, hb, H2⟩ := hI
             cases n with
             | zero => exact absurd H2 (by simp [Zv])
             | succ n =>
               rw [Zv] at H2
               refine r_s (T := [⟨[.old 8, .old 7], _, [], [], [46]⟩]) (F := [.old 0, .old 1, .old 2, .old 3, .old 4, .old 5, .old 6, .old 7, .old 8, .op 0 0]) hst hb Zb
                 (o_p rfl (Zcg rfl rfl u_0 u_1) <| o_n) (by kernel_rfl) (fun a g hst hb => ?_)
               refine wp_seq ?_
               refine wp_cond_split (hst.bool 9 rfl) (fun hc20 => ?_) (fun hc20 => ?_)
               · replace H2 := Z3 hc20 H2
                 refine wp_skip ?_
                 refine Zj ?_
                 refine wp_seq ?_
                 refine wp_block ?_
                 refine r_s (L := [(0, _), (1, _), (7, _), (34, _), (35, _), (36, _), (43, _), (44, _), (45, _)]) (T := [⟨[.old 8], _, [], [], [47]⟩, ⟨[.op 0 0], _, [], [0], [10]⟩]) (F := [.old 0, .old 1, .old 2, .op 1 0, .old 3, .old 4, .old 5, .old 6, .old 7, .old 8]) (hst.pick [0, 1, 2, 3, 4, 5, 6, 7, 8] rfl) hb Zb
                   (o_p rfl (Za rfl rfl u_0) <| o_p rfl (Zc rfl rfl u_0) <| o_n) (by kernel_rfl) (fun a g hst hb => ?_)
                 refine r_s (T := [⟨[.old 3], _, [], [], [48]⟩, ⟨[], _, [], [], [49]⟩]) (F := [.old 0, .old 1, .old 2, .old 3, .old 4, .old 5, .old 6, .old 7, .old 8, .old 9, .op 0 0, .op 1 0]) hst hb Zb
                   (o_p rfl (Za rfl rfl u_0) <| o_p rfl (Za rfl rfl c_i) <| o_n) (by kernel_rfl) (fun a g hst hb => ?_)
                 obtain ⟨z34, hz3, H2⟩ := Zd H2
                 refine Zbs (fun a w => ∃ (g : G), w = g.w ∧ St 75 [(0, (Zf.sl.pd a0)), (1, (Kd.str.sl.pd a1)), (7, (pObj Zx 31 r17.1)), (34, (pRow (Kd.int .i64) 3 32 (([(-1 : Int)] : List Int) ++ a2))), (35, (pInt .i64 ((([(-1 : Int)] : List Int) ++ a2).length : Int))), (36, (pInt .i64 x13)), (43, (Zf.sl.pd a0)), (44, (pInt .i64 (a0.length : Int))), (45, (pInt .i64 x19))] a g ∧ Base g0 g ∧ (.inr ()) = z34) ?_ ?_
                 · rintro a w ⟨g, rfl, hst, hb, rfl⟩
                   refine Z5 ?_
                   refine Zj ?_
                   refine r_g (T := [⟨[.old 8], _, [], [], [73]⟩, ⟨[.op 0 0], _, [], [0], [45]⟩]) (F := [.old 0, .old 1, .old 2, .old 3, .old 4, .old 5, .old 6, .old 7, .op 1 0]) hst hb Zb
                     (o_p rfl (Zbw rfl rfl u_0 c_i rfl) <| o_p rfl (Za rfl rfl u_0) <| o_n) (by kernel_rfl) (fun a g hst hb => ?_)
                   exact ⟨n, Nat.lt_succ_self _, (IntKind.i64.wrap (x19 + (1 : Int))), g, rfl, (hst.pick [0, 1, 2, 3, 4, 5, 6, 7, 8] rfl), hb, H2⟩
                 · refine wp_block ?_
                   refine wp_loop_ghost (fun n a w => ∃ (x21 : Int) (g : G), w = g.w ∧ St 75 [(0, (Zf.sl.pd a0)), (1, (Kd.str.sl.pd a1)), (7, (pObj Zx 31 r17.1)), (10, (pInt .i64 x19)), (34, (pRow (Kd.int .i64) 3 32 (([(-1 : Int)] : List Int) ++ a2))), (35, (pInt .i64 ((([(-1 : Int)] : List Int) ++ a2).length : Int))), (36, (pInt .i64 x13)), (43, (Zf.sl.pd a0)), (44, (pInt .i64 (a0.length : Int))), (45, (pInt .i64 x19)), (48, (pInt .i64 x19)), (49, (pInt .i64 x21))] a g ∧ Base g0 g ∧ Zu a0 a1 r17 x19 n x21 = some z34) (Int.toNat (x19 - (0 : Int)) + 1) ⟨(0 : Int), g, rfl, (hst.pick [0, 1, 2, 3, 4, 5, 6, 7, 8, 9, 10, 11] rfl), hb, hz3⟩ (fun n a w hI => ?_)
                   obtain ⟨x21, g, rfl, hst, hb, H3⟩ := hI
                   cases n with
                   | zero => exact absurd H3 (by simp [Zu])
                   | succ n =>
                     rw [Zu] at H3
                     refine r_s (T := [⟨[.old 11, .old 10], _, [], [], [50]⟩]) (F := [.old 0, .old 1, .old 2, .old 3, .old 4, .old 5, .old 6, .old 7, .old 8, .old 9, .old 10, .old 11, .op 0 0]) hst hb Zb
                       (o_p rfl (Zcg rfl rfl u_0 u_1) <| o_n) (by kernel_rfl) (fun a g hst hb => ?_)
                     refine wp_seq ?_
                     refine wp_cond_split (hst.bool 12 rfl) (fun hc22 => ?_) (fun hc22 => ?_)
                     · replace H3 := Z3 hc22 H3
                       refine wp_skip ?_
                       refine Zj ?_
                       refine wp_seq ?_
                       refine wp_block ?_
                       refine r_s (L := [(0, _), (1, _), (7, _), (10, _), (34, _), (35, _), (36, _), (43, _), (44, _), (45, _), (48, _), (49, _)]) (T := [⟨[.old 11], _, [], [], [51]⟩, ⟨[.op 0 0], _, [], [0], [11]⟩]) (F := [.old 0, .old 1, .old 2, .old 3, .op 1 0, .old 4, .old 5, .old 6, .old 7, .old 8, .old 9, .old 10, .old 11]) (hst.pick [0, 1, 2, 3, 4, 5, 6, 7, 8, 9, 10, 11] rfl) hb Zb
                         (o_p rfl (Za rfl rfl u_0) <| o_p rfl (Zc rfl rfl u_0) <| o_n) (by kernel_rfl) (fun a g hst hb => ?_)
                       obtain ⟨r23, h24, H3⟩ := Zd H3; obtain ⟨r25, h26, H3⟩ := Zd H3; obtain ⟨e27, h28, H3⟩ := Zd H3; obtain ⟨e29, h30, H3⟩ := Zd H3; obtain ⟨r31, h32, H3⟩ := Zd H3
                       refine r_s (T := ⟨[.old 2], [(52, (pObj Zx 31 r17.1))], [], [], [52]⟩ :: ⟨[.old 3], _, [], [], [53]⟩ :: ⟨[.op 0 0, .op 1 0, .old 2], [(54, (Zo r23)), (7, (pObj Zx 31 r17.1))], [32, 1000032], [0, 1], [7, 52, 54]⟩ :: ⟨[.op 2 0], _, [], [0, 1, 2], [55]⟩ :: ⟨[.op 3 0, .op 2 1], [(56, (pIf r23 (pObj Zx 31 r17.1)))], [], Lr 4, [56]⟩ :: ⟨[.op 3 0, .old 4], _, [], Lr 4, [57]⟩ :: ⟨[.op 3 0, .op 4 0, .op 5 0, .op 2 1], [(58, (pIf r23 (Zo r25))), (7, (pObj Zx 31 r17.1))], [32, 1000032], Lr 6, [7, 52, 56, 58]⟩ :: ⟨[.op 3 0, .op 6 0], _, [], Lr 7, [59]⟩ :: ⟨[.op 7 0], _, [], Lr 8, [60]⟩ :: ⟨[.op 8 0, .old 0], _, [], Lr 9, [61]⟩ :: ⟨[.op 8 0, .old 4], _, [], Lr 9, [62]⟩ :: ⟨[.op 8 0, .op 9 0, .op 10 0], _, [], Lr 11, [63]⟩ :: ⟨[.op 8 0, .op 11 0], _, [], Lr 12, [64]⟩ :: ⟨[.op 8 0, .old 0], _, [], Lr 9, [65]⟩ :: ⟨[.op 8 0, .old 3], _, [], Lr 9, [66]⟩ :: ⟨[.op 8 0, .op 13 0, .op 14 0], _, [], [0, 1, 2, 3, 4, 5, 6, 7, 8, 13, 14], [67]⟩ :: ⟨[.op 8 0, .op 15 0], _, [], 0 :: 1 :: 2 :: 3 :: 4 :: 5 :: 6 :: 7 :: 8 :: 13 :: 14 :: 15 :: [], [68]⟩ :: ⟨[.op 8 0, .old 1], _, [], Lr 9, [69]⟩ :: ⟨[.op 8 0, .op 12 0, .op 16 0, .op 17 0], _, [], Lr 18, [70]⟩ :: ⟨[.op 8 0, .op 18 0], _, [], Lr 19, [71]⟩ :: []) (F := [.old 0, .old 1, .op 6 1, .old 3, .old 5, .old 6, .old 7, .old 8, .old 9, .old 10, .old 11, .old 12, .op 19 0]) hst hb Zb
                         (o_p rfl (Za rfl rfl u_0) <| o_p rfl (Za rfl rfl u_0) <| o_p rfl (Zcl Zg7 (Zcq _ _ h24) rfl rfl rfl (by decide) u_2 u_0 (.cons u_1 .nil)) <| o_p rfl (Za rfl rfl u_0) <| o_g (g_t rfl rfl rfl (fun hG => Za rfl rfl u_0)) <| o_g (g_t rfl rfl rfl (fun hG => Za rfl rfl u_0)) <| o_g (OT.guardM r23 (gT r23).1 (gT r23).2 rfl rfl rfl (by decide) u_2 (fun hG => Zcl Zg7 (Zcq _ _ (Zbi h26 hG)) rfl rfl rfl (by decide) u_2 (Opd.gd hG u_0) (.cons (Opd.gd hG u_1) .nil)) (ite_self _).symm) <| o_p rfl (Zb2 rfl rfl u_0 (fun hz => (Opd.gd hz u_1))) <| o_p rfl (Za rfl rfl u_0) <| o_g (g_t rfl rfl rfl (fun hG => Za rfl rfl u_0)) <| o_g (g_t rfl rfl rfl (fun hG => Za rfl rfl u_0)) <| o_g (g_t rfl rfl rfl (fun hG => Zs Try.underlying22 Zho rfl rfl (Opd.gd hG u_0) (Opd.gd hG u_1) (Zbi h28 hG))) <| o_g (g_t rfl rfl rfl (fun hG => Zg Zdl rfl rfl (Opd.gd hG u_0))) <| o_g (g_t rfl rfl rfl (fun hG => Za rfl rfl u_0)) <| o_g (g_t rfl rfl rfl (fun hG => Za rfl rfl u_0)) <| o_g (g_t rfl rfl rfl (fun hG => Zs Try.underlying22 Zho rfl rfl (Opd.gd hG u_0) (Opd.gd hG u_1) (Zbi h30 hG))) <| o_g (g_t rfl rfl rfl (fun hG => Zg Zdl rfl rfl (Opd.gd hG u_0))) <| o_g (g_t rfl rfl rfl (fun hG => Za rfl rfl u_0)) <| o_g (g_t rfl rfl rfl (fun hG => Zbd Znj (Zgl _ _ _ (Zbi h32 hG)) rfl rfl (.cons (Opd.gd hG u_0) (.cons (Opd.gd hG u_1) (.cons (Opd.gd hG u_2) .nil))))) <| o_p rfl (Zb2 rfl rfl u_0 (fun hz => (Opd.gd hz u_1))) <| o_n) (by kernel_rfl) (fun a g hst hb => ?_)
                       refine wp_cond_split (hst.bool 12 rfl) (fun hc33 => ?_) (fun hc33 => ?_)
                       · replace H3 := Z3 hc33 H3
                         refine r_s (L := []) (T := [⟨[], _, [], [], [6]⟩]) (F := [.op 0 0]) (hst.pick [] rfl) hb Zb
                           (o_p rfl (Zc rfl rfl c_b) <| o_n) (by kernel_rfl) (fun a g hst hb => ?_)
                         refine wp_ret ?_
                         refine Zq ?_
                         refine Zi ?_
                         refine Zi ?_
                         refine Zq ?_
                         refine Zi ?_
                         refine Zq ?_
                         refine Zi ?_
                         refine Zi ?_
                         refine Zq ?_
                         refine Zi ?_
                         refine Zq ?_
                         refine Zi ?_
                         refine Zi ?_
                         refine Zq ?_
                         refine Zi ?_
                         refine Zi ?_
                         obtain rfl := Option.some.inj H3
                         obtain rfl := Option.some.inj H2
                         obtain rfl := Option.some.inj H1
                         obtain rfl := Option.some.inj H0
                         exact Z6 rfl hst hb (Zl (s := 6)) (hst.at 0 rfl)
                       · replace H3 := Z2 hc33 H3
                         refine wp_skip ?_
                         refine Z5 ?_
                         refine Zj ?_
                         refine r_g (L := [(0, _), (1, _), (7, _), (10, _), (34, _), (35, _), (36, _), (43, _), (44, _), (45, _), (48, _), (49, _)]) (T := [⟨[.old 11], _, [], [], [72]⟩, ⟨[.op 0 0], _, [], [0], [49]⟩]) (F := [.old 0, .old 1, .old 2, .old 3, .old 4, .old 5, .old 6, .old 7, .old 8, .old 9, .old 10, .op 1 0]) (hst.pick [0, 1, 2, 3, 4, 5, 6, 7, 8, 9, 10, 11] rfl) hb Zb
                           (o_p rfl (Zbw rfl rfl u_0 c_i rfl) <| o_p rfl (Za rfl rfl u_0) <| o_n) (by kernel_rfl) (fun a g hst hb => ?_)
                         exact ⟨n, Nat.lt_succ_self _, (IntKind.i64.wrap (x21 + (1 : Int))), g, rfl, (hst.pick [0, 1, 2, 3, 4, 5, 6, 7, 8, 9, 10, 11] rfl), hb, H3⟩
                     · replace H3 := Z2 hc22 H3
                       refine wp_exit ?_
                       refine Zz ?_
                       refine Zz ?_
                       refine Zbb ?_
                       exact ⟨g, rfl, (hst.pick [0, 1, 2, 4, 5, 6, 7, 8, 9] rfl), hb, Option.some.inj H3⟩
               · replace H2 := Z2 hc20 H2
                 refine wp_exit ?_
                 refine Zz ?_
                 refine Zz ?_
                 refine Zbb ?_
                 exact ⟨g, rfl, (hst.pick [0, 1, 2, 3, 4, 5] rfl), hb, Option.some.inj H2⟩
         · replace H1 := Z2 hc14 H1
           refine wp_exit ?_
           refine Zz ?_
           refine Zz ?_
           refine Zbb ?_
           exact ⟨g, rfl, (hst.pick [] rfl), hb, Option.some.inj H1⟩
end Go.CL
namespace Go.CL
open Go
theorem wr {x : Int} (h1 : -9223372036854775808 ≤ x) (h2 : x ≤ 9223372036854775807) : IntKind.i64.wrap x = x := by
 rw [IntKind.wrap_i64]; omega
theorem wr1 {i : Nat} (h : i < 9223372036854775807) : IntKind.i64.wrap ((i : Int) + 1) = ((i + 1 : Nat) : Int) := by
 rw [wr (by omega) (by omega)]; omega
theorem idxn {α : Type} (xs : List α) (i : Nat) : idx xs (i : Int) = xs[i]? := by
 unfold idx
 rw [if_pos (by omega)]
 simp
theorem gd_t {β : Type} [Inhabited β] (x : Option β) : gd true x = x := rfl
theorem gd_f {β : Type} [Inhabited β] (x : Option β) : gd false x = some default := rfl
theorem Zl0 {α : Type} {xs : List α} {l h : Nat} (h1 : l ≤ h) (h2 : h ≤ xs.length) : cut xs (l : Int) (h : Int) = some ((xs.drop l).take (h - l)) := by
 unfold cut
 rw [if_pos (by omega)]
 simp
theorem Zj4 {a b : ByteArray} (h : a.toList = b.toList) : a = b := by
 rw [_root_.Go.ByteArray.toList_eq, _root_.Go.ByteArray.toList_eq] at h
 exact ByteArray.ext (Array.toList_inj.1 h)
theorem Zj0 {a b : ByteArray} : sEq a b = true ↔ a = b := by
 unfold sEq
 constructor
 · intro h; exact Zj4 (by simpa using h)
 · rintro rfl; simp
theorem Zk2 {a b : ByteArray} : sEq a b = false ↔ a ≠ b := by
 cases h : sEq a b
 · simp; intro e; rw [Zj0.2 e] at h; cases h
 · simp; exact Zj0.1 h
theorem Zeu {α σ ρ : Type} (xs : List α) (L : Nat → σ → Int → Option ρ) (P : Nat → σ → Prop) (R : σ → ρ) (hl : xs.length < 1000000)
   (hs : ∀ n (i : Nat) st e, xs[i]? = some e → P i st → ∃ st', P (i + 1) st' ∧ L (n + 1) st i = L n st' (IntKind.i64.wrap ((i : Int) + 1))) (h0 : ∀ n st, P xs.length st → L (n + 1) st (xs.length : Int) = some (R st)) {s0 : σ} (hP : P 0 s0) :
   ∃ st, P xs.length st ∧ L (Int.toNat ((xs.length : Int) - 0) + 1) s0 0 = some (R st) := by
 have main : ∀ (n i : Nat) st, i + n = xs.length → P i st → ∃ st', P xs.length st' ∧ L (n + 1) st (i : Int) = some (R st') := by
   intro n
   induction n with
   | zero => intro i st h hp; obtain rfl : i = xs.length := by omega
             exact ⟨st, hp, h0 0 st hp⟩
   | succ n ih =>
     intro i st h hp
     obtain ⟨st', h1, h2⟩ := hs (n + 1) i st xs[i] (List.getElem?_eq_getElem (by omega)) hp
     obtain ⟨st2, h3, h4⟩ := ih (i + 1) st' (by omega) h1
     refine ⟨st2, h3, ?_⟩
     rw [h2, wr1 (by omega)]; exact h4
 have := main xs.length 0 s0 (by omega) hP
 rw [show Int.toNat ((xs.length : Int) - 0) = xs.length by omega]
 exact this
theorem Zb6 {α ρ : Type} (xs : List α) (L : Nat → Int → Option (ρ ⊕ Unit)) (c : α → Bool) (r : Nat → ρ) (hl : xs.length < 1000000)
   (hs : ∀ n (i : Nat) e, xs[i]? = some e → L (n + 1) i = if c e then some (.inl (r i)) else L n (IntKind.i64.wrap ((i : Int) + 1))) (h0 : ∀ n, L (n + 1) (xs.length : Int) = some (.inr ())) :
   (xs.any c = true ∧ ∃ k e, xs[k]? = some e ∧ c e = true ∧ (∀ i e', i < k → xs[i]? = some e' → c e' = false) ∧ L (Int.toNat ((xs.length : Int) - 0) + 1) 0 = some (.inl (r k))) ∨ (xs.any c = false ∧ L (Int.toNat ((xs.length : Int) - 0) + 1) 0 = some (.inr ())) := by
 have main : ∀ (n i : Nat), i + n = xs.length → (∀ j e', j < i → xs[j]? = some e' → c e' = false) → (xs.any c = true ∧ ∃ k e, xs[k]? = some e ∧ c e = true ∧ (∀ i e', i < k → xs[i]? = some e' → c e' = false) ∧ L (n + 1) (i : Int) = some (.inl (r k))) ∨ (xs.any c = false ∧ L (n + 1) (i : Int) = some (.inr ())) := by
   intro n
   induction n with
   | zero =>
     intro i h hp
     obtain rfl : i = xs.length := by omega
     refine .inr ⟨?_, h0 0⟩
     rw [List.any_eq_false]
     intro e he
     obtain ⟨j, hj, rfl⟩ := List.getElem_of_mem he
     rw [hp j xs[j] hj (List.getElem?_eq_getElem hj)]; simp
   | succ n ih =>
     intro i h hp
     have hi : xs[i]? = some xs[i] := List.getElem?_eq_getElem (by omega)
     rw [hs (n + 1) i _ hi]
     by_cases hc : c xs[i] = true
     · rw [if_pos hc]
       exact .inl ⟨List.any_eq_true.2 ⟨_, List.mem_of_getElem? hi, hc⟩, i, _, hi, hc, hp, rfl⟩
     · rw [if_neg hc, wr1 (by omega)]
       refine ih (i + 1) (by omega) (fun j e' hj he => ?_)
       rcases Nat.lt_succ_iff_lt_or_eq.1 hj with h | h
       · exact hp j e' h he
       · subst h
         rw [hi] at he
         obtain rfl := Option.some.inj he
         simpa using hc
 have := main xs.length 0 (by omega) (fun _ _ h => absurd h (Nat.not_lt_zero _))
 rw [show Int.toNat ((xs.length : Int) - 0) = xs.length by omega]
 exact this
theorem lt_i {α : Type} {xs : List α} {i : Nat} {e : α} (h : xs[i]? = some e) : decide ((i : Int) < (xs.length : Int)) = true := by
 have := (List.getElem?_eq_some_iff.1 h).1
 exact decide_eq_true (by omega)
theorem lt_e {n : Nat} : decide ((n : Int) < (n : Int)) = false := decide_eq_false (by omega)
theorem Ziy {α : Type} {xs : List α} {i : Nat} {e : α} (h : xs[i]? = some e) : xs.take (i + 1) = xs.take i ++ [e] := by rw [List.take_add_one, h]; rfl
theorem Zhz {l : List Int} (x : Int) (hl : l.length < 1000000) : Zbj l x = some (decide (x ∈ l)) := by
 unfold Zbj Zcx
 rcases Zb6 l (Zba l x) (fun e => x == e) (fun k => (k : Int)) hl (fun n i e he => by
   rw [Zba, lt_i he, if_pos rfl, idxn, he]; rfl) (fun n => by rw [Zba, lt_e]; rfl) with ⟨h1, k, e, h2, h3, _, h4⟩ | ⟨h1, h4⟩
 · rw [h4]
   obtain ⟨e', he, hx⟩ := List.any_eq_true.1 h1
   have : x ∈ l := by rw [eq_of_beq hx]; exact he
   simp [this]
 · rw [h4]
   have : x ∉ l := fun hx => by
     have := List.any_eq_false.1 h1 x hx
     simp at this
   simp [this]
theorem Zfb {xs : List Int} {i : Nat} {e : Int} (p : Int → Bool) (h : xs[i]? = some e) : (xs.take (i + 1)).filter p = (xs.take i).filter p ++ (if p e then [e] else []) := by
 rw [Ziy h, List.filter_append]
 congr 1
 by_cases hp : p e = true <;> simp [hp]
theorem Zi4 {xs : List Int} {i : Nat} (p : Int → Bool) : ((xs.take i).filter p).length ≤ i := Nat.le_trans (List.length_filter_le _ _) (by rw [List.length_take]; omega)
theorem Zni {l : List Int} (x : Int) (hl : l.length < 1000000) : Zbx l (fun y => Zby y x) = some (l.filter (fun k => k != x)) := by
 unfold Zbx Zcb
 rcases Zb6 l (Z4 l (fun y => Zby y x)) (fun e => e == x) (fun k => (k : Int)) hl (fun n i e he => by
   rw [Z4, lt_i he, if_pos rfl, idxn, he]; rfl) (fun n => by rw [Z4, lt_e]; rfl) with ⟨h1, k, e, hk, hek, hbef, h4⟩ | ⟨h1, h4⟩
 · rw [h4]
   have hkl := (List.getElem?_eq_some_iff.1 hk).1
   simp only [Option.bind_some]
   rw [if_neg (by simp only [beq_iff_eq]; omega), wr1 (by omega)]
   have main : ∀ (n j : Nat) (ys : List Int) (i : Nat), j + n = l.length → i ≤ j → ys.length = l.length → (∀ m, j ≤ m → ys[m]? = l[m]?) → ys.take i = (l.take j).filter (fun k => k != x) → i < l.length ∨ j = l.length →
       ∃ (zs : List Int) (i' : Nat), Zt (fun y => Zby y x) (n + 1) ys (i : Int) (j : Int) = some (zs, (i' : Int)) ∧ zs.length = l.length ∧ i' ≤ l.length ∧ zs.take i' = l.filter (fun k => k != x) := by
     intro n
     induction n with
     | zero =>
       intro j ys i h hij hy _ ht _
       obtain rfl : j = l.length := by omega
       refine ⟨ys, i, ?_, hy, hij, by rw [ht, List.take_length]⟩
       rw [Zt, hy, lt_e]; rfl
     | succ n ih =>
       intro j ys i h hij hy hsame ht hil
       have hj : j < l.length := by omega
       have he : l[j]? = some l[j] := List.getElem?_eq_getElem hj
       have hye : ys[j]? = some l[j] := (hsame j (Nat.le_refl _)).trans he
       rw [Zt, lt_i hye, if_pos rfl, idxn, hye]
       simp only [Option.bind_some, Zby]
       have hi : i < ys.length := by omega
       by_cases hc : l[j] = x
       · rw [if_neg (by simp [hc])]
         unfold Zbe
         rw [wr1 (by omega)]
         refine ih (j + 1) ys i (by omega) (by omega) hy (fun m hm => hsame m (by omega)) ?_ (by omega)
         rw [ht, Zfb _ he, if_neg (by simp [hc]), List.append_nil]
       · rw [if_pos (by simp [hc]), idxn, List.getElem?_eq_getElem hi]
         simp only [Option.bind_some]
         unfold Zbe
         rw [wr1 (by omega), wr1 (by omega)]
         refine ih (j + 1) _ (i + 1) (by omega) (by omega) (by rw [List.length_set]; exact hy) (fun m hm => ?_) ?_ (by omega)
         · rw [List.getElem?_set_ne (by simp; omega)]; exact hsame m (by omega)
         · rw [Zfb _ he, if_pos (by simp [hc]), ← ht]
           rw [Int.toNat_natCast, List.take_add_one, List.getElem?_set_self hi, List.take_set_of_le (Nat.le_refl _)]
           rfl
   obtain ⟨zs, i', e1, e2, e3, e4⟩ := main (l.length - (k + 1)) (k + 1) l k (by omega) (by omega) rfl (fun _ _ => rfl) (by
     rw [Zfb _ hk, if_neg (by simp [eq_of_beq hek]), List.append_nil]
     symm
     rw [List.filter_eq_self]
     intro a ha
     obtain ⟨j, hj, rfl⟩ := List.getElem_of_mem ha
     rw [List.length_take] at hj
     have := hbef j (l[j]) (by omega) (List.getElem?_eq_getElem (by omega))
     rw [List.getElem_take]
     simpa using this) (.inl hkl)
   rw [show Int.toNat ((l.length : Int) - ((k + 1 : Nat) : Int)) = l.length - (k + 1) by omega, e1]
   simp only [Option.bind_some]
   have hne : zs ≠ [] := fun h => by rw [h] at e2; simp at e2; omega
   have hlen : (zs.take (Int.toNat (i' : Int)) ++ List.replicate (zs.length - Int.toNat (i' : Int)) (0 : Int)).length = l.length := by simp; omega
   rw [if_pos ⟨⟨by omega, by omega⟩, hne⟩, hlen, if_pos ⟨⟨by omega, by omega⟩, fun h => by rw [h] at hlen; simp at hlen; omega⟩]
   rw [Int.toNat_natCast, List.take_append_of_le_length (by rw [List.length_take]; omega), List.take_take, Nat.min_self, e4]
 · rw [h4]
   have : l.filter (fun k => k != x) = l := by
     rw [List.filter_eq_self]
     intro a ha
     have := List.any_eq_false.1 h1 a ha
     simpa using this
   rw [this]; rfl
def rdB (k : Int) : Bool := ((((k == (3 : Int)) || (k == (4 : Int))) || (k == (9 : Int))) || (k == (12 : Int))) || (k == (20 : Int))
def hasB (s : List ByteArray) (k : ByteArray) : Bool := s.any fun x => sEq x k
def rosB (a : Ze) : Bool := a.Acts.any fun e => (e.Kind == (1 : Int)) || (e.Kind == (2 : Int))
def mtB (s : List ByteArray) (e f : Zm) : Bool := (sEq e.Key f.Key && !(rdB e.Kind && rdB f.Kind)) && !(hasB s e.Key)
def Zdj (s : List ByteArray) (a b : Ze) : Bool := (a.Acts.any fun e => b.Acts.any fun f => mtB s e f) || (rosB a && rosB b)
theorem Zli (a b : ByteArray) : sEq a b = sEq b a := by
 by_cases h : a = b
 · rw [h]
 · rw [Zk2.2 h, Zk2.2 (fun k => h k.symm)]
theorem Zeq {β : Type} [Inhabited β] (c : Bool) (v : β) : gd c (some v) = some (if c then v else default) := by cases c <;> rfl
theorem hasS {s : List ByteArray} (k : ByteArray) (hl : s.length < 1000000) : Zbl s k = some (hasB s k) := by
 unfold Zbl Zb3 hasB
 rcases Zb6 s (Z0 s k) (fun e => sEq e k) (fun k => (k : Int)) hl (fun n i e he => by
   rw [Z0, lt_i he, if_pos rfl, idxn, he]
   simp only [Option.bind_some]
   rw [Zli]) (fun n => by rw [Z0, lt_e]; rfl) with ⟨h1, k', e, h2, h3, _, h4⟩ | ⟨h1, h4⟩
 · rw [h4, h1]; simp
 · rw [h4, h1]; rfl
theorem hasR {s : List ByteArray} (k : ByteArray) (hl : s.length < 1000000) : Zdd s k = some (hasB s k) := by
 unfold Zdd hasB
 rcases Zb6 s (Zbo s k) (fun e => sEq e k) (fun _ => true) hl (fun n i e he => by
   rw [Zbo, lt_i he, if_pos rfl, idxn, he]; rfl) (fun n => by rw [Zbo, lt_e]; rfl) with ⟨h1, k', e, h2, h3, _, h4⟩ | ⟨h1, h4⟩
 · rw [h4, h1]; rfl
 · rw [h4, h1]; rfl
theorem rosD {a : Ze} (hl : a.Acts.length < 1000000) : Zdx a = some (rosB a) := by
 unfold Zdx Zbk Zbu rosB
 rcases Zb6 a.Acts (Zr a.Acts (fun y0 => Zdt y0)) (fun e => (e.Kind == (1 : Int)) || (e.Kind == (2 : Int))) (fun k => (k : Int)) hl (fun n i e he => by
   rw [Zr, lt_i he, if_pos rfl, idxn, he]; rfl) (fun n => by rw [Zr, lt_e]; rfl) with ⟨h1, k', e, h2, h3, _, h4⟩ | ⟨h1, h4⟩
 · rw [h4, h1]; simp
 · rw [h4, h1]; rfl
theorem rosR {a : Ze} (hl : a.Acts.length < 1000000) : Zb7 a = some (rosB a) := by
 unfold Zb7 rosB
 rcases Zb6 a.Acts (Zbh a) (fun e => (e.Kind == (1 : Int)) || (e.Kind == (2 : Int))) (fun _ => true) hl (fun n i e he => by
   rw [Zbh, lt_i he, if_pos rfl, idxn, he]
   simp only [Option.bind_some, Zeq]
   cases h : (e.Kind == (1 : Int)) <;> simp) (fun n => by rw [Zbh, lt_e]; rfl) with ⟨h1, k', e, h2, h3, _, h4⟩ | ⟨h1, h4⟩
 · rw [h4, h1]; rfl
 · rw [h4, h1]; rfl
theorem meetD {a b : Ze} {s : List ByteArray} (ha : a.Acts.length < 1000000) (hb : b.Acts.length < 1000000) (hs : s.length < 1000000) : Zep a b s = some (Zdj s a b) := by
 have inner : ∀ e : Zm, Zcd b s e (Int.toNat ((b.Acts.length : Int) - (0 : Int)) + 1) (0 : Int) = if (b.Acts.any fun f => mtB s e f) then some (.inl true) else some (.inr ()) := fun e => by
   rcases Zb6 b.Acts (Zcd b s e) (fun f => mtB s e f) (fun _ => true) hb (fun n i f he => by
     rw [Zcd, lt_i he, if_pos rfl, idxn, he]
     simp only [Option.bind_some, Ze4, Zeq, hasS _ hs]
     unfold mtB
     show (if ((sEq e.Key f.Key && (!((if (sEq e.Key f.Key) = true then rdB e.Kind else default) && (if (sEq e.Key f.Key && (if (sEq e.Key f.Key) = true then rdB e.Kind else default)) = true then rdB f.Kind else default)))) && (!(if (sEq e.Key f.Key && (!((if (sEq e.Key f.Key) = true then rdB e.Kind else default) && (if (sEq e.Key f.Key && (if (sEq e.Key f.Key) = true then rdB e.Kind else default)) = true then rdB f.Kind else default)))) = true then hasB s e.Key else default))) = true then _ else _) = _
     cases sEq e.Key f.Key <;> cases hasB s e.Key <;> cases rdB e.Kind <;> cases rdB f.Kind <;> rfl) (fun n => by rw [Zcd, lt_e]; rfl) with ⟨h1, k', e', h2, h3, _, h4⟩ | ⟨h1, h4⟩
   · rw [h4, h1]; rfl
   · rw [h4, h1]; rfl
 unfold Zep Zdj
 rcases Zb6 a.Acts (Zcp a b s) (fun e => b.Acts.any fun f => mtB s e f) (fun _ => true) ha (fun n i e he => by
   rw [Zcp, lt_i he, if_pos rfl, idxn, he]
   simp only [Option.bind_some, inner]
   cases h : (b.Acts.any fun f => mtB s e f) <;> simp) (fun n => by rw [Zcp, lt_e]; rfl) with ⟨h1, k', e, h2, h3, _, h4⟩ | ⟨h1, h4⟩
 · rw [h4, h1]; rfl
 · rw [h4, h1]
   simp only [Option.bind_some, rosD ha, rosD hb, Zeq, Bool.false_or]
   cases rosB a <;> simp
theorem meetR {a b : Ze} {s : List ByteArray} (ha : a.Acts.length < 1000000) (hb : b.Acts.length < 1000000) (hs : s.length < 1000000) : Zcj a b s = some (Zdj s a b) := by
 have inner : ∀ (j : Nat) (e : Zm), a.Acts[j]? = some e → Zbg a b s (j : Int) (Int.toNat ((b.Acts.length : Int) - (0 : Int)) + 1) (0 : Int) = if (b.Acts.any fun f => mtB s e f) then some (.inl true) else some (.inr ()) := fun j e hj => by
   rcases Zb6 b.Acts (Zbg a b s (j : Int)) (fun f => mtB s e f) (fun _ => true) hb (fun n i f he => by
     rw [Zbg, lt_i he, if_pos rfl, idxn, idxn, he, hj]
     simp only [Option.bind_some, Zcw, Zeq, hasR _ hs]
     unfold mtB
     show (if ((sEq e.Key f.Key && !(if (sEq e.Key f.Key) = true then hasB s e.Key else default)) && ((!(if (sEq e.Key f.Key && !(if (sEq e.Key f.Key) = true then hasB s e.Key else default)) = true then rdB e.Kind else default)) || (!(if ((sEq e.Key f.Key && !(if (sEq e.Key f.Key) = true then hasB s e.Key else default)) && !(!(if (sEq e.Key f.Key && !(if (sEq e.Key f.Key) = true then hasB s e.Key else default)) = true then rdB e.Kind else default))) = true then rdB f.Kind else default)))) = true then _ else _) = _
     cases sEq e.Key f.Key <;> cases hasB s e.Key <;> cases rdB e.Kind <;> cases rdB f.Kind <;> rfl) (fun n => by rw [Zbg, lt_e]; rfl) with ⟨h1, k', e', h2, h3, _, h4⟩ | ⟨h1, h4⟩
   · rw [h4, h1]; rfl
   · rw [h4, h1]; rfl
 unfold Zcj Zdj
 rcases Zb6 a.Acts (Zbm a b s) (fun e => b.Acts.any fun f => mtB s e f) (fun _ => true) ha (fun n i e he => by
   rw [Zbm, lt_i he, if_pos rfl, inner i e he]
   cases h : (b.Acts.any fun f => mtB s e f) <;> simp) (fun n => by rw [Zbm, lt_e]; rfl) with ⟨h1, k', e, h2, h3, _, h4⟩ | ⟨h1, h4⟩
 · rw [h4, h1]; rfl
 · rw [h4, h1]
   simp only [Option.bind_some, rosR ha, rosR hb, Zeq, Bool.false_or]
   cases rosB a <;> simp
theorem big3 (r : Zy) : ∃ b, Zdf r = some b := by
 unfold Zdf
 by_cases h : (decide ((100 : Int) < (r.List.length : Int)) || decide ((1000 : Int) < (r.Text.size : Int))) = true
 · rw [if_pos h]; exact ⟨_, rfl⟩
 · rw [if_neg h]
   simp only [Bool.or_eq_true, decide_eq_true_eq, not_or] at h
   rcases Zb6 r.List (Zbq r) (fun e => decide ((100 : Int) < (e.Name.size : Int))) (fun _ => 1) (by omega) (fun n i e he => by
     rw [Zbq, lt_i he, if_pos rfl, idxn, he]; rfl) (fun n => by rw [Zbq, lt_e]; rfl) with ⟨_, k, e, _, _, _, h4⟩ | ⟨_, h4⟩
   · rw [h4]; exact ⟨_, rfl⟩
   · rw [h4]; exact ⟨_, rfl⟩
theorem big4 (a : Zm) : ∃ b, Zcs a = some b := by
 unfold Zcs
 obtain ⟨b, hb⟩ := big3 a.Make
 rw [hb, Zeq]
 simp only [Option.bind_some]
 generalize (if (!((decide ((200 : Int) < (a.Key.size : Int))) || (decide ((1000 : Int) < (a.S.size : Int))))) = true then b else default) = v
 split
 · exact ⟨_, rfl⟩
 · exact ⟨_, rfl⟩
theorem big8 (d : Ze) : ∃ b, Zct d = some b ∧ (¬ 0 < b → d.Acts.length ≤ 40) := by
 unfold Zct
 by_cases h : decide ((40 : Int) < (d.Acts.length : Int)) = true
 · rw [if_pos h]; exact ⟨_, rfl, fun h => absurd (by decide) h⟩
 · rw [if_neg h]
   have h : d.Acts.length ≤ 40 := by simp at h; omega
   rcases Zb6 d.Acts (Zbr d) (fun e => decide (0 < (Zcs e).getD 0)) (fun _ => 1) (by omega) (fun n i e he => by
     obtain ⟨b, hb⟩ := big4 e
     rw [Zbr, lt_i he, if_pos rfl, idxn, he]
     simp only [Option.bind_some, hb, Option.getD_some]) (fun n => by rw [Zbr, lt_e]; rfl) with ⟨_, k, e, _, _, _, h4⟩ | ⟨_, h4⟩
   · rw [h4]; exact ⟨_, rfl, fun _ => h⟩
   · rw [h4]; exact ⟨_, rfl, fun _ => h⟩
theorem Zn1 (l : List Ze) : ∃ b, Zdb l = some b ∧ (¬ 0 < b → l.length ≤ 40 ∧ ∀ d ∈ l, d.Acts.length ≤ 40) := by
 unfold Zdb
 by_cases h : decide ((40 : Int) < (l.length : Int)) = true
 · rw [if_pos h]; exact ⟨_, rfl, fun h => absurd (by decide) h⟩
 · rw [if_neg h]
   have h : l.length ≤ 40 := by simp at h; omega
   rcases Zb6 l (Zbp l) (fun e => decide (0 < (Zct e).getD 0)) (fun _ => 1) (by omega) (fun n i e he => by
     obtain ⟨b, hb, _⟩ := big8 e
     rw [Zbp, lt_i he, if_pos rfl, idxn, he]
     simp only [Option.bind_some, hb, Option.getD_some]) (fun n => by rw [Zbp, lt_e]; rfl) with ⟨_, k, e, _, _, _, h4⟩ | ⟨h1, h4⟩
   · rw [h4]; exact ⟨_, rfl, fun h => absurd (by decide) h⟩
   · rw [h4]
     refine ⟨_, rfl, fun _ => ⟨h, fun d hd => ?_⟩⟩
     obtain ⟨b, hb, hb2⟩ := big8 d
     have := List.any_eq_false.1 h1 d hd
     rw [hb] at this
     exact hb2 (by simpa using this)
structure Ctx (l : List Ze) (s : List ByteArray) : Prop where
 len : l.length ≤ 40
 acts : ∀ d ∈ l, d.Acts.length ≤ 40
 split : s.length ≤ 20
def dAt (l : List Ze) (k : Int) : Ze := (idx l k).getD default
theorem Zfw {l : List Ze} {k : Int} (h : 0 ≤ k ∧ k < l.length) : idx l k = some (dAt l k) := by
 obtain ⟨n, rfl⟩ := Int.eq_ofNat_of_zero_le h.1
 unfold dAt
 rw [idxn, List.getElem?_eq_getElem (by omega)]; rfl
theorem Zg3 {l : List Ze} {k : Int} (h : 0 ≤ k ∧ k < l.length) : dAt l k ∈ l := by
 have := Zfw h
 obtain ⟨n, rfl⟩ := Int.eq_ofNat_of_zero_le h.1
 rw [idxn] at this
 exact List.mem_of_getElem? this
def mB (l : List Ze) (s : List ByteArray) (n k : Int) : Bool := decide (k < n) && Zdj s (dAt l k) (dAt l n)
theorem Ctx.meetR {l : List Ze} {s : List ByteArray} (c : Ctx l s) {k n : Int} (hk : 0 ≤ k ∧ k < l.length) (hn : 0 ≤ n ∧ n < l.length) : Zcj (dAt l k) (dAt l n) s = some (Zdj s (dAt l k) (dAt l n)) :=
 Go.CL.meetR (by have := c.acts _ (Zg3 hk); omega) (by have := c.acts _ (Zg3 hn); omega) (by have := c.split; omega)
theorem Ctx.meetD {l : List Ze} {s : List ByteArray} (c : Ctx l s) {k n : Int} (hk : 0 ≤ k ∧ k < l.length) (hn : 0 ≤ n ∧ n < l.length) : Zep (dAt l k) (dAt l n) s = some (Zdj s (dAt l k) (dAt l n)) :=
 Go.CL.meetD (by have := c.acts _ (Zg3 hk); omega) (by have := c.acts _ (Zg3 hn); omega) (by have := c.split; omega)
structure Rise (l : List Ze) (T : List Int) : Prop where
 up : T.Pairwise (· < ·)
 rng : ∀ k ∈ T, 0 ≤ k ∧ k < l.length
 len : T.length ≤ l.length
theorem Zna {l : List Ze} (hl : l.length ≤ 40) (out : List Bool) : ∃ T, Zc5 l out = some T ∧ Rise l T ∧ (out = [] → T.length = l.length) := by
 unfold Zc5
 obtain ⟨T, ⟨h1, h2, h3, h4⟩, h5⟩ := Zeu l (Z9 l out) (fun i st => st.Pairwise (· < ·) ∧ (∀ k ∈ st, 0 ≤ k ∧ k < (i : Int)) ∧ st.length ≤ i ∧ (out = [] → st.length = i)) id (by omega) (fun n i st e he ⟨p1, p2, p3, p4⟩ => by
   have hi := (List.getElem?_eq_some_iff.1 he).1
   obtain ⟨b, hb⟩ : ∃ b : Bool, (gd (!(decide ((out.length : Int) ≤ (i : Int)))) (idx out (i : Int))) = some b ∧ (out = [] → (decide ((out.length : Int) ≤ (i : Int)) || (!b)) = true) := by
     by_cases ho : (out.length : Int) ≤ (i : Int)
     · rw [decide_eq_true ho]
       exact ⟨default, rfl, fun _ => rfl⟩
     · rw [decide_eq_false ho, Bool.not_false, gd_t, idxn, List.getElem?_eq_getElem (by omega)]
       exact ⟨_, rfl, fun h => by subst h; simp at ho⟩
   rw [Z9, lt_i he, if_pos rfl, hb.1]
   simp only [Option.bind_some]
   by_cases hc : (decide ((out.length : Int) ≤ (i : Int)) || (!b)) = true
   · rw [if_pos hc, if_pos (by simp only [List.length_singleton]; omega)]
     refine ⟨st ++ [(i : Int)], ⟨List.pairwise_append.2 ⟨p1, List.pairwise_singleton .., fun a ha b hb => by rw [List.mem_singleton.1 hb]; exact (p2 a ha).2⟩, fun k hk => ?_, by simp; omega, fun h => by simp [p4 h]⟩, rfl⟩
     rcases List.mem_append.1 hk with hk | hk
     · have := p2 k hk; omega
     · rw [List.mem_singleton.1 hk]; omega
   · rw [if_neg hc]
     exact ⟨st, ⟨p1, fun k hk => by have := p2 k hk; omega, by omega, fun h => absurd (hb.2 h) hc⟩, rfl⟩) (fun n st hp => by rw [Z9, lt_e]; rfl) (s0 := []) ⟨.nil, (fun _ h => by cases h), Nat.le_refl _, fun _ => rfl⟩
 rw [h5]
 exact ⟨T, rfl, ⟨h1, h2, h3⟩, h4⟩
theorem Zh4 {z : List Int} {n : Int} : ∀ {A : List (Int × List Int)}, (∀ e ∈ A, e.1 ≠ n) → mget z A n = z
 | [], _ => rfl
 | e :: A, h => by
   rw [mget, if_neg (h e (List.mem_cons_self ..))]
   exact Zh4 (fun e' he => h e' (List.mem_cons_of_mem _ he))
theorem Ziw {z v : List Int} {n m : Int} : ∀ {A : List (Int × List Int)}, (∀ e ∈ A, e.1 ≠ n) → mget z (A ++ [(n, v)]) m = if m = n then v else mget z A m
 | [], _ => by
   show (if n = m then v else z) = if m = n then v else z
   by_cases h : m = n
   · rw [if_pos h, if_pos h.symm]
   · rw [if_neg h, if_neg (fun k => h k.symm)]
 | e :: A, h => by
   show (if e.1 = m then e.2 else mget z (A ++ [(n, v)]) m) = if m = n then v else if e.1 = m then e.2 else mget z A m
   rw [Ziw (fun e' he => h e' (List.mem_cons_of_mem _ he))]
   by_cases h1 : e.1 = m
   · rw [if_pos h1, if_neg (fun k => h e (List.mem_cons_self ..) (h1.trans k)), if_pos h1]
   · rw [if_neg h1, if_neg h1]
def NoKey (b : MapB Int) (n : Int) : Prop := ∀ e ∈ b.all, e.1 ≠ n
theorem NoKey.old {b : MapB Int} {n : Int} (h : NoKey b n) : (b.old.all fun e => e.1 != n) = true := List.all_eq_true.2 fun e he => by simpa using h e (List.mem_append_left _ he)
theorem Zlt {b : MapB Int} {n : Int} (h : NoKey b n) : b.row n = some [] := by
 unfold MapB.row
 cases hl : b.last with
 | none => simp only [h.old]; rfl
 | some e =>
   simp only [h.old]
   rw [if_pos trivial, if_neg]
   exact h e (by unfold MapB.all; rw [hl]; simp)
theorem Zjq {b : MapB Int} {n : Int} {v : List Int} (h : NoKey b n) : (b.put n v).all = b.all ++ [(n, v)] := by
 unfold MapB.put MapB.all
 cases hl : b.last with
 | none => simp
 | some e =>
   have : e.1 ≠ n := h e (by unfold MapB.all; rw [hl]; simp)
   simp [this]
theorem Zmu {b : MapB Int} {n : Int} {v : List Int} (h : NoKey b n) : (b.put n v).row n = some v := by
 have hall : ∀ e ∈ b.old ++ b.last.toList, e.1 ≠ n := h
 unfold MapB.put
 cases hl : b.last with
 | none =>
   unfold MapB.row
   simp only [h.old]
   rw [if_pos trivial, if_pos trivial]
 | some e =>
   have he : e.1 ≠ n := h e (by unfold MapB.all; rw [hl]; simp)
   simp only [if_neg he]
   unfold MapB.row
   have : ((b.old ++ [e]).all fun e => e.1 != n) = true := List.all_eq_true.2 fun e' he' => by
     have := hall e' (by rw [hl]; exact he')
     simpa using this
   simp only [this]
   rw [if_pos trivial, if_pos trivial]
theorem Zm7 {b : MapB Int} {n : Int} {v w : List Int} (h : NoKey b n) : (b.put n v).put n w = b.put n w := by
 unfold MapB.put
 cases hl : b.last with
 | none => simp
 | some e =>
   have he : e.1 ≠ n := h e (by unfold MapB.all; rw [hl]; simp)
   simp [he]
theorem Rise.take_filter {l : List Ze} {T : List Int} (h : Rise l T) {i : Nat} {n : Int} (hn : T[i]? = some n) (p : Int → Bool) : T.filter (fun k => decide (k < n) && p k) = (T.take i).filter p := by
 have hi := (List.getElem?_eq_some_iff.1 hn).1
 have hup := h.up
 rw [← List.take_append_drop i T] at hup
 obtain ⟨_, h2, h3⟩ := List.pairwise_append.1 hup
 have hd : T.drop i = n :: T.drop (i + 1) := by
   rw [List.drop_eq_getElem_cons hi]
   congr 1
   rw [List.getElem?_eq_getElem hi] at hn
   exact Option.some.inj hn
 rw [hd] at h2 h3
 conv => lhs; rw [← List.take_append_drop i T, List.filter_append, hd]
 have e1 : (n :: T.drop (i + 1)).filter (fun k => decide (k < n) && p k) = [] := by
   rw [List.filter_eq_nil_iff]
   intro a ha
   have : ¬ a < n := by
     rcases List.mem_cons.1 ha with rfl | ha
     · omega
     · have := (List.pairwise_cons.1 h2).1 a ha; omega
   simp [this]
 rw [e1, List.append_nil]
 apply List.filter_congr
 intro a ha
 have := h3 a ha n (List.mem_cons_self ..)
 simp [this]
theorem Rise.nodup {l : List Ze} {T : List Int} (h : Rise l T) {i j : Nat} {n : Int} (hi : T[i]? = some n) (hj : T[j]? = some n) : i = j := by
 obtain ⟨h1, e1⟩ := List.getElem?_eq_some_iff.1 hi
 obtain ⟨h2, e2⟩ := List.getElem?_eq_some_iff.1 hj
 rcases Nat.lt_trichotomy i j with h3 | h3 | h3
 · have := List.pairwise_iff_getElem.1 h.up i j h1 h2 h3; omega
 · exact h3
 · have := List.pairwise_iff_getElem.1 h.up j i h2 h1 h3; omega
theorem Znd {l : List Ze} {s : List ByteArray} (c : Ctx l s) {T : List Int} (hT : Rise l T) : ∃ x, Zek l T s = some x ∧ x.left = T ∧ ∀ m ∈ T, mget [] x.ahead m = T.filter (mB l s m) := by
 have hTl : T.length ≤ 40 := Nat.le_trans hT.len c.len
 unfold Zek Zc0
 rw [if_pos (by omega)]
 simp only [Option.bind_some]
 obtain ⟨st, ⟨h1, h2, h3⟩, h4⟩ := Zeu T (Zc2 l T s) (fun i st => st.left = T ∧ (∀ e ∈ st.ahead.all, e.1 ∈ T.take i) ∧ ∀ m ∈ T.take i, mget [] st.ahead.all m = T.filter (mB l s m)) id (by omega) (fun n i st e he ⟨p1, p2, p3⟩ => by
   have hi := (List.getElem?_eq_some_iff.1 he).1
   have heT := hT.rng e (List.mem_of_getElem? he)
   have hno : NoKey st.ahead e := fun e' he' hk => by
     obtain ⟨j, hj⟩ := List.mem_iff_getElem?.1 (p2 e' he')
     rw [hk, List.getElem?_take] at hj
     split at hj
     · have := hT.nodup hj he; omega
     · cases hj
   have hcut : cut T (0 : Int) (i : Int) = some (T.take i) := by
     have := Zl0 (xs := T) (l := 0) (h := i) (by omega) (by omega)
     simpa using this
   have hlen : (T.take i).length = i := by rw [List.length_take]; omega
   obtain ⟨st2, ⟨q1, q2⟩, q3⟩ := Zeu (T.take i) (Zb9 l s e (T.take i)) (fun j st' => st'.left = st.left ∧ st'.ahead = if ((T.take i).take j).filter (fun k => Zdj s (dAt l k) (dAt l e)) = [] then st.ahead else st.ahead.put e (((T.take i).take j).filter (fun k => Zdj s (dAt l k) (dAt l e)))) id (by omega) (fun n' j st' k hk ⟨r1, r2⟩ => by
     have hj := (List.getElem?_eq_some_iff.1 hk).1
     have hkT := hT.rng k (List.mem_of_mem_take (List.mem_of_getElem? hk))
     have hfl := Zi4 (xs := T.take i) (i := j) (fun k => Zdj s (dAt l k) (dAt l e))
     rw [Zb9, lt_i hk, if_pos rfl, idxn, hk]
     simp only [Option.bind_some, Zfw hkT, Zfw heT, c.meetD hkT heT]
     rw [Zfb _ hk]
     by_cases hm : Zdj s (dAt l k) (dAt l e) = true
     · rw [if_pos hm, if_pos hm, if_neg (by simp)]
       have hrow : st'.ahead.row e = some (((T.take i).take j).filter (fun k => Zdj s (dAt l k) (dAt l e))) := by
         rw [r2]
         split
         · rename_i h0; rw [h0]; exact Zlt hno
         · exact Zmu hno
       have hput : st'.ahead.put e (((T.take i).take j).filter (fun k => Zdj s (dAt l k) (dAt l e)) ++ [k]) = st.ahead.put e (((T.take i).take j).filter (fun k => Zdj s (dAt l k) (dAt l e)) ++ [k]) := by
         rw [r2]
         split
         · rfl
         · exact Zm7 hno
       rw [hrow]
       simp only [Option.bind_some]
       rw [if_pos (by simp only [List.length_singleton]; omega)]
       exact ⟨⟨st'.ahead.put e (((T.take i).take j).filter (fun k => Zdj s (dAt l k) (dAt l e)) ++ [k]), st'.left⟩, ⟨r1, hput⟩, rfl⟩
     · rw [if_neg hm, if_neg hm, List.append_nil]
       exact ⟨st', ⟨r1, r2⟩, rfl⟩) (fun n' st' hp => by rw [Zb9, lt_e]; rfl) (s0 := st) ⟨rfl, by simp⟩
   rw [Zc2, lt_i he, if_pos rfl, idxn, he]
   simp only [Option.bind_some, hcut]
   rw [q3]
   simp only [Option.bind_some, id]
   refine ⟨st2, ⟨q1.trans p1, ?_, ?_⟩, rfl⟩
   · intro e' he'
     rw [Ziy he]
     rw [q2] at he'
     split at he'
     · exact List.mem_append_left _ (p2 e' he')
     · rw [Zjq hno] at he'
       rcases List.mem_append.1 he' with h | h
       · exact List.mem_append_left _ (p2 e' h)
       · rw [List.mem_singleton.1 h]; simp
   · have hxs : ((T.take i).take (T.take i).length).filter (fun k => Zdj s (dAt l k) (dAt l e)) = T.filter (mB l s e) := by
       rw [List.take_length]
       exact (hT.take_filter he _).symm
     rw [hxs] at q2
     intro m hm
     have hmg : mget [] st2.ahead.all m = if m = e then T.filter (mB l s e) else mget [] st.ahead.all m := by
       rw [q2]
       split
       · rename_i h0
         rw [h0]
         by_cases hme : m = e
         · rw [if_pos hme, hme]; exact Zh4 hno
         · rw [if_neg hme]
       · rw [Zjq hno]; exact Ziw hno
     rw [hmg]
     by_cases hme : m = e
     · rw [if_pos hme, hme]
     · rw [if_neg hme]
       rw [Ziy he] at hm
       rcases List.mem_append.1 hm with h | h
       · exact p3 m h
       · exact absurd (List.mem_singleton.1 h) hme) (fun n st hp => by rw [Zc2, lt_e]; rfl) (s0 := { ahead := ⟨[], none⟩, left := T }) ⟨rfl, (fun _ h => by cases h), (fun _ h => by simp at h)⟩
 rw [h4]
 exact ⟨_, rfl, h1, fun m hm => h3 m (by rw [List.take_length]; exact hm)⟩
structure LineOk (l : List Ze) (s : List ByteArray) (T left : List Int) (x : Z1) : Prop where
 hleft : x.left = left
 part : left = T.filter (fun k => decide (k ∈ left))
 row : ∀ m ∈ T, mget [] x.ahead m = T.filter (mB l s m)
variable {l : List Ze} {s : List ByteArray} {T left : List Int} {x : Z1}
theorem LineOk.mem (h : LineOk l s T left x) {k : Int} (hk : k ∈ left) : k ∈ T := by
 rw [h.part] at hk; exact (List.mem_filter.1 hk).1
theorem LineOk.len (h : LineOk l s T left x) : left.length ≤ T.length := by
 rw [h.part]; exact List.length_filter_le _ _
theorem LineOk.new (h1 : x.left = T) (h2 : ∀ m ∈ T, mget [] x.ahead m = T.filter (mB l s m)) : LineOk l s T T x := ⟨h1, by symm; rw [List.filter_eq_self]; intro a ha; simpa using ha, h2⟩
theorem LineOk.waits (h : LineOk l s T left x) {i : Int} (hi : i ∈ left) : (mget [] x.ahead i).filter (fun k => decide (k ∈ left)) = left.filter (mB l s i) := by
 rw [h.row i (h.mem hi), List.filter_filter]
 conv => rhs; rw [h.part, List.filter_filter]
 apply List.filter_congr
 intro a _
 exact Bool.and_comm _ _
def Zhm (l : List Ze) (s : List ByteArray) (left : List Int) (i : Int) : List Int := if i ∈ left then left.filter (mB l s i) else []
theorem LineOk.after (h : LineOk l s T left x) (hT : T.length ≤ 40) (i : Int) : Zb0 x i = some (Zhm l s left i) := by
 have hl : left.length ≤ 40 := Nat.le_trans h.len hT
 unfold Zb0 Zhm
 rw [h.hleft, Zhz i (by omega)]
 simp only [Option.bind_some]
 by_cases hi : i ∈ left
 · rw [if_neg (by simp [hi]), if_pos hi]
   have hrl : (mget [] x.ahead i).length ≤ 40 := by rw [h.row i (h.mem hi)]; exact Nat.le_trans (List.length_filter_le _ _) hT
   obtain ⟨st, h1, h2⟩ := Zeu (mget [] x.ahead i) (Zbc x i) (fun j st => st = ((mget [] x.ahead i).take j).filter (fun k => decide (k ∈ left))) id (by omega) (fun n j st e he hp => by
     subst hp
     have := Zi4 (xs := mget [] x.ahead i) (i := j) (fun k => decide (k ∈ left))
     have hj := (List.getElem?_eq_some_iff.1 he).1
     refine ⟨_, rfl, ?_⟩
     rw [Zbc, lt_i he, if_pos rfl, idxn, he, Zfb _ he, h.hleft]
     simp only [Option.bind_some, Zhz e (show left.length < 1000000 by omega)]
     by_cases hc : decide (e ∈ left) = true
     · rw [if_pos hc, if_pos (by simp only [List.length_singleton]; omega), if_pos hc]; rfl
     · rw [if_neg hc, if_neg hc, List.append_nil]; rfl) (fun n st hp => by rw [Zbc, lt_e]; rfl) (s0 := []) rfl
   rw [h2, h1, List.take_length, h.waits hi]; rfl
 · rw [if_pos (by simp [hi]), if_neg hi]
def Zdp (l : List Ze) (s : List ByteArray) (left : List Int) (i : Int) : Bool := decide (i ∈ left) && (((Zhm l s left i).length : Int) == (0 : Int))
theorem LineOk.ready (h : LineOk l s T left x) (hT : T.length ≤ 40) (i : Int) : Zbf x i = some (Zdp l s left i) := by
 have hl : left.length ≤ 40 := Nat.le_trans h.len hT
 unfold Zbf Zdp
 rw [h.hleft, Zhz i (by omega), h.after hT]
 simp only [Option.bind_some, Zeq]
 by_cases hi : i ∈ left
 · simp [hi]
 · simp [hi]
theorem LineOk.done (h : LineOk l s T left x) (hT : T.length ≤ 40) (i : Int) : ∃ x', Zcm x i = some (x', Zdp l s left i) ∧ LineOk l s T (if Zdp l s left i = true then left.filter (fun k => k != i) else left) x' := by
 have hl : left.length ≤ 40 := Nat.le_trans h.len hT
 unfold Zcm Zds
 rw [h.ready hT]
 simp only [Option.bind_some]
 by_cases hr : Zdp l s left i = true
 · rw [hr, if_neg (by decide), h.hleft, Zni i (by omega)]
   refine ⟨{ x with left := left.filter (fun k => k != i) }, rfl, rfl, ?_, h.row⟩
   rw [if_pos rfl]
   conv => lhs; rw [h.part, List.filter_filter]
   apply List.filter_congr
   intro a _
   simp only [List.mem_filter, Bool.decide_and]
   cases (a != i) <;> simp
 · rw [eq_false_of_ne_true hr]
   exact ⟨x, rfl, by rw [if_neg (by decide)]; exact h⟩
theorem Zlx : Zdg = some true := by kernel_rfl
theorem Zhn {σ ρ : Type} (m : Nat) (hm : m < 1000000) (L : Nat → σ → Int → Option ρ) (P : Nat → σ → Prop) (R : σ → ρ)
   (hs : ∀ n (i : Nat) st, i < m → P i st → ∃ st', P (i + 1) st' ∧ L (n + 1) st i = L n st' (IntKind.i64.wrap ((i : Int) + 1))) (h0 : ∀ n st, P m st → L (n + 1) st (m : Int) = some (R st)) {s0 : σ} (hP : P 0 s0) :
   ∃ st, P m st ∧ L (Int.toNat ((m : Int) - 0) + 1) s0 0 = some (R st) := by
 have := Zeu (List.range m) L P R (by simpa using hm) (fun n i st e he hp => hs n i st (by simpa using (List.getElem?_eq_some_iff.1 he).1) hp) (fun n st hp => by rw [List.length_range] at hp ⊢; exact h0 n st hp) hP
 rw [List.length_range] at this
 exact this
theorem Rise.rest {l : List Ze} {T : List Int} (h : Rise l T) {i : Nat} {e : Int} (he : T[i]? = some e) : T.drop i = e :: T.drop (i + 1) ∧ ∀ a ∈ T.drop (i + 1), e < a := by
 have hi := (List.getElem?_eq_some_iff.1 he).1
 have hup := h.up
 rw [← List.take_append_drop i T] at hup
 obtain ⟨_, h2, _⟩ := List.pairwise_append.1 hup
 have hd : T.drop i = e :: T.drop (i + 1) := by
   rw [List.drop_eq_getElem_cons hi]
   congr 1
   rw [List.getElem?_eq_getElem hi] at he
   exact Option.some.inj he
 rw [hd] at h2
 exact ⟨hd, (List.pairwise_cons.1 h2).1⟩
theorem Zif {l : List Ze} {s : List ByteArray} {left : List Int} {i : Int} : Zdp l s left i = true ↔ i ∈ left ∧ ∀ k ∈ left, mB l s i k = false := by
 unfold Zdp Zhm
 by_cases hi : i ∈ left
 · simp only [hi, decide_true, Bool.true_and, if_true, beq_iff_eq, true_and]
   have : ((left.filter (mB l s i)).length : Int) = 0 ↔ left.filter (mB l s i) = [] := by
     rw [← List.length_eq_zero_iff]; omega
   rw [this, List.filter_eq_nil_iff]
   constructor
   · intro h k hk; simpa using h k hk
   · intro h k hk; simp [h k hk]
 · simp [hi]
theorem Zln {l : List Ze} {s : List ByteArray} (c : Ctx l s) {T left : List Int} (hT : Rise l T) {r : Z1 × Bool} (h : LineOk l s T left r.1) (j : Nat) (hj : j < l.length) : Zu l s r (j : Int) (Int.toNat ((j : Int) - (0 : Int)) + 1) (0 : Int) = some (.inr ()) := by
 have hTl : T.length ≤ 40 := Nat.le_trans hT.len c.len
 have hll := c.len
 obtain ⟨_, _, h2⟩ := Zhn j (by omega) (fun n (_ : Unit) i => Zu l s r (j : Int) n i) (fun _ _ => True) (fun _ => (.inr () : Bool ⊕ Unit)) (fun n k _ hk _ => by
   refine ⟨(), trivial, ?_⟩
   show Zu l s r (j : Int) (n + 1) (k : Int) = _
   rw [Zu, decide_eq_true (by omega), if_pos rfl, h.ready hTl, h.ready hTl]
   simp only [Option.bind_some, Zeq]
   by_cases hr : (Zdp l s left (j : Int) && (if Zdp l s left (j : Int) = true then Zdp l s left (k : Int) else default)) = true
   · simp only [hr, gd_t, Zfw (l := l) (k := (k : Int)) ⟨by omega, by omega⟩, Zfw (l := l) (k := (j : Int)) ⟨by omega, by omega⟩, Option.bind_some, c.meetR (k := (k : Int)) (n := (j : Int)) ⟨by omega, by omega⟩ ⟨by omega, by omega⟩, Bool.true_and]
     have h1 : Zdp l s left (j : Int) = true := by
       cases h1 : Zdp l s left (j : Int)
       · rw [h1] at hr; simp at hr
       · rfl
     rw [h1] at hr
     simp only [Bool.true_and, if_true] at hr
     have := (Zif.1 h1).2 _ (Zif.1 hr).1
     unfold mB at this
     rw [decide_eq_true (by omega), Bool.true_and] at this
     rw [this, if_neg (by decide)]
   · simp only [eq_false_of_ne_true hr, gd_f, Option.bind_some, Bool.false_and, Bool.false_eq_true, if_false]) (fun n _ _ => by
     show Zu l s r (j : Int) (n + 1) (j : Int) = _
     rw [Zu, lt_e]; rfl) (s0 := ()) trivial
 exact h2
theorem Zlr {l : List Ze} {s : List ByteArray} (c : Ctx l s) {T left : List Int} (hT : Rise l T) {r : Z1 × Bool} (h : LineOk l s T left r.1) : Zv l s r (Int.toNat ((l.length : Int) - (0 : Int)) + 1) (0 : Int) = some (.inr ()) := by
 have hll := c.len
 obtain ⟨_, _, h2⟩ := Zhn l.length (by omega) (fun n (_ : Unit) i => Zv l s r n i) (fun _ _ => True) (fun _ => (.inr () : Bool ⊕ Unit)) (fun n k _ hk _ => by
   refine ⟨(), trivial, ?_⟩
   show Zv l s r (n + 1) (k : Int) = _
   rw [Zv, decide_eq_true (by omega), if_pos rfl, Zln c hT h k hk]
   rfl) (fun n _ _ => by
     show Zv l s r (n + 1) (l.length : Int) = _
     rw [Zv, lt_e]; rfl) (s0 := ()) trivial
 exact h2
theorem LineApart_true (a0 : List Ze) (a1 : List ByteArray) (a2 : List Int) (w0 : a0.length ≤ maxLen ∧ ∀ e0 ∈ a0, Zfv e0) (w1 : a1.length ≤ maxLen ∧ ∀ e0 ∈ a1, e0.size ≤ maxLen) (w2 : a2.length ≤ maxLen ∧ ∀ e0 ∈ a2, (IntKind.i64).min ≤ e0 ∧ e0 ≤ (IntKind.i64).max) : Zcu a0 a1 a2 = some true := by
 unfold Zcu
 rw [Zlx]
 simp only [Option.bind_some, Bool.not_true, Bool.false_eq_true, if_false]
 obtain ⟨b, hb, hb2⟩ := Zn1 a0
 rw [hb]
 simp only [Option.bind_some]
 split
 · rfl
 · rename_i hc
   simp only [Bool.or_eq_true, decide_eq_true_eq, not_or] at hc
   obtain ⟨⟨hc1, hc2⟩, hc3⟩ := hc
   obtain ⟨hl, hacts⟩ := hb2 hc1
   have c : Ctx a0 a1 := ⟨hl, hacts, by omega⟩
   obtain ⟨T, hT, hR, _⟩ := Zna hl ([] : List Bool)
   obtain ⟨x, hx, hx1, hx2⟩ := Znd c hR
   have hTl : T.length ≤ 40 := Nat.le_trans hR.len hl
   rw [hT]
   simp only [Option.bind_some]
   rw [hx]
   simp only [Option.bind_some]
   rw [if_pos (by simp only [List.length_cons, List.length_nil]; omega)]
   obtain ⟨st, _, h2⟩ := Zeu ([(-1 : Int)] ++ a2) (Z8 a0 a1 a2) (fun i st => ∃ left, LineOk a0 a1 T left st) (fun _ => (.inr () : Bool ⊕ Unit)) (by simp only [List.length_append, List.length_cons, List.length_nil]; omega) (fun n i st e he ⟨left, hp⟩ => by
     obtain ⟨x', hd, hp'⟩ := hp.done hTl e
     refine ⟨x', ⟨_, hp'⟩, ?_⟩
     rw [Z8, lt_i he, if_pos rfl, idxn, he]
     simp only [Option.bind_some]
     rw [hd]
     simp only [Option.bind_some]
     rw [Zlr (r := (x', Zdp a0 a1 left e)) c hR hp']
     rfl) (fun n st hp => by rw [Z8, lt_e]; rfl) (s0 := x) ⟨T, LineOk.new hx1 hx2⟩
   rw [h2]
   rfl
end Go.CL
namespace Go.CL
open Go Go.RowKit Go.Proofs Go.ChangeShapes Go.WideShapes Go.ChangeAt
theorem Zms : ownKnob Try.prog.godebug = none := by kernel_rfl
theorem Zhb : laidOutB Try.prog = true := by kernel_rfl
theorem op_3 : Opn Try.prog 3 (Kd.int .i64) (fun x => ((IntKind.i64).min ≤ x ∧ x ≤ (IntKind.i64).max)) := Zju Try.underlying3 (by kernel_rfl)
theorem op_9 : Opn Try.prog 9 Kd.str (fun x => (x.size ≤ maxLen)) := Zmz Try.underlying9 (by kernel_rfl)
theorem op_2 : Opn Try.prog 2 (Kd.int .i64) (fun x => ((IntKind.i64).min ≤ x ∧ x ≤ (IntKind.i64).max)) := Zju Try.underlying2 (by kernel_rfl)
theorem Zj8 : Opn Try.prog 44 Kd.flt (fun x => (x < 2 ^ 64)) := Znb Try.underlying44 (by kernel_rfl)
theorem Zob : Opn Try.prog 67 Zb4 Zfu := ⟨by kernel_rfl, fun hg h => by
 obtain ⟨hl, n, hf⟩ := Ze8 Try.underlying67 h
 obtain ⟨y0, h0⟩ := hf 0 _ rfl
 obtain ⟨v0, k0, w0⟩ := Zj8.op hg h0
 obtain ⟨y1, h1⟩ := hf 1 _ rfl
 obtain ⟨v1, k1, w1⟩ := op_9.op hg h1
 refine ⟨⟨v0, v1⟩, ⟨hl.trans (by kernel_rfl), (List.forall_mem_cons.2 ⟨k0, (List.forall_mem_cons.2 ⟨k1, (fun _ h => by cases h)⟩)⟩)⟩, w0, w1⟩, fun h => Zfq Try.underlying67 h⟩
theorem Zoi : Opn Try.prog 45 Zb4.sl (fun x => (x.length ≤ maxLen ∧ ∀ e0 ∈ x, (Zfu e0))) := Zgr Try.underlying45 (by kernel_rfl) Zob (by decide)
theorem Znr : Opn Try.prog 47 Zca Zgc := ⟨by kernel_rfl, fun hg h => by
 obtain ⟨hl, n, hf⟩ := Ze8 Try.underlying47 h
 obtain ⟨y0, h0⟩ := hf 0 _ rfl
 obtain ⟨v0, k0, w0⟩ := op_3.op hg h0
 obtain ⟨y1, h1⟩ := hf 1 _ rfl
 obtain ⟨v1, k1, w1⟩ := op_2.op hg h1
 obtain ⟨y2, h2⟩ := hf 2 _ rfl
 obtain ⟨v2, k2, w2⟩ := op_2.op hg h2
 obtain ⟨y3, h3⟩ := hf 3 _ rfl
 obtain ⟨v3, k3, w3⟩ := op_2.op hg h3
 obtain ⟨y4, h4⟩ := hf 4 _ rfl
 obtain ⟨v4, k4, w4⟩ := Zj8.op hg h4
 obtain ⟨y5, h5⟩ := hf 5 _ rfl
 obtain ⟨v5, k5, w5⟩ := op_3.op hg h5
 obtain ⟨y6, h6⟩ := hf 6 _ rfl
 obtain ⟨v6, k6, w6⟩ := op_9.op hg h6
 obtain ⟨y7, h7⟩ := hf 7 _ rfl
 obtain ⟨v7, k7, w7⟩ := Zoi.op hg h7
 refine ⟨⟨v0, v1, v2, v3, v4, v5, v6, v7⟩, ⟨hl.trans (by kernel_rfl), (List.forall_mem_cons.2 ⟨k0, (List.forall_mem_cons.2 ⟨k1, (List.forall_mem_cons.2 ⟨k2, (List.forall_mem_cons.2 ⟨k3, (List.forall_mem_cons.2 ⟨k4, (List.forall_mem_cons.2 ⟨k5, (List.forall_mem_cons.2 ⟨k6, (List.forall_mem_cons.2 ⟨k7, (fun _ h => by cases h)⟩)⟩)⟩)⟩)⟩)⟩)⟩)⟩)⟩, w0, w1, w2, w3, w4, w5, w6, w7⟩, fun h => Zfq Try.underlying47 h⟩
theorem op_4 : Opn Try.prog 4 Kd.bool (fun x => True) := Zl7 Try.underlying4 (by kernel_rfl)
theorem Zoe : Opn Try.prog 49 Zp Zf5 := ⟨by kernel_rfl, fun hg h => by
 obtain ⟨hl, n, hf⟩ := Ze8 Try.underlying49 h
 obtain ⟨y0, h0⟩ := hf 0 _ rfl
 obtain ⟨v0, k0, w0⟩ := op_3.op hg h0
 obtain ⟨y1, h1⟩ := hf 1 _ rfl
 obtain ⟨v1, k1, w1⟩ := op_9.op hg h1
 obtain ⟨y2, h2⟩ := hf 2 _ rfl
 obtain ⟨v2, k2, w2⟩ := op_2.op hg h2
 obtain ⟨y3, h3⟩ := hf 3 _ rfl
 obtain ⟨v3, k3, w3⟩ := Zj8.op hg h3
 obtain ⟨y4, h4⟩ := hf 4 _ rfl
 obtain ⟨v4, k4, w4⟩ := op_9.op hg h4
 obtain ⟨y5, h5⟩ := hf 5 _ rfl
 obtain ⟨v5, k5, w5⟩ := Znr.op hg h5
 obtain ⟨y6, h6⟩ := hf 6 _ rfl
 obtain ⟨v6, k6, w6⟩ := op_4.op hg h6
 refine ⟨⟨v0, v1, v2, v3, v4, v5, v6⟩, ⟨hl.trans (by kernel_rfl), (List.forall_mem_cons.2 ⟨k0, (List.forall_mem_cons.2 ⟨k1, (List.forall_mem_cons.2 ⟨k2, (List.forall_mem_cons.2 ⟨k3, (List.forall_mem_cons.2 ⟨k4, (List.forall_mem_cons.2 ⟨k5, (List.forall_mem_cons.2 ⟨k6, (fun _ h => by cases h)⟩)⟩)⟩)⟩)⟩)⟩)⟩)⟩, w0, w1, w2, w3, w4, w5, w6⟩, fun h => Zfq Try.underlying49 h⟩
theorem Znv : Opn Try.prog 41 Zp.sl (fun x => (x.length ≤ maxLen ∧ ∀ e0 ∈ x, (Zf5 e0))) := Zgr Try.underlying41 (by kernel_rfl) Zoe (by decide)
theorem Zn0 : Opn Try.prog 43 Zf Zfv := ⟨by kernel_rfl, fun hg h => by
 obtain ⟨hl, n, hf⟩ := Ze8 Try.underlying43 h
 obtain ⟨y0, h0⟩ := hf 0 _ rfl
 obtain ⟨v0, k0, w0⟩ := Znv.op hg h0
 refine ⟨⟨v0⟩, ⟨hl.trans (by kernel_rfl), (List.forall_mem_cons.2 ⟨k0, (fun _ h => by cases h)⟩)⟩, w0⟩, fun h => Zfq Try.underlying43 h⟩
theorem Znp : Opn Try.prog 22 Zf.sl (fun x => (x.length ≤ maxLen ∧ ∀ e0 ∈ x, (Zfv e0))) := Zgr Try.underlying22 (by kernel_rfl) Zn0 (by decide)
theorem Zof : Opn Try.prog 23 Kd.str.sl (fun x => (x.length ≤ maxLen ∧ ∀ e0 ∈ x, (e0.size ≤ maxLen))) := Zgr Try.underlying23 (by kernel_rfl) op_9 (by decide)
theorem Znm : Opn Try.prog 24 (Kd.int .i64).sl (fun x => (x.length ≤ maxLen ∧ ∀ e0 ∈ x, ((IntKind.i64).min ≤ e0 ∧ e0 ≤ (IntKind.i64).max))) := Zgr Try.underlying24 (by kernel_rfl) op_3 (by decide)
theorem LineApart_ret (os : Os) (started : os.Started) (H : Type) (enc : TypeId × Value → H) :
   ReturnsInHanded {} Try.checked os 5 .any (Go.Proofs.Ytbepodihebbahaa.Rows.lineApartSpec.pre6 enc Try.prog Try.f5 Go.Proofs.Ytbepodihebbahaa.Rows.lineApartRow.domain false) (Go.Proofs.Ytbepodihebbahaa.Rows.lineApartSpec.post enc Try.prog Try.f5 false true false false) := by
 refine returnsInHanded_of_change (C := Try.checked) Zms started (by kernel_rfl) Try.func5
   (ChangeSpec.witness6 (enc := enc) (C := Try.checked) false ⟨#[], #[.slice none 0 0, .slice none 0 0, .slice none 0 0], []⟩ 8 (by kernel_rfl) (by kernel_rfl) (by kernel_rfl) (by kernel_rfl)) ?_
 intro W base args ds gs before hval0 hW hcnd _
 have hval : ∀ (j : Nat) t v, Try.f5.params[j]? = some t → args[j]? = some v → Value.okWide Try.prog W .any base t v := hval0
 have hW' := hW
 obtain ⟨p, q, hA0, hV, rfl, hfz, hnd⟩ := hW
 have hA : DataW.TrodAll enc Try.prog W 0 (fun _ => true) true Try.f5.params.toList args.toList ds p := hA0
 rw [Try.params5] at hA hval
 obtain ⟨v0, v1, v2, d0, d1, d2, p0, p1, p2, rfl, rfl, rfl, h0, h1, h2⟩ := trodAll_three hA
 obtain ⟨rfl, rfl⟩ := trodVars_none hV
 simp only [List.append_nil] at hW'
 have hg : GLok W (fun b _ => b < W.heap.size) := (Zlo rfl W _)
 have hk0 := h0
 obtain ⟨a0, q0, w0⟩ := Zi6 Znp hg h0 (hval 0 22 v0 rfl rfl)
 have hk1 := h1
 obtain ⟨a1, q1, w1⟩ := Zi6 Zof hg h1 (hval 1 23 v1 rfl rfl)
 have hk2 := h2
 obtain ⟨a2, q2, w2⟩ := Zi6 Znm hg h2 (hval 2 24 v2 rfl rfl)
 refine (Zff a0 a1 a2 (LineApart_true a0 a1 a2 w0 w1 w2) (GW W hg) [v0, v1, v2] (Zc1 q0 (Zc1 q1 (Zc1 q2 Zga)))).mono fun e W' ⟨g', v, he, hw, hs, hq⟩ => ?_
 subst he; subst hw
 rw [Zco.1 hq]
 have hbel := Zl1 hs
 have hlt : ∀ x ∈ (p0 ++ p1 ++ p2), x.block < W.heap.size := fun x hx => by simpa using hW'.lt x hx
 exact ⟨_, rfl, Zij (pv := []) hW' hbel (trodAll_mk1 (shut_bool Try.underlying4 true)) (trodAll_mk3 (Below.trod Zhb (by kernel_rfl) (of_decide_eq_true (by kernel_rfl)) hk0 hbel (fun x hx => hlt x (by simp [hx]))) (Below.trod Zhb (by kernel_rfl) (of_decide_eq_true (by kernel_rfl)) hk1 hbel (fun x hx => hlt x (by simp [hx]))) (Below.trod Zhb (by kernel_rfl) (of_decide_eq_true (by kernel_rfl)) hk2 hbel (fun x hx => hlt x (by simp [hx])))) rfl⟩
theorem LineApart_holds : Go.Proofs.Ytbepodihebbahaa.Rows.LineApartSaid :=
 OpenClaim.holds_of_wide 5 Try.f5 rfl rfl rfl rfl rfl rfl rfl ⟨rfl, rfl, rfl, rfl, rfl⟩ rfl rfl rfl rfl rfl (by kernel_rfl) Try.func5 (by kernel_rfl)
   (of_decide_eq_true (by kernel_rfl)) (by unfold Func.isWrapper; first | (rw [if_pos (by decide +kernel)]; kernel_rfl) | (rw [if_neg (by decide +kernel)]; exact ⟨rfl, rfl⟩))
   (fun os started H enc _ => LineApart_ret os started H enc)
end Go.CL
