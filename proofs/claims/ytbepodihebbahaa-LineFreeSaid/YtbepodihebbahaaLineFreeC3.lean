/- A part of the proof of LineFree. -/
import Derived.Test.YtbepodihebbahaaLineFreeC2
import Derived.Laws.Strings
import Derived.Test.YtbepodihebbahaaRows
set_option linter.unusedVariables false
set_option linter.unusedSimpArgs false
set_option maxRecDepth 100000
namespace Go.CL
open Go Go.RowKit Go.Proofs
theorem Zfa {r : Bool} (h : Zc2 = some r) : FnOk Try.prog 7 [] (Zn r) := by
 have H0 := h
 unfold Zc2 at H0
 clear h
 refine Zb6 (N := 70) Try.func7 rfl rfl (Nat.le_of_ble_eq_true rfl) rfl rfl (fun a g0 hst hb => ?_)
 refine r_s (T := [⟨[], _, [], [], [0]⟩]) (F := []) hst hb Zb
   (o_p rfl (Zc rfl rfl c_b) <| o_n) (by kernel_rfl) (fun a g hst hb => ?_)
 refine r_s (T := [⟨[], _, [], [], [4]⟩, ⟨[.op 0 0], _, [], [0], [5]⟩, ⟨[.op 1 0], _, [], [0, 1], [6]⟩, ⟨[], [(1, (pBox Zl 1 (default : Ze)))], [2], [], [1]⟩, ⟨[.op 2 0, .op 3 0], _, [2], Lr 4, [1]⟩]) (F := [.op 4 0]) hst hb Zb
   (o_p rfl (Zi1 rfl rfl c_i c_s c_i) <| o_p rfl (Zdw Zm0 (xs := [.tmp 4]) (.cons u_0 .nil) (by decide) rfl rfl) <| o_p rfl (Zmd rfl rfl u_0) <| o_p rfl (Zed (zs := [.slice none 0 0]) (by kernel_rfl) (fun g => Zgp g) rfl rfl) <| o_p rfl (Zd6 Zd0 rfl rfl u_1 u_0) <| o_n) (by kernel_rfl) (fun a g hst hb => ?_)
 obtain ⟨r1, h2, H0⟩ := Zd H0
 refine r_s (T := [⟨[.old 0], _, [], [], [7]⟩, ⟨[.old 0], _, [], [], [8]⟩, ⟨[.op 0 0, .op 1 0], _, [], [0, 1], [9]⟩, ⟨[], _, [], [], [10]⟩, ⟨[.op 2 0, .op 3 0], [(11, (pObj Zs 11 r1))], [12, 1000012], Lr 4, [11]⟩, ⟨[.op 4 0], [(2, (pObj Zs 11 r1))], [], Lr 5, [2]⟩]) (F := [.old 0, .op 5 0]) hst hb Zb
   (o_p rfl (Zh Zd0 rfl rfl u_0) <| o_p rfl (Zh Zd0 rfl rfl u_0) <| o_p rfl (Zdw Zlx (xs := [.tmp 7, .tmp 8]) (.cons u_0 (.cons u_1 .nil)) (by decide) rfl rfl) <| o_p rfl (Zdw Zdk (xs := [.const (.int .i64 0), .const (.int .i64 1)]) (.cons c_i (.cons c_i .nil)) (by decide) rfl rfl) <| o_p rfl (Zfk Zjq (Ze7 _ _ _ h2) rfl rfl (.cons u_0 (.cons u_1 (.cons (Opd.c (fun g => Zfp g)) .nil)))) <| o_p rfl (Zc rfl rfl u_0) <| o_n) (by kernel_rfl) (fun a g hst hb => ?_)
 obtain ⟨r3, h4, H0⟩ := Zd H0
 refine r_s (T := [⟨[.old 0], _, [], [], [12]⟩, ⟨[.old 0], _, [], [], [13]⟩, ⟨[.op 0 0, .op 1 0], _, [], [0, 1], [14]⟩, ⟨[], _, [], [], [15]⟩, ⟨[], _, [], [], [16]⟩, ⟨[.op 2 0, .op 3 0, .op 4 0], [(17, (pObj Zs 17 r3))], [18, 1000018], Lr 5, [17]⟩, ⟨[.op 5 0], [(3, (pObj Zs 17 r3))], [], Lr 6, [3]⟩]) (F := [.old 1, .op 6 0]) hst hb Zb
   (o_p rfl (Zh Zd0 rfl rfl u_0) <| o_p rfl (Zh Zd0 rfl rfl u_0) <| o_p rfl (Zdw Zlx (xs := [.tmp 12, .tmp 13]) (.cons u_0 (.cons u_1 .nil)) (by decide) rfl rfl) <| o_p rfl (Zdw Zdk (xs := [.const (.int .i64 0), .const (.int .i64 1)]) (.cons c_i (.cons c_i .nil)) (by decide) rfl rfl) <| o_p rfl (Zdw Znn (xs := [.const (.string ⟨#[97]⟩)]) (.cons c_s .nil) (by decide) rfl rfl) <| o_p rfl (Zfk Zjq (Ze7 _ _ _ h4) rfl rfl (.cons u_0 (.cons u_1 (.cons u_2 .nil)))) <| o_p rfl (Zc rfl rfl u_0) <| o_n) (by kernel_rfl) (fun a g hst hb => ?_)
 refine wp_seq ?_
 obtain ⟨r5, h6, H0⟩ := Zd H0
 refine r_s (T := [⟨[.old 0], [(18, (pObj Zs 11 r1))], [], [], [18]⟩, ⟨[.op 0 0], _, [], [0], [19]⟩, ⟨[.op 1 0], _, [], [0, 1], [20]⟩, ⟨[.op 2 0, .old 1], [(21, (pIf (!false) (pObj Zs 17 r3)))], [], [0, 1, 2], [21]⟩, ⟨[.op 2 0, .op 3 0], _, [], Lr 4, [22]⟩, ⟨[.op 2 0, .op 4 0], _, [], Lr 5, [23]⟩, ⟨[.op 5 0], _, [], Lr 6, [24]⟩, ⟨[.op 6 0, .old 0], [(25, (pIf (!(false || false)) (pObj Zs 11 r1)))], [], Lr 7, [25]⟩, ⟨[.op 6 0, .op 7 0, .old 0], [(26, (pIf (!(false || false)) (pInt .i64 r5))), (2, (pObj Zs 11 r1))], [12, 1000012], Lr 8, [2, 18, 25, 26]⟩, ⟨[.op 6 0, .op 8 0], _, [], Lr 9, [27]⟩, ⟨[.op 6 0, .op 9 0], _, [], Lr 10, [28]⟩]) (F := [.op 8 1, .old 1, .op 10 0]) hst hb Zb
   (o_p rfl (Za rfl rfl u_0) <| o_p rfl (Zkt Try.underlying28 rfl rfl u_0 Zjg) <| o_p rfl (Za rfl rfl u_0) <| o_g (g_f rfl rfl rfl (fun hG => Za rfl rfl u_0)) <| o_g (g_f rfl rfl rfl (fun hG => Zkt Try.underlying28 rfl rfl (Opd.gd hG u_0) Zjg)) <| o_p rfl (Zct rfl rfl u_0 (fun hz => (Opd.gd (bNF hz) u_1))) <| o_p rfl (Za rfl rfl u_0) <| o_g (g_f rfl rfl rfl (fun hG => Za rfl rfl u_0)) <| o_g (OT.guardM (!(false || false)) (gF (false || false)).1 (gF (false || false)).2 rfl rfl rfl (by decide) u_1 (fun hG => Zbx Zh1 (Zc7 _ (Zbq h6 hG)) rfl rfl rfl (by decide) u_1 (Opd.gd hG u_0) .nil) (ite_self _).symm) <| o_g (g_f rfl rfl rfl (fun hG => Zh3 rfl rfl (Opd.gd hG u_0) c_i)) <| o_p rfl (Zct rfl rfl u_0 (fun hz => (Opd.gd (bNF hz) u_1))) <| o_n) (by kernel_rfl) (fun a g hst hb => ?_)
 refine wp_cond_split (hst.bool 2 rfl) (fun hc7 => ?_) (fun hc7 => ?_)
 · replace H0 := Zz hc7 H0
   refine r_s (L := []) (T := [⟨[], _, [], [], [0]⟩]) (F := [.op 0 0]) (hst.pick [] rfl) hb Zb
     (o_p rfl (Zc rfl rfl c_b) <| o_n) (by kernel_rfl) (fun a g hst hb => ?_)
   refine wp_ret ?_
   refine Zm ?_
   obtain rfl := Option.some.inj H0
   exact Z5 rfl hst hb (Zk (s := 0)) (hst.at 0 rfl)
 · replace H0 := Z0 hc7 H0
   refine wp_skip ?_
   refine Zj ?_
   obtain ⟨r8, h9, H0⟩ := Zd H0; obtain ⟨r10, h11, H0⟩ := Zd H0; obtain ⟨r12, h13, H0⟩ := Zd H0; obtain ⟨r14, h15, H0⟩ := Zd H0; obtain ⟨r16, h17, H0⟩ := Zd H0; obtain ⟨r18, h19, H0⟩ := Zd H0; obtain ⟨r20, h21, H0⟩ := Zd H0; obtain ⟨r22, h23, H0⟩ := Zd H0; obtain ⟨r24, h25, H0⟩ := Zd H0; obtain ⟨r26, h27, H0⟩ := Zd H0
   refine r_s (L := [(2, _), (3, _)]) (T := ⟨[.old 0], [(29, (pObj Zs 11 r1))], [], [], [29]⟩ :: ⟨[.op 0 0, .old 0], [(30, (Zn r8)), (2, (pObj Zs 11 r1))], [12, 1000012], [0], [2, 29, 30]⟩ :: ⟨[.op 1 0], _, [], [0, 1], [31]⟩ :: ⟨[.op 2 0, .op 1 1], [(32, (pIf r8 (pObj Zs 11 r1)))], [], [0, 1, 2], [32]⟩ :: ⟨[.op 2 0, .op 3 0, .op 1 1], [(33, (pIf r8 (Zn r10))), (2, (pObj Zs 11 r1))], [12, 1000012], Lr 4, [2, 29, 32, 33]⟩ :: ⟨[.op 2 0, .op 4 0], _, [], Lr 5, [34]⟩ :: ⟨[.op 2 0, .op 5 0], _, [], Lr 6, [35]⟩ :: ⟨[.op 6 0], _, [], Lr 7, [36]⟩ :: ⟨[.op 7 0, .op 4 1], [(37, (pIf (r8 && (!r10)) (pObj Zs 11 r1)))], [], Lr 8, [37]⟩ :: ⟨[.op 7 0, .op 8 0, .op 4 1], [(38, (pIf (r8 && (!r10)) ((Kd.int .i64).sl.pd r12))), (2, (pObj Zs 11 r1))], [12, 1000012], Lr 9, [2, 29, 32, 37, 38]⟩ :: ⟨[.op 7 0], _, [], Lr 8, [39]⟩ :: ⟨[.op 7 0, .op 9 0, .op 10 0], _, [], Lr 11, [40]⟩ :: ⟨[.op 7 0, .op 11 0], _, [], Lr 12, [41]⟩ :: ⟨[.op 12 0], _, [], Lr 13, [42]⟩ :: ⟨[.op 13 0, .old 1], [(43, (pIf ((r8 && (!r10)) && r14) (pObj Zs 17 r3)))], [], Lr 14, [43]⟩ :: ⟨[.op 13 0, .op 14 0, .old 1], [(44, (pIf ((r8 && (!r10)) && r14) (Zn r16))), (3, (pObj Zs 17 r3))], [18, 1000018], Lr 15, [3, 43, 44]⟩ :: ⟨[.op 13 0, .op 15 0], _, [], Lr 16, [45]⟩ :: ⟨[.op 16 0], _, [], Lr 17, [46]⟩ :: ⟨[.op 17 0, .op 9 1], [(47, (pIf (((r8 && (!r10)) && r14) && r16) (pObj Zs 11 r1)))], [], Lr 18, [47]⟩ :: ⟨[.op 17 0, .op 18 0, .op 9 1], [(48, (pIf (((r8 && (!r10)) && r14) && r16) (Zn r18.2))), (2, (pObj Zs 11 (if (((r8 && (!r10)) && r14) && r16) = true then r18.1 else r1)))], [12, 1000012], Lr 19, [2, 29, 32, 37, 47, 48]⟩ :: ⟨[.op 17 0, .op 19 0], _, [], Lr 20, [49]⟩ :: ⟨[.op 17 0, .op 20 0], _, [], Lr 21, [50]⟩ :: ⟨[.op 21 0], _, [], Lr 22, [51]⟩ :: ⟨[.op 22 0, .op 19 1], [(52, (pIf ((((r8 && (!r10)) && r14) && r16) && (!r18.2)) (pObj Zs 11 (if (((r8 && (!r10)) && r14) && r16) = true then r18.1 else r1))))], [], Lr 23, [52]⟩ :: ⟨[.op 22 0, .op 23 0, .op 19 1], [(53, (pIf ((((r8 && (!r10)) && r14) && r16) && (!r18.2)) (Zn r20.2))), (2, (pObj Zs 11 (if ((((r8 && (!r10)) && r14) && r16) && (!r18.2)) = true then r20.1 else (if (((r8 && (!r10)) && r14) && r16) = true then r18.1 else r1))))], [12, 1000012], Lr 24, [2, 29, 32, 37, 47, 52, 53]⟩ :: ⟨[.op 22 0, .op 24 0], _, [], Lr 25, [54]⟩ :: ⟨[.op 25 0], _, [], Lr 26, [55]⟩ :: ⟨[.op 26 0, .op 24 1], [(56, (pIf (((((r8 && (!r10)) && r14) && r16) && (!r18.2)) && r20.2) (pObj Zs 11 (if ((((r8 && (!r10)) && r14) && r16) && (!r18.2)) = true then r20.1 else (if (((r8 && (!r10)) && r14) && r16) = true then r18.1 else r1)))))], [], Lr 27, [56]⟩ :: ⟨[.op 26 0, .op 27 0, .op 24 1], [(57, (pIf (((((r8 && (!r10)) && r14) && r16) && (!r18.2)) && r20.2) (Zn r22.2))), (2, (pObj Zs 11 (if (((((r8 && (!r10)) && r14) && r16) && (!r18.2)) && r20.2) = true then r22.1 else (if ((((r8 && (!r10)) && r14) && r16) && (!r18.2)) = true then r20.1 else (if (((r8 && (!r10)) && r14) && r16) = true then r18.1 else r1)))))], [12, 1000012], Lr 28, [2, 29, 32, 37, 47, 52, 56, 57]⟩ :: ⟨[.op 26 0, .op 28 0], _, [], Lr 29, [58]⟩ :: ⟨[.op 29 0], _, [], Lr 30, [59]⟩ :: ⟨[.op 30 0, .op 28 1], [(60, (pIf ((((((r8 && (!r10)) && r14) && r16) && (!r18.2)) && r20.2) && r22.2) (pObj Zs 11 (if (((((r8 && (!r10)) && r14) && r16) && (!r18.2)) && r20.2) = true then r22.1 else (if ((((r8 && (!r10)) && r14) && r16) && (!r18.2)) = true then r20.1 else (if (((r8 && (!r10)) && r14) && r16) = true then r18.1 else r1))))))], [], Lr 31, [60]⟩ :: ⟨[.op 30 0, .op 31 0, .op 28 1], [(61, (pIf ((((((r8 && (!r10)) && r14) && r16) && (!r18.2)) && r20.2) && r22.2) (pInt .i64 r24))), (2, (pObj Zs 11 (if (((((r8 && (!r10)) && r14) && r16) && (!r18.2)) && r20.2) = true then r22.1 else (if ((((r8 && (!r10)) && r14) && r16) && (!r18.2)) = true then r20.1 else (if (((r8 && (!r10)) && r14) && r16) = true then r18.1 else r1)))))], [12, 1000012], Lr 32, [2, 29, 32, 37, 47, 52, 56, 60, 61]⟩ :: ⟨[.op 30 0, .op 32 0], _, [], Lr 33, [62]⟩ :: ⟨[.op 30 0, .op 33 0], _, [], Lr 34, [63]⟩ :: ⟨[.op 34 0], _, [], Lr 35, [64]⟩ :: ⟨[.op 35 0, .op 32 1], [(65, (pIf (((((((r8 && (!r10)) && r14) && r16) && (!r18.2)) && r20.2) && r22.2) && (r24 == (0 : Int))) (pObj Zs 11 (if (((((r8 && (!r10)) && r14) && r16) && (!r18.2)) && r20.2) = true then r22.1 else (if ((((r8 && (!r10)) && r14) && r16) && (!r18.2)) = true then r20.1 else (if (((r8 && (!r10)) && r14) && r16) = true then r18.1 else r1))))))], [], Lr 36, [65]⟩ :: ⟨[.op 35 0, .op 36 0, .op 32 1], [(66, (pIf (((((((r8 && (!r10)) && r14) && r16) && (!r18.2)) && r20.2) && r22.2) && (r24 == (0 : Int))) ((Kd.int .i64).sl.pd r26))), (2, (pObj Zs 11 (if (((((r8 && (!r10)) && r14) && r16) && (!r18.2)) && r20.2) = true then r22.1 else (if ((((r8 && (!r10)) && r14) && r16) && (!r18.2)) = true then r20.1 else (if (((r8 && (!r10)) && r14) && r16) = true then r18.1 else r1)))))], [12, 1000012], Lr 37, [2, 29, 32, 37, 47, 52, 56, 60, 65, 66]⟩ :: ⟨[.op 35 0, .op 37 0], _, [], Lr 38, [67]⟩ :: ⟨[.op 35 0, .op 38 0], _, [], Lr 39, [68]⟩ :: ⟨[.op 35 0, .op 39 0], _, [], Lr 40, [69]⟩ :: ⟨[.op 40 0], _, [], Lr 41, [0]⟩ :: []) (F := [.op 41 0]) (hst.pick [0, 1] rfl) hb Zb
     (o_p rfl (Za rfl rfl u_0) <| o_p rfl (Zbx Zg5 (Zcz _ _ h9) rfl rfl rfl (by decide) u_1 u_0 (.cons c_i .nil)) <| o_p rfl (Za rfl rfl u_0) <| o_g (g_t rfl rfl rfl (fun hG => Za rfl rfl u_0)) <| o_g (OT.guardM r8 (gT r8).1 (gT r8).2 rfl rfl rfl (by decide) u_1 (fun hG => Zbx Zg5 (Zcz _ _ (Zbq h11 hG)) rfl rfl rfl (by decide) u_1 (Opd.gd hG u_0) (.cons c_i .nil)) (ite_self _).symm) <| o_g (g_t rfl rfl rfl (fun hG => Zdq rfl rfl (Opd.gd hG u_0))) <| o_p rfl (Zcr rfl rfl u_0 (fun hz => (Opd.gd hz u_1))) <| o_p rfl (Za rfl rfl u_0) <| o_g (g_t rfl rfl rfl (fun hG => Za rfl rfl u_0)) <| o_g (OT.guardM (r8 && (!r10)) (gT (r8 && (!r10))).1 (gT (r8 && (!r10))).2 rfl rfl rfl (by decide) u_1 (fun hG => Zbx Zj0 (Zel _ _ (Zbq h13 hG)) rfl rfl rfl (by decide) u_1 (Opd.gd hG u_0) (.cons c_i .nil)) (ite_self _).symm) <| o_g (g_t rfl rfl rfl (fun hG => Zdw Zdk (xs := [.const (.int .i64 0)]) (.cons c_i .nil) (by decide) rfl rfl)) <| o_g (g_t rfl rfl rfl (fun hG => Zbn Znp (Zfz _ _ (Zbq h15 hG)) rfl rfl (.cons (Opd.gd hG u_0) (.cons (Opd.gd hG u_1) .nil)))) <| o_p rfl (Zcr rfl rfl u_0 (fun hz => (Opd.gd hz u_1))) <| o_p rfl (Za rfl rfl u_0) <| o_g (g_t rfl rfl rfl (fun hG => Za rfl rfl u_0)) <| o_g (OT.guardM ((r8 && (!r10)) && r14) (gT ((r8 && (!r10)) && r14)).1 (gT ((r8 && (!r10)) && r14)).2 rfl rfl rfl (by decide) u_1 (fun hG => Zbx Zg5 (Zcz _ _ (Zbq h17 hG)) rfl rfl rfl (by decide) u_1 (Opd.gd hG u_0) (.cons c_i .nil)) (ite_self _).symm) <| o_p rfl (Zcr rfl rfl u_0 (fun hz => (Opd.gd hz u_1))) <| o_p rfl (Za rfl rfl u_0) <| o_g (g_t rfl rfl rfl (fun hG => Za rfl rfl u_0)) <| o_g (OT.guardM (((r8 && (!r10)) && r14) && r16) (gT (((r8 && (!r10)) && r14) && r16)).1 (gT (((r8 && (!r10)) && r14) && r16)).2 rfl rfl rfl (by decide) u_1 (fun hG => Zbx Zg3 (Zci _ _ (Zbq h19 hG)) rfl rfl rfl (by decide) u_1 (Opd.gd hG u_0) (.cons c_i .nil)) rfl) <| o_g (g_t rfl rfl rfl (fun hG => Zdq rfl rfl (Opd.gd hG u_0))) <| o_p rfl (Zcr rfl rfl u_0 (fun hz => (Opd.gd hz u_1))) <| o_p rfl (Za rfl rfl u_0) <| o_g (g_t rfl rfl rfl (fun hG => Za rfl rfl u_0)) <| o_g (OT.guardM ((((r8 && (!r10)) && r14) && r16) && (!r18.2)) (gT ((((r8 && (!r10)) && r14) && r16) && (!r18.2))).1 (gT ((((r8 && (!r10)) && r14) && r16) && (!r18.2))).2 rfl rfl rfl (by decide) u_1 (fun hG => Zbx Zg3 (Zci _ _ (Zbq h21 hG)) rfl rfl rfl (by decide) u_1 (Opd.gd hG u_0) (.cons c_i .nil)) rfl) <| o_p rfl (Zcr rfl rfl u_0 (fun hz => (Opd.gd hz u_1))) <| o_p rfl (Za rfl rfl u_0) <| o_g (g_t rfl rfl rfl (fun hG => Za rfl rfl u_0)) <| o_g (OT.guardM (((((r8 && (!r10)) && r14) && r16) && (!r18.2)) && r20.2) (gT (((((r8 && (!r10)) && r14) && r16) && (!r18.2)) && r20.2)).1 (gT (((((r8 && (!r10)) && r14) && r16) && (!r18.2)) && r20.2)).2 rfl rfl rfl (by decide) u_1 (fun hG => Zbx Zg3 (Zci _ _ (Zbq h23 hG)) rfl rfl rfl (by decide) u_1 (Opd.gd hG u_0) (.cons c_i .nil)) rfl) <| o_p rfl (Zcr rfl rfl u_0 (fun hz => (Opd.gd hz u_1))) <| o_p rfl (Za rfl rfl u_0) <| o_g (g_t rfl rfl rfl (fun hG => Za rfl rfl u_0)) <| o_g (OT.guardM ((((((r8 && (!r10)) && r14) && r16) && (!r18.2)) && r20.2) && r22.2) (gT ((((((r8 && (!r10)) && r14) && r16) && (!r18.2)) && r20.2) && r22.2)).1 (gT ((((((r8 && (!r10)) && r14) && r16) && (!r18.2)) && r20.2) && r22.2)).2 rfl rfl rfl (by decide) u_1 (fun hG => Zbx Zh1 (Zc7 _ (Zbq h25 hG)) rfl rfl rfl (by decide) u_1 (Opd.gd hG u_0) .nil) (ite_self _).symm) <| o_g (g_t rfl rfl rfl (fun hG => Zdi rfl rfl (Opd.gd hG u_0) c_i)) <| o_p rfl (Zcr rfl rfl u_0 (fun hz => (Opd.gd hz u_1))) <| o_p rfl (Za rfl rfl u_0) <| o_g (g_t rfl rfl rfl (fun hG => Za rfl rfl u_0)) <| o_g (OT.guardM (((((((r8 && (!r10)) && r14) && r16) && (!r18.2)) && r20.2) && r22.2) && (r24 == (0 : Int))) (gT (((((((r8 && (!r10)) && r14) && r16) && (!r18.2)) && r20.2) && r22.2) && (r24 == (0 : Int)))).1 (gT (((((((r8 && (!r10)) && r14) && r16) && (!r18.2)) && r20.2) && r22.2) && (r24 == (0 : Int)))).2 rfl rfl rfl (by decide) u_1 (fun hG => Zbx Zj0 (Zel _ _ (Zbq h27 hG)) rfl rfl rfl (by decide) u_1 (Opd.gd hG u_0) (.cons c_i .nil)) (ite_self _).symm) <| o_g (g_t rfl rfl rfl (fun hG => Z9 Try.underlying24 rfl rfl (Opd.gd hG u_0))) <| o_g (g_t rfl rfl rfl (fun hG => Zdi rfl rfl (Opd.gd hG u_0) c_i)) <| o_p rfl (Zcr rfl rfl u_0 (fun hz => (Opd.gd hz u_1))) <| o_p rfl (Zc rfl rfl u_0) <| o_n) (by kernel_rfl) (fun a g hst hb => ?_)
   refine wp_ret ?_
   obtain rfl := Option.some.inj H0
   exact Z5 rfl hst hb (Zk (s := 0)) (hst.at 0 rfl)
theorem Zga (a0 : Zu) {r : Int} (h : Zc3 a0 = some r) : FnOk Try.prog 35 [(Zb5.pd a0)] (pInt .i64 r) := by
 have H0 := h
 unfold Zc3 at H0
 clear h
 refine Zb6 (N := 27) Try.func35 rfl rfl (Nat.le_of_ble_eq_true rfl) rfl rfl (fun a g0 hst hb => ?_)
 refine r_s (T := [⟨[.old 0], _, [], [], [1]⟩, ⟨[], _, [], [], [2]⟩]) (F := [.op 0 0]) hst hb Zb
   (o_p rfl (Zd9 rfl rfl u_0) <| o_p rfl (Zc rfl rfl c_i) <| o_n) (by kernel_rfl) (fun a g hst hb => ?_)
 refine wp_seq ?_
 refine r_s (T := [⟨[.old 0], _, [], [], [5]⟩, ⟨[.op 0 0], _, [], [0], [6]⟩, ⟨[.op 1 0], _, [], [0, 1], [7]⟩, ⟨[.op 2 0], _, [], [0, 1, 2], [8]⟩, ⟨[.op 3 0], _, [], Lr 4, [9]⟩, ⟨[.op 4 0, .old 0], _, [], Lr 5, [10]⟩, ⟨[.op 4 0, .op 5 0], _, [], Lr 6, [11]⟩, ⟨[.op 4 0, .op 6 0], _, [], Lr 7, [12]⟩, ⟨[.op 4 0, .op 7 0], _, [], Lr 8, [13]⟩, ⟨[.op 4 0, .op 8 0], _, [], Lr 9, [14]⟩]) (F := [.old 0, .op 9 0]) hst hb Zb
   (o_p rfl (Zr Zja rfl rfl u_0) <| o_p rfl (Zh Zlu rfl rfl u_0) <| o_p rfl (Z9 Try.underlying45 rfl rfl u_0) <| o_p rfl (Zdz rfl rfl u_0 c_i) <| o_p rfl (Za rfl rfl u_0) <| o_g (g_f rfl rfl rfl (fun hG => Zr Zmf rfl rfl u_0)) <| o_g (g_f rfl rfl rfl (fun hG => Zh ty_9 rfl rfl (Opd.gd hG u_0))) <| o_g (g_f rfl rfl rfl (fun hG => Zgf Try.underlying9 rfl rfl (Opd.gd hG u_0))) <| o_g (g_f rfl rfl rfl (fun hG => Zdz rfl rfl (Opd.gd hG u_0) c_i)) <| o_p rfl (Zct rfl rfl u_0 (fun hz => (Opd.gd (bNF hz) u_1))) <| o_n) (by kernel_rfl) (fun a g hst hb => ?_)
 refine wp_cond_split (hst.bool 1 rfl) (fun hc1 => ?_) (fun hc1 => ?_)
 · replace H0 := Zz hc1 H0
   refine r_s (L := []) (T := [⟨[], _, [], [], [2]⟩]) (F := [.op 0 0]) (hst.pick [] rfl) hb Zb
     (o_p rfl (Zc rfl rfl c_i) <| o_n) (by kernel_rfl) (fun a g hst hb => ?_)
   refine wp_ret ?_
   refine Zm ?_
   obtain rfl := Option.some.inj H0
   exact Z5 rfl hst hb (Zk (s := 2)) (hst.at 0 rfl)
 · replace H0 := Z0 hc1 H0
   refine wp_skip ?_
   refine Zj ?_
   refine wp_seq ?_
   refine r_s (L := [(1, _)]) (T := [⟨[.old 0], _, [], [], [15]⟩, ⟨[.op 0 0], _, [], [0], [16]⟩, ⟨[.op 1 0], _, [], [0, 1], [17]⟩, ⟨[], _, [], [], [18]⟩]) (F := [.op 1 0, .op 2 0, .op 3 0]) (hst.pick [0] rfl) hb Zb
     (o_p rfl (Zr Zja rfl rfl u_0) <| o_p rfl (Zh Zlu rfl rfl u_0) <| o_p rfl (Z9 Try.underlying45 rfl rfl u_0) <| o_p rfl (Za rfl rfl c_i) <| o_n) (by kernel_rfl) (fun a g hst hb => ?_)
   obtain ⟨z7, hz1, H0⟩ := Zd H0
   refine Zbz (fun a w => ∃ (g : G), w = g.w ∧ St 27 [] a g ∧ Base g0 g ∧ (.inr ()) = z7) ?_ ?_
   · rintro a w ⟨g, rfl, hst, hb, rfl⟩
     refine Zj ?_
     refine r_s (T := [⟨[], _, [], [], [2]⟩]) (F := [.op 0 0]) hst hb Zb
       (o_p rfl (Zc rfl rfl c_i) <| o_n) (by kernel_rfl) (fun a g hst hb => ?_)
     refine wp_ret ?_
     obtain rfl := Option.some.inj H0
     exact Z5 rfl hst hb (Zk (s := 2)) (hst.at 0 rfl)
   · refine wp_block ?_
     refine wp_loop_ghost (fun n a w => ∃ (x2 : Int) (g : G), w = g.w ∧ St 27 [(16, (Zbv.sl.pd a0.List)), (17, (pInt .i64 (a0.List.length : Int))), (18, (pInt .i64 x2))] a g ∧ Base g0 g ∧ Zbh a0 n x2 = some z7) (Int.toNat ((a0.List.length : Int) - (0 : Int)) + 1) ⟨(0 : Int), g, rfl, (hst.pick [0, 1, 2] rfl), hb, hz1⟩ (fun n a w hI => ?_)
     obtain ⟨x2, g, rfl, hst, hb, H1⟩ := hI
     cases n with
     | zero => exact absurd H1 (by simp [Zbh])
     | succ n =>
       rw [Zbh] at H1
       refine r_s (T := [⟨[.old 2, .old 1], _, [], [], [19]⟩]) (F := [.old 0, .old 1, .old 2, .op 0 0]) hst hb Zb
         (o_p rfl (Zc8 rfl rfl u_0 u_1) <| o_n) (by kernel_rfl) (fun a g hst hb => ?_)
       refine wp_seq ?_
       refine wp_cond_split (hst.bool 3 rfl) (fun hc3 => ?_) (fun hc3 => ?_)
       · replace H1 := Zz hc3 H1
         refine wp_skip ?_
         refine Zj ?_
         refine wp_seq ?_
         refine wp_block ?_
         obtain ⟨e4, h5, H1⟩ := Zd H1
         refine r_s (L := [(16, _), (17, _), (18, _)]) (T := [⟨[.old 0, .old 2], _, [], [], [20]⟩, ⟨[.op 0 0], _, [], [0], [21]⟩, ⟨[], [(4, (pBox Zbv 4 (default : Zc5)))], [5], [], [4]⟩, ⟨[.op 1 0, .op 2 0], _, [5], [0, 1, 2], [4]⟩]) (F := [.op 3 0, .old 0, .old 1, .old 2]) (hst.pick [0, 1, 2] rfl) hb Zb
           (o_p rfl (Zy Try.underlying45 Znv rfl rfl u_0 u_1 h5) <| o_p rfl (Zh Zlr rfl rfl u_0) <| o_p rfl (Zed (zs := [.float .f64 0, .string ByteArray.empty]) (by kernel_rfl) (fun g => Zi7 g) rfl rfl) <| o_p rfl (Zd6 Zlr rfl rfl u_1 u_0) <| o_n) (by kernel_rfl) (fun a g hst hb => ?_)
         refine r_s (T := [⟨[.old 0], _, [], [], [22]⟩, ⟨[.op 0 0], _, [], [0], [23]⟩, ⟨[.op 1 0], _, [], [0, 1], [24]⟩, ⟨[.op 2 0], _, [], [0, 1, 2], [25]⟩]) (F := [.old 1, .old 2, .old 3, .op 3 0]) hst hb Zb
           (o_p rfl (Zr Zl2 rfl rfl u_0) <| o_p rfl (Zh ty_9 rfl rfl u_0) <| o_p rfl (Zgf Try.underlying9 rfl rfl u_0) <| o_p rfl (Zdz rfl rfl u_0 c_i) <| o_n) (by kernel_rfl) (fun a g hst hb => ?_)
         refine wp_cond_split (hst.bool 3 rfl) (fun hc6 => ?_) (fun hc6 => ?_)
         · replace H1 := Zz hc6 H1
           refine r_s (L := []) (T := [⟨[], _, [], [], [2]⟩]) (F := [.op 0 0]) (hst.pick [] rfl) hb Zb
             (o_p rfl (Zc rfl rfl c_i) <| o_n) (by kernel_rfl) (fun a g hst hb => ?_)
           refine wp_ret ?_
           refine Z2 ?_
           refine Zm ?_
           refine Zm ?_
           refine Z2 ?_
           refine Zm ?_
           refine Zm ?_
           obtain rfl := Option.some.inj H1
           obtain rfl := Option.some.inj H0
           exact Z5 rfl hst hb (Zk (s := 2)) (hst.at 0 rfl)
         · replace H1 := Z0 hc6 H1
           refine wp_skip ?_
           refine Zba ?_
           refine Zj ?_
           refine r_g (L := [(16, _), (17, _), (18, _)]) (T := [⟨[.old 2], _, [], [], [26]⟩, ⟨[.op 0 0], _, [], [0], [18]⟩]) (F := [.old 0, .old 1, .op 1 0]) (hst.pick [0, 1, 2] rfl) hb Zb
             (o_p rfl (Zb8 rfl rfl u_0 c_i rfl) <| o_p rfl (Za rfl rfl u_0) <| o_n) (by kernel_rfl) (fun a g hst hb => ?_)
           exact ⟨n, Nat.lt_succ_self _, (IntKind.i64.wrap (x2 + (1 : Int))), g, rfl, (hst.pick [0, 1, 2] rfl), hb, H1⟩
       · replace H1 := Z0 hc3 H1
         refine wp_exit ?_
         refine Z6 ?_
         refine Z6 ?_
         refine Zbo ?_
         exact ⟨g, rfl, (hst.pick [] rfl), hb, Option.some.inj H1⟩
theorem Zgc (a0 : Zi) {r : Int} (h : Zce a0 = some r) : FnOk Try.prog 29 [(Zq.pd a0)] (pInt .i64 r) := by
 have H0 := h
 unfold Zce at H0
 clear h
 refine Zb6 (N := 19) Try.func29 rfl rfl (Nat.le_of_ble_eq_true rfl) rfl rfl (fun a g0 hst hb => ?_)
 refine r_s (T := [⟨[.old 0], _, [], [], [1]⟩, ⟨[], _, [], [], [2]⟩]) (F := [.op 0 0]) hst hb Zb
   (o_p rfl (Zd9 rfl rfl u_0) <| o_p rfl (Zc rfl rfl c_i) <| o_n) (by kernel_rfl) (fun a g hst hb => ?_)
 refine wp_seq ?_
 obtain ⟨r1, h2, H0⟩ := Zd H0
 refine r_s (T := ⟨[.old 0], _, [], [], [3]⟩ :: ⟨[.op 0 0], _, [], [0], [4]⟩ :: ⟨[.op 1 0], _, [], [0, 1], [5]⟩ :: ⟨[.op 2 0], _, [], [0, 1, 2], [6]⟩ :: ⟨[.op 3 0], _, [], Lr 4, [7]⟩ :: ⟨[.op 4 0, .old 0], _, [], Lr 5, [8]⟩ :: ⟨[.op 4 0, .op 5 0], _, [], Lr 6, [9]⟩ :: ⟨[.op 4 0, .op 6 0], _, [], Lr 7, [10]⟩ :: ⟨[.op 4 0, .op 7 0], _, [], Lr 8, [11]⟩ :: ⟨[.op 4 0, .op 8 0], _, [], Lr 9, [12]⟩ :: ⟨[.op 9 0], _, [], Lr 10, [13]⟩ :: ⟨[.op 10 0, .old 0], _, [], Lr 11, [14]⟩ :: ⟨[.op 10 0, .op 11 0], _, [], Lr 12, [15]⟩ :: ⟨[.op 10 0, .op 12 0], _, [], Lr 13, [16]⟩ :: ⟨[.op 10 0, .op 13 0], _, [], Lr 14, [17]⟩ :: ⟨[.op 10 0, .op 14 0], _, [], Lr 15, [18]⟩ :: []) (F := [.op 15 0]) hst hb Zb
   (o_p rfl (Zr Zgl rfl rfl u_0) <| o_p rfl (Zh ty_9 rfl rfl u_0) <| o_p rfl (Zgf Try.underlying9 rfl rfl u_0) <| o_p rfl (Zdz rfl rfl u_0 c_i) <| o_p rfl (Za rfl rfl u_0) <| o_g (g_f rfl rfl rfl (fun hG => Zr Zmn rfl rfl u_0)) <| o_g (g_f rfl rfl rfl (fun hG => Zh ty_9 rfl rfl (Opd.gd hG u_0))) <| o_g (g_f rfl rfl rfl (fun hG => Zgf Try.underlying9 rfl rfl (Opd.gd hG u_0))) <| o_g (g_f rfl rfl rfl (fun hG => Zdz rfl rfl (Opd.gd hG u_0) c_i)) <| o_p rfl (Zct rfl rfl u_0 (fun hz => (Opd.gd (bNF hz) u_1))) <| o_p rfl (Za rfl rfl u_0) <| o_g (g_f rfl rfl rfl (fun hG => Zr Zl0 rfl rfl u_0)) <| o_g (g_f rfl rfl rfl (fun hG => Zh Zm6 rfl rfl (Opd.gd hG u_0))) <| o_g (g_f rfl rfl rfl (fun hG => Zbn Zni (Zga _ (Zbq h2 hG)) rfl rfl (.cons (Opd.gd hG u_0) .nil))) <| o_g (g_f rfl rfl rfl (fun hG => Zdz rfl rfl (Opd.gd hG u_0) c_i)) <| o_p rfl (Zct rfl rfl u_0 (fun hz => (Opd.gd (bNF hz) u_1))) <| o_n) (by kernel_rfl) (fun a g hst hb => ?_)
 refine wp_cond_split (hst.bool 0 rfl) (fun hc3 => ?_) (fun hc3 => ?_)
 · replace H0 := Zz hc3 H0
   refine r_s (L := []) (T := [⟨[], _, [], [], [2]⟩]) (F := [.op 0 0]) (hst.pick [] rfl) hb Zb
     (o_p rfl (Zc rfl rfl c_i) <| o_n) (by kernel_rfl) (fun a g hst hb => ?_)
   refine wp_ret ?_
   refine Zm ?_
   obtain rfl := Option.some.inj H0
   exact Z5 rfl hst hb (Zk (s := 2)) (hst.at 0 rfl)
 · replace H0 := Z0 hc3 H0
   refine wp_skip ?_
   refine Zj ?_
   refine r_s (L := []) (T := [⟨[], _, [], [], [2]⟩]) (F := [.op 0 0]) (hst.pick [] rfl) hb Zb
     (o_p rfl (Zc rfl rfl c_i) <| o_n) (by kernel_rfl) (fun a g hst hb => ?_)
   refine wp_ret ?_
   obtain rfl := Option.some.inj H0
   exact Z5 rfl hst hb (Zk (s := 2)) (hst.at 0 rfl)
theorem Zge (a0 : Ze) {r : Int} (h : Zcf a0 = some r) : FnOk Try.prog 20 [(Zl.pd a0)] (pInt .i64 r) := by
 have H0 := h
 unfold Zcf at H0
 clear h
 refine Zb6 (N := 20) Try.func20 rfl rfl (Nat.le_of_ble_eq_true rfl) rfl rfl (fun a g0 hst hb => ?_)
 refine r_s (T := [⟨[.old 0], _, [], [], [1]⟩, ⟨[], _, [], [], [2]⟩]) (F := [.op 0 0]) hst hb Zb
   (o_p rfl (Zd9 rfl rfl u_0) <| o_p rfl (Zc rfl rfl c_i) <| o_n) (by kernel_rfl) (fun a g hst hb => ?_)
 refine wp_seq ?_
 refine r_s (T := [⟨[.old 0], _, [], [], [5]⟩, ⟨[.op 0 0], _, [], [0], [6]⟩, ⟨[.op 1 0], _, [], [0, 1], [7]⟩, ⟨[.op 2 0], _, [], [0, 1, 2], [8]⟩]) (F := [.old 0, .op 3 0]) hst hb Zb
   (o_p rfl (Zr Zfd rfl rfl u_0) <| o_p rfl (Zh Zg6 rfl rfl u_0) <| o_p rfl (Z9 Try.underlying41 rfl rfl u_0) <| o_p rfl (Zdz rfl rfl u_0 c_i) <| o_n) (by kernel_rfl) (fun a g hst hb => ?_)
 refine wp_cond_split (hst.bool 1 rfl) (fun hc1 => ?_) (fun hc1 => ?_)
 · replace H0 := Zz hc1 H0
   refine r_s (L := []) (T := [⟨[], _, [], [], [2]⟩]) (F := [.op 0 0]) (hst.pick [] rfl) hb Zb
     (o_p rfl (Zc rfl rfl c_i) <| o_n) (by kernel_rfl) (fun a g hst hb => ?_)
   refine wp_ret ?_
   refine Zm ?_
   obtain rfl := Option.some.inj H0
   exact Z5 rfl hst hb (Zk (s := 2)) (hst.at 0 rfl)
 · replace H0 := Z0 hc1 H0
   refine wp_skip ?_
   refine Zj ?_
   refine wp_seq ?_
   refine r_s (L := [(1, _)]) (T := [⟨[.old 0], _, [], [], [9]⟩, ⟨[.op 0 0], _, [], [0], [10]⟩, ⟨[.op 1 0], _, [], [0, 1], [11]⟩, ⟨[], _, [], [], [12]⟩]) (F := [.op 1 0, .op 2 0, .op 3 0]) (hst.pick [0] rfl) hb Zb
     (o_p rfl (Zr Zfd rfl rfl u_0) <| o_p rfl (Zh Zg6 rfl rfl u_0) <| o_p rfl (Z9 Try.underlying41 rfl rfl u_0) <| o_p rfl (Za rfl rfl c_i) <| o_n) (by kernel_rfl) (fun a g hst hb => ?_)
   obtain ⟨z9, hz1, H0⟩ := Zd H0
   refine Zbz (fun a w => ∃ (g : G), w = g.w ∧ St 20 [] a g ∧ Base g0 g ∧ (.inr ()) = z9) ?_ ?_
   · rintro a w ⟨g, rfl, hst, hb, rfl⟩
     refine Zj ?_
     refine r_s (T := [⟨[], _, [], [], [2]⟩]) (F := [.op 0 0]) hst hb Zb
       (o_p rfl (Zc rfl rfl c_i) <| o_n) (by kernel_rfl) (fun a g hst hb => ?_)
     refine wp_ret ?_
     obtain rfl := Option.some.inj H0
     exact Z5 rfl hst hb (Zk (s := 2)) (hst.at 0 rfl)
   · refine wp_block ?_
     refine wp_loop_ghost (fun n a w => ∃ (x2 : Int) (g : G), w = g.w ∧ St 20 [(10, (Zq.sl.pd a0.Acts)), (11, (pInt .i64 (a0.Acts.length : Int))), (12, (pInt .i64 x2))] a g ∧ Base g0 g ∧ Zbj a0 n x2 = some z9) (Int.toNat ((a0.Acts.length : Int) - (0 : Int)) + 1) ⟨(0 : Int), g, rfl, (hst.pick [0, 1, 2] rfl), hb, hz1⟩ (fun n a w hI => ?_)
     obtain ⟨x2, g, rfl, hst, hb, H1⟩ := hI
     cases n with
     | zero => exact absurd H1 (by simp [Zbj])
     | succ n =>
       rw [Zbj] at H1
       refine r_s (T := [⟨[.old 2, .old 1], _, [], [], [13]⟩]) (F := [.old 0, .old 1, .old 2, .op 0 0]) hst hb Zb
         (o_p rfl (Zc8 rfl rfl u_0 u_1) <| o_n) (by kernel_rfl) (fun a g hst hb => ?_)
       refine wp_seq ?_
       refine wp_cond_split (hst.bool 3 rfl) (fun hc3 => ?_) (fun hc3 => ?_)
       · replace H1 := Zz hc3 H1
         refine wp_skip ?_
         refine Zj ?_
         refine wp_seq ?_
         refine wp_block ?_
         obtain ⟨e4, h5, H1⟩ := Zd H1
         refine r_s (L := [(10, _), (11, _), (12, _)]) (T := [⟨[.old 0, .old 2], _, [], [], [14]⟩, ⟨[.op 0 0], _, [], [0], [15]⟩, ⟨[], [(4, (pBox Zq 4 (default : Zi)))], [5], [], [4]⟩, ⟨[.op 1 0, .op 2 0], _, [5], [0, 1, 2], [4]⟩]) (F := [.op 3 0, .old 0, .old 1, .old 2]) (hst.pick [0, 1, 2] rfl) hb Zb
           (o_p rfl (Zy Try.underlying41 Zh5 rfl rfl u_0 u_1 h5) <| o_p rfl (Zh Ze2 rfl rfl u_0) <| o_p rfl (Zed (zs := [.int .i64 0, .string ByteArray.empty, .int .i64 0, .float .f64 0, .string ByteArray.empty, .int .i64 0, .int .i64 0, .int .i64 0, .int .i64 0, .float .f64 0, .int .i64 0, .string ByteArray.empty, .slice none 0 0, .bool false]) (by kernel_rfl) (fun g => Zfo g) rfl rfl) <| o_p rfl (Zd6 Ze2 rfl rfl u_1 u_0) <| o_n) (by kernel_rfl) (fun a g hst hb => ?_)
         obtain ⟨r6, h7, H1⟩ := Zd H1
         refine r_s (T := [⟨[.old 0], _, [], [], [16]⟩, ⟨[.op 0 0], _, [], [0], [17]⟩, ⟨[.op 1 0], _, [], [0, 1], [18]⟩]) (F := [.old 1, .old 2, .old 3, .op 2 0]) hst hb Zb
           (o_p rfl (Zh Ze2 rfl rfl u_0) <| o_p rfl (Zbn Znb (Zgc _ h7) rfl rfl (.cons u_0 .nil)) <| o_p rfl (Zdz rfl rfl u_0 c_i) <| o_n) (by kernel_rfl) (fun a g hst hb => ?_)
         refine wp_cond_split (hst.bool 3 rfl) (fun hc8 => ?_) (fun hc8 => ?_)
         · replace H1 := Zz hc8 H1
           refine r_s (L := []) (T := [⟨[], _, [], [], [2]⟩]) (F := [.op 0 0]) (hst.pick [] rfl) hb Zb
             (o_p rfl (Zc rfl rfl c_i) <| o_n) (by kernel_rfl) (fun a g hst hb => ?_)
           refine wp_ret ?_
           refine Z2 ?_
           refine Zm ?_
           refine Zm ?_
           refine Z2 ?_
           refine Zm ?_
           refine Zm ?_
           obtain rfl := Option.some.inj H1
           obtain rfl := Option.some.inj H0
           exact Z5 rfl hst hb (Zk (s := 2)) (hst.at 0 rfl)
         · replace H1 := Z0 hc8 H1
           refine wp_skip ?_
           refine Zba ?_
           refine Zj ?_
           refine r_g (L := [(10, _), (11, _), (12, _)]) (T := [⟨[.old 2], _, [], [], [19]⟩, ⟨[.op 0 0], _, [], [0], [12]⟩]) (F := [.old 0, .old 1, .op 1 0]) (hst.pick [0, 1, 2] rfl) hb Zb
             (o_p rfl (Zb8 rfl rfl u_0 c_i rfl) <| o_p rfl (Za rfl rfl u_0) <| o_n) (by kernel_rfl) (fun a g hst hb => ?_)
           exact ⟨n, Nat.lt_succ_self _, (IntKind.i64.wrap (x2 + (1 : Int))), g, rfl, (hst.pick [0, 1, 2] rfl), hb, H1⟩
       · replace H1 := Z0 hc3 H1
         refine wp_exit ?_
         refine Z6 ?_
         refine Z6 ?_
         refine Zbo ?_
         exact ⟨g, rfl, (hst.pick [] rfl), hb, Option.some.inj H1⟩
theorem Zf7 (a0 : List Ze) {r : Int} (h : Zc1 a0 = some r) : FnOk Try.prog 8 [(Zl.sl.pd a0)] (pInt .i64 r) := by
 have H0 := h
 unfold Zc1 at H0
 clear h
 refine Zb6 (N := 18) Try.func8 rfl rfl (Nat.le_of_ble_eq_true rfl) rfl rfl (fun a g0 hst hb => ?_)
 refine r_s (T := [⟨[], _, [], [], [2]⟩]) (F := [.old 0]) hst hb Zb
   (o_p rfl (Zc rfl rfl c_i) <| o_n) (by kernel_rfl) (fun a g hst hb => ?_)
 refine wp_seq ?_
 refine r_s (T := [⟨[.old 0], _, [], [], [5]⟩, ⟨[.op 0 0], _, [], [0], [6]⟩, ⟨[.op 1 0], _, [], [0, 1], [7]⟩]) (F := [.old 0, .op 2 0]) hst hb Zb
   (o_p rfl (Za rfl rfl u_0) <| o_p rfl (Z9 Try.underlying22 rfl rfl u_0) <| o_p rfl (Zdz rfl rfl u_0 c_i) <| o_n) (by kernel_rfl) (fun a g hst hb => ?_)
 refine wp_cond_split (hst.bool 1 rfl) (fun hc1 => ?_) (fun hc1 => ?_)
 · replace H0 := Zz hc1 H0
   refine r_s (L := []) (T := [⟨[], _, [], [], [2]⟩]) (F := [.op 0 0]) (hst.pick [] rfl) hb Zb
     (o_p rfl (Zc rfl rfl c_i) <| o_n) (by kernel_rfl) (fun a g hst hb => ?_)
   refine wp_ret ?_
   refine Zm ?_
   obtain rfl := Option.some.inj H0
   exact Z5 rfl hst hb (Zk (s := 2)) (hst.at 0 rfl)
 · replace H0 := Z0 hc1 H0
   refine wp_skip ?_
   refine Zj ?_
   refine wp_seq ?_
   refine r_s (L := [(0, _)]) (T := [⟨[.old 0], _, [], [], [8]⟩, ⟨[.op 0 0], _, [], [0], [9]⟩, ⟨[], _, [], [], [10]⟩]) (F := [.op 0 0, .op 1 0, .op 2 0]) (hst.pick [0] rfl) hb Zb
     (o_p rfl (Za rfl rfl u_0) <| o_p rfl (Z9 Try.underlying22 rfl rfl u_0) <| o_p rfl (Za rfl rfl c_i) <| o_n) (by kernel_rfl) (fun a g hst hb => ?_)
   obtain ⟨z9, hz1, H0⟩ := Zd H0
   refine Zbz (fun a w => ∃ (g : G), w = g.w ∧ St 18 [] a g ∧ Base g0 g ∧ (.inr ()) = z9) ?_ ?_
   · rintro a w ⟨g, rfl, hst, hb, rfl⟩
     refine Zj ?_
     refine r_s (T := [⟨[], _, [], [], [2]⟩]) (F := [.op 0 0]) hst hb Zb
       (o_p rfl (Zc rfl rfl c_i) <| o_n) (by kernel_rfl) (fun a g hst hb => ?_)
     refine wp_ret ?_
     obtain rfl := Option.some.inj H0
     exact Z5 rfl hst hb (Zk (s := 2)) (hst.at 0 rfl)
   · refine wp_block ?_
     refine wp_loop_ghost (fun n a w => ∃ (x2 : Int) (g : G), w = g.w ∧ St 18 [(8, (Zl.sl.pd a0)), (9, (pInt .i64 (a0.length : Int))), (10, (pInt .i64 x2))] a g ∧ Base g0 g ∧ Zbg a0 n x2 = some z9) (Int.toNat ((a0.length : Int) - (0 : Int)) + 1) ⟨(0 : Int), g, rfl, (hst.pick [0, 1, 2] rfl), hb, hz1⟩ (fun n a w hI => ?_)
     obtain ⟨x2, g, rfl, hst, hb, H1⟩ := hI
     cases n with
     | zero => exact absurd H1 (by simp [Zbg])
     | succ n =>
       rw [Zbg] at H1
       refine r_s (T := [⟨[.old 2, .old 1], _, [], [], [11]⟩]) (F := [.old 0, .old 1, .old 2, .op 0 0]) hst hb Zb
         (o_p rfl (Zc8 rfl rfl u_0 u_1) <| o_n) (by kernel_rfl) (fun a g hst hb => ?_)
       refine wp_seq ?_
       refine wp_cond_split (hst.bool 3 rfl) (fun hc3 => ?_) (fun hc3 => ?_)
       · replace H1 := Zz hc3 H1
         refine wp_skip ?_
         refine Zj ?_
         refine wp_seq ?_
         refine wp_block ?_
         obtain ⟨e4, h5, H1⟩ := Zd H1
         refine r_s (L := [(8, _), (9, _), (10, _)]) (T := [⟨[.old 0, .old 2], _, [], [], [12]⟩, ⟨[.op 0 0], _, [], [0], [13]⟩, ⟨[], [(4, (pBox Zl 4 (default : Ze)))], [5], [], [4]⟩, ⟨[.op 1 0, .op 2 0], _, [5], [0, 1, 2], [4]⟩]) (F := [.op 3 0, .old 0, .old 1, .old 2]) (hst.pick [0, 1, 2] rfl) hb Zb
           (o_p rfl (Zy Try.underlying22 Zjt rfl rfl u_0 u_1 h5) <| o_p rfl (Zh Zd0 rfl rfl u_0) <| o_p rfl (Zed (zs := [.slice none 0 0]) (by kernel_rfl) (fun g => Zgp g) rfl rfl) <| o_p rfl (Zd6 Zd0 rfl rfl u_1 u_0) <| o_n) (by kernel_rfl) (fun a g hst hb => ?_)
         obtain ⟨r6, h7, H1⟩ := Zd H1
         refine r_s (T := [⟨[.old 0], _, [], [], [14]⟩, ⟨[.op 0 0], _, [], [0], [15]⟩, ⟨[.op 1 0], _, [], [0, 1], [16]⟩]) (F := [.old 1, .old 2, .old 3, .op 2 0]) hst hb Zb
           (o_p rfl (Zh Zd0 rfl rfl u_0) <| o_p rfl (Zbn Znk (Zge _ h7) rfl rfl (.cons u_0 .nil)) <| o_p rfl (Zdz rfl rfl u_0 c_i) <| o_n) (by kernel_rfl) (fun a g hst hb => ?_)
         refine wp_cond_split (hst.bool 3 rfl) (fun hc8 => ?_) (fun hc8 => ?_)
         · replace H1 := Zz hc8 H1
           refine r_s (L := []) (T := [⟨[], _, [], [], [2]⟩]) (F := [.op 0 0]) (hst.pick [] rfl) hb Zb
             (o_p rfl (Zc rfl rfl c_i) <| o_n) (by kernel_rfl) (fun a g hst hb => ?_)
           refine wp_ret ?_
           refine Z2 ?_
           refine Zm ?_
           refine Zm ?_
           refine Z2 ?_
           refine Zm ?_
           refine Zm ?_
           obtain rfl := Option.some.inj H1
           obtain rfl := Option.some.inj H0
           exact Z5 rfl hst hb (Zk (s := 2)) (hst.at 0 rfl)
         · replace H1 := Z0 hc8 H1
           refine wp_skip ?_
           refine Zba ?_
           refine Zj ?_
           refine r_g (L := [(8, _), (9, _), (10, _)]) (T := [⟨[.old 2], _, [], [], [17]⟩, ⟨[.op 0 0], _, [], [0], [10]⟩]) (F := [.old 0, .old 1, .op 1 0]) (hst.pick [0, 1, 2] rfl) hb Zb
             (o_p rfl (Zb8 rfl rfl u_0 c_i rfl) <| o_p rfl (Za rfl rfl u_0) <| o_n) (by kernel_rfl) (fun a g hst hb => ?_)
           exact ⟨n, Nat.lt_succ_self _, (IntKind.i64.wrap (x2 + (1 : Int))), g, rfl, (hst.pick [0, 1, 2] rfl), hb, H1⟩
       · replace H1 := Z0 hc3 H1
         refine wp_exit ?_
         refine Z6 ?_
         refine Z6 ?_
         refine Zbo ?_
         exact ⟨g, rfl, (hst.pick [] rfl), hb, Option.some.inj H1⟩
theorem Zf1 (a0 : List Ze) (a1 : List Bool) {r : List Int} (h : Zcu a0 a1 = some r) : FnOk Try.prog 9 [(Zl.sl.pd a0), (Kd.bool.sl.pd a1)] ((Kd.int .i64).sl.pd r) := by
 have H0 := h
 unfold Zcu at H0
 clear h
 refine Zb6 (N := 29) Try.func9 rfl rfl (Nat.le_of_ble_eq_true rfl) rfl rfl (fun a g0 hst hb => ?_)
 refine r_s (T := [⟨[], [(4, ((Kd.int .i64).sl.pd ([] : List Int)))], [], [], [4]⟩]) (F := [.old 0, .old 1]) hst hb Zb
   (o_p rfl (Zc rfl rfl (Opd.c (fun g => Zfp g))) <| o_n) (by kernel_rfl) (fun a g hst hb => ?_)
 refine r_s (T := [⟨[], [(5, (pRow (Kd.int .i64) 3 5 ([] : List Int)))], [], [], [5]⟩]) (F := [.old 0, .old 1, .op 0 0]) hst hb Zb
   (o_p rfl (Zc rfl rfl (Opd.c (fun g => Zew 5 g))) <| o_n) (by kernel_rfl) (fun a g hst hb => ?_)
 refine wp_seq ?_
 refine r_s (T := [⟨[.old 0], _, [], [], [7]⟩, ⟨[.op 0 0], _, [], [0], [8]⟩, ⟨[], _, [], [], [9]⟩]) (F := [.old 1, .old 2, .op 0 0, .op 1 0, .op 2 0]) hst hb Zb
   (o_p rfl (Za rfl rfl u_0) <| o_p rfl (Z9 Try.underlying22 rfl rfl u_0) <| o_p rfl (Za rfl rfl c_i) <| o_n) (by kernel_rfl) (fun a g hst hb => ?_)
 obtain ⟨z10, hz1, H0⟩ := Zd H0
 refine Zbz (fun a w => ∃ (y9 : List Int) (g : G), w = g.w ∧ St 29 [(5, (pRow (Kd.int .i64) 3 5 y9))] a g ∧ Base g0 g ∧ y9 = z10) ?_ ?_
 · rintro a w ⟨y9, g, rfl, hst, hb, rfl⟩
   refine Zj ?_
   refine r_s (T := [⟨[.old 0], _, [], [], [28]⟩, ⟨[.op 0 0], _, [], [0], [4]⟩]) (F := [.op 1 0]) hst hb Zb
     (o_p rfl (Za rfl rfl u_0) <| o_p rfl (Zc rfl rfl u_0) <| o_n) (by kernel_rfl) (fun a g hst hb => ?_)
   refine wp_ret ?_
   obtain rfl := Option.some.inj H0
   exact Z5 rfl hst hb (Zk (s := 4)) (Zku (hst.at 0 rfl))
 · refine wp_block ?_
   refine wp_loop_ghost (fun n a w => ∃ (x1 : List Int) (x2 : Int) (g : G), w = g.w ∧ St 29 [(1, (Kd.bool.sl.pd a1)), (5, (pRow (Kd.int .i64) 3 5 x1)), (7, (Zl.sl.pd a0)), (8, (pInt .i64 (a0.length : Int))), (9, (pInt .i64 x2))] a g ∧ Base g0 g ∧ Z1 a0 a1 n x1 x2 = some z10) (Int.toNat ((a0.length : Int) - (0 : Int)) + 1) ⟨([] : List Int), (0 : Int), g, rfl, (hst.pick [0, 1, 2, 3, 4] rfl), hb, hz1⟩ (fun n a w hI => ?_)
   obtain ⟨x1, x2, g, rfl, hst, hb, H1⟩ := hI
   cases n with
   | zero => exact absurd H1 (by simp [Z1])
   | succ n =>
     rw [Z1] at H1
     refine r_s (T := [⟨[.old 4, .old 3], _, [], [], [10]⟩]) (F := [.old 0, .old 1, .old 2, .old 3, .old 4, .op 0 0]) hst hb Zb
       (o_p rfl (Zc8 rfl rfl u_0 u_1) <| o_n) (by kernel_rfl) (fun a g hst hb => ?_)
     refine wp_seq ?_
     refine wp_cond_split (hst.bool 5 rfl) (fun hc3 => ?_) (fun hc3 => ?_)
     · replace H1 := Zz hc3 H1
       refine wp_skip ?_
       refine Zj ?_
       refine wp_seq ?_
       refine Zbz (fun a w => ∃ (j8 : List Int) (g : G), w = g.w ∧ St 29 [(1, (Kd.bool.sl.pd a1)), (5, (pRow (Kd.int .i64) 3 5 j8)), (7, (Zl.sl.pd a0)), (8, (pInt .i64 (a0.length : Int))), (9, (pInt .i64 x2))] a g ∧ Base g0 g ∧ Zcv x2 (Z1 a0 a1 n) j8 = some z10) ?_ ?_
       · rintro a w ⟨j8, g, rfl, hst, hb, H1⟩
         unfold Zcv at H1
         refine Zj ?_
         refine r_g (T := [⟨[.old 4], _, [], [], [27]⟩, ⟨[.op 0 0], _, [], [0], [9]⟩]) (F := [.old 0, .old 1, .old 2, .old 3, .op 1 0]) hst hb Zb
           (o_p rfl (Zb8 rfl rfl u_0 c_i rfl) <| o_p rfl (Za rfl rfl u_0) <| o_n) (by kernel_rfl) (fun a g hst hb => ?_)
         exact ⟨n, Nat.lt_succ_self _, j8, (IntKind.i64.wrap (x2 + (1 : Int))), g, rfl, (hst.pick [0, 1, 2, 3, 4] rfl), hb, H1⟩
       · refine wp_block ?_
         refine r_s (L := [(1, _), (5, _), (7, _), (8, _), (9, _)]) (T := [⟨[.old 4], _, [], [], [11]⟩, ⟨[.op 0 0], _, [], [0], [6]⟩]) (F := [.old 0, .old 1, .op 1 0, .old 2, .old 3, .old 4]) (hst.pick [0, 1, 2, 3, 4] rfl) hb Zb
           (o_p rfl (Za rfl rfl u_0) <| o_p rfl (Zc rfl rfl u_0) <| o_n) (by kernel_rfl) (fun a g hst hb => ?_)
         obtain ⟨e4, h5, H1⟩ := Zd H1
         refine r_s (T := [⟨[.old 2], _, [], [], [12]⟩, ⟨[.old 0], _, [], [], [13]⟩, ⟨[.op 1 0], _, [], [1], [14]⟩, ⟨[.op 0 0, .op 2 0], _, [], [0, 1, 2], [15]⟩, ⟨[.op 3 0], _, [], Lr 4, [16]⟩, ⟨[.op 4 0, .old 0], _, [], Lr 5, [17]⟩, ⟨[.op 4 0, .old 2], _, [], Lr 5, [18]⟩, ⟨[.op 4 0, .op 5 0, .op 6 0], _, [], Lr 7, [19]⟩, ⟨[.op 4 0, .op 7 0], _, [], Lr 8, [20]⟩, ⟨[.op 4 0, .op 8 0], _, [], Lr 9, [21]⟩, ⟨[.op 4 0, .op 9 0], _, [], Lr 10, [22]⟩]) (F := [.old 0, .old 1, .old 2, .old 3, .old 4, .old 5, .op 10 0]) hst hb Zb
           (o_p rfl (Za rfl rfl u_0) <| o_p rfl (Za rfl rfl u_0) <| o_p rfl (Z9 Try.underlying38 rfl rfl u_0) <| o_p rfl (Zh2 rfl rfl u_0 u_1) <| o_p rfl (Za rfl rfl u_0) <| o_g (g_f rfl rfl rfl (fun hG => Za rfl rfl u_0)) <| o_g (g_f rfl rfl rfl (fun hG => Za rfl rfl u_0)) <| o_g (g_f rfl rfl rfl (fun hG => Zy Try.underlying38 sz_4 rfl rfl (Opd.gd hG u_0) (Opd.gd hG u_1) (Zbq h5 hG))) <| o_g (g_f rfl rfl rfl (fun hG => Zh ty_4 rfl rfl (Opd.gd hG u_0))) <| o_g (g_f rfl rfl rfl (fun hG => Zdq rfl rfl (Opd.gd hG u_0))) <| o_p rfl (Zct rfl rfl u_0 (fun hz => (Opd.gd (bNF hz) u_1))) <| o_n) (by kernel_rfl) (fun a g hst hb => ?_)
         refine wp_cond_split (hst.bool 6 rfl) (fun hc6 => ?_) (fun hc6 => ?_)
         · replace H1 := Zz hc6 H1
           obtain ⟨h7, H1⟩ := Zfb H1
           refine r_g (L := [(1, _), (5, _), (6, _), (7, _), (8, _), (9, _)]) (T := [⟨[.old 1], _, [], [], [23]⟩, ⟨[.old 2], _, [], [], [24]⟩, ⟨[.op 1 0], _, [], [1], [25]⟩, ⟨[.op 0 0, .op 2 0], _, [6], [0, 1, 2], [5, 23, 26]⟩, ⟨[.op 3 0], _, [], Lr 4, [5]⟩]) (F := [.old 0, .op 4 0, .old 3, .old 4, .old 5]) (hst.pick [0, 1, 2, 3, 4, 5] rfl) hb Zb
             (o_p rfl (Za rfl rfl u_0) <| o_p rfl (Za rfl rfl u_0) <| o_p rfl (Zdw Zdk (xs := [.tmp 24]) (.cons u_0 .nil) (by decide) rfl rfl) <| o_p rfl (Zf6 Zdk rfl rfl u_0 u_1 h7) <| o_p rfl (Zc rfl rfl u_0) <| o_n) (by kernel_rfl) (fun a g hst hb => ?_)
           refine Zba ?_
           exact ⟨(x1 ++ ([x2] : List Int)), g, rfl, (hst.pick [0, 1, 2, 3, 4] rfl), hb, H1⟩
         · replace H1 := Z0 hc6 H1
           refine wp_skip ?_
           refine Zba ?_
           exact ⟨x1, g, rfl, (hst.pick [0, 1, 3, 4, 5] rfl), hb, H1⟩
     · replace H1 := Z0 hc3 H1
       refine wp_exit ?_
       refine Z6 ?_
       refine Z6 ?_
       refine Zbo ?_
       exact ⟨x1, g, rfl, (hst.pick [1] rfl), hb, Option.some.inj H1⟩
theorem Zez (a0 : List Ze) (a1 : List ByteArray) (a2 : List Bool) {r : Bool} (h : Zcm a0 a1 a2 = some r) : FnOk Try.prog 4 [(Zl.sl.pd a0), (Kd.str.sl.pd a1), (Kd.bool.sl.pd a2)] (Zn r) := by
 have H0 := h
 unfold Zcm at H0
 clear h
 refine Zb6 (N := 63) Try.func4 rfl rfl (Nat.le_of_ble_eq_true rfl) rfl rfl (fun a g0 hst hb => ?_)
 refine r_s (T := [⟨[], _, [], [], [6]⟩]) (F := [.old 0, .old 1, .old 2]) hst hb Zb
   (o_p rfl (Zc rfl rfl c_b) <| o_n) (by kernel_rfl) (fun a g hst hb => ?_)
 refine wp_seq ?_
 obtain ⟨r1, h2, H0⟩ := Zd H0
 refine r_s (T := [⟨[], _, [], [], [11]⟩, ⟨[.op 0 0], _, [], [0], [12]⟩]) (F := [.old 0, .old 1, .old 2, .op 1 0]) hst hb Zb
   (o_p rfl (Zbn en_7 (Zfa h2) rfl rfl .nil) <| o_p rfl (Zdq rfl rfl u_0) <| o_n) (by kernel_rfl) (fun a g hst hb => ?_)
 refine wp_cond_split (hst.bool 3 rfl) (fun hc3 => ?_) (fun hc3 => ?_)
 · replace H0 := Zz hc3 H0
   refine r_s (L := []) (T := [⟨[], _, [], [], [6]⟩]) (F := [.op 0 0]) (hst.pick [] rfl) hb Zb
     (o_p rfl (Zc rfl rfl c_b) <| o_n) (by kernel_rfl) (fun a g hst hb => ?_)
   refine wp_ret ?_
   refine Zm ?_
   obtain rfl := Option.some.inj H0
   exact Z5 rfl hst hb (Zk (s := 6)) (hst.at 0 rfl)
 · replace H0 := Z0 hc3 H0
   refine wp_skip ?_
   refine Zj ?_
   refine wp_seq ?_
   obtain ⟨r4, h5, H0⟩ := Zd H0
   refine r_s (L := [(0, _), (1, _), (2, _)]) (T := [⟨[.old 0], _, [], [], [13]⟩, ⟨[.op 0 0], _, [], [0], [14]⟩, ⟨[.op 1 0], _, [], [0, 1], [15]⟩, ⟨[.op 2 0], _, [], [0, 1, 2], [16]⟩, ⟨[.op 3 0, .old 1], _, [], Lr 4, [17]⟩, ⟨[.op 3 0, .op 4 0], _, [], Lr 5, [18]⟩, ⟨[.op 3 0, .op 5 0], _, [], Lr 6, [19]⟩, ⟨[.op 3 0, .op 6 0], _, [], Lr 7, [20]⟩]) (F := [.old 0, .old 1, .old 2, .op 7 0]) (hst.pick [0, 1, 2] rfl) hb Zb
     (o_p rfl (Za rfl rfl u_0) <| o_p rfl (Zbn en_8 (Zf7 _ h5) rfl rfl (.cons u_0 .nil)) <| o_p rfl (Zdz rfl rfl u_0 c_i) <| o_p rfl (Za rfl rfl u_0) <| o_g (g_f rfl rfl rfl (fun hG => Za rfl rfl u_0)) <| o_g (g_f rfl rfl rfl (fun hG => Z9 Try.underlying23 rfl rfl (Opd.gd hG u_0))) <| o_g (g_f rfl rfl rfl (fun hG => Zdz rfl rfl (Opd.gd hG u_0) c_i)) <| o_p rfl (Zct rfl rfl u_0 (fun hz => (Opd.gd (bNF hz) u_1))) <| o_n) (by kernel_rfl) (fun a g hst hb => ?_)
   refine wp_cond_split (hst.bool 3 rfl) (fun hc6 => ?_) (fun hc6 => ?_)
   · replace H0 := Zz hc6 H0
     refine r_s (L := []) (T := [⟨[], _, [], [], [6]⟩]) (F := [.op 0 0]) (hst.pick [] rfl) hb Zb
       (o_p rfl (Zc rfl rfl c_b) <| o_n) (by kernel_rfl) (fun a g hst hb => ?_)
     refine wp_ret ?_
     refine Zm ?_
     obtain rfl := Option.some.inj H0
     exact Z5 rfl hst hb (Zk (s := 6)) (hst.at 0 rfl)
   · replace H0 := Z0 hc6 H0
     refine wp_skip ?_
     refine Zj ?_
     obtain ⟨r7, h8, H0⟩ := Zd H0
     refine r_s (L := [(0, _), (1, _), (2, _)]) (T := [⟨[.old 0], _, [], [], [21]⟩, ⟨[.old 2], _, [], [], [22]⟩, ⟨[.op 0 0, .op 1 0], _, [], [0, 1], [23]⟩, ⟨[.op 2 0], _, [], [0, 1, 2], [7]⟩]) (F := [.old 0, .old 1, .op 3 0]) (hst.pick [0, 1, 2] rfl) hb Zb
       (o_p rfl (Za rfl rfl u_0) <| o_p rfl (Za rfl rfl u_0) <| o_p rfl (Zbn en_9 (Zf1 _ _ h8) rfl rfl (.cons u_0 (.cons u_1 .nil))) <| o_p rfl (Zc rfl rfl u_0) <| o_n) (by kernel_rfl) (fun a g hst hb => ?_)
     obtain ⟨r9, h10, H0⟩ := Zd H0
     refine r_s (T := [⟨[.old 0], _, [], [], [24]⟩, ⟨[.old 2], _, [], [], [25]⟩, ⟨[.old 1], _, [], [], [26]⟩, ⟨[.op 0 0, .op 1 0, .op 2 0], [(27, (pObj Zs 27 r9))], [28, 1000028], [0, 1, 2], [27]⟩, ⟨[.op 3 0], [(8, (pObj Zs 27 r9))], [], Lr 4, [8]⟩]) (F := [.old 2, .op 4 0]) hst hb Zb
       (o_p rfl (Za rfl rfl u_0) <| o_p rfl (Za rfl rfl u_0) <| o_p rfl (Za rfl rfl u_0) <| o_p rfl (Zfk Zjq (Ze7 _ _ _ h10) rfl rfl (.cons u_0 (.cons u_1 (.cons u_2 .nil)))) <| o_p rfl (Zc rfl rfl u_0) <| o_n) (by kernel_rfl) (fun a g hst hb => ?_)
     refine wp_seq ?_
     refine r_s (T := [⟨[.old 0], _, [], [], [28]⟩, ⟨[.op 0 0], _, [], [0], [29]⟩, ⟨[], _, [], [], [30]⟩]) (F := [.old 0, .old 1, .op 0 0, .op 1 0, .op 2 0]) hst hb Zb
       (o_p rfl (Za rfl rfl u_0) <| o_p rfl (Z9 Try.underlying24 rfl rfl u_0) <| o_p rfl (Za rfl rfl c_i) <| o_n) (by kernel_rfl) (fun a g hst hb => ?_)
     obtain ⟨z26, hz1, H0⟩ := Zd H0
     refine Zbz (fun a w => ∃ (y25 : Zw) (g : G), w = g.w ∧ St 63 [(8, (pObj Zs 27 y25))] a g ∧ Base g0 g ∧ (.inr y25) = z26) ?_ ?_
     · rintro a w ⟨y25, g, rfl, hst, hb, rfl⟩
       refine Zj ?_
       obtain ⟨r27, h28, H0⟩ := Zd H0
       refine r_s (T := [⟨[.old 0], [(60, (pObj Zs 27 y25))], [], [], [60]⟩, ⟨[.op 0 0, .old 0], [(61, (pInt .i64 r27)), (8, (pObj Zs 27 y25))], [28, 1000028], [0], [8, 60, 61]⟩, ⟨[.op 1 0], _, [], [0, 1], [62]⟩, ⟨[.op 2 0], _, [], [0, 1, 2], [6]⟩]) (F := [.op 3 0]) hst hb Zb
         (o_p rfl (Za rfl rfl u_0) <| o_p rfl (Zbx Zh1 (Zc7 _ h28) rfl rfl rfl (by decide) u_1 u_0 .nil) <| o_p rfl (Zdi rfl rfl u_0 c_i) <| o_p rfl (Zc rfl rfl u_0) <| o_n) (by kernel_rfl) (fun a g hst hb => ?_)
       refine wp_ret ?_
       obtain rfl := Option.some.inj H0
       exact Z5 rfl hst hb (Zk (s := 6)) (hst.at 0 rfl)
     · refine wp_block ?_
       refine wp_loop_ghost (fun n a w => ∃ (x11 : Zw) (x12 : Int) (g : G), w = g.w ∧ St 63 [(7, ((Kd.int .i64).sl.pd r7)), (8, (pObj Zs 27 x11)), (28, ((Kd.int .i64).sl.pd r7)), (29, (pInt .i64 (r7.length : Int))), (30, (pInt .i64 x12))] a g ∧ Base g0 g ∧ Z4 r7 n x11 x12 = some z26) (Int.toNat ((r7.length : Int) - (0 : Int)) + 1) ⟨r9, (0 : Int), g, rfl, (hst.pick [0, 1, 2, 3, 4] rfl), hb, hz1⟩ (fun n a w hI => ?_)
       obtain ⟨x11, x12, g, rfl, hst, hb, H1⟩ := hI
       cases n with
       | zero => exact absurd H1 (by simp [Z4])
       | succ n =>
         rw [Z4] at H1
         refine r_s (T := [⟨[.old 4, .old 3], _, [], [], [31]⟩]) (F := [.old 0, .old 1, .old 2, .old 3, .old 4, .op 0 0]) hst hb Zb
           (o_p rfl (Zc8 rfl rfl u_0 u_1) <| o_n) (by kernel_rfl) (fun a g hst hb => ?_)
         refine wp_seq ?_
         refine wp_cond_split (hst.bool 5 rfl) (fun hc13 => ?_) (fun hc13 => ?_)
         · replace H1 := Zz hc13 H1
           refine wp_skip ?_
           refine Zj ?_
           refine wp_seq ?_
           refine wp_block ?_
           obtain ⟨e14, h15, H1⟩ := Zd H1
           refine r_s (L := [(7, _), (8, _), (28, _), (29, _), (30, _)]) (T := [⟨[.old 4], _, [], [], [32]⟩, ⟨[.old 2, .old 4], _, [], [], [33]⟩, ⟨[.op 1 0], _, [], [1], [34]⟩, ⟨[.op 0 0], _, [], [0, 1, 2], [9]⟩, ⟨[.op 2 0], _, [], Lr 4, [10]⟩]) (F := [.old 0, .old 1, .op 3 0, .op 4 0, .old 2, .old 3, .old 4]) (hst.pick [0, 1, 2, 3, 4] rfl) hb Zb
             (o_p rfl (Za rfl rfl u_0) <| o_p rfl (Zy Try.underlying24 sz_3 rfl rfl u_0 u_1 h15) <| o_p rfl (Zh ty_3 rfl rfl u_0) <| o_p rfl (Zc rfl rfl u_0) <| o_p rfl (Zc rfl rfl u_0) <| o_n) (by kernel_rfl) (fun a g hst hb => ?_)
           obtain ⟨r16, h17, H1⟩ := Zd H1; obtain ⟨r18, h19, H1⟩ := Zd H1; obtain ⟨r20, h21, H1⟩ := Zd H1; obtain ⟨r22, h23, H1⟩ := Zd H1
           refine r_s (T := ⟨[.old 1], [(35, (pObj Zs 27 x11))], [], [], [35]⟩ :: ⟨[.op 0 0, .old 1], [(36, (pInt .i64 r16)), (8, (pObj Zs 27 x11))], [28, 1000028], [0], [8, 35, 36]⟩ :: ⟨[.old 0], _, [], [], [37]⟩ :: ⟨[.op 2 0], _, [], [2], [38]⟩ :: ⟨[.old 2], _, [], [], [39]⟩ :: ⟨[.op 3 0, .op 4 0], _, [], [2, 3, 4], [40]⟩ :: ⟨[.op 1 0, .op 5 0], _, [], Lr 6, [41]⟩ :: ⟨[.op 6 0], _, [], Lr 7, [42]⟩ :: ⟨[.op 7 0, .op 1 1], [(43, (pIf (!(r16 != (IntKind.i64.wrap ((r7.length : Int) - x12)))) (pObj Zs 27 x11)))], [], Lr 8, [43]⟩ :: ⟨[.op 7 0, .old 3], _, [], Lr 8, [44]⟩ :: ⟨[.op 7 0, .op 8 0, .op 9 0, .op 1 1], [(45, (pIf (!(r16 != (IntKind.i64.wrap ((r7.length : Int) - x12)))) (Zn r18))), (8, (pObj Zs 27 x11))], [28, 1000028], Lr 10, [8, 35, 43, 45]⟩ :: ⟨[.op 7 0, .op 10 0], _, [], Lr 11, [46]⟩ :: ⟨[.op 7 0, .op 11 0], _, [], Lr 12, [47]⟩ :: ⟨[.op 12 0], _, [], Lr 13, [48]⟩ :: ⟨[.op 13 0, .op 10 1], [(49, (pIf (!((r16 != (IntKind.i64.wrap ((r7.length : Int) - x12))) || (!r18))) (pObj Zs 27 x11)))], [], Lr 14, [49]⟩ :: ⟨[.op 13 0, .old 3], _, [], Lr 14, [50]⟩ :: ⟨[.op 13 0, .op 14 0, .op 15 0, .op 10 1], [(51, (pIf (!((r16 != (IntKind.i64.wrap ((r7.length : Int) - x12))) || (!r18))) (Zn r20.2))), (8, (pObj Zs 27 (if (!((r16 != (IntKind.i64.wrap ((r7.length : Int) - x12))) || (!r18))) = true then r20.1 else x11)))], [28, 1000028], Lr 16, [8, 35, 43, 49, 51]⟩ :: ⟨[.op 13 0, .op 16 0], _, [], Lr 17, [52]⟩ :: ⟨[.op 13 0, .op 17 0], _, [], Lr 18, [53]⟩ :: ⟨[.op 18 0], _, [], Lr 19, [54]⟩ :: ⟨[.op 19 0, .op 16 1], [(55, (pIf (!(((r16 != (IntKind.i64.wrap ((r7.length : Int) - x12))) || (!r18)) || (!r20.2))) (pObj Zs 27 (if (!((r16 != (IntKind.i64.wrap ((r7.length : Int) - x12))) || (!r18))) = true then r20.1 else x11))))], [], Lr 20, [55]⟩ :: ⟨[.op 19 0, .old 3], _, [], Lr 20, [56]⟩ :: ⟨[.op 19 0, .op 20 0, .op 21 0, .op 16 1], [(57, (pIf (!(((r16 != (IntKind.i64.wrap ((r7.length : Int) - x12))) || (!r18)) || (!r20.2))) (Zn r22.2))), (8, (pObj Zs 27 (if (!(((r16 != (IntKind.i64.wrap ((r7.length : Int) - x12))) || (!r18)) || (!r20.2))) = true then r22.1 else (if (!((r16 != (IntKind.i64.wrap ((r7.length : Int) - x12))) || (!r18))) = true then r20.1 else x11))))], [28, 1000028], Lr 22, [8, 35, 43, 49, 55, 57]⟩ :: ⟨[.op 19 0, .op 22 0], _, [], Lr 23, [58]⟩ :: []) (F := [.old 0, .op 22 1, .old 4, .old 5, .old 6, .op 23 0]) hst hb Zb
             (o_p rfl (Za rfl rfl u_0) <| o_p rfl (Zbx Zh1 (Zc7 _ h17) rfl rfl rfl (by decide) u_1 u_0 .nil) <| o_p rfl (Za rfl rfl u_0) <| o_p rfl (Z9 Try.underlying24 rfl rfl u_0) <| o_p rfl (Za rfl rfl u_0) <| o_p rfl (Zms rfl rfl u_0 u_1 rfl) <| o_p rfl (Zh3 rfl rfl u_0 u_1) <| o_p rfl (Za rfl rfl u_0) <| o_g (g_f rfl rfl rfl (fun hG => Za rfl rfl u_0)) <| o_g (g_f rfl rfl rfl (fun hG => Za rfl rfl u_0)) <| o_g (OT.guardM (!(r16 != (IntKind.i64.wrap ((r7.length : Int) - x12)))) (gF (r16 != (IntKind.i64.wrap ((r7.length : Int) - x12)))).1 (gF (r16 != (IntKind.i64.wrap ((r7.length : Int) - x12)))).2 rfl rfl rfl (by decide) u_2 (fun hG => Zbx Zg5 (Zcz _ _ (Zbq h19 hG)) rfl rfl rfl (by decide) u_2 (Opd.gd hG u_0) (.cons (Opd.gd hG u_1) .nil)) (ite_self _).symm) <| o_g (g_f rfl rfl rfl (fun hG => Zdq rfl rfl (Opd.gd hG u_0))) <| o_p rfl (Zct rfl rfl u_0 (fun hz => (Opd.gd (bNF hz) u_1))) <| o_p rfl (Za rfl rfl u_0) <| o_g (g_f rfl rfl rfl (fun hG => Za rfl rfl u_0)) <| o_g (g_f rfl rfl rfl (fun hG => Za rfl rfl u_0)) <| o_g (OT.guardM (!((r16 != (IntKind.i64.wrap ((r7.length : Int) - x12))) || (!r18))) (gF ((r16 != (IntKind.i64.wrap ((r7.length : Int) - x12))) || (!r18))).1 (gF ((r16 != (IntKind.i64.wrap ((r7.length : Int) - x12))) || (!r18))).2 rfl rfl rfl (by decide) u_2 (fun hG => Zbx Zg3 (Zci _ _ (Zbq h21 hG)) rfl rfl rfl (by decide) u_2 (Opd.gd hG u_0) (.cons (Opd.gd hG u_1) .nil)) rfl) <| o_g (g_f rfl rfl rfl (fun hG => Zdq rfl rfl (Opd.gd hG u_0))) <| o_p rfl (Zct rfl rfl u_0 (fun hz => (Opd.gd (bNF hz) u_1))) <| o_p rfl (Za rfl rfl u_0) <| o_g (g_f rfl rfl rfl (fun hG => Za rfl rfl u_0)) <| o_g (g_f rfl rfl rfl (fun hG => Za rfl rfl u_0)) <| o_g (OT.guardM (!(((r16 != (IntKind.i64.wrap ((r7.length : Int) - x12))) || (!r18)) || (!r20.2))) (gF (((r16 != (IntKind.i64.wrap ((r7.length : Int) - x12))) || (!r18)) || (!r20.2))).1 (gF (((r16 != (IntKind.i64.wrap ((r7.length : Int) - x12))) || (!r18)) || (!r20.2))).2 rfl rfl rfl (by decide) u_2 (fun hG => Zbx Zg3 (Zci _ _ (Zbq h23 hG)) rfl rfl rfl (by decide) u_2 (Opd.gd hG u_0) (.cons (Opd.gd hG u_1) .nil)) rfl) <| o_p rfl (Zct rfl rfl u_0 (fun hz => (Opd.gd (bNF hz) u_1))) <| o_n) (by kernel_rfl) (fun a g hst hb => ?_)
           refine wp_cond_split (hst.bool 5 rfl) (fun hc24 => ?_) (fun hc24 => ?_)
           · replace H1 := Zz hc24 H1
             refine r_s (L := []) (T := [⟨[], _, [], [], [6]⟩]) (F := [.op 0 0]) (hst.pick [] rfl) hb Zb
               (o_p rfl (Zc rfl rfl c_b) <| o_n) (by kernel_rfl) (fun a g hst hb => ?_)
             refine wp_ret ?_
             refine Z2 ?_
             refine Zm ?_
             refine Zm ?_
             refine Z2 ?_
             refine Zm ?_
             refine Zm ?_
             obtain rfl := Option.some.inj H1
             obtain rfl := Option.some.inj H0
             exact Z5 rfl hst hb (Zk (s := 6)) (hst.at 0 rfl)
           · replace H1 := Z0 hc24 H1
             refine wp_skip ?_
             refine Zba ?_
             refine Zj ?_
             refine r_g (L := [(7, _), (8, _), (28, _), (29, _), (30, _)]) (T := [⟨[.old 4], _, [], [], [59]⟩, ⟨[.op 0 0], _, [], [0], [30]⟩]) (F := [.old 0, .old 1, .old 2, .old 3, .op 1 0]) (hst.pick [0, 1, 2, 3, 4] rfl) hb Zb
               (o_p rfl (Zb8 rfl rfl u_0 c_i rfl) <| o_p rfl (Za rfl rfl u_0) <| o_n) (by kernel_rfl) (fun a g hst hb => ?_)
             exact ⟨n, Nat.lt_succ_self _, (if (!(((r16 != (IntKind.i64.wrap ((r7.length : Int) - x12))) || (!r18)) || (!r20.2))) = true then r22.1 else (if (!((r16 != (IntKind.i64.wrap ((r7.length : Int) - x12))) || (!r18))) = true then r20.1 else x11)), (IntKind.i64.wrap (x12 + (1 : Int))), g, rfl, (hst.pick [0, 1, 2, 3, 4] rfl), hb, H1⟩
         · replace H1 := Z0 hc13 H1
           refine wp_exit ?_
           refine Z6 ?_
           refine Z6 ?_
           refine Zbo ?_
           exact ⟨x11, g, rfl, (hst.pick [1] rfl), hb, Option.some.inj H1⟩
end Go.CL
namespace Go.CL
open Go
theorem wr {x : Int} (h1 : -9223372036854775808 ≤ x) (h2 : x ≤ 9223372036854775807) : IntKind.i64.wrap x = x := by
 rw [IntKind.wrap_i64]; omega
theorem wr1 {i : Nat} (h : i < 9223372036854775807) : IntKind.i64.wrap ((i : Int) + 1) = ((i + 1 : Nat) : Int) := by
 rw [wr (by omega) (by omega)]; omega
theorem idxn {α : Type} (xs : List α) (i : Nat) : idx xs (i : Int) = xs[i]? := by
 unfold idx
 rw [if_pos (by omega)]
 simp
theorem gd_t {β : Type} [Inhabited β] (x : Option β) : gd true x = x := rfl
theorem Zlm {α : Type} {xs : List α} {l h : Nat} (h1 : l ≤ h) (h2 : h ≤ xs.length) : cut xs (l : Int) (h : Int) = some ((xs.drop l).take (h - l)) := by
 unfold cut
 rw [if_pos (by omega)]
 simp
theorem Zjl {a b : ByteArray} (h : a.toList = b.toList) : a = b := by
 rw [_root_.Go.ByteArray.toList_eq, _root_.Go.ByteArray.toList_eq] at h
 exact ByteArray.ext (Array.toList_inj.1 h)
theorem Zjb {a b : ByteArray} : sEq a b = true ↔ a = b := by
 unfold sEq
 constructor
 · intro h; exact Zjl (by simpa using h)
 · rintro rfl; simp
theorem Zk1 {a b : ByteArray} : sEq a b = false ↔ a ≠ b := by
 cases h : sEq a b
 · simp; intro e; rw [Zjb.2 e] at h; cases h
 · simp; exact Zjb.1 h
theorem Zeq {α σ ρ : Type} (xs : List α) (L : Nat → σ → Int → Option ρ) (P : Nat → σ → Prop) (R : σ → ρ) (hl : xs.length < 1000000)
   (hs : ∀ n (i : Nat) st e, xs[i]? = some e → P i st → ∃ st', P (i + 1) st' ∧ L (n + 1) st i = L n st' (IntKind.i64.wrap ((i : Int) + 1))) (h0 : ∀ n st, P xs.length st → L (n + 1) st (xs.length : Int) = some (R st)) {s0 : σ} (hP : P 0 s0) :
   ∃ st, P xs.length st ∧ L (Int.toNat ((xs.length : Int) - 0) + 1) s0 0 = some (R st) := by
 have main : ∀ (n i : Nat) st, i + n = xs.length → P i st → ∃ st', P xs.length st' ∧ L (n + 1) st (i : Int) = some (R st') := by
   intro n
   induction n with
   | zero => intro i st h hp; obtain rfl : i = xs.length := by omega
             exact ⟨st, hp, h0 0 st hp⟩
   | succ n ih =>
     intro i st h hp
     obtain ⟨st', h1, h2⟩ := hs (n + 1) i st xs[i] (List.getElem?_eq_getElem (by omega)) hp
     obtain ⟨st2, h3, h4⟩ := ih (i + 1) st' (by omega) h1
     refine ⟨st2, h3, ?_⟩
     rw [h2, wr1 (by omega)]; exact h4
 have := main xs.length 0 s0 (by omega) hP
 rw [show Int.toNat ((xs.length : Int) - 0) = xs.length by omega]
 exact this
theorem Zc4 {α ρ : Type} (xs : List α) (L : Nat → Int → Option (ρ ⊕ Unit)) (c : α → Bool) (r : Nat → ρ) (hl : xs.length < 1000000)
   (hs : ∀ n (i : Nat) e, xs[i]? = some e → L (n + 1) i = if c e then some (.inl (r i)) else L n (IntKind.i64.wrap ((i : Int) + 1))) (h0 : ∀ n, L (n + 1) (xs.length : Int) = some (.inr ())) :
   (xs.any c = true ∧ ∃ k e, xs[k]? = some e ∧ c e = true ∧ (∀ i e', i < k → xs[i]? = some e' → c e' = false) ∧ L (Int.toNat ((xs.length : Int) - 0) + 1) 0 = some (.inl (r k))) ∨ (xs.any c = false ∧ L (Int.toNat ((xs.length : Int) - 0) + 1) 0 = some (.inr ())) := by
 have main : ∀ (n i : Nat), i + n = xs.length → (∀ j e', j < i → xs[j]? = some e' → c e' = false) → (xs.any c = true ∧ ∃ k e, xs[k]? = some e ∧ c e = true ∧ (∀ i e', i < k → xs[i]? = some e' → c e' = false) ∧ L (n + 1) (i : Int) = some (.inl (r k))) ∨ (xs.any c = false ∧ L (n + 1) (i : Int) = some (.inr ())) := by
   intro n
   induction n with
   | zero =>
     intro i h hp
     obtain rfl : i = xs.length := by omega
     refine .inr ⟨?_, h0 0⟩
     rw [List.any_eq_false]
     intro e he
     obtain ⟨j, hj, rfl⟩ := List.getElem_of_mem he
     rw [hp j xs[j] hj (List.getElem?_eq_getElem hj)]; simp
   | succ n ih =>
     intro i h hp
     have hi : xs[i]? = some xs[i] := List.getElem?_eq_getElem (by omega)
     rw [hs (n + 1) i _ hi]
     by_cases hc : c xs[i] = true
     · rw [if_pos hc]
       exact .inl ⟨List.any_eq_true.2 ⟨_, List.mem_of_getElem? hi, hc⟩, i, _, hi, hc, hp, rfl⟩
     · rw [if_neg hc, wr1 (by omega)]
       refine ih (i + 1) (by omega) (fun j e' hj he => ?_)
       rcases Nat.lt_succ_iff_lt_or_eq.1 hj with h | h
       · exact hp j e' h he
       · subst h
         rw [hi] at he
         obtain rfl := Option.some.inj he
         simpa using hc
 have := main xs.length 0 (by omega) (fun _ _ h => absurd h (Nat.not_lt_zero _))
 rw [show Int.toNat ((xs.length : Int) - 0) = xs.length by omega]
 exact this
theorem lt_i {α : Type} {xs : List α} {i : Nat} {e : α} (h : xs[i]? = some e) : decide ((i : Int) < (xs.length : Int)) = true := by
 have := (List.getElem?_eq_some_iff.1 h).1
 exact decide_eq_true (by omega)
theorem lt_e {n : Nat} : decide ((n : Int) < (n : Int)) = false := decide_eq_false (by omega)
theorem Zie {α : Type} {xs : List α} {i : Nat} {e : α} (h : xs[i]? = some e) : xs.take (i + 1) = xs.take i ++ [e] := by rw [List.take_add_one, h]; rfl
theorem Zhg {l : List Int} (x : Int) (hl : l.length < 1000000) : Zbb l x = some (decide (x ∈ l)) := by
 unfold Zbb Zcn
 rcases Zc4 l (Z3 l x) (fun e => x == e) (fun k => (k : Int)) hl (fun n i e he => by
   rw [Z3, lt_i he, if_pos rfl, idxn, he]; rfl) (fun n => by rw [Z3, lt_e]; rfl) with ⟨h1, k, e, h2, h3, _, h4⟩ | ⟨h1, h4⟩
 · rw [h4]
   obtain ⟨e', he, hx⟩ := List.any_eq_true.1 h1
   have : x ∈ l := by rw [eq_of_beq hx]; exact he
   simp [this]
 · rw [h4]
   have : x ∉ l := fun hx => by
     have := List.any_eq_false.1 h1 x hx
     simp at this
   simp [this]
theorem Zex {xs : List Int} {i : Nat} {e : Int} (p : Int → Bool) (h : xs[i]? = some e) : (xs.take (i + 1)).filter p = (xs.take i).filter p ++ (if p e then [e] else []) := by
 rw [Zie h, List.filter_append]
 congr 1
 by_cases hp : p e = true <;> simp [hp]
theorem Zis {xs : List Int} {i : Nat} (p : Int → Bool) : ((xs.take i).filter p).length ≤ i := Nat.le_trans (List.length_filter_le _ _) (by rw [List.length_take]; omega)
theorem Zmw {l : List Int} (x : Int) (hl : l.length < 1000000) : Zbp l (fun y => Zbr y x) = some (l.filter (fun k => k != x)) := by
 unfold Zbp Zb2
 rcases Zc4 l (Zx l (fun y => Zbr y x)) (fun e => e == x) (fun k => (k : Int)) hl (fun n i e he => by
   rw [Zx, lt_i he, if_pos rfl, idxn, he]; rfl) (fun n => by rw [Zx, lt_e]; rfl) with ⟨h1, k, e, hk, hek, hbef, h4⟩ | ⟨h1, h4⟩
 · rw [h4]
   have hkl := (List.getElem?_eq_some_iff.1 hk).1
   simp only [Option.bind_some]
   rw [if_neg (by simp only [beq_iff_eq]; omega), wr1 (by omega)]
   have main : ∀ (n j : Nat) (ys : List Int) (i : Nat), j + n = l.length → i ≤ j → ys.length = l.length → (∀ m, j ≤ m → ys[m]? = l[m]?) → ys.take i = (l.take j).filter (fun k => k != x) → i < l.length ∨ j = l.length →
       ∃ (zs : List Int) (i' : Nat), Zp (fun y => Zbr y x) (n + 1) ys (i : Int) (j : Int) = some (zs, (i' : Int)) ∧ zs.length = l.length ∧ i' ≤ l.length ∧ zs.take i' = l.filter (fun k => k != x) := by
     intro n
     induction n with
     | zero =>
       intro j ys i h hij hy _ ht _
       obtain rfl : j = l.length := by omega
       refine ⟨ys, i, ?_, hy, hij, by rw [ht, List.take_length]⟩
       rw [Zp, hy, lt_e]; rfl
     | succ n ih =>
       intro j ys i h hij hy hsame ht hil
       have hj : j < l.length := by omega
       have he : l[j]? = some l[j] := List.getElem?_eq_getElem hj
       have hye : ys[j]? = some l[j] := (hsame j (Nat.le_refl _)).trans he
       rw [Zp, lt_i hye, if_pos rfl, idxn, hye]
       simp only [Option.bind_some, Zbr]
       have hi : i < ys.length := by omega
       by_cases hc : l[j] = x
       · rw [if_neg (by simp [hc])]
         unfold Z8
         rw [wr1 (by omega)]
         refine ih (j + 1) ys i (by omega) (by omega) hy (fun m hm => hsame m (by omega)) ?_ (by omega)
         rw [ht, Zex _ he, if_neg (by simp [hc]), List.append_nil]
       · rw [if_pos (by simp [hc]), idxn, List.getElem?_eq_getElem hi]
         simp only [Option.bind_some]
         unfold Z8
         rw [wr1 (by omega), wr1 (by omega)]
         refine ih (j + 1) _ (i + 1) (by omega) (by omega) (by rw [List.length_set]; exact hy) (fun m hm => ?_) ?_ (by omega)
         · rw [List.getElem?_set_ne (by simp; omega)]; exact hsame m (by omega)
         · rw [Zex _ he, if_pos (by simp [hc]), ← ht]
           rw [Int.toNat_natCast, List.take_add_one, List.getElem?_set_self hi, List.take_set_of_le (Nat.le_refl _)]
           rfl
   obtain ⟨zs, i', e1, e2, e3, e4⟩ := main (l.length - (k + 1)) (k + 1) l k (by omega) (by omega) rfl (fun _ _ => rfl) (by
     rw [Zex _ hk, if_neg (by simp [eq_of_beq hek]), List.append_nil]
     symm
     rw [List.filter_eq_self]
     intro a ha
     obtain ⟨j, hj, rfl⟩ := List.getElem_of_mem ha
     rw [List.length_take] at hj
     have := hbef j (l[j]) (by omega) (List.getElem?_eq_getElem (by omega))
     rw [List.getElem_take]
     simpa using this) (.inl hkl)
   rw [show Int.toNat ((l.length : Int) - ((k + 1 : Nat) : Int)) = l.length - (k + 1) by omega, e1]
   simp only [Option.bind_some]
   have hne : zs ≠ [] := fun h => by rw [h] at e2; simp at e2; omega
   have hlen : (zs.take (Int.toNat (i' : Int)) ++ List.replicate (zs.length - Int.toNat (i' : Int)) (0 : Int)).length = l.length := by simp; omega
   rw [if_pos ⟨⟨by omega, by omega⟩, hne⟩, hlen, if_pos ⟨⟨by omega, by omega⟩, fun h => by rw [h] at hlen; simp at hlen; omega⟩]
   rw [Int.toNat_natCast, List.take_append_of_le_length (by rw [List.length_take]; omega), List.take_take, Nat.min_self, e4]
 · rw [h4]
   have : l.filter (fun k => k != x) = l := by
     rw [List.filter_eq_self]
     intro a ha
     have := List.any_eq_false.1 h1 a ha
     simpa using this
   rw [this]; rfl
def rdB (k : Int) : Bool := ((((k == (3 : Int)) || (k == (4 : Int))) || (k == (9 : Int))) || (k == (12 : Int))) || (k == (20 : Int))
def hasB (s : List ByteArray) (k : ByteArray) : Bool := s.any fun x => sEq x k
def rosB (a : Ze) : Bool := a.Acts.any fun e => (e.Kind == (1 : Int)) || (e.Kind == (2 : Int))
def mtB (s : List ByteArray) (e f : Zi) : Bool := (sEq e.Key f.Key && !(rdB e.Kind && rdB f.Kind)) && !(hasB s e.Key)
def Zdu (s : List ByteArray) (a b : Ze) : Bool := (a.Acts.any fun e => b.Acts.any fun f => mtB s e f) || (rosB a && rosB b)
theorem Zlb (a b : ByteArray) : sEq a b = sEq b a := by
 by_cases h : a = b
 · rw [h]
 · rw [Zk1.2 h, Zk1.2 (fun k => h k.symm)]
theorem Zgh {β : Type} [Inhabited β] (c : Bool) (v : β) : gd c (some v) = some (if c then v else default) := by cases c <;> rfl
theorem hasS {s : List ByteArray} (k : ByteArray) (hl : s.length < 1000000) : Zbe s k = some (hasB s k) := by
 unfold Zbe Zbu hasB
 rcases Zc4 s (Zv s k) (fun e => sEq e k) (fun k => (k : Int)) hl (fun n i e he => by
   rw [Zv, lt_i he, if_pos rfl, idxn, he]
   simp only [Option.bind_some]
   rw [Zlb]) (fun n => by rw [Zv, lt_e]; rfl) with ⟨h1, k', e, h2, h3, _, h4⟩ | ⟨h1, h4⟩
 · rw [h4, h1]; simp
 · rw [h4, h1]; rfl
theorem rosD {a : Ze} (hl : a.Acts.length < 1000000) : Zde a = some (rosB a) := by
 unfold Zde Zbd Zbk rosB
 rcases Zc4 a.Acts (Zo a.Acts (fun y0 => Zdb y0)) (fun e => (e.Kind == (1 : Int)) || (e.Kind == (2 : Int))) (fun k => (k : Int)) hl (fun n i e he => by
   rw [Zo, lt_i he, if_pos rfl, idxn, he]; rfl) (fun n => by rw [Zo, lt_e]; rfl) with ⟨h1, k', e, h2, h3, _, h4⟩ | ⟨h1, h4⟩
 · rw [h4, h1]; simp
 · rw [h4, h1]; rfl
theorem meetD {a b : Ze} {s : List ByteArray} (ha : a.Acts.length < 1000000) (hb : b.Acts.length < 1000000) (hs : s.length < 1000000) : Zd8 a b s = some (Zdu s a b) := by
 have inner : ∀ e : Zi, Zb4 b s e (Int.toNat ((b.Acts.length : Int) - (0 : Int)) + 1) (0 : Int) = if (b.Acts.any fun f => mtB s e f) then some (.inl true) else some (.inr ()) := fun e => by
   rcases Zc4 b.Acts (Zb4 b s e) (fun f => mtB s e f) (fun _ => true) hb (fun n i f he => by
     rw [Zb4, lt_i he, if_pos rfl, idxn, he]
     simp only [Option.bind_some, Zei, Zgh, hasS _ hs]
     unfold mtB
     show (if ((sEq e.Key f.Key && (!((if (sEq e.Key f.Key) = true then rdB e.Kind else default) && (if (sEq e.Key f.Key && (if (sEq e.Key f.Key) = true then rdB e.Kind else default)) = true then rdB f.Kind else default)))) && (!(if (sEq e.Key f.Key && (!((if (sEq e.Key f.Key) = true then rdB e.Kind else default) && (if (sEq e.Key f.Key && (if (sEq e.Key f.Key) = true then rdB e.Kind else default)) = true then rdB f.Kind else default)))) = true then hasB s e.Key else default))) = true then _ else _) = _
     cases sEq e.Key f.Key <;> cases hasB s e.Key <;> cases rdB e.Kind <;> cases rdB f.Kind <;> rfl) (fun n => by rw [Zb4, lt_e]; rfl) with ⟨h1, k', e', h2, h3, _, h4⟩ | ⟨h1, h4⟩
   · rw [h4, h1]; rfl
   · rw [h4, h1]; rfl
 unfold Zd8 Zdu
 rcases Zc4 a.Acts (Zcc a b s) (fun e => b.Acts.any fun f => mtB s e f) (fun _ => true) ha (fun n i e he => by
   rw [Zcc, lt_i he, if_pos rfl, idxn, he]
   simp only [Option.bind_some, inner]
   cases h : (b.Acts.any fun f => mtB s e f) <;> simp) (fun n => by rw [Zcc, lt_e]; rfl) with ⟨h1, k', e, h2, h3, _, h4⟩ | ⟨h1, h4⟩
 · rw [h4, h1]; rfl
 · rw [h4, h1]
   simp only [Option.bind_some, rosD ha, rosD hb, Zgh, Bool.false_or]
   cases rosB a <;> simp
theorem big3 (r : Zu) : ∃ b, Zc3 r = some b := by
 unfold Zc3
 by_cases h : (decide ((100 : Int) < (r.List.length : Int)) || decide ((1000 : Int) < (r.Text.size : Int))) = true
 · rw [if_pos h]; exact ⟨_, rfl⟩
 · rw [if_neg h]
   simp only [Bool.or_eq_true, decide_eq_true_eq, not_or] at h
   rcases Zc4 r.List (Zbh r) (fun e => decide ((100 : Int) < (e.Name.size : Int))) (fun _ => 1) (by omega) (fun n i e he => by
     rw [Zbh, lt_i he, if_pos rfl, idxn, he]; rfl) (fun n => by rw [Zbh, lt_e]; rfl) with ⟨_, k, e, _, _, _, h4⟩ | ⟨_, h4⟩
   · rw [h4]; exact ⟨_, rfl⟩
   · rw [h4]; exact ⟨_, rfl⟩
theorem big4 (a : Zi) : ∃ b, Zce a = some b := by
 unfold Zce
 obtain ⟨b, hb⟩ := big3 a.Make
 rw [hb, Zgh]
 simp only [Option.bind_some]
 generalize (if (!((decide ((200 : Int) < (a.Key.size : Int))) || (decide ((1000 : Int) < (a.S.size : Int))))) = true then b else default) = v
 split
 · exact ⟨_, rfl⟩
 · exact ⟨_, rfl⟩
theorem big8 (d : Ze) : ∃ b, Zcf d = some b ∧ (¬ 0 < b → d.Acts.length ≤ 40) := by
 unfold Zcf
 by_cases h : decide ((40 : Int) < (d.Acts.length : Int)) = true
 · rw [if_pos h]; exact ⟨_, rfl, fun h => absurd (by decide) h⟩
 · rw [if_neg h]
   have h : d.Acts.length ≤ 40 := by simp at h; omega
   rcases Zc4 d.Acts (Zbj d) (fun e => decide (0 < (Zce e).getD 0)) (fun _ => 1) (by omega) (fun n i e he => by
     obtain ⟨b, hb⟩ := big4 e
     rw [Zbj, lt_i he, if_pos rfl, idxn, he]
     simp only [Option.bind_some, hb, Option.getD_some]) (fun n => by rw [Zbj, lt_e]; rfl) with ⟨_, k, e, _, _, _, h4⟩ | ⟨_, h4⟩
   · rw [h4]; exact ⟨_, rfl, fun _ => h⟩
   · rw [h4]; exact ⟨_, rfl, fun _ => h⟩
theorem Znf (l : List Ze) : ∃ b, Zc1 l = some b ∧ (¬ 0 < b → l.length ≤ 40 ∧ ∀ d ∈ l, d.Acts.length ≤ 40) := by
 unfold Zc1
 by_cases h : decide ((40 : Int) < (l.length : Int)) = true
 · rw [if_pos h]; exact ⟨_, rfl, fun h => absurd (by decide) h⟩
 · rw [if_neg h]
   have h : l.length ≤ 40 := by simp at h; omega
   rcases Zc4 l (Zbg l) (fun e => decide (0 < (Zcf e).getD 0)) (fun _ => 1) (by omega) (fun n i e he => by
     obtain ⟨b, hb, _⟩ := big8 e
     rw [Zbg, lt_i he, if_pos rfl, idxn, he]
     simp only [Option.bind_some, hb, Option.getD_some]) (fun n => by rw [Zbg, lt_e]; rfl) with ⟨_, k, e, _, _, _, h4⟩ | ⟨h1, h4⟩
   · rw [h4]; exact ⟨_, rfl, fun h => absurd (by decide) h⟩
   · rw [h4]
     refine ⟨_, rfl, fun _ => ⟨h, fun d hd => ?_⟩⟩
     obtain ⟨b, hb, hb2⟩ := big8 d
     have := List.any_eq_false.1 h1 d hd
     rw [hb] at this
     exact hb2 (by simpa using this)
structure Ctx (l : List Ze) (s : List ByteArray) : Prop where
 len : l.length ≤ 40
 acts : ∀ d ∈ l, d.Acts.length ≤ 40
 split : s.length ≤ 20
def dAt (l : List Ze) (k : Int) : Ze := (idx l k).getD default
theorem Zhe {l : List Ze} {k : Int} (h : 0 ≤ k ∧ k < l.length) : idx l k = some (dAt l k) := by
 obtain ⟨n, rfl⟩ := Int.eq_ofNat_of_zero_le h.1
 unfold dAt
 rw [idxn, List.getElem?_eq_getElem (by omega)]; rfl
theorem Zjh {l : List Ze} {k : Int} (h : 0 ≤ k ∧ k < l.length) : dAt l k ∈ l := by
 have := Zhe h
 obtain ⟨n, rfl⟩ := Int.eq_ofNat_of_zero_le h.1
 rw [idxn] at this
 exact List.mem_of_getElem? this
def mB (l : List Ze) (s : List ByteArray) (n k : Int) : Bool := decide (k < n) && Zdu s (dAt l k) (dAt l n)
theorem Ctx.meetD {l : List Ze} {s : List ByteArray} (c : Ctx l s) {k n : Int} (hk : 0 ≤ k ∧ k < l.length) (hn : 0 ≤ n ∧ n < l.length) : Zd8 (dAt l k) (dAt l n) s = some (Zdu s (dAt l k) (dAt l n)) :=
 Go.CL.meetD (by have := c.acts _ (Zjh hk); omega) (by have := c.acts _ (Zjh hn); omega) (by have := c.split; omega)
structure Rise (l : List Ze) (T : List Int) : Prop where
 up : T.Pairwise (· < ·)
 rng : ∀ k ∈ T, 0 ≤ k ∧ k < l.length
 len : T.length ≤ l.length
theorem Zl5 {l : List Ze} (hl : l.length ≤ 40) (out : List Bool) : ∃ T, Zcu l out = some T ∧ Rise l T ∧ (out = [] → T.length = l.length) := by
 unfold Zcu
 obtain ⟨T, ⟨h1, h2, h3, h4⟩, h5⟩ := Zeq l (Z1 l out) (fun i st => st.Pairwise (· < ·) ∧ (∀ k ∈ st, 0 ≤ k ∧ k < (i : Int)) ∧ st.length ≤ i ∧ (out = [] → st.length = i)) id (by omega) (fun n i st e he ⟨p1, p2, p3, p4⟩ => by
   have hi := (List.getElem?_eq_some_iff.1 he).1
   obtain ⟨b, hb⟩ : ∃ b : Bool, (gd (!(decide ((out.length : Int) ≤ (i : Int)))) (idx out (i : Int))) = some b ∧ (out = [] → (decide ((out.length : Int) ≤ (i : Int)) || (!b)) = true) := by
     by_cases ho : (out.length : Int) ≤ (i : Int)
     · rw [decide_eq_true ho]
       exact ⟨default, rfl, fun _ => rfl⟩
     · rw [decide_eq_false ho, Bool.not_false, gd_t, idxn, List.getElem?_eq_getElem (by omega)]
       exact ⟨_, rfl, fun h => by subst h; simp at ho⟩
   rw [Z1, lt_i he, if_pos rfl, hb.1]
   simp only [Option.bind_some]
   by_cases hc : (decide ((out.length : Int) ≤ (i : Int)) || (!b)) = true
   · rw [if_pos hc, if_pos (by simp only [List.length_singleton]; omega)]
     refine ⟨st ++ [(i : Int)], ⟨List.pairwise_append.2 ⟨p1, List.pairwise_singleton .., fun a ha b hb => by rw [List.mem_singleton.1 hb]; exact (p2 a ha).2⟩, fun k hk => ?_, by simp; omega, fun h => by simp [p4 h]⟩, rfl⟩
     rcases List.mem_append.1 hk with hk | hk
     · have := p2 k hk; omega
     · rw [List.mem_singleton.1 hk]; omega
   · rw [if_neg hc]
     exact ⟨st, ⟨p1, fun k hk => by have := p2 k hk; omega, by omega, fun h => absurd (hb.2 h) hc⟩, rfl⟩) (fun n st hp => by rw [Z1, lt_e]; rfl) (s0 := []) ⟨.nil, (fun _ h => by cases h), Nat.le_refl _, fun _ => rfl⟩
 rw [h5]
 exact ⟨T, rfl, ⟨h1, h2, h3⟩, h4⟩
theorem Zhi {z : List Int} {n : Int} : ∀ {A : List (Int × List Int)}, (∀ e ∈ A, e.1 ≠ n) → mget z A n = z
 | [], _ => rfl
 | e :: A, h => by
   rw [mget, if_neg (h e (List.mem_cons_self ..))]
   exact Zhi (fun e' he => h e' (List.mem_cons_of_mem _ he))
theorem Zh7 {z v : List Int} {n m : Int} : ∀ {A : List (Int × List Int)}, (∀ e ∈ A, e.1 ≠ n) → mget z (A ++ [(n, v)]) m = if m = n then v else mget z A m
 | [], _ => by
   show (if n = m then v else z) = if m = n then v else z
   by_cases h : m = n
   · rw [if_pos h, if_pos h.symm]
   · rw [if_neg h, if_neg (fun k => h k.symm)]
 | e :: A, h => by
   show (if e.1 = m then e.2 else mget z (A ++ [(n, v)]) m) = if m = n then v else if e.1 = m then e.2 else mget z A m
   rw [Zh7 (fun e' he => h e' (List.mem_cons_of_mem _ he))]
   by_cases h1 : e.1 = m
   · rw [if_pos h1, if_neg (fun k => h e (List.mem_cons_self ..) (h1.trans k)), if_pos h1]
   · rw [if_neg h1, if_neg h1]
def NoKey (b : MapB Int) (n : Int) : Prop := ∀ e ∈ b.all, e.1 ≠ n
theorem NoKey.old {b : MapB Int} {n : Int} (h : NoKey b n) : (b.old.all fun e => e.1 != n) = true := List.all_eq_true.2 fun e he => by simpa using h e (List.mem_append_left _ he)
theorem Zk9 {b : MapB Int} {n : Int} (h : NoKey b n) : b.row n = some [] := by
 unfold MapB.row
 cases hl : b.last with
 | none => simp only [h.old]; rfl
 | some e =>
   simp only [h.old]
   rw [if_pos trivial, if_neg]
   exact h e (by unfold MapB.all; rw [hl]; simp)
theorem Zjf {b : MapB Int} {n : Int} {v : List Int} (h : NoKey b n) : (b.put n v).all = b.all ++ [(n, v)] := by
 unfold MapB.put MapB.all
 cases hl : b.last with
 | none => simp
 | some e =>
   have : e.1 ≠ n := h e (by unfold MapB.all; rw [hl]; simp)
   simp [this]
theorem Zl7 {b : MapB Int} {n : Int} {v : List Int} (h : NoKey b n) : (b.put n v).row n = some v := by
 have hall : ∀ e ∈ b.old ++ b.last.toList, e.1 ≠ n := h
 unfold MapB.put
 cases hl : b.last with
 | none =>
   unfold MapB.row
   simp only [h.old]
   rw [if_pos trivial, if_pos trivial]
 | some e =>
   have he : e.1 ≠ n := h e (by unfold MapB.all; rw [hl]; simp)
   simp only [if_neg he]
   unfold MapB.row
   have : ((b.old ++ [e]).all fun e => e.1 != n) = true := List.all_eq_true.2 fun e' he' => by
     have := hall e' (by rw [hl]; exact he')
     simpa using this
   simp only [this]
   rw [if_pos trivial, if_pos trivial]
theorem Zl1 {b : MapB Int} {n : Int} {v w : List Int} (h : NoKey b n) : (b.put n v).put n w = b.put n w := by
 unfold MapB.put
 cases hl : b.last with
 | none => simp
 | some e =>
   have he : e.1 ≠ n := h e (by unfold MapB.all; rw [hl]; simp)
   simp [he]
theorem Rise.take_filter {l : List Ze} {T : List Int} (h : Rise l T) {i : Nat} {n : Int} (hn : T[i]? = some n) (p : Int → Bool) : T.filter (fun k => decide (k < n) && p k) = (T.take i).filter p := by
 have hi := (List.getElem?_eq_some_iff.1 hn).1
 have hup := h.up
 rw [← List.take_append_drop i T] at hup
 obtain ⟨_, h2, h3⟩ := List.pairwise_append.1 hup
 have hd : T.drop i = n :: T.drop (i + 1) := by
   rw [List.drop_eq_getElem_cons hi]
   congr 1
   rw [List.getElem?_eq_getElem hi] at hn
   exact Option.some.inj hn
 rw [hd] at h2 h3
 conv => lhs; rw [← List.take_append_drop i T, List.filter_append, hd]
 have e1 : (n :: T.drop (i + 1)).filter (fun k => decide (k < n) && p k) = [] := by
   rw [List.filter_eq_nil_iff]
   intro a ha
   have : ¬ a < n := by
     rcases List.mem_cons.1 ha with rfl | ha
     · omega
     · have := (List.pairwise_cons.1 h2).1 a ha; omega
   simp [this]
 rw [e1, List.append_nil]
 apply List.filter_congr
 intro a ha
 have := h3 a ha n (List.mem_cons_self ..)
 simp [this]
theorem Rise.nodup {l : List Ze} {T : List Int} (h : Rise l T) {i j : Nat} {n : Int} (hi : T[i]? = some n) (hj : T[j]? = some n) : i = j := by
 obtain ⟨h1, e1⟩ := List.getElem?_eq_some_iff.1 hi
 obtain ⟨h2, e2⟩ := List.getElem?_eq_some_iff.1 hj
 rcases Nat.lt_trichotomy i j with h3 | h3 | h3
 · have := List.pairwise_iff_getElem.1 h.up i j h1 h2 h3; omega
 · exact h3
 · have := List.pairwise_iff_getElem.1 h.up j i h2 h1 h3; omega
theorem Zmt {l : List Ze} {s : List ByteArray} (c : Ctx l s) {T : List Int} (hT : Rise l T) : ∃ x, Zd1 l T s = some x ∧ x.left = T ∧ ∀ m ∈ T, mget [] x.ahead m = T.filter (mB l s m) := by
 have hTl : T.length ≤ 40 := Nat.le_trans hT.len c.len
 unfold Zd1 Zcj
 rw [if_pos (by omega)]
 simp only [Option.bind_some]
 obtain ⟨st, ⟨h1, h2, h3⟩, h4⟩ := Zeq T (Zcp l T s) (fun i st => st.left = T ∧ (∀ e ∈ st.ahead.all, e.1 ∈ T.take i) ∧ ∀ m ∈ T.take i, mget [] st.ahead.all m = T.filter (mB l s m)) id (by omega) (fun n i st e he ⟨p1, p2, p3⟩ => by
   have hi := (List.getElem?_eq_some_iff.1 he).1
   have heT := hT.rng e (List.mem_of_getElem? he)
   have hno : NoKey st.ahead e := fun e' he' hk => by
     obtain ⟨j, hj⟩ := List.mem_iff_getElem?.1 (p2 e' he')
     rw [hk, List.getElem?_take] at hj
     split at hj
     · have := hT.nodup hj he; omega
     · cases hj
   have hcut : cut T (0 : Int) (i : Int) = some (T.take i) := by
     have := Zlm (xs := T) (l := 0) (h := i) (by omega) (by omega)
     simpa using this
   have hlen : (T.take i).length = i := by rw [List.length_take]; omega
   obtain ⟨st2, ⟨q1, q2⟩, q3⟩ := Zeq (T.take i) (Zb1 l s e (T.take i)) (fun j st' => st'.left = st.left ∧ st'.ahead = if ((T.take i).take j).filter (fun k => Zdu s (dAt l k) (dAt l e)) = [] then st.ahead else st.ahead.put e (((T.take i).take j).filter (fun k => Zdu s (dAt l k) (dAt l e)))) id (by omega) (fun n' j st' k hk ⟨r1, r2⟩ => by
     have hj := (List.getElem?_eq_some_iff.1 hk).1
     have hkT := hT.rng k (List.mem_of_mem_take (List.mem_of_getElem? hk))
     have hfl := Zis (xs := T.take i) (i := j) (fun k => Zdu s (dAt l k) (dAt l e))
     rw [Zb1, lt_i hk, if_pos rfl, idxn, hk]
     simp only [Option.bind_some, Zhe hkT, Zhe heT, c.meetD hkT heT]
     rw [Zex _ hk]
     by_cases hm : Zdu s (dAt l k) (dAt l e) = true
     · rw [if_pos hm, if_pos hm, if_neg (by simp)]
       have hrow : st'.ahead.row e = some (((T.take i).take j).filter (fun k => Zdu s (dAt l k) (dAt l e))) := by
         rw [r2]
         split
         · rename_i h0; rw [h0]; exact Zk9 hno
         · exact Zl7 hno
       have hput : st'.ahead.put e (((T.take i).take j).filter (fun k => Zdu s (dAt l k) (dAt l e)) ++ [k]) = st.ahead.put e (((T.take i).take j).filter (fun k => Zdu s (dAt l k) (dAt l e)) ++ [k]) := by
         rw [r2]
         split
         · rfl
         · exact Zl1 hno
       rw [hrow]
       simp only [Option.bind_some]
       rw [if_pos (by simp only [List.length_singleton]; omega)]
       exact ⟨⟨st'.ahead.put e (((T.take i).take j).filter (fun k => Zdu s (dAt l k) (dAt l e)) ++ [k]), st'.left⟩, ⟨r1, hput⟩, rfl⟩
     · rw [if_neg hm, if_neg hm, List.append_nil]
       exact ⟨st', ⟨r1, r2⟩, rfl⟩) (fun n' st' hp => by rw [Zb1, lt_e]; rfl) (s0 := st) ⟨rfl, by simp⟩
   rw [Zcp, lt_i he, if_pos rfl, idxn, he]
   simp only [Option.bind_some, hcut]
   rw [q3]
   simp only [Option.bind_some, id]
   refine ⟨st2, ⟨q1.trans p1, ?_, ?_⟩, rfl⟩
   · intro e' he'
     rw [Zie he]
     rw [q2] at he'
     split at he'
     · exact List.mem_append_left _ (p2 e' he')
     · rw [Zjf hno] at he'
       rcases List.mem_append.1 he' with h | h
       · exact List.mem_append_left _ (p2 e' h)
       · rw [List.mem_singleton.1 h]; simp
   · have hxs : ((T.take i).take (T.take i).length).filter (fun k => Zdu s (dAt l k) (dAt l e)) = T.filter (mB l s e) := by
       rw [List.take_length]
       exact (hT.take_filter he _).symm
     rw [hxs] at q2
     intro m hm
     have hmg : mget [] st2.ahead.all m = if m = e then T.filter (mB l s e) else mget [] st.ahead.all m := by
       rw [q2]
       split
       · rename_i h0
         rw [h0]
         by_cases hme : m = e
         · rw [if_pos hme, hme]; exact Zhi hno
         · rw [if_neg hme]
       · rw [Zjf hno]; exact Zh7 hno
     rw [hmg]
     by_cases hme : m = e
     · rw [if_pos hme, hme]
     · rw [if_neg hme]
       rw [Zie he] at hm
       rcases List.mem_append.1 hm with h | h
       · exact p3 m h
       · exact absurd (List.mem_singleton.1 h) hme) (fun n st hp => by rw [Zcp, lt_e]; rfl) (s0 := { ahead := ⟨[], none⟩, left := T }) ⟨rfl, (fun _ h => by cases h), (fun _ h => by simp at h)⟩
 rw [h4]
 exact ⟨_, rfl, h1, fun m hm => h3 m (by rw [List.take_length]; exact hm)⟩
structure LineOk (l : List Ze) (s : List ByteArray) (T left : List Int) (x : Zw) : Prop where
 hleft : x.left = left
 part : left = T.filter (fun k => decide (k ∈ left))
 row : ∀ m ∈ T, mget [] x.ahead m = T.filter (mB l s m)
variable {l : List Ze} {s : List ByteArray} {T left : List Int} {x : Zw}
theorem LineOk.mem (h : LineOk l s T left x) {k : Int} (hk : k ∈ left) : k ∈ T := by
 rw [h.part] at hk; exact (List.mem_filter.1 hk).1
theorem LineOk.len (h : LineOk l s T left x) : left.length ≤ T.length := by
 rw [h.part]; exact List.length_filter_le _ _
theorem LineOk.new (h1 : x.left = T) (h2 : ∀ m ∈ T, mget [] x.ahead m = T.filter (mB l s m)) : LineOk l s T T x := ⟨h1, by symm; rw [List.filter_eq_self]; intro a ha; simpa using ha, h2⟩
theorem LineOk.waits (h : LineOk l s T left x) {i : Int} (hi : i ∈ left) : (mget [] x.ahead i).filter (fun k => decide (k ∈ left)) = left.filter (mB l s i) := by
 rw [h.row i (h.mem hi), List.filter_filter]
 conv => rhs; rw [h.part, List.filter_filter]
 apply List.filter_congr
 intro a _
 exact Bool.and_comm _ _
def Zg9 (l : List Ze) (s : List ByteArray) (left : List Int) (i : Int) : List Int := if i ∈ left then left.filter (mB l s i) else []
theorem LineOk.after (h : LineOk l s T left x) (hT : T.length ≤ 40) (i : Int) : Zbt x i = some (Zg9 l s left i) := by
 have hl : left.length ≤ 40 := Nat.le_trans h.len hT
 unfold Zbt Zg9
 rw [h.hleft, Zhg i (by omega)]
 simp only [Option.bind_some]
 by_cases hi : i ∈ left
 · rw [if_neg (by simp [hi]), if_pos hi]
   have hrl : (mget [] x.ahead i).length ≤ 40 := by rw [h.row i (h.mem hi)]; exact Nat.le_trans (List.length_filter_le _ _) hT
   obtain ⟨st, h1, h2⟩ := Zeq (mget [] x.ahead i) (Z7 x i) (fun j st => st = ((mget [] x.ahead i).take j).filter (fun k => decide (k ∈ left))) id (by omega) (fun n j st e he hp => by
     subst hp
     have := Zis (xs := mget [] x.ahead i) (i := j) (fun k => decide (k ∈ left))
     have hj := (List.getElem?_eq_some_iff.1 he).1
     refine ⟨_, rfl, ?_⟩
     rw [Z7, lt_i he, if_pos rfl, idxn, he, Zex _ he, h.hleft]
     simp only [Option.bind_some, Zhg e (show left.length < 1000000 by omega)]
     by_cases hc : decide (e ∈ left) = true
     · rw [if_pos hc, if_pos (by simp only [List.length_singleton]; omega), if_pos hc]; rfl
     · rw [if_neg hc, if_neg hc, List.append_nil]; rfl) (fun n st hp => by rw [Z7, lt_e]; rfl) (s0 := []) rfl
   rw [h2, h1, List.take_length, h.waits hi]; rfl
 · rw [if_pos (by simp [hi]), if_neg hi]
def Zea (l : List Ze) (s : List ByteArray) (left : List Int) (i : Int) : Bool := decide (i ∈ left) && (((Zg9 l s left i).length : Int) == (0 : Int))
theorem LineOk.ready (h : LineOk l s T left x) (hT : T.length ≤ 40) (i : Int) : Zbc x i = some (Zea l s left i) := by
 have hl : left.length ≤ 40 := Nat.le_trans h.len hT
 unfold Zbc Zea
 rw [h.hleft, Zhg i (by omega), h.after hT]
 simp only [Option.bind_some, Zgh]
 by_cases hi : i ∈ left
 · simp [hi]
 · simp [hi]
theorem LineOk.done (h : LineOk l s T left x) (hT : T.length ≤ 40) (i : Int) : ∃ x', Zby x i = some (x', Zea l s left i) ∧ LineOk l s T (if Zea l s left i = true then left.filter (fun k => k != i) else left) x' := by
 have hl : left.length ≤ 40 := Nat.le_trans h.len hT
 unfold Zby Zda
 rw [h.ready hT]
 simp only [Option.bind_some]
 by_cases hr : Zea l s left i = true
 · rw [hr, if_neg (by decide), h.hleft, Zmw i (by omega)]
   refine ⟨{ x with left := left.filter (fun k => k != i) }, rfl, rfl, ?_, h.row⟩
   rw [if_pos rfl]
   conv => lhs; rw [h.part, List.filter_filter]
   apply List.filter_congr
   intro a _
   simp only [List.mem_filter, Bool.decide_and]
   cases (a != i) <;> simp
 · rw [eq_false_of_ne_true hr]
   exact ⟨x, rfl, by rw [if_neg (by decide)]; exact h⟩
theorem Zli : Zc2 = some true := by kernel_rfl
theorem Rise.rest {l : List Ze} {T : List Int} (h : Rise l T) {i : Nat} {e : Int} (he : T[i]? = some e) : T.drop i = e :: T.drop (i + 1) ∧ ∀ a ∈ T.drop (i + 1), e < a := by
 have hi := (List.getElem?_eq_some_iff.1 he).1
 have hup := h.up
 rw [← List.take_append_drop i T] at hup
 obtain ⟨_, h2, _⟩ := List.pairwise_append.1 hup
 have hd : T.drop i = e :: T.drop (i + 1) := by
   rw [List.drop_eq_getElem_cons hi]
   congr 1
   rw [List.getElem?_eq_getElem hi] at he
   exact Option.some.inj he
 rw [hd] at h2
 exact ⟨hd, (List.pairwise_cons.1 h2).1⟩
theorem Zhq {l : List Ze} {s : List ByteArray} {left : List Int} {i : Int} : Zea l s left i = true ↔ i ∈ left ∧ ∀ k ∈ left, mB l s i k = false := by
 unfold Zea Zg9
 by_cases hi : i ∈ left
 · simp only [hi, decide_true, Bool.true_and, if_true, beq_iff_eq, true_and]
   have : ((left.filter (mB l s i)).length : Int) = 0 ↔ left.filter (mB l s i) = [] := by
     rw [← List.length_eq_zero_iff]; omega
   rw [this, List.filter_eq_nil_iff]
   constructor
   · intro h k hk; simpa using h k hk
   · intro h k hk; simp [h k hk]
 · simp [hi]
theorem LineFree_true (a0 : List Ze) (a1 : List ByteArray) (a2 : List Bool) (w0 : a0.length ≤ maxLen ∧ ∀ e0 ∈ a0, Ze6 e0) (w1 : a1.length ≤ maxLen ∧ ∀ e0 ∈ a1, e0.size ≤ maxLen) (w2 : a2.length ≤ maxLen ∧ ∀ e0 ∈ a2, True) : Zcm a0 a1 a2 = some true := by
 unfold Zcm
 rw [Zli]
 simp only [Option.bind_some, Bool.not_true, Bool.false_eq_true, if_false]
 obtain ⟨b, hb, hb2⟩ := Znf a0
 rw [hb]
 simp only [Option.bind_some]
 split
 · rfl
 · rename_i hc
   simp only [Bool.or_eq_true, decide_eq_true_eq, not_or] at hc
   obtain ⟨hc1, hc2⟩ := hc
   obtain ⟨hl, hacts⟩ := hb2 hc1
   have c : Ctx a0 a1 := ⟨hl, hacts, by omega⟩
   obtain ⟨T, hT, hR, _⟩ := Zl5 hl a2
   obtain ⟨x, hx, hx1, hx2⟩ := Zmt c hR
   have hTl : T.length ≤ 40 := Nat.le_trans hR.len hl
   rw [hT]
   simp only [Option.bind_some]
   rw [hx]
   simp only [Option.bind_some]
   obtain ⟨st, h1, h2⟩ := Zeq T (Z4 T) (fun i st => LineOk a0 a1 T (T.drop i) st) (fun st => (.inr st : Bool ⊕ Zw)) (by omega) (fun n i st e he hp => by
     have hi := (List.getElem?_eq_some_iff.1 he).1
     obtain ⟨hd, hgt⟩ := hR.rest he
     have hr : Zea a0 a1 (T.drop i) e = true := Zhq.2 ⟨by rw [hd]; exact List.mem_cons_self .., fun k hk => by
       rw [hd] at hk
       have : ¬ k < e := by
         rcases List.mem_cons.1 hk with rfl | hk
         · omega
         · have := hgt k hk; omega
       simp [mB, this]⟩
     have hfil : (T.drop i).filter (fun k => k != e) = T.drop (i + 1) := by
       rw [hd, List.filter_cons_of_neg (by simp), List.filter_eq_self]
       intro a ha
       have := hgt a ha
       simp only [bne_iff_ne, ne_eq]; omega
     obtain ⟨x', hd1, hp'⟩ := hp.done hTl e
     rw [hr, if_pos rfl, hfil] at hp'
     rw [hr] at hd1
     have hr2 : Zea a0 a1 (T.drop (i + 1)) e = false := by
       rw [← Bool.not_eq_true, Zhq]
       exact fun h => by have := hgt e h.1; omega
     obtain ⟨x2, hd2, hp2⟩ := hp'.done hTl e
     rw [hr2, if_neg (by decide)] at hp2
     rw [hr2] at hd2
     refine ⟨x2, hp2, ?_⟩
     rw [Z4, lt_i he, if_pos rfl, idxn, he]
     have hlen : ((st.left.length : Int) != IntKind.i64.wrap ((T.length : Int) - (i : Int))) = false := by
       rw [hp.hleft, wr (by omega) (by omega), List.length_drop]
       simp; omega
     simp only [Option.bind_some, Zbm, hlen, hp.ready hTl, hr, hd1, hd2, gd_t, Bool.not_true, Bool.not_false, Bool.false_or, Bool.or_self, Bool.false_eq_true, if_false, if_true]) (fun n st hp => by rw [Z4, lt_e]; rfl) (s0 := x) (LineOk.new hx1 hx2)
   rw [h2]
   simp only [Option.bind_some, Zbm, h1.hleft]
   simp
end Go.CL
namespace Go.CL
open Go Go.RowKit Go.Proofs Go.ChangeShapes Go.WideShapes Go.ChangeAt
theorem Zmi : ownKnob Try.prog.godebug = none := by kernel_rfl
theorem Zgq : laidOutB Try.prog = true := by kernel_rfl
theorem op_3 : Opn Try.prog 3 (Kd.int .i64) (fun x => ((IntKind.i64).min ≤ x ∧ x ≤ (IntKind.i64).max)) := Zjd Try.underlying3 (by kernel_rfl)
theorem op_9 : Opn Try.prog 9 Kd.str (fun x => (x.size ≤ maxLen)) := Zma Try.underlying9 (by kernel_rfl)
theorem op_2 : Opn Try.prog 2 (Kd.int .i64) (fun x => ((IntKind.i64).min ≤ x ∧ x ≤ (IntKind.i64).max)) := Zjd Try.underlying2 (by kernel_rfl)
theorem Zjm : Opn Try.prog 44 Kd.flt (fun x => (x < 2 ^ 64)) := Zmo Try.underlying44 (by kernel_rfl)
theorem Zna : Opn Try.prog 67 Zbv Ze9 := ⟨by kernel_rfl, fun hg h => by
 obtain ⟨hl, n, hf⟩ := Zep Try.underlying67 h
 obtain ⟨y0, h0⟩ := hf 0 _ rfl
 obtain ⟨v0, k0, w0⟩ := Zjm.op hg h0
 obtain ⟨y1, h1⟩ := hf 1 _ rfl
 obtain ⟨v1, k1, w1⟩ := op_9.op hg h1
 refine ⟨⟨v0, v1⟩, ⟨hl.trans (by kernel_rfl), (List.forall_mem_cons.2 ⟨k0, (List.forall_mem_cons.2 ⟨k1, (fun _ h => by cases h)⟩)⟩)⟩, w0, w1⟩, fun h => Ze0 Try.underlying67 h⟩
theorem Znj : Opn Try.prog 45 Zbv.sl (fun x => (x.length ≤ maxLen ∧ ∀ e0 ∈ x, (Ze9 e0))) := Zf4 Try.underlying45 (by kernel_rfl) Zna (by decide)
theorem Znl : Opn Try.prog 47 Zb5 Zfw := ⟨by kernel_rfl, fun hg h => by
 obtain ⟨hl, n, hf⟩ := Zep Try.underlying47 h
 obtain ⟨y0, h0⟩ := hf 0 _ rfl
 obtain ⟨v0, k0, w0⟩ := op_3.op hg h0
 obtain ⟨y1, h1⟩ := hf 1 _ rfl
 obtain ⟨v1, k1, w1⟩ := op_2.op hg h1
 obtain ⟨y2, h2⟩ := hf 2 _ rfl
 obtain ⟨v2, k2, w2⟩ := op_2.op hg h2
 obtain ⟨y3, h3⟩ := hf 3 _ rfl
 obtain ⟨v3, k3, w3⟩ := op_2.op hg h3
 obtain ⟨y4, h4⟩ := hf 4 _ rfl
 obtain ⟨v4, k4, w4⟩ := Zjm.op hg h4
 obtain ⟨y5, h5⟩ := hf 5 _ rfl
 obtain ⟨v5, k5, w5⟩ := op_3.op hg h5
 obtain ⟨y6, h6⟩ := hf 6 _ rfl
 obtain ⟨v6, k6, w6⟩ := op_9.op hg h6
 obtain ⟨y7, h7⟩ := hf 7 _ rfl
 obtain ⟨v7, k7, w7⟩ := Znj.op hg h7
 refine ⟨⟨v0, v1, v2, v3, v4, v5, v6, v7⟩, ⟨hl.trans (by kernel_rfl), (List.forall_mem_cons.2 ⟨k0, (List.forall_mem_cons.2 ⟨k1, (List.forall_mem_cons.2 ⟨k2, (List.forall_mem_cons.2 ⟨k3, (List.forall_mem_cons.2 ⟨k4, (List.forall_mem_cons.2 ⟨k5, (List.forall_mem_cons.2 ⟨k6, (List.forall_mem_cons.2 ⟨k7, (fun _ h => by cases h)⟩)⟩)⟩)⟩)⟩)⟩)⟩)⟩)⟩, w0, w1, w2, w3, w4, w5, w6, w7⟩, fun h => Ze0 Try.underlying47 h⟩
theorem op_4 : Opn Try.prog 4 Kd.bool (fun x => True) := Zk6 Try.underlying4 (by kernel_rfl)
theorem Zm3 : Opn Try.prog 49 Zq Zfj := ⟨by kernel_rfl, fun hg h => by
 obtain ⟨hl, n, hf⟩ := Zep Try.underlying49 h
 obtain ⟨y0, h0⟩ := hf 0 _ rfl
 obtain ⟨v0, k0, w0⟩ := op_3.op hg h0
 obtain ⟨y1, h1⟩ := hf 1 _ rfl
 obtain ⟨v1, k1, w1⟩ := op_9.op hg h1
 obtain ⟨y2, h2⟩ := hf 2 _ rfl
 obtain ⟨v2, k2, w2⟩ := op_2.op hg h2
 obtain ⟨y3, h3⟩ := hf 3 _ rfl
 obtain ⟨v3, k3, w3⟩ := Zjm.op hg h3
 obtain ⟨y4, h4⟩ := hf 4 _ rfl
 obtain ⟨v4, k4, w4⟩ := op_9.op hg h4
 obtain ⟨y5, h5⟩ := hf 5 _ rfl
 obtain ⟨v5, k5, w5⟩ := Znl.op hg h5
 obtain ⟨y6, h6⟩ := hf 6 _ rfl
 obtain ⟨v6, k6, w6⟩ := op_4.op hg h6
 refine ⟨⟨v0, v1, v2, v3, v4, v5, v6⟩, ⟨hl.trans (by kernel_rfl), (List.forall_mem_cons.2 ⟨k0, (List.forall_mem_cons.2 ⟨k1, (List.forall_mem_cons.2 ⟨k2, (List.forall_mem_cons.2 ⟨k3, (List.forall_mem_cons.2 ⟨k4, (List.forall_mem_cons.2 ⟨k5, (List.forall_mem_cons.2 ⟨k6, (fun _ h => by cases h)⟩)⟩)⟩)⟩)⟩)⟩)⟩)⟩, w0, w1, w2, w3, w4, w5, w6⟩, fun h => Ze0 Try.underlying49 h⟩
theorem Zm2 : Opn Try.prog 41 Zq.sl (fun x => (x.length ≤ maxLen ∧ ∀ e0 ∈ x, (Zfj e0))) := Zf4 Try.underlying41 (by kernel_rfl) Zm3 (by decide)
theorem Znh : Opn Try.prog 43 Zl Ze6 := ⟨by kernel_rfl, fun hg h => by
 obtain ⟨hl, n, hf⟩ := Zep Try.underlying43 h
 obtain ⟨y0, h0⟩ := hf 0 _ rfl
 obtain ⟨v0, k0, w0⟩ := Zm2.op hg h0
 refine ⟨⟨v0⟩, ⟨hl.trans (by kernel_rfl), (List.forall_mem_cons.2 ⟨k0, (fun _ h => by cases h)⟩)⟩, w0⟩, fun h => Ze0 Try.underlying43 h⟩
theorem Zno : Opn Try.prog 22 Zl.sl (fun x => (x.length ≤ maxLen ∧ ∀ e0 ∈ x, (Ze6 e0))) := Zf4 Try.underlying22 (by kernel_rfl) Znh (by decide)
theorem Zng : Opn Try.prog 23 Kd.str.sl (fun x => (x.length ≤ maxLen ∧ ∀ e0 ∈ x, (e0.size ≤ maxLen))) := Zf4 Try.underlying23 (by kernel_rfl) op_9 (by decide)
theorem Znd : Opn Try.prog 38 Kd.bool.sl (fun x => (x.length ≤ maxLen ∧ ∀ e0 ∈ x, True)) := Zf4 Try.underlying38 (by kernel_rfl) op_4 (by decide)
theorem LineFree_ret (os : Os) (started : os.Started) (H : Type) (enc : TypeId × Value → H) :
   ReturnsInHanded {} Try.checked os 4 .any (Go.Proofs.Ytbepodihebbahaa.Rows.lineFreeSpec.pre6 enc Try.prog Try.f4 Go.Proofs.Ytbepodihebbahaa.Rows.lineFreeRow.domain false) (Go.Proofs.Ytbepodihebbahaa.Rows.lineFreeSpec.post enc Try.prog Try.f4 false true false false) := by
 refine returnsInHanded_of_change (C := Try.checked) Zmi started (by kernel_rfl) Try.func4
   (ChangeSpec.witness6 (enc := enc) (C := Try.checked) false ⟨#[], #[.slice none 0 0, .slice none 0 0, .slice none 0 0], []⟩ 8 (by kernel_rfl) (by kernel_rfl) (by kernel_rfl) (by kernel_rfl)) ?_
 intro W base args ds gs before hval0 hW hcnd _
 have hval : ∀ (j : Nat) t v, Try.f4.params[j]? = some t → args[j]? = some v → Value.okWide Try.prog W .any base t v := hval0
 have hW' := hW
 obtain ⟨p, q, hA0, hV, rfl, hfz, hnd⟩ := hW
 have hA : DataW.TrodAll enc Try.prog W 0 (fun _ => true) true Try.f4.params.toList args.toList ds p := hA0
 rw [Try.params4] at hA hval
 obtain ⟨v0, v1, v2, d0, d1, d2, p0, p1, p2, rfl, rfl, rfl, h0, h1, h2⟩ := trodAll_three hA
 obtain ⟨rfl, rfl⟩ := trodVars_none hV
 simp only [List.append_nil] at hW'
 have hg : GLok W (fun b _ => b < W.heap.size) := (Zld rfl W _)
 have hk0 := h0
 obtain ⟨a0, q0, w0⟩ := Zic Zno hg h0 (hval 0 22 v0 rfl rfl)
 have hk1 := h1
 obtain ⟨a1, q1, w1⟩ := Zic Zng hg h1 (hval 1 23 v1 rfl rfl)
 have hk2 := h2
 obtain ⟨a2, q2, w2⟩ := Zic Znd hg h2 (hval 2 38 v2 rfl rfl)
 refine (Zez a0 a1 a2 (LineFree_true a0 a1 a2 w0 w1 w2) (GW W hg) [v0, v1, v2] (Zco q0 (Zco q1 (Zco q2 Zfr)))).mono fun e W' ⟨g', v, he, hw, hs, hq⟩ => ?_
 subst he; subst hw
 rw [Zcd.1 hq]
 have hbel := Zlp hs
 have hlt : ∀ x ∈ (p0 ++ p1 ++ p2), x.block < W.heap.size := fun x hx => by simpa using hW'.lt x hx
 exact ⟨_, rfl, Zhy (pv := []) hW' hbel (trodAll_mk1 (shut_bool Try.underlying4 true)) (trodAll_mk3 (Below.trod Zgq (by kernel_rfl) (of_decide_eq_true (by kernel_rfl)) hk0 hbel (fun x hx => hlt x (by simp [hx]))) (Below.trod Zgq (by kernel_rfl) (of_decide_eq_true (by kernel_rfl)) hk1 hbel (fun x hx => hlt x (by simp [hx]))) (Below.trod Zgq (by kernel_rfl) (of_decide_eq_true (by kernel_rfl)) hk2 hbel (fun x hx => hlt x (by simp [hx])))) rfl⟩
theorem LineFree_holds : Go.Proofs.Ytbepodihebbahaa.Rows.LineFreeSaid :=
 OpenClaim.holds_of_wide 4 Try.f4 rfl rfl rfl rfl rfl rfl rfl ⟨rfl, rfl, rfl, rfl, rfl⟩ rfl rfl rfl rfl rfl (by kernel_rfl) Try.func4 (by kernel_rfl)
   (of_decide_eq_true (by kernel_rfl)) (by unfold Func.isWrapper; first | (rw [if_pos (by decide +kernel)]; kernel_rfl) | (rw [if_neg (by decide +kernel)]; exact ⟨rfl, rfl⟩))
   (fun os started H enc _ => LineFree_ret os started H enc)
end Go.CL
