/- A part of the proof of LineKeeps. -/
import Derived.Test.YtbepodihebbahaaLineKeepsC2
import Derived.Laws.Strings
import Derived.Test.YtbepodihebbahaaRows
set_option linter.unusedVariables false
set_option linter.unusedSimpArgs false
set_option maxRecDepth 100000
namespace Go.CL
open Go Go.RowKit Go.Proofs
theorem Zf1 {r : Bool} (h : Zdf = some r) : FnOk Try.prog 7 [] (Zp r) := by
 have H0 := h
 unfold Zdf at H0
 clear h
 refine Zb1 (N := 70) Try.func7 rfl rfl (Nat.le_of_ble_eq_true rfl) rfl rfl (fun a g0 hst hb => ?_)
 refine r_s (T := [⟨[], _, [], [], [0]⟩]) (F := []) hst hb Zb
   (o_p rfl (Zc rfl rfl c_b) <| o_n) (by kernel_rfl) (fun a g hst hb => ?_)
 refine r_s (T := [⟨[], _, [], [], [4]⟩, ⟨[.op 0 0], _, [], [0], [5]⟩, ⟨[.op 1 0], _, [], [0, 1], [6]⟩, ⟨[], [(1, (pBox Zg 1 (default : Ze)))], [2], [], [1]⟩, ⟨[.op 2 0, .op 3 0], _, [2], Lr 4, [1]⟩]) (F := [.op 4 0]) hst hb Zb
   (o_p rfl (Zjp rfl rfl c_i c_s c_i) <| o_p rfl (Zd3 Zn1 (xs := [.tmp 4]) (.cons u_0 .nil) (by decide) rfl rfl) <| o_p rfl (Zms rfl rfl u_0) <| o_p rfl (Zd7 (zs := [.slice none 0 0]) (by kernel_rfl) (fun g => Zha g) rfl rfl) <| o_p rfl (Zdp Zdm rfl rfl u_1 u_0) <| o_n) (by kernel_rfl) (fun a g hst hb => ?_)
 obtain ⟨r1, h2, H0⟩ := Zd H0
 refine r_s (T := [⟨[.old 0], _, [], [], [7]⟩, ⟨[.old 0], _, [], [], [8]⟩, ⟨[.op 0 0, .op 1 0], _, [], [0, 1], [9]⟩, ⟨[], _, [], [], [10]⟩, ⟨[.op 2 0, .op 3 0], [(11, (pObj Z6 11 r1))], [12, 1000012], Lr 4, [11]⟩, ⟨[.op 4 0], [(2, (pObj Z6 11 r1))], [], Lr 5, [2]⟩]) (F := [.old 0, .op 5 0]) hst hb Zb
   (o_p rfl (Zf Zdm rfl rfl u_0) <| o_p rfl (Zf Zdm rfl rfl u_0) <| o_p rfl (Zd3 Zml (xs := [.tmp 7, .tmp 8]) (.cons u_0 (.cons u_1 .nil)) (by decide) rfl rfl) <| o_p rfl (Zd3 Zc0 (xs := [.const (.int .i64 0), .const (.int .i64 1)]) (.cons c_i (.cons c_i .nil)) (by decide) rfl rfl) <| o_p rfl (Zge Zkq (Zfv _ _ _ h2) rfl rfl (.cons u_0 (.cons u_1 (.cons (Opd.c (fun g => Ze0 g)) .nil)))) <| o_p rfl (Zc rfl rfl u_0) <| o_n) (by kernel_rfl) (fun a g hst hb => ?_)
 obtain ⟨r3, h4, H0⟩ := Zd H0
 refine r_s (T := [⟨[.old 0], _, [], [], [12]⟩, ⟨[.old 0], _, [], [], [13]⟩, ⟨[.op 0 0, .op 1 0], _, [], [0, 1], [14]⟩, ⟨[], _, [], [], [15]⟩, ⟨[], _, [], [], [16]⟩, ⟨[.op 2 0, .op 3 0, .op 4 0], [(17, (pObj Z6 17 r3))], [18, 1000018], Lr 5, [17]⟩, ⟨[.op 5 0], [(3, (pObj Z6 17 r3))], [], Lr 6, [3]⟩]) (F := [.old 1, .op 6 0]) hst hb Zb
   (o_p rfl (Zf Zdm rfl rfl u_0) <| o_p rfl (Zf Zdm rfl rfl u_0) <| o_p rfl (Zd3 Zml (xs := [.tmp 12, .tmp 13]) (.cons u_0 (.cons u_1 .nil)) (by decide) rfl rfl) <| o_p rfl (Zd3 Zc0 (xs := [.const (.int .i64 0), .const (.int .i64 1)]) (.cons c_i (.cons c_i .nil)) (by decide) rfl rfl) <| o_p rfl (Zd3 Zok (xs := [.const (.string ⟨#[97]⟩)]) (.cons c_s .nil) (by decide) rfl rfl) <| o_p rfl (Zge Zkq (Zfv _ _ _ h4) rfl rfl (.cons u_0 (.cons u_1 (.cons u_2 .nil)))) <| o_p rfl (Zc rfl rfl u_0) <| o_n) (by kernel_rfl) (fun a g hst hb => ?_)
 refine wp_seq ?_
 obtain ⟨r5, h6, H0⟩ := Zd H0
 refine r_s (T := [⟨[.old 0], [(18, (pObj Z6 11 r1))], [], [], [18]⟩, ⟨[.op 0 0], _, [], [0], [19]⟩, ⟨[.op 1 0], _, [], [0, 1], [20]⟩, ⟨[.op 2 0, .old 1], [(21, (pIf (!false) (pObj Z6 17 r3)))], [], [0, 1, 2], [21]⟩, ⟨[.op 2 0, .op 3 0], _, [], Lr 4, [22]⟩, ⟨[.op 2 0, .op 4 0], _, [], Lr 5, [23]⟩, ⟨[.op 5 0], _, [], Lr 6, [24]⟩, ⟨[.op 6 0, .old 0], [(25, (pIf (!(false || false)) (pObj Z6 11 r1)))], [], Lr 7, [25]⟩, ⟨[.op 6 0, .op 7 0, .old 0], [(26, (pIf (!(false || false)) (pInt .i64 r5))), (2, (pObj Z6 11 r1))], [12, 1000012], Lr 8, [2, 18, 25, 26]⟩, ⟨[.op 6 0, .op 8 0], _, [], Lr 9, [27]⟩, ⟨[.op 6 0, .op 9 0], _, [], Lr 10, [28]⟩]) (F := [.op 8 1, .old 1, .op 10 0]) hst hb Zb
   (o_p rfl (Za rfl rfl u_0) <| o_p rfl (Zle Try.underlying28 rfl rfl u_0 Zj0) <| o_p rfl (Za rfl rfl u_0) <| o_g (g_f rfl rfl rfl (fun hG => Za rfl rfl u_0)) <| o_g (g_f rfl rfl rfl (fun hG => Zle Try.underlying28 rfl rfl (Opd.gd hG u_0) Zj0)) <| o_p rfl (Zb0 rfl rfl u_0 (fun hz => (Opd.gd (bNF hz) u_1))) <| o_p rfl (Za rfl rfl u_0) <| o_g (g_f rfl rfl rfl (fun hG => Za rfl rfl u_0)) <| o_g (OT.guardM (!(false || false)) (gF (false || false)).1 (gF (false || false)).2 rfl rfl rfl (by decide) u_1 (fun hG => Zcw Zkt (Zeg _ (Zbh h6 hG)) rfl rfl rfl (by decide) u_1 (Opd.gd hG u_0) .nil) (ite_self _).symm) <| o_g (g_f rfl rfl rfl (fun hG => Zhr rfl rfl (Opd.gd hG u_0) c_i)) <| o_p rfl (Zb0 rfl rfl u_0 (fun hz => (Opd.gd (bNF hz) u_1))) <| o_n) (by kernel_rfl) (fun a g hst hb => ?_)
 refine wp_cond_split (hst.bool 2 rfl) (fun hc7 => ?_) (fun hc7 => ?_)
 · replace H0 := Z2 hc7 H0
   refine r_s (L := []) (T := [⟨[], _, [], [], [0]⟩]) (F := [.op 0 0]) (hst.pick [] rfl) hb Zb
     (o_p rfl (Zc rfl rfl c_b) <| o_n) (by kernel_rfl) (fun a g hst hb => ?_)
   refine wp_ret ?_
   refine Zh ?_
   obtain rfl := Option.some.inj H0
   exact Z7 rfl hst hb (Zl (s := 0)) (hst.at 0 rfl)
 · replace H0 := Z0 hc7 H0
   refine wp_skip ?_
   refine Zj ?_
   obtain ⟨r8, h9, H0⟩ := Zd H0; obtain ⟨r10, h11, H0⟩ := Zd H0; obtain ⟨r12, h13, H0⟩ := Zd H0; obtain ⟨r14, h15, H0⟩ := Zd H0; obtain ⟨r16, h17, H0⟩ := Zd H0; obtain ⟨r18, h19, H0⟩ := Zd H0; obtain ⟨r20, h21, H0⟩ := Zd H0; obtain ⟨r22, h23, H0⟩ := Zd H0; obtain ⟨r24, h25, H0⟩ := Zd H0; obtain ⟨r26, h27, H0⟩ := Zd H0
   refine r_s (L := [(2, _), (3, _)]) (T := ⟨[.old 0], [(29, (pObj Z6 11 r1))], [], [], [29]⟩ :: ⟨[.op 0 0, .old 0], [(30, (Zp r8)), (2, (pObj Z6 11 r1))], [12, 1000012], [0], [2, 29, 30]⟩ :: ⟨[.op 1 0], _, [], [0, 1], [31]⟩ :: ⟨[.op 2 0, .op 1 1], [(32, (pIf r8 (pObj Z6 11 r1)))], [], [0, 1, 2], [32]⟩ :: ⟨[.op 2 0, .op 3 0, .op 1 1], [(33, (pIf r8 (Zp r10))), (2, (pObj Z6 11 r1))], [12, 1000012], Lr 4, [2, 29, 32, 33]⟩ :: ⟨[.op 2 0, .op 4 0], _, [], Lr 5, [34]⟩ :: ⟨[.op 2 0, .op 5 0], _, [], Lr 6, [35]⟩ :: ⟨[.op 6 0], _, [], Lr 7, [36]⟩ :: ⟨[.op 7 0, .op 4 1], [(37, (pIf (r8 && (!r10)) (pObj Z6 11 r1)))], [], Lr 8, [37]⟩ :: ⟨[.op 7 0, .op 8 0, .op 4 1], [(38, (pIf (r8 && (!r10)) ((Kd.int .i64).sl.pd r12))), (2, (pObj Z6 11 r1))], [12, 1000012], Lr 9, [2, 29, 32, 37, 38]⟩ :: ⟨[.op 7 0], _, [], Lr 8, [39]⟩ :: ⟨[.op 7 0, .op 9 0, .op 10 0], _, [], Lr 11, [40]⟩ :: ⟨[.op 7 0, .op 11 0], _, [], Lr 12, [41]⟩ :: ⟨[.op 12 0], _, [], Lr 13, [42]⟩ :: ⟨[.op 13 0, .old 1], [(43, (pIf ((r8 && (!r10)) && r14) (pObj Z6 17 r3)))], [], Lr 14, [43]⟩ :: ⟨[.op 13 0, .op 14 0, .old 1], [(44, (pIf ((r8 && (!r10)) && r14) (Zp r16))), (3, (pObj Z6 17 r3))], [18, 1000018], Lr 15, [3, 43, 44]⟩ :: ⟨[.op 13 0, .op 15 0], _, [], Lr 16, [45]⟩ :: ⟨[.op 16 0], _, [], Lr 17, [46]⟩ :: ⟨[.op 17 0, .op 9 1], [(47, (pIf (((r8 && (!r10)) && r14) && r16) (pObj Z6 11 r1)))], [], Lr 18, [47]⟩ :: ⟨[.op 17 0, .op 18 0, .op 9 1], [(48, (pIf (((r8 && (!r10)) && r14) && r16) (Zp r18.2))), (2, (pObj Z6 11 (if (((r8 && (!r10)) && r14) && r16) = true then r18.1 else r1)))], [12, 1000012], Lr 19, [2, 29, 32, 37, 47, 48]⟩ :: ⟨[.op 17 0, .op 19 0], _, [], Lr 20, [49]⟩ :: ⟨[.op 17 0, .op 20 0], _, [], Lr 21, [50]⟩ :: ⟨[.op 21 0], _, [], Lr 22, [51]⟩ :: ⟨[.op 22 0, .op 19 1], [(52, (pIf ((((r8 && (!r10)) && r14) && r16) && (!r18.2)) (pObj Z6 11 (if (((r8 && (!r10)) && r14) && r16) = true then r18.1 else r1))))], [], Lr 23, [52]⟩ :: ⟨[.op 22 0, .op 23 0, .op 19 1], [(53, (pIf ((((r8 && (!r10)) && r14) && r16) && (!r18.2)) (Zp r20.2))), (2, (pObj Z6 11 (if ((((r8 && (!r10)) && r14) && r16) && (!r18.2)) = true then r20.1 else (if (((r8 && (!r10)) && r14) && r16) = true then r18.1 else r1))))], [12, 1000012], Lr 24, [2, 29, 32, 37, 47, 52, 53]⟩ :: ⟨[.op 22 0, .op 24 0], _, [], Lr 25, [54]⟩ :: ⟨[.op 25 0], _, [], Lr 26, [55]⟩ :: ⟨[.op 26 0, .op 24 1], [(56, (pIf (((((r8 && (!r10)) && r14) && r16) && (!r18.2)) && r20.2) (pObj Z6 11 (if ((((r8 && (!r10)) && r14) && r16) && (!r18.2)) = true then r20.1 else (if (((r8 && (!r10)) && r14) && r16) = true then r18.1 else r1)))))], [], Lr 27, [56]⟩ :: ⟨[.op 26 0, .op 27 0, .op 24 1], [(57, (pIf (((((r8 && (!r10)) && r14) && r16) && (!r18.2)) && r20.2) (Zp r22.2))), (2, (pObj Z6 11 (if (((((r8 && (!r10)) && r14) && r16) && (!r18.2)) && r20.2) = true then r22.1 else (if ((((r8 && (!r10)) && r14) && r16) && (!r18.2)) = true then r20.1 else (if (((r8 && (!r10)) && r14) && r16) = true then r18.1 else r1)))))], [12, 1000012], Lr 28, [2, 29, 32, 37, 47, 52, 56, 57]⟩ :: ⟨[.op 26 0, .op 28 0], _, [], Lr 29, [58]⟩ :: ⟨[.op 29 0], _, [], Lr 30, [59]⟩ :: ⟨[.op 30 0, .op 28 1], [(60, (pIf ((((((r8 && (!r10)) && r14) && r16) && (!r18.2)) && r20.2) && r22.2) (pObj Z6 11 (if (((((r8 && (!r10)) && r14) && r16) && (!r18.2)) && r20.2) = true then r22.1 else (if ((((r8 && (!r10)) && r14) && r16) && (!r18.2)) = true then r20.1 else (if (((r8 && (!r10)) && r14) && r16) = true then r18.1 else r1))))))], [], Lr 31, [60]⟩ :: ⟨[.op 30 0, .op 31 0, .op 28 1], [(61, (pIf ((((((r8 && (!r10)) && r14) && r16) && (!r18.2)) && r20.2) && r22.2) (pInt .i64 r24))), (2, (pObj Z6 11 (if (((((r8 && (!r10)) && r14) && r16) && (!r18.2)) && r20.2) = true then r22.1 else (if ((((r8 && (!r10)) && r14) && r16) && (!r18.2)) = true then r20.1 else (if (((r8 && (!r10)) && r14) && r16) = true then r18.1 else r1)))))], [12, 1000012], Lr 32, [2, 29, 32, 37, 47, 52, 56, 60, 61]⟩ :: ⟨[.op 30 0, .op 32 0], _, [], Lr 33, [62]⟩ :: ⟨[.op 30 0, .op 33 0], _, [], Lr 34, [63]⟩ :: ⟨[.op 34 0], _, [], Lr 35, [64]⟩ :: ⟨[.op 35 0, .op 32 1], [(65, (pIf (((((((r8 && (!r10)) && r14) && r16) && (!r18.2)) && r20.2) && r22.2) && (r24 == (0 : Int))) (pObj Z6 11 (if (((((r8 && (!r10)) && r14) && r16) && (!r18.2)) && r20.2) = true then r22.1 else (if ((((r8 && (!r10)) && r14) && r16) && (!r18.2)) = true then r20.1 else (if (((r8 && (!r10)) && r14) && r16) = true then r18.1 else r1))))))], [], Lr 36, [65]⟩ :: ⟨[.op 35 0, .op 36 0, .op 32 1], [(66, (pIf (((((((r8 && (!r10)) && r14) && r16) && (!r18.2)) && r20.2) && r22.2) && (r24 == (0 : Int))) ((Kd.int .i64).sl.pd r26))), (2, (pObj Z6 11 (if (((((r8 && (!r10)) && r14) && r16) && (!r18.2)) && r20.2) = true then r22.1 else (if ((((r8 && (!r10)) && r14) && r16) && (!r18.2)) = true then r20.1 else (if (((r8 && (!r10)) && r14) && r16) = true then r18.1 else r1)))))], [12, 1000012], Lr 37, [2, 29, 32, 37, 47, 52, 56, 60, 65, 66]⟩ :: ⟨[.op 35 0, .op 37 0], _, [], Lr 38, [67]⟩ :: ⟨[.op 35 0, .op 38 0], _, [], Lr 39, [68]⟩ :: ⟨[.op 35 0, .op 39 0], _, [], Lr 40, [69]⟩ :: ⟨[.op 40 0], _, [], Lr 41, [0]⟩ :: []) (F := [.op 41 0]) (hst.pick [0, 1] rfl) hb Zb
     (o_p rfl (Za rfl rfl u_0) <| o_p rfl (Zcw Zio (Zea _ _ h9) rfl rfl rfl (by decide) u_1 u_0 (.cons c_i .nil)) <| o_p rfl (Za rfl rfl u_0) <| o_g (g_t rfl rfl rfl (fun hG => Za rfl rfl u_0)) <| o_g (OT.guardM r8 (gT r8).1 (gT r8).2 rfl rfl rfl (by decide) u_1 (fun hG => Zcw Zio (Zea _ _ (Zbh h11 hG)) rfl rfl rfl (by decide) u_1 (Opd.gd hG u_0) (.cons c_i .nil)) (ite_self _).symm) <| o_g (g_t rfl rfl rfl (fun hG => Zds rfl rfl (Opd.gd hG u_0))) <| o_p rfl (Zb6 rfl rfl u_0 (fun hz => (Opd.gd hz u_1))) <| o_p rfl (Za rfl rfl u_0) <| o_g (g_t rfl rfl rfl (fun hG => Za rfl rfl u_0)) <| o_g (OT.guardM (r8 && (!r10)) (gT (r8 && (!r10))).1 (gT (r8 && (!r10))).2 rfl rfl rfl (by decide) u_1 (fun hG => Zcw Zkj (Ze8 _ _ (Zbh h13 hG)) rfl rfl rfl (by decide) u_1 (Opd.gd hG u_0) (.cons c_i .nil)) (ite_self _).symm) <| o_g (g_t rfl rfl rfl (fun hG => Zd3 Zc0 (xs := [.const (.int .i64 0)]) (.cons c_i .nil) (by decide) rfl rfl)) <| o_g (g_t rfl rfl rfl (fun hG => Zbc Znn (Zgn _ _ (Zbh h15 hG)) rfl rfl (.cons (Opd.gd hG u_0) (.cons (Opd.gd hG u_1) .nil)))) <| o_p rfl (Zb6 rfl rfl u_0 (fun hz => (Opd.gd hz u_1))) <| o_p rfl (Za rfl rfl u_0) <| o_g (g_t rfl rfl rfl (fun hG => Za rfl rfl u_0)) <| o_g (OT.guardM ((r8 && (!r10)) && r14) (gT ((r8 && (!r10)) && r14)).1 (gT ((r8 && (!r10)) && r14)).2 rfl rfl rfl (by decide) u_1 (fun hG => Zcw Zio (Zea _ _ (Zbh h17 hG)) rfl rfl rfl (by decide) u_1 (Opd.gd hG u_0) (.cons c_i .nil)) (ite_self _).symm) <| o_p rfl (Zb6 rfl rfl u_0 (fun hz => (Opd.gd hz u_1))) <| o_p rfl (Za rfl rfl u_0) <| o_g (g_t rfl rfl rfl (fun hG => Za rfl rfl u_0)) <| o_g (OT.guardM (((r8 && (!r10)) && r14) && r16) (gT (((r8 && (!r10)) && r14) && r16)).1 (gT (((r8 && (!r10)) && r14) && r16)).2 rfl rfl rfl (by decide) u_1 (fun hG => Zcw Zip (Zdl _ _ (Zbh h19 hG)) rfl rfl rfl (by decide) u_1 (Opd.gd hG u_0) (.cons c_i .nil)) rfl) <| o_g (g_t rfl rfl rfl (fun hG => Zds rfl rfl (Opd.gd hG u_0))) <| o_p rfl (Zb6 rfl rfl u_0 (fun hz => (Opd.gd hz u_1))) <| o_p rfl (Za rfl rfl u_0) <| o_g (g_t rfl rfl rfl (fun hG => Za rfl rfl u_0)) <| o_g (OT.guardM ((((r8 && (!r10)) && r14) && r16) && (!r18.2)) (gT ((((r8 && (!r10)) && r14) && r16) && (!r18.2))).1 (gT ((((r8 && (!r10)) && r14) && r16) && (!r18.2))).2 rfl rfl rfl (by decide) u_1 (fun hG => Zcw Zip (Zdl _ _ (Zbh h21 hG)) rfl rfl rfl (by decide) u_1 (Opd.gd hG u_0) (.cons c_i .nil)) rfl) <| o_p rfl (Zb6 rfl rfl u_0 (fun hz => (Opd.gd hz u_1))) <| o_p rfl (Za rfl rfl u_0) <| o_g (g_t rfl rfl rfl (fun hG => Za rfl rfl u_0)) <| o_g (OT.guardM (((((r8 && (!r10)) && r14) && r16) && (!r18.2)) && r20.2) (gT (((((r8 && (!r10)) && r14) && r16) && (!r18.2)) && r20.2)).1 (gT (((((r8 && (!r10)) && r14) && r16) && (!r18.2)) && r20.2)).2 rfl rfl rfl (by decide) u_1 (fun hG => Zcw Zip (Zdl _ _ (Zbh h23 hG)) rfl rfl rfl (by decide) u_1 (Opd.gd hG u_0) (.cons c_i .nil)) rfl) <| o_p rfl (Zb6 rfl rfl u_0 (fun hz => (Opd.gd hz u_1))) <| o_p rfl (Za rfl rfl u_0) <| o_g (g_t rfl rfl rfl (fun hG => Za rfl rfl u_0)) <| o_g (OT.guardM ((((((r8 && (!r10)) && r14) && r16) && (!r18.2)) && r20.2) && r22.2) (gT ((((((r8 && (!r10)) && r14) && r16) && (!r18.2)) && r20.2) && r22.2)).1 (gT ((((((r8 && (!r10)) && r14) && r16) && (!r18.2)) && r20.2) && r22.2)).2 rfl rfl rfl (by decide) u_1 (fun hG => Zcw Zkt (Zeg _ (Zbh h25 hG)) rfl rfl rfl (by decide) u_1 (Opd.gd hG u_0) .nil) (ite_self _).symm) <| o_g (g_t rfl rfl rfl (fun hG => Zcq rfl rfl (Opd.gd hG u_0) c_i)) <| o_p rfl (Zb6 rfl rfl u_0 (fun hz => (Opd.gd hz u_1))) <| o_p rfl (Za rfl rfl u_0) <| o_g (g_t rfl rfl rfl (fun hG => Za rfl rfl u_0)) <| o_g (OT.guardM (((((((r8 && (!r10)) && r14) && r16) && (!r18.2)) && r20.2) && r22.2) && (r24 == (0 : Int))) (gT (((((((r8 && (!r10)) && r14) && r16) && (!r18.2)) && r20.2) && r22.2) && (r24 == (0 : Int)))).1 (gT (((((((r8 && (!r10)) && r14) && r16) && (!r18.2)) && r20.2) && r22.2) && (r24 == (0 : Int)))).2 rfl rfl rfl (by decide) u_1 (fun hG => Zcw Zkj (Ze8 _ _ (Zbh h27 hG)) rfl rfl rfl (by decide) u_1 (Opd.gd hG u_0) (.cons c_i .nil)) (ite_self _).symm) <| o_g (g_t rfl rfl rfl (fun hG => Z5 Try.underlying24 rfl rfl (Opd.gd hG u_0))) <| o_g (g_t rfl rfl rfl (fun hG => Zcq rfl rfl (Opd.gd hG u_0) c_i)) <| o_p rfl (Zb6 rfl rfl u_0 (fun hz => (Opd.gd hz u_1))) <| o_p rfl (Zc rfl rfl u_0) <| o_n) (by kernel_rfl) (fun a g hst hb => ?_)
   refine wp_ret ?_
   obtain rfl := Option.some.inj H0
   exact Z7 rfl hst hb (Zl (s := 0)) (hst.at 0 rfl)
theorem Zgy (a0 : Z1) {r : Int} (h : Zdi a0 = some r) : FnOk Try.prog 35 [(Zci.pd a0)] (pInt .i64 r) := by
 have H0 := h
 unfold Zdi at H0
 clear h
 refine Zb1 (N := 27) Try.func35 rfl rfl (Nat.le_of_ble_eq_true rfl) rfl rfl (fun a g0 hst hb => ?_)
 refine r_s (T := [⟨[.old 0], _, [], [], [1]⟩, ⟨[], _, [], [], [2]⟩]) (F := [.op 0 0]) hst hb Zb
   (o_p rfl (Zdn rfl rfl u_0) <| o_p rfl (Zc rfl rfl c_i) <| o_n) (by kernel_rfl) (fun a g hst hb => ?_)
 refine wp_seq ?_
 refine r_s (T := [⟨[.old 0], _, [], [], [5]⟩, ⟨[.op 0 0], _, [], [0], [6]⟩, ⟨[.op 1 0], _, [], [0, 1], [7]⟩, ⟨[.op 2 0], _, [], [0, 1, 2], [8]⟩, ⟨[.op 3 0], _, [], Lr 4, [9]⟩, ⟨[.op 4 0, .old 0], _, [], Lr 5, [10]⟩, ⟨[.op 4 0, .op 5 0], _, [], Lr 6, [11]⟩, ⟨[.op 4 0, .op 6 0], _, [], Lr 7, [12]⟩, ⟨[.op 4 0, .op 7 0], _, [], Lr 8, [13]⟩, ⟨[.op 4 0, .op 8 0], _, [], Lr 9, [14]⟩]) (F := [.old 0, .op 9 0]) hst hb Zb
   (o_p rfl (Zi Zj2 rfl rfl u_0) <| o_p rfl (Zf Zmh rfl rfl u_0) <| o_p rfl (Z5 Try.underlying45 rfl rfl u_0) <| o_p rfl (Zec rfl rfl u_0 c_i) <| o_p rfl (Za rfl rfl u_0) <| o_g (g_f rfl rfl rfl (fun hG => Zi Znc rfl rfl u_0)) <| o_g (g_f rfl rfl rfl (fun hG => Zf ty_9 rfl rfl (Opd.gd hG u_0))) <| o_g (g_f rfl rfl rfl (fun hG => Zg7 Try.underlying9 rfl rfl (Opd.gd hG u_0))) <| o_g (g_f rfl rfl rfl (fun hG => Zec rfl rfl (Opd.gd hG u_0) c_i)) <| o_p rfl (Zb0 rfl rfl u_0 (fun hz => (Opd.gd (bNF hz) u_1))) <| o_n) (by kernel_rfl) (fun a g hst hb => ?_)
 refine wp_cond_split (hst.bool 1 rfl) (fun hc1 => ?_) (fun hc1 => ?_)
 · replace H0 := Z2 hc1 H0
   refine r_s (L := []) (T := [⟨[], _, [], [], [2]⟩]) (F := [.op 0 0]) (hst.pick [] rfl) hb Zb
     (o_p rfl (Zc rfl rfl c_i) <| o_n) (by kernel_rfl) (fun a g hst hb => ?_)
   refine wp_ret ?_
   refine Zh ?_
   obtain rfl := Option.some.inj H0
   exact Z7 rfl hst hb (Zl (s := 2)) (hst.at 0 rfl)
 · replace H0 := Z0 hc1 H0
   refine wp_skip ?_
   refine Zj ?_
   refine wp_seq ?_
   refine r_s (L := [(1, _)]) (T := [⟨[.old 0], _, [], [], [15]⟩, ⟨[.op 0 0], _, [], [0], [16]⟩, ⟨[.op 1 0], _, [], [0, 1], [17]⟩, ⟨[], _, [], [], [18]⟩]) (F := [.op 1 0, .op 2 0, .op 3 0]) (hst.pick [0] rfl) hb Zb
     (o_p rfl (Zi Zj2 rfl rfl u_0) <| o_p rfl (Zf Zmh rfl rfl u_0) <| o_p rfl (Z5 Try.underlying45 rfl rfl u_0) <| o_p rfl (Za rfl rfl c_i) <| o_n) (by kernel_rfl) (fun a g hst hb => ?_)
   obtain ⟨z7, hz1, H0⟩ := Zd H0
   refine Zbm (fun a w => ∃ (g : G), w = g.w ∧ St 27 [] a g ∧ Base g0 g ∧ (.inr ()) = z7) ?_ ?_
   · rintro a w ⟨g, rfl, hst, hb, rfl⟩
     refine Zj ?_
     refine r_s (T := [⟨[], _, [], [], [2]⟩]) (F := [.op 0 0]) hst hb Zb
       (o_p rfl (Zc rfl rfl c_i) <| o_n) (by kernel_rfl) (fun a g hst hb => ?_)
     refine wp_ret ?_
     obtain rfl := Option.some.inj H0
     exact Z7 rfl hst hb (Zl (s := 2)) (hst.at 0 rfl)
   · refine wp_block ?_
     refine wp_loop_ghost (fun n a w => ∃ (x2 : Int) (g : G), w = g.w ∧ St 27 [(16, (Zb3.sl.pd a0.List)), (17, (pInt .i64 (a0.List.length : Int))), (18, (pInt .i64 x2))] a g ∧ Base g0 g ∧ Zbp a0 n x2 = some z7) (Int.toNat ((a0.List.length : Int) - (0 : Int)) + 1) ⟨(0 : Int), g, rfl, (hst.pick [0, 1, 2] rfl), hb, hz1⟩ (fun n a w hI => ?_)
     obtain ⟨x2, g, rfl, hst, hb, H1⟩ := hI
     cases n with
     | zero => exact absurd H1 (by simp [Zbp])
     | succ n =>
       rw [Zbp] at H1
       refine r_s (T := [⟨[.old 2, .old 1], _, [], [], [19]⟩]) (F := [.old 0, .old 1, .old 2, .op 0 0]) hst hb Zb
         (o_p rfl (Zce rfl rfl u_0 u_1) <| o_n) (by kernel_rfl) (fun a g hst hb => ?_)
       refine wp_seq ?_
       refine wp_cond_split (hst.bool 3 rfl) (fun hc3 => ?_) (fun hc3 => ?_)
       · replace H1 := Z2 hc3 H1
         refine wp_skip ?_
         refine Zj ?_
         refine wp_seq ?_
         refine wp_block ?_
         obtain ⟨e4, h5, H1⟩ := Zd H1
         refine r_s (L := [(16, _), (17, _), (18, _)]) (T := [⟨[.old 0, .old 2], _, [], [], [20]⟩, ⟨[.op 0 0], _, [], [0], [21]⟩, ⟨[], [(4, (pBox Zb3 4 (default : Zdk)))], [5], [], [4]⟩, ⟨[.op 1 0, .op 2 0], _, [5], [0, 1, 2], [4]⟩]) (F := [.op 3 0, .old 0, .old 1, .old 2]) (hst.pick [0, 1, 2] rfl) hb Zb
           (o_p rfl (Zq Try.underlying45 Zno rfl rfl u_0 u_1 h5) <| o_p rfl (Zf Zme rfl rfl u_0) <| o_p rfl (Zd7 (zs := [.float .f64 0, .string ByteArray.empty]) (by kernel_rfl) (fun g => Zjq g) rfl rfl) <| o_p rfl (Zdp Zme rfl rfl u_1 u_0) <| o_n) (by kernel_rfl) (fun a g hst hb => ?_)
         refine r_s (T := [⟨[.old 0], _, [], [], [22]⟩, ⟨[.op 0 0], _, [], [0], [23]⟩, ⟨[.op 1 0], _, [], [0, 1], [24]⟩, ⟨[.op 2 0], _, [], [0, 1, 2], [25]⟩]) (F := [.old 1, .old 2, .old 3, .op 3 0]) hst hb Zb
           (o_p rfl (Zi Znd rfl rfl u_0) <| o_p rfl (Zf ty_9 rfl rfl u_0) <| o_p rfl (Zg7 Try.underlying9 rfl rfl u_0) <| o_p rfl (Zec rfl rfl u_0 c_i) <| o_n) (by kernel_rfl) (fun a g hst hb => ?_)
         refine wp_cond_split (hst.bool 3 rfl) (fun hc6 => ?_) (fun hc6 => ?_)
         · replace H1 := Z2 hc6 H1
           refine r_s (L := []) (T := [⟨[], _, [], [], [2]⟩]) (F := [.op 0 0]) (hst.pick [] rfl) hb Zb
             (o_p rfl (Zc rfl rfl c_i) <| o_n) (by kernel_rfl) (fun a g hst hb => ?_)
           refine wp_ret ?_
           refine Zt ?_
           refine Zh ?_
           refine Zh ?_
           refine Zt ?_
           refine Zh ?_
           refine Zh ?_
           obtain rfl := Option.some.inj H1
           obtain rfl := Option.some.inj H0
           exact Z7 rfl hst hb (Zl (s := 2)) (hst.at 0 rfl)
         · replace H1 := Z0 hc6 H1
           refine wp_skip ?_
           refine Z4 ?_
           refine Zj ?_
           refine r_g (L := [(16, _), (17, _), (18, _)]) (T := [⟨[.old 2], _, [], [], [26]⟩, ⟨[.op 0 0], _, [], [0], [18]⟩]) (F := [.old 0, .old 1, .op 1 0]) (hst.pick [0, 1, 2] rfl) hb Zb
             (o_p rfl (Zbw rfl rfl u_0 c_i rfl) <| o_p rfl (Za rfl rfl u_0) <| o_n) (by kernel_rfl) (fun a g hst hb => ?_)
           exact ⟨n, Nat.lt_succ_self _, (IntKind.i64.wrap (x2 + (1 : Int))), g, rfl, (hst.pick [0, 1, 2] rfl), hb, H1⟩
       · replace H1 := Z0 hc3 H1
         refine wp_exit ?_
         refine Zz ?_
         refine Zz ?_
         refine Zbb ?_
         exact ⟨g, rfl, (hst.pick [] rfl), hb, Option.some.inj H1⟩
theorem Zgs (a0 : Zm) {r : Int} (h : Zct a0 = some r) : FnOk Try.prog 29 [(Zr.pd a0)] (pInt .i64 r) := by
 have H0 := h
 unfold Zct at H0
 clear h
 refine Zb1 (N := 19) Try.func29 rfl rfl (Nat.le_of_ble_eq_true rfl) rfl rfl (fun a g0 hst hb => ?_)
 refine r_s (T := [⟨[.old 0], _, [], [], [1]⟩, ⟨[], _, [], [], [2]⟩]) (F := [.op 0 0]) hst hb Zb
   (o_p rfl (Zdn rfl rfl u_0) <| o_p rfl (Zc rfl rfl c_i) <| o_n) (by kernel_rfl) (fun a g hst hb => ?_)
 refine wp_seq ?_
 obtain ⟨r1, h2, H0⟩ := Zd H0
 refine r_s (T := ⟨[.old 0], _, [], [], [3]⟩ :: ⟨[.op 0 0], _, [], [0], [4]⟩ :: ⟨[.op 1 0], _, [], [0, 1], [5]⟩ :: ⟨[.op 2 0], _, [], [0, 1, 2], [6]⟩ :: ⟨[.op 3 0], _, [], Lr 4, [7]⟩ :: ⟨[.op 4 0, .old 0], _, [], Lr 5, [8]⟩ :: ⟨[.op 4 0, .op 5 0], _, [], Lr 6, [9]⟩ :: ⟨[.op 4 0, .op 6 0], _, [], Lr 7, [10]⟩ :: ⟨[.op 4 0, .op 7 0], _, [], Lr 8, [11]⟩ :: ⟨[.op 4 0, .op 8 0], _, [], Lr 9, [12]⟩ :: ⟨[.op 9 0], _, [], Lr 10, [13]⟩ :: ⟨[.op 10 0, .old 0], _, [], Lr 11, [14]⟩ :: ⟨[.op 10 0, .op 11 0], _, [], Lr 12, [15]⟩ :: ⟨[.op 10 0, .op 12 0], _, [], Lr 13, [16]⟩ :: ⟨[.op 10 0, .op 13 0], _, [], Lr 14, [17]⟩ :: ⟨[.op 10 0, .op 14 0], _, [], Lr 15, [18]⟩ :: []) (F := [.op 15 0]) hst hb Zb
   (o_p rfl (Zi Ze1 rfl rfl u_0) <| o_p rfl (Zf ty_9 rfl rfl u_0) <| o_p rfl (Zg7 Try.underlying9 rfl rfl u_0) <| o_p rfl (Zec rfl rfl u_0 c_i) <| o_p rfl (Za rfl rfl u_0) <| o_g (g_f rfl rfl rfl (fun hG => Zi Znb rfl rfl u_0)) <| o_g (g_f rfl rfl rfl (fun hG => Zf ty_9 rfl rfl (Opd.gd hG u_0))) <| o_g (g_f rfl rfl rfl (fun hG => Zg7 Try.underlying9 rfl rfl (Opd.gd hG u_0))) <| o_g (g_f rfl rfl rfl (fun hG => Zec rfl rfl (Opd.gd hG u_0) c_i)) <| o_p rfl (Zb0 rfl rfl u_0 (fun hz => (Opd.gd (bNF hz) u_1))) <| o_p rfl (Za rfl rfl u_0) <| o_g (g_f rfl rfl rfl (fun hG => Zi Zmy rfl rfl u_0)) <| o_g (g_f rfl rfl rfl (fun hG => Zf Zof rfl rfl (Opd.gd hG u_0))) <| o_g (g_f rfl rfl rfl (fun hG => Zbc Zoe (Zgy _ (Zbh h2 hG)) rfl rfl (.cons (Opd.gd hG u_0) .nil))) <| o_g (g_f rfl rfl rfl (fun hG => Zec rfl rfl (Opd.gd hG u_0) c_i)) <| o_p rfl (Zb0 rfl rfl u_0 (fun hz => (Opd.gd (bNF hz) u_1))) <| o_n) (by kernel_rfl) (fun a g hst hb => ?_)
 refine wp_cond_split (hst.bool 0 rfl) (fun hc3 => ?_) (fun hc3 => ?_)
 · replace H0 := Z2 hc3 H0
   refine r_s (L := []) (T := [⟨[], _, [], [], [2]⟩]) (F := [.op 0 0]) (hst.pick [] rfl) hb Zb
     (o_p rfl (Zc rfl rfl c_i) <| o_n) (by kernel_rfl) (fun a g hst hb => ?_)
   refine wp_ret ?_
   refine Zh ?_
   obtain rfl := Option.some.inj H0
   exact Z7 rfl hst hb (Zl (s := 2)) (hst.at 0 rfl)
 · replace H0 := Z0 hc3 H0
   refine wp_skip ?_
   refine Zj ?_
   refine r_s (L := []) (T := [⟨[], _, [], [], [2]⟩]) (F := [.op 0 0]) (hst.pick [] rfl) hb Zb
     (o_p rfl (Zc rfl rfl c_i) <| o_n) (by kernel_rfl) (fun a g hst hb => ?_)
   refine wp_ret ?_
   obtain rfl := Option.some.inj H0
   exact Z7 rfl hst hb (Zl (s := 2)) (hst.at 0 rfl)
theorem Zgq (a0 : Ze) {r : Int} (h : Zcv a0 = some r) : FnOk Try.prog 20 [(Zg.pd a0)] (pInt .i64 r) := by
 have H0 := h
 unfold Zcv at H0
 clear h
 refine Zb1 (N := 20) Try.func20 rfl rfl (Nat.le_of_ble_eq_true rfl) rfl rfl (fun a g0 hst hb => ?_)
 refine r_s (T := [⟨[.old 0], _, [], [], [1]⟩, ⟨[], _, [], [], [2]⟩]) (F := [.op 0 0]) hst hb Zb
   (o_p rfl (Zdn rfl rfl u_0) <| o_p rfl (Zc rfl rfl c_i) <| o_n) (by kernel_rfl) (fun a g hst hb => ?_)
 refine wp_seq ?_
 refine r_s (T := [⟨[.old 0], _, [], [], [5]⟩, ⟨[.op 0 0], _, [], [0], [6]⟩, ⟨[.op 1 0], _, [], [0, 1], [7]⟩, ⟨[.op 2 0], _, [], [0, 1, 2], [8]⟩]) (F := [.old 0, .op 3 0]) hst hb Zb
   (o_p rfl (Zi Zdb rfl rfl u_0) <| o_p rfl (Zf Zej rfl rfl u_0) <| o_p rfl (Z5 Try.underlying41 rfl rfl u_0) <| o_p rfl (Zec rfl rfl u_0 c_i) <| o_n) (by kernel_rfl) (fun a g hst hb => ?_)
 refine wp_cond_split (hst.bool 1 rfl) (fun hc1 => ?_) (fun hc1 => ?_)
 · replace H0 := Z2 hc1 H0
   refine r_s (L := []) (T := [⟨[], _, [], [], [2]⟩]) (F := [.op 0 0]) (hst.pick [] rfl) hb Zb
     (o_p rfl (Zc rfl rfl c_i) <| o_n) (by kernel_rfl) (fun a g hst hb => ?_)
   refine wp_ret ?_
   refine Zh ?_
   obtain rfl := Option.some.inj H0
   exact Z7 rfl hst hb (Zl (s := 2)) (hst.at 0 rfl)
 · replace H0 := Z0 hc1 H0
   refine wp_skip ?_
   refine Zj ?_
   refine wp_seq ?_
   refine r_s (L := [(1, _)]) (T := [⟨[.old 0], _, [], [], [9]⟩, ⟨[.op 0 0], _, [], [0], [10]⟩, ⟨[.op 1 0], _, [], [0, 1], [11]⟩, ⟨[], _, [], [], [12]⟩]) (F := [.op 1 0, .op 2 0, .op 3 0]) (hst.pick [0] rfl) hb Zb
     (o_p rfl (Zi Zdb rfl rfl u_0) <| o_p rfl (Zf Zej rfl rfl u_0) <| o_p rfl (Z5 Try.underlying41 rfl rfl u_0) <| o_p rfl (Za rfl rfl c_i) <| o_n) (by kernel_rfl) (fun a g hst hb => ?_)
   obtain ⟨z9, hz1, H0⟩ := Zd H0
   refine Zbm (fun a w => ∃ (g : G), w = g.w ∧ St 20 [] a g ∧ Base g0 g ∧ (.inr ()) = z9) ?_ ?_
   · rintro a w ⟨g, rfl, hst, hb, rfl⟩
     refine Zj ?_
     refine r_s (T := [⟨[], _, [], [], [2]⟩]) (F := [.op 0 0]) hst hb Zb
       (o_p rfl (Zc rfl rfl c_i) <| o_n) (by kernel_rfl) (fun a g hst hb => ?_)
     refine wp_ret ?_
     obtain rfl := Option.some.inj H0
     exact Z7 rfl hst hb (Zl (s := 2)) (hst.at 0 rfl)
   · refine wp_block ?_
     refine wp_loop_ghost (fun n a w => ∃ (x2 : Int) (g : G), w = g.w ∧ St 20 [(10, (Zr.sl.pd a0.Acts)), (11, (pInt .i64 (a0.Acts.length : Int))), (12, (pInt .i64 x2))] a g ∧ Base g0 g ∧ Zbt a0 n x2 = some z9) (Int.toNat ((a0.Acts.length : Int) - (0 : Int)) + 1) ⟨(0 : Int), g, rfl, (hst.pick [0, 1, 2] rfl), hb, hz1⟩ (fun n a w hI => ?_)
     obtain ⟨x2, g, rfl, hst, hb, H1⟩ := hI
     cases n with
     | zero => exact absurd H1 (by simp [Zbt])
     | succ n =>
       rw [Zbt] at H1
       refine r_s (T := [⟨[.old 2, .old 1], _, [], [], [13]⟩]) (F := [.old 0, .old 1, .old 2, .op 0 0]) hst hb Zb
         (o_p rfl (Zce rfl rfl u_0 u_1) <| o_n) (by kernel_rfl) (fun a g hst hb => ?_)
       refine wp_seq ?_
       refine wp_cond_split (hst.bool 3 rfl) (fun hc3 => ?_) (fun hc3 => ?_)
       · replace H1 := Z2 hc3 H1
         refine wp_skip ?_
         refine Zj ?_
         refine wp_seq ?_
         refine wp_block ?_
         obtain ⟨e4, h5, H1⟩ := Zd H1
         refine r_s (L := [(10, _), (11, _), (12, _)]) (T := [⟨[.old 0, .old 2], _, [], [], [14]⟩, ⟨[.op 0 0], _, [], [0], [15]⟩, ⟨[], [(4, (pBox Zr 4 (default : Zm)))], [5], [], [4]⟩, ⟨[.op 1 0, .op 2 0], _, [5], [0, 1, 2], [4]⟩]) (F := [.op 3 0, .old 0, .old 1, .old 2]) (hst.pick [0, 1, 2] rfl) hb Zb
           (o_p rfl (Zq Try.underlying41 Zfq rfl rfl u_0 u_1 h5) <| o_p rfl (Zf Zek rfl rfl u_0) <| o_p rfl (Zd7 (zs := [.int .i64 0, .string ByteArray.empty, .int .i64 0, .float .f64 0, .string ByteArray.empty, .int .i64 0, .int .i64 0, .int .i64 0, .int .i64 0, .float .f64 0, .int .i64 0, .string ByteArray.empty, .slice none 0 0, .bool false]) (by kernel_rfl) (fun g => Zex g) rfl rfl) <| o_p rfl (Zdp Zek rfl rfl u_1 u_0) <| o_n) (by kernel_rfl) (fun a g hst hb => ?_)
         obtain ⟨r6, h7, H1⟩ := Zd H1
         refine r_s (T := [⟨[.old 0], _, [], [], [16]⟩, ⟨[.op 0 0], _, [], [0], [17]⟩, ⟨[.op 1 0], _, [], [0, 1], [18]⟩]) (F := [.old 1, .old 2, .old 3, .op 2 0]) hst hb Zb
           (o_p rfl (Zf Zek rfl rfl u_0) <| o_p rfl (Zbc Zoa (Zgs _ h7) rfl rfl (.cons u_0 .nil)) <| o_p rfl (Zec rfl rfl u_0 c_i) <| o_n) (by kernel_rfl) (fun a g hst hb => ?_)
         refine wp_cond_split (hst.bool 3 rfl) (fun hc8 => ?_) (fun hc8 => ?_)
         · replace H1 := Z2 hc8 H1
           refine r_s (L := []) (T := [⟨[], _, [], [], [2]⟩]) (F := [.op 0 0]) (hst.pick [] rfl) hb Zb
             (o_p rfl (Zc rfl rfl c_i) <| o_n) (by kernel_rfl) (fun a g hst hb => ?_)
           refine wp_ret ?_
           refine Zt ?_
           refine Zh ?_
           refine Zh ?_
           refine Zt ?_
           refine Zh ?_
           refine Zh ?_
           obtain rfl := Option.some.inj H1
           obtain rfl := Option.some.inj H0
           exact Z7 rfl hst hb (Zl (s := 2)) (hst.at 0 rfl)
         · replace H1 := Z0 hc8 H1
           refine wp_skip ?_
           refine Z4 ?_
           refine Zj ?_
           refine r_g (L := [(10, _), (11, _), (12, _)]) (T := [⟨[.old 2], _, [], [], [19]⟩, ⟨[.op 0 0], _, [], [0], [12]⟩]) (F := [.old 0, .old 1, .op 1 0]) (hst.pick [0, 1, 2] rfl) hb Zb
             (o_p rfl (Zbw rfl rfl u_0 c_i rfl) <| o_p rfl (Za rfl rfl u_0) <| o_n) (by kernel_rfl) (fun a g hst hb => ?_)
           exact ⟨n, Nat.lt_succ_self _, (IntKind.i64.wrap (x2 + (1 : Int))), g, rfl, (hst.pick [0, 1, 2] rfl), hb, H1⟩
       · replace H1 := Z0 hc3 H1
         refine wp_exit ?_
         refine Zz ?_
         refine Zz ?_
         refine Zbb ?_
         exact ⟨g, rfl, (hst.pick [] rfl), hb, Option.some.inj H1⟩
theorem Zgx (a0 : List Ze) {r : Int} (h : Zdh a0 = some r) : FnOk Try.prog 8 [(Zg.sl.pd a0)] (pInt .i64 r) := by
 have H0 := h
 unfold Zdh at H0
 clear h
 refine Zb1 (N := 18) Try.func8 rfl rfl (Nat.le_of_ble_eq_true rfl) rfl rfl (fun a g0 hst hb => ?_)
 refine r_s (T := [⟨[], _, [], [], [2]⟩]) (F := [.old 0]) hst hb Zb
   (o_p rfl (Zc rfl rfl c_i) <| o_n) (by kernel_rfl) (fun a g hst hb => ?_)
 refine wp_seq ?_
 refine r_s (T := [⟨[.old 0], _, [], [], [5]⟩, ⟨[.op 0 0], _, [], [0], [6]⟩, ⟨[.op 1 0], _, [], [0, 1], [7]⟩]) (F := [.old 0, .op 2 0]) hst hb Zb
   (o_p rfl (Za rfl rfl u_0) <| o_p rfl (Z5 Try.underlying22 rfl rfl u_0) <| o_p rfl (Zec rfl rfl u_0 c_i) <| o_n) (by kernel_rfl) (fun a g hst hb => ?_)
 refine wp_cond_split (hst.bool 1 rfl) (fun hc1 => ?_) (fun hc1 => ?_)
 · replace H0 := Z2 hc1 H0
   refine r_s (L := []) (T := [⟨[], _, [], [], [2]⟩]) (F := [.op 0 0]) (hst.pick [] rfl) hb Zb
     (o_p rfl (Zc rfl rfl c_i) <| o_n) (by kernel_rfl) (fun a g hst hb => ?_)
   refine wp_ret ?_
   refine Zh ?_
   obtain rfl := Option.some.inj H0
   exact Z7 rfl hst hb (Zl (s := 2)) (hst.at 0 rfl)
 · replace H0 := Z0 hc1 H0
   refine wp_skip ?_
   refine Zj ?_
   refine wp_seq ?_
   refine r_s (L := [(0, _)]) (T := [⟨[.old 0], _, [], [], [8]⟩, ⟨[.op 0 0], _, [], [0], [9]⟩, ⟨[], _, [], [], [10]⟩]) (F := [.op 0 0, .op 1 0, .op 2 0]) (hst.pick [0] rfl) hb Zb
     (o_p rfl (Za rfl rfl u_0) <| o_p rfl (Z5 Try.underlying22 rfl rfl u_0) <| o_p rfl (Za rfl rfl c_i) <| o_n) (by kernel_rfl) (fun a g hst hb => ?_)
   obtain ⟨z9, hz1, H0⟩ := Zd H0
   refine Zbm (fun a w => ∃ (g : G), w = g.w ∧ St 18 [] a g ∧ Base g0 g ∧ (.inr ()) = z9) ?_ ?_
   · rintro a w ⟨g, rfl, hst, hb, rfl⟩
     refine Zj ?_
     refine r_s (T := [⟨[], _, [], [], [2]⟩]) (F := [.op 0 0]) hst hb Zb
       (o_p rfl (Zc rfl rfl c_i) <| o_n) (by kernel_rfl) (fun a g hst hb => ?_)
     refine wp_ret ?_
     obtain rfl := Option.some.inj H0
     exact Z7 rfl hst hb (Zl (s := 2)) (hst.at 0 rfl)
   · refine wp_block ?_
     refine wp_loop_ghost (fun n a w => ∃ (x2 : Int) (g : G), w = g.w ∧ St 18 [(8, (Zg.sl.pd a0)), (9, (pInt .i64 (a0.length : Int))), (10, (pInt .i64 x2))] a g ∧ Base g0 g ∧ Zbr a0 n x2 = some z9) (Int.toNat ((a0.length : Int) - (0 : Int)) + 1) ⟨(0 : Int), g, rfl, (hst.pick [0, 1, 2] rfl), hb, hz1⟩ (fun n a w hI => ?_)
     obtain ⟨x2, g, rfl, hst, hb, H1⟩ := hI
     cases n with
     | zero => exact absurd H1 (by simp [Zbr])
     | succ n =>
       rw [Zbr] at H1
       refine r_s (T := [⟨[.old 2, .old 1], _, [], [], [11]⟩]) (F := [.old 0, .old 1, .old 2, .op 0 0]) hst hb Zb
         (o_p rfl (Zce rfl rfl u_0 u_1) <| o_n) (by kernel_rfl) (fun a g hst hb => ?_)
       refine wp_seq ?_
       refine wp_cond_split (hst.bool 3 rfl) (fun hc3 => ?_) (fun hc3 => ?_)
       · replace H1 := Z2 hc3 H1
         refine wp_skip ?_
         refine Zj ?_
         refine wp_seq ?_
         refine wp_block ?_
         obtain ⟨e4, h5, H1⟩ := Zd H1
         refine r_s (L := [(8, _), (9, _), (10, _)]) (T := [⟨[.old 0, .old 2], _, [], [], [12]⟩, ⟨[.op 0 0], _, [], [0], [13]⟩, ⟨[], [(4, (pBox Zg 4 (default : Ze)))], [5], [], [4]⟩, ⟨[.op 1 0, .op 2 0], _, [5], [0, 1, 2], [4]⟩]) (F := [.op 3 0, .old 0, .old 1, .old 2]) (hst.pick [0, 1, 2] rfl) hb Zb
           (o_p rfl (Zq Try.underlying22 Zhn rfl rfl u_0 u_1 h5) <| o_p rfl (Zf Zdm rfl rfl u_0) <| o_p rfl (Zd7 (zs := [.slice none 0 0]) (by kernel_rfl) (fun g => Zha g) rfl rfl) <| o_p rfl (Zdp Zdm rfl rfl u_1 u_0) <| o_n) (by kernel_rfl) (fun a g hst hb => ?_)
         obtain ⟨r6, h7, H1⟩ := Zd H1
         refine r_s (T := [⟨[.old 0], _, [], [], [14]⟩, ⟨[.op 0 0], _, [], [0], [15]⟩, ⟨[.op 1 0], _, [], [0, 1], [16]⟩]) (F := [.old 1, .old 2, .old 3, .op 2 0]) hst hb Zb
           (o_p rfl (Zf Zdm rfl rfl u_0) <| o_p rfl (Zbc Znv (Zgq _ h7) rfl rfl (.cons u_0 .nil)) <| o_p rfl (Zec rfl rfl u_0 c_i) <| o_n) (by kernel_rfl) (fun a g hst hb => ?_)
         refine wp_cond_split (hst.bool 3 rfl) (fun hc8 => ?_) (fun hc8 => ?_)
         · replace H1 := Z2 hc8 H1
           refine r_s (L := []) (T := [⟨[], _, [], [], [2]⟩]) (F := [.op 0 0]) (hst.pick [] rfl) hb Zb
             (o_p rfl (Zc rfl rfl c_i) <| o_n) (by kernel_rfl) (fun a g hst hb => ?_)
           refine wp_ret ?_
           refine Zt ?_
           refine Zh ?_
           refine Zh ?_
           refine Zt ?_
           refine Zh ?_
           refine Zh ?_
           obtain rfl := Option.some.inj H1
           obtain rfl := Option.some.inj H0
           exact Z7 rfl hst hb (Zl (s := 2)) (hst.at 0 rfl)
         · replace H1 := Z0 hc8 H1
           refine wp_skip ?_
           refine Z4 ?_
           refine Zj ?_
           refine r_g (L := [(8, _), (9, _), (10, _)]) (T := [⟨[.old 2], _, [], [], [17]⟩, ⟨[.op 0 0], _, [], [0], [10]⟩]) (F := [.old 0, .old 1, .op 1 0]) (hst.pick [0, 1, 2] rfl) hb Zb
             (o_p rfl (Zbw rfl rfl u_0 c_i rfl) <| o_p rfl (Za rfl rfl u_0) <| o_n) (by kernel_rfl) (fun a g hst hb => ?_)
           exact ⟨n, Nat.lt_succ_self _, (IntKind.i64.wrap (x2 + (1 : Int))), g, rfl, (hst.pick [0, 1, 2] rfl), hb, H1⟩
       · replace H1 := Z0 hc3 H1
         refine wp_exit ?_
         refine Zz ?_
         refine Zz ?_
         refine Zbb ?_
         exact ⟨g, rfl, (hst.pick [] rfl), hb, Option.some.inj H1⟩
theorem Zez (a0 : List Ze) (a1 : List Bool) {r : List Int} (h : Zco a0 a1 = some r) : FnOk Try.prog 9 [(Zg.sl.pd a0), (Kd.bool.sl.pd a1)] ((Kd.int .i64).sl.pd r) := by
 have H0 := h
 unfold Zco at H0
 clear h
 refine Zb1 (N := 29) Try.func9 rfl rfl (Nat.le_of_ble_eq_true rfl) rfl rfl (fun a g0 hst hb => ?_)
 refine r_s (T := [⟨[], [(4, ((Kd.int .i64).sl.pd ([] : List Int)))], [], [], [4]⟩]) (F := [.old 0, .old 1]) hst hb Zb
   (o_p rfl (Zc rfl rfl (Opd.c (fun g => Ze0 g))) <| o_n) (by kernel_rfl) (fun a g hst hb => ?_)
 refine r_s (T := [⟨[], [(5, (pRow (Kd.int .i64) 3 5 ([] : List Int)))], [], [], [5]⟩]) (F := [.old 0, .old 1, .op 0 0]) hst hb Zb
   (o_p rfl (Zc rfl rfl (Opd.c (fun g => Ze3 5 g))) <| o_n) (by kernel_rfl) (fun a g hst hb => ?_)
 refine wp_seq ?_
 refine r_s (T := [⟨[.old 0], _, [], [], [7]⟩, ⟨[.op 0 0], _, [], [0], [8]⟩, ⟨[], _, [], [], [9]⟩]) (F := [.old 1, .old 2, .op 0 0, .op 1 0, .op 2 0]) hst hb Zb
   (o_p rfl (Za rfl rfl u_0) <| o_p rfl (Z5 Try.underlying22 rfl rfl u_0) <| o_p rfl (Za rfl rfl c_i) <| o_n) (by kernel_rfl) (fun a g hst hb => ?_)
 obtain ⟨z10, hz1, H0⟩ := Zd H0
 refine Zbm (fun a w => ∃ (y9 : List Int) (g : G), w = g.w ∧ St 29 [(5, (pRow (Kd.int .i64) 3 5 y9))] a g ∧ Base g0 g ∧ y9 = z10) ?_ ?_
 · rintro a w ⟨y9, g, rfl, hst, hb, rfl⟩
   refine Zj ?_
   refine r_s (T := [⟨[.old 0], _, [], [], [28]⟩, ⟨[.op 0 0], _, [], [0], [4]⟩]) (F := [.op 1 0]) hst hb Zb
     (o_p rfl (Za rfl rfl u_0) <| o_p rfl (Zc rfl rfl u_0) <| o_n) (by kernel_rfl) (fun a g hst hb => ?_)
   refine wp_ret ?_
   obtain rfl := Option.some.inj H0
   exact Z7 rfl hst hb (Zl (s := 4)) (Zd8 (hst.at 0 rfl))
 · refine wp_block ?_
   refine wp_loop_ghost (fun n a w => ∃ (x1 : List Int) (x2 : Int) (g : G), w = g.w ∧ St 29 [(1, (Kd.bool.sl.pd a1)), (5, (pRow (Kd.int .i64) 3 5 x1)), (7, (Zg.sl.pd a0)), (8, (pInt .i64 (a0.length : Int))), (9, (pInt .i64 x2))] a g ∧ Base g0 g ∧ Z9 a0 a1 n x1 x2 = some z10) (Int.toNat ((a0.length : Int) - (0 : Int)) + 1) ⟨([] : List Int), (0 : Int), g, rfl, (hst.pick [0, 1, 2, 3, 4] rfl), hb, hz1⟩ (fun n a w hI => ?_)
   obtain ⟨x1, x2, g, rfl, hst, hb, H1⟩ := hI
   cases n with
   | zero => exact absurd H1 (by simp [Z9])
   | succ n =>
     rw [Z9] at H1
     refine r_s (T := [⟨[.old 4, .old 3], _, [], [], [10]⟩]) (F := [.old 0, .old 1, .old 2, .old 3, .old 4, .op 0 0]) hst hb Zb
       (o_p rfl (Zce rfl rfl u_0 u_1) <| o_n) (by kernel_rfl) (fun a g hst hb => ?_)
     refine wp_seq ?_
     refine wp_cond_split (hst.bool 5 rfl) (fun hc3 => ?_) (fun hc3 => ?_)
     · replace H1 := Z2 hc3 H1
       refine wp_skip ?_
       refine Zj ?_
       refine wp_seq ?_
       refine Zbm (fun a w => ∃ (j8 : List Int) (g : G), w = g.w ∧ St 29 [(1, (Kd.bool.sl.pd a1)), (5, (pRow (Kd.int .i64) 3 5 j8)), (7, (Zg.sl.pd a0)), (8, (pInt .i64 (a0.length : Int))), (9, (pInt .i64 x2))] a g ∧ Base g0 g ∧ Zc9 x2 (Z9 a0 a1 n) j8 = some z10) ?_ ?_
       · rintro a w ⟨j8, g, rfl, hst, hb, H1⟩
         unfold Zc9 at H1
         refine Zj ?_
         refine r_g (T := [⟨[.old 4], _, [], [], [27]⟩, ⟨[.op 0 0], _, [], [0], [9]⟩]) (F := [.old 0, .old 1, .old 2, .old 3, .op 1 0]) hst hb Zb
           (o_p rfl (Zbw rfl rfl u_0 c_i rfl) <| o_p rfl (Za rfl rfl u_0) <| o_n) (by kernel_rfl) (fun a g hst hb => ?_)
         exact ⟨n, Nat.lt_succ_self _, j8, (IntKind.i64.wrap (x2 + (1 : Int))), g, rfl, (hst.pick [0, 1, 2, 3, 4] rfl), hb, H1⟩
       · refine wp_block ?_
         refine r_s (L := [(1, _), (5, _), (7, _), (8, _), (9, _)]) (T := [⟨[.old 4], _, [], [], [11]⟩, ⟨[.op 0 0], _, [], [0], [6]⟩]) (F := [.old 0, .old 1, .op 1 0, .old 2, .old 3, .old 4]) (hst.pick [0, 1, 2, 3, 4] rfl) hb Zb
           (o_p rfl (Za rfl rfl u_0) <| o_p rfl (Zc rfl rfl u_0) <| o_n) (by kernel_rfl) (fun a g hst hb => ?_)
         obtain ⟨e4, h5, H1⟩ := Zd H1
         refine r_s (T := [⟨[.old 2], _, [], [], [12]⟩, ⟨[.old 0], _, [], [], [13]⟩, ⟨[.op 1 0], _, [], [1], [14]⟩, ⟨[.op 0 0, .op 2 0], _, [], [0, 1, 2], [15]⟩, ⟨[.op 3 0], _, [], Lr 4, [16]⟩, ⟨[.op 4 0, .old 0], _, [], Lr 5, [17]⟩, ⟨[.op 4 0, .old 2], _, [], Lr 5, [18]⟩, ⟨[.op 4 0, .op 5 0, .op 6 0], _, [], Lr 7, [19]⟩, ⟨[.op 4 0, .op 7 0], _, [], Lr 8, [20]⟩, ⟨[.op 4 0, .op 8 0], _, [], Lr 9, [21]⟩, ⟨[.op 4 0, .op 9 0], _, [], Lr 10, [22]⟩]) (F := [.old 0, .old 1, .old 2, .old 3, .old 4, .old 5, .op 10 0]) hst hb Zb
           (o_p rfl (Za rfl rfl u_0) <| o_p rfl (Za rfl rfl u_0) <| o_p rfl (Z5 Try.underlying38 rfl rfl u_0) <| o_p rfl (Zg0 rfl rfl u_0 u_1) <| o_p rfl (Za rfl rfl u_0) <| o_g (g_f rfl rfl rfl (fun hG => Za rfl rfl u_0)) <| o_g (g_f rfl rfl rfl (fun hG => Za rfl rfl u_0)) <| o_g (g_f rfl rfl rfl (fun hG => Zq Try.underlying38 sz_4 rfl rfl (Opd.gd hG u_0) (Opd.gd hG u_1) (Zbh h5 hG))) <| o_g (g_f rfl rfl rfl (fun hG => Zf ty_4 rfl rfl (Opd.gd hG u_0))) <| o_g (g_f rfl rfl rfl (fun hG => Zds rfl rfl (Opd.gd hG u_0))) <| o_p rfl (Zb0 rfl rfl u_0 (fun hz => (Opd.gd (bNF hz) u_1))) <| o_n) (by kernel_rfl) (fun a g hst hb => ?_)
         refine wp_cond_split (hst.bool 6 rfl) (fun hc6 => ?_) (fun hc6 => ?_)
         · replace H1 := Z2 hc6 H1
           obtain ⟨h7, H1⟩ := Zev H1
           refine r_g (L := [(1, _), (5, _), (6, _), (7, _), (8, _), (9, _)]) (T := [⟨[.old 1], _, [], [], [23]⟩, ⟨[.old 2], _, [], [], [24]⟩, ⟨[.op 1 0], _, [], [1], [25]⟩, ⟨[.op 0 0, .op 2 0], _, [6], [0, 1, 2], [5, 23, 26]⟩, ⟨[.op 3 0], _, [], Lr 4, [5]⟩]) (F := [.old 0, .op 4 0, .old 3, .old 4, .old 5]) (hst.pick [0, 1, 2, 3, 4, 5] rfl) hb Zb
             (o_p rfl (Za rfl rfl u_0) <| o_p rfl (Za rfl rfl u_0) <| o_p rfl (Zd3 Zc0 (xs := [.tmp 24]) (.cons u_0 .nil) (by decide) rfl rfl) <| o_p rfl (Zet Zc0 rfl rfl u_0 u_1 h7) <| o_p rfl (Zc rfl rfl u_0) <| o_n) (by kernel_rfl) (fun a g hst hb => ?_)
           refine Z4 ?_
           exact ⟨(x1 ++ ([x2] : List Int)), g, rfl, (hst.pick [0, 1, 2, 3, 4] rfl), hb, H1⟩
         · replace H1 := Z0 hc6 H1
           refine wp_skip ?_
           refine Z4 ?_
           exact ⟨x1, g, rfl, (hst.pick [0, 1, 3, 4, 5] rfl), hb, H1⟩
     · replace H1 := Z0 hc3 H1
       refine wp_exit ?_
       refine Zz ?_
       refine Zz ?_
       refine Zbb ?_
       exact ⟨x1, g, rfl, (hst.pick [1] rfl), hb, Option.some.inj H1⟩
theorem Zgp (a0 : List ByteArray) (a1 : ByteArray) {r : Bool} (h : Zde a0 a1 = some r) : FnOk Try.prog 26 [(Kd.str.sl.pd a0), (pStr a1)] (Zp r) := by
 have H0 := h
 unfold Zde at H0
 clear h
 refine Zb1 (N := 18) Try.func26 rfl rfl (Nat.le_of_ble_eq_true rfl) rfl rfl (fun a g0 hst hb => ?_)
 refine r_s (T := [⟨[], _, [], [], [4]⟩]) (F := [.old 0, .old 1]) hst hb Zb
   (o_p rfl (Zc rfl rfl c_b) <| o_n) (by kernel_rfl) (fun a g hst hb => ?_)
 refine wp_seq ?_
 refine r_s (T := [⟨[], _, [], [], [5]⟩]) (F := [.old 0, .old 1, .op 0 0]) hst hb Zb
   (o_p rfl (Zc rfl rfl c_i) <| o_n) (by kernel_rfl) (fun a g hst hb => ?_)
 obtain ⟨z6, hz1, H0⟩ := Zd H0
 refine Zbm (fun a w => ∃ (g : G), w = g.w ∧ St 18 [] a g ∧ Base g0 g ∧ (.inr ()) = z6) ?_ ?_
 · rintro a w ⟨g, rfl, hst, hb, rfl⟩
   refine Zj ?_
   refine r_s (T := [⟨[], _, [], [], [4]⟩]) (F := [.op 0 0]) hst hb Zb
     (o_p rfl (Zc rfl rfl c_b) <| o_n) (by kernel_rfl) (fun a g hst hb => ?_)
   refine wp_ret ?_
   obtain rfl := Option.some.inj H0
   exact Z7 rfl hst hb (Zl (s := 4)) (hst.at 0 rfl)
 · refine wp_block ?_
   refine wp_loop_ghost (fun n a w => ∃ (x1 : Int) (g : G), w = g.w ∧ St 18 [(0, (Kd.str.sl.pd a0)), (1, (pStr a1)), (5, (pInt .i64 x1))] a g ∧ Base g0 g ∧ Zbq a0 a1 n x1 = some z6) (Int.toNat ((a0.length : Int) - (0 : Int)) + 1) ⟨(0 : Int), g, rfl, (hst.pick [0, 1, 2] rfl), hb, hz1⟩ (fun n a w hI => ?_)
   obtain ⟨x1, g, rfl, hst, hb, H1⟩ := hI
   cases n with
   | zero => exact absurd H1 (by simp [Zbq])
   | succ n =>
     rw [Zbq] at H1
     refine wp_seq ?_
     refine r_s (T := [⟨[.old 2], _, [], [], [6]⟩, ⟨[.old 0], _, [], [], [7]⟩, ⟨[.op 1 0], _, [], [1], [8]⟩, ⟨[.op 0 0, .op 2 0], _, [], [0, 1, 2], [9]⟩]) (F := [.old 0, .old 1, .old 2, .op 3 0]) hst hb Zb
       (o_p rfl (Za rfl rfl u_0) <| o_p rfl (Za rfl rfl u_0) <| o_p rfl (Z5 Try.underlying23 rfl rfl u_0) <| o_p rfl (Zce rfl rfl u_0 u_1) <| o_n) (by kernel_rfl) (fun a g hst hb => ?_)
     refine wp_cond_split (hst.bool 3 rfl) (fun hc2 => ?_) (fun hc2 => ?_)
     · replace H1 := Z2 hc2 H1
       refine wp_skip ?_
       refine Zj ?_
       refine wp_seq ?_
       refine wp_block ?_
       obtain ⟨e3, h4, H1⟩ := Zd H1
       refine r_s (L := [(0, _), (1, _), (5, _)]) (T := [⟨[.old 0], _, [], [], [12]⟩, ⟨[.old 2], _, [], [], [13]⟩, ⟨[.op 0 0, .op 1 0], _, [], [0, 1], [14]⟩, ⟨[.op 2 0], _, [], [0, 1, 2], [15]⟩, ⟨[.old 1], _, [], [], [16]⟩, ⟨[.op 3 0, .op 4 0], _, [], Lr 5, [17]⟩]) (F := [.old 0, .old 1, .old 2, .op 5 0]) (hst.pick [0, 1, 2] rfl) hb Zb
         (o_p rfl (Za rfl rfl u_0) <| o_p rfl (Za rfl rfl u_0) <| o_p rfl (Zq Try.underlying23 sz_9 rfl rfl u_0 u_1 h4) <| o_p rfl (Zf ty_9 rfl rfl u_0) <| o_p rfl (Za rfl rfl u_0) <| o_p rfl (Zhl rfl rfl u_0 u_1) <| o_n) (by kernel_rfl) (fun a g hst hb => ?_)
       refine wp_cond_split (hst.bool 3 rfl) (fun hc5 => ?_) (fun hc5 => ?_)
       · replace H1 := Z2 hc5 H1
         refine r_s (L := []) (T := [⟨[], _, [], [], [4]⟩]) (F := [.op 0 0]) (hst.pick [] rfl) hb Zb
           (o_p rfl (Zc rfl rfl c_b) <| o_n) (by kernel_rfl) (fun a g hst hb => ?_)
         refine wp_ret ?_
         refine Zt ?_
         refine Zh ?_
         refine Zh ?_
         refine Zt ?_
         refine Zh ?_
         refine Zh ?_
         obtain rfl := Option.some.inj H1
         obtain rfl := Option.some.inj H0
         exact Z7 rfl hst hb (Zl (s := 4)) (hst.at 0 rfl)
       · replace H1 := Z0 hc5 H1
         refine wp_skip ?_
         refine Z4 ?_
         refine Zj ?_
         refine r_g (L := [(0, _), (1, _), (5, _)]) (T := [⟨[.old 2], _, [], [], [10]⟩, ⟨[.op 0 0], _, [], [0], [11]⟩, ⟨[.op 1 0], _, [], [0, 1], [5]⟩]) (F := [.old 0, .old 1, .op 2 0]) (hst.pick [0, 1, 2] rfl) hb Zb
           (o_p rfl (Za rfl rfl u_0) <| o_p rfl (Zbw rfl rfl u_0 c_i rfl) <| o_p rfl (Zc rfl rfl u_0) <| o_n) (by kernel_rfl) (fun a g hst hb => ?_)
         exact ⟨n, Nat.lt_succ_self _, (IntKind.i64.wrap (x1 + (1 : Int))), g, rfl, (hst.pick [0, 1, 2] rfl), hb, H1⟩
     · replace H1 := Z0 hc2 H1
       refine wp_exit ?_
       refine Zz ?_
       refine Zz ?_
       refine Zbb ?_
       exact ⟨g, rfl, (hst.pick [] rfl), hb, Option.some.inj H1⟩
theorem Zew (a0 : Int) {r : Bool} (h : Zcy a0 = some r) : FnOk Try.prog 27 [(pInt .i64 a0)] (Zp r) := by
 have H0 := h
 unfold Zcy at H0
 clear h
 refine Zb1 (N := 21) Try.func27 rfl rfl (Nat.le_of_ble_eq_true rfl) rfl rfl (fun a g0 hst hb => ?_)
 refine r_s (T := [⟨[], _, [], [], [2]⟩]) (F := [.old 0]) hst hb Zb
   (o_p rfl (Zc rfl rfl c_b) <| o_n) (by kernel_rfl) (fun a g hst hb => ?_)
 refine r_s (T := ⟨[.old 0], _, [], [], [3]⟩ :: ⟨[.op 0 0], _, [], [0], [4]⟩ :: ⟨[.op 1 0], _, [], [0, 1], [5]⟩ :: ⟨[.op 2 0, .old 0], _, [], [0, 1, 2], [6]⟩ :: ⟨[.op 2 0, .op 3 0], _, [], Lr 4, [7]⟩ :: ⟨[.op 2 0, .op 4 0], _, [], Lr 5, [8]⟩ :: ⟨[.op 5 0], _, [], Lr 6, [9]⟩ :: ⟨[.op 6 0, .old 0], _, [], Lr 7, [10]⟩ :: ⟨[.op 6 0, .op 7 0], _, [], Lr 8, [11]⟩ :: ⟨[.op 6 0, .op 8 0], _, [], Lr 9, [12]⟩ :: ⟨[.op 9 0], _, [], Lr 10, [13]⟩ :: ⟨[.op 10 0, .old 0], _, [], Lr 11, [14]⟩ :: ⟨[.op 10 0, .op 11 0], _, [], Lr 12, [15]⟩ :: ⟨[.op 10 0, .op 12 0], _, [], Lr 13, [16]⟩ :: ⟨[.op 13 0], _, [], Lr 14, [17]⟩ :: ⟨[.op 14 0, .old 0], _, [], Lr 15, [18]⟩ :: ⟨[.op 14 0, .op 15 0], _, [], Lr 16, [19]⟩ :: ⟨[.op 14 0, .op 16 0], _, [], Lr 17, [20]⟩ :: ⟨[.op 17 0], _, [], Lr 18, [2]⟩ :: []) (F := [.op 18 0]) hst hb Zb
   (o_p rfl (Za rfl rfl u_0) <| o_p rfl (Zcq rfl rfl u_0 c_i) <| o_p rfl (Za rfl rfl u_0) <| o_g (g_f rfl rfl rfl (fun hG => Za rfl rfl u_0)) <| o_g (g_f rfl rfl rfl (fun hG => Zcq rfl rfl (Opd.gd hG u_0) c_i)) <| o_p rfl (Zb0 rfl rfl u_0 (fun hz => (Opd.gd (bNF hz) u_1))) <| o_p rfl (Za rfl rfl u_0) <| o_g (g_f rfl rfl rfl (fun hG => Za rfl rfl u_0)) <| o_g (g_f rfl rfl rfl (fun hG => Zcq rfl rfl (Opd.gd hG u_0) c_i)) <| o_p rfl (Zb0 rfl rfl u_0 (fun hz => (Opd.gd (bNF hz) u_1))) <| o_p rfl (Za rfl rfl u_0) <| o_g (g_f rfl rfl rfl (fun hG => Za rfl rfl u_0)) <| o_g (g_f rfl rfl rfl (fun hG => Zcq rfl rfl (Opd.gd hG u_0) c_i)) <| o_p rfl (Zb0 rfl rfl u_0 (fun hz => (Opd.gd (bNF hz) u_1))) <| o_p rfl (Za rfl rfl u_0) <| o_g (g_f rfl rfl rfl (fun hG => Za rfl rfl u_0)) <| o_g (g_f rfl rfl rfl (fun hG => Zcq rfl rfl (Opd.gd hG u_0) c_i)) <| o_p rfl (Zb0 rfl rfl u_0 (fun hz => (Opd.gd (bNF hz) u_1))) <| o_p rfl (Zc rfl rfl u_0) <| o_n) (by kernel_rfl) (fun a g hst hb => ?_)
 refine wp_ret ?_
 obtain rfl := Option.some.inj H0
 exact Z7 rfl hst hb (Zl (s := 2)) (hst.at 0 rfl)
theorem Zeq (a0 : Ze) {r : Bool} (h : Zb8 a0 = some r) : FnOk Try.prog 28 [(Zg.pd a0)] (Zp r) := by
 have H0 := h
 unfold Zb8 at H0
 clear h
 refine Zb1 (N := 27) Try.func28 rfl rfl (Nat.le_of_ble_eq_true rfl) rfl rfl (fun a g0 hst hb => ?_)
 refine r_s (T := [⟨[.old 0], _, [], [], [1]⟩, ⟨[], _, [], [], [2]⟩]) (F := [.op 0 0]) hst hb Zb
   (o_p rfl (Zdn rfl rfl u_0) <| o_p rfl (Zc rfl rfl c_b) <| o_n) (by kernel_rfl) (fun a g hst hb => ?_)
 refine wp_seq ?_
 refine r_s (T := [⟨[], _, [], [], [3]⟩]) (F := [.old 0, .op 0 0]) hst hb Zb
   (o_p rfl (Zc rfl rfl c_i) <| o_n) (by kernel_rfl) (fun a g hst hb => ?_)
 obtain ⟨z8, hz1, H0⟩ := Zd H0
 refine Zbm (fun a w => ∃ (g : G), w = g.w ∧ St 27 [] a g ∧ Base g0 g ∧ (.inr ()) = z8) ?_ ?_
 · rintro a w ⟨g, rfl, hst, hb, rfl⟩
   refine Zj ?_
   refine r_s (T := [⟨[], _, [], [], [2]⟩]) (F := [.op 0 0]) hst hb Zb
     (o_p rfl (Zc rfl rfl c_b) <| o_n) (by kernel_rfl) (fun a g hst hb => ?_)
   refine wp_ret ?_
   obtain rfl := Option.some.inj H0
   exact Z7 rfl hst hb (Zl (s := 2)) (hst.at 0 rfl)
 · refine wp_block ?_
   refine wp_loop_ghost (fun n a w => ∃ (x1 : Int) (g : G), w = g.w ∧ St 27 [(1, (Zg.ptr a0)), (3, (pInt .i64 x1))] a g ∧ Base g0 g ∧ Zbg a0 n x1 = some z8) (Int.toNat ((a0.Acts.length : Int) - (0 : Int)) + 1) ⟨(0 : Int), g, rfl, (hst.pick [0, 1] rfl), hb, hz1⟩ (fun n a w hI => ?_)
   obtain ⟨x1, g, rfl, hst, hb, H1⟩ := hI
   cases n with
   | zero => exact absurd H1 (by simp [Zbg])
   | succ n =>
     rw [Zbg] at H1
     refine wp_seq ?_
     refine r_s (T := [⟨[.old 1], _, [], [], [4]⟩, ⟨[.old 0], _, [], [], [5]⟩, ⟨[.op 1 0], _, [], [1], [6]⟩, ⟨[.op 2 0], _, [], [1, 2], [7]⟩, ⟨[.op 0 0, .op 3 0], _, [], Lr 4, [8]⟩]) (F := [.old 0, .old 1, .op 4 0]) hst hb Zb
       (o_p rfl (Za rfl rfl u_0) <| o_p rfl (Zi Zdb rfl rfl u_0) <| o_p rfl (Zf Zej rfl rfl u_0) <| o_p rfl (Z5 Try.underlying41 rfl rfl u_0) <| o_p rfl (Zce rfl rfl u_0 u_1) <| o_n) (by kernel_rfl) (fun a g hst hb => ?_)
     refine wp_cond_split (hst.bool 2 rfl) (fun hc2 => ?_) (fun hc2 => ?_)
     · replace H1 := Z2 hc2 H1
       refine wp_skip ?_
       refine Zj ?_
       refine wp_seq ?_
       refine wp_block ?_
       obtain ⟨e3, h4, H1⟩ := Zd H1; obtain ⟨e5, h6, H1⟩ := Zd H1
       refine r_s (L := [(1, _), (3, _)]) (T := ⟨[.old 0], _, [], [], [11]⟩ :: ⟨[.op 0 0], _, [], [0], [12]⟩ :: ⟨[.old 1], _, [], [], [13]⟩ :: ⟨[.op 1 0, .op 2 0], _, [], [0, 1, 2], [14]⟩ :: ⟨[.op 3 0], _, [], Lr 4, [15]⟩ :: ⟨[.op 4 0], _, [], Lr 5, [16]⟩ :: ⟨[.op 5 0], _, [], Lr 6, [17]⟩ :: ⟨[.op 6 0], _, [], Lr 7, [18]⟩ :: ⟨[.op 7 0, .old 0], _, [], Lr 8, [19]⟩ :: ⟨[.op 7 0, .op 8 0], _, [], Lr 9, [20]⟩ :: ⟨[.op 7 0, .old 1], _, [], Lr 8, [21]⟩ :: ⟨[.op 7 0, .op 9 0, .op 10 0], _, [], Lr 11, [22]⟩ :: ⟨[.op 7 0, .op 11 0], _, [], Lr 12, [23]⟩ :: ⟨[.op 7 0, .op 12 0], _, [], Lr 13, [24]⟩ :: ⟨[.op 7 0, .op 13 0], _, [], Lr 14, [25]⟩ :: ⟨[.op 7 0, .op 14 0], _, [], Lr 15, [26]⟩ :: []) (F := [.old 0, .old 1, .op 15 0]) (hst.pick [0, 1] rfl) hb Zb
         (o_p rfl (Zi Zdb rfl rfl u_0) <| o_p rfl (Zf Zej rfl rfl u_0) <| o_p rfl (Za rfl rfl u_0) <| o_p rfl (Zq Try.underlying41 Zfq rfl rfl u_0 u_1 h4) <| o_p rfl (Zi Zer rfl rfl u_0) <| o_p rfl (Zf ty_3 rfl rfl u_0) <| o_p rfl (Zcq rfl rfl u_0 c_i) <| o_p rfl (Za rfl rfl u_0) <| o_g (g_f rfl rfl rfl (fun hG => Zi Zdb rfl rfl u_0)) <| o_g (g_f rfl rfl rfl (fun hG => Zf Zej rfl rfl (Opd.gd hG u_0))) <| o_g (g_f rfl rfl rfl (fun hG => Za rfl rfl u_0)) <| o_g (g_f rfl rfl rfl (fun hG => Zq Try.underlying41 Zfq rfl rfl (Opd.gd hG u_0) (Opd.gd hG u_1) (Zbh h6 hG))) <| o_g (g_f rfl rfl rfl (fun hG => Zi Zer rfl rfl (Opd.gd hG u_0))) <| o_g (g_f rfl rfl rfl (fun hG => Zf ty_3 rfl rfl (Opd.gd hG u_0))) <| o_g (g_f rfl rfl rfl (fun hG => Zcq rfl rfl (Opd.gd hG u_0) c_i)) <| o_p rfl (Zb0 rfl rfl u_0 (fun hz => (Opd.gd (bNF hz) u_1))) <| o_n) (by kernel_rfl) (fun a g hst hb => ?_)
       refine wp_cond_split (hst.bool 2 rfl) (fun hc7 => ?_) (fun hc7 => ?_)
       · replace H1 := Z2 hc7 H1
         refine r_s (L := []) (T := [⟨[], _, [], [], [2]⟩]) (F := [.op 0 0]) (hst.pick [] rfl) hb Zb
           (o_p rfl (Zc rfl rfl c_b) <| o_n) (by kernel_rfl) (fun a g hst hb => ?_)
         refine wp_ret ?_
         refine Zt ?_
         refine Zh ?_
         refine Zh ?_
         refine Zt ?_
         refine Zh ?_
         refine Zh ?_
         obtain rfl := Option.some.inj H1
         obtain rfl := Option.some.inj H0
         exact Z7 rfl hst hb (Zl (s := 2)) (hst.at 0 rfl)
       · replace H1 := Z0 hc7 H1
         refine wp_skip ?_
         refine Z4 ?_
         refine Zj ?_
         refine r_g (L := [(1, _), (3, _)]) (T := [⟨[.old 1], _, [], [], [9]⟩, ⟨[.op 0 0], _, [], [0], [10]⟩, ⟨[.op 1 0], _, [], [0, 1], [3]⟩]) (F := [.old 0, .op 2 0]) (hst.pick [0, 1] rfl) hb Zb
           (o_p rfl (Za rfl rfl u_0) <| o_p rfl (Zbw rfl rfl u_0 c_i rfl) <| o_p rfl (Zc rfl rfl u_0) <| o_n) (by kernel_rfl) (fun a g hst hb => ?_)
         exact ⟨n, Nat.lt_succ_self _, (IntKind.i64.wrap (x1 + (1 : Int))), g, rfl, (hst.pick [0, 1] rfl), hb, H1⟩
     · replace H1 := Z0 hc2 H1
       refine wp_exit ?_
       refine Zz ?_
       refine Zz ?_
       refine Zbb ?_
       exact ⟨g, rfl, (hst.pick [] rfl), hb, Option.some.inj H1⟩
theorem Zgj (a0 : Ze) (a1 : Ze) (a2 : List ByteArray) {r : Bool} (h : Zcl a0 a1 a2 = some r) : FnOk Try.prog 19 [(Zg.pd a0), (Zg.pd a1), (Kd.str.sl.pd a2)] (Zp r) := by
 have H0 := h
 unfold Zcl at H0
 clear h
 refine Zb1 (N := 65) Try.func19 rfl rfl (Nat.le_of_ble_eq_true rfl) rfl rfl (fun a g0 hst hb => ?_)
 refine r_s (T := [⟨[.old 0], _, [], [], [3]⟩, ⟨[.old 1], _, [], [], [4]⟩, ⟨[], _, [], [], [6]⟩]) (F := [.old 2, .op 0 0, .op 1 0]) hst hb Zb
   (o_p rfl (Zdn rfl rfl u_0) <| o_p rfl (Zdn rfl rfl u_0) <| o_p rfl (Zc rfl rfl c_b) <| o_n) (by kernel_rfl) (fun a g hst hb => ?_)
 refine wp_seq ?_
 refine r_s (T := [⟨[], _, [], [], [7]⟩]) (F := [.old 0, .old 1, .old 2, .op 0 0]) hst hb Zb
   (o_p rfl (Zc rfl rfl c_i) <| o_n) (by kernel_rfl) (fun a g hst hb => ?_)
 obtain ⟨z17, hz1, H0⟩ := Zd H0
 refine Zbm (fun a w => ∃ (g : G), w = g.w ∧ St 65 [(3, (Zg.ptr a0)), (4, (Zg.ptr a1))] a g ∧ Base g0 g ∧ (.inr ()) = z17) ?_ ?_
 · rintro a w ⟨g, rfl, hst, hb, rfl⟩
   refine Zj ?_
   obtain ⟨r18, h19, H0⟩ := Zd H0; obtain ⟨r20, h21, H0⟩ := Zd H0
   refine r_s (T := [⟨[.old 0], _, [], [], [59]⟩, ⟨[.op 0 0], _, [], [0], [60]⟩, ⟨[.op 1 0], _, [], [0, 1], [61]⟩, ⟨[.op 2 0, .old 1], _, [], [0, 1, 2], [62]⟩, ⟨[.op 2 0, .op 3 0], _, [], Lr 4, [63]⟩, ⟨[.op 2 0, .op 4 0], _, [], Lr 5, [64]⟩, ⟨[.op 5 0], _, [], Lr 6, [6]⟩]) (F := [.op 6 0]) hst hb Zb
     (o_p rfl (Zf Zdm rfl rfl u_0) <| o_p rfl (Zbc Zmm (Zeq _ h19) rfl rfl (.cons u_0 .nil)) <| o_p rfl (Za rfl rfl u_0) <| o_g (g_t rfl rfl rfl (fun hG => Zf Zdm rfl rfl u_0)) <| o_g (g_t rfl rfl rfl (fun hG => Zbc Zmm (Zeq _ (Zbh h21 hG)) rfl rfl (.cons (Opd.gd hG u_0) .nil))) <| o_p rfl (Zb6 rfl rfl u_0 (fun hz => (Opd.gd hz u_1))) <| o_p rfl (Zc rfl rfl u_0) <| o_n) (by kernel_rfl) (fun a g hst hb => ?_)
   refine wp_ret ?_
   obtain rfl := Option.some.inj H0
   exact Z7 rfl hst hb (Zl (s := 6)) (hst.at 0 rfl)
 · refine wp_block ?_
   refine wp_loop_ghost (fun n a w => ∃ (x1 : Int) (g : G), w = g.w ∧ St 65 [(2, (Kd.str.sl.pd a2)), (3, (Zg.ptr a0)), (4, (Zg.ptr a1)), (7, (pInt .i64 x1))] a g ∧ Base g0 g ∧ Zbl a0 a1 a2 n x1 = some z17) (Int.toNat ((a0.Acts.length : Int) - (0 : Int)) + 1) ⟨(0 : Int), g, rfl, (hst.pick [0, 1, 2, 3] rfl), hb, hz1⟩ (fun n a w hI => ?_)
   obtain ⟨x1, g, rfl, hst, hb, H1⟩ := hI
   cases n with
   | zero => exact absurd H1 (by simp [Zbl])
   | succ n =>
     rw [Zbl] at H1
     refine wp_seq ?_
     refine r_s (T := [⟨[.old 3], _, [], [], [11]⟩, ⟨[.old 1], _, [], [], [12]⟩, ⟨[.op 1 0], _, [], [1], [13]⟩, ⟨[.op 2 0], _, [], [1, 2], [14]⟩, ⟨[.op 0 0, .op 3 0], _, [], Lr 4, [15]⟩]) (F := [.old 0, .old 1, .old 2, .old 3, .op 4 0]) hst hb Zb
       (o_p rfl (Za rfl rfl u_0) <| o_p rfl (Zi Zdb rfl rfl u_0) <| o_p rfl (Zf Zej rfl rfl u_0) <| o_p rfl (Z5 Try.underlying41 rfl rfl u_0) <| o_p rfl (Zce rfl rfl u_0 u_1) <| o_n) (by kernel_rfl) (fun a g hst hb => ?_)
     refine wp_cond_split (hst.bool 4 rfl) (fun hc2 => ?_) (fun hc2 => ?_)
     · replace H1 := Z2 hc2 H1
       refine wp_skip ?_
       refine Zj ?_
       refine wp_seq ?_
       refine wp_block ?_
       refine r_s (L := [(2, _), (3, _), (4, _), (7, _)]) (T := [⟨[], _, [], [], [8]⟩]) (F := [.old 0, .old 1, .old 2, .old 3, .op 0 0]) (hst.pick [0, 1, 2, 3] rfl) hb Zb
         (o_p rfl (Zc rfl rfl c_i) <| o_n) (by kernel_rfl) (fun a g hst hb => ?_)
       obtain ⟨z16, hz2, H1⟩ := Zd H1
       refine Zbm (fun a w => ∃ (g : G), w = g.w ∧ St 65 [(2, (Kd.str.sl.pd a2)), (3, (Zg.ptr a0)), (4, (Zg.ptr a1)), (7, (pInt .i64 x1))] a g ∧ Base g0 g ∧ (.inr ()) = z16) ?_ ?_
       · rintro a w ⟨g, rfl, hst, hb, rfl⟩
         refine Z4 ?_
         refine Zj ?_
         refine r_g (T := [⟨[.old 3], _, [], [], [16]⟩, ⟨[.op 0 0], _, [], [0], [17]⟩, ⟨[.op 1 0], _, [], [0, 1], [7]⟩]) (F := [.old 0, .old 1, .old 2, .op 2 0]) hst hb Zb
           (o_p rfl (Za rfl rfl u_0) <| o_p rfl (Zbw rfl rfl u_0 c_i rfl) <| o_p rfl (Zc rfl rfl u_0) <| o_n) (by kernel_rfl) (fun a g hst hb => ?_)
         exact ⟨n, Nat.lt_succ_self _, (IntKind.i64.wrap (x1 + (1 : Int))), g, rfl, (hst.pick [0, 1, 2, 3] rfl), hb, H1⟩
       · refine wp_block ?_
         refine wp_loop_ghost (fun n a w => ∃ (x3 : Int) (g : G), w = g.w ∧ St 65 [(2, (Kd.str.sl.pd a2)), (3, (Zg.ptr a0)), (4, (Zg.ptr a1)), (7, (pInt .i64 x1)), (8, (pInt .i64 x3))] a g ∧ Base g0 g ∧ Zbf a0 a1 a2 x1 n x3 = some z16) (Int.toNat ((a1.Acts.length : Int) - (0 : Int)) + 1) ⟨(0 : Int), g, rfl, (hst.pick [0, 1, 2, 3, 4] rfl), hb, hz2⟩ (fun n a w hI => ?_)
         obtain ⟨x3, g, rfl, hst, hb, H2⟩ := hI
         cases n with
         | zero => exact absurd H2 (by simp [Zbf])
         | succ n =>
           rw [Zbf] at H2
           refine wp_seq ?_
           refine r_s (T := [⟨[.old 4], _, [], [], [18]⟩, ⟨[.old 2], _, [], [], [19]⟩, ⟨[.op 1 0], _, [], [1], [20]⟩, ⟨[.op 2 0], _, [], [1, 2], [21]⟩, ⟨[.op 0 0, .op 3 0], _, [], Lr 4, [22]⟩]) (F := [.old 0, .old 1, .old 2, .old 3, .old 4, .op 4 0]) hst hb Zb
             (o_p rfl (Za rfl rfl u_0) <| o_p rfl (Zi Zdb rfl rfl u_0) <| o_p rfl (Zf Zej rfl rfl u_0) <| o_p rfl (Z5 Try.underlying41 rfl rfl u_0) <| o_p rfl (Zce rfl rfl u_0 u_1) <| o_n) (by kernel_rfl) (fun a g hst hb => ?_)
           refine wp_cond_split (hst.bool 5 rfl) (fun hc4 => ?_) (fun hc4 => ?_)
           · replace H2 := Z2 hc4 H2
             refine wp_skip ?_
             refine Zj ?_
             refine wp_seq ?_
             refine wp_block ?_
             obtain ⟨e5, h6, H2⟩ := Zd H2; obtain ⟨e7, h8, H2⟩ := Zd H2
             refine r_s (L := [(2, _), (3, _), (4, _), (7, _), (8, _)]) (T := ⟨[.old 1], _, [], [], [25]⟩ :: ⟨[.op 0 0], _, [], [0], [26]⟩ :: ⟨[.old 3], _, [], [], [27]⟩ :: ⟨[.op 1 0, .op 2 0], _, [], [0, 1, 2], [28]⟩ :: ⟨[.op 3 0], _, [], Lr 4, [29]⟩ :: ⟨[.old 2], _, [], [], [30]⟩ :: ⟨[.op 5 0], _, [], [5], [31]⟩ :: ⟨[.old 4], _, [], [], [32]⟩ :: ⟨[.op 6 0, .op 7 0], _, [], [5, 6, 7], [33]⟩ :: ⟨[.op 8 0], _, [], List.range' 5 4, [34]⟩ :: ⟨[], [(9, (pBox Zr 9 (default : Zm)))], [10], [], [9]⟩ :: ⟨[], [(10, (pBox Zr 10 (default : Zm)))], [11], [], [10]⟩ :: ⟨[.op 4 0, .op 10 0], _, [10], [0, 1, 2, 3, 4, 10, 11], [9]⟩ :: ⟨[.op 9 0, .op 11 0], _, [11], Lr 13, [10]⟩ :: []) (F := [.old 0, .old 1, .old 2, .old 3, .old 4, .op 12 0, .op 13 0]) (hst.pick [0, 1, 2, 3, 4] rfl) hb Zb
               (o_p rfl (Zi Zdb rfl rfl u_0) <| o_p rfl (Zf Zej rfl rfl u_0) <| o_p rfl (Za rfl rfl u_0) <| o_p rfl (Zq Try.underlying41 Zfq rfl rfl u_0 u_1 h6) <| o_p rfl (Zf Zek rfl rfl u_0) <| o_p rfl (Zi Zdb rfl rfl u_0) <| o_p rfl (Zf Zej rfl rfl u_0) <| o_p rfl (Za rfl rfl u_0) <| o_p rfl (Zq Try.underlying41 Zfq rfl rfl u_0 u_1 h8) <| o_p rfl (Zf Zek rfl rfl u_0) <| o_p rfl (Zd7 (zs := [.int .i64 0, .string ByteArray.empty, .int .i64 0, .float .f64 0, .string ByteArray.empty, .int .i64 0, .int .i64 0, .int .i64 0, .int .i64 0, .float .f64 0, .int .i64 0, .string ByteArray.empty, .slice none 0 0, .bool false]) (by kernel_rfl) (fun g => Zex g) rfl rfl) <| o_p rfl (Zd7 (zs := [.int .i64 0, .string ByteArray.empty, .int .i64 0, .float .f64 0, .string ByteArray.empty, .int .i64 0, .int .i64 0, .int .i64 0, .int .i64 0, .float .f64 0, .int .i64 0, .string ByteArray.empty, .slice none 0 0, .bool false]) (by kernel_rfl) (fun g => Zex g) rfl rfl) <| o_p rfl (Zdp Zek rfl rfl u_1 u_0) <| o_p rfl (Zdp Zek rfl rfl u_1 u_0) <| o_n) (by kernel_rfl) (fun a g hst hb => ?_)
             obtain ⟨r9, h10, H2⟩ := Zd H2; obtain ⟨r11, h12, H2⟩ := Zd H2; obtain ⟨r13, h14, H2⟩ := Zd H2
             refine r_s (T := ⟨[.old 5], _, [], [], [35]⟩ :: ⟨[.op 0 0], _, [], [0], [36]⟩ :: ⟨[.old 6], _, [], [], [37]⟩ :: ⟨[.op 2 0], _, [], [2], [38]⟩ :: ⟨[.op 1 0, .op 3 0], _, [], Lr 4, [39]⟩ :: ⟨[.op 4 0], _, [], Lr 5, [40]⟩ :: ⟨[.op 5 0, .old 0], _, [], Lr 6, [41]⟩ :: ⟨[.op 5 0, .old 5], _, [], Lr 6, [42]⟩ :: ⟨[.op 5 0, .op 7 0], _, [], [0, 1, 2, 3, 4, 5, 7], [43]⟩ :: ⟨[.op 5 0, .op 6 0, .op 8 0], _, [], Lr 9, [44]⟩ :: ⟨[.op 5 0, .op 9 0], _, [], Lr 10, [45]⟩ :: ⟨[.op 5 0, .op 10 0], _, [], Lr 11, [46]⟩ :: ⟨[.op 11 0], _, [], Lr 12, [47]⟩ :: ⟨[.op 12 0, .old 5], _, [], Lr 13, [48]⟩ :: ⟨[.op 12 0, .op 13 0], _, [], Lr 14, [49]⟩ :: ⟨[.op 12 0, .op 14 0], _, [], Lr 15, [50]⟩ :: ⟨[.op 12 0, .op 15 0], _, [], Lr 16, [51]⟩ :: ⟨[.op 12 0, .op 16 0], _, [], Lr 17, [52]⟩ :: ⟨[.op 17 0, .old 6], _, [], Lr 18, [53]⟩ :: ⟨[.op 17 0, .op 18 0], _, [], Lr 19, [54]⟩ :: ⟨[.op 17 0, .op 19 0], _, [], Lr 20, [55]⟩ :: ⟨[.op 17 0, .op 20 0], _, [], Lr 21, [56]⟩ :: ⟨[.op 12 0, .op 17 0, .op 21 0], _, [], Lr 22, [57]⟩ :: ⟨[.op 12 0, .op 22 0], _, [], Lr 23, [58]⟩ :: []) (F := [.old 0, .old 1, .old 2, .old 3, .old 4, .op 23 0]) hst hb Zb
               (o_p rfl (Zi Ze1 rfl rfl u_0) <| o_p rfl (Zf ty_9 rfl rfl u_0) <| o_p rfl (Zi Ze1 rfl rfl u_0) <| o_p rfl (Zf ty_9 rfl rfl u_0) <| o_p rfl (Zhl rfl rfl u_0 u_1) <| o_p rfl (Za rfl rfl u_0) <| o_g (g_t rfl rfl rfl (fun hG => Za rfl rfl u_0)) <| o_g (g_t rfl rfl rfl (fun hG => Zi Ze1 rfl rfl u_0)) <| o_g (g_t rfl rfl rfl (fun hG => Zf ty_9 rfl rfl (Opd.gd hG u_0))) <| o_g (g_t rfl rfl rfl (fun hG => Zbc Zn4 (Zgp _ _ (Zbh h10 hG)) rfl rfl (.cons (Opd.gd hG u_0) (.cons (Opd.gd hG u_1) .nil)))) <| o_g (g_t rfl rfl rfl (fun hG => Zds rfl rfl (Opd.gd hG u_0))) <| o_p rfl (Zb6 rfl rfl u_0 (fun hz => (Opd.gd hz u_1))) <| o_p rfl (Za rfl rfl u_0) <| o_g (g_t rfl rfl rfl (fun hG => Zi Zer rfl rfl u_0)) <| o_g (g_t rfl rfl rfl (fun hG => Zf ty_3 rfl rfl (Opd.gd hG u_0))) <| o_g (g_t rfl rfl rfl (fun hG => Zbc Zmd (Zew _ (Zbh h12 hG)) rfl rfl (.cons (Opd.gd hG u_0) .nil))) <| o_g (g_t rfl rfl rfl (fun hG => Zds rfl rfl (Opd.gd hG u_0))) <| o_g (g_t rfl rfl rfl (fun hG => Za rfl rfl (Opd.gd hG u_0))) <| o_g (g_fi rfl rfl rfl (fun hG => Zi Zer rfl rfl u_0)) <| o_g (g_fi rfl rfl rfl (fun hG => Zf ty_3 rfl rfl (Opd.gd hG u_0))) <| o_g (g_fi rfl rfl rfl (fun hG => Zbc Zmd (Zew _ (Zbh h14 hG)) rfl rfl (.cons (Opd.gd hG u_0) .nil))) <| o_g (g_fi rfl rfl rfl (fun hG => Zds rfl rfl (Opd.gd hG u_0))) <| o_g (g_t rfl rfl rfl (fun hG => Zb0 rfl rfl (Opd.gd hG u_0) (fun hz => (Opd.gd (bA hG (bNF hz)) u_1)))) <| o_p rfl (Zb6 rfl rfl u_0 (fun hz => (Opd.gd hz u_1))) <| o_n) (by kernel_rfl) (fun a g hst hb => ?_)
             refine wp_cond_split (hst.bool 5 rfl) (fun hc15 => ?_) (fun hc15 => ?_)
             · replace H2 := Z2 hc15 H2
               refine r_s (L := []) (T := [⟨[], _, [], [], [6]⟩]) (F := [.op 0 0]) (hst.pick [] rfl) hb Zb
                 (o_p rfl (Zc rfl rfl c_b) <| o_n) (by kernel_rfl) (fun a g hst hb => ?_)
               refine wp_ret ?_
               refine Zt ?_
               refine Zh ?_
               refine Zh ?_
               refine Zt ?_
               refine Zh ?_
               refine Zt ?_
               refine Zh ?_
               refine Zh ?_
               refine Zt ?_
               refine Zh ?_
               refine Zh ?_
               obtain rfl := Option.some.inj H2
               obtain rfl := Option.some.inj H1
               obtain rfl := Option.some.inj H0
               exact Z7 rfl hst hb (Zl (s := 6)) (hst.at 0 rfl)
             · replace H2 := Z0 hc15 H2
               refine wp_skip ?_
               refine Z4 ?_
               refine Zj ?_
               refine r_g (L := [(2, _), (3, _), (4, _), (7, _), (8, _)]) (T := [⟨[.old 4], _, [], [], [23]⟩, ⟨[.op 0 0], _, [], [0], [24]⟩, ⟨[.op 1 0], _, [], [0, 1], [8]⟩]) (F := [.old 0, .old 1, .old 2, .old 3, .op 2 0]) (hst.pick [0, 1, 2, 3, 4] rfl) hb Zb
                 (o_p rfl (Za rfl rfl u_0) <| o_p rfl (Zbw rfl rfl u_0 c_i rfl) <| o_p rfl (Zc rfl rfl u_0) <| o_n) (by kernel_rfl) (fun a g hst hb => ?_)
               exact ⟨n, Nat.lt_succ_self _, (IntKind.i64.wrap (x3 + (1 : Int))), g, rfl, (hst.pick [0, 1, 2, 3, 4] rfl), hb, H2⟩
           · replace H2 := Z0 hc4 H2
             refine wp_exit ?_
             refine Zz ?_
             refine Zz ?_
             refine Zbb ?_
             exact ⟨g, rfl, (hst.pick [0, 1, 2, 3] rfl), hb, Option.some.inj H2⟩
     · replace H1 := Z0 hc2 H1
       refine wp_exit ?_
       refine Zz ?_
       refine Zz ?_
       refine Zbb ?_
       exact ⟨g, rfl, (hst.pick [1, 2] rfl), hb, Option.some.inj H1⟩
theorem Zfm (a0 : List Ze) (a1 : List ByteArray) (a2 : List Int) {r : Bool} (h : Zcu a0 a1 a2 = some r) : FnOk Try.prog 6 [(Zg.sl.pd a0), (Kd.str.sl.pd a1), ((Kd.int .i64).sl.pd a2)] (Zp r) := by
 have H0 := h
 unfold Zcu at H0
 clear h
 refine Zb1 (N := 109) Try.func6 rfl rfl (Nat.le_of_ble_eq_true rfl) rfl rfl (fun a g0 hst hb => ?_)
 refine r_s (T := [⟨[], _, [], [], [6]⟩]) (F := [.old 0, .old 1, .old 2]) hst hb Zb
   (o_p rfl (Zc rfl rfl c_b) <| o_n) (by kernel_rfl) (fun a g hst hb => ?_)
 refine wp_seq ?_
 obtain ⟨r1, h2, H0⟩ := Zd H0
 refine r_s (T := [⟨[], _, [], [], [15]⟩, ⟨[.op 0 0], _, [], [0], [16]⟩]) (F := [.old 0, .old 1, .old 2, .op 1 0]) hst hb Zb
   (o_p rfl (Zbc en_7 (Zf1 h2) rfl rfl .nil) <| o_p rfl (Zds rfl rfl u_0) <| o_n) (by kernel_rfl) (fun a g hst hb => ?_)
 refine wp_cond_split (hst.bool 3 rfl) (fun hc3 => ?_) (fun hc3 => ?_)
 · replace H0 := Z2 hc3 H0
   refine r_s (L := []) (T := [⟨[], _, [], [], [6]⟩]) (F := [.op 0 0]) (hst.pick [] rfl) hb Zb
     (o_p rfl (Zc rfl rfl c_b) <| o_n) (by kernel_rfl) (fun a g hst hb => ?_)
   refine wp_ret ?_
   refine Zh ?_
   obtain rfl := Option.some.inj H0
   exact Z7 rfl hst hb (Zl (s := 6)) (hst.at 0 rfl)
 · replace H0 := Z0 hc3 H0
   refine wp_skip ?_
   refine Zj ?_
   refine wp_seq ?_
   obtain ⟨r4, h5, H0⟩ := Zd H0
   refine r_s (L := [(0, _), (1, _), (2, _)]) (T := ⟨[.old 0], _, [], [], [17]⟩ :: ⟨[.op 0 0], _, [], [0], [18]⟩ :: ⟨[.op 1 0], _, [], [0, 1], [19]⟩ :: ⟨[.op 2 0], _, [], [0, 1, 2], [20]⟩ :: ⟨[.op 3 0, .old 1], _, [], Lr 4, [21]⟩ :: ⟨[.op 3 0, .op 4 0], _, [], Lr 5, [22]⟩ :: ⟨[.op 3 0, .op 5 0], _, [], Lr 6, [23]⟩ :: ⟨[.op 3 0, .op 6 0], _, [], Lr 7, [24]⟩ :: ⟨[.op 7 0], _, [], Lr 8, [25]⟩ :: ⟨[.op 8 0, .old 2], _, [], Lr 9, [26]⟩ :: ⟨[.op 8 0, .op 9 0], _, [], Lr 10, [27]⟩ :: ⟨[.op 8 0, .op 10 0], _, [], Lr 11, [28]⟩ :: ⟨[.op 8 0, .op 11 0], _, [], Lr 12, [29]⟩ :: []) (F := [.old 0, .old 1, .old 2, .op 12 0]) (hst.pick [0, 1, 2] rfl) hb Zb
     (o_p rfl (Za rfl rfl u_0) <| o_p rfl (Zbc en_8 (Zgx _ h5) rfl rfl (.cons u_0 .nil)) <| o_p rfl (Zec rfl rfl u_0 c_i) <| o_p rfl (Za rfl rfl u_0) <| o_g (g_f rfl rfl rfl (fun hG => Za rfl rfl u_0)) <| o_g (g_f rfl rfl rfl (fun hG => Z5 Try.underlying23 rfl rfl (Opd.gd hG u_0))) <| o_g (g_f rfl rfl rfl (fun hG => Zec rfl rfl (Opd.gd hG u_0) c_i)) <| o_p rfl (Zb0 rfl rfl u_0 (fun hz => (Opd.gd (bNF hz) u_1))) <| o_p rfl (Za rfl rfl u_0) <| o_g (g_f rfl rfl rfl (fun hG => Za rfl rfl u_0)) <| o_g (g_f rfl rfl rfl (fun hG => Z5 Try.underlying24 rfl rfl (Opd.gd hG u_0))) <| o_g (g_f rfl rfl rfl (fun hG => Zec rfl rfl (Opd.gd hG u_0) c_i)) <| o_p rfl (Zb0 rfl rfl u_0 (fun hz => (Opd.gd (bNF hz) u_1))) <| o_n) (by kernel_rfl) (fun a g hst hb => ?_)
   refine wp_cond_split (hst.bool 3 rfl) (fun hc6 => ?_) (fun hc6 => ?_)
   · replace H0 := Z2 hc6 H0
     refine r_s (L := []) (T := [⟨[], _, [], [], [6]⟩]) (F := [.op 0 0]) (hst.pick [] rfl) hb Zb
       (o_p rfl (Zc rfl rfl c_b) <| o_n) (by kernel_rfl) (fun a g hst hb => ?_)
     refine wp_ret ?_
     refine Zh ?_
     obtain rfl := Option.some.inj H0
     exact Z7 rfl hst hb (Zl (s := 6)) (hst.at 0 rfl)
   · replace H0 := Z0 hc6 H0
     refine wp_skip ?_
     refine Zj ?_
     obtain ⟨r7, h8, H0⟩ := Zd H0; obtain ⟨r9, h10, H0⟩ := Zd H0
     refine r_s (L := [(0, _), (1, _), (2, _)]) (T := [⟨[.old 0], _, [], [], [30]⟩, ⟨[.old 0], _, [], [], [31]⟩, ⟨[.op 1 0], [(32, ((Kd.int .i64).sl.pd r7))], [], [1], [32]⟩, ⟨[.old 1], _, [], [], [33]⟩, ⟨[.op 0 0, .op 2 0, .op 3 0], [(34, (pObj Z6 34 r9))], [35, 1000035], Lr 4, [34]⟩, ⟨[.op 4 0], [(7, (pObj Z6 34 r9))], [], Lr 5, [7]⟩]) (F := [.old 0, .old 1, .old 2, .op 5 0]) (hst.pick [0, 1, 2] rfl) hb Zb
       (o_p rfl (Za rfl rfl u_0) <| o_p rfl (Za rfl rfl u_0) <| o_p rfl (Zbc en_9 (Zez _ _ h8) rfl rfl (.cons u_0 (.cons (Opd.c (fun g => Ze0 g)) .nil))) <| o_p rfl (Za rfl rfl u_0) <| o_p rfl (Zge Zkq (Zfv _ _ _ h10) rfl rfl (.cons u_0 (.cons u_1 (.cons u_2 .nil)))) <| o_p rfl (Zc rfl rfl u_0) <| o_n) (by kernel_rfl) (fun a g hst hb => ?_)
     refine r_s (T := [⟨[], [(8, (pRow (Kd.int .i64) 3 8 ([] : List Int)))], [], [], [8]⟩]) (F := [.old 0, .old 1, .old 2, .old 3, .op 0 0]) hst hb Zb
       (o_p rfl (Zc rfl rfl (Opd.c (fun g => Ze3 8 g))) <| o_n) (by kernel_rfl) (fun a g hst hb => ?_)
     refine wp_seq ?_
     obtain ⟨h11, H0⟩ := Zev H0; obtain ⟨r12, h13, H0⟩ := Zd H0; obtain ⟨h14, H0⟩ := Zev H0
     refine r_s (T := [⟨[], _, [36], [], [35]⟩, ⟨[.old 2], _, [], [], [36]⟩, ⟨[.op 0 0, .op 1 0], _, [36], [0, 1], [35, 37]⟩, ⟨[.old 0], _, [], [], [38]⟩, ⟨[.op 3 0], [(39, ((Kd.int .i64).sl.pd r12))], [], Lr 4, [39]⟩, ⟨[.op 2 0, .op 4 0], _, [36], Lr 5, [35, 37, 40]⟩, ⟨[.op 5 0], _, [], Lr 6, [41]⟩, ⟨[], _, [], [], [42]⟩]) (F := [.old 0, .old 1, .old 3, .old 4, .op 5 0, .op 6 0, .op 7 0]) hst hb Zb
       (o_p rfl (Zk5 35 Zc0 (xs := []) .nil (by decide) rfl rfl) <| o_p rfl (Za rfl rfl u_0) <| o_p rfl (Zet Zc0 rfl rfl u_0 u_1 h11) <| o_p rfl (Za rfl rfl u_0) <| o_p rfl (Zbc en_9 (Zez _ _ h13) rfl rfl (.cons u_0 (.cons (Opd.c (fun g => Ze0 g)) .nil))) <| o_p rfl (Zet Zc0 rfl rfl u_0 u_1 h14) <| o_p rfl (Z5 Try.underlying24 rfl rfl (Opd.imp u_0 (fun _ _ h => Zd8 h))) <| o_p rfl (Za rfl rfl c_i) <| o_n) (by kernel_rfl) (fun a g hst hb => ?_)
     obtain ⟨z29, hz1, H0⟩ := Zd H0
     refine Zbm (fun a w => ∃ (y27 : Zx) (y28 : List Int) (g : G), w = g.w ∧ St 109 [(0, (Zg.sl.pd a0)), (1, (Kd.str.sl.pd a1)), (7, (pObj Z6 34 y27)), (8, (pRow (Kd.int .i64) 3 8 y28))] a g ∧ Base g0 g ∧ (y27, y28) = z29) ?_ ?_
     · rintro a w ⟨y27, y28, g, rfl, hst, hb, rfl⟩
       refine Zj ?_
       refine wp_seq ?_
       obtain ⟨r30, h31, H0⟩ := Zd H0
       refine r_s (T := [⟨[.old 3], _, [], [], [54]⟩, ⟨[.op 0 0], _, [], [0], [55]⟩, ⟨[.old 0], _, [], [], [56]⟩, ⟨[.op 2 0], _, [], [2], [57]⟩, ⟨[.op 1 0, .op 3 0], _, [], Lr 4, [58]⟩, ⟨[.op 4 0], _, [], Lr 5, [59]⟩, ⟨[.op 5 0, .old 2], [(60, (pIf (!((y28.length : Int) != (a0.length : Int))) (pObj Z6 34 y27)))], [], Lr 6, [60]⟩, ⟨[.op 5 0, .op 6 0, .old 2], [(61, (pIf (!((y28.length : Int) != (a0.length : Int))) (pInt .i64 r30))), (7, (pObj Z6 34 y27))], [35, 1000035], Lr 7, [7, 60, 61]⟩, ⟨[.op 5 0, .op 7 0], _, [], Lr 8, [62]⟩, ⟨[.op 5 0, .op 8 0], _, [], Lr 9, [63]⟩]) (F := [.old 0, .old 1, .old 3, .op 9 0]) hst hb Zb
         (o_p rfl (Za rfl rfl u_0) <| o_p rfl (Z5 Try.underlying24 rfl rfl (Opd.imp u_0 (fun _ _ h => Zd8 h))) <| o_p rfl (Za rfl rfl u_0) <| o_p rfl (Z5 Try.underlying22 rfl rfl u_0) <| o_p rfl (Zhr rfl rfl u_0 u_1) <| o_p rfl (Za rfl rfl u_0) <| o_g (g_f rfl rfl rfl (fun hG => Za rfl rfl u_0)) <| o_g (OT.guardM (!((y28.length : Int) != (a0.length : Int))) (gF ((y28.length : Int) != (a0.length : Int))).1 (gF ((y28.length : Int) != (a0.length : Int))).2 rfl rfl rfl (by decide) u_1 (fun hG => Zcw Zkt (Zeg _ (Zbh h31 hG)) rfl rfl rfl (by decide) u_1 (Opd.gd hG u_0) .nil) (ite_self _).symm) <| o_g (g_f rfl rfl rfl (fun hG => Zhr rfl rfl (Opd.gd hG u_0) c_i)) <| o_p rfl (Zb0 rfl rfl u_0 (fun hz => (Opd.gd (bNF hz) u_1))) <| o_n) (by kernel_rfl) (fun a g hst hb => ?_)
       refine wp_cond_split (hst.bool 3 rfl) (fun hc32 => ?_) (fun hc32 => ?_)
       · replace H0 := Z2 hc32 H0
         refine r_s (L := []) (T := [⟨[], _, [], [], [6]⟩]) (F := [.op 0 0]) (hst.pick [] rfl) hb Zb
           (o_p rfl (Zc rfl rfl c_b) <| o_n) (by kernel_rfl) (fun a g hst hb => ?_)
         refine wp_ret ?_
         refine Zh ?_
         obtain rfl := Option.some.inj H0
         exact Z7 rfl hst hb (Zl (s := 6)) (hst.at 0 rfl)
       · replace H0 := Z0 hc32 H0
         refine wp_skip ?_
         refine Zj ?_
         refine wp_seq ?_
         refine r_s (L := [(0, _), (1, _), (8, _)]) (T := [⟨[.old 2], _, [], [], [64]⟩, ⟨[.op 0 0], _, [], [0], [65]⟩, ⟨[], _, [], [], [66]⟩]) (F := [.old 0, .old 1, .old 2, .op 0 0, .op 1 0, .op 2 0]) (hst.pick [0, 1, 2] rfl) hb Zb
           (o_p rfl (Za rfl rfl u_0) <| o_p rfl (Z5 Try.underlying24 rfl rfl (Opd.imp u_0 (fun _ _ h => Zd8 h))) <| o_p rfl (Za rfl rfl c_i) <| o_n) (by kernel_rfl) (fun a g hst hb => ?_)
         obtain ⟨z52, hz2, H0⟩ := Zd H0
         refine Zbm (fun a w => ∃ (g : G), w = g.w ∧ St 109 [] a g ∧ Base g0 g ∧ (.inr ()) = z52) ?_ ?_
         · rintro a w ⟨g, rfl, hst, hb, rfl⟩
           refine Zj ?_
           refine r_s (T := [⟨[], _, [], [], [6]⟩]) (F := [.op 0 0]) hst hb Zb
             (o_p rfl (Zc rfl rfl c_b) <| o_n) (by kernel_rfl) (fun a g hst hb => ?_)
           refine wp_ret ?_
           obtain rfl := Option.some.inj H0
           exact Z7 rfl hst hb (Zl (s := 6)) (hst.at 0 rfl)
         · refine wp_block ?_
           refine wp_loop_ghost (fun n a w => ∃ (x33 : Int) (g : G), w = g.w ∧ St 109 [(0, (Zg.sl.pd a0)), (1, (Kd.str.sl.pd a1)), (8, (pRow (Kd.int .i64) 3 8 y28)), (64, (pRow (Kd.int .i64) 3 8 y28)), (65, (pInt .i64 (y28.length : Int))), (66, (pInt .i64 x33))] a g ∧ Base g0 g ∧ Zv a0 a1 y28 n x33 = some z52) (Int.toNat ((y28.length : Int) - (0 : Int)) + 1) ⟨(0 : Int), g, rfl, (hst.pick [0, 1, 2, 3, 4, 5] rfl), hb, hz2⟩ (fun n a w hI => ?_)
           obtain ⟨x33, g, rfl, hst, hb, H1⟩ := hI
           cases n with
           | zero => exact absurd H1 (by simp [Zv])
           | succ n =>
             rw [Zv] at H1
             refine r_s (T := [⟨[.old 5, .old 4], _, [], [], [67]⟩]) (F := [.old 0, .old 1, .old 2, .old 3, .old 4, .old 5, .op 0 0]) hst hb Zb
               (o_p rfl (Zce rfl rfl u_0 u_1) <| o_n) (by kernel_rfl) (fun a g hst hb => ?_)
             refine wp_seq ?_
             refine wp_cond_split (hst.bool 6 rfl) (fun hc34 => ?_) (fun hc34 => ?_)
             · replace H1 := Z2 hc34 H1
               refine wp_skip ?_
               refine Zj ?_
               refine wp_seq ?_
               refine wp_block ?_
               obtain ⟨e35, h36, H1⟩ := Zd H1
               refine r_s (L := [(0, _), (1, _), (8, _), (64, _), (65, _), (66, _)]) (T := [⟨[.old 5], _, [], [], [68]⟩, ⟨[.old 3, .old 5], _, [], [], [69]⟩, ⟨[.op 1 0], _, [], [1], [70]⟩, ⟨[.op 0 0], _, [], [0, 1, 2], [11]⟩, ⟨[.op 2 0], _, [], Lr 4, [12]⟩]) (F := [.old 0, .old 1, .old 2, .op 3 0, .op 4 0, .old 3, .old 4, .old 5]) (hst.pick [0, 1, 2, 3, 4, 5] rfl) hb Zb
                 (o_p rfl (Za rfl rfl u_0) <| o_p rfl (Zq Try.underlying24 sz_3 rfl rfl (Opd.imp u_0 (fun _ _ h => Zd8 h)) u_1 h36) <| o_p rfl (Zf ty_3 rfl rfl u_0) <| o_p rfl (Zc rfl rfl u_0) <| o_p rfl (Zc rfl rfl u_0) <| o_n) (by kernel_rfl) (fun a g hst hb => ?_)
               refine wp_seq ?_
               refine r_s (T := [⟨[.old 4], _, [], [], [71]⟩, ⟨[.op 0 0], _, [], [0], [72]⟩, ⟨[.op 1 0], _, [], [0, 1], [73]⟩, ⟨[.op 2 0, .old 4], _, [], [0, 1, 2], [74]⟩, ⟨[.op 2 0, .old 0], _, [], [0, 1, 2], [75]⟩, ⟨[.op 2 0, .op 4 0], _, [], [0, 1, 2, 4], [76]⟩, ⟨[.op 2 0, .op 3 0, .op 5 0], _, [], Lr 6, [77]⟩, ⟨[.op 2 0, .op 6 0], _, [], Lr 7, [78]⟩]) (F := [.old 0, .old 1, .old 2, .old 3, .old 4, .old 5, .old 6, .old 7, .op 7 0]) hst hb Zb
                 (o_p rfl (Za rfl rfl u_0) <| o_p rfl (Zce rfl rfl u_0 c_i) <| o_p rfl (Za rfl rfl u_0) <| o_g (g_f rfl rfl rfl (fun hG => Za rfl rfl u_0)) <| o_g (g_f rfl rfl rfl (fun hG => Za rfl rfl u_0)) <| o_g (g_f rfl rfl rfl (fun hG => Z5 Try.underlying22 rfl rfl (Opd.gd hG u_0))) <| o_g (g_f rfl rfl rfl (fun hG => Zg0 rfl rfl (Opd.gd hG u_0) (Opd.gd hG u_1))) <| o_p rfl (Zb0 rfl rfl u_0 (fun hz => (Opd.gd (bNF hz) u_1))) <| o_n) (by kernel_rfl) (fun a g hst hb => ?_)
               refine wp_cond_split (hst.bool 8 rfl) (fun hc37 => ?_) (fun hc37 => ?_)
               · replace H1 := Z2 hc37 H1
                 refine r_s (L := []) (T := [⟨[], _, [], [], [6]⟩]) (F := [.op 0 0]) (hst.pick [] rfl) hb Zb
                   (o_p rfl (Zc rfl rfl c_b) <| o_n) (by kernel_rfl) (fun a g hst hb => ?_)
                 refine wp_ret ?_
                 refine Zh ?_
                 refine Zt ?_
                 refine Zh ?_
                 refine Zh ?_
                 refine Zt ?_
                 refine Zh ?_
                 refine Zh ?_
                 obtain rfl := Option.some.inj H1
                 obtain rfl := Option.some.inj H0
                 exact Z7 rfl hst hb (Zl (s := 6)) (hst.at 0 rfl)
               · replace H1 := Z0 hc37 H1
                 refine wp_skip ?_
                 refine Zj ?_
                 obtain ⟨c38, h39, H1⟩ := Zd H1
                 refine r_s (L := [(0, _), (1, _), (8, _), (11, _), (12, _), (64, _), (65, _), (66, _)]) (T := [⟨[.old 2], _, [], [], [79]⟩, ⟨[.old 3], _, [], [], [80]⟩, ⟨[.op 0 0, .op 1 0], _, [], [0, 1], [81]⟩, ⟨[.op 2 0], _, [], [0, 1, 2], [82]⟩, ⟨[], _, [], [], [83]⟩]) (F := [.old 0, .old 1, .old 2, .old 4, .old 5, .old 6, .old 7, .op 2 0, .op 3 0, .op 4 0]) (hst.pick [0, 1, 2, 3, 4, 5, 6, 7] rfl) hb Zb
                   (o_p rfl (Za rfl rfl u_0) <| o_p rfl (Za rfl rfl u_0) <| o_p rfl (Zj3 Try.underlying24 sz_3 rfl rfl (Opd.imp u_0 (fun _ _ h => Zd8 h)) u_1 h39) <| o_p rfl (Z5 Try.underlying24 rfl rfl u_0) <| o_p rfl (Za rfl rfl c_i) <| o_n) (by kernel_rfl) (fun a g hst hb => ?_)
                 obtain ⟨z51, hz3, H1⟩ := Zd H1
                 refine Zbm (fun a w => ∃ (g : G), w = g.w ∧ St 109 [(0, (Zg.sl.pd a0)), (1, (Kd.str.sl.pd a1)), (8, (pRow (Kd.int .i64) 3 8 y28)), (64, (pRow (Kd.int .i64) 3 8 y28)), (65, (pInt .i64 (y28.length : Int))), (66, (pInt .i64 x33))] a g ∧ Base g0 g ∧ (.inr ()) = z51) ?_ ?_
                 · rintro a w ⟨g, rfl, hst, hb, rfl⟩
                   refine Z4 ?_
                   refine Zj ?_
                   refine r_g (T := [⟨[.old 5], _, [], [], [108]⟩, ⟨[.op 0 0], _, [], [0], [66]⟩]) (F := [.old 0, .old 1, .old 2, .old 3, .old 4, .op 1 0]) hst hb Zb
                     (o_p rfl (Zbw rfl rfl u_0 c_i rfl) <| o_p rfl (Za rfl rfl u_0) <| o_n) (by kernel_rfl) (fun a g hst hb => ?_)
                   exact ⟨n, Nat.lt_succ_self _, (IntKind.i64.wrap (x33 + (1 : Int))), g, rfl, (hst.pick [0, 1, 2, 3, 4, 5] rfl), hb, H1⟩
                 · refine wp_block ?_
                   refine wp_loop_ghost (fun n a w => ∃ (x40 : Int) (g : G), w = g.w ∧ St 109 [(0, (Zg.sl.pd a0)), (1, (Kd.str.sl.pd a1)), (8, (pRow (Kd.int .i64) 3 8 y28)), (12, (pInt .i64 e35)), (64, (pRow (Kd.int .i64) 3 8 y28)), (65, (pInt .i64 (y28.length : Int))), (66, (pInt .i64 x33)), (81, ((Kd.int .i64).sl.pd c38)), (82, (pInt .i64 (c38.length : Int))), (83, (pInt .i64 x40))] a g ∧ Base g0 g ∧ Zw a0 a1 e35 c38 n x40 = some z51) (Int.toNat ((c38.length : Int) - (0 : Int)) + 1) ⟨(0 : Int), g, rfl, (hst.pick [0, 1, 2, 3, 4, 5, 6, 7, 8, 9] rfl), hb, hz3⟩ (fun n a w hI => ?_)
                   obtain ⟨x40, g, rfl, hst, hb, H2⟩ := hI
                   cases n with
                   | zero => exact absurd H2 (by simp [Zw])
                   | succ n =>
                     rw [Zw] at H2
                     refine r_s (T := [⟨[.old 9, .old 8], _, [], [], [84]⟩]) (F := [.old 0, .old 1, .old 2, .old 3, .old 4, .old 5, .old 6, .old 7, .old 8, .old 9, .op 0 0]) hst hb Zb
                       (o_p rfl (Zce rfl rfl u_0 u_1) <| o_n) (by kernel_rfl) (fun a g hst hb => ?_)
                     refine wp_seq ?_
                     refine wp_cond_split (hst.bool 10 rfl) (fun hc41 => ?_) (fun hc41 => ?_)
                     · replace H2 := Z2 hc41 H2
                       refine wp_skip ?_
                       refine Zj ?_
                       refine wp_seq ?_
                       refine wp_block ?_
                       obtain ⟨e42, h43, H2⟩ := Zd H2
                       refine r_s (L := [(0, _), (1, _), (8, _), (12, _), (64, _), (65, _), (66, _), (81, _), (82, _), (83, _)]) (T := [⟨[.old 7, .old 9], _, [], [], [85]⟩, ⟨[.op 0 0], _, [], [0], [86]⟩, ⟨[.op 1 0], _, [], [0, 1], [14]⟩]) (F := [.old 0, .old 1, .old 2, .old 3, .op 2 0, .old 4, .old 5, .old 6, .old 7, .old 8, .old 9]) (hst.pick [0, 1, 2, 3, 4, 5, 6, 7, 8, 9] rfl) hb Zb
                         (o_p rfl (Zq Try.underlying24 sz_3 rfl rfl u_0 u_1 h43) <| o_p rfl (Zf ty_3 rfl rfl u_0) <| o_p rfl (Zc rfl rfl u_0) <| o_n) (by kernel_rfl) (fun a g hst hb => ?_)
                       obtain ⟨e44, h45, H2⟩ := Zd H2; obtain ⟨e46, h47, H2⟩ := Zd H2; obtain ⟨r48, h49, H2⟩ := Zd H2
                       refine r_s (T := ⟨[.old 4], _, [], [], [87]⟩ :: ⟨[.old 3], _, [], [], [88]⟩ :: ⟨[.op 0 0, .op 1 0], _, [], [0, 1], [89]⟩ :: ⟨[.op 2 0], _, [], [0, 1, 2], [90]⟩ :: ⟨[.op 3 0, .old 4], _, [], Lr 4, [91]⟩ :: ⟨[.op 3 0, .old 3], _, [], Lr 4, [92]⟩ :: ⟨[.op 3 0, .op 4 0, .op 5 0], _, [], Lr 6, [93]⟩ :: ⟨[.op 3 0, .op 6 0], _, [], Lr 7, [94]⟩ :: ⟨[.op 7 0, .old 0], _, [], Lr 8, [95]⟩ :: ⟨[.op 7 0, .old 3], _, [], Lr 8, [96]⟩ :: ⟨[.op 7 0, .op 8 0, .op 9 0], _, [], Lr 10, [97]⟩ :: ⟨[.op 7 0, .op 10 0], _, [], Lr 11, [98]⟩ :: ⟨[.op 7 0, .old 0], _, [], Lr 8, [99]⟩ :: ⟨[.op 7 0, .old 4], _, [], Lr 8, [100]⟩ :: ⟨[.op 7 0, .op 12 0, .op 13 0], _, [], [0, 1, 2, 3, 4, 5, 6, 7, 12, 13], [101]⟩ :: ⟨[.op 7 0, .op 14 0], _, [], [0, 1, 2, 3, 4, 5, 6, 7, 12, 13, 14], [102]⟩ :: ⟨[.op 7 0, .old 1], _, [], Lr 8, [103]⟩ :: ⟨[.op 7 0, .op 11 0, .op 15 0, .op 16 0], _, [], Lr 17, [104]⟩ :: ⟨[.op 3 0, .op 7 0, .op 17 0], _, [], Lr 18, [105]⟩ :: ⟨[.op 3 0, .op 18 0], _, [], Lr 19, [106]⟩ :: []) (F := [.old 0, .old 1, .old 2, .old 3, .old 5, .old 6, .old 7, .old 8, .old 9, .old 10, .op 19 0]) hst hb Zb
                         (o_p rfl (Za rfl rfl u_0) <| o_p rfl (Za rfl rfl u_0) <| o_p rfl (Zg0 rfl rfl u_0 u_1) <| o_p rfl (Za rfl rfl u_0) <| o_g (g_t rfl rfl rfl (fun hG => Za rfl rfl u_0)) <| o_g (g_t rfl rfl rfl (fun hG => Za rfl rfl u_0)) <| o_g (g_t rfl rfl rfl (fun hG => Zcq rfl rfl (Opd.gd hG u_0) (Opd.gd hG u_1))) <| o_g (g_t rfl rfl rfl (fun hG => Za rfl rfl (Opd.gd hG u_0))) <| o_g (g_fi rfl rfl rfl (fun hG => Za rfl rfl u_0)) <| o_g (g_fi rfl rfl rfl (fun hG => Za rfl rfl u_0)) <| o_g (g_fi rfl rfl rfl (fun hG => Zq Try.underlying22 Zhn rfl rfl (Opd.gd hG u_0) (Opd.gd hG u_1) (Zbh h45 hG))) <| o_g (g_fi rfl rfl rfl (fun hG => Zf Zdm rfl rfl (Opd.gd hG u_0))) <| o_g (g_fi rfl rfl rfl (fun hG => Za rfl rfl u_0)) <| o_g (g_fi rfl rfl rfl (fun hG => Za rfl rfl u_0)) <| o_g (g_fi rfl rfl rfl (fun hG => Zq Try.underlying22 Zhn rfl rfl (Opd.gd hG u_0) (Opd.gd hG u_1) (Zbh h47 hG))) <| o_g (g_fi rfl rfl rfl (fun hG => Zf Zdm rfl rfl (Opd.gd hG u_0))) <| o_g (g_fi rfl rfl rfl (fun hG => Za rfl rfl u_0)) <| o_g (g_fi rfl rfl rfl (fun hG => Zbc Znt (Zgj _ _ _ (Zbh h49 hG)) rfl rfl (.cons (Opd.gd hG u_0) (.cons (Opd.gd hG u_1) (.cons (Opd.gd hG u_2) .nil))))) <| o_g (g_t rfl rfl rfl (fun hG => Zb0 rfl rfl (Opd.gd hG u_0) (fun hz => (Opd.gd (bA hG (bNF hz)) u_1)))) <| o_p rfl (Zb6 rfl rfl u_0 (fun hz => (Opd.gd hz u_1))) <| o_n) (by kernel_rfl) (fun a g hst hb => ?_)
                       refine wp_cond_split (hst.bool 10 rfl) (fun hc50 => ?_) (fun hc50 => ?_)
                       · replace H2 := Z2 hc50 H2
                         refine r_s (L := []) (T := [⟨[], _, [], [], [6]⟩]) (F := [.op 0 0]) (hst.pick [] rfl) hb Zb
                           (o_p rfl (Zc rfl rfl c_b) <| o_n) (by kernel_rfl) (fun a g hst hb => ?_)
                         refine wp_ret ?_
                         refine Zt ?_
                         refine Zh ?_
                         refine Zh ?_
                         refine Zt ?_
                         refine Zh ?_
                         refine Zt ?_
                         refine Zh ?_
                         refine Zh ?_
                         refine Zt ?_
                         refine Zh ?_
                         refine Zh ?_
                         obtain rfl := Option.some.inj H2
                         obtain rfl := Option.some.inj H1
                         obtain rfl := Option.some.inj H0
                         exact Z7 rfl hst hb (Zl (s := 6)) (hst.at 0 rfl)
                       · replace H2 := Z0 hc50 H2
                         refine wp_skip ?_
                         refine Z4 ?_
                         refine Zj ?_
                         refine r_g (L := [(0, _), (1, _), (8, _), (12, _), (64, _), (65, _), (66, _), (81, _), (82, _), (83, _)]) (T := [⟨[.old 9], _, [], [], [107]⟩, ⟨[.op 0 0], _, [], [0], [83]⟩]) (F := [.old 0, .old 1, .old 2, .old 3, .old 4, .old 5, .old 6, .old 7, .old 8, .op 1 0]) (hst.pick [0, 1, 2, 3, 4, 5, 6, 7, 8, 9] rfl) hb Zb
                           (o_p rfl (Zbw rfl rfl u_0 c_i rfl) <| o_p rfl (Za rfl rfl u_0) <| o_n) (by kernel_rfl) (fun a g hst hb => ?_)
                         exact ⟨n, Nat.lt_succ_self _, (IntKind.i64.wrap (x40 + (1 : Int))), g, rfl, (hst.pick [0, 1, 2, 3, 4, 5, 6, 7, 8, 9] rfl), hb, H2⟩
                     · replace H2 := Z0 hc41 H2
                       refine wp_exit ?_
                       refine Zz ?_
                       refine Zz ?_
                       refine Zbb ?_
                       exact ⟨g, rfl, (hst.pick [0, 1, 2, 4, 5, 6] rfl), hb, Option.some.inj H2⟩
             · replace H1 := Z0 hc34 H1
               refine wp_exit ?_
               refine Zz ?_
               refine Zz ?_
               refine Zbb ?_
               exact ⟨g, rfl, (hst.pick [] rfl), hb, Option.some.inj H1⟩
     · refine wp_block ?_
       refine wp_loop_ghost (fun n a w => ∃ (x15 : Zx) (x16 : List Int) (x17 : Int) (g : G), w = g.w ∧ St 109 [(0, (Zg.sl.pd a0)), (1, (Kd.str.sl.pd a1)), (7, (pObj Z6 34 x15)), (8, (pRow (Kd.int .i64) 3 8 x16)), (40, (pRow (Kd.int .i64) 3 35 ((([] : List Int) ++ a2) ++ r12))), (41, (pInt .i64 (((([] : List Int) ++ a2) ++ r12).length : Int))), (42, (pInt .i64 x17))] a g ∧ Base g0 g ∧ Zn a2 r12 n x15 x16 x17 = some z29) (Int.toNat ((((([] : List Int) ++ a2) ++ r12).length : Int) - (0 : Int)) + 1) ⟨r9, ([] : List Int), (0 : Int), g, rfl, (hst.pick [0, 1, 2, 3, 4, 5, 6] rfl), hb, hz1⟩ (fun n a w hI => ?_)
       obtain ⟨x15, x16, x17, g, rfl, hst, hb, H1⟩ := hI
       cases n with
       | zero => exact absurd H1 (by simp [Zn])
       | succ n =>
         rw [Zn] at H1
         refine r_s (T := [⟨[.old 6, .old 5], _, [], [], [43]⟩]) (F := [.old 0, .old 1, .old 2, .old 3, .old 4, .old 5, .old 6, .op 0 0]) hst hb Zb
           (o_p rfl (Zce rfl rfl u_0 u_1) <| o_n) (by kernel_rfl) (fun a g hst hb => ?_)
         refine wp_seq ?_
         refine wp_cond_split (hst.bool 7 rfl) (fun hc18 => ?_) (fun hc18 => ?_)
         · replace H1 := Z2 hc18 H1
           refine wp_skip ?_
           refine Zj ?_
           refine wp_seq ?_
           refine Zbm (fun a w => ∃ (j25 : Zx) (j26 : List Int) (g : G), w = g.w ∧ St 109 [(0, (Zg.sl.pd a0)), (1, (Kd.str.sl.pd a1)), (7, (pObj Z6 34 j25)), (8, (pRow (Kd.int .i64) 3 8 j26)), (40, (pRow (Kd.int .i64) 3 35 ((([] : List Int) ++ a2) ++ r12))), (41, (pInt .i64 (((([] : List Int) ++ a2) ++ r12).length : Int))), (42, (pInt .i64 x17))] a g ∧ Base g0 g ∧ Zch x17 (Zn a2 r12 n) j25 j26 = some z29) ?_ ?_
           · rintro a w ⟨j25, j26, g, rfl, hst, hb, H1⟩
             unfold Zch at H1
             refine Zj ?_
             refine r_g (T := [⟨[.old 6], _, [], [], [53]⟩, ⟨[.op 0 0], _, [], [0], [42]⟩]) (F := [.old 0, .old 1, .old 2, .old 3, .old 4, .old 5, .op 1 0]) hst hb Zb
               (o_p rfl (Zbw rfl rfl u_0 c_i rfl) <| o_p rfl (Za rfl rfl u_0) <| o_n) (by kernel_rfl) (fun a g hst hb => ?_)
             exact ⟨n, Nat.lt_succ_self _, j25, j26, (IntKind.i64.wrap (x17 + (1 : Int))), g, rfl, (hst.pick [0, 1, 2, 3, 4, 5, 6] rfl), hb, H1⟩
           · refine wp_block ?_
             obtain ⟨e19, h20, H1⟩ := Zd H1
             refine r_s (L := [(0, _), (1, _), (7, _), (8, _), (40, _), (41, _), (42, _)]) (T := [⟨[.old 4, .old 6], _, [], [], [44]⟩, ⟨[.op 0 0], _, [], [0], [45]⟩, ⟨[.op 1 0], _, [], [0, 1], [10]⟩]) (F := [.old 0, .old 1, .old 2, .old 3, .op 2 0, .old 4, .old 5, .old 6]) (hst.pick [0, 1, 2, 3, 4, 5, 6] rfl) hb Zb
               (o_p rfl (Zq Try.underlying24 sz_3 rfl rfl (Opd.imp u_0 (fun _ _ h => Zd8 h)) u_1 h20) <| o_p rfl (Zf ty_3 rfl rfl u_0) <| o_p rfl (Zc rfl rfl u_0) <| o_n) (by kernel_rfl) (fun a g hst hb => ?_)
             obtain ⟨r21, h22, H1⟩ := Zd H1
             refine r_s (T := [⟨[.old 2], [(46, (pObj Z6 34 x15))], [], [], [46]⟩, ⟨[.old 4], _, [], [], [47]⟩, ⟨[.op 0 0, .op 1 0, .old 2], [(48, (Zp r21.2)), (7, (pObj Z6 34 r21.1))], [35, 1000035], [0, 1], [7, 46, 48]⟩]) (F := [.old 0, .old 1, .op 2 1, .old 3, .old 4, .old 5, .old 6, .old 7, .op 2 0]) hst hb Zb
               (o_p rfl (Za rfl rfl u_0) <| o_p rfl (Za rfl rfl u_0) <| o_p rfl (Zcw Zip (Zdl _ _ h22) rfl rfl rfl (by decide) u_2 u_0 (.cons u_1 .nil)) <| o_n) (by kernel_rfl) (fun a g hst hb => ?_)
             refine wp_cond_split (hst.bool 8 rfl) (fun hc23 => ?_) (fun hc23 => ?_)
             · replace H1 := Z2 hc23 H1
               obtain ⟨h24, H1⟩ := Zev H1
               refine r_g (L := [(0, _), (1, _), (7, _), (8, _), (10, _), (40, _), (41, _), (42, _)]) (T := [⟨[.old 3], _, [], [], [49]⟩, ⟨[.old 4], _, [], [], [50]⟩, ⟨[.op 1 0], _, [], [1], [51]⟩, ⟨[.op 0 0, .op 2 0], _, [9], [0, 1, 2], [8, 49, 52]⟩, ⟨[.op 3 0], _, [], Lr 4, [8]⟩]) (F := [.old 0, .old 1, .old 2, .op 4 0, .old 5, .old 6, .old 7]) (hst.pick [0, 1, 2, 3, 4, 5, 6, 7] rfl) hb Zb
                 (o_p rfl (Za rfl rfl u_0) <| o_p rfl (Za rfl rfl u_0) <| o_p rfl (Zd3 Zc0 (xs := [.tmp 50]) (.cons u_0 .nil) (by decide) rfl rfl) <| o_p rfl (Zet Zc0 rfl rfl u_0 u_1 h24) <| o_p rfl (Zc rfl rfl u_0) <| o_n) (by kernel_rfl) (fun a g hst hb => ?_)
               refine Z4 ?_
               exact ⟨r21.1, (x16 ++ ([e19] : List Int)), g, rfl, (hst.pick [0, 1, 2, 3, 4, 5, 6] rfl), hb, H1⟩
             · replace H1 := Z0 hc23 H1
               refine wp_skip ?_
               refine Z4 ?_
               exact ⟨r21.1, x16, g, rfl, (hst.pick [0, 1, 2, 3, 5, 6, 7] rfl), hb, H1⟩
         · replace H1 := Z0 hc18 H1
           refine wp_exit ?_
           refine Zz ?_
           refine Zz ?_
           refine Zbb ?_
           exact ⟨x15, x16, g, rfl, (hst.pick [0, 1, 2, 3] rfl), hb, Option.some.inj H1⟩
end Go.CL
namespace Go.CL
open Go
theorem wr {x : Int} (h1 : -9223372036854775808 ≤ x) (h2 : x ≤ 9223372036854775807) : IntKind.i64.wrap x = x := by
 rw [IntKind.wrap_i64]; omega
theorem wr1 {i : Nat} (h : i < 9223372036854775807) : IntKind.i64.wrap ((i : Int) + 1) = ((i + 1 : Nat) : Int) := by
 rw [wr (by omega) (by omega)]; omega
theorem idxn {α : Type} (xs : List α) (i : Nat) : idx xs (i : Int) = xs[i]? := by
 unfold idx
 rw [if_pos (by omega)]
 simp
theorem gd_t {β : Type} [Inhabited β] (x : Option β) : gd true x = x := rfl
theorem gd_f {β : Type} [Inhabited β] (x : Option β) : gd false x = some default := rfl
theorem Zi6 {α : Type} {xs : List α} {l h : Nat} (h1 : l ≤ h) (h2 : h ≤ xs.length) : cut xs (l : Int) (h : Int) = some ((xs.drop l).take (h - l)) := by
 unfold cut
 rw [if_pos (by omega)]
 simp
theorem Zj8 {a b : ByteArray} (h : a.toList = b.toList) : a = b := by
 rw [_root_.Go.ByteArray.toList_eq, _root_.Go.ByteArray.toList_eq] at h
 exact ByteArray.ext (Array.toList_inj.1 h)
theorem Zj5 {a b : ByteArray} : sEq a b = true ↔ a = b := by
 unfold sEq
 constructor
 · intro h; exact Zj8 (by simpa using h)
 · rintro rfl; simp
theorem Zk1 {a b : ByteArray} : sEq a b = false ↔ a ≠ b := by
 cases h : sEq a b
 · simp; intro e; rw [Zj5.2 e] at h; cases h
 · simp; exact Zj5.1 h
theorem Zem {α σ ρ : Type} (xs : List α) (L : Nat → σ → Int → Option ρ) (P : Nat → σ → Prop) (R : σ → ρ) (hl : xs.length < 1000000)
   (hs : ∀ n (i : Nat) st e, xs[i]? = some e → P i st → ∃ st', P (i + 1) st' ∧ L (n + 1) st i = L n st' (IntKind.i64.wrap ((i : Int) + 1))) (h0 : ∀ n st, P xs.length st → L (n + 1) st (xs.length : Int) = some (R st)) {s0 : σ} (hP : P 0 s0) :
   ∃ st, P xs.length st ∧ L (Int.toNat ((xs.length : Int) - 0) + 1) s0 0 = some (R st) := by
 have main : ∀ (n i : Nat) st, i + n = xs.length → P i st → ∃ st', P xs.length st' ∧ L (n + 1) st (i : Int) = some (R st') := by
   intro n
   induction n with
   | zero => intro i st h hp; obtain rfl : i = xs.length := by omega
             exact ⟨st, hp, h0 0 st hp⟩
   | succ n ih =>
     intro i st h hp
     obtain ⟨st', h1, h2⟩ := hs (n + 1) i st xs[i] (List.getElem?_eq_getElem (by omega)) hp
     obtain ⟨st2, h3, h4⟩ := ih (i + 1) st' (by omega) h1
     refine ⟨st2, h3, ?_⟩
     rw [h2, wr1 (by omega)]; exact h4
 have := main xs.length 0 s0 (by omega) hP
 rw [show Int.toNat ((xs.length : Int) - 0) = xs.length by omega]
 exact this
theorem Zb9 {α ρ : Type} (xs : List α) (L : Nat → Int → Option (ρ ⊕ Unit)) (c : α → Bool) (r : Nat → ρ) (hl : xs.length < 1000000)
   (hs : ∀ n (i : Nat) e, xs[i]? = some e → L (n + 1) i = if c e then some (.inl (r i)) else L n (IntKind.i64.wrap ((i : Int) + 1))) (h0 : ∀ n, L (n + 1) (xs.length : Int) = some (.inr ())) :
   (xs.any c = true ∧ ∃ k e, xs[k]? = some e ∧ c e = true ∧ (∀ i e', i < k → xs[i]? = some e' → c e' = false) ∧ L (Int.toNat ((xs.length : Int) - 0) + 1) 0 = some (.inl (r k))) ∨ (xs.any c = false ∧ L (Int.toNat ((xs.length : Int) - 0) + 1) 0 = some (.inr ())) := by
 have main : ∀ (n i : Nat), i + n = xs.length → (∀ j e', j < i → xs[j]? = some e' → c e' = false) → (xs.any c = true ∧ ∃ k e, xs[k]? = some e ∧ c e = true ∧ (∀ i e', i < k → xs[i]? = some e' → c e' = false) ∧ L (n + 1) (i : Int) = some (.inl (r k))) ∨ (xs.any c = false ∧ L (n + 1) (i : Int) = some (.inr ())) := by
   intro n
   induction n with
   | zero =>
     intro i h hp
     obtain rfl : i = xs.length := by omega
     refine .inr ⟨?_, h0 0⟩
     rw [List.any_eq_false]
     intro e he
     obtain ⟨j, hj, rfl⟩ := List.getElem_of_mem he
     rw [hp j xs[j] hj (List.getElem?_eq_getElem hj)]; simp
   | succ n ih =>
     intro i h hp
     have hi : xs[i]? = some xs[i] := List.getElem?_eq_getElem (by omega)
     rw [hs (n + 1) i _ hi]
     by_cases hc : c xs[i] = true
     · rw [if_pos hc]
       exact .inl ⟨List.any_eq_true.2 ⟨_, List.mem_of_getElem? hi, hc⟩, i, _, hi, hc, hp, rfl⟩
     · rw [if_neg hc, wr1 (by omega)]
       refine ih (i + 1) (by omega) (fun j e' hj he => ?_)
       rcases Nat.lt_succ_iff_lt_or_eq.1 hj with h | h
       · exact hp j e' h he
       · subst h
         rw [hi] at he
         obtain rfl := Option.some.inj he
         simpa using hc
 have := main xs.length 0 (by omega) (fun _ _ h => absurd h (Nat.not_lt_zero _))
 rw [show Int.toNat ((xs.length : Int) - 0) = xs.length by omega]
 exact this
theorem lt_i {α : Type} {xs : List α} {i : Nat} {e : α} (h : xs[i]? = some e) : decide ((i : Int) < (xs.length : Int)) = true := by
 have := (List.getElem?_eq_some_iff.1 h).1
 exact decide_eq_true (by omega)
theorem lt_e {n : Nat} : decide ((n : Int) < (n : Int)) = false := decide_eq_false (by omega)
theorem Zir {α : Type} {xs : List α} {i : Nat} {e : α} (h : xs[i]? = some e) : xs.take (i + 1) = xs.take i ++ [e] := by rw [List.take_add_one, h]; rfl
theorem Zhx {l : List Int} (x : Int) (hl : l.length < 1000000) : Zbi l x = some (decide (x ∈ l)) := by
 unfold Zbi Zc2
 rcases Zb9 l (Zba l x) (fun e => x == e) (fun k => (k : Int)) hl (fun n i e he => by
   rw [Zba, lt_i he, if_pos rfl, idxn, he]; rfl) (fun n => by rw [Zba, lt_e]; rfl) with ⟨h1, k, e, h2, h3, _, h4⟩ | ⟨h1, h4⟩
 · rw [h4]
   obtain ⟨e', he, hx⟩ := List.any_eq_true.1 h1
   have : x ∈ l := by rw [eq_of_beq hx]; exact he
   simp [this]
 · rw [h4]
   have : x ∉ l := fun hx => by
     have := List.any_eq_false.1 h1 x hx
     simp at this
   simp [this]
theorem Zfi {xs : List Int} {i : Nat} {e : Int} (p : Int → Bool) (h : xs[i]? = some e) : (xs.take (i + 1)).filter p = (xs.take i).filter p ++ (if p e then [e] else []) := by
 rw [Zir h, List.filter_append]
 congr 1
 by_cases hp : p e = true <;> simp [hp]
theorem Zja {xs : List Int} {i : Nat} (p : Int → Bool) : ((xs.take i).filter p).length ≤ i := Nat.le_trans (List.length_filter_le _ _) (by rw [List.length_take]; omega)
theorem Znf {l : List Int} (x : Int) (hl : l.length < 1000000) : Zbx l (fun y => Zby y x) = some (l.filter (fun k => k != x)) := by
 unfold Zbx Zcg
 rcases Zb9 l (Z8 l (fun y => Zby y x)) (fun e => e == x) (fun k => (k : Int)) hl (fun n i e he => by
   rw [Z8, lt_i he, if_pos rfl, idxn, he]; rfl) (fun n => by rw [Z8, lt_e]; rfl) with ⟨h1, k, e, hk, hek, hbef, h4⟩ | ⟨h1, h4⟩
 · rw [h4]
   have hkl := (List.getElem?_eq_some_iff.1 hk).1
   simp only [Option.bind_some]
   rw [if_neg (by simp only [beq_iff_eq]; omega), wr1 (by omega)]
   have main : ∀ (n j : Nat) (ys : List Int) (i : Nat), j + n = l.length → i ≤ j → ys.length = l.length → (∀ m, j ≤ m → ys[m]? = l[m]?) → ys.take i = (l.take j).filter (fun k => k != x) → i < l.length ∨ j = l.length →
       ∃ (zs : List Int) (i' : Nat), Zu (fun y => Zby y x) (n + 1) ys (i : Int) (j : Int) = some (zs, (i' : Int)) ∧ zs.length = l.length ∧ i' ≤ l.length ∧ zs.take i' = l.filter (fun k => k != x) := by
     intro n
     induction n with
     | zero =>
       intro j ys i h hij hy _ ht _
       obtain rfl : j = l.length := by omega
       refine ⟨ys, i, ?_, hy, hij, by rw [ht, List.take_length]⟩
       rw [Zu, hy, lt_e]; rfl
     | succ n ih =>
       intro j ys i h hij hy hsame ht hil
       have hj : j < l.length := by omega
       have he : l[j]? = some l[j] := List.getElem?_eq_getElem hj
       have hye : ys[j]? = some l[j] := (hsame j (Nat.le_refl _)).trans he
       rw [Zu, lt_i hye, if_pos rfl, idxn, hye]
       simp only [Option.bind_some, Zby]
       have hi : i < ys.length := by omega
       by_cases hc : l[j] = x
       · rw [if_neg (by simp [hc])]
         unfold Zbe
         rw [wr1 (by omega)]
         refine ih (j + 1) ys i (by omega) (by omega) hy (fun m hm => hsame m (by omega)) ?_ (by omega)
         rw [ht, Zfi _ he, if_neg (by simp [hc]), List.append_nil]
       · rw [if_pos (by simp [hc]), idxn, List.getElem?_eq_getElem hi]
         simp only [Option.bind_some]
         unfold Zbe
         rw [wr1 (by omega), wr1 (by omega)]
         refine ih (j + 1) _ (i + 1) (by omega) (by omega) (by rw [List.length_set]; exact hy) (fun m hm => ?_) ?_ (by omega)
         · rw [List.getElem?_set_ne (by simp; omega)]; exact hsame m (by omega)
         · rw [Zfi _ he, if_pos (by simp [hc]), ← ht]
           rw [Int.toNat_natCast, List.take_add_one, List.getElem?_set_self hi, List.take_set_of_le (Nat.le_refl _)]
           rfl
   obtain ⟨zs, i', e1, e2, e3, e4⟩ := main (l.length - (k + 1)) (k + 1) l k (by omega) (by omega) rfl (fun _ _ => rfl) (by
     rw [Zfi _ hk, if_neg (by simp [eq_of_beq hek]), List.append_nil]
     symm
     rw [List.filter_eq_self]
     intro a ha
     obtain ⟨j, hj, rfl⟩ := List.getElem_of_mem ha
     rw [List.length_take] at hj
     have := hbef j (l[j]) (by omega) (List.getElem?_eq_getElem (by omega))
     rw [List.getElem_take]
     simpa using this) (.inl hkl)
   rw [show Int.toNat ((l.length : Int) - ((k + 1 : Nat) : Int)) = l.length - (k + 1) by omega, e1]
   simp only [Option.bind_some]
   have hne : zs ≠ [] := fun h => by rw [h] at e2; simp at e2; omega
   have hlen : (zs.take (Int.toNat (i' : Int)) ++ List.replicate (zs.length - Int.toNat (i' : Int)) (0 : Int)).length = l.length := by simp; omega
   rw [if_pos ⟨⟨by omega, by omega⟩, hne⟩, hlen, if_pos ⟨⟨by omega, by omega⟩, fun h => by rw [h] at hlen; simp at hlen; omega⟩]
   rw [Int.toNat_natCast, List.take_append_of_le_length (by rw [List.length_take]; omega), List.take_take, Nat.min_self, e4]
 · rw [h4]
   have : l.filter (fun k => k != x) = l := by
     rw [List.filter_eq_self]
     intro a ha
     have := List.any_eq_false.1 h1 a ha
     simpa using this
   rw [this]; rfl
def rdB (k : Int) : Bool := ((((k == (3 : Int)) || (k == (4 : Int))) || (k == (9 : Int))) || (k == (12 : Int))) || (k == (20 : Int))
def hasB (s : List ByteArray) (k : ByteArray) : Bool := s.any fun x => sEq x k
def rosB (a : Ze) : Bool := a.Acts.any fun e => (e.Kind == (1 : Int)) || (e.Kind == (2 : Int))
def mtB (s : List ByteArray) (e f : Zm) : Bool := (sEq e.Key f.Key && !(rdB e.Kind && rdB f.Kind)) && !(hasB s e.Key)
def Zc8 (s : List ByteArray) (a b : Ze) : Bool := (a.Acts.any fun e => b.Acts.any fun f => mtB s e f) || (rosB a && rosB b)
theorem Zl4 (a b : ByteArray) : sEq a b = sEq b a := by
 by_cases h : a = b
 · rw [h]
 · rw [Zk1.2 h, Zk1.2 (fun k => h k.symm)]
theorem Ze2 {β : Type} [Inhabited β] (c : Bool) (v : β) : gd c (some v) = some (if c then v else default) := by cases c <;> rfl
theorem hasS {s : List ByteArray} (k : ByteArray) (hl : s.length < 1000000) : Zbk s k = some (hasB s k) := by
 unfold Zbk Zb4 hasB
 rcases Zb9 s (Z3 s k) (fun e => sEq e k) (fun k => (k : Int)) hl (fun n i e he => by
   rw [Z3, lt_i he, if_pos rfl, idxn, he]
   simp only [Option.bind_some]
   rw [Zl4]) (fun n => by rw [Z3, lt_e]; rfl) with ⟨h1, k', e, h2, h3, _, h4⟩ | ⟨h1, h4⟩
 · rw [h4, h1]; simp
 · rw [h4, h1]; rfl
theorem hasR {s : List ByteArray} (k : ByteArray) (hl : s.length < 1000000) : Zde s k = some (hasB s k) := by
 unfold Zde hasB
 rcases Zb9 s (Zbq s k) (fun e => sEq e k) (fun _ => true) hl (fun n i e he => by
   rw [Zbq, lt_i he, if_pos rfl, idxn, he]; rfl) (fun n => by rw [Zbq, lt_e]; rfl) with ⟨h1, k', e, h2, h3, _, h4⟩ | ⟨h1, h4⟩
 · rw [h4, h1]; rfl
 · rw [h4, h1]; rfl
theorem rosD {a : Ze} (hl : a.Acts.length < 1000000) : Zdu a = some (rosB a) := by
 unfold Zdu Zbj Zbu rosB
 rcases Zb9 a.Acts (Zs a.Acts (fun y0 => Zdt y0)) (fun e => (e.Kind == (1 : Int)) || (e.Kind == (2 : Int))) (fun k => (k : Int)) hl (fun n i e he => by
   rw [Zs, lt_i he, if_pos rfl, idxn, he]; rfl) (fun n => by rw [Zs, lt_e]; rfl) with ⟨h1, k', e, h2, h3, _, h4⟩ | ⟨h1, h4⟩
 · rw [h4, h1]; simp
 · rw [h4, h1]; rfl
theorem rosR {a : Ze} (hl : a.Acts.length < 1000000) : Zb8 a = some (rosB a) := by
 unfold Zb8 rosB
 rcases Zb9 a.Acts (Zbg a) (fun e => (e.Kind == (1 : Int)) || (e.Kind == (2 : Int))) (fun _ => true) hl (fun n i e he => by
   rw [Zbg, lt_i he, if_pos rfl, idxn, he]
   simp only [Option.bind_some, Ze2]
   cases h : (e.Kind == (1 : Int)) <;> simp) (fun n => by rw [Zbg, lt_e]; rfl) with ⟨h1, k', e, h2, h3, _, h4⟩ | ⟨h1, h4⟩
 · rw [h4, h1]; rfl
 · rw [h4, h1]; rfl
theorem meetD {a b : Ze} {s : List ByteArray} (ha : a.Acts.length < 1000000) (hb : b.Acts.length < 1000000) (hs : s.length < 1000000) : Zes a b s = some (Zc8 s a b) := by
 have inner : ∀ e : Zm, Zcf b s e (Int.toNat ((b.Acts.length : Int) - (0 : Int)) + 1) (0 : Int) = if (b.Acts.any fun f => mtB s e f) then some (.inl true) else some (.inr ()) := fun e => by
   rcases Zb9 b.Acts (Zcf b s e) (fun f => mtB s e f) (fun _ => true) hb (fun n i f he => by
     rw [Zcf, lt_i he, if_pos rfl, idxn, he]
     simp only [Option.bind_some, Zfc, Ze2, hasS _ hs]
     unfold mtB
     show (if ((sEq e.Key f.Key && (!((if (sEq e.Key f.Key) = true then rdB e.Kind else default) && (if (sEq e.Key f.Key && (if (sEq e.Key f.Key) = true then rdB e.Kind else default)) = true then rdB f.Kind else default)))) && (!(if (sEq e.Key f.Key && (!((if (sEq e.Key f.Key) = true then rdB e.Kind else default) && (if (sEq e.Key f.Key && (if (sEq e.Key f.Key) = true then rdB e.Kind else default)) = true then rdB f.Kind else default)))) = true then hasB s e.Key else default))) = true then _ else _) = _
     cases sEq e.Key f.Key <;> cases hasB s e.Key <;> cases rdB e.Kind <;> cases rdB f.Kind <;> rfl) (fun n => by rw [Zcf, lt_e]; rfl) with ⟨h1, k', e', h2, h3, _, h4⟩ | ⟨h1, h4⟩
   · rw [h4, h1]; rfl
   · rw [h4, h1]; rfl
 unfold Zes Zc8
 rcases Zb9 a.Acts (Zcr a b s) (fun e => b.Acts.any fun f => mtB s e f) (fun _ => true) ha (fun n i e he => by
   rw [Zcr, lt_i he, if_pos rfl, idxn, he]
   simp only [Option.bind_some, inner]
   cases h : (b.Acts.any fun f => mtB s e f) <;> simp) (fun n => by rw [Zcr, lt_e]; rfl) with ⟨h1, k', e, h2, h3, _, h4⟩ | ⟨h1, h4⟩
 · rw [h4, h1]; rfl
 · rw [h4, h1]
   simp only [Option.bind_some, rosD ha, rosD hb, Ze2, Bool.false_or]
   cases rosB a <;> simp
theorem meetR {a b : Ze} {s : List ByteArray} (ha : a.Acts.length < 1000000) (hb : b.Acts.length < 1000000) (hs : s.length < 1000000) : Zcl a b s = some (Zc8 s a b) := by
 have inner : ∀ (j : Nat) (e : Zm), a.Acts[j]? = some e → Zbf a b s (j : Int) (Int.toNat ((b.Acts.length : Int) - (0 : Int)) + 1) (0 : Int) = if (b.Acts.any fun f => mtB s e f) then some (.inl true) else some (.inr ()) := fun j e hj => by
   rcases Zb9 b.Acts (Zbf a b s (j : Int)) (fun f => mtB s e f) (fun _ => true) hb (fun n i f he => by
     rw [Zbf, lt_i he, if_pos rfl, idxn, idxn, he, hj]
     simp only [Option.bind_some, Zcy, Ze2, hasR _ hs]
     unfold mtB
     show (if ((sEq e.Key f.Key && !(if (sEq e.Key f.Key) = true then hasB s e.Key else default)) && ((!(if (sEq e.Key f.Key && !(if (sEq e.Key f.Key) = true then hasB s e.Key else default)) = true then rdB e.Kind else default)) || (!(if ((sEq e.Key f.Key && !(if (sEq e.Key f.Key) = true then hasB s e.Key else default)) && !(!(if (sEq e.Key f.Key && !(if (sEq e.Key f.Key) = true then hasB s e.Key else default)) = true then rdB e.Kind else default))) = true then rdB f.Kind else default)))) = true then _ else _) = _
     cases sEq e.Key f.Key <;> cases hasB s e.Key <;> cases rdB e.Kind <;> cases rdB f.Kind <;> rfl) (fun n => by rw [Zbf, lt_e]; rfl) with ⟨h1, k', e', h2, h3, _, h4⟩ | ⟨h1, h4⟩
   · rw [h4, h1]; rfl
   · rw [h4, h1]; rfl
 unfold Zcl Zc8
 rcases Zb9 a.Acts (Zbl a b s) (fun e => b.Acts.any fun f => mtB s e f) (fun _ => true) ha (fun n i e he => by
   rw [Zbl, lt_i he, if_pos rfl, inner i e he]
   cases h : (b.Acts.any fun f => mtB s e f) <;> simp) (fun n => by rw [Zbl, lt_e]; rfl) with ⟨h1, k', e, h2, h3, _, h4⟩ | ⟨h1, h4⟩
 · rw [h4, h1]; rfl
 · rw [h4, h1]
   simp only [Option.bind_some, rosR ha, rosR hb, Ze2, Bool.false_or]
   cases rosB a <;> simp
theorem big3 (r : Z1) : ∃ b, Zdi r = some b := by
 unfold Zdi
 by_cases h : (decide ((100 : Int) < (r.List.length : Int)) || decide ((1000 : Int) < (r.Text.size : Int))) = true
 · rw [if_pos h]; exact ⟨_, rfl⟩
 · rw [if_neg h]
   simp only [Bool.or_eq_true, decide_eq_true_eq, not_or] at h
   rcases Zb9 r.List (Zbp r) (fun e => decide ((100 : Int) < (e.Name.size : Int))) (fun _ => 1) (by omega) (fun n i e he => by
     rw [Zbp, lt_i he, if_pos rfl, idxn, he]; rfl) (fun n => by rw [Zbp, lt_e]; rfl) with ⟨_, k, e, _, _, _, h4⟩ | ⟨_, h4⟩
   · rw [h4]; exact ⟨_, rfl⟩
   · rw [h4]; exact ⟨_, rfl⟩
theorem big4 (a : Zm) : ∃ b, Zct a = some b := by
 unfold Zct
 obtain ⟨b, hb⟩ := big3 a.Make
 rw [hb, Ze2]
 simp only [Option.bind_some]
 generalize (if (!((decide ((200 : Int) < (a.Key.size : Int))) || (decide ((1000 : Int) < (a.S.size : Int))))) = true then b else default) = v
 split
 · exact ⟨_, rfl⟩
 · exact ⟨_, rfl⟩
theorem big8 (d : Ze) : ∃ b, Zcv d = some b ∧ (¬ 0 < b → d.Acts.length ≤ 40) := by
 unfold Zcv
 by_cases h : decide ((40 : Int) < (d.Acts.length : Int)) = true
 · rw [if_pos h]; exact ⟨_, rfl, fun h => absurd (by decide) h⟩
 · rw [if_neg h]
   have h : d.Acts.length ≤ 40 := by simp at h; omega
   rcases Zb9 d.Acts (Zbt d) (fun e => decide (0 < (Zct e).getD 0)) (fun _ => 1) (by omega) (fun n i e he => by
     obtain ⟨b, hb⟩ := big4 e
     rw [Zbt, lt_i he, if_pos rfl, idxn, he]
     simp only [Option.bind_some, hb, Option.getD_some]) (fun n => by rw [Zbt, lt_e]; rfl) with ⟨_, k, e, _, _, _, h4⟩ | ⟨_, h4⟩
   · rw [h4]; exact ⟨_, rfl, fun _ => h⟩
   · rw [h4]; exact ⟨_, rfl, fun _ => h⟩
theorem Zog (l : List Ze) : ∃ b, Zdh l = some b ∧ (¬ 0 < b → l.length ≤ 40 ∧ ∀ d ∈ l, d.Acts.length ≤ 40) := by
 unfold Zdh
 by_cases h : decide ((40 : Int) < (l.length : Int)) = true
 · rw [if_pos h]; exact ⟨_, rfl, fun h => absurd (by decide) h⟩
 · rw [if_neg h]
   have h : l.length ≤ 40 := by simp at h; omega
   rcases Zb9 l (Zbr l) (fun e => decide (0 < (Zcv e).getD 0)) (fun _ => 1) (by omega) (fun n i e he => by
     obtain ⟨b, hb, _⟩ := big8 e
     rw [Zbr, lt_i he, if_pos rfl, idxn, he]
     simp only [Option.bind_some, hb, Option.getD_some]) (fun n => by rw [Zbr, lt_e]; rfl) with ⟨_, k, e, _, _, _, h4⟩ | ⟨h1, h4⟩
   · rw [h4]; exact ⟨_, rfl, fun h => absurd (by decide) h⟩
   · rw [h4]
     refine ⟨_, rfl, fun _ => ⟨h, fun d hd => ?_⟩⟩
     obtain ⟨b, hb, hb2⟩ := big8 d
     have := List.any_eq_false.1 h1 d hd
     rw [hb] at this
     exact hb2 (by simpa using this)
structure Ctx (l : List Ze) (s : List ByteArray) : Prop where
 len : l.length ≤ 40
 acts : ∀ d ∈ l, d.Acts.length ≤ 40
 split : s.length ≤ 20
def dAt (l : List Ze) (k : Int) : Ze := (idx l k).getD default
theorem Zf4 {l : List Ze} {k : Int} (h : 0 ≤ k ∧ k < l.length) : idx l k = some (dAt l k) := by
 obtain ⟨n, rfl⟩ := Int.eq_ofNat_of_zero_le h.1
 unfold dAt
 rw [idxn, List.getElem?_eq_getElem (by omega)]; rfl
theorem Zg3 {l : List Ze} {k : Int} (h : 0 ≤ k ∧ k < l.length) : dAt l k ∈ l := by
 have := Zf4 h
 obtain ⟨n, rfl⟩ := Int.eq_ofNat_of_zero_le h.1
 rw [idxn] at this
 exact List.mem_of_getElem? this
def mB (l : List Ze) (s : List ByteArray) (n k : Int) : Bool := decide (k < n) && Zc8 s (dAt l k) (dAt l n)
theorem Ctx.meetR {l : List Ze} {s : List ByteArray} (c : Ctx l s) {k n : Int} (hk : 0 ≤ k ∧ k < l.length) (hn : 0 ≤ n ∧ n < l.length) : Zcl (dAt l k) (dAt l n) s = some (Zc8 s (dAt l k) (dAt l n)) :=
 Go.CL.meetR (by have := c.acts _ (Zg3 hk); omega) (by have := c.acts _ (Zg3 hn); omega) (by have := c.split; omega)
theorem Ctx.meetD {l : List Ze} {s : List ByteArray} (c : Ctx l s) {k n : Int} (hk : 0 ≤ k ∧ k < l.length) (hn : 0 ≤ n ∧ n < l.length) : Zes (dAt l k) (dAt l n) s = some (Zc8 s (dAt l k) (dAt l n)) :=
 Go.CL.meetD (by have := c.acts _ (Zg3 hk); omega) (by have := c.acts _ (Zg3 hn); omega) (by have := c.split; omega)
structure Rise (l : List Ze) (T : List Int) : Prop where
 up : T.Pairwise (· < ·)
 rng : ∀ k ∈ T, 0 ≤ k ∧ k < l.length
 len : T.length ≤ l.length
theorem Zmx {l : List Ze} (hl : l.length ≤ 40) (out : List Bool) : ∃ T, Zco l out = some T ∧ Rise l T ∧ (out = [] → T.length = l.length) := by
 unfold Zco
 obtain ⟨T, ⟨h1, h2, h3, h4⟩, h5⟩ := Zem l (Z9 l out) (fun i st => st.Pairwise (· < ·) ∧ (∀ k ∈ st, 0 ≤ k ∧ k < (i : Int)) ∧ st.length ≤ i ∧ (out = [] → st.length = i)) id (by omega) (fun n i st e he ⟨p1, p2, p3, p4⟩ => by
   have hi := (List.getElem?_eq_some_iff.1 he).1
   obtain ⟨b, hb⟩ : ∃ b : Bool, (gd (!(decide ((out.length : Int) ≤ (i : Int)))) (idx out (i : Int))) = some b ∧ (out = [] → (decide ((out.length : Int) ≤ (i : Int)) || (!b)) = true) := by
     by_cases ho : (out.length : Int) ≤ (i : Int)
     · rw [decide_eq_true ho]
       exact ⟨default, rfl, fun _ => rfl⟩
     · rw [decide_eq_false ho, Bool.not_false, gd_t, idxn, List.getElem?_eq_getElem (by omega)]
       exact ⟨_, rfl, fun h => by subst h; simp at ho⟩
   rw [Z9, lt_i he, if_pos rfl, hb.1]
   simp only [Option.bind_some]
   by_cases hc : (decide ((out.length : Int) ≤ (i : Int)) || (!b)) = true
   · rw [if_pos hc, if_pos (by simp only [List.length_singleton]; omega)]
     refine ⟨st ++ [(i : Int)], ⟨List.pairwise_append.2 ⟨p1, List.pairwise_singleton .., fun a ha b hb => by rw [List.mem_singleton.1 hb]; exact (p2 a ha).2⟩, fun k hk => ?_, by simp; omega, fun h => by simp [p4 h]⟩, rfl⟩
     rcases List.mem_append.1 hk with hk | hk
     · have := p2 k hk; omega
     · rw [List.mem_singleton.1 hk]; omega
   · rw [if_neg hc]
     exact ⟨st, ⟨p1, fun k hk => by have := p2 k hk; omega, by omega, fun h => absurd (hb.2 h) hc⟩, rfl⟩) (fun n st hp => by rw [Z9, lt_e]; rfl) (s0 := []) ⟨.nil, (fun _ h => by cases h), Nat.le_refl _, fun _ => rfl⟩
 rw [h5]
 exact ⟨T, rfl, ⟨h1, h2, h3⟩, h4⟩
theorem Zih {z : List Int} {n : Int} : ∀ {A : List (Int × List Int)}, (∀ e ∈ A, e.1 ≠ n) → mget z A n = z
 | [], _ => rfl
 | e :: A, h => by
   rw [mget, if_neg (h e (List.mem_cons_self ..))]
   exact Zih (fun e' he => h e' (List.mem_cons_of_mem _ he))
theorem Zjb {z v : List Int} {n m : Int} : ∀ {A : List (Int × List Int)}, (∀ e ∈ A, e.1 ≠ n) → mget z (A ++ [(n, v)]) m = if m = n then v else mget z A m
 | [], _ => by
   show (if n = m then v else z) = if m = n then v else z
   by_cases h : m = n
   · rw [if_pos h, if_pos h.symm]
   · rw [if_neg h, if_neg (fun k => h k.symm)]
 | e :: A, h => by
   show (if e.1 = m then e.2 else mget z (A ++ [(n, v)]) m) = if m = n then v else if e.1 = m then e.2 else mget z A m
   rw [Zjb (fun e' he => h e' (List.mem_cons_of_mem _ he))]
   by_cases h1 : e.1 = m
   · rw [if_pos h1, if_neg (fun k => h e (List.mem_cons_self ..) (h1.trans k)), if_pos h1]
   · rw [if_neg h1, if_neg h1]
def NoKey (b : MapB Int) (n : Int) : Prop := ∀ e ∈ b.all, e.1 ≠ n
theorem NoKey.old {b : MapB Int} {n : Int} (h : NoKey b n) : (b.old.all fun e => e.1 != n) = true := List.all_eq_true.2 fun e he => by simpa using h e (List.mem_append_left _ he)
theorem Zmb {b : MapB Int} {n : Int} (h : NoKey b n) : b.row n = some [] := by
 unfold MapB.row
 cases hl : b.last with
 | none => simp only [h.old]; rfl
 | some e =>
   simp only [h.old]
   rw [if_pos trivial, if_neg]
   exact h e (by unfold MapB.all; rw [hl]; simp)
theorem Zjz {b : MapB Int} {n : Int} {v : List Int} (h : NoKey b n) : (b.put n v).all = b.all ++ [(n, v)] := by
 unfold MapB.put MapB.all
 cases hl : b.last with
 | none => simp
 | some e =>
   have : e.1 ≠ n := h e (by unfold MapB.all; rw [hl]; simp)
   simp [this]
theorem Zmz {b : MapB Int} {n : Int} {v : List Int} (h : NoKey b n) : (b.put n v).row n = some v := by
 have hall : ∀ e ∈ b.old ++ b.last.toList, e.1 ≠ n := h
 unfold MapB.put
 cases hl : b.last with
 | none =>
   unfold MapB.row
   simp only [h.old]
   rw [if_pos trivial, if_pos trivial]
 | some e =>
   have he : e.1 ≠ n := h e (by unfold MapB.all; rw [hl]; simp)
   simp only [if_neg he]
   unfold MapB.row
   have : ((b.old ++ [e]).all fun e => e.1 != n) = true := List.all_eq_true.2 fun e' he' => by
     have := hall e' (by rw [hl]; exact he')
     simpa using this
   simp only [this]
   rw [if_pos trivial, if_pos trivial]
theorem Zne {b : MapB Int} {n : Int} {v w : List Int} (h : NoKey b n) : (b.put n v).put n w = b.put n w := by
 unfold MapB.put
 cases hl : b.last with
 | none => simp
 | some e =>
   have he : e.1 ≠ n := h e (by unfold MapB.all; rw [hl]; simp)
   simp [he]
theorem Rise.take_filter {l : List Ze} {T : List Int} (h : Rise l T) {i : Nat} {n : Int} (hn : T[i]? = some n) (p : Int → Bool) : T.filter (fun k => decide (k < n) && p k) = (T.take i).filter p := by
 have hi := (List.getElem?_eq_some_iff.1 hn).1
 have hup := h.up
 rw [← List.take_append_drop i T] at hup
 obtain ⟨_, h2, h3⟩ := List.pairwise_append.1 hup
 have hd : T.drop i = n :: T.drop (i + 1) := by
   rw [List.drop_eq_getElem_cons hi]
   congr 1
   rw [List.getElem?_eq_getElem hi] at hn
   exact Option.some.inj hn
 rw [hd] at h2 h3
 conv => lhs; rw [← List.take_append_drop i T, List.filter_append, hd]
 have e1 : (n :: T.drop (i + 1)).filter (fun k => decide (k < n) && p k) = [] := by
   rw [List.filter_eq_nil_iff]
   intro a ha
   have : ¬ a < n := by
     rcases List.mem_cons.1 ha with rfl | ha
     · omega
     · have := (List.pairwise_cons.1 h2).1 a ha; omega
   simp [this]
 rw [e1, List.append_nil]
 apply List.filter_congr
 intro a ha
 have := h3 a ha n (List.mem_cons_self ..)
 simp [this]
theorem Rise.nodup {l : List Ze} {T : List Int} (h : Rise l T) {i j : Nat} {n : Int} (hi : T[i]? = some n) (hj : T[j]? = some n) : i = j := by
 obtain ⟨h1, e1⟩ := List.getElem?_eq_some_iff.1 hi
 obtain ⟨h2, e2⟩ := List.getElem?_eq_some_iff.1 hj
 rcases Nat.lt_trichotomy i j with h3 | h3 | h3
 · have := List.pairwise_iff_getElem.1 h.up i j h1 h2 h3; omega
 · exact h3
 · have := List.pairwise_iff_getElem.1 h.up j i h2 h1 h3; omega
theorem Znl {l : List Ze} {s : List ByteArray} (c : Ctx l s) {T : List Int} (hT : Rise l T) : ∃ x, Zen l T s = some x ∧ x.left = T ∧ ∀ m ∈ T, mget [] x.ahead m = T.filter (mB l s m) := by
 have hTl : T.length ≤ 40 := Nat.le_trans hT.len c.len
 unfold Zen Zc3
 rw [if_pos (by omega)]
 simp only [Option.bind_some]
 obtain ⟨st, ⟨h1, h2, h3⟩, h4⟩ := Zem T (Zc4 l T s) (fun i st => st.left = T ∧ (∀ e ∈ st.ahead.all, e.1 ∈ T.take i) ∧ ∀ m ∈ T.take i, mget [] st.ahead.all m = T.filter (mB l s m)) id (by omega) (fun n i st e he ⟨p1, p2, p3⟩ => by
   have hi := (List.getElem?_eq_some_iff.1 he).1
   have heT := hT.rng e (List.mem_of_getElem? he)
   have hno : NoKey st.ahead e := fun e' he' hk => by
     obtain ⟨j, hj⟩ := List.mem_iff_getElem?.1 (p2 e' he')
     rw [hk, List.getElem?_take] at hj
     split at hj
     · have := hT.nodup hj he; omega
     · cases hj
   have hcut : cut T (0 : Int) (i : Int) = some (T.take i) := by
     have := Zi6 (xs := T) (l := 0) (h := i) (by omega) (by omega)
     simpa using this
   have hlen : (T.take i).length = i := by rw [List.length_take]; omega
   obtain ⟨st2, ⟨q1, q2⟩, q3⟩ := Zem (T.take i) (Zcb l s e (T.take i)) (fun j st' => st'.left = st.left ∧ st'.ahead = if ((T.take i).take j).filter (fun k => Zc8 s (dAt l k) (dAt l e)) = [] then st.ahead else st.ahead.put e (((T.take i).take j).filter (fun k => Zc8 s (dAt l k) (dAt l e)))) id (by omega) (fun n' j st' k hk ⟨r1, r2⟩ => by
     have hj := (List.getElem?_eq_some_iff.1 hk).1
     have hkT := hT.rng k (List.mem_of_mem_take (List.mem_of_getElem? hk))
     have hfl := Zja (xs := T.take i) (i := j) (fun k => Zc8 s (dAt l k) (dAt l e))
     rw [Zcb, lt_i hk, if_pos rfl, idxn, hk]
     simp only [Option.bind_some, Zf4 hkT, Zf4 heT, c.meetD hkT heT]
     rw [Zfi _ hk]
     by_cases hm : Zc8 s (dAt l k) (dAt l e) = true
     · rw [if_pos hm, if_pos hm, if_neg (by simp)]
       have hrow : st'.ahead.row e = some (((T.take i).take j).filter (fun k => Zc8 s (dAt l k) (dAt l e))) := by
         rw [r2]
         split
         · rename_i h0; rw [h0]; exact Zmb hno
         · exact Zmz hno
       have hput : st'.ahead.put e (((T.take i).take j).filter (fun k => Zc8 s (dAt l k) (dAt l e)) ++ [k]) = st.ahead.put e (((T.take i).take j).filter (fun k => Zc8 s (dAt l k) (dAt l e)) ++ [k]) := by
         rw [r2]
         split
         · rfl
         · exact Zne hno
       rw [hrow]
       simp only [Option.bind_some]
       rw [if_pos (by simp only [List.length_singleton]; omega)]
       exact ⟨⟨st'.ahead.put e (((T.take i).take j).filter (fun k => Zc8 s (dAt l k) (dAt l e)) ++ [k]), st'.left⟩, ⟨r1, hput⟩, rfl⟩
     · rw [if_neg hm, if_neg hm, List.append_nil]
       exact ⟨st', ⟨r1, r2⟩, rfl⟩) (fun n' st' hp => by rw [Zcb, lt_e]; rfl) (s0 := st) ⟨rfl, by simp⟩
   rw [Zc4, lt_i he, if_pos rfl, idxn, he]
   simp only [Option.bind_some, hcut]
   rw [q3]
   simp only [Option.bind_some, id]
   refine ⟨st2, ⟨q1.trans p1, ?_, ?_⟩, rfl⟩
   · intro e' he'
     rw [Zir he]
     rw [q2] at he'
     split at he'
     · exact List.mem_append_left _ (p2 e' he')
     · rw [Zjz hno] at he'
       rcases List.mem_append.1 he' with h | h
       · exact List.mem_append_left _ (p2 e' h)
       · rw [List.mem_singleton.1 h]; simp
   · have hxs : ((T.take i).take (T.take i).length).filter (fun k => Zc8 s (dAt l k) (dAt l e)) = T.filter (mB l s e) := by
       rw [List.take_length]
       exact (hT.take_filter he _).symm
     rw [hxs] at q2
     intro m hm
     have hmg : mget [] st2.ahead.all m = if m = e then T.filter (mB l s e) else mget [] st.ahead.all m := by
       rw [q2]
       split
       · rename_i h0
         rw [h0]
         by_cases hme : m = e
         · rw [if_pos hme, hme]; exact Zih hno
         · rw [if_neg hme]
       · rw [Zjz hno]; exact Zjb hno
     rw [hmg]
     by_cases hme : m = e
     · rw [if_pos hme, hme]
     · rw [if_neg hme]
       rw [Zir he] at hm
       rcases List.mem_append.1 hm with h | h
       · exact p3 m h
       · exact absurd (List.mem_singleton.1 h) hme) (fun n st hp => by rw [Zc4, lt_e]; rfl) (s0 := { ahead := ⟨[], none⟩, left := T }) ⟨rfl, (fun _ h => by cases h), (fun _ h => by simp at h)⟩
 rw [h4]
 exact ⟨_, rfl, h1, fun m hm => h3 m (by rw [List.take_length]; exact hm)⟩
structure LineOk (l : List Ze) (s : List ByteArray) (T left : List Int) (x : Zx) : Prop where
 hleft : x.left = left
 part : left = T.filter (fun k => decide (k ∈ left))
 row : ∀ m ∈ T, mget [] x.ahead m = T.filter (mB l s m)
variable {l : List Ze} {s : List ByteArray} {T left : List Int} {x : Zx}
theorem LineOk.mem (h : LineOk l s T left x) {k : Int} (hk : k ∈ left) : k ∈ T := by
 rw [h.part] at hk; exact (List.mem_filter.1 hk).1
theorem LineOk.len (h : LineOk l s T left x) : left.length ≤ T.length := by
 rw [h.part]; exact List.length_filter_le _ _
theorem LineOk.new (h1 : x.left = T) (h2 : ∀ m ∈ T, mget [] x.ahead m = T.filter (mB l s m)) : LineOk l s T T x := ⟨h1, by symm; rw [List.filter_eq_self]; intro a ha; simpa using ha, h2⟩
theorem LineOk.waits (h : LineOk l s T left x) {i : Int} (hi : i ∈ left) : (mget [] x.ahead i).filter (fun k => decide (k ∈ left)) = left.filter (mB l s i) := by
 rw [h.row i (h.mem hi), List.filter_filter]
 conv => rhs; rw [h.part, List.filter_filter]
 apply List.filter_congr
 intro a _
 exact Bool.and_comm _ _
def Zhm (l : List Ze) (s : List ByteArray) (left : List Int) (i : Int) : List Int := if i ∈ left then left.filter (mB l s i) else []
theorem LineOk.after (h : LineOk l s T left x) (hT : T.length ≤ 40) (i : Int) : Zb2 x i = some (Zhm l s left i) := by
 have hl : left.length ≤ 40 := Nat.le_trans h.len hT
 unfold Zb2 Zhm
 rw [h.hleft, Zhx i (by omega)]
 simp only [Option.bind_some]
 by_cases hi : i ∈ left
 · rw [if_neg (by simp [hi]), if_pos hi]
   have hrl : (mget [] x.ahead i).length ≤ 40 := by rw [h.row i (h.mem hi)]; exact Nat.le_trans (List.length_filter_le _ _) hT
   obtain ⟨st, h1, h2⟩ := Zem (mget [] x.ahead i) (Zbd x i) (fun j st => st = ((mget [] x.ahead i).take j).filter (fun k => decide (k ∈ left))) id (by omega) (fun n j st e he hp => by
     subst hp
     have := Zja (xs := mget [] x.ahead i) (i := j) (fun k => decide (k ∈ left))
     have hj := (List.getElem?_eq_some_iff.1 he).1
     refine ⟨_, rfl, ?_⟩
     rw [Zbd, lt_i he, if_pos rfl, idxn, he, Zfi _ he, h.hleft]
     simp only [Option.bind_some, Zhx e (show left.length < 1000000 by omega)]
     by_cases hc : decide (e ∈ left) = true
     · rw [if_pos hc, if_pos (by simp only [List.length_singleton]; omega), if_pos hc]; rfl
     · rw [if_neg hc, if_neg hc, List.append_nil]; rfl) (fun n st hp => by rw [Zbd, lt_e]; rfl) (s0 := []) rfl
   rw [h2, h1, List.take_length, h.waits hi]; rfl
 · rw [if_pos (by simp [hi]), if_neg hi]
def Zeu (l : List Ze) (s : List ByteArray) (left : List Int) (i : Int) : Bool := decide (i ∈ left) && (((Zhm l s left i).length : Int) == (0 : Int))
theorem LineOk.ready (h : LineOk l s T left x) (hT : T.length ≤ 40) (i : Int) : Zbo x i = some (Zeu l s left i) := by
 have hl : left.length ≤ 40 := Nat.le_trans h.len hT
 unfold Zbo Zeu
 rw [h.hleft, Zhx i (by omega), h.after hT]
 simp only [Option.bind_some, Ze2]
 by_cases hi : i ∈ left
 · simp [hi]
 · simp [hi]
theorem LineOk.done (h : LineOk l s T left x) (hT : T.length ≤ 40) (i : Int) : ∃ x', Zcm x i = some (x', Zeu l s left i) ∧ LineOk l s T (if Zeu l s left i = true then left.filter (fun k => k != i) else left) x' := by
 have hl : left.length ≤ 40 := Nat.le_trans h.len hT
 unfold Zcm Zdr
 rw [h.ready hT]
 simp only [Option.bind_some]
 by_cases hr : Zeu l s left i = true
 · rw [hr, if_neg (by decide), h.hleft, Znf i (by omega)]
   refine ⟨{ x with left := left.filter (fun k => k != i) }, rfl, rfl, ?_, h.row⟩
   rw [if_pos rfl]
   conv => lhs; rw [h.part, List.filter_filter]
   apply List.filter_congr
   intro a _
   simp only [List.mem_filter, Bool.decide_and]
   cases (a != i) <;> simp
 · rw [eq_false_of_ne_true hr]
   exact ⟨x, rfl, by rw [if_neg (by decide)]; exact h⟩
theorem Zl5 : Zdf = some true := by kernel_rfl
theorem Rise.rest {l : List Ze} {T : List Int} (h : Rise l T) {i : Nat} {e : Int} (he : T[i]? = some e) : T.drop i = e :: T.drop (i + 1) ∧ ∀ a ∈ T.drop (i + 1), e < a := by
 have hi := (List.getElem?_eq_some_iff.1 he).1
 have hup := h.up
 rw [← List.take_append_drop i T] at hup
 obtain ⟨_, h2, _⟩ := List.pairwise_append.1 hup
 have hd : T.drop i = e :: T.drop (i + 1) := by
   rw [List.drop_eq_getElem_cons hi]
   congr 1
   rw [List.getElem?_eq_getElem hi] at he
   exact Option.some.inj he
 rw [hd] at h2
 exact ⟨hd, (List.pairwise_cons.1 h2).1⟩
theorem Zh6 {l : List Ze} {s : List ByteArray} {left : List Int} {i : Int} : Zeu l s left i = true ↔ i ∈ left ∧ ∀ k ∈ left, mB l s i k = false := by
 unfold Zeu Zhm
 by_cases hi : i ∈ left
 · simp only [hi, decide_true, Bool.true_and, if_true, beq_iff_eq, true_and]
   have : ((left.filter (mB l s i)).length : Int) = 0 ↔ left.filter (mB l s i) = [] := by
     rw [← List.length_eq_zero_iff]; omega
   rw [this, List.filter_eq_nil_iff]
   constructor
   · intro h k hk; simpa using h k hk
   · intro h k hk; simp [h k hk]
 · simp [hi]
def okB (l : List Ze) (s : List ByteArray) (k n : Int) : Bool := !(decide (n ≤ k) && ((k == n) || Zc8 s (dAt l n) (dAt l k)))
structure Zjd (l : List Ze) (s : List ByteArray) (T left D : List Int) : Prop where
 len : D.length + left.length = T.length
 mem : ∀ k ∈ D, k ∈ T ∧ k ∉ left
 ord : D.Pairwise fun k n => okB l s k n = true
 free : ∀ k ∈ D, ∀ n ∈ left, n < k → Zc8 s (dAt l n) (dAt l k) = false
theorem Zhv {T left : List Int} (hup : T.Pairwise (· < ·)) (hp : left = T.filter (fun k => decide (k ∈ left))) {e : Int} (he : e ∈ left) : (left.filter (fun k => k != e)).length + 1 = left.length := by
 have hl : left.Pairwise (· < ·) := by rw [hp]; exact List.Pairwise.filter _ hup
 clear hp
 induction left with
 | nil => cases he
 | cons a left ih =>
   obtain ⟨h1, h2⟩ := List.pairwise_cons.1 hl
   by_cases hae : a = e
   · subst hae
     rw [List.filter_cons_of_neg (by simp)]
     have : left.filter (fun k => k != a) = left := by
       rw [List.filter_eq_self]
       intro b hb
       have := h1 b hb
       simp only [bne_iff_ne, ne_eq]; omega
     rw [this]; rfl
   · rw [List.filter_cons_of_pos (by simpa using hae), List.length_cons, List.length_cons, ih ((List.mem_cons.1 he).resolve_left (fun h => hae h.symm)) h2]
theorem Zkh {l : List Ze} {s : List ByteArray} {T left D : List Int} {x : Zx} (hT : Rise l T) (h : LineOk l s T left x) (hD : Zjd l s T left D) {e : Int} (hr : Zeu l s left e = true) : Zjd l s T (left.filter (fun k => k != e)) (D ++ [e]) := by
 obtain ⟨he, hf⟩ := Zh6.1 hr
 have hlen := Zhv hT.up h.part he
 refine ⟨?_, fun k hk => ?_, ?_, fun k hk n hn hlt => ?_⟩
 · have := hD.len
   rw [List.length_append, List.length_singleton]; omega
 · rcases List.mem_append.1 hk with hk | hk
   · exact ⟨(hD.mem k hk).1, fun h' => (hD.mem k hk).2 (List.mem_filter.1 h').1⟩
   · rw [List.mem_singleton.1 hk]
     exact ⟨h.mem he, fun h' => by simpa using (List.mem_filter.1 h').2⟩
 · refine List.pairwise_append.2 ⟨hD.ord, List.pairwise_singleton .., fun k hk n hn => ?_⟩
   rw [List.mem_singleton.1 hn]
   unfold okB
   by_cases hle : e ≤ k
   · have hne : k ≠ e := fun h' => (hD.mem k hk).2 (h' ▸ he)
     rw [hD.free k hk e he (by omega)]
     simp [hne]
   · simp [hle]
 · have hnl : n ∈ left := (List.mem_filter.1 hn).1
   rcases List.mem_append.1 hk with hk | hk
   · exact hD.free k hk n hnl hlt
   · rw [List.mem_singleton.1 hk] at hlt ⊢
     have := hf n hnl
     unfold mB at this
     rw [decide_eq_true hlt, Bool.true_and] at this
     exact this
theorem Zmc {l : List Ze} {s : List ByteArray} (c : Ctx l s) {n : Int} (hn : 0 ≤ n ∧ n < l.length) {C : List Int} (hC : C.length < 1000000) (hr : ∀ k ∈ C, 0 ≤ k ∧ k < l.length) (ho : ∀ k ∈ C, okB l s k n = true) : Zw l s n C (Int.toNat ((C.length : Int) - (0 : Int)) + 1) (0 : Int) = some (.inr ()) := by
 obtain ⟨_, _, h2⟩ := Zem C (fun m (_ : Unit) i => Zw l s n C m i) (fun _ _ => True) (fun _ => (.inr () : Bool ⊕ Unit)) hC (fun m i _ k hk _ => by
   refine ⟨(), trivial, ?_⟩
   have hkC := List.mem_of_getElem? hk
   have hok := ho k hkC
   unfold okB at hok
   show Zw l s n C (m + 1) (i : Int) = _
   rw [Zw, lt_i hk, if_pos rfl, idxn, hk]
   simp only [Option.bind_some]
   by_cases hc : (decide (n ≤ k) && (!(k == n))) = true
   · simp only [hc, gd_t, Zf4 hn, Zf4 (hr k hkC), Option.bind_some, c.meetR hn (hr k hkC)]
     simp only [Bool.not_eq_true'] at hok
     rw [hok, if_neg (by decide)]
   · simp only [eq_false_of_ne_true hc, gd_f, Option.bind_some]
     rw [if_neg]
     intro h'
     simp only [Bool.and_eq_true, decide_eq_true_eq, Bool.not_eq_true', not_and, Bool.not_eq_false] at hc h'
     have h3 := hc h'.1
     simp [h'.1, h3] at hok) (fun m _ _ => by
       show Zw l s n C (m + 1) (C.length : Int) = _
       rw [Zw, lt_e]; rfl) (s0 := ()) trivial
 exact h2
theorem Zlu {l : List Ze} {s : List ByteArray} (c : Ctx l s) {D : List Int} (hl : D.length < 1000000) (hr : ∀ k ∈ D, 0 ≤ k ∧ k < l.length) (ho : D.Pairwise fun k n => okB l s k n = true) : Zv l s D (Int.toNat ((D.length : Int) - (0 : Int)) + 1) (0 : Int) = some (.inr ()) := by
 obtain ⟨_, _, h2⟩ := Zem D (fun m (_ : Unit) i => Zv l s D m i) (fun _ _ => True) (fun _ => (.inr () : Bool ⊕ Unit)) hl (fun m i _ n hn _ => by
   refine ⟨(), trivial, ?_⟩
   have hi := (List.getElem?_eq_some_iff.1 hn).1
   have hnr := hr n (List.mem_of_getElem? hn)
   have hcut : cut D (0 : Int) (i : Int) = some (D.take i) := by
     have := Zi6 (xs := D) (l := 0) (h := i) (by omega) (by omega)
     simpa using this
   show Zv l s D (m + 1) (i : Int) = _
   rw [Zv, lt_i hn, if_pos rfl, idxn, hn]
   simp only [Option.bind_some, hcut]
   rw [if_neg (by simp only [Bool.or_eq_true, decide_eq_true_eq, not_or]; omega), Zmc c hnr (by rw [List.length_take]; omega) (fun k hk => hr k (List.mem_of_mem_take hk)) (fun k hk => by
     have ho' := ho
     rw [← List.take_append_drop i D] at ho'
     have hd : n ∈ D.drop i := by
       rw [List.drop_eq_getElem_cons hi]
       rw [List.getElem?_eq_getElem hi] at hn
       rw [Option.some.inj hn]
       exact List.mem_cons_self ..
     exact (List.pairwise_append.1 ho').2.2 k hk n hd)]
   rfl) (fun m _ _ => by
     show Zv l s D (m + 1) (D.length : Int) = _
     rw [Zv, lt_e]; rfl) (s0 := ()) trivial
 exact h2
theorem LineKeeps_true (a0 : List Ze) (a1 : List ByteArray) (a2 : List Int) (w0 : a0.length ≤ maxLen ∧ ∀ e0 ∈ a0, Zfx e0) (w1 : a1.length ≤ maxLen ∧ ∀ e0 ∈ a1, e0.size ≤ maxLen) (w2 : a2.length ≤ maxLen ∧ ∀ e0 ∈ a2, (IntKind.i64).min ≤ e0 ∧ e0 ≤ (IntKind.i64).max) : Zcu a0 a1 a2 = some true := by
 unfold Zcu
 rw [Zl5]
 simp only [Option.bind_some, Bool.not_true, Bool.false_eq_true, if_false]
 obtain ⟨b, hb, hb2⟩ := Zog a0
 rw [hb]
 simp only [Option.bind_some]
 split
 · rfl
 · rename_i hc
   simp only [Bool.or_eq_true, decide_eq_true_eq, not_or] at hc
   obtain ⟨⟨hc1, hc2⟩, hc3⟩ := hc
   obtain ⟨hl, hacts⟩ := hb2 hc1
   have c : Ctx a0 a1 := ⟨hl, hacts, by omega⟩
   obtain ⟨T, hT, hR, hTn⟩ := Zmx hl ([] : List Bool)
   obtain ⟨x, hx, hx1, hx2⟩ := Znl c hR
   have hTl : T.length ≤ 40 := Nat.le_trans hR.len hl
   rw [hT]
   simp only [Option.bind_some]
   rw [hx]
   simp only [Option.bind_some]
   rw [if_pos (by simp only [List.length_nil]; omega), if_pos (by simp only [List.length_append, List.length_nil]; omega), List.nil_append]
   obtain ⟨st, ⟨left, h1, h2, h3⟩, h4⟩ := Zem (a2 ++ T) (fun n (st : Zx × List Int) i => Zn a2 T n st.1 st.2 i) (fun i st => ∃ left, LineOk a0 a1 T left st.1 ∧ Zjd a0 a1 T left st.2 ∧ ∀ k ∈ (a2 ++ T).take i, ∀ j, a2.length ≤ j → j < i → (a2 ++ T)[j]? = some k → k ∉ left) id (by simp only [List.length_append]; omega) (fun n i st e he ⟨left, p1, p2, p3⟩ => by
     have hi := (List.getElem?_eq_some_iff.1 he).1
     rw [List.length_append] at hi
     have hD := p2.len
     obtain ⟨x', hd, hp'⟩ := p1.done hTl e
     have hst : st.2.length + ([e] : List Int).length ≤ 100 := by rw [List.length_singleton]; omega
     have he' : idx ((([] : List Int) ++ a2) ++ T) (i : Int) = some e := by rw [List.nil_append, idxn]; exact he
     have hlt : decide ((i : Int) < (((([] : List Int) ++ a2) ++ T).length : Int)) = true := by rw [List.nil_append]; exact lt_i he
     by_cases hr : Zeu a0 a1 left e = true
     · rw [if_pos hr] at hp'
       refine ⟨(x', st.2 ++ [e]), ⟨_, hp', Zkh hR p1 p2 hr, fun k hk j hj1 hj2 hjk => ?_⟩, ?_⟩
       · intro hkl
         obtain ⟨hkl, hke⟩ := List.mem_filter.1 hkl
         rcases Nat.lt_succ_iff_lt_or_eq.1 hj2 with h | h
         · exact p3 k (by rw [List.mem_iff_getElem?]; exact ⟨j, by rw [List.getElem?_take, if_pos h]; exact hjk⟩) j hj1 h hjk hkl
         · subst h
           rw [he] at hjk
           rw [Option.some.inj hjk] at hke
           simp at hke
       · show Zn a2 T (n + 1) st.1 st.2 (i : Int) = _
         rw [Zn, hlt, if_pos rfl, he']
         simp only [Option.bind_some]
         rw [hd]
         simp only [Option.bind_some]
         rw [hr, if_pos rfl, if_pos (by omega)]
         rfl
     · rw [if_neg hr] at hp'
       refine ⟨(x', st.2), ⟨left, hp', p2, fun k hk j hj1 hj2 hjk => ?_⟩, ?_⟩
       · rcases Nat.lt_succ_iff_lt_or_eq.1 hj2 with h | h
         · exact p3 k (by rw [List.mem_iff_getElem?]; exact ⟨j, by rw [List.getElem?_take, if_pos h]; exact hjk⟩) j hj1 h hjk
         · subst h
           rw [he] at hjk
           obtain rfl := Option.some.inj hjk
           intro hel
           refine hr (Zh6.2 ⟨hel, fun k hkl => ?_⟩)
           rw [List.getElem?_append_right hj1] at he
           have hkT := p1.mem hkl
           obtain ⟨m, hm⟩ := List.mem_iff_getElem?.1 hkT
           have hml := (List.getElem?_eq_some_iff.1 hm).1
           by_cases hmj : m < j - a2.length
           · exact absurd hkl (p3 k (by
               rw [List.mem_iff_getElem?]
               refine ⟨m + a2.length, ?_⟩
               rw [List.getElem?_take, if_pos (by omega), List.getElem?_append_right (by omega), Nat.add_sub_cancel]
               exact hm) (m + a2.length) (by omega) (by omega) (by rw [List.getElem?_append_right (by omega), Nat.add_sub_cancel]; exact hm))
           · have : ¬ k < e := by
               rcases Nat.lt_or_eq_of_le (Nat.le_of_not_lt hmj) with h5 | h5
               · have := (hR.rest he).2 k (by
                   rw [List.mem_iff_getElem?]
                   refine ⟨m - (j - a2.length + 1), ?_⟩
                   rw [List.getElem?_drop, show j - a2.length + 1 + (m - (j - a2.length + 1)) = m by omega]
                   exact hm)
                 omega
               · rw [← h5, he] at hm
                 have := Option.some.inj hm
                 omega
             simp [mB, this]
       · show Zn a2 T (n + 1) st.1 st.2 (i : Int) = _
         rw [Zn, hlt, if_pos rfl, he']
         simp only [Option.bind_some]
         rw [hd]
         simp only [Option.bind_some]
         rw [eq_false_of_ne_true hr, if_neg (by decide)]
         rfl) (fun n st hp => by
           show Zn a2 T (n + 1) st.1 st.2 _ = _
           rw [Zn, List.nil_append, lt_e]; rfl) (s0 := (x, ([] : List Int))) ⟨T, LineOk.new hx1 hx2, ⟨by simp, (fun _ h => by cases h), .nil, (fun _ h => by cases h)⟩, (fun _ h => by simp at h)⟩
   have h4' : Zn a2 T (Int.toNat (((a2 ++ T).length : Int) - (0 : Int)) + 1) x ([] : List Int) (0 : Int) = some st := h4
   rw [h4']
   have hleft : left = [] := by
     rw [List.eq_nil_iff_forall_not_mem]
     intro k hk
     obtain ⟨m, hm⟩ := List.mem_iff_getElem?.1 (h1.mem hk)
     have hml := (List.getElem?_eq_some_iff.1 hm).1
     have hat : (a2 ++ T)[m + a2.length]? = some k := by rw [List.getElem?_append_right (by omega), Nat.add_sub_cancel]; exact hm
     exact h3 k (by rw [List.take_length]; exact List.mem_append_right _ (h1.mem hk)) (m + a2.length) (by omega) (by rw [List.length_append]; omega) hat hk
   have hlen : st.2.length = a0.length := by
     have := h2.len
     rw [hleft, List.length_nil] at this
     have := hTn rfl
     omega
   have hne : ((st.2.length : Int) != (a0.length : Int)) = false := by rw [hlen]; simp
   simp only [Option.bind_some, hne, Bool.not_false, gd_t, Zb7, h1.hleft, hleft, List.length_nil, Bool.false_or]
   rw [if_neg (by decide), Zlu c (by omega) (fun k hk => hR.rng k (h2.mem k hk).1) h2.ord]
   rfl
end Go.CL
namespace Go.CL
open Go Go.RowKit Go.Proofs Go.ChangeShapes Go.WideShapes Go.ChangeAt
theorem Zm7 : ownKnob Try.prog.godebug = none := by kernel_rfl
theorem Zhd : laidOutB Try.prog = true := by kernel_rfl
theorem op_3 : Opn Try.prog 3 (Kd.int .i64) (fun x => ((IntKind.i64).min ≤ x ∧ x ≤ (IntKind.i64).max)) := Zj4 Try.underlying3 (by kernel_rfl)
theorem op_9 : Opn Try.prog 9 Kd.str (fun x => (x.size ≤ maxLen)) := Zm9 Try.underlying9 (by kernel_rfl)
theorem op_2 : Opn Try.prog 2 (Kd.int .i64) (fun x => ((IntKind.i64).min ≤ x ∧ x ≤ (IntKind.i64).max)) := Zj4 Try.underlying2 (by kernel_rfl)
theorem Zkm : Opn Try.prog 44 Kd.flt (fun x => (x < 2 ^ 64)) := Zmt Try.underlying44 (by kernel_rfl)
theorem Zn6 : Opn Try.prog 67 Zb3 Zfy := ⟨by kernel_rfl, fun hg h => by
 obtain ⟨hl, n, hf⟩ := Zfe Try.underlying67 h
 obtain ⟨y0, h0⟩ := hf 0 _ rfl
 obtain ⟨v0, k0, w0⟩ := Zkm.op hg h0
 obtain ⟨y1, h1⟩ := hf 1 _ rfl
 obtain ⟨v1, k1, w1⟩ := op_9.op hg h1
 refine ⟨⟨v0, v1⟩, ⟨hl.trans (by kernel_rfl), (List.forall_mem_cons.2 ⟨k0, (List.forall_mem_cons.2 ⟨k1, (fun _ h => by cases h)⟩)⟩)⟩, w0, w1⟩, fun h => Zfs Try.underlying67 h⟩
theorem Zn5 : Opn Try.prog 45 Zb3.sl (fun x => (x.length ≤ maxLen ∧ ∀ e0 ∈ x, (Zfy e0))) := Zgr Try.underlying45 (by kernel_rfl) Zn6 (by decide)
theorem Zn8 : Opn Try.prog 47 Zci Zgh := ⟨by kernel_rfl, fun hg h => by
 obtain ⟨hl, n, hf⟩ := Zfe Try.underlying47 h
 obtain ⟨y0, h0⟩ := hf 0 _ rfl
 obtain ⟨v0, k0, w0⟩ := op_3.op hg h0
 obtain ⟨y1, h1⟩ := hf 1 _ rfl
 obtain ⟨v1, k1, w1⟩ := op_2.op hg h1
 obtain ⟨y2, h2⟩ := hf 2 _ rfl
 obtain ⟨v2, k2, w2⟩ := op_2.op hg h2
 obtain ⟨y3, h3⟩ := hf 3 _ rfl
 obtain ⟨v3, k3, w3⟩ := op_2.op hg h3
 obtain ⟨y4, h4⟩ := hf 4 _ rfl
 obtain ⟨v4, k4, w4⟩ := Zkm.op hg h4
 obtain ⟨y5, h5⟩ := hf 5 _ rfl
 obtain ⟨v5, k5, w5⟩ := op_3.op hg h5
 obtain ⟨y6, h6⟩ := hf 6 _ rfl
 obtain ⟨v6, k6, w6⟩ := op_9.op hg h6
 obtain ⟨y7, h7⟩ := hf 7 _ rfl
 obtain ⟨v7, k7, w7⟩ := Zn5.op hg h7
 refine ⟨⟨v0, v1, v2, v3, v4, v5, v6, v7⟩, ⟨hl.trans (by kernel_rfl), (List.forall_mem_cons.2 ⟨k0, (List.forall_mem_cons.2 ⟨k1, (List.forall_mem_cons.2 ⟨k2, (List.forall_mem_cons.2 ⟨k3, (List.forall_mem_cons.2 ⟨k4, (List.forall_mem_cons.2 ⟨k5, (List.forall_mem_cons.2 ⟨k6, (List.forall_mem_cons.2 ⟨k7, (fun _ h => by cases h)⟩)⟩)⟩)⟩)⟩)⟩)⟩)⟩)⟩, w0, w1, w2, w3, w4, w5, w6, w7⟩, fun h => Zfs Try.underlying47 h⟩
theorem op_4 : Opn Try.prog 4 Kd.bool (fun x => True) := Zl8 Try.underlying4 (by kernel_rfl)
theorem Zn0 : Opn Try.prog 49 Zr Zf8 := ⟨by kernel_rfl, fun hg h => by
 obtain ⟨hl, n, hf⟩ := Zfe Try.underlying49 h
 obtain ⟨y0, h0⟩ := hf 0 _ rfl
 obtain ⟨v0, k0, w0⟩ := op_3.op hg h0
 obtain ⟨y1, h1⟩ := hf 1 _ rfl
 obtain ⟨v1, k1, w1⟩ := op_9.op hg h1
 obtain ⟨y2, h2⟩ := hf 2 _ rfl
 obtain ⟨v2, k2, w2⟩ := op_2.op hg h2
 obtain ⟨y3, h3⟩ := hf 3 _ rfl
 obtain ⟨v3, k3, w3⟩ := Zkm.op hg h3
 obtain ⟨y4, h4⟩ := hf 4 _ rfl
 obtain ⟨v4, k4, w4⟩ := op_9.op hg h4
 obtain ⟨y5, h5⟩ := hf 5 _ rfl
 obtain ⟨v5, k5, w5⟩ := Zn8.op hg h5
 obtain ⟨y6, h6⟩ := hf 6 _ rfl
 obtain ⟨v6, k6, w6⟩ := op_4.op hg h6
 refine ⟨⟨v0, v1, v2, v3, v4, v5, v6⟩, ⟨hl.trans (by kernel_rfl), (List.forall_mem_cons.2 ⟨k0, (List.forall_mem_cons.2 ⟨k1, (List.forall_mem_cons.2 ⟨k2, (List.forall_mem_cons.2 ⟨k3, (List.forall_mem_cons.2 ⟨k4, (List.forall_mem_cons.2 ⟨k5, (List.forall_mem_cons.2 ⟨k6, (fun _ h => by cases h)⟩)⟩)⟩)⟩)⟩)⟩)⟩)⟩, w0, w1, w2, w3, w4, w5, w6⟩, fun h => Zfs Try.underlying49 h⟩
theorem Znw : Opn Try.prog 41 Zr.sl (fun x => (x.length ≤ maxLen ∧ ∀ e0 ∈ x, (Zf8 e0))) := Zgr Try.underlying41 (by kernel_rfl) Zn0 (by decide)
theorem Zoi : Opn Try.prog 43 Zg Zfx := ⟨by kernel_rfl, fun hg h => by
 obtain ⟨hl, n, hf⟩ := Zfe Try.underlying43 h
 obtain ⟨y0, h0⟩ := hf 0 _ rfl
 obtain ⟨v0, k0, w0⟩ := Znw.op hg h0
 refine ⟨⟨v0⟩, ⟨hl.trans (by kernel_rfl), (List.forall_mem_cons.2 ⟨k0, (fun _ h => by cases h)⟩)⟩, w0⟩, fun h => Zfs Try.underlying43 h⟩
theorem Zoc : Opn Try.prog 22 Zg.sl (fun x => (x.length ≤ maxLen ∧ ∀ e0 ∈ x, (Zfx e0))) := Zgr Try.underlying22 (by kernel_rfl) Zoi (by decide)
theorem Znm : Opn Try.prog 23 Kd.str.sl (fun x => (x.length ≤ maxLen ∧ ∀ e0 ∈ x, (e0.size ≤ maxLen))) := Zgr Try.underlying23 (by kernel_rfl) op_9 (by decide)
theorem Znz : Opn Try.prog 24 (Kd.int .i64).sl (fun x => (x.length ≤ maxLen ∧ ∀ e0 ∈ x, ((IntKind.i64).min ≤ e0 ∧ e0 ≤ (IntKind.i64).max))) := Zgr Try.underlying24 (by kernel_rfl) op_3 (by decide)
theorem LineKeeps_ret (os : Os) (started : os.Started) (H : Type) (enc : TypeId × Value → H) :
   ReturnsInHanded {} Try.checked os 6 .any (Go.Proofs.Ytbepodihebbahaa.Rows.lineKeepsSpec.pre6 enc Try.prog Try.f6 Go.Proofs.Ytbepodihebbahaa.Rows.lineKeepsRow.domain false) (Go.Proofs.Ytbepodihebbahaa.Rows.lineKeepsSpec.post enc Try.prog Try.f6 false true false false) := by
 refine returnsInHanded_of_change (C := Try.checked) Zm7 started (by kernel_rfl) Try.func6
   (ChangeSpec.witness6 (enc := enc) (C := Try.checked) false ⟨#[], #[.slice none 0 0, .slice none 0 0, .slice none 0 0], []⟩ 8 (by kernel_rfl) (by kernel_rfl) (by kernel_rfl) (by kernel_rfl)) ?_
 intro W base args ds gs before hval0 hW hcnd _
 have hval : ∀ (j : Nat) t v, Try.f6.params[j]? = some t → args[j]? = some v → Value.okWide Try.prog W .any base t v := hval0
 have hW' := hW
 obtain ⟨p, q, hA0, hV, rfl, hfz, hnd⟩ := hW
 have hA : DataW.TrodAll enc Try.prog W 0 (fun _ => true) true Try.f6.params.toList args.toList ds p := hA0
 rw [Try.params6] at hA hval
 obtain ⟨v0, v1, v2, d0, d1, d2, p0, p1, p2, rfl, rfl, rfl, h0, h1, h2⟩ := trodAll_three hA
 obtain ⟨rfl, rfl⟩ := trodVars_none hV
 simp only [List.append_nil] at hW'
 have hg : GLok W (fun b _ => b < W.heap.size) := (Zl9 rfl W _)
 have hk0 := h0
 obtain ⟨a0, q0, w0⟩ := Ziw Zoc hg h0 (hval 0 22 v0 rfl rfl)
 have hk1 := h1
 obtain ⟨a1, q1, w1⟩ := Ziw Znm hg h1 (hval 1 23 v1 rfl rfl)
 have hk2 := h2
 obtain ⟨a2, q2, w2⟩ := Ziw Znz hg h2 (hval 2 24 v2 rfl rfl)
 refine (Zfm a0 a1 a2 (LineKeeps_true a0 a1 a2 w0 w1 w2) (GW W hg) [v0, v1, v2] (Zc5 q0 (Zc5 q1 (Zc5 q2 Zf7)))).mono fun e W' ⟨g', v, he, hw, hs, hq⟩ => ?_
 subst he; subst hw
 rw [Zcs.1 hq]
 have hbel := Zlv hs
 have hlt : ∀ x ∈ (p0 ++ p1 ++ p2), x.block < W.heap.size := fun x hx => by simpa using hW'.lt x hx
 exact ⟨_, rfl, Zim (pv := []) hW' hbel (trodAll_mk1 (shut_bool Try.underlying4 true)) (trodAll_mk3 (Below.trod Zhd (by kernel_rfl) (of_decide_eq_true (by kernel_rfl)) hk0 hbel (fun x hx => hlt x (by simp [hx]))) (Below.trod Zhd (by kernel_rfl) (of_decide_eq_true (by kernel_rfl)) hk1 hbel (fun x hx => hlt x (by simp [hx]))) (Below.trod Zhd (by kernel_rfl) (of_decide_eq_true (by kernel_rfl)) hk2 hbel (fun x hx => hlt x (by simp [hx])))) rfl⟩
theorem LineKeeps_holds : Go.Proofs.Ytbepodihebbahaa.Rows.LineKeepsSaid :=
 OpenClaim.holds_of_wide 6 Try.f6 rfl rfl rfl rfl rfl rfl rfl ⟨rfl, rfl, rfl, rfl, rfl⟩ rfl rfl rfl rfl rfl (by kernel_rfl) Try.func6 (by kernel_rfl)
   (of_decide_eq_true (by kernel_rfl)) (by unfold Func.isWrapper; first | (rw [if_pos (by decide +kernel)]; kernel_rfl) | (rw [if_neg (by decide +kernel)]; exact ⟨rfl, rfl⟩))
   (fun os started H enc _ => LineKeeps_ret os started H enc)
end Go.CL
