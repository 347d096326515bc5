/- A part of the proof of LineWaits. -/
import Derived.Test.YtbepodihebbahaaLineWaitsC2
import Derived.Laws.Strings
import Derived.Test.YtbepodihebbahaaRows
set_option linter.unusedVariables false
set_option linter.unusedSimpArgs false
set_option maxRecDepth 100000
namespace Go.CL
open Go Go.RowKit Go.Proofs
theorem Zg6 (a0 : Z5) {r : Int} (h : Zb8 a0 = some r) : FnOk Try.prog 18 [(Zd8.ptr a0)] (pInt .i64 r) := by
 have H0 := h
 unfold Zb8 at H0
 clear h
 refine Zb1 (N := 8) Try.func18 rfl rfl (Nat.le_of_ble_eq_true rfl) rfl rfl (fun a g0 hst hb => ?_)
 refine r_s (T := [⟨[], _, [], [], [2]⟩]) (F := [.old 0]) hst hb Zb
   (o_p rfl (Zc rfl rfl c_i) <| o_n) (by kernel_rfl) (fun a g hst hb => ?_)
 refine r_s (T := [⟨[.old 0], _, [], [], [3]⟩, ⟨[.op 0 0], _, [], [0], [4]⟩, ⟨[.op 1 0], _, [], [0, 1], [5]⟩, ⟨[.op 2 0], _, [], [0, 1, 2], [6]⟩, ⟨[.op 3 0], _, [], Lr 4, [7]⟩, ⟨[.op 4 0], _, [], Lr 5, [2]⟩]) (F := [.op 5 0, .op 3 0]) hst hb Zb
   (o_p rfl (Za rfl rfl u_0) <| o_p rfl (Zcx rfl rfl u_0 (fun _ _ ⟨_, _, _, e, _⟩ => ⟨_, e⟩)) <| o_p rfl (Zk Zhh rfl rfl u_0) <| o_p rfl (Zf Zi2 rfl rfl u_0) <| o_p rfl (Z1 Try.underlying24 rfl rfl u_0) <| o_p rfl (Zc rfl rfl u_0) <| o_n) (by kernel_rfl) (fun a g hst hb => ?_)
 refine wp_ret ?_
 obtain rfl := Option.some.inj H0
 exact Z3 rfl hst hb (Zl (s := 2)) (hst.at 0 rfl)
theorem Zhj (a0 : Z5) {r : Int} (h : Zb8 a0 = some r) : FnL Try.prog 18 [(Zd8.ptr a0)] (pInt .i64 r) := FnL.of (Zg6 a0 h) Zjg
theorem Zeq (a0 : Z5) {r : Int} (h : Zb8 a0 = some r) : FnM Try.prog 18 Zz a0 a0 [] (pInt .i64 r) := Zhu Zf5 (Zhj a0 h) rfl
theorem Zgb {r : Bool} (h : Zdr = some r) : FnOk Try.prog 7 [] (Zm r) := by
 have H0 := h
 unfold Zdr at H0
 clear h
 refine Zb1 (N := 70) Try.func7 rfl rfl (Nat.le_of_ble_eq_true rfl) rfl rfl (fun a g0 hst hb => ?_)
 refine r_s (T := [⟨[], _, [], [], [0]⟩]) (F := []) hst hb Zb
   (o_p rfl (Zc rfl rfl c_b) <| o_n) (by kernel_rfl) (fun a g hst hb => ?_)
 refine r_s (T := [⟨[], _, [], [], [4]⟩, ⟨[.op 0 0], _, [], [0], [5]⟩, ⟨[.op 1 0], _, [], [0, 1], [6]⟩, ⟨[], [(1, (pBox Zh 1 (default : Ze)))], [2], [], [1]⟩, ⟨[.op 2 0, .op 3 0], _, [2], Lr 4, [1]⟩]) (F := [.op 4 0]) hst hb Zb
   (o_p rfl (Zjx rfl rfl c_i c_s c_i) <| o_p rfl (Zd5 Zo2 (xs := [.tmp 4]) (.cons u_0 .nil) (by decide) rfl rfl) <| o_p rfl (Znd rfl rfl u_0) <| o_p rfl (Zeh (zs := [.slice none 0 0]) (by kernel_rfl) (fun g => Zhk g) rfl rfl) <| o_p rfl (Zd1 Zdw rfl rfl u_1 u_0) <| o_n) (by kernel_rfl) (fun a g hst hb => ?_)
 obtain ⟨r1, h2, H0⟩ := Zd H0
 refine r_s (T := [⟨[.old 0], _, [], [], [7]⟩, ⟨[.old 0], _, [], [], [8]⟩, ⟨[.op 0 0, .op 1 0], _, [], [0, 1], [9]⟩, ⟨[], _, [], [], [10]⟩, ⟨[.op 2 0, .op 3 0], [(11, (pObj Zz 11 r1))], [12, 1000012], Lr 4, [11]⟩, ⟨[.op 4 0], [(2, (pObj Zz 11 r1))], [], Lr 5, [2]⟩]) (F := [.old 0, .op 5 0]) hst hb Zb
   (o_p rfl (Zf Zdw rfl rfl u_0) <| o_p rfl (Zf Zdw rfl rfl u_0) <| o_p rfl (Zd5 Zm0 (xs := [.tmp 7, .tmp 8]) (.cons u_0 (.cons u_1 .nil)) (by decide) rfl rfl) <| o_p rfl (Zd5 Zc1 (xs := [.const (.int .i64 0), .const (.int .i64 1)]) (.cons c_i (.cons c_i .nil)) (by decide) rfl rfl) <| o_p rfl (Zgn Zko (Zf8 _ _ _ h2) rfl rfl (.cons u_0 (.cons u_1 (.cons (Opd.c (fun g => Zek g)) .nil)))) <| o_p rfl (Zc rfl rfl u_0) <| o_n) (by kernel_rfl) (fun a g hst hb => ?_)
 obtain ⟨r3, h4, H0⟩ := Zd H0
 refine r_s (T := [⟨[.old 0], _, [], [], [12]⟩, ⟨[.old 0], _, [], [], [13]⟩, ⟨[.op 0 0, .op 1 0], _, [], [0, 1], [14]⟩, ⟨[], _, [], [], [15]⟩, ⟨[], _, [], [], [16]⟩, ⟨[.op 2 0, .op 3 0, .op 4 0], [(17, (pObj Zz 17 r3))], [18, 1000018], Lr 5, [17]⟩, ⟨[.op 5 0], [(3, (pObj Zz 17 r3))], [], Lr 6, [3]⟩]) (F := [.old 1, .op 6 0]) hst hb Zb
   (o_p rfl (Zf Zdw rfl rfl u_0) <| o_p rfl (Zf Zdw rfl rfl u_0) <| o_p rfl (Zd5 Zm0 (xs := [.tmp 12, .tmp 13]) (.cons u_0 (.cons u_1 .nil)) (by decide) rfl rfl) <| o_p rfl (Zd5 Zc1 (xs := [.const (.int .i64 0), .const (.int .i64 1)]) (.cons c_i (.cons c_i .nil)) (by decide) rfl rfl) <| o_p rfl (Zd5 Zn3 (xs := [.const (.string ⟨#[97]⟩)]) (.cons c_s .nil) (by decide) rfl rfl) <| o_p rfl (Zgn Zko (Zf8 _ _ _ h4) rfl rfl (.cons u_0 (.cons u_1 (.cons u_2 .nil)))) <| o_p rfl (Zc rfl rfl u_0) <| o_n) (by kernel_rfl) (fun a g hst hb => ?_)
 refine wp_seq ?_
 obtain ⟨r5, h6, H0⟩ := Zd H0
 refine r_s (T := [⟨[.old 0], [(18, (pObj Zz 11 r1))], [], [], [18]⟩, ⟨[.op 0 0], _, [], [0], [19]⟩, ⟨[.op 1 0], _, [], [0, 1], [20]⟩, ⟨[.op 2 0, .old 1], [(21, (pIf (!false) (pObj Zz 17 r3)))], [], [0, 1, 2], [21]⟩, ⟨[.op 2 0, .op 3 0], _, [], Lr 4, [22]⟩, ⟨[.op 2 0, .op 4 0], _, [], Lr 5, [23]⟩, ⟨[.op 5 0], _, [], Lr 6, [24]⟩, ⟨[.op 6 0, .old 0], [(25, (pIf (!(false || false)) (pObj Zz 11 r1)))], [], Lr 7, [25]⟩, ⟨[.op 6 0, .op 7 0, .old 0], [(26, (pIf (!(false || false)) (pInt .i64 r5))), (2, (pObj Zz 11 r1))], [12, 1000012], Lr 8, [2, 18, 25, 26]⟩, ⟨[.op 6 0, .op 8 0], _, [], Lr 9, [27]⟩, ⟨[.op 6 0, .op 9 0], _, [], Lr 10, [28]⟩]) (F := [.op 8 1, .old 1, .op 10 0]) hst hb Zb
   (o_p rfl (Za rfl rfl u_0) <| o_p rfl (Zlx Try.underlying28 rfl rfl u_0 Zkc) <| o_p rfl (Za rfl rfl u_0) <| o_g (g_f rfl rfl rfl (fun hG => Za rfl rfl u_0)) <| o_g (g_f rfl rfl rfl (fun hG => Zlx Try.underlying28 rfl rfl (Opd.gd hG u_0) Zkc)) <| o_p rfl (Zb9 rfl rfl u_0 (fun hz => (Opd.gd (bNF hz) u_1))) <| o_p rfl (Za rfl rfl u_0) <| o_g (g_f rfl rfl rfl (fun hG => Za rfl rfl u_0)) <| o_g (OT.guardM (!(false || false)) (gF (false || false)).1 (gF (false || false)).2 rfl rfl rfl (by decide) u_1 (fun hG => Zcl Zkr (Zeq _ (Zbe h6 hG)) rfl rfl rfl (by decide) u_1 (Opd.gd hG u_0) .nil) (ite_self _).symm) <| o_g (g_f rfl rfl rfl (fun hG => Zh7 rfl rfl (Opd.gd hG u_0) c_i)) <| o_p rfl (Zb9 rfl rfl u_0 (fun hz => (Opd.gd (bNF hz) u_1))) <| o_n) (by kernel_rfl) (fun a g hst hb => ?_)
 refine wp_cond_split (hst.bool 2 rfl) (fun hc7 => ?_) (fun hc7 => ?_)
 · replace H0 := Zv hc7 H0
   refine r_s (L := []) (T := [⟨[], _, [], [], [0]⟩]) (F := [.op 0 0]) (hst.pick [] rfl) hb Zb
     (o_p rfl (Zc rfl rfl c_b) <| o_n) (by kernel_rfl) (fun a g hst hb => ?_)
   refine wp_ret ?_
   refine Zg ?_
   obtain rfl := Option.some.inj H0
   exact Z3 rfl hst hb (Zl (s := 0)) (hst.at 0 rfl)
 · replace H0 := Zw hc7 H0
   refine wp_skip ?_
   refine Zi ?_
   obtain ⟨r8, h9, H0⟩ := Zd H0; obtain ⟨r10, h11, H0⟩ := Zd H0; obtain ⟨r12, h13, H0⟩ := Zd H0; obtain ⟨r14, h15, H0⟩ := Zd H0; obtain ⟨r16, h17, H0⟩ := Zd H0; obtain ⟨r18, h19, H0⟩ := Zd H0; obtain ⟨r20, h21, H0⟩ := Zd H0; obtain ⟨r22, h23, H0⟩ := Zd H0; obtain ⟨r24, h25, H0⟩ := Zd H0; obtain ⟨r26, h27, H0⟩ := Zd H0
   refine r_s (L := [(2, _), (3, _)]) (T := ⟨[.old 0], [(29, (pObj Zz 11 r1))], [], [], [29]⟩ :: ⟨[.op 0 0, .old 0], [(30, (Zm r8)), (2, (pObj Zz 11 r1))], [12, 1000012], [0], [2, 29, 30]⟩ :: ⟨[.op 1 0], _, [], [0, 1], [31]⟩ :: ⟨[.op 2 0, .op 1 1], [(32, (pIf r8 (pObj Zz 11 r1)))], [], [0, 1, 2], [32]⟩ :: ⟨[.op 2 0, .op 3 0, .op 1 1], [(33, (pIf r8 (Zm r10))), (2, (pObj Zz 11 r1))], [12, 1000012], Lr 4, [2, 29, 32, 33]⟩ :: ⟨[.op 2 0, .op 4 0], _, [], Lr 5, [34]⟩ :: ⟨[.op 2 0, .op 5 0], _, [], Lr 6, [35]⟩ :: ⟨[.op 6 0], _, [], Lr 7, [36]⟩ :: ⟨[.op 7 0, .op 4 1], [(37, (pIf (r8 && (!r10)) (pObj Zz 11 r1)))], [], Lr 8, [37]⟩ :: ⟨[.op 7 0, .op 8 0, .op 4 1], [(38, (pIf (r8 && (!r10)) ((Kd.int .i64).sl.pd r12))), (2, (pObj Zz 11 r1))], [12, 1000012], Lr 9, [2, 29, 32, 37, 38]⟩ :: ⟨[.op 7 0], _, [], Lr 8, [39]⟩ :: ⟨[.op 7 0, .op 9 0, .op 10 0], _, [], Lr 11, [40]⟩ :: ⟨[.op 7 0, .op 11 0], _, [], Lr 12, [41]⟩ :: ⟨[.op 12 0], _, [], Lr 13, [42]⟩ :: ⟨[.op 13 0, .old 1], [(43, (pIf ((r8 && (!r10)) && r14) (pObj Zz 17 r3)))], [], Lr 14, [43]⟩ :: ⟨[.op 13 0, .op 14 0, .old 1], [(44, (pIf ((r8 && (!r10)) && r14) (Zm r16))), (3, (pObj Zz 17 r3))], [18, 1000018], Lr 15, [3, 43, 44]⟩ :: ⟨[.op 13 0, .op 15 0], _, [], Lr 16, [45]⟩ :: ⟨[.op 16 0], _, [], Lr 17, [46]⟩ :: ⟨[.op 17 0, .op 9 1], [(47, (pIf (((r8 && (!r10)) && r14) && r16) (pObj Zz 11 r1)))], [], Lr 18, [47]⟩ :: ⟨[.op 17 0, .op 18 0, .op 9 1], [(48, (pIf (((r8 && (!r10)) && r14) && r16) (Zm r18.2))), (2, (pObj Zz 11 (if (((r8 && (!r10)) && r14) && r16) = true then r18.1 else r1)))], [12, 1000012], Lr 19, [2, 29, 32, 37, 47, 48]⟩ :: ⟨[.op 17 0, .op 19 0], _, [], Lr 20, [49]⟩ :: ⟨[.op 17 0, .op 20 0], _, [], Lr 21, [50]⟩ :: ⟨[.op 21 0], _, [], Lr 22, [51]⟩ :: ⟨[.op 22 0, .op 19 1], [(52, (pIf ((((r8 && (!r10)) && r14) && r16) && (!r18.2)) (pObj Zz 11 (if (((r8 && (!r10)) && r14) && r16) = true then r18.1 else r1))))], [], Lr 23, [52]⟩ :: ⟨[.op 22 0, .op 23 0, .op 19 1], [(53, (pIf ((((r8 && (!r10)) && r14) && r16) && (!r18.2)) (Zm r20.2))), (2, (pObj Zz 11 (if ((((r8 && (!r10)) && r14) && r16) && (!r18.2)) = true then r20.1 else (if (((r8 && (!r10)) && r14) && r16) = true then r18.1 else r1))))], [12, 1000012], Lr 24, [2, 29, 32, 37, 47, 52, 53]⟩ :: ⟨[.op 22 0, .op 24 0], _, [], Lr 25, [54]⟩ :: ⟨[.op 25 0], _, [], Lr 26, [55]⟩ :: ⟨[.op 26 0, .op 24 1], [(56, (pIf (((((r8 && (!r10)) && r14) && r16) && (!r18.2)) && r20.2) (pObj Zz 11 (if ((((r8 && (!r10)) && r14) && r16) && (!r18.2)) = true then r20.1 else (if (((r8 && (!r10)) && r14) && r16) = true then r18.1 else r1)))))], [], Lr 27, [56]⟩ :: ⟨[.op 26 0, .op 27 0, .op 24 1], [(57, (pIf (((((r8 && (!r10)) && r14) && r16) && (!r18.2)) && r20.2) (Zm r22.2))), (2, (pObj Zz 11 (if (((((r8 && (!r10)) && r14) && r16) && (!r18.2)) && r20.2) = true then r22.1 else (if ((((r8 && (!r10)) && r14) && r16) && (!r18.2)) = true then r20.1 else (if (((r8 && (!r10)) && r14) && r16) = true then r18.1 else r1)))))], [12, 1000012], Lr 28, [2, 29, 32, 37, 47, 52, 56, 57]⟩ :: ⟨[.op 26 0, .op 28 0], _, [], Lr 29, [58]⟩ :: ⟨[.op 29 0], _, [], Lr 30, [59]⟩ :: ⟨[.op 30 0, .op 28 1], [(60, (pIf ((((((r8 && (!r10)) && r14) && r16) && (!r18.2)) && r20.2) && r22.2) (pObj Zz 11 (if (((((r8 && (!r10)) && r14) && r16) && (!r18.2)) && r20.2) = true then r22.1 else (if ((((r8 && (!r10)) && r14) && r16) && (!r18.2)) = true then r20.1 else (if (((r8 && (!r10)) && r14) && r16) = true then r18.1 else r1))))))], [], Lr 31, [60]⟩ :: ⟨[.op 30 0, .op 31 0, .op 28 1], [(61, (pIf ((((((r8 && (!r10)) && r14) && r16) && (!r18.2)) && r20.2) && r22.2) (pInt .i64 r24))), (2, (pObj Zz 11 (if (((((r8 && (!r10)) && r14) && r16) && (!r18.2)) && r20.2) = true then r22.1 else (if ((((r8 && (!r10)) && r14) && r16) && (!r18.2)) = true then r20.1 else (if (((r8 && (!r10)) && r14) && r16) = true then r18.1 else r1)))))], [12, 1000012], Lr 32, [2, 29, 32, 37, 47, 52, 56, 60, 61]⟩ :: ⟨[.op 30 0, .op 32 0], _, [], Lr 33, [62]⟩ :: ⟨[.op 30 0, .op 33 0], _, [], Lr 34, [63]⟩ :: ⟨[.op 34 0], _, [], Lr 35, [64]⟩ :: ⟨[.op 35 0, .op 32 1], [(65, (pIf (((((((r8 && (!r10)) && r14) && r16) && (!r18.2)) && r20.2) && r22.2) && (r24 == (0 : Int))) (pObj Zz 11 (if (((((r8 && (!r10)) && r14) && r16) && (!r18.2)) && r20.2) = true then r22.1 else (if ((((r8 && (!r10)) && r14) && r16) && (!r18.2)) = true then r20.1 else (if (((r8 && (!r10)) && r14) && r16) = true then r18.1 else r1))))))], [], Lr 36, [65]⟩ :: ⟨[.op 35 0, .op 36 0, .op 32 1], [(66, (pIf (((((((r8 && (!r10)) && r14) && r16) && (!r18.2)) && r20.2) && r22.2) && (r24 == (0 : Int))) ((Kd.int .i64).sl.pd r26))), (2, (pObj Zz 11 (if (((((r8 && (!r10)) && r14) && r16) && (!r18.2)) && r20.2) = true then r22.1 else (if ((((r8 && (!r10)) && r14) && r16) && (!r18.2)) = true then r20.1 else (if (((r8 && (!r10)) && r14) && r16) = true then r18.1 else r1)))))], [12, 1000012], Lr 37, [2, 29, 32, 37, 47, 52, 56, 60, 65, 66]⟩ :: ⟨[.op 35 0, .op 37 0], _, [], Lr 38, [67]⟩ :: ⟨[.op 35 0, .op 38 0], _, [], Lr 39, [68]⟩ :: ⟨[.op 35 0, .op 39 0], _, [], Lr 40, [69]⟩ :: ⟨[.op 40 0], _, [], Lr 41, [0]⟩ :: []) (F := [.op 41 0]) (hst.pick [0, 1] rfl) hb Zb
     (o_p rfl (Za rfl rfl u_0) <| o_p rfl (Zcl Zh3 (Zdk _ _ h9) rfl rfl rfl (by decide) u_1 u_0 (.cons c_i .nil)) <| o_p rfl (Za rfl rfl u_0) <| o_g (g_t rfl rfl rfl (fun hG => Za rfl rfl u_0)) <| o_g (OT.guardM r8 (gT r8).1 (gT r8).2 rfl rfl rfl (by decide) u_1 (fun hG => Zcl Zh3 (Zdk _ _ (Zbe h11 hG)) rfl rfl rfl (by decide) u_1 (Opd.gd hG u_0) (.cons c_i .nil)) (ite_self _).symm) <| o_g (g_t rfl rfl rfl (fun hG => Zdm rfl rfl (Opd.gd hG u_0))) <| o_p rfl (Zb4 rfl rfl u_0 (fun hz => (Opd.gd hz u_1))) <| o_p rfl (Za rfl rfl u_0) <| o_g (g_t rfl rfl rfl (fun hG => Za rfl rfl u_0)) <| o_g (OT.guardM (r8 && (!r10)) (gT (r8 && (!r10))).1 (gT (r8 && (!r10))).2 rfl rfl rfl (by decide) u_1 (fun hG => Zcl Zi3 (Zei _ _ (Zbe h13 hG)) rfl rfl rfl (by decide) u_1 (Opd.gd hG u_0) (.cons c_i .nil)) (ite_self _).symm) <| o_g (g_t rfl rfl rfl (fun hG => Zd5 Zc1 (xs := [.const (.int .i64 0)]) (.cons c_i .nil) (by decide) rfl rfl)) <| o_g (g_t rfl rfl rfl (fun hG => Zba Zmv (Zfc _ _ (Zbe h15 hG)) rfl rfl (.cons (Opd.gd hG u_0) (.cons (Opd.gd hG u_1) .nil)))) <| o_p rfl (Zb4 rfl rfl u_0 (fun hz => (Opd.gd hz u_1))) <| o_p rfl (Za rfl rfl u_0) <| o_g (g_t rfl rfl rfl (fun hG => Za rfl rfl u_0)) <| o_g (OT.guardM ((r8 && (!r10)) && r14) (gT ((r8 && (!r10)) && r14)).1 (gT ((r8 && (!r10)) && r14)).2 rfl rfl rfl (by decide) u_1 (fun hG => Zcl Zh3 (Zdk _ _ (Zbe h17 hG)) rfl rfl rfl (by decide) u_1 (Opd.gd hG u_0) (.cons c_i .nil)) (ite_self _).symm) <| o_p rfl (Zb4 rfl rfl u_0 (fun hz => (Opd.gd hz u_1))) <| o_p rfl (Za rfl rfl u_0) <| o_g (g_t rfl rfl rfl (fun hG => Za rfl rfl u_0)) <| o_g (OT.guardM (((r8 && (!r10)) && r14) && r16) (gT (((r8 && (!r10)) && r14) && r16)).1 (gT (((r8 && (!r10)) && r14) && r16)).2 rfl rfl rfl (by decide) u_1 (fun hG => Zcl Zi1 (Zdv _ _ (Zbe h19 hG)) rfl rfl rfl (by decide) u_1 (Opd.gd hG u_0) (.cons c_i .nil)) rfl) <| o_g (g_t rfl rfl rfl (fun hG => Zdm rfl rfl (Opd.gd hG u_0))) <| o_p rfl (Zb4 rfl rfl u_0 (fun hz => (Opd.gd hz u_1))) <| o_p rfl (Za rfl rfl u_0) <| o_g (g_t rfl rfl rfl (fun hG => Za rfl rfl u_0)) <| o_g (OT.guardM ((((r8 && (!r10)) && r14) && r16) && (!r18.2)) (gT ((((r8 && (!r10)) && r14) && r16) && (!r18.2))).1 (gT ((((r8 && (!r10)) && r14) && r16) && (!r18.2))).2 rfl rfl rfl (by decide) u_1 (fun hG => Zcl Zi1 (Zdv _ _ (Zbe h21 hG)) rfl rfl rfl (by decide) u_1 (Opd.gd hG u_0) (.cons c_i .nil)) rfl) <| o_p rfl (Zb4 rfl rfl u_0 (fun hz => (Opd.gd hz u_1))) <| o_p rfl (Za rfl rfl u_0) <| o_g (g_t rfl rfl rfl (fun hG => Za rfl rfl u_0)) <| o_g (OT.guardM (((((r8 && (!r10)) && r14) && r16) && (!r18.2)) && r20.2) (gT (((((r8 && (!r10)) && r14) && r16) && (!r18.2)) && r20.2)).1 (gT (((((r8 && (!r10)) && r14) && r16) && (!r18.2)) && r20.2)).2 rfl rfl rfl (by decide) u_1 (fun hG => Zcl Zi1 (Zdv _ _ (Zbe h23 hG)) rfl rfl rfl (by decide) u_1 (Opd.gd hG u_0) (.cons c_i .nil)) rfl) <| o_p rfl (Zb4 rfl rfl u_0 (fun hz => (Opd.gd hz u_1))) <| o_p rfl (Za rfl rfl u_0) <| o_g (g_t rfl rfl rfl (fun hG => Za rfl rfl u_0)) <| o_g (OT.guardM ((((((r8 && (!r10)) && r14) && r16) && (!r18.2)) && r20.2) && r22.2) (gT ((((((r8 && (!r10)) && r14) && r16) && (!r18.2)) && r20.2) && r22.2)).1 (gT ((((((r8 && (!r10)) && r14) && r16) && (!r18.2)) && r20.2) && r22.2)).2 rfl rfl rfl (by decide) u_1 (fun hG => Zcl Zkr (Zeq _ (Zbe h25 hG)) rfl rfl rfl (by decide) u_1 (Opd.gd hG u_0) .nil) (ite_self _).symm) <| o_g (g_t rfl rfl rfl (fun hG => Zch rfl rfl (Opd.gd hG u_0) c_i)) <| o_p rfl (Zb4 rfl rfl u_0 (fun hz => (Opd.gd hz u_1))) <| o_p rfl (Za rfl rfl u_0) <| o_g (g_t rfl rfl rfl (fun hG => Za rfl rfl u_0)) <| o_g (OT.guardM (((((((r8 && (!r10)) && r14) && r16) && (!r18.2)) && r20.2) && r22.2) && (r24 == (0 : Int))) (gT (((((((r8 && (!r10)) && r14) && r16) && (!r18.2)) && r20.2) && r22.2) && (r24 == (0 : Int)))).1 (gT (((((((r8 && (!r10)) && r14) && r16) && (!r18.2)) && r20.2) && r22.2) && (r24 == (0 : Int)))).2 rfl rfl rfl (by decide) u_1 (fun hG => Zcl Zi3 (Zei _ _ (Zbe h27 hG)) rfl rfl rfl (by decide) u_1 (Opd.gd hG u_0) (.cons c_i .nil)) (ite_self _).symm) <| o_g (g_t rfl rfl rfl (fun hG => Z1 Try.underlying24 rfl rfl (Opd.gd hG u_0))) <| o_g (g_t rfl rfl rfl (fun hG => Zch rfl rfl (Opd.gd hG u_0) c_i)) <| o_p rfl (Zb4 rfl rfl u_0 (fun hz => (Opd.gd hz u_1))) <| o_p rfl (Zc rfl rfl u_0) <| o_n) (by kernel_rfl) (fun a g hst hb => ?_)
   refine wp_ret ?_
   obtain rfl := Option.some.inj H0
   exact Z3 rfl hst hb (Zl (s := 0)) (hst.at 0 rfl)
theorem Zg8 (a0 : Z4) {r : Int} (h : Zdp a0 = some r) : FnOk Try.prog 35 [(Zco.pd a0)] (pInt .i64 r) := by
 have H0 := h
 unfold Zdp at H0
 clear h
 refine Zb1 (N := 27) Try.func35 rfl rfl (Nat.le_of_ble_eq_true rfl) rfl rfl (fun a g0 hst hb => ?_)
 refine r_s (T := [⟨[.old 0], _, [], [], [1]⟩, ⟨[], _, [], [], [2]⟩]) (F := [.op 0 0]) hst hb Zb
   (o_p rfl (Zdx rfl rfl u_0) <| o_p rfl (Zc rfl rfl c_i) <| o_n) (by kernel_rfl) (fun a g hst hb => ?_)
 refine wp_seq ?_
 refine r_s (T := [⟨[.old 0], _, [], [], [5]⟩, ⟨[.op 0 0], _, [], [0], [6]⟩, ⟨[.op 1 0], _, [], [0, 1], [7]⟩, ⟨[.op 2 0], _, [], [0, 1, 2], [8]⟩, ⟨[.op 3 0], _, [], Lr 4, [9]⟩, ⟨[.op 4 0, .old 0], _, [], Lr 5, [10]⟩, ⟨[.op 4 0, .op 5 0], _, [], Lr 6, [11]⟩, ⟨[.op 4 0, .op 6 0], _, [], Lr 7, [12]⟩, ⟨[.op 4 0, .op 7 0], _, [], Lr 8, [13]⟩, ⟨[.op 4 0, .op 8 0], _, [], Lr 9, [14]⟩]) (F := [.old 0, .op 9 0]) hst hb Zb
   (o_p rfl (Zk Zj5 rfl rfl u_0) <| o_p rfl (Zf Zmr rfl rfl u_0) <| o_p rfl (Z1 Try.underlying45 rfl rfl u_0) <| o_p rfl (Zel rfl rfl u_0 c_i) <| o_p rfl (Za rfl rfl u_0) <| o_g (g_f rfl rfl rfl (fun hG => Zk Zm3 rfl rfl u_0)) <| o_g (g_f rfl rfl rfl (fun hG => Zf ty_9 rfl rfl (Opd.gd hG u_0))) <| o_g (g_f rfl rfl rfl (fun hG => Zhg Try.underlying9 rfl rfl (Opd.gd hG u_0))) <| o_g (g_f rfl rfl rfl (fun hG => Zel rfl rfl (Opd.gd hG u_0) c_i)) <| o_p rfl (Zb9 rfl rfl u_0 (fun hz => (Opd.gd (bNF hz) u_1))) <| o_n) (by kernel_rfl) (fun a g hst hb => ?_)
 refine wp_cond_split (hst.bool 1 rfl) (fun hc1 => ?_) (fun hc1 => ?_)
 · replace H0 := Zv hc1 H0
   refine r_s (L := []) (T := [⟨[], _, [], [], [2]⟩]) (F := [.op 0 0]) (hst.pick [] rfl) hb Zb
     (o_p rfl (Zc rfl rfl c_i) <| o_n) (by kernel_rfl) (fun a g hst hb => ?_)
   refine wp_ret ?_
   refine Zg ?_
   obtain rfl := Option.some.inj H0
   exact Z3 rfl hst hb (Zl (s := 2)) (hst.at 0 rfl)
 · replace H0 := Zw hc1 H0
   refine wp_skip ?_
   refine Zi ?_
   refine wp_seq ?_
   refine r_s (L := [(1, _)]) (T := [⟨[.old 0], _, [], [], [15]⟩, ⟨[.op 0 0], _, [], [0], [16]⟩, ⟨[.op 1 0], _, [], [0, 1], [17]⟩, ⟨[], _, [], [], [18]⟩]) (F := [.op 1 0, .op 2 0, .op 3 0]) (hst.pick [0] rfl) hb Zb
     (o_p rfl (Zk Zj5 rfl rfl u_0) <| o_p rfl (Zf Zmr rfl rfl u_0) <| o_p rfl (Z1 Try.underlying45 rfl rfl u_0) <| o_p rfl (Za rfl rfl c_i) <| o_n) (by kernel_rfl) (fun a g hst hb => ?_)
   obtain ⟨z7, hz1, H0⟩ := Zd H0
   refine Zbh (fun a w => ∃ (g : G), w = g.w ∧ St 27 [] a g ∧ Base g0 g ∧ (.inr ()) = z7) ?_ ?_
   · rintro a w ⟨g, rfl, hst, hb, rfl⟩
     refine Zi ?_
     refine r_s (T := [⟨[], _, [], [], [2]⟩]) (F := [.op 0 0]) hst hb Zb
       (o_p rfl (Zc rfl rfl c_i) <| o_n) (by kernel_rfl) (fun a g hst hb => ?_)
     refine wp_ret ?_
     obtain rfl := Option.some.inj H0
     exact Z3 rfl hst hb (Zl (s := 2)) (hst.at 0 rfl)
   · refine wp_block ?_
     refine wp_loop_ghost (fun n a w => ∃ (x2 : Int) (g : G), w = g.w ∧ St 27 [(16, (Zca.sl.pd a0.List)), (17, (pInt .i64 (a0.List.length : Int))), (18, (pInt .i64 x2))] a g ∧ Base g0 g ∧ Zbw a0 n x2 = some z7) (Int.toNat ((a0.List.length : Int) - (0 : Int)) + 1) ⟨(0 : Int), g, rfl, (hst.pick [0, 1, 2] rfl), hb, hz1⟩ (fun n a w hI => ?_)
     obtain ⟨x2, g, rfl, hst, hb, H1⟩ := hI
     cases n with
     | zero => exact absurd H1 (by simp [Zbw])
     | succ n =>
       rw [Zbw] at H1
       refine r_s (T := [⟨[.old 2, .old 1], _, [], [], [19]⟩]) (F := [.old 0, .old 1, .old 2, .op 0 0]) hst hb Zb
         (o_p rfl (Zcb rfl rfl u_0 u_1) <| o_n) (by kernel_rfl) (fun a g hst hb => ?_)
       refine wp_seq ?_
       refine wp_cond_split (hst.bool 3 rfl) (fun hc3 => ?_) (fun hc3 => ?_)
       · replace H1 := Zv hc3 H1
         refine wp_skip ?_
         refine Zi ?_
         refine wp_seq ?_
         refine wp_block ?_
         obtain ⟨e4, h5, H1⟩ := Zd H1
         refine r_s (L := [(16, _), (17, _), (18, _)]) (T := [⟨[.old 0, .old 2], _, [], [], [20]⟩, ⟨[.op 0 0], _, [], [0], [21]⟩, ⟨[], [(4, (pBox Zca 4 (default : Zdu)))], [5], [], [4]⟩, ⟨[.op 1 0, .op 2 0], _, [5], [0, 1, 2], [4]⟩]) (F := [.op 3 0, .old 0, .old 1, .old 2]) (hst.pick [0, 1, 2] rfl) hb Zb
           (o_p rfl (Zq Try.underlying45 Zn1 rfl rfl u_0 u_1 h5) <| o_p rfl (Zf Zmt rfl rfl u_0) <| o_p rfl (Zeh (zs := [.float .f64 0, .string ByteArray.empty]) (by kernel_rfl) (fun g => Zjr g) rfl rfl) <| o_p rfl (Zd1 Zmt rfl rfl u_1 u_0) <| o_n) (by kernel_rfl) (fun a g hst hb => ?_)
         refine r_s (T := [⟨[.old 0], _, [], [], [22]⟩, ⟨[.op 0 0], _, [], [0], [23]⟩, ⟨[.op 1 0], _, [], [0, 1], [24]⟩, ⟨[.op 2 0], _, [], [0, 1, 2], [25]⟩]) (F := [.old 1, .old 2, .old 3, .op 3 0]) hst hb Zb
           (o_p rfl (Zk Zns rfl rfl u_0) <| o_p rfl (Zf ty_9 rfl rfl u_0) <| o_p rfl (Zhg Try.underlying9 rfl rfl u_0) <| o_p rfl (Zel rfl rfl u_0 c_i) <| o_n) (by kernel_rfl) (fun a g hst hb => ?_)
         refine wp_cond_split (hst.bool 3 rfl) (fun hc6 => ?_) (fun hc6 => ?_)
         · replace H1 := Zv hc6 H1
           refine r_s (L := []) (T := [⟨[], _, [], [], [2]⟩]) (F := [.op 0 0]) (hst.pick [] rfl) hb Zb
             (o_p rfl (Zc rfl rfl c_i) <| o_n) (by kernel_rfl) (fun a g hst hb => ?_)
           refine wp_ret ?_
           refine Zp ?_
           refine Zg ?_
           refine Zg ?_
           refine Zp ?_
           refine Zg ?_
           refine Zg ?_
           obtain rfl := Option.some.inj H1
           obtain rfl := Option.some.inj H0
           exact Z3 rfl hst hb (Zl (s := 2)) (hst.at 0 rfl)
         · replace H1 := Zw hc6 H1
           refine wp_skip ?_
           refine Z2 ?_
           refine Zi ?_
           refine r_g (L := [(16, _), (17, _), (18, _)]) (T := [⟨[.old 2], _, [], [], [26]⟩, ⟨[.op 0 0], _, [], [0], [18]⟩]) (F := [.old 0, .old 1, .op 1 0]) (hst.pick [0, 1, 2] rfl) hb Zb
             (o_p rfl (Zby rfl rfl u_0 c_i rfl) <| o_p rfl (Za rfl rfl u_0) <| o_n) (by kernel_rfl) (fun a g hst hb => ?_)
           exact ⟨n, Nat.lt_succ_self _, (IntKind.i64.wrap (x2 + (1 : Int))), g, rfl, (hst.pick [0, 1, 2] rfl), hb, H1⟩
       · replace H1 := Zw hc3 H1
         refine wp_exit ?_
         refine Zx ?_
         refine Zx ?_
         refine Zbb ?_
         exact ⟨g, rfl, (hst.pick [] rfl), hb, Option.some.inj H1⟩
theorem Zg5 (a0 : Zn) {r : Int} (h : Zc2 a0 = some r) : FnOk Try.prog 29 [(Zs.pd a0)] (pInt .i64 r) := by
 have H0 := h
 unfold Zc2 at H0
 clear h
 refine Zb1 (N := 19) Try.func29 rfl rfl (Nat.le_of_ble_eq_true rfl) rfl rfl (fun a g0 hst hb => ?_)
 refine r_s (T := [⟨[.old 0], _, [], [], [1]⟩, ⟨[], _, [], [], [2]⟩]) (F := [.op 0 0]) hst hb Zb
   (o_p rfl (Zdx rfl rfl u_0) <| o_p rfl (Zc rfl rfl c_i) <| o_n) (by kernel_rfl) (fun a g hst hb => ?_)
 refine wp_seq ?_
 obtain ⟨r1, h2, H0⟩ := Zd H0
 refine r_s (T := ⟨[.old 0], _, [], [], [3]⟩ :: ⟨[.op 0 0], _, [], [0], [4]⟩ :: ⟨[.op 1 0], _, [], [0, 1], [5]⟩ :: ⟨[.op 2 0], _, [], [0, 1, 2], [6]⟩ :: ⟨[.op 3 0], _, [], Lr 4, [7]⟩ :: ⟨[.op 4 0, .old 0], _, [], Lr 5, [8]⟩ :: ⟨[.op 4 0, .op 5 0], _, [], Lr 6, [9]⟩ :: ⟨[.op 4 0, .op 6 0], _, [], Lr 7, [10]⟩ :: ⟨[.op 4 0, .op 7 0], _, [], Lr 8, [11]⟩ :: ⟨[.op 4 0, .op 8 0], _, [], Lr 9, [12]⟩ :: ⟨[.op 9 0], _, [], Lr 10, [13]⟩ :: ⟨[.op 10 0, .old 0], _, [], Lr 11, [14]⟩ :: ⟨[.op 10 0, .op 11 0], _, [], Lr 12, [15]⟩ :: ⟨[.op 10 0, .op 12 0], _, [], Lr 13, [16]⟩ :: ⟨[.op 10 0, .op 13 0], _, [], Lr 14, [17]⟩ :: ⟨[.op 10 0, .op 14 0], _, [], Lr 15, [18]⟩ :: []) (F := [.op 15 0]) hst hb Zb
   (o_p rfl (Zk Zfd rfl rfl u_0) <| o_p rfl (Zf ty_9 rfl rfl u_0) <| o_p rfl (Zhg Try.underlying9 rfl rfl u_0) <| o_p rfl (Zel rfl rfl u_0 c_i) <| o_p rfl (Za rfl rfl u_0) <| o_g (g_f rfl rfl rfl (fun hG => Zk Zm5 rfl rfl u_0)) <| o_g (g_f rfl rfl rfl (fun hG => Zf ty_9 rfl rfl (Opd.gd hG u_0))) <| o_g (g_f rfl rfl rfl (fun hG => Zhg Try.underlying9 rfl rfl (Opd.gd hG u_0))) <| o_g (g_f rfl rfl rfl (fun hG => Zel rfl rfl (Opd.gd hG u_0) c_i)) <| o_p rfl (Zb9 rfl rfl u_0 (fun hz => (Opd.gd (bNF hz) u_1))) <| o_p rfl (Za rfl rfl u_0) <| o_g (g_f rfl rfl rfl (fun hG => Zk Znk rfl rfl u_0)) <| o_g (g_f rfl rfl rfl (fun hG => Zf Zoe rfl rfl (Opd.gd hG u_0))) <| o_g (g_f rfl rfl rfl (fun hG => Zba Zov (Zg8 _ (Zbe h2 hG)) rfl rfl (.cons (Opd.gd hG u_0) .nil))) <| o_g (g_f rfl rfl rfl (fun hG => Zel rfl rfl (Opd.gd hG u_0) c_i)) <| o_p rfl (Zb9 rfl rfl u_0 (fun hz => (Opd.gd (bNF hz) u_1))) <| o_n) (by kernel_rfl) (fun a g hst hb => ?_)
 refine wp_cond_split (hst.bool 0 rfl) (fun hc3 => ?_) (fun hc3 => ?_)
 · replace H0 := Zv hc3 H0
   refine r_s (L := []) (T := [⟨[], _, [], [], [2]⟩]) (F := [.op 0 0]) (hst.pick [] rfl) hb Zb
     (o_p rfl (Zc rfl rfl c_i) <| o_n) (by kernel_rfl) (fun a g hst hb => ?_)
   refine wp_ret ?_
   refine Zg ?_
   obtain rfl := Option.some.inj H0
   exact Z3 rfl hst hb (Zl (s := 2)) (hst.at 0 rfl)
 · replace H0 := Zw hc3 H0
   refine wp_skip ?_
   refine Zi ?_
   refine r_s (L := []) (T := [⟨[], _, [], [], [2]⟩]) (F := [.op 0 0]) (hst.pick [] rfl) hb Zb
     (o_p rfl (Zc rfl rfl c_i) <| o_n) (by kernel_rfl) (fun a g hst hb => ?_)
   refine wp_ret ?_
   obtain rfl := Option.some.inj H0
   exact Z3 rfl hst hb (Zl (s := 2)) (hst.at 0 rfl)
theorem Zha (a0 : Ze) {r : Int} (h : Zc3 a0 = some r) : FnOk Try.prog 20 [(Zh.pd a0)] (pInt .i64 r) := by
 have H0 := h
 unfold Zc3 at H0
 clear h
 refine Zb1 (N := 20) Try.func20 rfl rfl (Nat.le_of_ble_eq_true rfl) rfl rfl (fun a g0 hst hb => ?_)
 refine r_s (T := [⟨[.old 0], _, [], [], [1]⟩, ⟨[], _, [], [], [2]⟩]) (F := [.op 0 0]) hst hb Zb
   (o_p rfl (Zdx rfl rfl u_0) <| o_p rfl (Zc rfl rfl c_i) <| o_n) (by kernel_rfl) (fun a g hst hb => ?_)
 refine wp_seq ?_
 refine r_s (T := [⟨[.old 0], _, [], [], [5]⟩, ⟨[.op 0 0], _, [], [0], [6]⟩, ⟨[.op 1 0], _, [], [0, 1], [7]⟩, ⟨[.op 2 0], _, [], [0, 1, 2], [8]⟩]) (F := [.old 0, .op 3 0]) hst hb Zb
   (o_p rfl (Zk Zdi rfl rfl u_0) <| o_p rfl (Zf Zet rfl rfl u_0) <| o_p rfl (Z1 Try.underlying41 rfl rfl u_0) <| o_p rfl (Zel rfl rfl u_0 c_i) <| o_n) (by kernel_rfl) (fun a g hst hb => ?_)
 refine wp_cond_split (hst.bool 1 rfl) (fun hc1 => ?_) (fun hc1 => ?_)
 · replace H0 := Zv hc1 H0
   refine r_s (L := []) (T := [⟨[], _, [], [], [2]⟩]) (F := [.op 0 0]) (hst.pick [] rfl) hb Zb
     (o_p rfl (Zc rfl rfl c_i) <| o_n) (by kernel_rfl) (fun a g hst hb => ?_)
   refine wp_ret ?_
   refine Zg ?_
   obtain rfl := Option.some.inj H0
   exact Z3 rfl hst hb (Zl (s := 2)) (hst.at 0 rfl)
 · replace H0 := Zw hc1 H0
   refine wp_skip ?_
   refine Zi ?_
   refine wp_seq ?_
   refine r_s (L := [(1, _)]) (T := [⟨[.old 0], _, [], [], [9]⟩, ⟨[.op 0 0], _, [], [0], [10]⟩, ⟨[.op 1 0], _, [], [0, 1], [11]⟩, ⟨[], _, [], [], [12]⟩]) (F := [.op 1 0, .op 2 0, .op 3 0]) (hst.pick [0] rfl) hb Zb
     (o_p rfl (Zk Zdi rfl rfl u_0) <| o_p rfl (Zf Zet rfl rfl u_0) <| o_p rfl (Z1 Try.underlying41 rfl rfl u_0) <| o_p rfl (Za rfl rfl c_i) <| o_n) (by kernel_rfl) (fun a g hst hb => ?_)
   obtain ⟨z9, hz1, H0⟩ := Zd H0
   refine Zbh (fun a w => ∃ (g : G), w = g.w ∧ St 20 [] a g ∧ Base g0 g ∧ (.inr ()) = z9) ?_ ?_
   · rintro a w ⟨g, rfl, hst, hb, rfl⟩
     refine Zi ?_
     refine r_s (T := [⟨[], _, [], [], [2]⟩]) (F := [.op 0 0]) hst hb Zb
       (o_p rfl (Zc rfl rfl c_i) <| o_n) (by kernel_rfl) (fun a g hst hb => ?_)
     refine wp_ret ?_
     obtain rfl := Option.some.inj H0
     exact Z3 rfl hst hb (Zl (s := 2)) (hst.at 0 rfl)
   · refine wp_block ?_
     refine wp_loop_ghost (fun n a w => ∃ (x2 : Int) (g : G), w = g.w ∧ St 20 [(10, (Zs.sl.pd a0.Acts)), (11, (pInt .i64 (a0.Acts.length : Int))), (12, (pInt .i64 x2))] a g ∧ Base g0 g ∧ Zbv a0 n x2 = some z9) (Int.toNat ((a0.Acts.length : Int) - (0 : Int)) + 1) ⟨(0 : Int), g, rfl, (hst.pick [0, 1, 2] rfl), hb, hz1⟩ (fun n a w hI => ?_)
     obtain ⟨x2, g, rfl, hst, hb, H1⟩ := hI
     cases n with
     | zero => exact absurd H1 (by simp [Zbv])
     | succ n =>
       rw [Zbv] at H1
       refine r_s (T := [⟨[.old 2, .old 1], _, [], [], [13]⟩]) (F := [.old 0, .old 1, .old 2, .op 0 0]) hst hb Zb
         (o_p rfl (Zcb rfl rfl u_0 u_1) <| o_n) (by kernel_rfl) (fun a g hst hb => ?_)
       refine wp_seq ?_
       refine wp_cond_split (hst.bool 3 rfl) (fun hc3 => ?_) (fun hc3 => ?_)
       · replace H1 := Zv hc3 H1
         refine wp_skip ?_
         refine Zi ?_
         refine wp_seq ?_
         refine wp_block ?_
         obtain ⟨e4, h5, H1⟩ := Zd H1
         refine r_s (L := [(10, _), (11, _), (12, _)]) (T := [⟨[.old 0, .old 2], _, [], [], [14]⟩, ⟨[.op 0 0], _, [], [0], [15]⟩, ⟨[], [(4, (pBox Zs 4 (default : Zn)))], [5], [], [4]⟩, ⟨[.op 1 0, .op 2 0], _, [5], [0, 1, 2], [4]⟩]) (F := [.op 3 0, .old 0, .old 1, .old 2]) (hst.pick [0, 1, 2] rfl) hb Zb
           (o_p rfl (Zq Try.underlying41 Zf0 rfl rfl u_0 u_1 h5) <| o_p rfl (Zf Zev rfl rfl u_0) <| o_p rfl (Zeh (zs := [.int .i64 0, .string ByteArray.empty, .int .i64 0, .float .f64 0, .string ByteArray.empty, .int .i64 0, .int .i64 0, .int .i64 0, .int .i64 0, .float .f64 0, .int .i64 0, .string ByteArray.empty, .slice none 0 0, .bool false]) (by kernel_rfl) (fun g => Ze6 g) rfl rfl) <| o_p rfl (Zd1 Zev rfl rfl u_1 u_0) <| o_n) (by kernel_rfl) (fun a g hst hb => ?_)
         obtain ⟨r6, h7, H1⟩ := Zd H1
         refine r_s (T := [⟨[.old 0], _, [], [], [16]⟩, ⟨[.op 0 0], _, [], [0], [17]⟩, ⟨[.op 1 0], _, [], [0, 1], [18]⟩]) (F := [.old 1, .old 2, .old 3, .op 2 0]) hst hb Zb
           (o_p rfl (Zf Zev rfl rfl u_0) <| o_p rfl (Zba Zot (Zg5 _ h7) rfl rfl (.cons u_0 .nil)) <| o_p rfl (Zel rfl rfl u_0 c_i) <| o_n) (by kernel_rfl) (fun a g hst hb => ?_)
         refine wp_cond_split (hst.bool 3 rfl) (fun hc8 => ?_) (fun hc8 => ?_)
         · replace H1 := Zv hc8 H1
           refine r_s (L := []) (T := [⟨[], _, [], [], [2]⟩]) (F := [.op 0 0]) (hst.pick [] rfl) hb Zb
             (o_p rfl (Zc rfl rfl c_i) <| o_n) (by kernel_rfl) (fun a g hst hb => ?_)
           refine wp_ret ?_
           refine Zp ?_
           refine Zg ?_
           refine Zg ?_
           refine Zp ?_
           refine Zg ?_
           refine Zg ?_
           obtain rfl := Option.some.inj H1
           obtain rfl := Option.some.inj H0
           exact Z3 rfl hst hb (Zl (s := 2)) (hst.at 0 rfl)
         · replace H1 := Zw hc8 H1
           refine wp_skip ?_
           refine Z2 ?_
           refine Zi ?_
           refine r_g (L := [(10, _), (11, _), (12, _)]) (T := [⟨[.old 2], _, [], [], [19]⟩, ⟨[.op 0 0], _, [], [0], [12]⟩]) (F := [.old 0, .old 1, .op 1 0]) (hst.pick [0, 1, 2] rfl) hb Zb
             (o_p rfl (Zby rfl rfl u_0 c_i rfl) <| o_p rfl (Za rfl rfl u_0) <| o_n) (by kernel_rfl) (fun a g hst hb => ?_)
           exact ⟨n, Nat.lt_succ_self _, (IntKind.i64.wrap (x2 + (1 : Int))), g, rfl, (hst.pick [0, 1, 2] rfl), hb, H1⟩
       · replace H1 := Zw hc3 H1
         refine wp_exit ?_
         refine Zx ?_
         refine Zx ?_
         refine Zbb ?_
         exact ⟨g, rfl, (hst.pick [] rfl), hb, Option.some.inj H1⟩
theorem Zgz (a0 : List Ze) {r : Int} (h : Zdl a0 = some r) : FnOk Try.prog 8 [(Zh.sl.pd a0)] (pInt .i64 r) := by
 have H0 := h
 unfold Zdl at H0
 clear h
 refine Zb1 (N := 18) Try.func8 rfl rfl (Nat.le_of_ble_eq_true rfl) rfl rfl (fun a g0 hst hb => ?_)
 refine r_s (T := [⟨[], _, [], [], [2]⟩]) (F := [.old 0]) hst hb Zb
   (o_p rfl (Zc rfl rfl c_i) <| o_n) (by kernel_rfl) (fun a g hst hb => ?_)
 refine wp_seq ?_
 refine r_s (T := [⟨[.old 0], _, [], [], [5]⟩, ⟨[.op 0 0], _, [], [0], [6]⟩, ⟨[.op 1 0], _, [], [0, 1], [7]⟩]) (F := [.old 0, .op 2 0]) hst hb Zb
   (o_p rfl (Za rfl rfl u_0) <| o_p rfl (Z1 Try.underlying22 rfl rfl u_0) <| o_p rfl (Zel rfl rfl u_0 c_i) <| o_n) (by kernel_rfl) (fun a g hst hb => ?_)
 refine wp_cond_split (hst.bool 1 rfl) (fun hc1 => ?_) (fun hc1 => ?_)
 · replace H0 := Zv hc1 H0
   refine r_s (L := []) (T := [⟨[], _, [], [], [2]⟩]) (F := [.op 0 0]) (hst.pick [] rfl) hb Zb
     (o_p rfl (Zc rfl rfl c_i) <| o_n) (by kernel_rfl) (fun a g hst hb => ?_)
   refine wp_ret ?_
   refine Zg ?_
   obtain rfl := Option.some.inj H0
   exact Z3 rfl hst hb (Zl (s := 2)) (hst.at 0 rfl)
 · replace H0 := Zw hc1 H0
   refine wp_skip ?_
   refine Zi ?_
   refine wp_seq ?_
   refine r_s (L := [(0, _)]) (T := [⟨[.old 0], _, [], [], [8]⟩, ⟨[.op 0 0], _, [], [0], [9]⟩, ⟨[], _, [], [], [10]⟩]) (F := [.op 0 0, .op 1 0, .op 2 0]) (hst.pick [0] rfl) hb Zb
     (o_p rfl (Za rfl rfl u_0) <| o_p rfl (Z1 Try.underlying22 rfl rfl u_0) <| o_p rfl (Za rfl rfl c_i) <| o_n) (by kernel_rfl) (fun a g hst hb => ?_)
   obtain ⟨z9, hz1, H0⟩ := Zd H0
   refine Zbh (fun a w => ∃ (g : G), w = g.w ∧ St 18 [] a g ∧ Base g0 g ∧ (.inr ()) = z9) ?_ ?_
   · rintro a w ⟨g, rfl, hst, hb, rfl⟩
     refine Zi ?_
     refine r_s (T := [⟨[], _, [], [], [2]⟩]) (F := [.op 0 0]) hst hb Zb
       (o_p rfl (Zc rfl rfl c_i) <| o_n) (by kernel_rfl) (fun a g hst hb => ?_)
     refine wp_ret ?_
     obtain rfl := Option.some.inj H0
     exact Z3 rfl hst hb (Zl (s := 2)) (hst.at 0 rfl)
   · refine wp_block ?_
     refine wp_loop_ghost (fun n a w => ∃ (x2 : Int) (g : G), w = g.w ∧ St 18 [(8, (Zh.sl.pd a0)), (9, (pInt .i64 (a0.length : Int))), (10, (pInt .i64 x2))] a g ∧ Base g0 g ∧ Zbt a0 n x2 = some z9) (Int.toNat ((a0.length : Int) - (0 : Int)) + 1) ⟨(0 : Int), g, rfl, (hst.pick [0, 1, 2] rfl), hb, hz1⟩ (fun n a w hI => ?_)
     obtain ⟨x2, g, rfl, hst, hb, H1⟩ := hI
     cases n with
     | zero => exact absurd H1 (by simp [Zbt])
     | succ n =>
       rw [Zbt] at H1
       refine r_s (T := [⟨[.old 2, .old 1], _, [], [], [11]⟩]) (F := [.old 0, .old 1, .old 2, .op 0 0]) hst hb Zb
         (o_p rfl (Zcb rfl rfl u_0 u_1) <| o_n) (by kernel_rfl) (fun a g hst hb => ?_)
       refine wp_seq ?_
       refine wp_cond_split (hst.bool 3 rfl) (fun hc3 => ?_) (fun hc3 => ?_)
       · replace H1 := Zv hc3 H1
         refine wp_skip ?_
         refine Zi ?_
         refine wp_seq ?_
         refine wp_block ?_
         obtain ⟨e4, h5, H1⟩ := Zd H1
         refine r_s (L := [(8, _), (9, _), (10, _)]) (T := [⟨[.old 0, .old 2], _, [], [], [12]⟩, ⟨[.op 0 0], _, [], [0], [13]⟩, ⟨[], [(4, (pBox Zh 4 (default : Ze)))], [5], [], [4]⟩, ⟨[.op 1 0, .op 2 0], _, [5], [0, 1, 2], [4]⟩]) (F := [.op 3 0, .old 0, .old 1, .old 2]) (hst.pick [0, 1, 2] rfl) hb Zb
           (o_p rfl (Zq Try.underlying22 Zhx rfl rfl u_0 u_1 h5) <| o_p rfl (Zf Zdw rfl rfl u_0) <| o_p rfl (Zeh (zs := [.slice none 0 0]) (by kernel_rfl) (fun g => Zhk g) rfl rfl) <| o_p rfl (Zd1 Zdw rfl rfl u_1 u_0) <| o_n) (by kernel_rfl) (fun a g hst hb => ?_)
         obtain ⟨r6, h7, H1⟩ := Zd H1
         refine r_s (T := [⟨[.old 0], _, [], [], [14]⟩, ⟨[.op 0 0], _, [], [0], [15]⟩, ⟨[.op 1 0], _, [], [0, 1], [16]⟩]) (F := [.old 1, .old 2, .old 3, .op 2 0]) hst hb Zb
           (o_p rfl (Zf Zdw rfl rfl u_0) <| o_p rfl (Zba Zn9 (Zha _ h7) rfl rfl (.cons u_0 .nil)) <| o_p rfl (Zel rfl rfl u_0 c_i) <| o_n) (by kernel_rfl) (fun a g hst hb => ?_)
         refine wp_cond_split (hst.bool 3 rfl) (fun hc8 => ?_) (fun hc8 => ?_)
         · replace H1 := Zv hc8 H1
           refine r_s (L := []) (T := [⟨[], _, [], [], [2]⟩]) (F := [.op 0 0]) (hst.pick [] rfl) hb Zb
             (o_p rfl (Zc rfl rfl c_i) <| o_n) (by kernel_rfl) (fun a g hst hb => ?_)
           refine wp_ret ?_
           refine Zp ?_
           refine Zg ?_
           refine Zg ?_
           refine Zp ?_
           refine Zg ?_
           refine Zg ?_
           obtain rfl := Option.some.inj H1
           obtain rfl := Option.some.inj H0
           exact Z3 rfl hst hb (Zl (s := 2)) (hst.at 0 rfl)
         · replace H1 := Zw hc8 H1
           refine wp_skip ?_
           refine Z2 ?_
           refine Zi ?_
           refine r_g (L := [(8, _), (9, _), (10, _)]) (T := [⟨[.old 2], _, [], [], [17]⟩, ⟨[.op 0 0], _, [], [0], [10]⟩]) (F := [.old 0, .old 1, .op 1 0]) (hst.pick [0, 1, 2] rfl) hb Zb
             (o_p rfl (Zby rfl rfl u_0 c_i rfl) <| o_p rfl (Za rfl rfl u_0) <| o_n) (by kernel_rfl) (fun a g hst hb => ?_)
           exact ⟨n, Nat.lt_succ_self _, (IntKind.i64.wrap (x2 + (1 : Int))), g, rfl, (hst.pick [0, 1, 2] rfl), hb, H1⟩
       · replace H1 := Zw hc3 H1
         refine wp_exit ?_
         refine Zx ?_
         refine Zx ?_
         refine Zbb ?_
         exact ⟨g, rfl, (hst.pick [] rfl), hb, Option.some.inj H1⟩
theorem Zgv (a0 : List Ze) (a1 : List Bool) {r : List Int} (h : Zdf a0 a1 = some r) : FnOk Try.prog 9 [(Zh.sl.pd a0), (Kd.bool.sl.pd a1)] ((Kd.int .i64).sl.pd r) := by
 have H0 := h
 unfold Zdf at H0
 clear h
 refine Zb1 (N := 29) Try.func9 rfl rfl (Nat.le_of_ble_eq_true rfl) rfl rfl (fun a g0 hst hb => ?_)
 refine r_s (T := [⟨[], [(4, ((Kd.int .i64).sl.pd ([] : List Int)))], [], [], [4]⟩]) (F := [.old 0, .old 1]) hst hb Zb
   (o_p rfl (Zc rfl rfl (Opd.c (fun g => Zek g))) <| o_n) (by kernel_rfl) (fun a g hst hb => ?_)
 refine r_s (T := [⟨[], [(5, (pRow (Kd.int .i64) 3 5 ([] : List Int)))], [], [], [5]⟩]) (F := [.old 0, .old 1, .op 0 0]) hst hb Zb
   (o_p rfl (Zc rfl rfl (Opd.c (fun g => Zez 5 g))) <| o_n) (by kernel_rfl) (fun a g hst hb => ?_)
 refine wp_seq ?_
 refine r_s (T := [⟨[.old 0], _, [], [], [7]⟩, ⟨[.op 0 0], _, [], [0], [8]⟩, ⟨[], _, [], [], [9]⟩]) (F := [.old 1, .old 2, .op 0 0, .op 1 0, .op 2 0]) hst hb Zb
   (o_p rfl (Za rfl rfl u_0) <| o_p rfl (Z1 Try.underlying22 rfl rfl u_0) <| o_p rfl (Za rfl rfl c_i) <| o_n) (by kernel_rfl) (fun a g hst hb => ?_)
 obtain ⟨z10, hz1, H0⟩ := Zd H0
 refine Zbh (fun a w => ∃ (y9 : List Int) (g : G), w = g.w ∧ St 29 [(5, (pRow (Kd.int .i64) 3 5 y9))] a g ∧ Base g0 g ∧ y9 = z10) ?_ ?_
 · rintro a w ⟨y9, g, rfl, hst, hb, rfl⟩
   refine Zi ?_
   refine r_s (T := [⟨[.old 0], _, [], [], [28]⟩, ⟨[.op 0 0], _, [], [0], [4]⟩]) (F := [.op 1 0]) hst hb Zb
     (o_p rfl (Za rfl rfl u_0) <| o_p rfl (Zc rfl rfl u_0) <| o_n) (by kernel_rfl) (fun a g hst hb => ?_)
   refine wp_ret ?_
   obtain rfl := Option.some.inj H0
   exact Z3 rfl hst hb (Zl (s := 4)) (Zfg (hst.at 0 rfl))
 · refine wp_block ?_
   refine wp_loop_ghost (fun n a w => ∃ (x1 : List Int) (x2 : Int) (g : G), w = g.w ∧ St 29 [(1, (Kd.bool.sl.pd a1)), (5, (pRow (Kd.int .i64) 3 5 x1)), (7, (Zh.sl.pd a0)), (8, (pInt .i64 (a0.length : Int))), (9, (pInt .i64 x2))] a g ∧ Base g0 g ∧ Zbc a0 a1 n x1 x2 = some z10) (Int.toNat ((a0.length : Int) - (0 : Int)) + 1) ⟨([] : List Int), (0 : Int), g, rfl, (hst.pick [0, 1, 2, 3, 4] rfl), hb, hz1⟩ (fun n a w hI => ?_)
   obtain ⟨x1, x2, g, rfl, hst, hb, H1⟩ := hI
   cases n with
   | zero => exact absurd H1 (by simp [Zbc])
   | succ n =>
     rw [Zbc] at H1
     refine r_s (T := [⟨[.old 4, .old 3], _, [], [], [10]⟩]) (F := [.old 0, .old 1, .old 2, .old 3, .old 4, .op 0 0]) hst hb Zb
       (o_p rfl (Zcb rfl rfl u_0 u_1) <| o_n) (by kernel_rfl) (fun a g hst hb => ?_)
     refine wp_seq ?_
     refine wp_cond_split (hst.bool 5 rfl) (fun hc3 => ?_) (fun hc3 => ?_)
     · replace H1 := Zv hc3 H1
       refine wp_skip ?_
       refine Zi ?_
       refine wp_seq ?_
       refine Zbh (fun a w => ∃ (j8 : List Int) (g : G), w = g.w ∧ St 29 [(1, (Kd.bool.sl.pd a1)), (5, (pRow (Kd.int .i64) 3 5 j8)), (7, (Zh.sl.pd a0)), (8, (pInt .i64 (a0.length : Int))), (9, (pInt .i64 x2))] a g ∧ Base g0 g ∧ Zdg x2 (Zbc a0 a1 n) j8 = some z10) ?_ ?_
       · rintro a w ⟨j8, g, rfl, hst, hb, H1⟩
         unfold Zdg at H1
         refine Zi ?_
         refine r_g (T := [⟨[.old 4], _, [], [], [27]⟩, ⟨[.op 0 0], _, [], [0], [9]⟩]) (F := [.old 0, .old 1, .old 2, .old 3, .op 1 0]) hst hb Zb
           (o_p rfl (Zby rfl rfl u_0 c_i rfl) <| o_p rfl (Za rfl rfl u_0) <| o_n) (by kernel_rfl) (fun a g hst hb => ?_)
         exact ⟨n, Nat.lt_succ_self _, j8, (IntKind.i64.wrap (x2 + (1 : Int))), g, rfl, (hst.pick [0, 1, 2, 3, 4] rfl), hb, H1⟩
       · refine wp_block ?_
         refine r_s (L := [(1, _), (5, _), (7, _), (8, _), (9, _)]) (T := [⟨[.old 4], _, [], [], [11]⟩, ⟨[.op 0 0], _, [], [0], [6]⟩]) (F := [.old 0, .old 1, .op 1 0, .old 2, .old 3, .old 4]) (hst.pick [0, 1, 2, 3, 4] rfl) hb Zb
           (o_p rfl (Za rfl rfl u_0) <| o_p rfl (Zc rfl rfl u_0) <| o_n) (by kernel_rfl) (fun a g hst hb => ?_)
         obtain ⟨e4, h5, H1⟩ := Zd H1
         refine r_s (T := [⟨[.old 2], _, [], [], [12]⟩, ⟨[.old 0], _, [], [], [13]⟩, ⟨[.op 1 0], _, [], [1], [14]⟩, ⟨[.op 0 0, .op 2 0], _, [], [0, 1, 2], [15]⟩, ⟨[.op 3 0], _, [], Lr 4, [16]⟩, ⟨[.op 4 0, .old 0], _, [], Lr 5, [17]⟩, ⟨[.op 4 0, .old 2], _, [], Lr 5, [18]⟩, ⟨[.op 4 0, .op 5 0, .op 6 0], _, [], Lr 7, [19]⟩, ⟨[.op 4 0, .op 7 0], _, [], Lr 8, [20]⟩, ⟨[.op 4 0, .op 8 0], _, [], Lr 9, [21]⟩, ⟨[.op 4 0, .op 9 0], _, [], Lr 10, [22]⟩]) (F := [.old 0, .old 1, .old 2, .old 3, .old 4, .old 5, .op 10 0]) hst hb Zb
           (o_p rfl (Za rfl rfl u_0) <| o_p rfl (Za rfl rfl u_0) <| o_p rfl (Z1 Try.underlying38 rfl rfl u_0) <| o_p rfl (Zi0 rfl rfl u_0 u_1) <| o_p rfl (Za rfl rfl u_0) <| o_g (g_f rfl rfl rfl (fun hG => Za rfl rfl u_0)) <| o_g (g_f rfl rfl rfl (fun hG => Za rfl rfl u_0)) <| o_g (g_f rfl rfl rfl (fun hG => Zq Try.underlying38 sz_4 rfl rfl (Opd.gd hG u_0) (Opd.gd hG u_1) (Zbe h5 hG))) <| o_g (g_f rfl rfl rfl (fun hG => Zf ty_4 rfl rfl (Opd.gd hG u_0))) <| o_g (g_f rfl rfl rfl (fun hG => Zdm rfl rfl (Opd.gd hG u_0))) <| o_p rfl (Zb9 rfl rfl u_0 (fun hz => (Opd.gd (bNF hz) u_1))) <| o_n) (by kernel_rfl) (fun a g hst hb => ?_)
         refine wp_cond_split (hst.bool 6 rfl) (fun hc6 => ?_) (fun hc6 => ?_)
         · replace H1 := Zv hc6 H1
           obtain ⟨h7, H1⟩ := Ze8 H1
           refine r_g (L := [(1, _), (5, _), (6, _), (7, _), (8, _), (9, _)]) (T := [⟨[.old 1], _, [], [], [23]⟩, ⟨[.old 2], _, [], [], [24]⟩, ⟨[.op 1 0], _, [], [1], [25]⟩, ⟨[.op 0 0, .op 2 0], _, [6], [0, 1, 2], [5, 23, 26]⟩, ⟨[.op 3 0], _, [], Lr 4, [5]⟩]) (F := [.old 0, .op 4 0, .old 3, .old 4, .old 5]) (hst.pick [0, 1, 2, 3, 4, 5] rfl) hb Zb
             (o_p rfl (Za rfl rfl u_0) <| o_p rfl (Za rfl rfl u_0) <| o_p rfl (Zd5 Zc1 (xs := [.tmp 24]) (.cons u_0 .nil) (by decide) rfl rfl) <| o_p rfl (Ze2 Zc1 rfl rfl u_0 u_1 h7) <| o_p rfl (Zc rfl rfl u_0) <| o_n) (by kernel_rfl) (fun a g hst hb => ?_)
           refine Z2 ?_
           exact ⟨(x1 ++ ([x2] : List Int)), g, rfl, (hst.pick [0, 1, 2, 3, 4] rfl), hb, H1⟩
         · replace H1 := Zw hc6 H1
           refine wp_skip ?_
           refine Z2 ?_
           exact ⟨x1, g, rfl, (hst.pick [0, 1, 3, 4, 5] rfl), hb, H1⟩
     · replace H1 := Zw hc3 H1
       refine wp_exit ?_
       refine Zx ?_
       refine Zx ?_
       refine Zbb ?_
       exact ⟨x1, g, rfl, (hst.pick [1] rfl), hb, Option.some.inj H1⟩
theorem Zg2 (a0 : List ByteArray) (a1 : ByteArray) {r : Bool} (h : Zdn a0 a1 = some r) : FnOk Try.prog 26 [(Kd.str.sl.pd a0), (pStr a1)] (Zm r) := by
 have H0 := h
 unfold Zdn at H0
 clear h
 refine Zb1 (N := 18) Try.func26 rfl rfl (Nat.le_of_ble_eq_true rfl) rfl rfl (fun a g0 hst hb => ?_)
 refine r_s (T := [⟨[], _, [], [], [4]⟩]) (F := [.old 0, .old 1]) hst hb Zb
   (o_p rfl (Zc rfl rfl c_b) <| o_n) (by kernel_rfl) (fun a g hst hb => ?_)
 refine wp_seq ?_
 refine r_s (T := [⟨[], _, [], [], [5]⟩]) (F := [.old 0, .old 1, .op 0 0]) hst hb Zb
   (o_p rfl (Zc rfl rfl c_i) <| o_n) (by kernel_rfl) (fun a g hst hb => ?_)
 obtain ⟨z6, hz1, H0⟩ := Zd H0
 refine Zbh (fun a w => ∃ (g : G), w = g.w ∧ St 18 [] a g ∧ Base g0 g ∧ (.inr ()) = z6) ?_ ?_
 · rintro a w ⟨g, rfl, hst, hb, rfl⟩
   refine Zi ?_
   refine r_s (T := [⟨[], _, [], [], [4]⟩]) (F := [.op 0 0]) hst hb Zb
     (o_p rfl (Zc rfl rfl c_b) <| o_n) (by kernel_rfl) (fun a g hst hb => ?_)
   refine wp_ret ?_
   obtain rfl := Option.some.inj H0
   exact Z3 rfl hst hb (Zl (s := 4)) (hst.at 0 rfl)
 · refine wp_block ?_
   refine wp_loop_ghost (fun n a w => ∃ (x1 : Int) (g : G), w = g.w ∧ St 18 [(0, (Kd.str.sl.pd a0)), (1, (pStr a1)), (5, (pInt .i64 x1))] a g ∧ Base g0 g ∧ Zbu a0 a1 n x1 = some z6) (Int.toNat ((a0.length : Int) - (0 : Int)) + 1) ⟨(0 : Int), g, rfl, (hst.pick [0, 1, 2] rfl), hb, hz1⟩ (fun n a w hI => ?_)
   obtain ⟨x1, g, rfl, hst, hb, H1⟩ := hI
   cases n with
   | zero => exact absurd H1 (by simp [Zbu])
   | succ n =>
     rw [Zbu] at H1
     refine wp_seq ?_
     refine r_s (T := [⟨[.old 2], _, [], [], [6]⟩, ⟨[.old 0], _, [], [], [7]⟩, ⟨[.op 1 0], _, [], [1], [8]⟩, ⟨[.op 0 0, .op 2 0], _, [], [0, 1, 2], [9]⟩]) (F := [.old 0, .old 1, .old 2, .op 3 0]) hst hb Zb
       (o_p rfl (Za rfl rfl u_0) <| o_p rfl (Za rfl rfl u_0) <| o_p rfl (Z1 Try.underlying23 rfl rfl u_0) <| o_p rfl (Zcb rfl rfl u_0 u_1) <| o_n) (by kernel_rfl) (fun a g hst hb => ?_)
     refine wp_cond_split (hst.bool 3 rfl) (fun hc2 => ?_) (fun hc2 => ?_)
     · replace H1 := Zv hc2 H1
       refine wp_skip ?_
       refine Zi ?_
       refine wp_seq ?_
       refine wp_block ?_
       obtain ⟨e3, h4, H1⟩ := Zd H1
       refine r_s (L := [(0, _), (1, _), (5, _)]) (T := [⟨[.old 0], _, [], [], [12]⟩, ⟨[.old 2], _, [], [], [13]⟩, ⟨[.op 0 0, .op 1 0], _, [], [0, 1], [14]⟩, ⟨[.op 2 0], _, [], [0, 1, 2], [15]⟩, ⟨[.old 1], _, [], [], [16]⟩, ⟨[.op 3 0, .op 4 0], _, [], Lr 5, [17]⟩]) (F := [.old 0, .old 1, .old 2, .op 5 0]) (hst.pick [0, 1, 2] rfl) hb Zb
         (o_p rfl (Za rfl rfl u_0) <| o_p rfl (Za rfl rfl u_0) <| o_p rfl (Zq Try.underlying23 sz_9 rfl rfl u_0 u_1 h4) <| o_p rfl (Zf ty_9 rfl rfl u_0) <| o_p rfl (Za rfl rfl u_0) <| o_p rfl (Zh0 rfl rfl u_0 u_1) <| o_n) (by kernel_rfl) (fun a g hst hb => ?_)
       refine wp_cond_split (hst.bool 3 rfl) (fun hc5 => ?_) (fun hc5 => ?_)
       · replace H1 := Zv hc5 H1
         refine r_s (L := []) (T := [⟨[], _, [], [], [4]⟩]) (F := [.op 0 0]) (hst.pick [] rfl) hb Zb
           (o_p rfl (Zc rfl rfl c_b) <| o_n) (by kernel_rfl) (fun a g hst hb => ?_)
         refine wp_ret ?_
         refine Zp ?_
         refine Zg ?_
         refine Zg ?_
         refine Zp ?_
         refine Zg ?_
         refine Zg ?_
         obtain rfl := Option.some.inj H1
         obtain rfl := Option.some.inj H0
         exact Z3 rfl hst hb (Zl (s := 4)) (hst.at 0 rfl)
       · replace H1 := Zw hc5 H1
         refine wp_skip ?_
         refine Z2 ?_
         refine Zi ?_
         refine r_g (L := [(0, _), (1, _), (5, _)]) (T := [⟨[.old 2], _, [], [], [10]⟩, ⟨[.op 0 0], _, [], [0], [11]⟩, ⟨[.op 1 0], _, [], [0, 1], [5]⟩]) (F := [.old 0, .old 1, .op 2 0]) (hst.pick [0, 1, 2] rfl) hb Zb
           (o_p rfl (Za rfl rfl u_0) <| o_p rfl (Zby rfl rfl u_0 c_i rfl) <| o_p rfl (Zc rfl rfl u_0) <| o_n) (by kernel_rfl) (fun a g hst hb => ?_)
         exact ⟨n, Nat.lt_succ_self _, (IntKind.i64.wrap (x1 + (1 : Int))), g, rfl, (hst.pick [0, 1, 2] rfl), hb, H1⟩
     · replace H1 := Zw hc2 H1
       refine wp_exit ?_
       refine Zx ?_
       refine Zx ?_
       refine Zbb ?_
       exact ⟨g, rfl, (hst.pick [] rfl), hb, Option.some.inj H1⟩
theorem Ze9 (a0 : Int) {r : Bool} (h : Zc5 a0 = some r) : FnOk Try.prog 27 [(pInt .i64 a0)] (Zm r) := by
 have H0 := h
 unfold Zc5 at H0
 clear h
 refine Zb1 (N := 21) Try.func27 rfl rfl (Nat.le_of_ble_eq_true rfl) rfl rfl (fun a g0 hst hb => ?_)
 refine r_s (T := [⟨[], _, [], [], [2]⟩]) (F := [.old 0]) hst hb Zb
   (o_p rfl (Zc rfl rfl c_b) <| o_n) (by kernel_rfl) (fun a g hst hb => ?_)
 refine r_s (T := ⟨[.old 0], _, [], [], [3]⟩ :: ⟨[.op 0 0], _, [], [0], [4]⟩ :: ⟨[.op 1 0], _, [], [0, 1], [5]⟩ :: ⟨[.op 2 0, .old 0], _, [], [0, 1, 2], [6]⟩ :: ⟨[.op 2 0, .op 3 0], _, [], Lr 4, [7]⟩ :: ⟨[.op 2 0, .op 4 0], _, [], Lr 5, [8]⟩ :: ⟨[.op 5 0], _, [], Lr 6, [9]⟩ :: ⟨[.op 6 0, .old 0], _, [], Lr 7, [10]⟩ :: ⟨[.op 6 0, .op 7 0], _, [], Lr 8, [11]⟩ :: ⟨[.op 6 0, .op 8 0], _, [], Lr 9, [12]⟩ :: ⟨[.op 9 0], _, [], Lr 10, [13]⟩ :: ⟨[.op 10 0, .old 0], _, [], Lr 11, [14]⟩ :: ⟨[.op 10 0, .op 11 0], _, [], Lr 12, [15]⟩ :: ⟨[.op 10 0, .op 12 0], _, [], Lr 13, [16]⟩ :: ⟨[.op 13 0], _, [], Lr 14, [17]⟩ :: ⟨[.op 14 0, .old 0], _, [], Lr 15, [18]⟩ :: ⟨[.op 14 0, .op 15 0], _, [], Lr 16, [19]⟩ :: ⟨[.op 14 0, .op 16 0], _, [], Lr 17, [20]⟩ :: ⟨[.op 17 0], _, [], Lr 18, [2]⟩ :: []) (F := [.op 18 0]) hst hb Zb
   (o_p rfl (Za rfl rfl u_0) <| o_p rfl (Zch rfl rfl u_0 c_i) <| o_p rfl (Za rfl rfl u_0) <| o_g (g_f rfl rfl rfl (fun hG => Za rfl rfl u_0)) <| o_g (g_f rfl rfl rfl (fun hG => Zch rfl rfl (Opd.gd hG u_0) c_i)) <| o_p rfl (Zb9 rfl rfl u_0 (fun hz => (Opd.gd (bNF hz) u_1))) <| o_p rfl (Za rfl rfl u_0) <| o_g (g_f rfl rfl rfl (fun hG => Za rfl rfl u_0)) <| o_g (g_f rfl rfl rfl (fun hG => Zch rfl rfl (Opd.gd hG u_0) c_i)) <| o_p rfl (Zb9 rfl rfl u_0 (fun hz => (Opd.gd (bNF hz) u_1))) <| o_p rfl (Za rfl rfl u_0) <| o_g (g_f rfl rfl rfl (fun hG => Za rfl rfl u_0)) <| o_g (g_f rfl rfl rfl (fun hG => Zch rfl rfl (Opd.gd hG u_0) c_i)) <| o_p rfl (Zb9 rfl rfl u_0 (fun hz => (Opd.gd (bNF hz) u_1))) <| o_p rfl (Za rfl rfl u_0) <| o_g (g_f rfl rfl rfl (fun hG => Za rfl rfl u_0)) <| o_g (g_f rfl rfl rfl (fun hG => Zch rfl rfl (Opd.gd hG u_0) c_i)) <| o_p rfl (Zb9 rfl rfl u_0 (fun hz => (Opd.gd (bNF hz) u_1))) <| o_p rfl (Zc rfl rfl u_0) <| o_n) (by kernel_rfl) (fun a g hst hb => ?_)
 refine wp_ret ?_
 obtain rfl := Option.some.inj H0
 exact Z3 rfl hst hb (Zl (s := 2)) (hst.at 0 rfl)
theorem Ze3 (a0 : Ze) {r : Bool} (h : Zcg a0 = some r) : FnOk Try.prog 28 [(Zh.pd a0)] (Zm r) := by
 have H0 := h
 unfold Zcg at H0
 clear h
 refine Zb1 (N := 27) Try.func28 rfl rfl (Nat.le_of_ble_eq_true rfl) rfl rfl (fun a g0 hst hb => ?_)
 refine r_s (T := [⟨[.old 0], _, [], [], [1]⟩, ⟨[], _, [], [], [2]⟩]) (F := [.op 0 0]) hst hb Zb
   (o_p rfl (Zdx rfl rfl u_0) <| o_p rfl (Zc rfl rfl c_b) <| o_n) (by kernel_rfl) (fun a g hst hb => ?_)
 refine wp_seq ?_
 refine r_s (T := [⟨[], _, [], [], [3]⟩]) (F := [.old 0, .op 0 0]) hst hb Zb
   (o_p rfl (Zc rfl rfl c_i) <| o_n) (by kernel_rfl) (fun a g hst hb => ?_)
 obtain ⟨z8, hz1, H0⟩ := Zd H0
 refine Zbh (fun a w => ∃ (g : G), w = g.w ∧ St 27 [] a g ∧ Base g0 g ∧ (.inr ()) = z8) ?_ ?_
 · rintro a w ⟨g, rfl, hst, hb, rfl⟩
   refine Zi ?_
   refine r_s (T := [⟨[], _, [], [], [2]⟩]) (F := [.op 0 0]) hst hb Zb
     (o_p rfl (Zc rfl rfl c_b) <| o_n) (by kernel_rfl) (fun a g hst hb => ?_)
   refine wp_ret ?_
   obtain rfl := Option.some.inj H0
   exact Z3 rfl hst hb (Zl (s := 2)) (hst.at 0 rfl)
 · refine wp_block ?_
   refine wp_loop_ghost (fun n a w => ∃ (x1 : Int) (g : G), w = g.w ∧ St 27 [(1, (Zh.ptr a0)), (3, (pInt .i64 x1))] a g ∧ Base g0 g ∧ Zbj a0 n x1 = some z8) (Int.toNat ((a0.Acts.length : Int) - (0 : Int)) + 1) ⟨(0 : Int), g, rfl, (hst.pick [0, 1] rfl), hb, hz1⟩ (fun n a w hI => ?_)
   obtain ⟨x1, g, rfl, hst, hb, H1⟩ := hI
   cases n with
   | zero => exact absurd H1 (by simp [Zbj])
   | succ n =>
     rw [Zbj] at H1
     refine wp_seq ?_
     refine r_s (T := [⟨[.old 1], _, [], [], [4]⟩, ⟨[.old 0], _, [], [], [5]⟩, ⟨[.op 1 0], _, [], [1], [6]⟩, ⟨[.op 2 0], _, [], [1, 2], [7]⟩, ⟨[.op 0 0, .op 3 0], _, [], Lr 4, [8]⟩]) (F := [.old 0, .old 1, .op 4 0]) hst hb Zb
       (o_p rfl (Za rfl rfl u_0) <| o_p rfl (Zk Zdi rfl rfl u_0) <| o_p rfl (Zf Zet rfl rfl u_0) <| o_p rfl (Z1 Try.underlying41 rfl rfl u_0) <| o_p rfl (Zcb rfl rfl u_0 u_1) <| o_n) (by kernel_rfl) (fun a g hst hb => ?_)
     refine wp_cond_split (hst.bool 2 rfl) (fun hc2 => ?_) (fun hc2 => ?_)
     · replace H1 := Zv hc2 H1
       refine wp_skip ?_
       refine Zi ?_
       refine wp_seq ?_
       refine wp_block ?_
       obtain ⟨e3, h4, H1⟩ := Zd H1; obtain ⟨e5, h6, H1⟩ := Zd H1
       refine r_s (L := [(1, _), (3, _)]) (T := ⟨[.old 0], _, [], [], [11]⟩ :: ⟨[.op 0 0], _, [], [0], [12]⟩ :: ⟨[.old 1], _, [], [], [13]⟩ :: ⟨[.op 1 0, .op 2 0], _, [], [0, 1, 2], [14]⟩ :: ⟨[.op 3 0], _, [], Lr 4, [15]⟩ :: ⟨[.op 4 0], _, [], Lr 5, [16]⟩ :: ⟨[.op 5 0], _, [], Lr 6, [17]⟩ :: ⟨[.op 6 0], _, [], Lr 7, [18]⟩ :: ⟨[.op 7 0, .old 0], _, [], Lr 8, [19]⟩ :: ⟨[.op 7 0, .op 8 0], _, [], Lr 9, [20]⟩ :: ⟨[.op 7 0, .old 1], _, [], Lr 8, [21]⟩ :: ⟨[.op 7 0, .op 9 0, .op 10 0], _, [], Lr 11, [22]⟩ :: ⟨[.op 7 0, .op 11 0], _, [], Lr 12, [23]⟩ :: ⟨[.op 7 0, .op 12 0], _, [], Lr 13, [24]⟩ :: ⟨[.op 7 0, .op 13 0], _, [], Lr 14, [25]⟩ :: ⟨[.op 7 0, .op 14 0], _, [], Lr 15, [26]⟩ :: []) (F := [.old 0, .old 1, .op 15 0]) (hst.pick [0, 1] rfl) hb Zb
         (o_p rfl (Zk Zdi rfl rfl u_0) <| o_p rfl (Zf Zet rfl rfl u_0) <| o_p rfl (Za rfl rfl u_0) <| o_p rfl (Zq Try.underlying41 Zf0 rfl rfl u_0 u_1 h4) <| o_p rfl (Zk Ze1 rfl rfl u_0) <| o_p rfl (Zf ty_3 rfl rfl u_0) <| o_p rfl (Zch rfl rfl u_0 c_i) <| o_p rfl (Za rfl rfl u_0) <| o_g (g_f rfl rfl rfl (fun hG => Zk Zdi rfl rfl u_0)) <| o_g (g_f rfl rfl rfl (fun hG => Zf Zet rfl rfl (Opd.gd hG u_0))) <| o_g (g_f rfl rfl rfl (fun hG => Za rfl rfl u_0)) <| o_g (g_f rfl rfl rfl (fun hG => Zq Try.underlying41 Zf0 rfl rfl (Opd.gd hG u_0) (Opd.gd hG u_1) (Zbe h6 hG))) <| o_g (g_f rfl rfl rfl (fun hG => Zk Ze1 rfl rfl (Opd.gd hG u_0))) <| o_g (g_f rfl rfl rfl (fun hG => Zf ty_3 rfl rfl (Opd.gd hG u_0))) <| o_g (g_f rfl rfl rfl (fun hG => Zch rfl rfl (Opd.gd hG u_0) c_i)) <| o_p rfl (Zb9 rfl rfl u_0 (fun hz => (Opd.gd (bNF hz) u_1))) <| o_n) (by kernel_rfl) (fun a g hst hb => ?_)
       refine wp_cond_split (hst.bool 2 rfl) (fun hc7 => ?_) (fun hc7 => ?_)
       · replace H1 := Zv hc7 H1
         refine r_s (L := []) (T := [⟨[], _, [], [], [2]⟩]) (F := [.op 0 0]) (hst.pick [] rfl) hb Zb
           (o_p rfl (Zc rfl rfl c_b) <| o_n) (by kernel_rfl) (fun a g hst hb => ?_)
         refine wp_ret ?_
         refine Zp ?_
         refine Zg ?_
         refine Zg ?_
         refine Zp ?_
         refine Zg ?_
         refine Zg ?_
         obtain rfl := Option.some.inj H1
         obtain rfl := Option.some.inj H0
         exact Z3 rfl hst hb (Zl (s := 2)) (hst.at 0 rfl)
       · replace H1 := Zw hc7 H1
         refine wp_skip ?_
         refine Z2 ?_
         refine Zi ?_
         refine r_g (L := [(1, _), (3, _)]) (T := [⟨[.old 1], _, [], [], [9]⟩, ⟨[.op 0 0], _, [], [0], [10]⟩, ⟨[.op 1 0], _, [], [0, 1], [3]⟩]) (F := [.old 0, .op 2 0]) (hst.pick [0, 1] rfl) hb Zb
           (o_p rfl (Za rfl rfl u_0) <| o_p rfl (Zby rfl rfl u_0 c_i rfl) <| o_p rfl (Zc rfl rfl u_0) <| o_n) (by kernel_rfl) (fun a g hst hb => ?_)
         exact ⟨n, Nat.lt_succ_self _, (IntKind.i64.wrap (x1 + (1 : Int))), g, rfl, (hst.pick [0, 1] rfl), hb, H1⟩
     · replace H1 := Zw hc2 H1
       refine wp_exit ?_
       refine Zx ?_
       refine Zx ?_
       refine Zbb ?_
       exact ⟨g, rfl, (hst.pick [] rfl), hb, Option.some.inj H1⟩
theorem Zgu (a0 : Ze) (a1 : Ze) (a2 : List ByteArray) {r : Bool} (h : Zcu a0 a1 a2 = some r) : FnOk Try.prog 19 [(Zh.pd a0), (Zh.pd a1), (Kd.str.sl.pd a2)] (Zm r) := by
 have H0 := h
 unfold Zcu at H0
 clear h
 refine Zb1 (N := 65) Try.func19 rfl rfl (Nat.le_of_ble_eq_true rfl) rfl rfl (fun a g0 hst hb => ?_)
 refine r_s (T := [⟨[.old 0], _, [], [], [3]⟩, ⟨[.old 1], _, [], [], [4]⟩, ⟨[], _, [], [], [6]⟩]) (F := [.old 2, .op 0 0, .op 1 0]) hst hb Zb
   (o_p rfl (Zdx rfl rfl u_0) <| o_p rfl (Zdx rfl rfl u_0) <| o_p rfl (Zc rfl rfl c_b) <| o_n) (by kernel_rfl) (fun a g hst hb => ?_)
 refine wp_seq ?_
 refine r_s (T := [⟨[], _, [], [], [7]⟩]) (F := [.old 0, .old 1, .old 2, .op 0 0]) hst hb Zb
   (o_p rfl (Zc rfl rfl c_i) <| o_n) (by kernel_rfl) (fun a g hst hb => ?_)
 obtain ⟨z17, hz1, H0⟩ := Zd H0
 refine Zbh (fun a w => ∃ (g : G), w = g.w ∧ St 65 [(3, (Zh.ptr a0)), (4, (Zh.ptr a1))] a g ∧ Base g0 g ∧ (.inr ()) = z17) ?_ ?_
 · rintro a w ⟨g, rfl, hst, hb, rfl⟩
   refine Zi ?_
   obtain ⟨r18, h19, H0⟩ := Zd H0; obtain ⟨r20, h21, H0⟩ := Zd H0
   refine r_s (T := [⟨[.old 0], _, [], [], [59]⟩, ⟨[.op 0 0], _, [], [0], [60]⟩, ⟨[.op 1 0], _, [], [0, 1], [61]⟩, ⟨[.op 2 0, .old 1], _, [], [0, 1, 2], [62]⟩, ⟨[.op 2 0, .op 3 0], _, [], Lr 4, [63]⟩, ⟨[.op 2 0, .op 4 0], _, [], Lr 5, [64]⟩, ⟨[.op 5 0], _, [], Lr 6, [6]⟩]) (F := [.op 6 0]) hst hb Zb
     (o_p rfl (Zf Zdw rfl rfl u_0) <| o_p rfl (Zba Zms (Ze3 _ h19) rfl rfl (.cons u_0 .nil)) <| o_p rfl (Za rfl rfl u_0) <| o_g (g_t rfl rfl rfl (fun hG => Zf Zdw rfl rfl u_0)) <| o_g (g_t rfl rfl rfl (fun hG => Zba Zms (Ze3 _ (Zbe h21 hG)) rfl rfl (.cons (Opd.gd hG u_0) .nil))) <| o_p rfl (Zb4 rfl rfl u_0 (fun hz => (Opd.gd hz u_1))) <| o_p rfl (Zc rfl rfl u_0) <| o_n) (by kernel_rfl) (fun a g hst hb => ?_)
   refine wp_ret ?_
   obtain rfl := Option.some.inj H0
   exact Z3 rfl hst hb (Zl (s := 6)) (hst.at 0 rfl)
 · refine wp_block ?_
   refine wp_loop_ghost (fun n a w => ∃ (x1 : Int) (g : G), w = g.w ∧ St 65 [(2, (Kd.str.sl.pd a2)), (3, (Zh.ptr a0)), (4, (Zh.ptr a1)), (7, (pInt .i64 x1))] a g ∧ Base g0 g ∧ Zbo a0 a1 a2 n x1 = some z17) (Int.toNat ((a0.Acts.length : Int) - (0 : Int)) + 1) ⟨(0 : Int), g, rfl, (hst.pick [0, 1, 2, 3] rfl), hb, hz1⟩ (fun n a w hI => ?_)
   obtain ⟨x1, g, rfl, hst, hb, H1⟩ := hI
   cases n with
   | zero => exact absurd H1 (by simp [Zbo])
   | succ n =>
     rw [Zbo] at H1
     refine wp_seq ?_
     refine r_s (T := [⟨[.old 3], _, [], [], [11]⟩, ⟨[.old 1], _, [], [], [12]⟩, ⟨[.op 1 0], _, [], [1], [13]⟩, ⟨[.op 2 0], _, [], [1, 2], [14]⟩, ⟨[.op 0 0, .op 3 0], _, [], Lr 4, [15]⟩]) (F := [.old 0, .old 1, .old 2, .old 3, .op 4 0]) hst hb Zb
       (o_p rfl (Za rfl rfl u_0) <| o_p rfl (Zk Zdi rfl rfl u_0) <| o_p rfl (Zf Zet rfl rfl u_0) <| o_p rfl (Z1 Try.underlying41 rfl rfl u_0) <| o_p rfl (Zcb rfl rfl u_0 u_1) <| o_n) (by kernel_rfl) (fun a g hst hb => ?_)
     refine wp_cond_split (hst.bool 4 rfl) (fun hc2 => ?_) (fun hc2 => ?_)
     · replace H1 := Zv hc2 H1
       refine wp_skip ?_
       refine Zi ?_
       refine wp_seq ?_
       refine wp_block ?_
       refine r_s (L := [(2, _), (3, _), (4, _), (7, _)]) (T := [⟨[], _, [], [], [8]⟩]) (F := [.old 0, .old 1, .old 2, .old 3, .op 0 0]) (hst.pick [0, 1, 2, 3] rfl) hb Zb
         (o_p rfl (Zc rfl rfl c_i) <| o_n) (by kernel_rfl) (fun a g hst hb => ?_)
       obtain ⟨z16, hz2, H1⟩ := Zd H1
       refine Zbh (fun a w => ∃ (g : G), w = g.w ∧ St 65 [(2, (Kd.str.sl.pd a2)), (3, (Zh.ptr a0)), (4, (Zh.ptr a1)), (7, (pInt .i64 x1))] a g ∧ Base g0 g ∧ (.inr ()) = z16) ?_ ?_
       · rintro a w ⟨g, rfl, hst, hb, rfl⟩
         refine Z2 ?_
         refine Zi ?_
         refine r_g (T := [⟨[.old 3], _, [], [], [16]⟩, ⟨[.op 0 0], _, [], [0], [17]⟩, ⟨[.op 1 0], _, [], [0, 1], [7]⟩]) (F := [.old 0, .old 1, .old 2, .op 2 0]) hst hb Zb
           (o_p rfl (Za rfl rfl u_0) <| o_p rfl (Zby rfl rfl u_0 c_i rfl) <| o_p rfl (Zc rfl rfl u_0) <| o_n) (by kernel_rfl) (fun a g hst hb => ?_)
         exact ⟨n, Nat.lt_succ_self _, (IntKind.i64.wrap (x1 + (1 : Int))), g, rfl, (hst.pick [0, 1, 2, 3] rfl), hb, H1⟩
       · refine wp_block ?_
         refine wp_loop_ghost (fun n a w => ∃ (x3 : Int) (g : G), w = g.w ∧ St 65 [(2, (Kd.str.sl.pd a2)), (3, (Zh.ptr a0)), (4, (Zh.ptr a1)), (7, (pInt .i64 x1)), (8, (pInt .i64 x3))] a g ∧ Base g0 g ∧ Zbi a0 a1 a2 x1 n x3 = some z16) (Int.toNat ((a1.Acts.length : Int) - (0 : Int)) + 1) ⟨(0 : Int), g, rfl, (hst.pick [0, 1, 2, 3, 4] rfl), hb, hz2⟩ (fun n a w hI => ?_)
         obtain ⟨x3, g, rfl, hst, hb, H2⟩ := hI
         cases n with
         | zero => exact absurd H2 (by simp [Zbi])
         | succ n =>
           rw [Zbi] at H2
           refine wp_seq ?_
           refine r_s (T := [⟨[.old 4], _, [], [], [18]⟩, ⟨[.old 2], _, [], [], [19]⟩, ⟨[.op 1 0], _, [], [1], [20]⟩, ⟨[.op 2 0], _, [], [1, 2], [21]⟩, ⟨[.op 0 0, .op 3 0], _, [], Lr 4, [22]⟩]) (F := [.old 0, .old 1, .old 2, .old 3, .old 4, .op 4 0]) hst hb Zb
             (o_p rfl (Za rfl rfl u_0) <| o_p rfl (Zk Zdi rfl rfl u_0) <| o_p rfl (Zf Zet rfl rfl u_0) <| o_p rfl (Z1 Try.underlying41 rfl rfl u_0) <| o_p rfl (Zcb rfl rfl u_0 u_1) <| o_n) (by kernel_rfl) (fun a g hst hb => ?_)
           refine wp_cond_split (hst.bool 5 rfl) (fun hc4 => ?_) (fun hc4 => ?_)
           · replace H2 := Zv hc4 H2
             refine wp_skip ?_
             refine Zi ?_
             refine wp_seq ?_
             refine wp_block ?_
             obtain ⟨e5, h6, H2⟩ := Zd H2; obtain ⟨e7, h8, H2⟩ := Zd H2
             refine r_s (L := [(2, _), (3, _), (4, _), (7, _), (8, _)]) (T := ⟨[.old 1], _, [], [], [25]⟩ :: ⟨[.op 0 0], _, [], [0], [26]⟩ :: ⟨[.old 3], _, [], [], [27]⟩ :: ⟨[.op 1 0, .op 2 0], _, [], [0, 1, 2], [28]⟩ :: ⟨[.op 3 0], _, [], Lr 4, [29]⟩ :: ⟨[.old 2], _, [], [], [30]⟩ :: ⟨[.op 5 0], _, [], [5], [31]⟩ :: ⟨[.old 4], _, [], [], [32]⟩ :: ⟨[.op 6 0, .op 7 0], _, [], [5, 6, 7], [33]⟩ :: ⟨[.op 8 0], _, [], List.range' 5 4, [34]⟩ :: ⟨[], [(9, (pBox Zs 9 (default : Zn)))], [10], [], [9]⟩ :: ⟨[], [(10, (pBox Zs 10 (default : Zn)))], [11], [], [10]⟩ :: ⟨[.op 4 0, .op 10 0], _, [10], [0, 1, 2, 3, 4, 10, 11], [9]⟩ :: ⟨[.op 9 0, .op 11 0], _, [11], Lr 13, [10]⟩ :: []) (F := [.old 0, .old 1, .old 2, .old 3, .old 4, .op 12 0, .op 13 0]) (hst.pick [0, 1, 2, 3, 4] rfl) hb Zb
               (o_p rfl (Zk Zdi rfl rfl u_0) <| o_p rfl (Zf Zet rfl rfl u_0) <| o_p rfl (Za rfl rfl u_0) <| o_p rfl (Zq Try.underlying41 Zf0 rfl rfl u_0 u_1 h6) <| o_p rfl (Zf Zev rfl rfl u_0) <| o_p rfl (Zk Zdi rfl rfl u_0) <| o_p rfl (Zf Zet rfl rfl u_0) <| o_p rfl (Za rfl rfl u_0) <| o_p rfl (Zq Try.underlying41 Zf0 rfl rfl u_0 u_1 h8) <| o_p rfl (Zf Zev rfl rfl u_0) <| o_p rfl (Zeh (zs := [.int .i64 0, .string ByteArray.empty, .int .i64 0, .float .f64 0, .string ByteArray.empty, .int .i64 0, .int .i64 0, .int .i64 0, .int .i64 0, .float .f64 0, .int .i64 0, .string ByteArray.empty, .slice none 0 0, .bool false]) (by kernel_rfl) (fun g => Ze6 g) rfl rfl) <| o_p rfl (Zeh (zs := [.int .i64 0, .string ByteArray.empty, .int .i64 0, .float .f64 0, .string ByteArray.empty, .int .i64 0, .int .i64 0, .int .i64 0, .int .i64 0, .float .f64 0, .int .i64 0, .string ByteArray.empty, .slice none 0 0, .bool false]) (by kernel_rfl) (fun g => Ze6 g) rfl rfl) <| o_p rfl (Zd1 Zev rfl rfl u_1 u_0) <| o_p rfl (Zd1 Zev rfl rfl u_1 u_0) <| o_n) (by kernel_rfl) (fun a g hst hb => ?_)
             obtain ⟨r9, h10, H2⟩ := Zd H2; obtain ⟨r11, h12, H2⟩ := Zd H2; obtain ⟨r13, h14, H2⟩ := Zd H2
             refine r_s (T := ⟨[.old 5], _, [], [], [35]⟩ :: ⟨[.op 0 0], _, [], [0], [36]⟩ :: ⟨[.old 6], _, [], [], [37]⟩ :: ⟨[.op 2 0], _, [], [2], [38]⟩ :: ⟨[.op 1 0, .op 3 0], _, [], Lr 4, [39]⟩ :: ⟨[.op 4 0], _, [], Lr 5, [40]⟩ :: ⟨[.op 5 0, .old 0], _, [], Lr 6, [41]⟩ :: ⟨[.op 5 0, .old 5], _, [], Lr 6, [42]⟩ :: ⟨[.op 5 0, .op 7 0], _, [], [0, 1, 2, 3, 4, 5, 7], [43]⟩ :: ⟨[.op 5 0, .op 6 0, .op 8 0], _, [], Lr 9, [44]⟩ :: ⟨[.op 5 0, .op 9 0], _, [], Lr 10, [45]⟩ :: ⟨[.op 5 0, .op 10 0], _, [], Lr 11, [46]⟩ :: ⟨[.op 11 0], _, [], Lr 12, [47]⟩ :: ⟨[.op 12 0, .old 5], _, [], Lr 13, [48]⟩ :: ⟨[.op 12 0, .op 13 0], _, [], Lr 14, [49]⟩ :: ⟨[.op 12 0, .op 14 0], _, [], Lr 15, [50]⟩ :: ⟨[.op 12 0, .op 15 0], _, [], Lr 16, [51]⟩ :: ⟨[.op 12 0, .op 16 0], _, [], Lr 17, [52]⟩ :: ⟨[.op 17 0, .old 6], _, [], Lr 18, [53]⟩ :: ⟨[.op 17 0, .op 18 0], _, [], Lr 19, [54]⟩ :: ⟨[.op 17 0, .op 19 0], _, [], Lr 20, [55]⟩ :: ⟨[.op 17 0, .op 20 0], _, [], Lr 21, [56]⟩ :: ⟨[.op 12 0, .op 17 0, .op 21 0], _, [], Lr 22, [57]⟩ :: ⟨[.op 12 0, .op 22 0], _, [], Lr 23, [58]⟩ :: []) (F := [.old 0, .old 1, .old 2, .old 3, .old 4, .op 23 0]) hst hb Zb
               (o_p rfl (Zk Zfd rfl rfl u_0) <| o_p rfl (Zf ty_9 rfl rfl u_0) <| o_p rfl (Zk Zfd rfl rfl u_0) <| o_p rfl (Zf ty_9 rfl rfl u_0) <| o_p rfl (Zh0 rfl rfl u_0 u_1) <| o_p rfl (Za rfl rfl u_0) <| o_g (g_t rfl rfl rfl (fun hG => Za rfl rfl u_0)) <| o_g (g_t rfl rfl rfl (fun hG => Zk Zfd rfl rfl u_0)) <| o_g (g_t rfl rfl rfl (fun hG => Zf ty_9 rfl rfl (Opd.gd hG u_0))) <| o_g (g_t rfl rfl rfl (fun hG => Zba Zn5 (Zg2 _ _ (Zbe h10 hG)) rfl rfl (.cons (Opd.gd hG u_0) (.cons (Opd.gd hG u_1) .nil)))) <| o_g (g_t rfl rfl rfl (fun hG => Zdm rfl rfl (Opd.gd hG u_0))) <| o_p rfl (Zb4 rfl rfl u_0 (fun hz => (Opd.gd hz u_1))) <| o_p rfl (Za rfl rfl u_0) <| o_g (g_t rfl rfl rfl (fun hG => Zk Ze1 rfl rfl u_0)) <| o_g (g_t rfl rfl rfl (fun hG => Zf ty_3 rfl rfl (Opd.gd hG u_0))) <| o_g (g_t rfl rfl rfl (fun hG => Zba Zmu (Ze9 _ (Zbe h12 hG)) rfl rfl (.cons (Opd.gd hG u_0) .nil))) <| o_g (g_t rfl rfl rfl (fun hG => Zdm rfl rfl (Opd.gd hG u_0))) <| o_g (g_t rfl rfl rfl (fun hG => Za rfl rfl (Opd.gd hG u_0))) <| o_g (g_fi rfl rfl rfl (fun hG => Zk Ze1 rfl rfl u_0)) <| o_g (g_fi rfl rfl rfl (fun hG => Zf ty_3 rfl rfl (Opd.gd hG u_0))) <| o_g (g_fi rfl rfl rfl (fun hG => Zba Zmu (Ze9 _ (Zbe h14 hG)) rfl rfl (.cons (Opd.gd hG u_0) .nil))) <| o_g (g_fi rfl rfl rfl (fun hG => Zdm rfl rfl (Opd.gd hG u_0))) <| o_g (g_t rfl rfl rfl (fun hG => Zb9 rfl rfl (Opd.gd hG u_0) (fun hz => (Opd.gd (bA hG (bNF hz)) u_1)))) <| o_p rfl (Zb4 rfl rfl u_0 (fun hz => (Opd.gd hz u_1))) <| o_n) (by kernel_rfl) (fun a g hst hb => ?_)
             refine wp_cond_split (hst.bool 5 rfl) (fun hc15 => ?_) (fun hc15 => ?_)
             · replace H2 := Zv hc15 H2
               refine r_s (L := []) (T := [⟨[], _, [], [], [6]⟩]) (F := [.op 0 0]) (hst.pick [] rfl) hb Zb
                 (o_p rfl (Zc rfl rfl c_b) <| o_n) (by kernel_rfl) (fun a g hst hb => ?_)
               refine wp_ret ?_
               refine Zp ?_
               refine Zg ?_
               refine Zg ?_
               refine Zp ?_
               refine Zg ?_
               refine Zp ?_
               refine Zg ?_
               refine Zg ?_
               refine Zp ?_
               refine Zg ?_
               refine Zg ?_
               obtain rfl := Option.some.inj H2
               obtain rfl := Option.some.inj H1
               obtain rfl := Option.some.inj H0
               exact Z3 rfl hst hb (Zl (s := 6)) (hst.at 0 rfl)
             · replace H2 := Zw hc15 H2
               refine wp_skip ?_
               refine Z2 ?_
               refine Zi ?_
               refine r_g (L := [(2, _), (3, _), (4, _), (7, _), (8, _)]) (T := [⟨[.old 4], _, [], [], [23]⟩, ⟨[.op 0 0], _, [], [0], [24]⟩, ⟨[.op 1 0], _, [], [0, 1], [8]⟩]) (F := [.old 0, .old 1, .old 2, .old 3, .op 2 0]) (hst.pick [0, 1, 2, 3, 4] rfl) hb Zb
                 (o_p rfl (Za rfl rfl u_0) <| o_p rfl (Zby rfl rfl u_0 c_i rfl) <| o_p rfl (Zc rfl rfl u_0) <| o_n) (by kernel_rfl) (fun a g hst hb => ?_)
               exact ⟨n, Nat.lt_succ_self _, (IntKind.i64.wrap (x3 + (1 : Int))), g, rfl, (hst.pick [0, 1, 2, 3, 4] rfl), hb, H2⟩
           · replace H2 := Zw hc4 H2
             refine wp_exit ?_
             refine Zx ?_
             refine Zx ?_
             refine Zbb ?_
             exact ⟨g, rfl, (hst.pick [0, 1, 2, 3] rfl), hb, Option.some.inj H2⟩
     · replace H1 := Zw hc2 H1
       refine wp_exit ?_
       refine Zx ?_
       refine Zx ?_
       refine Zbb ?_
       exact ⟨g, rfl, (hst.pick [1, 2] rfl), hb, Option.some.inj H1⟩
theorem Zfa (a0 : List Ze) (a1 : List Int) (a2 : List ByteArray) (a3 : Int) {r : List Int} (h : Zcq a0 a1 a2 a3 = some r) : FnOk Try.prog 11 [(Zh.sl.pd a0), ((Kd.int .i64).sl.pd a1), (Kd.str.sl.pd a2), (pInt .i64 a3)] ((Kd.int .i64).sl.pd r) := by
 have H0 := h
 unfold Zcq at H0
 clear h
 refine Zb1 (N := 54) Try.func11 rfl rfl (Nat.le_of_ble_eq_true rfl) rfl rfl (fun a g0 hst hb => ?_)
 refine r_s (T := [⟨[], [(8, ((Kd.int .i64).sl.pd ([] : List Int)))], [], [], [8]⟩]) (F := [.old 0, .old 1, .old 2, .old 3]) hst hb Zb
   (o_p rfl (Zc rfl rfl (Opd.c (fun g => Zek g))) <| o_n) (by kernel_rfl) (fun a g hst hb => ?_)
 refine r_s (T := [⟨[], [(9, (pRow (Kd.int .i64) 3 9 ([] : List Int)))], [], [], [9]⟩]) (F := [.old 0, .old 1, .old 2, .old 3, .op 0 0]) hst hb Zb
   (o_p rfl (Zc rfl rfl (Opd.c (fun g => Zez 9 g))) <| o_n) (by kernel_rfl) (fun a g hst hb => ?_)
 refine r_s (T := [⟨[], _, [], [], [10]⟩]) (F := [.old 0, .old 1, .old 2, .old 3, .old 4, .op 0 0]) hst hb Zb
   (o_p rfl (Zc rfl rfl c_b) <| o_n) (by kernel_rfl) (fun a g hst hb => ?_)
 refine wp_seq ?_
 refine r_s (T := [⟨[.old 1], _, [], [], [13]⟩, ⟨[.op 0 0], _, [], [0], [14]⟩, ⟨[], _, [], [], [15]⟩]) (F := [.old 0, .old 2, .old 3, .old 4, .old 5, .op 0 0, .op 1 0, .op 2 0]) hst hb Zb
   (o_p rfl (Za rfl rfl u_0) <| o_p rfl (Z1 Try.underlying24 rfl rfl u_0) <| o_p rfl (Za rfl rfl c_i) <| o_n) (by kernel_rfl) (fun a g hst hb => ?_)
 obtain ⟨z19, hz1, H0⟩ := Zd H0
 refine Zbh (fun a w => ∃ (y17 : List Int) (y18 : Bool) (g : G), w = g.w ∧ St 54 [(9, (pRow (Kd.int .i64) 3 9 y17)), (10, (Zm y18))] a g ∧ Base g0 g ∧ (y17, y18) = z19) ?_ ?_
 · rintro a w ⟨y17, y18, g, rfl, hst, hb, rfl⟩
   refine Zi ?_
   refine wp_seq ?_
   refine r_s (T := [⟨[.old 1], _, [], [], [51]⟩, ⟨[.op 0 0], _, [], [0], [52]⟩]) (F := [.old 0, .op 1 0]) hst hb Zb
     (o_p rfl (Za rfl rfl u_0) <| o_p rfl (Zdm rfl rfl u_0) <| o_n) (by kernel_rfl) (fun a g hst hb => ?_)
   refine wp_cond_split (hst.bool 1 rfl) (fun hc20 => ?_) (fun hc20 => ?_)
   · replace H0 := Zv hc20 H0
     refine r_s (L := []) (T := [⟨[], [(8, ((Kd.int .i64).sl.pd ([] : List Int)))], [], [], [8]⟩]) (F := [.op 0 0]) (hst.pick [] rfl) hb Zb
       (o_p rfl (Zc rfl rfl (Opd.c (fun g => Zek g))) <| o_n) (by kernel_rfl) (fun a g hst hb => ?_)
     refine wp_ret ?_
     refine Zg ?_
     obtain rfl := Option.some.inj H0
     exact Z3 rfl hst hb (Zl (s := 8)) (hst.at 0 rfl)
   · replace H0 := Zw hc20 H0
     refine wp_skip ?_
     refine Zi ?_
     refine r_s (L := [(9, _)]) (T := [⟨[.old 0], _, [], [], [53]⟩, ⟨[.op 0 0], _, [], [0], [8]⟩]) (F := [.op 1 0]) (hst.pick [0] rfl) hb Zb
       (o_p rfl (Za rfl rfl u_0) <| o_p rfl (Zc rfl rfl u_0) <| o_n) (by kernel_rfl) (fun a g hst hb => ?_)
     refine wp_ret ?_
     obtain rfl := Option.some.inj H0
     exact Z3 rfl hst hb (Zl (s := 8)) (Zfg (hst.at 0 rfl))
 · refine wp_block ?_
   refine wp_loop_ghost (fun n a w => ∃ (x1 : List Int) (x2 : Bool) (x3 : Int) (g : G), w = g.w ∧ St 54 [(0, (Zh.sl.pd a0)), (2, (Kd.str.sl.pd a2)), (3, (pInt .i64 a3)), (9, (pRow (Kd.int .i64) 3 9 x1)), (10, (Zm x2)), (13, ((Kd.int .i64).sl.pd a1)), (14, (pInt .i64 (a1.length : Int))), (15, (pInt .i64 x3))] a g ∧ Base g0 g ∧ Z0 a0 a1 a2 a3 n x1 x2 x3 = some z19) (Int.toNat ((a1.length : Int) - (0 : Int)) + 1) ⟨([] : List Int), false, (0 : Int), g, rfl, (hst.pick [0, 1, 2, 3, 4, 5, 6, 7] rfl), hb, hz1⟩ (fun n a w hI => ?_)
   obtain ⟨x1, x2, x3, g, rfl, hst, hb, H1⟩ := hI
   cases n with
   | zero => exact absurd H1 (by simp [Z0])
   | succ n =>
     rw [Z0] at H1
     refine r_s (T := [⟨[.old 7, .old 6], _, [], [], [16]⟩]) (F := [.old 0, .old 1, .old 2, .old 3, .old 4, .old 5, .old 6, .old 7, .op 0 0]) hst hb Zb
       (o_p rfl (Zcb rfl rfl u_0 u_1) <| o_n) (by kernel_rfl) (fun a g hst hb => ?_)
     refine wp_seq ?_
     refine wp_cond_split (hst.bool 8 rfl) (fun hc4 => ?_) (fun hc4 => ?_)
     · replace H1 := Zv hc4 H1
       refine wp_skip ?_
       refine Zi ?_
       refine wp_seq ?_
       refine Zbh (fun a w => ∃ (j15 : List Int) (j16 : Bool) (g : G), w = g.w ∧ St 54 [(0, (Zh.sl.pd a0)), (2, (Kd.str.sl.pd a2)), (3, (pInt .i64 a3)), (9, (pRow (Kd.int .i64) 3 9 j15)), (10, (Zm j16)), (13, ((Kd.int .i64).sl.pd a1)), (14, (pInt .i64 (a1.length : Int))), (15, (pInt .i64 x3))] a g ∧ Base g0 g ∧ Zc6 x3 (Z0 a0 a1 a2 a3 n) j15 j16 = some z19) ?_ ?_
       · rintro a w ⟨j15, j16, g, rfl, hst, hb, H1⟩
         unfold Zc6 at H1
         refine Zi ?_
         refine r_g (T := [⟨[.old 7], _, [], [], [50]⟩, ⟨[.op 0 0], _, [], [0], [15]⟩]) (F := [.old 0, .old 1, .old 2, .old 3, .old 4, .old 5, .old 6, .op 1 0]) hst hb Zb
           (o_p rfl (Zby rfl rfl u_0 c_i rfl) <| o_p rfl (Za rfl rfl u_0) <| o_n) (by kernel_rfl) (fun a g hst hb => ?_)
         exact ⟨n, Nat.lt_succ_self _, j15, j16, (IntKind.i64.wrap (x3 + (1 : Int))), g, rfl, (hst.pick [0, 1, 2, 3, 4, 5, 6, 7] rfl), hb, H1⟩
       · refine wp_block ?_
         obtain ⟨e5, h6, H1⟩ := Zd H1
         refine r_s (L := [(0, _), (2, _), (3, _), (9, _), (10, _), (13, _), (14, _), (15, _)]) (T := [⟨[.old 5, .old 7], _, [], [], [17]⟩, ⟨[.op 0 0], _, [], [0], [18]⟩, ⟨[.op 1 0], _, [], [0, 1], [12]⟩]) (F := [.old 0, .old 1, .old 2, .old 3, .old 4, .op 2 0, .old 5, .old 6, .old 7]) (hst.pick [0, 1, 2, 3, 4, 5, 6, 7] rfl) hb Zb
           (o_p rfl (Zq Try.underlying24 sz_3 rfl rfl u_0 u_1 h6) <| o_p rfl (Zf ty_3 rfl rfl u_0) <| o_p rfl (Zc rfl rfl u_0) <| o_n) (by kernel_rfl) (fun a g hst hb => ?_)
         refine r_s (T := [⟨[.old 4], _, [], [], [19]⟩, ⟨[.op 0 0], _, [], [0], [20]⟩, ⟨[.op 1 0, .old 5], _, [], [0, 1], [21]⟩, ⟨[.op 1 0, .old 2], _, [], [0, 1], [22]⟩, ⟨[.op 1 0, .op 2 0, .op 3 0], _, [], Lr 4, [23]⟩, ⟨[.op 1 0, .op 4 0], _, [], Lr 5, [24]⟩, ⟨[.op 5 0], _, [], Lr 6, [10]⟩]) (F := [.old 0, .old 1, .old 2, .old 3, .op 6 0, .old 5, .old 6, .old 7, .old 8]) hst hb Zb
           (o_p rfl (Za rfl rfl u_0) <| o_p rfl (Za rfl rfl u_0) <| o_g (g_f rfl rfl rfl (fun hG => Za rfl rfl u_0)) <| o_g (g_f rfl rfl rfl (fun hG => Za rfl rfl u_0)) <| o_g (g_f rfl rfl rfl (fun hG => Zch rfl rfl (Opd.gd hG u_0) (Opd.gd hG u_1))) <| o_p rfl (Zb9 rfl rfl u_0 (fun hz => (Opd.gd (bNF hz) u_1))) <| o_p rfl (Zc rfl rfl u_0) <| o_n) (by kernel_rfl) (fun a g hst hb => ?_)
         obtain ⟨e7, h8, H1⟩ := Zd H1; obtain ⟨e9, h10, H1⟩ := Zd H1; obtain ⟨r11, h12, H1⟩ := Zd H1
         refine r_s (T := ⟨[.old 5], _, [], [], [25]⟩ :: ⟨[.old 2], _, [], [], [26]⟩ :: ⟨[.op 0 0, .op 1 0], _, [], [0, 1], [27]⟩ :: ⟨[.op 2 0], _, [], [0, 1, 2], [28]⟩ :: ⟨[.op 3 0, .old 2], _, [], Lr 4, [29]⟩ :: ⟨[.op 3 0, .old 0], _, [], Lr 4, [30]⟩ :: ⟨[.op 3 0, .op 5 0], _, [], [0, 1, 2, 3, 5], [31]⟩ :: ⟨[.op 3 0, .op 4 0, .op 6 0], _, [], Lr 7, [32]⟩ :: ⟨[.op 3 0, .op 7 0], _, [], Lr 8, [33]⟩ :: ⟨[.op 8 0], _, [], Lr 9, [34]⟩ :: ⟨[.op 9 0, .old 0], _, [], Lr 10, [35]⟩ :: ⟨[.op 9 0, .old 5], _, [], Lr 10, [36]⟩ :: ⟨[.op 9 0, .op 10 0, .op 11 0], _, [], Lr 12, [37]⟩ :: ⟨[.op 9 0, .op 12 0], _, [], Lr 13, [38]⟩ :: ⟨[.op 9 0, .old 0], _, [], Lr 10, [39]⟩ :: ⟨[.op 9 0, .old 2], _, [], Lr 10, [40]⟩ :: ⟨[.op 9 0, .op 14 0, .op 15 0], _, [], 0 :: 1 :: 2 :: 3 :: 4 :: 5 :: 6 :: 7 :: 8 :: 9 :: 14 :: 15 :: [], [41]⟩ :: ⟨[.op 9 0, .op 16 0], _, [], 0 :: 1 :: 2 :: 3 :: 4 :: 5 :: 6 :: 7 :: 8 :: 9 :: 14 :: 15 :: 16 :: [], [42]⟩ :: ⟨[.op 9 0, .old 1], _, [], Lr 10, [43]⟩ :: ⟨[.op 9 0, .op 13 0, .op 17 0, .op 18 0], _, [], Lr 19, [44]⟩ :: ⟨[.op 9 0, .op 19 0], _, [], Lr 20, [45]⟩ :: []) (F := [.old 0, .old 1, .old 2, .old 3, .old 4, .old 5, .old 6, .old 7, .old 8, .op 20 0]) hst hb Zb
           (o_p rfl (Za rfl rfl u_0) <| o_p rfl (Za rfl rfl u_0) <| o_p rfl (Zcb rfl rfl u_0 u_1) <| o_p rfl (Za rfl rfl u_0) <| o_g (g_t rfl rfl rfl (fun hG => Za rfl rfl u_0)) <| o_g (g_t rfl rfl rfl (fun hG => Za rfl rfl u_0)) <| o_g (g_t rfl rfl rfl (fun hG => Z1 Try.underlying22 rfl rfl (Opd.gd hG u_0))) <| o_g (g_t rfl rfl rfl (fun hG => Zcb rfl rfl (Opd.gd hG u_0) (Opd.gd hG u_1))) <| o_p rfl (Zb4 rfl rfl u_0 (fun hz => (Opd.gd hz u_1))) <| o_p rfl (Za rfl rfl u_0) <| o_g (g_t rfl rfl rfl (fun hG => Za rfl rfl u_0)) <| o_g (g_t rfl rfl rfl (fun hG => Za rfl rfl u_0)) <| o_g (g_t rfl rfl rfl (fun hG => Zq Try.underlying22 Zhx rfl rfl (Opd.gd hG u_0) (Opd.gd hG u_1) (Zbe h8 hG))) <| o_g (g_t rfl rfl rfl (fun hG => Zf Zdw rfl rfl (Opd.gd hG u_0))) <| o_g (g_t rfl rfl rfl (fun hG => Za rfl rfl u_0)) <| o_g (g_t rfl rfl rfl (fun hG => Za rfl rfl u_0)) <| o_g (g_t rfl rfl rfl (fun hG => Zq Try.underlying22 Zhx rfl rfl (Opd.gd hG u_0) (Opd.gd hG u_1) (Zbe h10 hG))) <| o_g (g_t rfl rfl rfl (fun hG => Zf Zdw rfl rfl (Opd.gd hG u_0))) <| o_g (g_t rfl rfl rfl (fun hG => Za rfl rfl u_0)) <| o_g (g_t rfl rfl rfl (fun hG => Zba Zo0 (Zgu _ _ _ (Zbe h12 hG)) rfl rfl (.cons (Opd.gd hG u_0) (.cons (Opd.gd hG u_1) (.cons (Opd.gd hG u_2) .nil))))) <| o_p rfl (Zb4 rfl rfl u_0 (fun hz => (Opd.gd hz u_1))) <| o_n) (by kernel_rfl) (fun a g hst hb => ?_)
         refine wp_cond_split (hst.bool 9 rfl) (fun hc13 => ?_) (fun hc13 => ?_)
         · replace H1 := Zv hc13 H1
           obtain ⟨h14, H1⟩ := Ze8 H1
           refine r_g (L := [(0, _), (2, _), (3, _), (9, _), (10, _), (12, _), (13, _), (14, _), (15, _)]) (T := [⟨[.old 3], _, [], [], [46]⟩, ⟨[.old 5], _, [], [], [47]⟩, ⟨[.op 1 0], _, [], [1], [48]⟩, ⟨[.op 0 0, .op 2 0], _, [10], [0, 1, 2], [9, 46, 49]⟩, ⟨[.op 3 0], _, [], Lr 4, [9]⟩]) (F := [.old 0, .old 1, .old 2, .op 4 0, .old 4, .old 6, .old 7, .old 8]) (hst.pick [0, 1, 2, 3, 4, 5, 6, 7, 8] rfl) hb Zb
             (o_p rfl (Za rfl rfl u_0) <| o_p rfl (Za rfl rfl u_0) <| o_p rfl (Zd5 Zc1 (xs := [.tmp 47]) (.cons u_0 .nil) (by decide) rfl rfl) <| o_p rfl (Ze2 Zc1 rfl rfl u_0 u_1 h14) <| o_p rfl (Zc rfl rfl u_0) <| o_n) (by kernel_rfl) (fun a g hst hb => ?_)
           refine Z2 ?_
           exact ⟨(x1 ++ ([e5] : List Int)), (x2 || (e5 == a3)), g, rfl, (hst.pick [0, 1, 2, 3, 4, 5, 6, 7] rfl), hb, H1⟩
         · replace H1 := Zw hc13 H1
           refine wp_skip ?_
           refine Z2 ?_
           exact ⟨x1, (x2 || (e5 == a3)), g, rfl, (hst.pick [0, 1, 2, 3, 4, 6, 7, 8] rfl), hb, H1⟩
     · replace H1 := Zw hc4 H1
       refine wp_exit ?_
       refine Zx ?_
       refine Zx ?_
       refine Zbb ?_
       exact ⟨x1, x2, g, rfl, (hst.pick [3, 4] rfl), hb, Option.some.inj H1⟩
theorem Zfk (a0 : List Int) (a1 : Int) {r : Bool} (h : Zcz a0 a1 = some r) : FnOk Try.prog 15 [((Kd.int .i64).sl.pd a0), (pInt .i64 a1)] (Zm r) := by
 have H0 := h
 unfold Zcz at H0
 clear h
 refine Zb1 (N := 17) Try.func15 rfl rfl (Nat.le_of_ble_eq_true rfl) rfl rfl (fun a g0 hst hb => ?_)
 refine r_s (T := [⟨[], _, [], [], [4]⟩]) (F := [.old 0, .old 1]) hst hb Zb
   (o_p rfl (Zc rfl rfl c_b) <| o_n) (by kernel_rfl) (fun a g hst hb => ?_)
 refine wp_seq ?_
 refine r_s (T := [⟨[.old 0], _, [], [], [7]⟩, ⟨[.op 0 0], _, [], [0], [8]⟩, ⟨[], _, [], [], [9]⟩]) (F := [.old 1, .op 0 0, .op 1 0, .op 2 0]) hst hb Zb
   (o_p rfl (Za rfl rfl u_0) <| o_p rfl (Z1 Try.underlying24 rfl rfl u_0) <| o_p rfl (Za rfl rfl c_i) <| o_n) (by kernel_rfl) (fun a g hst hb => ?_)
 obtain ⟨z6, hz1, H0⟩ := Zd H0
 refine Zbh (fun a w => ∃ (g : G), w = g.w ∧ St 17 [] a g ∧ Base g0 g ∧ (.inr ()) = z6) ?_ ?_
 · rintro a w ⟨g, rfl, hst, hb, rfl⟩
   refine Zi ?_
   refine r_s (T := [⟨[], _, [], [], [4]⟩]) (F := [.op 0 0]) hst hb Zb
     (o_p rfl (Zc rfl rfl c_b) <| o_n) (by kernel_rfl) (fun a g hst hb => ?_)
   refine wp_ret ?_
   obtain rfl := Option.some.inj H0
   exact Z3 rfl hst hb (Zl (s := 4)) (hst.at 0 rfl)
 · refine wp_block ?_
   refine wp_loop_ghost (fun n a w => ∃ (x1 : Int) (g : G), w = g.w ∧ St 17 [(1, (pInt .i64 a1)), (7, ((Kd.int .i64).sl.pd a0)), (8, (pInt .i64 (a0.length : Int))), (9, (pInt .i64 x1))] a g ∧ Base g0 g ∧ Zbx a0 a1 n x1 = some z6) (Int.toNat ((a0.length : Int) - (0 : Int)) + 1) ⟨(0 : Int), g, rfl, (hst.pick [0, 1, 2, 3] rfl), hb, hz1⟩ (fun n a w hI => ?_)
   obtain ⟨x1, g, rfl, hst, hb, H1⟩ := hI
   cases n with
   | zero => exact absurd H1 (by simp [Zbx])
   | succ n =>
     rw [Zbx] at H1
     refine r_s (T := [⟨[.old 3, .old 2], _, [], [], [10]⟩]) (F := [.old 0, .old 1, .old 2, .old 3, .op 0 0]) hst hb Zb
       (o_p rfl (Zcb rfl rfl u_0 u_1) <| o_n) (by kernel_rfl) (fun a g hst hb => ?_)
     refine wp_seq ?_
     refine wp_cond_split (hst.bool 4 rfl) (fun hc2 => ?_) (fun hc2 => ?_)
     · replace H1 := Zv hc2 H1
       refine wp_skip ?_
       refine Zi ?_
       refine wp_seq ?_
       refine wp_block ?_
       obtain ⟨e3, h4, H1⟩ := Zd H1
       refine r_s (L := [(1, _), (7, _), (8, _), (9, _)]) (T := [⟨[.old 1, .old 3], _, [], [], [11]⟩, ⟨[.op 0 0], _, [], [0], [12]⟩, ⟨[.op 1 0], _, [], [0, 1], [6]⟩]) (F := [.old 0, .op 2 0, .old 1, .old 2, .old 3]) (hst.pick [0, 1, 2, 3] rfl) hb Zb
         (o_p rfl (Zq Try.underlying24 sz_3 rfl rfl u_0 u_1 h4) <| o_p rfl (Zf ty_3 rfl rfl u_0) <| o_p rfl (Zc rfl rfl u_0) <| o_n) (by kernel_rfl) (fun a g hst hb => ?_)
       refine r_s (T := [⟨[.old 1], _, [], [], [13]⟩, ⟨[.old 0], _, [], [], [14]⟩, ⟨[.op 0 0, .op 1 0], _, [], [0, 1], [15]⟩]) (F := [.old 0, .old 2, .old 3, .old 4, .op 2 0]) hst hb Zb
         (o_p rfl (Za rfl rfl u_0) <| o_p rfl (Za rfl rfl u_0) <| o_p rfl (Zch rfl rfl u_0 u_1) <| o_n) (by kernel_rfl) (fun a g hst hb => ?_)
       refine wp_cond_split (hst.bool 4 rfl) (fun hc5 => ?_) (fun hc5 => ?_)
       · replace H1 := Zv hc5 H1
         refine r_s (L := []) (T := [⟨[], _, [], [], [4]⟩]) (F := [.op 0 0]) (hst.pick [] rfl) hb Zb
           (o_p rfl (Zc rfl rfl c_b) <| o_n) (by kernel_rfl) (fun a g hst hb => ?_)
         refine wp_ret ?_
         refine Zp ?_
         refine Zg ?_
         refine Zg ?_
         refine Zp ?_
         refine Zg ?_
         refine Zg ?_
         obtain rfl := Option.some.inj H1
         obtain rfl := Option.some.inj H0
         exact Z3 rfl hst hb (Zl (s := 4)) (hst.at 0 rfl)
       · replace H1 := Zw hc5 H1
         refine wp_skip ?_
         refine Z2 ?_
         refine Zi ?_
         refine r_g (L := [(1, _), (7, _), (8, _), (9, _)]) (T := [⟨[.old 3], _, [], [], [16]⟩, ⟨[.op 0 0], _, [], [0], [9]⟩]) (F := [.old 0, .old 1, .old 2, .op 1 0]) (hst.pick [0, 1, 2, 3] rfl) hb Zb
           (o_p rfl (Zby rfl rfl u_0 c_i rfl) <| o_p rfl (Za rfl rfl u_0) <| o_n) (by kernel_rfl) (fun a g hst hb => ?_)
         exact ⟨n, Nat.lt_succ_self _, (IntKind.i64.wrap (x1 + (1 : Int))), g, rfl, (hst.pick [0, 1, 2, 3] rfl), hb, H1⟩
     · replace H1 := Zw hc2 H1
       refine wp_exit ?_
       refine Zx ?_
       refine Zx ?_
       refine Zbb ?_
       exact ⟨g, rfl, (hst.pick [] rfl), hb, Option.some.inj H1⟩
theorem Zf6 (a0 : List Int) (a1 : Int) {r : List Int} (h : Zcr a0 a1 = some r) : FnOk Try.prog 17 [((Kd.int .i64).sl.pd a0), (pInt .i64 a1)] ((Kd.int .i64).sl.pd r) := by
 have H0 := h
 unfold Zcr at H0
 clear h
 refine Zb1 (N := 23) Try.func17 rfl rfl (Nat.le_of_ble_eq_true rfl) rfl rfl (fun a g0 hst hb => ?_)
 refine r_s (T := [⟨[], [(4, ((Kd.int .i64).sl.pd ([] : List Int)))], [], [], [4]⟩]) (F := [.old 0, .old 1]) hst hb Zb
   (o_p rfl (Zc rfl rfl (Opd.c (fun g => Zek g))) <| o_n) (by kernel_rfl) (fun a g hst hb => ?_)
 refine r_s (T := [⟨[], [(5, (pRow (Kd.int .i64) 3 5 ([] : List Int)))], [], [], [5]⟩]) (F := [.old 0, .old 1, .op 0 0]) hst hb Zb
   (o_p rfl (Zc rfl rfl (Opd.c (fun g => Zez 5 g))) <| o_n) (by kernel_rfl) (fun a g hst hb => ?_)
 refine wp_seq ?_
 refine r_s (T := [⟨[.old 0], _, [], [], [8]⟩, ⟨[.op 0 0], _, [], [0], [9]⟩, ⟨[], _, [], [], [10]⟩]) (F := [.old 1, .old 2, .op 0 0, .op 1 0, .op 2 0]) hst hb Zb
   (o_p rfl (Za rfl rfl u_0) <| o_p rfl (Z1 Try.underlying24 rfl rfl u_0) <| o_p rfl (Za rfl rfl c_i) <| o_n) (by kernel_rfl) (fun a g hst hb => ?_)
 obtain ⟨z10, hz1, H0⟩ := Zd H0
 refine Zbh (fun a w => ∃ (y9 : List Int) (g : G), w = g.w ∧ St 23 [(5, (pRow (Kd.int .i64) 3 5 y9))] a g ∧ Base g0 g ∧ y9 = z10) ?_ ?_
 · rintro a w ⟨y9, g, rfl, hst, hb, rfl⟩
   refine Zi ?_
   refine r_s (T := [⟨[.old 0], _, [], [], [22]⟩, ⟨[.op 0 0], _, [], [0], [4]⟩]) (F := [.op 1 0]) hst hb Zb
     (o_p rfl (Za rfl rfl u_0) <| o_p rfl (Zc rfl rfl u_0) <| o_n) (by kernel_rfl) (fun a g hst hb => ?_)
   refine wp_ret ?_
   obtain rfl := Option.some.inj H0
   exact Z3 rfl hst hb (Zl (s := 4)) (Zfg (hst.at 0 rfl))
 · refine wp_block ?_
   refine wp_loop_ghost (fun n a w => ∃ (x1 : List Int) (x2 : Int) (g : G), w = g.w ∧ St 23 [(1, (pInt .i64 a1)), (5, (pRow (Kd.int .i64) 3 5 x1)), (8, ((Kd.int .i64).sl.pd a0)), (9, (pInt .i64 (a0.length : Int))), (10, (pInt .i64 x2))] a g ∧ Base g0 g ∧ Z8 a0 a1 n x1 x2 = some z10) (Int.toNat ((a0.length : Int) - (0 : Int)) + 1) ⟨([] : List Int), (0 : Int), g, rfl, (hst.pick [0, 1, 2, 3, 4] rfl), hb, hz1⟩ (fun n a w hI => ?_)
   obtain ⟨x1, x2, g, rfl, hst, hb, H1⟩ := hI
   cases n with
   | zero => exact absurd H1 (by simp [Z8])
   | succ n =>
     rw [Z8] at H1
     refine r_s (T := [⟨[.old 4, .old 3], _, [], [], [11]⟩]) (F := [.old 0, .old 1, .old 2, .old 3, .old 4, .op 0 0]) hst hb Zb
       (o_p rfl (Zcb rfl rfl u_0 u_1) <| o_n) (by kernel_rfl) (fun a g hst hb => ?_)
     refine wp_seq ?_
     refine wp_cond_split (hst.bool 5 rfl) (fun hc3 => ?_) (fun hc3 => ?_)
     · replace H1 := Zv hc3 H1
       refine wp_skip ?_
       refine Zi ?_
       refine wp_seq ?_
       refine Zbh (fun a w => ∃ (j8 : List Int) (g : G), w = g.w ∧ St 23 [(1, (pInt .i64 a1)), (5, (pRow (Kd.int .i64) 3 5 j8)), (8, ((Kd.int .i64).sl.pd a0)), (9, (pInt .i64 (a0.length : Int))), (10, (pInt .i64 x2))] a g ∧ Base g0 g ∧ Zcw x2 (Z8 a0 a1 n) j8 = some z10) ?_ ?_
       · rintro a w ⟨j8, g, rfl, hst, hb, H1⟩
         unfold Zcw at H1
         refine Zi ?_
         refine r_g (T := [⟨[.old 4], _, [], [], [21]⟩, ⟨[.op 0 0], _, [], [0], [10]⟩]) (F := [.old 0, .old 1, .old 2, .old 3, .op 1 0]) hst hb Zb
           (o_p rfl (Zby rfl rfl u_0 c_i rfl) <| o_p rfl (Za rfl rfl u_0) <| o_n) (by kernel_rfl) (fun a g hst hb => ?_)
         exact ⟨n, Nat.lt_succ_self _, j8, (IntKind.i64.wrap (x2 + (1 : Int))), g, rfl, (hst.pick [0, 1, 2, 3, 4] rfl), hb, H1⟩
       · refine wp_block ?_
         obtain ⟨e4, h5, H1⟩ := Zd H1
         refine r_s (L := [(1, _), (5, _), (8, _), (9, _), (10, _)]) (T := [⟨[.old 2, .old 4], _, [], [], [12]⟩, ⟨[.op 0 0], _, [], [0], [13]⟩, ⟨[.op 1 0], _, [], [0, 1], [7]⟩]) (F := [.old 0, .old 1, .op 2 0, .old 2, .old 3, .old 4]) (hst.pick [0, 1, 2, 3, 4] rfl) hb Zb
           (o_p rfl (Zq Try.underlying24 sz_3 rfl rfl u_0 u_1 h5) <| o_p rfl (Zf ty_3 rfl rfl u_0) <| o_p rfl (Zc rfl rfl u_0) <| o_n) (by kernel_rfl) (fun a g hst hb => ?_)
         refine r_s (T := [⟨[.old 2], _, [], [], [14]⟩, ⟨[.old 0], _, [], [], [15]⟩, ⟨[.op 0 0, .op 1 0], _, [], [0, 1], [16]⟩]) (F := [.old 0, .old 1, .old 2, .old 3, .old 4, .old 5, .op 2 0]) hst hb Zb
           (o_p rfl (Za rfl rfl u_0) <| o_p rfl (Za rfl rfl u_0) <| o_p rfl (Zh7 rfl rfl u_0 u_1) <| o_n) (by kernel_rfl) (fun a g hst hb => ?_)
         refine wp_cond_split (hst.bool 6 rfl) (fun hc6 => ?_) (fun hc6 => ?_)
         · replace H1 := Zv hc6 H1
           obtain ⟨h7, H1⟩ := Ze8 H1
           refine r_g (L := [(1, _), (5, _), (7, _), (8, _), (9, _), (10, _)]) (T := [⟨[.old 1], _, [], [], [17]⟩, ⟨[.old 2], _, [], [], [18]⟩, ⟨[.op 1 0], _, [], [1], [19]⟩, ⟨[.op 0 0, .op 2 0], _, [6], [0, 1, 2], [5, 17, 20]⟩, ⟨[.op 3 0], _, [], Lr 4, [5]⟩]) (F := [.old 0, .op 4 0, .old 3, .old 4, .old 5]) (hst.pick [0, 1, 2, 3, 4, 5] rfl) hb Zb
             (o_p rfl (Za rfl rfl u_0) <| o_p rfl (Za rfl rfl u_0) <| o_p rfl (Zd5 Zc1 (xs := [.tmp 18]) (.cons u_0 .nil) (by decide) rfl rfl) <| o_p rfl (Ze2 Zc1 rfl rfl u_0 u_1 h7) <| o_p rfl (Zc rfl rfl u_0) <| o_n) (by kernel_rfl) (fun a g hst hb => ?_)
           refine Z2 ?_
           exact ⟨(x1 ++ ([e4] : List Int)), g, rfl, (hst.pick [0, 1, 2, 3, 4] rfl), hb, H1⟩
         · replace H1 := Zw hc6 H1
           refine wp_skip ?_
           refine Z2 ?_
           exact ⟨x1, g, rfl, (hst.pick [0, 1, 3, 4, 5] rfl), hb, H1⟩
     · replace H1 := Zw hc3 H1
       refine wp_exit ?_
       refine Zx ?_
       refine Zx ?_
       refine Zbb ?_
       exact ⟨x1, g, rfl, (hst.pick [1] rfl), hb, Option.some.inj H1⟩
theorem Zfv (a0 : List Ze) (a1 : List ByteArray) (a2 : List Int) {r : Bool} (h : Zc0 a0 a1 a2 = some r) : FnOk Try.prog 3 [(Zh.sl.pd a0), (Kd.str.sl.pd a1), ((Kd.int .i64).sl.pd a2)] (Zm r) := by
 have H0 := h
 unfold Zc0 at H0
 clear h
 refine Zb1 (N := 103) Try.func3 rfl rfl (Nat.le_of_ble_eq_true rfl) rfl rfl (fun a g0 hst hb => ?_)
 refine r_s (T := [⟨[], _, [], [], [6]⟩]) (F := [.old 0, .old 1, .old 2]) hst hb Zb
   (o_p rfl (Zc rfl rfl c_b) <| o_n) (by kernel_rfl) (fun a g hst hb => ?_)
 refine wp_seq ?_
 obtain ⟨r1, h2, H0⟩ := Zd H0
 refine r_s (T := [⟨[], _, [], [], [14]⟩, ⟨[.op 0 0], _, [], [0], [15]⟩]) (F := [.old 0, .old 1, .old 2, .op 1 0]) hst hb Zb
   (o_p rfl (Zba en_7 (Zgb h2) rfl rfl .nil) <| o_p rfl (Zdm rfl rfl u_0) <| o_n) (by kernel_rfl) (fun a g hst hb => ?_)
 refine wp_cond_split (hst.bool 3 rfl) (fun hc3 => ?_) (fun hc3 => ?_)
 · replace H0 := Zv hc3 H0
   refine r_s (L := []) (T := [⟨[], _, [], [], [6]⟩]) (F := [.op 0 0]) (hst.pick [] rfl) hb Zb
     (o_p rfl (Zc rfl rfl c_b) <| o_n) (by kernel_rfl) (fun a g hst hb => ?_)
   refine wp_ret ?_
   refine Zg ?_
   obtain rfl := Option.some.inj H0
   exact Z3 rfl hst hb (Zl (s := 6)) (hst.at 0 rfl)
 · replace H0 := Zw hc3 H0
   refine wp_skip ?_
   refine Zi ?_
   refine wp_seq ?_
   obtain ⟨r4, h5, H0⟩ := Zd H0
   refine r_s (L := [(0, _), (1, _), (2, _)]) (T := ⟨[.old 0], _, [], [], [16]⟩ :: ⟨[.op 0 0], _, [], [0], [17]⟩ :: ⟨[.op 1 0], _, [], [0, 1], [18]⟩ :: ⟨[.op 2 0], _, [], [0, 1, 2], [19]⟩ :: ⟨[.op 3 0, .old 1], _, [], Lr 4, [20]⟩ :: ⟨[.op 3 0, .op 4 0], _, [], Lr 5, [21]⟩ :: ⟨[.op 3 0, .op 5 0], _, [], Lr 6, [22]⟩ :: ⟨[.op 3 0, .op 6 0], _, [], Lr 7, [23]⟩ :: ⟨[.op 7 0], _, [], Lr 8, [24]⟩ :: ⟨[.op 8 0, .old 2], _, [], Lr 9, [25]⟩ :: ⟨[.op 8 0, .op 9 0], _, [], Lr 10, [26]⟩ :: ⟨[.op 8 0, .op 10 0], _, [], Lr 11, [27]⟩ :: ⟨[.op 8 0, .op 11 0], _, [], Lr 12, [28]⟩ :: []) (F := [.old 0, .old 1, .old 2, .op 12 0]) (hst.pick [0, 1, 2] rfl) hb Zb
     (o_p rfl (Za rfl rfl u_0) <| o_p rfl (Zba en_8 (Zgz _ h5) rfl rfl (.cons u_0 .nil)) <| o_p rfl (Zel rfl rfl u_0 c_i) <| o_p rfl (Za rfl rfl u_0) <| o_g (g_f rfl rfl rfl (fun hG => Za rfl rfl u_0)) <| o_g (g_f rfl rfl rfl (fun hG => Z1 Try.underlying23 rfl rfl (Opd.gd hG u_0))) <| o_g (g_f rfl rfl rfl (fun hG => Zel rfl rfl (Opd.gd hG u_0) c_i)) <| o_p rfl (Zb9 rfl rfl u_0 (fun hz => (Opd.gd (bNF hz) u_1))) <| o_p rfl (Za rfl rfl u_0) <| o_g (g_f rfl rfl rfl (fun hG => Za rfl rfl u_0)) <| o_g (g_f rfl rfl rfl (fun hG => Z1 Try.underlying24 rfl rfl (Opd.gd hG u_0))) <| o_g (g_f rfl rfl rfl (fun hG => Zel rfl rfl (Opd.gd hG u_0) c_i)) <| o_p rfl (Zb9 rfl rfl u_0 (fun hz => (Opd.gd (bNF hz) u_1))) <| o_n) (by kernel_rfl) (fun a g hst hb => ?_)
   refine wp_cond_split (hst.bool 3 rfl) (fun hc6 => ?_) (fun hc6 => ?_)
   · replace H0 := Zv hc6 H0
     refine r_s (L := []) (T := [⟨[], _, [], [], [6]⟩]) (F := [.op 0 0]) (hst.pick [] rfl) hb Zb
       (o_p rfl (Zc rfl rfl c_b) <| o_n) (by kernel_rfl) (fun a g hst hb => ?_)
     refine wp_ret ?_
     refine Zg ?_
     obtain rfl := Option.some.inj H0
     exact Z3 rfl hst hb (Zl (s := 6)) (hst.at 0 rfl)
   · replace H0 := Zw hc6 H0
     refine wp_skip ?_
     refine Zi ?_
     obtain ⟨r7, h8, H0⟩ := Zd H0
     refine r_s (L := [(0, _), (1, _), (2, _)]) (T := [⟨[.old 0], _, [], [], [29]⟩, ⟨[.op 0 0], [(30, ((Kd.int .i64).sl.pd r7))], [], [0], [30]⟩, ⟨[.op 1 0], _, [], [0, 1], [7]⟩]) (F := [.old 0, .old 1, .old 2, .op 2 0]) (hst.pick [0, 1, 2] rfl) hb Zb
       (o_p rfl (Za rfl rfl u_0) <| o_p rfl (Zba en_9 (Zgv _ _ h8) rfl rfl (.cons u_0 (.cons (Opd.c (fun g => Zek g)) .nil))) <| o_p rfl (Zc rfl rfl u_0) <| o_n) (by kernel_rfl) (fun a g hst hb => ?_)
     obtain ⟨r9, h10, H0⟩ := Zd H0
     refine r_s (T := [⟨[.old 0], _, [], [], [31]⟩, ⟨[.old 3], _, [], [], [32]⟩, ⟨[.old 1], _, [], [], [33]⟩, ⟨[.op 0 0, .op 1 0, .op 2 0], [(34, (pObj Zz 34 r9))], [35, 1000035], [0, 1, 2], [34]⟩, ⟨[.op 3 0], [(8, (pObj Zz 34 r9))], [], Lr 4, [8]⟩]) (F := [.old 0, .old 1, .old 2, .old 3, .op 4 0]) hst hb Zb
       (o_p rfl (Za rfl rfl u_0) <| o_p rfl (Za rfl rfl u_0) <| o_p rfl (Za rfl rfl u_0) <| o_p rfl (Zgn Zko (Zf8 _ _ _ h10) rfl rfl (.cons u_0 (.cons u_1 (.cons u_2 .nil)))) <| o_p rfl (Zc rfl rfl u_0) <| o_n) (by kernel_rfl) (fun a g hst hb => ?_)
     refine wp_seq ?_
     obtain ⟨h11, H0⟩ := Ze8 H0
     refine r_s (T := [⟨[.old 0], _, [], [], [35]⟩, ⟨[.op 0 0], _, [], [0], [36]⟩, ⟨[.op 1 0], _, [38], [0, 1], [37]⟩, ⟨[.old 2], _, [], [], [38]⟩, ⟨[.op 2 0, .op 3 0], _, [38], Lr 4, [37, 39]⟩, ⟨[.op 4 0], _, [], Lr 5, [40]⟩, ⟨[], _, [], [], [41]⟩]) (F := [.old 0, .old 1, .old 3, .old 4, .op 4 0, .op 5 0, .op 6 0]) hst hb Zb
       (o_p rfl (Za rfl rfl u_0) <| o_p rfl (Z1 Try.underlying22 rfl rfl u_0) <| o_p rfl (Zk5 37 Zc1 (xs := [.const (.int .i64 (-1)), .tmp 36]) (.cons c_i (.cons u_0 .nil)) (by decide) rfl rfl) <| o_p rfl (Za rfl rfl u_0) <| o_p rfl (Ze2 Zc1 rfl rfl u_0 u_1 h11) <| o_p rfl (Z1 Try.underlying24 rfl rfl (Opd.imp u_0 (fun _ _ h => Zfg h))) <| o_p rfl (Za rfl rfl c_i) <| o_n) (by kernel_rfl) (fun a g hst hb => ?_)
     obtain ⟨z46, hz1, H0⟩ := Zd H0
     refine Zbh (fun a w => ∃ (g : G), w = g.w ∧ St 103 [] a g ∧ Base g0 g ∧ (.inr ()) = z46) ?_ ?_
     · rintro a w ⟨g, rfl, hst, hb, rfl⟩
       refine Zi ?_
       refine r_s (T := [⟨[], _, [], [], [6]⟩]) (F := [.op 0 0]) hst hb Zb
         (o_p rfl (Zc rfl rfl c_b) <| o_n) (by kernel_rfl) (fun a g hst hb => ?_)
       refine wp_ret ?_
       obtain rfl := Option.some.inj H0
       exact Z3 rfl hst hb (Zl (s := 6)) (hst.at 0 rfl)
     · refine wp_block ?_
       refine wp_loop_ghost (fun n a w => ∃ (x12 : List Int) (x13 : Z5) (x14 : Int) (g : G), w = g.w ∧ St 103 [(0, (Zh.sl.pd a0)), (1, (Kd.str.sl.pd a1)), (7, ((Kd.int .i64).sl.pd x12)), (8, (pObj Zz 34 x13)), (39, (pRow (Kd.int .i64) 3 37 (([(-1 : Int), (a0.length : Int)] : List Int) ++ a2))), (40, (pInt .i64 ((([(-1 : Int), (a0.length : Int)] : List Int) ++ a2).length : Int))), (41, (pInt .i64 x14))] a g ∧ Base g0 g ∧ Zr a0 a1 a2 n x12 x13 x14 = some z46) (Int.toNat (((([(-1 : Int), (a0.length : Int)] : List Int) ++ a2).length : Int) - (0 : Int)) + 1) ⟨r7, r9, (0 : Int), g, rfl, (hst.pick [0, 1, 2, 3, 4, 5, 6] rfl), hb, hz1⟩ (fun n a w hI => ?_)
       obtain ⟨x12, x13, x14, g, rfl, hst, hb, H1⟩ := hI
       cases n with
       | zero => exact absurd H1 (by simp [Zr])
       | succ n =>
         rw [Zr] at H1
         refine r_s (T := [⟨[.old 6, .old 5], _, [], [], [42]⟩]) (F := [.old 0, .old 1, .old 2, .old 3, .old 4, .old 5, .old 6, .op 0 0]) hst hb Zb
           (o_p rfl (Zcb rfl rfl u_0 u_1) <| o_n) (by kernel_rfl) (fun a g hst hb => ?_)
         refine wp_seq ?_
         refine wp_cond_split (hst.bool 7 rfl) (fun hc15 => ?_) (fun hc15 => ?_)
         · replace H1 := Zv hc15 H1
           refine wp_skip ?_
           refine Zi ?_
           refine wp_seq ?_
           refine wp_block ?_
           obtain ⟨e16, h17, H1⟩ := Zd H1
           refine r_s (L := [(0, _), (1, _), (7, _), (8, _), (39, _), (40, _), (41, _)]) (T := [⟨[.old 4, .old 6], _, [], [], [43]⟩, ⟨[.op 0 0], _, [], [0], [44]⟩, ⟨[.op 1 0], _, [], [0, 1], [10]⟩]) (F := [.old 0, .old 1, .old 2, .old 3, .op 2 0, .old 4, .old 5, .old 6]) (hst.pick [0, 1, 2, 3, 4, 5, 6] rfl) hb Zb
             (o_p rfl (Zq Try.underlying24 sz_3 rfl rfl (Opd.imp u_0 (fun _ _ h => Zfg h)) u_1 h17) <| o_p rfl (Zf ty_3 rfl rfl u_0) <| o_p rfl (Zc rfl rfl u_0) <| o_n) (by kernel_rfl) (fun a g hst hb => ?_)
           refine wp_seq ?_
           refine r_s (T := [⟨[], _, [], [], [11]⟩]) (F := [.old 0, .old 1, .old 2, .old 3, .old 4, .op 0 0, .old 5, .old 6, .old 7]) hst hb Zb
             (o_p rfl (Zc rfl rfl c_i) <| o_n) (by kernel_rfl) (fun a g hst hb => ?_)
           obtain ⟨z31, hz2, H1⟩ := Zd H1
           refine Zbh (fun a w => ∃ (g : G), w = g.w ∧ St 103 [(0, (Zh.sl.pd a0)), (1, (Kd.str.sl.pd a1)), (7, ((Kd.int .i64).sl.pd x12)), (8, (pObj Zz 34 x13)), (10, (pInt .i64 e16)), (39, (pRow (Kd.int .i64) 3 37 (([(-1 : Int), (a0.length : Int)] : List Int) ++ a2))), (40, (pInt .i64 ((([(-1 : Int), (a0.length : Int)] : List Int) ++ a2).length : Int))), (41, (pInt .i64 x14))] a g ∧ Base g0 g ∧ (.inr ()) = z31) ?_ ?_
           · rintro a w ⟨g, rfl, hst, hb, rfl⟩
             refine Zi ?_
             obtain ⟨r32, h33, H1⟩ := Zd H1; obtain ⟨r34, h35, H1⟩ := Zd H1
             refine r_s (T := ⟨[.old 2], _, [], [], [76]⟩ :: ⟨[.old 4], _, [], [], [77]⟩ :: ⟨[.op 0 0, .op 1 0], _, [], [0, 1], [78]⟩ :: ⟨[.op 2 0], _, [], [0, 1, 2], [79]⟩ :: ⟨[.op 3 0, .old 0], _, [], Lr 4, [80]⟩ :: ⟨[.op 3 0, .old 2], _, [], Lr 4, [81]⟩ :: ⟨[.op 3 0, .old 1], _, [], Lr 4, [82]⟩ :: ⟨[.op 3 0, .old 4], _, [], Lr 4, [83]⟩ :: ⟨[.op 3 0, .op 4 0, .op 5 0, .op 6 0, .op 7 0], _, [], Lr 8, [84]⟩ :: ⟨[.op 3 0, .op 8 0], _, [], Lr 9, [85]⟩ :: ⟨[.op 3 0, .op 9 0], _, [], Lr 10, [86]⟩ :: ⟨[.op 3 0, .op 10 0], _, [], Lr 11, [87]⟩ :: ⟨[.op 11 0], _, [], Lr 12, [13]⟩ :: []) (F := [.old 0, .old 1, .old 2, .old 3, .old 4, .op 12 0, .old 5, .old 6, .old 7]) hst hb Zb
               (o_p rfl (Za rfl rfl u_0) <| o_p rfl (Za rfl rfl u_0) <| o_p rfl (Zba Zmw (Zfk _ _ h33) rfl rfl (.cons u_0 (.cons u_1 .nil))) <| o_p rfl (Za rfl rfl u_0) <| o_g (g_t rfl rfl rfl (fun hG => Za rfl rfl u_0)) <| o_g (g_t rfl rfl rfl (fun hG => Za rfl rfl u_0)) <| o_g (g_t rfl rfl rfl (fun hG => Za rfl rfl u_0)) <| o_g (g_t rfl rfl rfl (fun hG => Za rfl rfl u_0)) <| o_g (g_t rfl rfl rfl (fun hG => Zba Zmq (Zfa _ _ _ _ (Zbe h35 hG)) rfl rfl (.cons (Opd.gd hG u_0) (.cons (Opd.gd hG u_1) (.cons (Opd.gd hG u_2) (.cons (Opd.gd hG u_3) .nil)))))) <| o_g (g_t rfl rfl rfl (fun hG => Z1 Try.underlying24 rfl rfl (Opd.gd hG u_0))) <| o_g (g_t rfl rfl rfl (fun hG => Zch rfl rfl (Opd.gd hG u_0) c_i)) <| o_p rfl (Zb4 rfl rfl u_0 (fun hz => (Opd.gd hz u_1))) <| o_p rfl (Zc rfl rfl u_0) <| o_n) (by kernel_rfl) (fun a g hst hb => ?_)
             refine wp_seq ?_
             obtain ⟨r36, h37, H1⟩ := Zd H1
             refine r_s (T := [⟨[.old 3], [(88, (pObj Zz 34 x13))], [], [], [88]⟩, ⟨[.old 4], _, [], [], [89]⟩, ⟨[.op 0 0, .op 1 0, .old 3], [(90, (Zm r36.2)), (8, (pObj Zz 34 r36.1))], [35, 1000035], [0, 1], [8, 88, 90]⟩, ⟨[.old 5], _, [], [], [91]⟩, ⟨[.op 2 0, .op 3 0], _, [], Lr 4, [92]⟩]) (F := [.old 0, .old 1, .old 2, .op 2 1, .old 4, .old 5, .old 6, .old 7, .old 8, .op 4 0]) hst hb Zb
               (o_p rfl (Za rfl rfl u_0) <| o_p rfl (Za rfl rfl u_0) <| o_p rfl (Zcl Zi1 (Zdv _ _ h37) rfl rfl rfl (by decide) u_2 u_0 (.cons u_1 .nil)) <| o_p rfl (Za rfl rfl u_0) <| o_p rfl (Zkd Try.underlying4 rfl rfl u_0 u_1) <| o_n) (by kernel_rfl) (fun a g hst hb => ?_)
             refine wp_cond_split (hst.bool 9 rfl) (fun hc38 => ?_) (fun hc38 => ?_)
             · replace H1 := Zv hc38 H1
               refine r_s (L := []) (T := [⟨[], _, [], [], [6]⟩]) (F := [.op 0 0]) (hst.pick [] rfl) hb Zb
                 (o_p rfl (Zc rfl rfl c_b) <| o_n) (by kernel_rfl) (fun a g hst hb => ?_)
               refine wp_ret ?_
               refine Zg ?_
               refine Zp ?_
               refine Zg ?_
               refine Zg ?_
               refine Zp ?_
               refine Zg ?_
               refine Zg ?_
               obtain rfl := Option.some.inj H1
               obtain rfl := Option.some.inj H0
               exact Z3 rfl hst hb (Zl (s := 6)) (hst.at 0 rfl)
             · replace H1 := Zw hc38 H1
               refine wp_skip ?_
               refine Zi ?_
               refine wp_seq ?_
               refine r_s (L := [(0, _), (1, _), (7, _), (8, _), (10, _), (13, _), (39, _), (40, _), (41, _)]) (T := [⟨[.old 5], _, [], [], [93]⟩]) (F := [.old 0, .old 1, .old 2, .old 3, .old 4, .old 6, .old 7, .old 8, .op 0 0]) (hst.pick [0, 1, 2, 3, 4, 5, 6, 7, 8] rfl) hb Zb
                 (o_p rfl (Za rfl rfl u_0) <| o_n) (by kernel_rfl) (fun a g hst hb => ?_)
               refine Zbh (fun a w => ∃ (j42 : List Int) (g : G), w = g.w ∧ St 103 [(0, (Zh.sl.pd a0)), (1, (Kd.str.sl.pd a1)), (7, ((Kd.int .i64).sl.pd j42)), (8, (pObj Zz 34 r36.1)), (39, (pRow (Kd.int .i64) 3 37 (([(-1 : Int), (a0.length : Int)] : List Int) ++ a2))), (40, (pInt .i64 ((([(-1 : Int), (a0.length : Int)] : List Int) ++ a2).length : Int))), (41, (pInt .i64 x14))] a g ∧ Base g0 g ∧ Zbq x14 r36 (Zr a0 a1 a2 n) j42 = some z46) ?_ ?_
               · rintro a w ⟨j42, g, rfl, hst, hb, H1⟩
                 unfold Zbq at H1
                 refine Zi ?_
                 obtain ⟨r43, h44, H1⟩ := Zd H1
                 refine r_s (T := [⟨[.old 3], [(97, (pObj Zz 34 r36.1))], [], [], [97]⟩, ⟨[.op 0 0, .old 3], [(98, (pInt .i64 r43)), (8, (pObj Zz 34 r36.1))], [35, 1000035], [0], [8, 97, 98]⟩, ⟨[.old 2], _, [], [], [99]⟩, ⟨[.op 2 0], _, [], [2], [100]⟩, ⟨[.op 1 0, .op 3 0], _, [], Lr 4, [101]⟩]) (F := [.old 0, .old 1, .old 2, .op 1 1, .old 4, .old 5, .old 6, .op 4 0]) hst hb Zb
                   (o_p rfl (Za rfl rfl u_0) <| o_p rfl (Zcl Zkr (Zeq _ h44) rfl rfl rfl (by decide) u_1 u_0 .nil) <| o_p rfl (Za rfl rfl u_0) <| o_p rfl (Z1 Try.underlying24 rfl rfl u_0) <| o_p rfl (Zh7 rfl rfl u_0 u_1) <| o_n) (by kernel_rfl) (fun a g hst hb => ?_)
                 refine wp_cond_split (hst.bool 7 rfl) (fun hc45 => ?_) (fun hc45 => ?_)
                 · replace H1 := Zv hc45 H1
                   refine r_s (L := []) (T := [⟨[], _, [], [], [6]⟩]) (F := [.op 0 0]) (hst.pick [] rfl) hb Zb
                     (o_p rfl (Zc rfl rfl c_b) <| o_n) (by kernel_rfl) (fun a g hst hb => ?_)
                   refine wp_ret ?_
                   refine Zp ?_
                   refine Zg ?_
                   refine Zg ?_
                   refine Zp ?_
                   refine Zg ?_
                   refine Zg ?_
                   obtain rfl := Option.some.inj H1
                   obtain rfl := Option.some.inj H0
                   exact Z3 rfl hst hb (Zl (s := 6)) (hst.at 0 rfl)
                 · replace H1 := Zw hc45 H1
                   refine wp_skip ?_
                   refine Z2 ?_
                   refine Zi ?_
                   refine r_g (L := [(0, _), (1, _), (7, _), (8, _), (39, _), (40, _), (41, _)]) (T := [⟨[.old 6], _, [], [], [102]⟩, ⟨[.op 0 0], _, [], [0], [41]⟩]) (F := [.old 0, .old 1, .old 2, .old 3, .old 4, .old 5, .op 1 0]) (hst.pick [0, 1, 2, 3, 4, 5, 6] rfl) hb Zb
                     (o_p rfl (Zby rfl rfl u_0 c_i rfl) <| o_p rfl (Za rfl rfl u_0) <| o_n) (by kernel_rfl) (fun a g hst hb => ?_)
                   exact ⟨n, Nat.lt_succ_self _, j42, r36.1, (IntKind.i64.wrap (x14 + (1 : Int))), g, rfl, (hst.pick [0, 1, 2, 3, 4, 5, 6] rfl), hb, H1⟩
               · refine wp_cond_split (hst.bool 8 rfl) (fun hc39 => ?_) (fun hc39 => ?_)
                 · replace H1 := Zv hc39 H1
                   obtain ⟨r40, h41, H1⟩ := Zd H1
                   refine r_g (L := [(0, _), (1, _), (7, _), (8, _), (10, _), (39, _), (40, _), (41, _)]) (T := [⟨[.old 2], _, [], [], [94]⟩, ⟨[.old 4], _, [], [], [95]⟩, ⟨[.op 0 0, .op 1 0], _, [], [0, 1], [96]⟩, ⟨[.op 2 0], _, [], [0, 1, 2], [7]⟩]) (F := [.old 0, .old 1, .op 3 0, .old 3, .old 5, .old 6, .old 7]) (hst.pick [0, 1, 2, 3, 4, 5, 6, 7] rfl) hb Zb
                     (o_p rfl (Za rfl rfl u_0) <| o_p rfl (Za rfl rfl u_0) <| o_p rfl (Zba Zoq (Zf6 _ _ h41) rfl rfl (.cons u_0 (.cons u_1 .nil))) <| o_p rfl (Zc rfl rfl u_0) <| o_n) (by kernel_rfl) (fun a g hst hb => ?_)
                   exact ⟨r40, g, rfl, (hst.pick [0, 1, 2, 3, 4, 5, 6] rfl), hb, H1⟩
                 · replace H1 := Zw hc39 H1
                   refine wp_skip ?_
                   exact ⟨x12, g, rfl, (hst.pick [0, 1, 2, 3, 5, 6, 7] rfl), hb, H1⟩
           · refine wp_block ?_
             refine wp_loop_ghost (fun n a w => ∃ (x18 : Int) (g : G), w = g.w ∧ St 103 [(0, (Zh.sl.pd a0)), (1, (Kd.str.sl.pd a1)), (7, ((Kd.int .i64).sl.pd x12)), (8, (pObj Zz 34 x13)), (10, (pInt .i64 e16)), (11, (pInt .i64 x18)), (39, (pRow (Kd.int .i64) 3 37 (([(-1 : Int), (a0.length : Int)] : List Int) ++ a2))), (40, (pInt .i64 ((([(-1 : Int), (a0.length : Int)] : List Int) ++ a2).length : Int))), (41, (pInt .i64 x14))] a g ∧ Base g0 g ∧ Z9 a0 a1 x12 x13 n x18 = some z31) (Int.toNat ((a0.length : Int) + 1 - (-1 : Int)) + 1) ⟨(-1 : Int), g, rfl, (hst.pick [0, 1, 2, 3, 4, 5, 6, 7, 8] rfl), hb, hz2⟩ (fun n a w hI => ?_)
             obtain ⟨x18, g, rfl, hst, hb, H2⟩ := hI
             cases n with
             | zero => exact absurd H2 (by simp [Z9])
             | succ n =>
               rw [Z9] at H2
               refine wp_seq ?_
               refine r_s (T := [⟨[.old 5], _, [], [], [45]⟩, ⟨[.old 0], _, [], [], [46]⟩, ⟨[.op 1 0], _, [], [1], [47]⟩, ⟨[.op 0 0, .op 2 0], _, [], [0, 1, 2], [48]⟩]) (F := [.old 0, .old 1, .old 2, .old 3, .old 4, .old 5, .old 6, .old 7, .old 8, .op 3 0]) hst hb Zb
                 (o_p rfl (Za rfl rfl u_0) <| o_p rfl (Za rfl rfl u_0) <| o_p rfl (Z1 Try.underlying22 rfl rfl u_0) <| o_p rfl (Zoy rfl rfl u_0 u_1) <| o_n) (by kernel_rfl) (fun a g hst hb => ?_)
               refine wp_cond_split (hst.bool 9 rfl) (fun hc19 => ?_) (fun hc19 => ?_)
               · replace H2 := Zv hc19 H2
                 refine wp_skip ?_
                 refine Zi ?_
                 refine wp_seq ?_
                 refine wp_block ?_
                 obtain ⟨r20, h21, H2⟩ := Zd H2
                 refine r_s (L := [(0, _), (1, _), (7, _), (8, _), (10, _), (11, _), (39, _), (40, _), (41, _)]) (T := [⟨[.old 0], _, [], [], [51]⟩, ⟨[.old 2], _, [], [], [52]⟩, ⟨[.old 1], _, [], [], [53]⟩, ⟨[.old 5], _, [], [], [54]⟩, ⟨[.op 0 0, .op 1 0, .op 2 0, .op 3 0], _, [], Lr 4, [55]⟩, ⟨[.op 4 0], _, [], Lr 5, [12]⟩]) (F := [.old 0, .old 1, .old 2, .old 3, .old 4, .old 5, .op 5 0, .old 6, .old 7, .old 8]) (hst.pick [0, 1, 2, 3, 4, 5, 6, 7, 8] rfl) hb Zb
                   (o_p rfl (Za rfl rfl u_0) <| o_p rfl (Za rfl rfl u_0) <| o_p rfl (Za rfl rfl u_0) <| o_p rfl (Za rfl rfl u_0) <| o_p rfl (Zba Zmq (Zfa _ _ _ _ h21) rfl rfl (.cons u_0 (.cons u_1 (.cons u_2 (.cons u_3 .nil))))) <| o_p rfl (Zc rfl rfl u_0) <| o_n) (by kernel_rfl) (fun a g hst hb => ?_)
                 obtain ⟨r22, h23, H2⟩ := Zd H2; obtain ⟨r24, h25, H2⟩ := Zd H2; obtain ⟨r26, h27, H2⟩ := Zd H2; obtain ⟨r28, h29, H2⟩ := Zd H2
                 refine r_s (T := ⟨[.old 3], [(56, (pObj Zz 34 x13))], [], [], [56]⟩ :: ⟨[.old 5], _, [], [], [57]⟩ :: ⟨[.op 0 0, .op 1 0, .old 3], [(58, ((Kd.int .i64).sl.pd r22)), (8, (pObj Zz 34 x13))], [35, 1000035], [0, 1], [8, 56, 58]⟩ :: ⟨[.old 6], _, [], [], [59]⟩ :: ⟨[.op 2 0, .op 3 0], _, [], Lr 4, [60]⟩ :: ⟨[.op 4 0], _, [], Lr 5, [61]⟩ :: ⟨[.op 5 0], _, [], Lr 6, [62]⟩ :: ⟨[.op 6 0, .op 2 1], [(63, (pIf (!(!r24)) (pObj Zz 34 x13)))], [], Lr 7, [63]⟩ :: ⟨[.op 6 0, .old 5], _, [], Lr 7, [64]⟩ :: ⟨[.op 6 0, .op 7 0, .op 8 0, .op 2 1], [(65, (pIf (!(!r24)) (Zm r26))), (8, (pObj Zz 34 x13))], [35, 1000035], Lr 9, [8, 56, 63, 65]⟩ :: ⟨[.op 6 0, .old 2], _, [], Lr 7, [66]⟩ :: ⟨[.op 6 0, .old 5], _, [], Lr 7, [67]⟩ :: ⟨[.op 6 0, .op 10 0, .op 11 0], _, [], Lr 12, [68]⟩ :: ⟨[.op 6 0, .op 12 0], _, [], Lr 13, [69]⟩ :: ⟨[.op 13 0, .old 6], _, [], Lr 14, [70]⟩ :: ⟨[.op 13 0, .op 14 0], _, [], Lr 15, [71]⟩ :: ⟨[.op 13 0, .op 15 0], _, [], Lr 16, [72]⟩ :: ⟨[.op 6 0, .op 13 0, .op 16 0], _, [], Lr 17, [73]⟩ :: ⟨[.op 6 0, .op 9 0, .op 17 0], _, [], Lr 18, [74]⟩ :: ⟨[.op 6 0, .op 18 0], _, [], Lr 19, [75]⟩ :: []) (F := [.old 0, .old 1, .old 2, .op 9 1, .old 4, .old 5, .old 7, .old 8, .old 9, .op 19 0]) hst hb Zb
                   (o_p rfl (Za rfl rfl u_0) <| o_p rfl (Za rfl rfl u_0) <| o_p rfl (Zcl Zi3 (Zei _ _ h23) rfl rfl rfl (by decide) u_2 u_0 (.cons u_1 .nil)) <| o_p rfl (Za rfl rfl u_0) <| o_p rfl (Zba Zmv (Zfc _ _ h25) rfl rfl (.cons u_0 (.cons u_1 .nil))) <| o_p rfl (Zdm rfl rfl u_0) <| o_p rfl (Za rfl rfl u_0) <| o_g (g_f rfl rfl rfl (fun hG => Za rfl rfl u_0)) <| o_g (g_f rfl rfl rfl (fun hG => Za rfl rfl u_0)) <| o_g (OT.guardM (!(!r24)) (gF (!r24)).1 (gF (!r24)).2 rfl rfl rfl (by decide) u_2 (fun hG => Zcl Zh3 (Zdk _ _ (Zbe h27 hG)) rfl rfl rfl (by decide) u_2 (Opd.gd hG u_0) (.cons (Opd.gd hG u_1) .nil)) (ite_self _).symm) <| o_g (g_f rfl rfl rfl (fun hG => Za rfl rfl u_0)) <| o_g (g_f rfl rfl rfl (fun hG => Za rfl rfl u_0)) <| o_g (g_f rfl rfl rfl (fun hG => Zba Zmw (Zfk _ _ (Zbe h29 hG)) rfl rfl (.cons (Opd.gd hG u_0) (.cons (Opd.gd hG u_1) .nil)))) <| o_g (g_f rfl rfl rfl (fun hG => Za rfl rfl (Opd.gd hG u_0))) <| o_g (g_ti rfl rfl rfl (fun hG => Za rfl rfl u_0)) <| o_g (g_ti rfl rfl rfl (fun hG => Z1 Try.underlying24 rfl rfl (Opd.gd hG u_0))) <| o_g (g_ti rfl rfl rfl (fun hG => Zch rfl rfl (Opd.gd hG u_0) c_i)) <| o_g (g_f rfl rfl rfl (fun hG => Zb4 rfl rfl (Opd.gd hG u_0) (fun hz => (Opd.gd (bA hG hz) u_1)))) <| o_g (g_f rfl rfl rfl (fun hG => Zkd Try.underlying4 rfl rfl (Opd.gd hG u_0) (Opd.gd hG u_1))) <| o_p rfl (Zb9 rfl rfl u_0 (fun hz => (Opd.gd (bNF hz) u_1))) <| o_n) (by kernel_rfl) (fun a g hst hb => ?_)
                 refine wp_cond_split (hst.bool 9 rfl) (fun hc30 => ?_) (fun hc30 => ?_)
                 · replace H2 := Zv hc30 H2
                   refine r_s (L := []) (T := [⟨[], _, [], [], [6]⟩]) (F := [.op 0 0]) (hst.pick [] rfl) hb Zb
                     (o_p rfl (Zc rfl rfl c_b) <| o_n) (by kernel_rfl) (fun a g hst hb => ?_)
                   refine wp_ret ?_
                   refine Zp ?_
                   refine Zg ?_
                   refine Zg ?_
                   refine Zp ?_
                   refine Zg ?_
                   refine Zg ?_
                   refine Zp ?_
                   refine Zg ?_
                   refine Zg ?_
                   refine Zp ?_
                   refine Zg ?_
                   refine Zg ?_
                   obtain rfl := Option.some.inj H2
                   obtain rfl := Option.some.inj H1
                   obtain rfl := Option.some.inj H0
                   exact Z3 rfl hst hb (Zl (s := 6)) (hst.at 0 rfl)
                 · replace H2 := Zw hc30 H2
                   refine wp_skip ?_
                   refine Z2 ?_
                   refine Zi ?_
                   refine r_g (L := [(0, _), (1, _), (7, _), (8, _), (10, _), (11, _), (39, _), (40, _), (41, _)]) (T := [⟨[.old 5], _, [], [], [49]⟩, ⟨[.op 0 0], _, [], [0], [50]⟩, ⟨[.op 1 0], _, [], [0, 1], [11]⟩]) (F := [.old 0, .old 1, .old 2, .old 3, .old 4, .op 2 0, .old 6, .old 7, .old 8]) (hst.pick [0, 1, 2, 3, 4, 5, 6, 7, 8] rfl) hb Zb
                     (o_p rfl (Za rfl rfl u_0) <| o_p rfl (Zby rfl rfl u_0 c_i rfl) <| o_p rfl (Zc rfl rfl u_0) <| o_n) (by kernel_rfl) (fun a g hst hb => ?_)
                   exact ⟨n, Nat.lt_succ_self _, (IntKind.i64.wrap (x18 + (1 : Int))), g, rfl, (hst.pick [0, 1, 2, 3, 4, 5, 6, 7, 8] rfl), hb, H2⟩
               · replace H2 := Zw hc19 H2
                 refine wp_exit ?_
                 refine Zx ?_
                 refine Zx ?_
                 refine Zbb ?_
                 exact ⟨g, rfl, (hst.pick [0, 1, 2, 3, 4, 6, 7, 8] rfl), hb, Option.some.inj H2⟩
         · replace H1 := Zw hc15 H1
           refine wp_exit ?_
           refine Zx ?_
           refine Zx ?_
           refine Zbb ?_
           exact ⟨g, rfl, (hst.pick [] rfl), hb, Option.some.inj H1⟩
end Go.CL
namespace Go.CL
open Go
theorem wr {x : Int} (h1 : -9223372036854775808 ≤ x) (h2 : x ≤ 9223372036854775807) : IntKind.i64.wrap x = x := by
 rw [IntKind.wrap_i64]; omega
theorem wr1 {i : Nat} (h : i < 9223372036854775807) : IntKind.i64.wrap ((i : Int) + 1) = ((i + 1 : Nat) : Int) := by
 rw [wr (by omega) (by omega)]; omega
theorem idxn {α : Type} (xs : List α) (i : Nat) : idx xs (i : Int) = xs[i]? := by
 unfold idx
 rw [if_pos (by omega)]
 simp
theorem gd_t {β : Type} [Inhabited β] (x : Option β) : gd true x = x := rfl
theorem gd_f {β : Type} [Inhabited β] (x : Option β) : gd false x = some default := rfl
theorem Zmg {α : Type} {xs : List α} {l h : Nat} (h1 : l ≤ h) (h2 : h ≤ xs.length) : cut xs (l : Int) (h : Int) = some ((xs.drop l).take (h - l)) := by
 unfold cut
 rw [if_pos (by omega)]
 simp
theorem Zks {a b : ByteArray} (h : a.toList = b.toList) : a = b := by
 rw [_root_.Go.ByteArray.toList_eq, _root_.Go.ByteArray.toList_eq] at h
 exact ByteArray.ext (Array.toList_inj.1 h)
theorem Zj9 {a b : ByteArray} : sEq a b = true ↔ a = b := by
 unfold sEq
 constructor
 · intro h; exact Zks (by simpa using h)
 · rintro rfl; simp
theorem Zlo {a b : ByteArray} : sEq a b = false ↔ a ≠ b := by
 cases h : sEq a b
 · simp; intro e; rw [Zj9.2 e] at h; cases h
 · simp; exact Zj9.1 h
theorem Zew {α σ ρ : Type} (xs : List α) (L : Nat → σ → Int → Option ρ) (P : Nat → σ → Prop) (R : σ → ρ) (hl : xs.length < 1000000)
   (hs : ∀ n (i : Nat) st e, xs[i]? = some e → P i st → ∃ st', P (i + 1) st' ∧ L (n + 1) st i = L n st' (IntKind.i64.wrap ((i : Int) + 1))) (h0 : ∀ n st, P xs.length st → L (n + 1) st (xs.length : Int) = some (R st)) {s0 : σ} (hP : P 0 s0) :
   ∃ st, P xs.length st ∧ L (Int.toNat ((xs.length : Int) - 0) + 1) s0 0 = some (R st) := by
 have main : ∀ (n i : Nat) st, i + n = xs.length → P i st → ∃ st', P xs.length st' ∧ L (n + 1) st (i : Int) = some (R st') := by
   intro n
   induction n with
   | zero => intro i st h hp; obtain rfl : i = xs.length := by omega
             exact ⟨st, hp, h0 0 st hp⟩
   | succ n ih =>
     intro i st h hp
     obtain ⟨st', h1, h2⟩ := hs (n + 1) i st xs[i] (List.getElem?_eq_getElem (by omega)) hp
     obtain ⟨st2, h3, h4⟩ := ih (i + 1) st' (by omega) h1
     refine ⟨st2, h3, ?_⟩
     rw [h2, wr1 (by omega)]; exact h4
 have := main xs.length 0 s0 (by omega) hP
 rw [show Int.toNat ((xs.length : Int) - 0) = xs.length by omega]
 exact this
theorem Zb6 {α ρ : Type} (xs : List α) (L : Nat → Int → Option (ρ ⊕ Unit)) (c : α → Bool) (r : Nat → ρ) (hl : xs.length < 1000000)
   (hs : ∀ n (i : Nat) e, xs[i]? = some e → L (n + 1) i = if c e then some (.inl (r i)) else L n (IntKind.i64.wrap ((i : Int) + 1))) (h0 : ∀ n, L (n + 1) (xs.length : Int) = some (.inr ())) :
   (xs.any c = true ∧ ∃ k e, xs[k]? = some e ∧ c e = true ∧ (∀ i e', i < k → xs[i]? = some e' → c e' = false) ∧ L (Int.toNat ((xs.length : Int) - 0) + 1) 0 = some (.inl (r k))) ∨ (xs.any c = false ∧ L (Int.toNat ((xs.length : Int) - 0) + 1) 0 = some (.inr ())) := by
 have main : ∀ (n i : Nat), i + n = xs.length → (∀ j e', j < i → xs[j]? = some e' → c e' = false) → (xs.any c = true ∧ ∃ k e, xs[k]? = some e ∧ c e = true ∧ (∀ i e', i < k → xs[i]? = some e' → c e' = false) ∧ L (n + 1) (i : Int) = some (.inl (r k))) ∨ (xs.any c = false ∧ L (n + 1) (i : Int) = some (.inr ())) := by
   intro n
   induction n with
   | zero =>
     intro i h hp
     obtain rfl : i = xs.length := by omega
     refine .inr ⟨?_, h0 0⟩
     rw [List.any_eq_false]
     intro e he
     obtain ⟨j, hj, rfl⟩ := List.getElem_of_mem he
     rw [hp j xs[j] hj (List.getElem?_eq_getElem hj)]; simp
   | succ n ih =>
     intro i h hp
     have hi : xs[i]? = some xs[i] := List.getElem?_eq_getElem (by omega)
     rw [hs (n + 1) i _ hi]
     by_cases hc : c xs[i] = true
     · rw [if_pos hc]
       exact .inl ⟨List.any_eq_true.2 ⟨_, List.mem_of_getElem? hi, hc⟩, i, _, hi, hc, hp, rfl⟩
     · rw [if_neg hc, wr1 (by omega)]
       refine ih (i + 1) (by omega) (fun j e' hj he => ?_)
       rcases Nat.lt_succ_iff_lt_or_eq.1 hj with h | h
       · exact hp j e' h he
       · subst h
         rw [hi] at he
         obtain rfl := Option.some.inj he
         simpa using hc
 have := main xs.length 0 (by omega) (fun _ _ h => absurd h (Nat.not_lt_zero _))
 rw [show Int.toNat ((xs.length : Int) - 0) = xs.length by omega]
 exact this
theorem lt_i {α : Type} {xs : List α} {i : Nat} {e : α} (h : xs[i]? = some e) : decide ((i : Int) < (xs.length : Int)) = true := by
 have := (List.getElem?_eq_some_iff.1 h).1
 exact decide_eq_true (by omega)
theorem lt_e {n : Nat} : decide ((n : Int) < (n : Int)) = false := decide_eq_false (by omega)
theorem Zhz {α : Type} {xs : List α} {i : Nat} {e : α} (h : xs[i]? = some e) : xs.take (i + 1) = xs.take i ++ [e] := by rw [List.take_add_one, h]; rfl
theorem Zig {l : List Int} (x : Int) (hl : l.length < 1000000) : Zbk l x = some (decide (x ∈ l)) := by
 unfold Zbk Zc8
 rcases Zb6 l (Zbd l x) (fun e => x == e) (fun k => (k : Int)) hl (fun n i e he => by
   rw [Zbd, lt_i he, if_pos rfl, idxn, he]; rfl) (fun n => by rw [Zbd, lt_e]; rfl) with ⟨h1, k, e, h2, h3, _, h4⟩ | ⟨h1, h4⟩
 · rw [h4]
   obtain ⟨e', he, hx⟩ := List.any_eq_true.1 h1
   have : x ∈ l := by rw [eq_of_beq hx]; exact he
   simp [this]
 · rw [h4]
   have : x ∉ l := fun hx => by
     have := List.any_eq_false.1 h1 x hx
     simp at this
   simp [this]
theorem Zjl {l : List Int} (x : Int) (hl : l.length < 1000000) : Zcz l x = some (decide (x ∈ l)) := by
 unfold Zcz
 rcases Zb6 l (Zbx l x) (fun e => e == x) (fun _ => true) hl (fun n i e he => by
   rw [Zbx, lt_i he, if_pos rfl, idxn, he]; rfl) (fun n => by rw [Zbx, lt_e]; rfl) with ⟨h1, k, e, h2, h3, _, h4⟩ | ⟨h1, h4⟩
 · rw [h4]
   have : x ∈ l := by rw [← eq_of_beq h3]; exact List.mem_of_getElem? h2
   simp [this]
 · rw [h4]
   have : x ∉ l := fun hx => by
     have := List.any_eq_false.1 h1 x hx
     simp at this
   simp [this]
theorem Zlp (a : List Int) (hl : a.length < 1000000) : Zcd a a = some true := by
 unfold Zcd
 rw [if_neg (by simp)]
 rcases Zb6 a (Zbp a a) (fun _ => false) (fun _ => false) hl (fun n i e he => by
   rw [Zbp, lt_i he, if_pos rfl, idxn, he]
   simp only [Option.bind_some, bne_self_eq_false, Bool.false_eq_true, if_false]) (fun n => by rw [Zbp, lt_e]; rfl) with ⟨h1, _⟩ | ⟨h1, h4⟩
 · simp at h1
 · rw [h4]; rfl
theorem Zd3 {xs : List Int} {i : Nat} {e : Int} (p : Int → Bool) (h : xs[i]? = some e) : (xs.take (i + 1)).filter p = (xs.take i).filter p ++ (if p e then [e] else []) := by
 rw [Zhz h, List.filter_append]
 congr 1
 by_cases hp : p e = true <;> simp [hp]
theorem Zhn {xs : List Int} {i : Nat} (p : Int → Bool) : ((xs.take i).filter p).length ≤ i := Nat.le_trans (List.length_filter_le _ _) (by rw [List.length_take]; omega)
theorem Zkw {l : List Int} (x : Int) (hl : l.length < 1000000) : Zcr l x = some (l.filter (fun k => k != x)) := by
 unfold Zcr
 obtain ⟨st, h1, h2⟩ := Zew l (Z8 l x) (fun i st => st = (l.take i).filter (fun k => k != x)) id hl (fun n i st e he hp => by
   refine ⟨_, rfl, ?_⟩
   subst hp
   have := Zhn (xs := l) (i := i) (fun k => k != x)
   have hi := (List.getElem?_eq_some_iff.1 he).1
   rw [Z8, lt_i he, if_pos rfl, idxn, he, Zd3 _ he]
   simp only [Option.bind_some]
   by_cases hc : (e != x) = true
   · rw [if_pos hc, if_pos (by simp only [List.length_singleton]; omega), if_pos hc]; rfl
   · rw [if_neg hc, if_neg hc, List.append_nil]; rfl) (fun n st hp => by rw [Z8, lt_e]; rfl) (s0 := []) rfl
 rw [h2, h1, List.take_length]; rfl
theorem Znz {l : List Int} (x : Int) (hl : l.length < 1000000) : Zb3 l (fun y => Zb5 y x) = some (l.filter (fun k => k != x)) := by
 unfold Zb3 Zcp
 rcases Zb6 l (Z7 l (fun y => Zb5 y x)) (fun e => e == x) (fun k => (k : Int)) hl (fun n i e he => by
   rw [Z7, lt_i he, if_pos rfl, idxn, he]; rfl) (fun n => by rw [Z7, lt_e]; rfl) with ⟨h1, k, e, hk, hek, hbef, h4⟩ | ⟨h1, h4⟩
 · rw [h4]
   have hkl := (List.getElem?_eq_some_iff.1 hk).1
   simp only [Option.bind_some]
   rw [if_neg (by simp only [beq_iff_eq]; omega), wr1 (by omega)]
   have main : ∀ (n j : Nat) (ys : List Int) (i : Nat), j + n = l.length → i ≤ j → ys.length = l.length → (∀ m, j ≤ m → ys[m]? = l[m]?) → ys.take i = (l.take j).filter (fun k => k != x) → i < l.length ∨ j = l.length →
       ∃ (zs : List Int) (i' : Nat), Zu (fun y => Zb5 y x) (n + 1) ys (i : Int) (j : Int) = some (zs, (i' : Int)) ∧ zs.length = l.length ∧ i' ≤ l.length ∧ zs.take i' = l.filter (fun k => k != x) := by
     intro n
     induction n with
     | zero =>
       intro j ys i h hij hy _ ht _
       obtain rfl : j = l.length := by omega
       refine ⟨ys, i, ?_, hy, hij, by rw [ht, List.take_length]⟩
       rw [Zu, hy, lt_e]; rfl
     | succ n ih =>
       intro j ys i h hij hy hsame ht hil
       have hj : j < l.length := by omega
       have he : l[j]? = some l[j] := List.getElem?_eq_getElem hj
       have hye : ys[j]? = some l[j] := (hsame j (Nat.le_refl _)).trans he
       rw [Zu, lt_i hye, if_pos rfl, idxn, hye]
       simp only [Option.bind_some, Zb5]
       have hi : i < ys.length := by omega
       by_cases hc : l[j] = x
       · rw [if_neg (by simp [hc])]
         unfold Zbg
         rw [wr1 (by omega)]
         refine ih (j + 1) ys i (by omega) (by omega) hy (fun m hm => hsame m (by omega)) ?_ (by omega)
         rw [ht, Zd3 _ he, if_neg (by simp [hc]), List.append_nil]
       · rw [if_pos (by simp [hc]), idxn, List.getElem?_eq_getElem hi]
         simp only [Option.bind_some]
         unfold Zbg
         rw [wr1 (by omega), wr1 (by omega)]
         refine ih (j + 1) _ (i + 1) (by omega) (by omega) (by rw [List.length_set]; exact hy) (fun m hm => ?_) ?_ (by omega)
         · rw [List.getElem?_set_ne (by simp; omega)]; exact hsame m (by omega)
         · rw [Zd3 _ he, if_pos (by simp [hc]), ← ht]
           rw [Int.toNat_natCast, List.take_add_one, List.getElem?_set_self hi, List.take_set_of_le (Nat.le_refl _)]
           rfl
   obtain ⟨zs, i', e1, e2, e3, e4⟩ := main (l.length - (k + 1)) (k + 1) l k (by omega) (by omega) rfl (fun _ _ => rfl) (by
     rw [Zd3 _ hk, if_neg (by simp [eq_of_beq hek]), List.append_nil]
     symm
     rw [List.filter_eq_self]
     intro a ha
     obtain ⟨j, hj, rfl⟩ := List.getElem_of_mem ha
     rw [List.length_take] at hj
     have := hbef j (l[j]) (by omega) (List.getElem?_eq_getElem (by omega))
     rw [List.getElem_take]
     simpa using this) (.inl hkl)
   rw [show Int.toNat ((l.length : Int) - ((k + 1 : Nat) : Int)) = l.length - (k + 1) by omega, e1]
   simp only [Option.bind_some]
   have hne : zs ≠ [] := fun h => by rw [h] at e2; simp at e2; omega
   have hlen : (zs.take (Int.toNat (i' : Int)) ++ List.replicate (zs.length - Int.toNat (i' : Int)) (0 : Int)).length = l.length := by simp; omega
   rw [if_pos ⟨⟨by omega, by omega⟩, hne⟩, hlen, if_pos ⟨⟨by omega, by omega⟩, fun h => by rw [h] at hlen; simp at hlen; omega⟩]
   rw [Int.toNat_natCast, List.take_append_of_le_length (by rw [List.length_take]; omega), List.take_take, Nat.min_self, e4]
 · rw [h4]
   have : l.filter (fun k => k != x) = l := by
     rw [List.filter_eq_self]
     intro a ha
     have := List.any_eq_false.1 h1 a ha
     simpa using this
   rw [this]; rfl
def rdB (k : Int) : Bool := ((((k == (3 : Int)) || (k == (4 : Int))) || (k == (9 : Int))) || (k == (12 : Int))) || (k == (20 : Int))
def hasB (s : List ByteArray) (k : ByteArray) : Bool := s.any fun x => sEq x k
def rosB (a : Ze) : Bool := a.Acts.any fun e => (e.Kind == (1 : Int)) || (e.Kind == (2 : Int))
def mtB (s : List ByteArray) (e f : Zn) : Bool := (sEq e.Key f.Key && !(rdB e.Kind && rdB f.Kind)) && !(hasB s e.Key)
def Zds (s : List ByteArray) (a b : Ze) : Bool := (a.Acts.any fun e => b.Acts.any fun f => mtB s e f) || (rosB a && rosB b)
theorem Zmf (a b : ByteArray) : sEq a b = sEq b a := by
 by_cases h : a = b
 · rw [h]
 · rw [Zlo.2 h, Zlo.2 (fun k => h k.symm)]
theorem Ze4 {β : Type} [Inhabited β] (c : Bool) (v : β) : gd c (some v) = some (if c then v else default) := by cases c <;> rfl
theorem hasS {s : List ByteArray} (k : ByteArray) (hl : s.length < 1000000) : Zbn s k = some (hasB s k) := by
 unfold Zbn Zcc hasB
 rcases Zb6 s (Z6 s k) (fun e => sEq e k) (fun k => (k : Int)) hl (fun n i e he => by
   rw [Z6, lt_i he, if_pos rfl, idxn, he]
   simp only [Option.bind_some]
   rw [Zmf]) (fun n => by rw [Z6, lt_e]; rfl) with ⟨h1, k', e, h2, h3, _, h4⟩ | ⟨h1, h4⟩
 · rw [h4, h1]; simp
 · rw [h4, h1]; rfl
theorem hasR {s : List ByteArray} (k : ByteArray) (hl : s.length < 1000000) : Zdn s k = some (hasB s k) := by
 unfold Zdn hasB
 rcases Zb6 s (Zbu s k) (fun e => sEq e k) (fun _ => true) hl (fun n i e he => by
   rw [Zbu, lt_i he, if_pos rfl, idxn, he]; rfl) (fun n => by rw [Zbu, lt_e]; rfl) with ⟨h1, k', e, h2, h3, _, h4⟩ | ⟨h1, h4⟩
 · rw [h4, h1]; rfl
 · rw [h4, h1]; rfl
theorem rosD {a : Ze} (hl : a.Acts.length < 1000000) : Zd7 a = some (rosB a) := by
 unfold Zd7 Zbm Zbz rosB
 rcases Zb6 a.Acts (Zt a.Acts (fun y0 => Zd4 y0)) (fun e => (e.Kind == (1 : Int)) || (e.Kind == (2 : Int))) (fun k => (k : Int)) hl (fun n i e he => by
   rw [Zt, lt_i he, if_pos rfl, idxn, he]; rfl) (fun n => by rw [Zt, lt_e]; rfl) with ⟨h1, k', e, h2, h3, _, h4⟩ | ⟨h1, h4⟩
 · rw [h4, h1]; simp
 · rw [h4, h1]; rfl
theorem rosR {a : Ze} (hl : a.Acts.length < 1000000) : Zcg a = some (rosB a) := by
 unfold Zcg rosB
 rcases Zb6 a.Acts (Zbj a) (fun e => (e.Kind == (1 : Int)) || (e.Kind == (2 : Int))) (fun _ => true) hl (fun n i e he => by
   rw [Zbj, lt_i he, if_pos rfl, idxn, he]
   simp only [Option.bind_some, Ze4]
   cases h : (e.Kind == (1 : Int)) <;> simp) (fun n => by rw [Zbj, lt_e]; rfl) with ⟨h1, k', e, h2, h3, _, h4⟩ | ⟨h1, h4⟩
 · rw [h4, h1]; rfl
 · rw [h4, h1]; rfl
theorem meetD {a b : Ze} {s : List ByteArray} (ha : a.Acts.length < 1000000) (hb : b.Acts.length < 1000000) (hs : s.length < 1000000) : Ze5 a b s = some (Zds s a b) := by
 have inner : ∀ e : Zn, Zcn b s e (Int.toNat ((b.Acts.length : Int) - (0 : Int)) + 1) (0 : Int) = if (b.Acts.any fun f => mtB s e f) then some (.inl true) else some (.inr ()) := fun e => by
   rcases Zb6 b.Acts (Zcn b s e) (fun f => mtB s e f) (fun _ => true) hb (fun n i f he => by
     rw [Zcn, lt_i he, if_pos rfl, idxn, he]
     simp only [Option.bind_some, Zfl, Ze4, hasS _ hs]
     unfold mtB
     show (if ((sEq e.Key f.Key && (!((if (sEq e.Key f.Key) = true then rdB e.Kind else default) && (if (sEq e.Key f.Key && (if (sEq e.Key f.Key) = true then rdB e.Kind else default)) = true then rdB f.Kind else default)))) && (!(if (sEq e.Key f.Key && (!((if (sEq e.Key f.Key) = true then rdB e.Kind else default) && (if (sEq e.Key f.Key && (if (sEq e.Key f.Key) = true then rdB e.Kind else default)) = true then rdB f.Kind else default)))) = true then hasB s e.Key else default))) = true then _ else _) = _
     cases sEq e.Key f.Key <;> cases hasB s e.Key <;> cases rdB e.Kind <;> cases rdB f.Kind <;> rfl) (fun n => by rw [Zcn, lt_e]; rfl) with ⟨h1, k', e', h2, h3, _, h4⟩ | ⟨h1, h4⟩
   · rw [h4, h1]; rfl
   · rw [h4, h1]; rfl
 unfold Ze5 Zds
 rcases Zb6 a.Acts (Zcy a b s) (fun e => b.Acts.any fun f => mtB s e f) (fun _ => true) ha (fun n i e he => by
   rw [Zcy, lt_i he, if_pos rfl, idxn, he]
   simp only [Option.bind_some, inner]
   cases h : (b.Acts.any fun f => mtB s e f) <;> simp) (fun n => by rw [Zcy, lt_e]; rfl) with ⟨h1, k', e, h2, h3, _, h4⟩ | ⟨h1, h4⟩
 · rw [h4, h1]; rfl
 · rw [h4, h1]
   simp only [Option.bind_some, rosD ha, rosD hb, Ze4, Bool.false_or]
   cases rosB a <;> simp
theorem meetR {a b : Ze} {s : List ByteArray} (ha : a.Acts.length < 1000000) (hb : b.Acts.length < 1000000) (hs : s.length < 1000000) : Zcu a b s = some (Zds s a b) := by
 have inner : ∀ (j : Nat) (e : Zn), a.Acts[j]? = some e → Zbi a b s (j : Int) (Int.toNat ((b.Acts.length : Int) - (0 : Int)) + 1) (0 : Int) = if (b.Acts.any fun f => mtB s e f) then some (.inl true) else some (.inr ()) := fun j e hj => by
   rcases Zb6 b.Acts (Zbi a b s (j : Int)) (fun f => mtB s e f) (fun _ => true) hb (fun n i f he => by
     rw [Zbi, lt_i he, if_pos rfl, idxn, idxn, he, hj]
     simp only [Option.bind_some, Zc5, Ze4, hasR _ hs]
     unfold mtB
     show (if ((sEq e.Key f.Key && !(if (sEq e.Key f.Key) = true then hasB s e.Key else default)) && ((!(if (sEq e.Key f.Key && !(if (sEq e.Key f.Key) = true then hasB s e.Key else default)) = true then rdB e.Kind else default)) || (!(if ((sEq e.Key f.Key && !(if (sEq e.Key f.Key) = true then hasB s e.Key else default)) && !(!(if (sEq e.Key f.Key && !(if (sEq e.Key f.Key) = true then hasB s e.Key else default)) = true then rdB e.Kind else default))) = true then rdB f.Kind else default)))) = true then _ else _) = _
     cases sEq e.Key f.Key <;> cases hasB s e.Key <;> cases rdB e.Kind <;> cases rdB f.Kind <;> rfl) (fun n => by rw [Zbi, lt_e]; rfl) with ⟨h1, k', e', h2, h3, _, h4⟩ | ⟨h1, h4⟩
   · rw [h4, h1]; rfl
   · rw [h4, h1]; rfl
 unfold Zcu Zds
 rcases Zb6 a.Acts (Zbo a b s) (fun e => b.Acts.any fun f => mtB s e f) (fun _ => true) ha (fun n i e he => by
   rw [Zbo, lt_i he, if_pos rfl, inner i e he]
   cases h : (b.Acts.any fun f => mtB s e f) <;> simp) (fun n => by rw [Zbo, lt_e]; rfl) with ⟨h1, k', e, h2, h3, _, h4⟩ | ⟨h1, h4⟩
 · rw [h4, h1]; rfl
 · rw [h4, h1]
   simp only [Option.bind_some, rosR ha, rosR hb, Ze4, Bool.false_or]
   cases rosB a <;> simp
theorem big3 (r : Z4) : ∃ b, Zdp r = some b := by
 unfold Zdp
 by_cases h : (decide ((100 : Int) < (r.List.length : Int)) || decide ((1000 : Int) < (r.Text.size : Int))) = true
 · rw [if_pos h]; exact ⟨_, rfl⟩
 · rw [if_neg h]
   simp only [Bool.or_eq_true, decide_eq_true_eq, not_or] at h
   rcases Zb6 r.List (Zbw r) (fun e => decide ((100 : Int) < (e.Name.size : Int))) (fun _ => 1) (by omega) (fun n i e he => by
     rw [Zbw, lt_i he, if_pos rfl, idxn, he]; rfl) (fun n => by rw [Zbw, lt_e]; rfl) with ⟨_, k, e, _, _, _, h4⟩ | ⟨_, h4⟩
   · rw [h4]; exact ⟨_, rfl⟩
   · rw [h4]; exact ⟨_, rfl⟩
theorem big4 (a : Zn) : ∃ b, Zc2 a = some b := by
 unfold Zc2
 obtain ⟨b, hb⟩ := big3 a.Make
 rw [hb, Ze4]
 simp only [Option.bind_some]
 generalize (if (!((decide ((200 : Int) < (a.Key.size : Int))) || (decide ((1000 : Int) < (a.S.size : Int))))) = true then b else default) = v
 split
 · exact ⟨_, rfl⟩
 · exact ⟨_, rfl⟩
theorem big8 (d : Ze) : ∃ b, Zc3 d = some b ∧ (¬ 0 < b → d.Acts.length ≤ 40) := by
 unfold Zc3
 by_cases h : decide ((40 : Int) < (d.Acts.length : Int)) = true
 · rw [if_pos h]; exact ⟨_, rfl, fun h => absurd (by decide) h⟩
 · rw [if_neg h]
   have h : d.Acts.length ≤ 40 := by simp at h; omega
   rcases Zb6 d.Acts (Zbv d) (fun e => decide (0 < (Zc2 e).getD 0)) (fun _ => 1) (by omega) (fun n i e he => by
     obtain ⟨b, hb⟩ := big4 e
     rw [Zbv, lt_i he, if_pos rfl, idxn, he]
     simp only [Option.bind_some, hb, Option.getD_some]) (fun n => by rw [Zbv, lt_e]; rfl) with ⟨_, k, e, _, _, _, h4⟩ | ⟨_, h4⟩
   · rw [h4]; exact ⟨_, rfl, fun _ => h⟩
   · rw [h4]; exact ⟨_, rfl, fun _ => h⟩
theorem Zoo (l : List Ze) : ∃ b, Zdl l = some b ∧ (¬ 0 < b → l.length ≤ 40 ∧ ∀ d ∈ l, d.Acts.length ≤ 40) := by
 unfold Zdl
 by_cases h : decide ((40 : Int) < (l.length : Int)) = true
 · rw [if_pos h]; exact ⟨_, rfl, fun h => absurd (by decide) h⟩
 · rw [if_neg h]
   have h : l.length ≤ 40 := by simp at h; omega
   rcases Zb6 l (Zbt l) (fun e => decide (0 < (Zc3 e).getD 0)) (fun _ => 1) (by omega) (fun n i e he => by
     obtain ⟨b, hb, _⟩ := big8 e
     rw [Zbt, lt_i he, if_pos rfl, idxn, he]
     simp only [Option.bind_some, hb, Option.getD_some]) (fun n => by rw [Zbt, lt_e]; rfl) with ⟨_, k, e, _, _, _, h4⟩ | ⟨h1, h4⟩
   · rw [h4]; exact ⟨_, rfl, fun h => absurd (by decide) h⟩
   · rw [h4]
     refine ⟨_, rfl, fun _ => ⟨h, fun d hd => ?_⟩⟩
     obtain ⟨b, hb, hb2⟩ := big8 d
     have := List.any_eq_false.1 h1 d hd
     rw [hb] at this
     exact hb2 (by simpa using this)
structure Ctx (l : List Ze) (s : List ByteArray) : Prop where
 len : l.length ≤ 40
 acts : ∀ d ∈ l, d.Acts.length ≤ 40
 split : s.length ≤ 20
def dAt (l : List Ze) (k : Int) : Ze := (idx l k).getD default
theorem Zgg {l : List Ze} {k : Int} (h : 0 ≤ k ∧ k < l.length) : idx l k = some (dAt l k) := by
 obtain ⟨n, rfl⟩ := Int.eq_ofNat_of_zero_le h.1
 unfold dAt
 rw [idxn, List.getElem?_eq_getElem (by omega)]; rfl
theorem Zhe {l : List Ze} {k : Int} (h : 0 ≤ k ∧ k < l.length) : dAt l k ∈ l := by
 have := Zgg h
 obtain ⟨n, rfl⟩ := Int.eq_ofNat_of_zero_le h.1
 rw [idxn] at this
 exact List.mem_of_getElem? this
def mB (l : List Ze) (s : List ByteArray) (n k : Int) : Bool := decide (k < n) && Zds s (dAt l k) (dAt l n)
theorem Ctx.meetR {l : List Ze} {s : List ByteArray} (c : Ctx l s) {k n : Int} (hk : 0 ≤ k ∧ k < l.length) (hn : 0 ≤ n ∧ n < l.length) : Zcu (dAt l k) (dAt l n) s = some (Zds s (dAt l k) (dAt l n)) :=
 Go.CL.meetR (by have := c.acts _ (Zhe hk); omega) (by have := c.acts _ (Zhe hn); omega) (by have := c.split; omega)
theorem Ctx.meetD {l : List Ze} {s : List ByteArray} (c : Ctx l s) {k n : Int} (hk : 0 ≤ k ∧ k < l.length) (hn : 0 ≤ n ∧ n < l.length) : Ze5 (dAt l k) (dAt l n) s = some (Zds s (dAt l k) (dAt l n)) :=
 Go.CL.meetD (by have := c.acts _ (Zhe hk); omega) (by have := c.acts _ (Zhe hn); omega) (by have := c.split; omega)
structure Rise (l : List Ze) (T : List Int) : Prop where
 up : T.Pairwise (· < ·)
 rng : ∀ k ∈ T, 0 ≤ k ∧ k < l.length
 len : T.length ≤ l.length
theorem Zni {l : List Ze} (hl : l.length ≤ 40) (out : List Bool) : ∃ T, Zdf l out = some T ∧ Rise l T ∧ (out = [] → T.length = l.length) := by
 unfold Zdf
 obtain ⟨T, ⟨h1, h2, h3, h4⟩, h5⟩ := Zew l (Zbc l out) (fun i st => st.Pairwise (· < ·) ∧ (∀ k ∈ st, 0 ≤ k ∧ k < (i : Int)) ∧ st.length ≤ i ∧ (out = [] → st.length = i)) id (by omega) (fun n i st e he ⟨p1, p2, p3, p4⟩ => by
   have hi := (List.getElem?_eq_some_iff.1 he).1
   obtain ⟨b, hb⟩ : ∃ b : Bool, (gd (!(decide ((out.length : Int) ≤ (i : Int)))) (idx out (i : Int))) = some b ∧ (out = [] → (decide ((out.length : Int) ≤ (i : Int)) || (!b)) = true) := by
     by_cases ho : (out.length : Int) ≤ (i : Int)
     · rw [decide_eq_true ho]
       exact ⟨default, rfl, fun _ => rfl⟩
     · rw [decide_eq_false ho, Bool.not_false, gd_t, idxn, List.getElem?_eq_getElem (by omega)]
       exact ⟨_, rfl, fun h => by subst h; simp at ho⟩
   rw [Zbc, lt_i he, if_pos rfl, hb.1]
   simp only [Option.bind_some]
   by_cases hc : (decide ((out.length : Int) ≤ (i : Int)) || (!b)) = true
   · rw [if_pos hc, if_pos (by simp only [List.length_singleton]; omega)]
     refine ⟨st ++ [(i : Int)], ⟨List.pairwise_append.2 ⟨p1, List.pairwise_singleton .., fun a ha b hb => by rw [List.mem_singleton.1 hb]; exact (p2 a ha).2⟩, fun k hk => ?_, by simp; omega, fun h => by simp [p4 h]⟩, rfl⟩
     rcases List.mem_append.1 hk with hk | hk
     · have := p2 k hk; omega
     · rw [List.mem_singleton.1 hk]; omega
   · rw [if_neg hc]
     exact ⟨st, ⟨p1, fun k hk => by have := p2 k hk; omega, by omega, fun h => absurd (hb.2 h) hc⟩, rfl⟩) (fun n st hp => by rw [Zbc, lt_e]; rfl) (s0 := []) ⟨.nil, (fun _ h => by cases h), Nat.le_refl _, fun _ => rfl⟩
 rw [h5]
 exact ⟨T, rfl, ⟨h1, h2, h3⟩, h4⟩
theorem Zjd {l : List Ze} {s : List ByteArray} (c : Ctx l s) {left : List Int} (hr : ∀ k ∈ left, 0 ≤ k ∧ k < l.length) (hl : left.length ≤ 40) (i : Int) : Zcq l left s i = some (if i ∈ left then left.filter (mB l s i) else []) := by
 unfold Zcq
 obtain ⟨st, h1, h2⟩ := Zew left (fun n (st : List Int × Bool) x => Z0 l left s i n st.1 st.2 x) (fun j st => (i < (l.length : Int) → st.1 = (left.take j).filter (mB l s i)) ∧ st.1.length ≤ j ∧ st.2 = (left.take j).any (· == i)) id (by omega) (fun n j st e he ⟨p1, p2, p3⟩ => by
   have hi := (List.getElem?_eq_some_iff.1 he).1
   have hek := hr e (List.mem_of_getElem? he)
   show ∃ st', _ ∧ Z0 l left s i (n + 1) st.1 st.2 (j : Int) = _
   rw [Z0, lt_i he, if_pos rfl, idxn, he]
   simp only [Option.bind_some]
   have hany : (left.take (j + 1)).any (· == i) = (st.2 || (e == i)) := by rw [Zhz he, List.any_append, p3]; simp
   by_cases hc : (decide (e < i) && decide (i < (l.length : Int))) = true
   · have hc' := hc
     simp only [Bool.and_eq_true, decide_eq_true_eq] at hc'
     have hin : 0 ≤ i ∧ i < l.length := by omega
     simp only [hc, gd_t, Zgg hek, Zgg hin, Option.bind_some, c.meetR hek hin, Bool.true_and]
     by_cases hm : Zds s (dAt l e) (dAt l i) = true
     · rw [if_pos hm, if_pos (by simp only [List.length_singleton]; omega)]
       refine ⟨(st.1 ++ [e], st.2 || (e == i)), ⟨fun h => ?_, by simp; omega, hany.symm⟩, rfl⟩
       rw [Zd3 _ he, if_pos (by simp [mB, hm, hc'.1]), p1 h]
     · rw [if_neg hm]
       refine ⟨(st.1, st.2 || (e == i)), ⟨fun h => ?_, by show st.1.length ≤ j + 1; omega, hany.symm⟩, rfl⟩
       rw [Zd3 _ he, if_neg (by simp [mB, hm]), List.append_nil, p1 h]
   · simp only [eq_false_of_ne_true hc, gd_f, Option.bind_some, Bool.false_and, Bool.false_eq_true, if_false]
     refine ⟨(st.1, st.2 || (e == i)), ⟨fun h => ?_, by show st.1.length ≤ j + 1; omega, hany.symm⟩, rfl⟩
     have : ¬ e < i := fun h' => hc (by simp [h', h])
     rw [Zd3 _ he, if_neg (by simp [mB, this]), List.append_nil, p1 h]) (fun n st hp => by
       show Z0 l left s i (n + 1) st.1 st.2 _ = _
       rw [Z0, lt_e]; rfl) (s0 := ([], false)) ⟨fun _ => rfl, Nat.zero_le _, rfl⟩
 have h2' : Z0 l left s i (Int.toNat ((left.length : Int) - 0) + 1) [] false 0 = some st := h2
 rw [h2']
 obtain ⟨p1, p2, p3⟩ := h1
 rw [List.take_length] at p1 p3
 simp only [Option.bind_some]
 by_cases hi : i ∈ left
 · have : st.2 = true := by rw [p3, List.any_eq_true]; exact ⟨i, hi, by simp⟩
   rw [this, if_pos hi, p1 (hr i hi).2]; rfl
 · have : st.2 = false := by
     rw [p3, List.any_eq_false]
     intro x hx
     simp only [beq_iff_eq]
     exact fun h => hi (h ▸ hx)
   rw [this, if_neg hi]; rfl
theorem Zio {z : List Int} {n : Int} : ∀ {A : List (Int × List Int)}, (∀ e ∈ A, e.1 ≠ n) → mget z A n = z
 | [], _ => rfl
 | e :: A, h => by
   rw [mget, if_neg (h e (List.mem_cons_self ..))]
   exact Zio (fun e' he => h e' (List.mem_cons_of_mem _ he))
theorem Zi4 {z v : List Int} {n m : Int} : ∀ {A : List (Int × List Int)}, (∀ e ∈ A, e.1 ≠ n) → mget z (A ++ [(n, v)]) m = if m = n then v else mget z A m
 | [], _ => by
   show (if n = m then v else z) = if m = n then v else z
   by_cases h : m = n
   · rw [if_pos h, if_pos h.symm]
   · rw [if_neg h, if_neg (fun k => h k.symm)]
 | e :: A, h => by
   show (if e.1 = m then e.2 else mget z (A ++ [(n, v)]) m) = if m = n then v else if e.1 = m then e.2 else mget z A m
   rw [Zi4 (fun e' he => h e' (List.mem_cons_of_mem _ he))]
   by_cases h1 : e.1 = m
   · rw [if_pos h1, if_neg (fun k => h e (List.mem_cons_self ..) (h1.trans k)), if_pos h1]
   · rw [if_neg h1, if_neg h1]
def NoKey (b : MapB Int) (n : Int) : Prop := ∀ e ∈ b.all, e.1 ≠ n
theorem NoKey.old {b : MapB Int} {n : Int} (h : NoKey b n) : (b.old.all fun e => e.1 != n) = true := List.all_eq_true.2 fun e he => by simpa using h e (List.mem_append_left _ he)
theorem Zmi {b : MapB Int} {n : Int} (h : NoKey b n) : b.row n = some [] := by
 unfold MapB.row
 cases hl : b.last with
 | none => simp only [h.old]; rfl
 | some e =>
   simp only [h.old]
   rw [if_pos trivial, if_neg]
   exact h e (by unfold MapB.all; rw [hl]; simp)
theorem Zj7 {b : MapB Int} {n : Int} {v : List Int} (h : NoKey b n) : (b.put n v).all = b.all ++ [(n, v)] := by
 unfold MapB.put MapB.all
 cases hl : b.last with
 | none => simp
 | some e =>
   have : e.1 ≠ n := h e (by unfold MapB.all; rw [hl]; simp)
   simp [this]
theorem Znr {b : MapB Int} {n : Int} {v : List Int} (h : NoKey b n) : (b.put n v).row n = some v := by
 have hall : ∀ e ∈ b.old ++ b.last.toList, e.1 ≠ n := h
 unfold MapB.put
 cases hl : b.last with
 | none =>
   unfold MapB.row
   simp only [h.old]
   rw [if_pos trivial, if_pos trivial]
 | some e =>
   have he : e.1 ≠ n := h e (by unfold MapB.all; rw [hl]; simp)
   simp only [if_neg he]
   unfold MapB.row
   have : ((b.old ++ [e]).all fun e => e.1 != n) = true := List.all_eq_true.2 fun e' he' => by
     have := hall e' (by rw [hl]; exact he')
     simpa using this
   simp only [this]
   rw [if_pos trivial, if_pos trivial]
theorem Znl {b : MapB Int} {n : Int} {v w : List Int} (h : NoKey b n) : (b.put n v).put n w = b.put n w := by
 unfold MapB.put
 cases hl : b.last with
 | none => simp
 | some e =>
   have he : e.1 ≠ n := h e (by unfold MapB.all; rw [hl]; simp)
   simp [he]
theorem Rise.take_filter {l : List Ze} {T : List Int} (h : Rise l T) {i : Nat} {n : Int} (hn : T[i]? = some n) (p : Int → Bool) : T.filter (fun k => decide (k < n) && p k) = (T.take i).filter p := by
 have hi := (List.getElem?_eq_some_iff.1 hn).1
 have hup := h.up
 rw [← List.take_append_drop i T] at hup
 obtain ⟨_, h2, h3⟩ := List.pairwise_append.1 hup
 have hd : T.drop i = n :: T.drop (i + 1) := by
   rw [List.drop_eq_getElem_cons hi]
   congr 1
   rw [List.getElem?_eq_getElem hi] at hn
   exact Option.some.inj hn
 rw [hd] at h2 h3
 conv => lhs; rw [← List.take_append_drop i T, List.filter_append, hd]
 have e1 : (n :: T.drop (i + 1)).filter (fun k => decide (k < n) && p k) = [] := by
   rw [List.filter_eq_nil_iff]
   intro a ha
   have : ¬ a < n := by
     rcases List.mem_cons.1 ha with rfl | ha
     · omega
     · have := (List.pairwise_cons.1 h2).1 a ha; omega
   simp [this]
 rw [e1, List.append_nil]
 apply List.filter_congr
 intro a ha
 have := h3 a ha n (List.mem_cons_self ..)
 simp [this]
theorem Rise.nodup {l : List Ze} {T : List Int} (h : Rise l T) {i j : Nat} {n : Int} (hi : T[i]? = some n) (hj : T[j]? = some n) : i = j := by
 obtain ⟨h1, e1⟩ := List.getElem?_eq_some_iff.1 hi
 obtain ⟨h2, e2⟩ := List.getElem?_eq_some_iff.1 hj
 rcases Nat.lt_trichotomy i j with h3 | h3 | h3
 · have := List.pairwise_iff_getElem.1 h.up i j h1 h2 h3; omega
 · exact h3
 · have := List.pairwise_iff_getElem.1 h.up j i h2 h1 h3; omega
theorem Znv {l : List Ze} {s : List ByteArray} (c : Ctx l s) {T : List Int} (hT : Rise l T) : ∃ x, Ze0 l T s = some x ∧ x.left = T ∧ ∀ m ∈ T, mget [] x.ahead m = T.filter (mB l s m) := by
 have hTl : T.length ≤ 40 := Nat.le_trans hT.len c.len
 unfold Ze0 Zc7
 rw [if_pos (by omega)]
 simp only [Option.bind_some]
 obtain ⟨st, ⟨h1, h2, h3⟩, h4⟩ := Zew T (Zdb l T s) (fun i st => st.left = T ∧ (∀ e ∈ st.ahead.all, e.1 ∈ T.take i) ∧ ∀ m ∈ T.take i, mget [] st.ahead.all m = T.filter (mB l s m)) id (by omega) (fun n i st e he ⟨p1, p2, p3⟩ => by
   have hi := (List.getElem?_eq_some_iff.1 he).1
   have heT := hT.rng e (List.mem_of_getElem? he)
   have hno : NoKey st.ahead e := fun e' he' hk => by
     obtain ⟨j, hj⟩ := List.mem_iff_getElem?.1 (p2 e' he')
     rw [hk, List.getElem?_take] at hj
     split at hj
     · have := hT.nodup hj he; omega
     · cases hj
   have hcut : cut T (0 : Int) (i : Int) = some (T.take i) := by
     have := Zmg (xs := T) (l := 0) (h := i) (by omega) (by omega)
     simpa using this
   have hlen : (T.take i).length = i := by rw [List.length_take]; omega
   obtain ⟨st2, ⟨q1, q2⟩, q3⟩ := Zew (T.take i) (Zcj l s e (T.take i)) (fun j st' => st'.left = st.left ∧ st'.ahead = if ((T.take i).take j).filter (fun k => Zds s (dAt l k) (dAt l e)) = [] then st.ahead else st.ahead.put e (((T.take i).take j).filter (fun k => Zds s (dAt l k) (dAt l e)))) id (by omega) (fun n' j st' k hk ⟨r1, r2⟩ => by
     have hj := (List.getElem?_eq_some_iff.1 hk).1
     have hkT := hT.rng k (List.mem_of_mem_take (List.mem_of_getElem? hk))
     have hfl := Zhn (xs := T.take i) (i := j) (fun k => Zds s (dAt l k) (dAt l e))
     rw [Zcj, lt_i hk, if_pos rfl, idxn, hk]
     simp only [Option.bind_some, Zgg hkT, Zgg heT, c.meetD hkT heT]
     rw [Zd3 _ hk]
     by_cases hm : Zds s (dAt l k) (dAt l e) = true
     · rw [if_pos hm, if_pos hm, if_neg (by simp)]
       have hrow : st'.ahead.row e = some (((T.take i).take j).filter (fun k => Zds s (dAt l k) (dAt l e))) := by
         rw [r2]
         split
         · rename_i h0; rw [h0]; exact Zmi hno
         · exact Znr hno
       have hput : st'.ahead.put e (((T.take i).take j).filter (fun k => Zds s (dAt l k) (dAt l e)) ++ [k]) = st.ahead.put e (((T.take i).take j).filter (fun k => Zds s (dAt l k) (dAt l e)) ++ [k]) := by
         rw [r2]
         split
         · rfl
         · exact Znl hno
       rw [hrow]
       simp only [Option.bind_some]
       rw [if_pos (by simp only [List.length_singleton]; omega)]
       exact ⟨⟨st'.ahead.put e (((T.take i).take j).filter (fun k => Zds s (dAt l k) (dAt l e)) ++ [k]), st'.left⟩, ⟨r1, hput⟩, rfl⟩
     · rw [if_neg hm, if_neg hm, List.append_nil]
       exact ⟨st', ⟨r1, r2⟩, rfl⟩) (fun n' st' hp => by rw [Zcj, lt_e]; rfl) (s0 := st) ⟨rfl, by simp⟩
   rw [Zdb, lt_i he, if_pos rfl, idxn, he]
   simp only [Option.bind_some, hcut]
   rw [q3]
   simp only [Option.bind_some, id]
   refine ⟨st2, ⟨q1.trans p1, ?_, ?_⟩, rfl⟩
   · intro e' he'
     rw [Zhz he]
     rw [q2] at he'
     split at he'
     · exact List.mem_append_left _ (p2 e' he')
     · rw [Zj7 hno] at he'
       rcases List.mem_append.1 he' with h | h
       · exact List.mem_append_left _ (p2 e' h)
       · rw [List.mem_singleton.1 h]; simp
   · have hxs : ((T.take i).take (T.take i).length).filter (fun k => Zds s (dAt l k) (dAt l e)) = T.filter (mB l s e) := by
       rw [List.take_length]
       exact (hT.take_filter he _).symm
     rw [hxs] at q2
     intro m hm
     have hmg : mget [] st2.ahead.all m = if m = e then T.filter (mB l s e) else mget [] st.ahead.all m := by
       rw [q2]
       split
       · rename_i h0
         rw [h0]
         by_cases hme : m = e
         · rw [if_pos hme, hme]; exact Zio hno
         · rw [if_neg hme]
       · rw [Zj7 hno]; exact Zi4 hno
     rw [hmg]
     by_cases hme : m = e
     · rw [if_pos hme, hme]
     · rw [if_neg hme]
       rw [Zhz he] at hm
       rcases List.mem_append.1 hm with h | h
       · exact p3 m h
       · exact absurd (List.mem_singleton.1 h) hme) (fun n st hp => by rw [Zdb, lt_e]; rfl) (s0 := { ahead := ⟨[], none⟩, left := T }) ⟨rfl, (fun _ h => by cases h), (fun _ h => by simp at h)⟩
 rw [h4]
 exact ⟨_, rfl, h1, fun m hm => h3 m (by rw [List.take_length]; exact hm)⟩
structure LineOk (l : List Ze) (s : List ByteArray) (T left : List Int) (x : Z5) : Prop where
 hleft : x.left = left
 part : left = T.filter (fun k => decide (k ∈ left))
 row : ∀ m ∈ T, mget [] x.ahead m = T.filter (mB l s m)
variable {l : List Ze} {s : List ByteArray} {T left : List Int} {x : Z5}
theorem LineOk.mem (h : LineOk l s T left x) {k : Int} (hk : k ∈ left) : k ∈ T := by
 rw [h.part] at hk; exact (List.mem_filter.1 hk).1
theorem LineOk.len (h : LineOk l s T left x) : left.length ≤ T.length := by
 rw [h.part]; exact List.length_filter_le _ _
theorem LineOk.new (h1 : x.left = T) (h2 : ∀ m ∈ T, mget [] x.ahead m = T.filter (mB l s m)) : LineOk l s T T x := ⟨h1, by symm; rw [List.filter_eq_self]; intro a ha; simpa using ha, h2⟩
theorem LineOk.waits (h : LineOk l s T left x) {i : Int} (hi : i ∈ left) : (mget [] x.ahead i).filter (fun k => decide (k ∈ left)) = left.filter (mB l s i) := by
 rw [h.row i (h.mem hi), List.filter_filter]
 conv => rhs; rw [h.part, List.filter_filter]
 apply List.filter_congr
 intro a _
 exact Bool.and_comm _ _
def Ze7 (l : List Ze) (s : List ByteArray) (left : List Int) (i : Int) : List Int := if i ∈ left then left.filter (mB l s i) else []
theorem LineOk.after (h : LineOk l s T left x) (hT : T.length ≤ 40) (i : Int) : Zb2 x i = some (Ze7 l s left i) := by
 have hl : left.length ≤ 40 := Nat.le_trans h.len hT
 unfold Zb2 Ze7
 rw [h.hleft, Zig i (by omega)]
 simp only [Option.bind_some]
 by_cases hi : i ∈ left
 · rw [if_neg (by simp [hi]), if_pos hi]
   have hrl : (mget [] x.ahead i).length ≤ 40 := by rw [h.row i (h.mem hi)]; exact Nat.le_trans (List.length_filter_le _ _) hT
   obtain ⟨st, h1, h2⟩ := Zew (mget [] x.ahead i) (Zbf x i) (fun j st => st = ((mget [] x.ahead i).take j).filter (fun k => decide (k ∈ left))) id (by omega) (fun n j st e he hp => by
     subst hp
     have := Zhn (xs := mget [] x.ahead i) (i := j) (fun k => decide (k ∈ left))
     have hj := (List.getElem?_eq_some_iff.1 he).1
     refine ⟨_, rfl, ?_⟩
     rw [Zbf, lt_i he, if_pos rfl, idxn, he, Zd3 _ he, h.hleft]
     simp only [Option.bind_some, Zig e (show left.length < 1000000 by omega)]
     by_cases hc : decide (e ∈ left) = true
     · rw [if_pos hc, if_pos (by simp only [List.length_singleton]; omega), if_pos hc]; rfl
     · rw [if_neg hc, if_neg hc, List.append_nil]; rfl) (fun n st hp => by rw [Zbf, lt_e]; rfl) (s0 := []) rfl
   rw [h2, h1, List.take_length, h.waits hi]; rfl
 · rw [if_pos (by simp [hi]), if_neg hi]
def Zer (l : List Ze) (s : List ByteArray) (left : List Int) (i : Int) : Bool := decide (i ∈ left) && (((Ze7 l s left i).length : Int) == (0 : Int))
theorem LineOk.ready (h : LineOk l s T left x) (hT : T.length ≤ 40) (i : Int) : Zbl x i = some (Zer l s left i) := by
 have hl : left.length ≤ 40 := Nat.le_trans h.len hT
 unfold Zbl Zer
 rw [h.hleft, Zig i (by omega), h.after hT]
 simp only [Option.bind_some, Ze4]
 by_cases hi : i ∈ left
 · simp [hi]
 · simp [hi]
theorem LineOk.done (h : LineOk l s T left x) (hT : T.length ≤ 40) (i : Int) : ∃ x', Zct x i = some (x', Zer l s left i) ∧ LineOk l s T (if Zer l s left i = true then left.filter (fun k => k != i) else left) x' := by
 have hl : left.length ≤ 40 := Nat.le_trans h.len hT
 unfold Zct Zd2
 rw [h.ready hT]
 simp only [Option.bind_some]
 by_cases hr : Zer l s left i = true
 · rw [hr, if_neg (by decide), h.hleft, Znz i (by omega)]
   refine ⟨{ x with left := left.filter (fun k => k != i) }, rfl, rfl, ?_, h.row⟩
   rw [if_pos rfl]
   conv => lhs; rw [h.part, List.filter_filter]
   apply List.filter_congr
   intro a _
   simp only [List.mem_filter, Bool.decide_and]
   cases (a != i) <;> simp
 · rw [eq_false_of_ne_true hr]
   exact ⟨x, rfl, by rw [if_neg (by decide)]; exact h⟩
theorem Zml : Zdr = some true := by kernel_rfl
theorem Rise.rest {l : List Ze} {T : List Int} (h : Rise l T) {i : Nat} {e : Int} (he : T[i]? = some e) : T.drop i = e :: T.drop (i + 1) ∧ ∀ a ∈ T.drop (i + 1), e < a := by
 have hi := (List.getElem?_eq_some_iff.1 he).1
 have hup := h.up
 rw [← List.take_append_drop i T] at hup
 obtain ⟨_, h2, _⟩ := List.pairwise_append.1 hup
 have hd : T.drop i = e :: T.drop (i + 1) := by
   rw [List.drop_eq_getElem_cons hi]
   congr 1
   rw [List.getElem?_eq_getElem hi] at he
   exact Option.some.inj he
 rw [hd] at h2
 exact ⟨hd, (List.pairwise_cons.1 h2).1⟩
theorem Zl6 {l : List Ze} {s : List ByteArray} (c : Ctx l s) {T left : List Int} (hT : Rise l T) {x : Z5} (h : LineOk l s T left x) : Z9 l s left x (Int.toNat ((l.length : Int) + 1 - (-1 : Int)) + 1) (-1 : Int) = some (.inr ()) := by
 have hTl : T.length ≤ 40 := Nat.le_trans hT.len c.len
 have hl : left.length ≤ 40 := Nat.le_trans h.len hTl
 have hll := c.len
 have main : ∀ (n j : Nat), j + n = l.length + 2 → Z9 l s left x (n + 1) ((j : Int) - 1) = some (.inr ()) := by
   intro n
   induction n with
   | zero =>
     intro j hj
     rw [Z9, decide_eq_false (by omega)]; rfl
   | succ n ih =>
     intro j hj
     rw [Z9, decide_eq_true (by omega), if_pos rfl, Zjd c (fun k hk => hT.rng k (h.mem hk)) hl, h.after hTl]
     show (Zcd (Ze7 l s left ((j : Int) - 1)) (Ze7 l s left ((j : Int) - 1))).bind _ = _
     have hw : (Ze7 l s left ((j : Int) - 1)).length ≤ 40 := by
       unfold Ze7
       split
       · exact Nat.le_trans (List.length_filter_le _ _) hl
       · simp
     rw [Zlp _ (by omega)]
     simp only [Option.bind_some, Bool.not_true, Bool.not_false, gd_t, h.ready hTl, Zjl ((j : Int) - 1) (show left.length < 1000000 by omega), Bool.false_or]
     rw [if_neg (by
       show ¬ (Zer l s left ((j : Int) - 1) != (decide (((j : Int) - 1) ∈ left) && (((Ze7 l s left ((j : Int) - 1)).length : Int) == (0 : Int)))) = true
       simp [Zer])]
     rw [show ((j : Int) - 1) + 1 = (j : Int) by omega, wr (by omega) (by omega)]
     have := ih (j + 1) (by omega)
     rw [show (((j + 1 : Nat) : Int) - 1) = (j : Int) by omega] at this
     exact this
 have := main (l.length + 2) 0 (by omega)
 rw [show Int.toNat ((l.length : Int) + 1 - (-1 : Int)) = l.length + 2 by omega]
 exact this
theorem LineWaits_true (a0 : List Ze) (a1 : List ByteArray) (a2 : List Int) (w0 : a0.length ≤ maxLen ∧ ∀ e0 ∈ a0, Zga e0) (w1 : a1.length ≤ maxLen ∧ ∀ e0 ∈ a1, e0.size ≤ maxLen) (w2 : a2.length ≤ maxLen ∧ ∀ e0 ∈ a2, (IntKind.i64).min ≤ e0 ∧ e0 ≤ (IntKind.i64).max) : Zc0 a0 a1 a2 = some true := by
 unfold Zc0
 rw [Zml]
 simp only [Option.bind_some, Bool.not_true, Bool.false_eq_true, if_false]
 obtain ⟨b, hb, hb2⟩ := Zoo a0
 rw [hb]
 simp only [Option.bind_some]
 split
 · rfl
 · rename_i hc
   simp only [Bool.or_eq_true, decide_eq_true_eq, not_or] at hc
   obtain ⟨⟨hc1, hc2⟩, hc3⟩ := hc
   obtain ⟨hl, hacts⟩ := hb2 hc1
   have c : Ctx a0 a1 := ⟨hl, hacts, by omega⟩
   obtain ⟨T, hT, hR, _⟩ := Zni hl ([] : List Bool)
   obtain ⟨x, hx, hx1, hx2⟩ := Znv c hR
   have hTl : T.length ≤ 40 := Nat.le_trans hR.len hl
   rw [hT]
   simp only [Option.bind_some]
   rw [hx]
   simp only [Option.bind_some]
   rw [if_pos (by simp only [List.length_cons, List.length_nil]; omega)]
   obtain ⟨st, _, h2⟩ := Zew ([(-1 : Int), (a0.length : Int)] ++ a2) (fun n (st : List Int × Z5) i => Zr a0 a1 a2 n st.1 st.2 i) (fun i st => LineOk a0 a1 T st.1 st.2) (fun _ => (.inr () : Bool ⊕ Unit)) (by simp only [List.length_append, List.length_cons, List.length_nil]; omega) (fun n i st e he hp => by
     have hlen : st.1.length ≤ 40 := Nat.le_trans hp.len hTl
     show ∃ st', _ ∧ Zr a0 a1 a2 (n + 1) st.1 st.2 (i : Int) = _
     rw [Zr, lt_i he, if_pos rfl, idxn, he]
     simp only [Option.bind_some, Zl6 c hR hp, Zjl e (show st.1.length < 1000000 by omega), Zjd c (fun k hk => hR.rng k (hp.mem hk)) hlen e, Ze4]
     obtain ⟨x', hd, hp'⟩ := hp.done hTl e
     rw [hd]
     simp only [Option.bind_some]
     have hrb : (decide (e ∈ st.1) && (((if decide (e ∈ st.1) = true then (if e ∈ st.1 then st.1.filter (mB a0 a1 e) else []) else default).length : Int) == (0 : Int))) = Zer a0 a1 st.1 e := by
       unfold Zer Ze7
       by_cases hm : e ∈ st.1 <;> simp [hm]
     rw [hrb, if_neg (by simp)]
     by_cases hr : Zer a0 a1 st.1 e = true
     · rw [if_pos hr, Zkw e (by omega)]
       rw [if_pos hr] at hp'
       refine ⟨(st.1.filter (fun k => k != e), x'), hp', ?_⟩
       simp only [Option.bind_some, Zbq, Zb8, hp'.hleft]
       rw [if_neg (by simp)]
     · rw [if_neg hr]
       rw [if_neg hr] at hp'
       refine ⟨(st.1, x'), hp', ?_⟩
       simp only [Option.bind_some, Zbq, Zb8, hp'.hleft]
       rw [if_neg (by simp)]) (fun n st hp => by
         show Zr a0 a1 a2 (n + 1) st.1 st.2 _ = _
         rw [Zr, lt_e]; rfl) (s0 := (T, x)) (LineOk.new hx1 hx2)
   have h2' : Zr a0 a1 a2 (Int.toNat (((([(-1 : Int), (a0.length : Int)] : List Int) ++ a2).length : Int) - (0 : Int)) + 1) T x (0 : Int) = some (.inr ()) := h2
   rw [h2']
   rfl
end Go.CL
namespace Go.CL
open Go Go.RowKit Go.Proofs Go.ChangeShapes Go.WideShapes Go.ChangeAt
theorem Zm6 : ownKnob Try.prog.godebug = none := by kernel_rfl
theorem Zhr : laidOutB Try.prog = true := by kernel_rfl
theorem op_3 : Opn Try.prog 3 (Kd.int .i64) (fun x => ((IntKind.i64).min ≤ x ∧ x ≤ (IntKind.i64).max)) := Zkb Try.underlying3 (by kernel_rfl)
theorem op_9 : Opn Try.prog 9 Kd.str (fun x => (x.size ≤ maxLen)) := Znh Try.underlying9 (by kernel_rfl)
theorem op_2 : Opn Try.prog 2 (Kd.int .i64) (fun x => ((IntKind.i64).min ≤ x ∧ x ≤ (IntKind.i64).max)) := Zkb Try.underlying2 (by kernel_rfl)
theorem Zkj : Opn Try.prog 44 Kd.flt (fun x => (x < 2 ^ 64)) := Zm9 Try.underlying44 (by kernel_rfl)
theorem Zoc : Opn Try.prog 67 Zca Zf7 := ⟨by kernel_rfl, fun hg h => by
 obtain ⟨hl, n, hf⟩ := Zfq Try.underlying67 h
 obtain ⟨y0, h0⟩ := hf 0 _ rfl
 obtain ⟨v0, k0, w0⟩ := Zkj.op hg h0
 obtain ⟨y1, h1⟩ := hf 1 _ rfl
 obtain ⟨v1, k1, w1⟩ := op_9.op hg h1
 refine ⟨⟨v0, v1⟩, ⟨hl.trans (by kernel_rfl), (List.forall_mem_cons.2 ⟨k0, (List.forall_mem_cons.2 ⟨k1, (fun _ h => by cases h)⟩)⟩)⟩, w0, w1⟩, fun h => Zf3 Try.underlying67 h⟩
theorem Zom : Opn Try.prog 45 Zca.sl (fun x => (x.length ≤ maxLen ∧ ∀ e0 ∈ x, (Zf7 e0))) := Zg3 Try.underlying45 (by kernel_rfl) Zoc (by decide)
theorem Zn6 : Opn Try.prog 47 Zco Zgr := ⟨by kernel_rfl, fun hg h => by
 obtain ⟨hl, n, hf⟩ := Zfq Try.underlying47 h
 obtain ⟨y0, h0⟩ := hf 0 _ rfl
 obtain ⟨v0, k0, w0⟩ := op_3.op hg h0
 obtain ⟨y1, h1⟩ := hf 1 _ rfl
 obtain ⟨v1, k1, w1⟩ := op_2.op hg h1
 obtain ⟨y2, h2⟩ := hf 2 _ rfl
 obtain ⟨v2, k2, w2⟩ := op_2.op hg h2
 obtain ⟨y3, h3⟩ := hf 3 _ rfl
 obtain ⟨v3, k3, w3⟩ := op_2.op hg h3
 obtain ⟨y4, h4⟩ := hf 4 _ rfl
 obtain ⟨v4, k4, w4⟩ := Zkj.op hg h4
 obtain ⟨y5, h5⟩ := hf 5 _ rfl
 obtain ⟨v5, k5, w5⟩ := op_3.op hg h5
 obtain ⟨y6, h6⟩ := hf 6 _ rfl
 obtain ⟨v6, k6, w6⟩ := op_9.op hg h6
 obtain ⟨y7, h7⟩ := hf 7 _ rfl
 obtain ⟨v7, k7, w7⟩ := Zom.op hg h7
 refine ⟨⟨v0, v1, v2, v3, v4, v5, v6, v7⟩, ⟨hl.trans (by kernel_rfl), (List.forall_mem_cons.2 ⟨k0, (List.forall_mem_cons.2 ⟨k1, (List.forall_mem_cons.2 ⟨k2, (List.forall_mem_cons.2 ⟨k3, (List.forall_mem_cons.2 ⟨k4, (List.forall_mem_cons.2 ⟨k5, (List.forall_mem_cons.2 ⟨k6, (List.forall_mem_cons.2 ⟨k7, (fun _ h => by cases h)⟩)⟩)⟩)⟩)⟩)⟩)⟩)⟩)⟩, w0, w1, w2, w3, w4, w5, w6, w7⟩, fun h => Zf3 Try.underlying47 h⟩
theorem op_4 : Opn Try.prog 4 Kd.bool (fun x => True) := Zl7 Try.underlying4 (by kernel_rfl)
theorem Zoa : Opn Try.prog 49 Zs Zgm := ⟨by kernel_rfl, fun hg h => by
 obtain ⟨hl, n, hf⟩ := Zfq Try.underlying49 h
 obtain ⟨y0, h0⟩ := hf 0 _ rfl
 obtain ⟨v0, k0, w0⟩ := op_3.op hg h0
 obtain ⟨y1, h1⟩ := hf 1 _ rfl
 obtain ⟨v1, k1, w1⟩ := op_9.op hg h1
 obtain ⟨y2, h2⟩ := hf 2 _ rfl
 obtain ⟨v2, k2, w2⟩ := op_2.op hg h2
 obtain ⟨y3, h3⟩ := hf 3 _ rfl
 obtain ⟨v3, k3, w3⟩ := Zkj.op hg h3
 obtain ⟨y4, h4⟩ := hf 4 _ rfl
 obtain ⟨v4, k4, w4⟩ := op_9.op hg h4
 obtain ⟨y5, h5⟩ := hf 5 _ rfl
 obtain ⟨v5, k5, w5⟩ := Zn6.op hg h5
 obtain ⟨y6, h6⟩ := hf 6 _ rfl
 obtain ⟨v6, k6, w6⟩ := op_4.op hg h6
 refine ⟨⟨v0, v1, v2, v3, v4, v5, v6⟩, ⟨hl.trans (by kernel_rfl), (List.forall_mem_cons.2 ⟨k0, (List.forall_mem_cons.2 ⟨k1, (List.forall_mem_cons.2 ⟨k2, (List.forall_mem_cons.2 ⟨k3, (List.forall_mem_cons.2 ⟨k4, (List.forall_mem_cons.2 ⟨k5, (List.forall_mem_cons.2 ⟨k6, (fun _ h => by cases h)⟩)⟩)⟩)⟩)⟩)⟩)⟩)⟩, w0, w1, w2, w3, w4, w5, w6⟩, fun h => Zf3 Try.underlying49 h⟩
theorem Zoj : Opn Try.prog 41 Zs.sl (fun x => (x.length ≤ maxLen ∧ ∀ e0 ∈ x, (Zgm e0))) := Zg3 Try.underlying41 (by kernel_rfl) Zoa (by decide)
theorem Zol : Opn Try.prog 43 Zh Zga := ⟨by kernel_rfl, fun hg h => by
 obtain ⟨hl, n, hf⟩ := Zfq Try.underlying43 h
 obtain ⟨y0, h0⟩ := hf 0 _ rfl
 obtain ⟨v0, k0, w0⟩ := Zoj.op hg h0
 refine ⟨⟨v0⟩, ⟨hl.trans (by kernel_rfl), (List.forall_mem_cons.2 ⟨k0, (fun _ h => by cases h)⟩)⟩, w0⟩, fun h => Zf3 Try.underlying43 h⟩
theorem Zn8 : Opn Try.prog 22 Zh.sl (fun x => (x.length ≤ maxLen ∧ ∀ e0 ∈ x, (Zga e0))) := Zg3 Try.underlying22 (by kernel_rfl) Zol (by decide)
theorem Zoi : Opn Try.prog 23 Kd.str.sl (fun x => (x.length ≤ maxLen ∧ ∀ e0 ∈ x, (e0.size ≤ maxLen))) := Zg3 Try.underlying23 (by kernel_rfl) op_9 (by decide)
theorem Zog : Opn Try.prog 24 (Kd.int .i64).sl (fun x => (x.length ≤ maxLen ∧ ∀ e0 ∈ x, ((IntKind.i64).min ≤ e0 ∧ e0 ≤ (IntKind.i64).max))) := Zg3 Try.underlying24 (by kernel_rfl) op_3 (by decide)
theorem LineWaits_ret (os : Os) (started : os.Started) (H : Type) (enc : TypeId × Value → H) :
   ReturnsInHanded {} Try.checked os 3 .any (Go.Proofs.Ytbepodihebbahaa.Rows.lineWaitsSpec.pre6 enc Try.prog Try.f3 Go.Proofs.Ytbepodihebbahaa.Rows.lineWaitsRow.domain false) (Go.Proofs.Ytbepodihebbahaa.Rows.lineWaitsSpec.post enc Try.prog Try.f3 false true false false) := by
 refine returnsInHanded_of_change (C := Try.checked) Zm6 started (by kernel_rfl) Try.func3
   (ChangeSpec.witness6 (enc := enc) (C := Try.checked) false ⟨#[], #[.slice none 0 0, .slice none 0 0, .slice none 0 0], []⟩ 8 (by kernel_rfl) (by kernel_rfl) (by kernel_rfl) (by kernel_rfl)) ?_
 intro W base args ds gs before hval0 hW hcnd _
 have hval : ∀ (j : Nat) t v, Try.f3.params[j]? = some t → args[j]? = some v → Value.okWide Try.prog W .any base t v := hval0
 have hW' := hW
 obtain ⟨p, q, hA0, hV, rfl, hfz, hnd⟩ := hW
 have hA : DataW.TrodAll enc Try.prog W 0 (fun _ => true) true Try.f3.params.toList args.toList ds p := hA0
 rw [Try.params3] at hA hval
 obtain ⟨v0, v1, v2, d0, d1, d2, p0, p1, p2, rfl, rfl, rfl, h0, h1, h2⟩ := trodAll_three hA
 obtain ⟨rfl, rfl⟩ := trodVars_none hV
 simp only [List.append_nil] at hW'
 have hg : GLok W (fun b _ => b < W.heap.size) := (Zmk rfl W _)
 have hk0 := h0
 obtain ⟨a0, q0, w0⟩ := Zi9 Zn8 hg h0 (hval 0 22 v0 rfl rfl)
 have hk1 := h1
 obtain ⟨a1, q1, w1⟩ := Zi9 Zoi hg h1 (hval 1 23 v1 rfl rfl)
 have hk2 := h2
 obtain ⟨a2, q2, w2⟩ := Zi9 Zog hg h2 (hval 2 24 v2 rfl rfl)
 refine (Zfv a0 a1 a2 (LineWaits_true a0 a1 a2 w0 w1 w2) (GW W hg) [v0, v1, v2] (Zdc q0 (Zdc q1 (Zdc q2 Zgo)))).mono fun e W' ⟨g', v, he, hw, hs, hq⟩ => ?_
 subst he; subst hw
 rw [Zcf.1 hq]
 have hbel := Zmd hs
 have hlt : ∀ x ∈ (p0 ++ p1 ++ p2), x.block < W.heap.size := fun x hx => by simpa using hW'.lt x hx
 exact ⟨_, rfl, Zix (pv := []) hW' hbel (trodAll_mk1 (shut_bool Try.underlying4 true)) (trodAll_mk3 (Below.trod Zhr (by kernel_rfl) (of_decide_eq_true (by kernel_rfl)) hk0 hbel (fun x hx => hlt x (by simp [hx]))) (Below.trod Zhr (by kernel_rfl) (of_decide_eq_true (by kernel_rfl)) hk1 hbel (fun x hx => hlt x (by simp [hx]))) (Below.trod Zhr (by kernel_rfl) (of_decide_eq_true (by kernel_rfl)) hk2 hbel (fun x hx => hlt x (by simp [hx])))) rfl⟩
theorem LineWaits_holds : Go.Proofs.Ytbepodihebbahaa.Rows.LineWaitsSaid :=
 OpenClaim.holds_of_wide 3 Try.f3 rfl rfl rfl rfl rfl rfl rfl ⟨rfl, rfl, rfl, rfl, rfl⟩ rfl rfl rfl rfl rfl (by kernel_rfl) Try.func3 (by kernel_rfl)
   (of_decide_eq_true (by kernel_rfl)) (by unfold Func.isWrapper; first | (rw [if_pos (by decide +kernel)]; kernel_rfl) | (rw [if_neg (by decide +kernel)]; exact ⟨rfl, rfl⟩))
   (fun os started H enc _ => LineWaits_ret os started H enc)
end Go.CL
