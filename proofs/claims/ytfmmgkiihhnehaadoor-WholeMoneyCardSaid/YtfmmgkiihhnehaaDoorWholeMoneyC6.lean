/- A part of the proof of WholeMoney. -/
import Derived.Test.YtfmmgkiihhnehaaDoorWholeMoneyC5
import Derived.KernelRfl
import Derived.Laws.Strings
set_option linter.unusedVariables false
set_option linter.unusedSimpArgs false
set_option maxRecDepth 100000
namespace Go.CL
open Go Go.RowKit Go.Proofs
theorem Zt9 (a0 : Zm) (a1 : Zm) {r : Bool} (h : Zjt a0 a1 = some r) : FnOk Tryd.prog 11 [(Zx.pd a0), (Zx.pd a1)] (Zbc r) := by
 have H0 := h
 unfold Zjt at H0
 clear h
 refine Zbs (N := 46) Tryd.func11 rfl rfl (Nat.le_of_ble_eq_true rfl) rfl rfl (fun a g0 hst hb => ?_)
 refine r_s (T := [⟨[.old 0], _, [], [], [2]⟩, ⟨[.old 1], _, [], [], [3]⟩, ⟨[], _, [], [], [4]⟩]) (F := [.op 0 0, .op 1 0]) hst hb Zb
   (o_p rfl (Zbl rfl rfl u_0) <| o_p rfl (Zbl rfl rfl u_0) <| o_p rfl (Zc rfl rfl c_b) <| o_n) (by kernel_rfl) (fun a g hst hb => ?_)
 refine wp_seq ?_
 obtain ⟨r1, h2, H0⟩ := Zh H0; obtain ⟨r3, h4, H0⟩ := Zh H0
 refine r_s (T := [⟨[.old 0], _, [], [], [12]⟩, ⟨[.op 0 0], _, [], [0], [13]⟩, ⟨[.old 1], _, [], [], [14]⟩, ⟨[.op 2 0], _, [], [0, 1, 2], [15]⟩, ⟨[.op 1 0, .op 3 0], _, [], Lr 4, [16]⟩]) (F := [.old 0, .old 1, .op 4 0]) hst hb Zb
   (o_p rfl (Zf Zbm rfl rfl u_0) <| o_p rfl (Zq Zp8 (Zfb _ h2) rfl rfl (.cons u_0 .nil)) <| o_p rfl (Zf Zbm rfl rfl u_0) <| o_p rfl (Zq Zp8 (Zfb _ h4) rfl rfl (.cons u_0 .nil)) <| o_p rfl (Zfg rfl rfl u_0 u_1) <| o_n) (by kernel_rfl) (fun a g hst hb => ?_)
 refine wp_cond_split (hst.bool 2 rfl) (fun hc5 => ?_) (fun hc5 => ?_)
 · replace H0 := Zz hc5 H0
   refine r_s (L := []) (T := [⟨[], _, [], [], [4]⟩]) (F := [.op 0 0]) (hst.pick [] rfl) hb Zb
     (o_p rfl (Zc rfl rfl c_b) <| o_n) (by kernel_rfl) (fun a g hst hb => ?_)
   refine wp_ret ?_
   refine Zr ?_
   obtain rfl := Option.some.inj H0
   exact Z3 rfl hst hb (Zl (s := 4)) (hst.at 0 rfl)
 · replace H0 := Z0 hc5 H0
   refine wp_skip ?_
   refine Zu ?_
   refine wp_seq ?_
   obtain ⟨r6, h7, H0⟩ := Zh H0
   refine r_s (L := [(2, _), (3, _)]) (T := [⟨[.old 0], _, [], [], [17]⟩, ⟨[.op 0 0], _, [], [0], [18]⟩, ⟨[], _, [], [], [19]⟩]) (F := [.old 0, .old 1, .op 1 0, .op 2 0]) (hst.pick [0, 1] rfl) hb Zb
     (o_p rfl (Zf Zbm rfl rfl u_0) <| o_p rfl (Zq Zp8 (Zfb _ h7) rfl rfl (.cons u_0 .nil)) <| o_p rfl (Za rfl rfl c_i) <| o_n) (by kernel_rfl) (fun a g hst hb => ?_)
   obtain ⟨z17, hz1, H0⟩ := Zh H0
   refine Zc2 (fun a w => ∃ (g : G), w = g.w ∧ St 46 [] a g ∧ Base g0 g ∧ (.inr ()) = z17) ?_ ?_
   · rintro a w ⟨g, rfl, hst, hb, rfl⟩
     refine Zu ?_
     refine r_s (T := [⟨[], _, [], [], [4]⟩]) (F := [.op 0 0]) hst hb Zb
       (o_p rfl (Zc rfl rfl c_b) <| o_n) (by kernel_rfl) (fun a g hst hb => ?_)
     refine wp_ret ?_
     obtain rfl := Option.some.inj H0
     exact Z3 rfl hst hb (Zl (s := 4)) (hst.at 0 rfl)
   · refine wp_block ?_
     refine wp_loop_ghost (fun n a w => ∃ (x8 : Int) (g : G), w = g.w ∧ St 46 [(2, (Zx.ptr a0)), (3, (Zx.ptr a1)), (18, (pInt .i64 r6)), (19, (pInt .i64 x8))] a g ∧ Base g0 g ∧ Zfv a0 a1 r6 n x8 = some z17) (Int.toNat (r6 - (0 : Int)) + 1) ⟨(0 : Int), g, rfl, (hst.pick [0, 1, 2, 3] rfl), hb, hz1⟩ (fun n a w hI => ?_)
     obtain ⟨x8, g, rfl, hst, hb, H1⟩ := hI
     cases n with
     | zero => exact absurd H1 (by simp [Zfv])
     | succ n =>
       rw [Zfv] at H1
       refine r_s (T := [⟨[.old 3, .old 2], _, [], [], [20]⟩]) (F := [.old 0, .old 1, .old 2, .old 3, .op 0 0]) hst hb Zb
         (o_p rfl (Zc1 rfl rfl u_0 u_1) <| o_n) (by kernel_rfl) (fun a g hst hb => ?_)
       refine wp_seq ?_
       refine wp_cond_split (hst.bool 4 rfl) (fun hc9 => ?_) (fun hc9 => ?_)
       · replace H1 := Zz hc9 H1
         refine wp_skip ?_
         refine Zu ?_
         refine wp_seq ?_
         refine wp_block ?_
         refine r_s (L := [(2, _), (3, _), (18, _), (19, _)]) (T := [⟨[.old 3], _, [], [], [21]⟩, ⟨[.op 0 0], _, [], [0], [5]⟩]) (F := [.old 0, .old 1, .op 1 0, .old 2, .old 3]) (hst.pick [0, 1, 2, 3] rfl) hb Zb
           (o_p rfl (Za rfl rfl u_0) <| o_p rfl (Zc rfl rfl u_0) <| o_n) (by kernel_rfl) (fun a g hst hb => ?_)
         obtain ⟨r10, h11, H1⟩ := Zh H1
         refine r_s (T := [⟨[.old 0], _, [], [], [23]⟩, ⟨[.old 2], _, [], [], [24]⟩, ⟨[.op 0 0, .op 1 0], _, [], [0, 1], [25]⟩, ⟨[.op 2 0], _, [], [0, 1, 2], [22]⟩, ⟨[.op 3 0], _, [], Lr 4, [26]⟩, ⟨[.op 3 0], _, [], Lr 4, [27]⟩, ⟨[.op 3 0], _, [], Lr 4, [28]⟩, ⟨[], [(7, (pBox Zi 7 (default : Zd)))], [8], [], [7]⟩, ⟨[.op 4 0], _, [], [0, 1, 2, 3, 4, 7], [6]⟩, ⟨[.op 5 0, .op 7 0], _, [8], [0, 1, 2, 3, 4, 5, 7, 8], [7]⟩, ⟨[.op 6 0], _, [], Lr 10, [8]⟩]) (F := [.old 0, .old 1, .old 2, .op 8 0, .op 9 0, .old 3, .old 4]) hst hb Zb
           (o_p rfl (Zf Zbm rfl rfl u_0) <| o_p rfl (Za rfl rfl u_0) <| o_p rfl (Zq Zzc (Zjy _ _ h11) rfl rfl (.cons u_0 (.cons u_1 .nil))) <| o_p rfl (Za rfl rfl u_0) <| o_p rfl (Z4 rfl rfl u_0 rfl) <| o_p rfl (Z4 rfl rfl u_0 rfl) <| o_p rfl (Z4 rfl rfl u_0 rfl) <| o_p rfl (Zbi (zs := [.int .i64 0, .int .i64 0, .int .i64 0, .int .i64 0, .float .f64 0, .int .i64 0, .string ByteArray.empty, .slice none 0 0]) (by kernel_rfl) (fun g => Zb5 g) rfl rfl) <| o_p rfl (Zc rfl rfl u_0) <| o_p rfl (Zb9 Zbf rfl rfl u_1 u_0) <| o_p rfl (Zc rfl rfl u_0) <| o_n) (by kernel_rfl) (fun a g hst hb => ?_)
         obtain ⟨r12, h13, H1⟩ := Zh H1
         refine r_s (T := [⟨[.old 1], _, [], [], [30]⟩, ⟨[.old 2], _, [], [], [31]⟩, ⟨[.op 0 0, .op 1 0], _, [], [0, 1], [32]⟩, ⟨[.op 2 0], _, [], [0, 1, 2], [29]⟩, ⟨[.op 3 0], _, [], Lr 4, [33]⟩, ⟨[.op 3 0], _, [], Lr 4, [34]⟩, ⟨[.op 3 0], _, [], Lr 4, [35]⟩, ⟨[], [(10, (pBox Zi 10 (default : Zd)))], [11], [], [10]⟩, ⟨[.op 4 0], _, [], [0, 1, 2, 3, 4, 7], [9]⟩, ⟨[.op 5 0, .op 7 0], _, [11], [0, 1, 2, 3, 4, 5, 7, 8], [10]⟩, ⟨[.op 6 0], _, [], Lr 10, [11]⟩]) (F := [.old 0, .old 1, .old 3, .old 4, .op 8 0, .op 9 0, .old 5, .old 6]) hst hb Zb
           (o_p rfl (Zf Zbm rfl rfl u_0) <| o_p rfl (Za rfl rfl u_0) <| o_p rfl (Zq Zzc (Zjy _ _ h13) rfl rfl (.cons u_0 (.cons u_1 .nil))) <| o_p rfl (Za rfl rfl u_0) <| o_p rfl (Z4 rfl rfl u_0 rfl) <| o_p rfl (Z4 rfl rfl u_0 rfl) <| o_p rfl (Z4 rfl rfl u_0 rfl) <| o_p rfl (Zbi (zs := [.int .i64 0, .int .i64 0, .int .i64 0, .int .i64 0, .float .f64 0, .int .i64 0, .string ByteArray.empty, .slice none 0 0]) (by kernel_rfl) (fun g => Zb5 g) rfl rfl) <| o_p rfl (Zc rfl rfl u_0) <| o_p rfl (Zb9 Zbf rfl rfl u_1 u_0) <| o_p rfl (Zc rfl rfl u_0) <| o_n) (by kernel_rfl) (fun a g hst hb => ?_)
         obtain ⟨r14, h15, H1⟩ := Zh H1
         refine r_s (T := [⟨[.old 2], _, [], [], [36]⟩, ⟨[.old 4], _, [], [], [37]⟩, ⟨[.op 0 0, .op 1 0], _, [], [0, 1], [38]⟩, ⟨[.op 2 0], _, [], [0, 1, 2], [39]⟩, ⟨[.op 3 0, .old 3], _, [], Lr 4, [40]⟩, ⟨[.op 3 0, .old 5], _, [], Lr 4, [41]⟩, ⟨[.op 3 0, .op 4 0, .op 5 0], _, [], Lr 6, [42]⟩, ⟨[.op 3 0, .op 6 0], _, [], Lr 7, [43]⟩, ⟨[.op 3 0, .op 7 0], _, [], Lr 8, [44]⟩]) (F := [.old 0, .old 1, .old 6, .old 7, .op 8 0]) hst hb Zb
           (o_p rfl (Za rfl rfl u_0) <| o_p rfl (Za rfl rfl u_0) <| o_p rfl (Z0g rfl rfl u_0 u_1) <| o_p rfl (Za rfl rfl u_0) <| o_g (g_f rfl rfl rfl (fun hG => Zf Zbf rfl rfl u_0)) <| o_g (g_f rfl rfl rfl (fun hG => Zf Zbf rfl rfl u_0)) <| o_g (g_f rfl rfl rfl (fun hG => Zq Z2j (Zqx _ _ (Zbv h15 hG)) rfl rfl (.cons (Opd.gd hG u_0) (.cons (Opd.gd hG u_1) .nil)))) <| o_g (g_f rfl rfl rfl (fun hG => Zcs rfl rfl (Opd.gd hG u_0))) <| o_p rfl (Zbx rfl rfl u_0 (fun hz => (Opd.gd (bNF hz) u_1))) <| o_n) (by kernel_rfl) (fun a g hst hb => ?_)
         refine wp_cond_split (hst.bool 4 rfl) (fun hc16 => ?_) (fun hc16 => ?_)
         · replace H1 := Zz hc16 H1
           refine r_s (L := []) (T := [⟨[], _, [], [], [4]⟩]) (F := [.op 0 0]) (hst.pick [] rfl) hb Zb
             (o_p rfl (Zc rfl rfl c_b) <| o_n) (by kernel_rfl) (fun a g hst hb => ?_)
           refine wp_ret ?_
           refine Z1 ?_
           refine Zr ?_
           refine Zr ?_
           refine Z1 ?_
           refine Zr ?_
           refine Zr ?_
           obtain rfl := Option.some.inj H1
           obtain rfl := Option.some.inj H0
           exact Z3 rfl hst hb (Zl (s := 4)) (hst.at 0 rfl)
         · replace H1 := Z0 hc16 H1
           refine wp_skip ?_
           refine Zbr ?_
           refine Zu ?_
           refine r_g (L := [(2, _), (3, _), (18, _), (19, _)]) (T := [⟨[.old 3], _, [], [], [45]⟩, ⟨[.op 0 0], _, [], [0], [19]⟩]) (F := [.old 0, .old 1, .old 2, .op 1 0]) (hst.pick [0, 1, 2, 3] rfl) hb Zb
             (o_p rfl (Zb8 rfl rfl u_0 c_i rfl) <| o_p rfl (Za rfl rfl u_0) <| o_n) (by kernel_rfl) (fun a g hst hb => ?_)
           exact ⟨n, Nat.lt_succ_self _, (IntKind.i64.wrap (x8 + (1 : Int))), g, rfl, (hst.pick [0, 1, 2, 3] rfl), hb, H1⟩
       · replace H1 := Z0 hc9 H1
         refine wp_exit ?_
         refine Zce ?_
         refine Zce ?_
         refine Zdc ?_
         exact ⟨g, rfl, (hst.pick [] rfl), hb, Option.some.inj H1⟩
theorem Zms (a0 : List Z2) (a1 : List Zbg) {r : Bool} (h : Zg9 a0 a1 = some r) : FnOk Tryd.prog 3 [(Zbt.sl.pd a0), (Zcb.sl.pd a1)] (Zbc r) := by
 have H0 := h
 unfold Zg9 at H0
 clear h
 refine Zbs (N := 83) Tryd.func3 rfl rfl (Nat.le_of_ble_eq_true rfl) rfl rfl (fun a g0 hst hb => ?_)
 refine r_s (T := [⟨[], _, [], [], [4]⟩]) (F := [.old 0, .old 1]) hst hb Zb
   (o_p rfl (Zc rfl rfl c_b) <| o_n) (by kernel_rfl) (fun a g hst hb => ?_)
 refine wp_seq ?_
 obtain ⟨r1, h2, H0⟩ := Zh H0
 refine r_s (T := [⟨[], _, [], [], [15]⟩, ⟨[.op 0 0], _, [], [0], [14]⟩, ⟨[.op 1 0], _, [], [0, 1], [16]⟩, ⟨[.op 1 0], _, [], [0, 1], [17]⟩, ⟨[], [(5, (pBox Zx 5 (default : Zm)))], [6], [], [5]⟩, ⟨[.op 2 0, .op 4 0], _, [6], [0, 1, 2, 4], [5]⟩, ⟨[.op 3 0], _, [], Lr 6, [6]⟩]) (F := [.old 0, .old 1, .op 5 0]) hst hb Zb
   (o_p rfl (Zq en_4 (Zpa _ h2) rfl rfl (.cons c_i .nil)) <| o_p rfl (Za rfl rfl u_0) <| o_p rfl (Z4 rfl rfl u_0 rfl) <| o_p rfl (Z4 rfl rfl u_0 rfl) <| o_p rfl (Zbi (zs := [.pointer none, .int .i64 0]) (by kernel_rfl) (fun g => Zdh g) rfl rfl) <| o_p rfl (Zb9 Zbm rfl rfl u_1 u_0) <| o_p rfl (Zc rfl rfl u_0) <| o_n) (by kernel_rfl) (fun a g hst hb => ?_)
 obtain ⟨r3, h4, H0⟩ := Zh H0
 refine r_s (T := [⟨[.old 2], _, [], [], [18]⟩, ⟨[.op 0 0], _, [], [0], [19]⟩, ⟨[.op 1 0], _, [], [0, 1], [20]⟩]) (F := [.old 0, .old 1, .op 2 0]) hst hb Zb
   (o_p rfl (Zf Zbm rfl rfl u_0) <| o_p rfl (Zq en_5 (Zov _ h4) rfl rfl (.cons u_0 .nil)) <| o_p rfl (Zfg rfl rfl u_0 c_i) <| o_n) (by kernel_rfl) (fun a g hst hb => ?_)
 refine wp_cond_split (hst.bool 2 rfl) (fun hc5 => ?_) (fun hc5 => ?_)
 · replace H0 := Zz hc5 H0
   refine r_s (L := []) (T := [⟨[], _, [], [], [4]⟩]) (F := [.op 0 0]) (hst.pick [] rfl) hb Zb
     (o_p rfl (Zc rfl rfl c_b) <| o_n) (by kernel_rfl) (fun a g hst hb => ?_)
   refine wp_ret ?_
   refine Zr ?_
   obtain rfl := Option.some.inj H0
   exact Z3 rfl hst hb (Zl (s := 4)) (hst.at 0 rfl)
 · replace H0 := Z0 hc5 H0
   refine wp_skip ?_
   refine Zu ?_
   obtain ⟨r6, h7, H0⟩ := Zh H0
   refine r_s (L := [(0, _), (1, _)]) (T := [⟨[.old 0], _, [], [], [22]⟩, ⟨[.op 0 0], _, [], [0], [23]⟩, ⟨[.op 1 0], _, [], [0, 1], [21]⟩, ⟨[.op 2 0], _, [], [0, 1, 2], [24]⟩, ⟨[.op 2 0], _, [], [0, 1, 2], [25]⟩, ⟨[], [(7, (pBox Zx 7 (default : Zm)))], [8], [], [7]⟩, ⟨[.op 3 0, .op 5 0], _, [8], [0, 1, 2, 3, 5], [7]⟩, ⟨[.op 4 0], _, [], Lr 7, [8]⟩]) (F := [.old 1, .op 6 0, .op 7 0]) (hst.pick [0, 1] rfl) hb Zb
     (o_p rfl (Za rfl rfl u_0) <| o_p rfl (Zq en_6 (Zok _ _ h7) rfl rfl (.cons c_i (.cons u_0 .nil))) <| o_p rfl (Za rfl rfl u_0) <| o_p rfl (Z4 rfl rfl u_0 rfl) <| o_p rfl (Z4 rfl rfl u_0 rfl) <| o_p rfl (Zbi (zs := [.pointer none, .int .i64 0]) (by kernel_rfl) (fun g => Zdh g) rfl rfl) <| o_p rfl (Z6 Zbm rfl rfl u_1 u_0) <| o_p rfl (Zc rfl rfl u_0) <| o_n) (by kernel_rfl) (fun a g hst hb => ?_)
   refine wp_seq ?_
   obtain ⟨r8, h9, H0⟩ := Zh H0
   refine r_s (T := [⟨[.old 2], _, [], [], [26]⟩, ⟨[.op 0 0], _, [], [0], [27]⟩, ⟨[.op 1 0], _, [], [0, 1], [28]⟩, ⟨[.op 2 0, .old 0], _, [], [0, 1, 2], [29]⟩, ⟨[.op 2 0, .op 3 0], _, [], Lr 4, [30]⟩, ⟨[.op 2 0, .op 4 0], _, [], Lr 5, [31]⟩]) (F := [.old 0, .old 1, .old 2, .op 5 0]) hst hb Zb
     (o_p rfl (Za rfl rfl u_0) <| o_p rfl (Znc Tryd.underlying31 rfl rfl u_0 Z0y) <| o_p rfl (Za rfl rfl u_0) <| o_g (g_f rfl rfl rfl (fun hG => Za rfl rfl u_0)) <| o_g (g_f rfl rfl rfl (fun hG => Zq en_7 (Zqh _ (Zbv h9 hG)) rfl rfl (.cons (Opd.gd hG u_0) .nil))) <| o_p rfl (Zbx rfl rfl u_0 (fun hz => (Opd.gd (bNF hz) u_1))) <| o_n) (by kernel_rfl) (fun a g hst hb => ?_)
   refine wp_cond_split (hst.bool 3 rfl) (fun hc10 => ?_) (fun hc10 => ?_)
   · replace H0 := Zz hc10 H0
     refine r_s (L := []) (T := [⟨[], _, [], [], [4]⟩]) (F := [.op 0 0]) (hst.pick [] rfl) hb Zb
       (o_p rfl (Zc rfl rfl c_b) <| o_n) (by kernel_rfl) (fun a g hst hb => ?_)
     refine wp_ret ?_
     refine Zr ?_
     obtain rfl := Option.some.inj H0
     exact Z3 rfl hst hb (Zl (s := 4)) (hst.at 0 rfl)
   · replace H0 := Z0 hc10 H0
     refine wp_skip ?_
     refine Zu ?_
     obtain ⟨r11, h12, H0⟩ := Zh H0
     refine r_s (L := [(1, _), (7, _), (8, _)]) (T := [⟨[.old 1], _, [], [], [32]⟩, ⟨[.op 0 0], _, [], [0], [33]⟩, ⟨[.op 1 0], _, [], [0, 1], [9]⟩]) (F := [.old 0, .old 1, .old 2, .op 2 0]) (hst.pick [0, 1, 2] rfl) hb Zb
       (o_p rfl (Zca Zbm rfl rfl u_0) <| o_p rfl (Zq en_8 (Zlr _ h12) rfl rfl (.cons u_0 .nil)) <| o_p rfl (Zc rfl rfl u_0) <| o_n) (by kernel_rfl) (fun a g hst hb => ?_)
     refine wp_seq ?_
     obtain ⟨r13, h14, H0⟩ := Zh H0
     refine r_s (T := [⟨[.old 0], _, [], [], [34]⟩, ⟨[.op 0 0], _, [], [0], [35]⟩, ⟨[.op 1 0], _, [], [0, 1], [36]⟩, ⟨[], _, [], [], [37]⟩]) (F := [.old 1, .old 2, .old 3, .op 1 0, .op 2 0, .op 3 0]) hst hb Zb
       (o_p rfl (Za rfl rfl u_0) <| o_p rfl (Zq en_9 (Zo5 _ h14) rfl rfl (.cons u_0 .nil)) <| o_p rfl (Zcj Tryd.underlying37 rfl rfl u_0) <| o_p rfl (Za rfl rfl c_i) <| o_n) (by kernel_rfl) (fun a g hst hb => ?_)
     obtain ⟨z28, hz1, H0⟩ := Zh H0
     refine Zc2 (fun a w => ∃ (y27 : Zm) (g : G), w = g.w ∧ St 83 [(7, (pBox Zx 7 y27)), (8, (Zbj.opt.pd r6.2))] a g ∧ Base g0 g ∧ (.inr y27) = z28) ?_ ?_
     · rintro a w ⟨y27, g, rfl, hst, hb, rfl⟩
       refine Zu ?_
       obtain ⟨r29, h30, H0⟩ := Zh H0; obtain ⟨n31, h32, H0⟩ := Zh H0
       refine r_s (T := [⟨[.old 0], _, [], [], [75]⟩, ⟨[.op 0 0], _, [], [0], [76]⟩, ⟨[.old 1], _, [], [], [77]⟩, ⟨[.op 2 0], _, [], [2], [78]⟩, ⟨[.op 3 0], _, [], [2, 3], [79]⟩, ⟨[.op 4 0], _, [], [2, 3, 4], [80]⟩, ⟨[.op 5 0], _, [], List.range' 2 4, [81]⟩, ⟨[.op 1 0, .op 6 0], _, [], Lr 7, [82]⟩, ⟨[.op 7 0], _, [], Lr 8, [4]⟩]) (F := [.op 8 0]) hst hb Zb
         (o_p rfl (Zca Zbm rfl rfl u_0) <| o_p rfl (Zq Zp8 (Zfb _ h30) rfl rfl (.cons u_0 .nil)) <| o_p rfl (Za rfl rfl u_0) <| o_p rfl (Zn rfl rfl (Opd.imp u_0 (fun _ _ h => Z11 h32 h)) (fun _ _ ⟨_, _, _, e, _⟩ => ⟨_, e⟩)) <| o_p rfl (Ze Zki rfl rfl u_0) <| o_p rfl (Zf Zm3 rfl rfl u_0) <| o_p rfl (Zcj Tryd.underlying22 rfl rfl u_0) <| o_p rfl (Zby rfl rfl u_0 u_1) <| o_p rfl (Zc rfl rfl u_0) <| o_n) (by kernel_rfl) (fun a g hst hb => ?_)
       refine wp_ret ?_
       obtain rfl := Option.some.inj H0
       exact Z3 rfl hst hb (Zl (s := 4)) (hst.at 0 rfl)
     · refine wp_block ?_
       refine wp_loop_ghost (fun n a w => ∃ (x15 : Zm) (x16 : Int) (g : G), w = g.w ∧ St 83 [(7, (pBox Zx 7 x15)), (8, (Zbj.opt.pd r6.2)), (9, (pInt .u64 r11)), (35, (Zdt.sl.pd r13)), (36, (pInt .i64 (r13.length : Int))), (37, (pInt .i64 x16))] a g ∧ Base g0 g ∧ Zcy r11 r13 n x15 x16 = some z28) (Int.toNat ((r13.length : Int) - (0 : Int)) + 1) ⟨r6.1, (0 : Int), g, rfl, (hst.pick [0, 1, 2, 3, 4, 5] rfl), hb, hz1⟩ (fun n a w hI => ?_)
       obtain ⟨x15, x16, g, rfl, hst, hb, H1⟩ := hI
       cases n with
       | zero => exact absurd H1 (by simp [Zcy])
       | succ n =>
         rw [Zcy] at H1
         refine r_s (T := [⟨[.old 5, .old 4], _, [], [], [38]⟩]) (F := [.old 0, .old 1, .old 2, .old 3, .old 4, .old 5, .op 0 0]) hst hb Zb
           (o_p rfl (Zc1 rfl rfl u_0 u_1) <| o_n) (by kernel_rfl) (fun a g hst hb => ?_)
         refine wp_seq ?_
         refine wp_cond_split (hst.bool 6 rfl) (fun hc17 => ?_) (fun hc17 => ?_)
         · replace H1 := Zz hc17 H1
           refine wp_skip ?_
           refine Zu ?_
           refine wp_seq ?_
           refine wp_block ?_
           obtain ⟨e18, h19, H1⟩ := Zh H1
           refine r_s (L := [(7, _), (8, _), (9, _), (35, _), (36, _), (37, _)]) (T := [⟨[.old 3, .old 5], _, [], [], [39]⟩, ⟨[.op 0 0], _, [], [0], [40]⟩, ⟨[], [(11, (pBox Zdt 11 (default : Zbu)))], [12], [], [11]⟩, ⟨[.op 1 0, .op 2 0], _, [12], [0, 1, 2], [11]⟩]) (F := [.old 0, .old 1, .old 2, .op 3 0, .old 3, .old 4, .old 5]) (hst.pick [0, 1, 2, 3, 4, 5] rfl) hb Zb
             (o_p rfl (Zb4 Tryd.underlying37 Z6j rfl rfl u_0 u_1 h19) <| o_p rfl (Zf Zux rfl rfl u_0) <| o_p rfl (Zbi (zs := [.slice none 0 0]) (by kernel_rfl) (fun g => Zww g) rfl rfl) <| o_p rfl (Zb9 Zux rfl rfl u_1 u_0) <| o_n) (by kernel_rfl) (fun a g hst hb => ?_)
           obtain ⟨r20, h21, H1⟩ := Zh H1
           refine r_s (T := [⟨[.old 0], _, [], [], [42]⟩, ⟨[.old 3], _, [], [], [43]⟩, ⟨[.op 0 0, .op 1 0], _, [], [0, 1], [44]⟩, ⟨[.op 2 0], _, [], [0, 1, 2], [41]⟩, ⟨[.op 3 0], _, [], Lr 4, [45]⟩, ⟨[.op 3 0], _, [], Lr 4, [46]⟩, ⟨[], [(12, (pBox Zx 12 (default : Zm)))], [13], [], [12]⟩, ⟨[], [(13, (pBox Zfn 13 (default : Zba)))], [14], [], [13]⟩, ⟨[.op 4 0, .op 6 0], _, [13], [0, 1, 2, 3, 4, 6, 7], [12]⟩, ⟨[.op 5 0, .op 7 0], _, [14], Lr 9, [13]⟩]) (F := [.old 0, .old 1, .old 2, .op 8 0, .op 9 0, .old 4, .old 5, .old 6]) hst hb Zb
             (o_p rfl (Zca Zbm rfl rfl u_0) <| o_p rfl (Zf Zux rfl rfl u_0) <| o_p rfl (Zq Z7o (Zw2 _ _ h21) rfl rfl (.cons u_0 (.cons u_1 .nil))) <| o_p rfl (Za rfl rfl u_0) <| o_p rfl (Z4 rfl rfl u_0 rfl) <| o_p rfl (Z4 rfl rfl u_0 rfl) <| o_p rfl (Zbi (zs := [.pointer none, .int .i64 0]) (by kernel_rfl) (fun g => Zdh g) rfl rfl) <| o_p rfl (Zbi (zs := [.int .i64 0, .int .i64 0, .slice none 0 0]) (by kernel_rfl) (fun g => Zub g) rfl rfl) <| o_p rfl (Zb9 Zbm rfl rfl u_1 u_0) <| o_p rfl (Zb9 Zmv rfl rfl u_1 u_0) <| o_n) (by kernel_rfl) (fun a g hst hb => ?_)
           refine wp_seq ?_
           obtain ⟨r22, h23, H1⟩ := Zh H1; obtain ⟨r24, h25, H1⟩ := Zh H1
           refine r_s (T := ⟨[.old 3], _, [], [], [47]⟩ :: ⟨[.op 0 0], _, [], [0], [48]⟩ :: ⟨[.old 2], _, [], [], [49]⟩ :: ⟨[.op 1 0, .op 2 0], _, [], [0, 1, 2], [50]⟩ :: ⟨[.op 3 0], _, [], Lr 4, [51]⟩ :: ⟨[.op 4 0, .old 4], _, [], Lr 5, [52]⟩ :: ⟨[.op 4 0, .op 5 0], _, [], Lr 6, [53]⟩ :: ⟨[.op 4 0, .op 6 0], _, [], Lr 7, [54]⟩ :: ⟨[.op 4 0, .op 7 0], _, [], Lr 8, [55]⟩ :: ⟨[.op 8 0, .old 4], _, [], Lr 9, [56]⟩ :: ⟨[.op 8 0, .op 9 0], _, [], Lr 10, [57]⟩ :: ⟨[.op 8 0, .op 10 0], _, [], Lr 11, [58]⟩ :: ⟨[.op 8 0, .op 11 0], _, [], Lr 12, [59]⟩ :: ⟨[.op 4 0, .op 8 0, .op 12 0], _, [], Lr 13, [60]⟩ :: ⟨[.op 4 0, .op 13 0], _, [], Lr 14, [61]⟩ :: ⟨[.op 14 0], _, [], Lr 15, [62]⟩ :: ⟨[.op 15 0, .old 4], _, [], Lr 16, [63]⟩ :: ⟨[.op 15 0, .op 16 0], _, [], Lr 17, [64]⟩ :: ⟨[.op 15 0, .op 17 0], _, [], Lr 18, [65]⟩ :: ⟨[.op 15 0, .op 18 0], _, [], Lr 19, [66]⟩ :: ⟨[.op 19 0, .old 0], _, [], Lr 20, [67]⟩ :: ⟨[.op 19 0, .old 3], _, [], Lr 20, [68]⟩ :: ⟨[.op 19 0, .op 20 0, .op 21 0], _, [], Lr 22, [69]⟩ :: ⟨[.op 19 0, .op 22 0], _, [], Lr 23, [70]⟩ :: ⟨[.op 15 0, .op 19 0, .op 23 0], _, [], Lr 24, [71]⟩ :: ⟨[.op 15 0, .op 24 0], _, [], Lr 25, [72]⟩ :: []) (F := [.old 0, .old 1, .old 2, .old 3, .old 5, .old 6, .old 7, .op 25 0]) hst hb Zb
             (o_p rfl (Zf Zbm rfl rfl u_0) <| o_p rfl (Zq en_8 (Zlr _ h23) rfl rfl (.cons u_0 .nil)) <| o_p rfl (Za rfl rfl u_0) <| o_p rfl (Zfg rfl rfl u_0 u_1) <| o_p rfl (Za rfl rfl u_0) <| o_g (g_f rfl rfl rfl (fun hG => Ze Zxe rfl rfl u_0)) <| o_g (g_f rfl rfl rfl (fun hG => Zf Zn9 rfl rfl (Opd.gd hG u_0))) <| o_g (g_f rfl rfl rfl (fun hG => Zby rfl rfl (Opd.gd hG u_0) c_i)) <| o_g (g_f rfl rfl rfl (fun hG => Za rfl rfl (Opd.gd hG u_0))) <| o_g (g_ti rfl rfl rfl (fun hG => Ze Z3x rfl rfl u_0)) <| o_g (g_ti rfl rfl rfl (fun hG => Zf Z6r rfl rfl (Opd.gd hG u_0))) <| o_g (g_ti rfl rfl rfl (fun hG => Zcj Tryd.underlying42 rfl rfl (Opd.gd hG u_0))) <| o_g (g_ti rfl rfl rfl (fun hG => Zfg rfl rfl (Opd.gd hG u_0) c_i)) <| o_g (g_f rfl rfl rfl (fun hG => Zbp rfl rfl (Opd.gd hG u_0) (fun hz => (Opd.gd (bA hG hz) u_1)))) <| o_p rfl (Zbx rfl rfl u_0 (fun hz => (Opd.gd (bNF hz) u_1))) <| o_p rfl (Za rfl rfl u_0) <| o_g (g_f rfl rfl rfl (fun hG => Ze Zxe rfl rfl u_0)) <| o_g (g_f rfl rfl rfl (fun hG => Zf Zn9 rfl rfl (Opd.gd hG u_0))) <| o_g (g_f rfl rfl rfl (fun hG => Zfg rfl rfl (Opd.gd hG u_0) c_i)) <| o_g (g_f rfl rfl rfl (fun hG => Za rfl rfl (Opd.gd hG u_0))) <| o_g (g_ti rfl rfl rfl (fun hG => Zca Zbm rfl rfl u_0)) <| o_g (g_ti rfl rfl rfl (fun hG => Zf Zbm rfl rfl u_0)) <| o_g (g_ti rfl rfl rfl (fun hG => Zq Z7z (Zt9 _ _ (Zbv h25 hG)) rfl rfl (.cons (Opd.gd hG u_0) (.cons (Opd.gd hG u_1) .nil)))) <| o_g (g_ti rfl rfl rfl (fun hG => Zcs rfl rfl (Opd.gd hG u_0))) <| o_g (g_f rfl rfl rfl (fun hG => Zbp rfl rfl (Opd.gd hG u_0) (fun hz => (Opd.gd (bA hG hz) u_1)))) <| o_p rfl (Zbx rfl rfl u_0 (fun hz => (Opd.gd (bNF hz) u_1))) <| o_n) (by kernel_rfl) (fun a g hst hb => ?_)
           refine wp_cond_split (hst.bool 7 rfl) (fun hc26 => ?_) (fun hc26 => ?_)
           · replace H1 := Zz hc26 H1
             refine r_s (L := []) (T := [⟨[], _, [], [], [4]⟩]) (F := [.op 0 0]) (hst.pick [] rfl) hb Zb
               (o_p rfl (Zc rfl rfl c_b) <| o_n) (by kernel_rfl) (fun a g hst hb => ?_)
             refine wp_ret ?_
             refine Zr ?_
             refine Z1 ?_
             refine Zr ?_
             refine Zr ?_
             refine Z1 ?_
             refine Zr ?_
             refine Zr ?_
             obtain rfl := Option.some.inj H1
             obtain rfl := Option.some.inj H0
             exact Z3 rfl hst hb (Zl (s := 4)) (hst.at 0 rfl)
           · replace H1 := Z0 hc26 H1
             refine wp_skip ?_
             refine Zu ?_
             refine r_g (L := [(7, _), (8, _), (9, _), (12, _), (35, _), (36, _), (37, _)]) (T := [⟨[.old 3], _, [], [], [73]⟩, ⟨[.op 0 0, .old 0], _, [8], [0], [7]⟩]) (F := [.op 1 0, .old 1, .old 2, .old 4, .old 5, .old 6]) (hst.pick [0, 1, 2, 3, 4, 5, 6] rfl) hb Zb
               (o_p rfl (Zf Zbm rfl rfl u_0) <| o_p rfl (Z6 Zbm rfl rfl u_1 u_0) <| o_n) (by kernel_rfl) (fun a g hst hb => ?_)
             refine Zbr ?_
             refine Zu ?_
             refine r_g (T := [⟨[.old 5], _, [], [], [74]⟩, ⟨[.op 0 0], _, [], [0], [37]⟩]) (F := [.old 0, .old 1, .old 2, .old 3, .old 4, .op 1 0]) hst hb Zb
               (o_p rfl (Zb8 rfl rfl u_0 c_i rfl) <| o_p rfl (Za rfl rfl u_0) <| o_n) (by kernel_rfl) (fun a g hst hb => ?_)
             exact ⟨n, Nat.lt_succ_self _, r20.1, (IntKind.i64.wrap (x16 + (1 : Int))), g, rfl, (hst.pick [0, 1, 2, 3, 4, 5] rfl), hb, H1⟩
         · replace H1 := Z0 hc17 H1
           refine wp_exit ?_
           refine Zce ?_
           refine Zce ?_
           refine Zdc ?_
           exact ⟨x15, g, rfl, (hst.pick [0, 1] rfl), hb, Option.some.inj H1⟩
end Go.CL
namespace Go.CL
open Go
def Zij (a0 : Zk) (a1 : ByteArray) : Option (Zk × Bool) := ((Zdn a0 a1).bind fun r1 => ((gd (!(decide ((a0.L.length : Int) ≤ r1))) (idx a0.L r1)).bind fun e3 => (if ((decide ((a0.L.length : Int) ≤ r1)) || (!sEq e3.Key a1)) then (some (a0, false)) else ((cut a0.L (0 : Int) r1).bind fun c6 => (if (([] : List Z2).length + c6.length) * 104 ≤ 140737488355328 then ((cut a0.L (IntKind.i64.wrap (r1 + (1 : Int))) (a0.L.length : Int)).bind fun c9 => (if ((([] : List Z2) ++ c6).length + c9.length) * 104 ≤ 140737488355328 then (some (({ L := ((([] : List Z2) ++ c6) ++ c9), Room := a0.Room } : Zk), true)) else none)) else none)))))
def Zfz (a0 : Zd) (a1 : Zd) : Nat → (Int) → Option ((Bool) ⊕ (Unit))
 | 0, _ => none
 | n + 1, x5 => (if (decide (x5 < (a0.List.length : Int))) then ((idx a0.List x5).bind fun e7 => ((idx a1.List x5).bind fun e9 => ((gd (!(!sEq e7.Name e9.Name)) (idx a0.List x5)).bind fun e11 => ((gd (!(!sEq e7.Name e9.Name)) (idx a1.List x5)).bind fun e13 => ((gd (!(!sEq e7.Name e9.Name)) (Zc9 e11.Score e13.Score)).bind fun r15 => (if ((!sEq e7.Name e9.Name) || (!r15)) then (some (.inl false)) else ((Zfz a0 a1 n) (IntKind.i64.wrap (x5 + (1 : Int)))))))))) else (some (.inr ())))
def Zkf (a0 : Zd) (a1 : Zd) : Option (Bool) := (if ((((((a0.Kind != a1.Kind) || (a0.Num != a1.Num)) || (a0.Low != a1.Low)) || (a0.High != a1.High)) || (a0.Cap != a1.Cap)) || (!sEq a0.Text a1.Text)) then (some false) else ((Zc9 a0.Real a1.Real).bind fun r2 => (if ((!r2) || ((a0.List.length : Int) != (a1.List.length : Int))) then (some false) else ((Zfz a0 a1 (Int.toNat ((a0.List.length : Int) - (0 : Int)) + 1) (0 : Int)).bind fun z18 => match z18 with | .inl r => some r | .inr () => (some true)))))
def Zii (a0 : Zk) (a1 : ByteArray) : Option (Zd × Bool) := ((Zdn a0 a1).bind fun r1 => ((gd (decide (r1 < (a0.L.length : Int))) (idx a0.L r1)).bind fun e3 => (if ((decide (r1 < (a0.L.length : Int))) && (sEq e3.Key a1)) then ((idx a0.L r1).bind fun e6 => (some (e6.Rec, true))) else (some (({ Kind := (0 : Int), Num := (0 : Int), Low := (0 : Int), High := (0 : Int), Real := (0 : Nat), Cap := (0 : Int), Text := ByteArray.empty, List := ([] : List Zj) } : Zd), false)))))
def Zen (a0 : Int) : Option (Int) := (if ((decide (a0 < (0 : Int))) || (decide ((21 : Int) < a0))) then (some (0 : Int)) else ((idx ([(0 : Int), (0 : Int), (0 : Int), (0 : Int), (0 : Int), (1 : Int), (1 : Int), (2 : Int), (3 : Int), (3 : Int), (4 : Int), (4 : Int), (4 : Int), (5 : Int), (6 : Int), (7 : Int), (7 : Int), (7 : Int), (8 : Int), (8 : Int), (8 : Int), (9 : Int)] : List Int) a0).bind fun e2 => (some e2)))
def Zpo (a0 : Int) : Option (ByteArray) := (if ((decide (a0 < (0 : Int))) || (decide ((21 : Int) < a0))) then (some (⟨#[]⟩ : ByteArray)) else ((idx ([(⟨#[]⟩ : ByteArray), (⟨#[109]⟩ : ByteArray), (⟨#[]⟩ : ByteArray), (⟨#[]⟩ : ByteArray), (⟨#[]⟩ : ByteArray), (⟨#[115]⟩ : ByteArray), (⟨#[115]⟩ : ByteArray), (⟨#[110]⟩ : ByteArray), (⟨#[110]⟩ : ByteArray), (⟨#[110]⟩ : ByteArray), (⟨#[110]⟩ : ByteArray), (⟨#[110]⟩ : ByteArray), (⟨#[110]⟩ : ByteArray), (⟨#[120]⟩ : ByteArray), (⟨#[120]⟩ : ByteArray), (⟨#[120]⟩ : ByteArray), (⟨#[120]⟩ : ByteArray), (⟨#[120]⟩ : ByteArray), (⟨#[115]⟩ : ByteArray), (⟨#[115]⟩ : ByteArray), (⟨#[115]⟩ : ByteArray), (⟨#[120, 115]⟩ : ByteArray)] : List ByteArray) a0).bind fun e2 => (some e2)))
def Zls (a1 : Int) (r1 : ByteArray) : Nat → (Int) → Option ((Bool) ⊕ (Unit))
 | 0, _ => none
 | n + 1, x3 => (if (decide (x3 < (r1.size : Int))) then ((sidx r1 x3).bind fun b5 => (if (b5 == a1) then (some (.inl true)) else ((Zls a1 r1 n) (IntKind.i64.wrap (x3 + (1 : Int)))))) else (some (.inr ())))
def Zee (a0 : Int) (a1 : Int) : Option (Bool) := ((Zpo a0).bind fun r1 => ((Zls a1 r1 (Int.toNat ((r1.size : Int) - (0 : Int)) + 1) (0 : Int)).bind fun z8 => match z8 with | .inl r => some r | .inr () => (some false)))
def Zew (a0 : Zv) : Option (Int) := (if ((decide (a0.Kind < (1 : Int))) || (decide ((21 : Int) < a0.Kind))) then (some (5 : Int)) else (if ((decide ((a0.Key.size : Int) < (1 : Int))) || (decide ((24 : Int) < (a0.Key.size : Int)))) then (some (1 : Int)) else ((Zee a0.Kind (110 : Int)).bind fun r3 => ((gd (!((!r3) && (a0.N != (0 : Int)))) (Zee a0.Kind (120 : Int))).bind fun r5 => ((gd ((!((!r3) && (a0.N != (0 : Int)))) && (!r5)) (Zc9 a0.X (0 : Nat))).bind fun r7 => ((gd (!(((!r3) && (a0.N != (0 : Int))) || ((!r5) && (!r7)))) (Zee a0.Kind (115 : Int))).bind fun r9 => (if ((((!r3) && (a0.N != (0 : Int))) || ((!r5) && (!r7))) || ((!r9) && (!sEq a0.S (⟨#[]⟩ : ByteArray)))) then (some (4 : Int)) else ((gd (a0.Kind != (1 : Int)) (Zkf a0.Make ({ Kind := (0 : Int), Num := (0 : Int), Low := (0 : Int), High := (0 : Int), Real := (0 : Nat), Cap := (0 : Int), Text := ByteArray.empty, List := ([] : List Zj) } : Zd))).bind fun r12 => (if ((a0.Kind != (1 : Int)) && (!r12)) then (some (4 : Int)) else ((Zen a0.Kind).bind fun r15 => ((gd (!((r15 == (1 : Int)) && (decide ((64 : Int) < (a0.S.size : Int))))) (Zen a0.Kind)).bind fun r17 => (if (((r15 == (1 : Int)) && (decide ((64 : Int) < (a0.S.size : Int)))) || ((r17 != (1 : Int)) && (decide ((16 : Int) < (a0.S.size : Int))))) then (some (3 : Int)) else (if (((a0.Kind == (10 : Int)) || (a0.Kind == (11 : Int))) && ((decide (a0.N < (0 : Int))) || (decide ((2305843009213693952 : Int) < a0.N)))) then (some (1 : Int)) else ((Zek a0.X).bind fun r21 => (if (!r21) then (some (4 : Int)) else (if (a0.Kind == (1 : Int)) then ((Zc3 a0.Make).bind fun r25 => (some r25)) else (some (0 : Int))))))))))))))))))
def Zfc (a0 : Zd) : Option (Zd) := (if (([] : List Zj).length + a0.List.length) * 24 ≤ 140737488355328 then (some ({ a0 with List := (([] : List Zj) ++ a0.List) })) else none)
def Zkd (a0 : Int) (a1 : Int) : Option (Bool) := (some ((((decide ((0 : Int) < a0)) && (decide ((0 : Int) < a1))) && (decide ((IntKind.i64.wrap (a0 + a1)) < (0 : Int)))) || (((decide (a0 < (0 : Int))) && (decide (a1 < (0 : Int)))) && (decide ((0 : Int) ≤ (IntKind.i64.wrap (a0 + a1)))))))
def Zkv (a0 : Nat) (a1 : Nat) : Option (Nat) := ((Zd5 a0 a1).bind fun r1 => (if r1 then (some a1) else (some a0)))
def Zk2 (a0 : Nat) (a1 : Nat) : Option (Nat) := ((Zd5 a1 a0).bind fun r1 => (if r1 then (some a1) else (some a0)))
def Zfe (a0 : Int) : Option (Nat) := (if (decide ((9223372036854775808 : Int) ≤ a0)) then (some (Int.toNat (IntKind.u64.wrap (a0 - (9223372036854775808 : Int))))) else (some (Int.toNat (IntKind.u64.wrap ((9223372036854775808 : Int) + (IntKind.u64.wrap ((IntKind.u64.wrap ((9223372036854775808 : Int) - (1 : Int))) - a0)))))))
def Zh8 (a0 : Nat) : Option (Int) := ((Zei a0).bind fun r1 => (if r1 then (some (IntKind.u64.wrap ((9223372036854775808 : Int) + (9221120237041090561 : Int)))) else (if (decide ((9223372036854775808 : Int) ≤ (a0 : Int))) then (some (IntKind.u64.wrap ((IntKind.u64.wrap ((9223372036854775808 : Int) - (1 : Int))) - (IntKind.u64.wrap ((a0 : Int) - (9223372036854775808 : Int)))))) else (some (IntKind.u64.wrap ((9223372036854775808 : Int) + (a0 : Int)))))))
def Zgb (a0 : List Zj) (a1 : ByteArray) : Nat → (Int) → Option ((Bool) ⊕ (Unit))
 | 0, _ => none
 | n + 1, x1 => (if (decide (x1 < (a0.length : Int))) then ((idx a0 x1).bind fun e3 => (if (sEq e3.Name a1) then (some (.inl true)) else ((Zgb a0 a1 n) (IntKind.i64.wrap (x1 + (1 : Int)))))) else (some (.inr ())))
def Zgp (a0 : List Zj) (a1 : ByteArray) : Option (Bool) := ((Zgb a0 a1 (Int.toNat ((a0.length : Int) - (0 : Int)) + 1) (0 : Int)).bind fun z6 => match z6 with | .inl r => some r | .inr () => (some false))
def Zhj (j30 : List Zj) : Option (List Zj) := (some j30)
def Zec (a0 : List Zj) (x3 : Int) (kk : (List Zj) → (Bool) → (Int) → Option ((List Zj) × Bool)) (j20 : List Zj) (j21 : Bool) : Option ((List Zj) × Bool) := ((idx a0 x3).bind fun e22 => (if (j20.length + ([e22] : List Zj).length) * 24 ≤ 140737488355328 then (kk (j20 ++ ([e22] : List Zj)) j21 (IntKind.i64.wrap (x3 + (1 : Int)))) else none))
def Zco (a0 : List Zj) (a1 : Zj) (a2 : Bool) : Nat → (List Zj) → (Bool) → (Int) → Option ((List Zj) × Bool)
 | 0, _, _, _ => none
 | n + 1, x1, x2, x3 => (if (decide (x3 < (a0.length : Int))) then ((gd (!a2) (idx a0 x3)).bind fun e5 => ((gd (!a2) (Zey e5 a1)).bind fun r7 => ((gd ((!((!a2) && r7)) && a2) (idx a0 x3)).bind fun e9 => ((idx a0 x3).bind fun e11 => ((gd ((sEq e11.Name a1.Name) && (!a2)) (idx a0 x3)).bind fun e13 => ((gd ((sEq e11.Name a1.Name) && (!a2)) (Zc9 e13.Score a1.Score)).bind fun r15 => (if ((!x2) && (!(((!a2) && r7) || (a2 && (sLt e9.Name a1.Name))))) then (if (!((sEq e11.Name a1.Name) && (a2 || r15))) then (if (x1.length + ([a1] : List Zj).length) * 24 ≤ 140737488355328 then (Zec a0 x3 (Zco a0 a1 a2 n) (x1 ++ ([a1] : List Zj)) true) else none) else (Zec a0 x3 (Zco a0 a1 a2 n) x1 true)) else (Zec a0 x3 (Zco a0 a1 a2 n) x1 x2)))))))) else (some (x1, x2)))
def Zf6 (a0 : List Zj) (a1 : Zj) (a2 : Bool) : Option (List Zj) := ((Zco a0 a1 a2 (Int.toNat ((a0.length : Int) - (0 : Int)) + 1) ([] : List Zj) false (0 : Int)).bind fun z27 => match z27 with | (y25, y26) => (if (!y26) then (if (y25.length + ([a1] : List Zj).length) * 24 ≤ 140737488355328 then (Zhj (y25 ++ ([a1] : List Zj))) else none) else (Zhj y25)))
def Zw (j65 : Zd) (j66 : Zg) : Option (Zd × Zg) := (some (j65, j66))
def Zjx (x43 : Int) (kk : (List Zj) → (Int) → Option (List Zj)) (j51 : List Zj) : Option (List Zj) := (kk j51 (IntKind.i64.wrap (x43 + (1 : Int))))
def Zd9 (a0 : Zd) (a1 : Zv) : Nat → (List Zj) → (Int) → Option (List Zj)
 | 0, _, _ => none
 | n + 1, x42, x43 => (if (decide (x43 < (a0.List.length : Int))) then ((idx a0.List x43).bind fun e45 => (if (!sEq e45.Name a1.S) then ((idx a0.List x43).bind fun e48 => (if (x42.length + ([e48] : List Zj).length) * 24 ≤ 140737488355328 then (Zjx x43 (Zd9 a0 a1 n) (x42 ++ ([e48] : List Zj))) else none)) else (Zjx x43 (Zd9 a0 a1 n) x42))) else (some x42))
def Zev (a0 : Zd) (j64 : List Zj) : Option (Zd × Zg) := (Zw ({ a0 with List := j64 }) ({ Code := (0 : Int), Num := (0 : Int), Rec := (default : Zd) } : Zg))
def Zb7 (a0 : Zd) (a1 : Zv) (j11 : Bool) : Option (Zd × Zg) := (if j11 then (if (decide (a0.Num < a1.N)) then (Zw a0 ({ ({ Code := (0 : Int), Num := (0 : Int), Rec := (default : Zd) } : Zg) with Code := (11 : Int) })) else (Zw a0 ({ Code := (0 : Int), Num := (0 : Int), Rec := (default : Zd) } : Zg))) else (if (a1.Kind == (10 : Int)) then (if (decide (a0.High < (IntKind.i64.wrap (a0.Num + a1.N)))) then (Zw a0 ({ ({ Code := (0 : Int), Num := (0 : Int), Rec := (default : Zd) } : Zg) with Code := (9 : Int) })) else (Zw ({ a0 with Num := (IntKind.i64.wrap (a0.Num + a1.N)) }) ({ Code := (0 : Int), Num := (0 : Int), Rec := (default : Zd) } : Zg))) else (if (a1.Kind == (11 : Int)) then (if (decide ((IntKind.i64.wrap (a0.Num - a1.N)) < a0.Low)) then (Zw a0 ({ ({ Code := (0 : Int), Num := (0 : Int), Rec := (default : Zd) } : Zg) with Code := (10 : Int) })) else (Zw ({ a0 with Num := (IntKind.i64.wrap (a0.Num - a1.N)) }) ({ Code := (0 : Int), Num := (0 : Int), Rec := (default : Zd) } : Zg))) else (if (a1.Kind == (13 : Int)) then ((Zkv a0.Real a1.X).bind fun r19 => (Zw ({ a0 with Real := r19 }) ({ Code := (0 : Int), Num := (0 : Int), Rec := (default : Zd) } : Zg))) else (if (a1.Kind == (14 : Int)) then ((Zk2 a0.Real a1.X).bind fun r22 => (Zw ({ a0 with Real := r22 }) ({ Code := (0 : Int), Num := (0 : Int), Rec := (default : Zd) } : Zg))) else (if (a1.Kind == (15 : Int)) then ((Zh8 (fadd a0.Real a1.X)).bind fun r25 => ((Zfe r25).bind fun r27 => (Zw ({ a0 with Real := r27 }) ({ Code := (0 : Int), Num := (0 : Int), Rec := (default : Zd) } : Zg)))) else (if (a1.Kind == (16 : Int)) then ((Zh8 (fmul a0.Real a1.X)).bind fun r30 => ((Zfe r30).bind fun r32 => (Zw ({ a0 with Real := r32 }) ({ Code := (0 : Int), Num := (0 : Int), Rec := (default : Zd) } : Zg)))) else (if (a1.Kind == (17 : Int)) then (Zw ({ a0 with Real := a1.X }) ({ Code := (0 : Int), Num := (0 : Int), Rec := (default : Zd) } : Zg)) else (if (a1.Kind == (18 : Int)) then ((Zgp a0.List a1.S).bind fun r36 => (if ((!r36) && (decide (a0.Cap ≤ (a0.List.length : Int)))) then (Zw a0 ({ ({ Code := (0 : Int), Num := (0 : Int), Rec := (default : Zd) } : Zg) with Code := (8 : Int) })) else ((Zf6 a0.List ({ Score := (0 : Nat), Name := a1.S } : Zj) true).bind fun r39 => (Zw ({ a0 with List := r39 }) ({ Code := (0 : Int), Num := (0 : Int), Rec := (default : Zd) } : Zg))))) else (if (a1.Kind == (19 : Int)) then ((Zd9 a0 a1 (Int.toNat ((a0.List.length : Int) - (0 : Int)) + 1) ([] : List Zj) (0 : Int)).bind fun z53 => match z53 with | y52 => (Zw ({ a0 with List := y52 }) ({ Code := (0 : Int), Num := (0 : Int), Rec := (default : Zd) } : Zg))) else (if (a1.Kind == (20 : Int)) then ((Zgp a0.List a1.S).bind fun r55 => (if (!r55) then (Zw a0 ({ ({ Code := (0 : Int), Num := (0 : Int), Rec := (default : Zd) } : Zg) with Code := (11 : Int) })) else (Zw a0 ({ Code := (0 : Int), Num := (0 : Int), Rec := (default : Zd) } : Zg)))) else (if (a1.Kind == (21 : Int)) then ((Zf6 a0.List ({ Score := a1.X, Name := a1.S } : Zj) false).bind fun r59 => (if (decide (a0.Cap < (r59.length : Int))) then ((cut r59 (0 : Int) a0.Cap).bind fun c62 => (Zev a0 c62)) else (Zev a0 r59))) else (Zw a0 ({ Code := (0 : Int), Num := (0 : Int), Rec := (default : Zd) } : Zg))))))))))))))
def Zbn (a0 : Zd) (a1 : Zv) : Option (Zd × Zg) := (if (a1.Kind == (5 : Int)) then (Zw ({ a0 with Text := a1.S }) ({ Code := (0 : Int), Num := (0 : Int), Rec := (default : Zd) } : Zg)) else (if (a1.Kind == (6 : Int)) then ((Zfc a0).bind fun r3 => (Zw ({ a0 with Text := a1.S }) ({ ({ Code := (0 : Int), Num := (0 : Int), Rec := (default : Zd) } : Zg) with Rec := r3 }))) else (if (a1.Kind == (7 : Int)) then (Zw ({ a0 with Num := (IntKind.i64.wrap (a0.Num + a1.N)) }) ({ Code := (0 : Int), Num := (0 : Int), Rec := (default : Zd) } : Zg)) else (if (a1.Kind == (8 : Int)) then ((Zkd a0.Num a1.N).bind fun r7 => (if r7 then (Zw a0 ({ ({ Code := (0 : Int), Num := (0 : Int), Rec := (default : Zd) } : Zg) with Code := (9 : Int) })) else (Zw ({ a0 with Num := (IntKind.i64.wrap (a0.Num + a1.N)) }) ({ Code := (0 : Int), Num := (0 : Int), Rec := (default : Zd) } : Zg)))) else (if (a1.Kind == (9 : Int)) then (Zb7 a0 a1 (a1.Kind == (9 : Int))) else (Zb7 a0 a1 (a1.Kind == (12 : Int))))))))
def Zg4 (a1 : Bool) (a2 : Zv) (r3 : Zd) (j18 : Int) : Option (Zd × Bool × Zg) := (if (j18 != (0 : Int)) then (some (r3, a1, ({ Code := j18, Num := (0 : Int), Rec := (default : Zd) } : Zg))) else (if (a2.Kind == (1 : Int)) then ((Zfc a2.Make).bind fun r21 => (some (r21, true, ({ Code := (0 : Int), Num := (0 : Int), Rec := (default : Zd) } : Zg)))) else (if (a2.Kind == (2 : Int)) then (some (({ Kind := (0 : Int), Num := (0 : Int), Low := (0 : Int), High := (0 : Int), Real := (0 : Nat), Cap := (0 : Int), Text := ByteArray.empty, List := ([] : List Zj) } : Zd), false, ({ Code := (0 : Int), Num := (0 : Int), Rec := (default : Zd) } : Zg))) else (if (a2.Kind == (3 : Int)) then (some (r3, a1, ({ Code := (0 : Int), Num := r3.Kind, Rec := (default : Zd) } : Zg))) else (if (a2.Kind == (4 : Int)) then ((Zfc r3).bind fun r26 => (some (r3, a1, ({ Code := (0 : Int), Num := (0 : Int), Rec := r26 } : Zg)))) else ((Zbn r3 a2).bind fun r28 => (some (r28.1, a1, r28.2))))))))
def Zg2 (a1 : Bool) (a2 : Zv) (r3 : Zd) (j14 : Int) : Option (Zd × Bool × Zg) := ((Zen a2.Kind).bind fun r15 => (if (((j14 == (0 : Int)) && (r15 != (0 : Int))) && (r15 != r3.Kind)) then (Zg4 a1 a2 r3 (5 : Int)) else (Zg4 a1 a2 r3 j14)))
def Zg8 (a1 : Bool) (a2 : Zv) (r3 : Zd) (j12 : Int) : Option (Zd × Bool × Zg) := (if ((((j12 == (0 : Int)) && (!a1)) && (a2.Kind != (1 : Int))) && (a2.Kind != (3 : Int))) then (Zg2 a1 a2 r3 (6 : Int)) else (Zg2 a1 a2 r3 j12))
def Zeo (a1 : Bool) (a2 : Zv) (r3 : Zd) (j10 : Int) : Option (Zd × Bool × Zg) := (if (((j10 == (0 : Int)) && (a2.Kind == (1 : Int))) && a1) then (Zg8 a1 a2 r3 (7 : Int)) else (Zg8 a1 a2 r3 j10))
def Zg7 (a1 : Bool) (a2 : Zv) (j2 : Zd) : Option (Zd × Bool × Zg) := ((Zfc j2).bind fun r3 => ((Zew a2).bind fun r5 => (if ((r5 == (0 : Int)) && a1) then ((Zc3 r3).bind fun r8 => (Zeo a1 a2 r3 r8)) else (Zeo a1 a2 r3 r5))))
def Zjw (a0 : Zd) (a1 : Bool) (a2 : Zv) : Option (Zd × Bool × Zg) := (if (!a1) then (Zg7 a1 a2 ({ Kind := (0 : Int), Num := (0 : Int), Low := (0 : Int), High := (0 : Int), Real := (0 : Nat), Cap := (0 : Int), Text := ByteArray.empty, List := ([] : List Zj) } : Zd)) else (Zg7 a1 a2 a0))
def Zfj (a0 : Zbu) : Nat → (Int) → Option ((Int × Int) ⊕ (Unit))
 | 0, _ => none
 | n + 1, x2 => (if (decide (x2 < (a0.Acts.length : Int))) then ((idx a0.Acts x2).bind fun e4 => ((Zew e4).bind fun r6 => (if (r6 != (0 : Int)) then (some (.inl (r6, (IntKind.i64.wrap (x2 + (1 : Int)))))) else ((Zfj a0 n) (IntKind.i64.wrap (x2 + (1 : Int))))))) else (some (.inr ())))
def Zjv (a0 : Zbu) : Option (Int × Int) := (if ((decide ((a0.Acts.length : Int) < (1 : Int))) || (decide ((12 : Int) < (a0.Acts.length : Int)))) then (some ((1 : Int), (0 : Int))) else ((Zfj a0 (Int.toNat ((a0.Acts.length : Int) - (0 : Int)) + 1) (0 : Int)).bind fun z9 => match z9 with | .inl r => some r | .inr () => (some ((0 : Int), (0 : Int)))))
def Zks (a0 : Zk) (a1 : Zv) : Option (Zk × Zg) := ((Zii a0 a1.Key).bind fun r1 => ((Zjw r1.1 r1.2 a1).bind fun r3 => (if (r3.2.2.Code != (0 : Int)) then (some (a0, r3.2.2)) else (if ((a1.Kind == (1 : Int)) && (decide (a0.Room ≤ (a0.L.length : Int)))) then (some (a0, ({ Code := (8 : Int), Num := (0 : Int), Rec := (default : Zd) } : Zg))) else (if (!r3.2.1) then ((Zij a0 a1.Key).bind fun r8 => (some (r8.1, r3.2.2))) else ((Zdw a0 a1.Key r3.1).bind fun r10 => (some (r10.1, r3.2.2))))))))
def Zfa (a0 : Zk) (a1 : Zbu) : Nat → (Zk) → (Zba) → (Zk) → (List Zg) → (Int) → Option ((Zk × Zba) ⊕ (Zk × Zba × Zk × (List Zg)))
 | 0, _, _, _, _, _ => none
 | n + 1, x4, x5, x6, x7, x8 => (if (decide (x8 < (a1.Acts.length : Int))) then ((idx a1.Acts x8).bind fun e10 => ((Zks x6 e10).bind fun r12 => ((gd (r12.2.Code != (0 : Int)) (idx a1.Acts x8)).bind fun e14 => (if ((r12.2.Code != (0 : Int)) && e14.Must) then (some (.inl (a0, ({ Code := r12.2.Code, At := (IntKind.i64.wrap (x8 + (1 : Int))), Answers := ([] : List Zg) } : Zba)))) else (if (x7.length + ([r12.2] : List Zg).length) * 104 ≤ 140737488355328 then ((Zfa a0 a1 n) x4 x5 r12.1 (x7 ++ ([r12.2] : List Zg)) (IntKind.i64.wrap (x8 + (1 : Int)))) else none))))) else (some (.inr (x4, x5, x6, x7))))
def Zm5 (a0 : Zk) (a1 : Zbu) : Option (Zk × Zba) := ((Zjv a1).bind fun r1 => (if (r1.1 != (0 : Int)) then (some (a0, ({ Code := r1.1, At := r1.2, Answers := ([] : List Zg) } : Zba))) else ((Zfa a0 a1 (Int.toNat ((a1.Acts.length : Int) - (0 : Int)) + 1) (default : Zk) (default : Zba) a0 ([] : List Zg) (0 : Int)).bind fun z22 => match z22 with | .inl r => some r | .inr (y18, y19, y20, y21) => (some (y20, ({ Code := (0 : Int), At := (0 : Int), Answers := y21 } : Zba))))))
def NANB : Nat := 9221120237041090561
def keyf (b : Nat) : Int := if isn b then 18444492273895866369 else if TOP ≤ b then 18446744073709551615 - b else b + 9223372036854775808
def Zbz (b : Nat) : Nat := if isn b then NANB else b
theorem Ztw {b : Nat} (hb : b < 18446744073709551616) : fneq b b = decide (isn b) := by
 unfold fneq
 show (Ieee.double.order b b != some .eq) = _
 by_cases h : isn b
 · rw [Zt7 (.inl h)]; simp [h]
 · obtain ⟨o, ho, _, he⟩ := Zoj hb hb h h
   rw [ho, he.2 rfl]; simp [h]
theorem Zh6 {b : Nat} (hb : b < 18446744073709551616) : Ze3 b = some (Zbz b) := by
 unfold Ze3 Zbz
 rw [Ztw hb]
 by_cases h : isn b
 · simp [h, Zoe, NANB]
 · simp [h]
theorem Z30 {b : Nat} (hb : b < 18446744073709551616) : (bAnd .u64 (b : Int) 9223372036854775808 != 0) = decide (TOP ≤ b) := by
 have h1 : (BitVec.ofInt 64 (b : Int) &&& BitVec.ofInt 64 9223372036854775808).toNat = b &&& 9223372036854775808 := by
   rw [BitVec.toNat_and]
   have e1 : (BitVec.ofInt 64 (b : Int)).toNat = b := by
     rw [show BitVec.ofInt 64 (b : Int) = BitVec.ofNat 64 b from rfl]
     simp; omega
   rw [e1]; rfl
 have h2 : b &&& 9223372036854775808 = (b.testBit 63).toNat * 9223372036854775808 := by
   apply Nat.eq_of_testBit_eq
   intro i
   rw [Nat.testBit_and, show (9223372036854775808 : Nat) = 2 ^ 63 from rfl, Nat.testBit_two_pow]
   by_cases hi : 63 = i
   · subst hi
     cases b.testBit 63
     · simp
     · rw [Bool.toNat_true, Nat.one_mul, Nat.testBit_two_pow]; simp
   · cases b.testBit 63
     · simp [hi]
     · rw [Bool.toNat_true, Nat.one_mul, Nat.testBit_two_pow]; simp [hi]
 have h3 : b.testBit 63 = decide (TOP ≤ b) := by
   rw [Nat.testBit_eq_decide_div_mod_eq]
   unfold TOP
   by_cases h : 9223372036854775808 ≤ b
   · have : b / 2 ^ 63 % 2 = 1 := by omega
     simp [this, h]
   · have : b / 2 ^ 63 % 2 = 0 := by omega
     simp [this, h]
 unfold bAnd
 show (IntKind.wrap .u64 ((BitVec.ofInt 64 (b : Int) &&& BitVec.ofInt 64 9223372036854775808).toNat : Int) != 0) = _
 rw [h1, h2, h3]
 by_cases h : TOP ≤ b
 · simp only [h, decide_true, Bool.toNat_true, Nat.one_mul]
   rfl
 · simp only [h, decide_false, Bool.toNat_false, Nat.zero_mul]
   rfl
theorem Z3p {b : Nat} (hb : b < 18446744073709551616) : bXor .u64 IntKind.u64.max (b : Int) = 18446744073709551615 - b := by
 have h1 : (BitVec.ofInt 64 18446744073709551615 ^^^ BitVec.ofInt 64 (b : Int)).toNat = 18446744073709551615 - b := by
   have e1 : BitVec.ofInt 64 18446744073709551615 = BitVec.allOnes 64 := by decide
   rw [e1, BitVec.allOnes_xor, BitVec.toNat_not]
   have e2 : (BitVec.ofInt 64 (b : Int)).toNat = b := by
     rw [show BitVec.ofInt 64 (b : Int) = BitVec.ofNat 64 b from rfl]
     simp; omega
   rw [e2]
 unfold bXor
 show IntKind.wrap .u64 ((BitVec.ofInt 64 18446744073709551615 ^^^ BitVec.ofInt 64 (b : Int)).toNat : Int) = _
 rw [h1]
 simp [IntKind.wrap, IntKind.signed, IntKind.bits]
 omega
theorem Z5r {b : Nat} (hb : b < 9223372036854775808) : bOr .u64 (b : Int) 9223372036854775808 = b + 9223372036854775808 := by
 have h1 : (BitVec.ofInt 64 (b : Int) ||| BitVec.ofInt 64 9223372036854775808).toNat = b + 9223372036854775808 := by
   rw [BitVec.toNat_or]
   have e1 : (BitVec.ofInt 64 (b : Int)).toNat = b := by
     rw [show BitVec.ofInt 64 (b : Int) = BitVec.ofNat 64 b from rfl]
     simp; omega
   rw [e1, show (BitVec.ofInt 64 9223372036854775808).toNat = 2 ^ 63 * 1 from rfl, Nat.or_comm]
   rw [← Nat.two_pow_add_eq_or_of_lt (by simpa using hb)]
   omega
 unfold bOr
 show IntKind.wrap .u64 ((BitVec.ofInt 64 (b : Int) ||| BitVec.ofInt 64 9223372036854775808).toNat : Int) = _
 rw [h1]
 simp [IntKind.wrap, IntKind.signed, IntKind.bits]
 omega
theorem Zrc {b : Nat} (hb : b < 18446744073709551616) : Zbz b < 18446744073709551616 := by
 unfold Zbz NANB; split <;> omega
theorem Zsd {b : Nat} (hb : b < 18446744073709551616) : Zkn b = some (keyf b) := by
 unfold Zkn
 rw [Zh6 hb]
 simp only [Option.bind_some]
 rw [Z30 (Zrc hb)]
 unfold keyf Zbz
 by_cases h : isn b
 · simp only [h, if_true]
   rfl
 · simp only [h, if_false]
   by_cases ht : TOP ≤ b
   · simp only [ht, decide_true, if_true]
     rw [Z3p hb]
   · simp only [ht, decide_false, if_false, Bool.false_eq_true]
     rw [Z5r (by unfold TOP at ht; omega)]
theorem Zl5 {a b : Nat} (ha : a < 18446744073709551616) (hb : b < 18446744073709551616) : Zh1 a b = some (decide (keyf a = keyf b)) := by
 unfold Zh1
 rw [Zsd ha, Zsd hb]
 simp [BEq.beq]
theorem Zsy {a b : Nat} (ha : a < 18446744073709551616) (hb : b < 18446744073709551616) : Zkh a b = some (decide (keyf a < keyf b)) := by
 unfold Zkh
 rw [Zsd ha, Zsd hb]
 simp
theorem Zoz {a : Nat} (ha : a < 18446744073709551616) : Ziu a = some (decide (a = Zbz a)) := by
 unfold Ziu
 rw [Zh6 ha]
 congr 1
 by_cases h : a = Zbz a
 · simp [← h]
 · have : (a : Int) ≠ (Zbz a : Int) := by omega
   simp [h, this]
theorem Zxf {a b : Nat} (ha : a < 18446744073709551616) (hb : b < 18446744073709551616) (na : ¬ isn a) (nb : ¬ isn b) : keyf a < keyf b ↔ (sg a < sg b ∨ (a = TOP ∧ b = 0)) := by
 unfold keyf
 rw [if_neg na, if_neg nb]
 unfold sg isn rg INF TOP at *
 split <;> split <;> omega
theorem Zyc {a b : Nat} (ha : a < 18446744073709551616) (hb : b < 18446744073709551616) (na : ¬ isn a) (nb : ¬ isn b) : feql a b = decide (sg a = sg b) := by
 unfold feql
 show (Ieee.double.order a b == some .eq) = _
 obtain ⟨o, ho, _, he⟩ := Zoj ha hb na nb
 rw [ho]
 by_cases h : sg a = sg b
 · rw [he.2 h]; simp [h]
 · have : o ≠ .eq := fun h' => h (he.1 h')
   simp [h, this]
theorem Z4j {a b : Nat} (ha : a < 18446744073709551616) (hb : b < 18446744073709551616) (na : ¬ isn a) (nb : ¬ isn b) : flss a b = decide (sg a < sg b) := by
 unfold flss
 show (Ieee.double.order a b == some .lt) = _
 obtain ⟨o, ho, hl, _⟩ := Zoj ha hb na nb
 rw [ho]
 by_cases h : sg a < sg b
 · rw [hl.2 h]; simp [h]
 · have : o ≠ .lt := fun h' => h (hl.1 h')
   simp [h, this]
theorem Z5p : Zfp 0 = some false := by kernel_rfl
theorem Z50 : Zfp TOP = some true := by kernel_rfl
theorem nan0 : ¬ isn 0 := by decide
theorem Zxu {a : Nat} (ha : a < 18446744073709551616) : sg a = sg 0 ↔ a = 0 ∨ a = TOP := by
 unfold sg TOP
 split <;> simp <;> omega
theorem Zn6 {a : Nat} (ha : a < 18446744073709551616) : Zei a = some (decide (isn a)) := by
 unfold Zei; rw [Ztw ha]
theorem Zmq {a b : Nat} (ha : a < 18446744073709551616) (hb : b < 18446744073709551616) : Zd5 a b = some (decide (keyf a < keyf b)) := by
 unfold Zd5
 rw [Zn6 ha, Zn6 hb]
 simp only [Option.bind_some]
 have kb : ∀ x, x < 18446744073709551616 → ¬ isn x → keyf x < 18444492273895866369 := by
   intro x hx nx
   unfold keyf
   rw [if_neg nx]
   unfold isn rg INF TOP at *
   split <;> omega
 have kn : ∀ x, isn x → keyf x = 18444492273895866369 := fun x h => by unfold keyf; rw [if_pos h]
 by_cases na : isn a
 · simp only [na, decide_true, if_true]
   by_cases nb : isn b
   · rw [kn a na, kn b nb]; simp
   · have := kb b hb nb
     rw [kn a na]; simp; omega
 · simp only [na, decide_false, Bool.false_eq_true, if_false]
   by_cases nb : isn b
   · have := kb a ha na
     rw [kn b nb]; simp [nb, this]
   · simp only [nb, decide_false, Bool.false_eq_true, if_false]
     rw [Zyc ha (by decide) na nan0, Zyc hb (by decide) nb nan0, Z4j ha hb na nb]
     by_cases hz : sg a = sg 0 ∧ sg b = sg 0
     · rw [if_pos (by simp [hz])]
       have hk := Zxf ha hb na nb
       have h0T : (0 : Nat) ≠ TOP := by decide
       rcases (Zxu ha).1 hz.1 with rfl | rfl <;> rcases (Zxu hb).1 hz.2 with rfl | rfl <;> simp only [Z5p, Z50, gd, Option.bind_some, if_true, if_false, Bool.false_eq_true, Option.some.injEq] <;> decide
     · rw [if_neg (by simpa using hz)]
       have hk := Zxf ha hb na nb
       congr 1
       apply decide_eq_decide.2
       rw [hk]
       constructor
       · intro h; exact .inl h
       · rintro (h | ⟨rfl, rfl⟩)
         · exact h
         · exact absurd ⟨rfl, rfl⟩ hz
theorem Zle {a b : Nat} (ha : a < 18446744073709551616) (hb : b < 18446744073709551616) : Zc9 a b = some (decide (keyf a = keyf b)) := by
 unfold Zc9
 rw [Zmq ha hb, Zmq hb ha]
 simp only [Option.bind_some, gd]
 by_cases h1 : keyf a < keyf b
 · have : keyf a ≠ keyf b := by omega
   simp [h1, this]
 · by_cases h2 : keyf b < keyf a
   · have : keyf a ≠ keyf b := by omega
     simp [h1, h2, this]
   · have : keyf a = keyf b := by omega
     simp [this]
theorem Zn4 {a : Nat} (ha : a < 18446744073709551616) : Zek a = some (decide (a = Zbz a)) := by
 unfold Zek
 rw [Zn6 ha]
 unfold Zbz NANB
 by_cases h : isn a
 · by_cases h2 : a = 9221120237041090561
   · simp [h, h2]
   · have : (a : Int) ≠ 9221120237041090561 := by omega
     simp [h, h2, this]
 · simp [h]
theorem wr {x : Int} (h1 : -9223372036854775808 ≤ x) (h2 : x ≤ 9223372036854775807) : IntKind.i64.wrap x = x := by
 rw [IntKind.wrap_i64]; omega
theorem wr1 {i : Nat} (h : i < 9223372036854775807) : IntKind.i64.wrap ((i : Int) + 1) = ((i + 1 : Nat) : Int) := by
 rw [wr (by omega) (by omega)]; omega
theorem Zzi (n : Int) : IntKind.u64.wrap n = n % 18446744073709551616 := by simp [IntKind.wrap, IntKind.bits, IntKind.signed]
theorem wru {x : Int} (h1 : 0 ≤ x) (h2 : x < 18446744073709551616) : IntKind.u64.wrap x = x := by rw [Zzi]; omega
theorem wrm {i : Nat} (h : i < 9223372036854775807) (h0 : 0 < i) : IntKind.i64.wrap ((i : Int) - 1) = ((i - 1 : Nat) : Int) := by
 rw [wr (by omega) (by omega)]; omega
theorem idxn {α : Type} (xs : List α) (i : Nat) : idx xs (i : Int) = xs[i]? := by
 unfold idx
 rw [if_pos (by omega)]
 simp
theorem Zc7 {α : Type} {xs : List α} {i : Nat} (h : i < xs.length) : idx xs (i : Int) = some xs[i] := by
 rw [idxn, List.getElem?_eq_getElem h]
theorem gd_t {β : Type} [Inhabited β] (x : Option β) : gd true x = x := rfl
theorem gd_f {β : Type} [Inhabited β] (x : Option β) : gd false x = some default := rfl
theorem Zlf {α : Type} {xs : List α} {l h : Nat} (h1 : l ≤ h) (h2 : h ≤ xs.length) : cut xs (l : Int) (h : Int) = some ((xs.drop l).take (h - l)) := by
 unfold cut
 rw [if_pos (by omega)]
 simp
theorem Zsf {a b : ByteArray} (h : a.toList = b.toList) : a = b := by
 rw [_root_.Go.ByteArray.toList_eq, _root_.Go.ByteArray.toList_eq] at h
 exact ByteArray.ext (Array.toList_inj.1 h)
theorem Zhd {a b : ByteArray} : sEq a b = true ↔ a = b := by
 unfold sEq
 constructor
 · intro h; exact Zsf (by simpa using h)
 · rintro rfl; simp
theorem Zex (a : ByteArray) : sEq a a = true := Zhd.2 rfl
theorem Zdx {a b : ByteArray} : sEq a b = false ↔ a ≠ b := by
 cases h : sEq a b
 · simp; intro e; rw [Zhd.2 e] at h; cases h
 · simp; exact Zhd.1 h
theorem Zz8 : ∀ l : List UInt8, Op.bytesLess l l = false
 | [] => rfl
 | x :: l => by simp [Op.bytesLess, Zz8 l]
theorem Zvh : ∀ {a b c : List UInt8}, Op.bytesLess a b = true → Op.bytesLess b c = true → Op.bytesLess a c = true
 | [], [], c, h, _ => by simp [Op.bytesLess] at h
 | [], y :: b, [], _, k => by simp [Op.bytesLess] at k
 | [], y :: b, z :: c, _, _ => rfl
 | x :: a, [], c, h, _ => by simp [Op.bytesLess] at h
 | x :: a, y :: b, [], _, k => by simp [Op.bytesLess] at k
 | x :: a, y :: b, z :: c, h, k => by
   simp only [Op.bytesLess, Bool.or_eq_true, Bool.and_eq_true, decide_eq_true_eq, beq_iff_eq] at h k ⊢
   rcases h with h | ⟨h1, h2⟩ <;> rcases k with k | ⟨k1, k2⟩
   · exact .inl (UInt8.lt_trans h k)
   · subst k1; exact .inl h
   · subst h1; exact .inl k
   · subst h1; subst k1; exact .inr ⟨rfl, Zvh h2 k2⟩
theorem Z07 : ∀ (a b : List UInt8), Op.bytesLess a b = false → a ≠ b → Op.bytesLess b a = true
 | [], [], _, h => absurd rfl h
 | [], y :: b, h, _ => by simp [Op.bytesLess] at h
 | x :: a, [], _, _ => rfl
 | x :: a, y :: b, h, hn => by
   simp only [Op.bytesLess, Bool.or_eq_false_iff, decide_eq_false_iff_not, Bool.and_eq_false_iff] at h
   simp only [Op.bytesLess, Bool.or_eq_true, Bool.and_eq_true, decide_eq_true_eq, beq_iff_eq]
   by_cases e : x = y
   · subst e
     right
     refine ⟨rfl, Z07 a b ?_ (fun h' => hn (by rw [h']))⟩
     rcases h.2 with h | h
     · simp at h
     · exact h
   · left
     rcases UInt8.lt_or_lt_of_ne e with h' | h'
     · exact absurd h' h.1
     · exact h'
theorem Zko (a : ByteArray) : sLt a a = false := Zz8 _
theorem Ze9 {a b c : ByteArray} (h : sLt a b = true) (k : sLt b c = true) : sLt a c = true := Zvh h k
theorem Zla {a b : ByteArray} (h : sLt a b = false) (hn : a ≠ b) : sLt b a = true := Z07 _ _ h (fun e => hn (Zsf e))
theorem Zrb {a b : ByteArray} (h : sLt a b = true) : sLt b a = false := by
 cases k : sLt b a
 · rfl
 · have := Ze9 h k
   rw [Zko] at this; cases this
theorem Zkx {a b : ByteArray} (h : sLt a b = true) : a ≠ b := fun e => by subst e; rw [Zko] at h; cases h
abbrev W64 : Nat := 18446744073709551616
structure Zg6 (a : Zd) : Prop where
 real : a.Real < W64
 len : a.List.length < 4611686018427387904
 sc : ∀ e ∈ a.List, e.Score < W64
def Zcv (a b : Zj) : Bool := if keyf a.Score = keyf b.Score then sLt a.Name b.Name else decide (keyf b.Score < keyf a.Score)
theorem Zmy {a b : Zj} (ha : a.Score < W64) (hb : b.Score < W64) : Zip a b = some (Zcv a b) := by
 unfold Zip Zcv
 rw [Zl5 ha hb, Zsy hb ha]
 by_cases h : keyf a.Score = keyf b.Score <;> simp [h]
theorem Zv5 {a b : Zj} (ha : a.Score < W64) (hb : b.Score < W64) : Zey a b = some (Zcv a b) := by
 unfold Zey Zcv
 rw [Zmq hb ha, Zle ha hb]
 by_cases h : keyf a.Score = keyf b.Score
 · simp [h]
 · by_cases h2 : keyf b.Score < keyf a.Score <;> simp [h, h2]
theorem Zx4 {a : Nat} (ha : a < W64) : Zf2 a = some (decide (keyf a = keyf 0)) := by
 unfold Zf2
 rw [Zle ha (by decide)]
 rfl
def Zgr (k : Int) (l : List Zj) (i : Nat) : Int :=
 match l[i]? with
 | none => 0
 | some x =>
   let p := (l[i - 1]?).getD default
   if (16 : Int) < x.Name.size then 3
   else if (k = 8 ∧ keyf x.Score ≠ keyf 0) ∨ x.Score ≠ Zbz x.Score then 4
   else if 0 < i ∧ k = 8 ∧ sLt p.Name x.Name = false then 4
   else if 0 < i ∧ k = 9 ∧ Zcv p x = false then 4
   else 0
theorem Z0m {k : Int} {l : List Zj} {i n : Nat} (hi : i < l.length) (hl : l.length < 4611686018427387904) (hs : ∀ e ∈ l, e.Score < W64) :
   Ze5 k l (n + 1) (i : Int) = if Zgr k l i = 0 then Ze5 k l n ((i + 1 : Nat) : Int) else some (.inl (Zgr k l i)) := by
 have hx : l[i].Score < W64 := hs _ (List.getElem_mem hi)
 rw [Ze5, if_pos (by simp; omega), Zc7 hi, wr1 (by omega)]
 simp only [Option.bind_some]
 rw [Zl5 hx (by decide), Zoz hx]
 simp only [Zgr, List.getElem?_eq_getElem hi]
 by_cases h1 : (16 : Int) < l[i].Name.size
 · simp [h1]
 · simp only [h1, decide_false, if_false, Bool.false_eq_true]
   have hz : ((0 : Nat) : Int) = 0 := rfl
   by_cases h0 : 0 < i
   · have hp : i - 1 < l.length := by omega
     have hps : l[i - 1].Score < W64 := hs _ (List.getElem_mem hp)
     have hd : (decide ((0 : Int) < (i : Int))) = true := by simp; omega
     rw [hd, wrm (by omega) h0, Zc7 hp]
     simp only [List.getElem?_eq_getElem hp, Option.getD_some, h0, true_and, Bool.true_and]
     by_cases h8 : k = 8
     · subst h8
       simp only [beq_self_eq_true, gd_t, Option.bind_some, true_and, Bool.true_and]
       by_cases hk : keyf l[i].Score = keyf 0
       · by_cases hc : l[i].Score = Zbz l[i].Score
         · simp [hk, ← hc, gd]
           cases sLt l[i - 1].Name l[i].Name <;> simp
         · simp [hk, hc, gd]
       · simp [hk, gd]
     · have h8' : (k == 8) = false := by simpa using h8
       simp only [h8', h8, gd_f, gd_t, Option.bind_some, false_and, false_or, Bool.false_and, Bool.not_false, Bool.false_or]
       by_cases hc : l[i].Score = Zbz l[i].Score
       · by_cases h9 : k = 9
         · subst h9
           simp [← hc, gd, Zmy hps hx]
           cases Zcv l[i - 1] l[i] <;> simp
         · simp [← hc, gd, h9]
       · simp [hc]
   · have h00 : i = 0 := by omega
     subst h00
     simp only [Nat.lt_irrefl, false_and, if_false, Int.ofNat_zero, Int.lt_irrefl, decide_false, Bool.false_and, gd_f, Option.bind_some, Int.natCast_zero]
     by_cases h8 : k = 8
     · subst h8
       simp only [beq_self_eq_true, gd_t, Option.bind_some, true_and, Bool.true_and]
       by_cases hk : keyf l[0].Score = keyf 0
       · by_cases hc : l[0].Score = Zbz l[0].Score
         · simp [hk, ← hc, gd]
         · simp [hk, hc, gd]
       · simp [hk, gd]
     · have h8' : (k == 8) = false := by simpa using h8
       simp only [h8', h8, gd_f, gd_t, Option.bind_some, false_and, false_or, Bool.false_and, Bool.not_false, Bool.false_or]
       by_cases hc : l[0].Score = Zbz l[0].Score
       · simp [← hc, gd]
       · simp [hc]
theorem Z12 {k : Int} {l : List Zj} {i : Nat} (hi : i < l.length) (hl : l.length < 4611686018427387904) (hs : ∀ e ∈ l, e.Score < W64) : Zhi k l (i : Int) = some (Zgr k l i) := by
 have hx : l[i].Score < W64 := hs _ (List.getElem_mem hi)
 unfold Zhi
 rw [Zc7 hi]
 simp only [Option.bind_some]
 rw [Zx4 hx, Zn4 hx]
 simp only [Zgr, List.getElem?_eq_getElem hi]
 by_cases h1 : (16 : Int) < l[i].Name.size
 · simp [h1]
 · simp only [h1, decide_false, if_false, Bool.false_eq_true]
   by_cases h0 : 0 < i
   · have hp : i - 1 < l.length := by omega
     have hps : l[i - 1].Score < W64 := hs _ (List.getElem_mem hp)
     have hd : (decide ((0 : Int) < (i : Int))) = true := by simp; omega
     rw [hd, wrm (by omega) h0, Zc7 hp]
     simp only [List.getElem?_eq_getElem hp, Option.getD_some, h0, true_and, Bool.true_and]
     by_cases h8 : k = 8
     · subst h8
       simp only [beq_self_eq_true, gd_t, Option.bind_some, true_and, Bool.true_and]
       by_cases hk : keyf l[i].Score = keyf 0
       · by_cases hc : l[i].Score = Zbz l[i].Score
         · simp [hk, ← hc, gd]
           cases sLt l[i - 1].Name l[i].Name <;> simp
         · simp [hk, hc, gd]
       · simp [hk, gd]
     · have h8' : (k == 8) = false := by simpa using h8
       simp only [h8', h8, gd_f, gd_t, Option.bind_some, false_and, false_or, Bool.false_and, Bool.not_false, Bool.false_or]
       by_cases hc : l[i].Score = Zbz l[i].Score
       · by_cases h9 : k = 9
         · subst h9
           simp [← hc, gd, Zv5 hps hx]
           cases Zcv l[i - 1] l[i] <;> simp
         · simp [← hc, gd, h9]
       · simp [hc]
   · have h00 : i = 0 := by omega
     subst h00
     simp only [Nat.lt_irrefl, false_and, if_false, Int.ofNat_zero, Int.lt_irrefl, decide_false, Bool.false_and, gd_f, Option.bind_some, Int.natCast_zero]
     by_cases h8 : k = 8
     · subst h8
       simp only [beq_self_eq_true, gd_t, Option.bind_some, true_and, Bool.true_and]
       by_cases hk : keyf l[0].Score = keyf 0
       · by_cases hc : l[0].Score = Zbz l[0].Score
         · simp [hk, ← hc, gd]
         · simp [hk, hc, gd]
       · simp [hk, gd]
     · have h8' : (k == 8) = false := by simpa using h8
       simp only [h8', h8, gd_f, gd_t, Option.bind_some, false_and, false_or, Bool.false_and, Bool.not_false, Bool.false_or]
       by_cases hc : l[0].Score = Zbz l[0].Score
       · simp [← hc, gd]
       · simp [hc]
def Zht (k : Int) (l : List Zj) : Nat → Nat → Int
 | _, 0 => 0
 | i, n + 1 => if Zgr k l i = 0 then Zht k l (i + 1) n else Zgr k l i
def endC (c : Int) : Int ⊕ Unit := if c = 0 then .inr () else .inl c
theorem Zrk {k : Int} {l : List Zj} {i n : Nat} (h : Zgr k l i = 0) : Zht k l i (n + 1) = Zht k l (i + 1) n := by simp [Zht, h]
theorem Zri {k : Int} {l : List Zj} {i n : Nat} (h : ¬ Zgr k l i = 0) : Zht k l i (n + 1) = Zgr k l i := by simp [Zht, h]
theorem Zzu {c : Int} (h : ¬ c = 0) : endC c = .inl c := if_neg h
theorem Zrn {k : Int} {l : List Zj} (hl : l.length < 4611686018427387904) (hs : ∀ e ∈ l, e.Score < W64) : ∀ (n i : Nat), i + n = l.length →
   Ze5 k l (n + 1) (i : Int) = some (endC (Zht k l i n))
 | 0, i, h => by
   rw [Ze5, if_neg (by simp; omega)]
   rfl
 | n + 1, i, h => by
   rw [Z0m (by omega) hl hs]
   by_cases hc : Zgr k l i = 0
   · rw [if_pos hc, Zrk hc, Zrn hl hs n (i + 1) (by omega)]
   · rw [if_neg hc, Zri hc, Zzu hc]
theorem Z1j {k : Int} {l : List Zj} (hl : l.length < 4611686018427387904) (hs : ∀ e ∈ l, e.Score < W64) : Zlm k l = some (Zht k l 0 l.length) := by
 unfold Zlm
 rw [show (Int.toNat ((l.length : Int) - (0 : Int)) + 1) = l.length + 1 by omega, show (0 : Int) = ((0 : Nat) : Int) from rfl, Zrn hl hs l.length 0 (by omega)]
 unfold endC
 by_cases h : Zht k l 0 l.length = 0 <;> simp [h]
theorem Zq0 {a : Zd} (ha : Zg6 a) : ∀ (n i : Nat), i + n = a.List.length →
   Zdj a (n + 1) (i : Int) = some (endC (Zht a.Kind a.List i n))
 | 0, i, h => by
   rw [Zdj, if_neg (by simp; omega)]
   rfl
 | n + 1, i, h => by
   have hl := ha.len
   rw [Zdj, if_pos (by simp; omega), Z12 (by omega) hl ha.sc, wr1 (by omega)]
   simp only [Option.bind_some]
   by_cases hc : Zgr a.Kind a.List i = 0
   · rw [if_neg (by simp [hc]), Zrk hc, Zq0 ha n (i + 1) (by omega)]
   · rw [if_pos (by simp [hc]), Zri hc, Zzu hc]
def Zga (t n b r l : Bool) (a : Zd) : Bool := (t || sEq a.Text ⟨#[]⟩) && (n || a.Num == 0) && (b || (a.Low == 0 && a.High == 0)) && (r || decide (keyf a.Real = keyf 0)) && (l || (a.Cap == 0 && (a.List.length : Int) == 0))
theorem Z3h {a : Zd} (ha : Zg6 a) (t n b r l : Bool) : Zmp a ⟨t, n, b, r, l⟩ = some (Zga t n b r l a) := by
 unfold Zmp Zga
 rw [Zl5 ha.real (by decide)]
 simp only
 generalize sEq a.Text ⟨#[]⟩ = x1
 generalize (a.Num == 0) = x2
 generalize (a.Low == 0) = x3
 generalize (a.High == 0) = x4
 generalize decide (keyf a.Real = keyf 0) = x5
 generalize (a.Cap == 0) = x6
 generalize ((a.List.length : Int) == 0) = x7
 revert t n b r l x1 x2 x3 x4 x5 x6 x7
 decide
theorem Z3v {a : Zd} (ha : Zg6 a) {s : ByteArray} {t n b r l : Bool} (h : Zcd s (Int.toNat ((s.size : Int) - (0 : Int)) + 1) false false false false false 0 = some (t, n, b, r, l)) : Zhf a s = some (Zga t n b r l a) := by
 unfold Zhf Zga
 rw [h, Zx4 ha.real]
 simp only [Option.bind_some, bne]
 generalize sEq a.Text ⟨#[]⟩ = x1
 generalize (a.Num == 0) = x2
 generalize (a.Low == 0) = x3
 generalize (a.High == 0) = x4
 generalize decide (keyf a.Real = keyf 0) = x5
 generalize (a.Cap == 0) = x6
 generalize ((a.List.length : Int) == 0) = x7
 clear h
 revert t n b r l x1 x2 x3 x4 x5 x6 x7
 decide
theorem Z7c : Zcd ⟨#[116]⟩ (Int.toNat (((⟨#[116]⟩ : ByteArray).size : Int) - (0 : Int)) + 1) false false false false false 0 = some (true, false, false, false, false) := by kernel_rfl
theorem Z2l : Zcd ⟨#[110]⟩ (Int.toNat (((⟨#[110]⟩ : ByteArray).size : Int) - (0 : Int)) + 1) false false false false false 0 = some (false, true, false, false, false) := by kernel_rfl
theorem Z55 : Zcd ⟨#[110, 98]⟩ (Int.toNat (((⟨#[110, 98]⟩ : ByteArray).size : Int) - (0 : Int)) + 1) false false false false false 0 = some (false, true, true, false, false) := by kernel_rfl
theorem Zyy : Zcd ⟨#[114]⟩ (Int.toNat (((⟨#[114]⟩ : ByteArray).size : Int) - (0 : Int)) + 1) false false false false false 0 = some (false, false, false, true, false) := by kernel_rfl
theorem Z2o : Zcd ⟨#[108]⟩ (Int.toNat (((⟨#[108]⟩ : ByteArray).size : Int) - (0 : Int)) + 1) false false false false false 0 = some (false, false, false, false, true) := by kernel_rfl
def Znm (t n b r l : Bool) (a : Zd) : Int :=
 if Zga t n b r l a = false then 4
 else if (64 : Int) < a.Text.size then 3
 else if b = true ∧ (a.Low < -2305843009213693952 ∨ 2305843009213693952 < a.High ∨ a.Num < a.Low ∨ a.High < a.Num) then 1
 else if a.Real ≠ Zbz a.Real then 4
 else if l = false then 0
 else if a.Cap < 1 ∨ 32 < a.Cap then 1
 else if a.Cap < a.List.length then 8
 else Zht a.Kind a.List 0 a.List.length
theorem Zfh {a : Zd} (ha : Zg6 a) {t n b r l : Bool} (hk : ¬ (a.Kind ≤ 0 ∨ 10 ≤ a.Kind)) (hs : Zds a.Kind = some ⟨t, n, b, r, l⟩) : Zdq a = some (Znm t n b r l a) := by
 unfold Zdq Znm
 rw [hs]
 simp only [Option.bind_some]
 rw [Z3h ha, Zoz ha.real, Z1j ha.len ha.sc]
 simp only [Option.bind_some]
 rw [if_neg (by simpa using hk)]
 by_cases h1 : Zga t n b r l a = false
 · rw [if_pos h1, if_pos (by simp [h1])]
 · rw [if_neg h1, if_neg (by simpa using h1)]
   by_cases h2 : (64 : Int) < a.Text.size
   · rw [if_pos h2, if_pos (by simpa using h2)]
   · rw [if_neg h2, if_neg (by simpa using h2)]
     by_cases h3 : b = true ∧ (a.Low < -2305843009213693952 ∨ 2305843009213693952 < a.High ∨ a.Num < a.Low ∨ a.High < a.Num)
     · rw [if_pos h3, if_pos (by simpa [or_assoc] using h3)]
     · rw [if_neg h3, if_neg (by simpa [or_assoc] using h3)]
       by_cases h4 : a.Real = Zbz a.Real
       · rw [if_neg (show ¬ (a.Real ≠ Zbz a.Real) from fun h => h h4), decide_eq_true h4]
         simp only [Bool.not_true, Bool.false_eq_true, if_false]
         cases l
         · simp
         · simp only [Bool.not_true, Bool.false_eq_true, if_false, Bool.true_eq_false]
           by_cases h5 : a.Cap < 1 ∨ 32 < a.Cap
           · rw [if_pos h5, if_pos (by simpa using h5)]
           · rw [if_neg h5, if_neg (by simpa using h5)]
             by_cases h6 : a.Cap < a.List.length
             · rw [if_pos h6, if_pos (by simpa using h6)]
             · rw [if_neg h6, if_neg (by simpa using h6)]
       · rw [if_pos (show a.Real ≠ Zbz a.Real from h4), decide_eq_false h4]
         rfl
theorem Z0s : Zds 1 = some ⟨true, false, false, false, false⟩ := by kernel_rfl
theorem Zzm : Zds 2 = some ⟨false, true, false, false, false⟩ := by kernel_rfl
theorem Z0e : Zds 3 = some ⟨false, true, false, false, false⟩ := by kernel_rfl
theorem Z03 : Zds 4 = some ⟨false, true, true, false, false⟩ := by kernel_rfl
theorem Z0x : Zds 5 = some ⟨false, false, false, true, false⟩ := by kernel_rfl
theorem Zz5 : Zds 6 = some ⟨false, false, false, true, false⟩ := by kernel_rfl
theorem Z0a : Zds 7 = some ⟨false, false, false, true, false⟩ := by kernel_rfl
theorem Z0q : Zds 8 = some ⟨false, false, false, false, true⟩ := by kernel_rfl
theorem Z0l : Zds 9 = some ⟨false, false, false, false, true⟩ := by kernel_rfl
def Zpv (t n b r l : Bool) (k : Int) (a : Zd) : Int :=
 if Zga t n b r l a = false then 4
 else if k = 1 ∧ (64 : Int) < a.Text.size then 3
 else if k = 4 ∧ (a.Low < -2305843009213693952 ∨ 2305843009213693952 < a.High ∨ a.Num < a.Low ∨ a.High < a.Num) then 1
 else if a.Real ≠ Zbz a.Real then 4
 else if k < 8 then 0
 else if a.Cap < 1 ∨ 32 < a.Cap then 1
 else if a.Cap < a.List.length then 8
 else Zht a.Kind a.List 0 a.List.length
theorem Zfk {a : Zd} (ha : Zg6 a) {t n b r l : Bool} {s : ByteArray} (hk : ¬ (a.Kind < 1 ∨ 9 < a.Kind)) (hf : Zhu a.Kind = some s)
   (ho : Zcd s (Int.toNat ((s.size : Int) - (0 : Int)) + 1) false false false false false 0 = some (t, n, b, r, l)) : Zc3 a = some (Zpv t n b r l a.Kind a) := by
 unfold Zc3 Zpv
 have hw : IntKind.i64.wrap (0 - (2305843009213693952 : Int)) = -2305843009213693952 := by decide
 rw [hf, Zn4 ha.real, hw, show (Int.toNat ((a.List.length : Int) - (0 : Int)) + 1) = a.List.length + 1 by omega]
 have hloop := Zq0 ha a.List.length 0 (by omega)
 rw [show ((0 : Nat) : Int) = 0 from rfl] at hloop
 rw [hloop]
 simp only [Option.bind_some]
 rw [if_neg (by simpa using hk), Z3v ha ho]
 simp only [Option.bind_some]
 by_cases h1 : Zga t n b r l a = false
 · rw [if_pos h1, if_pos (by simp [h1])]
 · rw [if_neg h1, if_neg (by simpa using h1)]
   by_cases h2 : a.Kind = 1 ∧ (64 : Int) < a.Text.size
   · rw [if_pos h2, if_pos (by simpa using h2)]
   · rw [if_neg h2, if_neg (by simpa using h2)]
     by_cases h3 : a.Kind = 4 ∧ (a.Low < -2305843009213693952 ∨ 2305843009213693952 < a.High ∨ a.Num < a.Low ∨ a.High < a.Num)
     · rw [if_pos h3, if_pos (by simpa [or_assoc] using h3)]
     · rw [if_neg h3, if_neg (by simpa [or_assoc] using h3)]
       by_cases h4 : a.Real = Zbz a.Real
       · rw [if_neg (show ¬ (a.Real ≠ Zbz a.Real) from fun h => h h4), decide_eq_true h4]
         simp only [Bool.not_true, Bool.false_eq_true, if_false]
         by_cases h7 : a.Kind < 8
         · rw [if_pos h7, if_pos (by simpa using h7)]
         · rw [if_neg h7, if_neg (by simpa using h7)]
           by_cases h5 : a.Cap < 1 ∨ 32 < a.Cap
           · rw [if_pos h5, if_pos (by simpa using h5)]
           · rw [if_neg h5, if_neg (by simpa using h5)]
             by_cases h6 : a.Cap < a.List.length
             · rw [if_pos h6, if_pos (by simpa using h6)]
             · rw [if_neg h6, if_neg (by simpa using h6)]
               unfold endC
               by_cases h : Zht a.Kind a.List 0 a.List.length = 0 <;> simp [h]
       · rw [if_pos (show a.Real ≠ Zbz a.Real from h4), decide_eq_false h4]
         rfl
theorem Z4n {t n b r l : Bool} {a : Zd} (h : ¬ Zga t n b r l a = false) (ht : t = false) : a.Text.size = 0 := by
 subst ht
 have : Zga false n b r l a = true := by simpa using h
 unfold Zga at this
 simp only [Bool.false_or, Bool.and_eq_true] at this
 have := Zhd.1 this.1.1.1.1
 rw [this]; rfl
theorem D_eq (t n b r l : Bool) (k : Int) (a : Zd) (ht : t = true ↔ k = 1) (hb : b = true ↔ k = 4) (hl : l = false ↔ k < 8) : Zpv t n b r l k a = Znm t n b r l a := by
 unfold Zpv Znm
 by_cases h1 : Zga t n b r l a = false
 · rw [if_pos h1, if_pos h1]
 · rw [if_neg h1, if_neg h1]
   have e2 : (k = 1 ∧ (64 : Int) < a.Text.size) ↔ (64 : Int) < a.Text.size := by
     constructor
     · exact fun h => h.2
     · intro h
       refine ⟨ht.1 ?_, h⟩
       cases t
       · have := Z4n h1 rfl; omega
       · rfl
   simp only [e2, hb, hl]
theorem Zky {a : Zd} (ha : Zg6 a) : ∃ c, Zdq a = some c ∧ Zc3 a = some c := by
 by_cases hk : a.Kind ≤ 0 ∨ 10 ≤ a.Kind
 · refine ⟨5, ?_, ?_⟩
   · unfold Zdq
     have hs : ∃ s, Zds a.Kind = some s := by
       have h1 : ¬ a.Kind = 1 := by omega
       have h2 : ¬ a.Kind = 2 := by omega
       have h3 : ¬ a.Kind = 3 := by omega
       have h4 : ¬ a.Kind = 4 := by omega
       have h5 : ¬ a.Kind = 5 := by omega
       have h6 : ¬ a.Kind = 6 := by omega
       have h7 : ¬ a.Kind = 7 := by omega
       have h8 : ¬ a.Kind = 8 := by omega
       have h9 : ¬ a.Kind = 9 := by omega
       exact ⟨⟨false, false, false, false, false⟩, by simp [Zds, Zix, Zhn, Ziy, h1, h2, h3, h4, h5, h6, h7, h8, h9]⟩
     obtain ⟨s, hs⟩ := hs
     rw [hs]
     simp only [Option.bind_some]
     rw [if_pos (by simpa using hk)]
   · unfold Zc3
     rw [if_pos (by simp; omega)]
 · have hk2 : ¬ (a.Kind < 1 ∨ 9 < a.Kind) := by omega
   have hk' : a.Kind = 1 ∨ a.Kind = 2 ∨ a.Kind = 3 ∨ a.Kind = 4 ∨ a.Kind = 5 ∨ a.Kind = 6 ∨ a.Kind = 7 ∨ a.Kind = 8 ∨ a.Kind = 9 := by omega
   rcases hk' with h | h | h | h | h | h | h | h | h
   · exact ⟨_, Zfh ha hk (by rw [h]; exact Z0s), by rw [Zfk ha hk2 (by rw [h]; kernel_rfl) Z7c, D_eq _ _ _ _ _ _ _ (by simp [h]) (by simp [h]) (by simp [h])]⟩
   · exact ⟨_, Zfh ha hk (by rw [h]; exact Zzm), by rw [Zfk ha hk2 (by rw [h]; kernel_rfl) Z2l, D_eq _ _ _ _ _ _ _ (by simp [h]) (by simp [h]) (by simp [h])]⟩
   · exact ⟨_, Zfh ha hk (by rw [h]; exact Z0e), by rw [Zfk ha hk2 (by rw [h]; kernel_rfl) Z2l, D_eq _ _ _ _ _ _ _ (by simp [h]) (by simp [h]) (by simp [h])]⟩
   · exact ⟨_, Zfh ha hk (by rw [h]; exact Z03), by rw [Zfk ha hk2 (by rw [h]; kernel_rfl) Z55, D_eq _ _ _ _ _ _ _ (by simp [h]) (by simp [h]) (by simp [h])]⟩
   · exact ⟨_, Zfh ha hk (by rw [h]; exact Z0x), by rw [Zfk ha hk2 (by rw [h]; kernel_rfl) Zyy, D_eq _ _ _ _ _ _ _ (by simp [h]) (by simp [h]) (by simp [h])]⟩
   · exact ⟨_, Zfh ha hk (by rw [h]; exact Zz5), by rw [Zfk ha hk2 (by rw [h]; kernel_rfl) Zyy, D_eq _ _ _ _ _ _ _ (by simp [h]) (by simp [h]) (by simp [h])]⟩
   · exact ⟨_, Zfh ha hk (by rw [h]; exact Z0a), by rw [Zfk ha hk2 (by rw [h]; kernel_rfl) Zyy, D_eq _ _ _ _ _ _ _ (by simp [h]) (by simp [h]) (by simp [h])]⟩
   · exact ⟨_, Zfh ha hk (by rw [h]; exact Z0q), by rw [Zfk ha hk2 (by rw [h]; kernel_rfl) Z2o, D_eq _ _ _ _ _ _ _ (by simp [h]) (by simp [h]) (by simp [h])]⟩
   · exact ⟨_, Zfh ha hk (by rw [h]; exact Z0l), by rw [Zfk ha hk2 (by rw [h]; kernel_rfl) Z2o, D_eq _ _ _ _ _ _ _ (by simp [h]) (by simp [h]) (by simp [h])]⟩
def endB : Bool → Bool ⊕ Unit
 | true => .inr ()
 | false => .inl false
def eqI (x y : Zj) : Bool := sEq x.Name y.Name && decide (keyf x.Score = keyf y.Score)
def eqL : List Zj → List Zj → Bool
 | [], [] => true
 | x :: xs, y :: ys => eqI x y && eqL xs ys
 | _, _ => false
def Zkb (a b : Zd) : Bool := (a.Kind == b.Kind) && (a.Num == b.Num) && (a.Low == b.Low) && (a.High == b.High) && decide (keyf a.Real = keyf b.Real) && (a.Cap == b.Cap) && sEq a.Text b.Text && eqL a.List b.List
theorem Ztg : ∀ {a b : List Zj}, eqL a b = true → a.length = b.length
 | [], [], _ => rfl
 | x :: xs, y :: ys, h => by
   simp only [eqL, Bool.and_eq_true] at h
   simp [Ztg h.2]
 | [], _ :: _, h => by simp [eqL] at h
 | _ :: _, [], h => by simp [eqL] at h
theorem Z17 {x y : Zj} (hx : x.Score < W64) (hy : y.Score < W64) : Zhy x y = some (eqI x y) := by
 unfold Zhy eqI
 rw [Zl5 hx hy]
 cases sEq x.Name y.Name <;> simp [gd]
theorem Zvs {a b : List Zj} (ha : ∀ e ∈ a, e.Score < W64) (hb : ∀ e ∈ b, e.Score < W64) (hl : a.length < 4611686018427387904) (he : a.length = b.length) : ∀ (n i : Nat), i + n = a.length →
   Zbd a b (fun y0 y1 => Zhy y0 y1) (n + 1) (i : Int) = some (endB (eqL (a.drop i) (b.drop i)))
 | 0, i, h => by
   rw [Zbd, if_neg (by simp; omega), List.drop_of_length_le (by omega), List.drop_of_length_le (by omega)]
   rfl
 | n + 1, i, h => by
   have h1 : i < a.length := by omega
   have h2 : i < b.length := by omega
   rw [Zbd, if_pos (by simp; omega), Zc7 h1, Zc7 h2, wr1 (by omega)]
   simp only [Option.bind_some]
   rw [Z17 (ha _ (List.getElem_mem h1)) (hb _ (List.getElem_mem h2)), List.drop_eq_getElem_cons h1, List.drop_eq_getElem_cons h2]
   simp only [Option.bind_some, eqL]
   cases hq : eqI a[i] b[i]
   · simp [endB]
   · simp only [Bool.not_true, Bool.false_eq_true, if_false, Bool.true_and]
     exact Zvs ha hb hl he n (i + 1) (by omega)
theorem Z47 {a b : List Zj} (ha : ∀ e ∈ a, e.Score < W64) (hb : ∀ e ∈ b, e.Score < W64) (hl : a.length < 4611686018427387904) : Zb0 a b (fun y0 y1 => Zhy y0 y1) = some (eqL a b) := by
 unfold Zb0
 by_cases he : a.length = b.length
 · rw [if_neg (by simp; omega), show (Int.toNat ((a.length : Int) - (0 : Int)) + 1) = a.length + 1 by omega]
   have := Zvs ha hb hl he a.length 0 (by omega)
   rw [show ((0 : Nat) : Int) = 0 from rfl] at this
   rw [this]
   simp only [List.drop_zero]
   cases eqL a b <;> simp [endB]
 · rw [if_pos (by simp; omega)]
   cases h : eqL a b
   · rfl
   · exact absurd (Ztg h) he
theorem Zwn {a b : Zd} (ha : Zg6 a) (hb : Zg6 b) : Zk9 a b = some (Zkb a b) := by
 unfold Zk9 Zkb
 rw [Zl5 ha.real hb.real, Z47 ha.sc hb.sc ha.len]
 generalize (a.Kind == b.Kind) = x1
 generalize (a.Num == b.Num) = x2
 generalize (a.Low == b.Low) = x3
 generalize (a.High == b.High) = x4
 generalize decide (keyf a.Real = keyf b.Real) = x5
 generalize (a.Cap == b.Cap) = x6
 generalize sEq a.Text b.Text = x7
 generalize eqL a.List b.List = x8
 revert x1 x2 x3 x4 x5 x6 x7 x8
 decide
theorem Zse {a b : Zd} (ha : Zg6 a) (hb : Zg6 b) (he : a.List.length = b.List.length) : ∀ (n i : Nat), i + n = a.List.length →
   Zfz a b (n + 1) (i : Int) = some (endB (eqL (a.List.drop i) (b.List.drop i)))
 | 0, i, h => by
   rw [Zfz, if_neg (by simp; omega), List.drop_of_length_le (by omega), List.drop_of_length_le (by omega)]
   rfl
 | n + 1, i, h => by
   have h1 : i < a.List.length := by omega
   have h2 : i < b.List.length := by omega
   have hl := ha.len
   have hs1 := ha.sc _ (List.getElem_mem h1)
   have hs2 := hb.sc _ (List.getElem_mem h2)
   rw [Zfz, if_pos (by simp; omega), Zc7 h1, Zc7 h2, wr1 (by omega), List.drop_eq_getElem_cons h1, List.drop_eq_getElem_cons h2]
   simp only [Option.bind_some, eqL, eqI]
   cases hn : sEq a.List[i].Name b.List[i].Name
   · simp [gd, endB]
   · simp only [Bool.not_true, Bool.not_false, gd_t, Option.bind_some]
     rw [Zle hs1 hs2]
     simp only [Option.bind_some, Bool.false_or, Bool.true_and]
     by_cases hk : keyf a.List[i].Score = keyf b.List[i].Score
     · simp only [hk, decide_true, Bool.not_true, Bool.false_eq_true, if_false, Bool.true_and]
       exact Zse ha hb he n (i + 1) (by omega)
     · simp [hk, endB]
theorem Z09 {a b : Zd} (ha : Zg6 a) (hb : Zg6 b) : Zkf a b = some (Zkb a b) := by
 unfold Zkf Zkb
 rw [Zle ha.real hb.real]
 by_cases he : a.List.length = b.List.length
 · have := Zse ha hb he a.List.length 0 (by omega)
   rw [show ((0 : Nat) : Int) = 0 from rfl] at this
   rw [show (Int.toNat ((a.List.length : Int) - (0 : Int)) + 1) = a.List.length + 1 by omega, this]
   have hn : ((a.List.length : Int) != (b.List.length : Int)) = false := by simp; omega
   rw [hn]
   simp only [List.drop_zero, bne]
   generalize (a.Kind == b.Kind) = x1
   generalize (a.Num == b.Num) = x2
   generalize (a.Low == b.Low) = x3
   generalize (a.High == b.High) = x4
   generalize decide (keyf a.Real = keyf b.Real) = x5
   generalize (a.Cap == b.Cap) = x6
   generalize sEq a.Text b.Text = x7
   generalize eqL a.List b.List = x8
   clear this hn he
   revert x1 x2 x3 x4 x5 x6 x7 x8
   decide
 · have h8 : eqL a.List b.List = false := by
     cases h : eqL a.List b.List
     · rfl
     · exact absurd (Ztg h) he
   have hn : ((a.List.length : Int) != (b.List.length : Int)) = true := by simp; omega
   rw [hn, h8]
   simp only [bne, Bool.or_true, Option.bind_some, if_true, Bool.and_false, ite_self]
theorem Zrz {a : Zd} (hl : a.List.length ≤ 9223372036854775807) : ∀ (n i : Nat), i + n = a.List.length → ∃ z, Zd1 a (n + 1) (i : Int) = some z ∧ (z = .inl 1 ∨ z = .inr ())
 | 0, i, h => by
   rw [Zd1, if_neg (by simp; omega)]
   exact ⟨_, rfl, .inr rfl⟩
 | n + 1, i, h => by
   rw [Zd1, if_pos (by simp; omega), Zc7 (by omega), wr1 (by omega)]
   simp only [Option.bind_some]
   split
   · exact ⟨_, rfl, .inl rfl⟩
   · exact Zrz hl n (i + 1) (by omega)
theorem Z7d {a : Zd} (hl : a.List.length ≤ 9223372036854775807) : ∃ c, Zhz a = some c ∧ (c = 0 ∨ c = 1) ∧ (c = 0 → a.List.length ≤ 100) := by
 unfold Zhz
 by_cases h : (100 : Int) < a.List.length ∨ (1000 : Int) < a.Text.size
 · rw [if_pos (by simpa using h)]
   exact ⟨1, rfl, .inr rfl, fun h => by cases h⟩
 · rw [if_neg (by simpa using h), show (Int.toNat ((a.List.length : Int) - (0 : Int)) + 1) = a.List.length + 1 by omega]
   obtain ⟨z, hz, hc⟩ := Zrz hl a.List.length 0 (by omega)
   rw [show ((0 : Nat) : Int) = 0 from rfl] at hz
   rw [hz]
   rcases hc with rfl | rfl
   · exact ⟨1, rfl, .inr rfl, fun h => by cases h⟩
   · exact ⟨0, rfl, .inl rfl, fun _ => by omega⟩
abbrev KV := ByteArray × Zd
def toL : shelf_nodeT → List KV
 | .nil => []
 | .node k r l rr _ => toL l ++ (k, r) :: toL rr
def Szd : shelf_nodeT → Prop
 | .nil => True
 | .node k r l rr s => Szd l ∧ Szd rr ∧ s = (((toL l).length + (toL rr).length + 1 : Nat) : Int)
def Srt (l : List KV) : Prop := l.Pairwise fun p q => sLt p.1 q.1 = true
theorem Zgt {t : shelf_nodeT} (h : Szd t) : Zb6 t = some ((toL t).length : Int) := by
 cases t with
 | nil => rfl
 | node k r l rr s =>
   obtain ⟨_, _, h3⟩ := h
   simp [Zb6, shelf_nodeT.isNil, shelf_nodeT.un, toL, h3]
   omega
theorem Z3e {k : ByteArray} {x : Zd} {l r : shelf_nodeT} (hl : Szd l) (hr : Szd r) (bl : (toL l).length < 1099511627776) (br : (toL r).length < 1099511627776) :
   Zdb k x l r = some (.node k x l r (((toL l).length + (toL r).length + 1 : Nat) : Int)) := by
 unfold Zdb
 rw [Zgt hl, Zgt hr]
 simp only [Option.bind_some, shelf_node.up]
 rw [wr (x := (toL l).length + (toL r).length) (by omega) (by omega), wr (by omega) (by omega)]
 rfl
theorem Zhb {k : ByteArray} {x : Zd} {l r : shelf_nodeT} (hl : Szd l) (hr : Szd r) (bl : (toL l).length < 1099511627776) (br : (toL r).length < 1099511627776) :
   ∃ t, Zdb k x l r = some t ∧ Szd t ∧ toL t = toL l ++ (k, x) :: toL r := ⟨_, Z3e hl hr bl br, ⟨hl, hr, rfl⟩, rfl⟩
def Zlq (a b : shelf_nodeT) : Bool := decide (3 * ((toL b).length + 1) < (toL a).length + 1)
theorem Zu9 {a b : shelf_nodeT} (ha : Szd a) (hb : Szd b) (ba : (toL a).length < 1099511627776) (bb : (toL b).length < 1099511627776) : Zha a b = some (Zlq a b) := by
 unfold Zha Zlq
 rw [Zgt ha, Zgt hb]
 simp only [Option.bind_some]
 rw [wr (x := ((toL b).length : Int) + 1) (by omega) (by omega), wr (x := ((toL a).length : Int) + 1) (by omega) (by omega), wr (by omega) (by omega)]
 congr 1
 apply decide_eq_decide.2
 omega
theorem Zr9 {t : shelf_nodeT} (h : 0 < (toL t).length) : ∃ k r l rr s, t = .node k r l rr s := by
 cases t with
 | nil => simp [toL] at h
 | node k r l rr s => exact ⟨k, r, l, rr, s, rfl⟩
theorem Znl {k : ByteArray} {x : Zd} {l r : shelf_nodeT} (hl : Szd l) (hr : Szd r) (bl : (toL l).length < 1099511627776) (br : (toL r).length < 1099511627776) (bs : (toL l).length + (toL r).length + 1 < 1099511627776) :
   ∃ t, Zg5 k x l r = some t ∧ Szd t ∧ toL t = toL l ++ (k, x) :: toL r := by
 unfold Zg5
 rw [Zu9 hr hl br bl, Zu9 hl hr bl br]
 simp only [Option.bind_some]
 by_cases h1 : Zlq r l = true
 · have hlen : 0 < (toL r).length := by
     unfold Zlq at h1
     have := of_decide_eq_true h1
     omega
   obtain ⟨rk, rx, rl, rr, rs, rfl⟩ := Zr9 hlen
   obtain ⟨s1, s2, s3⟩ := hr
   have e : (toL (shelf_nodeT.node rk rx rl rr rs)).length = (toL rl).length + (toL rr).length + 1 := by simp [toL]; omega
   rw [e] at br bs
   simp only [h1, gd_t, shelf_nodeT.un, Option.bind_some, if_true]
   rw [Zgt s1, Zgt s2]
   simp only [Option.bind_some, Bool.true_and]
   by_cases h2 : (decide (IntKind.i64.wrap (((toL rl).length : Int) + 1) < IntKind.i64.wrap (2 * IntKind.i64.wrap (((toL rr).length : Int) + 1)))) = true
   · rw [if_pos h2]
     obtain ⟨t1, e1, z1, l1⟩ := Zhb (k := k) (x := x) hl s1 bl (by omega)
     have b1 : (toL t1).length < 1099511627776 := by rw [l1]; simp; omega
     obtain ⟨t2, e2, z2, l2⟩ := Zhb (k := rk) (x := rx) z1 s2 b1 (by omega)
     exact ⟨t2, by rw [e1]; simp only [Option.bind_some]; rw [e2]; rfl, z2, by rw [l2, l1]; simp [toL]⟩
   · rw [if_neg h2]
     have hlen2 : 0 < (toL rl).length := by
       rw [wr (x := ((toL rr).length : Int) + 1) (by omega) (by omega), wr (x := ((toL rl).length : Int) + 1) (by omega) (by omega), wr (by omega) (by omega)] at h2
       have : ¬ ((toL rl).length : Int) + 1 < 2 * ((toL rr).length + 1) := by simpa using h2
       omega
     obtain ⟨lk, lx, ll, lr, ls, rfl⟩ := Zr9 hlen2
     obtain ⟨q1, q2, q3⟩ := s1
     have e' : (toL (shelf_nodeT.node lk lx ll lr ls)).length = (toL ll).length + (toL lr).length + 1 := by simp [toL]; omega
     rw [e'] at br bs
     simp only [shelf_nodeT.un, Option.bind_some]
     obtain ⟨t1, e1, z1, l1⟩ := Zhb (k := k) (x := x) hl q1 bl (by omega)
     obtain ⟨t2, e2, z2, l2⟩ := Zhb (k := rk) (x := rx) q2 s2 (by omega) (by omega)
     have b1 : (toL t1).length < 1099511627776 := by rw [l1]; simp; omega
     have b2 : (toL t2).length < 1099511627776 := by rw [l2]; simp; omega
     obtain ⟨t3, e3, z3, l3⟩ := Zhb (k := lk) (x := lx) z1 z2 b1 b2
     exact ⟨t3, by rw [e1]; simp only [Option.bind_some]; rw [e2]; simp only [Option.bind_some]; rw [e3]; rfl, z3, by rw [l3, l1, l2]; simp [toL]⟩
 · have h1' : Zlq r l = false := by simpa using h1
   simp only [h1', gd_f, Option.bind_some, Bool.false_and, Bool.false_eq_true, if_false]
   by_cases h3 : Zlq l r = true
   · have hlen : 0 < (toL l).length := by
       unfold Zlq at h3
       have := of_decide_eq_true h3
       omega
     obtain ⟨rk, rx, rl, rr, rs, rfl⟩ := Zr9 hlen
     obtain ⟨s1, s2, s3⟩ := hl
     have e : (toL (shelf_nodeT.node rk rx rl rr rs)).length = (toL rl).length + (toL rr).length + 1 := by simp [toL]; omega
     rw [e] at bl bs
     simp only [h3, gd_t, shelf_nodeT.un, Option.bind_some, if_true]
     rw [Zgt s2, Zgt s1]
     simp only [Zb6, shelf_nodeT.isNil, if_true, Option.bind_some, Bool.true_and]
     by_cases h2 : (decide (IntKind.i64.wrap (((toL rr).length : Int) + 1) < IntKind.i64.wrap (2 * IntKind.i64.wrap (((toL rl).length : Int) + 1)))) = true
     · rw [if_pos h2]
       obtain ⟨t1, e1, z1, l1⟩ := Zhb (k := k) (x := x) s2 hr (by omega) br
       have b1 : (toL t1).length < 1099511627776 := by rw [l1]; simp; omega
       obtain ⟨t2, e2, z2, l2⟩ := Zhb (k := rk) (x := rx) s1 z1 (by omega) b1
       exact ⟨t2, by rw [e1]; simp only [Option.bind_some]; rw [e2]; rfl, z2, by rw [l2, l1]; simp [toL]⟩
     · rw [if_neg h2]
       have hlen2 : 0 < (toL rr).length := by
         rw [wr (x := ((toL rl).length : Int) + 1) (by omega) (by omega), wr (x := ((toL rr).length : Int) + 1) (by omega) (by omega), wr (by omega) (by omega)] at h2
         have : ¬ ((toL rr).length : Int) + 1 < 2 * ((toL rl).length + 1) := by simpa using h2
         omega
       obtain ⟨lk, lx, ll, lr, ls, rfl⟩ := Zr9 hlen2
       obtain ⟨q1, q2, q3⟩ := s2
       have e' : (toL (shelf_nodeT.node lk lx ll lr ls)).length = (toL ll).length + (toL lr).length + 1 := by simp [toL]; omega
       rw [e'] at bl bs
       simp only [shelf_nodeT.un, Option.bind_some]
       obtain ⟨t1, e1, z1, l1⟩ := Zhb (k := rk) (x := rx) s1 q1 (by omega) (by omega)
       obtain ⟨t2, e2, z2, l2⟩ := Zhb (k := k) (x := x) q2 hr (by omega) br
       have b1 : (toL t1).length < 1099511627776 := by rw [l1]; simp; omega
       have b2 : (toL t2).length < 1099511627776 := by rw [l2]; simp; omega
       obtain ⟨t3, e3, z3, l3⟩ := Zhb (k := lk) (x := lx) z1 z2 b1 b2
       exact ⟨t3, by rw [e1]; simp only [Option.bind_some]; rw [e2]; simp only [Option.bind_some]; rw [e3]; rfl, z3, by rw [l3, l1, l2]; simp [toL]⟩
   · have h3' : Zlq l r = false := by simpa using h3
     simp only [h3', gd_f, Option.bind_some, Bool.false_and, Bool.false_eq_true, if_false]
     obtain ⟨t1, e1, z1, l1⟩ := Zhb (k := k) (x := x) hl hr bl br
     exact ⟨t1, by rw [e1]; simp [Zb6, shelf_nodeT.isNil, shelf_nodeT.un, Option.bind_some, gd], z1, l1⟩
def insL (k : ByteArray) (x : Zd) : List KV → List KV
 | [] => [(k, x)]
 | p :: l => if sLt k p.1 then (k, x) :: p :: l else if sEq k p.1 then (k, x) :: l else p :: insL k x l
def delL (k : ByteArray) : List KV → List KV
 | [] => []
 | p :: l => if sEq k p.1 then l else p :: delL k l
theorem Zmh (k : ByteArray) (x : Zd) : ∀ l : List KV, (insL k x l).length ≤ l.length + 1
 | [] => by simp [insL]
 | p :: l => by
   have := Zmh k x l
   simp only [insL]
   split
   · simp
   · split <;> simp <;> omega
theorem Zod (k : ByteArray) : ∀ l : List KV, (delL k l).length ≤ l.length
 | [] => by simp [delL]
 | p :: l => by
   have := Zod k l
   simp only [delL]
   split <;> simp <;> omega
theorem Zye {k : ByteArray} {x : Zd} {p : KV} {B : List KV} (h : sLt k p.1 = true) : ∀ A : List KV, insL k x (A ++ p :: B) = insL k x A ++ p :: B
 | [] => by simp [insL, h]
 | q :: A => by
   simp only [List.cons_append, insL]
   split
   · rfl
   · split
     · rfl
     · rw [Zye h A]; rfl
theorem Zpb {k : ByteArray} {x : Zd} {B : List KV} : ∀ A : List KV, (∀ q ∈ A, sLt q.1 k = true) → insL k x (A ++ B) = A ++ insL k x B
 | [], _ => rfl
 | q :: A, h => by
   have hq := h q (by simp)
   have h1 : sLt k q.1 = false := Zrb hq
   have h2 : sEq k q.1 = false := Zdx.2 (fun e => Zkx hq e.symm)
   simp only [List.cons_append, insL, h1, h2, Bool.false_eq_true, if_false]
   rw [Zpb A fun q hq => h q (by simp [hq])]
theorem Z4o {k : ByteArray} {x : Zd} {p : KV} {B : List KV} (h : k = p.1) : insL k x (p :: B) = (k, x) :: B := by
 simp [insL, h, Zko, Zex]
theorem Z31 {k : ByteArray} {x : Zd} {p : KV} {B : List KV} (h : sLt p.1 k = true) : insL k x (p :: B) = p :: insL k x B := by
 have h1 : sLt k p.1 = false := Zrb h
 have h2 : sEq k p.1 = false := Zdx.2 (fun e => Zkx h e.symm)
 simp [insL, h1, h2]
theorem Znz {k : ByteArray} : ∀ l : List KV, (∀ q ∈ l, q.1 ≠ k) → delL k l = l
 | [], _ => rfl
 | p :: l, h => by
   have : sEq k p.1 = false := Zdx.2 (fun e => h p (by simp) e.symm)
   simp only [delL, this, Bool.false_eq_true, if_false]
   rw [Znz l fun q hq => h q (by simp [hq])]
theorem Zxv {k : ByteArray} {p : KV} {B : List KV} (h : sLt k p.1 = true) (hB : ∀ q ∈ B, sLt p.1 q.1 = true) : ∀ A : List KV, delL k (A ++ p :: B) = delL k A ++ p :: B
 | [] => by
   have h1 : sEq k p.1 = false := Zdx.2 (Zkx h)
   simp only [List.nil_append, delL, h1, Bool.false_eq_true, if_false]
   rw [Znz B fun q hq e => by
     have := Ze9 h (hB q hq)
     rw [e, Zko] at this; cases this]
 | q :: A => by
   simp only [List.cons_append, delL]
   split
   · rfl
   · rw [Zxv h hB A]; rfl
theorem Zo8 {k : ByteArray} {B : List KV} : ∀ A : List KV, (∀ q ∈ A, sLt q.1 k = true) → delL k (A ++ B) = A ++ delL k B
 | [], _ => rfl
 | q :: A, h => by
   have hq := h q (by simp)
   have h2 : sEq k q.1 = false := Zdx.2 (fun e => Zkx hq e.symm)
   simp only [List.cons_append, delL, h2, Bool.false_eq_true, if_false]
   rw [Zo8 A fun q hq => h q (by simp [hq])]
theorem Zsu {A B : List KV} {p : KV} (h : Srt (A ++ p :: B)) : Srt A ∧ Srt B ∧ (∀ q ∈ A, sLt q.1 p.1 = true) ∧ (∀ q ∈ B, sLt p.1 q.1 = true) := by
 obtain ⟨h1, h2, h3⟩ := List.pairwise_append.1 h
 obtain ⟨h4, h5⟩ := List.pairwise_cons.1 h2
 exact ⟨h1, h5, fun q hq => h3 q hq p (by simp), h4⟩
theorem Zpz {k : ByteArray} {x : Zd} : ∀ {l : List KV} {q : KV}, q ∈ insL k x l → q = (k, x) ∨ q ∈ l
 | [], q, h => by simp [insL] at h; exact .inl h
 | p :: l, q, h => by
   simp only [insL] at h
   split at h
   · rcases List.mem_cons.1 h with h | h
     · exact .inl h
     · exact .inr h
   · split at h
     · rcases List.mem_cons.1 h with h | h
       · exact .inl h
       · exact .inr (List.mem_cons_of_mem _ h)
     · rcases List.mem_cons.1 h with h | h
       · exact .inr (by simp [h])
       · rcases Zpz h with h | h
         · exact .inl h
         · exact .inr (List.mem_cons_of_mem _ h)
theorem Zp7 {k : ByteArray} : ∀ {l : List KV} {q : KV}, q ∈ delL k l → q ∈ l
 | [], q, h => by simp [delL] at h
 | p :: l, q, h => by
   simp only [delL] at h
   split at h
   · exact List.mem_cons_of_mem _ h
   · rcases List.mem_cons.1 h with h | h
     · simp [h]
     · exact List.mem_cons_of_mem _ (Zp7 h)
theorem Zxq {k : ByteArray} {x : Zd} : ∀ {l : List KV}, Srt l → Srt (insL k x l)
 | [], _ => List.pairwise_singleton ..
 | p :: l, h => by
   obtain ⟨h1, h2⟩ := List.pairwise_cons.1 h
   simp only [insL]
   split
   · rename_i hk
     refine List.pairwise_cons.2 ⟨fun q hq => ?_, h⟩
     rcases List.mem_cons.1 hq with rfl | hq
     · exact hk
     · exact Ze9 hk (h1 q hq)
   · rename_i hk
     split
     · rename_i he
       have he := Zhd.1 he
       exact List.pairwise_cons.2 ⟨fun q hq => by rw [he]; exact h1 q hq, h2⟩
     · rename_i he
       have hlt : sLt p.1 k = true := Zla (by simpa using hk) (fun e => he (Zhd.2 e))
       refine List.pairwise_cons.2 ⟨fun q hq => ?_, Zxq h2⟩
       rcases Zpz hq with rfl | hq
       · exact hlt
       · exact h1 q hq
theorem Zxx {k : ByteArray} : ∀ {l : List KV}, Srt l → Srt (delL k l)
 | [], h => h
 | p :: l, h => by
   obtain ⟨h1, h2⟩ := List.pairwise_cons.1 h
   simp only [delL]
   split
   · exact h2
   · exact List.pairwise_cons.2 ⟨fun q hq => h1 q (Zp7 hq), Zxx h2⟩
theorem Zvr : ∀ (n : Nat) (t : shelf_nodeT) (k : ByteArray) (x : Zd), t.hh < n → Szd t → Srt (toL t) → (toL t).length + 2 < 1099511627776 →
   ∃ t', Zej n t k x = some t' ∧ Szd t' ∧ toL t' = insL k x (toL t)
 | 0, t, k, x, h, _, _, _ => by omega
 | n + 1, .nil, k, x, _, _, _, _ => by
   obtain ⟨t1, e1, z1, l1⟩ := Zhb (k := k) (x := x) (l := .nil) (r := .nil) trivial trivial (by simp [toL]) (by simp [toL])
   refine ⟨t1, ?_, z1, by rw [l1]; rfl⟩
   simp only [Zej, Zhe, shelf_nodeT.isNil, if_true]
   rw [e1]; rfl
 | n + 1, .node nk nx l r s, k, x, hh, hz, hs, hb => by
   obtain ⟨z1, z2, z3⟩ := hz
   simp only [toL] at hs hb
   obtain ⟨s1, s2, sA, sB⟩ := Zsu hs
   have hlen : (toL l ++ (nk, nx) :: toL r).length = (toL l).length + (toL r).length + 1 := by simp; omega
   rw [hlen] at hb
   simp only [shelf_nodeT.hh] at hh
   simp only [Zej, Zhe, shelf_nodeT.isNil, shelf_nodeT.un, Bool.false_eq_true, if_false, Option.bind_some]
   by_cases h1 : sLt k nk = true
   · rw [if_pos h1]
     obtain ⟨t1, e1, y1, l1⟩ := Zvr n l k x (by omega) z1 s1 (by omega)
     have b1 := Zmh k x (toL l)
     rw [← l1] at b1
     obtain ⟨t2, e2, y2, l2⟩ := Znl (k := nk) (x := nx) y1 z2 (by omega) (by omega) (by omega)
     refine ⟨t2, by rw [e1]; simp only [Option.bind_some]; rw [e2]; rfl, y2, ?_⟩
     rw [l2, l1]; simp only [toL]; rw [Zye (by exact h1)]
   · rw [if_neg h1]
     by_cases h2 : k = nk
     · subst h2
       have he : (!(sLt k k || sEq k k)) = false := by simp [Zex]
       rw [he]
       simp only [Bool.false_eq_true, if_false]
       obtain ⟨t1, e1, y1, l1⟩ := Zhb (k := k) (x := x) z1 z2 (by omega) (by omega)
       refine ⟨t1, by rw [e1]; rfl, y1, ?_⟩
       rw [l1]; simp only [toL]
       rw [Zpb _ (fun q hq => sA q hq), Z4o rfl]
     · have h3 : sLt nk k = true := Zla (by simpa using h1) h2
       have he : (!(sLt k nk || sEq k nk)) = true := by simp [Zdx.2 h2]; simpa using h1
       rw [he]
       simp only [if_true]
       obtain ⟨t1, e1, y1, l1⟩ := Zvr n r k x (by omega) z2 s2 (by omega)
       have b1 := Zmh k x (toL r)
       rw [← l1] at b1
       obtain ⟨t2, e2, y2, l2⟩ := Znl (k := nk) (x := nx) z1 y1 (by omega) (by omega) (by omega)
       refine ⟨t2, by rw [e1]; simp only [Option.bind_some]; rw [e2]; rfl, y2, ?_⟩
       rw [l2, l1]; simp only [toL]
       rw [Zpb _ (fun q hq => Ze9 (sA q hq) h3), Z31 h3]
theorem Zxg {t : shelf_nodeT} {k : ByteArray} {x : Zd} (hz : Szd t) (hs : Srt (toL t)) (hb : (toL t).length + 2 < 1099511627776) :
   ∃ t', Zlb t k x = some t' ∧ Szd t' ∧ toL t' = insL k x (toL t) := Zvr _ t k x (Nat.lt_succ_self _) hz hs hb
theorem Zva : ∀ (n : Nat) (t : shelf_nodeT), t.hh < n → t.isNil = false → ∃ t' k x l r s B, Zed n t = some t' ∧ t' = .node k x l r s ∧ toL t = (k, x) :: B
 | 0, t, h, _ => by omega
 | n + 1, .nil, _, h => by cases h
 | n + 1, .node k x l r s, hh, _ => by
   simp only [shelf_nodeT.hh] at hh
   simp only [Zed, shelf_nodeT.un, Option.bind_some]
   cases l with
   | nil => exact ⟨_, k, x, .nil, r, s, toL r, rfl, rfl, rfl⟩
   | node k2 x2 l2 r2 s2 =>
     obtain ⟨t', k', x', l', r', s', B, e1, e2, e3⟩ := Zva n (.node k2 x2 l2 r2 s2) (by omega) rfl
     exact ⟨t', k', x', l', r', s', B ++ (k, x) :: toL r, by simp [shelf_nodeT.isNil]; exact e1, e2, by
       simp only [toL] at e3 ⊢
       rw [e3]; rfl⟩
theorem Zsc : ∀ (n : Nat) (t : shelf_nodeT) (k : ByteArray), t.hh < n → Szd t → Srt (toL t) → (toL t).length + 2 < 1099511627776 →
   ∃ t', Ze8 n t k = some t' ∧ Szd t' ∧ toL t' = delL k (toL t)
 | 0, t, k, h, _, _, _ => by omega
 | n + 1, .nil, k, _, _, _, _ => ⟨.nil, rfl, trivial, rfl⟩
 | n + 1, .node nk nx l r s, k, hh, hz, hs, hb => by
   obtain ⟨z1, z2, z3⟩ := hz
   simp only [toL] at hs hb
   obtain ⟨s1, s2, sA, sB⟩ := Zsu hs
   have hlen : (toL l ++ (nk, nx) :: toL r).length = (toL l).length + (toL r).length + 1 := by simp; omega
   rw [hlen] at hb
   simp only [shelf_nodeT.hh] at hh
   simp only [Ze8, Zir, shelf_nodeT.isNil, shelf_nodeT.un, Bool.false_eq_true, if_false, Option.bind_some]
   by_cases h1 : sLt k nk = true
   · rw [if_pos h1]
     obtain ⟨t1, e1, y1, l1⟩ := Zsc n l k (by omega) z1 s1 (by omega)
     have b1 := Zod k (toL l)
     rw [← l1] at b1
     obtain ⟨t2, e2, y2, l2⟩ := Znl (k := nk) (x := nx) y1 z2 (by omega) (by omega) (by omega)
     refine ⟨t2, by rw [e1]; simp only [Option.bind_some]; rw [e2]; rfl, y2, ?_⟩
     rw [l2, l1]; simp only [toL]; rw [Zxv (by exact h1) (fun q hq => sB q hq)]
   · rw [if_neg h1]
     by_cases h2 : k = nk
     · subst h2
       have he : (!(sLt k k || sEq k k)) = false := by simp [Zex]
       rw [he]
       simp only [Bool.false_eq_true, if_false]
       have hdel : delL k (toL l ++ (k, nx) :: toL r) = toL l ++ toL r := by
         rw [Zo8 _ (fun q hq => sA q hq)]
         simp [delL, Zex]
       cases hl : l with
       | nil => exact ⟨r, by simp [shelf_nodeT.isNil, shelf_nodeT.un], z2, by show toL r = delL k (toL .nil ++ (k, nx) :: toL r); rw [← hl, hdel, hl]; rfl⟩
       | node k2 x2 l2 r2 q2 =>
         cases hr : r with
         | nil => exact ⟨l, by simp [shelf_nodeT.isNil, shelf_nodeT.un, hl], z1, by rw [← hl, ← hr]; show toL l = delL k (toL l ++ (k, nx) :: toL r); rw [hdel, hr]; simp [toL]⟩
         | node k3 x3 l3 r3 q3 =>
           rw [← hl, ← hr]
           have hn : r.isNil = false := by rw [hr]; rfl
           have hn1 : l.isNil = false := by rw [hl]; rfl
           obtain ⟨t', k', x', l', r', s', B, e1, e2, e3⟩ := Zva (r.hh + 1) r (Nat.lt_succ_self _) hn
           subst e2
           have hf : Zhh r = some (.node k' x' l' r' s') := by
             unfold Zhh; rw [e1]; rfl
           obtain ⟨t1, c1, y1, l1⟩ := Zsc n r k' (by omega) z2 s2 (by omega)
           have hB : toL t1 = B := by rw [l1, e3]; simp [delL, Zex]
           have hBl : B.length + 1 = (toL r).length := by rw [e3]; simp
           obtain ⟨t2, c2, y2, l2⟩ := Znl (k := k') (x := x') z1 y1 (by omega) (by rw [hB]; omega) (by rw [hB]; omega)
           refine ⟨t2, ?_, y2, ?_⟩
           · simp only [hf, Option.bind_some, shelf_nodeT.un, c1, c2]
             show (if l.isNil = true then some r else if r.isNil = true then some l else some t2) = some t2
             rw [hn, hn1]; rfl
           · show toL t2 = delL k (toL l ++ (k, nx) :: toL r)
             rw [hdel, l2, hB, e3]
     · have h3 : sLt nk k = true := Zla (by simpa using h1) h2
       have he : (!(sLt k nk || sEq k nk)) = true := by simp [Zdx.2 h2]; simpa using h1
       rw [he]
       simp only [if_true]
       obtain ⟨t1, e1, y1, l1⟩ := Zsc n r k (by omega) z2 s2 (by omega)
       have b1 := Zod k (toL r)
       rw [← l1] at b1
       obtain ⟨t2, e2, y2, l2⟩ := Znl (k := nk) (x := nx) z1 y1 (by omega) (by omega) (by omega)
       refine ⟨t2, by rw [e1]; simp only [Option.bind_some]; rw [e2]; rfl, y2, ?_⟩
       rw [l2, l1]; simp only [toL]
       rw [Zo8 _ (fun q hq => Ze9 (sA q hq) h3)]
       simp [delL, Zdx.2 h2]
theorem Z4c {t : shelf_nodeT} {k : ByteArray} (hz : Szd t) (hs : Srt (toL t)) (hb : (toL t).length + 2 < 1099511627776) :
   ∃ t', Zlc t k = some t' ∧ Szd t' ∧ toL t' = delL k (toL t) := Zsc _ t k (Nat.lt_succ_self _) hz hs hb
def lk (k : ByteArray) : List KV → Option Zd
 | [] => none
 | p :: l => if sEq k p.1 then some p.2 else lk k l
def rk (k : ByteArray) : List KV → Nat
 | [] => 0
 | p :: l => if sLt p.1 k then rk k l + 1 else 0
theorem Zrf {k : ByteArray} : ∀ {l : List KV}, (∀ q ∈ l, q.1 ≠ k) → lk k l = none
 | [], _ => rfl
 | p :: l, h => by
   have : sEq k p.1 = false := Zdx.2 (fun e => h p (by simp) e.symm)
   simp only [lk, this, Bool.false_eq_true, if_false]
   exact Zrf fun q hq => h q (by simp [hq])
theorem Z22 {k : ByteArray} {p : KV} {B : List KV} (h : sLt k p.1 = true) (hB : ∀ q ∈ B, sLt p.1 q.1 = true) : ∀ A : List KV, lk k (A ++ p :: B) = lk k A
 | [] => by
   have h1 : sEq k p.1 = false := Zdx.2 (Zkx h)
   simp only [List.nil_append, lk, h1, Bool.false_eq_true, if_false]
   exact Zrf fun q hq e => by
     have := Ze9 h (hB q hq)
     rw [e, Zko] at this; cases this
 | q :: A => by
   simp only [List.cons_append, lk]
   split
   · rfl
   · exact Z22 h hB A
theorem Zsz {k : ByteArray} {B : List KV} : ∀ A : List KV, (∀ q ∈ A, sLt q.1 k = true) → lk k (A ++ B) = lk k B
 | [], _ => rfl
 | q :: A, h => by
   have hq := h q (by simp)
   have h2 : sEq k q.1 = false := Zdx.2 (fun e => Zkx hq e.symm)
   simp only [List.cons_append, lk, h2, Bool.false_eq_true, if_false]
   exact Zsz A fun q hq => h q (by simp [hq])
theorem Zrp (k : ByteArray) : ∀ l : List KV, rk k l ≤ l.length
 | [] => by simp [rk]
 | p :: l => by
   have := Zrp k l
   simp only [rk]
   split <;> simp <;> omega
def Cl (x : Zd) : Prop := x.List.length ≤ 1000
theorem Zn7 {x : Zd} (h : Cl x) : Zez x = some x := by
 unfold Zez Zbq
 unfold Cl at h
 rw [if_pos (by omega)]
 rfl
abbrev zrec : Zd := { Kind := 0, Num := 0, Low := 0, High := 0, Real := 0, Cap := 0, Text := ByteArray.empty, List := [] }
def getR : Option Zd → Zd × Bool
 | some r => (r, true)
 | none => (zrec, false)
def getE (x : Zd) : Option Zd → (Zd × Bool) ⊕ Zd
 | some r => .inl (r, true)
 | none => .inr x
theorem Zq8 (k : ByteArray) (x : Zd) : ∀ (n : Nat) (t : shelf_nodeT), t.hh < n → Srt (toL t) → (∀ q ∈ toL t, Cl q.2) → Zdm k n x t = some (getE x (lk k (toL t)))
 | 0, t, h, _, _ => by omega
 | n + 1, .nil, _, _, _ => rfl
 | n + 1, .node nk nx l r s, hh, hs, hc => by
   simp only [toL] at hs hc
   obtain ⟨s1, s2, sA, sB⟩ := Zsu hs
   simp only [shelf_nodeT.hh] at hh
   simp only [Zdm, shelf_nodeT.isNil, shelf_nodeT.un, Bool.not_false, if_true, Option.bind_some, Zgd, toL]
   by_cases h1 : sLt k nk = true
   · rw [if_pos h1, Zq8 k x n l (by omega) s1 (fun q hq => hc q (by simp [hq])), Z22 (by exact h1) (fun q hq => sB q hq)]
   · rw [if_neg h1]
     by_cases h2 : k = nk
     · subst h2
       have he : (!(sLt k k || sEq k k)) = false := by simp [Zex]
       rw [he]
       simp only [Bool.false_eq_true, if_false]
       rw [Zn7 (hc (k, nx) (by simp)), Zsz _ (fun q hq => sA q hq)]
       simp [lk, Zex, getE]
     · have h3 : sLt nk k = true := Zla (by simpa using h1) h2
       have he : (!(sLt k nk || sEq k nk)) = true := by simp [Zdx.2 h2]; simpa using h1
       rw [he]
       simp only [if_true]
       rw [Zq8 k x n r (by omega) s2 (fun q hq => hc q (by simp [hq])), Zsz _ (fun q hq => Ze9 (sA q hq) h3)]
       simp [lk, Zdx.2 h2]
theorem Z5e {s : Zm} {k : ByteArray} (hs : Srt (toL s.top)) (hc : ∀ q ∈ toL s.top, Cl q.2) : Ze2 s k = some (getR (lk k (toL s.top))) := by
 unfold Ze2
 rw [Zq8 k _ _ _ (Nat.lt_succ_self _) hs hc]
 cases lk k (toL s.top) <;> rfl
def atE (x : Zd) : Option KV → (ByteArray × Zd × Bool) ⊕ Zd
 | some p => .inl (p.1, p.2, true)
 | none => .inr x
theorem Zy6 {α : Type} {A B : List α} {i : Int} (h : i < A.length) : idx (A ++ B) i = idx A i := by
 unfold idx
 split
 · rw [List.getElem?_append_left (by omega)]
 · rfl
theorem Zw7 {α : Type} {A B : List α} {p : α} : idx (A ++ p :: B) (A.length : Int) = some p := by
 rw [idxn]; simp
theorem Zy0 {α : Type} {A B : List α} {p : α} {i : Int} (h : (A.length : Int) < i) : idx (A ++ p :: B) i = idx B (i - (A.length + 1)) := by
 unfold idx
 rw [if_pos (by omega), if_pos (by omega), List.getElem?_append_right (by omega)]
 rw [show i.toNat - A.length = (i - (A.length + 1)).toNat + 1 by omega, List.getElem?_cons_succ]
theorem Zs1 (x : Zd) : ∀ (n : Nat) (t : shelf_nodeT) (i : Int), t.hh < n → Szd t → (toL t).length + 2 < 1099511627776 → -1099511627776 < i → i < 1099511627776 → (∀ q ∈ toL t, Cl q.2) → Zdd n i x t = some (atE x (idx (toL t) i))
 | 0, t, i, h, _, _, _, _, _ => by omega
 | n + 1, .nil, i, _, _, _, _, _, _ => by
   simp only [Zdd, shelf_nodeT.isNil, toL]
   have hn : idx ([] : List KV) i = none := by
     unfold idx
     split <;> simp
   rw [hn]
   rfl
 | n + 1, .node nk nx l r s, i, hh, hz, hb, i1, i2, hc => by
   obtain ⟨z1, z2, z3⟩ := hz
   simp only [toL] at hb hc
   have hlen : (toL l ++ (nk, nx) :: toL r).length = (toL l).length + (toL r).length + 1 := by simp; omega
   rw [hlen] at hb
   simp only [shelf_nodeT.hh] at hh
   simp only [Zdd, shelf_nodeT.isNil, shelf_nodeT.un, Bool.not_false, if_true, Option.bind_some, Zgy, toL]
   rw [Zgt z1]
   simp only [Option.bind_some]
   by_cases h1 : i < (toL l).length
   · rw [if_pos (by simpa using h1), Zs1 x n l i (by omega) z1 (by omega) i1 i2 (fun q hq => hc q (by simp [hq])), Zy6 h1]
   · rw [if_neg (by simpa using h1)]
     by_cases h2 : ((toL l).length : Int) < i
     · rw [if_pos (by simpa using h2), wr (x := ((toL l).length : Int) + 1) (by omega) (by omega), wr (by omega) (by omega), Zs1 x n r _ (by omega) z2 (by omega) (by omega) (by omega) (fun q hq => hc q (by simp [hq])), Zy0 h2]
     · rw [if_neg (by simpa using h2), Zn7 (hc (nk, nx) (by simp))]
       have : i = (toL l).length := by omega
       subst this
       rw [Zw7]; rfl
def atR : Option KV → ByteArray × Zd × Bool
 | some p => (p.1, p.2, true)
 | none => (⟨#[]⟩, zrec, false)
theorem Zyj {s : Zm} {i : Int} (hz : Szd s.top) (hb : (toL s.top).length + 2 < 1099511627776) (i1 : -1099511627776 < i) (i2 : i < 1099511627776) (hc : ∀ q ∈ toL s.top, Cl q.2) : Zf3 s i = some (atR (idx (toL s.top) i)) := by
 unfold Zf3
 rw [Zs1 _ _ _ _ (Nat.lt_succ_self _) hz hb i1 i2 hc]
 cases idx (toL s.top) i <;> rfl
theorem Zj4 {k : ByteArray} (x : Zd) : ∀ {l : List KV}, Srt l →
   (∃ p, l[rk k l]? = some p ∧ p.1 = k ∧ lk k l = some p.2 ∧ insL k x l = l.take (rk k l) ++ (k, x) :: l.drop (rk k l + 1) ∧ delL k l = l.take (rk k l) ++ l.drop (rk k l + 1)) ∨
   ((∀ p, l[rk k l]? = some p → p.1 ≠ k) ∧ lk k l = none ∧ insL k x l = l.take (rk k l) ++ (k, x) :: l.drop (rk k l) ∧ delL k l = l)
 | [], _ => .inr ⟨fun p h => by simp at h, rfl, rfl, rfl⟩
 | p :: l, hs => by
   obtain ⟨h1, h2⟩ := List.pairwise_cons.1 hs
   by_cases h : sLt p.1 k = true
   · have e1 : sLt k p.1 = false := Zrb h
     have e2 : sEq k p.1 = false := Zdx.2 (fun e => Zkx h e.symm)
     simp only [rk, h, if_true, lk, insL, delL, e1, e2, Bool.false_eq_true, if_false, List.getElem?_cons_succ, List.take_succ_cons, List.drop_succ_cons]
     rcases Zj4 x h2 with ⟨q, a1, a2, a3, a4, a5⟩ | ⟨a1, a2, a3, a4⟩
     · exact .inl ⟨q, a1, a2, a3, by rw [a4]; rfl, by rw [a5]; rfl⟩
     · exact .inr ⟨a1, a2, by rw [a3]; rfl, by rw [a4]⟩
   · have h' : sLt p.1 k = false := by simpa using h
     simp only [rk, h', Bool.false_eq_true, if_false]
     by_cases he : k = p.1
     · left
       exact ⟨p, rfl, he.symm, by simp [lk, he, Zex], by simp [insL, he, Zko, Zex], by simp [delL, he, Zex]⟩
     · right
       have hlt : sLt k p.1 = true := Zla h' (fun e => he e.symm)
       have hne : ∀ q ∈ l, q.1 ≠ k := fun q hq e => by
         have := Ze9 hlt (h1 q hq)
         rw [e, Zko] at this; cases this
       refine ⟨fun q hq e => ?_, ?_, by simp [insL, hlt], ?_⟩
       · simp at hq; subst hq; exact he e.symm
       · simp only [lk, Zdx.2 he, Bool.false_eq_true, if_false]; exact Zrf hne
       · simp only [delL, Zdx.2 he, Bool.false_eq_true, if_false]; rw [Znz l hne]
def kv (p : Z2) : KV := (p.Key, p.Rec)
def pl (t : Zk) : List KV := t.L.map kv
theorem Zph (t : Zk) (i : Nat) : (pl t)[i]? = (t.L[i]?).map kv := by simp [pl]
theorem Zeh (t : Zk) : (pl t).length = t.L.length := by simp [pl]
theorem Ztu {t : Zk} {k : ByteArray} (hb : t.L.length < 1099511627776) : ∀ (n i : Nat), i + n = t.L.length →
   Zcp t k (n + 1) (i : Int) = some ((i + rk k ((pl t).drop i) : Nat) : Int)
 | 0, i, h => by
   have hd : decide ((i : Int) < (t.L.length : Int)) = false := by simp; omega
   rw [Zcp, hd, List.drop_of_length_le (by rw [Zeh]; omega)]
   simp [gd, rk]
 | n + 1, i, h => by
   have hd : decide ((i : Int) < (t.L.length : Int)) = true := by simp; omega
   have hi : i < t.L.length := by omega
   have hi' : i < (pl t).length := by rw [Zeh]; exact hi
   rw [Zcp, hd, Zc7 hi, List.drop_eq_getElem_cons hi', wr1 (by omega)]
   have hg : (pl t)[i] = kv t.L[i] := by simp [pl]
   rw [hg]
   simp only [gd_t, Option.bind_some, Bool.true_and, rk]
   by_cases hk : sLt t.L[i].Key k = true
   · have hk' : sLt (kv t.L[i]).1 k = true := hk
     rw [if_pos hk, if_pos hk', Ztu hb n (i + 1) (by omega)]
     congr 2; omega
   · have hk' : ¬ sLt (kv t.L[i]).1 k = true := hk
     rw [if_neg hk, if_neg hk']; rfl
theorem Zrj {t : Zk} {k : ByteArray} (hb : t.L.length < 1099511627776) : Zdn t k = some (rk k (pl t) : Int) := by
 unfold Zdn
 have := Ztu (k := k) hb t.L.length 0 (by omega)
 rw [show ((0 : Nat) : Int) = 0 from rfl] at this
 rw [show (Int.toNat ((t.L.length : Int) - (0 : Int)) + 1) = t.L.length + 1 by omega, this]
 simp
structure Rel (s : Zm) (t : Zk) (n : Nat) : Prop where
 top : toL s.top = pl t
 sz : Szd s.top
 srt : Srt (pl t)
 len : t.L.length ≤ n
 room : s.room = t.Room
 ok : ∀ q ∈ pl t, Zg6 q.2 ∧ q.2.List.length ≤ 100
theorem Rel.cl {s : Zm} {t : Zk} {n : Nat} (h : Rel s t n) : ∀ q ∈ toL s.top, Cl q.2 := fun q hq => by
 rw [h.top] at hq
 have := (h.ok q hq).2
 unfold Cl; omega
theorem Rel.mono {s : Zm} {t : Zk} {n m : Nat} (h : Rel s t n) (hm : n ≤ m) : Rel s t m := ⟨h.top, h.sz, h.srt, Nat.le_trans h.len hm, h.room, h.ok⟩
theorem Rel.tl {s : Zm} {t : Zk} {n : Nat} (h : Rel s t n) : (toL s.top).length = t.L.length := by rw [h.top, Zeh]
theorem Z38 (r : Int) : Rel { top := .nil, room := r } { L := [], Room := r } 0 := ⟨rfl, trivial, List.Pairwise.nil, Nat.le_refl _, rfl, fun q h => by simp [pl] at h⟩
theorem Z34 {s : Zm} {t : Zk} {n : Nat} (h : Rel s t n) (hn : n < 1000000) (k : ByteArray) : Zii t k = some (getR (lk k (pl t))) := by
 have hb := h.len
 unfold Zii
 rw [Zrj (by omega)]
 simp only [Option.bind_some]
 have hle := Zrp k (pl t)
 rw [Zeh] at hle
 by_cases hi : rk k (pl t) < t.L.length
 · have hd : decide (((rk k (pl t) : Nat) : Int) < (t.L.length : Int)) = true := by simp; omega
   rw [hd, Zc7 hi]
   simp only [gd_t, Option.bind_some, Bool.true_and]
   have hg : (pl t)[rk k (pl t)]? = some (kv t.L[rk k (pl t)]) := by rw [Zph, List.getElem?_eq_getElem hi]; rfl
   rcases Zj4 default h.srt with ⟨p, a1, a2, a3, _, _⟩ | ⟨a1, a2, _, _⟩
   · rw [hg] at a1
     obtain rfl := Option.some.inj a1
     have : sEq (t.L[rk k (pl t)]).Key k = true := Zhd.2 a2
     rw [if_pos this, a3]; rfl
   · have : sEq (t.L[rk k (pl t)]).Key k = false := Zdx.2 (a1 _ hg)
     rw [if_neg (by simp [this]), a2]; rfl
 · have hd : decide (((rk k (pl t) : Nat) : Int) < (t.L.length : Int)) = false := by simp; omega
   rw [hd]
   simp only [gd_f, Option.bind_some, Bool.false_and, Bool.false_eq_true, if_false]
   rcases Zj4 (k := k) default h.srt with ⟨p, a1, _⟩ | ⟨_, a2, _, _⟩
   · have := (List.getElem?_eq_some_iff.1 a1).1
     rw [Zeh] at this; omega
   · rw [a2]; rfl
theorem Zne {s : Zm} {t : Zk} {n : Nat} (h : Rel s t n) (k : ByteArray) : Ze2 s k = some (getR (lk k (pl t))) := by
 rw [Z5e (by rw [h.top]; exact h.srt) h.cl, h.top]
theorem Zp0 {s : Zm} {t : Zk} {n : Nat} (h : Rel s t n) : Zdk s = some (t.L.length : Int) := by
 unfold Zdk
 rw [Zgt h.sz, h.tl]; rfl
theorem Zq7 (t : Zk) (i : Nat) : (t.L.take i).map kv = (pl t).take i := by simp [pl]
theorem Zq6 (t : Zk) (i : Nat) : (t.L.drop i).map kv = (pl t).drop i := by simp [pl]
theorem Zvt {s : Zm} {t : Zk} {n : Nat} (h : Rel s t n) (hn : n < 1000000) (k : ByteArray) : ∃ s' t' b, Zfi s k = some (s', b) ∧ Zij t k = some (t', b) ∧ Rel s' t' n ∧ (pl t' = pl t ∨ pl t' = delL k (pl t)) := by
 have hb := h.len
 have hle := Zrp k (pl t)
 rw [Zeh] at hle
 unfold Zfi Zij
 rw [Zne h, Zrj (by omega)]
 simp only [Option.bind_some]
 rcases Zj4 default h.srt with ⟨p, a1, a2, a3, _, a5⟩ | ⟨a1, a2, _, a4⟩
 · have hi : rk k (pl t) < t.L.length := by
     have := (List.getElem?_eq_some_iff.1 a1).1
     rwa [Zeh] at this
   rw [a3]
   have hd : decide ((t.L.length : Int) ≤ ((rk k (pl t) : Nat) : Int)) = false := by simp; omega
   have hg : (pl t)[rk k (pl t)]? = some (kv t.L[rk k (pl t)]) := by rw [Zph, List.getElem?_eq_getElem hi]; rfl
   rw [hg] at a1
   obtain rfl := Option.some.inj a1
   have he : sEq (t.L[rk k (pl t)]).Key k = true := Zhd.2 a2
   rw [hd, Zc7 hi]
   obtain ⟨t1, c1, z1, l1⟩ := Z4c (k := k) h.sz (by rw [h.top]; exact h.srt) (by rw [h.tl]; omega)
   rw [c1]
   simp only [getR, Bool.not_true, Bool.false_eq_true, if_false, Option.bind_some, Bool.not_false, gd_t, he, Bool.or_false, Bool.or_self]
   rw [show (0 : Int) = ((0 : Nat) : Int) from rfl, Zlf (by omega) (by omega), wr1 (by omega), Zlf (by omega) (by omega)]
   simp only [Option.bind_some, List.nil_append, List.drop_zero, Nat.sub_zero, List.length_nil, Nat.zero_add]
   have ht : (List.take (t.L.length - (rk k (pl t) + 1)) (List.drop (rk k (pl t) + 1) t.L)) = List.drop (rk k (pl t) + 1) t.L := List.take_of_length_le (by simp)
   rw [ht, if_pos (by simp; omega), if_pos (by simp; omega)]
   have hpl : pl { L := List.take (rk k (pl t)) t.L ++ List.drop (rk k (pl t) + 1) t.L, Room := t.Room } = delL k (pl t) := by
     rw [a5, ← Zq7, ← Zq6, ← List.map_append]; rfl
   refine ⟨_, _, true, rfl, rfl, ⟨?_, z1, ?_, ?_, h.room, ?_⟩, .inr hpl⟩
   · rw [hpl, l1, h.top]
   · rw [hpl]; exact Zxx h.srt
   · simp; omega
   · intro q hq
     rw [hpl] at hq
     exact h.ok q (Zp7 hq)
 · rw [a2]
   simp only [getR, Bool.not_false, if_true]
   by_cases hi : rk k (pl t) < t.L.length
   · have hd : decide ((t.L.length : Int) ≤ ((rk k (pl t) : Nat) : Int)) = false := by simp; omega
     have hg : (pl t)[rk k (pl t)]? = some (kv t.L[rk k (pl t)]) := by rw [Zph, List.getElem?_eq_getElem hi]; rfl
     have he : sEq (t.L[rk k (pl t)]).Key k = false := Zdx.2 (a1 _ hg)
     rw [hd, Zc7 hi]
     simp only [Bool.not_false, gd_t, Option.bind_some, he, Bool.false_or, if_true]
     exact ⟨s, t, false, rfl, rfl, h, .inl rfl⟩
   · have hd : decide ((t.L.length : Int) ≤ ((rk k (pl t) : Nat) : Int)) = true := by simp; omega
     rw [hd]
     simp only [Bool.not_true, gd_f, Option.bind_some, Bool.true_or, if_true]
     exact ⟨s, t, false, rfl, rfl, h, .inl rfl⟩
theorem Zt0 (k : ByteArray) : sEq k (⟨#[]⟩ : ByteArray) = decide ((k.size : Int) < 1) := by
 by_cases h : k = ⟨#[]⟩
 · subst h; rw [Zex]; decide
 · rw [Zdx.2 h]
   have : k.size ≠ 0 := fun e => h (by
     apply ByteArray.ext
     exact Array.size_eq_zero_iff.1 e)
   simp; omega
theorem Zn1 {s : Zm} {t : Zk} {n : Nat} (h : Rel s t n) (hn : n < 1000000) (k : ByteArray) {x : Zd} (hx : Zg6 x) (hx2 : x.List.length ≤ 100) :
   ∃ s' t' c, Zdl s k x = some (s', c) ∧ Zdw t k x = some (t', c) ∧ Rel s' t' (n + 1) ∧ (pl t' = pl t ∨ (pl t' = insL k x (pl t) ∧ Zdq x = some 0 ∧ ¬ (k.size : Int) < 1 ∧ ¬ (24 : Int) < (k.size : Int))) := by
 have hb := h.len
 have hle := Zrp k (pl t)
 rw [Zeh] at hle
 obtain ⟨c, hc1, hc2⟩ := Zky hx
 unfold Zdl Zdw
 rw [hc1, hc2, Zne h, Zrj (by omega), Zp0 h, Zn7 (by unfold Cl; omega), Zt0, h.room]
 by_cases h1 : (decide ((k.size : Int) < 1) || decide ((24 : Int) < (k.size : Int))) = true
 · rw [if_pos h1, if_pos h1]
   exact ⟨s, t, 1, rfl, rfl, h.mono (by omega), .inl rfl⟩
 · rw [if_neg h1, if_neg h1]
   simp only [Option.bind_some]
   by_cases h2 : (c != 0) = true
   · rw [if_pos h2, if_pos h2]
     exact ⟨s, t, c, rfl, rfl, h.mono (by omega), .inl rfl⟩
   · rw [if_neg h2, if_neg h2]
     obtain ⟨t1, e1, z1, l1⟩ := Zxg (k := k) (x := x) h.sz (by rw [h.top]; exact h.srt) (by rw [h.tl]; omega)
     rw [e1]
     have h20 : c = 0 := by simpa using h2
     have h11 : ¬ (k.size : Int) < 1 := fun h' => h1 (by simp [h'])
     have h12 : ¬ (24 : Int) < (k.size : Int) := fun h' => h1 (by simp [h'])
     have hmk : ∀ L' : List Z2, L'.map kv = insL k x (pl t) → Rel { top := t1, room := t.Room } { L := L', Room := t.Room } (n + 1) ∧ (pl { L := L', Room := t.Room } = pl t ∨ (pl { L := L', Room := t.Room } = insL k x (pl t) ∧ some c = some (0 : Int) ∧ ¬ (k.size : Int) < 1 ∧ ¬ (24 : Int) < (k.size : Int))) := fun L' hL => by
       have hpl : pl { L := L', Room := t.Room } = insL k x (pl t) := hL
       refine ⟨⟨by rw [hpl, l1, h.top], z1, by rw [hpl]; exact Zxq h.srt, ?_, rfl, ?_⟩, .inr ⟨hpl, by rw [h20], h11, h12⟩⟩
       · have := Zmh k x (pl t)
         rw [← hL, Zeh] at this
         simp at this
         show L'.length ≤ n + 1
         omega
       · intro q hq
         rw [hpl] at hq
         rcases Zpz hq with rfl | hq
         · exact ⟨hx, hx2⟩
         · exact h.ok q hq
     rcases Zj4 x h.srt with ⟨p, a1, a2, a3, a4, _⟩ | ⟨a1, a2, a3, _⟩
     · have hi : rk k (pl t) < t.L.length := by
         have := (List.getElem?_eq_some_iff.1 a1).1
         rwa [Zeh] at this
       have hd : decide (((rk k (pl t) : Nat) : Int) < (t.L.length : Int)) = true := by simp; omega
       have hg : (pl t)[rk k (pl t)]? = some (kv t.L[rk k (pl t)]) := by rw [Zph, List.getElem?_eq_getElem hi]; rfl
       rw [hg] at a1
       obtain rfl := Option.some.inj a1
       have he : sEq (t.L[rk k (pl t)]).Key k = true := Zhd.2 a2
       rw [a3, hd, Zc7 hi]
       simp only [getR, Bool.not_true, Bool.false_and, Bool.false_eq_true, if_false, gd_f, gd_t, Option.bind_some, he, Bool.and_self, Bool.true_and, if_true]
       rw [show (0 : Int) = ((0 : Nat) : Int) from rfl, Zlf (by omega) (by omega), wr1 (by omega)]
       simp only [Option.bind_some, List.nil_append, List.drop_zero, Nat.sub_zero, List.length_nil, Nat.zero_add, Zdv]
       rw [if_pos (by simp; omega), if_pos (by simp; omega), Zlf (by omega) (by omega)]
       have ht : (List.take (t.L.length - (rk k (pl t) + 1)) (List.drop (rk k (pl t) + 1) t.L)) = List.drop (rk k (pl t) + 1) t.L := List.take_of_length_le (by simp)
       simp only [Option.bind_some, ht, List.nil_append]
       rw [if_pos (by simp; omega)]
       refine ⟨_, _, 0, rfl, rfl, hmk _ ?_⟩
       rw [a4]; simp [Zq7, Zq6, kv, pl]
     · rw [a2]
       simp only [getR, Bool.not_false, gd_t, Option.bind_some, Bool.true_and]
       have hne : (decide (((rk k (pl t) : Nat) : Int) < (t.L.length : Int)) && sEq (((gd (decide (((rk k (pl t) : Nat) : Int) < (t.L.length : Int))) (idx t.L ((rk k (pl t) : Nat) : Int))).getD default).Key) k) = false := by
         by_cases hi : rk k (pl t) < t.L.length
         · have hg : (pl t)[rk k (pl t)]? = some (kv t.L[rk k (pl t)]) := by rw [Zph, List.getElem?_eq_getElem hi]; rfl
           have he : sEq (t.L[rk k (pl t)]).Key k = false := Zdx.2 (a1 _ hg)
           have hd : decide (((rk k (pl t) : Nat) : Int) < (t.L.length : Int)) = true := by simp; omega
           rw [hd, Zc7 hi]
           simp [gd, he]
         · have hd : decide (((rk k (pl t) : Nat) : Int) < (t.L.length : Int)) = false := by simp; omega
           rw [hd]; rfl
       have hex : ∃ e, gd (decide (((rk k (pl t) : Nat) : Int) < (t.L.length : Int))) (idx t.L ((rk k (pl t) : Nat) : Int)) = some e := by
         by_cases hi : rk k (pl t) < t.L.length
         · rw [Zc7 hi]
           cases decide (((rk k (pl t) : Nat) : Int) < (t.L.length : Int)) <;> exact ⟨_, rfl⟩
         · have hd : decide (((rk k (pl t) : Nat) : Int) < (t.L.length : Int)) = false := by simp; omega
           rw [hd]; exact ⟨_, rfl⟩
       obtain ⟨e, hee⟩ := hex
       rw [hee] at hne ⊢
       simp only [Option.getD_some] at hne
       simp only [Option.bind_some, hne, Bool.not_false, Bool.true_and]
       by_cases h5 : decide (t.Room ≤ (t.L.length : Int)) = true
       · rw [if_pos h5, if_pos h5]
         exact ⟨s, t, 8, rfl, rfl, h.mono (by omega), .inl rfl⟩
       · rw [if_neg h5, if_neg h5]
         rw [show (0 : Int) = ((0 : Nat) : Int) from rfl, Zlf (by omega) (by omega)]
         simp only [Option.bind_some, List.nil_append, List.drop_zero, Nat.sub_zero, List.length_nil, Nat.zero_add, Zdv, Bool.false_eq_true, if_false]
         rw [if_pos (by simp; omega), if_pos (by simp; omega), Zlf (by omega) (by omega)]
         have ht : (List.take (t.L.length - rk k (pl t)) (List.drop (rk k (pl t)) t.L)) = List.drop (rk k (pl t)) t.L := List.take_of_length_le (by simp)
         simp only [Option.bind_some, ht, List.nil_append]
         rw [if_pos (by simp; omega)]
         refine ⟨_, _, 0, rfl, rfl, hmk _ ?_⟩
         rw [a3]; simp [Zq7, Zq6, kv, pl]
theorem Zv2 : ∀ l : List Zj, eqL l l = true
 | [] => rfl
 | x :: l => by simp [eqL, eqI, Zex, Zv2 l]
theorem Zzd (a : Zd) : Zkb a a = true := by simp [Zkb, Zex, Zv2]
theorem Znt {β : Type} [Inhabited β] (c : Bool) (v : β) : gd c (some v) = some (if c then v else default) := by cases c <;> rfl
def Zsl (a : Zv) : Prop := Zg6 a.Make ∧ a.X < W64
abbrev zrc : Zd := { Kind := 0, Num := 0, Low := 0, High := 0, Real := 0, Cap := 0, Text := ByteArray.empty, List := [] }
theorem Znp : Zg6 zrc := ⟨by decide, by decide, fun e he => by cases he⟩
def actD (n x s m o1 k1 k2 : Bool) (c : Int) (a : Zv) : Int :=
 if (sEq a.Key ⟨#[]⟩ || decide ((24 : Int) < a.Key.size)) = true then 1
 else if (!(((n || a.N == 0) && (x || decide (keyf a.X = keyf 0))) && (s || sEq a.S ⟨#[]⟩) && (m || Zkb a.Make zrc))) = true then 4
 else if decide ((if o1 = true then (64 : Int) else 16) < a.S.size) = true then 3
 else if (k2 && (decide (a.N < 0) || decide (2305843009213693952 < a.N))) = true then 1
 else if (!decide (a.X = Zbz a.X)) = true then 4
 else if k1 = true then c else 0
theorem Z4k (k : ByteArray) : (decide ((k.size : Int) < 1)) = sEq k ⟨#[]⟩ := by
 by_cases h : k = ⟨#[]⟩
 · subst h; rw [Zex]; decide
 · rw [Zdx.2 h]
   have : k.size ≠ 0 := fun e => h (by
     apply ByteArray.ext
     exact Array.size_eq_zero_iff.1 e)
   simp; omega
theorem Zzo {a : Zv} (ha : Zsl a) {w has : ByteArray} {on c : Int} {n x s m : Bool} (hc : Zdq a.Make = some c) (h1 : Zmg a.Kind = some ⟨w, on, has⟩) (hw : sEq w ⟨#[]⟩ = false)
   (fn : Zct ⟨w, on, has⟩ 110 = some n) (fx : Zct ⟨w, on, has⟩ 120 = some x) (fs : Zct ⟨w, on, has⟩ 115 = some s) (fm : Zct ⟨w, on, has⟩ 109 = some m) :
   Zgf a = some (actD n x s m (on == 1) (a.Kind == 1) (a.Kind == 10 || a.Kind == 11) c a) := by
 have h0 : (0 : Nat) < W64 := by decide
 unfold Zgf Zn8 Zob
 rw [h1]
 simp only [Option.bind_some, hw, Bool.false_eq_true, if_false, fn, fx, fs, fm, Znt]
 rw [Zl5 ha.2 h0, Zwn ha.1 Znp, Zoz ha.2, hc]
 simp only [Option.bind_some, Znt]
 unfold actD
 generalize (sEq a.Key ⟨#[]⟩ || decide ((24 : Int) < a.Key.size)) = b1
 generalize (a.N == 0) = b2
 generalize decide (keyf a.X = keyf 0) = b3
 generalize sEq a.S ⟨#[]⟩ = b4
 generalize Zkb a.Make zrc = b5
 generalize (a.Kind == 10 || a.Kind == 11) = b6
 generalize (a.Kind == 1) = b7
 generalize (decide (a.N < 0) || decide (2305843009213693952 < a.N)) = b8
 generalize decide (a.X = Zbz a.X) = b9
 have e1 : decide ((64 : Int) < a.S.size) = decide ((if true = true then (64 : Int) else 16) < a.S.size) := rfl
 cases b1
 · have hm : ∀ (z : Bool), ((if z = true then some (64 : Int) else some 16).bind fun r8 => (if decide (r8 < (a.S.size : Int)) = true then some (3 : Int) else if (b6 && b8) = true then some 1 else if (!b9) = true then some 4 else if b7 = true then some c else some 0)) = some (if decide ((if z = true then (64 : Int) else 16) < a.S.size) = true then 3 else if (b6 && b8) = true then 1 else if (!b9) = true then 4 else if b7 = true then c else 0) := by
     intro z
     cases z <;> simp only [Bool.false_eq_true, if_false, if_true, Option.bind_some] <;> (repeat' split) <;> rfl
   rw [hm]
   cases n <;> cases x <;> cases s <;> cases m <;> cases b2 <;> cases b3 <;> cases b4 <;> cases b5 <;> rfl
 · rfl
theorem Zy1 {a : Zv} (ha : Zsl a) {on c : Int} {n x s m : Bool} (hc : Zc3 a.Make = some c) (hk : ¬ (a.Kind < 1 ∨ 21 < a.Kind)) (ro : Zen a.Kind = some on)
   (fn : Zee a.Kind 110 = some n) (fx : Zee a.Kind 120 = some x) (fs : Zee a.Kind 115 = some s) (fm : m = (a.Kind == 1)) :
   Zew a = some (actD n x s m (on == 1) (a.Kind == 1) (a.Kind == 10 || a.Kind == 11) c a) := by
 have h0 : (0 : Nat) < W64 := by decide
 unfold Zew
 rw [if_neg (by simpa using hk), fn, fx, fs, ro]
 simp only [Option.bind_some, Znt, Z4k]
 rw [Zle ha.2 h0, Z09 ha.1 Znp, Zn4 ha.2, hc]
 simp only [Option.bind_some, Znt]
 unfold actD
 subst fm
 have hmid : ((on == 1 && decide ((64 : Int) < a.S.size)) || ((if (!(on == 1 && decide ((64 : Int) < a.S.size))) = true then on else default) != 1 && decide ((16 : Int) < a.S.size))) = decide ((if (on == 1) = true then (64 : Int) else 16) < a.S.size) := by
   by_cases ho : on = 1
   · subst ho
     by_cases h64 : (64 : Int) < a.S.size <;> simp [h64]
   · have hb1 : (on == 1) = false := by simpa using ho
     have hb2 : (on != 1) = true := by simpa using ho
     simp [hb1, hb2]
 rw [hmid, show (a.N != 0) = !(a.N == 0) from rfl, show (a.Kind != 1) = !(a.Kind == 1) from rfl]
 generalize decide ((if (on == 1) = true then (64 : Int) else 16) < a.S.size) = b10
 generalize (sEq a.Key ⟨#[]⟩ || decide ((24 : Int) < a.Key.size)) = b1
 generalize (a.N == 0) = b2
 generalize decide (keyf a.X = keyf 0) = b3
 generalize sEq a.S ⟨#[]⟩ = b4
 generalize Zkb a.Make zrc = b5
 generalize (a.Kind == 10 || a.Kind == 11) = b6
 generalize (a.Kind == 1) = b7
 generalize (decide (a.N < 0) || decide (2305843009213693952 < a.N)) = b8
 generalize decide (a.X = Zbz a.X) = b9
 have htail : (if b10 = true then some (3 : Int) else if (b6 && b8) = true then some 1 else if (!b9) = true then some 4 else if b7 = true then some c else some 0) = some (if b10 = true then 3 else if (b6 && b8) = true then 1 else if (!b9) = true then 4 else if b7 = true then c else 0) := by
   (repeat' split) <;> rfl
 rw [htail]
 cases b1
 · cases n <;> cases x <;> cases s <;> cases b7 <;> cases b2 <;> cases b3 <;> cases b4 <;> cases b5 <;> rfl
 · rfl
theorem Zzz {n x s m o1 k1 k2 : Bool} {c : Int} {a : Zv} (h : actD n x s m o1 k1 k2 c a = 0) : (sEq a.Key ⟨#[]⟩ || decide ((24 : Int) < a.Key.size)) = false ∧ decide ((if o1 = true then (64 : Int) else 16) < a.S.size) = false ∧ (k2 && (decide (a.N < 0) || decide (2305843009213693952 < a.N))) = false ∧ decide (a.X = Zbz a.X) = true ∧ (k1 = true → c = 0) := by
 unfold actD at h
 revert h
 generalize (sEq a.Key ⟨#[]⟩ || decide ((24 : Int) < a.Key.size)) = b1
 generalize decide ((if o1 = true then (64 : Int) else 16) < a.S.size) = b3
 generalize (k2 && (decide (a.N < 0) || decide (2305843009213693952 < a.N))) = b4
 generalize decide (a.X = Zbz a.X) = b5
 generalize (!(((n || a.N == 0) && (x || decide (keyf a.X = keyf 0))) && (s || sEq a.S ⟨#[]⟩) && (m || Zkb a.Make zrc))) = b2
 cases b1 <;> cases b2 <;> cases b3 <;> cases b4 <;> cases b5 <;> cases k1 <;> simp
theorem Zm0 {a : Zv} (ha : Zsl a) : ∃ c, Zgf a = some c ∧ Zew a = some c ∧ (c = 0 → 1 ≤ a.Kind ∧ a.Kind ≤ 21 ∧ a.X = Zbz a.X ∧ a.S.size ≤ 64 ∧ ((a.Kind = 10 ∨ a.Kind = 11) → 0 ≤ a.N ∧ a.N ≤ 2305843009213693952) ∧ (a.Kind = 1 → Zdq a.Make = some 0) ∧ (¬ (5 ≤ a.Kind ∧ a.Kind ≤ 6) → a.S.size ≤ 16) ∧ sEq a.Key ⟨#[]⟩ = false ∧ a.Key.size ≤ 24) := by
 by_cases hk : a.Kind < 1 ∨ 21 < a.Kind
 · refine ⟨5, ?_, ?_, fun h => by cases h⟩
   · unfold Zgf Zmg
     rw [if_pos (by simp; omega)]
     simp only [Option.bind_some]
     rw [if_pos (show sEq ByteArray.empty ⟨#[]⟩ = true by kernel_rfl)]
   · unfold Zew
     rw [if_pos (by simpa using hk)]
 · obtain ⟨c, hc1, hc2⟩ := Zky ha.1
   have fin : ∀ {w has : ByteArray} {on : Int} {n x s m : Bool}, Zmg a.Kind = some ⟨w, on, has⟩ → sEq w ⟨#[]⟩ = false → Zct ⟨w, on, has⟩ 110 = some n → Zct ⟨w, on, has⟩ 120 = some x → Zct ⟨w, on, has⟩ 115 = some s → Zct ⟨w, on, has⟩ 109 = some m →
       Zen a.Kind = some on → Zee a.Kind 110 = some n → Zee a.Kind 120 = some x → Zee a.Kind 115 = some s → m = (a.Kind == 1) → ((on == 1) = true → 5 ≤ a.Kind ∧ a.Kind ≤ 6) →
       ∃ c, Zgf a = some c ∧ Zew a = some c ∧ (c = 0 → 1 ≤ a.Kind ∧ a.Kind ≤ 21 ∧ a.X = Zbz a.X ∧ a.S.size ≤ 64 ∧ ((a.Kind = 10 ∨ a.Kind = 11) → 0 ≤ a.N ∧ a.N ≤ 2305843009213693952) ∧ (a.Kind = 1 → Zdq a.Make = some 0) ∧ (¬ (5 ≤ a.Kind ∧ a.Kind ≤ 6) → a.S.size ≤ 16) ∧ sEq a.Key ⟨#[]⟩ = false ∧ a.Key.size ≤ 24) := by
     intro w has on n x s m h1 hw fn fx fs fm ro rn rx rs hm hon
     refine ⟨_, Zzo ha hc1 h1 hw fn fx fs fm, by rw [hm]; exact Zy1 ha hc2 hk ro rn rx rs rfl, fun h0 => ?_⟩
     obtain ⟨g1, g3, g4, g5, g6⟩ := Zzz h0
     simp only [Bool.or_eq_false_iff, decide_eq_false_iff_not] at g1
     have g3' : ¬ (if (on == 1) = true then (64 : Int) else 16) < a.S.size := of_decide_eq_false g3
     refine ⟨by omega, by omega, of_decide_eq_true g5, ?_, fun h => ?_, fun h => ?_, fun h => ?_, g1.1, by omega⟩
     · split at g3' <;> omega
     · have h11 : (a.Kind == 10 || a.Kind == 11) = true := by simpa using h
       rw [h11] at g4
       simp only [Bool.true_and, Bool.or_eq_false_iff, decide_eq_false_iff_not] at g4
       omega
     · rw [hc1, g6 (by simp [h])]
     · rw [if_neg (fun h2 => h (hon h2))] at g3'
       omega
   have hk' : a.Kind = 1 ∨ a.Kind = 2 ∨ a.Kind = 3 ∨ a.Kind = 4 ∨ a.Kind = 5 ∨ a.Kind = 6 ∨ a.Kind = 7 ∨ a.Kind = 8 ∨ a.Kind = 9 ∨ a.Kind = 10 ∨ a.Kind = 11 ∨ a.Kind = 12 ∨ a.Kind = 13 ∨ a.Kind = 14 ∨ a.Kind = 15 ∨ a.Kind = 16 ∨ a.Kind = 17 ∨ a.Kind = 18 ∨ a.Kind = 19 ∨ a.Kind = 20 ∨ a.Kind = 21 := by omega
   rcases hk' with h | h | h | h | h | h | h | h | h | h | h | h | h | h | h | h | h | h | h | h | h <;> rw [h] at fin ⊢
   · exact fin (w := ⟨#[110, 101, 119]⟩) (on := 0) (has := ⟨#[109]⟩) (n := false) (x := false) (s := false) (m := true) (by kernel_rfl) (by kernel_rfl) (by kernel_rfl) (by kernel_rfl) (by kernel_rfl) (by kernel_rfl) (by kernel_rfl) (by kernel_rfl) (by kernel_rfl) (by kernel_rfl) (by decide) (by decide)
   · exact fin (w := ⟨#[100, 114, 111, 112]⟩) (on := 0) (has := ⟨#[]⟩) (n := false) (x := false) (s := false) (m := false) (by kernel_rfl) (by kernel_rfl) (by kernel_rfl) (by kernel_rfl) (by kernel_rfl) (by kernel_rfl) (by kernel_rfl) (by kernel_rfl) (by kernel_rfl) (by kernel_rfl) (by decide) (by decide)
   · exact fin (w := ⟨#[105, 115]⟩) (on := 0) (has := ⟨#[]⟩) (n := false) (x := false) (s := false) (m := false) (by kernel_rfl) (by kernel_rfl) (by kernel_rfl) (by kernel_rfl) (by kernel_rfl) (by kernel_rfl) (by kernel_rfl) (by kernel_rfl) (by kernel_rfl) (by kernel_rfl) (by decide) (by decide)
   · exact fin (w := ⟨#[108, 111, 111, 107]⟩) (on := 0) (has := ⟨#[]⟩) (n := false) (x := false) (s := false) (m := false) (by kernel_rfl) (by kernel_rfl) (by kernel_rfl) (by kernel_rfl) (by kernel_rfl) (by kernel_rfl) (by kernel_rfl) (by kernel_rfl) (by kernel_rfl) (by kernel_rfl) (by decide) (by decide)
   · exact fin (w := ⟨#[112, 117, 116]⟩) (on := 1) (has := ⟨#[115]⟩) (n := false) (x := false) (s := true) (m := false) (by kernel_rfl) (by kernel_rfl) (by kernel_rfl) (by kernel_rfl) (by kernel_rfl) (by kernel_rfl) (by kernel_rfl) (by kernel_rfl) (by kernel_rfl) (by kernel_rfl) (by decide) (by decide)
   · exact fin (w := ⟨#[115, 119, 97, 112]⟩) (on := 1) (has := ⟨#[115]⟩) (n := false) (x := false) (s := true) (m := false) (by kernel_rfl) (by kernel_rfl) (by kernel_rfl) (by kernel_rfl) (by kernel_rfl) (by kernel_rfl) (by kernel_rfl) (by kernel_rfl) (by kernel_rfl) (by kernel_rfl) (by decide) (by decide)
   · exact fin (w := ⟨#[97, 100, 100]⟩) (on := 2) (has := ⟨#[110]⟩) (n := true) (x := false) (s := false) (m := false) (by kernel_rfl) (by kernel_rfl) (by kernel_rfl) (by kernel_rfl) (by kernel_rfl) (by kernel_rfl) (by kernel_rfl) (by kernel_rfl) (by kernel_rfl) (by kernel_rfl) (by decide) (by decide)
   · exact fin (w := ⟨#[112, 108, 117, 115]⟩) (on := 3) (has := ⟨#[110]⟩) (n := true) (x := false) (s := false) (m := false) (by kernel_rfl) (by kernel_rfl) (by kernel_rfl) (by kernel_rfl) (by kernel_rfl) (by kernel_rfl) (by kernel_rfl) (by kernel_rfl) (by kernel_rfl) (by kernel_rfl) (by decide) (by decide)
   · exact fin (w := ⟨#[114, 101, 97, 99, 104]⟩) (on := 3) (has := ⟨#[110]⟩) (n := true) (x := false) (s := false) (m := false) (by kernel_rfl) (by kernel_rfl) (by kernel_rfl) (by kernel_rfl) (by kernel_rfl) (by kernel_rfl) (by kernel_rfl) (by kernel_rfl) (by kernel_rfl) (by kernel_rfl) (by decide) (by decide)
   · exact fin (w := ⟨#[105, 110]⟩) (on := 4) (has := ⟨#[110]⟩) (n := true) (x := false) (s := false) (m := false) (by kernel_rfl) (by kernel_rfl) (by kernel_rfl) (by kernel_rfl) (by kernel_rfl) (by kernel_rfl) (by kernel_rfl) (by kernel_rfl) (by kernel_rfl) (by kernel_rfl) (by decide) (by decide)
   · exact fin (w := ⟨#[111, 117, 116]⟩) (on := 4) (has := ⟨#[110]⟩) (n := true) (x := false) (s := false) (m := false) (by kernel_rfl) (by kernel_rfl) (by kernel_rfl) (by kernel_rfl) (by kernel_rfl) (by kernel_rfl) (by kernel_rfl) (by kernel_rfl) (by kernel_rfl) (by kernel_rfl) (by decide) (by decide)
   · exact fin (w := ⟨#[101, 110, 111, 117, 103, 104]⟩) (on := 4) (has := ⟨#[110]⟩) (n := true) (x := false) (s := false) (m := false) (by kernel_rfl) (by kernel_rfl) (by kernel_rfl) (by kernel_rfl) (by kernel_rfl) (by kernel_rfl) (by kernel_rfl) (by kernel_rfl) (by kernel_rfl) (by kernel_rfl) (by decide) (by decide)
   · exact fin (w := ⟨#[114, 97, 105, 115, 101]⟩) (on := 5) (has := ⟨#[120]⟩) (n := false) (x := true) (s := false) (m := false) (by kernel_rfl) (by kernel_rfl) (by kernel_rfl) (by kernel_rfl) (by kernel_rfl) (by kernel_rfl) (by kernel_rfl) (by kernel_rfl) (by kernel_rfl) (by kernel_rfl) (by decide) (by decide)
   · exact fin (w := ⟨#[108, 111, 119, 101, 114]⟩) (on := 6) (has := ⟨#[120]⟩) (n := false) (x := true) (s := false) (m := false) (by kernel_rfl) (by kernel_rfl) (by kernel_rfl) (by kernel_rfl) (by kernel_rfl) (by kernel_rfl) (by kernel_rfl) (by kernel_rfl) (by kernel_rfl) (by kernel_rfl) (by decide) (by decide)
   · exact fin (w := ⟨#[115, 104, 105, 102, 116]⟩) (on := 7) (has := ⟨#[120]⟩) (n := false) (x := true) (s := false) (m := false) (by kernel_rfl) (by kernel_rfl) (by kernel_rfl) (by kernel_rfl) (by kernel_rfl) (by kernel_rfl) (by kernel_rfl) (by kernel_rfl) (by kernel_rfl) (by kernel_rfl) (by decide) (by decide)
   · exact fin (w := ⟨#[115, 99, 97, 108, 101]⟩) (on := 7) (has := ⟨#[120]⟩) (n := false) (x := true) (s := false) (m := false) (by kernel_rfl) (by kernel_rfl) (by kernel_rfl) (by kernel_rfl) (by kernel_rfl) (by kernel_rfl) (by kernel_rfl) (by kernel_rfl) (by kernel_rfl) (by kernel_rfl) (by decide) (by decide)
   · exact fin (w := ⟨#[102, 105, 120]⟩) (on := 7) (has := ⟨#[120]⟩) (n := false) (x := true) (s := false) (m := false) (by kernel_rfl) (by kernel_rfl) (by kernel_rfl) (by kernel_rfl) (by kernel_rfl) (by kernel_rfl) (by kernel_rfl) (by kernel_rfl) (by kernel_rfl) (by kernel_rfl) (by decide) (by decide)
   · exact fin (w := ⟨#[106, 111, 105, 110]⟩) (on := 8) (has := ⟨#[115]⟩) (n := false) (x := false) (s := true) (m := false) (by kernel_rfl) (by kernel_rfl) (by kernel_rfl) (by kernel_rfl) (by kernel_rfl) (by kernel_rfl) (by kernel_rfl) (by kernel_rfl) (by kernel_rfl) (by kernel_rfl) (by decide) (by decide)
   · exact fin (w := ⟨#[108, 101, 97, 118, 101]⟩) (on := 8) (has := ⟨#[115]⟩) (n := false) (x := false) (s := true) (m := false) (by kernel_rfl) (by kernel_rfl) (by kernel_rfl) (by kernel_rfl) (by kernel_rfl) (by kernel_rfl) (by kernel_rfl) (by kernel_rfl) (by kernel_rfl) (by kernel_rfl) (by decide) (by decide)
   · exact fin (w := ⟨#[104, 97, 115]⟩) (on := 8) (has := ⟨#[115]⟩) (n := false) (x := false) (s := true) (m := false) (by kernel_rfl) (by kernel_rfl) (by kernel_rfl) (by kernel_rfl) (by kernel_rfl) (by kernel_rfl) (by kernel_rfl) (by kernel_rfl) (by kernel_rfl) (by kernel_rfl) (by decide) (by decide)
   · exact fin (w := ⟨#[111, 102, 102, 101, 114]⟩) (on := 9) (has := ⟨#[120, 115]⟩) (n := false) (x := true) (s := true) (m := false) (by kernel_rfl) (by kernel_rfl) (by kernel_rfl) (by kernel_rfl) (by kernel_rfl) (by kernel_rfl) (by kernel_rfl) (by kernel_rfl) (by kernel_rfl) (by kernel_rfl) (by decide) (by decide)
abbrev Zcz := List Zj
def NS (l : Zcz) : Prop := l.Pairwise fun p q => sLt p.Name q.Name = true
def pre (f : Zj → Bool) : Zcz → Nat
 | [] => 0
 | e :: r => if f e then pre f r + 1 else 0
theorem Zmi (f : Zj → Bool) : ∀ l : Zcz, pre f l ≤ l.length
 | [] => Nat.le_refl _
 | e :: r => by
   have := Zmi f r
   simp only [pre]
   split <;> simp <;> omega
theorem Zvd {f : Zj → Bool} : ∀ {l : Zcz} {k : Nat} (h : k < pre f l), ∃ e, l[k]? = some e ∧ f e = true
 | [], k, h => by simp [pre] at h
 | e :: r, k, h => by
   simp only [pre] at h
   split at h
   · rename_i hf
     cases k with
     | zero => exact ⟨e, rfl, hf⟩
     | succ k => exact Zvd (l := r) (by omega)
   · omega
theorem Zry {f : Zj → Bool} : ∀ {l : Zcz} {e : Zj}, l[pre f l]? = some e → f e = false
 | [], e, h => by simp [pre] at h
 | x :: r, e, h => by
   simp only [pre] at h
   split at h
   · exact Zry (l := r) (by simpa using h)
   · rename_i hf
     simp at h; subst h; simpa using hf
theorem Zrh {s : ByteArray} {l : Zcz} (hs : NS l) {k : Nat} (hk : k < l.length) : sLt (l[k]).Name s = decide (k < pre (fun e => sLt e.Name s) l) := by
 by_cases h : k < pre (fun e => sLt e.Name s) l
 · obtain ⟨e, he, hf⟩ := Zvd h
   rw [List.getElem?_eq_getElem hk] at he
   obtain rfl := Option.some.inj he
   simp only [h, decide_true]; exact hf
 · simp only [h, decide_false]
   have hp : pre (fun e => sLt e.Name s) l < l.length := by omega
   have h1 := Zry (List.getElem?_eq_getElem hp)
   rcases Nat.lt_or_eq_of_le (Nat.le_of_not_lt h) with hlt | heq
   · have h2 := List.pairwise_iff_getElem.1 hs _ _ hp hk hlt
     cases h3 : sLt (l[k]).Name s
     · rfl
     · rw [Ze9 h2 h3] at h1; cases h1
   · have : l[k] = l[pre (fun e => sLt e.Name s) l] := by congr 1; exact heq.symm
     rw [this]; exact h1
theorem half {i j : Nat} (h : i + j < 4611686018427387904) : IntKind.i64.wrap (Int.fdiv (IntKind.u64.wrap (IntKind.i64.wrap ((i : Int) + (j : Int)))) (2 ^ 1)) = (((i + j) / 2 : Nat) : Int) := by
 rw [wr (x := (i : Int) + j) (by omega) (by omega), wru (by omega) (by omega)]
 have : Int.fdiv ((i : Int) + j) (2 ^ 1) = (((i + j) / 2 : Nat) : Int) := by
   rw [Int.fdiv_eq_ediv_of_nonneg _ (by decide)]; omega
 rw [this, wr (by omega) (by omega)]
theorem Z2z (e : Zj) (s : ByteArray) : ∃ c : Int, Zh4 e s = some c ∧ decide (c < 0) = sLt e.Name s ∧ (c == 0) = sEq e.Name s := by
 unfold Zh4
 by_cases h : sLt e.Name s = true
 · exact ⟨-1, by rw [if_pos h], by rw [h]; rfl, by rw [Zdx.2 (Zkx h)]; rfl⟩
 · have h' : sLt e.Name s = false := by simpa using h
   by_cases h2 : e.Name = s
   · exact ⟨0, by rw [if_neg h, h', Zhd.2 h2]; rfl, by rw [h']; rfl, by rw [Zhd.2 h2]; rfl⟩
   · exact ⟨1, by rw [if_neg h, h', Zdx.2 h2]; rfl, by rw [h']; rfl, by rw [Zdx.2 h2]; rfl⟩
theorem Zta {l : Zcz} {s : ByteArray} (hs : NS l) (hl : l.length < 2305843009213693952) : ∀ (n i j : Nat), j - i < n → i ≤ pre (fun e => sLt e.Name s) l → pre (fun e => sLt e.Name s) l ≤ j → j ≤ l.length →
   Z9 l s (fun y0 y1 => Zh4 y0 y1) n (i : Int) (j : Int) = some ((pre (fun e => sLt e.Name s) l : Nat) : Int)
 | 0, i, j, h, _, _, _ => by omega
 | n + 1, i, j, h, h1, h2, h3 => by
   rw [Z9]
   by_cases hij : i < j
   · rw [if_pos (by simpa using hij), half (by omega)]
     have hm : (i + j) / 2 < l.length := by omega
     rw [Zc7 hm]
     obtain ⟨c, hc, hc1, _⟩ := Z2z l[(i + j) / 2] s
     simp only [Option.bind_some, hc]
     rw [hc1, Zrh hs hm]
     unfold Zb2
     by_cases hp : (i + j) / 2 < pre (fun e => sLt e.Name s) l
     · rw [if_pos (by simpa using hp), wr1 (by omega)]
       exact Zta hs hl n ((i + j) / 2 + 1) j (by omega) (by omega) h2 h3
     · rw [if_neg (by simpa using hp)]
       exact Zta hs hl n i ((i + j) / 2) (by omega) h1 (by omega) (by omega)
   · rw [if_neg (by simpa using hij)]
     congr 2; omega
def isAt (s : ByteArray) (l : Zcz) : Bool := match l[pre (fun e => sLt e.Name s) l]? with
 | some e => sEq e.Name s
 | none => false
theorem Zl6 {l : Zcz} {s : ByteArray} (hs : NS l) (hl : l.length < 2305843009213693952) : Zje l s = some (((pre (fun e => sLt e.Name s) l : Nat) : Int), isAt s l) := by
 unfold Zje Zch
 have := Zta (s := s) hs hl (l.length + 1) 0 l.length (by omega) (Nat.zero_le _) (Zmi _ _) (Nat.le_refl _)
 rw [show ((0 : Nat) : Int) = 0 from rfl] at this
 rw [show (Int.toNat ((l.length : Int) - (0 : Int)) + 1) = l.length + 1 by omega, this]
 simp only [Option.bind_some]
 unfold isAt
 by_cases hp : pre (fun e => sLt e.Name s) l < l.length
 · have hd : decide (((pre (fun e => sLt e.Name s) l : Nat) : Int) < (l.length : Int)) = true := by simpa using hp
   rw [hd, Zc7 hp, List.getElem?_eq_getElem hp]
   obtain ⟨c, hc, _, hc2⟩ := Z2z l[pre (fun e => sLt e.Name s) l] s
   simp only [gd_t, Option.bind_some, hc, Bool.true_and, hc2]
 · have hd : decide (((pre (fun e => sLt e.Name s) l : Nat) : Int) < (l.length : Int)) = false := by simpa using hp
   rw [hd, List.getElem?_eq_none (by omega)]
   rfl
def goL (f g : Zj → Bool) (x : Zj) : Zcz → Bool → Zcz × Bool
 | [], d => ([], d)
 | e :: r, d => if (!d && !f e) = true then ((if g e then [] else [x]) ++ e :: (goL f g x r true).1, (goL f g x r true).2) else (e :: (goL f g x r d).1, (goL f g x r d).2)
theorem Z2q (f g : Zj → Bool) (x : Zj) : ∀ l : Zcz, goL f g x l true = (l, true)
 | [] => rfl
 | e :: r => by simp [goL, Z2q f g x r]
theorem Z2p (f g : Zj → Bool) (x : Zj) : ∀ l : Zcz, goL f g x l false = match l[pre f l]? with
   | some e => (l.take (pre f l) ++ (if g e then [] else [x]) ++ l.drop (pre f l), true)
   | none => (l, false)
 | [] => rfl
 | e :: r => by
   simp only [goL, pre]
   by_cases hf : f e = true
   · simp only [hf, Bool.not_true, Bool.and_false, Bool.false_eq_true, if_false, if_true]
     rw [Z2p f g x r]
     simp only [List.getElem?_cons_succ]
     cases r[pre f r]? <;> simp
   · have hf' : f e = false := by simpa using hf
     simp only [hf', Bool.not_false, Bool.and_self, if_true, Bool.false_eq_true, if_false, Z2q, List.getElem?_cons_zero, List.take_zero, List.nil_append, List.drop_zero]
def Zdf (x : Zj) (nm : Bool) (e : Zj) : Bool := if nm then sLt e.Name x.Name else Zcv e x
def Zj7 (x : Zj) (nm : Bool) (e : Zj) : Bool := sEq e.Name x.Name && (nm || decide (keyf e.Score = keyf x.Score))
theorem Zzv {l : Zcz} {x : Zj} {nm : Bool} (hx : x.Score < W64) (hsc : ∀ e ∈ l, e.Score < W64) {n i : Nat} {out : Zcz} {d : Bool} (h1 : i < l.length) :
   Zco l x nm (n + 1) out d (i : Int) = (if (!d && !Zdf x nm l[i]) = true then (if (!Zj7 x nm l[i]) = true then (if (out.length + ([x] : List Zj).length) * 24 ≤ 140737488355328 then Zec l (i : Int) (Zco l x nm n) (out ++ [x]) true else none) else Zec l (i : Int) (Zco l x nm n) out true) else Zec l (i : Int) (Zco l x nm n) out d) := by
 have hm := hsc _ (List.getElem_mem h1)
 have ha : Zey l[i] x = some (Zcv l[i] x) := Zv5 hm hx
 have hs : Zc9 l[i].Score x.Score = some (decide (keyf l[i].Score = keyf x.Score)) := Zle hm hx
 rw [Zco, if_pos (by simp; omega), Zc7 h1]
 cases nm
 · simp only [Bool.not_false, gd_t, Option.bind_some, Bool.true_and, ha, Bool.and_false, gd_f, Bool.false_and, Bool.or_false, Bool.and_true, Bool.false_or, Zdf, Zj7, Bool.false_eq_true, if_false]
   cases hq : sEq l[i].Name x.Name
   · simp only [gd_f, Option.bind_some, Bool.false_and]
   · simp only [gd_t, Option.bind_some, Bool.true_and, hs]
 · simp only [Bool.not_true, gd_f, Option.bind_some, Bool.false_and, Bool.not_false, Bool.true_and, gd_t, Bool.false_or, Bool.true_or, Bool.and_false, Bool.and_true, Zdf, Zj7, if_true]
theorem Zm2 {l : Zcz} {x : Zj} {nm : Bool} (hx : x.Score < W64) (hsc : ∀ e ∈ l, e.Score < W64) (hl : l.length < 1000000) : ∀ (n i : Nat) (out : Zcz) (d : Bool), i + n = l.length → out.length + (if d = true then 0 else 1) ≤ i + 1 →
   Zco l x nm (n + 1) out d (i : Int) = some (out ++ (goL (Zdf x nm) (Zj7 x nm) x (l.drop i) d).1, (goL (Zdf x nm) (Zj7 x nm) x (l.drop i) d).2)
 | 0, i, out, d, h, _ => by
   rw [Zco, if_neg (by simp; omega), List.drop_of_length_le (by omega)]
   simp [goL]
 | n + 1, i, out, d, h, ho => by
   have h1 : i < l.length := by omega
   rw [Zzv hx hsc h1, List.drop_eq_getElem_cons h1]
   simp only [Zec, Zc7 h1, wr1 (show i < 9223372036854775807 by omega), Option.bind_some, goL]
   by_cases hc : (!d && !Zdf x nm l[i]) = true
   · rw [if_pos hc, if_pos hc]
     have hd : d = false := by cases d <;> simp_all
     subst hd
     simp only [Bool.false_eq_true, if_false] at ho
     by_cases hs : (!Zj7 x nm l[i]) = true
     · rw [if_pos hs, if_pos (by simp; omega), if_pos (by simp; omega), Zm2 hx hsc hl n (i + 1) _ true (by omega) (by simp; omega)]
       have : Zj7 x nm l[i] = false := by simpa using hs
       simp [this]
     · rw [if_neg hs, if_pos (by simp; omega), Zm2 hx hsc hl n (i + 1) _ true (by omega) (by simp; omega)]
       have : Zj7 x nm l[i] = true := by simpa using hs
       simp [this]
   · rw [if_neg hc, if_neg hc, if_pos (by simp; omega), Zm2 hx hsc hl n (i + 1) _ d (by omega) (by simp; omega)]
     simp
def layL (x : Zj) (nm : Bool) (l : Zcz) : Zcz := match l[pre (Zdf x nm) l]? with
 | some e => l.take (pre (Zdf x nm) l) ++ (if Zj7 x nm e then [] else [x]) ++ l.drop (pre (Zdf x nm) l)
 | none => l ++ [x]
theorem Zxs {l : Zcz} {x : Zj} {nm : Bool} (hx : x.Score < W64) (hsc : ∀ e ∈ l, e.Score < W64) (hl : l.length < 1000000) : Zf6 l x nm = some (layL x nm l) := by
 unfold Zf6
 have := Zm2 (nm := nm) hx hsc hl l.length 0 [] false (by omega) (by simp)
 rw [show ((0 : Nat) : Int) = 0 from rfl] at this
 rw [show (Int.toNat ((l.length : Int) - (0 : Int)) + 1) = l.length + 1 by omega, this]
 simp only [Option.bind_some, List.nil_append, List.drop_zero]
 rw [Z2p]
 unfold layL
 cases h : l[pre (Zdf x nm) l]? with
 | none =>
   simp only [Bool.not_false, if_true, Zhj]
   rw [if_pos (by simp; omega)]
 | some e => simp only [Bool.not_true, Bool.false_eq_true, if_false, Zhj]
theorem Zwf {l : Zcz} {s : ByteArray} (hl : l.length < 1000000) : ∀ (n i : Nat), i + n = l.length → Zgb l s (n + 1) (i : Int) = some (cond ((l.drop i).any (fun e => sEq e.Name s)) (.inl true) (.inr ()))
 | 0, i, h => by
   rw [Zgb, if_neg (by simp; omega), List.drop_of_length_le (by omega)]; rfl
 | n + 1, i, h => by
   have h1 : i < l.length := by omega
   rw [Zgb, if_pos (by simp; omega), Zc7 h1, List.drop_eq_getElem_cons h1, List.any_cons]
   simp only [Option.bind_some]
   by_cases hq : sEq l[i].Name s = true
   · rw [if_pos hq, hq]; rfl
   · have hq' : sEq l[i].Name s = false := by simpa using hq
     rw [if_neg hq, wr1 (by omega), Zwf hl n (i + 1) (by omega), hq', Bool.false_or]
theorem Zz9 {l : Zcz} {s : ByteArray} (hl : l.length < 1000000) : Zgp l s = some (l.any (fun e => sEq e.Name s)) := by
 unfold Zgp
 have := Zwf (s := s) hl l.length 0 (by omega)
 rw [show ((0 : Nat) : Int) = 0 from rfl] at this
 rw [show (Int.toNat ((l.length : Int) - (0 : Int)) + 1) = l.length + 1 by omega, this]
 simp only [List.drop_zero]
 cases h : l.any (fun e => sEq e.Name s) <;> rfl
theorem Zm7 {a0 : Zd} {a : Zv} (hl : a0.List.length < 1000000) : ∀ (n i : Nat) (out : Zcz), i + n = a0.List.length → out.length ≤ i → Zd9 a0 a (n + 1) out (i : Int) = some (out ++ (a0.List.drop i).filter (fun e => !sEq e.Name a.S))
 | 0, i, out, h, _ => by
   rw [Zd9, if_neg (by simp; omega), List.drop_of_length_le (by omega)]; simp
 | n + 1, i, out, h, ho => by
   have h1 : i < a0.List.length := by omega
   rw [Zd9, if_pos (by simp; omega), Zc7 h1, List.drop_eq_getElem_cons h1]
   simp only [Option.bind_some, Zjx, wr1 (show i < 9223372036854775807 by omega)]
   rw [List.filter_cons]
   by_cases hq : (!sEq a0.List[i].Name a.S) = true
   · rw [if_pos hq, if_pos hq, if_pos (by simp; omega), Zm7 hl n (i + 1) _ (by omega) (by simp; omega), List.append_assoc]; rfl
   · rw [if_neg hq, if_neg hq, Zm7 hl n (i + 1) _ (by omega) (by omega)]
theorem Zqv {l : Zcz} {s : ByteArray} (hs : NS l) : (∀ e ∈ l.take (pre (fun e => sLt e.Name s) l), sEq e.Name s = false) ∧ (∀ e ∈ l.drop (pre (fun e => sLt e.Name s) l + 1), sEq e.Name s = false) := by
 constructor
 · intro e he
   obtain ⟨k, hk, rfl⟩ := List.getElem_of_mem he
   rw [List.length_take] at hk
   rw [List.getElem_take]
   have := Zrh (s := s) hs (k := k) (by omega)
   rw [show decide (k < pre (fun e => sLt e.Name s) l) = true by simp; omega] at this
   exact Zdx.2 (Zkx this)
 · intro e he
   obtain ⟨k, hk, rfl⟩ := List.getElem_of_mem he
   rw [List.length_drop] at hk
   rw [List.getElem_drop]
   refine Zdx.2 fun h => ?_
   have hp : pre (fun e => sLt e.Name s) l < l.length := by omega
   have h1 := List.pairwise_iff_getElem.1 hs _ _ hp (show pre (fun e => sLt e.Name s) l + 1 + k < l.length by omega) (by omega)
   rw [h] at h1
   have := Zry (List.getElem?_eq_getElem hp)
   rw [h1] at this; cases this
theorem Zq9 (l : Zcz) (k : Nat) (h : k < l.length) : l = l.take k ++ l[k] :: l.drop (k + 1) := by
 rw [← List.drop_eq_getElem_cons h, List.take_append_drop]
theorem Zq4 {l : Zcz} {s : ByteArray} (hs : NS l) : l.any (fun e => sEq e.Name s) = isAt s l := by
 obtain ⟨h1, h2⟩ := Zqv (s := s) hs
 unfold isAt
 by_cases hp : pre (fun e => sLt e.Name s) l < l.length
 · rw [List.getElem?_eq_getElem hp]
   conv => lhs; rw [Zq9 l _ hp]
   have a1 : (l.take (pre (fun e => sLt e.Name s) l)).any (fun e => sEq e.Name s) = false := by
     rw [List.any_eq_false]; intro e he; rw [h1 e he]; decide
   have a2 : (l.drop (pre (fun e => sLt e.Name s) l + 1)).any (fun e => sEq e.Name s) = false := by
     rw [List.any_eq_false]; intro e he; rw [h2 e he]; decide
   rw [List.any_append, List.any_cons, a1, a2]; simp
 · rw [List.getElem?_eq_none (by omega)]
   have : l.take (pre (fun e => sLt e.Name s) l) = l := List.take_of_length_le (by omega)
   rw [this] at h1
   rw [List.any_eq_false]; intro e he; rw [h1 e he]; decide
theorem Zz1 {l : Zcz} {s : ByteArray} (hs : NS l) : l.filter (fun e => !sEq e.Name s) = if isAt s l = true then l.take (pre (fun e => sLt e.Name s) l) ++ l.drop (pre (fun e => sLt e.Name s) l + 1) else l := by
 obtain ⟨h1, h2⟩ := Zqv (s := s) hs
 unfold isAt
 by_cases hp : pre (fun e => sLt e.Name s) l < l.length
 · rw [List.getElem?_eq_getElem hp]
   conv => lhs; rw [Zq9 l _ hp]
   have a1 : (l.take (pre (fun e => sLt e.Name s) l)).filter (fun e => !sEq e.Name s) = l.take (pre (fun e => sLt e.Name s) l) := List.filter_eq_self.2 fun e he => by rw [h1 e he]; rfl
   have a2 : (l.drop (pre (fun e => sLt e.Name s) l + 1)).filter (fun e => !sEq e.Name s) = l.drop (pre (fun e => sLt e.Name s) l + 1) := List.filter_eq_self.2 fun e he => by rw [h2 e he]; rfl
   rw [List.filter_append, List.filter_cons, a1, a2]
   by_cases hq : sEq (l[pre (fun e => sLt e.Name s) l]).Name s = true
   · rw [if_pos hq, if_neg (by rw [hq]; decide)]
   · rw [if_neg hq, if_pos (by simpa using hq)]
     exact (Zq9 l _ hp).symm
 · rw [List.getElem?_eq_none (by omega)]
   have : l.take (pre (fun e => sLt e.Name s) l) = l := List.take_of_length_le (by omega)
   rw [this] at h1
   rw [if_neg (by simp)]
   exact List.filter_eq_self.2 fun e he => by rw [h1 e he]; rfl
theorem Z02 {l : Zcz} {s : ByteArray} : layL { Score := 0, Name := s } true l = if isAt s l = true then l else l.take (pre (fun e => sLt e.Name s) l) ++ [{ Score := 0, Name := s }] ++ l.drop (pre (fun e => sLt e.Name s) l) := by
 have hf : Zdf { Score := 0, Name := s } true = fun e => sLt e.Name s := rfl
 unfold layL isAt
 rw [hf]
 cases h : l[pre (fun e => sLt e.Name s) l]? with
 | none =>
   have hp := List.getElem?_eq_none_iff.1 h
   rw [if_neg (by simp), List.take_of_length_le hp, List.drop_of_length_le hp, List.append_nil]
 | some e =>
   simp only [Zj7, Bool.true_or, Bool.and_true]
   by_cases hq : sEq e.Name s = true
   · rw [if_pos hq, if_pos hq, List.append_nil, List.take_append_drop]
   · rw [if_neg hq, if_neg hq]
theorem Znv {l : Zcz} (h : l.length < 1000000) : Zbq l = some l := by
 unfold Zbq
 rw [if_pos (by omega)]
theorem Zr5 {r : Zd} {a : Zv} (ha : a.X < W64) (hsc : ∀ e ∈ r.List, e.Score < W64) (hl : r.List.length < 1000000) : ∀ (n i : Nat), i + n = r.List.length →
   Ze7 r a (n + 1) (i : Int) = some ((i + pre (Zdf { Score := a.X, Name := a.S } false) (r.List.drop i) : Nat) : Int)
 | 0, i, h => by
   have hd : decide ((i : Int) < (r.List.length : Int)) = false := by simp; omega
   rw [Ze7, hd, List.drop_of_length_le (by omega)]
   simp [gd, pre]
 | n + 1, i, h => by
   have h1 : i < r.List.length := by omega
   have hd : decide ((i : Int) < (r.List.length : Int)) = true := by simp; omega
   rw [Ze7, hd, Zc7 h1, List.drop_eq_getElem_cons h1]
   simp only [gd_t, Option.bind_some, Bool.true_and]
   rw [Zmy (hsc _ (List.getElem_mem h1)) ha]
   simp only [Option.bind_some, pre, Zdf, Bool.false_eq_true, if_false, wr1 (show i < 9223372036854775807 by omega)]
   by_cases hb : Zcv r.List[i] { Score := a.X, Name := a.S } = true
   · rw [if_pos hb, if_pos hb, Zr5 ha hsc hl n (i + 1) (by omega)]
     congr 2; omega
   · rw [if_neg hb, if_neg hb]; simp
theorem Ztv {r : Zd} {a : Zv} (ha : a.X < W64) (hsc : ∀ e ∈ r.List, e.Score < W64) (hl : r.List.length < 1000000) : Ze7 r a (Int.toNat ((r.List.length : Int) - (0 : Int)) + 1) (0 : Int) = some ((pre (Zdf { Score := a.X, Name := a.S } false) r.List : Nat) : Int) := by
 have := Zr5 (a := a) ha hsc hl r.List.length 0 (by omega)
 rw [show ((0 : Nat) : Int) = 0 from rfl] at this
 rw [show (Int.toNat ((r.List.length : Int) - (0 : Int)) + 1) = r.List.length + 1 by omega, this]
 simp
theorem Zw0 {e x : Zj} (h1 : Zcv e x = false) : (!Zcv x e) = Zj7 x false e := by
 unfold Zcv Zj7 at *
 by_cases hk : keyf e.Score = keyf x.Score
 · rw [if_pos hk] at h1
   rw [if_pos hk.symm, hk]
   simp only [Bool.false_or, decide_true, Bool.and_true]
   by_cases hn : e.Name = x.Name
   · rw [hn, Zko, Zex]; rfl
   · rw [Zla h1 hn, Zdx.2 hn]; rfl
 · rw [if_neg hk] at h1
   rw [if_neg (fun h => hk h.symm)]
   have := of_decide_eq_false h1
   have h3 : keyf e.Score < keyf x.Score := by omega
   simp [h3, hk]
theorem Zqs {k : Int} {l : Zcz} : ∀ (n i : Nat), Zht k l i n = 0 ↔ ∀ j, i ≤ j → j < i + n → Zgr k l j = 0
 | 0, i => ⟨fun _ j h1 h2 => by omega, fun _ => rfl⟩
 | n + 1, i => by
   by_cases h : Zgr k l i = 0
   · rw [Zrk h, Zqs n (i + 1)]
     constructor
     · intro hh j h1 h2
       by_cases e : j = i
       · rw [e]; exact h
       · exact hh j (by omega) (by omega)
     · intro hh j h1 h2; exact hh j (by omega) (by omega)
   · rw [Zri h]
     exact ⟨fun e => absurd e h, fun hh => absurd (hh i (Nat.le_refl _) (by omega)) h⟩
theorem Zqu {t n b r l : Bool} {a : Zd} : Znm t n b r l a = 0 ↔ Zga t n b r l a = true ∧ a.Text.size ≤ 64 ∧ (b = true → -2305843009213693952 ≤ a.Low ∧ a.High ≤ 2305843009213693952 ∧ a.Low ≤ a.Num ∧ a.Num ≤ a.High) ∧ a.Real = Zbz a.Real ∧ (l = true → 1 ≤ a.Cap ∧ a.Cap ≤ 32 ∧ (a.List.length : Int) ≤ a.Cap ∧ ∀ i, i < a.List.length → Zgr a.Kind a.List i = 0) := by
 unfold Znm
 by_cases h1 : Zga t n b r l a = false
 · rw [if_pos h1, h1]; simp
 · have h1' : Zga t n b r l a = true := by simpa using h1
   rw [if_neg h1, h1']
   by_cases h2 : (64 : Int) < a.Text.size
   · rw [if_pos h2]; exact ⟨fun h => absurd h (by decide), fun h => by omega⟩
   · rw [if_neg h2]
     by_cases h3 : b = true ∧ (a.Low < -2305843009213693952 ∨ 2305843009213693952 < a.High ∨ a.Num < a.Low ∨ a.High < a.Num)
     · rw [if_pos h3]; exact ⟨fun h => absurd h (by decide), fun h => by have := h.2.2.1 h3.1; omega⟩
     · rw [if_neg h3]
       by_cases h4 : a.Real = Zbz a.Real
       · rw [if_neg (fun h => h h4)]
         cases l
         · rw [if_pos rfl]
           refine ⟨fun _ => ⟨rfl, by omega, fun hb => ?_, h4, fun h => absurd h (by decide)⟩, fun _ => rfl⟩
           have : ¬ (a.Low < -2305843009213693952 ∨ 2305843009213693952 < a.High ∨ a.Num < a.Low ∨ a.High < a.Num) := fun h => h3 ⟨hb, h⟩
           omega
         · rw [if_neg (by decide)]
           by_cases h5 : a.Cap < 1 ∨ 32 < a.Cap
           · rw [if_pos h5]; exact ⟨fun h => absurd h (by decide), fun h => by have := h.2.2.2.2 rfl; omega⟩
           · rw [if_neg h5]
             by_cases h6 : a.Cap < a.List.length
             · rw [if_pos h6]; exact ⟨fun h => absurd h (by decide), fun h => by have := h.2.2.2.2 rfl; omega⟩
             · rw [if_neg h6, Zqs]
               constructor
               · intro h
                 refine ⟨rfl, by omega, fun hb => ?_, h4, fun _ => ⟨by omega, by omega, by omega, fun i hi => h i (Nat.zero_le _) (by omega)⟩⟩
                 have : ¬ (a.Low < -2305843009213693952 ∨ 2305843009213693952 < a.High ∨ a.Num < a.Low ∨ a.High < a.Num) := fun h => h3 ⟨hb, h⟩
                 omega
               · intro h j _ hj
                 exact (h.2.2.2.2 rfl).2.2.2 j (by omega)
       · rw [if_pos h4]; exact ⟨fun h => absurd h (by decide), fun h => absurd h.2.2.2.1 h4⟩
def Zcf (a : Zd) : Prop := 1 ≤ a.Kind ∧ a.Kind ≤ 9 ∧ Zga (decide (a.Kind = 1)) (decide (2 ≤ a.Kind ∧ a.Kind ≤ 4)) (decide (a.Kind = 4)) (decide (5 ≤ a.Kind ∧ a.Kind ≤ 7)) (decide (8 ≤ a.Kind)) a = true ∧ a.Text.size ≤ 64 ∧ (a.Kind = 4 → -2305843009213693952 ≤ a.Low ∧ a.High ≤ 2305843009213693952 ∧ a.Low ≤ a.Num ∧ a.Num ≤ a.High) ∧ a.Real = Zbz a.Real ∧
 (8 ≤ a.Kind → 1 ≤ a.Cap ∧ a.Cap ≤ 32 ∧ (a.List.length : Int) ≤ a.Cap ∧ ∀ i, i < a.List.length → Zgr a.Kind a.List i = 0)
theorem Ziq {a : Zd} (ha : Zg6 a) : Zdq a = some 0 ↔ Zcf a := by
 by_cases hk : a.Kind ≤ 0 ∨ 10 ≤ a.Kind
 · have : Zdq a ≠ some 0 := by
     obtain ⟨c, hc, hc2⟩ := Zky ha
     unfold Zc3 at hc2
     rw [if_pos (by simp; omega)] at hc2
     rw [hc, ← hc2]; decide
   exact ⟨fun h => absurd h this, fun h => by obtain ⟨h1, h2, _⟩ := h; omega⟩
 · have fin : ∀ {t n b r l : Bool}, Zds a.Kind = some ⟨t, n, b, r, l⟩ → t = decide (a.Kind = 1) → n = decide (2 ≤ a.Kind ∧ a.Kind ≤ 4) → b = decide (a.Kind = 4) → r = decide (5 ≤ a.Kind ∧ a.Kind ≤ 7) → l = decide (8 ≤ a.Kind) → (Zdq a = some 0 ↔ Zcf a) := by
     intro t n b r l hs h1 h2 h3 h4 h5
     rw [Zfh ha hk hs]
     constructor
     · intro h
       obtain ⟨g1, g2, g3, g4, g5⟩ := Zqu.1 (Option.some.inj h)
       refine ⟨by omega, by omega, by rw [← h1, ← h2, ← h3, ← h4, ← h5]; exact g1, g2, fun hk4 => g3 (by rw [h3]; simpa using hk4), g4, fun hk8 => g5 (by rw [h5]; simpa using hk8)⟩
     · rintro ⟨_, _, g1, g2, g3, g4, g5⟩
       congr 1
       exact Zqu.2 ⟨by rw [h1, h2, h3, h4, h5]; exact g1, g2, fun hb => g3 (by rw [h3] at hb; simpa using hb), g4, fun hb => g5 (by rw [h5] at hb; simpa using hb)⟩
   have hk' : a.Kind = 1 ∨ a.Kind = 2 ∨ a.Kind = 3 ∨ a.Kind = 4 ∨ a.Kind = 5 ∨ a.Kind = 6 ∨ a.Kind = 7 ∨ a.Kind = 8 ∨ a.Kind = 9 := by omega
   rcases hk' with h | h | h | h | h | h | h | h | h <;> rw [h] at fin
   · exact fin Z0s rfl rfl rfl rfl rfl
   · exact fin Zzm rfl rfl rfl rfl rfl
   · exact fin Z0e rfl rfl rfl rfl rfl
   · exact fin Z03 rfl rfl rfl rfl rfl
   · exact fin Z0x rfl rfl rfl rfl rfl
   · exact fin Zz5 rfl rfl rfl rfl rfl
   · exact fin Z0a rfl rfl rfl rfl rfl
   · exact fin Z0q rfl rfl rfl rfl rfl
   · exact fin Z0l rfl rfl rfl rfl rfl
theorem Zkt {a : Zd} (h : Zcf a) (hk : a.Kind = 8) : NS a.List := by
 obtain ⟨_, _, _, _, _, _, h8⟩ := h
 obtain ⟨_, _, _, hi⟩ := h8 (by omega)
 have step : ∀ i, i + 1 < a.List.length → sLt ((a.List[i]?).getD default).Name ((a.List[i + 1]?).getD default).Name = true := by
   intro i hi1
   have := hi (i + 1) hi1
   unfold Zgr at this
   rw [List.getElem?_eq_getElem hi1] at this
   simp only [Nat.add_sub_cancel] at this
   split at this
   · cases this
   · split at this
     · cases this
     · split at this
       · cases this
       · rename_i h3
         rw [List.getElem?_eq_getElem hi1]
         cases hq : sLt ((a.List[i]?).getD default).Name a.List[i + 1].Name
         · exact absurd ⟨by omega, hk, hq⟩ h3
         · exact hq
 have far : ∀ d i, i + d + 1 < a.List.length → sLt ((a.List[i]?).getD default).Name ((a.List[i + d + 1]?).getD default).Name = true := by
   intro d
   induction d with
   | zero => intro i h; exact step i h
   | succ d ih => intro i h; exact Ze9 (ih i (by omega)) (step (i + d + 1) (by omega))
 refine List.pairwise_iff_getElem.2 fun i j hi hj hij => ?_
 have := far (j - i - 1) i (by omega)
 rw [show i + (j - i - 1) + 1 = j by omega, List.getElem?_eq_getElem hi, List.getElem?_eq_getElem hj] at this
 exact this
theorem Zs2 {neg : Bool} {r : Nat} (h : r ≤ Ieee.double.infRung) : Ieee.double.word neg r < W64 := by
 have h1 : Ieee.double.infRung = 9218868437227405312 := by decide
 have h2 : Ieee.double.signWeight = 9223372036854775808 := by decide
 unfold Ieee.Format.word
 rw [h1] at h
 show _ < 18446744073709551616
 split
 · rw [h2]; omega
 · omega
theorem Zyv (neg : Bool) (mag : Nat) (place : Int) : Ieee.double.nearest neg mag place < W64 := by
 unfold Ieee.Format.nearest
 split
 · exact Zs2 (Nat.zero_le _)
 · exact Zs2 (Nat.min_le_right _ _)
theorem Zvg {d : Ieee.Datum} (h : ∀ n f, d ≠ .nan n f) : Ieee.double.write d < W64 := by
 cases d with
 | number n m p => exact Zyv n m p
 | infinity n => exact Zs2 (Nat.le_refl _)
 | nan n f => exact absurd rfl (h n f)
theorem Z4x {x y d : Ieee.Datum} (h : x.sum y = some d) : ∀ n f, d ≠ .nan n f := by
 intro n f e
 subst e
 cases x <;> cases y <;> simp [Ieee.Datum.sum] at h
theorem Zxa {x y d : Ieee.Datum} (h : x.product y = some d) : ∀ n f, d ≠ .nan n f := by
 intro n f e
 subst e
 cases x <;> cases y <;> simp [Ieee.Datum.product] at h
theorem Zyb (m n : Nat) : fadd m n < W64 := by
 unfold fadd Ieee.Format.add
 cases h : (Ieee.double.read m).sum (Ieee.double.read n) with
 | none => exact (by decide : 9221120237041090561 < W64)
 | some d => simpa using Zvg (Z4x h)
theorem Zx1 (m n : Nat) : fmul m n < W64 := by
 unfold fmul Ieee.Format.mul
 cases h : (Ieee.double.read m).product (Ieee.double.read n) with
 | none => exact (by decide : 9221120237041090561 < W64)
 | some d => simpa using Zvg (Zxa h)
theorem Zo9 {z : Nat} (hz : z < W64) : ∃ p, Zh8 z = some p ∧ Zfe p = some (Zbz z) := by
 have hz' : z < 18446744073709551616 := hz
 unfold Zh8 Zfe Zbz NANB
 rw [Zn6 hz]
 simp only [Option.bind_some]
 by_cases hn : isn z
 · refine ⟨18444492273895866369, by simp [hn]; decide, ?_⟩
   rw [if_pos (by decide), if_pos hn]; decide
 · simp only [hn, decide_false, Bool.false_eq_true, if_false]
   by_cases ht : (9223372036854775808 : Int) ≤ z
   · rw [if_pos (by simpa using ht)]
     refine ⟨_, rfl, ?_⟩
     rw [wru (x := (9223372036854775808 : Int) - 1) (by decide) (by decide), wru (x := (z : Int) - 9223372036854775808) (by omega) (by omega), wru (by omega) (by omega)]
     rw [if_neg (by simp; omega)]
     rw [wru (x := (9223372036854775808 : Int) - 1 - _) (by omega) (by omega), wru (by omega) (by omega)]
     congr 1; omega
   · rw [if_neg (by simpa using ht)]
     refine ⟨_, rfl, ?_⟩
     rw [wru (by omega) (by omega), if_pos (by simp; omega), wru (by omega) (by omega)]
     congr 1; omega
theorem Zq2 {z : Nat} : Zbz (Zbz z) = Zbz z := by
 unfold Zbz
 by_cases h : isn z
 · rw [if_pos h, if_pos (show isn NANB by unfold isn rg INF NANB TOP; decide)]
 · rw [if_neg h, if_neg h]
theorem Zwd {a b : Nat} (ha : a < W64) (hb : b < W64) (ca : a = Zbz a) (cb : b = Zbz b) : ∃ m, Zjo a b = some m ∧ Zkv a b = some m ∧ (m = a ∨ m = b) := by
 unfold Zjo Zkv
 rw [Zsy ha hb, Zmq ha hb, Zh6 ha, Zh6 hb, ← ca, ← cb]
 by_cases h : keyf a < keyf b
 · exact ⟨b, by simp [h], by simp [h], .inr rfl⟩
 · exact ⟨a, by simp [h], by simp [h], .inl rfl⟩
theorem Zv9 {a b : Nat} (ha : a < W64) (hb : b < W64) (ca : a = Zbz a) (cb : b = Zbz b) : ∃ m, Zjq a b = some m ∧ Zk2 a b = some m ∧ (m = a ∨ m = b) := by
 unfold Zjq Zk2
 rw [Zsy hb ha, Zmq hb ha, Zh6 ha, Zh6 hb, ← ca, ← cb]
 by_cases h : keyf b < keyf a
 · exact ⟨b, by simp [h], by simp [h], .inr rfl⟩
 · exact ⟨a, by simp [h], by simp [h], .inl rfl⟩
def I64 (x : Int) : Prop := -9223372036854775808 ≤ x ∧ x ≤ 9223372036854775807
structure RecW (r : Zd) : Prop where
 ok : Zg6 r
 num : I64 r.Num
 low : I64 r.Low
 high : I64 r.High
 kind : I64 r.Kind
 len : r.List.length ≤ 1000
structure ActW (a : Zv) : Prop where
 ok : Zsl a
 n : I64 a.N
 mkr : RecW a.Make
 xc : a.X = Zbz a.X
 inout : (a.Kind = 10 ∨ a.Kind = 11) → 0 ≤ a.N ∧ a.N ≤ 2305843009213693952
 s64 : a.S.size ≤ 64
 s16 : ¬ (5 ≤ a.Kind ∧ a.Kind ≤ 6) → a.S.size ≤ 16
abbrev ans (c : Int) : Zg := { Code := c, Num := 0, Rec := default }
def Chg (r : Zd) (a : Zv) : Prop := ∃ c r' o, Z5 a.Kind r a (default : Zg) = some (c, r', o) ∧ Zbn r a = some (if c = 0 then (r', o) else (r, ans c)) ∧ RecW r' ∧ RecW o.Rec ∧ (c = 0 → o.Code = 0 ∧ o.Num = 0)
theorem Zn2 (x : Int) : I64 (IntKind.i64.wrap x) := by unfold I64; rw [IntKind.wrap_i64]; omega
theorem Zcg : RecW (default : Zd) := ⟨⟨by decide, by decide, fun e he => by cases he⟩, by unfold I64; decide, by unfold I64; decide, by unfold I64; decide, by unfold I64; decide, by decide⟩
theorem RecW.withNum {r : Zd} (h : RecW r) {x : Int} (hx : I64 x) : RecW { r with Num := x } := ⟨⟨h.ok.real, h.ok.len, h.ok.sc⟩, hx, h.low, h.high, h.kind, h.len⟩
theorem RecW.withText {r : Zd} (h : RecW r) (t : ByteArray) : RecW { r with Text := t } := ⟨⟨h.ok.real, h.ok.len, h.ok.sc⟩, h.num, h.low, h.high, h.kind, h.len⟩
theorem RecW.withReal {r : Zd} (h : RecW r) {x : Nat} (hx : x < W64) : RecW { r with Real := x } := ⟨⟨hx, h.ok.len, h.ok.sc⟩, h.num, h.low, h.high, h.kind, h.len⟩
theorem RecW.withList {r : Zd} (h : RecW r) {l : Zcz} (h1 : l.length ≤ 1000) (h2 : ∀ e ∈ l, e.Score < W64) : RecW { r with List := l } := ⟨⟨h.ok.real, by show l.length < _; omega, h2⟩, h.num, h.low, h.high, h.kind, h1⟩
theorem Zim {r : Zd} (h : r.List.length ≤ 1000) : Zez r = some r := by
 unfold Zez Zbq
 rw [if_pos (by omega)]; rfl
theorem Zm1 {r : Zd} (h : r.List.length ≤ 1000) : Zfc r = some r := by
 unfold Zfc
 rw [if_pos (by simp; omega)]; rfl
variable {r : Zd} {a : Zv}
theorem Z29 (h : a.Kind = 5) (hr : RecW r) : Chg r a := by
 refine ⟨0, { r with Text := a.S }, ans 0, ?_, ?_, hr.withText _, Zcg, fun _ => ⟨rfl, rfl⟩⟩
 · rw [h]; rfl
 · unfold Zbn; rw [h]; rfl
theorem Z1n (h : a.Kind = 6) (hr : RecW r) : Chg r a := by
 refine ⟨0, { r with Text := a.S }, { ans 0 with Rec := r }, ?_, ?_, hr.withText _, hr, fun _ => ⟨rfl, rfl⟩⟩
 · rw [h]
   show Zf5 r a default = _
   unfold Zf5
   rw [Zim hr.len]; rfl
 · unfold Zbn; rw [h, Zm1 hr.len]; rfl
theorem Z43 (h : a.Kind = 7) (hr : RecW r) : Chg r a := by
 refine ⟨0, { r with Num := IntKind.i64.wrap (r.Num + a.N) }, ans 0, ?_, ?_, hr.withNum (Zn2 _), Zcg, fun _ => ⟨rfl, rfl⟩⟩
 · rw [h]; rfl
 · unfold Zbn; rw [h]; rfl
theorem Z0h (hr : I64 r.Num) (hn : I64 a.N) : (((decide ((0 : Int) < a.N)) && (decide ((IntKind.i64.wrap ((9223372036854775807 : Int) - a.N)) < r.Num))) || ((decide (a.N < (0 : Int))) && (decide (r.Num < (IntKind.i64.wrap ((-9223372036854775808 : Int) - a.N)))))) =
   ((((decide ((0 : Int) < r.Num)) && (decide ((0 : Int) < a.N))) && (decide ((IntKind.i64.wrap (r.Num + a.N)) < (0 : Int)))) || (((decide (r.Num < (0 : Int))) && (decide (a.N < (0 : Int)))) && (decide ((0 : Int) ≤ (IntKind.i64.wrap (r.Num + a.N)))))) := by
 unfold I64 at hr hn
 rw [Bool.eq_iff_iff]
 simp only [Bool.or_eq_true, Bool.and_eq_true, decide_eq_true_eq, IntKind.wrap_i64]
 omega
theorem Z1w (h : a.Kind = 8) (hr : RecW r) (ha : ActW a) : Chg r a := by
 have e1 : Z5 a.Kind r a default = Zjg r a default := by rw [h]; rfl
 have e2 : Zbn r a = (Zkd r.Num a.N).bind fun r7 => (if r7 then (Zw r (ans 9)) else (Zw { r with Num := IntKind.i64.wrap (r.Num + a.N) } (ans 0))) := by unfold Zbn; rw [h]; rfl
 have hp := Z0h hr.num ha.n
 unfold Chg
 rw [e1, e2]
 unfold Zjg Zkd Zw
 rw [hp]
 simp only [Option.bind_some]
 split
 · exact ⟨9, r, _, rfl, rfl, hr, Zcg, fun h => by cases h⟩
 · exact ⟨0, _, _, rfl, rfl, hr.withNum (Zn2 _), Zcg, fun _ => ⟨rfl, rfl⟩⟩
theorem Ztx (h : a.Kind = 9 ∨ a.Kind = 12) (hr : RecW r) : Chg r a := by
 have e1 : Z5 a.Kind r a default = Zdi r a default := by rcases h with h | h <;> rw [h] <;> rfl
 have e2 : Zbn r a = (if (decide (r.Num < a.N)) then (Zw r (ans 11)) else (Zw r (ans 0))) := by rcases h with h | h <;> unfold Zbn Zb7 <;> rw [h] <;> rfl
 unfold Chg
 rw [e1, e2]
 unfold Zdi Zw
 split
 · exact ⟨11, r, _, rfl, rfl, hr, Zcg, fun h => by cases h⟩
 · exact ⟨0, r, _, rfl, rfl, hr, Zcg, fun _ => ⟨rfl, rfl⟩⟩
theorem Zp9 (hg : Zcf r) (hk : r.Kind = 4) : -2305843009213693952 ≤ r.Low ∧ r.High ≤ 2305843009213693952 ∧ r.Low ≤ r.Num ∧ r.Num ≤ r.High := hg.2.2.2.2.1 hk
theorem Z6b (h : a.Kind = 10) (hr : RecW r) (hg : Zcf r) (hk : r.Kind = 4) (ha : ActW a) : Chg r a := by
 have e1 : Z5 a.Kind r a default = Zeu r a default := by rw [h]; rfl
 have e2 : Zbn r a = (if (decide (r.High < IntKind.i64.wrap (r.Num + a.N))) then (Zw r (ans 9)) else (Zw { r with Num := IntKind.i64.wrap (r.Num + a.N) } (ans 0))) := by unfold Zbn Zb7; rw [h]; rfl
 obtain ⟨p1, p2, p3, p4⟩ := Zp9 hg hk
 obtain ⟨n1, n2⟩ := ha.inout (.inl h)
 have hd : decide (IntKind.i64.wrap (r.High - r.Num) < a.N) = decide (r.High < IntKind.i64.wrap (r.Num + a.N)) := by
   rw [wr (x := r.High - r.Num) (by omega) (by omega), wr (x := r.Num + a.N) (by omega) (by omega)]
   apply decide_eq_decide.2; omega
 unfold Chg
 rw [e1, e2]
 unfold Zeu Zw
 rw [hd]
 split
 · exact ⟨9, r, _, rfl, rfl, hr, Zcg, fun h => by cases h⟩
 · exact ⟨0, _, _, rfl, rfl, hr.withNum (Zn2 _), Zcg, fun _ => ⟨rfl, rfl⟩⟩
theorem Z37 (h : a.Kind = 11) (hr : RecW r) (hg : Zcf r) (hk : r.Kind = 4) (ha : ActW a) : Chg r a := by
 have e1 : Z5 a.Kind r a default = Zem r a default := by rw [h]; rfl
 have e2 : Zbn r a = (if (decide (IntKind.i64.wrap (r.Num - a.N) < r.Low)) then (Zw r (ans 10)) else (Zw { r with Num := IntKind.i64.wrap (r.Num - a.N) } (ans 0))) := by unfold Zbn Zb7; rw [h]; rfl
 obtain ⟨p1, p2, p3, p4⟩ := Zp9 hg hk
 obtain ⟨n1, n2⟩ := ha.inout (.inr h)
 have hd : decide (IntKind.i64.wrap (r.Num - r.Low) < a.N) = decide (IntKind.i64.wrap (r.Num - a.N) < r.Low) := by
   rw [wr (x := r.Num - r.Low) (by omega) (by omega), wr (x := r.Num - a.N) (by omega) (by omega)]
   apply decide_eq_decide.2; omega
 unfold Chg
 rw [e1, e2]
 unfold Zem Zw
 rw [hd]
 split
 · exact ⟨10, r, _, rfl, rfl, hr, Zcg, fun h => by cases h⟩
 · exact ⟨0, _, _, rfl, rfl, hr.withNum (Zn2 _), Zcg, fun _ => ⟨rfl, rfl⟩⟩
theorem Zmm {m : Nat} {ψ : Nat → Nat → Option Nat} (h : Z5 a.Kind r a default = Zdz ψ r a default) (h1 : ψ r.Real a.X = some m) (hm : m < W64) (h2 : Zbn r a = some ({ r with Real := m }, ans 0)) (hr : RecW r) : Chg r a := by
 refine ⟨0, { r with Real := m }, ans 0, ?_, h2, hr.withReal hm, Zcg, fun _ => ⟨rfl, rfl⟩⟩
 rw [h]
 unfold Zdz
 rw [h1]; rfl
theorem Zlk (hg : Zcf r) : r.Real = Zbz r.Real := hg.2.2.2.2.2.1
theorem Z0v (h : a.Kind = 13) (hr : RecW r) (hg : Zcf r) (ha : ActW a) : Chg r a := by
 obtain ⟨m, m1, m2, m3⟩ := Zwd hr.ok.real ha.ok.2 (Zlk hg) ha.xc
 refine Zmm (m := m) (ψ := fun x y => Zjo x y) (by rw [h]; rfl) m1 (by rcases m3 with rfl | rfl; exact hr.ok.real; exact ha.ok.2) ?_ hr
 unfold Zbn Zb7; rw [h, m2]; rfl
theorem Zz4 (h : a.Kind = 14) (hr : RecW r) (hg : Zcf r) (ha : ActW a) : Chg r a := by
 obtain ⟨m, m1, m2, m3⟩ := Zv9 hr.ok.real ha.ok.2 (Zlk hg) ha.xc
 refine Zmm (m := m) (ψ := fun x y => Zjq x y) (by rw [h]; rfl) m1 (by rcases m3 with rfl | rfl; exact hr.ok.real; exact ha.ok.2) ?_ hr
 unfold Zbn Zb7; rw [h, m2]; rfl
theorem Zzq (h : a.Kind = 15) (hr : RecW r) : Chg r a := by
 have hz := Zyb r.Real a.X
 obtain ⟨p, p1, p2⟩ := Zo9 hz
 refine Zmm (m := Zbz (fadd r.Real a.X)) (ψ := fun x y => Zhg x y) (by rw [h]; rfl) (by show Zhg r.Real a.X = _; unfold Zhg; rw [Zh6 hz]; rfl) (Zrc hz) ?_ hr
 unfold Zbn Zb7; rw [h, p1]
 show ((Zfe p).bind _) = _
 rw [p2]; rfl
theorem Zzr (h : a.Kind = 16) (hr : RecW r) : Chg r a := by
 have hz := Zx1 r.Real a.X
 obtain ⟨p, p1, p2⟩ := Zo9 hz
 refine Zmm (m := Zbz (fmul r.Real a.X)) (ψ := fun x y => Zgi x y) (by rw [h]; rfl) (by show Zgi r.Real a.X = _; unfold Zgi; rw [Zh6 hz]; rfl) (Zrc hz) ?_ hr
 unfold Zbn Zb7; rw [h, p1]
 show ((Zfe p).bind _) = _
 rw [p2]; rfl
theorem Z35 (h : a.Kind = 17) (hr : RecW r) (ha : ActW a) : Chg r a := by
 refine Zmm (m := a.X) (ψ := fun x y => Zf7 x y) (by rw [h]; rfl) rfl ha.ok.2 ?_ hr
 unfold Zbn Zb7; rw [h]; rfl
theorem Zt3 (hg : Zcf r) (hk : 8 ≤ r.Kind) : 1 ≤ r.Cap ∧ r.Cap ≤ 32 ∧ (r.List.length : Int) ≤ r.Cap := by
 obtain ⟨h1, h2, h3, _⟩ := hg.2.2.2.2.2.2 hk
 exact ⟨h1, h2, h3⟩
theorem Z28 (h : a.Kind = 20) (hr : RecW r) (hg : Zcf r) (hk : r.Kind = 8) : Chg r a := by
 have hs := Zkt hg hk
 have hl := hr.len
 have e1 : Z5 a.Kind r a default = Zep r a default := by rw [h]; rfl
 have e2 : Zbn r a = (Zgp r.List a.S).bind fun r59 => (if (!r59) then (Zw r (ans 11)) else (Zw r (ans 0))) := by unfold Zbn Zb7; rw [h]; rfl
 unfold Chg
 rw [e1, e2]
 unfold Zep Zw
 rw [Zl6 hs (by omega), Zz9 (by omega), Zq4 hs]
 simp only [Option.bind_some]
 split
 · exact ⟨11, r, _, rfl, rfl, hr, Zcg, fun h => by cases h⟩
 · exact ⟨0, r, _, rfl, rfl, hr, Zcg, fun _ => ⟨rfl, rfl⟩⟩
theorem Z1l (h : a.Kind = 18) (hr : RecW r) (hg : Zcf r) (hk : r.Kind = 8) : Chg r a := by
 have hs := Zkt hg hk
 have hl := hr.len
 obtain ⟨c1, c2, c3⟩ := Zt3 hg (by omega)
 have e1 : Z5 a.Kind r a default = Zjh r a default := by rw [h]; rfl
 have e2 : Zbn r a = (Zgp r.List a.S).bind fun r40 => (if ((!r40) && (decide (r.Cap ≤ (r.List.length : Int)))) then (Zw r (ans 8)) else ((Zf6 r.List ({ Score := (0 : Nat), Name := a.S } : Zj) true).bind fun r43 => (Zw ({ r with List := r43 }) (ans 0)))) := by unfold Zbn Zb7; rw [h]; rfl
 have hple := Zmi (fun e => sLt e.Name a.S) r.List
 unfold Chg
 rw [e1, e2]
 unfold Zjh Zw
 rw [Zl6 hs (by omega), Zz9 (by omega), Zq4 hs, Zxs (show (0 : Nat) < W64 by decide) hr.ok.sc (by omega), Z02, Znv (by omega)]
 simp only [Option.bind_some]
 by_cases hat : isAt a.S r.List = true
 · rw [hat]
   exact ⟨0, r, _, rfl, rfl, hr, Zcg, fun _ => ⟨rfl, rfl⟩⟩
 · have hat' : isAt a.S r.List = false := by simpa using hat
   rw [hat']
   simp only [Bool.not_false, Bool.true_and, Bool.false_eq_true, if_false]
   by_cases hc : decide (r.Cap ≤ (r.List.length : Int)) = true
   · rw [if_pos hc, if_pos hc]
     exact ⟨8, r, _, rfl, rfl, hr, Zcg, fun h => by cases h⟩
   · rw [if_neg hc, if_neg hc]
     unfold Zb1
     rw [if_pos ⟨by omega, by omega, by simp, by simp; omega⟩]
     refine ⟨0, _, _, rfl, rfl, hr.withList (by simp; omega) fun e he => ?_, Zcg, fun _ => ⟨rfl, rfl⟩⟩
     simp only [List.mem_append, List.mem_singleton, Int.toNat_natCast] at he
     rcases he with (he | rfl) | he
     · exact hr.ok.sc e (List.mem_of_mem_take he)
     · exact (show (0 : Nat) < W64 by decide)
     · exact hr.ok.sc e (List.mem_of_mem_drop he)
theorem Ztz (h : a.Kind = 19) (hr : RecW r) (hg : Zcf r) (hk : r.Kind = 8) : Chg r a := by
 have hs := Zkt hg hk
 have hl := hr.len
 have e1 : Z5 a.Kind r a default = Zig r a default := by rw [h]; rfl
 have e2 : Zbn r a = (Zd9 r a (Int.toNat ((r.List.length : Int) - (0 : Int)) + 1) ([] : List Zj) (0 : Int)).bind fun z57 => match z57 with | y56 => (Zw ({ r with List := y56 }) (ans 0)) := by unfold Zbn Zb7; rw [h]; rfl
 have hple := Zmi (fun e => sLt e.Name a.S) r.List
 unfold Chg
 rw [e1, e2]
 unfold Zig Zw
 have hf := Zm7 (a := a) (a0 := r) (by omega) r.List.length 0 [] (by omega) (by simp)
 rw [show ((0 : Nat) : Int) = 0 from rfl] at hf
 rw [Zl6 hs (by omega), show (Int.toNat ((r.List.length : Int) - (0 : Int)) + 1) = r.List.length + 1 by omega, hf, List.drop_zero, List.nil_append, Zz1 hs, Znv (by omega)]
 simp only [Option.bind_some]
 by_cases hat : isAt a.S r.List = true
 · have hp : pre (fun e => sLt e.Name a.S) r.List < r.List.length := by
     unfold isAt at hat
     cases hq : r.List[pre (fun e => sLt e.Name a.S) r.List]? with
     | none => rw [hq] at hat; cases hat
     | some e => exact (List.getElem?_eq_some_iff.1 hq).1
   rw [hat]
   simp only [if_true]
   unfold Zd6
   rw [wr1 (by omega), if_pos ⟨by omega, by omega, by omega, by omega, by omega⟩]
   refine ⟨0, _, _, rfl, rfl, hr.withList (by simp; omega) fun e he => ?_, Zcg, fun _ => ⟨rfl, rfl⟩⟩
   simp only [List.mem_append, Int.toNat_natCast] at he
   rcases he with he | he
   · exact hr.ok.sc e (List.mem_of_mem_take he)
   · exact hr.ok.sc e (List.mem_of_mem_drop he)
 · have hat' : isAt a.S r.List = false := by simpa using hat
   rw [hat']
   exact ⟨0, r, _, rfl, rfl, hr, Zcg, fun _ => ⟨rfl, rfl⟩⟩
variable {r : Zd} {a : Zv}
theorem Zv4 {l : Zcz} {c : Int} (h1 : 1 ≤ c) (h2 : c ≤ 32) : cut l 0 (min (l.length : Int) c) = some (l.take c.toNat) := by
 unfold cut
 rw [if_pos (by omega)]
 simp only [Int.toNat_zero, List.drop_zero, Nat.sub_zero]
 congr 1
 rcases Int.le_total (l.length : Int) c with h | h
 · rw [Int.min_eq_left h, Int.toNat_natCast, List.take_of_length_le (Nat.le_refl _), List.take_of_length_le (by omega)]
 · rw [Int.min_eq_right h]
theorem Z0t (h : a.Kind = 21) (hr : RecW r) (hg : Zcf r) (hk : r.Kind = 9) (ha : ActW a) : Chg r a := by
 have hl := hr.len
 obtain ⟨c1, c2, c3⟩ := Zt3 hg (by omega)
 have e1 : Z5 a.Kind r a default = Zit r a default := by rw [h]; rfl
 have e2 : Zbn r a = (Zf6 r.List ({ Score := a.X, Name := a.S } : Zj) false).bind fun r63 => (if (decide (r.Cap < (r63.length : Int))) then ((cut r63 (0 : Int) r.Cap).bind fun c66 => (Zev r c66)) else (Zev r r63)) := by unfold Zbn Zb7; rw [h]; rfl
 have hx : ({ Score := a.X, Name := a.S } : Zj).Score < W64 := ha.ok.2
 have hple := Zmi (Zdf { Score := a.X, Name := a.S } false) r.List
 unfold Chg
 rw [e1, e2]
 unfold Zit
 rw [Ztv ha.ok.2 hr.ok.sc (by omega), Zxs hx hr.ok.sc (by omega), Znv (by omega)]
 simp only [Option.bind_some]
 have fin : ∀ L : Zcz, L = r.List.take (pre (Zdf { Score := a.X, Name := a.S } false) r.List) ++ [{ Score := a.X, Name := a.S }] ++ r.List.drop (pre (Zdf { Score := a.X, Name := a.S } false) r.List) → layL { Score := a.X, Name := a.S } false r.List = L →
     ∃ c r' o, ((Zb1 r.List ((pre (Zdf { Score := a.X, Name := a.S } false) r.List : Nat) : Int) ([({ Score := a.X, Name := a.S } : Zj)] : List Zj)).bind fun r16 => ((cut r16 (0 : Int) (min (r16.length : Int) r.Cap)).bind fun c18 => (some ((0 : Int), ({ r with List := c18 }), (default : Zg))))) = some (c, r', o) ∧
       (if (decide (r.Cap < ((layL { Score := a.X, Name := a.S } false r.List).length : Int))) = true then ((cut (layL { Score := a.X, Name := a.S } false r.List) (0 : Int) r.Cap).bind fun c66 => (Zev r c66)) else (Zev r (layL { Score := a.X, Name := a.S } false r.List))) = some (if c = 0 then (r', o) else (r, ans c)) ∧ RecW r' ∧ RecW o.Rec ∧ (c = 0 → o.Code = 0 ∧ o.Num = 0) := by
   intro L hL hlay
   have hLl : L.length = r.List.length + 1 := by rw [hL]; simp; omega
   have hLs : ∀ e ∈ L, e.Score < W64 := fun e he => by
     rw [hL] at he
     simp only [List.mem_append, List.mem_singleton] at he
     rcases he with (he | rfl) | he
     · exact hr.ok.sc e (List.mem_of_mem_take he)
     · exact hx
     · exact hr.ok.sc e (List.mem_of_mem_drop he)
   rw [hlay]
   unfold Zb1 Zev Zw
   rw [if_pos ⟨by omega, by omega, by simp, by simp; omega⟩]
   simp only [Option.bind_some, Int.toNat_natCast]
   rw [← hL, Zv4 c1 c2]
   refine ⟨0, { r with List := L.take r.Cap.toNat }, ans 0, rfl, ?_, hr.withList (by simp; omega) (fun e he => hLs e (List.mem_of_mem_take he)), Zcg, fun _ => ⟨rfl, rfl⟩⟩
   by_cases hc : decide (r.Cap < (L.length : Int)) = true
   · rw [if_pos hc]
     have : r.Cap < (L.length : Int) := of_decide_eq_true hc
     unfold cut
     rw [if_pos (by omega)]
     simp
   · rw [if_neg hc]
     have : ¬ r.Cap < (L.length : Int) := fun h => hc (decide_eq_true h)
     rw [List.take_of_length_le (by omega)]; rfl
 by_cases hp : pre (Zdf { Score := a.X, Name := a.S } false) r.List < r.List.length
 · have hd : decide (((pre (Zdf { Score := a.X, Name := a.S } false) r.List : Nat) : Int) < (r.List.length : Int)) = true := by simpa using hp
   have hat := Zry (List.getElem?_eq_getElem hp)
   have hb : Zcv r.List[pre (Zdf { Score := a.X, Name := a.S } false) r.List] { Score := a.X, Name := a.S } = false := hat
   have hbs := Zw0 hb
   rw [hd, Zc7 hp]
   simp only [gd_t, Option.bind_some, Bool.true_and]
   rw [Zmy hx (hr.ok.sc _ (List.getElem_mem hp))]
   simp only [Option.bind_some]
   by_cases hs : (!Zcv { Score := a.X, Name := a.S } r.List[pre (Zdf { Score := a.X, Name := a.S } false) r.List]) = true
   · rw [if_pos hs]
     have hlay : layL { Score := a.X, Name := a.S } false r.List = r.List := by
       unfold layL
       rw [List.getElem?_eq_getElem hp]
       simp only
       rw [if_pos (by rw [← hbs]; exact hs), List.append_nil, List.take_append_drop]
     rw [hlay, if_neg (by simp; omega)]
     exact ⟨0, r, _, rfl, rfl, hr, Zcg, fun _ => ⟨rfl, rfl⟩⟩
   · rw [if_neg hs]
     refine fin _ rfl ?_
     unfold layL
     rw [List.getElem?_eq_getElem hp]
     simp only
     rw [if_neg (by rw [← hbs]; exact hs)]
 · have hd : decide (((pre (Zdf { Score := a.X, Name := a.S } false) r.List : Nat) : Int) < (r.List.length : Int)) = false := by simpa using hp
   rw [hd]
   simp only [gd_f, Option.bind_some, Bool.false_and, Bool.false_eq_true, if_false]
   refine fin _ rfl ?_
   unfold layL
   rw [List.getElem?_eq_none (by omega), List.take_of_length_le (by omega), List.drop_of_length_le (by omega), List.append_nil]
theorem Zp1 {k : Int} (h1 : 1 ≤ k) (h2 : k ≤ 21) : ∃ on, Zid k = some on ∧ Zen k = some on ∧ (k ≤ 4 → on = 0) ∧ (5 ≤ k → on ≠ 0) ∧ ((k = 10 ∨ k = 11) → on = 4) ∧ ((k = 18 ∨ k = 19 ∨ k = 20) → on = 8) ∧ (k = 21 → on = 9) ∧
   ((k = 5 ∨ k = 6) → on = 1) ∧ (k = 7 → on = 2) ∧ ((k = 8 ∨ k = 9) → on = 3) ∧ (k = 12 → on = 4) ∧ (k = 13 → on = 5) ∧ (k = 14 → on = 6) ∧ ((k = 15 ∨ k = 16 ∨ k = 17) → on = 7) := by
 have hk' : k = 1 ∨ k = 2 ∨ k = 3 ∨ k = 4 ∨ k = 5 ∨ k = 6 ∨ k = 7 ∨ k = 8 ∨ k = 9 ∨ k = 10 ∨ k = 11 ∨ k = 12 ∨ k = 13 ∨ k = 14 ∨ k = 15 ∨ k = 16 ∨ k = 17 ∨ k = 18 ∨ k = 19 ∨ k = 20 ∨ k = 21 := by omega
 rcases hk' with rfl | rfl | rfl | rfl | rfl | rfl | rfl | rfl | rfl | rfl | rfl | rfl | rfl | rfl | rfl | rfl | rfl | rfl | rfl | rfl | rfl
 all_goals first
   | exact ⟨0, by kernel_rfl, by kernel_rfl, by decide⟩
   | exact ⟨1, by kernel_rfl, by kernel_rfl, by decide⟩
   | exact ⟨2, by kernel_rfl, by kernel_rfl, by decide⟩
   | exact ⟨3, by kernel_rfl, by kernel_rfl, by decide⟩
   | exact ⟨4, by kernel_rfl, by kernel_rfl, by decide⟩
   | exact ⟨5, by kernel_rfl, by kernel_rfl, by decide⟩
   | exact ⟨6, by kernel_rfl, by kernel_rfl, by decide⟩
   | exact ⟨7, by kernel_rfl, by kernel_rfl, by decide⟩
   | exact ⟨8, by kernel_rfl, by kernel_rfl, by decide⟩
   | exact ⟨9, by kernel_rfl, by kernel_rfl, by decide⟩
theorem Zxi (h5 : 5 ≤ a.Kind) (h21 : a.Kind ≤ 21) (hr : RecW r) (hg : Zcf r) (hon : Zid a.Kind = some r.Kind) (ha : ActW a) : Chg r a := by
 obtain ⟨on, o1, _, _, _, k10, k18, k21, _⟩ := Zp1 (k := a.Kind) (by omega) h21
 rw [hon] at o1
 obtain rfl := Option.some.inj o1
 have hk' : a.Kind = 5 ∨ a.Kind = 6 ∨ a.Kind = 7 ∨ a.Kind = 8 ∨ a.Kind = 9 ∨ a.Kind = 10 ∨ a.Kind = 11 ∨ a.Kind = 12 ∨ a.Kind = 13 ∨ a.Kind = 14 ∨ a.Kind = 15 ∨ a.Kind = 16 ∨ a.Kind = 17 ∨ a.Kind = 18 ∨ a.Kind = 19 ∨ a.Kind = 20 ∨ a.Kind = 21 := by omega
 rcases hk' with h | h | h | h | h | h | h | h | h | h | h | h | h | h | h | h | h
 · exact Z29 h hr
 · exact Z1n h hr
 · exact Z43 h hr
 · exact Z1w h hr ha
 · exact Ztx (.inl h) hr
 · exact Z6b h hr hg (k10 (.inl h)) ha
 · exact Z37 h hr hg (k10 (.inr h)) ha
 · exact Ztx (.inr h) hr
 · exact Z0v h hr hg ha
 · exact Zz4 h hr hg ha
 · exact Zzq h hr
 · exact Zzr h hr
 · exact Z35 h hr ha
 · exact Z1l h hr hg (k18 (.inl h))
 · exact Ztz h hr hg (k18 (.inr (.inl h)))
 · exact Z28 h hr hg (k18 (.inr (.inr h)))
 · exact Z0t h hr hg (k21 h) ha
structure ActIn (a : Zv) : Prop where
 ok : Zsl a
 n : I64 a.N
 mkr : RecW a.Make
theorem ActIn.w {a : Zv} (h : ActIn a) {c : Int} (hc : 1 ≤ a.Kind ∧ a.Kind ≤ 21 ∧ a.X = Zbz a.X ∧ a.S.size ≤ 64 ∧ ((a.Kind = 10 ∨ a.Kind = 11) → 0 ≤ a.N ∧ a.N ≤ 2305843009213693952) ∧ (a.Kind = 1 → Zdq a.Make = some 0) ∧ (¬ (5 ≤ a.Kind ∧ a.Kind ≤ 6) → a.S.size ≤ 16) ∧ sEq a.Key ⟨#[]⟩ = false ∧ a.Key.size ≤ 24) : ActW a :=
 ⟨h.ok, h.n, h.mkr, hc.2.2.1, hc.2.2.2.2.1, hc.2.2.2.1, hc.2.2.2.2.2.2.1⟩
theorem Zyf {there : Bool} {r : Zd} {c : Int} (hc : c ≠ 0) {on : Int} (ho : Zen a.Kind = some on) : Zeo there a r c = some (r, there, ans c) := by
 have h1 : (c == 0) = false := by simpa using hc
 have h2 : (c != 0) = true := by simpa using hc
 unfold Zeo
 simp only [h1, Bool.false_and, Bool.false_eq_true, if_false]
 unfold Zg8
 simp only [h1, Bool.false_and, Bool.false_eq_true, if_false]
 unfold Zg2
 rw [ho]
 simp only [h1, Bool.false_and, Bool.false_eq_true, if_false, Option.bind_some]
 unfold Zg4
 rw [if_pos h2]
theorem Z3b (k : Int) : ∃ on, Zen k = some on := by
 by_cases h : k < 0 ∨ 21 < k
 · exact ⟨0, by unfold Zen; rw [if_pos (by simpa using h)]⟩
 · by_cases h0 : k = 0
   · exact ⟨0, by rw [h0]; kernel_rfl⟩
   · obtain ⟨on, _, h2, _⟩ := Zp1 (k := k) (by omega) (by omega)
     exact ⟨on, h2⟩
theorem Zy2 {r : Zd} {there : Bool} {a : Zv} (hr : RecW r) (ha : ActIn a) : ∃ x is out, Zhq r there a = some (x, is, out) ∧ Zjw r there a = some (x, is, out) ∧ RecW x ∧ RecW out.Rec := by
 suffices hs : ∀ r0 : Zd, RecW r0 → ∃ x is out, Zfx there a r0 = some (x, is, out) ∧ Zg7 there a r0 = some (x, is, out) ∧ RecW x ∧ RecW out.Rec by
   unfold Zhq Zjw
   cases there
   · exact hs _ Zcg
   · exact hs r hr
 intro r0 hr0
 unfold Zfx Zg7
 rw [Zim hr0.len, Zm1 hr0.len]
 obtain ⟨c, h1, h2, h3⟩ := Zm0 ha.ok
 obtain ⟨on, hon⟩ := Z3b a.Kind
 rw [h1, h2]
 simp only [Option.bind_some]
 by_cases hc : c = 0
 · subst hc
   have hf := h3 rfl
   have hw := ha.w (c := 0) hf
   obtain ⟨on2, o1, o2, o3, o4, _⟩ := Zp1 hf.1 hf.2.1
   have main : (there = true → Zcf r0) → ∃ x is out, Zfw there a r0 = some (x, is, out) ∧ Zeo there a r0 0 = some (x, is, out) ∧ RecW x ∧ RecW out.Rec := by
     intro hg
     unfold Zfw Zfm Zeo Zg8 Zg2
     rw [o1, o2, Zim hr0.len, Zim ha.mkr.len]
     unfold Zg4
     rw [Zm1 hr0.len, Zm1 ha.mkr.len]
     simp only [Option.bind_some]
     by_cases k1 : a.Kind = 1
     · rw [k1, o3 (by omega)]
       cases there
       · exact ⟨a.Make, true, ans 0, rfl, rfl, ha.mkr, Zcg⟩
       · exact ⟨r0, true, ans 7, rfl, rfl, hr0, Zcg⟩
     · by_cases k3 : a.Kind = 3
       · rw [k3, o3 (by omega)]
         cases there
         · exact ⟨r0, false, { ans 0 with Num := r0.Kind }, rfl, rfl, hr0, Zcg⟩
         · exact ⟨r0, true, { ans 0 with Num := r0.Kind }, rfl, rfl, hr0, Zcg⟩
       · by_cases k2 : a.Kind = 2
         · rw [k2, o3 (by omega)]
           cases there
           · exact ⟨r0, false, ans 6, rfl, rfl, hr0, Zcg⟩
           · exact ⟨zrc, false, ans 0, rfl, rfl, Zcg, Zcg⟩
         · by_cases k4 : a.Kind = 4
           · rw [k4, o3 (by omega)]
             cases there
             · exact ⟨r0, false, ans 6, rfl, rfl, hr0, Zcg⟩
             · exact ⟨r0, true, { ans 0 with Rec := r0 }, rfl, rfl, hr0, hr0⟩
           · have h5 : 5 ≤ a.Kind := by omega
             have b1 : (a.Kind == 1) = false := by simpa using k1
             have b2 : (a.Kind == 2) = false := by simpa using k2
             have b3 : (a.Kind == 3) = false := by simpa using k3
             have b4 : (a.Kind == 4) = false := by simpa using k4
             have b1' : (a.Kind != 1) = true := by simpa using k1
             have b3' : (a.Kind != 3) = true := by simpa using k3
             have bo : (on2 != 0) = true := by simpa using o4 h5
             simp only [b1, b2, b3, b4, b1', b3', bo, Bool.false_and, Bool.and_false, Bool.and_true, Bool.true_and, Bool.false_eq_true, if_false, beq_self_eq_true]
             cases there
             · exact ⟨r0, false, ans 6, rfl, rfl, hr0, Zcg⟩
             · simp only [Bool.not_true, Bool.false_eq_true, if_false, Bool.and_false, Bool.false_and, beq_self_eq_true, Bool.true_and]
               by_cases hk : (on2 != r0.Kind) = true
               · rw [if_pos hk, if_pos hk]
                 exact ⟨r0, true, ans 5, rfl, rfl, hr0, Zcg⟩
               · rw [if_neg hk, if_neg hk, if_pos ⟨h5, hf.2.1⟩]
                 have hk' : on2 = r0.Kind := by simpa using hk
                 obtain ⟨c, r', o, e1, e2, w1, w2, _⟩ := Zxi h5 hf.2.1 hr0 (hg rfl) (by rw [← hk']; exact o1) hw
                 rw [e1, e2]
                 simp only [Option.bind_some]
                 by_cases hc : c = 0
                 · subst hc
                   exact ⟨r', true, o, rfl, rfl, w1, w2⟩
                 · have hcn : (c != 0) = true := by simpa using hc
                   rw [if_pos hcn, if_neg hc]
                   exact ⟨r0, true, ans c, rfl, rfl, hr0, Zcg⟩
   have z1 : ((0 : Int) != 0) = false := rfl
   have z2 : ((0 : Int) == 0) = true := rfl
   rw [z1, z2]
   simp only [Bool.false_eq_true, if_false, Bool.true_and]
   by_cases ht : there = true
   · rw [if_pos ht, if_pos ht]
     obtain ⟨c2, g1, g2⟩ := Zky hr0.ok
     rw [g1, g2]
     simp only [Option.bind_some]
     by_cases hc2 : c2 = 0
     · subst hc2
       rw [z1]
       exact main fun _ => (Ziq hr0.ok).1 g1
     · have hcn : (c2 != 0) = true := by simpa using hc2
       rw [if_pos hcn, Zyf hc2 o2]
       exact ⟨r0, there, ans c2, rfl, rfl, hr0, Zcg⟩
   · rw [if_neg ht, if_neg ht]
     exact main fun h => absurd h ht
 · have hcn : (c != 0) = true := by simpa using hc
   have hcz : (c == 0) = false := by simpa using hc
   rw [if_pos hcn, hcz]
   simp only [Bool.false_and, Bool.false_eq_true, if_false]
   rw [Zyf hc hon]
   exact ⟨r0, there, ans c, rfl, rfl, hr0, Zcg⟩
theorem Z4u {x : Zd} (h : Zka x) : x.List.length ≤ 9223372036854775807 := by
 obtain ⟨_, _, _, _, _, _, _, h8, _⟩ := h
 simp only [maxLen] at h8; omega
theorem Z4a {x : Zd} (h : Zka x) (hl : x.List.length ≤ 100) : RecW x := by
 obtain ⟨h1, h2, h3, h4, h5, _, _, h8, h9⟩ := h
 exact ⟨⟨h5, by omega, fun e he => (h9 e he).1⟩, h2, h3, h4, h1, by omega⟩
def Zyt (r0 : Zd) (there : Bool) (a : Zv) (z : Zd × Bool × Zg) : Prop :=
 (∃ c, c ≠ 0 ∧ z = (r0, there, ans c)) ∨ (Zgf a = some 0 ∧ ActW a ∧ (there = true → Zcf r0) ∧
   ((a.Kind = 1 ∧ there = false ∧ Zcf a.Make ∧ z = (a.Make, true, ans 0)) ∨ (a.Kind = 2 ∧ there = true ∧ z = (zrc, false, ans 0)) ∨ (a.Kind = 3 ∧ z = (r0, there, { ans 0 with Num := r0.Kind })) ∨ (a.Kind = 4 ∧ there = true ∧ z = (r0, true, { ans 0 with Rec := r0 })) ∨
     (5 ≤ a.Kind ∧ a.Kind ≤ 21 ∧ there = true ∧ Zid a.Kind = some r0.Kind ∧ ∃ r' o, Z5 a.Kind r0 a default = some (0, r', o) ∧ o.Code = 0 ∧ o.Num = 0 ∧ RecW r' ∧ RecW o.Rec ∧ z = (r', true, o))))
theorem Znb {r : Zd} {there : Bool} {a : Zv} (hr : RecW r) (ha : ActIn a) : ∃ z, Zhq r there a = some z ∧ Zyt (if there = true then r else zrc) there a z := by
 suffices hs : ∀ r0 : Zd, RecW r0 → ∃ z, Zfx there a r0 = some z ∧ Zyt r0 there a z by
   unfold Zhq
   cases there
   · exact hs _ Zcg
   · exact hs r hr
 intro r0 hr0
 unfold Zfx
 rw [Zim hr0.len]
 obtain ⟨c, h1, h2, h3⟩ := Zm0 ha.ok
 rw [h1]
 simp only [Option.bind_some]
 by_cases hc : c = 0
 · subst hc
   have hf := h3 rfl
   have hw := ha.w (c := 0) hf
   obtain ⟨on2, o1, o2, o3, o4, _⟩ := Zp1 hf.1 hf.2.1
   have main : (there = true → Zcf r0) → ∃ z, Zfw there a r0 = some z ∧ Zyt r0 there a z := by
     intro hg
     unfold Zfw Zfm
     rw [o1, Zim hr0.len, Zim ha.mkr.len]
     simp only [Option.bind_some]
     by_cases k1 : a.Kind = 1
     · have hm : Zcf a.Make := (Ziq ha.mkr.ok).1 (hf.2.2.2.2.2.1 k1)
       rw [k1]
       cases there
       · exact ⟨_, rfl, .inr ⟨h1, hw, hg, .inl ⟨k1, rfl, hm, rfl⟩⟩⟩
       · exact ⟨_, rfl, .inl ⟨7, by decide, rfl⟩⟩
     · by_cases k3 : a.Kind = 3
       · rw [k3]
         exact ⟨_, rfl, .inr ⟨h1, hw, hg, .inr (.inr (.inl ⟨k3, rfl⟩))⟩⟩
       · by_cases k2 : a.Kind = 2
         · rw [k2]
           cases there
           · exact ⟨_, rfl, .inl ⟨6, by decide, rfl⟩⟩
           · exact ⟨_, rfl, .inr ⟨h1, hw, hg, .inr (.inl ⟨k2, rfl, rfl⟩)⟩⟩
         · by_cases k4 : a.Kind = 4
           · rw [k4]
             cases there
             · exact ⟨_, rfl, .inl ⟨6, by decide, rfl⟩⟩
             · exact ⟨_, rfl, .inr ⟨h1, hw, hg, .inr (.inr (.inr (.inl ⟨k4, rfl, rfl⟩)))⟩⟩
           · have h5 : 5 ≤ a.Kind := by omega
             have b1 : (a.Kind == 1) = false := by simpa using k1
             have b2 : (a.Kind == 2) = false := by simpa using k2
             have b3 : (a.Kind == 3) = false := by simpa using k3
             have b4 : (a.Kind == 4) = false := by simpa using k4
             simp only [b1, b2, b3, b4, Bool.false_and, Bool.false_eq_true, if_false]
             cases there
             · exact ⟨_, rfl, .inl ⟨6, by decide, rfl⟩⟩
             · simp only [Bool.not_true, Bool.false_eq_true, if_false]
               by_cases hk : (on2 != r0.Kind) = true
               · rw [if_pos hk]
                 exact ⟨_, rfl, .inl ⟨5, by decide, rfl⟩⟩
               · rw [if_neg hk, if_pos ⟨h5, hf.2.1⟩]
                 have hk' : on2 = r0.Kind := by simpa using hk
                 obtain ⟨c, r', o, e1, e2, w1, w2, w3⟩ := Zxi h5 hf.2.1 hr0 (hg rfl) (by rw [← hk']; exact o1) hw
                 rw [e1]
                 simp only [Option.bind_some]
                 by_cases hc : c = 0
                 · subst hc
                   exact ⟨(r', true, o), rfl, .inr ⟨h1, hw, hg, .inr (.inr (.inr (.inr ⟨h5, hf.2.1, rfl, by rw [← hk']; exact o1, r', o, e1, (w3 rfl).1, (w3 rfl).2, w1, w2, rfl⟩)))⟩⟩
                 · have hcn : (c != 0) = true := by simpa using hc
                   rw [if_pos hcn]
                   exact ⟨_, rfl, .inl ⟨c, hc, rfl⟩⟩
   have z1 : ((0 : Int) != 0) = false := rfl
   rw [z1]
   simp only [Bool.false_eq_true, if_false]
   by_cases ht : there = true
   · rw [if_pos ht]
     obtain ⟨c2, g1, g2⟩ := Zky hr0.ok
     rw [g1]
     simp only [Option.bind_some]
     by_cases hc2 : c2 = 0
     · subst hc2
       rw [z1]
       exact main fun _ => (Ziq hr0.ok).1 g1
     · have hcn : (c2 != 0) = true := by simpa using hc2
       rw [if_pos hcn]
       exact ⟨_, rfl, .inl ⟨c2, hc2, rfl⟩⟩
   · rw [if_neg ht]
     exact main fun h => absurd h ht
 · have hcn : (c != 0) = true := by simpa using hc
   rw [if_pos hcn]
   exact ⟨_, rfl, .inl ⟨c, hc, rfl⟩⟩
theorem Zu5 {f : Zj → Bool} {l : Zcz} : ∀ y ∈ l.take (pre f l), f y = true := fun y hy => by
 obtain ⟨k, hk, rfl⟩ := List.getElem_of_mem hy
 rw [List.length_take] at hk
 obtain ⟨e, he, hf⟩ := Zvd (f := f) (l := l) (k := k) (by omega)
 rw [List.getElem?_eq_getElem (by omega)] at he
 rw [List.getElem_take]
 obtain rfl := Option.some.inj he
 exact hf
variable {r r' r'' : Zd} {a : Zv} {o o' : Zg} {c : Int}
end Go.CL
