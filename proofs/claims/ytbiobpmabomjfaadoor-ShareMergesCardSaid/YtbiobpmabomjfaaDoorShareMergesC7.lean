/- A part of the proof of ShareMerges. -/
import Derived.Test.YtbiobpmabomjfaaDoorShareMergesC6
import Derived.KernelRfl
import Derived.Laws.Strings
import Derived.Test.YtbiobpmabomjfaaDoorRows
import Derived.Test.YtbiobpmabomjfaaDoorCards
import Derived.Test.YtbiobpmabomjfaaDoorTie
import Derived.SevenTiedAt
set_option linter.unusedVariables false
set_option linter.unusedSimpArgs false
set_option maxRecDepth 100000
namespace Go.CL
open Go Go.RowKit Go.Proofs
theorem Zk2 (a0 : Zb) (a1 : List Zb) (a2 : Zs) {r : Bool} (h : Zfo a0 a1 a2 = some r) : FnOk Tryd.prog 4 [(Zf.pd a0), (Zf.sl.pd a1), (Zw.pd a2)] (Zba r) := by
 have H0 := h
 unfold Zfo at H0
 clear h
 refine Zbq (N := 46) Tryd.func4 rfl rfl (Nat.le_of_ble_eq_true rfl) rfl rfl (fun a g0 hst hb => ?_)
 refine r_s (T := [⟨[.old 0], _, [], [], [3]⟩, ⟨[.old 2], _, [], [], [5]⟩, ⟨[], _, [], [], [6]⟩]) (F := [.old 1, .op 0 0, .op 1 0]) hst hb Za
   (o_p rfl (Zbs rfl rfl u_0) <| o_p rfl (Zbs rfl rfl u_0) <| o_p rfl (Zc rfl rfl c_b) <| o_n) (by kernel_rfl) (fun a g hst hb => ?_)
 refine wp_seq ?_
 obtain ⟨r1, h2, H0⟩ := Zk H0
 refine r_s (T := [⟨[], _, [], [], [9]⟩, ⟨[.op 0 0], _, [], [0], [10]⟩]) (F := [.old 0, .old 1, .old 2, .op 1 0]) hst hb Za
   (o_p rfl (Zt en_8 (Zmd h2) rfl rfl .nil) <| o_p rfl (Zb4 rfl rfl u_0) <| o_n) (by kernel_rfl) (fun a g hst hb => ?_)
 refine wp_cond_split (hst.bool 3 rfl) (fun hc3 => ?_) (fun hc3 => ?_)
 · replace H0 := Zp hc3 H0
   refine r_s (L := []) (T := [⟨[], _, [], [], [6]⟩]) (F := [.op 0 0]) (hst.pick [] rfl) hb Za
     (o_p rfl (Zc rfl rfl c_b) <| o_n) (by kernel_rfl) (fun a g hst hb => ?_)
   refine wp_ret ?_
   refine Zm ?_
   obtain rfl := Option.some.inj H0
   exact Zx rfl hst hb (Zl (s := 6)) (hst.at 0 rfl)
 · replace H0 := Zo hc3 H0
   refine wp_skip ?_
   refine Zq ?_
   refine wp_seq ?_
   obtain ⟨r4, h5, H0⟩ := Zk H0
   refine r_s (L := [(1, _), (3, _), (5, _)]) (T := [⟨[.old 0], _, [], [], [11]⟩, ⟨[.op 0 0], _, [], [0], [12]⟩, ⟨[.op 1 0], _, [], [0, 1], [13]⟩, ⟨[.op 2 0], _, [], [0, 1, 2], [14]⟩, ⟨[.op 3 0, .old 1], _, [], Lr 4, [15]⟩, ⟨[.op 3 0, .old 2], _, [], Lr 4, [16]⟩, ⟨[.op 3 0, .op 5 0], _, [], [0, 1, 2, 3, 5], [17]⟩, ⟨[.op 3 0, .op 6 0], _, [], [0, 1, 2, 3, 5, 6], [18]⟩, ⟨[.op 3 0, .op 4 0, .op 7 0], _, [], Lr 8, [19]⟩, ⟨[.op 3 0, .op 8 0], _, [], Lr 9, [20]⟩]) (F := [.old 0, .old 1, .old 2, .op 9 0]) (hst.pick [0, 1, 2] rfl) hb Za
     (o_p rfl (Zd rfl rfl u_0) <| o_p rfl (Zcd Tryd.underlying33 rfl rfl u_0) <| o_p rfl (Zcj rfl rfl u_0 c_i) <| o_p rfl (Zd rfl rfl u_0) <| o_g (g_f rfl rfl rfl (fun hG => Zg Z0 rfl rfl u_0)) <| o_g (g_f rfl rfl rfl (fun hG => Zg Zfa rfl rfl u_0)) <| o_g (g_f rfl rfl rfl (fun hG => Zzw rfl rfl (Opd.gd hG u_0))) <| o_g (g_f rfl rfl rfl (fun hG => Zgx Z3s (xs := [.tmp 17]) (.cons (Opd.gd hG u_0) .nil) (by decide) rfl rfl)) <| o_g (g_f rfl rfl rfl (fun hG => Zt en_9 (Zkw _ _ (Zbn h5 hG)) rfl rfl (.cons (Opd.gd hG u_0) (.cons (Opd.gd hG u_1) .nil)))) <| o_p rfl (Zbj rfl rfl u_0 (fun hz => (Opd.gd (bNF hz) u_1))) <| o_n) (by kernel_rfl) (fun a g hst hb => ?_)
   refine wp_cond_split (hst.bool 3 rfl) (fun hc6 => ?_) (fun hc6 => ?_)
   · replace H0 := Zp hc6 H0
     refine r_s (L := []) (T := [⟨[], _, [], [], [6]⟩]) (F := [.op 0 0]) (hst.pick [] rfl) hb Za
       (o_p rfl (Zc rfl rfl c_b) <| o_n) (by kernel_rfl) (fun a g hst hb => ?_)
     refine wp_ret ?_
     refine Zm ?_
     obtain rfl := Option.some.inj H0
     exact Zx rfl hst hb (Zl (s := 6)) (hst.at 0 rfl)
   · replace H0 := Zo hc6 H0
     refine wp_skip ?_
     refine Zq ?_
     refine wp_seq ?_
     refine r_s (L := [(1, _), (3, _), (5, _)]) (T := [⟨[.old 0], _, [], [], [21]⟩, ⟨[.op 0 0], _, [], [0], [22]⟩, ⟨[], _, [], [], [23]⟩]) (F := [.old 0, .old 1, .old 2, .op 0 0, .op 1 0, .op 2 0]) (hst.pick [0, 1, 2] rfl) hb Za
       (o_p rfl (Zd rfl rfl u_0) <| o_p rfl (Zcd Tryd.underlying33 rfl rfl u_0) <| o_p rfl (Zd rfl rfl c_i) <| o_n) (by kernel_rfl) (fun a g hst hb => ?_)
     obtain ⟨z14, hz1, H0⟩ := Zk H0
     refine Zbv (fun a w => ∃ (g : G), w = g.w ∧ St 46 [(1, (Zf.sl.pd a1)), (3, (Zf.ptr a0)), (5, (Zw.ptr a2))] a g ∧ Base g0 g ∧ (.inr ()) = z14) ?_ ?_
     · rintro a w ⟨g, rfl, hst, hb, rfl⟩
       refine Zq ?_
       obtain ⟨r15, h16, H0⟩ := Zk H0; obtain ⟨r17, h18, H0⟩ := Zk H0; obtain ⟨r19, h20, H0⟩ := Zk H0; obtain ⟨r21, h22, H0⟩ := Zk H0; obtain ⟨r23, h24, H0⟩ := Zk H0; obtain ⟨r25, h26, H0⟩ := Zk H0
       refine r_s (T := ⟨[.old 1], _, [], [], [30]⟩ :: ⟨[.old 2], _, [], [], [31]⟩ :: ⟨[.op 0 0, .op 1 0], _, [], [0, 1], [32]⟩ :: ⟨[.old 1], _, [], [], [33]⟩ :: ⟨[.old 2], _, [], [], [34]⟩ :: ⟨[.op 3 0, .op 4 0], _, [], Lr 5, [35]⟩ :: ⟨[.op 2 0, .op 5 0], _, [], Lr 6, [36]⟩ :: ⟨[.op 6 0], _, [], Lr 7, [37]⟩ :: ⟨[.op 7 0, .old 1], _, [], Lr 8, [38]⟩ :: ⟨[.op 7 0, .old 0], _, [], Lr 8, [39]⟩ :: ⟨[.op 7 0, .op 8 0, .op 9 0], _, [], Lr 10, [40]⟩ :: ⟨[.op 7 0, .old 1], _, [], Lr 8, [41]⟩ :: ⟨[.op 7 0, .old 0], _, [], Lr 8, [42]⟩ :: ⟨[.op 7 0, .op 11 0, .op 12 0], _, [], Lr 13, [43]⟩ :: ⟨[.op 7 0, .op 10 0, .op 13 0], _, [], Lr 14, [44]⟩ :: ⟨[.op 7 0, .op 14 0], _, [], Lr 15, [45]⟩ :: ⟨[.op 15 0], _, [], Lr 16, [6]⟩ :: []) (F := [.op 16 0]) hst hb Za
         (o_p rfl (Zg Z0 rfl rfl u_0) <| o_p rfl (Zg Zfa rfl rfl u_0) <| o_p rfl (Zt Zyz (Zpb _ _ h16) rfl rfl (.cons u_0 (.cons u_1 .nil))) <| o_p rfl (Zg Z0 rfl rfl u_0) <| o_p rfl (Zg Zfa rfl rfl u_0) <| o_p rfl (Zt Z3b (Zox _ _ h18) rfl rfl (.cons u_0 (.cons u_1 .nil))) <| o_p rfl (Zt Zvm (Zip _ _ h20) rfl rfl (.cons u_0 (.cons u_1 .nil))) <| o_p rfl (Zd rfl rfl u_0) <| o_g (g_t rfl rfl rfl (fun hG => Zg Z0 rfl rfl u_0)) <| o_g (g_t rfl rfl rfl (fun hG => Zd rfl rfl u_0)) <| o_g (g_t rfl rfl rfl (fun hG => Zt Zzh (Zme _ _ (Zbn h22 hG)) rfl rfl (.cons (Opd.gd hG u_0) (.cons (Opd.gd hG u_1) .nil)))) <| o_g (g_t rfl rfl rfl (fun hG => Zg Z0 rfl rfl u_0)) <| o_g (g_t rfl rfl rfl (fun hG => Zd rfl rfl u_0)) <| o_g (g_t rfl rfl rfl (fun hG => Zt Z38 (Znc _ _ (Zbn h24 hG)) rfl rfl (.cons (Opd.gd hG u_0) (.cons (Opd.gd hG u_1) .nil)))) <| o_g (g_t rfl rfl rfl (fun hG => Zt Zvm (Zip _ _ (Zbn h26 hG)) rfl rfl (.cons (Opd.gd hG u_0) (.cons (Opd.gd hG u_1) .nil)))) <| o_p rfl (Zbb rfl rfl u_0 (fun hz => (Opd.gd hz u_1))) <| o_p rfl (Zc rfl rfl u_0) <| o_n) (by kernel_rfl) (fun a g hst hb => ?_)
       refine wp_ret ?_
       obtain rfl := Option.some.inj H0
       exact Zx rfl hst hb (Zl (s := 6)) (hst.at 0 rfl)
     · refine wp_block ?_
       refine wp_loop_ghost (fun n a w => ∃ (x7 : Int) (g : G), w = g.w ∧ St 46 [(1, (Zf.sl.pd a1)), (3, (Zf.ptr a0)), (5, (Zw.ptr a2)), (21, (Zf.sl.pd a1)), (22, (pInt .i64 (a1.length : Int))), (23, (pInt .i64 x7))] a g ∧ Base g0 g ∧ Zck a1 n x7 = some z14) (Int.toNat ((a1.length : Int) - (0 : Int)) + 1) ⟨(0 : Int), g, rfl, (hst.pick [0, 1, 2, 3, 4, 5] rfl), hb, hz1⟩ (fun n a w hI => ?_)
       obtain ⟨x7, g, rfl, hst, hb, H1⟩ := hI
       cases n with
       | zero => exact absurd H1 (by simp [Zck])
       | succ n =>
         rw [Zck] at H1
         refine r_s (T := [⟨[.old 5, .old 4], _, [], [], [24]⟩]) (F := [.old 0, .old 1, .old 2, .old 3, .old 4, .old 5, .op 0 0]) hst hb Za
           (o_p rfl (Zcb rfl rfl u_0 u_1) <| o_n) (by kernel_rfl) (fun a g hst hb => ?_)
         refine wp_seq ?_
         refine wp_cond_split (hst.bool 6 rfl) (fun hc8 => ?_) (fun hc8 => ?_)
         · replace H1 := Zp hc8 H1
           refine wp_skip ?_
           refine Zq ?_
           refine wp_seq ?_
           refine wp_block ?_
           obtain ⟨e9, h10, H1⟩ := Zk H1
           refine r_s (L := [(1, _), (3, _), (5, _), (21, _), (22, _), (23, _)]) (T := [⟨[.old 3, .old 5], _, [], [], [25]⟩, ⟨[.op 0 0], _, [], [0], [26]⟩, ⟨[], [(8, (pBox Zf 8 (default : Zb)))], [9], [], [8]⟩, ⟨[.op 1 0, .op 2 0], _, [9], [0, 1, 2], [8]⟩]) (F := [.old 0, .old 1, .old 2, .op 3 0, .old 3, .old 4, .old 5]) (hst.pick [0, 1, 2, 3, 4, 5] rfl) hb Za
             (o_p rfl (Zbh Tryd.underlying33 Zvd rfl rfl u_0 u_1 h10) <| o_p rfl (Zg Z0 rfl rfl u_0) <| o_p rfl (Zbi (zs := [.int .i64 0, .int .i64 0, .int .i64 0, .int .i64 0, .float .f64 0, .int .i64 0, .string ByteArray.empty, .slice none 0 0]) (by kernel_rfl) (fun g => Zbo g) rfl rfl) <| o_p rfl (Zci Z0 rfl rfl u_1 u_0) <| o_n) (by kernel_rfl) (fun a g hst hb => ?_)
           obtain ⟨r11, h12, H1⟩ := Zk H1
           refine r_s (T := [⟨[.old 3], _, [], [], [27]⟩, ⟨[.op 0 0], [(28, (Zba r11))], [], [0], [28]⟩]) (F := [.old 0, .old 1, .old 2, .old 4, .old 5, .old 6, .op 1 0]) hst hb Za
             (o_p rfl (Zg Z0 rfl rfl u_0) <| o_p rfl (Zt en_9 (Zkw _ _ h12) rfl rfl (.cons u_0 (.cons (Opd.c (fun g => Zix g)) .nil))) <| o_n) (by kernel_rfl) (fun a g hst hb => ?_)
           refine wp_cond_split (hst.bool 6 rfl) (fun hc13 => ?_) (fun hc13 => ?_)
           · replace H1 := Zp hc13 H1
             refine r_s (L := []) (T := [⟨[], _, [], [], [6]⟩]) (F := [.op 0 0]) (hst.pick [] rfl) hb Za
               (o_p rfl (Zc rfl rfl c_b) <| o_n) (by kernel_rfl) (fun a g hst hb => ?_)
             refine wp_ret ?_
             refine Zv ?_
             refine Zm ?_
             refine Zm ?_
             refine Zv ?_
             refine Zm ?_
             refine Zm ?_
             obtain rfl := Option.some.inj H1
             obtain rfl := Option.some.inj H0
             exact Zx rfl hst hb (Zl (s := 6)) (hst.at 0 rfl)
           · replace H1 := Zo hc13 H1
             refine wp_skip ?_
             refine Z6 ?_
             refine Zq ?_
             refine r_g (L := [(1, _), (3, _), (5, _), (21, _), (22, _), (23, _)]) (T := [⟨[.old 5], _, [], [], [29]⟩, ⟨[.op 0 0], _, [], [0], [23]⟩]) (F := [.old 0, .old 1, .old 2, .old 3, .old 4, .op 1 0]) (hst.pick [0, 1, 2, 3, 4, 5] rfl) hb Za
               (o_p rfl (Zcg rfl rfl u_0 c_i rfl) <| o_p rfl (Zd rfl rfl u_0) <| o_n) (by kernel_rfl) (fun a g hst hb => ?_)
             exact ⟨n, Nat.lt_succ_self _, (IntKind.i64.wrap (x7 + (1 : Int))), g, rfl, (hst.pick [0, 1, 2, 3, 4, 5] rfl), hb, H1⟩
         · replace H1 := Zo hc8 H1
           refine wp_exit ?_
           refine Zcf ?_
           refine Zcf ?_
           refine Zc1 ?_
           exact ⟨g, rfl, (hst.pick [0, 1, 2] rfl), hb, Option.some.inj H1⟩
end Go.CL
namespace Go.CL
open Go
inductive shelf_nodeT where
 | nil
 | node (key : ByteArray) (rec_ : Zb) (left : shelf_nodeT) (right : shelf_nodeT) (size : Int)
 deriving Inhabited
structure shelf_node where
 key : ByteArray
 rec_ : Zb
 left : shelf_nodeT
 right : shelf_nodeT
 size : Int
 deriving Inhabited
def shelf_node.up (x : shelf_node) : shelf_nodeT := .node x.key x.rec_ x.left x.right x.size
def shelf_nodeT.hh : shelf_nodeT → Nat
 | .nil => 0
 | .node x0 x1 x2 x3 x4 => max x2.hh x3.hh + 1
def NANB : Nat := 9221120237041090561
def keyf (b : Nat) : Int := if isn b then 18444492273895866369 else if TOP ≤ b then 18446744073709551615 - b else b + 9223372036854775808
def Zcc (b : Nat) : Nat := if isn b then NANB else b
theorem Zre {b : Nat} (hb : b < 18446744073709551616) : fneq b b = decide (isn b) := by
 unfold fneq
 show (Ieee.double.order b b != some .eq) = _
 by_cases h : isn b
 · rw [Zrc (.inl h)]; simp [h]
 · obtain ⟨o, ho, _, he⟩ := Zne hb hb h h
   rw [ho, he.2 rfl]; simp [h]
theorem Zf9 {b : Nat} (hb : b < 18446744073709551616) : Zez b = some (Zcc b) := by
 unfold Zez Zcc
 rw [Zre hb]
 by_cases h : isn b
 · simp [h, Zlv, NANB]
 · simp [h]
theorem Z04 {b : Nat} (hb : b < 18446744073709551616) : (bAnd .u64 (b : Int) 9223372036854775808 != 0) = decide (TOP ≤ b) := by
 have h1 : (BitVec.ofInt 64 (b : Int) &&& BitVec.ofInt 64 9223372036854775808).toNat = b &&& 9223372036854775808 := by
   rw [BitVec.toNat_and]
   have e1 : (BitVec.ofInt 64 (b : Int)).toNat = b := by
     rw [show BitVec.ofInt 64 (b : Int) = BitVec.ofNat 64 b from rfl]
     simp; omega
   rw [e1]; rfl
 have h2 : b &&& 9223372036854775808 = (b.testBit 63).toNat * 9223372036854775808 := by
   apply Nat.eq_of_testBit_eq
   intro i
   rw [Nat.testBit_and, show (9223372036854775808 : Nat) = 2 ^ 63 from rfl, Nat.testBit_two_pow]
   by_cases hi : 63 = i
   · subst hi
     cases b.testBit 63
     · simp
     · rw [Bool.toNat_true, Nat.one_mul, Nat.testBit_two_pow]; simp
   · cases b.testBit 63
     · simp [hi]
     · rw [Bool.toNat_true, Nat.one_mul, Nat.testBit_two_pow]; simp [hi]
 have h3 : b.testBit 63 = decide (TOP ≤ b) := by
   rw [Nat.testBit_eq_decide_div_mod_eq]
   unfold TOP
   by_cases h : 9223372036854775808 ≤ b
   · have : b / 2 ^ 63 % 2 = 1 := by omega
     simp [this, h]
   · have : b / 2 ^ 63 % 2 = 0 := by omega
     simp [this, h]
 unfold bAnd
 show (IntKind.wrap .u64 ((BitVec.ofInt 64 (b : Int) &&& BitVec.ofInt 64 9223372036854775808).toNat : Int) != 0) = _
 rw [h1, h2, h3]
 by_cases h : TOP ≤ b
 · simp only [h, decide_true, Bool.toNat_true, Nat.one_mul]
   rfl
 · simp only [h, decide_false, Bool.toNat_false, Nat.zero_mul]
   rfl
theorem Z0c {b : Nat} (hb : b < 18446744073709551616) : bXor .u64 IntKind.u64.max (b : Int) = 18446744073709551615 - b := by
 have h1 : (BitVec.ofInt 64 18446744073709551615 ^^^ BitVec.ofInt 64 (b : Int)).toNat = 18446744073709551615 - b := by
   have e1 : BitVec.ofInt 64 18446744073709551615 = BitVec.allOnes 64 := by decide
   rw [e1, BitVec.allOnes_xor, BitVec.toNat_not]
   have e2 : (BitVec.ofInt 64 (b : Int)).toNat = b := by
     rw [show BitVec.ofInt 64 (b : Int) = BitVec.ofNat 64 b from rfl]
     simp; omega
   rw [e2]
 unfold bXor
 show IntKind.wrap .u64 ((BitVec.ofInt 64 18446744073709551615 ^^^ BitVec.ofInt 64 (b : Int)).toNat : Int) = _
 rw [h1]
 simp [IntKind.wrap, IntKind.signed, IntKind.bits]
 omega
theorem Z11 {b : Nat} (hb : b < 9223372036854775808) : bOr .u64 (b : Int) 9223372036854775808 = b + 9223372036854775808 := by
 have h1 : (BitVec.ofInt 64 (b : Int) ||| BitVec.ofInt 64 9223372036854775808).toNat = b + 9223372036854775808 := by
   rw [BitVec.toNat_or]
   have e1 : (BitVec.ofInt 64 (b : Int)).toNat = b := by
     rw [show BitVec.ofInt 64 (b : Int) = BitVec.ofNat 64 b from rfl]
     simp; omega
   rw [e1, show (BitVec.ofInt 64 9223372036854775808).toNat = 2 ^ 63 * 1 from rfl, Nat.or_comm]
   rw [← Nat.two_pow_add_eq_or_of_lt (by simpa using hb)]
   omega
 unfold bOr
 show IntKind.wrap .u64 ((BitVec.ofInt 64 (b : Int) ||| BitVec.ofInt 64 9223372036854775808).toNat : Int) = _
 rw [h1]
 simp [IntKind.wrap, IntKind.signed, IntKind.bits]
 omega
theorem Zjl {b : Nat} (hb : b < 18446744073709551616) : Zcc b < 18446744073709551616 := by
 unfold Zcc NANB; split <;> omega
theorem Zpo {b : Nat} (hb : b < 18446744073709551616) : Zjq b = some (keyf b) := by
 unfold Zjq
 rw [Zf9 hb]
 simp only [Option.bind_some]
 rw [Z04 (Zjl hb)]
 unfold keyf Zcc
 by_cases h : isn b
 · simp only [h, if_true]
   rfl
 · simp only [h, if_false]
   by_cases ht : TOP ≤ b
   · simp only [ht, decide_true, if_true]
     rw [Z0c hb]
   · simp only [ht, decide_false, if_false, Bool.false_eq_true]
     rw [Z11 (by unfold TOP at ht; omega)]
theorem Zlf {a b : Nat} (ha : a < 18446744073709551616) (hb : b < 18446744073709551616) : Zhf a b = some (decide (keyf a = keyf b)) := by
 unfold Zhf
 rw [Zpo ha, Zpo hb]
 simp [BEq.beq]
theorem Zmf {a b : Nat} (ha : a < 18446744073709551616) (hb : b < 18446744073709551616) : Zjo a b = some (decide (keyf a < keyf b)) := by
 unfold Zjo
 rw [Zpo ha, Zpo hb]
 simp
theorem Zof {a : Nat} (ha : a < 18446744073709551616) : Zic a = some (decide (a = Zcc a)) := by
 unfold Zic
 rw [Zf9 ha]
 congr 1
 by_cases h : a = Zcc a
 · simp [← h]
 · have : (a : Int) ≠ (Zcc a : Int) := by omega
   simp [h, this]
theorem Zuq {a b : Nat} (ha : a < 18446744073709551616) (hb : b < 18446744073709551616) (na : ¬ isn a) (nb : ¬ isn b) : keyf a < keyf b ↔ (sg a < sg b ∨ (a = TOP ∧ b = 0)) := by
 unfold keyf
 rw [if_neg na, if_neg nb]
 unfold sg isn rg INF TOP at *
 split <;> split <;> omega
theorem Zt4 {a b : Nat} (ha : a < 18446744073709551616) (hb : b < 18446744073709551616) (na : ¬ isn a) (nb : ¬ isn b) : feql a b = decide (sg a = sg b) := by
 unfold feql
 show (Ieee.double.order a b == some .eq) = _
 obtain ⟨o, ho, _, he⟩ := Zne ha hb na nb
 rw [ho]
 by_cases h : sg a = sg b
 · rw [he.2 h]; simp [h]
 · have : o ≠ .eq := fun h' => h (he.1 h')
   simp [h, this]
theorem Zz3 {a b : Nat} (ha : a < 18446744073709551616) (hb : b < 18446744073709551616) (na : ¬ isn a) (nb : ¬ isn b) : flss a b = decide (sg a < sg b) := by
 unfold flss
 show (Ieee.double.order a b == some .lt) = _
 obtain ⟨o, ho, hl, _⟩ := Zne ha hb na nb
 rw [ho]
 by_cases h : sg a < sg b
 · rw [hl.2 h]; simp [h]
 · have : o ≠ .lt := fun h' => h (hl.1 h')
   simp [h, this]
theorem Z2t : Zfj 0 = some false := by kernel_rfl
theorem Z10 : Zfj TOP = some true := by kernel_rfl
theorem nan0 : ¬ isn 0 := by decide
theorem Zuv {a : Nat} (ha : a < 18446744073709551616) : sg a = sg 0 ↔ a = 0 ∨ a = TOP := by
 unfold sg TOP
 split <;> simp <;> omega
theorem Zmy {a : Nat} (ha : a < 18446744073709551616) : Zdg a = some (decide (isn a)) := by
 unfold Zdg; rw [Zre ha]
theorem Zjn {a b : Nat} (ha : a < 18446744073709551616) (hb : b < 18446744073709551616) : Zd2 a b = some (decide (keyf a < keyf b)) := by
 unfold Zd2
 rw [Zmy ha, Zmy hb]
 simp only [Option.bind_some]
 have kb : ∀ x, x < 18446744073709551616 → ¬ isn x → keyf x < 18444492273895866369 := by
   intro x hx nx
   unfold keyf
   rw [if_neg nx]
   unfold isn rg INF TOP at *
   split <;> omega
 have kn : ∀ x, isn x → keyf x = 18444492273895866369 := fun x h => by unfold keyf; rw [if_pos h]
 by_cases na : isn a
 · simp only [na, decide_true, if_true]
   by_cases nb : isn b
   · rw [kn a na, kn b nb]; simp
   · have := kb b hb nb
     rw [kn a na]; simp; omega
 · simp only [na, decide_false, Bool.false_eq_true, if_false]
   by_cases nb : isn b
   · have := kb a ha na
     rw [kn b nb]; simp [nb, this]
   · simp only [nb, decide_false, Bool.false_eq_true, if_false]
     rw [Zt4 ha (by decide) na nan0, Zt4 hb (by decide) nb nan0, Zz3 ha hb na nb]
     by_cases hz : sg a = sg 0 ∧ sg b = sg 0
     · rw [if_pos (by simp [hz])]
       have hk := Zuq ha hb na nb
       have h0T : (0 : Nat) ≠ TOP := by decide
       rcases (Zuv ha).1 hz.1 with rfl | rfl <;> rcases (Zuv hb).1 hz.2 with rfl | rfl <;> simp only [Z2t, Z10, gd, Option.bind_some, if_true, if_false, Bool.false_eq_true, Option.some.injEq] <;> decide
     · rw [if_neg (by simpa using hz)]
       have hk := Zuq ha hb na nb
       congr 1
       apply decide_eq_decide.2
       rw [hk]
       constructor
       · intro h; exact .inl h
       · rintro (h | ⟨rfl, rfl⟩)
         · exact h
         · exact absurd ⟨rfl, rfl⟩ hz
theorem Zkf {a b : Nat} (ha : a < 18446744073709551616) (hb : b < 18446744073709551616) : Zc7 a b = some (decide (keyf a = keyf b)) := by
 unfold Zc7
 rw [Zjn ha hb, Zjn hb ha]
 simp only [Option.bind_some, gd]
 by_cases h1 : keyf a < keyf b
 · have : keyf a ≠ keyf b := by omega
   simp [h1, this]
 · by_cases h2 : keyf b < keyf a
   · have : keyf a ≠ keyf b := by omega
     simp [h1, h2, this]
   · have : keyf a = keyf b := by omega
     simp [this]
theorem Zm2 {a : Nat} (ha : a < 18446744073709551616) : Zei a = some (decide (a = Zcc a)) := by
 unfold Zei
 rw [Zmy ha]
 unfold Zcc NANB
 by_cases h : isn a
 · by_cases h2 : a = 9221120237041090561
   · simp [h, h2]
   · have : (a : Int) ≠ 9221120237041090561 := by omega
     simp [h, h2, this]
 · simp [h]
theorem wr {x : Int} (h1 : -9223372036854775808 ≤ x) (h2 : x ≤ 9223372036854775807) : IntKind.i64.wrap x = x := by
 rw [IntKind.wrap_i64]; omega
theorem wr1 {i : Nat} (h : i < 9223372036854775807) : IntKind.i64.wrap ((i : Int) + 1) = ((i + 1 : Nat) : Int) := by
 rw [wr (by omega) (by omega)]; omega
theorem Z3d (n : Int) : IntKind.u64.wrap n = n % 18446744073709551616 := by simp [IntKind.wrap, IntKind.bits, IntKind.signed]
theorem wru {x : Int} (h1 : 0 ≤ x) (h2 : x < 18446744073709551616) : IntKind.u64.wrap x = x := by rw [Z3d]; omega
theorem wrm {i : Nat} (h : i < 9223372036854775807) (h0 : 0 < i) : IntKind.i64.wrap ((i : Int) - 1) = ((i - 1 : Nat) : Int) := by
 rw [wr (by omega) (by omega)]; omega
theorem idxn {α : Type} (xs : List α) (i : Nat) : idx xs (i : Int) = xs[i]? := by
 unfold idx
 rw [if_pos (by omega)]
 simp
theorem Zed {α : Type} {xs : List α} {i : Nat} (h : i < xs.length) : idx xs (i : Int) = some xs[i] := by
 rw [idxn, List.getElem?_eq_getElem h]
theorem gd_t {β : Type} [Inhabited β] (x : Option β) : gd true x = x := rfl
theorem gd_f {β : Type} [Inhabited β] (x : Option β) : gd false x = some default := rfl
theorem Zpx {a b : ByteArray} (h : a.toList = b.toList) : a = b := by
 rw [_root_.Go.ByteArray.toList_eq, _root_.Go.ByteArray.toList_eq] at h
 exact ByteArray.ext (Array.toList_inj.1 h)
theorem Zle {a b : ByteArray} : sEq a b = true ↔ a = b := by
 unfold sEq
 constructor
 · intro h; exact Zpx (by simpa using h)
 · rintro rfl; simp
theorem Zlu (a : ByteArray) : sEq a a = true := Zle.2 rfl
theorem Zlx {a b : ByteArray} : sEq a b = false ↔ a ≠ b := by
 cases h : sEq a b
 · simp; intro e; rw [Zle.2 e] at h; cases h
 · simp; exact Zle.1 h
theorem Zwu : ∀ l : List UInt8, Op.bytesLess l l = false
 | [] => rfl
 | x :: l => by simp [Op.bytesLess, Zwu l]
theorem Zsm : ∀ {a b c : List UInt8}, Op.bytesLess a b = true → Op.bytesLess b c = true → Op.bytesLess a c = true
 | [], [], c, h, _ => by simp [Op.bytesLess] at h
 | [], y :: b, [], _, k => by simp [Op.bytesLess] at k
 | [], y :: b, z :: c, _, _ => rfl
 | x :: a, [], c, h, _ => by simp [Op.bytesLess] at h
 | x :: a, y :: b, [], _, k => by simp [Op.bytesLess] at k
 | x :: a, y :: b, z :: c, h, k => by
   simp only [Op.bytesLess, Bool.or_eq_true, Bool.and_eq_true, decide_eq_true_eq, beq_iff_eq] at h k ⊢
   rcases h with h | ⟨h1, h2⟩ <;> rcases k with k | ⟨k1, k2⟩
   · exact .inl (UInt8.lt_trans h k)
   · subst k1; exact .inl h
   · subst h1; exact .inl k
   · subst h1; subst k1; exact .inr ⟨rfl, Zsm h2 k2⟩
theorem Zv5 : ∀ (a b : List UInt8), Op.bytesLess a b = false → a ≠ b → Op.bytesLess b a = true
 | [], [], _, h => absurd rfl h
 | [], y :: b, h, _ => by simp [Op.bytesLess] at h
 | x :: a, [], _, _ => rfl
 | x :: a, y :: b, h, hn => by
   simp only [Op.bytesLess, Bool.or_eq_false_iff, decide_eq_false_iff_not, Bool.and_eq_false_iff] at h
   simp only [Op.bytesLess, Bool.or_eq_true, Bool.and_eq_true, decide_eq_true_eq, beq_iff_eq]
   by_cases e : x = y
   · subst e
     right
     refine ⟨rfl, Zv5 a b ?_ (fun h' => hn (by rw [h']))⟩
     rcases h.2 with h | h
     · simp at h
     · exact h
   · left
     rcases UInt8.lt_or_lt_of_ne e with h' | h'
     · exact absurd h' h.1
     · exact h'
theorem Zun (a : ByteArray) : sLt a a = false := Zwu _
theorem Zrf {a b c : ByteArray} (h : sLt a b = true) (k : sLt b c = true) : sLt a c = true := Zsm h k
theorem Z01 {a b : ByteArray} (h : sLt a b = false) (hn : a ≠ b) : sLt b a = true := Zv5 _ _ h (fun e => hn (Zpx e))
theorem Zxd {a b : ByteArray} (h : sLt a b = true) : a ≠ b := fun e => by subst e; rw [Zun] at h; cases h
abbrev W64 : Nat := 18446744073709551616
structure Zhq (a : Zb) : Prop where
 real : a.Real < W64
 len : a.List.length < 4611686018427387904
 sc : ∀ e ∈ a.List, e.Score < W64
def Zft (a b : Zh) : Bool := if keyf a.Score = keyf b.Score then sLt a.Name b.Name else decide (keyf b.Score < keyf a.Score)
theorem Zns {a b : Zh} (ha : a.Score < W64) (hb : b.Score < W64) : Zib a b = some (Zft a b) := by
 unfold Zib Zft
 rw [Zlf ha hb, Zmf hb ha]
 by_cases h : keyf a.Score = keyf b.Score <;> simp [h]
theorem Zss {a b : Zh} (ha : a.Score < W64) (hb : b.Score < W64) : Zew a b = some (Zft a b) := by
 unfold Zew Zft
 rw [Zjn hb ha, Zkf ha hb]
 by_cases h : keyf a.Score = keyf b.Score
 · simp [h]
 · by_cases h2 : keyf b.Score < keyf a.Score <;> simp [h, h2]
theorem Zuh {a : Nat} (ha : a < W64) : Zfs a = some (decide (keyf a = keyf 0)) := by
 unfold Zfs
 rw [Zkf ha (by decide)]
 rfl
def Zg3 (k : Int) (l : List Zh) (i : Nat) : Int :=
 match l[i]? with
 | none => 0
 | some x =>
   let p := (l[i - 1]?).getD default
   if (16 : Int) < x.Name.size then 3
   else if (k = 8 ∧ keyf x.Score ≠ keyf 0) ∨ x.Score ≠ Zcc x.Score then 4
   else if 0 < i ∧ k = 8 ∧ sLt p.Name x.Name = false then 4
   else if 0 < i ∧ k = 9 ∧ Zft p x = false then 4
   else 0
theorem Zwh {k : Int} {l : List Zh} {i n : Nat} (hi : i < l.length) (hl : l.length < 4611686018427387904) (hs : ∀ e ∈ l, e.Score < W64) :
   Ze3 k l (n + 1) (i : Int) = if Zg3 k l i = 0 then Ze3 k l n ((i + 1 : Nat) : Int) else some (.inl (Zg3 k l i)) := by
 have hx : l[i].Score < W64 := hs _ (List.getElem_mem hi)
 rw [Ze3, if_pos (by simp; omega), Zed hi, wr1 (by omega)]
 simp only [Option.bind_some]
 rw [Zlf hx (by decide), Zof hx]
 simp only [Zg3, List.getElem?_eq_getElem hi]
 by_cases h1 : (16 : Int) < l[i].Name.size
 · simp [h1]
 · simp only [h1, decide_false, if_false, Bool.false_eq_true]
   have hz : ((0 : Nat) : Int) = 0 := rfl
   by_cases h0 : 0 < i
   · have hp : i - 1 < l.length := by omega
     have hps : l[i - 1].Score < W64 := hs _ (List.getElem_mem hp)
     have hd : (decide ((0 : Int) < (i : Int))) = true := by simp; omega
     rw [hd, wrm (by omega) h0, Zed hp]
     simp only [List.getElem?_eq_getElem hp, Option.getD_some, h0, true_and, Bool.true_and]
     by_cases h8 : k = 8
     · subst h8
       simp only [beq_self_eq_true, gd_t, Option.bind_some, true_and, Bool.true_and]
       by_cases hk : keyf l[i].Score = keyf 0
       · by_cases hc : l[i].Score = Zcc l[i].Score
         · simp [hk, ← hc, gd]
           cases sLt l[i - 1].Name l[i].Name <;> simp
         · simp [hk, hc, gd]
       · simp [hk, gd]
     · have h8' : (k == 8) = false := by simpa using h8
       simp only [h8', h8, gd_f, gd_t, Option.bind_some, false_and, false_or, Bool.false_and, Bool.not_false, Bool.false_or]
       by_cases hc : l[i].Score = Zcc l[i].Score
       · by_cases h9 : k = 9
         · subst h9
           simp [← hc, gd, Zns hps hx]
           cases Zft l[i - 1] l[i] <;> simp
         · simp [← hc, gd, h9]
       · simp [hc]
   · have h00 : i = 0 := by omega
     subst h00
     simp only [Nat.lt_irrefl, false_and, if_false, Int.ofNat_zero, Int.lt_irrefl, decide_false, Bool.false_and, gd_f, Option.bind_some, Int.natCast_zero]
     by_cases h8 : k = 8
     · subst h8
       simp only [beq_self_eq_true, gd_t, Option.bind_some, true_and, Bool.true_and]
       by_cases hk : keyf l[0].Score = keyf 0
       · by_cases hc : l[0].Score = Zcc l[0].Score
         · simp [hk, ← hc, gd]
         · simp [hk, hc, gd]
       · simp [hk, gd]
     · have h8' : (k == 8) = false := by simpa using h8
       simp only [h8', h8, gd_f, gd_t, Option.bind_some, false_and, false_or, Bool.false_and, Bool.not_false, Bool.false_or]
       by_cases hc : l[0].Score = Zcc l[0].Score
       · simp [← hc, gd]
       · simp [hc]
theorem Zxu {k : Int} {l : List Zh} {i : Nat} (hi : i < l.length) (hl : l.length < 4611686018427387904) (hs : ∀ e ∈ l, e.Score < W64) : Zgt k l (i : Int) = some (Zg3 k l i) := by
 have hx : l[i].Score < W64 := hs _ (List.getElem_mem hi)
 unfold Zgt
 rw [Zed hi]
 simp only [Option.bind_some]
 rw [Zuh hx, Zm2 hx]
 simp only [Zg3, List.getElem?_eq_getElem hi]
 by_cases h1 : (16 : Int) < l[i].Name.size
 · simp [h1]
 · simp only [h1, decide_false, if_false, Bool.false_eq_true]
   by_cases h0 : 0 < i
   · have hp : i - 1 < l.length := by omega
     have hps : l[i - 1].Score < W64 := hs _ (List.getElem_mem hp)
     have hd : (decide ((0 : Int) < (i : Int))) = true := by simp; omega
     rw [hd, wrm (by omega) h0, Zed hp]
     simp only [List.getElem?_eq_getElem hp, Option.getD_some, h0, true_and, Bool.true_and]
     by_cases h8 : k = 8
     · subst h8
       simp only [beq_self_eq_true, gd_t, Option.bind_some, true_and, Bool.true_and]
       by_cases hk : keyf l[i].Score = keyf 0
       · by_cases hc : l[i].Score = Zcc l[i].Score
         · simp [hk, ← hc, gd]
           cases sLt l[i - 1].Name l[i].Name <;> simp
         · simp [hk, hc, gd]
       · simp [hk, gd]
     · have h8' : (k == 8) = false := by simpa using h8
       simp only [h8', h8, gd_f, gd_t, Option.bind_some, false_and, false_or, Bool.false_and, Bool.not_false, Bool.false_or]
       by_cases hc : l[i].Score = Zcc l[i].Score
       · by_cases h9 : k = 9
         · subst h9
           simp [← hc, gd, Zss hps hx]
           cases Zft l[i - 1] l[i] <;> simp
         · simp [← hc, gd, h9]
       · simp [hc]
   · have h00 : i = 0 := by omega
     subst h00
     simp only [Nat.lt_irrefl, false_and, if_false, Int.ofNat_zero, Int.lt_irrefl, decide_false, Bool.false_and, gd_f, Option.bind_some, Int.natCast_zero]
     by_cases h8 : k = 8
     · subst h8
       simp only [beq_self_eq_true, gd_t, Option.bind_some, true_and, Bool.true_and]
       by_cases hk : keyf l[0].Score = keyf 0
       · by_cases hc : l[0].Score = Zcc l[0].Score
         · simp [hk, ← hc, gd]
         · simp [hk, hc, gd]
       · simp [hk, gd]
     · have h8' : (k == 8) = false := by simpa using h8
       simp only [h8', h8, gd_f, gd_t, Option.bind_some, false_and, false_or, Bool.false_and, Bool.not_false, Bool.false_or]
       by_cases hc : l[0].Score = Zcc l[0].Score
       · simp [← hc, gd]
       · simp [hc]
def Zha (k : Int) (l : List Zh) : Nat → Nat → Int
 | _, 0 => 0
 | i, n + 1 => if Zg3 k l i = 0 then Zha k l (i + 1) n else Zg3 k l i
def endC (c : Int) : Int ⊕ Unit := if c = 0 then .inr () else .inl c
theorem Zpi {k : Int} {l : List Zh} {i n : Nat} (h : Zg3 k l i = 0) : Zha k l i (n + 1) = Zha k l (i + 1) n := by simp [Zha, h]
theorem Zpk {k : Int} {l : List Zh} {i n : Nat} (h : ¬ Zg3 k l i = 0) : Zha k l i (n + 1) = Zg3 k l i := by simp [Zha, h]
theorem Zww {c : Int} (h : ¬ c = 0) : endC c = .inl c := if_neg h
theorem Zqc {k : Int} {l : List Zh} (hl : l.length < 4611686018427387904) (hs : ∀ e ∈ l, e.Score < W64) : ∀ (n i : Nat), i + n = l.length →
   Ze3 k l (n + 1) (i : Int) = some (endC (Zha k l i n))
 | 0, i, h => by
   rw [Ze3, if_neg (by simp; omega)]
   rfl
 | n + 1, i, h => by
   rw [Zwh (by omega) hl hs]
   by_cases hc : Zg3 k l i = 0
   · rw [if_pos hc, Zpi hc, Zqc hl hs n (i + 1) (by omega)]
   · rw [if_neg hc, Zpk hc, Zww hc]
theorem Zyi {k : Int} {l : List Zh} (hl : l.length < 4611686018427387904) (hs : ∀ e ∈ l, e.Score < W64) : Zky k l = some (Zha k l 0 l.length) := by
 unfold Zky
 rw [show (Int.toNat ((l.length : Int) - (0 : Int)) + 1) = l.length + 1 by omega, show (0 : Int) = ((0 : Nat) : Int) from rfl, Zqc hl hs l.length 0 (by omega)]
 unfold endC
 by_cases h : Zha k l 0 l.length = 0 <;> simp [h]
theorem Zpd {a : Zb} (ha : Zhq a) : ∀ (n i : Nat), i + n = a.List.length →
   Zdb a (n + 1) (i : Int) = some (endC (Zha a.Kind a.List i n))
 | 0, i, h => by
   rw [Zdb, if_neg (by simp; omega)]
   rfl
 | n + 1, i, h => by
   have hl := ha.len
   rw [Zdb, if_pos (by simp; omega), Zxu (by omega) hl ha.sc, wr1 (by omega)]
   simp only [Option.bind_some]
   by_cases hc : Zg3 a.Kind a.List i = 0
   · rw [if_neg (by simp [hc]), Zpi hc, Zpd ha n (i + 1) (by omega)]
   · rw [if_pos (by simp [hc]), Zpk hc, Zww hc]
def Zhn (t n b r l : Bool) (a : Zb) : Bool := (t || sEq a.Text ⟨#[]⟩) && (n || a.Num == 0) && (b || (a.Low == 0 && a.High == 0)) && (r || decide (keyf a.Real = keyf 0)) && (l || (a.Cap == 0 && (a.List.length : Int) == 0))
theorem Z0p {a : Zb} (ha : Zhq a) (t n b r l : Bool) : Zls a ⟨t, n, b, r, l⟩ = some (Zhn t n b r l a) := by
 unfold Zls Zhn
 rw [Zlf ha.real (by decide)]
 simp only
 generalize sEq a.Text ⟨#[]⟩ = x1
 generalize (a.Num == 0) = x2
 generalize (a.Low == 0) = x3
 generalize (a.High == 0) = x4
 generalize decide (keyf a.Real = keyf 0) = x5
 generalize (a.Cap == 0) = x6
 generalize ((a.List.length : Int) == 0) = x7
 revert t n b r l x1 x2 x3 x4 x5 x6 x7
 decide
theorem Z0y {a : Zb} (ha : Zhq a) {s : ByteArray} {t n b r l : Bool} (h : Zcp s (Int.toNat ((s.size : Int) - (0 : Int)) + 1) false false false false false 0 = some (t, n, b, r, l)) : Zgq a s = some (Zhn t n b r l a) := by
 unfold Zgq Zhn
 rw [h, Zuh ha.real]
 simp only [Option.bind_some, bne]
 generalize sEq a.Text ⟨#[]⟩ = x1
 generalize (a.Num == 0) = x2
 generalize (a.Low == 0) = x3
 generalize (a.High == 0) = x4
 generalize decide (keyf a.Real = keyf 0) = x5
 generalize (a.Cap == 0) = x6
 generalize ((a.List.length : Int) == 0) = x7
 clear h
 revert t n b r l x1 x2 x3 x4 x5 x6 x7
 decide
theorem Z30 : Zcp ⟨#[116]⟩ (Int.toNat (((⟨#[116]⟩ : ByteArray).size : Int) - (0 : Int)) + 1) false false false false false 0 = some (true, false, false, false, false) := by kernel_rfl
theorem Zym : Zcp ⟨#[110]⟩ (Int.toNat (((⟨#[110]⟩ : ByteArray).size : Int) - (0 : Int)) + 1) false false false false false 0 = some (false, true, false, false, false) := by kernel_rfl
theorem Z2k : Zcp ⟨#[110, 98]⟩ (Int.toNat (((⟨#[110, 98]⟩ : ByteArray).size : Int) - (0 : Int)) + 1) false false false false false 0 = some (false, true, true, false, false) := by kernel_rfl
theorem Zvv : Zcp ⟨#[114]⟩ (Int.toNat (((⟨#[114]⟩ : ByteArray).size : Int) - (0 : Int)) + 1) false false false false false 0 = some (false, false, false, true, false) := by kernel_rfl
theorem Zzo : Zcp ⟨#[108]⟩ (Int.toNat (((⟨#[108]⟩ : ByteArray).size : Int) - (0 : Int)) + 1) false false false false false 0 = some (false, false, false, false, true) := by kernel_rfl
def Zmg (t n b r l : Bool) (a : Zb) : Int :=
 if Zhn t n b r l a = false then 4
 else if (64 : Int) < a.Text.size then 3
 else if b = true ∧ (a.Low < -2305843009213693952 ∨ 2305843009213693952 < a.High ∨ a.Num < a.Low ∨ a.High < a.Num) then 1
 else if a.Real ≠ Zcc a.Real then 4
 else if l = false then 0
 else if a.Cap < 1 ∨ 32 < a.Cap then 1
 else if a.Cap < a.List.length then 8
 else Zha a.Kind a.List 0 a.List.length
theorem Zfb {a : Zb} (ha : Zhq a) {t n b r l : Bool} (hk : ¬ (a.Kind ≤ 0 ∨ 10 ≤ a.Kind)) (hs : Zdo a.Kind = some ⟨t, n, b, r, l⟩) : Zdy a = some (Zmg t n b r l a) := by
 unfold Zdy Zmg
 rw [hs]
 simp only [Option.bind_some]
 rw [Z0p ha, Zof ha.real, Zyi ha.len ha.sc]
 simp only [Option.bind_some]
 rw [if_neg (by simpa using hk)]
 by_cases h1 : Zhn t n b r l a = false
 · rw [if_pos h1, if_pos (by simp [h1])]
 · rw [if_neg h1, if_neg (by simpa using h1)]
   by_cases h2 : (64 : Int) < a.Text.size
   · rw [if_pos h2, if_pos (by simpa using h2)]
   · rw [if_neg h2, if_neg (by simpa using h2)]
     by_cases h3 : b = true ∧ (a.Low < -2305843009213693952 ∨ 2305843009213693952 < a.High ∨ a.Num < a.Low ∨ a.High < a.Num)
     · rw [if_pos h3, if_pos (by simpa [or_assoc] using h3)]
     · rw [if_neg h3, if_neg (by simpa [or_assoc] using h3)]
       by_cases h4 : a.Real = Zcc a.Real
       · rw [if_neg (show ¬ (a.Real ≠ Zcc a.Real) from fun h => h h4), decide_eq_true h4]
         simp only [Bool.not_true, Bool.false_eq_true, if_false]
         cases l
         · simp
         · simp only [Bool.not_true, Bool.false_eq_true, if_false, Bool.true_eq_false]
           by_cases h5 : a.Cap < 1 ∨ 32 < a.Cap
           · rw [if_pos h5, if_pos (by simpa using h5)]
           · rw [if_neg h5, if_neg (by simpa using h5)]
             by_cases h6 : a.Cap < a.List.length
             · rw [if_pos h6, if_pos (by simpa using h6)]
             · rw [if_neg h6, if_neg (by simpa using h6)]
       · rw [if_pos (show a.Real ≠ Zcc a.Real from h4), decide_eq_false h4]
         rfl
theorem Zxa : Zdo 1 = some ⟨true, false, false, false, false⟩ := by kernel_rfl
theorem Zw1 : Zdo 2 = some ⟨false, true, false, false, false⟩ := by kernel_rfl
theorem Zxg : Zdo 3 = some ⟨false, true, false, false, false⟩ := by kernel_rfl
theorem Zw3 : Zdo 4 = some ⟨false, true, true, false, false⟩ := by kernel_rfl
theorem Zwe : Zdo 5 = some ⟨false, false, false, true, false⟩ := by kernel_rfl
theorem Zwm : Zdo 6 = some ⟨false, false, false, true, false⟩ := by kernel_rfl
theorem Zwn : Zdo 7 = some ⟨false, false, false, true, false⟩ := by kernel_rfl
theorem Zvy : Zdo 8 = some ⟨false, false, false, false, true⟩ := by kernel_rfl
theorem Zwp : Zdo 9 = some ⟨false, false, false, false, true⟩ := by kernel_rfl
def Zoi (t n b r l : Bool) (k : Int) (a : Zb) : Int :=
 if Zhn t n b r l a = false then 4
 else if k = 1 ∧ (64 : Int) < a.Text.size then 3
 else if k = 4 ∧ (a.Low < -2305843009213693952 ∨ 2305843009213693952 < a.High ∨ a.Num < a.Low ∨ a.High < a.Num) then 1
 else if a.Real ≠ Zcc a.Real then 4
 else if k < 8 then 0
 else if a.Cap < 1 ∨ 32 < a.Cap then 1
 else if a.Cap < a.List.length then 8
 else Zha a.Kind a.List 0 a.List.length
theorem Zfe {a : Zb} (ha : Zhq a) {t n b r l : Bool} {s : ByteArray} (hk : ¬ (a.Kind < 1 ∨ 9 < a.Kind)) (hf : Zg2 a.Kind = some s)
   (ho : Zcp s (Int.toNat ((s.size : Int) - (0 : Int)) + 1) false false false false false 0 = some (t, n, b, r, l)) : Zc9 a = some (Zoi t n b r l a.Kind a) := by
 unfold Zc9 Zoi
 have hw : IntKind.i64.wrap (0 - (2305843009213693952 : Int)) = -2305843009213693952 := by decide
 rw [hf, Zm2 ha.real, hw, show (Int.toNat ((a.List.length : Int) - (0 : Int)) + 1) = a.List.length + 1 by omega]
 have hloop := Zpd ha a.List.length 0 (by omega)
 rw [show ((0 : Nat) : Int) = 0 from rfl] at hloop
 rw [hloop]
 simp only [Option.bind_some]
 rw [if_neg (by simpa using hk), Z0y ha ho]
 simp only [Option.bind_some]
 by_cases h1 : Zhn t n b r l a = false
 · rw [if_pos h1, if_pos (by simp [h1])]
 · rw [if_neg h1, if_neg (by simpa using h1)]
   by_cases h2 : a.Kind = 1 ∧ (64 : Int) < a.Text.size
   · rw [if_pos h2, if_pos (by simpa using h2)]
   · rw [if_neg h2, if_neg (by simpa using h2)]
     by_cases h3 : a.Kind = 4 ∧ (a.Low < -2305843009213693952 ∨ 2305843009213693952 < a.High ∨ a.Num < a.Low ∨ a.High < a.Num)
     · rw [if_pos h3, if_pos (by simpa [or_assoc] using h3)]
     · rw [if_neg h3, if_neg (by simpa [or_assoc] using h3)]
       by_cases h4 : a.Real = Zcc a.Real
       · rw [if_neg (show ¬ (a.Real ≠ Zcc a.Real) from fun h => h h4), decide_eq_true h4]
         simp only [Bool.not_true, Bool.false_eq_true, if_false]
         by_cases h7 : a.Kind < 8
         · rw [if_pos h7, if_pos (by simpa using h7)]
         · rw [if_neg h7, if_neg (by simpa using h7)]
           by_cases h5 : a.Cap < 1 ∨ 32 < a.Cap
           · rw [if_pos h5, if_pos (by simpa using h5)]
           · rw [if_neg h5, if_neg (by simpa using h5)]
             by_cases h6 : a.Cap < a.List.length
             · rw [if_pos h6, if_pos (by simpa using h6)]
             · rw [if_neg h6, if_neg (by simpa using h6)]
               unfold endC
               by_cases h : Zha a.Kind a.List 0 a.List.length = 0 <;> simp [h]
       · rw [if_pos (show a.Real ≠ Zcc a.Real from h4), decide_eq_false h4]
         rfl
theorem Zz5 {t n b r l : Bool} {a : Zb} (h : ¬ Zhn t n b r l a = false) (ht : t = false) : a.Text.size = 0 := by
 subst ht
 have : Zhn false n b r l a = true := by simpa using h
 unfold Zhn at this
 simp only [Bool.false_or, Bool.and_eq_true] at this
 have := Zle.1 this.1.1.1.1
 rw [this]; rfl
theorem D_eq (t n b r l : Bool) (k : Int) (a : Zb) (ht : t = true ↔ k = 1) (hb : b = true ↔ k = 4) (hl : l = false ↔ k < 8) : Zoi t n b r l k a = Zmg t n b r l a := by
 unfold Zoi Zmg
 by_cases h1 : Zhn t n b r l a = false
 · rw [if_pos h1, if_pos h1]
 · rw [if_neg h1, if_neg h1]
   have e2 : (k = 1 ∧ (64 : Int) < a.Text.size) ↔ (64 : Int) < a.Text.size := by
     constructor
     · exact fun h => h.2
     · intro h
       refine ⟨ht.1 ?_, h⟩
       cases t
       · have := Zz5 h1 rfl; omega
       · rfl
   simp only [e2, hb, hl]
theorem Zk5 {a : Zb} (ha : Zhq a) : ∃ c, Zdy a = some c ∧ Zc9 a = some c := by
 by_cases hk : a.Kind ≤ 0 ∨ 10 ≤ a.Kind
 · refine ⟨5, ?_, ?_⟩
   · unfold Zdy
     have hs : ∃ s, Zdo a.Kind = some s := by
       have h1 : ¬ a.Kind = 1 := by omega
       have h2 : ¬ a.Kind = 2 := by omega
       have h3 : ¬ a.Kind = 3 := by omega
       have h4 : ¬ a.Kind = 4 := by omega
       have h5 : ¬ a.Kind = 5 := by omega
       have h6 : ¬ a.Kind = 6 := by omega
       have h7 : ¬ a.Kind = 7 := by omega
       have h8 : ¬ a.Kind = 8 := by omega
       have h9 : ¬ a.Kind = 9 := by omega
       exact ⟨⟨false, false, false, false, false⟩, by simp [Zdo, Zif, Zgv, Zih, h1, h2, h3, h4, h5, h6, h7, h8, h9]⟩
     obtain ⟨s, hs⟩ := hs
     rw [hs]
     simp only [Option.bind_some]
     rw [if_pos (by simpa using hk)]
   · unfold Zc9
     rw [if_pos (by simp; omega)]
 · have hk2 : ¬ (a.Kind < 1 ∨ 9 < a.Kind) := by omega
   have hk' : a.Kind = 1 ∨ a.Kind = 2 ∨ a.Kind = 3 ∨ a.Kind = 4 ∨ a.Kind = 5 ∨ a.Kind = 6 ∨ a.Kind = 7 ∨ a.Kind = 8 ∨ a.Kind = 9 := by omega
   rcases hk' with h | h | h | h | h | h | h | h | h
   · exact ⟨_, Zfb ha hk (by rw [h]; exact Zxa), by rw [Zfe ha hk2 (by rw [h]; kernel_rfl) Z30, D_eq _ _ _ _ _ _ _ (by simp [h]) (by simp [h]) (by simp [h])]⟩
   · exact ⟨_, Zfb ha hk (by rw [h]; exact Zw1), by rw [Zfe ha hk2 (by rw [h]; kernel_rfl) Zym, D_eq _ _ _ _ _ _ _ (by simp [h]) (by simp [h]) (by simp [h])]⟩
   · exact ⟨_, Zfb ha hk (by rw [h]; exact Zxg), by rw [Zfe ha hk2 (by rw [h]; kernel_rfl) Zym, D_eq _ _ _ _ _ _ _ (by simp [h]) (by simp [h]) (by simp [h])]⟩
   · exact ⟨_, Zfb ha hk (by rw [h]; exact Zw3), by rw [Zfe ha hk2 (by rw [h]; kernel_rfl) Z2k, D_eq _ _ _ _ _ _ _ (by simp [h]) (by simp [h]) (by simp [h])]⟩
   · exact ⟨_, Zfb ha hk (by rw [h]; exact Zwe), by rw [Zfe ha hk2 (by rw [h]; kernel_rfl) Zvv, D_eq _ _ _ _ _ _ _ (by simp [h]) (by simp [h]) (by simp [h])]⟩
   · exact ⟨_, Zfb ha hk (by rw [h]; exact Zwm), by rw [Zfe ha hk2 (by rw [h]; kernel_rfl) Zvv, D_eq _ _ _ _ _ _ _ (by simp [h]) (by simp [h]) (by simp [h])]⟩
   · exact ⟨_, Zfb ha hk (by rw [h]; exact Zwn), by rw [Zfe ha hk2 (by rw [h]; kernel_rfl) Zvv, D_eq _ _ _ _ _ _ _ (by simp [h]) (by simp [h]) (by simp [h])]⟩
   · exact ⟨_, Zfb ha hk (by rw [h]; exact Zvy), by rw [Zfe ha hk2 (by rw [h]; kernel_rfl) Zzo, D_eq _ _ _ _ _ _ _ (by simp [h]) (by simp [h]) (by simp [h])]⟩
   · exact ⟨_, Zfb ha hk (by rw [h]; exact Zwp), by rw [Zfe ha hk2 (by rw [h]; kernel_rfl) Zzo, D_eq _ _ _ _ _ _ _ (by simp [h]) (by simp [h]) (by simp [h])]⟩
def endB : Bool → Bool ⊕ Unit
 | true => .inr ()
 | false => .inl false
def eqI (x y : Zh) : Bool := sEq x.Name y.Name && decide (keyf x.Score = keyf y.Score)
def eqL : List Zh → List Zh → Bool
 | [], [] => true
 | x :: xs, y :: ys => eqI x y && eqL xs ys
 | _, _ => false
def Zjg (a b : Zb) : Bool := (a.Kind == b.Kind) && (a.Num == b.Num) && (a.Low == b.Low) && (a.High == b.High) && decide (keyf a.Real = keyf b.Real) && (a.Cap == b.Cap) && sEq a.Text b.Text && eqL a.List b.List
theorem Zqr : ∀ {a b : List Zh}, eqL a b = true → a.length = b.length
 | [], [], _ => rfl
 | x :: xs, y :: ys, h => by
   simp only [eqL, Bool.and_eq_true] at h
   simp [Zqr h.2]
 | [], _ :: _, h => by simp [eqL] at h
 | _ :: _, [], h => by simp [eqL] at h
theorem Zx7 {x y : Zh} (hx : x.Score < W64) (hy : y.Score < W64) : Zgw x y = some (eqI x y) := by
 unfold Zgw eqI
 rw [Zlf hx hy]
 cases sEq x.Name y.Name <;> simp [gd]
theorem Zsx {a b : List Zh} (ha : ∀ e ∈ a, e.Score < W64) (hb : ∀ e ∈ b, e.Score < W64) (hl : a.length < 4611686018427387904) (he : a.length = b.length) : ∀ (n i : Nat), i + n = a.length →
   Zbg a b (fun y0 y1 => Zgw y0 y1) (n + 1) (i : Int) = some (endB (eqL (a.drop i) (b.drop i)))
 | 0, i, h => by
   rw [Zbg, if_neg (by simp; omega), List.drop_of_length_le (by omega), List.drop_of_length_le (by omega)]
   rfl
 | n + 1, i, h => by
   have h1 : i < a.length := by omega
   have h2 : i < b.length := by omega
   rw [Zbg, if_pos (by simp; omega), Zed h1, Zed h2, wr1 (by omega)]
   simp only [Option.bind_some]
   rw [Zx7 (ha _ (List.getElem_mem h1)) (hb _ (List.getElem_mem h2)), List.drop_eq_getElem_cons h1, List.drop_eq_getElem_cons h2]
   simp only [Option.bind_some, eqL]
   cases hq : eqI a[i] b[i]
   · simp [endB]
   · simp only [Bool.not_true, Bool.false_eq_true, if_false, Bool.true_and]
     exact Zsx ha hb hl he n (i + 1) (by omega)
theorem Z2m {a b : List Zh} (ha : ∀ e ∈ a, e.Score < W64) (hb : ∀ e ∈ b, e.Score < W64) (hl : a.length < 4611686018427387904) : Zb0 a b (fun y0 y1 => Zgw y0 y1) = some (eqL a b) := by
 unfold Zb0
 by_cases he : a.length = b.length
 · rw [if_neg (by simp; omega), show (Int.toNat ((a.length : Int) - (0 : Int)) + 1) = a.length + 1 by omega]
   have := Zsx ha hb hl he a.length 0 (by omega)
   rw [show ((0 : Nat) : Int) = 0 from rfl] at this
   rw [this]
   simp only [List.drop_zero]
   cases eqL a b <;> simp [endB]
 · rw [if_pos (by simp; omega)]
   cases h : eqL a b
   · rfl
   · exact absurd (Zqr h) he
theorem Zx6 {a b : Zb} (ha : Zhq a) (hb : Zhq b) : Zlk a b = some (Zjg a b) := by
 unfold Zlk Zjg
 rw [Zlf ha.real hb.real, Z2m ha.sc hb.sc ha.len]
 generalize (a.Kind == b.Kind) = x1
 generalize (a.Num == b.Num) = x2
 generalize (a.Low == b.Low) = x3
 generalize (a.High == b.High) = x4
 generalize decide (keyf a.Real = keyf b.Real) = x5
 generalize (a.Cap == b.Cap) = x6
 generalize sEq a.Text b.Text = x7
 generalize eqL a.List b.List = x8
 revert x1 x2 x3 x4 x5 x6 x7 x8
 decide
theorem Zpz {a b : Zb} (ha : Zhq a) (hb : Zhq b) (he : a.List.length = b.List.length) : ∀ (n i : Nat), i + n = a.List.length →
   Zdi a b (n + 1) (i : Int) = some (endB (eqL (a.List.drop i) (b.List.drop i)))
 | 0, i, h => by
   rw [Zdi, if_neg (by simp; omega), List.drop_of_length_le (by omega), List.drop_of_length_le (by omega)]
   rfl
 | n + 1, i, h => by
   have h1 : i < a.List.length := by omega
   have h2 : i < b.List.length := by omega
   have hl := ha.len
   have hs1 := ha.sc _ (List.getElem_mem h1)
   have hs2 := hb.sc _ (List.getElem_mem h2)
   rw [Zdi, if_pos (by simp; omega), Zed h1, Zed h2, wr1 (by omega), List.drop_eq_getElem_cons h1, List.drop_eq_getElem_cons h2]
   simp only [Option.bind_some, eqL, eqI]
   cases hn : sEq a.List[i].Name b.List[i].Name
   · simp [gd, endB]
   · simp only [Bool.not_true, Bool.not_false, gd_t, Option.bind_some]
     rw [Zkf hs1 hs2]
     simp only [Option.bind_some, Bool.false_or, Bool.true_and]
     by_cases hk : keyf a.List[i].Score = keyf b.List[i].Score
     · simp only [hk, decide_true, Bool.not_true, Bool.false_eq_true, if_false, Bool.true_and]
       exact Zpz ha hb he n (i + 1) (by omega)
     · simp [hk, endB]
theorem Znt {a b : Zb} (ha : Zhq a) (hb : Zhq b) : Zeg a b = some (Zjg a b) := by
 unfold Zeg Zjg
 rw [Zkf ha.real hb.real]
 by_cases he : a.List.length = b.List.length
 · have := Zpz ha hb he a.List.length 0 (by omega)
   rw [show ((0 : Nat) : Int) = 0 from rfl] at this
   rw [show (Int.toNat ((a.List.length : Int) - (0 : Int)) + 1) = a.List.length + 1 by omega, this]
   have hn : ((a.List.length : Int) != (b.List.length : Int)) = false := by simp; omega
   rw [hn]
   simp only [List.drop_zero, bne]
   generalize (a.Kind == b.Kind) = x1
   generalize (a.Num == b.Num) = x2
   generalize (a.Low == b.Low) = x3
   generalize (a.High == b.High) = x4
   generalize decide (keyf a.Real = keyf b.Real) = x5
   generalize (a.Cap == b.Cap) = x6
   generalize sEq a.Text b.Text = x7
   generalize eqL a.List b.List = x8
   clear this hn he
   revert x1 x2 x3 x4 x5 x6 x7 x8
   decide
 · have h8 : eqL a.List b.List = false := by
     cases h : eqL a.List b.List
     · rfl
     · exact absurd (Zqr h) he
   have hn : ((a.List.length : Int) != (b.List.length : Int)) = true := by simp; omega
   rw [hn, h8]
   simp only [bne, Bool.or_true, Option.bind_some, if_true, Bool.and_false, ite_self]
theorem Zpr {a : Zb} (hl : a.List.length ≤ 9223372036854775807) : ∀ (n i : Nat), i + n = a.List.length → ∃ z, Zd0 a (n + 1) (i : Int) = some z ∧ (z = .inl 1 ∨ z = .inr ())
 | 0, i, h => by
   rw [Zd0, if_neg (by simp; omega)]
   exact ⟨_, rfl, .inr rfl⟩
 | n + 1, i, h => by
   rw [Zd0, if_pos (by simp; omega), Zed (by omega), wr1 (by omega)]
   simp only [Option.bind_some]
   split
   · exact ⟨_, rfl, .inl rfl⟩
   · exact Zpr hl n (i + 1) (by omega)
theorem Zy9 {a : Zb} (hl : a.List.length ≤ 9223372036854775807) : ∃ c, Zf3 a = some c ∧ (c = 0 ∨ c = 1) ∧ (c = 0 → a.List.length ≤ 100) := by
 unfold Zf3
 by_cases h : (100 : Int) < a.List.length ∨ (1000 : Int) < a.Text.size
 · rw [if_pos (by simpa using h)]
   exact ⟨1, rfl, .inr rfl, fun h => by cases h⟩
 · rw [if_neg (by simpa using h), show (Int.toNat ((a.List.length : Int) - (0 : Int)) + 1) = a.List.length + 1 by omega]
   obtain ⟨z, hz, hc⟩ := Zpr hl a.List.length 0 (by omega)
   rw [show ((0 : Nat) : Int) = 0 from rfl] at hz
   rw [hz]
   rcases hc with rfl | rfl
   · exact ⟨1, rfl, .inr rfl, fun h => by cases h⟩
   · exact ⟨0, rfl, .inl rfl, fun _ => by omega⟩
theorem Zos {β : Type} [Inhabited β] (c : Bool) (v : β) : gd c (some v) = some (if c then v else default) := by cases c <;> rfl
def Zpp (a : Zs) : Prop := Zhq a.Make ∧ a.X < W64
abbrev zrc : Zb := { Kind := 0, Num := 0, Low := 0, High := 0, Real := 0, Cap := 0, Text := ByteArray.empty, List := [] }
theorem Zwx : Zhq zrc := ⟨by decide, by decide, fun e he => by cases he⟩
def actD (n x s m o1 k1 k2 : Bool) (c : Int) (a : Zs) : Int :=
 if (sEq a.Key ⟨#[]⟩ || decide ((24 : Int) < a.Key.size)) = true then 1
 else if (!(((n || a.N == 0) && (x || decide (keyf a.X = keyf 0))) && (s || sEq a.S ⟨#[]⟩) && (m || Zjg a.Make zrc))) = true then 4
 else if decide ((if o1 = true then (64 : Int) else 16) < a.S.size) = true then 3
 else if (k2 && (decide (a.N < 0) || decide (2305843009213693952 < a.N))) = true then 1
 else if (!decide (a.X = Zcc a.X)) = true then 4
 else if k1 = true then c else 0
theorem Z09 (k : ByteArray) : (decide ((k.size : Int) < 1)) = sEq k ⟨#[]⟩ := by
 by_cases h : k = ⟨#[]⟩
 · subst h; rw [Zlu]; decide
 · rw [Zlx.2 h]
   have : k.size ≠ 0 := fun e => h (by
     apply ByteArray.ext
     exact Array.size_eq_zero_iff.1 e)
   simp; omega
theorem Zwb {a : Zs} (ha : Zpp a) {w has : ByteArray} {on c : Int} {n x s m : Bool} (hc : Zdy a.Make = some c) (h1 : Zlg a.Kind = some ⟨w, on, has⟩) (hw : sEq w ⟨#[]⟩ = false)
   (fn : Zcz ⟨w, on, has⟩ 110 = some n) (fx : Zcz ⟨w, on, has⟩ 120 = some x) (fs : Zcz ⟨w, on, has⟩ 115 = some s) (fm : Zcz ⟨w, on, has⟩ 109 = some m) :
   Zgh a = some (actD n x s m (on == 1) (a.Kind == 1) (a.Kind == 10 || a.Kind == 11) c a) := by
 have h0 : (0 : Nat) < W64 := by decide
 unfold Zgh Znb Zmr
 rw [h1]
 simp only [Option.bind_some, hw, Bool.false_eq_true, if_false, fn, fx, fs, fm, Zos]
 rw [Zlf ha.2 h0, Zx6 ha.1 Zwx, Zof ha.2, hc]
 simp only [Option.bind_some, Zos]
 unfold actD
 generalize (sEq a.Key ⟨#[]⟩ || decide ((24 : Int) < a.Key.size)) = b1
 generalize (a.N == 0) = b2
 generalize decide (keyf a.X = keyf 0) = b3
 generalize sEq a.S ⟨#[]⟩ = b4
 generalize Zjg a.Make zrc = b5
 generalize (a.Kind == 10 || a.Kind == 11) = b6
 generalize (a.Kind == 1) = b7
 generalize (decide (a.N < 0) || decide (2305843009213693952 < a.N)) = b8
 generalize decide (a.X = Zcc a.X) = b9
 have e1 : decide ((64 : Int) < a.S.size) = decide ((if true = true then (64 : Int) else 16) < a.S.size) := rfl
 cases b1
 · have hm : ∀ (z : Bool), ((if z = true then some (64 : Int) else some 16).bind fun r8 => (if decide (r8 < (a.S.size : Int)) = true then some (3 : Int) else if (b6 && b8) = true then some 1 else if (!b9) = true then some 4 else if b7 = true then some c else some 0)) = some (if decide ((if z = true then (64 : Int) else 16) < a.S.size) = true then 3 else if (b6 && b8) = true then 1 else if (!b9) = true then 4 else if b7 = true then c else 0) := by
     intro z
     cases z <;> simp only [Bool.false_eq_true, if_false, if_true, Option.bind_some] <;> (repeat' split) <;> rfl
   rw [hm]
   cases n <;> cases x <;> cases s <;> cases m <;> cases b2 <;> cases b3 <;> cases b4 <;> cases b5 <;> rfl
 · rfl
theorem Zve {a : Zs} (ha : Zpp a) {on c : Int} {n x s m : Bool} (hc : Zc9 a.Make = some c) (hk : ¬ (a.Kind < 1 ∨ 21 < a.Kind)) (ro : Zdp a.Kind = some on)
   (fn : Zdd a.Kind 110 = some n) (fx : Zdd a.Kind 120 = some x) (fs : Zdd a.Kind 115 = some s) (fm : m = (a.Kind == 1)) :
   Zea a = some (actD n x s m (on == 1) (a.Kind == 1) (a.Kind == 10 || a.Kind == 11) c a) := by
 have h0 : (0 : Nat) < W64 := by decide
 unfold Zea
 rw [if_neg (by simpa using hk), fn, fx, fs, ro]
 simp only [Option.bind_some, Zos, Z09]
 rw [Zkf ha.2 h0, Znt ha.1 Zwx, Zm2 ha.2, hc]
 simp only [Option.bind_some, Zos]
 unfold actD
 subst fm
 have hmid : ((on == 1 && decide ((64 : Int) < a.S.size)) || ((if (!(on == 1 && decide ((64 : Int) < a.S.size))) = true then on else default) != 1 && decide ((16 : Int) < a.S.size))) = decide ((if (on == 1) = true then (64 : Int) else 16) < a.S.size) := by
   by_cases ho : on = 1
   · subst ho
     by_cases h64 : (64 : Int) < a.S.size <;> simp [h64]
   · have hb1 : (on == 1) = false := by simpa using ho
     have hb2 : (on != 1) = true := by simpa using ho
     simp [hb1, hb2]
 rw [hmid, show (a.N != 0) = !(a.N == 0) from rfl, show (a.Kind != 1) = !(a.Kind == 1) from rfl]
 generalize decide ((if (on == 1) = true then (64 : Int) else 16) < a.S.size) = b10
 generalize (sEq a.Key ⟨#[]⟩ || decide ((24 : Int) < a.Key.size)) = b1
 generalize (a.N == 0) = b2
 generalize decide (keyf a.X = keyf 0) = b3
 generalize sEq a.S ⟨#[]⟩ = b4
 generalize Zjg a.Make zrc = b5
 generalize (a.Kind == 10 || a.Kind == 11) = b6
 generalize (a.Kind == 1) = b7
 generalize (decide (a.N < 0) || decide (2305843009213693952 < a.N)) = b8
 generalize decide (a.X = Zcc a.X) = b9
 have htail : (if b10 = true then some (3 : Int) else if (b6 && b8) = true then some 1 else if (!b9) = true then some 4 else if b7 = true then some c else some 0) = some (if b10 = true then 3 else if (b6 && b8) = true then 1 else if (!b9) = true then 4 else if b7 = true then c else 0) := by
   (repeat' split) <;> rfl
 rw [htail]
 cases b1
 · cases n <;> cases x <;> cases s <;> cases b7 <;> cases b2 <;> cases b3 <;> cases b4 <;> cases b5 <;> rfl
 · rfl
theorem Zv3 {n x s m o1 k1 k2 : Bool} {c : Int} {a : Zs} (h : actD n x s m o1 k1 k2 c a = 0) : (sEq a.Key ⟨#[]⟩ || decide ((24 : Int) < a.Key.size)) = false ∧ decide ((if o1 = true then (64 : Int) else 16) < a.S.size) = false ∧ (k2 && (decide (a.N < 0) || decide (2305843009213693952 < a.N))) = false ∧ decide (a.X = Zcc a.X) = true ∧ (k1 = true → c = 0) := by
 unfold actD at h
 revert h
 generalize (sEq a.Key ⟨#[]⟩ || decide ((24 : Int) < a.Key.size)) = b1
 generalize decide ((if o1 = true then (64 : Int) else 16) < a.S.size) = b3
 generalize (k2 && (decide (a.N < 0) || decide (2305843009213693952 < a.N))) = b4
 generalize decide (a.X = Zcc a.X) = b5
 generalize (!(((n || a.N == 0) && (x || decide (keyf a.X = keyf 0))) && (s || sEq a.S ⟨#[]⟩) && (m || Zjg a.Make zrc))) = b2
 cases b1 <;> cases b2 <;> cases b3 <;> cases b4 <;> cases b5 <;> cases k1 <;> simp
theorem Zq4 {a : Zs} (ha : Zpp a) : ∃ c, Zgh a = some c ∧ Zea a = some c ∧ (c = 0 → 1 ≤ a.Kind ∧ a.Kind ≤ 21 ∧ a.X = Zcc a.X ∧ a.S.size ≤ 64 ∧ ((a.Kind = 10 ∨ a.Kind = 11) → 0 ≤ a.N ∧ a.N ≤ 2305843009213693952) ∧ (a.Kind = 1 → Zdy a.Make = some 0) ∧ (¬ (5 ≤ a.Kind ∧ a.Kind ≤ 6) → a.S.size ≤ 16) ∧ sEq a.Key ⟨#[]⟩ = false ∧ a.Key.size ≤ 24) := by
 by_cases hk : a.Kind < 1 ∨ 21 < a.Kind
 · refine ⟨5, ?_, ?_, fun h => by cases h⟩
   · unfold Zgh Zlg
     rw [if_pos (by simp; omega)]
     simp only [Option.bind_some]
     rw [if_pos (show sEq ByteArray.empty ⟨#[]⟩ = true by kernel_rfl)]
   · unfold Zea
     rw [if_pos (by simpa using hk)]
 · obtain ⟨c, hc1, hc2⟩ := Zk5 ha.1
   have fin : ∀ {w has : ByteArray} {on : Int} {n x s m : Bool}, Zlg a.Kind = some ⟨w, on, has⟩ → sEq w ⟨#[]⟩ = false → Zcz ⟨w, on, has⟩ 110 = some n → Zcz ⟨w, on, has⟩ 120 = some x → Zcz ⟨w, on, has⟩ 115 = some s → Zcz ⟨w, on, has⟩ 109 = some m →
       Zdp a.Kind = some on → Zdd a.Kind 110 = some n → Zdd a.Kind 120 = some x → Zdd a.Kind 115 = some s → m = (a.Kind == 1) → ((on == 1) = true → 5 ≤ a.Kind ∧ a.Kind ≤ 6) →
       ∃ c, Zgh a = some c ∧ Zea a = some c ∧ (c = 0 → 1 ≤ a.Kind ∧ a.Kind ≤ 21 ∧ a.X = Zcc a.X ∧ a.S.size ≤ 64 ∧ ((a.Kind = 10 ∨ a.Kind = 11) → 0 ≤ a.N ∧ a.N ≤ 2305843009213693952) ∧ (a.Kind = 1 → Zdy a.Make = some 0) ∧ (¬ (5 ≤ a.Kind ∧ a.Kind ≤ 6) → a.S.size ≤ 16) ∧ sEq a.Key ⟨#[]⟩ = false ∧ a.Key.size ≤ 24) := by
     intro w has on n x s m h1 hw fn fx fs fm ro rn rx rs hm hon
     refine ⟨_, Zwb ha hc1 h1 hw fn fx fs fm, by rw [hm]; exact Zve ha hc2 hk ro rn rx rs rfl, fun h0 => ?_⟩
     obtain ⟨g1, g3, g4, g5, g6⟩ := Zv3 h0
     simp only [Bool.or_eq_false_iff, decide_eq_false_iff_not] at g1
     have g3' : ¬ (if (on == 1) = true then (64 : Int) else 16) < a.S.size := of_decide_eq_false g3
     refine ⟨by omega, by omega, of_decide_eq_true g5, ?_, fun h => ?_, fun h => ?_, fun h => ?_, g1.1, by omega⟩
     · split at g3' <;> omega
     · have h11 : (a.Kind == 10 || a.Kind == 11) = true := by simpa using h
       rw [h11] at g4
       simp only [Bool.true_and, Bool.or_eq_false_iff, decide_eq_false_iff_not] at g4
       omega
     · rw [hc1, g6 (by simp [h])]
     · rw [if_neg (fun h2 => h (hon h2))] at g3'
       omega
   have hk' : a.Kind = 1 ∨ a.Kind = 2 ∨ a.Kind = 3 ∨ a.Kind = 4 ∨ a.Kind = 5 ∨ a.Kind = 6 ∨ a.Kind = 7 ∨ a.Kind = 8 ∨ a.Kind = 9 ∨ a.Kind = 10 ∨ a.Kind = 11 ∨ a.Kind = 12 ∨ a.Kind = 13 ∨ a.Kind = 14 ∨ a.Kind = 15 ∨ a.Kind = 16 ∨ a.Kind = 17 ∨ a.Kind = 18 ∨ a.Kind = 19 ∨ a.Kind = 20 ∨ a.Kind = 21 := by omega
   rcases hk' with h | h | h | h | h | h | h | h | h | h | h | h | h | h | h | h | h | h | h | h | h <;> rw [h] at fin ⊢
   · exact fin (w := ⟨#[110, 101, 119]⟩) (on := 0) (has := ⟨#[109]⟩) (n := false) (x := false) (s := false) (m := true) (by kernel_rfl) (by kernel_rfl) (by kernel_rfl) (by kernel_rfl) (by kernel_rfl) (by kernel_rfl) (by kernel_rfl) (by kernel_rfl) (by kernel_rfl) (by kernel_rfl) (by decide) (by decide)
   · exact fin (w := ⟨#[100, 114, 111, 112]⟩) (on := 0) (has := ⟨#[]⟩) (n := false) (x := false) (s := false) (m := false) (by kernel_rfl) (by kernel_rfl) (by kernel_rfl) (by kernel_rfl) (by kernel_rfl) (by kernel_rfl) (by kernel_rfl) (by kernel_rfl) (by kernel_rfl) (by kernel_rfl) (by decide) (by decide)
   · exact fin (w := ⟨#[105, 115]⟩) (on := 0) (has := ⟨#[]⟩) (n := false) (x := false) (s := false) (m := false) (by kernel_rfl) (by kernel_rfl) (by kernel_rfl) (by kernel_rfl) (by kernel_rfl) (by kernel_rfl) (by kernel_rfl) (by kernel_rfl) (by kernel_rfl) (by kernel_rfl) (by decide) (by decide)
   · exact fin (w := ⟨#[108, 111, 111, 107]⟩) (on := 0) (has := ⟨#[]⟩) (n := false) (x := false) (s := false) (m := false) (by kernel_rfl) (by kernel_rfl) (by kernel_rfl) (by kernel_rfl) (by kernel_rfl) (by kernel_rfl) (by kernel_rfl) (by kernel_rfl) (by kernel_rfl) (by kernel_rfl) (by decide) (by decide)
   · exact fin (w := ⟨#[112, 117, 116]⟩) (on := 1) (has := ⟨#[115]⟩) (n := false) (x := false) (s := true) (m := false) (by kernel_rfl) (by kernel_rfl) (by kernel_rfl) (by kernel_rfl) (by kernel_rfl) (by kernel_rfl) (by kernel_rfl) (by kernel_rfl) (by kernel_rfl) (by kernel_rfl) (by decide) (by decide)
   · exact fin (w := ⟨#[115, 119, 97, 112]⟩) (on := 1) (has := ⟨#[115]⟩) (n := false) (x := false) (s := true) (m := false) (by kernel_rfl) (by kernel_rfl) (by kernel_rfl) (by kernel_rfl) (by kernel_rfl) (by kernel_rfl) (by kernel_rfl) (by kernel_rfl) (by kernel_rfl) (by kernel_rfl) (by decide) (by decide)
   · exact fin (w := ⟨#[97, 100, 100]⟩) (on := 2) (has := ⟨#[110]⟩) (n := true) (x := false) (s := false) (m := false) (by kernel_rfl) (by kernel_rfl) (by kernel_rfl) (by kernel_rfl) (by kernel_rfl) (by kernel_rfl) (by kernel_rfl) (by kernel_rfl) (by kernel_rfl) (by kernel_rfl) (by decide) (by decide)
   · exact fin (w := ⟨#[112, 108, 117, 115]⟩) (on := 3) (has := ⟨#[110]⟩) (n := true) (x := false) (s := false) (m := false) (by kernel_rfl) (by kernel_rfl) (by kernel_rfl) (by kernel_rfl) (by kernel_rfl) (by kernel_rfl) (by kernel_rfl) (by kernel_rfl) (by kernel_rfl) (by kernel_rfl) (by decide) (by decide)
   · exact fin (w := ⟨#[114, 101, 97, 99, 104]⟩) (on := 3) (has := ⟨#[110]⟩) (n := true) (x := false) (s := false) (m := false) (by kernel_rfl) (by kernel_rfl) (by kernel_rfl) (by kernel_rfl) (by kernel_rfl) (by kernel_rfl) (by kernel_rfl) (by kernel_rfl) (by kernel_rfl) (by kernel_rfl) (by decide) (by decide)
   · exact fin (w := ⟨#[105, 110]⟩) (on := 4) (has := ⟨#[110]⟩) (n := true) (x := false) (s := false) (m := false) (by kernel_rfl) (by kernel_rfl) (by kernel_rfl) (by kernel_rfl) (by kernel_rfl) (by kernel_rfl) (by kernel_rfl) (by kernel_rfl) (by kernel_rfl) (by kernel_rfl) (by decide) (by decide)
   · exact fin (w := ⟨#[111, 117, 116]⟩) (on := 4) (has := ⟨#[110]⟩) (n := true) (x := false) (s := false) (m := false) (by kernel_rfl) (by kernel_rfl) (by kernel_rfl) (by kernel_rfl) (by kernel_rfl) (by kernel_rfl) (by kernel_rfl) (by kernel_rfl) (by kernel_rfl) (by kernel_rfl) (by decide) (by decide)
   · exact fin (w := ⟨#[101, 110, 111, 117, 103, 104]⟩) (on := 4) (has := ⟨#[110]⟩) (n := true) (x := false) (s := false) (m := false) (by kernel_rfl) (by kernel_rfl) (by kernel_rfl) (by kernel_rfl) (by kernel_rfl) (by kernel_rfl) (by kernel_rfl) (by kernel_rfl) (by kernel_rfl) (by kernel_rfl) (by decide) (by decide)
   · exact fin (w := ⟨#[114, 97, 105, 115, 101]⟩) (on := 5) (has := ⟨#[120]⟩) (n := false) (x := true) (s := false) (m := false) (by kernel_rfl) (by kernel_rfl) (by kernel_rfl) (by kernel_rfl) (by kernel_rfl) (by kernel_rfl) (by kernel_rfl) (by kernel_rfl) (by kernel_rfl) (by kernel_rfl) (by decide) (by decide)
   · exact fin (w := ⟨#[108, 111, 119, 101, 114]⟩) (on := 6) (has := ⟨#[120]⟩) (n := false) (x := true) (s := false) (m := false) (by kernel_rfl) (by kernel_rfl) (by kernel_rfl) (by kernel_rfl) (by kernel_rfl) (by kernel_rfl) (by kernel_rfl) (by kernel_rfl) (by kernel_rfl) (by kernel_rfl) (by decide) (by decide)
   · exact fin (w := ⟨#[115, 104, 105, 102, 116]⟩) (on := 7) (has := ⟨#[120]⟩) (n := false) (x := true) (s := false) (m := false) (by kernel_rfl) (by kernel_rfl) (by kernel_rfl) (by kernel_rfl) (by kernel_rfl) (by kernel_rfl) (by kernel_rfl) (by kernel_rfl) (by kernel_rfl) (by kernel_rfl) (by decide) (by decide)
   · exact fin (w := ⟨#[115, 99, 97, 108, 101]⟩) (on := 7) (has := ⟨#[120]⟩) (n := false) (x := true) (s := false) (m := false) (by kernel_rfl) (by kernel_rfl) (by kernel_rfl) (by kernel_rfl) (by kernel_rfl) (by kernel_rfl) (by kernel_rfl) (by kernel_rfl) (by kernel_rfl) (by kernel_rfl) (by decide) (by decide)
   · exact fin (w := ⟨#[102, 105, 120]⟩) (on := 7) (has := ⟨#[120]⟩) (n := false) (x := true) (s := false) (m := false) (by kernel_rfl) (by kernel_rfl) (by kernel_rfl) (by kernel_rfl) (by kernel_rfl) (by kernel_rfl) (by kernel_rfl) (by kernel_rfl) (by kernel_rfl) (by kernel_rfl) (by decide) (by decide)
   · exact fin (w := ⟨#[106, 111, 105, 110]⟩) (on := 8) (has := ⟨#[115]⟩) (n := false) (x := false) (s := true) (m := false) (by kernel_rfl) (by kernel_rfl) (by kernel_rfl) (by kernel_rfl) (by kernel_rfl) (by kernel_rfl) (by kernel_rfl) (by kernel_rfl) (by kernel_rfl) (by kernel_rfl) (by decide) (by decide)
   · exact fin (w := ⟨#[108, 101, 97, 118, 101]⟩) (on := 8) (has := ⟨#[115]⟩) (n := false) (x := false) (s := true) (m := false) (by kernel_rfl) (by kernel_rfl) (by kernel_rfl) (by kernel_rfl) (by kernel_rfl) (by kernel_rfl) (by kernel_rfl) (by kernel_rfl) (by kernel_rfl) (by kernel_rfl) (by decide) (by decide)
   · exact fin (w := ⟨#[104, 97, 115]⟩) (on := 8) (has := ⟨#[115]⟩) (n := false) (x := false) (s := true) (m := false) (by kernel_rfl) (by kernel_rfl) (by kernel_rfl) (by kernel_rfl) (by kernel_rfl) (by kernel_rfl) (by kernel_rfl) (by kernel_rfl) (by kernel_rfl) (by kernel_rfl) (by decide) (by decide)
   · exact fin (w := ⟨#[111, 102, 102, 101, 114]⟩) (on := 9) (has := ⟨#[120, 115]⟩) (n := false) (x := true) (s := true) (m := false) (by kernel_rfl) (by kernel_rfl) (by kernel_rfl) (by kernel_rfl) (by kernel_rfl) (by kernel_rfl) (by kernel_rfl) (by kernel_rfl) (by kernel_rfl) (by kernel_rfl) (by decide) (by decide)
abbrev Zdj := List Zh
def NS (l : Zdj) : Prop := l.Pairwise fun p q => sLt p.Name q.Name = true
def pre (f : Zh → Bool) : Zdj → Nat
 | [] => 0
 | e :: r => if f e then pre f r + 1 else 0
theorem Znw (f : Zh → Bool) : ∀ l : Zdj, pre f l ≤ l.length
 | [] => Nat.le_refl _
 | e :: r => by
   have := Znw f r
   simp only [pre]
   split <;> simp <;> omega
theorem Zwo {f : Zh → Bool} : ∀ {l : Zdj} {k : Nat} (h : k < pre f l), ∃ e, l[k]? = some e ∧ f e = true
 | [], k, h => by simp [pre] at h
 | e :: r, k, h => by
   simp only [pre] at h
   split at h
   · rename_i hf
     cases k with
     | zero => exact ⟨e, rfl, hf⟩
     | succ k => exact Zwo (l := r) (by omega)
   · omega
theorem Zp3 {f : Zh → Bool} : ∀ {l : Zdj} {e : Zh}, l[pre f l]? = some e → f e = false
 | [], e, h => by simp [pre] at h
 | x :: r, e, h => by
   simp only [pre] at h
   split at h
   · exact Zp3 (l := r) (by simpa using h)
   · rename_i hf
     simp at h; subst h; simpa using hf
theorem Zs9 {s : ByteArray} {l : Zdj} (hs : NS l) {k : Nat} (hk : k < l.length) : sLt (l[k]).Name s = decide (k < pre (fun e => sLt e.Name s) l) := by
 by_cases h : k < pre (fun e => sLt e.Name s) l
 · obtain ⟨e, he, hf⟩ := Zwo h
   rw [List.getElem?_eq_getElem hk] at he
   obtain rfl := Option.some.inj he
   simp only [h, decide_true]; exact hf
 · simp only [h, decide_false]
   have hp : pre (fun e => sLt e.Name s) l < l.length := by omega
   have h1 := Zp3 (List.getElem?_eq_getElem hp)
   rcases Nat.lt_or_eq_of_le (Nat.le_of_not_lt h) with hlt | heq
   · have h2 := List.pairwise_iff_getElem.1 hs _ _ hp hk hlt
     cases h3 : sLt (l[k]).Name s
     · rfl
     · rw [Zrf h2 h3] at h1; cases h1
   · have : l[k] = l[pre (fun e => sLt e.Name s) l] := by congr 1; exact heq.symm
     rw [this]; exact h1
theorem half {i j : Nat} (h : i + j < 4611686018427387904) : IntKind.i64.wrap (Int.fdiv (IntKind.u64.wrap (IntKind.i64.wrap ((i : Int) + (j : Int)))) (2 ^ 1)) = (((i + j) / 2 : Nat) : Int) := by
 rw [wr (x := (i : Int) + j) (by omega) (by omega), wru (by omega) (by omega)]
 have : Int.fdiv ((i : Int) + j) (2 ^ 1) = (((i + j) / 2 : Nat) : Int) := by
   rw [Int.fdiv_eq_ediv_of_nonneg _ (by decide)]; omega
 rw [this, wr (by omega) (by omega)]
theorem Zyp (e : Zh) (s : ByteArray) : ∃ c : Int, Zhi e s = some c ∧ decide (c < 0) = sLt e.Name s ∧ (c == 0) = sEq e.Name s := by
 unfold Zhi
 by_cases h : sLt e.Name s = true
 · exact ⟨-1, by rw [if_pos h], by rw [h]; rfl, by rw [Zlx.2 (Zxd h)]; rfl⟩
 · have h' : sLt e.Name s = false := by simpa using h
   by_cases h2 : e.Name = s
   · exact ⟨0, by rw [if_neg h, h', Zle.2 h2]; rfl, by rw [h']; rfl, by rw [Zle.2 h2]; rfl⟩
   · exact ⟨1, by rw [if_neg h, h', Zlx.2 h2]; rfl, by rw [h']; rfl, by rw [Zlx.2 h2]; rfl⟩
theorem Zqn {l : Zdj} {s : ByteArray} (hs : NS l) (hl : l.length < 2305843009213693952) : ∀ (n i j : Nat), j - i < n → i ≤ pre (fun e => sLt e.Name s) l → pre (fun e => sLt e.Name s) l ≤ j → j ≤ l.length →
   Zbd l s (fun y0 y1 => Zhi y0 y1) n (i : Int) (j : Int) = some ((pre (fun e => sLt e.Name s) l : Nat) : Int)
 | 0, i, j, h, _, _, _ => by omega
 | n + 1, i, j, h, h1, h2, h3 => by
   rw [Zbd]
   by_cases hij : i < j
   · rw [if_pos (by simpa using hij), half (by omega)]
     have hm : (i + j) / 2 < l.length := by omega
     rw [Zed hm]
     obtain ⟨c, hc, hc1, _⟩ := Zyp l[(i + j) / 2] s
     simp only [Option.bind_some, hc]
     rw [hc1, Zs9 hs hm]
     unfold Zb1
     by_cases hp : (i + j) / 2 < pre (fun e => sLt e.Name s) l
     · rw [if_pos (by simpa using hp), wr1 (by omega)]
       exact Zqn hs hl n ((i + j) / 2 + 1) j (by omega) (by omega) h2 h3
     · rw [if_neg (by simpa using hp)]
       exact Zqn hs hl n i ((i + j) / 2) (by omega) h1 (by omega) (by omega)
   · rw [if_neg (by simpa using hij)]
     congr 2; omega
def isAt (s : ByteArray) (l : Zdj) : Bool := match l[pre (fun e => sLt e.Name s) l]? with
 | some e => sEq e.Name s
 | none => false
theorem Zqw {l : Zdj} {s : ByteArray} (hs : NS l) (hl : l.length < 2305843009213693952) : Zi3 l s = some (((pre (fun e => sLt e.Name s) l : Nat) : Int), isAt s l) := by
 unfold Zi3 Zcr
 have := Zqn (s := s) hs hl (l.length + 1) 0 l.length (by omega) (Nat.zero_le _) (Znw _ _) (Nat.le_refl _)
 rw [show ((0 : Nat) : Int) = 0 from rfl] at this
 rw [show (Int.toNat ((l.length : Int) - (0 : Int)) + 1) = l.length + 1 by omega, this]
 simp only [Option.bind_some]
 unfold isAt
 by_cases hp : pre (fun e => sLt e.Name s) l < l.length
 · have hd : decide (((pre (fun e => sLt e.Name s) l : Nat) : Int) < (l.length : Int)) = true := by simpa using hp
   rw [hd, Zed hp, List.getElem?_eq_getElem hp]
   obtain ⟨c, hc, _, hc2⟩ := Zyp l[pre (fun e => sLt e.Name s) l] s
   simp only [gd_t, Option.bind_some, hc, Bool.true_and, hc2]
 · have hd : decide (((pre (fun e => sLt e.Name s) l : Nat) : Int) < (l.length : Int)) = false := by simpa using hp
   rw [hd, List.getElem?_eq_none (by omega)]
   rfl
def goL (f g : Zh → Bool) (x : Zh) : Zdj → Bool → Zdj × Bool
 | [], d => ([], d)
 | e :: r, d => if (!d && !f e) = true then ((if g e then [] else [x]) ++ e :: (goL f g x r true).1, (goL f g x r true).2) else (e :: (goL f g x r d).1, (goL f g x r d).2)
theorem Zys (f g : Zh → Bool) (x : Zh) : ∀ l : Zdj, goL f g x l true = (l, true)
 | [] => rfl
 | e :: r => by simp [goL, Zys f g x r]
theorem Zy1 (f g : Zh → Bool) (x : Zh) : ∀ l : Zdj, goL f g x l false = match l[pre f l]? with
   | some e => (l.take (pre f l) ++ (if g e then [] else [x]) ++ l.drop (pre f l), true)
   | none => (l, false)
 | [] => rfl
 | e :: r => by
   simp only [goL, pre]
   by_cases hf : f e = true
   · simp only [hf, Bool.not_true, Bool.and_false, Bool.false_eq_true, if_false, if_true]
     rw [Zy1 f g x r]
     simp only [List.getElem?_cons_succ]
     cases r[pre f r]? <;> simp
   · have hf' : f e = false := by simpa using hf
     simp only [hf', Bool.not_false, Bool.and_self, if_true, Bool.false_eq_true, if_false, Zys, List.getElem?_cons_zero, List.take_zero, List.nil_append, List.drop_zero]
def Zej (x : Zh) (nm : Bool) (e : Zh) : Bool := if nm then sLt e.Name x.Name else Zft e x
def Zjf (x : Zh) (nm : Bool) (e : Zh) : Bool := sEq e.Name x.Name && (nm || decide (keyf e.Score = keyf x.Score))
theorem Zwl {l : Zdj} {x : Zh} {nm : Bool} (hx : x.Score < W64) (hsc : ∀ e ∈ l, e.Score < W64) {n i : Nat} {out : Zdj} {d : Bool} (h1 : i < l.length) :
   Zb2 l x nm (n + 1) out d (i : Int) = (if (!d && !Zej x nm l[i]) = true then (if (!Zjf x nm l[i]) = true then (if (out.length + ([x] : List Zh).length) * 24 ≤ 140737488355328 then Zc8 l (i : Int) (Zb2 l x nm n) (out ++ [x]) true else none) else Zc8 l (i : Int) (Zb2 l x nm n) out true) else Zc8 l (i : Int) (Zb2 l x nm n) out d) := by
 have hm := hsc _ (List.getElem_mem h1)
 have ha : Zew l[i] x = some (Zft l[i] x) := Zss hm hx
 have hs : Zc7 l[i].Score x.Score = some (decide (keyf l[i].Score = keyf x.Score)) := Zkf hm hx
 rw [Zb2, if_pos (by simp; omega), Zed h1]
 cases nm
 · simp only [Bool.not_false, gd_t, Option.bind_some, Bool.true_and, ha, Bool.and_false, gd_f, Bool.false_and, Bool.or_false, Bool.and_true, Bool.false_or, Zej, Zjf, Bool.false_eq_true, if_false]
   cases hq : sEq l[i].Name x.Name
   · simp only [gd_f, Option.bind_some, Bool.false_and]
   · simp only [gd_t, Option.bind_some, Bool.true_and, hs]
 · simp only [Bool.not_true, gd_f, Option.bind_some, Bool.false_and, Bool.not_false, Bool.true_and, gd_t, Bool.false_or, Bool.true_or, Bool.and_false, Bool.and_true, Zej, Zjf, if_true]
theorem Zlz {l : Zdj} {x : Zh} {nm : Bool} (hx : x.Score < W64) (hsc : ∀ e ∈ l, e.Score < W64) (hl : l.length < 1000000) : ∀ (n i : Nat) (out : Zdj) (d : Bool), i + n = l.length → out.length + (if d = true then 0 else 1) ≤ i + 1 →
   Zb2 l x nm (n + 1) out d (i : Int) = some (out ++ (goL (Zej x nm) (Zjf x nm) x (l.drop i) d).1, (goL (Zej x nm) (Zjf x nm) x (l.drop i) d).2)
 | 0, i, out, d, h, _ => by
   rw [Zb2, if_neg (by simp; omega), List.drop_of_length_le (by omega)]
   simp [goL]
 | n + 1, i, out, d, h, ho => by
   have h1 : i < l.length := by omega
   rw [Zwl hx hsc h1, List.drop_eq_getElem_cons h1]
   simp only [Zc8, Zed h1, wr1 (show i < 9223372036854775807 by omega), Option.bind_some, goL]
   by_cases hc : (!d && !Zej x nm l[i]) = true
   · rw [if_pos hc, if_pos hc]
     have hd : d = false := by cases d <;> simp_all
     subst hd
     simp only [Bool.false_eq_true, if_false] at ho
     by_cases hs : (!Zjf x nm l[i]) = true
     · rw [if_pos hs, if_pos (by simp; omega), if_pos (by simp; omega), Zlz hx hsc hl n (i + 1) _ true (by omega) (by simp; omega)]
       have : Zjf x nm l[i] = false := by simpa using hs
       simp [this]
     · rw [if_neg hs, if_pos (by simp; omega), Zlz hx hsc hl n (i + 1) _ true (by omega) (by simp; omega)]
       have : Zjf x nm l[i] = true := by simpa using hs
       simp [this]
   · rw [if_neg hc, if_neg hc, if_pos (by simp; omega), Zlz hx hsc hl n (i + 1) _ d (by omega) (by simp; omega)]
     simp
def layL (x : Zh) (nm : Bool) (l : Zdj) : Zdj := match l[pre (Zej x nm) l]? with
 | some e => l.take (pre (Zej x nm) l) ++ (if Zjf x nm e then [] else [x]) ++ l.drop (pre (Zej x nm) l)
 | none => l ++ [x]
theorem Zuf {l : Zdj} {x : Zh} {nm : Bool} (hx : x.Score < W64) (hsc : ∀ e ∈ l, e.Score < W64) (hl : l.length < 1000000) : Zeh l x nm = some (layL x nm l) := by
 unfold Zeh
 have := Zlz (nm := nm) hx hsc hl l.length 0 [] false (by omega) (by simp)
 rw [show ((0 : Nat) : Int) = 0 from rfl] at this
 rw [show (Int.toNat ((l.length : Int) - (0 : Int)) + 1) = l.length + 1 by omega, this]
 simp only [Option.bind_some, List.nil_append, List.drop_zero]
 rw [Zy1]
 unfold layL
 cases h : l[pre (Zej x nm) l]? with
 | none =>
   simp only [Bool.not_false, if_true, Ze2]
   rw [if_pos (by simp; omega)]
 | some e => simp only [Bool.not_true, Bool.false_eq_true, if_false, Ze2]
theorem Zs1 {l : Zdj} {s : ByteArray} (hl : l.length < 1000000) : ∀ (n i : Nat), i + n = l.length → Zdw l s (n + 1) (i : Int) = some (cond ((l.drop i).any (fun e => sEq e.Name s)) (.inl true) (.inr ()))
 | 0, i, h => by
   rw [Zdw, if_neg (by simp; omega), List.drop_of_length_le (by omega)]; rfl
 | n + 1, i, h => by
   have h1 : i < l.length := by omega
   rw [Zdw, if_pos (by simp; omega), Zed h1, List.drop_eq_getElem_cons h1, List.any_cons]
   simp only [Option.bind_some]
   by_cases hq : sEq l[i].Name s = true
   · rw [if_pos hq, hq]; rfl
   · have hq' : sEq l[i].Name s = false := by simpa using hq
     rw [if_neg hq, wr1 (by omega), Zs1 hl n (i + 1) (by omega), hq', Bool.false_or]
theorem Zxb {l : Zdj} {s : ByteArray} (hl : l.length < 1000000) : Ze0 l s = some (l.any (fun e => sEq e.Name s)) := by
 unfold Ze0
 have := Zs1 (s := s) hl l.length 0 (by omega)
 rw [show ((0 : Nat) : Int) = 0 from rfl] at this
 rw [show (Int.toNat ((l.length : Int) - (0 : Int)) + 1) = l.length + 1 by omega, this]
 simp only [List.drop_zero]
 cases h : l.any (fun e => sEq e.Name s) <;> rfl
theorem Zn5 {a0 : Zb} {a : Zs} (hl : a0.List.length < 1000000) : ∀ (n i : Nat) (out : Zdj), i + n = a0.List.length → out.length ≤ i → Zc2 a0 a (n + 1) out (i : Int) = some (out ++ (a0.List.drop i).filter (fun e => !sEq e.Name a.S))
 | 0, i, out, h, _ => by
   rw [Zc2, if_neg (by simp; omega), List.drop_of_length_le (by omega)]; simp
 | n + 1, i, out, h, ho => by
   have h1 : i < a0.List.length := by omega
   rw [Zc2, if_pos (by simp; omega), Zed h1, List.drop_eq_getElem_cons h1]
   simp only [Option.bind_some, Zgf, wr1 (show i < 9223372036854775807 by omega)]
   rw [List.filter_cons]
   by_cases hq : (!sEq a0.List[i].Name a.S) = true
   · rw [if_pos hq, if_pos hq, if_pos (by simp; omega), Zn5 hl n (i + 1) _ (by omega) (by simp; omega), List.append_assoc]; rfl
   · rw [if_neg hq, if_neg hq, Zn5 hl n (i + 1) _ (by omega) (by omega)]
theorem Zo9 {l : Zdj} {s : ByteArray} (hs : NS l) : (∀ e ∈ l.take (pre (fun e => sLt e.Name s) l), sEq e.Name s = false) ∧ (∀ e ∈ l.drop (pre (fun e => sLt e.Name s) l + 1), sEq e.Name s = false) := by
 constructor
 · intro e he
   obtain ⟨k, hk, rfl⟩ := List.getElem_of_mem he
   rw [List.length_take] at hk
   rw [List.getElem_take]
   have := Zs9 (s := s) hs (k := k) (by omega)
   rw [show decide (k < pre (fun e => sLt e.Name s) l) = true by simp; omega] at this
   exact Zlx.2 (Zxd this)
 · intro e he
   obtain ⟨k, hk, rfl⟩ := List.getElem_of_mem he
   rw [List.length_drop] at hk
   rw [List.getElem_drop]
   refine Zlx.2 fun h => ?_
   have hp : pre (fun e => sLt e.Name s) l < l.length := by omega
   have h1 := List.pairwise_iff_getElem.1 hs _ _ hp (show pre (fun e => sLt e.Name s) l + 1 + k < l.length by omega) (by omega)
   rw [h] at h1
   have := Zp3 (List.getElem?_eq_getElem hp)
   rw [h1] at this; cases this
theorem Zpn (l : Zdj) (k : Nat) (h : k < l.length) : l = l.take k ++ l[k] :: l.drop (k + 1) := by
 rw [← List.drop_eq_getElem_cons h, List.take_append_drop]
theorem Zs2 {l : Zdj} {s : ByteArray} (hs : NS l) : l.any (fun e => sEq e.Name s) = isAt s l := by
 obtain ⟨h1, h2⟩ := Zo9 (s := s) hs
 unfold isAt
 by_cases hp : pre (fun e => sLt e.Name s) l < l.length
 · rw [List.getElem?_eq_getElem hp]
   conv => lhs; rw [Zpn l _ hp]
   have a1 : (l.take (pre (fun e => sLt e.Name s) l)).any (fun e => sEq e.Name s) = false := by
     rw [List.any_eq_false]; intro e he; rw [h1 e he]; decide
   have a2 : (l.drop (pre (fun e => sLt e.Name s) l + 1)).any (fun e => sEq e.Name s) = false := by
     rw [List.any_eq_false]; intro e he; rw [h2 e he]; decide
   rw [List.any_append, List.any_cons, a1, a2]; simp
 · rw [List.getElem?_eq_none (by omega)]
   have : l.take (pre (fun e => sLt e.Name s) l) = l := List.take_of_length_le (by omega)
   rw [this] at h1
   rw [List.any_eq_false]; intro e he; rw [h1 e he]; decide
theorem Zwk {l : Zdj} {s : ByteArray} (hs : NS l) : l.filter (fun e => !sEq e.Name s) = if isAt s l = true then l.take (pre (fun e => sLt e.Name s) l) ++ l.drop (pre (fun e => sLt e.Name s) l + 1) else l := by
 obtain ⟨h1, h2⟩ := Zo9 (s := s) hs
 unfold isAt
 by_cases hp : pre (fun e => sLt e.Name s) l < l.length
 · rw [List.getElem?_eq_getElem hp]
   conv => lhs; rw [Zpn l _ hp]
   have a1 : (l.take (pre (fun e => sLt e.Name s) l)).filter (fun e => !sEq e.Name s) = l.take (pre (fun e => sLt e.Name s) l) := List.filter_eq_self.2 fun e he => by rw [h1 e he]; rfl
   have a2 : (l.drop (pre (fun e => sLt e.Name s) l + 1)).filter (fun e => !sEq e.Name s) = l.drop (pre (fun e => sLt e.Name s) l + 1) := List.filter_eq_self.2 fun e he => by rw [h2 e he]; rfl
   rw [List.filter_append, List.filter_cons, a1, a2]
   by_cases hq : sEq (l[pre (fun e => sLt e.Name s) l]).Name s = true
   · rw [if_pos hq, if_neg (by rw [hq]; decide)]
   · rw [if_neg hq, if_pos (by simpa using hq)]
     exact (Zpn l _ hp).symm
 · rw [List.getElem?_eq_none (by omega)]
   have : l.take (pre (fun e => sLt e.Name s) l) = l := List.take_of_length_le (by omega)
   rw [this] at h1
   rw [if_neg (by simp)]
   exact List.filter_eq_self.2 fun e he => by rw [h1 e he]; rfl
theorem Zxk {l : Zdj} {s : ByteArray} : layL { Score := 0, Name := s } true l = if isAt s l = true then l else l.take (pre (fun e => sLt e.Name s) l) ++ [{ Score := 0, Name := s }] ++ l.drop (pre (fun e => sLt e.Name s) l) := by
 have hf : Zej { Score := 0, Name := s } true = fun e => sLt e.Name s := rfl
 unfold layL isAt
 rw [hf]
 cases h : l[pre (fun e => sLt e.Name s) l]? with
 | none =>
   have hp := List.getElem?_eq_none_iff.1 h
   rw [if_neg (by simp), List.take_of_length_le hp, List.drop_of_length_le hp, List.append_nil]
 | some e =>
   simp only [Zjf, Bool.true_or, Bool.and_true]
   by_cases hq : sEq e.Name s = true
   · rw [if_pos hq, if_pos hq, List.append_nil, List.take_append_drop]
   · rw [if_neg hq, if_neg hq]
theorem Zqz {l : Zdj} (h : l.length < 1000000) : Zbt l = some l := by
 unfold Zbt
 rw [if_pos (by omega)]
theorem Zqb {r : Zb} {a : Zs} (ha : a.X < W64) (hsc : ∀ e ∈ r.List, e.Score < W64) (hl : r.List.length < 1000000) : ∀ (n i : Nat), i + n = r.List.length →
   Ze5 r a (n + 1) (i : Int) = some ((i + pre (Zej { Score := a.X, Name := a.S } false) (r.List.drop i) : Nat) : Int)
 | 0, i, h => by
   have hd : decide ((i : Int) < (r.List.length : Int)) = false := by simp; omega
   rw [Ze5, hd, List.drop_of_length_le (by omega)]
   simp [gd, pre]
 | n + 1, i, h => by
   have h1 : i < r.List.length := by omega
   have hd : decide ((i : Int) < (r.List.length : Int)) = true := by simp; omega
   rw [Ze5, hd, Zed h1, List.drop_eq_getElem_cons h1]
   simp only [gd_t, Option.bind_some, Bool.true_and]
   rw [Zns (hsc _ (List.getElem_mem h1)) ha]
   simp only [Option.bind_some, pre, Zej, Bool.false_eq_true, if_false, wr1 (show i < 9223372036854775807 by omega)]
   by_cases hb : Zft r.List[i] { Score := a.X, Name := a.S } = true
   · rw [if_pos hb, if_pos hb, Zqb ha hsc hl n (i + 1) (by omega)]
     congr 2; omega
   · rw [if_neg hb, if_neg hb]; simp
theorem Zxl {r : Zb} {a : Zs} (ha : a.X < W64) (hsc : ∀ e ∈ r.List, e.Score < W64) (hl : r.List.length < 1000000) : Ze5 r a (Int.toNat ((r.List.length : Int) - (0 : Int)) + 1) (0 : Int) = some ((pre (Zej { Score := a.X, Name := a.S } false) r.List : Nat) : Int) := by
 have := Zqb (a := a) ha hsc hl r.List.length 0 (by omega)
 rw [show ((0 : Nat) : Int) = 0 from rfl] at this
 rw [show (Int.toNat ((r.List.length : Int) - (0 : Int)) + 1) = r.List.length + 1 by omega, this]
 simp
theorem Ztu {e x : Zh} (h1 : Zft e x = false) : (!Zft x e) = Zjf x false e := by
 unfold Zft Zjf at *
 by_cases hk : keyf e.Score = keyf x.Score
 · rw [if_pos hk] at h1
   rw [if_pos hk.symm, hk]
   simp only [Bool.false_or, decide_true, Bool.and_true]
   by_cases hn : e.Name = x.Name
   · rw [hn, Zun, Zlu]; rfl
   · rw [Z01 h1 hn, Zlx.2 hn]; rfl
 · rw [if_neg hk] at h1
   rw [if_neg (fun h => hk h.symm)]
   have := of_decide_eq_false h1
   have h3 : keyf e.Score < keyf x.Score := by omega
   simp [h3, hk]
theorem Zo7 {k : Int} {l : Zdj} : ∀ (n i : Nat), Zha k l i n = 0 ↔ ∀ j, i ≤ j → j < i + n → Zg3 k l j = 0
 | 0, i => ⟨fun _ j h1 h2 => by omega, fun _ => rfl⟩
 | n + 1, i => by
   by_cases h : Zg3 k l i = 0
   · rw [Zpi h, Zo7 n (i + 1)]
     constructor
     · intro hh j h1 h2
       by_cases e : j = i
       · rw [e]; exact h
       · exact hh j (by omega) (by omega)
     · intro hh j h1 h2; exact hh j (by omega) (by omega)
   · rw [Zpk h]
     exact ⟨fun e => absurd e h, fun hh => absurd (hh i (Nat.le_refl _) (by omega)) h⟩
theorem Zpe {t n b r l : Bool} {a : Zb} : Zmg t n b r l a = 0 ↔ Zhn t n b r l a = true ∧ a.Text.size ≤ 64 ∧ (b = true → -2305843009213693952 ≤ a.Low ∧ a.High ≤ 2305843009213693952 ∧ a.Low ≤ a.Num ∧ a.Num ≤ a.High) ∧ a.Real = Zcc a.Real ∧ (l = true → 1 ≤ a.Cap ∧ a.Cap ≤ 32 ∧ (a.List.length : Int) ≤ a.Cap ∧ ∀ i, i < a.List.length → Zg3 a.Kind a.List i = 0) := by
 unfold Zmg
 by_cases h1 : Zhn t n b r l a = false
 · rw [if_pos h1, h1]; simp
 · have h1' : Zhn t n b r l a = true := by simpa using h1
   rw [if_neg h1, h1']
   by_cases h2 : (64 : Int) < a.Text.size
   · rw [if_pos h2]; exact ⟨fun h => absurd h (by decide), fun h => by omega⟩
   · rw [if_neg h2]
     by_cases h3 : b = true ∧ (a.Low < -2305843009213693952 ∨ 2305843009213693952 < a.High ∨ a.Num < a.Low ∨ a.High < a.Num)
     · rw [if_pos h3]; exact ⟨fun h => absurd h (by decide), fun h => by have := h.2.2.1 h3.1; omega⟩
     · rw [if_neg h3]
       by_cases h4 : a.Real = Zcc a.Real
       · rw [if_neg (fun h => h h4)]
         cases l
         · rw [if_pos rfl]
           refine ⟨fun _ => ⟨rfl, by omega, fun hb => ?_, h4, fun h => absurd h (by decide)⟩, fun _ => rfl⟩
           have : ¬ (a.Low < -2305843009213693952 ∨ 2305843009213693952 < a.High ∨ a.Num < a.Low ∨ a.High < a.Num) := fun h => h3 ⟨hb, h⟩
           omega
         · rw [if_neg (by decide)]
           by_cases h5 : a.Cap < 1 ∨ 32 < a.Cap
           · rw [if_pos h5]; exact ⟨fun h => absurd h (by decide), fun h => by have := h.2.2.2.2 rfl; omega⟩
           · rw [if_neg h5]
             by_cases h6 : a.Cap < a.List.length
             · rw [if_pos h6]; exact ⟨fun h => absurd h (by decide), fun h => by have := h.2.2.2.2 rfl; omega⟩
             · rw [if_neg h6, Zo7]
               constructor
               · intro h
                 refine ⟨rfl, by omega, fun hb => ?_, h4, fun _ => ⟨by omega, by omega, by omega, fun i hi => h i (Nat.zero_le _) (by omega)⟩⟩
                 have : ¬ (a.Low < -2305843009213693952 ∨ 2305843009213693952 < a.High ∨ a.Num < a.Low ∨ a.High < a.Num) := fun h => h3 ⟨hb, h⟩
                 omega
               · intro h j _ hj
                 exact (h.2.2.2.2 rfl).2.2.2 j (by omega)
       · rw [if_pos h4]; exact ⟨fun h => absurd h (by decide), fun h => absurd h.2.2.2.1 h4⟩
def Zf6 (a : Zb) : Prop := 1 ≤ a.Kind ∧ a.Kind ≤ 9 ∧ Zhn (decide (a.Kind = 1)) (decide (2 ≤ a.Kind ∧ a.Kind ≤ 4)) (decide (a.Kind = 4)) (decide (5 ≤ a.Kind ∧ a.Kind ≤ 7)) (decide (8 ≤ a.Kind)) a = true ∧ a.Text.size ≤ 64 ∧ (a.Kind = 4 → -2305843009213693952 ≤ a.Low ∧ a.High ≤ 2305843009213693952 ∧ a.Low ≤ a.Num ∧ a.Num ≤ a.High) ∧ a.Real = Zcc a.Real ∧
 (8 ≤ a.Kind → 1 ≤ a.Cap ∧ a.Cap ≤ 32 ∧ (a.List.length : Int) ≤ a.Cap ∧ ∀ i, i < a.List.length → Zg3 a.Kind a.List i = 0)
theorem Zmv {a : Zb} (ha : Zhq a) : Zdy a = some 0 ↔ Zf6 a := by
 by_cases hk : a.Kind ≤ 0 ∨ 10 ≤ a.Kind
 · have : Zdy a ≠ some 0 := by
     obtain ⟨c, hc, hc2⟩ := Zk5 ha
     unfold Zc9 at hc2
     rw [if_pos (by simp; omega)] at hc2
     rw [hc, ← hc2]; decide
   exact ⟨fun h => absurd h this, fun h => by obtain ⟨h1, h2, _⟩ := h; omega⟩
 · have fin : ∀ {t n b r l : Bool}, Zdo a.Kind = some ⟨t, n, b, r, l⟩ → t = decide (a.Kind = 1) → n = decide (2 ≤ a.Kind ∧ a.Kind ≤ 4) → b = decide (a.Kind = 4) → r = decide (5 ≤ a.Kind ∧ a.Kind ≤ 7) → l = decide (8 ≤ a.Kind) → (Zdy a = some 0 ↔ Zf6 a) := by
     intro t n b r l hs h1 h2 h3 h4 h5
     rw [Zfb ha hk hs]
     constructor
     · intro h
       obtain ⟨g1, g2, g3, g4, g5⟩ := Zpe.1 (Option.some.inj h)
       refine ⟨by omega, by omega, by rw [← h1, ← h2, ← h3, ← h4, ← h5]; exact g1, g2, fun hk4 => g3 (by rw [h3]; simpa using hk4), g4, fun hk8 => g5 (by rw [h5]; simpa using hk8)⟩
     · rintro ⟨_, _, g1, g2, g3, g4, g5⟩
       congr 1
       exact Zpe.2 ⟨by rw [h1, h2, h3, h4, h5]; exact g1, g2, fun hb => g3 (by rw [h3] at hb; simpa using hb), g4, fun hb => g5 (by rw [h5] at hb; simpa using hb)⟩
   have hk' : a.Kind = 1 ∨ a.Kind = 2 ∨ a.Kind = 3 ∨ a.Kind = 4 ∨ a.Kind = 5 ∨ a.Kind = 6 ∨ a.Kind = 7 ∨ a.Kind = 8 ∨ a.Kind = 9 := by omega
   rcases hk' with h | h | h | h | h | h | h | h | h <;> rw [h] at fin
   · exact fin Zxa rfl rfl rfl rfl rfl
   · exact fin Zw1 rfl rfl rfl rfl rfl
   · exact fin Zxg rfl rfl rfl rfl rfl
   · exact fin Zw3 rfl rfl rfl rfl rfl
   · exact fin Zwe rfl rfl rfl rfl rfl
   · exact fin Zwm rfl rfl rfl rfl rfl
   · exact fin Zwn rfl rfl rfl rfl rfl
   · exact fin Zvy rfl rfl rfl rfl rfl
   · exact fin Zwp rfl rfl rfl rfl rfl
theorem Zna {a : Zb} (h : Zf6 a) (hk : a.Kind = 8) : NS a.List := by
 obtain ⟨_, _, _, _, _, _, h8⟩ := h
 obtain ⟨_, _, _, hi⟩ := h8 (by omega)
 have step : ∀ i, i + 1 < a.List.length → sLt ((a.List[i]?).getD default).Name ((a.List[i + 1]?).getD default).Name = true := by
   intro i hi1
   have := hi (i + 1) hi1
   unfold Zg3 at this
   rw [List.getElem?_eq_getElem hi1] at this
   simp only [Nat.add_sub_cancel] at this
   split at this
   · cases this
   · split at this
     · cases this
     · split at this
       · cases this
       · rename_i h3
         rw [List.getElem?_eq_getElem hi1]
         cases hq : sLt ((a.List[i]?).getD default).Name a.List[i + 1].Name
         · exact absurd ⟨by omega, hk, hq⟩ h3
         · exact hq
 have far : ∀ d i, i + d + 1 < a.List.length → sLt ((a.List[i]?).getD default).Name ((a.List[i + d + 1]?).getD default).Name = true := by
   intro d
   induction d with
   | zero => intro i h; exact step i h
   | succ d ih => intro i h; exact Zrf (ih i (by omega)) (step (i + d + 1) (by omega))
 refine List.pairwise_iff_getElem.2 fun i j hi hj hij => ?_
 have := far (j - i - 1) i (by omega)
 rw [show i + (j - i - 1) + 1 = j by omega, List.getElem?_eq_getElem hi, List.getElem?_eq_getElem hj] at this
 exact this
theorem Zqq {neg : Bool} {r : Nat} (h : r ≤ Ieee.double.infRung) : Ieee.double.word neg r < W64 := by
 have h1 : Ieee.double.infRung = 9218868437227405312 := by decide
 have h2 : Ieee.double.signWeight = 9223372036854775808 := by decide
 unfold Ieee.Format.word
 rw [h1] at h
 show _ < 18446744073709551616
 split
 · rw [h2]; omega
 · omega
theorem Zvj (neg : Bool) (mag : Nat) (place : Int) : Ieee.double.nearest neg mag place < W64 := by
 unfold Ieee.Format.nearest
 split
 · exact Zqq (Nat.zero_le _)
 · exact Zqq (Nat.min_le_right _ _)
theorem Ztd {d : Ieee.Datum} (h : ∀ n f, d ≠ .nan n f) : Ieee.double.write d < W64 := by
 cases d with
 | number n m p => exact Zvj n m p
 | infinity n => exact Zqq (Nat.le_refl _)
 | nan n f => exact absurd rfl (h n f)
theorem Z1f {x y d : Ieee.Datum} (h : x.sum y = some d) : ∀ n f, d ≠ .nan n f := by
 intro n f e
 subst e
 cases x <;> cases y <;> simp [Ieee.Datum.sum] at h
theorem Ztg {x y d : Ieee.Datum} (h : x.product y = some d) : ∀ n f, d ≠ .nan n f := by
 intro n f e
 subst e
 cases x <;> cases y <;> simp [Ieee.Datum.product] at h
theorem Z1h (m n : Nat) : fadd m n < W64 := by
 unfold fadd Ieee.Format.add
 cases h : (Ieee.double.read m).sum (Ieee.double.read n) with
 | none => exact (by decide : 9221120237041090561 < W64)
 | some d => simpa using Ztd (Z1f h)
theorem Z1b (m n : Nat) : fmul m n < W64 := by
 unfold fmul Ieee.Format.mul
 cases h : (Ieee.double.read m).product (Ieee.double.read n) with
 | none => exact (by decide : 9221120237041090561 < W64)
 | some d => simpa using Ztd (Ztg h)
theorem Zn8 {z : Nat} (hz : z < W64) : ∃ p, Zd8 z = some p ∧ Zdx p = some (Zcc z) := by
 have hz' : z < 18446744073709551616 := hz
 unfold Zd8 Zdx Zcc NANB
 rw [Zmy hz]
 simp only [Option.bind_some]
 by_cases hn : isn z
 · refine ⟨18444492273895866369, by simp [hn]; decide, ?_⟩
   rw [if_pos (by decide), if_pos hn]; decide
 · simp only [hn, decide_false, Bool.false_eq_true, if_false]
   by_cases ht : (9223372036854775808 : Int) ≤ z
   · rw [if_pos (by simpa using ht)]
     refine ⟨_, rfl, ?_⟩
     rw [wru (x := (9223372036854775808 : Int) - 1) (by decide) (by decide), wru (x := (z : Int) - 9223372036854775808) (by omega) (by omega), wru (by omega) (by omega)]
     rw [if_neg (by simp; omega)]
     rw [wru (x := (9223372036854775808 : Int) - 1 - _) (by omega) (by omega), wru (by omega) (by omega)]
     congr 1; omega
   · rw [if_neg (by simpa using ht)]
     refine ⟨_, rfl, ?_⟩
     rw [wru (by omega) (by omega), if_pos (by simp; omega), wru (by omega) (by omega)]
     congr 1; omega
theorem Zya {a b : Nat} (ha : a < W64) (hb : b < W64) (ca : a = Zcc a) (cb : b = Zcc b) : ∃ m, Zh2 a b = some m ∧ Zey a b = some m ∧ (m = a ∨ m = b) := by
 unfold Zh2 Zey
 rw [Zmf ha hb, Zjn ha hb, Zf9 ha, Zf9 hb, ← ca, ← cb]
 by_cases h : keyf a < keyf b
 · exact ⟨b, by simp [h], by simp [h], .inr rfl⟩
 · exact ⟨a, by simp [h], by simp [h], .inl rfl⟩
theorem Zxv {a b : Nat} (ha : a < W64) (hb : b < W64) (ca : a = Zcc a) (cb : b = Zcc b) : ∃ m, Zhr a b = some m ∧ Zex a b = some m ∧ (m = a ∨ m = b) := by
 unfold Zhr Zex
 rw [Zmf hb ha, Zjn hb ha, Zf9 ha, Zf9 hb, ← ca, ← cb]
 by_cases h : keyf b < keyf a
 · exact ⟨b, by simp [h], by simp [h], .inr rfl⟩
 · exact ⟨a, by simp [h], by simp [h], .inl rfl⟩
def I64 (x : Int) : Prop := -9223372036854775808 ≤ x ∧ x ≤ 9223372036854775807
structure RecW (r : Zb) : Prop where
 ok : Zhq r
 num : I64 r.Num
 low : I64 r.Low
 high : I64 r.High
 kind : I64 r.Kind
 len : r.List.length ≤ 1000
structure ActW (a : Zs) : Prop where
 ok : Zpp a
 n : I64 a.N
 mkr : RecW a.Make
 xc : a.X = Zcc a.X
 inout : (a.Kind = 10 ∨ a.Kind = 11) → 0 ≤ a.N ∧ a.N ≤ 2305843009213693952
 s64 : a.S.size ≤ 64
 s16 : ¬ (5 ≤ a.Kind ∧ a.Kind ≤ 6) → a.S.size ≤ 16
abbrev ans (c : Int) : Zi := { Code := c, Num := 0, Rec := default }
def Chg (r : Zb) (a : Zs) : Prop := ∃ c r' o, Zbu a.Kind r a (default : Zi) = some (c, r', o) ∧ Zbk r a = some (if c = 0 then (r', o) else (r, ans c)) ∧ RecW r' ∧ RecW o.Rec ∧ (c = 0 → o.Code = 0 ∧ o.Num = 0)
theorem Zkj (x : Int) : I64 (IntKind.i64.wrap x) := by unfold I64; rw [IntKind.wrap_i64]; omega
theorem Zc3 : RecW (default : Zb) := ⟨⟨by decide, by decide, fun e he => by cases he⟩, by unfold I64; decide, by unfold I64; decide, by unfold I64; decide, by unfold I64; decide, by decide⟩
theorem RecW.withNum {r : Zb} (h : RecW r) {x : Int} (hx : I64 x) : RecW { r with Num := x } := ⟨⟨h.ok.real, h.ok.len, h.ok.sc⟩, hx, h.low, h.high, h.kind, h.len⟩
theorem RecW.withText {r : Zb} (h : RecW r) (t : ByteArray) : RecW { r with Text := t } := ⟨⟨h.ok.real, h.ok.len, h.ok.sc⟩, h.num, h.low, h.high, h.kind, h.len⟩
theorem RecW.withReal {r : Zb} (h : RecW r) {x : Nat} (hx : x < W64) : RecW { r with Real := x } := ⟨⟨hx, h.ok.len, h.ok.sc⟩, h.num, h.low, h.high, h.kind, h.len⟩
theorem RecW.withList {r : Zb} (h : RecW r) {l : Zdj} (h1 : l.length ≤ 1000) (h2 : ∀ e ∈ l, e.Score < W64) : RecW { r with List := l } := ⟨⟨h.ok.real, by show l.length < _; omega, h2⟩, h.num, h.low, h.high, h.kind, h1⟩
theorem Zh5 {r : Zb} (h : r.List.length ≤ 1000) : Zf2 r = some r := by
 unfold Zf2 Zbt
 rw [if_pos (by omega)]; rfl
theorem Zly {r : Zb} (h : r.List.length ≤ 1000) : Zdz r = some r := by
 unfold Zdz
 rw [if_pos (by simp; omega)]; rfl
variable {r : Zb} {a : Zs}
theorem Z05 (h : a.Kind = 5) (hr : RecW r) : Chg r a := by
 refine ⟨0, { r with Text := a.S }, ans 0, ?_, ?_, hr.withText _, Zc3, fun _ => ⟨rfl, rfl⟩⟩
 · rw [h]; rfl
 · unfold Zbk; rw [h]; rfl
theorem Zx3 (h : a.Kind = 6) (hr : RecW r) : Chg r a := by
 refine ⟨0, { r with Text := a.S }, { ans 0 with Rec := r }, ?_, ?_, hr.withText _, hr, fun _ => ⟨rfl, rfl⟩⟩
 · rw [h]
   show Zh3 r a default = _
   unfold Zh3
   rw [Zh5 hr.len]; rfl
 · unfold Zbk; rw [h, Zly hr.len]; rfl
theorem Z1e (h : a.Kind = 7) (hr : RecW r) : Chg r a := by
 refine ⟨0, { r with Num := IntKind.i64.wrap (r.Num + a.N) }, ans 0, ?_, ?_, hr.withNum (Zkj _), Zc3, fun _ => ⟨rfl, rfl⟩⟩
 · rw [h]; rfl
 · unfold Zbk; rw [h]; rfl
theorem Zxf (hr : I64 r.Num) (hn : I64 a.N) : (((decide ((0 : Int) < a.N)) && (decide ((IntKind.i64.wrap ((9223372036854775807 : Int) - a.N)) < r.Num))) || ((decide (a.N < (0 : Int))) && (decide (r.Num < (IntKind.i64.wrap ((-9223372036854775808 : Int) - a.N)))))) =
   ((((decide ((0 : Int) < r.Num)) && (decide ((0 : Int) < a.N))) && (decide ((IntKind.i64.wrap (r.Num + a.N)) < (0 : Int)))) || (((decide (r.Num < (0 : Int))) && (decide (a.N < (0 : Int)))) && (decide ((0 : Int) ≤ (IntKind.i64.wrap (r.Num + a.N)))))) := by
 unfold I64 at hr hn
 rw [Bool.eq_iff_iff]
 simp only [Bool.or_eq_true, Bool.and_eq_true, decide_eq_true_eq, IntKind.wrap_i64]
 omega
theorem Zyj (h : a.Kind = 8) (hr : RecW r) (ha : ActW a) : Chg r a := by
 have e1 : Zbu a.Kind r a default = Zkr r a default := by rw [h]; rfl
 have e2 : Zbk r a = (Zgr r.Num a.N).bind fun r7 => (if r7 then (Zy r (ans 9)) else (Zy { r with Num := IntKind.i64.wrap (r.Num + a.N) } (ans 0))) := by unfold Zbk; rw [h]; rfl
 have hp := Zxf hr.num ha.n
 unfold Chg
 rw [e1, e2]
 unfold Zkr Zgr Zy
 rw [hp]
 simp only [Option.bind_some]
 split
 · exact ⟨9, r, _, rfl, rfl, hr, Zc3, fun h => by cases h⟩
 · exact ⟨0, _, _, rfl, rfl, hr.withNum (Zkj _), Zc3, fun _ => ⟨rfl, rfl⟩⟩
theorem Zri (h : a.Kind = 9 ∨ a.Kind = 12) (hr : RecW r) : Chg r a := by
 have e1 : Zbu a.Kind r a default = Zh4 r a default := by rcases h with h | h <;> rw [h] <;> rfl
 have e2 : Zbk r a = (if (decide (r.Num < a.N)) then (Zy r (ans 11)) else (Zy r (ans 0))) := by rcases h with h | h <;> unfold Zbk Zb7 <;> rw [h] <;> rfl
 unfold Chg
 rw [e1, e2]
 unfold Zh4 Zy
 split
 · exact ⟨11, r, _, rfl, rfl, hr, Zc3, fun h => by cases h⟩
 · exact ⟨0, r, _, rfl, rfl, hr, Zc3, fun _ => ⟨rfl, rfl⟩⟩
theorem Zyy (hg : Zf6 r) (hk : r.Kind = 4) : -2305843009213693952 ≤ r.Low ∧ r.High ≤ 2305843009213693952 ∧ r.Low ≤ r.Num ∧ r.Num ≤ r.High := hg.2.2.2.2.1 hk
theorem Z12 (h : a.Kind = 10) (hr : RecW r) (hg : Zf6 r) (hk : r.Kind = 4) (ha : ActW a) : Chg r a := by
 have e1 : Zbu a.Kind r a default = Zh1 r a default := by rw [h]; rfl
 have e2 : Zbk r a = (if (decide (r.High < IntKind.i64.wrap (r.Num + a.N))) then (Zy r (ans 9)) else (Zy { r with Num := IntKind.i64.wrap (r.Num + a.N) } (ans 0))) := by unfold Zbk Zb7; rw [h]; rfl
 obtain ⟨p1, p2, p3, p4⟩ := Zyy hg hk
 obtain ⟨n1, n2⟩ := ha.inout (.inl h)
 have hd : decide (IntKind.i64.wrap (r.High - r.Num) < a.N) = decide (r.High < IntKind.i64.wrap (r.Num + a.N)) := by
   rw [wr (x := r.High - r.Num) (by omega) (by omega), wr (x := r.Num + a.N) (by omega) (by omega)]
   apply decide_eq_decide.2; omega
 unfold Chg
 rw [e1, e2]
 unfold Zh1 Zy
 rw [hd]
 split
 · exact ⟨9, r, _, rfl, rfl, hr, Zc3, fun h => by cases h⟩
 · exact ⟨0, _, _, rfl, rfl, hr.withNum (Zkj _), Zc3, fun _ => ⟨rfl, rfl⟩⟩
theorem Z0e (h : a.Kind = 11) (hr : RecW r) (hg : Zf6 r) (hk : r.Kind = 4) (ha : ActW a) : Chg r a := by
 have e1 : Zbu a.Kind r a default = Zhu r a default := by rw [h]; rfl
 have e2 : Zbk r a = (if (decide (IntKind.i64.wrap (r.Num - a.N) < r.Low)) then (Zy r (ans 10)) else (Zy { r with Num := IntKind.i64.wrap (r.Num - a.N) } (ans 0))) := by unfold Zbk Zb7; rw [h]; rfl
 obtain ⟨p1, p2, p3, p4⟩ := Zyy hg hk
 obtain ⟨n1, n2⟩ := ha.inout (.inr h)
 have hd : decide (IntKind.i64.wrap (r.Num - r.Low) < a.N) = decide (IntKind.i64.wrap (r.Num - a.N) < r.Low) := by
   rw [wr (x := r.Num - r.Low) (by omega) (by omega), wr (x := r.Num - a.N) (by omega) (by omega)]
   apply decide_eq_decide.2; omega
 unfold Chg
 rw [e1, e2]
 unfold Zhu Zy
 rw [hd]
 split
 · exact ⟨10, r, _, rfl, rfl, hr, Zc3, fun h => by cases h⟩
 · exact ⟨0, _, _, rfl, rfl, hr.withNum (Zkj _), Zc3, fun _ => ⟨rfl, rfl⟩⟩
theorem Zlh {m : Nat} {ψ : Nat → Nat → Option Nat} (h : Zbu a.Kind r a default = Zel ψ r a default) (h1 : ψ r.Real a.X = some m) (hm : m < W64) (h2 : Zbk r a = some ({ r with Real := m }, ans 0)) (hr : RecW r) : Chg r a := by
 refine ⟨0, { r with Real := m }, ans 0, ?_, h2, hr.withReal hm, Zc3, fun _ => ⟨rfl, rfl⟩⟩
 rw [h]
 unfold Zel
 rw [h1]; rfl
theorem Zrh (hg : Zf6 r) : r.Real = Zcc r.Real := hg.2.2.2.2.2.1
theorem Zwy (h : a.Kind = 13) (hr : RecW r) (hg : Zf6 r) (ha : ActW a) : Chg r a := by
 obtain ⟨m, m1, m2, m3⟩ := Zya hr.ok.real ha.ok.2 (Zrh hg) ha.xc
 refine Zlh (m := m) (ψ := fun x y => Zh2 x y) (by rw [h]; rfl) m1 (by rcases m3 with rfl | rfl; exact hr.ok.real; exact ha.ok.2) ?_ hr
 unfold Zbk Zb7; rw [h, m2]; rfl
theorem Zv9 (h : a.Kind = 14) (hr : RecW r) (hg : Zf6 r) (ha : ActW a) : Chg r a := by
 obtain ⟨m, m1, m2, m3⟩ := Zxv hr.ok.real ha.ok.2 (Zrh hg) ha.xc
 refine Zlh (m := m) (ψ := fun x y => Zhr x y) (by rw [h]; rfl) m1 (by rcases m3 with rfl | rfl; exact hr.ok.real; exact ha.ok.2) ?_ hr
 unfold Zbk Zb7; rw [h, m2]; rfl
theorem Zxi (h : a.Kind = 15) (hr : RecW r) : Chg r a := by
 have hz := Z1h r.Real a.X
 obtain ⟨p, p1, p2⟩ := Zn8 hz
 refine Zlh (m := Zcc (fadd r.Real a.X)) (ψ := fun x y => Ziz x y) (by rw [h]; rfl) (by show Ziz r.Real a.X = _; unfold Ziz; rw [Zf9 hz]; rfl) (Zjl hz) ?_ hr
 unfold Zbk Zb7; rw [h, p1]
 show ((Zdx p).bind _) = _
 rw [p2]; rfl
theorem Zv8 (h : a.Kind = 16) (hr : RecW r) : Chg r a := by
 have hz := Z1b r.Real a.X
 obtain ⟨p, p1, p2⟩ := Zn8 hz
 refine Zlh (m := Zcc (fmul r.Real a.X)) (ψ := fun x y => Zh7 x y) (by rw [h]; rfl) (by show Zh7 r.Real a.X = _; unfold Zh7; rw [Zf9 hz]; rfl) (Zjl hz) ?_ hr
 unfold Zbk Zb7; rw [h, p1]
 show ((Zdx p).bind _) = _
 rw [p2]; rfl
theorem Z0j (h : a.Kind = 17) (hr : RecW r) (ha : ActW a) : Chg r a := by
 refine Zlh (m := a.X) (ψ := fun x y => Zgk x y) (by rw [h]; rfl) rfl ha.ok.2 ?_ hr
 unfold Zbk Zb7; rw [h]; rfl
theorem Zrb (hg : Zf6 r) (hk : 8 ≤ r.Kind) : 1 ≤ r.Cap ∧ r.Cap ≤ 32 ∧ (r.List.length : Int) ≤ r.Cap := by
 obtain ⟨h1, h2, h3, _⟩ := hg.2.2.2.2.2.2 hk
 exact ⟨h1, h2, h3⟩
theorem Zzt (h : a.Kind = 20) (hr : RecW r) (hg : Zf6 r) (hk : r.Kind = 8) : Chg r a := by
 have hs := Zna hg hk
 have hl := hr.len
 have e1 : Zbu a.Kind r a default = Zhw r a default := by rw [h]; rfl
 have e2 : Zbk r a = (Ze0 r.List a.S).bind fun r59 => (if (!r59) then (Zy r (ans 11)) else (Zy r (ans 0))) := by unfold Zbk Zb7; rw [h]; rfl
 unfold Chg
 rw [e1, e2]
 unfold Zhw Zy
 rw [Zqw hs (by omega), Zxb (by omega), Zs2 hs]
 simp only [Option.bind_some]
 split
 · exact ⟨11, r, _, rfl, rfl, hr, Zc3, fun h => by cases h⟩
 · exact ⟨0, r, _, rfl, rfl, hr, Zc3, fun _ => ⟨rfl, rfl⟩⟩
theorem Zxt (h : a.Kind = 18) (hr : RecW r) (hg : Zf6 r) (hk : r.Kind = 8) : Chg r a := by
 have hs := Zna hg hk
 have hl := hr.len
 obtain ⟨c1, c2, c3⟩ := Zrb hg (by omega)
 have e1 : Zbu a.Kind r a default = Zi4 r a default := by rw [h]; rfl
 have e2 : Zbk r a = (Ze0 r.List a.S).bind fun r40 => (if ((!r40) && (decide (r.Cap ≤ (r.List.length : Int)))) then (Zy r (ans 8)) else ((Zeh r.List ({ Score := (0 : Nat), Name := a.S } : Zh) true).bind fun r43 => (Zy ({ r with List := r43 }) (ans 0)))) := by unfold Zbk Zb7; rw [h]; rfl
 have hple := Znw (fun e => sLt e.Name a.S) r.List
 unfold Chg
 rw [e1, e2]
 unfold Zi4 Zy
 rw [Zqw hs (by omega), Zxb (by omega), Zs2 hs, Zuf (show (0 : Nat) < W64 by decide) hr.ok.sc (by omega), Zxk, Zqz (by omega)]
 simp only [Option.bind_some]
 by_cases hat : isAt a.S r.List = true
 · rw [hat]
   exact ⟨0, r, _, rfl, rfl, hr, Zc3, fun _ => ⟨rfl, rfl⟩⟩
 · have hat' : isAt a.S r.List = false := by simpa using hat
   rw [hat']
   simp only [Bool.not_false, Bool.true_and, Bool.false_eq_true, if_false]
   by_cases hc : decide (r.Cap ≤ (r.List.length : Int)) = true
   · rw [if_pos hc, if_pos hc]
     exact ⟨8, r, _, rfl, rfl, hr, Zc3, fun h => by cases h⟩
   · rw [if_neg hc, if_neg hc]
     unfold Zco
     rw [if_pos ⟨by omega, by omega, by simp, by simp; omega⟩]
     refine ⟨0, _, _, rfl, rfl, hr.withList (by simp; omega) fun e he => ?_, Zc3, fun _ => ⟨rfl, rfl⟩⟩
     simp only [List.mem_append, List.mem_singleton, Int.toNat_natCast] at he
     rcases he with (he | rfl) | he
     · exact hr.ok.sc e (List.mem_of_mem_take he)
     · exact (show (0 : Nat) < W64 by decide)
     · exact hr.ok.sc e (List.mem_of_mem_drop he)
theorem Zxj (h : a.Kind = 19) (hr : RecW r) (hg : Zf6 r) (hk : r.Kind = 8) : Chg r a := by
 have hs := Zna hg hk
 have hl := hr.len
 have e1 : Zbu a.Kind r a default = Zht r a default := by rw [h]; rfl
 have e2 : Zbk r a = (Zc2 r a (Int.toNat ((r.List.length : Int) - (0 : Int)) + 1) ([] : List Zh) (0 : Int)).bind fun z57 => match z57 with | y56 => (Zy ({ r with List := y56 }) (ans 0)) := by unfold Zbk Zb7; rw [h]; rfl
 have hple := Znw (fun e => sLt e.Name a.S) r.List
 unfold Chg
 rw [e1, e2]
 unfold Zht Zy
 have hf := Zn5 (a := a) (a0 := r) (by omega) r.List.length 0 [] (by omega) (by simp)
 rw [show ((0 : Nat) : Int) = 0 from rfl] at hf
 rw [Zqw hs (by omega), show (Int.toNat ((r.List.length : Int) - (0 : Int)) + 1) = r.List.length + 1 by omega, hf, List.drop_zero, List.nil_append, Zwk hs, Zqz (by omega)]
 simp only [Option.bind_some]
 by_cases hat : isAt a.S r.List = true
 · have hp : pre (fun e => sLt e.Name a.S) r.List < r.List.length := by
     unfold isAt at hat
     cases hq : r.List[pre (fun e => sLt e.Name a.S) r.List]? with
     | none => rw [hq] at hat; cases hat
     | some e => exact (List.getElem?_eq_some_iff.1 hq).1
   rw [hat]
   simp only [if_true]
   unfold Zd6
   rw [wr1 (by omega), if_pos ⟨by omega, by omega, by omega, by omega, by omega⟩]
   refine ⟨0, _, _, rfl, rfl, hr.withList (by simp; omega) fun e he => ?_, Zc3, fun _ => ⟨rfl, rfl⟩⟩
   simp only [List.mem_append, Int.toNat_natCast] at he
   rcases he with he | he
   · exact hr.ok.sc e (List.mem_of_mem_take he)
   · exact hr.ok.sc e (List.mem_of_mem_drop he)
 · have hat' : isAt a.S r.List = false := by simpa using hat
   rw [hat']
   exact ⟨0, r, _, rfl, rfl, hr, Zc3, fun _ => ⟨rfl, rfl⟩⟩
variable {r : Zb} {a : Zs}
theorem Zxw {l : Zdj} {c : Int} (h1 : 1 ≤ c) (h2 : c ≤ 32) : cut l 0 (min (l.length : Int) c) = some (l.take c.toNat) := by
 unfold cut
 rw [if_pos (by omega)]
 simp only [Int.toNat_zero, List.drop_zero, Nat.sub_zero]
 congr 1
 rcases Int.le_total (l.length : Int) c with h | h
 · rw [Int.min_eq_left h, Int.toNat_natCast, List.take_of_length_le (Nat.le_refl _), List.take_of_length_le (by omega)]
 · rw [Int.min_eq_right h]
theorem Zw6 (h : a.Kind = 21) (hr : RecW r) (hg : Zf6 r) (hk : r.Kind = 9) (ha : ActW a) : Chg r a := by
 have hl := hr.len
 obtain ⟨c1, c2, c3⟩ := Zrb hg (by omega)
 have e1 : Zbu a.Kind r a default = Zia r a default := by rw [h]; rfl
 have e2 : Zbk r a = (Zeh r.List ({ Score := a.X, Name := a.S } : Zh) false).bind fun r63 => (if (decide (r.Cap < (r63.length : Int))) then ((cut r63 (0 : Int) r.Cap).bind fun c66 => (Zdk r c66)) else (Zdk r r63)) := by unfold Zbk Zb7; rw [h]; rfl
 have hx : ({ Score := a.X, Name := a.S } : Zh).Score < W64 := ha.ok.2
 have hple := Znw (Zej { Score := a.X, Name := a.S } false) r.List
 unfold Chg
 rw [e1, e2]
 unfold Zia
 rw [Zxl ha.ok.2 hr.ok.sc (by omega), Zuf hx hr.ok.sc (by omega), Zqz (by omega)]
 simp only [Option.bind_some]
 have fin : ∀ L : Zdj, L = r.List.take (pre (Zej { Score := a.X, Name := a.S } false) r.List) ++ [{ Score := a.X, Name := a.S }] ++ r.List.drop (pre (Zej { Score := a.X, Name := a.S } false) r.List) → layL { Score := a.X, Name := a.S } false r.List = L →
     ∃ c r' o, ((Zco r.List ((pre (Zej { Score := a.X, Name := a.S } false) r.List : Nat) : Int) ([({ Score := a.X, Name := a.S } : Zh)] : List Zh)).bind fun r16 => ((cut r16 (0 : Int) (min (r16.length : Int) r.Cap)).bind fun c18 => (some ((0 : Int), ({ r with List := c18 }), (default : Zi))))) = some (c, r', o) ∧
       (if (decide (r.Cap < ((layL { Score := a.X, Name := a.S } false r.List).length : Int))) = true then ((cut (layL { Score := a.X, Name := a.S } false r.List) (0 : Int) r.Cap).bind fun c66 => (Zdk r c66)) else (Zdk r (layL { Score := a.X, Name := a.S } false r.List))) = some (if c = 0 then (r', o) else (r, ans c)) ∧ RecW r' ∧ RecW o.Rec ∧ (c = 0 → o.Code = 0 ∧ o.Num = 0) := by
   intro L hL hlay
   have hLl : L.length = r.List.length + 1 := by rw [hL]; simp; omega
   have hLs : ∀ e ∈ L, e.Score < W64 := fun e he => by
     rw [hL] at he
     simp only [List.mem_append, List.mem_singleton] at he
     rcases he with (he | rfl) | he
     · exact hr.ok.sc e (List.mem_of_mem_take he)
     · exact hx
     · exact hr.ok.sc e (List.mem_of_mem_drop he)
   rw [hlay]
   unfold Zco Zdk Zy
   rw [if_pos ⟨by omega, by omega, by simp, by simp; omega⟩]
   simp only [Option.bind_some, Int.toNat_natCast]
   rw [← hL, Zxw c1 c2]
   refine ⟨0, { r with List := L.take r.Cap.toNat }, ans 0, rfl, ?_, hr.withList (by simp; omega) (fun e he => hLs e (List.mem_of_mem_take he)), Zc3, fun _ => ⟨rfl, rfl⟩⟩
   by_cases hc : decide (r.Cap < (L.length : Int)) = true
   · rw [if_pos hc]
     have : r.Cap < (L.length : Int) := of_decide_eq_true hc
     unfold cut
     rw [if_pos (by omega)]
     simp
   · rw [if_neg hc]
     have : ¬ r.Cap < (L.length : Int) := fun h => hc (decide_eq_true h)
     rw [List.take_of_length_le (by omega)]; rfl
 by_cases hp : pre (Zej { Score := a.X, Name := a.S } false) r.List < r.List.length
 · have hd : decide (((pre (Zej { Score := a.X, Name := a.S } false) r.List : Nat) : Int) < (r.List.length : Int)) = true := by simpa using hp
   have hat := Zp3 (List.getElem?_eq_getElem hp)
   have hb : Zft r.List[pre (Zej { Score := a.X, Name := a.S } false) r.List] { Score := a.X, Name := a.S } = false := hat
   have hbs := Ztu hb
   rw [hd, Zed hp]
   simp only [gd_t, Option.bind_some, Bool.true_and]
   rw [Zns hx (hr.ok.sc _ (List.getElem_mem hp))]
   simp only [Option.bind_some]
   by_cases hs : (!Zft { Score := a.X, Name := a.S } r.List[pre (Zej { Score := a.X, Name := a.S } false) r.List]) = true
   · rw [if_pos hs]
     have hlay : layL { Score := a.X, Name := a.S } false r.List = r.List := by
       unfold layL
       rw [List.getElem?_eq_getElem hp]
       simp only
       rw [if_pos (by rw [← hbs]; exact hs), List.append_nil, List.take_append_drop]
     rw [hlay, if_neg (by simp; omega)]
     exact ⟨0, r, _, rfl, rfl, hr, Zc3, fun _ => ⟨rfl, rfl⟩⟩
   · rw [if_neg hs]
     refine fin _ rfl ?_
     unfold layL
     rw [List.getElem?_eq_getElem hp]
     simp only
     rw [if_neg (by rw [← hbs]; exact hs)]
 · have hd : decide (((pre (Zej { Score := a.X, Name := a.S } false) r.List : Nat) : Int) < (r.List.length : Int)) = false := by simpa using hp
   rw [hd]
   simp only [gd_f, Option.bind_some, Bool.false_and, Bool.false_eq_true, if_false]
   refine fin _ rfl ?_
   unfold layL
   rw [List.getElem?_eq_none (by omega), List.take_of_length_le (by omega), List.drop_of_length_le (by omega), List.append_nil]
theorem Zmk {k : Int} (h1 : 1 ≤ k) (h2 : k ≤ 21) : ∃ on, Zll k = some on ∧ Zdp k = some on ∧ (k ≤ 4 → on = 0) ∧ (5 ≤ k → on ≠ 0) ∧ ((k = 10 ∨ k = 11) → on = 4) ∧ ((k = 18 ∨ k = 19 ∨ k = 20) → on = 8) ∧ (k = 21 → on = 9) ∧
   ((k = 5 ∨ k = 6) → on = 1) ∧ (k = 7 → on = 2) ∧ ((k = 8 ∨ k = 9) → on = 3) ∧ (k = 12 → on = 4) ∧ (k = 13 → on = 5) ∧ (k = 14 → on = 6) ∧ ((k = 15 ∨ k = 16 ∨ k = 17) → on = 7) := by
 have hk' : k = 1 ∨ k = 2 ∨ k = 3 ∨ k = 4 ∨ k = 5 ∨ k = 6 ∨ k = 7 ∨ k = 8 ∨ k = 9 ∨ k = 10 ∨ k = 11 ∨ k = 12 ∨ k = 13 ∨ k = 14 ∨ k = 15 ∨ k = 16 ∨ k = 17 ∨ k = 18 ∨ k = 19 ∨ k = 20 ∨ k = 21 := by omega
 rcases hk' with rfl | rfl | rfl | rfl | rfl | rfl | rfl | rfl | rfl | rfl | rfl | rfl | rfl | rfl | rfl | rfl | rfl | rfl | rfl | rfl | rfl
 all_goals first
   | exact ⟨0, by kernel_rfl, by kernel_rfl, by decide⟩
   | exact ⟨1, by kernel_rfl, by kernel_rfl, by decide⟩
   | exact ⟨2, by kernel_rfl, by kernel_rfl, by decide⟩
   | exact ⟨3, by kernel_rfl, by kernel_rfl, by decide⟩
   | exact ⟨4, by kernel_rfl, by kernel_rfl, by decide⟩
   | exact ⟨5, by kernel_rfl, by kernel_rfl, by decide⟩
   | exact ⟨6, by kernel_rfl, by kernel_rfl, by decide⟩
   | exact ⟨7, by kernel_rfl, by kernel_rfl, by decide⟩
   | exact ⟨8, by kernel_rfl, by kernel_rfl, by decide⟩
   | exact ⟨9, by kernel_rfl, by kernel_rfl, by decide⟩
theorem Zua (h5 : 5 ≤ a.Kind) (h21 : a.Kind ≤ 21) (hr : RecW r) (hg : Zf6 r) (hon : Zll a.Kind = some r.Kind) (ha : ActW a) : Chg r a := by
 obtain ⟨on, o1, _, _, _, k10, k18, k21, _⟩ := Zmk (k := a.Kind) (by omega) h21
 rw [hon] at o1
 obtain rfl := Option.some.inj o1
 have hk' : a.Kind = 5 ∨ a.Kind = 6 ∨ a.Kind = 7 ∨ a.Kind = 8 ∨ a.Kind = 9 ∨ a.Kind = 10 ∨ a.Kind = 11 ∨ a.Kind = 12 ∨ a.Kind = 13 ∨ a.Kind = 14 ∨ a.Kind = 15 ∨ a.Kind = 16 ∨ a.Kind = 17 ∨ a.Kind = 18 ∨ a.Kind = 19 ∨ a.Kind = 20 ∨ a.Kind = 21 := by omega
 rcases hk' with h | h | h | h | h | h | h | h | h | h | h | h | h | h | h | h | h
 · exact Z05 h hr
 · exact Zx3 h hr
 · exact Z1e h hr
 · exact Zyj h hr ha
 · exact Zri (.inl h) hr
 · exact Z12 h hr hg (k10 (.inl h)) ha
 · exact Z0e h hr hg (k10 (.inr h)) ha
 · exact Zri (.inr h) hr
 · exact Zwy h hr hg ha
 · exact Zv9 h hr hg ha
 · exact Zxi h hr
 · exact Zv8 h hr
 · exact Z0j h hr ha
 · exact Zxt h hr hg (k18 (.inl h))
 · exact Zxj h hr hg (k18 (.inr (.inl h)))
 · exact Zzt h hr hg (k18 (.inr (.inr h)))
 · exact Zw6 h hr hg (k21 h) ha
structure ActIn (a : Zs) : Prop where
 ok : Zpp a
 n : I64 a.N
 mkr : RecW a.Make
theorem ActIn.w {a : Zs} (h : ActIn a) {c : Int} (hc : 1 ≤ a.Kind ∧ a.Kind ≤ 21 ∧ a.X = Zcc a.X ∧ a.S.size ≤ 64 ∧ ((a.Kind = 10 ∨ a.Kind = 11) → 0 ≤ a.N ∧ a.N ≤ 2305843009213693952) ∧ (a.Kind = 1 → Zdy a.Make = some 0) ∧ (¬ (5 ≤ a.Kind ∧ a.Kind ≤ 6) → a.S.size ≤ 16) ∧ sEq a.Key ⟨#[]⟩ = false ∧ a.Key.size ≤ 24) : ActW a :=
 ⟨h.ok, h.n, h.mkr, hc.2.2.1, hc.2.2.2.2.1, hc.2.2.2.1, hc.2.2.2.2.2.2.1⟩
theorem Zt7 {there : Bool} {r : Zb} {c : Int} (hc : c ≠ 0) {on : Int} (ho : Zdp a.Kind = some on) : Zdc there a r c = some (r, there, ans c) := by
 have h1 : (c == 0) = false := by simpa using hc
 have h2 : (c != 0) = true := by simpa using hc
 unfold Zdc
 simp only [h1, Bool.false_and, Bool.false_eq_true, if_false]
 unfold Zeq
 simp only [h1, Bool.false_and, Bool.false_eq_true, if_false]
 unfold Zer
 rw [ho]
 simp only [h1, Bool.false_and, Bool.false_eq_true, if_false, Option.bind_some]
 unfold Zen
 rw [if_pos h2]
theorem Z0i (k : Int) : ∃ on, Zdp k = some on := by
 by_cases h : k < 0 ∨ 21 < k
 · exact ⟨0, by unfold Zdp; rw [if_pos (by simpa using h)]⟩
 · by_cases h0 : k = 0
   · exact ⟨0, by rw [h0]; kernel_rfl⟩
   · obtain ⟨on, _, h2, _⟩ := Zmk (k := k) (by omega) (by omega)
     exact ⟨on, h2⟩
theorem Zps {r : Zb} {there : Bool} {a : Zs} (hr : RecW r) (ha : ActIn a) : ∃ x is out, Zgg r there a = some (x, is, out) ∧ Zev r there a = some (x, is, out) ∧ RecW x ∧ RecW out.Rec := by
 suffices hs : ∀ r0 : Zb, RecW r0 → ∃ x is out, Zfm there a r0 = some (x, is, out) ∧ Zes there a r0 = some (x, is, out) ∧ RecW x ∧ RecW out.Rec by
   unfold Zgg Zev
   cases there
   · exact hs _ Zc3
   · exact hs r hr
 intro r0 hr0
 unfold Zfm Zes
 rw [Zh5 hr0.len, Zly hr0.len]
 obtain ⟨c, h1, h2, h3⟩ := Zq4 ha.ok
 obtain ⟨on, hon⟩ := Z0i a.Kind
 rw [h1, h2]
 simp only [Option.bind_some]
 by_cases hc : c = 0
 · subst hc
   have hf := h3 rfl
   have hw := ha.w (c := 0) hf
   obtain ⟨on2, o1, o2, o3, o4, _⟩ := Zmk hf.1 hf.2.1
   have main : (there = true → Zf6 r0) → ∃ x is out, Zfn there a r0 = some (x, is, out) ∧ Zdc there a r0 0 = some (x, is, out) ∧ RecW x ∧ RecW out.Rec := by
     intro hg
     unfold Zfn Zff Zdc Zeq Zer
     rw [o1, o2, Zh5 hr0.len, Zh5 ha.mkr.len]
     unfold Zen
     rw [Zly hr0.len, Zly ha.mkr.len]
     simp only [Option.bind_some]
     by_cases k1 : a.Kind = 1
     · rw [k1, o3 (by omega)]
       cases there
       · exact ⟨a.Make, true, ans 0, rfl, rfl, ha.mkr, Zc3⟩
       · exact ⟨r0, true, ans 7, rfl, rfl, hr0, Zc3⟩
     · by_cases k3 : a.Kind = 3
       · rw [k3, o3 (by omega)]
         cases there
         · exact ⟨r0, false, { ans 0 with Num := r0.Kind }, rfl, rfl, hr0, Zc3⟩
         · exact ⟨r0, true, { ans 0 with Num := r0.Kind }, rfl, rfl, hr0, Zc3⟩
       · by_cases k2 : a.Kind = 2
         · rw [k2, o3 (by omega)]
           cases there
           · exact ⟨r0, false, ans 6, rfl, rfl, hr0, Zc3⟩
           · exact ⟨zrc, false, ans 0, rfl, rfl, Zc3, Zc3⟩
         · by_cases k4 : a.Kind = 4
           · rw [k4, o3 (by omega)]
             cases there
             · exact ⟨r0, false, ans 6, rfl, rfl, hr0, Zc3⟩
             · exact ⟨r0, true, { ans 0 with Rec := r0 }, rfl, rfl, hr0, hr0⟩
           · have h5 : 5 ≤ a.Kind := by omega
             have b1 : (a.Kind == 1) = false := by simpa using k1
             have b2 : (a.Kind == 2) = false := by simpa using k2
             have b3 : (a.Kind == 3) = false := by simpa using k3
             have b4 : (a.Kind == 4) = false := by simpa using k4
             have b1' : (a.Kind != 1) = true := by simpa using k1
             have b3' : (a.Kind != 3) = true := by simpa using k3
             have bo : (on2 != 0) = true := by simpa using o4 h5
             simp only [b1, b2, b3, b4, b1', b3', bo, Bool.false_and, Bool.and_false, Bool.and_true, Bool.true_and, Bool.false_eq_true, if_false, beq_self_eq_true]
             cases there
             · exact ⟨r0, false, ans 6, rfl, rfl, hr0, Zc3⟩
             · simp only [Bool.not_true, Bool.false_eq_true, if_false, Bool.and_false, Bool.false_and, beq_self_eq_true, Bool.true_and]
               by_cases hk : (on2 != r0.Kind) = true
               · rw [if_pos hk, if_pos hk]
                 exact ⟨r0, true, ans 5, rfl, rfl, hr0, Zc3⟩
               · rw [if_neg hk, if_neg hk, if_pos ⟨h5, hf.2.1⟩]
                 have hk' : on2 = r0.Kind := by simpa using hk
                 obtain ⟨c, r', o, e1, e2, w1, w2, _⟩ := Zua h5 hf.2.1 hr0 (hg rfl) (by rw [← hk']; exact o1) hw
                 rw [e1, e2]
                 simp only [Option.bind_some]
                 by_cases hc : c = 0
                 · subst hc
                   exact ⟨r', true, o, rfl, rfl, w1, w2⟩
                 · have hcn : (c != 0) = true := by simpa using hc
                   rw [if_pos hcn, if_neg hc]
                   exact ⟨r0, true, ans c, rfl, rfl, hr0, Zc3⟩
   have z1 : ((0 : Int) != 0) = false := rfl
   have z2 : ((0 : Int) == 0) = true := rfl
   rw [z1, z2]
   simp only [Bool.false_eq_true, if_false, Bool.true_and]
   by_cases ht : there = true
   · rw [if_pos ht, if_pos ht]
     obtain ⟨c2, g1, g2⟩ := Zk5 hr0.ok
     rw [g1, g2]
     simp only [Option.bind_some]
     by_cases hc2 : c2 = 0
     · subst hc2
       rw [z1]
       exact main fun _ => (Zmv hr0.ok).1 g1
     · have hcn : (c2 != 0) = true := by simpa using hc2
       rw [if_pos hcn, Zt7 hc2 o2]
       exact ⟨r0, there, ans c2, rfl, rfl, hr0, Zc3⟩
   · rw [if_neg ht, if_neg ht]
     exact main fun h => absurd h ht
 · have hcn : (c != 0) = true := by simpa using hc
   have hcz : (c == 0) = false := by simpa using hc
   rw [if_pos hcn, hcz]
   simp only [Bool.false_and, Bool.false_eq_true, if_false]
   rw [Zt7 hc hon]
   exact ⟨r0, there, ans c, rfl, rfl, hr0, Zc3⟩
theorem Zt6 {x : Zb} (h : Ze7 x) : x.List.length ≤ 9223372036854775807 := by
 obtain ⟨_, _, _, _, _, _, _, h8, _⟩ := h
 simp only [maxLen] at h8; omega
theorem Zql {x : Zb} (h : Ze7 x) (hl : x.List.length ≤ 100) : RecW x := by
 obtain ⟨h1, h2, h3, h4, h5, _, _, h8, h9⟩ := h
 exact ⟨⟨h5, by omega, fun e he => (h9 e he).1⟩, h2, h3, h4, h1, by omega⟩
theorem eqLr : ∀ l : List Zh, eqL l l = true
 | [] => rfl
 | x :: l => by simp [eqL, eqI, Zlu, eqLr l]
theorem Zwf (a : Zb) : Zjg a a = true := by simp [Zjg, Zlu, eqLr]
theorem Zxp {a : Zs} (h : Zj1 a) (hl : a.Make.List.length ≤ 100) : ActIn a := by
 obtain ⟨_, _, h3, h4, _, h6, _⟩ := h
 exact ⟨⟨(Zql h6 hl).ok, h4⟩, h3, Zql h6 hl⟩
theorem Z35 {a : Zs} (h : Zj1 a) : ∃ c, Zg5 a = some c ∧ (c = 0 ∨ c = 1) ∧ (c = 0 → a.Make.List.length ≤ 100) := by
 obtain ⟨c, e1, e2, e3⟩ := Zy9 (Zt6 h.2.2.2.2.2.1)
 unfold Zg5
 rw [e1]
 by_cases hk : (decide ((200 : Int) < (a.Key.size : Int)) || decide ((1000 : Int) < (a.S.size : Int))) = true
 · rw [hk]; exact ⟨1, rfl, .inr rfl, fun h => by cases h⟩
 · have hk' := Bool.eq_false_iff.2 hk
   rw [hk']
   rcases e2 with rfl | rfl
   · exact ⟨0, rfl, .inl rfl, fun _ => e3 rfl⟩
   · exact ⟨1, rfl, .inr rfl, fun h => by cases h⟩
def Zvu (r0 : Zb) (there : Bool) (a : Zs) (z : Zb × Bool × Zi) : Prop :=
 (∃ c, c ≠ 0 ∧ z = (r0, there, ans c)) ∨ (Zgh a = some 0 ∧ ActW a ∧ (there = true → Zf6 r0) ∧
   ((a.Kind = 1 ∧ there = false ∧ Zf6 a.Make ∧ z = (a.Make, true, ans 0)) ∨ (a.Kind = 2 ∧ there = true ∧ z = (zrc, false, ans 0)) ∨ (a.Kind = 3 ∧ z = (r0, there, { ans 0 with Num := r0.Kind })) ∨ (a.Kind = 4 ∧ there = true ∧ z = (r0, true, { ans 0 with Rec := r0 })) ∨
     (5 ≤ a.Kind ∧ a.Kind ≤ 21 ∧ there = true ∧ Zll a.Kind = some r0.Kind ∧ ∃ r' o, Zbu a.Kind r0 a default = some (0, r', o) ∧ o.Code = 0 ∧ o.Num = 0 ∧ RecW r' ∧ RecW o.Rec ∧ z = (r', true, o))))
theorem Ztw {r : Zb} {there : Bool} {a : Zs} (hr : RecW r) (ha : ActIn a) : ∃ z, Zgg r there a = some z ∧ Zvu (if there = true then r else zrc) there a z := by
 suffices hs : ∀ r0 : Zb, RecW r0 → ∃ z, Zfm there a r0 = some z ∧ Zvu r0 there a z by
   unfold Zgg
   cases there
   · exact hs _ Zc3
   · exact hs r hr
 intro r0 hr0
 unfold Zfm
 rw [Zh5 hr0.len]
 obtain ⟨c, h1, h2, h3⟩ := Zq4 ha.ok
 rw [h1]
 simp only [Option.bind_some]
 by_cases hc : c = 0
 · subst hc
   have hf := h3 rfl
   have hw := ha.w (c := 0) hf
   obtain ⟨on2, o1, o2, o3, o4, _⟩ := Zmk hf.1 hf.2.1
   have main : (there = true → Zf6 r0) → ∃ z, Zfn there a r0 = some z ∧ Zvu r0 there a z := by
     intro hg
     unfold Zfn Zff
     rw [o1, Zh5 hr0.len, Zh5 ha.mkr.len]
     simp only [Option.bind_some]
     by_cases k1 : a.Kind = 1
     · have hm : Zf6 a.Make := (Zmv ha.mkr.ok).1 (hf.2.2.2.2.2.1 k1)
       rw [k1]
       cases there
       · exact ⟨_, rfl, .inr ⟨h1, hw, hg, .inl ⟨k1, rfl, hm, rfl⟩⟩⟩
       · exact ⟨_, rfl, .inl ⟨7, by decide, rfl⟩⟩
     · by_cases k3 : a.Kind = 3
       · rw [k3]
         exact ⟨_, rfl, .inr ⟨h1, hw, hg, .inr (.inr (.inl ⟨k3, rfl⟩))⟩⟩
       · by_cases k2 : a.Kind = 2
         · rw [k2]
           cases there
           · exact ⟨_, rfl, .inl ⟨6, by decide, rfl⟩⟩
           · exact ⟨_, rfl, .inr ⟨h1, hw, hg, .inr (.inl ⟨k2, rfl, rfl⟩)⟩⟩
         · by_cases k4 : a.Kind = 4
           · rw [k4]
             cases there
             · exact ⟨_, rfl, .inl ⟨6, by decide, rfl⟩⟩
             · exact ⟨_, rfl, .inr ⟨h1, hw, hg, .inr (.inr (.inr (.inl ⟨k4, rfl, rfl⟩)))⟩⟩
           · have h5 : 5 ≤ a.Kind := by omega
             have b1 : (a.Kind == 1) = false := by simpa using k1
             have b2 : (a.Kind == 2) = false := by simpa using k2
             have b3 : (a.Kind == 3) = false := by simpa using k3
             have b4 : (a.Kind == 4) = false := by simpa using k4
             simp only [b1, b2, b3, b4, Bool.false_and, Bool.false_eq_true, if_false]
             cases there
             · exact ⟨_, rfl, .inl ⟨6, by decide, rfl⟩⟩
             · simp only [Bool.not_true, Bool.false_eq_true, if_false]
               by_cases hk : (on2 != r0.Kind) = true
               · rw [if_pos hk]
                 exact ⟨_, rfl, .inl ⟨5, by decide, rfl⟩⟩
               · rw [if_neg hk, if_pos ⟨h5, hf.2.1⟩]
                 have hk' : on2 = r0.Kind := by simpa using hk
                 obtain ⟨c, r', o, e1, e2, w1, w2, w3⟩ := Zua h5 hf.2.1 hr0 (hg rfl) (by rw [← hk']; exact o1) hw
                 rw [e1]
                 simp only [Option.bind_some]
                 by_cases hc : c = 0
                 · subst hc
                   exact ⟨(r', true, o), rfl, .inr ⟨h1, hw, hg, .inr (.inr (.inr (.inr ⟨h5, hf.2.1, rfl, by rw [← hk']; exact o1, r', o, e1, (w3 rfl).1, (w3 rfl).2, w1, w2, rfl⟩)))⟩⟩
                 · have hcn : (c != 0) = true := by simpa using hc
                   rw [if_pos hcn]
                   exact ⟨_, rfl, .inl ⟨c, hc, rfl⟩⟩
   have z1 : ((0 : Int) != 0) = false := rfl
   rw [z1]
   simp only [Bool.false_eq_true, if_false]
   by_cases ht : there = true
   · rw [if_pos ht]
     obtain ⟨c2, g1, g2⟩ := Zk5 hr0.ok
     rw [g1]
     simp only [Option.bind_some]
     by_cases hc2 : c2 = 0
     · subst hc2
       rw [z1]
       exact main fun _ => (Zmv hr0.ok).1 g1
     · have hcn : (c2 != 0) = true := by simpa using hc2
       rw [if_pos hcn]
       exact ⟨_, rfl, .inl ⟨c2, hc2, rfl⟩⟩
   · rw [if_neg ht]
     exact main fun h => absurd h ht
 · have hcn : (c != 0) = true := by simpa using hc
   rw [if_pos hcn]
   exact ⟨_, rfl, .inl ⟨c, hc, rfl⟩⟩
theorem Zk7 (z : Nat) : keyf (Zcc z) = keyf z := by
 unfold Zcc keyf
 by_cases h : isn z
 · rw [if_pos h, if_pos h, if_pos (show isn NANB by unfold isn rg INF NANB TOP; decide)]
 · rw [if_neg h]
theorem Zvq {r : Zb} {a b : Nat} (h : keyf a = keyf b) : Zjg { r with Real := a } { r with Real := b } = true := by simp [Zjg, h, Zlu, eqLr]
theorem Z0z {r : Zb} {a : Zs} (hr : RecW r) (ha : ActIn a) : ∃ x, Zkk r a = some x ∧ Zhs r a = some x ∧ RecW x := by
 have step : ∀ b : Zs, ActIn b → ∃ x, Zhe r b = some x ∧ Zfk r b = some x ∧ RecW x := fun b hb => by
   obtain ⟨x, is, out, h1, h2, h3, _⟩ := Zps (there := true) hr hb
   unfold Zhe Zfk
   rw [h1, h2]
   exact ⟨x, rfl, rfl, h3⟩
 have hk : ∀ k, ActIn { a with Kind := k } := fun k => ⟨⟨ha.ok.1, ha.ok.2⟩, ha.n, ha.mkr⟩
 unfold Zkk Zhs
 by_cases h8 : a.Kind = 8
 · rw [if_pos (by simp [h8]), if_neg (by simp [h8])]
   unfold Zij Zd9
   rw [if_pos (by simp [h8]), if_pos (by simp [h8])]
   exact step _ (hk 7)
 · rw [if_neg (by simpa using h8)]
   unfold Zij
   by_cases h10 : a.Kind = 10
   · rw [if_pos (by simp [h10]), if_neg (by simp [h10])]
     unfold Zd9
     rw [if_pos (by simp [h10])]
     exact step _ (hk 7)
   · rw [if_neg (by simpa using h10)]
     by_cases h11 : a.Kind = 11
     · rw [if_pos (by simp [h11]), if_pos (by simp [h11])]
       unfold Zd9
       rw [if_pos (by simp [h11])]
       exact step { a with Kind := 7, N := IntKind.i64.wrap (0 - a.N) } ⟨⟨ha.ok.1, ha.ok.2⟩, Zkj _, ha.mkr⟩
     · rw [if_neg (by simpa using h11), if_neg (by simpa using h11)]
       unfold Zd9
       rw [if_neg (by simp [h8, h10, h11])]
       exact step a ha
theorem Zw8 {r r' : Zb} {a : Zs} {d o : Zi} (h1 : Zi4 r a d = some (0, r', o)) : r'.Kind = r.Kind := by
 unfold Zi4 at h1
 obtain ⟨r1, _, h1⟩ := Option.bind_eq_some_iff.1 h1
 split at h1
 · simp only [Option.some.injEq, Prod.mk.injEq, true_and] at h1
   rw [← h1.1]
 · split at h1
   · simp at h1
   · obtain ⟨r5, _, h1⟩ := Option.bind_eq_some_iff.1 h1
     obtain ⟨r7, _, h1⟩ := Option.bind_eq_some_iff.1 h1
     simp only [Option.some.injEq, Prod.mk.injEq, true_and] at h1
     rw [← h1.1]
theorem Zu0 {r r' : Zb} {a : Zs} {d o : Zi} (h1 : Zia r a d = some (0, r', o)) : r'.Kind = r.Kind := by
 unfold Zia at h1
 obtain ⟨z, _, h1⟩ := Option.bind_eq_some_iff.1 h1
 obtain ⟨e9, _, h1⟩ := Option.bind_eq_some_iff.1 h1
 obtain ⟨r11, _, h1⟩ := Option.bind_eq_some_iff.1 h1
 split at h1
 · simp only [Option.some.injEq, Prod.mk.injEq, true_and] at h1
   rw [← h1.1]
 · obtain ⟨r14, _, h1⟩ := Option.bind_eq_some_iff.1 h1
   obtain ⟨r16, _, h1⟩ := Option.bind_eq_some_iff.1 h1
   obtain ⟨c18, _, h1⟩ := Option.bind_eq_some_iff.1 h1
   simp only [Option.some.injEq, Prod.mk.injEq, true_and] at h1
   rw [← h1.1]
theorem Zp5 {r : Zb} {a : Zs} (hr : RecW r) (ha : ActIn a) (hk : a.Kind = 18 ∨ a.Kind = 21) : ∃ x is out, Zgg r true a = some (x, is, out) ∧ Zev r true a = some (x, is, out) ∧ RecW x ∧ x.Kind = r.Kind ∧ (10 ≤ r.Kind → x = r) := by
 obtain ⟨x, is, out, h1, h2, h3, _⟩ := Zps (there := true) hr ha
 obtain ⟨z, hz, hs⟩ := Ztw (there := true) hr ha
 rw [h1] at hz
 obtain rfl := Option.some.inj hz
 refine ⟨x, is, out, h1, h2, h3, ?_⟩
 rcases hs with ⟨c, _, e⟩ | ⟨_, _, _, ⟨k, _⟩ | ⟨k, _⟩ | ⟨k, _⟩ | ⟨k, _⟩ | ⟨_, _, _, hon, r', o, hc, _, _, _, _, e⟩⟩
 · have : x = r := congrArg (·.1) e
   rw [this]; exact ⟨rfl, fun _ => rfl⟩
 · rcases hk with hk | hk <;> omega
 · rcases hk with hk | hk <;> omega
 · rcases hk with hk | hk <;> omega
 · rcases hk with hk | hk <;> omega
 · have hx : x = r' := congrArg (·.1) e
   rw [if_pos rfl] at hon hc
   obtain ⟨on, o1, _, _, _, _, o6, o7, _⟩ := Zmk (k := a.Kind) (by omega) (by omega)
   rw [o1] at hon
   have hon := Option.some.inj hon
   rw [hx]
   rcases hk with hk | hk
   · have := o6 (by omega)
     refine ⟨Zw8 (a := a) (d := default) (o := o) ?_, fun h => by omega⟩
     rw [← hc, hk]; rfl
   · have := o7 hk
     refine ⟨Zu0 (a := a) (d := default) (o := o) ?_, fun h => by omega⟩
     rw [← hc, hk]; rfl
theorem Zur (e : Zh) : ActIn ({ Kind := (18 : Int), Key := (⟨#[107]⟩ : ByteArray), N := (0 : Int), X := (0 : Nat), S := e.Name, Make := (default : Zb), Must := false } : Zs) := ⟨⟨Zc3.ok, show (0 : Nat) < W64 by decide⟩, show I64 0 by unfold I64; decide, Zc3⟩
theorem Z0w {e : Zh} (h : e.Score < W64) : ActIn ({ Kind := (21 : Int), Key := (⟨#[107]⟩ : ByteArray), N := (0 : Int), X := e.Score, S := e.Name, Make := (default : Zb), Must := false } : Zs) := ⟨⟨Zc3.ok, h⟩, show I64 0 by unfold I64; decide, Zc3⟩
theorem Zom {α : Type} {xs : List α} {i : Nat} (h : i < xs.length) : decide ((i : Int) < (xs.length : Int)) = true := decide_eq_true (by omega)
theorem Zsi {e : Zb} (he : RecW e) : ∀ (n i : Nat) (x : Zb), i + n = e.List.length → RecW x → (x.Kind = 8 ∨ x.Kind = 9) → ∃ y, Zdq e (n + 1) x (i : Int) = some y ∧ Zbz e (n + 1) x (i : Int) = some y ∧ RecW y ∧ y.Kind = x.Kind
 | 0, i, x, h, hx, hk => by
   refine ⟨x, ?_, ?_, hx, rfl⟩
   · rw [Zdq, if_neg (by simp; omega)]
   · rw [Zbz, if_neg (by simp; omega)]
 | n + 1, i, x, h, hx, hk => by
   have hl := he.len
   have hi : i < e.List.length := by omega
   rw [Zdq, Zom hi, if_pos rfl, Zed hi, Zbz, Zom hi, decide_eq_true (show (8 : Int) ≤ x.Kind by omega), Bool.and_self, if_pos rfl, Zed hi]
   simp only [Option.bind_some]
   have go : ∀ a : Zs, ActIn a → (a.Kind = 18 ∨ a.Kind = 21) → ∃ y, Zgj x (i : Int) (Zdq e (n + 1)) a = some y ∧ Zd3 x (i : Int) (Zbz e (n + 1)) a = some y ∧ RecW y ∧ y.Kind = x.Kind := fun a ha hak => by
     obtain ⟨x', is, out, h1, h2, h3, h4, _⟩ := Zp5 hx ha hak
     unfold Zgj Zd3
     rw [h1, h2]
     simp only [Option.bind_some]
     rw [wr1 (by omega)]
     obtain ⟨y, y1, y2, y3, y4⟩ := Zsi he n (i + 1) x' (by omega) h3 (by omega)
     exact ⟨y, y1, y2, y3, y4.trans h4⟩
   by_cases h9 : x.Kind = 9
   · rw [if_pos (by simp [h9]), if_pos (by simp [h9])]
     exact go _ (Z0w (he.ok.sc _ (List.getElem_mem hi))) (.inr rfl)
   · rw [if_neg (by simpa using h9), if_neg (by simpa using h9)]
     exact go _ (Zur _) (.inl rfl)
theorem Zpt {e : Zb} (he : RecW e) : ∀ (n i : Nat) (x : Zb), i + n = e.List.length → RecW x → ¬ (x.Kind = 8 ∨ x.Kind = 9) → Zbz e (n + 1) x (i : Int) = some x
 | 0, i, x, h, hx, hk => by rw [Zbz, if_neg (by simp; omega)]
 | n + 1, i, x, h, hx, hk => by
   have hl := he.len
   have hi : i < e.List.length := by omega
   by_cases h8 : 8 ≤ x.Kind
   · rw [Zbz, Zom hi, decide_eq_true h8, Bool.and_self, if_pos rfl, Zed hi]
     simp only [Option.bind_some]
     rw [if_neg (by simp; omega)]
     obtain ⟨x', is, out, _, h2, h3, _, h5⟩ := Zp5 hx (Zur e.List[i]) (.inl rfl)
     unfold Zd3
     rw [h2]
     simp only [Option.bind_some]
     rw [wr1 (by omega), h5 (by omega)]
     exact Zpt he n (i + 1) x (by omega) hx hk
   · rw [Zbz, Zom hi, decide_eq_false h8, Bool.and_false, if_neg (by decide)]
def Rl (r x y : Zb) : Prop := RecW x ∧ RecW y ∧ x.Kind = r.Kind ∧ ((x = y ∧ ¬ (r.Kind = 5 ∨ r.Kind = 6)) ∨ ((r.Kind = 5 ∨ r.Kind = 6) ∧ ∃ m1 m2, x = { r with Real := m1 } ∧ y = { r with Real := m2 } ∧ keyf m1 = keyf m2))
theorem withReal {r : Zb} (h : RecW r) {m : Nat} (hm : m < W64) : RecW { r with Real := m } := ⟨⟨hm, h.ok.len, h.ok.sc⟩, h.num, h.low, h.high, h.kind, h.len⟩
theorem Z0u {a b a' : Nat} (ha : a < W64) (hb : b < W64) (ha' : a' < W64) (h : keyf a = keyf a') : ∃ m m', Zh2 a b = some m ∧ Zey a' b = some m' ∧ m < W64 ∧ m' < W64 ∧ keyf m = keyf m' := by
 unfold Zh2 Zey
 rw [Zmf ha hb, Zjn ha' hb, Zf9 ha, Zf9 hb, ← h]
 by_cases hk : keyf a < keyf b
 · exact ⟨Zcc b, b, by simp [hk], by simp [hk], Zjl hb, hb, Zk7 b⟩
 · exact ⟨Zcc a, a', by simp [hk], by simp [hk], Zjl ha, ha', (Zk7 a).trans h⟩
theorem Z03 {a b a' : Nat} (ha : a < W64) (hb : b < W64) (ha' : a' < W64) (h : keyf a = keyf a') : ∃ m m', Zhr a b = some m ∧ Zex a' b = some m' ∧ m < W64 ∧ m' < W64 ∧ keyf m = keyf m' := by
 unfold Zhr Zex
 rw [Zmf hb ha, Zjn hb ha', Zf9 ha, Zf9 hb, ← h]
 by_cases hk : keyf b < keyf a
 · exact ⟨Zcc b, b, by simp [hk], by simp [hk], Zjl hb, hb, Zk7 b⟩
 · exact ⟨Zcc a, a', by simp [hk], by simp [hk], Zjl ha, ha', (Zk7 a).trans h⟩
theorem Zp0 {r : Zb} {l : List Zb} (hl : l.length ≤ 1000) (hw : ∀ s ∈ l, RecW s) : ∀ (n i : Nat) (x y : Zb), i + n = l.length → Rl r x y → ∃ x' y', Zb6 l (n + 1) x (i : Int) = some x' ∧ Zb5 l (n + 1) y (i : Int) = some y' ∧ Rl r x' y'
 | 0, i, x, y, h, hR => ⟨x, y, by rw [Zb6, if_neg (by simp; omega)], by rw [Zb5, if_neg (by simp; omega)], hR⟩
 | n + 1, i, x, y, h, hR => by
   have hi : i < l.length := by omega
   have he := hw _ (List.getElem_mem hi)
   obtain ⟨hx, hy, hk, hc⟩ := hR
   have hyk : y.Kind = x.Kind := by
     rcases hc with ⟨rfl, _⟩ | ⟨_, m1, m2, rfl, rfl, _⟩ <;> rfl
   have ih := fun x' y' => Zp0 (r := r) hl hw n (i + 1) x' y' (by omega)
   rw [Zb6, Zom hi, if_pos rfl, Zed hi, Zb5, Zom hi, if_pos rfl, Zed hi]
   simp only [Option.bind_some]
   have hp : (if (x.Kind == (2 : Int)) then (Zdr x (i : Int) l[i] (Zb6 l (n + 1)) (x.Kind == (2 : Int))) else (if (x.Kind == (3 : Int)) then (Zdr x (i : Int) l[i] (Zb6 l (n + 1)) (x.Kind == (3 : Int))) else (Zdr x (i : Int) l[i] (Zb6 l (n + 1)) (x.Kind == (4 : Int))))) = Zdr x (i : Int) l[i] (Zb6 l (n + 1)) (decide (2 ≤ x.Kind ∧ x.Kind ≤ 4)) := by
     by_cases h2 : x.Kind = 2
     · rw [if_pos (by simp [h2])]; congr 1; simp [h2]
     · rw [if_neg (by simpa using h2)]
       by_cases h3 : x.Kind = 3
       · rw [if_pos (by simp [h3])]; congr 1; simp [h3]
       · rw [if_neg (by simpa using h3)]; congr 1
         by_cases h4 : x.Kind = 4
         · simp [h4]
         · have : ¬ (2 ≤ x.Kind ∧ x.Kind ≤ 4) := by omega
           simp [h4, this]
   rw [hp]
   have hend : ∀ y' : Zb, RecW y' → ¬ (y'.Kind = 8 ∨ y'.Kind = 9) → Zd1 (i : Int) l[i] (Zb5 l (n + 1)) y' = Zb5 l (n + 1) y' ((i + 1 : Nat) : Int) := fun y' hy' hn => by
     have := Zpt he l[i].List.length 0 y' (by omega) hy' hn
     unfold Zd1
     rw [show Int.toNat ((l[i].List.length : Int) - (0 : Int)) = l[i].List.length by omega]
     rw [show ((0 : Nat) : Int) = 0 from rfl] at this
     rw [this]
     simp only [Option.bind_some]
     rw [wr1 (by omega)]
   by_cases h24 : 2 ≤ x.Kind ∧ x.Kind ≤ 4
   · have hxy : x = y := by
       rcases hc with ⟨h, _⟩ | ⟨h5, _⟩
       · exact h
       · omega
     subst hxy
     rw [decide_eq_true h24]
     unfold Zdr Zda
     rw [if_pos rfl, wr1 (by omega), if_pos (by simp [h24.1, h24.2])]
     unfold Zep Zd4
     have k5 : (x.Kind == (5 : Int)) = false := by simp; omega
     have k6 : (x.Kind == (6 : Int)) = false := by simp; omega
     simp only [k5, k6, Bool.false_eq_true, if_false]
     have hx' : RecW { x with Num := IntKind.i64.wrap (x.Num + l[i].Num) } := hx.withNum (Zkj _)
     rw [hend _ hx' (by show ¬ (x.Kind = 8 ∨ x.Kind = 9); omega)]
     exact ih _ _ ⟨hx', hx', hk, .inl ⟨rfl, by clear hc; omega⟩⟩
   · rw [decide_eq_false h24]
     unfold Zdr
     have hn24 : ((decide ((2 : Int) ≤ y.Kind)) && (decide (y.Kind ≤ (4 : Int)))) = false := by
       rw [hyk]
       by_cases h2 : 2 ≤ x.Kind
       · have : ¬ x.Kind ≤ 4 := fun h => h24 ⟨h2, h⟩
         simp [this]
       · simp [h2]
     rw [hn24]
     simp only [Bool.false_eq_true, if_false]
     unfold Zep
     by_cases h5 : x.Kind = 5
     · rw [if_pos (by simp [h5]), if_pos (by simp [hyk, h5])]
       obtain ⟨m, m', e1, e2, w1, w2, e3⟩ := Z0u hx.ok.real he.ok.real hy.ok.real (show keyf x.Real = keyf y.Real by
         rcases hc with ⟨rfl, _⟩ | ⟨_, m1, m2, rfl, rfl, h⟩
         · rfl
         · exact h)
       rw [e1, e2]
       simp only [Option.bind_some]
       unfold Zda Zd4
       rw [wr1 (by omega), if_neg (by show ¬ (y.Kind == (6 : Int)) = true; simp; omega)]
       rw [hend _ (withReal hy w2) (by show ¬ (y.Kind = 8 ∨ y.Kind = 9); omega)]
       refine ih _ _ ⟨withReal hx w1, withReal hy w2, hk, .inr ⟨.inl (by omega), m, m', ?_, ?_, e3⟩⟩
       · rcases hc with ⟨_, hn⟩ | ⟨_, m1, m2, rfl, _, _⟩
         · omega
         · rfl
       · rcases hc with ⟨_, hn⟩ | ⟨_, m1, m2, _, rfl, _⟩
         · omega
         · rfl
     · rw [if_neg (show ¬ (x.Kind == (5 : Int)) = true by simpa using h5), if_neg (show ¬ (y.Kind == (5 : Int)) = true by simpa [hyk] using h5)]
       unfold Zd4
       by_cases h6 : x.Kind = 6
       · rw [if_pos (show (x.Kind == (6 : Int)) = true by simp [h6]), if_pos (show (y.Kind == (6 : Int)) = true by simp [hyk, h6])]
         obtain ⟨m, m', e1, e2, w1, w2, e3⟩ := Z03 hx.ok.real he.ok.real hy.ok.real (show keyf x.Real = keyf y.Real by
           rcases hc with ⟨rfl, _⟩ | ⟨_, m1, m2, rfl, rfl, h⟩
           · rfl
           · exact h)
         rw [e1, e2]
         simp only [Option.bind_some]
         unfold Zda
         rw [wr1 (by omega), hend _ (withReal hy w2) (by show ¬ (y.Kind = 8 ∨ y.Kind = 9); omega)]
         refine ih _ _ ⟨withReal hx w1, withReal hy w2, hk, .inr ⟨.inr (by omega), m, m', ?_, ?_, e3⟩⟩
         · rcases hc with ⟨_, hn⟩ | ⟨_, m1, m2, rfl, _, _⟩
           · omega
           · rfl
         · rcases hc with ⟨_, hn⟩ | ⟨_, m1, m2, _, rfl, _⟩
           · omega
           · rfl
       · rw [if_neg (show ¬ (x.Kind == (6 : Int)) = true by simpa using h6), if_neg (show ¬ (y.Kind == (6 : Int)) = true by simpa [hyk] using h6)]
         have hxy : x = y := by
           rcases hc with ⟨h, _⟩ | ⟨h5, _⟩
           · exact h
           · omega
         subst hxy
         have hj3 : (if (x.Kind == (8 : Int)) then (Zet x (i : Int) l[i] (Zb6 l (n + 1)) (x.Kind == (8 : Int))) else (Zet x (i : Int) l[i] (Zb6 l (n + 1)) (x.Kind == (9 : Int)))) = Zet x (i : Int) l[i] (Zb6 l (n + 1)) (decide (x.Kind = 8 ∨ x.Kind = 9)) := by
           by_cases h8 : x.Kind = 8
           · rw [if_pos (by simp [h8])]; congr 1; simp [h8]
           · rw [if_neg (by simpa using h8)]; congr 1
             by_cases h9 : x.Kind = 9
             · simp [h9]
             · simp [h8, h9]
         rw [hj3]
         by_cases h89 : x.Kind = 8 ∨ x.Kind = 9
         · rw [decide_eq_true h89]
           obtain ⟨z, z1, z2, z3, z4⟩ := Zsi he l[i].List.length 0 x (by omega) hx h89
           unfold Zet Zda Zd1
           rw [if_pos rfl, show Int.toNat ((l[i].List.length : Int) - (0 : Int)) = l[i].List.length by omega]
           rw [show ((0 : Nat) : Int) = 0 from rfl] at z1 z2
           rw [z1, z2]
           simp only [Option.bind_some]
           rw [wr1 (by omega)]
           exact ih _ _ ⟨z3, z3, z4.trans hk, .inl ⟨rfl, by clear hc; omega⟩⟩
         · rw [decide_eq_false h89, hend x hx h89]
           unfold Zet Zda
           rw [if_neg (by decide), wr1 (by omega)]
           exact ih _ _ ⟨hx, hx, hk, .inl ⟨rfl, by clear hc; omega⟩⟩
theorem Zz0 : Zhd = some true := by kernel_rfl
theorem Zrk {l : List Zb3} (hl : l.length ≤ 40) (hw : ∀ o ∈ l, Zj8 o) : ∀ (n i : Nat), i + n = l.length → (Zdf l (n + 1) (i : Int) = some (.inl true)) ∨ (Zdf l (n + 1) (i : Int) = some (.inr ()) ∧ ∀ o ∈ l.drop i, ActIn o.Act)
 | 0, i, h => by
   right
   rw [Zdf, if_neg (by simp; omega), List.drop_of_length_le (by omega)]
   exact ⟨rfl, fun o ho => by cases ho⟩
 | n + 1, i, h => by
   have h1 : i < l.length := by omega
   obtain ⟨c, e1, e2, e3⟩ := Z35 (hw _ (List.getElem_mem h1)).2
   rw [Zdf, if_pos (by simp; omega), Zed h1, wr1 (by omega)]
   simp only [Option.bind_some]
   rw [e1]
   rcases e2 with rfl | rfl
   · simp only [Int.lt_irrefl, decide_false, Bool.false_eq_true, if_false, Option.bind_some]
     rcases Zrk hl hw n (i + 1) (by omega) with h2 | ⟨h2, h3⟩
     · exact .inl h2
     · right
       refine ⟨h2, fun o ho => ?_⟩
       rw [List.drop_eq_getElem_cons h1] at ho
       rcases List.mem_cons.1 ho with rfl | ho
       · exact Zxp (hw _ (List.getElem_mem h1)).2 (e3 rfl)
       · exact h3 o ho
   · left; rfl
theorem big7 {r : Zb} {l : List Zb3} (hr : Ze7 r) (hw : ∀ o ∈ l, Zj8 o) : Zfg r l = some true ∨ (Zfg r l = some false ∧ RecW r ∧ l.length ≤ 40 ∧ ∀ o ∈ l, ActIn o.Act) := by
 obtain ⟨c, e1, e2, e3⟩ := Zy9 (Zt6 hr)
 unfold Zfg
 rw [e1]
 simp only [Option.bind_some]
 rcases e2 with rfl | rfl
 · by_cases h : (40 : Int) < l.length
   · left; simp [h]
   · rw [if_neg (by simp; omega), show (Int.toNat ((l.length : Int) - (0 : Int)) + 1) = l.length + 1 by omega]
     have := Zrk (l := l) (by omega) hw l.length 0 (by omega)
     rw [show ((0 : Nat) : Int) = 0 from rfl] at this
     rcases this with h1 | ⟨h1, h2⟩
     · left; rw [h1]; rfl
     · right; rw [h1]; exact ⟨rfl, Zql hr (e3 rfl), by omega, h2⟩
 · left; rfl
theorem Zvh {r : Zb} {l : List Zb} (hr : RecW r) (hl : l.length ≤ 1000) (hw : ∀ s ∈ l, RecW s) : ∃ x y, Zii r l = some x ∧ Zgc r l = some y ∧ Rl r x y := by
 have hR : Rl r r r := by
   refine ⟨hr, hr, rfl, ?_⟩
   by_cases h : r.Kind = 5 ∨ r.Kind = 6
   · exact .inr ⟨h, r.Real, r.Real, rfl, rfl, rfl⟩
   · exact .inl ⟨rfl, h⟩
 obtain ⟨x, y, h1, h2, h3⟩ := Zp0 hl hw l.length 0 r r (by omega) hR
 rw [show ((0 : Nat) : Int) = 0 from rfl] at h1 h2
 refine ⟨x, y, ?_, ?_, h3⟩
 · unfold Zii
   rw [Zh5 hr.len]
   simp only [Option.bind_some]
   rw [show Int.toNat ((l.length : Int) - (0 : Int)) = l.length by omega, h1]
   rfl
 · unfold Zgc
   have hlen := hr.len
   rw [if_pos (by simp only [List.length_nil]; omega), show Int.toNat ((l.length : Int) - (0 : Int)) = l.length by omega, List.nil_append, h2]
   rfl
theorem Z0d {r x y : Zb} (h : Rl r x y) : Zeg x y = some true := by
 obtain ⟨hx, hy, _, hc⟩ := h
 rw [Znt hx.ok hy.ok]
 rcases hc with ⟨rfl, _⟩ | ⟨_, m1, m2, rfl, rfl, h⟩
 · rw [Zwf]
 · rw [Zvq h]
theorem Zpc {l : List Zb} (hl : l.length ≤ 10) (hw : ∀ s ∈ l, Ze7 s) : ∀ (n i : Nat), i + n = l.length → (Zck l (n + 1) (i : Int) = some (.inl true)) ∨ (Zck l (n + 1) (i : Int) = some (.inr ()) ∧ ∀ o ∈ l.drop i, RecW o)
 | 0, i, h => by
   right
   rw [Zck, if_neg (by simp; omega), List.drop_of_length_le (by omega)]
   exact ⟨rfl, fun o ho => by cases ho⟩
 | n + 1, i, h => by
   have h1 : i < l.length := by omega
   rw [Zck, if_pos (by simp; omega), Zed h1, wr1 (by omega)]
   simp only [Option.bind_some]
   rcases big7 (l := []) (hw _ (List.getElem_mem h1)) (fun o ho => by cases ho) with hb | ⟨hb, hr, _, _⟩
   · rw [hb]; left; rfl
   · rw [hb]
     simp only [Option.bind_some, Bool.false_eq_true, if_false]
     rcases Zpc hl hw n (i + 1) (by omega) with h2 | ⟨h2, h3⟩
     · exact .inl h2
     · right
       refine ⟨h2, fun o ho => ?_⟩
       rw [List.drop_eq_getElem_cons h1] at ho
       rcases List.mem_cons.1 ho with rfl | ho
       · exact hr
       · exact h3 o ho
theorem ShareMerges_true (a0 : Zb) (a1 : List Zb) (a2 : Zs) (w0 : Ze7 a0) (w1 : a1.length ≤ maxLen ∧ ∀ e0 ∈ a1, Ze7 e0) (w2 : Zj1 a2) : Zfo a0 a1 a2 = some true := by
 unfold Zfo
 rw [Zz0]
 simp only [Option.bind_some, Bool.not_true, Bool.false_eq_true, if_false]
 by_cases h10 : (10 : Int) < a1.length
 · rw [decide_eq_true h10]; rfl
 · rw [decide_eq_false h10, Bool.not_false, gd_t]
   have hl : a1.length ≤ 10 := by omega
   rcases big7 (l := [({ Worker := (0 : Int), Act := a2 } : Zb3)]) w0 (fun o ho => by rw [List.mem_singleton.1 ho]; exact ⟨⟨show (IntKind.i64).min ≤ (0 : Int) by decide, show (0 : Int) ≤ (IntKind.i64).max by decide⟩, w2⟩) with hb | ⟨hb, hr, _, hi⟩
   · rw [hb]; rfl
   · rw [hb]
     simp only [Option.bind_some, Bool.or_self, Bool.false_eq_true, if_false]
     have := Zpc hl w1.2 a1.length 0 (by omega)
     rw [show ((0 : Nat) : Int) = 0 from rfl] at this
     rw [show Int.toNat ((a1.length : Int) - (0 : Int)) = a1.length by omega]
     rcases this with h1 | ⟨h1, h2⟩
     · rw [h1]; rfl
     · rw [h1]
       simp only [Option.bind_some]
       obtain ⟨x, e1, e2, hx⟩ := Z0z hr (hi _ (List.mem_singleton.2 rfl))
       obtain ⟨p, q, e3, e4, hpq⟩ := Zvh (l := a1) hr (by omega) (fun s hs => h2 s (by simpa using hs))
       rw [e1, e2]
       simp only [Option.bind_some]
       rw [Znt hx.ok hx.ok, Zwf]
       simp only [Option.bind_some, gd_t]
       rw [e3, e4]
       simp only [Option.bind_some]
       rw [Z0d hpq]
       rfl
end Go.CL
namespace Go.CL
open Go Go.RowKit Go.Proofs Go.ChangeShapes Go.WideShapes Go.ChangeAt
theorem Zxy : ownKnob Tryd.prog.godebug = none := by kernel_rfl
theorem Zn7 : laidOutB Tryd.prog = true := by kernel_rfl
theorem op_3 : Opn Tryd.prog 3 (Kd.int .i64) (fun x => ((IntKind.i64).min ≤ x ∧ x ≤ (IntKind.i64).max)) := Zui Tryd.underlying3 (by kernel_rfl)
theorem op_2 : Opn Tryd.prog 2 (Kd.int .i64) (fun x => ((IntKind.i64).min ≤ x ∧ x ≤ (IntKind.i64).max)) := Zui Tryd.underlying2 (by kernel_rfl)
theorem Zvi : Opn Tryd.prog 22 Kd.flt (fun x => (x < 2 ^ 64)) := Z0f Tryd.underlying22 (by kernel_rfl)
theorem op_9 : Opn Tryd.prog 9 Kd.str (fun x => (x.size ≤ maxLen)) := Z0a Tryd.underlying9 (by kernel_rfl)
theorem Z3h : Opn Tryd.prog 75 Zr Zl6 := ⟨by kernel_rfl, fun hg h => by
 obtain ⟨hl, n, hf⟩ := Zm3 Tryd.underlying75 h
 obtain ⟨y0, h0⟩ := hf 0 _ rfl
 obtain ⟨v0, k0, w0⟩ := Zvi.op hg h0
 obtain ⟨y1, h1⟩ := hf 1 _ rfl
 obtain ⟨v1, k1, w1⟩ := op_9.op hg h1
 refine ⟨⟨v0, v1⟩, ⟨hl.trans (by kernel_rfl), (List.forall_mem_cons.2 ⟨k0, (List.forall_mem_cons.2 ⟨k1, (fun _ h => by cases h)⟩)⟩)⟩, w0, w1⟩, fun h => Znn Tryd.underlying75 h⟩
theorem Z3v : Opn Tryd.prog 23 Zr.sl (fun x => (x.length ≤ maxLen ∧ ∀ e0 ∈ x, (Zl6 e0))) := Zwj Tryd.underlying23 (by kernel_rfl) Z3h (by decide)
theorem Zvb : Opn Tryd.prog 25 Zf Ze7 := ⟨by kernel_rfl, fun hg h => by
 obtain ⟨hl, n, hf⟩ := Zm3 Tryd.underlying25 h
 obtain ⟨y0, h0⟩ := hf 0 _ rfl
 obtain ⟨v0, k0, w0⟩ := op_3.op hg h0
 obtain ⟨y1, h1⟩ := hf 1 _ rfl
 obtain ⟨v1, k1, w1⟩ := op_2.op hg h1
 obtain ⟨y2, h2⟩ := hf 2 _ rfl
 obtain ⟨v2, k2, w2⟩ := op_2.op hg h2
 obtain ⟨y3, h3⟩ := hf 3 _ rfl
 obtain ⟨v3, k3, w3⟩ := op_2.op hg h3
 obtain ⟨y4, h4⟩ := hf 4 _ rfl
 obtain ⟨v4, k4, w4⟩ := Zvi.op hg h4
 obtain ⟨y5, h5⟩ := hf 5 _ rfl
 obtain ⟨v5, k5, w5⟩ := op_3.op hg h5
 obtain ⟨y6, h6⟩ := hf 6 _ rfl
 obtain ⟨v6, k6, w6⟩ := op_9.op hg h6
 obtain ⟨y7, h7⟩ := hf 7 _ rfl
 obtain ⟨v7, k7, w7⟩ := Z3v.op hg h7
 refine ⟨⟨v0, v1, v2, v3, v4, v5, v6, v7⟩, ⟨hl.trans (by kernel_rfl), (List.forall_mem_cons.2 ⟨k0, (List.forall_mem_cons.2 ⟨k1, (List.forall_mem_cons.2 ⟨k2, (List.forall_mem_cons.2 ⟨k3, (List.forall_mem_cons.2 ⟨k4, (List.forall_mem_cons.2 ⟨k5, (List.forall_mem_cons.2 ⟨k6, (List.forall_mem_cons.2 ⟨k7, (fun _ h => by cases h)⟩)⟩)⟩)⟩)⟩)⟩)⟩)⟩)⟩, w0, w1, w2, w3, w4, w5, w6, w7⟩, fun h => Znn Tryd.underlying25 h⟩
theorem Z4c : Opn Tryd.prog 33 Zf.sl (fun x => (x.length ≤ maxLen ∧ ∀ e0 ∈ x, (Ze7 e0))) := Zwj Tryd.underlying33 (by kernel_rfl) Zvb (by decide)
theorem op_4 : Opn Tryd.prog 4 Kd.bool (fun x => True) := Zx8 Tryd.underlying4 (by kernel_rfl)
theorem Z4a : Opn Tryd.prog 37 Zw Zj1 := ⟨by kernel_rfl, fun hg h => by
 obtain ⟨hl, n, hf⟩ := Zm3 Tryd.underlying37 h
 obtain ⟨y0, h0⟩ := hf 0 _ rfl
 obtain ⟨v0, k0, w0⟩ := op_3.op hg h0
 obtain ⟨y1, h1⟩ := hf 1 _ rfl
 obtain ⟨v1, k1, w1⟩ := op_9.op hg h1
 obtain ⟨y2, h2⟩ := hf 2 _ rfl
 obtain ⟨v2, k2, w2⟩ := op_2.op hg h2
 obtain ⟨y3, h3⟩ := hf 3 _ rfl
 obtain ⟨v3, k3, w3⟩ := Zvi.op hg h3
 obtain ⟨y4, h4⟩ := hf 4 _ rfl
 obtain ⟨v4, k4, w4⟩ := op_9.op hg h4
 obtain ⟨y5, h5⟩ := hf 5 _ rfl
 obtain ⟨v5, k5, w5⟩ := Zvb.op hg h5
 obtain ⟨y6, h6⟩ := hf 6 _ rfl
 obtain ⟨v6, k6, w6⟩ := op_4.op hg h6
 refine ⟨⟨v0, v1, v2, v3, v4, v5, v6⟩, ⟨hl.trans (by kernel_rfl), (List.forall_mem_cons.2 ⟨k0, (List.forall_mem_cons.2 ⟨k1, (List.forall_mem_cons.2 ⟨k2, (List.forall_mem_cons.2 ⟨k3, (List.forall_mem_cons.2 ⟨k4, (List.forall_mem_cons.2 ⟨k5, (List.forall_mem_cons.2 ⟨k6, (fun _ h => by cases h)⟩)⟩)⟩)⟩)⟩)⟩)⟩)⟩, w0, w1, w2, w3, w4, w5, w6⟩, fun h => Znn Tryd.underlying37 h⟩
theorem Zzp : Det Tryd.prog 9 := Zzx Tryd.underlying9
theorem Z3n : Det Tryd.prog 3 := Z0s Tryd.underlying3
theorem Z0x : Det Tryd.prog 108 := Zu1 Tryd.underlying108 (fun i f h => match i, f, h with
 | 0, _, h => by obtain rfl := Option.some.inj h; exact Zzp
 | 1, _, h => by obtain rfl := Option.some.inj h; exact Z3n
 | 2, _, h => by obtain rfl := Option.some.inj h; exact Zzp
 | _ + 3, _, h => by cases h) (by kernel_rfl)
theorem Z0k : Det Tryd.prog 127 := Z0m Tryd.underlying127 Z0x (by kernel_rfl)
theorem ShareMerges_met (os : Os) (args : Array Value) : laidMetH Tryd.prog [("moiety/act.kinds", Go.Proofs.YtbiobpmabomjfaaDoor.Rows.laid_moiety_act_kinds)] ((World.doorLaid Tryd.prog 400 os).forCall (fun _ _ => 0) ⟨#[], args, []⟩).memory :=
 laidMetH_of_parts3 (fuel := 8) (laidMet_of_run' 8 (by kernel_rfl) (by kernel_rfl)) (by kernel_rfl) (by kernel_rfl)
theorem ShareMerges_gl {W : World} (h : laidMetH Tryd.prog [("moiety/act.kinds", Go.Proofs.YtbiobpmabomjfaaDoor.Rows.laid_moiety_act_kinds)] W) : GLok W (fun b _ => b < W.heap.size) := by
 have g0 := Zyf (P := Tryd.prog) (nm := "moiety/act.kinds") (d := Go.Proofs.YtbiobpmabomjfaaDoor.Rows.laid_moiety_act_kinds) (g := 1) (t := 127) (W := W) (w0 := W) (cells := [.string ⟨#[]⟩, .int .i64 (0), .string ⟨#[]⟩, .string ⟨#[110, 101, 119]⟩, .int .i64 (0), .string ⟨#[109]⟩, .string ⟨#[100, 114, 111, 112]⟩, .int .i64 (0), .string ⟨#[]⟩, .string ⟨#[105, 115]⟩, .int .i64 (0), .string ⟨#[]⟩, .string ⟨#[108, 111, 111, 107]⟩, .int .i64 (0), .string ⟨#[]⟩, .string ⟨#[112, 117, 116]⟩, .int .i64 (1), .string ⟨#[115]⟩, .string ⟨#[115, 119, 97, 112]⟩, .int .i64 (1), .string ⟨#[115]⟩, .string ⟨#[97, 100, 100]⟩, .int .i64 (2), .string ⟨#[110]⟩, .string ⟨#[112, 108, 117, 115]⟩, .int .i64 (3), .string ⟨#[110]⟩, .string ⟨#[114, 101, 97, 99, 104]⟩, .int .i64 (3), .string ⟨#[110]⟩, .string ⟨#[105, 110]⟩, .int .i64 (4), .string ⟨#[110]⟩, .string ⟨#[111, 117, 116]⟩, .int .i64 (4), .string ⟨#[110]⟩, .string ⟨#[101, 110, 111, 117, 103, 104]⟩, .int .i64 (4), .string ⟨#[110]⟩, .string ⟨#[114, 97, 105, 115, 101]⟩, .int .i64 (5), .string ⟨#[120]⟩, .string ⟨#[108, 111, 119, 101, 114]⟩, .int .i64 (6), .string ⟨#[120]⟩, .string ⟨#[115, 104, 105, 102, 116]⟩, .int .i64 (7), .string ⟨#[120]⟩, .string ⟨#[115, 99, 97, 108, 101]⟩, .int .i64 (7), .string ⟨#[120]⟩, .string ⟨#[102, 105, 120]⟩, .int .i64 (7), .string ⟨#[120]⟩, .string ⟨#[106, 111, 105, 110]⟩, .int .i64 (8), .string ⟨#[115]⟩, .string ⟨#[108, 101, 97, 118, 101]⟩, .int .i64 (8), .string ⟨#[115]⟩, .string ⟨#[104, 97, 115]⟩, .int .i64 (8), .string ⟨#[115]⟩, .string ⟨#[111, 102, 102, 101, 114]⟩, .int .i64 (9), .string ⟨#[120, 115]⟩]) (fu := 8) (by kernel_rfl) (by kernel_rfl) Z0k (by kernel_rfl) (by kernel_rfl) h
 intro e he i v hv
 rcases List.mem_cons.1 he with rfl | he
 · exact ⟨(Znx (g0 i v hv)).2, g0 i v hv⟩
 cases he
theorem ShareMerges_ret (os : Os) (started : os.Started) (H : Type) (enc : TypeId × Value → H) :
   ReturnsInHanded {} Tryd.checked os 4 .any (fun w args => (Go.Proofs.YtbiobpmabomjfaaDoor.Rows.shareMergesSpec.pre enc Tryd.prog Tryd.f4 [] false w args ∧ laidMetH Tryd.prog [("moiety/act.kinds", Go.Proofs.YtbiobpmabomjfaaDoor.Rows.laid_moiety_act_kinds)] w) ∧ sizedMet enc Tryd.prog Tryd.f4 (OpenSpec.ofChange Go.Proofs.YtbiobpmabomjfaaDoor.Rows.shareMergesSpec) false w args) (Go.Proofs.YtbiobpmabomjfaaDoor.Rows.shareMergesSpec.post enc Tryd.prog Tryd.f4 false true false false) := by
 refine returnsInHanded_of_change_and (C := Tryd.checked) (X := fun w _ => laidMetH Tryd.prog [("moiety/act.kinds", Go.Proofs.YtbiobpmabomjfaaDoor.Rows.laid_moiety_act_kinds)] w) (fun _ _ _ hh h => h.of_heap hh) Zxy started (by kernel_rfl) Tryd.func4
   (ChangeSpec.witness_shaped (enc := enc) (C := Tryd.checked) (os := os) (X := fun w _ => laidMetH Tryd.prog [("moiety/act.kinds", Go.Proofs.YtbiobpmabomjfaaDoor.Rows.laid_moiety_act_kinds)] w) false (World.doorLaid Tryd.prog 400 os) #[.agg #[.int .i64 0, .int .i64 0, .int .i64 0, .int .i64 0, .float .f64 0, .int .i64 0, .string ByteArray.empty, .slice none 0 0], .slice none 0 0, .agg #[.int .i64 0, .string ByteArray.empty, .int .i64 0, .float .f64 0, .string ByteArray.empty, .int .i64 0, .int .i64 0, .int .i64 0, .int .i64 0, .float .f64 0, .int .i64 0, .string ByteArray.empty, .slice none 0 0, .bool false]] 8 rfl (World.shaped_of_RefB (by kernel_rfl) (by kernel_rfl)) (by kernel_rfl) (by kernel_rfl) (by kernel_rfl) (ShareMerges_met os _)) ?_
 intro W base args ds gs before hval0 hW hcnd _ hL _
 have hval : ∀ (j : Nat) t v, Tryd.f4.params[j]? = some t → args[j]? = some v → Value.okWide Tryd.prog W .any base t v := hval0
 have hW' := hW
 obtain ⟨p, q, hA0, hV, rfl, hfz, hnd⟩ := hW
 have hA : DataW.TrodAll enc Tryd.prog W 0 (fun _ => true) true Tryd.f4.params.toList args.toList ds p := hA0
 rw [Tryd.params4] at hA hval
 obtain ⟨v0, v1, v2, d0, d1, d2, p0, p1, p2, rfl, rfl, rfl, h0, h1, h2⟩ := trodAll_three hA
 obtain ⟨rfl, rfl⟩ := trodVars_none hV
 simp only [List.append_nil] at hW'
 have hg : GLok W (fun b _ => b < W.heap.size) := (ShareMerges_gl hL)
 have hk0 := h0
 obtain ⟨a0, q0, w0⟩ := Zsh Zvb hg h0 (hval 0 25 v0 rfl rfl)
 have hk1 := h1
 obtain ⟨a1, q1, w1⟩ := Zsh Z4c hg h1 (hval 1 33 v1 rfl rfl)
 have hk2 := h2
 obtain ⟨a2, q2, w2⟩ := Zsh Z4a hg h2 (hval 2 37 v2 rfl rfl)
 refine (Zk2 a0 a1 a2 (ShareMerges_true a0 a1 a2 w0 w1 w2) (GW W hg) [v0, v1, v2] (Zim q0 (Zim q1 (Zim q2 Zdn)))).mono fun e W' ⟨g', v, he, hw, hs, hq⟩ => ?_
 subst he; subst hw
 rw [Zg1.1 hq]
 have hbel := Zxo hs
 have hlt : ∀ x ∈ (p0 ++ p1 ++ p2), x.block < W.heap.size := fun x hx => by simpa using hW'.lt x hx
 exact ⟨_, rfl, Zry (pv := []) hW' hbel (trodAll_mk1 (shut_bool Tryd.underlying4 true)) (trodAll_mk3 (Below.trod Zn7 (by kernel_rfl) (of_decide_eq_true (by kernel_rfl)) hk0 hbel (fun x hx => hlt x (by simp [hx]))) (Below.trod Zn7 (by kernel_rfl) (of_decide_eq_true (by kernel_rfl)) hk1 hbel (fun x hx => hlt x (by simp [hx]))) (Below.trod Zn7 (by kernel_rfl) (of_decide_eq_true (by kernel_rfl)) hk2 hbel (fun x hx => hlt x (by simp [hx])))) rfl⟩
theorem ShareMerges_holds : Go.Proofs.YtbiobpmabomjfaaDoor.Rows.ShareMergesSaid :=
 OpenClaim.holds_of_wide 4 Tryd.f4 rfl rfl rfl rfl rfl rfl rfl ⟨rfl, rfl, rfl, rfl, rfl⟩ rfl rfl rfl rfl rfl (by kernel_rfl) Tryd.func4 (by kernel_rfl)
   (of_decide_eq_true (by kernel_rfl)) (by unfold Func.isWrapper; first | (rw [if_pos (by decide +kernel)]; kernel_rfl) | (rw [if_neg (by decide +kernel)]; exact ⟨rfl, rfl⟩))
   (fun os started H enc _ => ShareMerges_ret os started H enc)
theorem ShareMerges_card : Go.Proofs.YtbiobpmabomjfaaDoor.Rows.ShareMergesCardSaid :=
 Claim7.holds_tied_plain_at .later [] [.data] true (true, "3aa006449d8ddc9dc8d5c5e333f2b4dcad9319e64e39586c0df1deb5178ade36") false
   ShareMerges_holds (fun _ h => by cases h) (by kernel_rfl) (fun _ h => by cases h) Go.Proofs.YtbiobpmabomjfaaDoor.shareMerges_row_tie rfl ⟨rfl, rfl⟩ (by kernel_rfl) rfl
   (fun f fn hf hfn => by
     obtain rfl : f = 4 := Option.some.inj ((show Tryd.prog.funcNamed "moiety/moietylaw07.ShareMerges" = some 4 by kernel_rfl).symm.trans hf) |>.symm
     obtain rfl : fn = Tryd.f4 := (Option.some.inj (Tryd.func4.symm.trans hfn)).symm
     exact ⟨by kernel_rfl, fun j t ht => by
       rw [Tryd.params4] at ht
       have hm : t ∈ [25, 33, 37] := by simpa using Array.mem_of_getElem? ht
       have hall : (([25, 33, 37] : List TypeId).all fun u => !Tryd.prog.wantsStandIn u) = true := by kernel_rfl
       exact (show Tryd.prog.wantsStandIn t = false by simpa using List.all_eq_true.1 hall t hm)⟩)
   (by kernel_rfl)
end Go.CL
