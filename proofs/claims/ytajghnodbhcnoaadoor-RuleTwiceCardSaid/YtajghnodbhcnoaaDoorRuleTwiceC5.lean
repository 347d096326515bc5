/- A part of the proof of RuleTwice. -/
import Derived.Test.YtajghnodbhcnoaaDoorRuleTwiceC4
import Derived.KernelRfl
import Derived.Laws.Strings
import Derived.Test.YtajghnodbhcnoaaDoorRows
import Derived.Test.YtajghnodbhcnoaaDoorCards
import Derived.Test.YtajghnodbhcnoaaDoorTie
import Derived.SevenTiedAt
set_option linter.unusedVariables false
set_option linter.unusedSimpArgs false
set_option maxRecDepth 100000
namespace Go.CL
open Go Go.RowKit Go.Proofs
theorem moietylaw05_RuleTwice_ok (a0 : api_Record) (a1 : api_Act) {r : Bool} (h : moietylaw05_RuleTwice a0 a1 = some r) : FnOk Tryd.prog 5 [(k_api_Record.pd a0), (k_api_Act.pd a1)] (pBool r) := by
  have H0 := h
  unfold moietylaw05_RuleTwice at H0
  clear h
  refine fn_ok (N := 48) Tryd.func5 rfl rfl (Nat.le_of_ble_eq_true rfl) rfl rfl (fun a g0 hst hb => ?_)
  refine r_s (L := [(0, _), (1, _)]) (T := [⟨[.old 0], _, [], [], [2]⟩, ⟨[.old 1], _, [], [], [3]⟩, ⟨[], _, [], [], [4]⟩]) (F := [.op 0 0, .op 1 0]) hst hb follows
    (o_p rfl (ob_box1 rfl rfl u_0) <|
     o_p rfl (ob_box1 rfl rfl u_0) <|
     o_p rfl (ob_assign rfl rfl c_b) <|
     o_n) (by kernel_rfl) (fun a g hst hb => ?_)
  refine wp_seq ?_
  obtain ⟨r1, h2, H0⟩ := of_bind H0
  refine r_s (L := [(2, _), (3, _)]) (T := [⟨[], _, [], [], [11]⟩, ⟨[.op 0 0], _, [], [0], [12]⟩]) (F := [.old 0, .old 1, .op 1 0]) hst hb follows
    (o_p rfl (ob_call en_9 (moietylaw05_speaks_ok h2) rfl rfl .nil) <|
     o_p rfl (ob_not rfl rfl u_0) <|
     o_n) (by kernel_rfl) (fun a g hst hb => ?_)
  refine wp_cond_split (hst.bool 2 rfl) (fun hc3 => ?_) (fun hc3 => ?_)
  · replace H0 := ite_t hc3 H0
    refine r_s (L := []) (T := [⟨[], _, [], [], [4]⟩]) (F := [.op 0 0]) (hst.pick [] rfl) hb follows
      (o_p rfl (ob_assign rfl rfl c_b) <|
       o_n) (by kernel_rfl) (fun a g hst hb => ?_)
    refine wp_ret ?_
    refine then_r ?_
    obtain rfl := Option.some.inj H0
    exact endR1 rfl hst hb (res_tmp (s := 4)) (hst.at 0 rfl)
  · replace H0 := ite_f hc3 H0
    refine wp_skip ?_
    refine then_n ?_
    refine wp_seq ?_
    obtain ⟨r4, h5, H0⟩ := of_bind H0
    refine r_s (L := [(2, _), (3, _)]) (T := [⟨[.old 0], _, [], [], [13]⟩, ⟨[.old 1], _, [], [], [14]⟩, ⟨[.op 1 0], _, [], [1], [15]⟩, ⟨[.op 0 0, .op 2 0], _, [], [0, 1, 2], [16]⟩]) (F := [.old 0, .old 1, .op 3 0]) (hst.pick [0, 1] rfl) hb follows
      (o_p rfl (ob_load ty_25 rfl rfl u_0) <|
       o_p rfl (ob_load ty_27 rfl rfl u_0) <|
       o_p rfl (ob_lit te_38 (xs := [.tmp 14]) (.cons u_0 .nil) (by decide) rfl rfl) <|
       o_p rfl (ob_call en_10 (moietylaw05_big_ok _ _ h5) rfl rfl (.cons u_0 (.cons u_1 .nil))) <|
       o_n) (by kernel_rfl) (fun a g hst hb => ?_)
    refine wp_cond_split (hst.bool 2 rfl) (fun hc6 => ?_) (fun hc6 => ?_)
    · replace H0 := ite_t hc6 H0
      refine r_s (L := []) (T := [⟨[], _, [], [], [4]⟩]) (F := [.op 0 0]) (hst.pick [] rfl) hb follows
        (o_p rfl (ob_assign rfl rfl c_b) <|
         o_n) (by kernel_rfl) (fun a g hst hb => ?_)
      refine wp_ret ?_
      refine then_r ?_
      obtain rfl := Option.some.inj H0
      exact endR1 rfl hst hb (res_tmp (s := 4)) (hst.at 0 rfl)
    · replace H0 := ite_f hc6 H0
      refine wp_skip ?_
      refine then_n ?_
      refine wp_seq ?_
      refine r_s (L := [(2, _), (3, _)]) (T := [⟨[.old 1], _, [], [], [17]⟩, ⟨[.op 0 0], _, [], [0], [18]⟩]) (F := [.old 0, .old 1, .op 1 0]) (hst.pick [0, 1] rfl) hb follows
        (o_p rfl (ob_fieldAddr fl_27_0 rfl rfl u_0) <|
         o_p rfl (ob_load ty_3 rfl rfl u_0) <|
         o_n) (by kernel_rfl) (fun a g hst hb => ?_)
      refine wp_block ?_
      refine wp_seq ?_
      refine r_s (L := [(2, _), (3, _), (18, _)]) (T := [⟨[.old 2], _, [], [], [20]⟩, ⟨[.op 0 0], _, [], [0], [19]⟩]) (F := [.old 0, .old 1, .old 2, .op 1 0]) hst hb follows
        (o_p rfl (ob_eq rfl rfl u_0 c_i) <|
         o_p rfl (ob_assign rfl rfl u_0) <|
         o_n) (by kernel_rfl) (fun a g hst hb => ?_)
      refine wp_cut (fun a w => ∃ (j14 : Bool) (g : G), w = g.w ∧ St 48 [(2, (k_api_Record.ptr a0)), (3, (k_api_Act.ptr a1)), (19, (pBool j14))] a g ∧ Base g0 g ∧ moietylaw05_RuleTwice_j1 a0 a1 j14 = some r) ?_ ?_
      · rintro a w ⟨j14, g, rfl, hst, hb, H0⟩
        unfold moietylaw05_RuleTwice_j1 at H0
        refine then_n ?_
        refine wp_cond_split (hst.bool 2 rfl) (fun hc15 => ?_) (fun hc15 => ?_)
        · replace H0 := ite_t hc15 H0
          refine wp_skip ?_
          refine inBlock_n ?_
          refine then_n ?_
          obtain ⟨r16, h17, H0⟩ := of_bind H0
          refine r_s (L := [(2, _), (3, _)]) (T := ⟨[.old 0], _, [], [], [29]⟩ :: ⟨[.old 1], _, [], [], [30]⟩ :: ⟨[.op 0 0, .op 1 0], _, [], [0, 1], [31]⟩ :: ⟨[.op 2 0], _, [], [0, 1, 2], [28]⟩ :: ⟨[.op 3 0], _, [], List.range 4, [32]⟩ :: ⟨[.op 3 0], _, [], List.range 4, [33]⟩ :: ⟨[.op 3 0], _, [], List.range 4, [34]⟩ :: ⟨[], [(5, (pBox k_api_Record 5 (default : api_Record)))], [6], [], [5]⟩ :: ⟨[], [(7, (pBox k_api_Answer 7 (default : api_Answer)))], [8], [], [7]⟩ :: ⟨[.op 4 0, .op 7 0], _, [6], [0, 1, 2, 3, 4, 7, 8], [5]⟩ :: ⟨[.op 5 0], _, [], [0, 1, 2, 3, 4, 5, 7, 8, 9], [6]⟩ :: ⟨[.op 6 0, .op 8 0], _, [8], List.range 11, [7]⟩ :: []) (F := [.old 1, .op 9 0]) (hst.pick [0, 1] rfl) hb follows
            (o_p rfl (ob_load ty_25 rfl rfl u_0) <|
             o_p rfl (ob_load ty_27 rfl rfl u_0) <|
             o_p rfl (ob_call en_11 (rule_Apply_ok _ _ _ h17) rfl rfl (.cons u_0 (.cons c_b (.cons u_1 .nil)))) <|
             o_p rfl (ob_move rfl rfl u_0) <|
             o_p rfl (ob_extract rfl rfl u_0 rfl) <|
             o_p rfl (ob_extract rfl rfl u_0 rfl) <|
             o_p rfl (ob_extract rfl rfl u_0 rfl) <|
             o_p rfl (ob_alloc (zs := [.int .i64 0, .int .i64 0, .int .i64 0, .int .i64 0, .float .f64 0, .int .i64 0, .string ByteArray.empty, .slice none 0 0]) (by kernel_rfl) (fun g => zk_api_Record g) rfl rfl) <|
             o_p rfl (ob_alloc (zs := [.int .i64 0, .int .i64 0, .int .i64 0, .int .i64 0, .int .i64 0, .int .i64 0, .float .f64 0, .int .i64 0, .string ByteArray.empty, .slice none 0 0]) (by kernel_rfl) (fun g => zk_api_Answer g) rfl rfl) <|
             o_p rfl (ob_storeF ty_25 rfl rfl u_1 u_0) <|
             o_p rfl (ob_assign rfl rfl u_0) <|
             o_p rfl (ob_storeF ty_32 rfl rfl u_1 u_0) <|
             o_n) (by kernel_rfl) (fun a g hst hb => ?_)
          obtain ⟨r18, h19, H0⟩ := of_bind H0
          refine r_s (L := [(3, _), (5, _)]) (T := ⟨[.old 1], _, [], [], [36]⟩ :: ⟨[.old 0], _, [], [], [37]⟩ :: ⟨[.op 0 0, .op 1 0], _, [], [0, 1], [38]⟩ :: ⟨[.op 2 0], _, [], [0, 1, 2], [35]⟩ :: ⟨[.op 3 0], _, [], List.range 4, [39]⟩ :: ⟨[.op 3 0], _, [], List.range 4, [40]⟩ :: ⟨[.op 3 0], _, [], List.range 4, [41]⟩ :: ⟨[], [(8, (pBox k_api_Record 8 (default : api_Record)))], [9], [], [8]⟩ :: ⟨[], [(10, (pBox k_api_Answer 10 (default : api_Answer)))], [11], [], [10]⟩ :: ⟨[.op 4 0, .op 7 0], _, [9], [0, 1, 2, 3, 4, 7, 8], [8]⟩ :: ⟨[.op 5 0], _, [], [0, 1, 2, 3, 4, 5, 7, 8, 9], [9]⟩ :: ⟨[.op 6 0, .op 8 0], _, [11], List.range 11, [10]⟩ :: []) (F := [.old 1, .op 9 0, .op 10 0]) hst hb follows
            (o_p rfl (ob_load ty_25 rfl rfl u_0) <|
             o_p rfl (ob_load ty_27 rfl rfl u_0) <|
             o_p rfl (ob_call en_11 (rule_Apply_ok _ _ _ h19) rfl rfl (.cons u_0 (.cons c_b (.cons u_1 .nil)))) <|
             o_p rfl (ob_move rfl rfl u_0) <|
             o_p rfl (ob_extract rfl rfl u_0 rfl) <|
             o_p rfl (ob_extract rfl rfl u_0 rfl) <|
             o_p rfl (ob_extract rfl rfl u_0 rfl) <|
             o_p rfl (ob_alloc (zs := [.int .i64 0, .int .i64 0, .int .i64 0, .int .i64 0, .float .f64 0, .int .i64 0, .string ByteArray.empty, .slice none 0 0]) (by kernel_rfl) (fun g => zk_api_Record g) rfl rfl) <|
             o_p rfl (ob_alloc (zs := [.int .i64 0, .int .i64 0, .int .i64 0, .int .i64 0, .int .i64 0, .int .i64 0, .float .f64 0, .int .i64 0, .string ByteArray.empty, .slice none 0 0]) (by kernel_rfl) (fun g => zk_api_Answer g) rfl rfl) <|
             o_p rfl (ob_storeF ty_25 rfl rfl u_1 u_0) <|
             o_p rfl (ob_assign rfl rfl u_0) <|
             o_p rfl (ob_storeF ty_32 rfl rfl u_1 u_0) <|
             o_n) (by kernel_rfl) (fun a g hst hb => ?_)
          obtain ⟨r20, h21, H0⟩ := of_bind H0
          refine r_s (L := [(5, _), (8, _), (9, _)]) (T := [⟨[.old 2], _, [], [], [42]⟩, ⟨[.op 0 0], _, [], [0], [43]⟩, ⟨[.op 1 0, .old 0], _, [], [0, 1], [44]⟩, ⟨[.op 1 0, .old 1], _, [], [0, 1], [45]⟩, ⟨[.op 1 0, .op 2 0, .op 3 0], _, [], List.range 4, [46]⟩, ⟨[.op 1 0, .op 4 0], _, [], List.range 5, [47]⟩, ⟨[.op 5 0], _, [], List.range 6, [4]⟩]) (F := [.op 6 0]) hst hb follows
            (o_p rfl (ob_move rfl rfl u_0) <|
             o_p rfl (ob_move rfl rfl u_0) <|
             o_g (g_t rfl rfl rfl (fun hG => ob_load ty_25 rfl rfl u_0)) <|
             o_g (g_t rfl rfl rfl (fun hG => ob_load ty_25 rfl rfl u_0)) <|
             o_g (g_t rfl rfl rfl (fun hG => ob_call en_17 (rec_Same_ok _ _ (gd_true h21 hG)) rfl rfl (.cons (Opd.gd hG u_0) (.cons (Opd.gd hG u_1) .nil)))) <|
             o_p rfl (ob_pand rfl rfl u_0 (fun hz => (Opd.gd hz u_1))) <|
             o_p rfl (ob_assign rfl rfl u_0) <|
             o_n) (by kernel_rfl) (fun a g hst hb => ?_)
          refine wp_ret ?_
          obtain rfl := Option.some.inj H0
          exact endR1 rfl hst hb (res_tmp (s := 4)) (hst.at 0 rfl)
        · replace H0 := ite_f hc15 H0
          refine r_s (L := []) (T := [⟨[], _, [], [], [4]⟩]) (F := [.op 0 0]) (hst.pick [] rfl) hb follows
            (o_p rfl (ob_assign rfl rfl c_b) <|
             o_n) (by kernel_rfl) (fun a g hst hb => ?_)
          refine wp_ret ?_
          refine inBlock_r ?_
          refine then_r ?_
          obtain rfl := Option.some.inj H0
          exact endR1 rfl hst hb (res_tmp (s := 4)) (hst.at 0 rfl)
      · refine wp_cond_split (hst.bool 3 rfl) (fun hc7 => ?_) (fun hc7 => ?_)
        · replace H0 := ite_t hc7 H0
          refine wp_skip ?_
          exact ⟨(a1.Kind == (5 : Int)), g, rfl, (hst.pick [0, 1, 3] rfl), hb, H0⟩
        · replace H0 := ite_f hc7 H0
          refine r_s (L := [(2, _), (3, _), (18, _)]) (T := [⟨[.old 2], _, [], [], [21]⟩, ⟨[.op 0 0], _, [], [0], [19]⟩]) (F := [.old 0, .old 1, .old 2, .op 1 0]) (hst.pick [0, 1, 2] rfl) hb follows
            (o_p rfl (ob_eq rfl rfl u_0 c_i) <|
             o_p rfl (ob_assign rfl rfl u_0) <|
             o_n) (by kernel_rfl) (fun a g hst hb => ?_)
          refine wp_cond_split (hst.bool 3 rfl) (fun hc8 => ?_) (fun hc8 => ?_)
          · replace H0 := ite_t hc8 H0
            refine wp_skip ?_
            exact ⟨(a1.Kind == (6 : Int)), g, rfl, (hst.pick [0, 1, 3] rfl), hb, H0⟩
          · replace H0 := ite_f hc8 H0
            refine r_s (L := [(2, _), (3, _), (18, _)]) (T := [⟨[.old 2], _, [], [], [22]⟩, ⟨[.op 0 0], _, [], [0], [19]⟩]) (F := [.old 0, .old 1, .old 2, .op 1 0]) (hst.pick [0, 1, 2] rfl) hb follows
              (o_p rfl (ob_eq rfl rfl u_0 c_i) <|
               o_p rfl (ob_assign rfl rfl u_0) <|
               o_n) (by kernel_rfl) (fun a g hst hb => ?_)
            refine wp_cond_split (hst.bool 3 rfl) (fun hc9 => ?_) (fun hc9 => ?_)
            · replace H0 := ite_t hc9 H0
              refine wp_skip ?_
              exact ⟨(a1.Kind == (13 : Int)), g, rfl, (hst.pick [0, 1, 3] rfl), hb, H0⟩
            · replace H0 := ite_f hc9 H0
              refine r_s (L := [(2, _), (3, _), (18, _)]) (T := [⟨[.old 2], _, [], [], [23]⟩, ⟨[.op 0 0], _, [], [0], [19]⟩]) (F := [.old 0, .old 1, .old 2, .op 1 0]) (hst.pick [0, 1, 2] rfl) hb follows
                (o_p rfl (ob_eq rfl rfl u_0 c_i) <|
                 o_p rfl (ob_assign rfl rfl u_0) <|
                 o_n) (by kernel_rfl) (fun a g hst hb => ?_)
              refine wp_cond_split (hst.bool 3 rfl) (fun hc10 => ?_) (fun hc10 => ?_)
              · replace H0 := ite_t hc10 H0
                refine wp_skip ?_
                exact ⟨(a1.Kind == (14 : Int)), g, rfl, (hst.pick [0, 1, 3] rfl), hb, H0⟩
              · replace H0 := ite_f hc10 H0
                refine r_s (L := [(2, _), (3, _), (18, _)]) (T := [⟨[.old 2], _, [], [], [24]⟩, ⟨[.op 0 0], _, [], [0], [19]⟩]) (F := [.old 0, .old 1, .old 2, .op 1 0]) (hst.pick [0, 1, 2] rfl) hb follows
                  (o_p rfl (ob_eq rfl rfl u_0 c_i) <|
                   o_p rfl (ob_assign rfl rfl u_0) <|
                   o_n) (by kernel_rfl) (fun a g hst hb => ?_)
                refine wp_cond_split (hst.bool 3 rfl) (fun hc11 => ?_) (fun hc11 => ?_)
                · replace H0 := ite_t hc11 H0
                  refine wp_skip ?_
                  exact ⟨(a1.Kind == (17 : Int)), g, rfl, (hst.pick [0, 1, 3] rfl), hb, H0⟩
                · replace H0 := ite_f hc11 H0
                  refine r_s (L := [(2, _), (3, _), (18, _)]) (T := [⟨[.old 2], _, [], [], [25]⟩, ⟨[.op 0 0], _, [], [0], [19]⟩]) (F := [.old 0, .old 1, .old 2, .op 1 0]) (hst.pick [0, 1, 2] rfl) hb follows
                    (o_p rfl (ob_eq rfl rfl u_0 c_i) <|
                     o_p rfl (ob_assign rfl rfl u_0) <|
                     o_n) (by kernel_rfl) (fun a g hst hb => ?_)
                  refine wp_cond_split (hst.bool 3 rfl) (fun hc12 => ?_) (fun hc12 => ?_)
                  · replace H0 := ite_t hc12 H0
                    refine wp_skip ?_
                    exact ⟨(a1.Kind == (18 : Int)), g, rfl, (hst.pick [0, 1, 3] rfl), hb, H0⟩
                  · replace H0 := ite_f hc12 H0
                    refine r_s (L := [(2, _), (3, _), (18, _)]) (T := [⟨[.old 2], _, [], [], [26]⟩, ⟨[.op 0 0], _, [], [0], [19]⟩]) (F := [.old 0, .old 1, .old 2, .op 1 0]) (hst.pick [0, 1, 2] rfl) hb follows
                      (o_p rfl (ob_eq rfl rfl u_0 c_i) <|
                       o_p rfl (ob_assign rfl rfl u_0) <|
                       o_n) (by kernel_rfl) (fun a g hst hb => ?_)
                    refine wp_cond_split (hst.bool 3 rfl) (fun hc13 => ?_) (fun hc13 => ?_)
                    · replace H0 := ite_t hc13 H0
                      refine wp_skip ?_
                      exact ⟨(a1.Kind == (19 : Int)), g, rfl, (hst.pick [0, 1, 3] rfl), hb, H0⟩
                    · replace H0 := ite_f hc13 H0
                      refine r_g (L := [(2, _), (3, _), (18, _)]) (T := [⟨[.old 2], _, [], [], [27]⟩, ⟨[.op 0 0], _, [], [0], [19]⟩]) (F := [.old 0, .old 1, .op 1 0]) (hst.pick [0, 1, 2] rfl) hb follows
                        (o_p rfl (ob_eq rfl rfl u_0 c_i) <|
                         o_p rfl (ob_assign rfl rfl u_0) <|
                         o_n) (by kernel_rfl) (fun a g hst hb => ?_)
                      exact ⟨(a1.Kind == (21 : Int)), g, rfl, (hst.pick [0, 1, 2] rfl), hb, H0⟩
end Go.CL

/- flo (the program's) and moietyref01 (the document's): floats in one order. -/
set_option linter.unusedVariables false
set_option linter.unusedSimpArgs false
namespace Go.CL
open Go

def NANB : Nat := 9221120237041090561
/-- A number's place in the order. -/
def keyf (b : Nat) : Int := if isn b then 18444492273895866369 else if TOP ≤ b then 18446744073709551615 - b else b + 9223372036854775808
def canon (b : Nat) : Nat := if isn b then NANB else b
theorem fneq_self {b : Nat} (hb : b < 18446744073709551616) : fneq b b = decide (isn b) := by
  unfold fneq
  show (Ieee.double.order b b != some .eq) = _
  by_cases h : isn b
  · rw [order_nan (.inl h)]; simp [h]
  · obtain ⟨o, ho, _, he⟩ := order_spec hb hb h h
    rw [ho, he.2 rfl]; simp [h]
theorem canon_eq {b : Nat} (hb : b < 18446744073709551616) : flo_Canon b = some (canon b) := by
  unfold flo_Canon canon
  rw [fneq_self hb]
  by_cases h : isn b
  · simp [h, math_NaN, NANB]
  · simp [h]
theorem and_top {b : Nat} (hb : b < 18446744073709551616) : (bAnd .u64 (b : Int) 9223372036854775808 != 0) = decide (TOP ≤ b) := by
  have h1 : (BitVec.ofInt 64 (b : Int) &&& BitVec.ofInt 64 9223372036854775808).toNat = b &&& 9223372036854775808 := by
    rw [BitVec.toNat_and]
    have e1 : (BitVec.ofInt 64 (b : Int)).toNat = b := by
      rw [show BitVec.ofInt 64 (b : Int) = BitVec.ofNat 64 b from rfl]
      simp; omega
    rw [e1]; rfl
  have h2 : b &&& 9223372036854775808 = (b.testBit 63).toNat * 9223372036854775808 := by
    apply Nat.eq_of_testBit_eq
    intro i
    rw [Nat.testBit_and, show (9223372036854775808 : Nat) = 2 ^ 63 from rfl, Nat.testBit_two_pow]
    by_cases hi : 63 = i
    · subst hi
      cases b.testBit 63
      · simp
      · rw [Bool.toNat_true, Nat.one_mul, Nat.testBit_two_pow]; simp
    · cases b.testBit 63
      · simp [hi]
      · rw [Bool.toNat_true, Nat.one_mul, Nat.testBit_two_pow]; simp [hi]
  have h3 : b.testBit 63 = decide (TOP ≤ b) := by
    rw [Nat.testBit_eq_decide_div_mod_eq]
    unfold TOP
    by_cases h : 9223372036854775808 ≤ b
    · have : b / 2 ^ 63 % 2 = 1 := by omega
      simp [this, h]
    · have : b / 2 ^ 63 % 2 = 0 := by omega
      simp [this, h]
  unfold bAnd
  show (IntKind.wrap .u64 ((BitVec.ofInt 64 (b : Int) &&& BitVec.ofInt 64 9223372036854775808).toNat : Int) != 0) = _
  rw [h1, h2, h3]
  by_cases h : TOP ≤ b
  · simp only [h, decide_true, Bool.toNat_true, Nat.one_mul]
    rfl
  · simp only [h, decide_false, Bool.toNat_false, Nat.zero_mul]
    rfl
theorem xor_top {b : Nat} (hb : b < 18446744073709551616) : bXor .u64 IntKind.u64.max (b : Int) = 18446744073709551615 - b := by
  have h1 : (BitVec.ofInt 64 18446744073709551615 ^^^ BitVec.ofInt 64 (b : Int)).toNat = 18446744073709551615 - b := by
    have e1 : BitVec.ofInt 64 18446744073709551615 = BitVec.allOnes 64 := by decide
    rw [e1, BitVec.allOnes_xor, BitVec.toNat_not]
    have e2 : (BitVec.ofInt 64 (b : Int)).toNat = b := by
      rw [show BitVec.ofInt 64 (b : Int) = BitVec.ofNat 64 b from rfl]
      simp; omega
    rw [e2]
  unfold bXor
  show IntKind.wrap .u64 ((BitVec.ofInt 64 18446744073709551615 ^^^ BitVec.ofInt 64 (b : Int)).toNat : Int) = _
  rw [h1]
  simp [IntKind.wrap, IntKind.signed, IntKind.bits]
  omega
theorem or_top {b : Nat} (hb : b < 9223372036854775808) : bOr .u64 (b : Int) 9223372036854775808 = b + 9223372036854775808 := by
  have h1 : (BitVec.ofInt 64 (b : Int) ||| BitVec.ofInt 64 9223372036854775808).toNat = b + 9223372036854775808 := by
    rw [BitVec.toNat_or]
    have e1 : (BitVec.ofInt 64 (b : Int)).toNat = b := by
      rw [show BitVec.ofInt 64 (b : Int) = BitVec.ofNat 64 b from rfl]
      simp; omega
    rw [e1, show (BitVec.ofInt 64 9223372036854775808).toNat = 2 ^ 63 * 1 from rfl, Nat.or_comm]
    rw [← Nat.two_pow_add_eq_or_of_lt (by simpa using hb)]
    omega
  unfold bOr
  show IntKind.wrap .u64 ((BitVec.ofInt 64 (b : Int) ||| BitVec.ofInt 64 9223372036854775808).toNat : Int) = _
  rw [h1]
  simp [IntKind.wrap, IntKind.signed, IntKind.bits]
  omega
theorem canon_lt {b : Nat} (hb : b < 18446744073709551616) : canon b < 18446744073709551616 := by
  unfold canon NANB; split <;> omega
theorem key_eq {b : Nat} (hb : b < 18446744073709551616) : flo_Key b = some (keyf b) := by
  unfold flo_Key
  rw [canon_eq hb]
  simp only [Option.bind_some]
  rw [and_top (canon_lt hb)]
  unfold keyf canon
  by_cases h : isn b
  · simp only [h, if_true]
    rfl
  · simp only [h, if_false]
    by_cases ht : TOP ≤ b
    · simp only [ht, decide_true, if_true]
      rw [xor_top hb]
    · simp only [ht, decide_false, if_false, Bool.false_eq_true]
      rw [or_top (by unfold TOP at ht; omega)]
theorem same_eq {a b : Nat} (ha : a < 18446744073709551616) (hb : b < 18446744073709551616) : flo_Same a b = some (decide (keyf a = keyf b)) := by
  unfold flo_Same
  rw [key_eq ha, key_eq hb]
  simp [BEq.beq]
theorem less_eq {a b : Nat} (ha : a < 18446744073709551616) (hb : b < 18446744073709551616) : flo_Less a b = some (decide (keyf a < keyf b)) := by
  unfold flo_Less
  rw [key_eq ha, key_eq hb]
  simp
theorem proper_eq {a : Nat} (ha : a < 18446744073709551616) : flo_Proper a = some (decide (a = canon a)) := by
  unfold flo_Proper
  rw [canon_eq ha]
  congr 1
  by_cases h : a = canon a
  · simp [← h]
  · have : (a : Int) ≠ (canon a : Int) := by omega
    simp [h, this]
/-! ### the document's -/
theorem keyf_lt {a b : Nat} (ha : a < 18446744073709551616) (hb : b < 18446744073709551616) (na : ¬ isn a) (nb : ¬ isn b) : keyf a < keyf b ↔ (sg a < sg b ∨ (a = TOP ∧ b = 0)) := by
  unfold keyf
  rw [if_neg na, if_neg nb]
  unfold sg isn rg INF TOP at *
  split <;> split <;> omega
theorem feql_eq {a b : Nat} (ha : a < 18446744073709551616) (hb : b < 18446744073709551616) (na : ¬ isn a) (nb : ¬ isn b) : feql a b = decide (sg a = sg b) := by
  unfold feql
  show (Ieee.double.order a b == some .eq) = _
  obtain ⟨o, ho, _, he⟩ := order_spec ha hb na nb
  rw [ho]
  by_cases h : sg a = sg b
  · rw [he.2 h]; simp [h]
  · have : o ≠ .eq := fun h' => h (he.1 h')
    simp [h, this]
theorem flss_eq {a b : Nat} (ha : a < 18446744073709551616) (hb : b < 18446744073709551616) (na : ¬ isn a) (nb : ¬ isn b) : flss a b = decide (sg a < sg b) := by
  unfold flss
  show (Ieee.double.order a b == some .lt) = _
  obtain ⟨o, ho, hl, _⟩ := order_spec ha hb na nb
  rw [ho]
  by_cases h : sg a < sg b
  · rw [hl.2 h]; simp [h]
  · have : o ≠ .lt := fun h' => h (hl.1 h')
    simp [h, this]
theorem below0 : moietyref01_below 0 = some false := by kernel_rfl
theorem belowT : moietyref01_below TOP = some true := by kernel_rfl
theorem nan0 : ¬ isn 0 := by decide
theorem sg_zero {a : Nat} (ha : a < 18446744073709551616) : sg a = sg 0 ↔ a = 0 ∨ a = TOP := by
  unfold sg TOP
  split <;> simp <;> omega
theorem rnone_eq {a : Nat} (ha : a < 18446744073709551616) : moietyref01_none a = some (decide (isn a)) := by
  unfold moietyref01_none; rw [fneq_self ha]
theorem rless_eq {a b : Nat} (ha : a < 18446744073709551616) (hb : b < 18446744073709551616) : moietyref01_Less a b = some (decide (keyf a < keyf b)) := by
  unfold moietyref01_Less
  rw [rnone_eq ha, rnone_eq hb]
  simp only [Option.bind_some]
  have kb : ∀ x, x < 18446744073709551616 → ¬ isn x → keyf x < 18444492273895866369 := by
    intro x hx nx
    unfold keyf
    rw [if_neg nx]
    unfold isn rg INF TOP at *
    split <;> omega
  have kn : ∀ x, isn x → keyf x = 18444492273895866369 := fun x h => by unfold keyf; rw [if_pos h]
  by_cases na : isn a
  · simp only [na, decide_true, if_true]
    by_cases nb : isn b
    · rw [kn a na, kn b nb]; simp
    · have := kb b hb nb
      rw [kn a na]; simp; omega
  · simp only [na, decide_false, Bool.false_eq_true, if_false]
    by_cases nb : isn b
    · have := kb a ha na
      rw [kn b nb]; simp [nb, this]
    · simp only [nb, decide_false, Bool.false_eq_true, if_false]
      rw [feql_eq ha (by decide) na nan0, feql_eq hb (by decide) nb nan0, flss_eq ha hb na nb]
      by_cases hz : sg a = sg 0 ∧ sg b = sg 0
      · rw [if_pos (by simp [hz])]
        have hk := keyf_lt ha hb na nb
        have h0T : (0 : Nat) ≠ TOP := by decide
        rcases (sg_zero ha).1 hz.1 with rfl | rfl <;> rcases (sg_zero hb).1 hz.2 with rfl | rfl <;> simp only [below0, belowT, gd, Option.bind_some, if_true, if_false, Bool.false_eq_true, Option.some.injEq] <;> decide
      · rw [if_neg (by simpa using hz)]
        have hk := keyf_lt ha hb na nb
        congr 1
        apply decide_eq_decide.2
        rw [hk]
        constructor
        · intro h; exact .inl h
        · rintro (h | ⟨rfl, rfl⟩)
          · exact h
          · exact absurd ⟨rfl, rfl⟩ hz
theorem rsame_eq {a b : Nat} (ha : a < 18446744073709551616) (hb : b < 18446744073709551616) : moietyref01_Same a b = some (decide (keyf a = keyf b)) := by
  unfold moietyref01_Same
  rw [rless_eq ha hb, rless_eq hb ha]
  simp only [Option.bind_some, gd]
  by_cases h1 : keyf a < keyf b
  · have : keyf a ≠ keyf b := by omega
    simp [h1, this]
  · by_cases h2 : keyf b < keyf a
    · have : keyf a ≠ keyf b := by omega
      simp [h1, h2, this]
    · have : keyf a = keyf b := by omega
      simp [this]
theorem rproper_eq {a : Nat} (ha : a < 18446744073709551616) : moietyref01_Proper a = some (decide (a = canon a)) := by
  unfold moietyref01_Proper
  rw [rnone_eq ha]
  unfold canon NANB
  by_cases h : isn a
  · by_cases h2 : a = 9221120237041090561
    · simp [h, h2]
    · have : (a : Int) ≠ 9221120237041090561 := by omega
      simp [h, h2, this]
  · simp [h]
end Go.CL

/- Small things that all plain laws use. -/
set_option linter.unusedVariables false
set_option linter.unusedSimpArgs false
namespace Go.CL
open Go

theorem wr {x : Int} (h1 : -9223372036854775808 ≤ x) (h2 : x ≤ 9223372036854775807) : IntKind.i64.wrap x = x := by
  rw [IntKind.wrap_i64]; omega
theorem wr1 {i : Nat} (h : i < 9223372036854775807) : IntKind.i64.wrap ((i : Int) + 1) = ((i + 1 : Nat) : Int) := by
  rw [wr (by omega) (by omega)]; omega
theorem wrapu (n : Int) : IntKind.u64.wrap n = n % 18446744073709551616 := by simp [IntKind.wrap, IntKind.bits, IntKind.signed]
theorem wru {x : Int} (h1 : 0 ≤ x) (h2 : x < 18446744073709551616) : IntKind.u64.wrap x = x := by rw [wrapu]; omega
theorem wrm {i : Nat} (h : i < 9223372036854775807) (h0 : 0 < i) : IntKind.i64.wrap ((i : Int) - 1) = ((i - 1 : Nat) : Int) := by
  rw [wr (by omega) (by omega)]; omega
theorem idxn {α : Type} (xs : List α) (i : Nat) : idx xs (i : Int) = xs[i]? := by
  unfold idx
  rw [if_pos (by omega)]
  simp
theorem idx_lt {α : Type} {xs : List α} {i : Nat} (h : i < xs.length) : idx xs (i : Int) = some xs[i] := by
  rw [idxn, List.getElem?_eq_getElem h]
theorem gd_t {β : Type} [Inhabited β] (x : Option β) : gd true x = x := rfl
theorem gd_f {β : Type} [Inhabited β] (x : Option β) : gd false x = some default := rfl
theorem cut_some {α : Type} {xs : List α} {l h : Nat} (h1 : l ≤ h) (h2 : h ≤ xs.length) : cut xs (l : Int) (h : Int) = some ((xs.drop l).take (h - l)) := by
  unfold cut
  rw [if_pos (by omega)]
  simp
/-! ### texts -/
theorem toList_inj {a b : ByteArray} (h : a.toList = b.toList) : a = b := by
  rw [_root_.Go.ByteArray.toList_eq, _root_.Go.ByteArray.toList_eq] at h
  exact ByteArray.ext (Array.toList_inj.1 h)
theorem sEq_iff {a b : ByteArray} : sEq a b = true ↔ a = b := by
  unfold sEq
  constructor
  · intro h; exact toList_inj (by simpa using h)
  · rintro rfl; simp
theorem sEq_self (a : ByteArray) : sEq a a = true := sEq_iff.2 rfl
theorem sEq_ne {a b : ByteArray} : sEq a b = false ↔ a ≠ b := by
  cases h : sEq a b
  · simp; intro e; rw [sEq_iff.2 e] at h; cases h
  · simp; exact sEq_iff.1 h
theorem bl_irr : ∀ l : List UInt8, Op.bytesLess l l = false
  | [] => rfl
  | x :: l => by simp [Op.bytesLess, bl_irr l]
theorem bl_trans : ∀ {a b c : List UInt8}, Op.bytesLess a b = true → Op.bytesLess b c = true → Op.bytesLess a c = true
  | [], [], c, h, _ => by simp [Op.bytesLess] at h
  | [], y :: b, [], _, k => by simp [Op.bytesLess] at k
  | [], y :: b, z :: c, _, _ => rfl
  | x :: a, [], c, h, _ => by simp [Op.bytesLess] at h
  | x :: a, y :: b, [], _, k => by simp [Op.bytesLess] at k
  | x :: a, y :: b, z :: c, h, k => by
    simp only [Op.bytesLess, Bool.or_eq_true, Bool.and_eq_true, decide_eq_true_eq, beq_iff_eq] at h k ⊢
    rcases h with h | ⟨h1, h2⟩ <;> rcases k with k | ⟨k1, k2⟩
    · exact .inl (UInt8.lt_trans h k)
    · subst k1; exact .inl h
    · subst h1; exact .inl k
    · subst h1; subst k1; exact .inr ⟨rfl, bl_trans h2 k2⟩
theorem bl_tri : ∀ (a b : List UInt8), Op.bytesLess a b = false → a ≠ b → Op.bytesLess b a = true
  | [], [], _, h => absurd rfl h
  | [], y :: b, h, _ => by simp [Op.bytesLess] at h
  | x :: a, [], _, _ => rfl
  | x :: a, y :: b, h, hn => by
    simp only [Op.bytesLess, Bool.or_eq_false_iff, decide_eq_false_iff_not, Bool.and_eq_false_iff] at h
    simp only [Op.bytesLess, Bool.or_eq_true, Bool.and_eq_true, decide_eq_true_eq, beq_iff_eq]
    by_cases e : x = y
    · subst e
      right
      refine ⟨rfl, bl_tri a b ?_ (fun h' => hn (by rw [h']))⟩
      rcases h.2 with h | h
      · simp at h
      · exact h
    · left
      rcases UInt8.lt_or_lt_of_ne e with h' | h'
      · exact absurd h' h.1
      · exact h'
theorem sLt_irr (a : ByteArray) : sLt a a = false := bl_irr _
theorem sLt_trans {a b c : ByteArray} (h : sLt a b = true) (k : sLt b c = true) : sLt a c = true := bl_trans h k
theorem sLt_tri {a b : ByteArray} (h : sLt a b = false) (hn : a ≠ b) : sLt b a = true := bl_tri _ _ h (fun e => hn (toList_inj e))
theorem sLt_asym {a b : ByteArray} (h : sLt a b = true) : sLt b a = false := by
  cases k : sLt b a
  · rfl
  · have := sLt_trans h k
    rw [sLt_irr] at this; cases this
theorem sLt_ne {a b : ByteArray} (h : sLt a b = true) : a ≠ b := fun e => by subst e; rw [sLt_irr] at h; cases h
end Go.CL

/- rec (the program's) and moietyref03 (the document's): records that may be; the same records. -/
set_option linter.unusedVariables false
set_option linter.unusedSimpArgs false
namespace Go.CL
open Go

abbrev W64 : Nat := 18446744073709551616
/-- A record as it may come in: its floats are words; its list is no longer than memory. -/
structure RecOk (a : api_Record) : Prop where
  real : a.Real < W64
  len : a.List.length < 4611686018427387904
  sc : ∀ e ∈ a.List, e.Score < W64

def betterB (a b : api_Item) : Bool := if keyf a.Score = keyf b.Score then sLt a.Name b.Name else decide (keyf b.Score < keyf a.Score)
theorem better_eq {a b : api_Item} (ha : a.Score < W64) (hb : b.Score < W64) : rec_Better a b = some (betterB a b) := by
  unfold rec_Better betterB
  rw [same_eq ha hb, less_eq hb ha]
  by_cases h : keyf a.Score = keyf b.Score <;> simp [h]
theorem ahead_eq {a b : api_Item} (ha : a.Score < W64) (hb : b.Score < W64) : moietyref03_Ahead a b = some (betterB a b) := by
  unfold moietyref03_Ahead betterB
  rw [rless_eq hb ha, rsame_eq ha hb]
  by_cases h : keyf a.Score = keyf b.Score
  · simp [h]
  · by_cases h2 : keyf b.Score < keyf a.Score <;> simp [h, h2]
theorem zero_eq {a : Nat} (ha : a < W64) : moietyref03_zero a = some (decide (keyf a = keyf 0)) := by
  unfold moietyref03_zero
  rw [rsame_eq ha (by decide)]
  rfl
/-- What an item at a place is told: 0, or an error. -/
def itemC (k : Int) (l : List api_Item) (i : Nat) : Int :=
  match l[i]? with
  | none => 0
  | some x =>
    let p := (l[i - 1]?).getD default
    if (16 : Int) < x.Name.size then 3
    else if (k = 8 ∧ keyf x.Score ≠ keyf 0) ∨ x.Score ≠ canon x.Score then 4
    else if 0 < i ∧ k = 8 ∧ sLt p.Name x.Name = false then 4
    else if 0 < i ∧ k = 9 ∧ betterB p x = false then 4
    else 0
theorem item_step {k : Int} {l : List api_Item} {i n : Nat} (hi : i < l.length) (hl : l.length < 4611686018427387904) (hs : ∀ e ∈ l, e.Score < W64) :
    rec_items_l1 k l (n + 1) (i : Int) = if itemC k l i = 0 then rec_items_l1 k l n ((i + 1 : Nat) : Int) else some (.inl (itemC k l i)) := by
  have hx : l[i].Score < W64 := hs _ (List.getElem_mem hi)
  rw [rec_items_l1, if_pos (by simp; omega), idx_lt hi, wr1 (by omega)]
  simp only [Option.bind_some]
  rw [same_eq hx (by decide), proper_eq hx]
  simp only [itemC, List.getElem?_eq_getElem hi]
  by_cases h1 : (16 : Int) < l[i].Name.size
  · simp [h1]
  · simp only [h1, decide_false, if_false, Bool.false_eq_true]
    have hz : ((0 : Nat) : Int) = 0 := rfl
    by_cases h0 : 0 < i
    · have hp : i - 1 < l.length := by omega
      have hps : l[i - 1].Score < W64 := hs _ (List.getElem_mem hp)
      have hd : (decide ((0 : Int) < (i : Int))) = true := by simp; omega
      rw [hd, wrm (by omega) h0, idx_lt hp]
      simp only [List.getElem?_eq_getElem hp, Option.getD_some, h0, true_and, Bool.true_and]
      by_cases h8 : k = 8
      · subst h8
        simp only [beq_self_eq_true, gd_t, Option.bind_some, true_and, Bool.true_and]
        by_cases hk : keyf l[i].Score = keyf 0
        · by_cases hc : l[i].Score = canon l[i].Score
          · simp [hk, ← hc, gd]
            cases sLt l[i - 1].Name l[i].Name <;> simp
          · simp [hk, hc, gd]
        · simp [hk, gd]
      · have h8' : (k == 8) = false := by simpa using h8
        simp only [h8', h8, gd_f, gd_t, Option.bind_some, false_and, false_or, Bool.false_and, Bool.not_false, Bool.false_or]
        by_cases hc : l[i].Score = canon l[i].Score
        · by_cases h9 : k = 9
          · subst h9
            simp [← hc, gd, better_eq hps hx]
            cases betterB l[i - 1] l[i] <;> simp
          · simp [← hc, gd, h9]
        · simp [hc]
    · have h00 : i = 0 := by omega
      subst h00
      simp only [Nat.lt_irrefl, false_and, if_false, Int.ofNat_zero, Int.lt_irrefl, decide_false, Bool.false_and, gd_f, Option.bind_some, Int.natCast_zero]
      by_cases h8 : k = 8
      · subst h8
        simp only [beq_self_eq_true, gd_t, Option.bind_some, true_and, Bool.true_and]
        by_cases hk : keyf l[0].Score = keyf 0
        · by_cases hc : l[0].Score = canon l[0].Score
          · simp [hk, ← hc, gd]
          · simp [hk, hc, gd]
        · simp [hk, gd]
      · have h8' : (k == 8) = false := by simpa using h8
        simp only [h8', h8, gd_f, gd_t, Option.bind_some, false_and, false_or, Bool.false_and, Bool.not_false, Bool.false_or]
        by_cases hc : l[0].Score = canon l[0].Score
        · simp [← hc, gd]
        · simp [hc]
theorem ritem_eq {k : Int} {l : List api_Item} {i : Nat} (hi : i < l.length) (hl : l.length < 4611686018427387904) (hs : ∀ e ∈ l, e.Score < W64) : moietyref03_item k l (i : Int) = some (itemC k l i) := by
  have hx : l[i].Score < W64 := hs _ (List.getElem_mem hi)
  unfold moietyref03_item
  rw [idx_lt hi]
  simp only [Option.bind_some]
  rw [zero_eq hx, rproper_eq hx]
  simp only [itemC, List.getElem?_eq_getElem hi]
  by_cases h1 : (16 : Int) < l[i].Name.size
  · simp [h1]
  · simp only [h1, decide_false, if_false, Bool.false_eq_true]
    by_cases h0 : 0 < i
    · have hp : i - 1 < l.length := by omega
      have hps : l[i - 1].Score < W64 := hs _ (List.getElem_mem hp)
      have hd : (decide ((0 : Int) < (i : Int))) = true := by simp; omega
      rw [hd, wrm (by omega) h0, idx_lt hp]
      simp only [List.getElem?_eq_getElem hp, Option.getD_some, h0, true_and, Bool.true_and]
      by_cases h8 : k = 8
      · subst h8
        simp only [beq_self_eq_true, gd_t, Option.bind_some, true_and, Bool.true_and]
        by_cases hk : keyf l[i].Score = keyf 0
        · by_cases hc : l[i].Score = canon l[i].Score
          · simp [hk, ← hc, gd]
            cases sLt l[i - 1].Name l[i].Name <;> simp
          · simp [hk, hc, gd]
        · simp [hk, gd]
      · have h8' : (k == 8) = false := by simpa using h8
        simp only [h8', h8, gd_f, gd_t, Option.bind_some, false_and, false_or, Bool.false_and, Bool.not_false, Bool.false_or]
        by_cases hc : l[i].Score = canon l[i].Score
        · by_cases h9 : k = 9
          · subst h9
            simp [← hc, gd, ahead_eq hps hx]
            cases betterB l[i - 1] l[i] <;> simp
          · simp [← hc, gd, h9]
        · simp [hc]
    · have h00 : i = 0 := by omega
      subst h00
      simp only [Nat.lt_irrefl, false_and, if_false, Int.ofNat_zero, Int.lt_irrefl, decide_false, Bool.false_and, gd_f, Option.bind_some, Int.natCast_zero]
      by_cases h8 : k = 8
      · subst h8
        simp only [beq_self_eq_true, gd_t, Option.bind_some, true_and, Bool.true_and]
        by_cases hk : keyf l[0].Score = keyf 0
        · by_cases hc : l[0].Score = canon l[0].Score
          · simp [hk, ← hc, gd]
          · simp [hk, hc, gd]
        · simp [hk, gd]
      · have h8' : (k == 8) = false := by simpa using h8
        simp only [h8', h8, gd_f, gd_t, Option.bind_some, false_and, false_or, Bool.false_and, Bool.not_false, Bool.false_or]
        by_cases hc : l[0].Score = canon l[0].Score
        · simp [← hc, gd]
        · simp [hc]
end Go.CL

/- rec.Check = moietyref03.Check; rec.Same = moietyref03.Same; which records are too big to be looked at. -/
set_option linter.unusedVariables false
set_option linter.unusedSimpArgs false
namespace Go.CL
open Go

def firstC (k : Int) (l : List api_Item) : Nat → Nat → Int
  | _, 0 => 0
  | i, n + 1 => if itemC k l i = 0 then firstC k l (i + 1) n else itemC k l i
def endC (c : Int) : Int ⊕ Unit := if c = 0 then .inr () else .inl c
theorem firstC_z {k : Int} {l : List api_Item} {i n : Nat} (h : itemC k l i = 0) : firstC k l i (n + 1) = firstC k l (i + 1) n := by simp [firstC, h]
theorem firstC_e {k : Int} {l : List api_Item} {i n : Nat} (h : ¬ itemC k l i = 0) : firstC k l i (n + 1) = itemC k l i := by simp [firstC, h]
theorem endC_e {c : Int} (h : ¬ c = 0) : endC c = .inl c := if_neg h
theorem items_loop {k : Int} {l : List api_Item} (hl : l.length < 4611686018427387904) (hs : ∀ e ∈ l, e.Score < W64) : ∀ (n i : Nat), i + n = l.length →
    rec_items_l1 k l (n + 1) (i : Int) = some (endC (firstC k l i n))
  | 0, i, h => by
    rw [rec_items_l1, if_neg (by simp; omega)]
    rfl
  | n + 1, i, h => by
    rw [item_step (by omega) hl hs]
    by_cases hc : itemC k l i = 0
    · rw [if_pos hc, firstC_z hc, items_loop hl hs n (i + 1) (by omega)]
    · rw [if_neg hc, firstC_e hc, endC_e hc]
theorem items_eq {k : Int} {l : List api_Item} (hl : l.length < 4611686018427387904) (hs : ∀ e ∈ l, e.Score < W64) : rec_items k l = some (firstC k l 0 l.length) := by
  unfold rec_items
  rw [show (Int.toNat ((l.length : Int) - (0 : Int)) + 1) = l.length + 1 by omega, show (0 : Int) = ((0 : Nat) : Int) from rfl, items_loop hl hs l.length 0 (by omega)]
  unfold endC
  by_cases h : firstC k l 0 l.length = 0 <;> simp [h]
theorem ritems_loop {a : api_Record} (ha : RecOk a) : ∀ (n i : Nat), i + n = a.List.length →
    moietyref03_Check_l1 a (n + 1) (i : Int) = some (endC (firstC a.Kind a.List i n))
  | 0, i, h => by
    rw [moietyref03_Check_l1, if_neg (by simp; omega)]
    rfl
  | n + 1, i, h => by
    have hl := ha.len
    rw [moietyref03_Check_l1, if_pos (by simp; omega), ritem_eq (by omega) hl ha.sc, wr1 (by omega)]
    simp only [Option.bind_some]
    by_cases hc : itemC a.Kind a.List i = 0
    · rw [if_neg (by simp [hc]), firstC_z hc, ritems_loop ha n (i + 1) (by omega)]
    · rw [if_pos (by simp [hc]), firstC_e hc, endC_e hc]
def onlyB (t n b r l : Bool) (a : api_Record) : Bool := (t || sEq a.Text ⟨#[]⟩) && (n || a.Num == 0) && (b || (a.Low == 0 && a.High == 0)) && (r || decide (keyf a.Real = keyf 0)) && (l || (a.Cap == 0 && (a.List.length : Int) == 0))
theorem bare_eq {a : api_Record} (ha : RecOk a) (t n b r l : Bool) : rec_bare a ⟨t, n, b, r, l⟩ = some (onlyB t n b r l a) := by
  unfold rec_bare onlyB
  rw [same_eq ha.real (by decide)]
  simp only
  generalize sEq a.Text ⟨#[]⟩ = x1
  generalize (a.Num == 0) = x2
  generalize (a.Low == 0) = x3
  generalize (a.High == 0) = x4
  generalize decide (keyf a.Real = keyf 0) = x5
  generalize (a.Cap == 0) = x6
  generalize ((a.List.length : Int) == 0) = x7
  revert t n b r l x1 x2 x3 x4 x5 x6 x7
  decide
theorem only_eq {a : api_Record} (ha : RecOk a) {s : ByteArray} {t n b r l : Bool} (h : moietyref03_only_l1 s (Int.toNat ((s.size : Int) - (0 : Int)) + 1) false false false false false 0 = some (t, n, b, r, l)) : moietyref03_only a s = some (onlyB t n b r l a) := by
  unfold moietyref03_only onlyB
  rw [h, zero_eq ha.real]
  simp only [Option.bind_some, bne]
  generalize sEq a.Text ⟨#[]⟩ = x1
  generalize (a.Num == 0) = x2
  generalize (a.Low == 0) = x3
  generalize (a.High == 0) = x4
  generalize decide (keyf a.Real = keyf 0) = x5
  generalize (a.Cap == 0) = x6
  generalize ((a.List.length : Int) == 0) = x7
  clear h
  revert t n b r l x1 x2 x3 x4 x5 x6 x7
  decide
theorem onl_t : moietyref03_only_l1 ⟨#[116]⟩ (Int.toNat (((⟨#[116]⟩ : ByteArray).size : Int) - (0 : Int)) + 1) false false false false false 0 = some (true, false, false, false, false) := by kernel_rfl
theorem onl_n : moietyref03_only_l1 ⟨#[110]⟩ (Int.toNat (((⟨#[110]⟩ : ByteArray).size : Int) - (0 : Int)) + 1) false false false false false 0 = some (false, true, false, false, false) := by kernel_rfl
theorem onl_nb : moietyref03_only_l1 ⟨#[110, 98]⟩ (Int.toNat (((⟨#[110, 98]⟩ : ByteArray).size : Int) - (0 : Int)) + 1) false false false false false 0 = some (false, true, true, false, false) := by kernel_rfl
theorem onl_r : moietyref03_only_l1 ⟨#[114]⟩ (Int.toNat (((⟨#[114]⟩ : ByteArray).size : Int) - (0 : Int)) + 1) false false false false false 0 = some (false, false, false, true, false) := by kernel_rfl
theorem onl_l : moietyref03_only_l1 ⟨#[108]⟩ (Int.toNat (((⟨#[108]⟩ : ByteArray).size : Int) - (0 : Int)) + 1) false false false false false 0 = some (false, false, false, false, true) := by kernel_rfl
def checkD (t n b r l : Bool) (a : api_Record) : Int :=
  if onlyB t n b r l a = false then 4
  else if (64 : Int) < a.Text.size then 3
  else if b = true ∧ (a.Low < -2305843009213693952 ∨ 2305843009213693952 < a.High ∨ a.Num < a.Low ∨ a.High < a.Num) then 1
  else if a.Real ≠ canon a.Real then 4
  else if l = false then 0
  else if a.Cap < 1 ∨ 32 < a.Cap then 1
  else if a.Cap < a.List.length then 8
  else firstC a.Kind a.List 0 a.List.length
theorem check_shape {a : api_Record} (ha : RecOk a) {t n b r l : Bool} (hk : ¬ (a.Kind ≤ 0 ∨ 10 ≤ a.Kind)) (hs : rec_shaped a.Kind = some ⟨t, n, b, r, l⟩) : rec_Check a = some (checkD t n b r l a) := by
  unfold rec_Check checkD
  rw [hs]
  simp only [Option.bind_some]
  rw [bare_eq ha, proper_eq ha.real, items_eq ha.len ha.sc]
  simp only [Option.bind_some]
  rw [if_neg (by simpa using hk)]
  by_cases h1 : onlyB t n b r l a = false
  · rw [if_pos h1, if_pos (by simp [h1])]
  · rw [if_neg h1, if_neg (by simpa using h1)]
    by_cases h2 : (64 : Int) < a.Text.size
    · rw [if_pos h2, if_pos (by simpa using h2)]
    · rw [if_neg h2, if_neg (by simpa using h2)]
      by_cases h3 : b = true ∧ (a.Low < -2305843009213693952 ∨ 2305843009213693952 < a.High ∨ a.Num < a.Low ∨ a.High < a.Num)
      · rw [if_pos h3, if_pos (by simpa [or_assoc] using h3)]
      · rw [if_neg h3, if_neg (by simpa [or_assoc] using h3)]
        by_cases h4 : a.Real = canon a.Real
        · rw [if_neg (show ¬ (a.Real ≠ canon a.Real) from fun h => h h4), decide_eq_true h4]
          simp only [Bool.not_true, Bool.false_eq_true, if_false]
          cases l
          · simp
          · simp only [Bool.not_true, Bool.false_eq_true, if_false, Bool.true_eq_false]
            by_cases h5 : a.Cap < 1 ∨ 32 < a.Cap
            · rw [if_pos h5, if_pos (by simpa using h5)]
            · rw [if_neg h5, if_neg (by simpa using h5)]
              by_cases h6 : a.Cap < a.List.length
              · rw [if_pos h6, if_pos (by simpa using h6)]
              · rw [if_neg h6, if_neg (by simpa using h6)]
        · rw [if_pos (show a.Real ≠ canon a.Real from h4), decide_eq_false h4]
          rfl
theorem shape1 : rec_shaped 1 = some ⟨true, false, false, false, false⟩ := by kernel_rfl
theorem shape2 : rec_shaped 2 = some ⟨false, true, false, false, false⟩ := by kernel_rfl
theorem shape3 : rec_shaped 3 = some ⟨false, true, false, false, false⟩ := by kernel_rfl
theorem shape4 : rec_shaped 4 = some ⟨false, true, true, false, false⟩ := by kernel_rfl
theorem shape5 : rec_shaped 5 = some ⟨false, false, false, true, false⟩ := by kernel_rfl
theorem shape6 : rec_shaped 6 = some ⟨false, false, false, true, false⟩ := by kernel_rfl
theorem shape7 : rec_shaped 7 = some ⟨false, false, false, true, false⟩ := by kernel_rfl
theorem shape8 : rec_shaped 8 = some ⟨false, false, false, false, true⟩ := by kernel_rfl
theorem shape9 : rec_shaped 9 = some ⟨false, false, false, false, true⟩ := by kernel_rfl
/-- .. and the document's. -/
def rcheckD (t n b r l : Bool) (k : Int) (a : api_Record) : Int :=
  if onlyB t n b r l a = false then 4
  else if k = 1 ∧ (64 : Int) < a.Text.size then 3
  else if k = 4 ∧ (a.Low < -2305843009213693952 ∨ 2305843009213693952 < a.High ∨ a.Num < a.Low ∨ a.High < a.Num) then 1
  else if a.Real ≠ canon a.Real then 4
  else if k < 8 then 0
  else if a.Cap < 1 ∨ 32 < a.Cap then 1
  else if a.Cap < a.List.length then 8
  else firstC a.Kind a.List 0 a.List.length
theorem rcheck_shape {a : api_Record} (ha : RecOk a) {t n b r l : Bool} {s : ByteArray} (hk : ¬ (a.Kind < 1 ∨ 9 < a.Kind)) (hf : moietyref03_Fields a.Kind = some s)
    (ho : moietyref03_only_l1 s (Int.toNat ((s.size : Int) - (0 : Int)) + 1) false false false false false 0 = some (t, n, b, r, l)) : moietyref03_Check a = some (rcheckD t n b r l a.Kind a) := by
  unfold moietyref03_Check rcheckD
  have hw : IntKind.i64.wrap (0 - (2305843009213693952 : Int)) = -2305843009213693952 := by decide
  rw [hf, rproper_eq ha.real, hw, show (Int.toNat ((a.List.length : Int) - (0 : Int)) + 1) = a.List.length + 1 by omega]
  have hloop := ritems_loop ha a.List.length 0 (by omega)
  rw [show ((0 : Nat) : Int) = 0 from rfl] at hloop
  rw [hloop]
  simp only [Option.bind_some]
  rw [if_neg (by simpa using hk), only_eq ha ho]
  simp only [Option.bind_some]
  by_cases h1 : onlyB t n b r l a = false
  · rw [if_pos h1, if_pos (by simp [h1])]
  · rw [if_neg h1, if_neg (by simpa using h1)]
    by_cases h2 : a.Kind = 1 ∧ (64 : Int) < a.Text.size
    · rw [if_pos h2, if_pos (by simpa using h2)]
    · rw [if_neg h2, if_neg (by simpa using h2)]
      by_cases h3 : a.Kind = 4 ∧ (a.Low < -2305843009213693952 ∨ 2305843009213693952 < a.High ∨ a.Num < a.Low ∨ a.High < a.Num)
      · rw [if_pos h3, if_pos (by simpa [or_assoc] using h3)]
      · rw [if_neg h3, if_neg (by simpa [or_assoc] using h3)]
        by_cases h4 : a.Real = canon a.Real
        · rw [if_neg (show ¬ (a.Real ≠ canon a.Real) from fun h => h h4), decide_eq_true h4]
          simp only [Bool.not_true, Bool.false_eq_true, if_false]
          by_cases h7 : a.Kind < 8
          · rw [if_pos h7, if_pos (by simpa using h7)]
          · rw [if_neg h7, if_neg (by simpa using h7)]
            by_cases h5 : a.Cap < 1 ∨ 32 < a.Cap
            · rw [if_pos h5, if_pos (by simpa using h5)]
            · rw [if_neg h5, if_neg (by simpa using h5)]
              by_cases h6 : a.Cap < a.List.length
              · rw [if_pos h6, if_pos (by simpa using h6)]
              · rw [if_neg h6, if_neg (by simpa using h6)]
                unfold endC
                by_cases h : firstC a.Kind a.List 0 a.List.length = 0 <;> simp [h]
        · rw [if_pos (show a.Real ≠ canon a.Real from h4), decide_eq_false h4]
          rfl
theorem text_of {t n b r l : Bool} {a : api_Record} (h : ¬ onlyB t n b r l a = false) (ht : t = false) : a.Text.size = 0 := by
  subst ht
  have : onlyB false n b r l a = true := by simpa using h
  unfold onlyB at this
  simp only [Bool.false_or, Bool.and_eq_true] at this
  have := sEq_iff.1 this.1.1.1.1
  rw [this]; rfl
theorem D_eq (t n b r l : Bool) (k : Int) (a : api_Record) (ht : t = true ↔ k = 1) (hb : b = true ↔ k = 4) (hl : l = false ↔ k < 8) : rcheckD t n b r l k a = checkD t n b r l a := by
  unfold rcheckD checkD
  by_cases h1 : onlyB t n b r l a = false
  · rw [if_pos h1, if_pos h1]
  · rw [if_neg h1, if_neg h1]
    have e2 : (k = 1 ∧ (64 : Int) < a.Text.size) ↔ (64 : Int) < a.Text.size := by
      constructor
      · exact fun h => h.2
      · intro h
        refine ⟨ht.1 ?_, h⟩
        cases t
        · have := text_of h1 rfl; omega
        · rfl
    simp only [e2, hb, hl]
/-- **May a record be: the program says what the document says.** -/
theorem check_both {a : api_Record} (ha : RecOk a) : ∃ c, rec_Check a = some c ∧ moietyref03_Check a = some c := by
  by_cases hk : a.Kind ≤ 0 ∨ 10 ≤ a.Kind
  · refine ⟨5, ?_, ?_⟩
    · unfold rec_Check
      have hs : ∃ s, rec_shaped a.Kind = some s := by
        have h1 : ¬ a.Kind = 1 := by omega
        have h2 : ¬ a.Kind = 2 := by omega
        have h3 : ¬ a.Kind = 3 := by omega
        have h4 : ¬ a.Kind = 4 := by omega
        have h5 : ¬ a.Kind = 5 := by omega
        have h6 : ¬ a.Kind = 6 := by omega
        have h7 : ¬ a.Kind = 7 := by omega
        have h8 : ¬ a.Kind = 8 := by omega
        have h9 : ¬ a.Kind = 9 := by omega
        exact ⟨⟨false, false, false, false, false⟩, by simp [rec_shaped, rec_shaped_j1, rec_shaped_j2, rec_shaped_j3, h1, h2, h3, h4, h5, h6, h7, h8, h9]⟩
      obtain ⟨s, hs⟩ := hs
      rw [hs]
      simp only [Option.bind_some]
      rw [if_pos (by simpa using hk)]
    · unfold moietyref03_Check
      rw [if_pos (by simp; omega)]
  · have hk2 : ¬ (a.Kind < 1 ∨ 9 < a.Kind) := by omega
    have hk' : a.Kind = 1 ∨ a.Kind = 2 ∨ a.Kind = 3 ∨ a.Kind = 4 ∨ a.Kind = 5 ∨ a.Kind = 6 ∨ a.Kind = 7 ∨ a.Kind = 8 ∨ a.Kind = 9 := by omega
    rcases hk' with h | h | h | h | h | h | h | h | h
    · exact ⟨_, check_shape ha hk (by rw [h]; exact shape1), by rw [rcheck_shape ha hk2 (by rw [h]; kernel_rfl) onl_t, D_eq _ _ _ _ _ _ _ (by simp [h]) (by simp [h]) (by simp [h])]⟩
    · exact ⟨_, check_shape ha hk (by rw [h]; exact shape2), by rw [rcheck_shape ha hk2 (by rw [h]; kernel_rfl) onl_n, D_eq _ _ _ _ _ _ _ (by simp [h]) (by simp [h]) (by simp [h])]⟩
    · exact ⟨_, check_shape ha hk (by rw [h]; exact shape3), by rw [rcheck_shape ha hk2 (by rw [h]; kernel_rfl) onl_n, D_eq _ _ _ _ _ _ _ (by simp [h]) (by simp [h]) (by simp [h])]⟩
    · exact ⟨_, check_shape ha hk (by rw [h]; exact shape4), by rw [rcheck_shape ha hk2 (by rw [h]; kernel_rfl) onl_nb, D_eq _ _ _ _ _ _ _ (by simp [h]) (by simp [h]) (by simp [h])]⟩
    · exact ⟨_, check_shape ha hk (by rw [h]; exact shape5), by rw [rcheck_shape ha hk2 (by rw [h]; kernel_rfl) onl_r, D_eq _ _ _ _ _ _ _ (by simp [h]) (by simp [h]) (by simp [h])]⟩
    · exact ⟨_, check_shape ha hk (by rw [h]; exact shape6), by rw [rcheck_shape ha hk2 (by rw [h]; kernel_rfl) onl_r, D_eq _ _ _ _ _ _ _ (by simp [h]) (by simp [h]) (by simp [h])]⟩
    · exact ⟨_, check_shape ha hk (by rw [h]; exact shape7), by rw [rcheck_shape ha hk2 (by rw [h]; kernel_rfl) onl_r, D_eq _ _ _ _ _ _ _ (by simp [h]) (by simp [h]) (by simp [h])]⟩
    · exact ⟨_, check_shape ha hk (by rw [h]; exact shape8), by rw [rcheck_shape ha hk2 (by rw [h]; kernel_rfl) onl_l, D_eq _ _ _ _ _ _ _ (by simp [h]) (by simp [h]) (by simp [h])]⟩
    · exact ⟨_, check_shape ha hk (by rw [h]; exact shape9), by rw [rcheck_shape ha hk2 (by rw [h]; kernel_rfl) onl_l, D_eq _ _ _ _ _ _ _ (by simp [h]) (by simp [h]) (by simp [h])]⟩
end Go.CL

/- The same records: rec.Same = moietyref03.Same; what is too big. -/
set_option linter.unusedVariables false
set_option linter.unusedSimpArgs false
namespace Go.CL
open Go

def endB : Bool → Bool ⊕ Unit
  | true => .inr ()
  | false => .inl false
def eqI (x y : api_Item) : Bool := sEq x.Name y.Name && decide (keyf x.Score = keyf y.Score)
def eqL : List api_Item → List api_Item → Bool
  | [], [] => true
  | x :: xs, y :: ys => eqI x y && eqL xs ys
  | _, _ => false
def sameR (a b : api_Record) : Bool := (a.Kind == b.Kind) && (a.Num == b.Num) && (a.Low == b.Low) && (a.High == b.High) && decide (keyf a.Real = keyf b.Real) && (a.Cap == b.Cap) && sEq a.Text b.Text && eqL a.List b.List
theorem eqL_len : ∀ {a b : List api_Item}, eqL a b = true → a.length = b.length
  | [], [], _ => rfl
  | x :: xs, y :: ys, h => by
    simp only [eqL, Bool.and_eq_true] at h
    simp [eqL_len h.2]
  | [], _ :: _, h => by simp [eqL] at h
  | _ :: _, [], h => by simp [eqL] at h
theorem same1_eq {x y : api_Item} (hx : x.Score < W64) (hy : y.Score < W64) : rec_Same_1 x y = some (eqI x y) := by
  unfold rec_Same_1 eqI
  rw [same_eq hx hy]
  cases sEq x.Name y.Name <;> simp [gd]
theorem eqf_loop {a b : List api_Item} (ha : ∀ e ∈ a, e.Score < W64) (hb : ∀ e ∈ b, e.Score < W64) (hl : a.length < 4611686018427387904) (he : a.length = b.length) : ∀ (n i : Nat), i + n = a.length →
    slices_EqualFunc_api_Item_api_Item_api_Item_api_Item_l1 a b (fun y0 y1 => rec_Same_1 y0 y1) (n + 1) (i : Int) = some (endB (eqL (a.drop i) (b.drop i)))
  | 0, i, h => by
    rw [slices_EqualFunc_api_Item_api_Item_api_Item_api_Item_l1, if_neg (by simp; omega), List.drop_of_length_le (by omega), List.drop_of_length_le (by omega)]
    rfl
  | n + 1, i, h => by
    have h1 : i < a.length := by omega
    have h2 : i < b.length := by omega
    rw [slices_EqualFunc_api_Item_api_Item_api_Item_api_Item_l1, if_pos (by simp; omega), idx_lt h1, idx_lt h2, wr1 (by omega)]
    simp only [Option.bind_some]
    rw [same1_eq (ha _ (List.getElem_mem h1)) (hb _ (List.getElem_mem h2)), List.drop_eq_getElem_cons h1, List.drop_eq_getElem_cons h2]
    simp only [Option.bind_some, eqL]
    cases hq : eqI a[i] b[i]
    · simp [endB]
    · simp only [Bool.not_true, Bool.false_eq_true, if_false, Bool.true_and]
      exact eqf_loop ha hb hl he n (i + 1) (by omega)
theorem eqf_eq {a b : List api_Item} (ha : ∀ e ∈ a, e.Score < W64) (hb : ∀ e ∈ b, e.Score < W64) (hl : a.length < 4611686018427387904) : slices_EqualFunc_api_Item_api_Item_api_Item_api_Item a b (fun y0 y1 => rec_Same_1 y0 y1) = some (eqL a b) := by
  unfold slices_EqualFunc_api_Item_api_Item_api_Item_api_Item
  by_cases he : a.length = b.length
  · rw [if_neg (by simp; omega), show (Int.toNat ((a.length : Int) - (0 : Int)) + 1) = a.length + 1 by omega]
    have := eqf_loop ha hb hl he a.length 0 (by omega)
    rw [show ((0 : Nat) : Int) = 0 from rfl] at this
    rw [this]
    simp only [List.drop_zero]
    cases eqL a b <;> simp [endB]
  · rw [if_pos (by simp; omega)]
    cases h : eqL a b
    · rfl
    · exact absurd (eqL_len h) he
theorem same_rec {a b : api_Record} (ha : RecOk a) (hb : RecOk b) : rec_Same a b = some (sameR a b) := by
  unfold rec_Same sameR
  rw [same_eq ha.real hb.real, eqf_eq ha.sc hb.sc ha.len]
  generalize (a.Kind == b.Kind) = x1
  generalize (a.Num == b.Num) = x2
  generalize (a.Low == b.Low) = x3
  generalize (a.High == b.High) = x4
  generalize decide (keyf a.Real = keyf b.Real) = x5
  generalize (a.Cap == b.Cap) = x6
  generalize sEq a.Text b.Text = x7
  generalize eqL a.List b.List = x8
  revert x1 x2 x3 x4 x5 x6 x7 x8
  decide
theorem rsame_loop {a b : api_Record} (ha : RecOk a) (hb : RecOk b) (he : a.List.length = b.List.length) : ∀ (n i : Nat), i + n = a.List.length →
    moietyref03_Same_l1 a b (n + 1) (i : Int) = some (endB (eqL (a.List.drop i) (b.List.drop i)))
  | 0, i, h => by
    rw [moietyref03_Same_l1, if_neg (by simp; omega), List.drop_of_length_le (by omega), List.drop_of_length_le (by omega)]
    rfl
  | n + 1, i, h => by
    have h1 : i < a.List.length := by omega
    have h2 : i < b.List.length := by omega
    have hl := ha.len
    have hs1 := ha.sc _ (List.getElem_mem h1)
    have hs2 := hb.sc _ (List.getElem_mem h2)
    rw [moietyref03_Same_l1, if_pos (by simp; omega), idx_lt h1, idx_lt h2, wr1 (by omega), List.drop_eq_getElem_cons h1, List.drop_eq_getElem_cons h2]
    simp only [Option.bind_some, eqL, eqI]
    cases hn : sEq a.List[i].Name b.List[i].Name
    · simp [gd, endB]
    · simp only [Bool.not_true, Bool.not_false, gd_t, Option.bind_some]
      rw [rsame_eq hs1 hs2]
      simp only [Option.bind_some, Bool.false_or, Bool.true_and]
      by_cases hk : keyf a.List[i].Score = keyf b.List[i].Score
      · simp only [hk, decide_true, Bool.not_true, Bool.false_eq_true, if_false, Bool.true_and]
        exact rsame_loop ha hb he n (i + 1) (by omega)
      · simp [hk, endB]
theorem rsame_rec {a b : api_Record} (ha : RecOk a) (hb : RecOk b) : moietyref03_Same a b = some (sameR a b) := by
  unfold moietyref03_Same sameR
  rw [rsame_eq ha.real hb.real]
  by_cases he : a.List.length = b.List.length
  · have := rsame_loop ha hb he a.List.length 0 (by omega)
    rw [show ((0 : Nat) : Int) = 0 from rfl] at this
    rw [show (Int.toNat ((a.List.length : Int) - (0 : Int)) + 1) = a.List.length + 1 by omega, this]
    have hn : ((a.List.length : Int) != (b.List.length : Int)) = false := by simp; omega
    rw [hn]
    simp only [List.drop_zero, bne]
    generalize (a.Kind == b.Kind) = x1
    generalize (a.Num == b.Num) = x2
    generalize (a.Low == b.Low) = x3
    generalize (a.High == b.High) = x4
    generalize decide (keyf a.Real = keyf b.Real) = x5
    generalize (a.Cap == b.Cap) = x6
    generalize sEq a.Text b.Text = x7
    generalize eqL a.List b.List = x8
    clear this hn he
    revert x1 x2 x3 x4 x5 x6 x7 x8
    decide
  · have h8 : eqL a.List b.List = false := by
      cases h : eqL a.List b.List
      · rfl
      · exact absurd (eqL_len h) he
    have hn : ((a.List.length : Int) != (b.List.length : Int)) = true := by simp; omega
    rw [hn, h8]
    simp only [bne, Bool.or_true, Option.bind_some, if_true, Bool.and_false, ite_self]
/-! ### too big -/
theorem big03_loop {a : api_Record} (hl : a.List.length ≤ 9223372036854775807) : ∀ (n i : Nat), i + n = a.List.length → ∃ z, moietylaw03_Big_l1 a (n + 1) (i : Int) = some z ∧ (z = .inl 1 ∨ z = .inr ())
  | 0, i, h => by
    rw [moietylaw03_Big_l1, if_neg (by simp; omega)]
    exact ⟨_, rfl, .inr rfl⟩
  | n + 1, i, h => by
    rw [moietylaw03_Big_l1, if_pos (by simp; omega), idx_lt (by omega), wr1 (by omega)]
    simp only [Option.bind_some]
    split
    · exact ⟨_, rfl, .inl rfl⟩
    · exact big03_loop hl n (i + 1) (by omega)
/-- Of a record that isn't too big: its list has no more than 100 items. -/
theorem big03 {a : api_Record} (hl : a.List.length ≤ 9223372036854775807) : ∃ c, moietylaw03_Big a = some c ∧ (c = 0 ∨ c = 1) ∧ (c = 0 → a.List.length ≤ 100) := by
  unfold moietylaw03_Big
  by_cases h : (100 : Int) < a.List.length ∨ (1000 : Int) < a.Text.size
  · rw [if_pos (by simpa using h)]
    exact ⟨1, rfl, .inr rfl, fun h => by cases h⟩
  · rw [if_neg (by simpa using h), show (Int.toNat ((a.List.length : Int) - (0 : Int)) + 1) = a.List.length + 1 by omega]
    obtain ⟨z, hz, hc⟩ := big03_loop hl a.List.length 0 (by omega)
    rw [show ((0 : Nat) : Int) = 0 from rfl] at hz
    rw [hz]
    rcases hc with rfl | rfl
    · exact ⟨1, rfl, .inr rfl, fun h => by cases h⟩
    · exact ⟨0, rfl, .inl rfl, fun _ => by omega⟩
end Go.CL

/- act.Check = moietyref04.Check. -/
set_option linter.unusedVariables false
set_option linter.unusedSimpArgs false
namespace Go.CL
open Go

theorem gd_some {β : Type} [Inhabited β] (c : Bool) (v : β) : gd c (some v) = some (if c then v else default) := by cases c <;> rfl
def ActOk (a : api_Act) : Prop := RecOk a.Make ∧ a.X < W64
abbrev zrc : api_Record := { Kind := 0, Num := 0, Low := 0, High := 0, Real := 0, Cap := 0, Text := ByteArray.empty, List := [] }
theorem zrc_ok : RecOk zrc := ⟨by decide, by decide, fun e he => by cases he⟩
/-- What both say of an act of a kind. -/
def actD (n x s m o1 k1 k2 : Bool) (c : Int) (a : api_Act) : Int :=
  if (sEq a.Key ⟨#[]⟩ || decide ((24 : Int) < a.Key.size)) = true then 1
  else if (!(((n || a.N == 0) && (x || decide (keyf a.X = keyf 0))) && (s || sEq a.S ⟨#[]⟩) && (m || sameR a.Make zrc))) = true then 4
  else if decide ((if o1 = true then (64 : Int) else 16) < a.S.size) = true then 3
  else if (k2 && (decide (a.N < 0) || decide (2305843009213693952 < a.N))) = true then 1
  else if (!decide (a.X = canon a.X)) = true then 4
  else if k1 = true then c else 0
theorem emp_iff (k : ByteArray) : (decide ((k.size : Int) < 1)) = sEq k ⟨#[]⟩ := by
  by_cases h : k = ⟨#[]⟩
  · subst h; rw [sEq_self]; decide
  · rw [sEq_ne.2 h]
    have : k.size ≠ 0 := fun e => h (by
      apply ByteArray.ext
      exact Array.size_eq_zero_iff.1 e)
    simp; omega
theorem act_shape {a : api_Act} (ha : ActOk a) {w has : ByteArray} {on c : Int} {n x s m : Bool} (hc : rec_Check a.Make = some c) (h1 : act_of a.Kind = some ⟨w, on, has⟩) (hw : sEq w ⟨#[]⟩ = false)
    (fn : act_kind_field ⟨w, on, has⟩ 110 = some n) (fx : act_kind_field ⟨w, on, has⟩ 120 = some x) (fs : act_kind_field ⟨w, on, has⟩ 115 = some s) (fm : act_kind_field ⟨w, on, has⟩ 109 = some m) :
    act_Check a = some (actD n x s m (on == 1) (a.Kind == 1) (a.Kind == 10 || a.Kind == 11) c a) := by
  have h0 : (0 : Nat) < W64 := by decide
  unfold act_Check act_bare act_most
  rw [h1]
  simp only [Option.bind_some, hw, Bool.false_eq_true, if_false, fn, fx, fs, fm, gd_some]
  rw [same_eq ha.2 h0, same_rec ha.1 zrc_ok, proper_eq ha.2, hc]
  simp only [Option.bind_some, gd_some]
  unfold actD
  generalize (sEq a.Key ⟨#[]⟩ || decide ((24 : Int) < a.Key.size)) = b1
  generalize (a.N == 0) = b2
  generalize decide (keyf a.X = keyf 0) = b3
  generalize sEq a.S ⟨#[]⟩ = b4
  generalize sameR a.Make zrc = b5
  generalize (a.Kind == 10 || a.Kind == 11) = b6
  generalize (a.Kind == 1) = b7
  generalize (decide (a.N < 0) || decide (2305843009213693952 < a.N)) = b8
  generalize decide (a.X = canon a.X) = b9
  have e1 : decide ((64 : Int) < a.S.size) = decide ((if true = true then (64 : Int) else 16) < a.S.size) := rfl
  cases b1
  · have hm : ∀ (z : Bool), ((if z = true then some (64 : Int) else some 16).bind fun r8 => (if decide (r8 < (a.S.size : Int)) = true then some (3 : Int) else if (b6 && b8) = true then some 1 else if (!b9) = true then some 4 else if b7 = true then some c else some 0)) = some (if decide ((if z = true then (64 : Int) else 16) < a.S.size) = true then 3 else if (b6 && b8) = true then 1 else if (!b9) = true then 4 else if b7 = true then c else 0) := by
      intro z
      cases z <;> simp only [Bool.false_eq_true, if_false, if_true, Option.bind_some] <;> (repeat' split) <;> rfl
    rw [hm]
    cases n <;> cases x <;> cases s <;> cases m <;> cases b2 <;> cases b3 <;> cases b4 <;> cases b5 <;> rfl
  · rfl
theorem ract_shape {a : api_Act} (ha : ActOk a) {on c : Int} {n x s m : Bool} (hc : moietyref03_Check a.Make = some c) (hk : ¬ (a.Kind < 1 ∨ 21 < a.Kind)) (ro : moietyref04_On a.Kind = some on)
    (fn : moietyref04_Has a.Kind 110 = some n) (fx : moietyref04_Has a.Kind 120 = some x) (fs : moietyref04_Has a.Kind 115 = some s) (fm : m = (a.Kind == 1)) :
    moietyref04_Check a = some (actD n x s m (on == 1) (a.Kind == 1) (a.Kind == 10 || a.Kind == 11) c a) := by
  have h0 : (0 : Nat) < W64 := by decide
  unfold moietyref04_Check
  rw [if_neg (by simpa using hk), fn, fx, fs, ro]
  simp only [Option.bind_some, gd_some, emp_iff]
  rw [rsame_eq ha.2 h0, rsame_rec ha.1 zrc_ok, rproper_eq ha.2, hc]
  simp only [Option.bind_some, gd_some]
  unfold actD
  subst fm
  have hmid : ((on == 1 && decide ((64 : Int) < a.S.size)) || ((if (!(on == 1 && decide ((64 : Int) < a.S.size))) = true then on else default) != 1 && decide ((16 : Int) < a.S.size))) = decide ((if (on == 1) = true then (64 : Int) else 16) < a.S.size) := by
    by_cases ho : on = 1
    · subst ho
      by_cases h64 : (64 : Int) < a.S.size <;> simp [h64]
    · have hb1 : (on == 1) = false := by simpa using ho
      have hb2 : (on != 1) = true := by simpa using ho
      simp [hb1, hb2]
  rw [hmid, show (a.N != 0) = !(a.N == 0) from rfl, show (a.Kind != 1) = !(a.Kind == 1) from rfl]
  generalize decide ((if (on == 1) = true then (64 : Int) else 16) < a.S.size) = b10
  generalize (sEq a.Key ⟨#[]⟩ || decide ((24 : Int) < a.Key.size)) = b1
  generalize (a.N == 0) = b2
  generalize decide (keyf a.X = keyf 0) = b3
  generalize sEq a.S ⟨#[]⟩ = b4
  generalize sameR a.Make zrc = b5
  generalize (a.Kind == 10 || a.Kind == 11) = b6
  generalize (a.Kind == 1) = b7
  generalize (decide (a.N < 0) || decide (2305843009213693952 < a.N)) = b8
  generalize decide (a.X = canon a.X) = b9
  have htail : (if b10 = true then some (3 : Int) else if (b6 && b8) = true then some 1 else if (!b9) = true then some 4 else if b7 = true then some c else some 0) = some (if b10 = true then 3 else if (b6 && b8) = true then 1 else if (!b9) = true then 4 else if b7 = true then c else 0) := by
    (repeat' split) <;> rfl
  rw [htail]
  cases b1
  · cases n <;> cases x <;> cases s <;> cases b7 <;> cases b2 <;> cases b3 <;> cases b4 <;> cases b5 <;> rfl
  · rfl
theorem actD_zero {n x s m o1 k1 k2 : Bool} {c : Int} {a : api_Act} (h : actD n x s m o1 k1 k2 c a = 0) : (sEq a.Key ⟨#[]⟩ || decide ((24 : Int) < a.Key.size)) = false ∧ decide ((if o1 = true then (64 : Int) else 16) < a.S.size) = false ∧ (k2 && (decide (a.N < 0) || decide (2305843009213693952 < a.N))) = false ∧ decide (a.X = canon a.X) = true ∧ (k1 = true → c = 0) := by
  unfold actD at h
  revert h
  generalize (sEq a.Key ⟨#[]⟩ || decide ((24 : Int) < a.Key.size)) = b1
  generalize decide ((if o1 = true then (64 : Int) else 16) < a.S.size) = b3
  generalize (k2 && (decide (a.N < 0) || decide (2305843009213693952 < a.N))) = b4
  generalize decide (a.X = canon a.X) = b5
  generalize (!(((n || a.N == 0) && (x || decide (keyf a.X = keyf 0))) && (s || sEq a.S ⟨#[]⟩) && (m || sameR a.Make zrc))) = b2
  cases b1 <;> cases b2 <;> cases b3 <;> cases b4 <;> cases b5 <;> cases k1 <;> simp
/-- **May an act be: the program says what the document says.** -/
theorem check_act {a : api_Act} (ha : ActOk a) : ∃ c, act_Check a = some c ∧ moietyref04_Check a = some c ∧ (c = 0 → 1 ≤ a.Kind ∧ a.Kind ≤ 21 ∧ a.X = canon a.X ∧ a.S.size ≤ 64 ∧ ((a.Kind = 10 ∨ a.Kind = 11) → 0 ≤ a.N ∧ a.N ≤ 2305843009213693952) ∧ (a.Kind = 1 → rec_Check a.Make = some 0) ∧ (¬ (5 ≤ a.Kind ∧ a.Kind ≤ 6) → a.S.size ≤ 16) ∧ sEq a.Key ⟨#[]⟩ = false ∧ a.Key.size ≤ 24) := by
  by_cases hk : a.Kind < 1 ∨ 21 < a.Kind
  · refine ⟨5, ?_, ?_, fun h => by cases h⟩
    · unfold act_Check act_of
      rw [if_pos (by simp; omega)]
      simp only [Option.bind_some]
      rw [if_pos (show sEq ByteArray.empty ⟨#[]⟩ = true by kernel_rfl)]
    · unfold moietyref04_Check
      rw [if_pos (by simpa using hk)]
  · obtain ⟨c, hc1, hc2⟩ := check_both ha.1
    have fin : ∀ {w has : ByteArray} {on : Int} {n x s m : Bool}, act_of a.Kind = some ⟨w, on, has⟩ → sEq w ⟨#[]⟩ = false → act_kind_field ⟨w, on, has⟩ 110 = some n → act_kind_field ⟨w, on, has⟩ 120 = some x → act_kind_field ⟨w, on, has⟩ 115 = some s → act_kind_field ⟨w, on, has⟩ 109 = some m →
        moietyref04_On a.Kind = some on → moietyref04_Has a.Kind 110 = some n → moietyref04_Has a.Kind 120 = some x → moietyref04_Has a.Kind 115 = some s → m = (a.Kind == 1) → ((on == 1) = true → 5 ≤ a.Kind ∧ a.Kind ≤ 6) →
        ∃ c, act_Check a = some c ∧ moietyref04_Check a = some c ∧ (c = 0 → 1 ≤ a.Kind ∧ a.Kind ≤ 21 ∧ a.X = canon a.X ∧ a.S.size ≤ 64 ∧ ((a.Kind = 10 ∨ a.Kind = 11) → 0 ≤ a.N ∧ a.N ≤ 2305843009213693952) ∧ (a.Kind = 1 → rec_Check a.Make = some 0) ∧ (¬ (5 ≤ a.Kind ∧ a.Kind ≤ 6) → a.S.size ≤ 16) ∧ sEq a.Key ⟨#[]⟩ = false ∧ a.Key.size ≤ 24) := by
      intro w has on n x s m h1 hw fn fx fs fm ro rn rx rs hm hon
      refine ⟨_, act_shape ha hc1 h1 hw fn fx fs fm, by rw [hm]; exact ract_shape ha hc2 hk ro rn rx rs rfl, fun h0 => ?_⟩
      obtain ⟨g1, g3, g4, g5, g6⟩ := actD_zero h0
      simp only [Bool.or_eq_false_iff, decide_eq_false_iff_not] at g1
      have g3' : ¬ (if (on == 1) = true then (64 : Int) else 16) < a.S.size := of_decide_eq_false g3
      refine ⟨by omega, by omega, of_decide_eq_true g5, ?_, fun h => ?_, fun h => ?_, fun h => ?_, g1.1, by omega⟩
      · split at g3' <;> omega
      · have h11 : (a.Kind == 10 || a.Kind == 11) = true := by simpa using h
        rw [h11] at g4
        simp only [Bool.true_and, Bool.or_eq_false_iff, decide_eq_false_iff_not] at g4
        omega
      · rw [hc1, g6 (by simp [h])]
      · rw [if_neg (fun h2 => h (hon h2))] at g3'
        omega
    have hk' : a.Kind = 1 ∨ a.Kind = 2 ∨ a.Kind = 3 ∨ a.Kind = 4 ∨ a.Kind = 5 ∨ a.Kind = 6 ∨ a.Kind = 7 ∨ a.Kind = 8 ∨ a.Kind = 9 ∨ a.Kind = 10 ∨ a.Kind = 11 ∨ a.Kind = 12 ∨ a.Kind = 13 ∨ a.Kind = 14 ∨ a.Kind = 15 ∨ a.Kind = 16 ∨ a.Kind = 17 ∨ a.Kind = 18 ∨ a.Kind = 19 ∨ a.Kind = 20 ∨ a.Kind = 21 := by omega
    rcases hk' with h | h | h | h | h | h | h | h | h | h | h | h | h | h | h | h | h | h | h | h | h <;> rw [h] at fin ⊢
    · exact fin (w := ⟨#[110, 101, 119]⟩) (on := 0) (has := ⟨#[109]⟩) (n := false) (x := false) (s := false) (m := true) (by kernel_rfl) (by kernel_rfl) (by kernel_rfl) (by kernel_rfl) (by kernel_rfl) (by kernel_rfl) (by kernel_rfl) (by kernel_rfl) (by kernel_rfl) (by kernel_rfl) (by decide) (by decide)
    · exact fin (w := ⟨#[100, 114, 111, 112]⟩) (on := 0) (has := ⟨#[]⟩) (n := false) (x := false) (s := false) (m := false) (by kernel_rfl) (by kernel_rfl) (by kernel_rfl) (by kernel_rfl) (by kernel_rfl) (by kernel_rfl) (by kernel_rfl) (by kernel_rfl) (by kernel_rfl) (by kernel_rfl) (by decide) (by decide)
    · exact fin (w := ⟨#[105, 115]⟩) (on := 0) (has := ⟨#[]⟩) (n := false) (x := false) (s := false) (m := false) (by kernel_rfl) (by kernel_rfl) (by kernel_rfl) (by kernel_rfl) (by kernel_rfl) (by kernel_rfl) (by kernel_rfl) (by kernel_rfl) (by kernel_rfl) (by kernel_rfl) (by decide) (by decide)
    · exact fin (w := ⟨#[108, 111, 111, 107]⟩) (on := 0) (has := ⟨#[]⟩) (n := false) (x := false) (s := false) (m := false) (by kernel_rfl) (by kernel_rfl) (by kernel_rfl) (by kernel_rfl) (by kernel_rfl) (by kernel_rfl) (by kernel_rfl) (by kernel_rfl) (by kernel_rfl) (by kernel_rfl) (by decide) (by decide)
    · exact fin (w := ⟨#[112, 117, 116]⟩) (on := 1) (has := ⟨#[115]⟩) (n := false) (x := false) (s := true) (m := false) (by kernel_rfl) (by kernel_rfl) (by kernel_rfl) (by kernel_rfl) (by kernel_rfl) (by kernel_rfl) (by kernel_rfl) (by kernel_rfl) (by kernel_rfl) (by kernel_rfl) (by decide) (by decide)
    · exact fin (w := ⟨#[115, 119, 97, 112]⟩) (on := 1) (has := ⟨#[115]⟩) (n := false) (x := false) (s := true) (m := false) (by kernel_rfl) (by kernel_rfl) (by kernel_rfl) (by kernel_rfl) (by kernel_rfl) (by kernel_rfl) (by kernel_rfl) (by kernel_rfl) (by kernel_rfl) (by kernel_rfl) (by decide) (by decide)
    · exact fin (w := ⟨#[97, 100, 100]⟩) (on := 2) (has := ⟨#[110]⟩) (n := true) (x := false) (s := false) (m := false) (by kernel_rfl) (by kernel_rfl) (by kernel_rfl) (by kernel_rfl) (by kernel_rfl) (by kernel_rfl) (by kernel_rfl) (by kernel_rfl) (by kernel_rfl) (by kernel_rfl) (by decide) (by decide)
    · exact fin (w := ⟨#[112, 108, 117, 115]⟩) (on := 3) (has := ⟨#[110]⟩) (n := true) (x := false) (s := false) (m := false) (by kernel_rfl) (by kernel_rfl) (by kernel_rfl) (by kernel_rfl) (by kernel_rfl) (by kernel_rfl) (by kernel_rfl) (by kernel_rfl) (by kernel_rfl) (by kernel_rfl) (by decide) (by decide)
    · exact fin (w := ⟨#[114, 101, 97, 99, 104]⟩) (on := 3) (has := ⟨#[110]⟩) (n := true) (x := false) (s := false) (m := false) (by kernel_rfl) (by kernel_rfl) (by kernel_rfl) (by kernel_rfl) (by kernel_rfl) (by kernel_rfl) (by kernel_rfl) (by kernel_rfl) (by kernel_rfl) (by kernel_rfl) (by decide) (by decide)
    · exact fin (w := ⟨#[105, 110]⟩) (on := 4) (has := ⟨#[110]⟩) (n := true) (x := false) (s := false) (m := false) (by kernel_rfl) (by kernel_rfl) (by kernel_rfl) (by kernel_rfl) (by kernel_rfl) (by kernel_rfl) (by kernel_rfl) (by kernel_rfl) (by kernel_rfl) (by kernel_rfl) (by decide) (by decide)
    · exact fin (w := ⟨#[111, 117, 116]⟩) (on := 4) (has := ⟨#[110]⟩) (n := true) (x := false) (s := false) (m := false) (by kernel_rfl) (by kernel_rfl) (by kernel_rfl) (by kernel_rfl) (by kernel_rfl) (by kernel_rfl) (by kernel_rfl) (by kernel_rfl) (by kernel_rfl) (by kernel_rfl) (by decide) (by decide)
    · exact fin (w := ⟨#[101, 110, 111, 117, 103, 104]⟩) (on := 4) (has := ⟨#[110]⟩) (n := true) (x := false) (s := false) (m := false) (by kernel_rfl) (by kernel_rfl) (by kernel_rfl) (by kernel_rfl) (by kernel_rfl) (by kernel_rfl) (by kernel_rfl) (by kernel_rfl) (by kernel_rfl) (by kernel_rfl) (by decide) (by decide)
    · exact fin (w := ⟨#[114, 97, 105, 115, 101]⟩) (on := 5) (has := ⟨#[120]⟩) (n := false) (x := true) (s := false) (m := false) (by kernel_rfl) (by kernel_rfl) (by kernel_rfl) (by kernel_rfl) (by kernel_rfl) (by kernel_rfl) (by kernel_rfl) (by kernel_rfl) (by kernel_rfl) (by kernel_rfl) (by decide) (by decide)
    · exact fin (w := ⟨#[108, 111, 119, 101, 114]⟩) (on := 6) (has := ⟨#[120]⟩) (n := false) (x := true) (s := false) (m := false) (by kernel_rfl) (by kernel_rfl) (by kernel_rfl) (by kernel_rfl) (by kernel_rfl) (by kernel_rfl) (by kernel_rfl) (by kernel_rfl) (by kernel_rfl) (by kernel_rfl) (by decide) (by decide)
    · exact fin (w := ⟨#[115, 104, 105, 102, 116]⟩) (on := 7) (has := ⟨#[120]⟩) (n := false) (x := true) (s := false) (m := false) (by kernel_rfl) (by kernel_rfl) (by kernel_rfl) (by kernel_rfl) (by kernel_rfl) (by kernel_rfl) (by kernel_rfl) (by kernel_rfl) (by kernel_rfl) (by kernel_rfl) (by decide) (by decide)
    · exact fin (w := ⟨#[115, 99, 97, 108, 101]⟩) (on := 7) (has := ⟨#[120]⟩) (n := false) (x := true) (s := false) (m := false) (by kernel_rfl) (by kernel_rfl) (by kernel_rfl) (by kernel_rfl) (by kernel_rfl) (by kernel_rfl) (by kernel_rfl) (by kernel_rfl) (by kernel_rfl) (by kernel_rfl) (by decide) (by decide)
    · exact fin (w := ⟨#[102, 105, 120]⟩) (on := 7) (has := ⟨#[120]⟩) (n := false) (x := true) (s := false) (m := false) (by kernel_rfl) (by kernel_rfl) (by kernel_rfl) (by kernel_rfl) (by kernel_rfl) (by kernel_rfl) (by kernel_rfl) (by kernel_rfl) (by kernel_rfl) (by kernel_rfl) (by decide) (by decide)
    · exact fin (w := ⟨#[106, 111, 105, 110]⟩) (on := 8) (has := ⟨#[115]⟩) (n := false) (x := false) (s := true) (m := false) (by kernel_rfl) (by kernel_rfl) (by kernel_rfl) (by kernel_rfl) (by kernel_rfl) (by kernel_rfl) (by kernel_rfl) (by kernel_rfl) (by kernel_rfl) (by kernel_rfl) (by decide) (by decide)
    · exact fin (w := ⟨#[108, 101, 97, 118, 101]⟩) (on := 8) (has := ⟨#[115]⟩) (n := false) (x := false) (s := true) (m := false) (by kernel_rfl) (by kernel_rfl) (by kernel_rfl) (by kernel_rfl) (by kernel_rfl) (by kernel_rfl) (by kernel_rfl) (by kernel_rfl) (by kernel_rfl) (by kernel_rfl) (by decide) (by decide)
    · exact fin (w := ⟨#[104, 97, 115]⟩) (on := 8) (has := ⟨#[115]⟩) (n := false) (x := false) (s := true) (m := false) (by kernel_rfl) (by kernel_rfl) (by kernel_rfl) (by kernel_rfl) (by kernel_rfl) (by kernel_rfl) (by kernel_rfl) (by kernel_rfl) (by kernel_rfl) (by kernel_rfl) (by decide) (by decide)
    · exact fin (w := ⟨#[111, 102, 102, 101, 114]⟩) (on := 9) (has := ⟨#[120, 115]⟩) (n := false) (x := true) (s := true) (m := false) (by kernel_rfl) (by kernel_rfl) (by kernel_rfl) (by kernel_rfl) (by kernel_rfl) (by kernel_rfl) (by kernel_rfl) (by kernel_rfl) (by kernel_rfl) (by kernel_rfl) (by decide) (by decide)
end Go.CL

/- Names in order, and the best in order: find, join, leave, has, offer; the document's Laid. -/
set_option linter.unusedVariables false
set_option linter.unusedSimpArgs false
namespace Go.CL
open Go

abbrev Items := List api_Item
def NS (l : Items) : Prop := l.Pairwise fun p q => sLt p.Name q.Name = true
/-- How many stand ahead. -/
def pre (f : api_Item → Bool) : Items → Nat
  | [] => 0
  | e :: r => if f e then pre f r + 1 else 0
theorem pre_le (f : api_Item → Bool) : ∀ l : Items, pre f l ≤ l.length
  | [] => Nat.le_refl _
  | e :: r => by
    have := pre_le f r
    simp only [pre]
    split <;> simp <;> omega
theorem pre_lt {f : api_Item → Bool} : ∀ {l : Items} {k : Nat} (h : k < pre f l), ∃ e, l[k]? = some e ∧ f e = true
  | [], k, h => by simp [pre] at h
  | e :: r, k, h => by
    simp only [pre] at h
    split at h
    · rename_i hf
      cases k with
      | zero => exact ⟨e, rfl, hf⟩
      | succ k => exact pre_lt (l := r) (by omega)
    · omega
theorem pre_at {f : api_Item → Bool} : ∀ {l : Items} {e : api_Item}, l[pre f l]? = some e → f e = false
  | [], e, h => by simp [pre] at h
  | x :: r, e, h => by
    simp only [pre] at h
    split at h
    · exact pre_at (l := r) (by simpa using h)
    · rename_i hf
      simp at h; subst h; simpa using hf
theorem pre_mono {s : ByteArray} {l : Items} (hs : NS l) {k : Nat} (hk : k < l.length) : sLt (l[k]).Name s = decide (k < pre (fun e => sLt e.Name s) l) := by
  by_cases h : k < pre (fun e => sLt e.Name s) l
  · obtain ⟨e, he, hf⟩ := pre_lt h
    rw [List.getElem?_eq_getElem hk] at he
    obtain rfl := Option.some.inj he
    simp only [h, decide_true]; exact hf
  · simp only [h, decide_false]
    have hp : pre (fun e => sLt e.Name s) l < l.length := by omega
    have h1 := pre_at (List.getElem?_eq_getElem hp)
    rcases Nat.lt_or_eq_of_le (Nat.le_of_not_lt h) with hlt | heq
    · have h2 := List.pairwise_iff_getElem.1 hs _ _ hp hk hlt
      cases h3 : sLt (l[k]).Name s
      · rfl
      · rw [sLt_trans h2 h3] at h1; cases h1
    · have : l[k] = l[pre (fun e => sLt e.Name s) l] := by congr 1; exact heq.symm
      rw [this]; exact h1
theorem half {i j : Nat} (h : i + j < 4611686018427387904) : IntKind.i64.wrap (Int.fdiv (IntKind.u64.wrap (IntKind.i64.wrap ((i : Int) + (j : Int)))) (2 ^ 1)) = (((i + j) / 2 : Nat) : Int) := by
  rw [wr (x := (i : Int) + j) (by omega) (by omega), wru (by omega) (by omega)]
  have : Int.fdiv ((i : Int) + j) (2 ^ 1) = (((i + j) / 2 : Nat) : Int) := by
    rw [Int.fdiv_eq_ediv_of_nonneg _ (by decide)]; omega
  rw [this, wr (by omega) (by omega)]
theorem find1 (e : api_Item) (s : ByteArray) : ∃ c : Int, rule_find_1 e s = some c ∧ decide (c < 0) = sLt e.Name s ∧ (c == 0) = sEq e.Name s := by
  unfold rule_find_1
  by_cases h : sLt e.Name s = true
  · exact ⟨-1, by rw [if_pos h], by rw [h]; rfl, by rw [sEq_ne.2 (sLt_ne h)]; rfl⟩
  · have h' : sLt e.Name s = false := by simpa using h
    by_cases h2 : e.Name = s
    · exact ⟨0, by rw [if_neg h, h', sEq_iff.2 h2]; rfl, by rw [h']; rfl, by rw [sEq_iff.2 h2]; rfl⟩
    · exact ⟨1, by rw [if_neg h, h', sEq_ne.2 h2]; rfl, by rw [h']; rfl, by rw [sEq_ne.2 h2]; rfl⟩
theorem bs_loop {l : Items} {s : ByteArray} (hs : NS l) (hl : l.length < 2305843009213693952) : ∀ (n i j : Nat), j - i < n → i ≤ pre (fun e => sLt e.Name s) l → pre (fun e => sLt e.Name s) l ≤ j → j ≤ l.length →
    slices_BinarySearchFunc_api_Item_api_Item_string_l1 l s (fun y0 y1 => rule_find_1 y0 y1) n (i : Int) (j : Int) = some ((pre (fun e => sLt e.Name s) l : Nat) : Int)
  | 0, i, j, h, _, _, _ => by omega
  | n + 1, i, j, h, h1, h2, h3 => by
    rw [slices_BinarySearchFunc_api_Item_api_Item_string_l1]
    by_cases hij : i < j
    · rw [if_pos (by simpa using hij), half (by omega)]
      have hm : (i + j) / 2 < l.length := by omega
      rw [idx_lt hm]
      obtain ⟨c, hc, hc1, _⟩ := find1 l[(i + j) / 2] s
      simp only [Option.bind_some, hc]
      rw [hc1, pre_mono hs hm]
      unfold slices_BinarySearchFunc_api_Item_api_Item_string_j1
      by_cases hp : (i + j) / 2 < pre (fun e => sLt e.Name s) l
      · rw [if_pos (by simpa using hp), wr1 (by omega)]
        exact bs_loop hs hl n ((i + j) / 2 + 1) j (by omega) (by omega) h2 h3
      · rw [if_neg (by simpa using hp)]
        exact bs_loop hs hl n i ((i + j) / 2) (by omega) h1 (by omega) (by omega)
    · rw [if_neg (by simpa using hij)]
      congr 2; omega
def isAt (s : ByteArray) (l : Items) : Bool := match l[pre (fun e => sLt e.Name s) l]? with
  | some e => sEq e.Name s
  | none => false
theorem find_eq {l : Items} {s : ByteArray} (hs : NS l) (hl : l.length < 2305843009213693952) : rule_find l s = some (((pre (fun e => sLt e.Name s) l : Nat) : Int), isAt s l) := by
  unfold rule_find slices_BinarySearchFunc_api_Item_api_Item_string
  have := bs_loop (s := s) hs hl (l.length + 1) 0 l.length (by omega) (Nat.zero_le _) (pre_le _ _) (Nat.le_refl _)
  rw [show ((0 : Nat) : Int) = 0 from rfl] at this
  rw [show (Int.toNat ((l.length : Int) - (0 : Int)) + 1) = l.length + 1 by omega, this]
  simp only [Option.bind_some]
  unfold isAt
  by_cases hp : pre (fun e => sLt e.Name s) l < l.length
  · have hd : decide (((pre (fun e => sLt e.Name s) l : Nat) : Int) < (l.length : Int)) = true := by simpa using hp
    rw [hd, idx_lt hp, List.getElem?_eq_getElem hp]
    obtain ⟨c, hc, _, hc2⟩ := find1 l[pre (fun e => sLt e.Name s) l] s
    simp only [gd_t, Option.bind_some, hc, Bool.true_and, hc2]
  · have hd : decide (((pre (fun e => sLt e.Name s) l : Nat) : Int) < (l.length : Int)) = false := by simpa using hp
    rw [hd, List.getElem?_eq_none (by omega)]
    rfl
/-! ### the document's -/
def goL (f g : api_Item → Bool) (x : api_Item) : Items → Bool → Items × Bool
  | [], d => ([], d)
  | e :: r, d => if (!d && !f e) = true then ((if g e then [] else [x]) ++ e :: (goL f g x r true).1, (goL f g x r true).2) else (e :: (goL f g x r d).1, (goL f g x r d).2)
theorem goL_t (f g : api_Item → Bool) (x : api_Item) : ∀ l : Items, goL f g x l true = (l, true)
  | [] => rfl
  | e :: r => by simp [goL, goL_t f g x r]
theorem goL_f (f g : api_Item → Bool) (x : api_Item) : ∀ l : Items, goL f g x l false = match l[pre f l]? with
    | some e => (l.take (pre f l) ++ (if g e then [] else [x]) ++ l.drop (pre f l), true)
    | none => (l, false)
  | [] => rfl
  | e :: r => by
    simp only [goL, pre]
    by_cases hf : f e = true
    · simp only [hf, Bool.not_true, Bool.and_false, Bool.false_eq_true, if_false, if_true]
      rw [goL_f f g x r]
      simp only [List.getElem?_cons_succ]
      cases r[pre f r]? <;> simp
    · have hf' : f e = false := by simpa using hf
      simp only [hf', Bool.not_false, Bool.and_self, if_true, Bool.false_eq_true, if_false, goL_t, List.getElem?_cons_zero, List.take_zero, List.nil_append, List.drop_zero]
def aheadF (x : api_Item) (nm : Bool) (e : api_Item) : Bool := if nm then sLt e.Name x.Name else betterB e x
def sameF (x : api_Item) (nm : Bool) (e : api_Item) : Bool := sEq e.Name x.Name && (nm || decide (keyf e.Score = keyf x.Score))
theorem goL_len (f g : api_Item → Bool) (x : api_Item) : ∀ (l : Items) (d : Bool), (goL f g x l d).1.length ≤ l.length + 1 ∧ (d = true → (goL f g x l d).1.length = l.length)
  | l, true => by rw [goL_t]; simp
  | l, false => by
    rw [goL_f]
    cases h : l[pre f l]? with
    | none => simp
    | some e =>
      refine ⟨?_, fun h => by cases h⟩
      have := (List.getElem?_eq_some_iff.1 h).1
      simp only []
      split <;> simp <;> omega
theorem laid_step {l : Items} {x : api_Item} {nm : Bool} (hx : x.Score < W64) (hsc : ∀ e ∈ l, e.Score < W64) {n i : Nat} {out : Items} {d : Bool} (h1 : i < l.length) :
    moietyref05_Laid_l1 l x nm (n + 1) out d (i : Int) = (if (!d && !aheadF x nm l[i]) = true then (if (!sameF x nm l[i]) = true then (if (out.length + ([x] : List api_Item).length) * 24 ≤ 140737488355328 then moietyref05_Laid_j1 l (i : Int) (moietyref05_Laid_l1 l x nm n) (out ++ [x]) true else none) else moietyref05_Laid_j1 l (i : Int) (moietyref05_Laid_l1 l x nm n) out true) else moietyref05_Laid_j1 l (i : Int) (moietyref05_Laid_l1 l x nm n) out d) := by
  have hm := hsc _ (List.getElem_mem h1)
  have ha : moietyref03_Ahead l[i] x = some (betterB l[i] x) := ahead_eq hm hx
  have hs : moietyref01_Same l[i].Score x.Score = some (decide (keyf l[i].Score = keyf x.Score)) := rsame_eq hm hx
  rw [moietyref05_Laid_l1, if_pos (by simp; omega), idx_lt h1]
  cases nm
  · simp only [Bool.not_false, gd_t, Option.bind_some, Bool.true_and, ha, Bool.and_false, gd_f, Bool.false_and, Bool.or_false, Bool.and_true, Bool.false_or, aheadF, sameF, Bool.false_eq_true, if_false]
    cases hq : sEq l[i].Name x.Name
    · simp only [gd_f, Option.bind_some, Bool.false_and]
    · simp only [gd_t, Option.bind_some, Bool.true_and, hs]
  · simp only [Bool.not_true, gd_f, Option.bind_some, Bool.false_and, Bool.not_false, Bool.true_and, gd_t, Bool.false_or, Bool.true_or, Bool.and_false, Bool.and_true, aheadF, sameF, if_true]
theorem laid_loop {l : Items} {x : api_Item} {nm : Bool} (hx : x.Score < W64) (hsc : ∀ e ∈ l, e.Score < W64) (hl : l.length < 1000000) : ∀ (n i : Nat) (out : Items) (d : Bool), i + n = l.length → out.length + (if d = true then 0 else 1) ≤ i + 1 →
    moietyref05_Laid_l1 l x nm (n + 1) out d (i : Int) = some (out ++ (goL (aheadF x nm) (sameF x nm) x (l.drop i) d).1, (goL (aheadF x nm) (sameF x nm) x (l.drop i) d).2)
  | 0, i, out, d, h, _ => by
    rw [moietyref05_Laid_l1, if_neg (by simp; omega), List.drop_of_length_le (by omega)]
    simp [goL]
  | n + 1, i, out, d, h, ho => by
    have h1 : i < l.length := by omega
    rw [laid_step hx hsc h1, List.drop_eq_getElem_cons h1]
    simp only [moietyref05_Laid_j1, idx_lt h1, wr1 (show i < 9223372036854775807 by omega), Option.bind_some, goL]
    by_cases hc : (!d && !aheadF x nm l[i]) = true
    · rw [if_pos hc, if_pos hc]
      have hd : d = false := by cases d <;> simp_all
      subst hd
      simp only [Bool.false_eq_true, if_false] at ho
      by_cases hs : (!sameF x nm l[i]) = true
      · rw [if_pos hs, if_pos (by simp; omega), if_pos (by simp; omega), laid_loop hx hsc hl n (i + 1) _ true (by omega) (by simp; omega)]
        have : sameF x nm l[i] = false := by simpa using hs
        simp [this]
      · rw [if_neg hs, if_pos (by simp; omega), laid_loop hx hsc hl n (i + 1) _ true (by omega) (by simp; omega)]
        have : sameF x nm l[i] = true := by simpa using hs
        simp [this]
    · rw [if_neg hc, if_neg hc, if_pos (by simp; omega), laid_loop hx hsc hl n (i + 1) _ d (by omega) (by simp; omega)]
      simp
/-- A list with an item more. -/
def layL (x : api_Item) (nm : Bool) (l : Items) : Items := match l[pre (aheadF x nm) l]? with
  | some e => l.take (pre (aheadF x nm) l) ++ (if sameF x nm e then [] else [x]) ++ l.drop (pre (aheadF x nm) l)
  | none => l ++ [x]
theorem laid_eq {l : Items} {x : api_Item} {nm : Bool} (hx : x.Score < W64) (hsc : ∀ e ∈ l, e.Score < W64) (hl : l.length < 1000000) : moietyref05_Laid l x nm = some (layL x nm l) := by
  unfold moietyref05_Laid
  have := laid_loop (nm := nm) hx hsc hl l.length 0 [] false (by omega) (by simp)
  rw [show ((0 : Nat) : Int) = 0 from rfl] at this
  rw [show (Int.toNat ((l.length : Int) - (0 : Int)) + 1) = l.length + 1 by omega, this]
  simp only [Option.bind_some, List.nil_append, List.drop_zero]
  rw [goL_f]
  unfold layL
  cases h : l[pre (aheadF x nm) l]? with
  | none =>
    simp only [Bool.not_false, if_true, moietyref05_Laid_j2]
    rw [if_pos (by simp; omega)]
  | some e => simp only [Bool.not_true, Bool.false_eq_true, if_false, moietyref05_Laid_j2]
theorem has_loop {l : Items} {s : ByteArray} (hl : l.length < 1000000) : ∀ (n i : Nat), i + n = l.length → moietyref05_has_l1 l s (n + 1) (i : Int) = some (cond ((l.drop i).any (fun e => sEq e.Name s)) (.inl true) (.inr ()))
  | 0, i, h => by
    rw [moietyref05_has_l1, if_neg (by simp; omega), List.drop_of_length_le (by omega)]; rfl
  | n + 1, i, h => by
    have h1 : i < l.length := by omega
    rw [moietyref05_has_l1, if_pos (by simp; omega), idx_lt h1, List.drop_eq_getElem_cons h1, List.any_cons]
    simp only [Option.bind_some]
    by_cases hq : sEq l[i].Name s = true
    · rw [if_pos hq, hq]; rfl
    · have hq' : sEq l[i].Name s = false := by simpa using hq
      rw [if_neg hq, wr1 (by omega), has_loop hl n (i + 1) (by omega), hq', Bool.false_or]
theorem has_eq {l : Items} {s : ByteArray} (hl : l.length < 1000000) : moietyref05_has l s = some (l.any (fun e => sEq e.Name s)) := by
  unfold moietyref05_has
  have := has_loop (s := s) hl l.length 0 (by omega)
  rw [show ((0 : Nat) : Int) = 0 from rfl] at this
  rw [show (Int.toNat ((l.length : Int) - (0 : Int)) + 1) = l.length + 1 by omega, this]
  simp only [List.drop_zero]
  cases h : l.any (fun e => sEq e.Name s) <;> rfl
theorem filt_loop {a0 : api_Record} {a : api_Act} (hl : a0.List.length < 1000000) : ∀ (n i : Nat) (out : Items), i + n = a0.List.length → out.length ≤ i → moietyref05_do_l1 a0 a (n + 1) out (i : Int) = some (out ++ (a0.List.drop i).filter (fun e => !sEq e.Name a.S))
  | 0, i, out, h, _ => by
    rw [moietyref05_do_l1, if_neg (by simp; omega), List.drop_of_length_le (by omega)]; simp
  | n + 1, i, out, h, ho => by
    have h1 : i < a0.List.length := by omega
    rw [moietyref05_do_l1, if_pos (by simp; omega), idx_lt h1, List.drop_eq_getElem_cons h1]
    simp only [Option.bind_some, moietyref05_do_j3, wr1 (show i < 9223372036854775807 by omega)]
    rw [List.filter_cons]
    by_cases hq : (!sEq a0.List[i].Name a.S) = true
    · rw [if_pos hq, if_pos hq, if_pos (by simp; omega), filt_loop hl n (i + 1) _ (by omega) (by simp; omega), List.append_assoc]; rfl
    · rw [if_neg hq, if_neg hq, filt_loop hl n (i + 1) _ (by omega) (by omega)]
/-! ### both -/
/-- Names in order: which stand ahead, at, and behind. -/
theorem names_split {l : Items} {s : ByteArray} (hs : NS l) : (∀ e ∈ l.take (pre (fun e => sLt e.Name s) l), sEq e.Name s = false) ∧ (∀ e ∈ l.drop (pre (fun e => sLt e.Name s) l + 1), sEq e.Name s = false) := by
  constructor
  · intro e he
    obtain ⟨k, hk, rfl⟩ := List.getElem_of_mem he
    rw [List.length_take] at hk
    rw [List.getElem_take]
    have := pre_mono (s := s) hs (k := k) (by omega)
    rw [show decide (k < pre (fun e => sLt e.Name s) l) = true by simp; omega] at this
    exact sEq_ne.2 (sLt_ne this)
  · intro e he
    obtain ⟨k, hk, rfl⟩ := List.getElem_of_mem he
    rw [List.length_drop] at hk
    rw [List.getElem_drop]
    refine sEq_ne.2 fun h => ?_
    have hp : pre (fun e => sLt e.Name s) l < l.length := by omega
    have h1 := List.pairwise_iff_getElem.1 hs _ _ hp (show pre (fun e => sLt e.Name s) l + 1 + k < l.length by omega) (by omega)
    rw [h] at h1
    have := pre_at (List.getElem?_eq_getElem hp)
    rw [h1] at this; cases this
theorem split_at (l : Items) (k : Nat) (h : k < l.length) : l = l.take k ++ l[k] :: l.drop (k + 1) := by
  rw [← List.drop_eq_getElem_cons h, List.take_append_drop]
theorem any_isAt {l : Items} {s : ByteArray} (hs : NS l) : l.any (fun e => sEq e.Name s) = isAt s l := by
  obtain ⟨h1, h2⟩ := names_split (s := s) hs
  unfold isAt
  by_cases hp : pre (fun e => sLt e.Name s) l < l.length
  · rw [List.getElem?_eq_getElem hp]
    conv => lhs; rw [split_at l _ hp]
    have a1 : (l.take (pre (fun e => sLt e.Name s) l)).any (fun e => sEq e.Name s) = false := by
      rw [List.any_eq_false]; intro e he; rw [h1 e he]; decide
    have a2 : (l.drop (pre (fun e => sLt e.Name s) l + 1)).any (fun e => sEq e.Name s) = false := by
      rw [List.any_eq_false]; intro e he; rw [h2 e he]; decide
    rw [List.any_append, List.any_cons, a1, a2]; simp
  · rw [List.getElem?_eq_none (by omega)]
    have : l.take (pre (fun e => sLt e.Name s) l) = l := List.take_of_length_le (by omega)
    rw [this] at h1
    rw [List.any_eq_false]; intro e he; rw [h1 e he]; decide
theorem filt_isAt {l : Items} {s : ByteArray} (hs : NS l) : l.filter (fun e => !sEq e.Name s) = if isAt s l = true then l.take (pre (fun e => sLt e.Name s) l) ++ l.drop (pre (fun e => sLt e.Name s) l + 1) else l := by
  obtain ⟨h1, h2⟩ := names_split (s := s) hs
  unfold isAt
  by_cases hp : pre (fun e => sLt e.Name s) l < l.length
  · rw [List.getElem?_eq_getElem hp]
    conv => lhs; rw [split_at l _ hp]
    have a1 : (l.take (pre (fun e => sLt e.Name s) l)).filter (fun e => !sEq e.Name s) = l.take (pre (fun e => sLt e.Name s) l) := List.filter_eq_self.2 fun e he => by rw [h1 e he]; rfl
    have a2 : (l.drop (pre (fun e => sLt e.Name s) l + 1)).filter (fun e => !sEq e.Name s) = l.drop (pre (fun e => sLt e.Name s) l + 1) := List.filter_eq_self.2 fun e he => by rw [h2 e he]; rfl
    rw [List.filter_append, List.filter_cons, a1, a2]
    by_cases hq : sEq (l[pre (fun e => sLt e.Name s) l]).Name s = true
    · rw [if_pos hq, if_neg (by rw [hq]; decide)]
    · rw [if_neg hq, if_pos (by simpa using hq)]
      exact (split_at l _ hp).symm
  · rw [List.getElem?_eq_none (by omega)]
    have : l.take (pre (fun e => sLt e.Name s) l) = l := List.take_of_length_le (by omega)
    rw [this] at h1
    rw [if_neg (by simp)]
    exact List.filter_eq_self.2 fun e he => by rw [h1 e he]; rfl
theorem layL_isAt {l : Items} {s : ByteArray} : layL { Score := 0, Name := s } true l = if isAt s l = true then l else l.take (pre (fun e => sLt e.Name s) l) ++ [{ Score := 0, Name := s }] ++ l.drop (pre (fun e => sLt e.Name s) l) := by
  have hf : aheadF { Score := 0, Name := s } true = fun e => sLt e.Name s := rfl
  unfold layL isAt
  rw [hf]
  cases h : l[pre (fun e => sLt e.Name s) l]? with
  | none =>
    have hp := List.getElem?_eq_none_iff.1 h
    rw [if_neg (by simp), List.take_of_length_le hp, List.drop_of_length_le hp, List.append_nil]
  | some e =>
    simp only [sameF, Bool.true_or, Bool.and_true]
    by_cases hq : sEq e.Name s = true
    · rw [if_pos hq, if_pos hq, List.append_nil, List.take_append_drop]
    · rw [if_neg hq, if_neg hq]
theorem clone_i {l : Items} (h : l.length < 1000000) : slices_Clone_api_Item_api_Item l = some l := by
  unfold slices_Clone_api_Item_api_Item
  rw [if_pos (by omega)]
theorem offer_loop {r : api_Record} {a : api_Act} (ha : a.X < W64) (hsc : ∀ e ∈ r.List, e.Score < W64) (hl : r.List.length < 1000000) : ∀ (n i : Nat), i + n = r.List.length →
    rule_offer_l1 r a (n + 1) (i : Int) = some ((i + pre (aheadF { Score := a.X, Name := a.S } false) (r.List.drop i) : Nat) : Int)
  | 0, i, h => by
    have hd : decide ((i : Int) < (r.List.length : Int)) = false := by simp; omega
    rw [rule_offer_l1, hd, List.drop_of_length_le (by omega)]
    simp [gd, pre]
  | n + 1, i, h => by
    have h1 : i < r.List.length := by omega
    have hd : decide ((i : Int) < (r.List.length : Int)) = true := by simp; omega
    rw [rule_offer_l1, hd, idx_lt h1, List.drop_eq_getElem_cons h1]
    simp only [gd_t, Option.bind_some, Bool.true_and]
    rw [better_eq (hsc _ (List.getElem_mem h1)) ha]
    simp only [Option.bind_some, pre, aheadF, Bool.false_eq_true, if_false, wr1 (show i < 9223372036854775807 by omega)]
    by_cases hb : betterB r.List[i] { Score := a.X, Name := a.S } = true
    · rw [if_pos hb, if_pos hb, offer_loop ha hsc hl n (i + 1) (by omega)]
      congr 2; omega
    · rw [if_neg hb, if_neg hb]; simp
theorem offer_pre {r : api_Record} {a : api_Act} (ha : a.X < W64) (hsc : ∀ e ∈ r.List, e.Score < W64) (hl : r.List.length < 1000000) : rule_offer_l1 r a (Int.toNat ((r.List.length : Int) - (0 : Int)) + 1) (0 : Int) = some ((pre (aheadF { Score := a.X, Name := a.S } false) r.List : Nat) : Int) := by
  have := offer_loop (a := a) ha hsc hl r.List.length 0 (by omega)
  rw [show ((0 : Nat) : Int) = 0 from rfl] at this
  rw [show (Int.toNat ((r.List.length : Int) - (0 : Int)) + 1) = r.List.length + 1 by omega, this]
  simp
/-- Neither stands ahead of the other: they are the same. -/
theorem better_same {e x : api_Item} (h1 : betterB e x = false) : (!betterB x e) = sameF x false e := by
  unfold betterB sameF at *
  by_cases hk : keyf e.Score = keyf x.Score
  · rw [if_pos hk] at h1
    rw [if_pos hk.symm, hk]
    simp only [Bool.false_or, decide_true, Bool.and_true]
    by_cases hn : e.Name = x.Name
    · rw [hn, sLt_irr, sEq_self]; rfl
    · rw [sLt_tri h1 hn, sEq_ne.2 hn]; rfl
  · rw [if_neg hk] at h1
    rw [if_neg (fun h => hk h.symm)]
    have := of_decide_eq_false h1
    have h3 : keyf e.Score < keyf x.Score := by omega
    simp [h3, hk]
end Go.CL

/- Records that may be; sums of floats. -/
set_option linter.unusedVariables false
set_option linter.unusedSimpArgs false
namespace Go.CL
open Go

theorem firstC_zero {k : Int} {l : Items} : ∀ (n i : Nat), firstC k l i n = 0 ↔ ∀ j, i ≤ j → j < i + n → itemC k l j = 0
  | 0, i => ⟨fun _ j h1 h2 => by omega, fun _ => rfl⟩
  | n + 1, i => by
    by_cases h : itemC k l i = 0
    · rw [firstC_z h, firstC_zero n (i + 1)]
      constructor
      · intro hh j h1 h2
        by_cases e : j = i
        · rw [e]; exact h
        · exact hh j (by omega) (by omega)
      · intro hh j h1 h2; exact hh j (by omega) (by omega)
    · rw [firstC_e h]
      exact ⟨fun e => absurd e h, fun hh => absurd (hh i (Nat.le_refl _) (by omega)) h⟩
theorem checkD_zero {t n b r l : Bool} {a : api_Record} : checkD t n b r l a = 0 ↔ onlyB t n b r l a = true ∧ a.Text.size ≤ 64 ∧ (b = true → -2305843009213693952 ≤ a.Low ∧ a.High ≤ 2305843009213693952 ∧ a.Low ≤ a.Num ∧ a.Num ≤ a.High) ∧ a.Real = canon a.Real ∧ (l = true → 1 ≤ a.Cap ∧ a.Cap ≤ 32 ∧ (a.List.length : Int) ≤ a.Cap ∧ ∀ i, i < a.List.length → itemC a.Kind a.List i = 0) := by
  unfold checkD
  by_cases h1 : onlyB t n b r l a = false
  · rw [if_pos h1, h1]; simp
  · have h1' : onlyB t n b r l a = true := by simpa using h1
    rw [if_neg h1, h1']
    by_cases h2 : (64 : Int) < a.Text.size
    · rw [if_pos h2]; exact ⟨fun h => absurd h (by decide), fun h => by omega⟩
    · rw [if_neg h2]
      by_cases h3 : b = true ∧ (a.Low < -2305843009213693952 ∨ 2305843009213693952 < a.High ∨ a.Num < a.Low ∨ a.High < a.Num)
      · rw [if_pos h3]; exact ⟨fun h => absurd h (by decide), fun h => by have := h.2.2.1 h3.1; omega⟩
      · rw [if_neg h3]
        by_cases h4 : a.Real = canon a.Real
        · rw [if_neg (fun h => h h4)]
          cases l
          · rw [if_pos rfl]
            refine ⟨fun _ => ⟨rfl, by omega, fun hb => ?_, h4, fun h => absurd h (by decide)⟩, fun _ => rfl⟩
            have : ¬ (a.Low < -2305843009213693952 ∨ 2305843009213693952 < a.High ∨ a.Num < a.Low ∨ a.High < a.Num) := fun h => h3 ⟨hb, h⟩
            omega
          · rw [if_neg (by decide)]
            by_cases h5 : a.Cap < 1 ∨ 32 < a.Cap
            · rw [if_pos h5]; exact ⟨fun h => absurd h (by decide), fun h => by have := h.2.2.2.2 rfl; omega⟩
            · rw [if_neg h5]
              by_cases h6 : a.Cap < a.List.length
              · rw [if_pos h6]; exact ⟨fun h => absurd h (by decide), fun h => by have := h.2.2.2.2 rfl; omega⟩
              · rw [if_neg h6, firstC_zero]
                constructor
                · intro h
                  refine ⟨rfl, by omega, fun hb => ?_, h4, fun _ => ⟨by omega, by omega, by omega, fun i hi => h i (Nat.zero_le _) (by omega)⟩⟩
                  have : ¬ (a.Low < -2305843009213693952 ∨ 2305843009213693952 < a.High ∨ a.Num < a.Low ∨ a.High < a.Num) := fun h => h3 ⟨hb, h⟩
                  omega
                · intro h j _ hj
                  exact (h.2.2.2.2 rfl).2.2.2 j (by omega)
        · rw [if_pos h4]; exact ⟨fun h => absurd h (by decide), fun h => absurd h.2.2.2.1 h4⟩
def GoodR (a : api_Record) : Prop := 1 ≤ a.Kind ∧ a.Kind ≤ 9 ∧ onlyB (decide (a.Kind = 1)) (decide (2 ≤ a.Kind ∧ a.Kind ≤ 4)) (decide (a.Kind = 4)) (decide (5 ≤ a.Kind ∧ a.Kind ≤ 7)) (decide (8 ≤ a.Kind)) a = true ∧ a.Text.size ≤ 64 ∧ (a.Kind = 4 → -2305843009213693952 ≤ a.Low ∧ a.High ≤ 2305843009213693952 ∧ a.Low ≤ a.Num ∧ a.Num ≤ a.High) ∧ a.Real = canon a.Real ∧
  (8 ≤ a.Kind → 1 ≤ a.Cap ∧ a.Cap ≤ 32 ∧ (a.List.length : Int) ≤ a.Cap ∧ ∀ i, i < a.List.length → itemC a.Kind a.List i = 0)
theorem check_good {a : api_Record} (ha : RecOk a) : rec_Check a = some 0 ↔ GoodR a := by
  by_cases hk : a.Kind ≤ 0 ∨ 10 ≤ a.Kind
  · have : rec_Check a ≠ some 0 := by
      obtain ⟨c, hc, hc2⟩ := check_both ha
      unfold moietyref03_Check at hc2
      rw [if_pos (by simp; omega)] at hc2
      rw [hc, ← hc2]; decide
    exact ⟨fun h => absurd h this, fun h => by obtain ⟨h1, h2, _⟩ := h; omega⟩
  · have fin : ∀ {t n b r l : Bool}, rec_shaped a.Kind = some ⟨t, n, b, r, l⟩ → t = decide (a.Kind = 1) → n = decide (2 ≤ a.Kind ∧ a.Kind ≤ 4) → b = decide (a.Kind = 4) → r = decide (5 ≤ a.Kind ∧ a.Kind ≤ 7) → l = decide (8 ≤ a.Kind) → (rec_Check a = some 0 ↔ GoodR a) := by
      intro t n b r l hs h1 h2 h3 h4 h5
      rw [check_shape ha hk hs]
      constructor
      · intro h
        obtain ⟨g1, g2, g3, g4, g5⟩ := checkD_zero.1 (Option.some.inj h)
        refine ⟨by omega, by omega, by rw [← h1, ← h2, ← h3, ← h4, ← h5]; exact g1, g2, fun hk4 => g3 (by rw [h3]; simpa using hk4), g4, fun hk8 => g5 (by rw [h5]; simpa using hk8)⟩
      · rintro ⟨_, _, g1, g2, g3, g4, g5⟩
        congr 1
        exact checkD_zero.2 ⟨by rw [h1, h2, h3, h4, h5]; exact g1, g2, fun hb => g3 (by rw [h3] at hb; simpa using hb), g4, fun hb => g5 (by rw [h5] at hb; simpa using hb)⟩
    have hk' : a.Kind = 1 ∨ a.Kind = 2 ∨ a.Kind = 3 ∨ a.Kind = 4 ∨ a.Kind = 5 ∨ a.Kind = 6 ∨ a.Kind = 7 ∨ a.Kind = 8 ∨ a.Kind = 9 := by omega
    rcases hk' with h | h | h | h | h | h | h | h | h <;> rw [h] at fin
    · exact fin shape1 rfl rfl rfl rfl rfl
    · exact fin shape2 rfl rfl rfl rfl rfl
    · exact fin shape3 rfl rfl rfl rfl rfl
    · exact fin shape4 rfl rfl rfl rfl rfl
    · exact fin shape5 rfl rfl rfl rfl rfl
    · exact fin shape6 rfl rfl rfl rfl rfl
    · exact fin shape7 rfl rfl rfl rfl rfl
    · exact fin shape8 rfl rfl rfl rfl rfl
    · exact fin shape9 rfl rfl rfl rfl rfl
/-- Names in order of a Set that may be. -/
theorem good_names {a : api_Record} (h : GoodR a) (hk : a.Kind = 8) : NS a.List := by
  obtain ⟨_, _, _, _, _, _, h8⟩ := h
  obtain ⟨_, _, _, hi⟩ := h8 (by omega)
  have step : ∀ i, i + 1 < a.List.length → sLt ((a.List[i]?).getD default).Name ((a.List[i + 1]?).getD default).Name = true := by
    intro i hi1
    have := hi (i + 1) hi1
    unfold itemC at this
    rw [List.getElem?_eq_getElem hi1] at this
    simp only [Nat.add_sub_cancel] at this
    split at this
    · cases this
    · split at this
      · cases this
      · split at this
        · cases this
        · rename_i h3
          rw [List.getElem?_eq_getElem hi1]
          cases hq : sLt ((a.List[i]?).getD default).Name a.List[i + 1].Name
          · exact absurd ⟨by omega, hk, hq⟩ h3
          · exact hq
  have far : ∀ d i, i + d + 1 < a.List.length → sLt ((a.List[i]?).getD default).Name ((a.List[i + d + 1]?).getD default).Name = true := by
    intro d
    induction d with
    | zero => intro i h; exact step i h
    | succ d ih => intro i h; exact sLt_trans (ih i (by omega)) (step (i + d + 1) (by omega))
  refine List.pairwise_iff_getElem.2 fun i j hi hj hij => ?_
  have := far (j - i - 1) i (by omega)
  rw [show i + (j - i - 1) + 1 = j by omega, List.getElem?_eq_getElem hi, List.getElem?_eq_getElem hj] at this
  exact this
/-! ### floats -/
theorem word_lt {neg : Bool} {r : Nat} (h : r ≤ Ieee.double.infRung) : Ieee.double.word neg r < W64 := by
  have h1 : Ieee.double.infRung = 9218868437227405312 := by decide
  have h2 : Ieee.double.signWeight = 9223372036854775808 := by decide
  unfold Ieee.Format.word
  rw [h1] at h
  show _ < 18446744073709551616
  split
  · rw [h2]; omega
  · omega
theorem nearest_lt (neg : Bool) (mag : Nat) (place : Int) : Ieee.double.nearest neg mag place < W64 := by
  unfold Ieee.Format.nearest
  split
  · exact word_lt (Nat.zero_le _)
  · exact word_lt (Nat.min_le_right _ _)
theorem write_lt {d : Ieee.Datum} (h : ∀ n f, d ≠ .nan n f) : Ieee.double.write d < W64 := by
  cases d with
  | number n m p => exact nearest_lt n m p
  | infinity n => exact word_lt (Nat.le_refl _)
  | nan n f => exact absurd rfl (h n f)
theorem sum_nan {x y d : Ieee.Datum} (h : x.sum y = some d) : ∀ n f, d ≠ .nan n f := by
  intro n f e
  subst e
  cases x <;> cases y <;> simp [Ieee.Datum.sum] at h
theorem product_nan {x y d : Ieee.Datum} (h : x.product y = some d) : ∀ n f, d ≠ .nan n f := by
  intro n f e
  subst e
  cases x <;> cases y <;> simp [Ieee.Datum.product] at h
theorem fadd_lt (m n : Nat) : fadd m n < W64 := by
  unfold fadd Ieee.Format.add
  cases h : (Ieee.double.read m).sum (Ieee.double.read n) with
  | none => exact (by decide : 9221120237041090561 < W64)
  | some d => simpa using write_lt (sum_nan h)
theorem fmul_lt (m n : Nat) : fmul m n < W64 := by
  unfold fmul Ieee.Format.mul
  cases h : (Ieee.double.read m).product (Ieee.double.read n) with
  | none => exact (by decide : 9221120237041090561 < W64)
  | some d => simpa using write_lt (product_nan h)
theorem place_number {z : Nat} (hz : z < W64) : ∃ p, moietyref01_Place z = some p ∧ moietyref01_Number p = some (canon z) := by
  have hz' : z < 18446744073709551616 := hz
  unfold moietyref01_Place moietyref01_Number canon NANB
  rw [rnone_eq hz]
  simp only [Option.bind_some]
  by_cases hn : isn z
  · refine ⟨18444492273895866369, by simp [hn]; decide, ?_⟩
    rw [if_pos (by decide), if_pos hn]; decide
  · simp only [hn, decide_false, Bool.false_eq_true, if_false]
    by_cases ht : (9223372036854775808 : Int) ≤ z
    · rw [if_pos (by simpa using ht)]
      refine ⟨_, rfl, ?_⟩
      rw [wru (x := (9223372036854775808 : Int) - 1) (by decide) (by decide), wru (x := (z : Int) - 9223372036854775808) (by omega) (by omega), wru (by omega) (by omega)]
      rw [if_neg (by simp; omega)]
      rw [wru (x := (9223372036854775808 : Int) - 1 - _) (by omega) (by omega), wru (by omega) (by omega)]
      congr 1; omega
    · rw [if_neg (by simpa using ht)]
      refine ⟨_, rfl, ?_⟩
      rw [wru (by omega) (by omega), if_pos (by simp; omega), wru (by omega) (by omega)]
      congr 1; omega
theorem canon_canon {z : Nat} : canon (canon z) = canon z := by
  unfold canon
  by_cases h : isn z
  · rw [if_pos h, if_pos (show isn NANB by unfold isn rg INF NANB TOP; decide)]
  · rw [if_neg h, if_neg h]
theorem max_both {a b : Nat} (ha : a < W64) (hb : b < W64) (ca : a = canon a) (cb : b = canon b) : ∃ m, flo_Max a b = some m ∧ moietyref01_Max a b = some m ∧ (m = a ∨ m = b) := by
  unfold flo_Max moietyref01_Max
  rw [less_eq ha hb, rless_eq ha hb, canon_eq ha, canon_eq hb, ← ca, ← cb]
  by_cases h : keyf a < keyf b
  · exact ⟨b, by simp [h], by simp [h], .inr rfl⟩
  · exact ⟨a, by simp [h], by simp [h], .inl rfl⟩
theorem min_both {a b : Nat} (ha : a < W64) (hb : b < W64) (ca : a = canon a) (cb : b = canon b) : ∃ m, flo_Min a b = some m ∧ moietyref01_Min a b = some m ∧ (m = a ∨ m = b) := by
  unfold flo_Min moietyref01_Min
  rw [less_eq hb ha, rless_eq hb ha, canon_eq ha, canon_eq hb, ← ca, ← cb]
  by_cases h : keyf b < keyf a
  · exact ⟨b, by simp [h], by simp [h], .inr rfl⟩
  · exact ⟨a, by simp [h], by simp [h], .inl rfl⟩
end Go.CL

/- What acts do: rule.changes and moietyref05.do, kind by kind. -/
set_option linter.unusedVariables false
set_option linter.unusedSimpArgs false
namespace Go.CL
open Go

def I64 (x : Int) : Prop := -9223372036854775808 ≤ x ∧ x ≤ 9223372036854775807
structure RecW (r : api_Record) : Prop where
  ok : RecOk r
  num : I64 r.Num
  low : I64 r.Low
  high : I64 r.High
  kind : I64 r.Kind
  len : r.List.length ≤ 1000
structure ActW (a : api_Act) : Prop where
  ok : ActOk a
  n : I64 a.N
  mkr : RecW a.Make
  xc : a.X = canon a.X
  inout : (a.Kind = 10 ∨ a.Kind = 11) → 0 ≤ a.N ∧ a.N ≤ 2305843009213693952
  s64 : a.S.size ≤ 64
  s16 : ¬ (5 ≤ a.Kind ∧ a.Kind ≤ 6) → a.S.size ≤ 16
abbrev ans (c : Int) : api_Answer := { Code := c, Num := 0, Rec := default }
theorem ans0 : (default : api_Answer) = ans 0 := rfl
def Chg (r : api_Record) (a : api_Act) : Prop := ∃ c r' o, rule_change a.Kind r a (default : api_Answer) = some (c, r', o) ∧ moietyref05_do r a = some (if c = 0 then (r', o) else (r, ans c)) ∧ RecW r' ∧ RecW o.Rec ∧ (c = 0 → o.Code = 0 ∧ o.Num = 0)
theorem wrap_rng (x : Int) : I64 (IntKind.i64.wrap x) := by unfold I64; rw [IntKind.wrap_i64]; omega
theorem zrc_w : RecW (default : api_Record) := ⟨⟨by decide, by decide, fun e he => by cases he⟩, by unfold I64; decide, by unfold I64; decide, by unfold I64; decide, by unfold I64; decide, by decide⟩
theorem RecW.withNum {r : api_Record} (h : RecW r) {x : Int} (hx : I64 x) : RecW { r with Num := x } := ⟨⟨h.ok.real, h.ok.len, h.ok.sc⟩, hx, h.low, h.high, h.kind, h.len⟩
theorem RecW.withText {r : api_Record} (h : RecW r) (t : ByteArray) : RecW { r with Text := t } := ⟨⟨h.ok.real, h.ok.len, h.ok.sc⟩, h.num, h.low, h.high, h.kind, h.len⟩
theorem RecW.withReal {r : api_Record} (h : RecW r) {x : Nat} (hx : x < W64) : RecW { r with Real := x } := ⟨⟨hx, h.ok.len, h.ok.sc⟩, h.num, h.low, h.high, h.kind, h.len⟩
theorem RecW.withList {r : api_Record} (h : RecW r) {l : Items} (h1 : l.length ≤ 1000) (h2 : ∀ e ∈ l, e.Score < W64) : RecW { r with List := l } := ⟨⟨h.ok.real, by show l.length < _; omega, h2⟩, h.num, h.low, h.high, h.kind, h1⟩
theorem rclone_eq {r : api_Record} (h : r.List.length ≤ 1000) : rec_Clone r = some r := by
  unfold rec_Clone slices_Clone_api_Item_api_Item
  rw [if_pos (by omega)]; rfl
theorem copied_eq {r : api_Record} (h : r.List.length ≤ 1000) : moietyref05_copied r = some r := by
  unfold moietyref05_copied
  rw [if_pos (by simp; omega)]; rfl
variable {r : api_Record} {a : api_Act}
theorem chg_put (h : a.Kind = 5) (hr : RecW r) : Chg r a := by
  refine ⟨0, { r with Text := a.S }, ans 0, ?_, ?_, hr.withText _, zrc_w, fun _ => ⟨rfl, rfl⟩⟩
  · rw [h]; rfl
  · unfold moietyref05_do; rw [h]; rfl
theorem chg_swap (h : a.Kind = 6) (hr : RecW r) : Chg r a := by
  refine ⟨0, { r with Text := a.S }, { ans 0 with Rec := r }, ?_, ?_, hr.withText _, hr, fun _ => ⟨rfl, rfl⟩⟩
  · rw [h]
    show rule_changes_2 r a default = _
    unfold rule_changes_2
    rw [rclone_eq hr.len]; rfl
  · unfold moietyref05_do; rw [h, copied_eq hr.len]; rfl
theorem chg_add (h : a.Kind = 7) (hr : RecW r) : Chg r a := by
  refine ⟨0, { r with Num := IntKind.i64.wrap (r.Num + a.N) }, ans 0, ?_, ?_, hr.withNum (wrap_rng _), zrc_w, fun _ => ⟨rfl, rfl⟩⟩
  · rw [h]; rfl
  · unfold moietyref05_do; rw [h]; rfl
theorem plus_over (hr : I64 r.Num) (hn : I64 a.N) : (((decide ((0 : Int) < a.N)) && (decide ((IntKind.i64.wrap ((9223372036854775807 : Int) - a.N)) < r.Num))) || ((decide (a.N < (0 : Int))) && (decide (r.Num < (IntKind.i64.wrap ((-9223372036854775808 : Int) - a.N)))))) =
    ((((decide ((0 : Int) < r.Num)) && (decide ((0 : Int) < a.N))) && (decide ((IntKind.i64.wrap (r.Num + a.N)) < (0 : Int)))) || (((decide (r.Num < (0 : Int))) && (decide (a.N < (0 : Int)))) && (decide ((0 : Int) ≤ (IntKind.i64.wrap (r.Num + a.N)))))) := by
  unfold I64 at hr hn
  rw [Bool.eq_iff_iff]
  simp only [Bool.or_eq_true, Bool.and_eq_true, decide_eq_true_eq, IntKind.wrap_i64]
  omega
theorem chg_plus (h : a.Kind = 8) (hr : RecW r) (ha : ActW a) : Chg r a := by
  have e1 : rule_change a.Kind r a default = rule_plus r a default := by rw [h]; rfl
  have e2 : moietyref05_do r a = (moietyref05_over r.Num a.N).bind fun r7 => (if r7 then (moietyref05_do_j1 r (ans 9)) else (moietyref05_do_j1 { r with Num := IntKind.i64.wrap (r.Num + a.N) } (ans 0))) := by unfold moietyref05_do; rw [h]; rfl
  have hp := plus_over hr.num ha.n
  unfold Chg
  rw [e1, e2]
  unfold rule_plus moietyref05_over moietyref05_do_j1
  rw [hp]
  simp only [Option.bind_some]
  split
  · exact ⟨9, r, _, rfl, rfl, hr, zrc_w, fun h => by cases h⟩
  · exact ⟨0, _, _, rfl, rfl, hr.withNum (wrap_rng _), zrc_w, fun _ => ⟨rfl, rfl⟩⟩
theorem chg_reach (h : a.Kind = 9 ∨ a.Kind = 12) (hr : RecW r) : Chg r a := by
  have e1 : rule_change a.Kind r a default = rule_atLeast r a default := by rcases h with h | h <;> rw [h] <;> rfl
  have e2 : moietyref05_do r a = (if (decide (r.Num < a.N)) then (moietyref05_do_j1 r (ans 11)) else (moietyref05_do_j1 r (ans 0))) := by rcases h with h | h <;> unfold moietyref05_do moietyref05_do_j2 <;> rw [h] <;> rfl
  unfold Chg
  rw [e1, e2]
  unfold rule_atLeast moietyref05_do_j1
  split
  · exact ⟨11, r, _, rfl, rfl, hr, zrc_w, fun h => by cases h⟩
  · exact ⟨0, r, _, rfl, rfl, hr, zrc_w, fun _ => ⟨rfl, rfl⟩⟩
theorem purse (hg : GoodR r) (hk : r.Kind = 4) : -2305843009213693952 ≤ r.Low ∧ r.High ≤ 2305843009213693952 ∧ r.Low ≤ r.Num ∧ r.Num ≤ r.High := hg.2.2.2.2.1 hk
theorem chg_in (h : a.Kind = 10) (hr : RecW r) (hg : GoodR r) (hk : r.Kind = 4) (ha : ActW a) : Chg r a := by
  have e1 : rule_change a.Kind r a default = rule_changes_4 r a default := by rw [h]; rfl
  have e2 : moietyref05_do r a = (if (decide (r.High < IntKind.i64.wrap (r.Num + a.N))) then (moietyref05_do_j1 r (ans 9)) else (moietyref05_do_j1 { r with Num := IntKind.i64.wrap (r.Num + a.N) } (ans 0))) := by unfold moietyref05_do moietyref05_do_j2; rw [h]; rfl
  obtain ⟨p1, p2, p3, p4⟩ := purse hg hk
  obtain ⟨n1, n2⟩ := ha.inout (.inl h)
  have hd : decide (IntKind.i64.wrap (r.High - r.Num) < a.N) = decide (r.High < IntKind.i64.wrap (r.Num + a.N)) := by
    rw [wr (x := r.High - r.Num) (by omega) (by omega), wr (x := r.Num + a.N) (by omega) (by omega)]
    apply decide_eq_decide.2; omega
  unfold Chg
  rw [e1, e2]
  unfold rule_changes_4 moietyref05_do_j1
  rw [hd]
  split
  · exact ⟨9, r, _, rfl, rfl, hr, zrc_w, fun h => by cases h⟩
  · exact ⟨0, _, _, rfl, rfl, hr.withNum (wrap_rng _), zrc_w, fun _ => ⟨rfl, rfl⟩⟩
theorem chg_out (h : a.Kind = 11) (hr : RecW r) (hg : GoodR r) (hk : r.Kind = 4) (ha : ActW a) : Chg r a := by
  have e1 : rule_change a.Kind r a default = rule_changes_5 r a default := by rw [h]; rfl
  have e2 : moietyref05_do r a = (if (decide (IntKind.i64.wrap (r.Num - a.N) < r.Low)) then (moietyref05_do_j1 r (ans 10)) else (moietyref05_do_j1 { r with Num := IntKind.i64.wrap (r.Num - a.N) } (ans 0))) := by unfold moietyref05_do moietyref05_do_j2; rw [h]; rfl
  obtain ⟨p1, p2, p3, p4⟩ := purse hg hk
  obtain ⟨n1, n2⟩ := ha.inout (.inr h)
  have hd : decide (IntKind.i64.wrap (r.Num - r.Low) < a.N) = decide (IntKind.i64.wrap (r.Num - a.N) < r.Low) := by
    rw [wr (x := r.Num - r.Low) (by omega) (by omega), wr (x := r.Num - a.N) (by omega) (by omega)]
    apply decide_eq_decide.2; omega
  unfold Chg
  rw [e1, e2]
  unfold rule_changes_5 moietyref05_do_j1
  rw [hd]
  split
  · exact ⟨10, r, _, rfl, rfl, hr, zrc_w, fun h => by cases h⟩
  · exact ⟨0, _, _, rfl, rfl, hr.withNum (wrap_rng _), zrc_w, fun _ => ⟨rfl, rfl⟩⟩
theorem chg_real {m : Nat} {ψ : Nat → Nat → Option Nat} (h : rule_change a.Kind r a default = rule_real_1 ψ r a default) (h1 : ψ r.Real a.X = some m) (hm : m < W64) (h2 : moietyref05_do r a = some ({ r with Real := m }, ans 0)) (hr : RecW r) : Chg r a := by
  refine ⟨0, { r with Real := m }, ans 0, ?_, h2, hr.withReal hm, zrc_w, fun _ => ⟨rfl, rfl⟩⟩
  rw [h]
  unfold rule_real_1
  rw [h1]; rfl
theorem good_real (hg : GoodR r) : r.Real = canon r.Real := hg.2.2.2.2.2.1
theorem chg_raise (h : a.Kind = 13) (hr : RecW r) (hg : GoodR r) (ha : ActW a) : Chg r a := by
  obtain ⟨m, m1, m2, m3⟩ := max_both hr.ok.real ha.ok.2 (good_real hg) ha.xc
  refine chg_real (m := m) (ψ := fun x y => flo_Max x y) (by rw [h]; rfl) m1 (by rcases m3 with rfl | rfl; exact hr.ok.real; exact ha.ok.2) ?_ hr
  unfold moietyref05_do moietyref05_do_j2; rw [h, m2]; rfl
theorem chg_lower (h : a.Kind = 14) (hr : RecW r) (hg : GoodR r) (ha : ActW a) : Chg r a := by
  obtain ⟨m, m1, m2, m3⟩ := min_both hr.ok.real ha.ok.2 (good_real hg) ha.xc
  refine chg_real (m := m) (ψ := fun x y => flo_Min x y) (by rw [h]; rfl) m1 (by rcases m3 with rfl | rfl; exact hr.ok.real; exact ha.ok.2) ?_ hr
  unfold moietyref05_do moietyref05_do_j2; rw [h, m2]; rfl
theorem chg_shift (h : a.Kind = 15) (hr : RecW r) : Chg r a := by
  have hz := fadd_lt r.Real a.X
  obtain ⟨p, p1, p2⟩ := place_number hz
  refine chg_real (m := canon (fadd r.Real a.X)) (ψ := fun x y => flo_Plus x y) (by rw [h]; rfl) (by show flo_Plus r.Real a.X = _; unfold flo_Plus; rw [canon_eq hz]; rfl) (canon_lt hz) ?_ hr
  unfold moietyref05_do moietyref05_do_j2; rw [h, p1]
  show ((moietyref01_Number p).bind _) = _
  rw [p2]; rfl
theorem chg_scale (h : a.Kind = 16) (hr : RecW r) : Chg r a := by
  have hz := fmul_lt r.Real a.X
  obtain ⟨p, p1, p2⟩ := place_number hz
  refine chg_real (m := canon (fmul r.Real a.X)) (ψ := fun x y => flo_Times x y) (by rw [h]; rfl) (by show flo_Times r.Real a.X = _; unfold flo_Times; rw [canon_eq hz]; rfl) (canon_lt hz) ?_ hr
  unfold moietyref05_do moietyref05_do_j2; rw [h, p1]
  show ((moietyref01_Number p).bind _) = _
  rw [p2]; rfl
theorem chg_fix (h : a.Kind = 17) (hr : RecW r) (ha : ActW a) : Chg r a := by
  refine chg_real (m := a.X) (ψ := fun x y => rule_changes_6 x y) (by rw [h]; rfl) rfl ha.ok.2 ?_ hr
  unfold moietyref05_do moietyref05_do_j2; rw [h]; rfl
theorem good_list (hg : GoodR r) (hk : 8 ≤ r.Kind) : 1 ≤ r.Cap ∧ r.Cap ≤ 32 ∧ (r.List.length : Int) ≤ r.Cap := by
  obtain ⟨h1, h2, h3, _⟩ := hg.2.2.2.2.2.2 hk
  exact ⟨h1, h2, h3⟩
theorem chg_has (h : a.Kind = 20) (hr : RecW r) (hg : GoodR r) (hk : r.Kind = 8) : Chg r a := by
  have hs := good_names hg hk
  have hl := hr.len
  have e1 : rule_change a.Kind r a default = rule_changes_8 r a default := by rw [h]; rfl
  have e2 : moietyref05_do r a = (moietyref05_has r.List a.S).bind fun r59 => (if (!r59) then (moietyref05_do_j1 r (ans 11)) else (moietyref05_do_j1 r (ans 0))) := by unfold moietyref05_do moietyref05_do_j2; rw [h]; rfl
  unfold Chg
  rw [e1, e2]
  unfold rule_changes_8 moietyref05_do_j1
  rw [find_eq hs (by omega), has_eq (by omega), any_isAt hs]
  simp only [Option.bind_some]
  split
  · exact ⟨11, r, _, rfl, rfl, hr, zrc_w, fun h => by cases h⟩
  · exact ⟨0, r, _, rfl, rfl, hr, zrc_w, fun _ => ⟨rfl, rfl⟩⟩
theorem chg_join (h : a.Kind = 18) (hr : RecW r) (hg : GoodR r) (hk : r.Kind = 8) : Chg r a := by
  have hs := good_names hg hk
  have hl := hr.len
  obtain ⟨c1, c2, c3⟩ := good_list hg (by omega)
  have e1 : rule_change a.Kind r a default = rule_join r a default := by rw [h]; rfl
  have e2 : moietyref05_do r a = (moietyref05_has r.List a.S).bind fun r40 => (if ((!r40) && (decide (r.Cap ≤ (r.List.length : Int)))) then (moietyref05_do_j1 r (ans 8)) else ((moietyref05_Laid r.List ({ Score := (0 : Nat), Name := a.S } : api_Item) true).bind fun r43 => (moietyref05_do_j1 ({ r with List := r43 }) (ans 0)))) := by unfold moietyref05_do moietyref05_do_j2; rw [h]; rfl
  have hple := pre_le (fun e => sLt e.Name a.S) r.List
  unfold Chg
  rw [e1, e2]
  unfold rule_join moietyref05_do_j1
  rw [find_eq hs (by omega), has_eq (by omega), any_isAt hs, laid_eq (show (0 : Nat) < W64 by decide) hr.ok.sc (by omega), layL_isAt, clone_i (by omega)]
  simp only [Option.bind_some]
  by_cases hat : isAt a.S r.List = true
  · rw [hat]
    exact ⟨0, r, _, rfl, rfl, hr, zrc_w, fun _ => ⟨rfl, rfl⟩⟩
  · have hat' : isAt a.S r.List = false := by simpa using hat
    rw [hat']
    simp only [Bool.not_false, Bool.true_and, Bool.false_eq_true, if_false]
    by_cases hc : decide (r.Cap ≤ (r.List.length : Int)) = true
    · rw [if_pos hc, if_pos hc]
      exact ⟨8, r, _, rfl, rfl, hr, zrc_w, fun h => by cases h⟩
    · rw [if_neg hc, if_neg hc]
      unfold slices_Insert_api_Item_api_Item
      rw [if_pos ⟨by omega, by omega, by simp, by simp; omega⟩]
      refine ⟨0, _, _, rfl, rfl, hr.withList (by simp; omega) fun e he => ?_, zrc_w, fun _ => ⟨rfl, rfl⟩⟩
      simp only [List.mem_append, List.mem_singleton, Int.toNat_natCast] at he
      rcases he with (he | rfl) | he
      · exact hr.ok.sc e (List.mem_of_mem_take he)
      · exact (show (0 : Nat) < W64 by decide)
      · exact hr.ok.sc e (List.mem_of_mem_drop he)
theorem chg_leave (h : a.Kind = 19) (hr : RecW r) (hg : GoodR r) (hk : r.Kind = 8) : Chg r a := by
  have hs := good_names hg hk
  have hl := hr.len
  have e1 : rule_change a.Kind r a default = rule_changes_7 r a default := by rw [h]; rfl
  have e2 : moietyref05_do r a = (moietyref05_do_l1 r a (Int.toNat ((r.List.length : Int) - (0 : Int)) + 1) ([] : List api_Item) (0 : Int)).bind fun z57 => match z57 with | y56 => (moietyref05_do_j1 ({ r with List := y56 }) (ans 0)) := by unfold moietyref05_do moietyref05_do_j2; rw [h]; rfl
  have hple := pre_le (fun e => sLt e.Name a.S) r.List
  unfold Chg
  rw [e1, e2]
  unfold rule_changes_7 moietyref05_do_j1
  have hf := filt_loop (a := a) (a0 := r) (by omega) r.List.length 0 [] (by omega) (by simp)
  rw [show ((0 : Nat) : Int) = 0 from rfl] at hf
  rw [find_eq hs (by omega), show (Int.toNat ((r.List.length : Int) - (0 : Int)) + 1) = r.List.length + 1 by omega, hf, List.drop_zero, List.nil_append, filt_isAt hs, clone_i (by omega)]
  simp only [Option.bind_some]
  by_cases hat : isAt a.S r.List = true
  · have hp : pre (fun e => sLt e.Name a.S) r.List < r.List.length := by
      unfold isAt at hat
      cases hq : r.List[pre (fun e => sLt e.Name a.S) r.List]? with
      | none => rw [hq] at hat; cases hat
      | some e => exact (List.getElem?_eq_some_iff.1 hq).1
    rw [hat]
    simp only [if_true]
    unfold slices_Delete_api_Item_api_Item
    rw [wr1 (by omega), if_pos ⟨by omega, by omega, by omega, by omega, by omega⟩]
    refine ⟨0, _, _, rfl, rfl, hr.withList (by simp; omega) fun e he => ?_, zrc_w, fun _ => ⟨rfl, rfl⟩⟩
    simp only [List.mem_append, Int.toNat_natCast] at he
    rcases he with he | he
    · exact hr.ok.sc e (List.mem_of_mem_take he)
    · exact hr.ok.sc e (List.mem_of_mem_drop he)
  · have hat' : isAt a.S r.List = false := by simpa using hat
    rw [hat']
    exact ⟨0, r, _, rfl, rfl, hr, zrc_w, fun _ => ⟨rfl, rfl⟩⟩
end Go.CL

/- rule.Apply = moietyref05.Apply. -/
set_option linter.unusedVariables false
set_option linter.unusedSimpArgs false
namespace Go.CL
open Go

variable {r : api_Record} {a : api_Act}
theorem min_take {l : Items} {c : Int} (h1 : 1 ≤ c) (h2 : c ≤ 32) : cut l 0 (min (l.length : Int) c) = some (l.take c.toNat) := by
  unfold cut
  rw [if_pos (by omega)]
  simp only [Int.toNat_zero, List.drop_zero, Nat.sub_zero]
  congr 1
  rcases Int.le_total (l.length : Int) c with h | h
  · rw [Int.min_eq_left h, Int.toNat_natCast, List.take_of_length_le (Nat.le_refl _), List.take_of_length_le (by omega)]
  · rw [Int.min_eq_right h]
theorem chg_offer (h : a.Kind = 21) (hr : RecW r) (hg : GoodR r) (hk : r.Kind = 9) (ha : ActW a) : Chg r a := by
  have hl := hr.len
  obtain ⟨c1, c2, c3⟩ := good_list hg (by omega)
  have e1 : rule_change a.Kind r a default = rule_offer r a default := by rw [h]; rfl
  have e2 : moietyref05_do r a = (moietyref05_Laid r.List ({ Score := a.X, Name := a.S } : api_Item) false).bind fun r63 => (if (decide (r.Cap < (r63.length : Int))) then ((cut r63 (0 : Int) r.Cap).bind fun c66 => (moietyref05_do_j4 r c66)) else (moietyref05_do_j4 r r63)) := by unfold moietyref05_do moietyref05_do_j2; rw [h]; rfl
  have hx : ({ Score := a.X, Name := a.S } : api_Item).Score < W64 := ha.ok.2
  have hple := pre_le (aheadF { Score := a.X, Name := a.S } false) r.List
  unfold Chg
  rw [e1, e2]
  unfold rule_offer
  rw [offer_pre ha.ok.2 hr.ok.sc (by omega), laid_eq hx hr.ok.sc (by omega), clone_i (by omega)]
  simp only [Option.bind_some]
  -- an item more, and no more than there may be
  have fin : ∀ L : Items, L = r.List.take (pre (aheadF { Score := a.X, Name := a.S } false) r.List) ++ [{ Score := a.X, Name := a.S }] ++ r.List.drop (pre (aheadF { Score := a.X, Name := a.S } false) r.List) → layL { Score := a.X, Name := a.S } false r.List = L →
      ∃ c r' o, ((slices_Insert_api_Item_api_Item r.List ((pre (aheadF { Score := a.X, Name := a.S } false) r.List : Nat) : Int) ([({ Score := a.X, Name := a.S } : api_Item)] : List api_Item)).bind fun r16 => ((cut r16 (0 : Int) (min (r16.length : Int) r.Cap)).bind fun c18 => (some ((0 : Int), ({ r with List := c18 }), (default : api_Answer))))) = some (c, r', o) ∧
        (if (decide (r.Cap < ((layL { Score := a.X, Name := a.S } false r.List).length : Int))) = true then ((cut (layL { Score := a.X, Name := a.S } false r.List) (0 : Int) r.Cap).bind fun c66 => (moietyref05_do_j4 r c66)) else (moietyref05_do_j4 r (layL { Score := a.X, Name := a.S } false r.List))) = some (if c = 0 then (r', o) else (r, ans c)) ∧ RecW r' ∧ RecW o.Rec ∧ (c = 0 → o.Code = 0 ∧ o.Num = 0) := by
    intro L hL hlay
    have hLl : L.length = r.List.length + 1 := by rw [hL]; simp; omega
    have hLs : ∀ e ∈ L, e.Score < W64 := fun e he => by
      rw [hL] at he
      simp only [List.mem_append, List.mem_singleton] at he
      rcases he with (he | rfl) | he
      · exact hr.ok.sc e (List.mem_of_mem_take he)
      · exact hx
      · exact hr.ok.sc e (List.mem_of_mem_drop he)
    rw [hlay]
    unfold slices_Insert_api_Item_api_Item moietyref05_do_j4 moietyref05_do_j1
    rw [if_pos ⟨by omega, by omega, by simp, by simp; omega⟩]
    simp only [Option.bind_some, Int.toNat_natCast]
    rw [← hL, min_take c1 c2]
    refine ⟨0, { r with List := L.take r.Cap.toNat }, ans 0, rfl, ?_, hr.withList (by simp; omega) (fun e he => hLs e (List.mem_of_mem_take he)), zrc_w, fun _ => ⟨rfl, rfl⟩⟩
    by_cases hc : decide (r.Cap < (L.length : Int)) = true
    · rw [if_pos hc]
      have : r.Cap < (L.length : Int) := of_decide_eq_true hc
      unfold cut
      rw [if_pos (by omega)]
      simp
    · rw [if_neg hc]
      have : ¬ r.Cap < (L.length : Int) := fun h => hc (decide_eq_true h)
      rw [List.take_of_length_le (by omega)]; rfl
  by_cases hp : pre (aheadF { Score := a.X, Name := a.S } false) r.List < r.List.length
  · have hd : decide (((pre (aheadF { Score := a.X, Name := a.S } false) r.List : Nat) : Int) < (r.List.length : Int)) = true := by simpa using hp
    have hat := pre_at (List.getElem?_eq_getElem hp)
    have hb : betterB r.List[pre (aheadF { Score := a.X, Name := a.S } false) r.List] { Score := a.X, Name := a.S } = false := hat
    have hbs := better_same hb
    rw [hd, idx_lt hp]
    simp only [gd_t, Option.bind_some, Bool.true_and]
    rw [better_eq hx (hr.ok.sc _ (List.getElem_mem hp))]
    simp only [Option.bind_some]
    by_cases hs : (!betterB { Score := a.X, Name := a.S } r.List[pre (aheadF { Score := a.X, Name := a.S } false) r.List]) = true
    · rw [if_pos hs]
      have hlay : layL { Score := a.X, Name := a.S } false r.List = r.List := by
        unfold layL
        rw [List.getElem?_eq_getElem hp]
        simp only
        rw [if_pos (by rw [← hbs]; exact hs), List.append_nil, List.take_append_drop]
      rw [hlay, if_neg (by simp; omega)]
      exact ⟨0, r, _, rfl, rfl, hr, zrc_w, fun _ => ⟨rfl, rfl⟩⟩
    · rw [if_neg hs]
      refine fin _ rfl ?_
      unfold layL
      rw [List.getElem?_eq_getElem hp]
      simp only
      rw [if_neg (by rw [← hbs]; exact hs)]
  · have hd : decide (((pre (aheadF { Score := a.X, Name := a.S } false) r.List : Nat) : Int) < (r.List.length : Int)) = false := by simpa using hp
    rw [hd]
    simp only [gd_f, Option.bind_some, Bool.false_and, Bool.false_eq_true, if_false]
    refine fin _ rfl ?_
    unfold layL
    rw [List.getElem?_eq_none (by omega), List.take_of_length_le (by omega), List.drop_of_length_le (by omega), List.append_nil]
theorem on_both {k : Int} (h1 : 1 ≤ k) (h2 : k ≤ 21) : ∃ on, act_On k = some on ∧ moietyref04_On k = some on ∧ (k ≤ 4 → on = 0) ∧ (5 ≤ k → on ≠ 0) ∧ ((k = 10 ∨ k = 11) → on = 4) ∧ ((k = 18 ∨ k = 19 ∨ k = 20) → on = 8) ∧ (k = 21 → on = 9) ∧
    ((k = 5 ∨ k = 6) → on = 1) ∧ (k = 7 → on = 2) ∧ ((k = 8 ∨ k = 9) → on = 3) ∧ (k = 12 → on = 4) ∧ (k = 13 → on = 5) ∧ (k = 14 → on = 6) ∧ ((k = 15 ∨ k = 16 ∨ k = 17) → on = 7) := by
  have hk' : k = 1 ∨ k = 2 ∨ k = 3 ∨ k = 4 ∨ k = 5 ∨ k = 6 ∨ k = 7 ∨ k = 8 ∨ k = 9 ∨ k = 10 ∨ k = 11 ∨ k = 12 ∨ k = 13 ∨ k = 14 ∨ k = 15 ∨ k = 16 ∨ k = 17 ∨ k = 18 ∨ k = 19 ∨ k = 20 ∨ k = 21 := by omega
  rcases hk' with rfl | rfl | rfl | rfl | rfl | rfl | rfl | rfl | rfl | rfl | rfl | rfl | rfl | rfl | rfl | rfl | rfl | rfl | rfl | rfl | rfl
  all_goals first
    | exact ⟨0, by kernel_rfl, by kernel_rfl, by decide⟩
    | exact ⟨1, by kernel_rfl, by kernel_rfl, by decide⟩
    | exact ⟨2, by kernel_rfl, by kernel_rfl, by decide⟩
    | exact ⟨3, by kernel_rfl, by kernel_rfl, by decide⟩
    | exact ⟨4, by kernel_rfl, by kernel_rfl, by decide⟩
    | exact ⟨5, by kernel_rfl, by kernel_rfl, by decide⟩
    | exact ⟨6, by kernel_rfl, by kernel_rfl, by decide⟩
    | exact ⟨7, by kernel_rfl, by kernel_rfl, by decide⟩
    | exact ⟨8, by kernel_rfl, by kernel_rfl, by decide⟩
    | exact ⟨9, by kernel_rfl, by kernel_rfl, by decide⟩
theorem chg_all (h5 : 5 ≤ a.Kind) (h21 : a.Kind ≤ 21) (hr : RecW r) (hg : GoodR r) (hon : act_On a.Kind = some r.Kind) (ha : ActW a) : Chg r a := by
  obtain ⟨on, o1, _, _, _, k10, k18, k21, _⟩ := on_both (k := a.Kind) (by omega) h21
  rw [hon] at o1
  obtain rfl := Option.some.inj o1
  have hk' : a.Kind = 5 ∨ a.Kind = 6 ∨ a.Kind = 7 ∨ a.Kind = 8 ∨ a.Kind = 9 ∨ a.Kind = 10 ∨ a.Kind = 11 ∨ a.Kind = 12 ∨ a.Kind = 13 ∨ a.Kind = 14 ∨ a.Kind = 15 ∨ a.Kind = 16 ∨ a.Kind = 17 ∨ a.Kind = 18 ∨ a.Kind = 19 ∨ a.Kind = 20 ∨ a.Kind = 21 := by omega
  rcases hk' with h | h | h | h | h | h | h | h | h | h | h | h | h | h | h | h | h
  · exact chg_put h hr
  · exact chg_swap h hr
  · exact chg_add h hr
  · exact chg_plus h hr ha
  · exact chg_reach (.inl h) hr
  · exact chg_in h hr hg (k10 (.inl h)) ha
  · exact chg_out h hr hg (k10 (.inr h)) ha
  · exact chg_reach (.inr h) hr
  · exact chg_raise h hr hg ha
  · exact chg_lower h hr hg ha
  · exact chg_shift h hr
  · exact chg_scale h hr
  · exact chg_fix h hr ha
  · exact chg_join h hr hg (k18 (.inl h))
  · exact chg_leave h hr hg (k18 (.inr (.inl h)))
  · exact chg_has h hr hg (k18 (.inr (.inr h)))
  · exact chg_offer h hr hg (k21 h) ha
/-- An act as it may come in. -/
structure ActIn (a : api_Act) : Prop where
  ok : ActOk a
  n : I64 a.N
  mkr : RecW a.Make
theorem ActIn.w {a : api_Act} (h : ActIn a) {c : Int} (hc : 1 ≤ a.Kind ∧ a.Kind ≤ 21 ∧ a.X = canon a.X ∧ a.S.size ≤ 64 ∧ ((a.Kind = 10 ∨ a.Kind = 11) → 0 ≤ a.N ∧ a.N ≤ 2305843009213693952) ∧ (a.Kind = 1 → rec_Check a.Make = some 0) ∧ (¬ (5 ≤ a.Kind ∧ a.Kind ≤ 6) → a.S.size ≤ 16) ∧ sEq a.Key ⟨#[]⟩ = false ∧ a.Key.size ≤ 24) : ActW a :=
  ⟨h.ok, h.n, h.mkr, hc.2.2.1, hc.2.2.2.2.1, hc.2.2.2.1, hc.2.2.2.2.2.2.1⟩
theorem ref_err {there : Bool} {r : api_Record} {c : Int} (hc : c ≠ 0) {on : Int} (ho : moietyref04_On a.Kind = some on) : moietyref05_Apply_j2 there a r c = some (r, there, ans c) := by
  have h1 : (c == 0) = false := by simpa using hc
  have h2 : (c != 0) = true := by simpa using hc
  unfold moietyref05_Apply_j2
  simp only [h1, Bool.false_and, Bool.false_eq_true, if_false]
  unfold moietyref05_Apply_j3
  simp only [h1, Bool.false_and, Bool.false_eq_true, if_false]
  unfold moietyref05_Apply_j4
  rw [ho]
  simp only [h1, Bool.false_and, Bool.false_eq_true, if_false, Option.bind_some]
  unfold moietyref05_Apply_j5
  rw [if_pos h2]
theorem on_some (k : Int) : ∃ on, moietyref04_On k = some on := by
  by_cases h : k < 0 ∨ 21 < k
  · exact ⟨0, by unfold moietyref04_On; rw [if_pos (by simpa using h)]⟩
  · by_cases h0 : k = 0
    · exact ⟨0, by rw [h0]; kernel_rfl⟩
    · obtain ⟨on, _, h2, _⟩ := on_both (k := k) (by omega) (by omega)
      exact ⟨on, h2⟩
/-- **The program's Apply and the document's are the same.** -/
theorem apply_both {r : api_Record} {there : Bool} {a : api_Act} (hr : RecW r) (ha : ActIn a) : ∃ x is out, rule_Apply r there a = some (x, is, out) ∧ moietyref05_Apply r there a = some (x, is, out) ∧ RecW x ∧ RecW out.Rec := by
  suffices hs : ∀ r0 : api_Record, RecW r0 → ∃ x is out, rule_Apply_j1 there a r0 = some (x, is, out) ∧ moietyref05_Apply_j1 there a r0 = some (x, is, out) ∧ RecW x ∧ RecW out.Rec by
    unfold rule_Apply moietyref05_Apply
    cases there
    · exact hs _ zrc_w
    · exact hs r hr
  intro r0 hr0
  unfold rule_Apply_j1 moietyref05_Apply_j1
  rw [rclone_eq hr0.len, copied_eq hr0.len]
  obtain ⟨c, h1, h2, h3⟩ := check_act ha.ok
  obtain ⟨on, hon⟩ := on_some a.Kind
  rw [h1, h2]
  simp only [Option.bind_some]
  by_cases hc : c = 0
  · subst hc
    have hf := h3 rfl
    have hw := ha.w (c := 0) hf
    obtain ⟨on2, o1, o2, o3, o4, _⟩ := on_both hf.1 hf.2.1
    have main : (there = true → GoodR r0) → ∃ x is out, rule_Apply_j2 there a r0 = some (x, is, out) ∧ moietyref05_Apply_j2 there a r0 0 = some (x, is, out) ∧ RecW x ∧ RecW out.Rec := by
      intro hg
      unfold rule_Apply_j2 rule_Apply_1 moietyref05_Apply_j2 moietyref05_Apply_j3 moietyref05_Apply_j4
      rw [o1, o2, rclone_eq hr0.len, rclone_eq ha.mkr.len]
      unfold moietyref05_Apply_j5
      rw [copied_eq hr0.len, copied_eq ha.mkr.len]
      simp only [Option.bind_some]
      by_cases k1 : a.Kind = 1
      · rw [k1, o3 (by omega)]
        cases there
        · exact ⟨a.Make, true, ans 0, rfl, rfl, ha.mkr, zrc_w⟩
        · exact ⟨r0, true, ans 7, rfl, rfl, hr0, zrc_w⟩
      · by_cases k3 : a.Kind = 3
        · rw [k3, o3 (by omega)]
          cases there
          · exact ⟨r0, false, { ans 0 with Num := r0.Kind }, rfl, rfl, hr0, zrc_w⟩
          · exact ⟨r0, true, { ans 0 with Num := r0.Kind }, rfl, rfl, hr0, zrc_w⟩
        · by_cases k2 : a.Kind = 2
          · rw [k2, o3 (by omega)]
            cases there
            · exact ⟨r0, false, ans 6, rfl, rfl, hr0, zrc_w⟩
            · exact ⟨zrc, false, ans 0, rfl, rfl, zrc_w, zrc_w⟩
          · by_cases k4 : a.Kind = 4
            · rw [k4, o3 (by omega)]
              cases there
              · exact ⟨r0, false, ans 6, rfl, rfl, hr0, zrc_w⟩
              · exact ⟨r0, true, { ans 0 with Rec := r0 }, rfl, rfl, hr0, hr0⟩
            · have h5 : 5 ≤ a.Kind := by omega
              have b1 : (a.Kind == 1) = false := by simpa using k1
              have b2 : (a.Kind == 2) = false := by simpa using k2
              have b3 : (a.Kind == 3) = false := by simpa using k3
              have b4 : (a.Kind == 4) = false := by simpa using k4
              have b1' : (a.Kind != 1) = true := by simpa using k1
              have b3' : (a.Kind != 3) = true := by simpa using k3
              have bo : (on2 != 0) = true := by simpa using o4 h5
              simp only [b1, b2, b3, b4, b1', b3', bo, Bool.false_and, Bool.and_false, Bool.and_true, Bool.true_and, Bool.false_eq_true, if_false, beq_self_eq_true]
              cases there
              · exact ⟨r0, false, ans 6, rfl, rfl, hr0, zrc_w⟩
              · simp only [Bool.not_true, Bool.false_eq_true, if_false, Bool.and_false, Bool.false_and, beq_self_eq_true, Bool.true_and]
                by_cases hk : (on2 != r0.Kind) = true
                · rw [if_pos hk, if_pos hk]
                  exact ⟨r0, true, ans 5, rfl, rfl, hr0, zrc_w⟩
                · rw [if_neg hk, if_neg hk, if_pos ⟨h5, hf.2.1⟩]
                  have hk' : on2 = r0.Kind := by simpa using hk
                  obtain ⟨c, r', o, e1, e2, w1, w2, _⟩ := chg_all h5 hf.2.1 hr0 (hg rfl) (by rw [← hk']; exact o1) hw
                  rw [e1, e2]
                  simp only [Option.bind_some]
                  by_cases hc : c = 0
                  · subst hc
                    exact ⟨r', true, o, rfl, rfl, w1, w2⟩
                  · have hcn : (c != 0) = true := by simpa using hc
                    rw [if_pos hcn, if_neg hc]
                    exact ⟨r0, true, ans c, rfl, rfl, hr0, zrc_w⟩
    have z1 : ((0 : Int) != 0) = false := rfl
    have z2 : ((0 : Int) == 0) = true := rfl
    rw [z1, z2]
    simp only [Bool.false_eq_true, if_false, Bool.true_and]
    by_cases ht : there = true
    · rw [if_pos ht, if_pos ht]
      obtain ⟨c2, g1, g2⟩ := check_both hr0.ok
      rw [g1, g2]
      simp only [Option.bind_some]
      by_cases hc2 : c2 = 0
      · subst hc2
        rw [z1]
        exact main fun _ => (check_good hr0.ok).1 g1
      · have hcn : (c2 != 0) = true := by simpa using hc2
        rw [if_pos hcn, ref_err hc2 o2]
        exact ⟨r0, there, ans c2, rfl, rfl, hr0, zrc_w⟩
    · rw [if_neg ht, if_neg ht]
      exact main fun h => absurd h ht
  · have hcn : (c != 0) = true := by simpa using hc
    have hcz : (c == 0) = false := by simpa using hc
    rw [if_pos hcn, hcz]
    simp only [Bool.false_and, Bool.false_eq_true, if_false]
    rw [ref_err hc hon]
    exact ⟨r0, there, ans c, rfl, rfl, hr0, zrc_w⟩
end Go.CL

/- RuleApplies. -/
set_option linter.unusedVariables false
set_option linter.unusedSimpArgs false
namespace Go.CL
open Go

theorem recLenR {x : api_Record} (h : wf_api_Record x) : x.List.length ≤ 9223372036854775807 := by
  obtain ⟨_, _, _, _, _, _, _, h8, _⟩ := h
  simp only [maxLen] at h8; omega
theorem recW_of {x : api_Record} (h : wf_api_Record x) (hl : x.List.length ≤ 100) : RecW x := by
  obtain ⟨h1, h2, h3, h4, h5, _, _, h8, h9⟩ := h
  exact ⟨⟨h5, by omega, fun e he => (h9 e he).1⟩, h2, h3, h4, h1, by omega⟩
theorem eqLr : ∀ l : List api_Item, eqL l l = true
  | [] => rfl
  | x :: l => by simp [eqL, eqI, sEq_self, eqLr l]
theorem sameRr (a : api_Record) : sameR a a = true := by simp [sameR, sEq_self, eqLr]
theorem actIn_of {a : api_Act} (h : wf_api_Act a) (hl : a.Make.List.length ≤ 100) : ActIn a := by
  obtain ⟨_, _, h3, h4, _, h6, _⟩ := h
  exact ⟨⟨(recW_of h6 hl).ok, h4⟩, h3, recW_of h6 hl⟩
theorem big04 {a : api_Act} (h : wf_api_Act a) : ∃ c, moietylaw04_Big a = some c ∧ (c = 0 ∨ c = 1) ∧ (c = 0 → a.Make.List.length ≤ 100) := by
  obtain ⟨c, e1, e2, e3⟩ := big03 (recLenR h.2.2.2.2.2.1)
  unfold moietylaw04_Big
  rw [e1]
  by_cases hk : (decide ((200 : Int) < (a.Key.size : Int)) || decide ((1000 : Int) < (a.S.size : Int))) = true
  · rw [hk]; exact ⟨1, rfl, .inr rfl, fun h => by cases h⟩
  · have hk' := Bool.eq_false_iff.2 hk
    rw [hk']
    rcases e2 with rfl | rfl
    · exact ⟨0, rfl, .inl rfl, fun _ => e3 rfl⟩
    · exact ⟨1, rfl, .inr rfl, fun h => by cases h⟩
theorem big5_loop {l : List api_Act} (hl : l.length ≤ 30) (hw : ∀ o ∈ l, wf_api_Act o) : ∀ (n i : Nat), i + n = l.length → (moietylaw05_big_l1 l (n + 1) (i : Int) = some (.inl true)) ∨ (moietylaw05_big_l1 l (n + 1) (i : Int) = some (.inr ()) ∧ ∀ o ∈ l.drop i, o.Make.List.length ≤ 100)
  | 0, i, h => by
    right
    rw [moietylaw05_big_l1, if_neg (by simp; omega), List.drop_of_length_le (by omega)]
    exact ⟨rfl, fun o ho => by cases ho⟩
  | n + 1, i, h => by
    have h1 : i < l.length := by omega
    obtain ⟨c, e1, e2, e3⟩ := big04 (hw _ (List.getElem_mem h1))
    rw [moietylaw05_big_l1, if_pos (by simp; omega), idx_lt h1, wr1 (by omega)]
    simp only [Option.bind_some]
    rw [e1]
    rcases e2 with rfl | rfl
    · simp only [Int.lt_irrefl, decide_false, Bool.false_eq_true, if_false, Option.bind_some]
      rcases big5_loop hl hw n (i + 1) (by omega) with h2 | ⟨h2, h3⟩
      · exact .inl h2
      · right
        refine ⟨h2, fun o ho => ?_⟩
        rw [List.drop_eq_getElem_cons h1] at ho
        rcases List.mem_cons.1 ho with rfl | ho
        · exact e3 rfl
        · exact h3 o ho
    · left; rfl
theorem big5 {r : api_Record} {l : List api_Act} (hr : wf_api_Record r) (hw : ∀ o ∈ l, wf_api_Act o) : moietylaw05_big r l = some true ∨ (moietylaw05_big r l = some false ∧ RecW r ∧ l.length ≤ 30 ∧ ∀ o ∈ l, ActIn o) := by
  obtain ⟨c, e1, e2, e3⟩ := big03 (recLenR hr)
  unfold moietylaw05_big
  rw [e1]
  simp only [Option.bind_some]
  rcases e2 with rfl | rfl
  · by_cases h : (30 : Int) < l.length
    · left; simp [h]
    · rw [if_neg (by simp; omega), show (Int.toNat ((l.length : Int) - (0 : Int)) + 1) = l.length + 1 by omega]
      have := big5_loop (l := l) (by omega) hw l.length 0 (by omega)
      rw [show ((0 : Nat) : Int) = 0 from rfl] at this
      rcases this with h1 | ⟨h1, h2⟩
      · left; rw [h1]; rfl
      · right; rw [h1]; exact ⟨rfl, recW_of hr (e3 rfl), by omega, fun o ho => actIn_of (hw o ho) (h2 o ho)⟩
  · left; rfl
theorem rsameA {a b : api_Answer} (ha : RecW a.Rec) (hb : RecW b.Rec) : moietyref05_Same a b = some ((a.Code == b.Code) && (a.Num == b.Num) && sameR a.Rec b.Rec) := by
  unfold moietyref05_Same
  rw [rsame_rec ha.ok hb.ok]
  cases (a.Code == b.Code) && (a.Num == b.Num) <;> rfl
theorem sameA {a b : api_Answer} (ha : RecW a.Rec) (hb : RecW b.Rec) : rule_Same a b = some ((a.Code == b.Code) && (a.Num == b.Num) && sameR a.Rec b.Rec) := by
  unfold rule_Same
  rw [same_rec ha.ok hb.ok]
  cases (a.Code == b.Code) && (a.Num == b.Num) <;> rfl
theorem speaks5 : moietylaw05_speaks = some true := by kernel_rfl
/-- **RuleApplies.** -/
theorem RuleApplies_true (a0 : api_Record) (a1 : Bool) (a2 : api_Act) (ha0 : wf_api_Record a0) (ha1 : True) (ha2 : wf_api_Act a2) : moietylaw05_RuleApplies a0 a1 a2 = some true := by
  unfold moietylaw05_RuleApplies
  rw [speaks5]
  simp only [Option.bind_some, Bool.not_true, Bool.false_eq_true, if_false]
  rcases big5 (l := [a2]) ha0 (fun o ho => by rw [List.mem_singleton.1 ho]; exact ha2) with hb | ⟨hb, hr, _, hi⟩
  · rw [hb]; rfl
  · rw [hb]
    obtain ⟨x, is, out, e1, e2, w1, w2⟩ := apply_both (there := a1) hr (hi a2 (List.mem_singleton.2 rfl))
    rw [e1, e2]
    simp only [Option.bind_some, Bool.false_eq_true, if_false]
    rw [rsame_rec w1.ok w1.ok, rsameA w2 w2, sameA w2 w2]
    simp [sameRr, gd_t]
end Go.CL

/- What Apply did: the shape of its answer. -/
set_option linter.unusedVariables false
set_option linter.unusedSimpArgs false
namespace Go.CL
open Go

def Shape (r0 : api_Record) (there : Bool) (a : api_Act) (z : api_Record × Bool × api_Answer) : Prop :=
  (∃ c, c ≠ 0 ∧ z = (r0, there, ans c)) ∨ (act_Check a = some 0 ∧ ActW a ∧ (there = true → GoodR r0) ∧
    ((a.Kind = 1 ∧ there = false ∧ GoodR a.Make ∧ z = (a.Make, true, ans 0)) ∨ (a.Kind = 2 ∧ there = true ∧ z = (zrc, false, ans 0)) ∨ (a.Kind = 3 ∧ z = (r0, there, { ans 0 with Num := r0.Kind })) ∨ (a.Kind = 4 ∧ there = true ∧ z = (r0, true, { ans 0 with Rec := r0 })) ∨
      (5 ≤ a.Kind ∧ a.Kind ≤ 21 ∧ there = true ∧ act_On a.Kind = some r0.Kind ∧ ∃ r' o, rule_change a.Kind r0 a default = some (0, r', o) ∧ o.Code = 0 ∧ o.Num = 0 ∧ RecW r' ∧ RecW o.Rec ∧ z = (r', true, o))))
theorem apply_shape {r : api_Record} {there : Bool} {a : api_Act} (hr : RecW r) (ha : ActIn a) : ∃ z, rule_Apply r there a = some z ∧ Shape (if there = true then r else zrc) there a z := by
  suffices hs : ∀ r0 : api_Record, RecW r0 → ∃ z, rule_Apply_j1 there a r0 = some z ∧ Shape r0 there a z by
    unfold rule_Apply
    cases there
    · exact hs _ zrc_w
    · exact hs r hr
  intro r0 hr0
  unfold rule_Apply_j1
  rw [rclone_eq hr0.len]
  obtain ⟨c, h1, h2, h3⟩ := check_act ha.ok
  rw [h1]
  simp only [Option.bind_some]
  by_cases hc : c = 0
  · subst hc
    have hf := h3 rfl
    have hw := ha.w (c := 0) hf
    obtain ⟨on2, o1, o2, o3, o4, _⟩ := on_both hf.1 hf.2.1
    have main : (there = true → GoodR r0) → ∃ z, rule_Apply_j2 there a r0 = some z ∧ Shape r0 there a z := by
      intro hg
      unfold rule_Apply_j2 rule_Apply_1
      rw [o1, rclone_eq hr0.len, rclone_eq ha.mkr.len]
      simp only [Option.bind_some]
      by_cases k1 : a.Kind = 1
      · have hm : GoodR a.Make := (check_good ha.mkr.ok).1 (hf.2.2.2.2.2.1 k1)
        rw [k1]
        cases there
        · exact ⟨_, rfl, .inr ⟨h1, hw, hg, .inl ⟨k1, rfl, hm, rfl⟩⟩⟩
        · exact ⟨_, rfl, .inl ⟨7, by decide, rfl⟩⟩
      · by_cases k3 : a.Kind = 3
        · rw [k3]
          exact ⟨_, rfl, .inr ⟨h1, hw, hg, .inr (.inr (.inl ⟨k3, rfl⟩))⟩⟩
        · by_cases k2 : a.Kind = 2
          · rw [k2]
            cases there
            · exact ⟨_, rfl, .inl ⟨6, by decide, rfl⟩⟩
            · exact ⟨_, rfl, .inr ⟨h1, hw, hg, .inr (.inl ⟨k2, rfl, rfl⟩)⟩⟩
          · by_cases k4 : a.Kind = 4
            · rw [k4]
              cases there
              · exact ⟨_, rfl, .inl ⟨6, by decide, rfl⟩⟩
              · exact ⟨_, rfl, .inr ⟨h1, hw, hg, .inr (.inr (.inr (.inl ⟨k4, rfl, rfl⟩)))⟩⟩
            · have h5 : 5 ≤ a.Kind := by omega
              have b1 : (a.Kind == 1) = false := by simpa using k1
              have b2 : (a.Kind == 2) = false := by simpa using k2
              have b3 : (a.Kind == 3) = false := by simpa using k3
              have b4 : (a.Kind == 4) = false := by simpa using k4
              simp only [b1, b2, b3, b4, Bool.false_and, Bool.false_eq_true, if_false]
              cases there
              · exact ⟨_, rfl, .inl ⟨6, by decide, rfl⟩⟩
              · simp only [Bool.not_true, Bool.false_eq_true, if_false]
                by_cases hk : (on2 != r0.Kind) = true
                · rw [if_pos hk]
                  exact ⟨_, rfl, .inl ⟨5, by decide, rfl⟩⟩
                · rw [if_neg hk, if_pos ⟨h5, hf.2.1⟩]
                  have hk' : on2 = r0.Kind := by simpa using hk
                  obtain ⟨c, r', o, e1, e2, w1, w2, w3⟩ := chg_all h5 hf.2.1 hr0 (hg rfl) (by rw [← hk']; exact o1) hw
                  rw [e1]
                  simp only [Option.bind_some]
                  by_cases hc : c = 0
                  · subst hc
                    exact ⟨(r', true, o), rfl, .inr ⟨h1, hw, hg, .inr (.inr (.inr (.inr ⟨h5, hf.2.1, rfl, by rw [← hk']; exact o1, r', o, e1, (w3 rfl).1, (w3 rfl).2, w1, w2, rfl⟩)))⟩⟩
                  · have hcn : (c != 0) = true := by simpa using hc
                    rw [if_pos hcn]
                    exact ⟨_, rfl, .inl ⟨c, hc, rfl⟩⟩
    have z1 : ((0 : Int) != 0) = false := rfl
    rw [z1]
    simp only [Bool.false_eq_true, if_false]
    by_cases ht : there = true
    · rw [if_pos ht]
      obtain ⟨c2, g1, g2⟩ := check_both hr0.ok
      rw [g1]
      simp only [Option.bind_some]
      by_cases hc2 : c2 = 0
      · subst hc2
        rw [z1]
        exact main fun _ => (check_good hr0.ok).1 g1
      · have hcn : (c2 != 0) = true := by simpa using hc2
        rw [if_pos hcn]
        exact ⟨_, rfl, .inl ⟨c2, hc2, rfl⟩⟩
    · rw [if_neg ht]
      exact main fun h => absurd h ht
  · have hcn : (c != 0) = true := by simpa using hc
    rw [if_pos hcn]
    exact ⟨_, rfl, .inl ⟨c, hc, rfl⟩⟩
/-- Of a record that is there, and a kind of change: what it answers. -/
theorem apply_chg {r : api_Record} {a : api_Act} (hr : RecW r) (ha : ActIn a) (h5 : 5 ≤ a.Kind) : ∃ z, rule_Apply r true a = some z ∧ ((∃ c, c ≠ 0 ∧ z = (r, true, ans c)) ∨ (act_Check a = some 0 ∧ ActW a ∧ GoodR r ∧ a.Kind ≤ 21 ∧ act_On a.Kind = some r.Kind ∧ ∃ r' o, rule_change a.Kind r a default = some (0, r', o) ∧ o.Code = 0 ∧ o.Num = 0 ∧ RecW r' ∧ RecW o.Rec ∧ z = (r', true, o))) := by
  obtain ⟨z, e, hs⟩ := apply_shape (there := true) hr ha
  rw [if_pos rfl] at hs
  refine ⟨z, e, ?_⟩
  rcases hs with h | ⟨h1, h2, h3, ⟨k, _⟩ | ⟨k, _⟩ | ⟨k, _⟩ | ⟨k, _⟩ | ⟨_, k2, _, k4, h⟩⟩
  · exact .inl h
  · omega
  · omega
  · omega
  · omega
  · exact .inr ⟨h1, h2, h3 rfl, k2, k4, h⟩
end Go.CL

/- RuleTwice. -/
set_option linter.unusedVariables false
set_option linter.unusedSimpArgs false
namespace Go.CL
open Go

theorem pre_app {f : api_Item → Bool} {x : api_Item} {B : Items} (hx : f x = false) : ∀ {A : Items}, (∀ y ∈ A, f y = true) → pre f (A ++ x :: B) = A.length
  | [], _ => by simp [pre, hx]
  | y :: A, h => by
    simp only [List.cons_append, pre, h y (List.mem_cons_self ..), if_true, List.length_cons]
    rw [pre_app hx fun z hz => h z (List.mem_cons_of_mem _ hz)]
theorem pre_take {f : api_Item → Bool} {l : Items} : ∀ y ∈ l.take (pre f l), f y = true := fun y hy => by
  obtain ⟨k, hk, rfl⟩ := List.getElem_of_mem hy
  rw [List.length_take] at hk
  obtain ⟨e, he, hf⟩ := pre_lt (f := f) (l := l) (k := k) (by omega)
  rw [List.getElem?_eq_getElem (by omega)] at he
  rw [List.getElem_take]
  obtain rfl := Option.some.inj he
  exact hf
theorem better_self (e : api_Item) : betterB e e = false := by
  unfold betterB; rw [if_pos rfl, sLt_irr]
variable {r r' r'' : api_Record} {a : api_Act} {o o' : api_Answer} {c : Int}
theorem idem_real {ψ : Nat → Nat → Option Nat} (hψ : ∀ m, ψ r.Real a.X = some m → ψ m a.X = some m) (hk : ∀ r, rule_change a.Kind r a default = rule_real_1 ψ r a default) (h1 : rule_change a.Kind r a default = some (c, r', o)) (h2 : rule_change a.Kind r' a default = some (0, r'', o')) : r'' = r' := by
  rw [hk] at h1 h2
  unfold rule_real_1 at h1 h2
  obtain ⟨m, m1, m2⟩ := Option.bind_eq_some_iff.1 h1
  simp only [Option.some.injEq, Prod.mk.injEq] at m2
  obtain ⟨_, rfl, _⟩ := m2
  obtain ⟨m', m3, m4⟩ := Option.bind_eq_some_iff.1 h2
  simp only [Option.some.injEq, Prod.mk.injEq] at m4
  obtain ⟨_, rfl, _⟩ := m4
  rw [hψ _ m1] at m3
  obtain rfl := Option.some.inj m3
  rfl
theorem less_some {x y : Nat} (hx : x < W64) (hy : y < W64) : ∃ b, flo_Less x y = some b := ⟨_, less_eq hx hy⟩
theorem max_again {x y m : Nat} (hx : x < W64) (hy : y < W64) (cx : x = canon x) (cy : y = canon y) (h : flo_Max x y = some m) : flo_Max m y = some m := by
  have h' := h
  obtain ⟨m', e1, _, e2⟩ := max_both hx hy cx cy
  rw [e1] at h
  obtain rfl := Option.some.inj h
  rcases e2 with rfl | rfl
  · exact h'
  · unfold flo_Max
    obtain ⟨b3, b4⟩ := less_some hy hy
    rw [b4, canon_eq hy, ← cy]; cases b3 <;> rfl
theorem min_again {x y m : Nat} (hx : x < W64) (hy : y < W64) (cx : x = canon x) (cy : y = canon y) (h : flo_Min x y = some m) : flo_Min m y = some m := by
  have h' := h
  obtain ⟨m', e1, _, e2⟩ := min_both hx hy cx cy
  rw [e1] at h
  obtain rfl := Option.some.inj h
  rcases e2 with rfl | rfl
  · exact h'
  · unfold flo_Min
    obtain ⟨b3, b4⟩ := less_some hy hy
    rw [b4, canon_eq hy, ← cy]; cases b3 <;> rfl
theorem idem_join (h : a.Kind = 18) (hg : GoodR r) (hk : r.Kind = 8) (hl : r.List.length ≤ 1000) (hg' : GoodR r') (hk' : r'.Kind = 8) (hl' : r'.List.length ≤ 1000) (h1 : rule_change a.Kind r a default = some (0, r', o)) (h2 : rule_change a.Kind r' a default = some (0, r'', o')) : r'' = r' := by
  have e : ∀ r, rule_change a.Kind r a default = rule_join r a default := fun r => by rw [h]; rfl
  rw [e] at h1 h2
  have g1 := h1
  unfold rule_join at h1
  rw [find_eq (good_names hg hk) (by omega), clone_i (by omega)] at h1
  simp only [Option.bind_some] at h1
  by_cases hat : isAt a.S r.List = true
  · rw [if_pos hat] at h1
    simp only [Option.some.injEq, Prod.mk.injEq, true_and] at h1
    obtain ⟨rfl, rfl⟩ := h1
    rw [g1] at h2
    simp only [Option.some.injEq, Prod.mk.injEq, true_and] at h2
    exact h2.1.symm
  · rw [if_neg hat] at h1
    by_cases hc : decide (r.Cap ≤ (r.List.length : Int)) = true
    · rw [if_pos hc] at h1; cases h1
    · rw [if_neg hc] at h1
      obtain ⟨L, e1, e2⟩ := Option.bind_eq_some_iff.1 h1
      simp only [Option.some.injEq, Prod.mk.injEq, true_and] at e2
      obtain ⟨rfl, rfl⟩ := e2
      unfold slices_Insert_api_Item_api_Item at e1
      split at e1
      · have hL := (Option.some.inj e1).symm
        have hany : isAt a.S L = true := by
          rw [← any_isAt (good_names hg' hk'), hL, List.any_append, List.any_append]
          simp [sEq_self]
        unfold rule_join at h2
        rw [find_eq (good_names hg' hk') (show L.length < _ by have : L.length ≤ 1000 := hl'; omega)] at h2
        simp only [Option.bind_some] at h2
        rw [if_pos hany] at h2
        simp only [Option.some.injEq, Prod.mk.injEq, true_and] at h2
        exact h2.1.symm
      · cases e1
theorem idem_leave (h : a.Kind = 19) (hr : RecW r) (hg : GoodR r) (hk : r.Kind = 8) (hg' : GoodR r') (hk' : r'.Kind = 8) (hl' : r'.List.length ≤ 1000) (h1 : rule_change a.Kind r a default = some (0, r', o)) (h2 : rule_change a.Kind r' a default = some (0, r'', o')) : r'' = r' := by
  have e : ∀ r, rule_change a.Kind r a default = rule_changes_7 r a default := fun r => by rw [h]; rfl
  have hl := hr.len
  obtain ⟨c, x, y, d1, d2, _⟩ := chg_leave h hr hg hk
  rw [h1] at d1
  simp only [Option.some.injEq, Prod.mk.injEq] at d1
  obtain ⟨rfl, rfl, rfl⟩ := d1
  have e2 : moietyref05_do r a = (moietyref05_do_l1 r a (Int.toNat ((r.List.length : Int) - (0 : Int)) + 1) ([] : List api_Item) (0 : Int)).bind fun z57 => match z57 with | y56 => (moietyref05_do_j1 ({ r with List := y56 }) (ans 0)) := by unfold moietyref05_do moietyref05_do_j2; rw [h]; rfl
  have hf := filt_loop (a := a) (a0 := r) (by omega) r.List.length 0 [] (by omega) (by simp)
  rw [show ((0 : Nat) : Int) = 0 from rfl] at hf
  rw [e2, show (Int.toNat ((r.List.length : Int) - (0 : Int)) + 1) = r.List.length + 1 by omega, hf, List.drop_zero, List.nil_append] at d2
  simp only [Option.bind_some, moietyref05_do_j1, if_true, Option.some.injEq, Prod.mk.injEq] at d2
  obtain ⟨rfl, _⟩ := d2
  have hany : isAt a.S (r.List.filter fun e => !sEq e.Name a.S) = false := by
    rw [← any_isAt (good_names hg' hk'), List.any_eq_false]
    intro e he
    have := (List.mem_filter.1 he).2
    simpa using this
  rw [e] at h2
  unfold rule_changes_7 at h2
  rw [find_eq (good_names hg' hk') (show (r.List.filter fun e => !sEq e.Name a.S).length < _ by have : (r.List.filter fun e => !sEq e.Name a.S).length ≤ 1000 := hl'; omega)] at h2
  simp only [Option.bind_some] at h2
  rw [if_neg (by rw [hany]; decide)] at h2
  simp only [rule_changes_7_j1, Option.some.injEq, Prod.mk.injEq, true_and] at h2
  exact h2.1.symm
theorem idem_offer (h : a.Kind = 21) (hr : RecW r) (hg : GoodR r) (hk : r.Kind = 9) (ha : ActW a) (hw' : RecW r') (h1 : rule_change a.Kind r a default = some (0, r', o)) (h2 : rule_change a.Kind r' a default = some (0, r'', o')) : r'' = r' := by
  have e : ∀ r, rule_change a.Kind r a default = rule_offer r a default := fun r => by rw [h]; rfl
  obtain ⟨c1, c2, c3⟩ := good_list hg (by omega)
  have hl := hr.len
  have hple := pre_le (aheadF { Score := a.X, Name := a.S } false) r.List
  rw [e] at h1 h2
  have g1 := h1
  -- no change: the second is the first
  have same : r' = r → r'' = r' := fun hrr => by
    subst hrr
    rw [g1] at h2
    simp only [Option.some.injEq, Prod.mk.injEq, true_and] at h2
    exact h2.1.symm
  unfold rule_offer at h1
  rw [offer_pre ha.ok.2 hr.ok.sc (by omega), clone_i (by omega)] at h1
  simp only [Option.bind_some] at h1
  obtain ⟨e9, _, h1⟩ := Option.bind_eq_some_iff.1 h1
  obtain ⟨r11, _, h1⟩ := Option.bind_eq_some_iff.1 h1
  split at h1
  · simp only [Option.some.injEq, Prod.mk.injEq, true_and] at h1
    exact same h1.1.symm
  · obtain ⟨L, hL, h1⟩ := Option.bind_eq_some_iff.1 h1
    unfold slices_Insert_api_Item_api_Item at hL
    rw [if_pos ⟨by omega, by omega, by simp, by simp; omega⟩] at hL
    have hL := (Option.some.inj hL).symm
    rw [min_take c1 c2] at h1
    simp only [Option.bind_some, Option.some.injEq, Prod.mk.injEq, true_and, Int.toNat_natCast] at h1 hL
    obtain ⟨rfl, _⟩ := h1
    have hAl : (r.List.take (pre (aheadF { Score := a.X, Name := a.S } false) r.List)).length = pre (aheadF { Score := a.X, Name := a.S } false) r.List := by rw [List.length_take]; omega
    by_cases hi : (pre (aheadF { Score := a.X, Name := a.S } false) r.List : Int) < r.Cap
    · have ht : L.take r.Cap.toNat = r.List.take (pre (aheadF { Score := a.X, Name := a.S } false) r.List) ++ { Score := a.X, Name := a.S } :: (r.List.drop (pre (aheadF { Score := a.X, Name := a.S } false) r.List)).take (r.Cap.toNat - pre (aheadF { Score := a.X, Name := a.S } false) r.List - 1) := by
        rw [hL, List.append_assoc, List.take_append, hAl, List.take_of_length_le (by rw [hAl]; omega)]
        congr 1
        rw [List.singleton_append, show r.Cap.toNat - pre (aheadF { Score := a.X, Name := a.S } false) r.List = (r.Cap.toNat - pre (aheadF { Score := a.X, Name := a.S } false) r.List - 1) + 1 by omega, List.take_succ_cons]
        simp
      have hself : aheadF { Score := a.X, Name := a.S } false { Score := a.X, Name := a.S } = false := better_self _
      have hp : pre (aheadF { Score := a.X, Name := a.S } false) (L.take r.Cap.toNat) = pre (aheadF { Score := a.X, Name := a.S } false) r.List := by
        rw [ht, pre_app hself pre_take, hAl]
      have hlen : (L.take r.Cap.toNat).length ≤ 1000 := hw'.len
      have hlt : pre (aheadF { Score := a.X, Name := a.S } false) r.List < (L.take r.Cap.toNat).length := by rw [ht]; simp only [List.length_append, List.length_cons, hAl]; omega
      have hget : (L.take r.Cap.toNat)[pre (aheadF { Score := a.X, Name := a.S } false) r.List]? = some { Score := a.X, Name := a.S } := by
        rw [ht, List.getElem?_append_right (by rw [hAl]; exact Nat.le_refl _), hAl, Nat.sub_self]; rfl
      unfold rule_offer at h2
      have ho := offer_pre (r := { r with List := L.take r.Cap.toNat }) (a := a) ha.ok.2 hw'.ok.sc (show (L.take r.Cap.toNat).length < _ by omega)
      rw [ho] at h2
      simp only [Option.bind_some, hp] at h2
      have hd : decide (((pre (aheadF { Score := a.X, Name := a.S } false) r.List : Nat) : Int) < ((L.take r.Cap.toNat).length : Int)) = true := by simpa using hlt
      rw [hd, idxn, hget] at h2
      simp only [gd_t, Option.bind_some, Bool.true_and] at h2
      rw [better_eq ha.ok.2 ha.ok.2, better_self] at h2
      simp only [Option.bind_some, Bool.not_false, if_true, Option.some.injEq, Prod.mk.injEq, true_and] at h2
      exact h2.1.symm
    · apply same
      have : L.take r.Cap.toNat = r.List := by
        rw [hL, List.append_assoc, List.take_append, hAl, show r.Cap.toNat - pre (aheadF { Score := a.X, Name := a.S } false) r.List = 0 by omega, List.take_zero, List.append_nil, List.take_of_length_le (by rw [hAl]; omega), List.take_of_length_le (by omega)]
      rw [this]
theorem on_of {k : Int} (h1 : 1 ≤ k) (h2 : k ≤ 21) {on : Int} (h : act_On k = some on) : (k = 10 ∨ k = 11 → on = 4) ∧ (k = 18 ∨ k = 19 ∨ k = 20 → on = 8) ∧ (k = 21 → on = 9) := by
  obtain ⟨on', o1, _, _, _, k10, k18, k21, _⟩ := on_both h1 h2
  rw [h] at o1
  obtain rfl := Option.some.inj o1
  exact ⟨k10, k18, k21⟩
/-- A change that is made twice. -/
theorem twice {k : Int} (hk : k = 5 ∨ k = 6 ∨ k = 13 ∨ k = 14 ∨ k = 17 ∨ k = 18 ∨ k = 19 ∨ k = 21) (h : a.Kind = k) (hr : RecW r) (ha : ActIn a) : ((rule_Apply r true a).bind fun r16 => ((rule_Apply r16.1 true a).bind fun r18 => ((gd r18.2.1 (rec_Same r16.1 r18.1)).bind fun r20 => (some (r18.2.1 && r20))))) = some true := by
  have fin : ∀ {x : api_Record}, RecW x → (gd true (rec_Same x x)).bind (fun r20 => some (true && r20)) = some true := fun {x} hx => by
    rw [gd_t, same_rec hx.ok hx.ok, sameRr]; rfl
  obtain ⟨z, e1, hz⟩ := apply_chg hr ha (by omega)
  rw [e1]
  simp only [Option.bind_some]
  rcases hz with ⟨c, _, rfl⟩ | ⟨k1, k2, k3, k4, k5, r', o, q1, q2, q3, q4, q5, rfl⟩
  · simp only []
    rw [e1]
    exact fin hr
  · simp only []
    obtain ⟨z2, f1, hz2⟩ := apply_chg q4 ha (by omega)
    rw [f1]
    simp only [Option.bind_some]
    rcases hz2 with ⟨c, _, rfl⟩ | ⟨_, _, p3, _, p5, r'', o', p6, _, _, p7, _, rfl⟩
    · exact fin q4
    · obtain ⟨_, o8, o9⟩ := on_of (by omega) k4 k5
      obtain ⟨_, o8', o9'⟩ := on_of (by omega) k4 p5
      have : r'' = r' := by
        rcases hk with rfl | rfl | rfl | rfl | rfl | rfl | rfl | rfl
        · have e : ∀ r, rule_change a.Kind r a default = rule_changes_1 r a default := fun r => by rw [h]; rfl
          rw [e] at q1 p6
          simp only [rule_changes_1, Option.some.injEq, Prod.mk.injEq, true_and] at q1 p6
          obtain ⟨rfl, _⟩ := q1
          exact p6.1.symm
        · have e : ∀ r, rule_change a.Kind r a default = rule_changes_2 r a default := fun r => by rw [h]; rfl
          rw [e] at q1 p6
          simp only [rule_changes_2, rclone_eq hr.len, rclone_eq q4.len, Option.bind_some, Option.some.injEq, Prod.mk.injEq, true_and] at q1 p6
          obtain ⟨rfl, _⟩ := q1
          exact p6.1.symm
        · exact idem_real (fun m => max_again hr.ok.real k2.ok.2 (good_real k3) k2.xc) (fun r => by rw [h]; rfl) q1 p6
        · exact idem_real (fun m => min_again hr.ok.real k2.ok.2 (good_real k3) k2.xc) (fun r => by rw [h]; rfl) q1 p6
        · exact idem_real (ψ := fun x y => rule_changes_6 x y) (fun m hm => by unfold rule_changes_6 at *; exact hm) (fun r => by rw [h]; rfl) q1 p6
        · exact idem_join h k3 (o8 (.inl h)) hr.len p3 (o8' (.inl h)) q4.len q1 p6
        · exact idem_leave h hr k3 (o8 (.inr (.inl h))) p3 (o8' (.inr (.inl h))) q4.len q1 p6
        · exact idem_offer h hr k3 (o9 h) k2 q4 q1 p6
      subst this
      exact fin q4
/-- **RuleTwice.** -/
theorem RuleTwice_true (a0 : api_Record) (a1 : api_Act) (ha0 : wf_api_Record a0) (ha1 : wf_api_Act a1) : moietylaw05_RuleTwice a0 a1 = some true := by
  unfold moietylaw05_RuleTwice
  rw [speaks5]
  simp only [Option.bind_some, Bool.not_true, Bool.false_eq_true, if_false]
  rcases big5 (l := [a1]) ha0 (fun o ho => by rw [List.mem_singleton.1 ho]; exact ha1) with hb | ⟨hb, hr, _, hi⟩
  · rw [hb]; rfl
  · rw [hb]
    have ha := hi a1 (List.mem_singleton.2 rfl)
    have key : ∀ k : Int, (k = 5 ∨ k = 6 ∨ k = 13 ∨ k = 14 ∨ k = 17 ∨ k = 18 ∨ k = 19 ∨ k = 21) → moietylaw05_RuleTwice_j1 a0 a1 (a1.Kind == k) = some true := fun k hk => by
      unfold moietylaw05_RuleTwice_j1
      split
      · rename_i h
        exact twice hk (by simpa using h) hr ha
      · rfl
    simp only [Option.bind_some, Bool.false_eq_true, if_false]
    rw [key 5 (by omega), key 6 (by omega), key 13 (by omega), key 14 (by omega), key 17 (by omega), key 18 (by omega), key 19 (by omega), key 21 (by omega)]
    simp
end Go.CL

set_option linter.unusedVariables false
set_option linter.unusedSimpArgs false
set_option maxRecDepth 100000
namespace Go.CL
open Go Go.RowKit Go.Proofs Go.ChangeShapes Go.WideShapes Go.ChangeAt
theorem Tryd_own : ownKnob Tryd.prog.godebug = none := by kernel_rfl
theorem Tryd_laid : laidOutB Tryd.prog = true := by kernel_rfl
theorem op_3 : Opn Tryd.prog 3 (Kd.int .i64) (fun x => ((IntKind.i64).min ≤ x ∧ x ≤ (IntKind.i64).max)) := opn_int Tryd.underlying3 (by kernel_rfl)
theorem op_2 : Opn Tryd.prog 2 (Kd.int .i64) (fun x => ((IntKind.i64).min ≤ x ∧ x ≤ (IntKind.i64).max)) := opn_int Tryd.underlying2 (by kernel_rfl)
theorem op_22 : Opn Tryd.prog 22 Kd.flt (fun x => (x < 2 ^ 64)) := opn_flt Tryd.underlying22 (by kernel_rfl)
theorem op_9 : Opn Tryd.prog 9 Kd.str (fun x => (x.size ≤ maxLen)) := opn_str Tryd.underlying9 (by kernel_rfl)
theorem op_48 : Opn Tryd.prog 48 k_api_Item wf_api_Item := ⟨by kernel_rfl, fun hg h => by
  obtain ⟨hl, n, hf⟩ := opn_fields Tryd.underlying48 h
  obtain ⟨y0, h0⟩ := hf 0 _ rfl
  obtain ⟨v0, k0, w0⟩ := op_22.op hg h0
  obtain ⟨y1, h1⟩ := hf 1 _ rfl
  obtain ⟨v1, k1, w1⟩ := op_9.op hg h1
  refine ⟨⟨v0, v1⟩, ⟨hl.trans (by kernel_rfl), (List.forall_mem_cons.2 ⟨k0, (List.forall_mem_cons.2 ⟨k1, (fun _ h => by cases h)⟩)⟩)⟩, w0, w1⟩, fun h => fm_struct Tryd.underlying48 h⟩
theorem op_23 : Opn Tryd.prog 23 k_api_Item.sl (fun x => (x.length ≤ maxLen ∧ ∀ e0 ∈ x, (wf_api_Item e0))) := opn_sl Tryd.underlying23 (by kernel_rfl) op_48 (by decide)
theorem op_25 : Opn Tryd.prog 25 k_api_Record wf_api_Record := ⟨by kernel_rfl, fun hg h => by
  obtain ⟨hl, n, hf⟩ := opn_fields Tryd.underlying25 h
  obtain ⟨y0, h0⟩ := hf 0 _ rfl
  obtain ⟨v0, k0, w0⟩ := op_3.op hg h0
  obtain ⟨y1, h1⟩ := hf 1 _ rfl
  obtain ⟨v1, k1, w1⟩ := op_2.op hg h1
  obtain ⟨y2, h2⟩ := hf 2 _ rfl
  obtain ⟨v2, k2, w2⟩ := op_2.op hg h2
  obtain ⟨y3, h3⟩ := hf 3 _ rfl
  obtain ⟨v3, k3, w3⟩ := op_2.op hg h3
  obtain ⟨y4, h4⟩ := hf 4 _ rfl
  obtain ⟨v4, k4, w4⟩ := op_22.op hg h4
  obtain ⟨y5, h5⟩ := hf 5 _ rfl
  obtain ⟨v5, k5, w5⟩ := op_3.op hg h5
  obtain ⟨y6, h6⟩ := hf 6 _ rfl
  obtain ⟨v6, k6, w6⟩ := op_9.op hg h6
  obtain ⟨y7, h7⟩ := hf 7 _ rfl
  obtain ⟨v7, k7, w7⟩ := op_23.op hg h7
  refine ⟨⟨v0, v1, v2, v3, v4, v5, v6, v7⟩, ⟨hl.trans (by kernel_rfl), (List.forall_mem_cons.2 ⟨k0, (List.forall_mem_cons.2 ⟨k1, (List.forall_mem_cons.2 ⟨k2, (List.forall_mem_cons.2 ⟨k3, (List.forall_mem_cons.2 ⟨k4, (List.forall_mem_cons.2 ⟨k5, (List.forall_mem_cons.2 ⟨k6, (List.forall_mem_cons.2 ⟨k7, (fun _ h => by cases h)⟩)⟩)⟩)⟩)⟩)⟩)⟩)⟩)⟩, w0, w1, w2, w3, w4, w5, w6, w7⟩, fun h => fm_struct Tryd.underlying25 h⟩
theorem op_4 : Opn Tryd.prog 4 Kd.bool (fun x => True) := opn_bool Tryd.underlying4 (by kernel_rfl)
theorem op_27 : Opn Tryd.prog 27 k_api_Act wf_api_Act := ⟨by kernel_rfl, fun hg h => by
  obtain ⟨hl, n, hf⟩ := opn_fields Tryd.underlying27 h
  obtain ⟨y0, h0⟩ := hf 0 _ rfl
  obtain ⟨v0, k0, w0⟩ := op_3.op hg h0
  obtain ⟨y1, h1⟩ := hf 1 _ rfl
  obtain ⟨v1, k1, w1⟩ := op_9.op hg h1
  obtain ⟨y2, h2⟩ := hf 2 _ rfl
  obtain ⟨v2, k2, w2⟩ := op_2.op hg h2
  obtain ⟨y3, h3⟩ := hf 3 _ rfl
  obtain ⟨v3, k3, w3⟩ := op_22.op hg h3
  obtain ⟨y4, h4⟩ := hf 4 _ rfl
  obtain ⟨v4, k4, w4⟩ := op_9.op hg h4
  obtain ⟨y5, h5⟩ := hf 5 _ rfl
  obtain ⟨v5, k5, w5⟩ := op_25.op hg h5
  obtain ⟨y6, h6⟩ := hf 6 _ rfl
  obtain ⟨v6, k6, w6⟩ := op_4.op hg h6
  refine ⟨⟨v0, v1, v2, v3, v4, v5, v6⟩, ⟨hl.trans (by kernel_rfl), (List.forall_mem_cons.2 ⟨k0, (List.forall_mem_cons.2 ⟨k1, (List.forall_mem_cons.2 ⟨k2, (List.forall_mem_cons.2 ⟨k3, (List.forall_mem_cons.2 ⟨k4, (List.forall_mem_cons.2 ⟨k5, (List.forall_mem_cons.2 ⟨k6, (fun _ h => by cases h)⟩)⟩)⟩)⟩)⟩)⟩)⟩)⟩, w0, w1, w2, w3, w4, w5, w6⟩, fun h => fm_struct Tryd.underlying27 h⟩
theorem det_9 : Det Tryd.prog 9 := det_str Tryd.underlying9
theorem det_3 : Det Tryd.prog 3 := det_int Tryd.underlying3
theorem det_77 : Det Tryd.prog 77 := det_struct Tryd.underlying77 (fun i f h => match i, f, h with
  | 0, _, h => by obtain rfl := Option.some.inj h; exact det_9
  | 1, _, h => by obtain rfl := Option.some.inj h; exact det_3
  | 2, _, h => by obtain rfl := Option.some.inj h; exact det_9
  | _ + 3, _, h => by cases h) (by kernel_rfl)
theorem det_95 : Det Tryd.prog 95 := det_arr Tryd.underlying95 det_77 (by kernel_rfl)
theorem RuleTwice_met (os : Os) (args : Array Value) : laidMetH Tryd.prog [("moiety/act.kinds", Go.Proofs.YtajghnodbhcnoaaDoor.Rows.laid_moiety_act_kinds)] ((World.doorLaid Tryd.prog 400 os).forCall (fun _ _ => 0) ⟨#[], args, []⟩).memory :=
  laidMetH_of_parts3 (fuel := 8) (laidMet_of_run' 8 (by kernel_rfl) (by kernel_rfl)) (by kernel_rfl) (by kernel_rfl)
theorem RuleTwice_gl {W : World} (h : laidMetH Tryd.prog [("moiety/act.kinds", Go.Proofs.YtajghnodbhcnoaaDoor.Rows.laid_moiety_act_kinds)] W) : GLok W (fun b _ => b < W.heap.size) := by
  have g0 := laid_one (P := Tryd.prog) (nm := "moiety/act.kinds") (d := Go.Proofs.YtajghnodbhcnoaaDoor.Rows.laid_moiety_act_kinds) (g := 0) (t := 95) (W := W) (w0 := W) (cells := [.string ⟨#[]⟩, .int .i64 (0), .string ⟨#[]⟩, .string ⟨#[110, 101, 119]⟩, .int .i64 (0), .string ⟨#[109]⟩, .string ⟨#[100, 114, 111, 112]⟩, .int .i64 (0), .string ⟨#[]⟩, .string ⟨#[105, 115]⟩, .int .i64 (0), .string ⟨#[]⟩, .string ⟨#[108, 111, 111, 107]⟩, .int .i64 (0), .string ⟨#[]⟩, .string ⟨#[112, 117, 116]⟩, .int .i64 (1), .string ⟨#[115]⟩, .string ⟨#[115, 119, 97, 112]⟩, .int .i64 (1), .string ⟨#[115]⟩, .string ⟨#[97, 100, 100]⟩, .int .i64 (2), .string ⟨#[110]⟩, .string ⟨#[112, 108, 117, 115]⟩, .int .i64 (3), .string ⟨#[110]⟩, .string ⟨#[114, 101, 97, 99, 104]⟩, .int .i64 (3), .string ⟨#[110]⟩, .string ⟨#[105, 110]⟩, .int .i64 (4), .string ⟨#[110]⟩, .string ⟨#[111, 117, 116]⟩, .int .i64 (4), .string ⟨#[110]⟩, .string ⟨#[101, 110, 111, 117, 103, 104]⟩, .int .i64 (4), .string ⟨#[110]⟩, .string ⟨#[114, 97, 105, 115, 101]⟩, .int .i64 (5), .string ⟨#[120]⟩, .string ⟨#[108, 111, 119, 101, 114]⟩, .int .i64 (6), .string ⟨#[120]⟩, .string ⟨#[115, 104, 105, 102, 116]⟩, .int .i64 (7), .string ⟨#[120]⟩, .string ⟨#[115, 99, 97, 108, 101]⟩, .int .i64 (7), .string ⟨#[120]⟩, .string ⟨#[102, 105, 120]⟩, .int .i64 (7), .string ⟨#[120]⟩, .string ⟨#[106, 111, 105, 110]⟩, .int .i64 (8), .string ⟨#[115]⟩, .string ⟨#[108, 101, 97, 118, 101]⟩, .int .i64 (8), .string ⟨#[115]⟩, .string ⟨#[104, 97, 115]⟩, .int .i64 (8), .string ⟨#[115]⟩, .string ⟨#[111, 102, 102, 101, 114]⟩, .int .i64 (9), .string ⟨#[120, 115]⟩]) (fu := 8) (by kernel_rfl) (by kernel_rfl) det_95 (by kernel_rfl) (by kernel_rfl) h
  intro e he i v hv
  rcases List.mem_cons.1 he with rfl | he
  · exact ⟨(spot_none (g0 i v hv)).2, g0 i v hv⟩
  cases he
theorem RuleTwice_ret (os : Os) (started : os.Started) (H : Type) (enc : TypeId × Value → H) :
    ReturnsInHanded {} Tryd.checked os 5 .any (fun w args => (Go.Proofs.YtajghnodbhcnoaaDoor.Rows.ruleTwiceSpec.pre enc Tryd.prog Tryd.f5 [] false w args ∧ laidMetH Tryd.prog [("moiety/act.kinds", Go.Proofs.YtajghnodbhcnoaaDoor.Rows.laid_moiety_act_kinds)] w) ∧ sizedMet enc Tryd.prog Tryd.f5 (OpenSpec.ofChange Go.Proofs.YtajghnodbhcnoaaDoor.Rows.ruleTwiceSpec) false w args) (Go.Proofs.YtajghnodbhcnoaaDoor.Rows.ruleTwiceSpec.post enc Tryd.prog Tryd.f5 false true false false) := by
  refine returnsInHanded_of_change_and (C := Tryd.checked) (X := fun w _ => laidMetH Tryd.prog [("moiety/act.kinds", Go.Proofs.YtajghnodbhcnoaaDoor.Rows.laid_moiety_act_kinds)] w) (fun _ _ _ hh h => h.of_heap hh) Tryd_own started (by kernel_rfl) Tryd.func5
    (ChangeSpec.witness_shaped (enc := enc) (C := Tryd.checked) (os := os) (X := fun w _ => laidMetH Tryd.prog [("moiety/act.kinds", Go.Proofs.YtajghnodbhcnoaaDoor.Rows.laid_moiety_act_kinds)] w) false (World.doorLaid Tryd.prog 400 os) #[.agg #[.int .i64 0, .int .i64 0, .int .i64 0, .int .i64 0, .float .f64 0, .int .i64 0, .string ByteArray.empty, .slice none 0 0], .agg #[.int .i64 0, .string ByteArray.empty, .int .i64 0, .float .f64 0, .string ByteArray.empty, .int .i64 0, .int .i64 0, .int .i64 0, .int .i64 0, .float .f64 0, .int .i64 0, .string ByteArray.empty, .slice none 0 0, .bool false]] 8 rfl (World.shaped_of_RefB (by kernel_rfl) (by kernel_rfl)) (by kernel_rfl) (by kernel_rfl) (by kernel_rfl) (RuleTwice_met os _)) ?_
  intro W base args ds gs before hval0 hW hcnd _ hL _
  have hval : ∀ (j : Nat) t v, Tryd.f5.params[j]? = some t → args[j]? = some v → Value.okWide Tryd.prog W .any base t v := hval0
  have hW' := hW
  obtain ⟨p, q, hA0, hV, rfl, hfz, hnd⟩ := hW
  have hA : DataW.TrodAll enc Tryd.prog W 0 (fun _ => true) true Tryd.f5.params.toList args.toList ds p := hA0
  rw [Tryd.params5] at hA hval
  obtain ⟨v0, v1, d0, d1, p0, p1, rfl, rfl, rfl, h0, h1⟩ := trodAll_two hA
  obtain ⟨rfl, rfl⟩ := trodVars_none hV
  simp only [List.append_nil] at hW'
  have hg : GLok W (fun b _ => b < W.heap.size) := (RuleTwice_gl hL)
  have hk0 := h0
  obtain ⟨a0, q0, w0⟩ := arg_of op_25 hg h0 (hval 0 25 v0 rfl rfl)
  have hk1 := h1
  obtain ⟨a1, q1, w1⟩ := arg_of op_27 hg h1 (hval 1 27 v1 rfl rfl)
  refine (moietylaw05_RuleTwice_ok a0 a1 (RuleTwice_true a0 a1 w0 w1) (GW W hg) [v0, v1] (argsOk_cons q0 (argsOk_cons q1 argsOk_nil))).mono fun e W' ⟨g', v, he, hw, hs, hq⟩ => ?_
  subst he; subst hw
  rw [pBool_iff.1 hq]
  have hbel := below_of hs
  have hlt : ∀ x ∈ (p0 ++ p1), x.block < W.heap.size := fun x hx => by simpa using hW'.lt x hx
  exact ⟨_, rfl, post_of_below (pv := []) hW' hbel (trodAll_mk1 (shut_bool Tryd.underlying4 true)) (trodAll_mk2 (Below.trod Tryd_laid (by kernel_rfl) (of_decide_eq_true (by kernel_rfl)) hk0 hbel (fun x hx => hlt x (by simp [hx]))) (Below.trod Tryd_laid (by kernel_rfl) (of_decide_eq_true (by kernel_rfl)) hk1 hbel (fun x hx => hlt x (by simp [hx])))) rfl⟩
theorem RuleTwice_holds : Go.Proofs.YtajghnodbhcnoaaDoor.Rows.RuleTwiceSaid :=
  OpenClaim.holds_of_wide 5 Tryd.f5 rfl rfl rfl rfl rfl rfl rfl ⟨rfl, rfl, rfl, rfl, rfl⟩ rfl rfl rfl rfl rfl (by kernel_rfl) Tryd.func5 (by kernel_rfl)
    (of_decide_eq_true (by kernel_rfl)) (by unfold Func.isWrapper; first | (rw [if_pos (by decide +kernel)]; kernel_rfl) | (rw [if_neg (by decide +kernel)]; exact ⟨rfl, rfl⟩))
    (fun os started H enc _ => RuleTwice_ret os started H enc)
theorem RuleTwice_card : Go.Proofs.YtajghnodbhcnoaaDoor.Rows.RuleTwiceCardSaid :=
  Claim7.holds_tied_plain_at .later [] [.data] true (true, "d53d6a7d9198ad883dc428b1854140353358626e00ef43ddb68ca71f2a693fba") false
    RuleTwice_holds (fun _ h => by cases h) (by kernel_rfl) (fun _ h => by cases h) Go.Proofs.YtajghnodbhcnoaaDoor.ruleTwice_row_tie rfl ⟨rfl, rfl⟩ (by kernel_rfl) rfl
    (fun f fn hf hfn => by
      obtain rfl : f = 5 := Option.some.inj ((show Tryd.prog.funcNamed "moiety/moietylaw05.RuleTwice" = some 5 by kernel_rfl).symm.trans hf) |>.symm
      obtain rfl : fn = Tryd.f5 := (Option.some.inj (Tryd.func5.symm.trans hfn)).symm
      exact ⟨by kernel_rfl, fun j t ht => by
        rw [Tryd.params5] at ht
        have hm : t ∈ [25, 27] := by simpa using Array.mem_of_getElem? ht
        have hall : (([25, 27] : List TypeId).all fun u => !Tryd.prog.wantsStandIn u) = true := by kernel_rfl
        exact (show Tryd.prog.wantsStandIn t = false by simpa using List.all_eq_true.1 hall t hm)⟩)
    (by kernel_rfl)
end Go.CL
