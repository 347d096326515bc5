/- A part of the proof of ShelfHigh. -/
import Derived.Test.YtlphnpmegolfmaaShelfHighC3
import Derived.KernelRfl
import Derived.Laws.Strings
import Derived.Test.YtlphnpmegolfmaaRows
set_option linter.unusedVariables false
set_option linter.unusedSimpArgs false
set_option maxRecDepth 100000
namespace Go.CL
open Go Go.RowKit Go.Proofs
theorem moietylaw09_ShelfHigh_ok (a0 : List moietylaw09_Op) {r : Bool} (h : moietylaw09_ShelfHigh a0 = some r) : FnOk Try.prog 7 [(k_moietylaw09_Op.sl.pd a0)] (pBool r) := by
  have H0 := h
  unfold moietylaw09_ShelfHigh at H0
  clear h
  refine fn_ok (N := 53) Try.func7 rfl rfl (Nat.le_of_ble_eq_true rfl) rfl rfl (fun a g0 hst hb => ?_)
  refine r_s (L := [(0, _)]) (T := [⟨[], _, [], [], [2]⟩]) (F := [.old 0]) hst hb follows
    (o_p rfl (ob_assign rfl rfl c_b) <|
     o_n) (by kernel_rfl) (fun a g hst hb => ?_)
  refine wp_seq ?_
  obtain ⟨r1, h2, H0⟩ := of_bind H0
  refine r_s (L := [(0, _)]) (T := [⟨[], _, [], [], [7]⟩, ⟨[.op 0 0], _, [], [0], [8]⟩]) (F := [.old 0, .op 1 0]) hst hb follows
    (o_p rfl (ob_call en_8 (moietylaw09_speaks_ok h2) rfl rfl .nil) <|
     o_p rfl (ob_not rfl rfl u_0) <|
     o_n) (by kernel_rfl) (fun a g hst hb => ?_)
  refine wp_cond_split (hst.bool 1 rfl) (fun hc3 => ?_) (fun hc3 => ?_)
  · replace H0 := ite_t hc3 H0
    refine r_s (L := []) (T := [⟨[], _, [], [], [2]⟩]) (F := [.op 0 0]) (hst.pick [] rfl) hb follows
      (o_p rfl (ob_assign rfl rfl c_b) <|
       o_n) (by kernel_rfl) (fun a g hst hb => ?_)
    refine wp_ret ?_
    refine then_r ?_
    obtain rfl := Option.some.inj H0
    exact endR1 rfl hst hb (res_tmp (s := 2)) (hst.at 0 rfl)
  · replace H0 := ite_f hc3 H0
    refine wp_skip ?_
    refine then_n ?_
    refine wp_seq ?_
    obtain ⟨r4, h5, H0⟩ := of_bind H0
    refine r_s (L := [(0, _)]) (T := [⟨[.old 0], _, [], [], [9]⟩, ⟨[.op 0 0], _, [], [0], [10]⟩]) (F := [.old 0, .op 1 0]) (hst.pick [0] rfl) hb follows
      (o_p rfl (ob_move rfl rfl u_0) <|
       o_p rfl (ob_call en_9 (moietylaw09_big_ok _ h5) rfl rfl (.cons u_0 .nil)) <|
       o_n) (by kernel_rfl) (fun a g hst hb => ?_)
    refine wp_cond_split (hst.bool 1 rfl) (fun hc6 => ?_) (fun hc6 => ?_)
    · replace H0 := ite_t hc6 H0
      refine r_s (L := []) (T := [⟨[], _, [], [], [2]⟩]) (F := [.op 0 0]) (hst.pick [] rfl) hb follows
        (o_p rfl (ob_assign rfl rfl c_b) <|
         o_n) (by kernel_rfl) (fun a g hst hb => ?_)
      refine wp_ret ?_
      refine then_r ?_
      obtain rfl := Option.some.inj H0
      exact endR1 rfl hst hb (res_tmp (s := 2)) (hst.at 0 rfl)
    · replace H0 := ite_f hc6 H0
      refine wp_skip ?_
      refine then_n ?_
      obtain ⟨r7, h8, H0⟩ := of_bind H0
      refine r_s (L := [(0, _)]) (T := [⟨[], _, [], [], [12]⟩, ⟨[.op 0 0], _, [], [0], [11]⟩, ⟨[.op 1 0], _, [], [0, 1], [13]⟩, ⟨[.op 1 0], _, [], [0, 1], [14]⟩, ⟨[], [(3, (pBox k_shelf_Shelf 3 (default : shelf_Shelf)))], [4], [], [3]⟩, ⟨[.op 2 0, .op 4 0], _, [4], [0, 1, 2, 4], [3]⟩, ⟨[.op 3 0], _, [], List.range 6, [4]⟩]) (F := [.old 0, .op 5 0]) (hst.pick [0] rfl) hb follows
        (o_p rfl (ob_call en_10 (shelf_New_ok _ h8) rfl rfl (.cons c_i .nil)) <|
         o_p rfl (ob_move rfl rfl u_0) <|
         o_p rfl (ob_extract rfl rfl u_0 rfl) <|
         o_p rfl (ob_extract rfl rfl u_0 rfl) <|
         o_p rfl (ob_alloc (zs := [.pointer none, .int .i64 0]) (by kernel_rfl) (fun g => zk_shelf_Shelf g) rfl rfl) <|
         o_p rfl (ob_store ty_28 rfl rfl u_1 u_0) <|
         o_p rfl (ob_assign rfl rfl u_0) <|
         o_n) (by kernel_rfl) (fun a g hst hb => ?_)
      refine wp_seq ?_
      refine r_s (L := [(0, _), (3, _)]) (T := [⟨[.old 0], _, [], [], [15]⟩, ⟨[.op 0 0], _, [], [0], [16]⟩, ⟨[], _, [], [], [17]⟩]) (F := [.old 1, .op 0 0, .op 1 0, .op 2 0]) hst hb follows
        (o_p rfl (ob_move rfl rfl u_0) <|
         o_p rfl (ob_lenL Try.underlying22 rfl rfl u_0) <|
         o_p rfl (ob_move rfl rfl c_i) <|
         o_n) (by kernel_rfl) (fun a g hst hb => ?_)
      obtain ⟨z29, hz1, H0⟩ := of_bind H0
      refine wp_cut (fun a w => ∃ (g : G), w = g.w ∧ St 53 [] a g ∧ Base g0 g ∧ (.inr ()) = z29) ?_ ?_
      · rintro a w ⟨g, rfl, hst, hb, rfl⟩
        refine then_n ?_
        refine r_s (L := []) (T := [⟨[], _, [], [], [2]⟩]) (F := [.op 0 0]) hst hb follows
          (o_p rfl (ob_assign rfl rfl c_b) <|
           o_n) (by kernel_rfl) (fun a g hst hb => ?_)
        refine wp_ret ?_
        obtain rfl := Option.some.inj H0
        exact endR1 rfl hst hb (res_tmp (s := 2)) (hst.at 0 rfl)
      · refine wp_block ?_
        refine wp_loop_ghost (fun n a w => ∃ (x9 : shelf_Shelf) (x10 : Int) (g : G), w = g.w ∧ St 53 [(3, (pBox k_shelf_Shelf 3 x9)), (15, (k_moietylaw09_Op.sl.pd a0)), (16, (pInt .i64 (a0.length : Int))), (17, (pInt .i64 x10))] a g ∧ Base g0 g ∧ moietylaw09_ShelfHigh_l1 a0 n x9 x10 = some z29) (Int.toNat ((a0.length : Int) - (0 : Int)) + 1) ⟨r7.1, (0 : Int), g, rfl, (hst.pick [0, 1, 2, 3] rfl), hb, hz1⟩ (fun n a w hI => ?_)
        obtain ⟨x9, x10, g, rfl, hst, hb, H1⟩ := hI
        cases n with
        | zero => exact absurd H1 (by simp [moietylaw09_ShelfHigh_l1])
        | succ n =>
          rw [moietylaw09_ShelfHigh_l1] at H1
          refine r_s (L := [(3, _), (15, _), (16, _), (17, _)]) (T := [⟨[.old 3, .old 2], _, [], [], [18]⟩]) (F := [.old 0, .old 1, .old 2, .old 3, .op 0 0]) hst hb follows
            (o_p rfl (ob_lt rfl rfl u_0 u_1) <|
             o_n) (by kernel_rfl) (fun a g hst hb => ?_)
          refine wp_seq ?_
          refine wp_cond_split (hst.bool 4 rfl) (fun hc11 => ?_) (fun hc11 => ?_)
          · replace H1 := ite_t hc11 H1
            refine wp_skip ?_
            refine then_n ?_
            refine wp_seq ?_
            refine wp_block ?_
            obtain ⟨e12, h13, H1⟩ := of_bind H1
            refine r_s (L := [(3, _), (15, _), (16, _), (17, _)]) (T := [⟨[.old 1, .old 3], _, [], [], [19]⟩, ⟨[.op 0 0], _, [], [0], [20]⟩, ⟨[], [(6, (pBox k_moietylaw09_Op 6 (default : moietylaw09_Op)))], [7], [], [6]⟩, ⟨[.op 1 0, .op 2 0], _, [7], [0, 1, 2], [6]⟩]) (F := [.old 0, .op 3 0, .old 1, .old 2, .old 3]) (hst.pick [0, 1, 2, 3] rfl) hb follows
              (o_p rfl (ob_indexAddr Try.underlying22 sz_40 rfl rfl u_0 u_1 h13) <|
               o_p rfl (ob_load ty_40 rfl rfl u_0) <|
               o_p rfl (ob_alloc (zs := [.bool false, .string ByteArray.empty, .int .i64 0, .int .i64 0, .int .i64 0, .int .i64 0, .float .f64 0, .int .i64 0, .string ByteArray.empty, .slice none 0 0]) (by kernel_rfl) (fun g => zk_moietylaw09_Op g) rfl rfl) <|
               o_p rfl (ob_storeF ty_40 rfl rfl u_1 u_0) <|
               o_n) (by kernel_rfl) (fun a g hst hb => ?_)
            refine wp_seq ?_
            refine r_s (L := [(3, _), (6, _), (15, _), (16, _), (17, _)]) (T := [⟨[.old 1], _, [], [], [21]⟩, ⟨[.op 0 0], _, [], [0], [22]⟩]) (F := [.old 0, .old 1, .old 2, .old 3, .old 4, .op 1 0]) hst hb follows
              (o_p rfl (ob_fieldAddr fl_40_0 rfl rfl u_0) <|
               o_p rfl (ob_load ty_4 rfl rfl u_0) <|
               o_n) (by kernel_rfl) (fun a g hst hb => ?_)
            refine wp_cut (fun a w => ∃ (j19 : shelf_Shelf) (g : G), w = g.w ∧ St 53 [(3, (pBox k_shelf_Shelf 3 j19)), (15, (k_moietylaw09_Op.sl.pd a0)), (16, (pInt .i64 (a0.length : Int))), (17, (pInt .i64 x10))] a g ∧ Base g0 g ∧ moietylaw09_ShelfHigh_j1 x10 (moietylaw09_ShelfHigh_l1 a0 n) j19 = some z29) ?_ ?_
            · rintro a w ⟨j19, g, rfl, hst, hb, H1⟩
              unfold moietylaw09_ShelfHigh_j1 at H1
              refine then_n ?_
              obtain ⟨r20, h21, H1⟩ := of_bind H1; obtain ⟨r22, h23, H1⟩ := of_bind H1; obtain ⟨r24, h25, H1⟩ := of_bind H1; obtain ⟨r26, h27, H1⟩ := of_bind H1
              refine r_s (L := [(3, _), (15, _), (16, _), (17, _)]) (T := ⟨[.old 0], _, [], [], [39]⟩ :: ⟨[.op 0 0], _, [], [0], [40]⟩ :: ⟨[.op 1 0], _, [], [0, 1], [41]⟩ :: ⟨[.op 2 0], _, [], [0, 1, 2], [42]⟩ :: ⟨[.op 3 0, .old 0], _, [], List.range 4, [43]⟩ :: ⟨[.op 3 0, .op 4 0], _, [], List.range 5, [44]⟩ :: ⟨[.op 3 0, .old 0], _, [], List.range 4, [45]⟩ :: ⟨[.op 3 0, .op 6 0], _, [], List.range 7, [46]⟩ :: ⟨[.op 3 0, .op 7 0], _, [], List.range 8, [47]⟩ :: ⟨[.op 3 0, .op 8 0], _, [], List.range 9, [48]⟩ :: ⟨[.op 3 0, .op 9 0], _, [], List.range 10, [49]⟩ :: ⟨[.op 3 0, .op 5 0, .op 10 0], _, [], List.range 11, [50]⟩ :: ⟨[.op 3 0, .op 11 0], _, [], List.range 12, [51]⟩ :: []) (F := [.old 0, .old 1, .old 2, .old 3, .op 12 0]) hst hb follows
                (o_p rfl (ob_loadM ty_28 rfl rfl u_0) <|
                 o_p rfl (ob_call en_27 (shelf_Shelf_High_ok _ h21) rfl rfl (.cons u_0 .nil)) <|
                 o_p rfl (ob_lt rfl rfl u_0 c_i) <|
                 o_p rfl (ob_move rfl rfl u_0) <|
                 o_g (g_f rfl rfl rfl (fun hG => ob_loadM ty_28 rfl rfl u_0)) <|
                 o_g (g_f rfl rfl rfl (fun hG => ob_call en_27 (shelf_Shelf_High_ok _ (gd_true h23 hG)) rfl rfl (.cons (Opd.gd hG u_0) .nil))) <|
                 o_g (g_f rfl rfl rfl (fun hG => ob_loadM ty_28 rfl rfl u_0)) <|
                 o_g (g_f rfl rfl rfl (fun hG => ob_call en_17 (shelf_Shelf_Len_ok _ (gd_true h25 hG)) rfl rfl (.cons (Opd.gd hG u_0) .nil))) <|
                 o_g (g_f rfl rfl rfl (fun hG => ob_conv Try.underlying3 Try.underlying68 rfl rfl (Opd.gd hG u_0) rfl)) <|
                 o_g (g_f rfl rfl rfl (fun hG => ob_call en_28 (bits_Len_ok _ (gd_true h27 hG)) rfl rfl (.cons (Opd.gd hG u_0) .nil))) <|
                 o_g (g_f rfl rfl rfl (fun hG => ob_mul rfl rfl c_i (Opd.gd hG u_0) rfl)) <|
                 o_g (g_f rfl rfl rfl (fun hG => ob_gt rfl rfl (Opd.gd hG u_0) (Opd.gd hG u_1))) <|
                 o_p rfl (ob_por rfl rfl u_0 (fun hz => (Opd.gd (bNF hz) u_1))) <|
                 o_n) (by kernel_rfl) (fun a g hst hb => ?_)
              refine wp_cond_split (hst.bool 4 rfl) (fun hc28 => ?_) (fun hc28 => ?_)
              · replace H1 := ite_t hc28 H1
                refine r_s (L := []) (T := [⟨[], _, [], [], [2]⟩]) (F := [.op 0 0]) (hst.pick [] rfl) hb follows
                  (o_p rfl (ob_assign rfl rfl c_b) <|
                   o_n) (by kernel_rfl) (fun a g hst hb => ?_)
                refine wp_ret ?_
                refine inBlock_r ?_
                refine then_r ?_
                refine then_r ?_
                refine inBlock_r ?_
                refine then_r ?_
                refine then_r ?_
                obtain rfl := Option.some.inj H1
                obtain rfl := Option.some.inj H0
                exact endR1 rfl hst hb (res_tmp (s := 2)) (hst.at 0 rfl)
              · replace H1 := ite_f hc28 H1
                refine wp_skip ?_
                refine inBlock_n ?_
                refine then_n ?_
                refine r_g (L := [(3, _), (15, _), (16, _), (17, _)]) (T := [⟨[.old 3], _, [], [], [52]⟩, ⟨[.op 0 0], _, [], [0], [17]⟩]) (F := [.old 0, .old 1, .old 2, .op 1 0]) (hst.pick [0, 1, 2, 3] rfl) hb follows
                  (o_p rfl (ob_add rfl rfl u_0 c_i rfl) <|
                   o_p rfl (ob_move rfl rfl u_0) <|
                   o_n) (by kernel_rfl) (fun a g hst hb => ?_)
                exact ⟨n, Nat.lt_succ_self _, j19, (IntKind.i64.wrap (x10 + (1 : Int))), g, rfl, (hst.pick [0, 1, 2, 3] rfl), hb, H1⟩
            · refine wp_cond_split (hst.bool 5 rfl) (fun hc14 => ?_) (fun hc14 => ?_)
              · replace H1 := ite_t hc14 H1
                obtain ⟨r15, h16, H1⟩ := of_bind H1
                refine r_g (L := [(3, _), (6, _), (15, _), (16, _), (17, _)]) (T := [⟨[.old 0], _, [], [], [24]⟩, ⟨[.old 1], _, [], [], [25]⟩, ⟨[.op 1 0], _, [], [1], [26]⟩, ⟨[.op 0 0, .op 2 0], _, [], [0, 1, 2], [27]⟩, ⟨[.op 3 0], _, [], List.range 4, [23]⟩, ⟨[.op 4 0], _, [], List.range 5, [28]⟩, ⟨[.op 4 0], _, [], List.range 5, [29]⟩, ⟨[.op 5 0, .old 0], _, [4], List.range 6, [3]⟩]) (F := [.op 7 0, .old 2, .old 3, .old 4]) (hst.pick [0, 1, 2, 3, 4] rfl) hb follows
                  (o_p rfl (ob_loadM ty_28 rfl rfl u_0) <|
                   o_p rfl (ob_fieldAddr fl_40_1 rfl rfl u_0) <|
                   o_p rfl (ob_load ty_9 rfl rfl u_0) <|
                   o_p rfl (ob_call en_26 (shelf_Shelf_Cut_ok _ _ h16) rfl rfl (.cons u_0 (.cons u_1 .nil))) <|
                   o_p rfl (ob_move rfl rfl u_0) <|
                   o_p rfl (ob_extract rfl rfl u_0 rfl) <|
                   o_p rfl (ob_extract rfl rfl u_0 rfl) <|
                   o_p rfl (ob_store ty_28 rfl rfl u_1 u_0) <|
                   o_n) (by kernel_rfl) (fun a g hst hb => ?_)
                exact ⟨r15.1, g, rfl, (hst.pick [0, 1, 2, 3] rfl), hb, H1⟩
              · replace H1 := ite_f hc14 H1
                obtain ⟨r17, h18, H1⟩ := of_bind H1
                refine r_g (L := [(3, _), (6, _), (15, _), (16, _), (17, _)]) (T := [⟨[.old 0], _, [], [], [31]⟩, ⟨[.old 1], _, [], [], [32]⟩, ⟨[.op 1 0], _, [], [1], [33]⟩, ⟨[.old 1], _, [], [], [34]⟩, ⟨[.op 3 0], _, [], [3], [35]⟩, ⟨[.op 0 0, .op 2 0, .op 4 0], _, [], List.range 5, [36]⟩, ⟨[.op 5 0], _, [], List.range 6, [30]⟩, ⟨[.op 6 0], _, [], List.range 7, [37]⟩, ⟨[.op 6 0], _, [], List.range 7, [38]⟩, ⟨[.op 7 0, .old 0], _, [4], List.range 8, [3]⟩]) (F := [.op 9 0, .old 2, .old 3, .old 4]) (hst.pick [0, 1, 2, 3, 4] rfl) hb follows
                  (o_p rfl (ob_loadM ty_28 rfl rfl u_0) <|
                   o_p rfl (ob_fieldAddr fl_40_1 rfl rfl u_0) <|
                   o_p rfl (ob_load ty_9 rfl rfl u_0) <|
                   o_p rfl (ob_fieldAddr fl_40_2 rfl rfl u_0) <|
                   o_p rfl (ob_load ty_38 rfl rfl u_0) <|
                   o_p rfl (ob_call en_20 (shelf_Shelf_Set_ok _ _ _ h18) rfl rfl (.cons u_0 (.cons u_1 (.cons u_2 .nil)))) <|
                   o_p rfl (ob_move rfl rfl u_0) <|
                   o_p rfl (ob_extract rfl rfl u_0 rfl) <|
                   o_p rfl (ob_extract rfl rfl u_0 rfl) <|
                   o_p rfl (ob_store ty_28 rfl rfl u_1 u_0) <|
                   o_n) (by kernel_rfl) (fun a g hst hb => ?_)
                exact ⟨r17.1, g, rfl, (hst.pick [0, 1, 2, 3] rfl), hb, H1⟩
          · replace H1 := ite_f hc11 H1
            refine wp_exit ?_
            refine then_e ?_
            refine then_e ?_
            refine inBlock_e ?_
            exact ⟨g, rfl, (hst.pick [] rfl), hb, Option.some.inj H1⟩
end Go.CL

/- Floats by their bits: how two stand to each other. No program in sight. -/
set_option linter.unusedVariables false
set_option linter.unusedSimpArgs false
namespace Go.CL
open Go

def INF : Nat := 9218868437227405312
def TOP : Nat := 9223372036854775808
def BIN : Nat := 4503599627370496
def rg (b : Nat) : Nat := b % TOP
def isn (b : Nat) : Prop := INF < rg b
instance (b : Nat) : Decidable (isn b) := inferInstanceAs (Decidable (INF < rg b))
def sg (b : Nat) : Int := if TOP ≤ b then -((b - TOP : Nat) : Int) else (b : Int)
def ngb (b : Nat) : Bool := b / TOP % 2 == 1
def least : Int := Ieee.double.leastPlace
theorem read_eq (b : Nat) : Ieee.double.read b = if rg b < BIN then .number (ngb b) (rg b) least else if rg b < INF then .number (ngb b) (BIN + rg b % BIN) (least + (rg b / BIN - 1 : Nat)) else if rg b = INF then .infinity (ngb b) else .nan (ngb b) (rg b - INF) := rfl
def mg (r : Nat) : Nat := if r < BIN then r else (BIN + r % BIN) * 2 ^ (r / BIN - 1)
theorem mg_lt {r s : Nat} (h : r < s) : mg r < mg s := by
  unfold mg
  have hB : 0 < BIN := by decide
  by_cases hr : r < BIN
  · rw [if_pos hr]
    by_cases hs : s < BIN
    · rw [if_pos hs]; exact h
    · rw [if_neg hs]
      have : 1 ≤ 2 ^ (s / BIN - 1) := Nat.one_le_two_pow
      calc r < BIN := hr
        _ ≤ BIN + s % BIN := Nat.le_add_right _ _
        _ ≤ (BIN + s % BIN) * 2 ^ (s / BIN - 1) := Nat.le_mul_of_pos_right _ this
  · have hs : ¬ s < BIN := by omega
    rw [if_neg hr, if_neg hs]
    have h1 : 1 ≤ r / BIN := (Nat.le_div_iff_mul_le hB).2 (by omega)
    have hq : r / BIN ≤ s / BIN := Nat.div_le_div_right (Nat.le_of_lt h)
    have er := Nat.div_add_mod r BIN
    have es := Nat.div_add_mod s BIN
    have hm : r % BIN < BIN := Nat.mod_lt _ hB
    rcases Nat.lt_or_eq_of_le hq with hlt | heq
    · have h2 : 2 ^ (r / BIN - 1) * 2 ≤ 2 ^ (s / BIN - 1) := by
        rw [← Nat.pow_succ]
        exact Nat.pow_le_pow_right (by decide) (by omega)
      have hp : 0 < 2 ^ (r / BIN - 1) := Nat.two_pow_pos _
      calc (BIN + r % BIN) * 2 ^ (r / BIN - 1) < (BIN + BIN) * 2 ^ (r / BIN - 1) := Nat.mul_lt_mul_of_pos_right (by omega) hp
        _ = BIN * (2 ^ (r / BIN - 1) * 2) := by rw [← Nat.two_mul, Nat.mul_comm (2 ^ (r / BIN - 1)) 2, ← Nat.mul_assoc, Nat.mul_comm BIN 2]
        _ ≤ BIN * 2 ^ (s / BIN - 1) := Nat.mul_le_mul_left _ h2
        _ ≤ (BIN + s % BIN) * 2 ^ (s / BIN - 1) := Nat.mul_le_mul_right _ (Nat.le_add_right _ _)
    · rw [heq]
      rw [heq] at er
      exact Nat.mul_lt_mul_of_pos_right (by omega) (Nat.two_pow_pos _)
theorem mg_inj {r s : Nat} : mg r = mg s ↔ r = s := by
  constructor
  · intro h
    rcases Nat.lt_trichotomy r s with hlt | heq | hgt
    · have := mg_lt hlt; omega
    · exact heq
    · have := mg_lt hgt; omega
  · intro h; rw [h]
theorem mg_lt_iff {r s : Nat} : mg r < mg s ↔ r < s := by
  constructor
  · intro h
    rcases Nat.lt_trichotomy r s with hlt | heq | hgt
    · exact hlt
    · rw [heq] at h; omega
    · have := mg_lt hgt; omega
  · exact mg_lt
def sgn (s : Bool) (n : Nat) : Int := if s then -(n : Int) else n
theorem sgn_lt {s t : Bool} {m n r q : Nat} (h : m < n ↔ r < q) (h' : n < m ↔ q < r) (h0 : m = 0 ↔ r = 0) (h0' : n = 0 ↔ q = 0) : sgn s m < sgn t n ↔ sgn s r < sgn t q := by
  cases s <;> cases t <;> simp [sgn] <;> omega
theorem sgn_eq {s t : Bool} {m n r q : Nat} (h : m < n ↔ r < q) (h' : n < m ↔ q < r) (h0 : m = 0 ↔ r = 0) (h0' : n = 0 ↔ q = 0) : sgn s m = sgn t n ↔ sgn s r = sgn t q := by
  cases s <;> cases t <;> simp [sgn] <;> omega
theorem cmp_lt (a b : Int) : compare a b = .lt ↔ a < b := by
  simp only [compare, compareOfLessAndEq]
  split
  · simp [*]
  · split <;> simp [*]
theorem cmp_eq (a b : Int) : compare a b = .eq ↔ a = b := by
  simp only [compare, compareOfLessAndEq]
  split
  · rename_i h; simp; omega
  · split <;> simp [*]
theorem sg_eq {b : Nat} (h : b < 18446744073709551616) : sg b = sgn (ngb b) (rg b) := by
  unfold sg sgn ngb rg TOP
  split
  · rename_i h1
    have e1 : b / 9223372036854775808 = 1 := by omega
    have e2 : b % 9223372036854775808 = b - 9223372036854775808 := by omega
    simp [e1, e2]
  · have e1 : b / 9223372036854775808 = 0 := by omega
    have e2 : b % 9223372036854775808 = b := by omega
    simp [e1, e2]
/-- A number's magnitude and place, by its rung. -/
def nm (r : Nat) : Nat := if r < BIN then r else BIN + r % BIN
def np (r : Nat) : Nat := if r < BIN then 0 else r / BIN - 1
theorem mg_np (r : Nat) : mg r = nm r * 2 ^ np r := by
  unfold mg nm np
  split <;> simp
theorem read_num {b : Nat} (h : rg b < INF) : Ieee.double.read b = .number (ngb b) (nm (rg b)) (least + (np (rg b) : Nat)) := by
  rw [read_eq]
  unfold nm np
  split
  · simp
  · simp [h]
theorem order_num (s t : Bool) (r q : Nat) : ∃ o, Ieee.Datum.order (.number s (nm r) (least + (np r : Nat))) (.number t (nm q) (least + (np q : Nat))) = some o ∧ (o = .lt ↔ sgn s r < sgn t q) ∧ (o = .eq ↔ sgn s r = sgn t q) := by
  refine ⟨_, rfl, ?_⟩
  have hmin : min (least + (np r : Nat)) (least + (np q : Nat)) = least + (min (np r) (np q) : Nat) := by omega
  have e1 : (least + (np r : Nat) - min (least + (np r : Nat)) (least + (np q : Nat))).toNat = np r - min (np r) (np q) := by rw [hmin]; omega
  have e2 : (least + (np q : Nat) - min (least + (np r : Nat)) (least + (np q : Nat))).toNat = np q - min (np r) (np q) := by rw [hmin]; omega
  have hs : ∀ (s : Bool) (m u : Nat), Ieee.signed s m u = sgn s (m * 2 ^ u) := by
    intro s m u
    simp [Ieee.signed, sgn, Nat.shiftLeft_eq]
  rw [e1, e2, hs, hs, cmp_lt, cmp_eq]
  have hc : 0 < 2 ^ min (np r) (np q) := Nat.two_pow_pos _
  have m1 : nm r * 2 ^ (np r - min (np r) (np q)) * 2 ^ min (np r) (np q) = mg r := by
    rw [Nat.mul_assoc, ← Nat.pow_add, Nat.sub_add_cancel (Nat.min_le_left _ _), mg_np]
  have m2 : nm q * 2 ^ (np q - min (np r) (np q)) * 2 ^ min (np r) (np q) = mg q := by
    rw [Nat.mul_assoc, ← Nat.pow_add, Nat.sub_add_cancel (Nat.min_le_right _ _), mg_np]
  have k1 : nm r * 2 ^ (np r - min (np r) (np q)) < nm q * 2 ^ (np q - min (np r) (np q)) ↔ r < q := by
    rw [← mg_lt_iff (r := r) (s := q), ← m1, ← m2]
    exact (Nat.mul_lt_mul_right hc).symm
  have k2 : nm q * 2 ^ (np q - min (np r) (np q)) < nm r * 2 ^ (np r - min (np r) (np q)) ↔ q < r := by
    rw [← mg_lt_iff (r := q) (s := r), ← m1, ← m2]
    exact (Nat.mul_lt_mul_right hc).symm
  have z0 : mg 0 = 0 := rfl
  have k3 : nm r * 2 ^ (np r - min (np r) (np q)) = 0 ↔ r = 0 := by
    have hz : r = 0 ↔ mg r = 0 := (mg_inj (r := r) (s := 0)).symm
    rw [hz, ← m1]
    constructor
    · intro h; rw [h, Nat.zero_mul]
    · intro h; exact (Nat.mul_eq_zero.1 h).resolve_right (by omega)
  have k4 : nm q * 2 ^ (np q - min (np r) (np q)) = 0 ↔ q = 0 := by
    have hz : q = 0 ↔ mg q = 0 := (mg_inj (r := q) (s := 0)).symm
    rw [hz, ← m2]
    constructor
    · intro h; rw [h, Nat.zero_mul]
    · intro h; exact (Nat.mul_eq_zero.1 h).resolve_right (by omega)
  exact ⟨sgn_lt k1 k2 k3 k4, sgn_eq k1 k2 k3 k4⟩
theorem order_spec {a b : Nat} (ha : a < 18446744073709551616) (hb : b < 18446744073709551616) (na : ¬ isn a) (nb : ¬ isn b) : ∃ o, Ieee.double.order a b = some o ∧ (o = .lt ↔ sg a < sg b) ∧ (o = .eq ↔ sg a = sg b) := by
  rw [sg_eq ha, sg_eq hb]
  unfold isn at na nb
  have hI : INF = 9218868437227405312 := rfl
  have rd : ∀ x, ¬ INF < rg x → rg x < INF ∨ rg x = INF := fun x h => by omega
  have ri : ∀ x, rg x = INF → Ieee.double.read x = .infinity (ngb x) := fun x h => by
    rw [read_eq, if_neg (by rw [h]; decide), if_neg (by rw [h]; decide), if_pos h]
  unfold Ieee.Format.order
  rcases rd a na with h1 | h1 <;> rcases rd b nb with h2 | h2
  · rw [read_num h1, read_num h2]; exact order_num _ _ _ _
  · rw [read_num h1, ri b h2]
    refine ⟨_, rfl, ?_⟩
    rw [h2]
    cases ngb a <;> cases ngb b <;> simp [sgn] <;> omega
  · rw [ri a h1, read_num h2]
    refine ⟨_, rfl, ?_⟩
    rw [h1]
    cases ngb a <;> cases ngb b <;> simp [sgn] <;> omega
  · rw [ri a h1, ri b h2]
    refine ⟨_, rfl, ?_⟩
    rw [h1, h2]
    cases ngb a <;> cases ngb b <;> simp [sgn] <;> first | decide | omega
theorem order_nan {a b : Nat} (h : isn a ∨ isn b) : Ieee.double.order a b = none := by
  have rn : ∀ x, isn x → ∃ s f, Ieee.double.read x = .nan s f := fun x h => by
    refine ⟨ngb x, rg x - INF, ?_⟩
    unfold isn at h
    have hI : INF = 9218868437227405312 := rfl
    have hB : BIN = 4503599627370496 := rfl
    rw [read_eq, if_neg (by omega), if_neg (by omega), if_neg (by omega)]
  unfold Ieee.Format.order
  rcases h with h | h
  · obtain ⟨s, f, e⟩ := rn a h
    rw [e]; rfl
  · obtain ⟨s, f, e⟩ := rn b h
    rw [e]
    cases Ieee.double.read a <;> rfl
end Go.CL

/- flo (the program's) and moietyref01 (the document's): floats in one order. -/
set_option linter.unusedVariables false
set_option linter.unusedSimpArgs false
namespace Go.CL
open Go

def NANB : Nat := 9221120237041090561
/-- A number's place in the order. -/
def keyf (b : Nat) : Int := if isn b then 18444492273895866369 else if TOP ≤ b then 18446744073709551615 - b else b + 9223372036854775808
def canon (b : Nat) : Nat := if isn b then NANB else b
theorem fneq_self {b : Nat} (hb : b < 18446744073709551616) : fneq b b = decide (isn b) := by
  unfold fneq
  show (Ieee.double.order b b != some .eq) = _
  by_cases h : isn b
  · rw [order_nan (.inl h)]; simp [h]
  · obtain ⟨o, ho, _, he⟩ := order_spec hb hb h h
    rw [ho, he.2 rfl]; simp [h]
theorem canon_eq {b : Nat} (hb : b < 18446744073709551616) : flo_Canon b = some (canon b) := by
  unfold flo_Canon canon
  rw [fneq_self hb]
  by_cases h : isn b
  · simp [h, math_NaN, NANB]
  · simp [h]
theorem and_top {b : Nat} (hb : b < 18446744073709551616) : (bAnd .u64 (b : Int) 9223372036854775808 != 0) = decide (TOP ≤ b) := by
  have h1 : (BitVec.ofInt 64 (b : Int) &&& BitVec.ofInt 64 9223372036854775808).toNat = b &&& 9223372036854775808 := by
    rw [BitVec.toNat_and]
    have e1 : (BitVec.ofInt 64 (b : Int)).toNat = b := by
      rw [show BitVec.ofInt 64 (b : Int) = BitVec.ofNat 64 b from rfl]
      simp; omega
    rw [e1]; rfl
  have h2 : b &&& 9223372036854775808 = (b.testBit 63).toNat * 9223372036854775808 := by
    apply Nat.eq_of_testBit_eq
    intro i
    rw [Nat.testBit_and, show (9223372036854775808 : Nat) = 2 ^ 63 from rfl, Nat.testBit_two_pow]
    by_cases hi : 63 = i
    · subst hi
      cases b.testBit 63
      · simp
      · rw [Bool.toNat_true, Nat.one_mul, Nat.testBit_two_pow]; simp
    · cases b.testBit 63
      · simp [hi]
      · rw [Bool.toNat_true, Nat.one_mul, Nat.testBit_two_pow]; simp [hi]
  have h3 : b.testBit 63 = decide (TOP ≤ b) := by
    rw [Nat.testBit_eq_decide_div_mod_eq]
    unfold TOP
    by_cases h : 9223372036854775808 ≤ b
    · have : b / 2 ^ 63 % 2 = 1 := by omega
      simp [this, h]
    · have : b / 2 ^ 63 % 2 = 0 := by omega
      simp [this, h]
  unfold bAnd
  show (IntKind.wrap .u64 ((BitVec.ofInt 64 (b : Int) &&& BitVec.ofInt 64 9223372036854775808).toNat : Int) != 0) = _
  rw [h1, h2, h3]
  by_cases h : TOP ≤ b
  · simp only [h, decide_true, Bool.toNat_true, Nat.one_mul]
    rfl
  · simp only [h, decide_false, Bool.toNat_false, Nat.zero_mul]
    rfl
theorem xor_top {b : Nat} (hb : b < 18446744073709551616) : bXor .u64 IntKind.u64.max (b : Int) = 18446744073709551615 - b := by
  have h1 : (BitVec.ofInt 64 18446744073709551615 ^^^ BitVec.ofInt 64 (b : Int)).toNat = 18446744073709551615 - b := by
    have e1 : BitVec.ofInt 64 18446744073709551615 = BitVec.allOnes 64 := by decide
    rw [e1, BitVec.allOnes_xor, BitVec.toNat_not]
    have e2 : (BitVec.ofInt 64 (b : Int)).toNat = b := by
      rw [show BitVec.ofInt 64 (b : Int) = BitVec.ofNat 64 b from rfl]
      simp; omega
    rw [e2]
  unfold bXor
  show IntKind.wrap .u64 ((BitVec.ofInt 64 18446744073709551615 ^^^ BitVec.ofInt 64 (b : Int)).toNat : Int) = _
  rw [h1]
  simp [IntKind.wrap, IntKind.signed, IntKind.bits]
  omega
theorem or_top {b : Nat} (hb : b < 9223372036854775808) : bOr .u64 (b : Int) 9223372036854775808 = b + 9223372036854775808 := by
  have h1 : (BitVec.ofInt 64 (b : Int) ||| BitVec.ofInt 64 9223372036854775808).toNat = b + 9223372036854775808 := by
    rw [BitVec.toNat_or]
    have e1 : (BitVec.ofInt 64 (b : Int)).toNat = b := by
      rw [show BitVec.ofInt 64 (b : Int) = BitVec.ofNat 64 b from rfl]
      simp; omega
    rw [e1, show (BitVec.ofInt 64 9223372036854775808).toNat = 2 ^ 63 * 1 from rfl, Nat.or_comm]
    rw [← Nat.two_pow_add_eq_or_of_lt (by simpa using hb)]
    omega
  unfold bOr
  show IntKind.wrap .u64 ((BitVec.ofInt 64 (b : Int) ||| BitVec.ofInt 64 9223372036854775808).toNat : Int) = _
  rw [h1]
  simp [IntKind.wrap, IntKind.signed, IntKind.bits]
  omega
theorem canon_lt {b : Nat} (hb : b < 18446744073709551616) : canon b < 18446744073709551616 := by
  unfold canon NANB; split <;> omega
theorem key_eq {b : Nat} (hb : b < 18446744073709551616) : flo_Key b = some (keyf b) := by
  unfold flo_Key
  rw [canon_eq hb]
  simp only [Option.bind_some]
  rw [and_top (canon_lt hb)]
  unfold keyf canon
  by_cases h : isn b
  · simp only [h, if_true]
    rfl
  · simp only [h, if_false]
    by_cases ht : TOP ≤ b
    · simp only [ht, decide_true, if_true]
      rw [xor_top hb]
    · simp only [ht, decide_false, if_false, Bool.false_eq_true]
      rw [or_top (by unfold TOP at ht; omega)]
theorem same_eq {a b : Nat} (ha : a < 18446744073709551616) (hb : b < 18446744073709551616) : flo_Same a b = some (decide (keyf a = keyf b)) := by
  unfold flo_Same
  rw [key_eq ha, key_eq hb]
  simp [BEq.beq]
theorem less_eq {a b : Nat} (ha : a < 18446744073709551616) (hb : b < 18446744073709551616) : flo_Less a b = some (decide (keyf a < keyf b)) := by
  unfold flo_Less
  rw [key_eq ha, key_eq hb]
  simp
theorem proper_eq {a : Nat} (ha : a < 18446744073709551616) : flo_Proper a = some (decide (a = canon a)) := by
  unfold flo_Proper
  rw [canon_eq ha]
  congr 1
  by_cases h : a = canon a
  · simp [← h]
  · have : (a : Int) ≠ (canon a : Int) := by omega
    simp [h, this]
/-! ### the document's -/
theorem keyf_lt {a b : Nat} (ha : a < 18446744073709551616) (hb : b < 18446744073709551616) (na : ¬ isn a) (nb : ¬ isn b) : keyf a < keyf b ↔ (sg a < sg b ∨ (a = TOP ∧ b = 0)) := by
  unfold keyf
  rw [if_neg na, if_neg nb]
  unfold sg isn rg INF TOP at *
  split <;> split <;> omega
theorem feql_eq {a b : Nat} (ha : a < 18446744073709551616) (hb : b < 18446744073709551616) (na : ¬ isn a) (nb : ¬ isn b) : feql a b = decide (sg a = sg b) := by
  unfold feql
  show (Ieee.double.order a b == some .eq) = _
  obtain ⟨o, ho, _, he⟩ := order_spec ha hb na nb
  rw [ho]
  by_cases h : sg a = sg b
  · rw [he.2 h]; simp [h]
  · have : o ≠ .eq := fun h' => h (he.1 h')
    simp [h, this]
theorem flss_eq {a b : Nat} (ha : a < 18446744073709551616) (hb : b < 18446744073709551616) (na : ¬ isn a) (nb : ¬ isn b) : flss a b = decide (sg a < sg b) := by
  unfold flss
  show (Ieee.double.order a b == some .lt) = _
  obtain ⟨o, ho, hl, _⟩ := order_spec ha hb na nb
  rw [ho]
  by_cases h : sg a < sg b
  · rw [hl.2 h]; simp [h]
  · have : o ≠ .lt := fun h' => h (hl.1 h')
    simp [h, this]
theorem below0 : moietyref01_below 0 = some false := by kernel_rfl
theorem belowT : moietyref01_below TOP = some true := by kernel_rfl
theorem nan0 : ¬ isn 0 := by decide
theorem sg_zero {a : Nat} (ha : a < 18446744073709551616) : sg a = sg 0 ↔ a = 0 ∨ a = TOP := by
  unfold sg TOP
  split <;> simp <;> omega
theorem rnone_eq {a : Nat} (ha : a < 18446744073709551616) : moietyref01_none a = some (decide (isn a)) := by
  unfold moietyref01_none; rw [fneq_self ha]
theorem rless_eq {a b : Nat} (ha : a < 18446744073709551616) (hb : b < 18446744073709551616) : moietyref01_Less a b = some (decide (keyf a < keyf b)) := by
  unfold moietyref01_Less
  rw [rnone_eq ha, rnone_eq hb]
  simp only [Option.bind_some]
  have kb : ∀ x, x < 18446744073709551616 → ¬ isn x → keyf x < 18444492273895866369 := by
    intro x hx nx
    unfold keyf
    rw [if_neg nx]
    unfold isn rg INF TOP at *
    split <;> omega
  have kn : ∀ x, isn x → keyf x = 18444492273895866369 := fun x h => by unfold keyf; rw [if_pos h]
  by_cases na : isn a
  · simp only [na, decide_true, if_true]
    by_cases nb : isn b
    · rw [kn a na, kn b nb]; simp
    · have := kb b hb nb
      rw [kn a na]; simp; omega
  · simp only [na, decide_false, Bool.false_eq_true, if_false]
    by_cases nb : isn b
    · have := kb a ha na
      rw [kn b nb]; simp [nb, this]
    · simp only [nb, decide_false, Bool.false_eq_true, if_false]
      rw [feql_eq ha (by decide) na nan0, feql_eq hb (by decide) nb nan0, flss_eq ha hb na nb]
      by_cases hz : sg a = sg 0 ∧ sg b = sg 0
      · rw [if_pos (by simp [hz])]
        have hk := keyf_lt ha hb na nb
        have h0T : (0 : Nat) ≠ TOP := by decide
        rcases (sg_zero ha).1 hz.1 with rfl | rfl <;> rcases (sg_zero hb).1 hz.2 with rfl | rfl <;> simp only [below0, belowT, gd, Option.bind_some, if_true, if_false, Bool.false_eq_true, Option.some.injEq] <;> decide
      · rw [if_neg (by simpa using hz)]
        have hk := keyf_lt ha hb na nb
        congr 1
        apply decide_eq_decide.2
        rw [hk]
        constructor
        · intro h; exact .inl h
        · rintro (h | ⟨rfl, rfl⟩)
          · exact h
          · exact absurd ⟨rfl, rfl⟩ hz
theorem rsame_eq {a b : Nat} (ha : a < 18446744073709551616) (hb : b < 18446744073709551616) : moietyref01_Same a b = some (decide (keyf a = keyf b)) := by
  unfold moietyref01_Same
  rw [rless_eq ha hb, rless_eq hb ha]
  simp only [Option.bind_some, gd]
  by_cases h1 : keyf a < keyf b
  · have : keyf a ≠ keyf b := by omega
    simp [h1, this]
  · by_cases h2 : keyf b < keyf a
    · have : keyf a ≠ keyf b := by omega
      simp [h1, h2, this]
    · have : keyf a = keyf b := by omega
      simp [this]
theorem rproper_eq {a : Nat} (ha : a < 18446744073709551616) : moietyref01_Proper a = some (decide (a = canon a)) := by
  unfold moietyref01_Proper
  rw [rnone_eq ha]
  unfold canon NANB
  by_cases h : isn a
  · by_cases h2 : a = 9221120237041090561
    · simp [h, h2]
    · have : (a : Int) ≠ 9221120237041090561 := by omega
      simp [h, h2, this]
  · simp [h]
end Go.CL

/- Small things that all plain laws use. -/
set_option linter.unusedVariables false
set_option linter.unusedSimpArgs false
namespace Go.CL
open Go

theorem wr {x : Int} (h1 : -9223372036854775808 ≤ x) (h2 : x ≤ 9223372036854775807) : IntKind.i64.wrap x = x := by
  rw [IntKind.wrap_i64]; omega
theorem wr1 {i : Nat} (h : i < 9223372036854775807) : IntKind.i64.wrap ((i : Int) + 1) = ((i + 1 : Nat) : Int) := by
  rw [wr (by omega) (by omega)]; omega
theorem wrapu (n : Int) : IntKind.u64.wrap n = n % 18446744073709551616 := by simp [IntKind.wrap, IntKind.bits, IntKind.signed]
theorem wru {x : Int} (h1 : 0 ≤ x) (h2 : x < 18446744073709551616) : IntKind.u64.wrap x = x := by rw [wrapu]; omega
theorem wrm {i : Nat} (h : i < 9223372036854775807) (h0 : 0 < i) : IntKind.i64.wrap ((i : Int) - 1) = ((i - 1 : Nat) : Int) := by
  rw [wr (by omega) (by omega)]; omega
theorem idxn {α : Type} (xs : List α) (i : Nat) : idx xs (i : Int) = xs[i]? := by
  unfold idx
  rw [if_pos (by omega)]
  simp
theorem idx_lt {α : Type} {xs : List α} {i : Nat} (h : i < xs.length) : idx xs (i : Int) = some xs[i] := by
  rw [idxn, List.getElem?_eq_getElem h]
theorem gd_t {β : Type} [Inhabited β] (x : Option β) : gd true x = x := rfl
theorem gd_f {β : Type} [Inhabited β] (x : Option β) : gd false x = some default := rfl
theorem cut_some {α : Type} {xs : List α} {l h : Nat} (h1 : l ≤ h) (h2 : h ≤ xs.length) : cut xs (l : Int) (h : Int) = some ((xs.drop l).take (h - l)) := by
  unfold cut
  rw [if_pos (by omega)]
  simp
/-! ### texts -/
theorem toList_inj {a b : ByteArray} (h : a.toList = b.toList) : a = b := by
  rw [_root_.Go.ByteArray.toList_eq, _root_.Go.ByteArray.toList_eq] at h
  exact ByteArray.ext (Array.toList_inj.1 h)
theorem sEq_iff {a b : ByteArray} : sEq a b = true ↔ a = b := by
  unfold sEq
  constructor
  · intro h; exact toList_inj (by simpa using h)
  · rintro rfl; simp
theorem sEq_self (a : ByteArray) : sEq a a = true := sEq_iff.2 rfl
theorem sEq_ne {a b : ByteArray} : sEq a b = false ↔ a ≠ b := by
  cases h : sEq a b
  · simp; intro e; rw [sEq_iff.2 e] at h; cases h
  · simp; exact sEq_iff.1 h
theorem bl_irr : ∀ l : List UInt8, Op.bytesLess l l = false
  | [] => rfl
  | x :: l => by simp [Op.bytesLess, bl_irr l]
theorem bl_trans : ∀ {a b c : List UInt8}, Op.bytesLess a b = true → Op.bytesLess b c = true → Op.bytesLess a c = true
  | [], [], c, h, _ => by simp [Op.bytesLess] at h
  | [], y :: b, [], _, k => by simp [Op.bytesLess] at k
  | [], y :: b, z :: c, _, _ => rfl
  | x :: a, [], c, h, _ => by simp [Op.bytesLess] at h
  | x :: a, y :: b, [], _, k => by simp [Op.bytesLess] at k
  | x :: a, y :: b, z :: c, h, k => by
    simp only [Op.bytesLess, Bool.or_eq_true, Bool.and_eq_true, decide_eq_true_eq, beq_iff_eq] at h k ⊢
    rcases h with h | ⟨h1, h2⟩ <;> rcases k with k | ⟨k1, k2⟩
    · exact .inl (UInt8.lt_trans h k)
    · subst k1; exact .inl h
    · subst h1; exact .inl k
    · subst h1; subst k1; exact .inr ⟨rfl, bl_trans h2 k2⟩
theorem bl_tri : ∀ (a b : List UInt8), Op.bytesLess a b = false → a ≠ b → Op.bytesLess b a = true
  | [], [], _, h => absurd rfl h
  | [], y :: b, h, _ => by simp [Op.bytesLess] at h
  | x :: a, [], _, _ => rfl
  | x :: a, y :: b, h, hn => by
    simp only [Op.bytesLess, Bool.or_eq_false_iff, decide_eq_false_iff_not, Bool.and_eq_false_iff] at h
    simp only [Op.bytesLess, Bool.or_eq_true, Bool.and_eq_true, decide_eq_true_eq, beq_iff_eq]
    by_cases e : x = y
    · subst e
      right
      refine ⟨rfl, bl_tri a b ?_ (fun h' => hn (by rw [h']))⟩
      rcases h.2 with h | h
      · simp at h
      · exact h
    · left
      rcases UInt8.lt_or_lt_of_ne e with h' | h'
      · exact absurd h' h.1
      · exact h'
theorem sLt_irr (a : ByteArray) : sLt a a = false := bl_irr _
theorem sLt_trans {a b c : ByteArray} (h : sLt a b = true) (k : sLt b c = true) : sLt a c = true := bl_trans h k
theorem sLt_tri {a b : ByteArray} (h : sLt a b = false) (hn : a ≠ b) : sLt b a = true := bl_tri _ _ h (fun e => hn (toList_inj e))
theorem sLt_asym {a b : ByteArray} (h : sLt a b = true) : sLt b a = false := by
  cases k : sLt b a
  · rfl
  · have := sLt_trans h k
    rw [sLt_irr] at this; cases this
theorem sLt_ne {a b : ByteArray} (h : sLt a b = true) : a ≠ b := fun e => by subst e; rw [sLt_irr] at h; cases h
end Go.CL

/- rec (the program's) and moietyref03 (the document's): records that may be; the same records. -/
set_option linter.unusedVariables false
set_option linter.unusedSimpArgs false
namespace Go.CL
open Go

abbrev W64 : Nat := 18446744073709551616
/-- A record as it may come in: its floats are words; its list is no longer than memory. -/
structure RecOk (a : api_Record) : Prop where
  real : a.Real < W64
  len : a.List.length < 4611686018427387904
  sc : ∀ e ∈ a.List, e.Score < W64

def betterB (a b : api_Item) : Bool := if keyf a.Score = keyf b.Score then sLt a.Name b.Name else decide (keyf b.Score < keyf a.Score)
theorem better_eq {a b : api_Item} (ha : a.Score < W64) (hb : b.Score < W64) : rec_Better a b = some (betterB a b) := by
  unfold rec_Better betterB
  rw [same_eq ha hb, less_eq hb ha]
  by_cases h : keyf a.Score = keyf b.Score <;> simp [h]
theorem ahead_eq {a b : api_Item} (ha : a.Score < W64) (hb : b.Score < W64) : moietyref03_Ahead a b = some (betterB a b) := by
  unfold moietyref03_Ahead betterB
  rw [rless_eq hb ha, rsame_eq ha hb]
  by_cases h : keyf a.Score = keyf b.Score
  · simp [h]
  · by_cases h2 : keyf b.Score < keyf a.Score <;> simp [h, h2]
theorem zero_eq {a : Nat} (ha : a < W64) : moietyref03_zero a = some (decide (keyf a = keyf 0)) := by
  unfold moietyref03_zero
  rw [rsame_eq ha (by decide)]
  rfl
/-- What an item at a place is told: 0, or an error. -/
def itemC (k : Int) (l : List api_Item) (i : Nat) : Int :=
  match l[i]? with
  | none => 0
  | some x =>
    let p := (l[i - 1]?).getD default
    if (16 : Int) < x.Name.size then 3
    else if (k = 8 ∧ keyf x.Score ≠ keyf 0) ∨ x.Score ≠ canon x.Score then 4
    else if 0 < i ∧ k = 8 ∧ sLt p.Name x.Name = false then 4
    else if 0 < i ∧ k = 9 ∧ betterB p x = false then 4
    else 0
theorem item_step {k : Int} {l : List api_Item} {i n : Nat} (hi : i < l.length) (hl : l.length < 4611686018427387904) (hs : ∀ e ∈ l, e.Score < W64) :
    rec_items_l1 k l (n + 1) (i : Int) = if itemC k l i = 0 then rec_items_l1 k l n ((i + 1 : Nat) : Int) else some (.inl (itemC k l i)) := by
  have hx : l[i].Score < W64 := hs _ (List.getElem_mem hi)
  rw [rec_items_l1, if_pos (by simp; omega), idx_lt hi, wr1 (by omega)]
  simp only [Option.bind_some]
  rw [same_eq hx (by decide), proper_eq hx]
  simp only [itemC, List.getElem?_eq_getElem hi]
  by_cases h1 : (16 : Int) < l[i].Name.size
  · simp [h1]
  · simp only [h1, decide_false, if_false, Bool.false_eq_true]
    have hz : ((0 : Nat) : Int) = 0 := rfl
    by_cases h0 : 0 < i
    · have hp : i - 1 < l.length := by omega
      have hps : l[i - 1].Score < W64 := hs _ (List.getElem_mem hp)
      have hd : (decide ((0 : Int) < (i : Int))) = true := by simp; omega
      rw [hd, wrm (by omega) h0, idx_lt hp]
      simp only [List.getElem?_eq_getElem hp, Option.getD_some, h0, true_and, Bool.true_and]
      by_cases h8 : k = 8
      · subst h8
        simp only [beq_self_eq_true, gd_t, Option.bind_some, true_and, Bool.true_and]
        by_cases hk : keyf l[i].Score = keyf 0
        · by_cases hc : l[i].Score = canon l[i].Score
          · simp [hk, ← hc, gd]
            cases sLt l[i - 1].Name l[i].Name <;> simp
          · simp [hk, hc, gd]
        · simp [hk, gd]
      · have h8' : (k == 8) = false := by simpa using h8
        simp only [h8', h8, gd_f, gd_t, Option.bind_some, false_and, false_or, Bool.false_and, Bool.not_false, Bool.false_or]
        by_cases hc : l[i].Score = canon l[i].Score
        · by_cases h9 : k = 9
          · subst h9
            simp [← hc, gd, better_eq hps hx]
            cases betterB l[i - 1] l[i] <;> simp
          · simp [← hc, gd, h9]
        · simp [hc]
    · have h00 : i = 0 := by omega
      subst h00
      simp only [Nat.lt_irrefl, false_and, if_false, Int.ofNat_zero, Int.lt_irrefl, decide_false, Bool.false_and, gd_f, Option.bind_some, Int.natCast_zero]
      by_cases h8 : k = 8
      · subst h8
        simp only [beq_self_eq_true, gd_t, Option.bind_some, true_and, Bool.true_and]
        by_cases hk : keyf l[0].Score = keyf 0
        · by_cases hc : l[0].Score = canon l[0].Score
          · simp [hk, ← hc, gd]
          · simp [hk, hc, gd]
        · simp [hk, gd]
      · have h8' : (k == 8) = false := by simpa using h8
        simp only [h8', h8, gd_f, gd_t, Option.bind_some, false_and, false_or, Bool.false_and, Bool.not_false, Bool.false_or]
        by_cases hc : l[0].Score = canon l[0].Score
        · simp [← hc, gd]
        · simp [hc]
theorem ritem_eq {k : Int} {l : List api_Item} {i : Nat} (hi : i < l.length) (hl : l.length < 4611686018427387904) (hs : ∀ e ∈ l, e.Score < W64) : moietyref03_item k l (i : Int) = some (itemC k l i) := by
  have hx : l[i].Score < W64 := hs _ (List.getElem_mem hi)
  unfold moietyref03_item
  rw [idx_lt hi]
  simp only [Option.bind_some]
  rw [zero_eq hx, rproper_eq hx]
  simp only [itemC, List.getElem?_eq_getElem hi]
  by_cases h1 : (16 : Int) < l[i].Name.size
  · simp [h1]
  · simp only [h1, decide_false, if_false, Bool.false_eq_true]
    by_cases h0 : 0 < i
    · have hp : i - 1 < l.length := by omega
      have hps : l[i - 1].Score < W64 := hs _ (List.getElem_mem hp)
      have hd : (decide ((0 : Int) < (i : Int))) = true := by simp; omega
      rw [hd, wrm (by omega) h0, idx_lt hp]
      simp only [List.getElem?_eq_getElem hp, Option.getD_some, h0, true_and, Bool.true_and]
      by_cases h8 : k = 8
      · subst h8
        simp only [beq_self_eq_true, gd_t, Option.bind_some, true_and, Bool.true_and]
        by_cases hk : keyf l[i].Score = keyf 0
        · by_cases hc : l[i].Score = canon l[i].Score
          · simp [hk, ← hc, gd]
            cases sLt l[i - 1].Name l[i].Name <;> simp
          · simp [hk, hc, gd]
        · simp [hk, gd]
      · have h8' : (k == 8) = false := by simpa using h8
        simp only [h8', h8, gd_f, gd_t, Option.bind_some, false_and, false_or, Bool.false_and, Bool.not_false, Bool.false_or]
        by_cases hc : l[i].Score = canon l[i].Score
        · by_cases h9 : k = 9
          · subst h9
            simp [← hc, gd, ahead_eq hps hx]
            cases betterB l[i - 1] l[i] <;> simp
          · simp [← hc, gd, h9]
        · simp [hc]
    · have h00 : i = 0 := by omega
      subst h00
      simp only [Nat.lt_irrefl, false_and, if_false, Int.ofNat_zero, Int.lt_irrefl, decide_false, Bool.false_and, gd_f, Option.bind_some, Int.natCast_zero]
      by_cases h8 : k = 8
      · subst h8
        simp only [beq_self_eq_true, gd_t, Option.bind_some, true_and, Bool.true_and]
        by_cases hk : keyf l[0].Score = keyf 0
        · by_cases hc : l[0].Score = canon l[0].Score
          · simp [hk, ← hc, gd]
          · simp [hk, hc, gd]
        · simp [hk, gd]
      · have h8' : (k == 8) = false := by simpa using h8
        simp only [h8', h8, gd_f, gd_t, Option.bind_some, false_and, false_or, Bool.false_and, Bool.not_false, Bool.false_or]
        by_cases hc : l[0].Score = canon l[0].Score
        · simp [← hc, gd]
        · simp [hc]
end Go.CL

/- rec.Check = moietyref03.Check; rec.Same = moietyref03.Same; which records are too big to be looked at. -/
set_option linter.unusedVariables false
set_option linter.unusedSimpArgs false
namespace Go.CL
open Go

def firstC (k : Int) (l : List api_Item) : Nat → Nat → Int
  | _, 0 => 0
  | i, n + 1 => if itemC k l i = 0 then firstC k l (i + 1) n else itemC k l i
def endC (c : Int) : Int ⊕ Unit := if c = 0 then .inr () else .inl c
theorem firstC_z {k : Int} {l : List api_Item} {i n : Nat} (h : itemC k l i = 0) : firstC k l i (n + 1) = firstC k l (i + 1) n := by simp [firstC, h]
theorem firstC_e {k : Int} {l : List api_Item} {i n : Nat} (h : ¬ itemC k l i = 0) : firstC k l i (n + 1) = itemC k l i := by simp [firstC, h]
theorem endC_e {c : Int} (h : ¬ c = 0) : endC c = .inl c := if_neg h
theorem items_loop {k : Int} {l : List api_Item} (hl : l.length < 4611686018427387904) (hs : ∀ e ∈ l, e.Score < W64) : ∀ (n i : Nat), i + n = l.length →
    rec_items_l1 k l (n + 1) (i : Int) = some (endC (firstC k l i n))
  | 0, i, h => by
    rw [rec_items_l1, if_neg (by simp; omega)]
    rfl
  | n + 1, i, h => by
    rw [item_step (by omega) hl hs]
    by_cases hc : itemC k l i = 0
    · rw [if_pos hc, firstC_z hc, items_loop hl hs n (i + 1) (by omega)]
    · rw [if_neg hc, firstC_e hc, endC_e hc]
theorem items_eq {k : Int} {l : List api_Item} (hl : l.length < 4611686018427387904) (hs : ∀ e ∈ l, e.Score < W64) : rec_items k l = some (firstC k l 0 l.length) := by
  unfold rec_items
  rw [show (Int.toNat ((l.length : Int) - (0 : Int)) + 1) = l.length + 1 by omega, show (0 : Int) = ((0 : Nat) : Int) from rfl, items_loop hl hs l.length 0 (by omega)]
  unfold endC
  by_cases h : firstC k l 0 l.length = 0 <;> simp [h]
theorem ritems_loop {a : api_Record} (ha : RecOk a) : ∀ (n i : Nat), i + n = a.List.length →
    moietyref03_Check_l1 a (n + 1) (i : Int) = some (endC (firstC a.Kind a.List i n))
  | 0, i, h => by
    rw [moietyref03_Check_l1, if_neg (by simp; omega)]
    rfl
  | n + 1, i, h => by
    have hl := ha.len
    rw [moietyref03_Check_l1, if_pos (by simp; omega), ritem_eq (by omega) hl ha.sc, wr1 (by omega)]
    simp only [Option.bind_some]
    by_cases hc : itemC a.Kind a.List i = 0
    · rw [if_neg (by simp [hc]), firstC_z hc, ritems_loop ha n (i + 1) (by omega)]
    · rw [if_pos (by simp [hc]), firstC_e hc, endC_e hc]
def onlyB (t n b r l : Bool) (a : api_Record) : Bool := (t || sEq a.Text ⟨#[]⟩) && (n || a.Num == 0) && (b || (a.Low == 0 && a.High == 0)) && (r || decide (keyf a.Real = keyf 0)) && (l || (a.Cap == 0 && (a.List.length : Int) == 0))
theorem bare_eq {a : api_Record} (ha : RecOk a) (t n b r l : Bool) : rec_bare a ⟨t, n, b, r, l⟩ = some (onlyB t n b r l a) := by
  unfold rec_bare onlyB
  rw [same_eq ha.real (by decide)]
  simp only
  generalize sEq a.Text ⟨#[]⟩ = x1
  generalize (a.Num == 0) = x2
  generalize (a.Low == 0) = x3
  generalize (a.High == 0) = x4
  generalize decide (keyf a.Real = keyf 0) = x5
  generalize (a.Cap == 0) = x6
  generalize ((a.List.length : Int) == 0) = x7
  revert t n b r l x1 x2 x3 x4 x5 x6 x7
  decide
theorem only_eq {a : api_Record} (ha : RecOk a) {s : ByteArray} {t n b r l : Bool} (h : moietyref03_only_l1 s (Int.toNat ((s.size : Int) - (0 : Int)) + 1) false false false false false 0 = some (t, n, b, r, l)) : moietyref03_only a s = some (onlyB t n b r l a) := by
  unfold moietyref03_only onlyB
  rw [h, zero_eq ha.real]
  simp only [Option.bind_some, bne]
  generalize sEq a.Text ⟨#[]⟩ = x1
  generalize (a.Num == 0) = x2
  generalize (a.Low == 0) = x3
  generalize (a.High == 0) = x4
  generalize decide (keyf a.Real = keyf 0) = x5
  generalize (a.Cap == 0) = x6
  generalize ((a.List.length : Int) == 0) = x7
  clear h
  revert t n b r l x1 x2 x3 x4 x5 x6 x7
  decide
theorem onl_t : moietyref03_only_l1 ⟨#[116]⟩ (Int.toNat (((⟨#[116]⟩ : ByteArray).size : Int) - (0 : Int)) + 1) false false false false false 0 = some (true, false, false, false, false) := by kernel_rfl
theorem onl_n : moietyref03_only_l1 ⟨#[110]⟩ (Int.toNat (((⟨#[110]⟩ : ByteArray).size : Int) - (0 : Int)) + 1) false false false false false 0 = some (false, true, false, false, false) := by kernel_rfl
theorem onl_nb : moietyref03_only_l1 ⟨#[110, 98]⟩ (Int.toNat (((⟨#[110, 98]⟩ : ByteArray).size : Int) - (0 : Int)) + 1) false false false false false 0 = some (false, true, true, false, false) := by kernel_rfl
theorem onl_r : moietyref03_only_l1 ⟨#[114]⟩ (Int.toNat (((⟨#[114]⟩ : ByteArray).size : Int) - (0 : Int)) + 1) false false false false false 0 = some (false, false, false, true, false) := by kernel_rfl
theorem onl_l : moietyref03_only_l1 ⟨#[108]⟩ (Int.toNat (((⟨#[108]⟩ : ByteArray).size : Int) - (0 : Int)) + 1) false false false false false 0 = some (false, false, false, false, true) := by kernel_rfl
def checkD (t n b r l : Bool) (a : api_Record) : Int :=
  if onlyB t n b r l a = false then 4
  else if (64 : Int) < a.Text.size then 3
  else if b = true ∧ (a.Low < -2305843009213693952 ∨ 2305843009213693952 < a.High ∨ a.Num < a.Low ∨ a.High < a.Num) then 1
  else if a.Real ≠ canon a.Real then 4
  else if l = false then 0
  else if a.Cap < 1 ∨ 32 < a.Cap then 1
  else if a.Cap < a.List.length then 8
  else firstC a.Kind a.List 0 a.List.length
theorem check_shape {a : api_Record} (ha : RecOk a) {t n b r l : Bool} (hk : ¬ (a.Kind ≤ 0 ∨ 10 ≤ a.Kind)) (hs : rec_shaped a.Kind = some ⟨t, n, b, r, l⟩) : rec_Check a = some (checkD t n b r l a) := by
  unfold rec_Check checkD
  rw [hs]
  simp only [Option.bind_some]
  rw [bare_eq ha, proper_eq ha.real, items_eq ha.len ha.sc]
  simp only [Option.bind_some]
  rw [if_neg (by simpa using hk)]
  by_cases h1 : onlyB t n b r l a = false
  · rw [if_pos h1, if_pos (by simp [h1])]
  · rw [if_neg h1, if_neg (by simpa using h1)]
    by_cases h2 : (64 : Int) < a.Text.size
    · rw [if_pos h2, if_pos (by simpa using h2)]
    · rw [if_neg h2, if_neg (by simpa using h2)]
      by_cases h3 : b = true ∧ (a.Low < -2305843009213693952 ∨ 2305843009213693952 < a.High ∨ a.Num < a.Low ∨ a.High < a.Num)
      · rw [if_pos h3, if_pos (by simpa [or_assoc] using h3)]
      · rw [if_neg h3, if_neg (by simpa [or_assoc] using h3)]
        by_cases h4 : a.Real = canon a.Real
        · rw [if_neg (show ¬ (a.Real ≠ canon a.Real) from fun h => h h4), decide_eq_true h4]
          simp only [Bool.not_true, Bool.false_eq_true, if_false]
          cases l
          · simp
          · simp only [Bool.not_true, Bool.false_eq_true, if_false, Bool.true_eq_false]
            by_cases h5 : a.Cap < 1 ∨ 32 < a.Cap
            · rw [if_pos h5, if_pos (by simpa using h5)]
            · rw [if_neg h5, if_neg (by simpa using h5)]
              by_cases h6 : a.Cap < a.List.length
              · rw [if_pos h6, if_pos (by simpa using h6)]
              · rw [if_neg h6, if_neg (by simpa using h6)]
        · rw [if_pos (show a.Real ≠ canon a.Real from h4), decide_eq_false h4]
          rfl
theorem shape1 : rec_shaped 1 = some ⟨true, false, false, false, false⟩ := by kernel_rfl
theorem shape2 : rec_shaped 2 = some ⟨false, true, false, false, false⟩ := by kernel_rfl
theorem shape3 : rec_shaped 3 = some ⟨false, true, false, false, false⟩ := by kernel_rfl
theorem shape4 : rec_shaped 4 = some ⟨false, true, true, false, false⟩ := by kernel_rfl
theorem shape5 : rec_shaped 5 = some ⟨false, false, false, true, false⟩ := by kernel_rfl
theorem shape6 : rec_shaped 6 = some ⟨false, false, false, true, false⟩ := by kernel_rfl
theorem shape7 : rec_shaped 7 = some ⟨false, false, false, true, false⟩ := by kernel_rfl
theorem shape8 : rec_shaped 8 = some ⟨false, false, false, false, true⟩ := by kernel_rfl
theorem shape9 : rec_shaped 9 = some ⟨false, false, false, false, true⟩ := by kernel_rfl
/-- .. and the document's. -/
def rcheckD (t n b r l : Bool) (k : Int) (a : api_Record) : Int :=
  if onlyB t n b r l a = false then 4
  else if k = 1 ∧ (64 : Int) < a.Text.size then 3
  else if k = 4 ∧ (a.Low < -2305843009213693952 ∨ 2305843009213693952 < a.High ∨ a.Num < a.Low ∨ a.High < a.Num) then 1
  else if a.Real ≠ canon a.Real then 4
  else if k < 8 then 0
  else if a.Cap < 1 ∨ 32 < a.Cap then 1
  else if a.Cap < a.List.length then 8
  else firstC a.Kind a.List 0 a.List.length
theorem rcheck_shape {a : api_Record} (ha : RecOk a) {t n b r l : Bool} {s : ByteArray} (hk : ¬ (a.Kind < 1 ∨ 9 < a.Kind)) (hf : moietyref03_Fields a.Kind = some s)
    (ho : moietyref03_only_l1 s (Int.toNat ((s.size : Int) - (0 : Int)) + 1) false false false false false 0 = some (t, n, b, r, l)) : moietyref03_Check a = some (rcheckD t n b r l a.Kind a) := by
  unfold moietyref03_Check rcheckD
  have hw : IntKind.i64.wrap (0 - (2305843009213693952 : Int)) = -2305843009213693952 := by decide
  rw [hf, rproper_eq ha.real, hw, show (Int.toNat ((a.List.length : Int) - (0 : Int)) + 1) = a.List.length + 1 by omega]
  have hloop := ritems_loop ha a.List.length 0 (by omega)
  rw [show ((0 : Nat) : Int) = 0 from rfl] at hloop
  rw [hloop]
  simp only [Option.bind_some]
  rw [if_neg (by simpa using hk), only_eq ha ho]
  simp only [Option.bind_some]
  by_cases h1 : onlyB t n b r l a = false
  · rw [if_pos h1, if_pos (by simp [h1])]
  · rw [if_neg h1, if_neg (by simpa using h1)]
    by_cases h2 : a.Kind = 1 ∧ (64 : Int) < a.Text.size
    · rw [if_pos h2, if_pos (by simpa using h2)]
    · rw [if_neg h2, if_neg (by simpa using h2)]
      by_cases h3 : a.Kind = 4 ∧ (a.Low < -2305843009213693952 ∨ 2305843009213693952 < a.High ∨ a.Num < a.Low ∨ a.High < a.Num)
      · rw [if_pos h3, if_pos (by simpa [or_assoc] using h3)]
      · rw [if_neg h3, if_neg (by simpa [or_assoc] using h3)]
        by_cases h4 : a.Real = canon a.Real
        · rw [if_neg (show ¬ (a.Real ≠ canon a.Real) from fun h => h h4), decide_eq_true h4]
          simp only [Bool.not_true, Bool.false_eq_true, if_false]
          by_cases h7 : a.Kind < 8
          · rw [if_pos h7, if_pos (by simpa using h7)]
          · rw [if_neg h7, if_neg (by simpa using h7)]
            by_cases h5 : a.Cap < 1 ∨ 32 < a.Cap
            · rw [if_pos h5, if_pos (by simpa using h5)]
            · rw [if_neg h5, if_neg (by simpa using h5)]
              by_cases h6 : a.Cap < a.List.length
              · rw [if_pos h6, if_pos (by simpa using h6)]
              · rw [if_neg h6, if_neg (by simpa using h6)]
                unfold endC
                by_cases h : firstC a.Kind a.List 0 a.List.length = 0 <;> simp [h]
        · rw [if_pos (show a.Real ≠ canon a.Real from h4), decide_eq_false h4]
          rfl
theorem text_of {t n b r l : Bool} {a : api_Record} (h : ¬ onlyB t n b r l a = false) (ht : t = false) : a.Text.size = 0 := by
  subst ht
  have : onlyB false n b r l a = true := by simpa using h
  unfold onlyB at this
  simp only [Bool.false_or, Bool.and_eq_true] at this
  have := sEq_iff.1 this.1.1.1.1
  rw [this]; rfl
theorem D_eq (t n b r l : Bool) (k : Int) (a : api_Record) (ht : t = true ↔ k = 1) (hb : b = true ↔ k = 4) (hl : l = false ↔ k < 8) : rcheckD t n b r l k a = checkD t n b r l a := by
  unfold rcheckD checkD
  by_cases h1 : onlyB t n b r l a = false
  · rw [if_pos h1, if_pos h1]
  · rw [if_neg h1, if_neg h1]
    have e2 : (k = 1 ∧ (64 : Int) < a.Text.size) ↔ (64 : Int) < a.Text.size := by
      constructor
      · exact fun h => h.2
      · intro h
        refine ⟨ht.1 ?_, h⟩
        cases t
        · have := text_of h1 rfl; omega
        · rfl
    simp only [e2, hb, hl]
/-- **May a record be: the program says what the document says.** -/
theorem check_both {a : api_Record} (ha : RecOk a) : ∃ c, rec_Check a = some c ∧ moietyref03_Check a = some c := by
  by_cases hk : a.Kind ≤ 0 ∨ 10 ≤ a.Kind
  · refine ⟨5, ?_, ?_⟩
    · unfold rec_Check
      have hs : ∃ s, rec_shaped a.Kind = some s := by
        have h1 : ¬ a.Kind = 1 := by omega
        have h2 : ¬ a.Kind = 2 := by omega
        have h3 : ¬ a.Kind = 3 := by omega
        have h4 : ¬ a.Kind = 4 := by omega
        have h5 : ¬ a.Kind = 5 := by omega
        have h6 : ¬ a.Kind = 6 := by omega
        have h7 : ¬ a.Kind = 7 := by omega
        have h8 : ¬ a.Kind = 8 := by omega
        have h9 : ¬ a.Kind = 9 := by omega
        exact ⟨⟨false, false, false, false, false⟩, by simp [rec_shaped, rec_shaped_j1, rec_shaped_j2, rec_shaped_j3, h1, h2, h3, h4, h5, h6, h7, h8, h9]⟩
      obtain ⟨s, hs⟩ := hs
      rw [hs]
      simp only [Option.bind_some]
      rw [if_pos (by simpa using hk)]
    · unfold moietyref03_Check
      rw [if_pos (by simp; omega)]
  · have hk2 : ¬ (a.Kind < 1 ∨ 9 < a.Kind) := by omega
    have hk' : a.Kind = 1 ∨ a.Kind = 2 ∨ a.Kind = 3 ∨ a.Kind = 4 ∨ a.Kind = 5 ∨ a.Kind = 6 ∨ a.Kind = 7 ∨ a.Kind = 8 ∨ a.Kind = 9 := by omega
    rcases hk' with h | h | h | h | h | h | h | h | h
    · exact ⟨_, check_shape ha hk (by rw [h]; exact shape1), by rw [rcheck_shape ha hk2 (by rw [h]; kernel_rfl) onl_t, D_eq _ _ _ _ _ _ _ (by simp [h]) (by simp [h]) (by simp [h])]⟩
    · exact ⟨_, check_shape ha hk (by rw [h]; exact shape2), by rw [rcheck_shape ha hk2 (by rw [h]; kernel_rfl) onl_n, D_eq _ _ _ _ _ _ _ (by simp [h]) (by simp [h]) (by simp [h])]⟩
    · exact ⟨_, check_shape ha hk (by rw [h]; exact shape3), by rw [rcheck_shape ha hk2 (by rw [h]; kernel_rfl) onl_n, D_eq _ _ _ _ _ _ _ (by simp [h]) (by simp [h]) (by simp [h])]⟩
    · exact ⟨_, check_shape ha hk (by rw [h]; exact shape4), by rw [rcheck_shape ha hk2 (by rw [h]; kernel_rfl) onl_nb, D_eq _ _ _ _ _ _ _ (by simp [h]) (by simp [h]) (by simp [h])]⟩
    · exact ⟨_, check_shape ha hk (by rw [h]; exact shape5), by rw [rcheck_shape ha hk2 (by rw [h]; kernel_rfl) onl_r, D_eq _ _ _ _ _ _ _ (by simp [h]) (by simp [h]) (by simp [h])]⟩
    · exact ⟨_, check_shape ha hk (by rw [h]; exact shape6), by rw [rcheck_shape ha hk2 (by rw [h]; kernel_rfl) onl_r, D_eq _ _ _ _ _ _ _ (by simp [h]) (by simp [h]) (by simp [h])]⟩
    · exact ⟨_, check_shape ha hk (by rw [h]; exact shape7), by rw [rcheck_shape ha hk2 (by rw [h]; kernel_rfl) onl_r, D_eq _ _ _ _ _ _ _ (by simp [h]) (by simp [h]) (by simp [h])]⟩
    · exact ⟨_, check_shape ha hk (by rw [h]; exact shape8), by rw [rcheck_shape ha hk2 (by rw [h]; kernel_rfl) onl_l, D_eq _ _ _ _ _ _ _ (by simp [h]) (by simp [h]) (by simp [h])]⟩
    · exact ⟨_, check_shape ha hk (by rw [h]; exact shape9), by rw [rcheck_shape ha hk2 (by rw [h]; kernel_rfl) onl_l, D_eq _ _ _ _ _ _ _ (by simp [h]) (by simp [h]) (by simp [h])]⟩
end Go.CL

/- The same records: rec.Same = moietyref03.Same; what is too big. -/
set_option linter.unusedVariables false
set_option linter.unusedSimpArgs false
namespace Go.CL
open Go

def endB : Bool → Bool ⊕ Unit
  | true => .inr ()
  | false => .inl false
def eqI (x y : api_Item) : Bool := sEq x.Name y.Name && decide (keyf x.Score = keyf y.Score)
def eqL : List api_Item → List api_Item → Bool
  | [], [] => true
  | x :: xs, y :: ys => eqI x y && eqL xs ys
  | _, _ => false
def sameR (a b : api_Record) : Bool := (a.Kind == b.Kind) && (a.Num == b.Num) && (a.Low == b.Low) && (a.High == b.High) && decide (keyf a.Real = keyf b.Real) && (a.Cap == b.Cap) && sEq a.Text b.Text && eqL a.List b.List
theorem eqL_len : ∀ {a b : List api_Item}, eqL a b = true → a.length = b.length
  | [], [], _ => rfl
  | x :: xs, y :: ys, h => by
    simp only [eqL, Bool.and_eq_true] at h
    simp [eqL_len h.2]
  | [], _ :: _, h => by simp [eqL] at h
  | _ :: _, [], h => by simp [eqL] at h
theorem same1_eq {x y : api_Item} (hx : x.Score < W64) (hy : y.Score < W64) : rec_Same_1 x y = some (eqI x y) := by
  unfold rec_Same_1 eqI
  rw [same_eq hx hy]
  cases sEq x.Name y.Name <;> simp [gd]
theorem eqf_loop {a b : List api_Item} (ha : ∀ e ∈ a, e.Score < W64) (hb : ∀ e ∈ b, e.Score < W64) (hl : a.length < 4611686018427387904) (he : a.length = b.length) : ∀ (n i : Nat), i + n = a.length →
    slices_EqualFunc_api_Item_api_Item_api_Item_api_Item_l1 a b (fun y0 y1 => rec_Same_1 y0 y1) (n + 1) (i : Int) = some (endB (eqL (a.drop i) (b.drop i)))
  | 0, i, h => by
    rw [slices_EqualFunc_api_Item_api_Item_api_Item_api_Item_l1, if_neg (by simp; omega), List.drop_of_length_le (by omega), List.drop_of_length_le (by omega)]
    rfl
  | n + 1, i, h => by
    have h1 : i < a.length := by omega
    have h2 : i < b.length := by omega
    rw [slices_EqualFunc_api_Item_api_Item_api_Item_api_Item_l1, if_pos (by simp; omega), idx_lt h1, idx_lt h2, wr1 (by omega)]
    simp only [Option.bind_some]
    rw [same1_eq (ha _ (List.getElem_mem h1)) (hb _ (List.getElem_mem h2)), List.drop_eq_getElem_cons h1, List.drop_eq_getElem_cons h2]
    simp only [Option.bind_some, eqL]
    cases hq : eqI a[i] b[i]
    · simp [endB]
    · simp only [Bool.not_true, Bool.false_eq_true, if_false, Bool.true_and]
      exact eqf_loop ha hb hl he n (i + 1) (by omega)
theorem eqf_eq {a b : List api_Item} (ha : ∀ e ∈ a, e.Score < W64) (hb : ∀ e ∈ b, e.Score < W64) (hl : a.length < 4611686018427387904) : slices_EqualFunc_api_Item_api_Item_api_Item_api_Item a b (fun y0 y1 => rec_Same_1 y0 y1) = some (eqL a b) := by
  unfold slices_EqualFunc_api_Item_api_Item_api_Item_api_Item
  by_cases he : a.length = b.length
  · rw [if_neg (by simp; omega), show (Int.toNat ((a.length : Int) - (0 : Int)) + 1) = a.length + 1 by omega]
    have := eqf_loop ha hb hl he a.length 0 (by omega)
    rw [show ((0 : Nat) : Int) = 0 from rfl] at this
    rw [this]
    simp only [List.drop_zero]
    cases eqL a b <;> simp [endB]
  · rw [if_pos (by simp; omega)]
    cases h : eqL a b
    · rfl
    · exact absurd (eqL_len h) he
theorem same_rec {a b : api_Record} (ha : RecOk a) (hb : RecOk b) : rec_Same a b = some (sameR a b) := by
  unfold rec_Same sameR
  rw [same_eq ha.real hb.real, eqf_eq ha.sc hb.sc ha.len]
  generalize (a.Kind == b.Kind) = x1
  generalize (a.Num == b.Num) = x2
  generalize (a.Low == b.Low) = x3
  generalize (a.High == b.High) = x4
  generalize decide (keyf a.Real = keyf b.Real) = x5
  generalize (a.Cap == b.Cap) = x6
  generalize sEq a.Text b.Text = x7
  generalize eqL a.List b.List = x8
  revert x1 x2 x3 x4 x5 x6 x7 x8
  decide
theorem rsame_loop {a b : api_Record} (ha : RecOk a) (hb : RecOk b) (he : a.List.length = b.List.length) : ∀ (n i : Nat), i + n = a.List.length →
    moietyref03_Same_l1 a b (n + 1) (i : Int) = some (endB (eqL (a.List.drop i) (b.List.drop i)))
  | 0, i, h => by
    rw [moietyref03_Same_l1, if_neg (by simp; omega), List.drop_of_length_le (by omega), List.drop_of_length_le (by omega)]
    rfl
  | n + 1, i, h => by
    have h1 : i < a.List.length := by omega
    have h2 : i < b.List.length := by omega
    have hl := ha.len
    have hs1 := ha.sc _ (List.getElem_mem h1)
    have hs2 := hb.sc _ (List.getElem_mem h2)
    rw [moietyref03_Same_l1, if_pos (by simp; omega), idx_lt h1, idx_lt h2, wr1 (by omega), List.drop_eq_getElem_cons h1, List.drop_eq_getElem_cons h2]
    simp only [Option.bind_some, eqL, eqI]
    cases hn : sEq a.List[i].Name b.List[i].Name
    · simp [gd, endB]
    · simp only [Bool.not_true, Bool.not_false, gd_t, Option.bind_some]
      rw [rsame_eq hs1 hs2]
      simp only [Option.bind_some, Bool.false_or, Bool.true_and]
      by_cases hk : keyf a.List[i].Score = keyf b.List[i].Score
      · simp only [hk, decide_true, Bool.not_true, Bool.false_eq_true, if_false, Bool.true_and]
        exact rsame_loop ha hb he n (i + 1) (by omega)
      · simp [hk, endB]
theorem rsame_rec {a b : api_Record} (ha : RecOk a) (hb : RecOk b) : moietyref03_Same a b = some (sameR a b) := by
  unfold moietyref03_Same sameR
  rw [rsame_eq ha.real hb.real]
  by_cases he : a.List.length = b.List.length
  · have := rsame_loop ha hb he a.List.length 0 (by omega)
    rw [show ((0 : Nat) : Int) = 0 from rfl] at this
    rw [show (Int.toNat ((a.List.length : Int) - (0 : Int)) + 1) = a.List.length + 1 by omega, this]
    have hn : ((a.List.length : Int) != (b.List.length : Int)) = false := by simp; omega
    rw [hn]
    simp only [List.drop_zero, bne]
    generalize (a.Kind == b.Kind) = x1
    generalize (a.Num == b.Num) = x2
    generalize (a.Low == b.Low) = x3
    generalize (a.High == b.High) = x4
    generalize decide (keyf a.Real = keyf b.Real) = x5
    generalize (a.Cap == b.Cap) = x6
    generalize sEq a.Text b.Text = x7
    generalize eqL a.List b.List = x8
    clear this hn he
    revert x1 x2 x3 x4 x5 x6 x7 x8
    decide
  · have h8 : eqL a.List b.List = false := by
      cases h : eqL a.List b.List
      · rfl
      · exact absurd (eqL_len h) he
    have hn : ((a.List.length : Int) != (b.List.length : Int)) = true := by simp; omega
    rw [hn, h8]
    simp only [bne, Bool.or_true, Option.bind_some, if_true, Bool.and_false, ite_self]
/-! ### too big -/
theorem big03_loop {a : api_Record} (hl : a.List.length ≤ 9223372036854775807) : ∀ (n i : Nat), i + n = a.List.length → ∃ z, moietylaw03_Big_l1 a (n + 1) (i : Int) = some z ∧ (z = .inl 1 ∨ z = .inr ())
  | 0, i, h => by
    rw [moietylaw03_Big_l1, if_neg (by simp; omega)]
    exact ⟨_, rfl, .inr rfl⟩
  | n + 1, i, h => by
    rw [moietylaw03_Big_l1, if_pos (by simp; omega), idx_lt (by omega), wr1 (by omega)]
    simp only [Option.bind_some]
    split
    · exact ⟨_, rfl, .inl rfl⟩
    · exact big03_loop hl n (i + 1) (by omega)
/-- Of a record that isn't too big: its list has no more than 100 items. -/
theorem big03 {a : api_Record} (hl : a.List.length ≤ 9223372036854775807) : ∃ c, moietylaw03_Big a = some c ∧ (c = 0 ∨ c = 1) ∧ (c = 0 → a.List.length ≤ 100) := by
  unfold moietylaw03_Big
  by_cases h : (100 : Int) < a.List.length ∨ (1000 : Int) < a.Text.size
  · rw [if_pos (by simpa using h)]
    exact ⟨1, rfl, .inr rfl, fun h => by cases h⟩
  · rw [if_neg (by simpa using h), show (Int.toNat ((a.List.length : Int) - (0 : Int)) + 1) = a.List.length + 1 by omega]
    obtain ⟨z, hz, hc⟩ := big03_loop hl a.List.length 0 (by omega)
    rw [show ((0 : Nat) : Int) = 0 from rfl] at hz
    rw [hz]
    rcases hc with rfl | rfl
    · exact ⟨1, rfl, .inr rfl, fun h => by cases h⟩
    · exact ⟨0, rfl, .inl rfl, fun _ => by omega⟩
end Go.CL

/- The shelf's tree is a list in order. -/
set_option linter.unusedVariables false
set_option linter.unusedSimpArgs false
namespace Go.CL
open Go

abbrev KV := ByteArray × api_Record
def toL : shelf_nodeT → List KV
  | .nil => []
  | .node k r l rr _ => toL l ++ (k, r) :: toL rr
def Szd : shelf_nodeT → Prop
  | .nil => True
  | .node k r l rr s => Szd l ∧ Szd rr ∧ s = (((toL l).length + (toL rr).length + 1 : Nat) : Int)
def Srt (l : List KV) : Prop := l.Pairwise fun p q => sLt p.1 q.1 = true
theorem count_eq {t : shelf_nodeT} (h : Szd t) : shelf_node_count t = some ((toL t).length : Int) := by
  cases t with
  | nil => rfl
  | node k r l rr s =>
    obtain ⟨_, _, h3⟩ := h
    simp [shelf_node_count, shelf_nodeT.isNil, shelf_nodeT.un, toL, h3]
    omega
theorem made_eq {k : ByteArray} {x : api_Record} {l r : shelf_nodeT} (hl : Szd l) (hr : Szd r) (bl : (toL l).length < 1099511627776) (br : (toL r).length < 1099511627776) :
    shelf_made k x l r = some (.node k x l r (((toL l).length + (toL r).length + 1 : Nat) : Int)) := by
  unfold shelf_made
  rw [count_eq hl, count_eq hr]
  simp only [Option.bind_some, shelf_node.up]
  rw [wr (x := (toL l).length + (toL r).length) (by omega) (by omega), wr (by omega) (by omega)]
  rfl
theorem made_ok {k : ByteArray} {x : api_Record} {l r : shelf_nodeT} (hl : Szd l) (hr : Szd r) (bl : (toL l).length < 1099511627776) (br : (toL r).length < 1099511627776) :
    ∃ t, shelf_made k x l r = some t ∧ Szd t ∧ toL t = toL l ++ (k, x) :: toL r := ⟨_, made_eq hl hr bl br, ⟨hl, hr, rfl⟩, rfl⟩
def heavyB (a b : shelf_nodeT) : Bool := decide (3 * ((toL b).length + 1) < (toL a).length + 1)
theorem heavy_eq {a b : shelf_nodeT} (ha : Szd a) (hb : Szd b) (ba : (toL a).length < 1099511627776) (bb : (toL b).length < 1099511627776) : shelf_heavy a b = some (heavyB a b) := by
  unfold shelf_heavy heavyB
  rw [count_eq ha, count_eq hb]
  simp only [Option.bind_some]
  rw [wr (x := ((toL b).length : Int) + 1) (by omega) (by omega), wr (x := ((toL a).length : Int) + 1) (by omega) (by omega), wr (by omega) (by omega)]
  congr 1
  apply decide_eq_decide.2
  omega
theorem nonnil {t : shelf_nodeT} (h : 0 < (toL t).length) : ∃ k r l rr s, t = .node k r l rr s := by
  cases t with
  | nil => simp [toL] at h
  | node k r l rr s => exact ⟨k, r, l, rr, s, rfl⟩
theorem even_ok {k : ByteArray} {x : api_Record} {l r : shelf_nodeT} (hl : Szd l) (hr : Szd r) (bl : (toL l).length < 1099511627776) (br : (toL r).length < 1099511627776) (bs : (toL l).length + (toL r).length + 1 < 1099511627776) :
    ∃ t, shelf_even k x l r = some t ∧ Szd t ∧ toL t = toL l ++ (k, x) :: toL r := by
  unfold shelf_even
  rw [heavy_eq hr hl br bl, heavy_eq hl hr bl br]
  simp only [Option.bind_some]
  by_cases h1 : heavyB r l = true
  · have hlen : 0 < (toL r).length := by
      unfold heavyB at h1
      have := of_decide_eq_true h1
      omega
    obtain ⟨rk, rx, rl, rr, rs, rfl⟩ := nonnil hlen
    obtain ⟨s1, s2, s3⟩ := hr
    have e : (toL (shelf_nodeT.node rk rx rl rr rs)).length = (toL rl).length + (toL rr).length + 1 := by simp [toL]; omega
    rw [e] at br bs
    simp only [h1, gd_t, shelf_nodeT.un, Option.bind_some, if_true]
    rw [count_eq s1, count_eq s2]
    simp only [Option.bind_some, Bool.true_and]
    by_cases h2 : (decide (IntKind.i64.wrap (((toL rl).length : Int) + 1) < IntKind.i64.wrap (2 * IntKind.i64.wrap (((toL rr).length : Int) + 1)))) = true
    · rw [if_pos h2]
      obtain ⟨t1, e1, z1, l1⟩ := made_ok (k := k) (x := x) hl s1 bl (by omega)
      have b1 : (toL t1).length < 1099511627776 := by rw [l1]; simp; omega
      obtain ⟨t2, e2, z2, l2⟩ := made_ok (k := rk) (x := rx) z1 s2 b1 (by omega)
      exact ⟨t2, by rw [e1]; simp only [Option.bind_some]; rw [e2]; rfl, z2, by rw [l2, l1]; simp [toL]⟩
    · rw [if_neg h2]
      have hlen2 : 0 < (toL rl).length := by
        rw [wr (x := ((toL rr).length : Int) + 1) (by omega) (by omega), wr (x := ((toL rl).length : Int) + 1) (by omega) (by omega), wr (by omega) (by omega)] at h2
        have : ¬ ((toL rl).length : Int) + 1 < 2 * ((toL rr).length + 1) := by simpa using h2
        omega
      obtain ⟨lk, lx, ll, lr, ls, rfl⟩ := nonnil hlen2
      obtain ⟨q1, q2, q3⟩ := s1
      have e' : (toL (shelf_nodeT.node lk lx ll lr ls)).length = (toL ll).length + (toL lr).length + 1 := by simp [toL]; omega
      rw [e'] at br bs
      simp only [shelf_nodeT.un, Option.bind_some]
      obtain ⟨t1, e1, z1, l1⟩ := made_ok (k := k) (x := x) hl q1 bl (by omega)
      obtain ⟨t2, e2, z2, l2⟩ := made_ok (k := rk) (x := rx) q2 s2 (by omega) (by omega)
      have b1 : (toL t1).length < 1099511627776 := by rw [l1]; simp; omega
      have b2 : (toL t2).length < 1099511627776 := by rw [l2]; simp; omega
      obtain ⟨t3, e3, z3, l3⟩ := made_ok (k := lk) (x := lx) z1 z2 b1 b2
      exact ⟨t3, by rw [e1]; simp only [Option.bind_some]; rw [e2]; simp only [Option.bind_some]; rw [e3]; rfl, z3, by rw [l3, l1, l2]; simp [toL]⟩
  · have h1' : heavyB r l = false := by simpa using h1
    simp only [h1', gd_f, Option.bind_some, Bool.false_and, Bool.false_eq_true, if_false]
    by_cases h3 : heavyB l r = true
    · have hlen : 0 < (toL l).length := by
        unfold heavyB at h3
        have := of_decide_eq_true h3
        omega
      obtain ⟨rk, rx, rl, rr, rs, rfl⟩ := nonnil hlen
      obtain ⟨s1, s2, s3⟩ := hl
      have e : (toL (shelf_nodeT.node rk rx rl rr rs)).length = (toL rl).length + (toL rr).length + 1 := by simp [toL]; omega
      rw [e] at bl bs
      simp only [h3, gd_t, shelf_nodeT.un, Option.bind_some, if_true]
      rw [count_eq s2, count_eq s1]
      simp only [shelf_node_count, shelf_nodeT.isNil, if_true, Option.bind_some, Bool.true_and]
      by_cases h2 : (decide (IntKind.i64.wrap (((toL rr).length : Int) + 1) < IntKind.i64.wrap (2 * IntKind.i64.wrap (((toL rl).length : Int) + 1)))) = true
      · rw [if_pos h2]
        obtain ⟨t1, e1, z1, l1⟩ := made_ok (k := k) (x := x) s2 hr (by omega) br
        have b1 : (toL t1).length < 1099511627776 := by rw [l1]; simp; omega
        obtain ⟨t2, e2, z2, l2⟩ := made_ok (k := rk) (x := rx) s1 z1 (by omega) b1
        exact ⟨t2, by rw [e1]; simp only [Option.bind_some]; rw [e2]; rfl, z2, by rw [l2, l1]; simp [toL]⟩
      · rw [if_neg h2]
        have hlen2 : 0 < (toL rr).length := by
          rw [wr (x := ((toL rl).length : Int) + 1) (by omega) (by omega), wr (x := ((toL rr).length : Int) + 1) (by omega) (by omega), wr (by omega) (by omega)] at h2
          have : ¬ ((toL rr).length : Int) + 1 < 2 * ((toL rl).length + 1) := by simpa using h2
          omega
        obtain ⟨lk, lx, ll, lr, ls, rfl⟩ := nonnil hlen2
        obtain ⟨q1, q2, q3⟩ := s2
        have e' : (toL (shelf_nodeT.node lk lx ll lr ls)).length = (toL ll).length + (toL lr).length + 1 := by simp [toL]; omega
        rw [e'] at bl bs
        simp only [shelf_nodeT.un, Option.bind_some]
        obtain ⟨t1, e1, z1, l1⟩ := made_ok (k := rk) (x := rx) s1 q1 (by omega) (by omega)
        obtain ⟨t2, e2, z2, l2⟩ := made_ok (k := k) (x := x) q2 hr (by omega) br
        have b1 : (toL t1).length < 1099511627776 := by rw [l1]; simp; omega
        have b2 : (toL t2).length < 1099511627776 := by rw [l2]; simp; omega
        obtain ⟨t3, e3, z3, l3⟩ := made_ok (k := lk) (x := lx) z1 z2 b1 b2
        exact ⟨t3, by rw [e1]; simp only [Option.bind_some]; rw [e2]; simp only [Option.bind_some]; rw [e3]; rfl, z3, by rw [l3, l1, l2]; simp [toL]⟩
    · have h3' : heavyB l r = false := by simpa using h3
      simp only [h3', gd_f, Option.bind_some, Bool.false_and, Bool.false_eq_true, if_false]
      obtain ⟨t1, e1, z1, l1⟩ := made_ok (k := k) (x := x) hl hr bl br
      exact ⟨t1, by rw [e1]; simp [shelf_node_count, shelf_nodeT.isNil, shelf_nodeT.un, Option.bind_some, gd], z1, l1⟩
end Go.CL

/- set, cut, first, Get, At, Rank of a tree: what they do to its list. -/
set_option linter.unusedVariables false
set_option linter.unusedSimpArgs false
namespace Go.CL
open Go

def insL (k : ByteArray) (x : api_Record) : List KV → List KV
  | [] => [(k, x)]
  | p :: l => if sLt k p.1 then (k, x) :: p :: l else if sEq k p.1 then (k, x) :: l else p :: insL k x l
def delL (k : ByteArray) : List KV → List KV
  | [] => []
  | p :: l => if sEq k p.1 then l else p :: delL k l
theorem insL_len (k : ByteArray) (x : api_Record) : ∀ l : List KV, (insL k x l).length ≤ l.length + 1
  | [] => by simp [insL]
  | p :: l => by
    have := insL_len k x l
    simp only [insL]
    split
    · simp
    · split <;> simp <;> omega
theorem delL_len (k : ByteArray) : ∀ l : List KV, (delL k l).length ≤ l.length
  | [] => by simp [delL]
  | p :: l => by
    have := delL_len k l
    simp only [delL]
    split <;> simp <;> omega
theorem insL_lt {k : ByteArray} {x : api_Record} {p : KV} {B : List KV} (h : sLt k p.1 = true) : ∀ A : List KV, insL k x (A ++ p :: B) = insL k x A ++ p :: B
  | [] => by simp [insL, h]
  | q :: A => by
    simp only [List.cons_append, insL]
    split
    · rfl
    · split
      · rfl
      · rw [insL_lt h A]; rfl
theorem insL_skip {k : ByteArray} {x : api_Record} {B : List KV} : ∀ A : List KV, (∀ q ∈ A, sLt q.1 k = true) → insL k x (A ++ B) = A ++ insL k x B
  | [], _ => rfl
  | q :: A, h => by
    have hq := h q (by simp)
    have h1 : sLt k q.1 = false := sLt_asym hq
    have h2 : sEq k q.1 = false := sEq_ne.2 (fun e => sLt_ne hq e.symm)
    simp only [List.cons_append, insL, h1, h2, Bool.false_eq_true, if_false]
    rw [insL_skip A fun q hq => h q (by simp [hq])]
theorem insL_eq {k : ByteArray} {x : api_Record} {p : KV} {B : List KV} (h : k = p.1) : insL k x (p :: B) = (k, x) :: B := by
  simp [insL, h, sLt_irr, sEq_self]
theorem insL_gt {k : ByteArray} {x : api_Record} {p : KV} {B : List KV} (h : sLt p.1 k = true) : insL k x (p :: B) = p :: insL k x B := by
  have h1 : sLt k p.1 = false := sLt_asym h
  have h2 : sEq k p.1 = false := sEq_ne.2 (fun e => sLt_ne h e.symm)
  simp [insL, h1, h2]
theorem delL_notin {k : ByteArray} : ∀ l : List KV, (∀ q ∈ l, q.1 ≠ k) → delL k l = l
  | [], _ => rfl
  | p :: l, h => by
    have : sEq k p.1 = false := sEq_ne.2 (fun e => h p (by simp) e.symm)
    simp only [delL, this, Bool.false_eq_true, if_false]
    rw [delL_notin l fun q hq => h q (by simp [hq])]
theorem delL_lt {k : ByteArray} {p : KV} {B : List KV} (h : sLt k p.1 = true) (hB : ∀ q ∈ B, sLt p.1 q.1 = true) : ∀ A : List KV, delL k (A ++ p :: B) = delL k A ++ p :: B
  | [] => by
    have h1 : sEq k p.1 = false := sEq_ne.2 (sLt_ne h)
    simp only [List.nil_append, delL, h1, Bool.false_eq_true, if_false]
    rw [delL_notin B fun q hq e => by
      have := sLt_trans h (hB q hq)
      rw [e, sLt_irr] at this; cases this]
  | q :: A => by
    simp only [List.cons_append, delL]
    split
    · rfl
    · rw [delL_lt h hB A]; rfl
theorem delL_skip {k : ByteArray} {B : List KV} : ∀ A : List KV, (∀ q ∈ A, sLt q.1 k = true) → delL k (A ++ B) = A ++ delL k B
  | [], _ => rfl
  | q :: A, h => by
    have hq := h q (by simp)
    have h2 : sEq k q.1 = false := sEq_ne.2 (fun e => sLt_ne hq e.symm)
    simp only [List.cons_append, delL, h2, Bool.false_eq_true, if_false]
    rw [delL_skip A fun q hq => h q (by simp [hq])]
theorem srt_app {A B : List KV} {p : KV} (h : Srt (A ++ p :: B)) : Srt A ∧ Srt B ∧ (∀ q ∈ A, sLt q.1 p.1 = true) ∧ (∀ q ∈ B, sLt p.1 q.1 = true) := by
  obtain ⟨h1, h2, h3⟩ := List.pairwise_append.1 h
  obtain ⟨h4, h5⟩ := List.pairwise_cons.1 h2
  exact ⟨h1, h5, fun q hq => h3 q hq p (by simp), h4⟩
theorem ins_mem {k : ByteArray} {x : api_Record} : ∀ {l : List KV} {q : KV}, q ∈ insL k x l → q = (k, x) ∨ q ∈ l
  | [], q, h => by simp [insL] at h; exact .inl h
  | p :: l, q, h => by
    simp only [insL] at h
    split at h
    · rcases List.mem_cons.1 h with h | h
      · exact .inl h
      · exact .inr h
    · split at h
      · rcases List.mem_cons.1 h with h | h
        · exact .inl h
        · exact .inr (List.mem_cons_of_mem _ h)
      · rcases List.mem_cons.1 h with h | h
        · exact .inr (by simp [h])
        · rcases ins_mem h with h | h
          · exact .inl h
          · exact .inr (List.mem_cons_of_mem _ h)
theorem del_mem {k : ByteArray} : ∀ {l : List KV} {q : KV}, q ∈ delL k l → q ∈ l
  | [], q, h => by simp [delL] at h
  | p :: l, q, h => by
    simp only [delL] at h
    split at h
    · exact List.mem_cons_of_mem _ h
    · rcases List.mem_cons.1 h with h | h
      · simp [h]
      · exact List.mem_cons_of_mem _ (del_mem h)
theorem ins_srt {k : ByteArray} {x : api_Record} : ∀ {l : List KV}, Srt l → Srt (insL k x l)
  | [], _ => List.pairwise_singleton ..
  | p :: l, h => by
    obtain ⟨h1, h2⟩ := List.pairwise_cons.1 h
    simp only [insL]
    split
    · rename_i hk
      refine List.pairwise_cons.2 ⟨fun q hq => ?_, h⟩
      rcases List.mem_cons.1 hq with rfl | hq
      · exact hk
      · exact sLt_trans hk (h1 q hq)
    · rename_i hk
      split
      · rename_i he
        have he := sEq_iff.1 he
        exact List.pairwise_cons.2 ⟨fun q hq => by rw [he]; exact h1 q hq, h2⟩
      · rename_i he
        have hlt : sLt p.1 k = true := sLt_tri (by simpa using hk) (fun e => he (sEq_iff.2 e))
        refine List.pairwise_cons.2 ⟨fun q hq => ?_, ins_srt h2⟩
        rcases ins_mem hq with rfl | hq
        · exact hlt
        · exact h1 q hq
theorem del_srt {k : ByteArray} : ∀ {l : List KV}, Srt l → Srt (delL k l)
  | [], h => h
  | p :: l, h => by
    obtain ⟨h1, h2⟩ := List.pairwise_cons.1 h
    simp only [delL]
    split
    · exact h2
    · exact List.pairwise_cons.2 ⟨fun q hq => h1 q (del_mem hq), del_srt h2⟩

/-! ### set -/
theorem set_ok : ∀ (n : Nat) (t : shelf_nodeT) (k : ByteArray) (x : api_Record), t.hh < n → Szd t → Srt (toL t) → (toL t).length + 2 < 1099511627776 →
    ∃ t', shelf_node_set_r n t k x = some t' ∧ Szd t' ∧ toL t' = insL k x (toL t)
  | 0, t, k, x, h, _, _, _ => by omega
  | n + 1, .nil, k, x, _, _, _, _ => by
    obtain ⟨t1, e1, z1, l1⟩ := made_ok (k := k) (x := x) (l := .nil) (r := .nil) trivial trivial (by simp [toL]) (by simp [toL])
    refine ⟨t1, ?_, z1, by rw [l1]; rfl⟩
    simp only [shelf_node_set_r, shelf_node_set_b, shelf_nodeT.isNil, if_true]
    rw [e1]; rfl
  | n + 1, .node nk nx l r s, k, x, hh, hz, hs, hb => by
    obtain ⟨z1, z2, z3⟩ := hz
    simp only [toL] at hs hb
    obtain ⟨s1, s2, sA, sB⟩ := srt_app hs
    have hlen : (toL l ++ (nk, nx) :: toL r).length = (toL l).length + (toL r).length + 1 := by simp; omega
    rw [hlen] at hb
    simp only [shelf_nodeT.hh] at hh
    simp only [shelf_node_set_r, shelf_node_set_b, shelf_nodeT.isNil, shelf_nodeT.un, Bool.false_eq_true, if_false, Option.bind_some]
    by_cases h1 : sLt k nk = true
    · rw [if_pos h1]
      obtain ⟨t1, e1, y1, l1⟩ := set_ok n l k x (by omega) z1 s1 (by omega)
      have b1 := insL_len k x (toL l)
      rw [← l1] at b1
      obtain ⟨t2, e2, y2, l2⟩ := even_ok (k := nk) (x := nx) y1 z2 (by omega) (by omega) (by omega)
      refine ⟨t2, by rw [e1]; simp only [Option.bind_some]; rw [e2]; rfl, y2, ?_⟩
      rw [l2, l1]; simp only [toL]; rw [insL_lt (by exact h1)]
    · rw [if_neg h1]
      by_cases h2 : k = nk
      · subst h2
        have he : (!(sLt k k || sEq k k)) = false := by simp [sEq_self]
        rw [he]
        simp only [Bool.false_eq_true, if_false]
        obtain ⟨t1, e1, y1, l1⟩ := made_ok (k := k) (x := x) z1 z2 (by omega) (by omega)
        refine ⟨t1, by rw [e1]; rfl, y1, ?_⟩
        rw [l1]; simp only [toL]
        rw [insL_skip _ (fun q hq => sA q hq), insL_eq rfl]
      · have h3 : sLt nk k = true := sLt_tri (by simpa using h1) h2
        have he : (!(sLt k nk || sEq k nk)) = true := by simp [sEq_ne.2 h2]; simpa using h1
        rw [he]
        simp only [if_true]
        obtain ⟨t1, e1, y1, l1⟩ := set_ok n r k x (by omega) z2 s2 (by omega)
        have b1 := insL_len k x (toL r)
        rw [← l1] at b1
        obtain ⟨t2, e2, y2, l2⟩ := even_ok (k := nk) (x := nx) z1 y1 (by omega) (by omega) (by omega)
        refine ⟨t2, by rw [e1]; simp only [Option.bind_some]; rw [e2]; rfl, y2, ?_⟩
        rw [l2, l1]; simp only [toL]
        rw [insL_skip _ (fun q hq => sLt_trans (sA q hq) h3), insL_gt h3]
theorem nset_ok {t : shelf_nodeT} {k : ByteArray} {x : api_Record} (hz : Szd t) (hs : Srt (toL t)) (hb : (toL t).length + 2 < 1099511627776) :
    ∃ t', shelf_node_set t k x = some t' ∧ Szd t' ∧ toL t' = insL k x (toL t) := set_ok _ t k x (Nat.lt_succ_self _) hz hs hb

/-! ### first, cut -/
theorem first_ok : ∀ (n : Nat) (t : shelf_nodeT), t.hh < n → t.isNil = false → ∃ t' k x l r s B, shelf_node_first_l1 n t = some t' ∧ t' = .node k x l r s ∧ toL t = (k, x) :: B
  | 0, t, h, _ => by omega
  | n + 1, .nil, _, h => by cases h
  | n + 1, .node k x l r s, hh, _ => by
    simp only [shelf_nodeT.hh] at hh
    simp only [shelf_node_first_l1, shelf_nodeT.un, Option.bind_some]
    cases l with
    | nil => exact ⟨_, k, x, .nil, r, s, toL r, rfl, rfl, rfl⟩
    | node k2 x2 l2 r2 s2 =>
      obtain ⟨t', k', x', l', r', s', B, e1, e2, e3⟩ := first_ok n (.node k2 x2 l2 r2 s2) (by omega) rfl
      exact ⟨t', k', x', l', r', s', B ++ (k, x) :: toL r, by simp [shelf_nodeT.isNil]; exact e1, e2, by
        simp only [toL] at e3 ⊢
        rw [e3]; rfl⟩
theorem cut_ok : ∀ (n : Nat) (t : shelf_nodeT) (k : ByteArray), t.hh < n → Szd t → Srt (toL t) → (toL t).length + 2 < 1099511627776 →
    ∃ t', shelf_node_cut_r n t k = some t' ∧ Szd t' ∧ toL t' = delL k (toL t)
  | 0, t, k, h, _, _, _ => by omega
  | n + 1, .nil, k, _, _, _, _ => ⟨.nil, rfl, trivial, rfl⟩
  | n + 1, .node nk nx l r s, k, hh, hz, hs, hb => by
    obtain ⟨z1, z2, z3⟩ := hz
    simp only [toL] at hs hb
    obtain ⟨s1, s2, sA, sB⟩ := srt_app hs
    have hlen : (toL l ++ (nk, nx) :: toL r).length = (toL l).length + (toL r).length + 1 := by simp; omega
    rw [hlen] at hb
    simp only [shelf_nodeT.hh] at hh
    simp only [shelf_node_cut_r, shelf_node_cut_b, shelf_nodeT.isNil, shelf_nodeT.un, Bool.false_eq_true, if_false, Option.bind_some]
    by_cases h1 : sLt k nk = true
    · rw [if_pos h1]
      obtain ⟨t1, e1, y1, l1⟩ := cut_ok n l k (by omega) z1 s1 (by omega)
      have b1 := delL_len k (toL l)
      rw [← l1] at b1
      obtain ⟨t2, e2, y2, l2⟩ := even_ok (k := nk) (x := nx) y1 z2 (by omega) (by omega) (by omega)
      refine ⟨t2, by rw [e1]; simp only [Option.bind_some]; rw [e2]; rfl, y2, ?_⟩
      rw [l2, l1]; simp only [toL]; rw [delL_lt (by exact h1) (fun q hq => sB q hq)]
    · rw [if_neg h1]
      by_cases h2 : k = nk
      · subst h2
        have he : (!(sLt k k || sEq k k)) = false := by simp [sEq_self]
        rw [he]
        simp only [Bool.false_eq_true, if_false]
        have hdel : delL k (toL l ++ (k, nx) :: toL r) = toL l ++ toL r := by
          rw [delL_skip _ (fun q hq => sA q hq)]
          simp [delL, sEq_self]
        cases hl : l with
        | nil => exact ⟨r, by simp [shelf_nodeT.isNil, shelf_nodeT.un], z2, by show toL r = delL k (toL .nil ++ (k, nx) :: toL r); rw [← hl, hdel, hl]; rfl⟩
        | node k2 x2 l2 r2 q2 =>
          cases hr : r with
          | nil => exact ⟨l, by simp [shelf_nodeT.isNil, shelf_nodeT.un, hl], z1, by rw [← hl, ← hr]; show toL l = delL k (toL l ++ (k, nx) :: toL r); rw [hdel, hr]; simp [toL]⟩
          | node k3 x3 l3 r3 q3 =>
            rw [← hl, ← hr]
            have hn : r.isNil = false := by rw [hr]; rfl
            have hn1 : l.isNil = false := by rw [hl]; rfl
            obtain ⟨t', k', x', l', r', s', B, e1, e2, e3⟩ := first_ok (r.hh + 1) r (Nat.lt_succ_self _) hn
            subst e2
            have hf : shelf_node_first r = some (.node k' x' l' r' s') := by
              unfold shelf_node_first; rw [e1]; rfl
            obtain ⟨t1, c1, y1, l1⟩ := cut_ok n r k' (by omega) z2 s2 (by omega)
            have hB : toL t1 = B := by rw [l1, e3]; simp [delL, sEq_self]
            have hBl : B.length + 1 = (toL r).length := by rw [e3]; simp
            obtain ⟨t2, c2, y2, l2⟩ := even_ok (k := k') (x := x') z1 y1 (by omega) (by rw [hB]; omega) (by rw [hB]; omega)
            refine ⟨t2, ?_, y2, ?_⟩
            · simp only [hf, Option.bind_some, shelf_nodeT.un, c1, c2]
              show (if l.isNil = true then some r else if r.isNil = true then some l else some t2) = some t2
              rw [hn, hn1]; rfl
            · show toL t2 = delL k (toL l ++ (k, nx) :: toL r)
              rw [hdel, l2, hB, e3]
      · have h3 : sLt nk k = true := sLt_tri (by simpa using h1) h2
        have he : (!(sLt k nk || sEq k nk)) = true := by simp [sEq_ne.2 h2]; simpa using h1
        rw [he]
        simp only [if_true]
        obtain ⟨t1, e1, y1, l1⟩ := cut_ok n r k (by omega) z2 s2 (by omega)
        have b1 := delL_len k (toL r)
        rw [← l1] at b1
        obtain ⟨t2, e2, y2, l2⟩ := even_ok (k := nk) (x := nx) z1 y1 (by omega) (by omega) (by omega)
        refine ⟨t2, by rw [e1]; simp only [Option.bind_some]; rw [e2]; rfl, y2, ?_⟩
        rw [l2, l1]; simp only [toL]
        rw [delL_skip _ (fun q hq => sLt_trans (sA q hq) h3)]
        simp [delL, sEq_ne.2 h2]
theorem ncut_ok {t : shelf_nodeT} {k : ByteArray} (hz : Szd t) (hs : Srt (toL t)) (hb : (toL t).length + 2 < 1099511627776) :
    ∃ t', shelf_node_cut t k = some t' ∧ Szd t' ∧ toL t' = delL k (toL t) := cut_ok _ t k (Nat.lt_succ_self _) hz hs hb
end Go.CL

/- Get, At, Rank of a tree; the document's list: Find, Get, Set, Cut. -/
set_option linter.unusedVariables false
set_option linter.unusedSimpArgs false
namespace Go.CL
open Go

def lk (k : ByteArray) : List KV → Option api_Record
  | [] => none
  | p :: l => if sEq k p.1 then some p.2 else lk k l
def rk (k : ByteArray) : List KV → Nat
  | [] => 0
  | p :: l => if sLt p.1 k then rk k l + 1 else 0
theorem lk_notin {k : ByteArray} : ∀ {l : List KV}, (∀ q ∈ l, q.1 ≠ k) → lk k l = none
  | [], _ => rfl
  | p :: l, h => by
    have : sEq k p.1 = false := sEq_ne.2 (fun e => h p (by simp) e.symm)
    simp only [lk, this, Bool.false_eq_true, if_false]
    exact lk_notin fun q hq => h q (by simp [hq])
theorem lk_lt {k : ByteArray} {p : KV} {B : List KV} (h : sLt k p.1 = true) (hB : ∀ q ∈ B, sLt p.1 q.1 = true) : ∀ A : List KV, lk k (A ++ p :: B) = lk k A
  | [] => by
    have h1 : sEq k p.1 = false := sEq_ne.2 (sLt_ne h)
    simp only [List.nil_append, lk, h1, Bool.false_eq_true, if_false]
    exact lk_notin fun q hq e => by
      have := sLt_trans h (hB q hq)
      rw [e, sLt_irr] at this; cases this
  | q :: A => by
    simp only [List.cons_append, lk]
    split
    · rfl
    · exact lk_lt h hB A
theorem lk_skip {k : ByteArray} {B : List KV} : ∀ A : List KV, (∀ q ∈ A, sLt q.1 k = true) → lk k (A ++ B) = lk k B
  | [], _ => rfl
  | q :: A, h => by
    have hq := h q (by simp)
    have h2 : sEq k q.1 = false := sEq_ne.2 (fun e => sLt_ne hq e.symm)
    simp only [List.cons_append, lk, h2, Bool.false_eq_true, if_false]
    exact lk_skip A fun q hq => h q (by simp [hq])
theorem rk_le (k : ByteArray) : ∀ l : List KV, rk k l ≤ l.length
  | [] => by simp [rk]
  | p :: l => by
    have := rk_le k l
    simp only [rk]
    split <;> simp <;> omega
theorem rk_stop {k : ByteArray} {p : KV} {B : List KV} (h : sLt p.1 k = false) : ∀ A : List KV, rk k (A ++ p :: B) = rk k A
  | [] => by simp [rk, h]
  | q :: A => by
    simp only [List.cons_append, rk]
    rw [rk_stop h A]
theorem rk_skip {k : ByteArray} {B : List KV} : ∀ A : List KV, (∀ q ∈ A, sLt q.1 k = true) → rk k (A ++ B) = A.length + rk k B
  | [], _ => by simp
  | q :: A, h => by
    simp only [List.cons_append, rk, h q (by simp), if_true, List.length_cons]
    rw [rk_skip A fun q hq => h q (by simp [hq])]
    omega
/-- A list that may be copied. -/
def Cl (x : api_Record) : Prop := x.List.length ≤ 1000
theorem clone_eq {x : api_Record} (h : Cl x) : rec_Clone x = some x := by
  unfold rec_Clone slices_Clone_api_Item_api_Item
  unfold Cl at h
  rw [if_pos (by omega)]
  rfl
abbrev zrec : api_Record := { Kind := 0, Num := 0, Low := 0, High := 0, Real := 0, Cap := 0, Text := ByteArray.empty, List := [] }
def getR : Option api_Record → api_Record × Bool
  | some r => (r, true)
  | none => (zrec, false)
def getE (x : api_Record) : Option api_Record → (api_Record × Bool) ⊕ api_Record
  | some r => .inl (r, true)
  | none => .inr x
theorem get_loop (k : ByteArray) (x : api_Record) : ∀ (n : Nat) (t : shelf_nodeT), t.hh < n → Srt (toL t) → (∀ q ∈ toL t, Cl q.2) → shelf_Shelf_Get_l1 k n x t = some (getE x (lk k (toL t)))
  | 0, t, h, _, _ => by omega
  | n + 1, .nil, _, _, _ => rfl
  | n + 1, .node nk nx l r s, hh, hs, hc => by
    simp only [toL] at hs hc
    obtain ⟨s1, s2, sA, sB⟩ := srt_app hs
    simp only [shelf_nodeT.hh] at hh
    simp only [shelf_Shelf_Get_l1, shelf_nodeT.isNil, shelf_nodeT.un, Bool.not_false, if_true, Option.bind_some, shelf_Shelf_Get_j1, toL]
    by_cases h1 : sLt k nk = true
    · rw [if_pos h1, get_loop k x n l (by omega) s1 (fun q hq => hc q (by simp [hq])), lk_lt (by exact h1) (fun q hq => sB q hq)]
    · rw [if_neg h1]
      by_cases h2 : k = nk
      · subst h2
        have he : (!(sLt k k || sEq k k)) = false := by simp [sEq_self]
        rw [he]
        simp only [Bool.false_eq_true, if_false]
        rw [clone_eq (hc (k, nx) (by simp)), lk_skip _ (fun q hq => sA q hq)]
        simp [lk, sEq_self, getE]
      · have h3 : sLt nk k = true := sLt_tri (by simpa using h1) h2
        have he : (!(sLt k nk || sEq k nk)) = true := by simp [sEq_ne.2 h2]; simpa using h1
        rw [he]
        simp only [if_true]
        rw [get_loop k x n r (by omega) s2 (fun q hq => hc q (by simp [hq])), lk_skip _ (fun q hq => sLt_trans (sA q hq) h3)]
        simp [lk, sEq_ne.2 h2]
theorem get_eq {s : shelf_Shelf} {k : ByteArray} (hs : Srt (toL s.top)) (hc : ∀ q ∈ toL s.top, Cl q.2) : shelf_Shelf_Get s k = some (getR (lk k (toL s.top))) := by
  unfold shelf_Shelf_Get
  rw [get_loop k _ _ _ (Nat.lt_succ_self _) hs hc]
  cases lk k (toL s.top) <;> rfl
def atE (x : api_Record) : Option KV → (ByteArray × api_Record × Bool) ⊕ api_Record
  | some p => .inl (p.1, p.2, true)
  | none => .inr x
theorem idx_neg {α : Type} {l : List α} {i : Int} (h : i < 0) : idx l i = none := by
  unfold idx
  rw [if_neg (by omega)]
theorem idx_app_lt {α : Type} {A B : List α} {i : Int} (h : i < A.length) : idx (A ++ B) i = idx A i := by
  unfold idx
  split
  · rw [List.getElem?_append_left (by omega)]
  · rfl
theorem idx_app_mid {α : Type} {A B : List α} {p : α} : idx (A ++ p :: B) (A.length : Int) = some p := by
  rw [idxn]; simp
theorem idx_app_gt {α : Type} {A B : List α} {p : α} {i : Int} (h : (A.length : Int) < i) : idx (A ++ p :: B) i = idx B (i - (A.length + 1)) := by
  unfold idx
  rw [if_pos (by omega), if_pos (by omega), List.getElem?_append_right (by omega)]
  rw [show i.toNat - A.length = (i - (A.length + 1)).toNat + 1 by omega, List.getElem?_cons_succ]
theorem at_loop (x : api_Record) : ∀ (n : Nat) (t : shelf_nodeT) (i : Int), t.hh < n → Szd t → (toL t).length + 2 < 1099511627776 → -1099511627776 < i → i < 1099511627776 → (∀ q ∈ toL t, Cl q.2) → shelf_Shelf_At_l1 n i x t = some (atE x (idx (toL t) i))
  | 0, t, i, h, _, _, _, _, _ => by omega
  | n + 1, .nil, i, _, _, _, _, _, _ => by
    simp only [shelf_Shelf_At_l1, shelf_nodeT.isNil, toL]
    have hn : idx ([] : List KV) i = none := by
      unfold idx
      split <;> simp
    rw [hn]
    rfl
  | n + 1, .node nk nx l r s, i, hh, hz, hb, i1, i2, hc => by
    obtain ⟨z1, z2, z3⟩ := hz
    simp only [toL] at hb hc
    have hlen : (toL l ++ (nk, nx) :: toL r).length = (toL l).length + (toL r).length + 1 := by simp; omega
    rw [hlen] at hb
    simp only [shelf_nodeT.hh] at hh
    simp only [shelf_Shelf_At_l1, shelf_nodeT.isNil, shelf_nodeT.un, Bool.not_false, if_true, Option.bind_some, shelf_Shelf_At_j1, toL]
    rw [count_eq z1]
    simp only [Option.bind_some]
    by_cases h1 : i < (toL l).length
    · rw [if_pos (by simpa using h1), at_loop x n l i (by omega) z1 (by omega) i1 i2 (fun q hq => hc q (by simp [hq])), idx_app_lt h1]
    · rw [if_neg (by simpa using h1)]
      by_cases h2 : ((toL l).length : Int) < i
      · rw [if_pos (by simpa using h2), wr (x := ((toL l).length : Int) + 1) (by omega) (by omega), wr (by omega) (by omega), at_loop x n r _ (by omega) z2 (by omega) (by omega) (by omega) (fun q hq => hc q (by simp [hq])), idx_app_gt h2]
      · rw [if_neg (by simpa using h2), clone_eq (hc (nk, nx) (by simp))]
        have : i = (toL l).length := by omega
        subst this
        rw [idx_app_mid]; rfl
def atR : Option KV → ByteArray × api_Record × Bool
  | some p => (p.1, p.2, true)
  | none => (⟨#[]⟩, zrec, false)
theorem at_eq {s : shelf_Shelf} {i : Int} (hz : Szd s.top) (hb : (toL s.top).length + 2 < 1099511627776) (i1 : -1099511627776 < i) (i2 : i < 1099511627776) (hc : ∀ q ∈ toL s.top, Cl q.2) : shelf_Shelf_At s i = some (atR (idx (toL s.top) i)) := by
  unfold shelf_Shelf_At
  rw [at_loop _ _ _ _ (Nat.lt_succ_self _) hz hb i1 i2 hc]
  cases idx (toL s.top) i <;> rfl
theorem rank_loop (k : ByteArray) : ∀ (n : Nat) (t : shelf_nodeT) (x : Nat), t.hh < n → Szd t → Srt (toL t) → x + (toL t).length + 2 < 1099511627776 → shelf_Shelf_Rank_l1 k n (x : Int) t = some ((x + rk k (toL t) : Nat) : Int)
  | 0, t, x, h, _, _, _ => by omega
  | n + 1, .nil, x, _, _, _, _ => rfl
  | n + 1, .node nk nx l r s, x, hh, hz, hs, hb => by
    obtain ⟨z1, z2, z3⟩ := hz
    simp only [toL] at hs hb
    obtain ⟨s1, s2, sA, sB⟩ := srt_app hs
    have hlen : (toL l ++ (nk, nx) :: toL r).length = (toL l).length + (toL r).length + 1 := by simp; omega
    rw [hlen] at hb
    simp only [shelf_nodeT.hh] at hh
    simp only [shelf_Shelf_Rank_l1, shelf_nodeT.isNil, shelf_nodeT.un, Bool.not_false, if_true, Option.bind_some, shelf_Shelf_Rank_j1, toL]
    by_cases h1 : sLt nk k = true
    · have he : (sLt k nk || sEq k nk) = false := by
        simp [sLt_asym h1, sEq_ne]; exact fun e => sLt_ne h1 e.symm
      rw [he]
      simp only [Bool.false_eq_true, if_false]
      rw [count_eq z1]
      simp only [Option.bind_some]
      rw [wr (x := ((toL l).length : Int) + 1) (by omega) (by omega), wr (by omega) (by omega)]
      have := rank_loop k n r (x + ((toL l).length + 1)) (by omega) z2 s2 (by omega)
      rw [show (x : Int) + (((toL l).length : Int) + 1) = ((x + ((toL l).length + 1) : Nat) : Int) by omega, this, rk_skip _ (fun q hq => sLt_trans (sA q hq) h1)]
      simp only [rk, h1, if_true]
      congr 2; omega
    · have h1' : sLt nk k = false := by simpa using h1
      have he : (sLt k nk || sEq k nk) = true := by
        by_cases h2 : k = nk
        · rw [h2]; simp [sEq_self]
        · simp [sLt_tri h1' (fun e => h2 e.symm)]
      rw [if_pos he, rank_loop k n l x (by omega) z1 s1 (by omega), rk_stop (by exact h1')]
theorem rank_eq {s : shelf_Shelf} {k : ByteArray} (hz : Szd s.top) (hs : Srt (toL s.top)) (hb : (toL s.top).length + 2 < 1099511627776) : shelf_Shelf_Rank s k = some (rk k (toL s.top) : Int) := by
  unfold shelf_Shelf_Rank
  have := rank_loop k (s.top.hh + 1) s.top 0 (Nat.lt_succ_self _) hz hs (by omega)
  rw [show ((0 : Nat) : Int) = 0 from rfl] at this
  rw [this]
  simp
/-! ### where a key stands -/
theorem at_key {k : ByteArray} (x : api_Record) : ∀ {l : List KV}, Srt l →
    (∃ p, l[rk k l]? = some p ∧ p.1 = k ∧ lk k l = some p.2 ∧ insL k x l = l.take (rk k l) ++ (k, x) :: l.drop (rk k l + 1) ∧ delL k l = l.take (rk k l) ++ l.drop (rk k l + 1)) ∨
    ((∀ p, l[rk k l]? = some p → p.1 ≠ k) ∧ lk k l = none ∧ insL k x l = l.take (rk k l) ++ (k, x) :: l.drop (rk k l) ∧ delL k l = l)
  | [], _ => .inr ⟨fun p h => by simp at h, rfl, rfl, rfl⟩
  | p :: l, hs => by
    obtain ⟨h1, h2⟩ := List.pairwise_cons.1 hs
    by_cases h : sLt p.1 k = true
    · have e1 : sLt k p.1 = false := sLt_asym h
      have e2 : sEq k p.1 = false := sEq_ne.2 (fun e => sLt_ne h e.symm)
      simp only [rk, h, if_true, lk, insL, delL, e1, e2, Bool.false_eq_true, if_false, List.getElem?_cons_succ, List.take_succ_cons, List.drop_succ_cons]
      rcases at_key x h2 with ⟨q, a1, a2, a3, a4, a5⟩ | ⟨a1, a2, a3, a4⟩
      · exact .inl ⟨q, a1, a2, a3, by rw [a4]; rfl, by rw [a5]; rfl⟩
      · exact .inr ⟨a1, a2, by rw [a3]; rfl, by rw [a4]⟩
    · have h' : sLt p.1 k = false := by simpa using h
      simp only [rk, h', Bool.false_eq_true, if_false]
      by_cases he : k = p.1
      · left
        exact ⟨p, rfl, he.symm, by simp [lk, he, sEq_self], by simp [insL, he, sLt_irr, sEq_self], by simp [delL, he, sEq_self]⟩
      · right
        have hlt : sLt k p.1 = true := sLt_tri h' (fun e => he e.symm)
        have hne : ∀ q ∈ l, q.1 ≠ k := fun q hq e => by
          have := sLt_trans hlt (h1 q hq)
          rw [e, sLt_irr] at this; cases this
        refine ⟨fun q hq e => ?_, ?_, by simp [insL, hlt], ?_⟩
        · simp at hq; subst hq; exact he e.symm
        · simp only [lk, sEq_ne.2 he, Bool.false_eq_true, if_false]; exact lk_notin hne
        · simp only [delL, sEq_ne.2 he, Bool.false_eq_true, if_false]; rw [delL_notin l hne]
end Go.CL

/- The document's shelf, and both at once. -/
set_option linter.unusedVariables false
set_option linter.unusedSimpArgs false
namespace Go.CL
open Go

def kv (p : moietyref09_Pair) : KV := (p.Key, p.Rec)
def pl (t : moietyref09_Shelf) : List KV := t.L.map kv
theorem pl_get (t : moietyref09_Shelf) (i : Nat) : (pl t)[i]? = (t.L[i]?).map kv := by simp [pl]
theorem pl_len (t : moietyref09_Shelf) : (pl t).length = t.L.length := by simp [pl]
theorem find_loop {t : moietyref09_Shelf} {k : ByteArray} (hb : t.L.length < 1099511627776) : ∀ (n i : Nat), i + n = t.L.length →
    moietyref09_Shelf_Find_l1 t k (n + 1) (i : Int) = some ((i + rk k ((pl t).drop i) : Nat) : Int)
  | 0, i, h => by
    have hd : decide ((i : Int) < (t.L.length : Int)) = false := by simp; omega
    rw [moietyref09_Shelf_Find_l1, hd, List.drop_of_length_le (by rw [pl_len]; omega)]
    simp [gd, rk]
  | n + 1, i, h => by
    have hd : decide ((i : Int) < (t.L.length : Int)) = true := by simp; omega
    have hi : i < t.L.length := by omega
    have hi' : i < (pl t).length := by rw [pl_len]; exact hi
    rw [moietyref09_Shelf_Find_l1, hd, idx_lt hi, List.drop_eq_getElem_cons hi', wr1 (by omega)]
    have hg : (pl t)[i] = kv t.L[i] := by simp [pl]
    rw [hg]
    simp only [gd_t, Option.bind_some, Bool.true_and, rk]
    by_cases hk : sLt t.L[i].Key k = true
    · have hk' : sLt (kv t.L[i]).1 k = true := hk
      rw [if_pos hk, if_pos hk', find_loop hb n (i + 1) (by omega)]
      congr 2; omega
    · have hk' : ¬ sLt (kv t.L[i]).1 k = true := hk
      rw [if_neg hk, if_neg hk']; rfl
theorem find_eq {t : moietyref09_Shelf} {k : ByteArray} (hb : t.L.length < 1099511627776) : moietyref09_Shelf_Find t k = some (rk k (pl t) : Int) := by
  unfold moietyref09_Shelf_Find
  have := find_loop (k := k) hb t.L.length 0 (by omega)
  rw [show ((0 : Nat) : Int) = 0 from rfl] at this
  rw [show (Int.toNat ((t.L.length : Int) - (0 : Int)) + 1) = t.L.length + 1 by omega, this]
  simp
/-- A shelf, and the document's. -/
structure Rel (s : shelf_Shelf) (t : moietyref09_Shelf) (n : Nat) : Prop where
  top : toL s.top = pl t
  sz : Szd s.top
  srt : Srt (pl t)
  len : t.L.length ≤ n
  room : s.room = t.Room
  ok : ∀ q ∈ pl t, RecOk q.2 ∧ q.2.List.length ≤ 100
theorem Rel.cl {s : shelf_Shelf} {t : moietyref09_Shelf} {n : Nat} (h : Rel s t n) : ∀ q ∈ toL s.top, Cl q.2 := fun q hq => by
  rw [h.top] at hq
  have := (h.ok q hq).2
  unfold Cl; omega
theorem Rel.mono {s : shelf_Shelf} {t : moietyref09_Shelf} {n m : Nat} (h : Rel s t n) (hm : n ≤ m) : Rel s t m := ⟨h.top, h.sz, h.srt, Nat.le_trans h.len hm, h.room, h.ok⟩
theorem Rel.tl {s : shelf_Shelf} {t : moietyref09_Shelf} {n : Nat} (h : Rel s t n) : (toL s.top).length = t.L.length := by rw [h.top, pl_len]
theorem rel_new (r : Int) : Rel { top := .nil, room := r } { L := [], Room := r } 0 := ⟨rfl, trivial, List.Pairwise.nil, Nat.le_refl _, rfl, fun q h => by simp [pl] at h⟩
theorem rget_eq {s : shelf_Shelf} {t : moietyref09_Shelf} {n : Nat} (h : Rel s t n) (hn : n < 1000000) (k : ByteArray) : moietyref09_Shelf_Get t k = some (getR (lk k (pl t))) := by
  have hb := h.len
  unfold moietyref09_Shelf_Get
  rw [find_eq (by omega)]
  simp only [Option.bind_some]
  have hle := rk_le k (pl t)
  rw [pl_len] at hle
  by_cases hi : rk k (pl t) < t.L.length
  · have hd : decide (((rk k (pl t) : Nat) : Int) < (t.L.length : Int)) = true := by simp; omega
    rw [hd, idx_lt hi]
    simp only [gd_t, Option.bind_some, Bool.true_and]
    have hg : (pl t)[rk k (pl t)]? = some (kv t.L[rk k (pl t)]) := by rw [pl_get, List.getElem?_eq_getElem hi]; rfl
    rcases at_key default h.srt with ⟨p, a1, a2, a3, _, _⟩ | ⟨a1, a2, _, _⟩
    · rw [hg] at a1
      obtain rfl := Option.some.inj a1
      have : sEq (t.L[rk k (pl t)]).Key k = true := sEq_iff.2 a2
      rw [if_pos this, a3]; rfl
    · have : sEq (t.L[rk k (pl t)]).Key k = false := sEq_ne.2 (a1 _ hg)
      rw [if_neg (by simp [this]), a2]; rfl
  · have hd : decide (((rk k (pl t) : Nat) : Int) < (t.L.length : Int)) = false := by simp; omega
    rw [hd]
    simp only [gd_f, Option.bind_some, Bool.false_and, Bool.false_eq_true, if_false]
    rcases at_key (k := k) default h.srt with ⟨p, a1, _⟩ | ⟨_, a2, _, _⟩
    · have := (List.getElem?_eq_some_iff.1 a1).1
      rw [pl_len] at this; omega
    · rw [a2]; rfl
theorem sget_eq {s : shelf_Shelf} {t : moietyref09_Shelf} {n : Nat} (h : Rel s t n) (k : ByteArray) : shelf_Shelf_Get s k = some (getR (lk k (pl t))) := by
  rw [get_eq (by rw [h.top]; exact h.srt) h.cl, h.top]
theorem slen_eq {s : shelf_Shelf} {t : moietyref09_Shelf} {n : Nat} (h : Rel s t n) : shelf_Shelf_Len s = some (t.L.length : Int) := by
  unfold shelf_Shelf_Len
  rw [count_eq h.sz, h.tl]; rfl
theorem take_map (t : moietyref09_Shelf) (i : Nat) : (t.L.take i).map kv = (pl t).take i := by simp [pl]
theorem drop_map (t : moietyref09_Shelf) (i : Nat) : (t.L.drop i).map kv = (pl t).drop i := by simp [pl]
/-- **Cut: both do the same.** -/
theorem cut_both {s : shelf_Shelf} {t : moietyref09_Shelf} {n : Nat} (h : Rel s t n) (hn : n < 1000000) (k : ByteArray) : ∃ s' t' b, shelf_Shelf_Cut s k = some (s', b) ∧ moietyref09_Shelf_Cut t k = some (t', b) ∧ Rel s' t' n ∧ (pl t' = pl t ∨ pl t' = delL k (pl t)) := by
  have hb := h.len
  have hle := rk_le k (pl t)
  rw [pl_len] at hle
  unfold shelf_Shelf_Cut moietyref09_Shelf_Cut
  rw [sget_eq h, find_eq (by omega)]
  simp only [Option.bind_some]
  rcases at_key default h.srt with ⟨p, a1, a2, a3, _, a5⟩ | ⟨a1, a2, _, a4⟩
  · have hi : rk k (pl t) < t.L.length := by
      have := (List.getElem?_eq_some_iff.1 a1).1
      rwa [pl_len] at this
    rw [a3]
    have hd : decide ((t.L.length : Int) ≤ ((rk k (pl t) : Nat) : Int)) = false := by simp; omega
    have hg : (pl t)[rk k (pl t)]? = some (kv t.L[rk k (pl t)]) := by rw [pl_get, List.getElem?_eq_getElem hi]; rfl
    rw [hg] at a1
    obtain rfl := Option.some.inj a1
    have he : sEq (t.L[rk k (pl t)]).Key k = true := sEq_iff.2 a2
    rw [hd, idx_lt hi]
    obtain ⟨t1, c1, z1, l1⟩ := ncut_ok (k := k) h.sz (by rw [h.top]; exact h.srt) (by rw [h.tl]; omega)
    rw [c1]
    simp only [getR, Bool.not_true, Bool.false_eq_true, if_false, Option.bind_some, Bool.not_false, gd_t, he, Bool.or_false, Bool.or_self]
    rw [show (0 : Int) = ((0 : Nat) : Int) from rfl, cut_some (by omega) (by omega), wr1 (by omega), cut_some (by omega) (by omega)]
    simp only [Option.bind_some, List.nil_append, List.drop_zero, Nat.sub_zero, List.length_nil, Nat.zero_add]
    have ht : (List.take (t.L.length - (rk k (pl t) + 1)) (List.drop (rk k (pl t) + 1) t.L)) = List.drop (rk k (pl t) + 1) t.L := List.take_of_length_le (by simp)
    rw [ht, if_pos (by simp; omega), if_pos (by simp; omega)]
    have hpl : pl { L := List.take (rk k (pl t)) t.L ++ List.drop (rk k (pl t) + 1) t.L, Room := t.Room } = delL k (pl t) := by
      rw [a5, ← take_map, ← drop_map, ← List.map_append]; rfl
    refine ⟨_, _, true, rfl, rfl, ⟨?_, z1, ?_, ?_, h.room, ?_⟩, .inr hpl⟩
    · rw [hpl, l1, h.top]
    · rw [hpl]; exact del_srt h.srt
    · simp; omega
    · intro q hq
      rw [hpl] at hq
      exact h.ok q (del_mem hq)
  · rw [a2]
    simp only [getR, Bool.not_false, if_true]
    by_cases hi : rk k (pl t) < t.L.length
    · have hd : decide ((t.L.length : Int) ≤ ((rk k (pl t) : Nat) : Int)) = false := by simp; omega
      have hg : (pl t)[rk k (pl t)]? = some (kv t.L[rk k (pl t)]) := by rw [pl_get, List.getElem?_eq_getElem hi]; rfl
      have he : sEq (t.L[rk k (pl t)]).Key k = false := sEq_ne.2 (a1 _ hg)
      rw [hd, idx_lt hi]
      simp only [Bool.not_false, gd_t, Option.bind_some, he, Bool.false_or, if_true]
      exact ⟨s, t, false, rfl, rfl, h, .inl rfl⟩
    · have hd : decide ((t.L.length : Int) ≤ ((rk k (pl t) : Nat) : Int)) = true := by simp; omega
      rw [hd]
      simp only [Bool.not_true, gd_f, Option.bind_some, Bool.true_or, if_true]
      exact ⟨s, t, false, rfl, rfl, h, .inl rfl⟩
theorem empty_iff (k : ByteArray) : sEq k (⟨#[]⟩ : ByteArray) = decide ((k.size : Int) < 1) := by
  by_cases h : k = ⟨#[]⟩
  · subst h; rw [sEq_self]; decide
  · rw [sEq_ne.2 h]
    have : k.size ≠ 0 := fun e => h (by
      apply ByteArray.ext
      exact Array.size_eq_zero_iff.1 e)
    simp; omega
/-- **Set: both do the same.** -/
theorem set_both {s : shelf_Shelf} {t : moietyref09_Shelf} {n : Nat} (h : Rel s t n) (hn : n < 1000000) (k : ByteArray) {x : api_Record} (hx : RecOk x) (hx2 : x.List.length ≤ 100) :
    ∃ s' t' c, shelf_Shelf_Set s k x = some (s', c) ∧ moietyref09_Shelf_Set t k x = some (t', c) ∧ Rel s' t' (n + 1) ∧ (pl t' = pl t ∨ (pl t' = insL k x (pl t) ∧ rec_Check x = some 0 ∧ ¬ (k.size : Int) < 1 ∧ ¬ (24 : Int) < (k.size : Int))) := by
  have hb := h.len
  have hle := rk_le k (pl t)
  rw [pl_len] at hle
  obtain ⟨c, hc1, hc2⟩ := check_both hx
  unfold shelf_Shelf_Set moietyref09_Shelf_Set
  rw [hc1, hc2, sget_eq h, find_eq (by omega), slen_eq h, clone_eq (by unfold Cl; omega), empty_iff, h.room]
  by_cases h1 : (decide ((k.size : Int) < 1) || decide ((24 : Int) < (k.size : Int))) = true
  · rw [if_pos h1, if_pos h1]
    exact ⟨s, t, 1, rfl, rfl, h.mono (by omega), .inl rfl⟩
  · rw [if_neg h1, if_neg h1]
    simp only [Option.bind_some]
    by_cases h2 : (c != 0) = true
    · rw [if_pos h2, if_pos h2]
      exact ⟨s, t, c, rfl, rfl, h.mono (by omega), .inl rfl⟩
    · rw [if_neg h2, if_neg h2]
      obtain ⟨t1, e1, z1, l1⟩ := nset_ok (k := k) (x := x) h.sz (by rw [h.top]; exact h.srt) (by rw [h.tl]; omega)
      rw [e1]
      have h20 : c = 0 := by simpa using h2
      have h11 : ¬ (k.size : Int) < 1 := fun h' => h1 (by simp [h'])
      have h12 : ¬ (24 : Int) < (k.size : Int) := fun h' => h1 (by simp [h'])
      have hmk : ∀ L' : List moietyref09_Pair, L'.map kv = insL k x (pl t) → Rel { top := t1, room := t.Room } { L := L', Room := t.Room } (n + 1) ∧ (pl { L := L', Room := t.Room } = pl t ∨ (pl { L := L', Room := t.Room } = insL k x (pl t) ∧ some c = some (0 : Int) ∧ ¬ (k.size : Int) < 1 ∧ ¬ (24 : Int) < (k.size : Int))) := fun L' hL => by
        have hpl : pl { L := L', Room := t.Room } = insL k x (pl t) := hL
        refine ⟨⟨by rw [hpl, l1, h.top], z1, by rw [hpl]; exact ins_srt h.srt, ?_, rfl, ?_⟩, .inr ⟨hpl, by rw [h20], h11, h12⟩⟩
        · have := insL_len k x (pl t)
          rw [← hL, pl_len] at this
          simp at this
          show L'.length ≤ n + 1
          omega
        · intro q hq
          rw [hpl] at hq
          rcases ins_mem hq with rfl | hq
          · exact ⟨hx, hx2⟩
          · exact h.ok q hq
      rcases at_key x h.srt with ⟨p, a1, a2, a3, a4, _⟩ | ⟨a1, a2, a3, _⟩
      · have hi : rk k (pl t) < t.L.length := by
          have := (List.getElem?_eq_some_iff.1 a1).1
          rwa [pl_len] at this
        have hd : decide (((rk k (pl t) : Nat) : Int) < (t.L.length : Int)) = true := by simp; omega
        have hg : (pl t)[rk k (pl t)]? = some (kv t.L[rk k (pl t)]) := by rw [pl_get, List.getElem?_eq_getElem hi]; rfl
        rw [hg] at a1
        obtain rfl := Option.some.inj a1
        have he : sEq (t.L[rk k (pl t)]).Key k = true := sEq_iff.2 a2
        rw [a3, hd, idx_lt hi]
        simp only [getR, Bool.not_true, Bool.false_and, Bool.false_eq_true, if_false, gd_f, gd_t, Option.bind_some, he, Bool.and_self, Bool.true_and, if_true]
        rw [show (0 : Int) = ((0 : Nat) : Int) from rfl, cut_some (by omega) (by omega), wr1 (by omega)]
        simp only [Option.bind_some, List.nil_append, List.drop_zero, Nat.sub_zero, List.length_nil, Nat.zero_add, moietyref09_Shelf_Set_j1]
        rw [if_pos (by simp; omega), if_pos (by simp; omega), cut_some (by omega) (by omega)]
        have ht : (List.take (t.L.length - (rk k (pl t) + 1)) (List.drop (rk k (pl t) + 1) t.L)) = List.drop (rk k (pl t) + 1) t.L := List.take_of_length_le (by simp)
        simp only [Option.bind_some, ht, List.nil_append]
        rw [if_pos (by simp; omega)]
        refine ⟨_, _, 0, rfl, rfl, hmk _ ?_⟩
        rw [a4]; simp [take_map, drop_map, kv, pl]
      · rw [a2]
        simp only [getR, Bool.not_false, gd_t, Option.bind_some, Bool.true_and]
        have hne : (decide (((rk k (pl t) : Nat) : Int) < (t.L.length : Int)) && sEq (((gd (decide (((rk k (pl t) : Nat) : Int) < (t.L.length : Int))) (idx t.L ((rk k (pl t) : Nat) : Int))).getD default).Key) k) = false := by
          by_cases hi : rk k (pl t) < t.L.length
          · have hg : (pl t)[rk k (pl t)]? = some (kv t.L[rk k (pl t)]) := by rw [pl_get, List.getElem?_eq_getElem hi]; rfl
            have he : sEq (t.L[rk k (pl t)]).Key k = false := sEq_ne.2 (a1 _ hg)
            have hd : decide (((rk k (pl t) : Nat) : Int) < (t.L.length : Int)) = true := by simp; omega
            rw [hd, idx_lt hi]
            simp [gd, he]
          · have hd : decide (((rk k (pl t) : Nat) : Int) < (t.L.length : Int)) = false := by simp; omega
            rw [hd]; rfl
        have hex : ∃ e, gd (decide (((rk k (pl t) : Nat) : Int) < (t.L.length : Int))) (idx t.L ((rk k (pl t) : Nat) : Int)) = some e := by
          by_cases hi : rk k (pl t) < t.L.length
          · rw [idx_lt hi]
            cases decide (((rk k (pl t) : Nat) : Int) < (t.L.length : Int)) <;> exact ⟨_, rfl⟩
          · have hd : decide (((rk k (pl t) : Nat) : Int) < (t.L.length : Int)) = false := by simp; omega
            rw [hd]; exact ⟨_, rfl⟩
        obtain ⟨e, hee⟩ := hex
        rw [hee] at hne ⊢
        simp only [Option.getD_some] at hne
        simp only [Option.bind_some, hne, Bool.not_false, Bool.true_and]
        by_cases h5 : decide (t.Room ≤ (t.L.length : Int)) = true
        · rw [if_pos h5, if_pos h5]
          exact ⟨s, t, 8, rfl, rfl, h.mono (by omega), .inl rfl⟩
        · rw [if_neg h5, if_neg h5]
          rw [show (0 : Int) = ((0 : Nat) : Int) from rfl, cut_some (by omega) (by omega)]
          simp only [Option.bind_some, List.nil_append, List.drop_zero, Nat.sub_zero, List.length_nil, Nat.zero_add, moietyref09_Shelf_Set_j1, Bool.false_eq_true, if_false]
          rw [if_pos (by simp; omega), if_pos (by simp; omega), cut_some (by omega) (by omega)]
          have ht : (List.take (t.L.length - rk k (pl t)) (List.drop (rk k (pl t)) t.L)) = List.drop (rk k (pl t)) t.L := List.take_of_length_le (by simp)
          simp only [Option.bind_some, ht, List.nil_append]
          rw [if_pos (by simp; omega)]
          refine ⟨_, _, 0, rfl, rfl, hmk _ ?_⟩
          rw [a3]; simp [take_map, drop_map, kv, pl]
end Go.CL

/- The laws of the shelf: ShelfDoes. -/
set_option linter.unusedVariables false
set_option linter.unusedSimpArgs false
namespace Go.CL
open Go

theorem recLen {x : api_Record} (h : wf_api_Record x) : x.List.length ≤ 9223372036854775807 := by
  obtain ⟨_, _, _, _, _, _, _, h8, _⟩ := h
  simp only [maxLen] at h8; omega
theorem recOk_of {x : api_Record} (h : wf_api_Record x) (hl : x.List.length ≤ 100) : RecOk x := by
  obtain ⟨_, _, _, _, h5, _, _, h8, h9⟩ := h
  exact ⟨h5, by omega, fun e he => (h9 e he).1⟩
theorem do_ok {s : shelf_Shelf} {t : moietyref09_Shelf} {n : Nat} (h : Rel s t n) (hn : n < 1000000) {o : moietylaw09_Op} (hx : RecOk o.Rec) (hx2 : o.Rec.List.length ≤ 100) : ∃ s' t', moietylaw09_do s t o = some (s', t', true) ∧ Rel s' t' (n + 1) := by
  unfold moietylaw09_do
  by_cases hc : o.Cut = true
  · rw [if_pos hc]
    obtain ⟨s', t', b, e1, e2, r, _⟩ := cut_both h hn o.Key
    exact ⟨s', t', by rw [e1, e2]; simp, r.mono (by omega)⟩
  · rw [if_neg hc]
    obtain ⟨s', t', c, e1, e2, r, _⟩ := set_both h hn o.Key hx hx2
    exact ⟨s', t', by rw [e1, e2]; simp, r⟩
theorem eqL_refl : ∀ l : List api_Item, eqL l l = true
  | [] => rfl
  | x :: l => by simp [eqL, eqI, sEq_self, eqL_refl l]
theorem sameR_refl (a : api_Record) : sameR a a = true := by simp [sameR, sEq_self, eqL_refl]
theorem is_loop {s : shelf_Shelf} {t : moietyref09_Shelf} {m : Nat} (h : Rel s t m) (hm : m < 1000000) : ∀ (n i : Nat), i + n = t.L.length → moietylaw09_Is_l1 s t (n + 1) (i : Int) = some (.inr ())
  | 0, i, hi => by
    rw [moietylaw09_Is_l1, if_neg (by simp; omega)]
  | n + 1, i, hi => by
    have hb := h.len
    have h1 : i < t.L.length := by omega
    rw [moietylaw09_Is_l1, if_pos (by simp; omega), idx_lt h1, at_eq h.sz (by rw [h.tl]; omega) (by omega) (by omega) h.cl, wr1 (by omega), h.top, idxn, pl_get, List.getElem?_eq_getElem h1]
    have hq : kv t.L[i] ∈ pl t := by
      have : (pl t)[i]? = some (kv t.L[i]) := by rw [pl_get, List.getElem?_eq_getElem h1]; rfl
      exact List.mem_of_getElem? this
    have hr : RecOk (t.L[i]).Rec := (h.ok _ hq).1
    simp only [Option.map_some, atR, kv, Option.bind_some, Bool.not_true, sEq_self, Bool.or_self, Bool.not_false, gd_t]
    rw [rsame_rec hr hr, sameR_refl]
    simp only [Option.bind_some, Bool.not_true, Bool.false_or, Bool.false_eq_true, if_false]
    exact is_loop h hm n (i + 1) (by omega)
theorem is_ok {s : shelf_Shelf} {t : moietyref09_Shelf} {m : Nat} (h : Rel s t m) (hm : m < 1000000) : moietylaw09_Is s t = some 1 := by
  unfold moietylaw09_Is
  rw [slen_eq h]
  simp only [Option.bind_some, bne_self_eq_false, Bool.not_false, gd_t, shelf_Shelf_Room, h.room, Bool.or_self, Bool.false_eq_true, if_false]
  have := is_loop h hm t.L.length 0 (by omega)
  rw [show ((0 : Nat) : Int) = 0 from rfl] at this
  rw [show (Int.toNat ((t.L.length : Int) - (0 : Int)) + 1) = t.L.length + 1 by omega, this]
  rfl
/-- What 'big' tells. -/
theorem big_loop {l : List moietylaw09_Op} (hl : l.length ≤ 1000) (hw : ∀ o ∈ l, wf_moietylaw09_Op o) : ∀ (n i : Nat), i + n = l.length → (moietylaw09_big_l1 l (n + 1) (i : Int) = some (.inl true)) ∨ (moietylaw09_big_l1 l (n + 1) (i : Int) = some (.inr ()) ∧ ∀ o ∈ l.drop i, o.Rec.List.length ≤ 100)
  | 0, i, h => by
    right
    rw [moietylaw09_big_l1, if_neg (by simp; omega), List.drop_of_length_le (by omega)]
    exact ⟨rfl, fun o ho => by cases ho⟩
  | n + 1, i, h => by
    have h1 : i < l.length := by omega
    obtain ⟨c, e1, e2, e3⟩ := big03 (recLen (hw _ (List.getElem_mem h1)).2.2)
    rw [moietylaw09_big_l1, if_pos (by simp; omega), idx_lt h1, wr1 (by omega)]
    simp only [Option.bind_some]
    rw [e1]
    by_cases hk : decide ((100 : Int) < (l[i].Key.size : Int)) = true
    · left
      rw [hk]; simp [gd]
    · have hk' : decide ((100 : Int) < (l[i].Key.size : Int)) = false := by simpa using hk
      rw [hk']
      simp only [Bool.not_false, gd_t, Option.bind_some, Bool.false_or]
      rcases e2 with rfl | rfl
      · simp only [Int.lt_irrefl, decide_false, Bool.false_eq_true, if_false]
        rcases big_loop hl hw n (i + 1) (by omega) with h2 | ⟨h2, h3⟩
        · exact .inl h2
        · right
          refine ⟨h2, fun o ho => ?_⟩
          rw [List.drop_eq_getElem_cons h1] at ho
          rcases List.mem_cons.1 ho with rfl | ho
          · exact e3 rfl
          · exact h3 o ho
      · left; rfl
theorem big_eq {l : List moietylaw09_Op} (hw : ∀ o ∈ l, wf_moietylaw09_Op o) : moietylaw09_big l = some true ∨ (moietylaw09_big l = some false ∧ l.length ≤ 300 ∧ ∀ o ∈ l, o.Rec.List.length ≤ 100) := by
  unfold moietylaw09_big
  by_cases h : (300 : Int) < l.length
  · rw [if_pos (by simpa using h)]; exact .inl rfl
  · rw [if_neg (by simpa using h), show (Int.toNat ((l.length : Int) - (0 : Int)) + 1) = l.length + 1 by omega]
    have := big_loop (l := l) (by omega) hw l.length 0 (by omega)
    rw [show ((0 : Nat) : Int) = 0 from rfl] at this
    rcases this with h1 | ⟨h1, h2⟩
    · left; rw [h1]; rfl
    · right; rw [h1]; exact ⟨rfl, by omega, h2⟩
theorem speaks9 : moietylaw09_speaks = some true := by kernel_rfl
theorem does_loop {l : List moietylaw09_Op} (hl : l.length ≤ 300) (hw : ∀ o ∈ l, wf_moietylaw09_Op o) (hx : ∀ o ∈ l, o.Rec.List.length ≤ 100) : ∀ (n i : Nat) (s : shelf_Shelf) (t : moietyref09_Shelf), i + n = l.length → Rel s t i → moietylaw09_ShelfDoes_l1 l (n + 1) s t (i : Int) = some (.inr ())
  | 0, i, s, t, h, hr => by
    rw [moietylaw09_ShelfDoes_l1, if_neg (by simp; omega)]
  | n + 1, i, s, t, h, hr => by
    have h1 : i < l.length := by omega
    have hm := List.getElem_mem h1
    obtain ⟨s', t', e, hr'⟩ := do_ok hr (by omega) (recOk_of (hw _ hm).2.2 (hx _ hm)) (hx _ hm)
    rw [moietylaw09_ShelfDoes_l1, if_pos (by simp; omega), idx_lt h1, wr1 (by omega)]
    simp only [Option.bind_some]
    rw [e]
    simp only [Option.bind_some]
    rw [sget_eq hr', rget_eq hr' (by omega), is_ok hr' (by omega)]
    simp only [Option.bind_some, Bool.not_true, Bool.not_false, gd_t, Bool.false_or, bne_self_eq_false, Bool.or_false]
    have hz : RecOk zrec := ⟨by decide, by decide, fun e he => by cases he⟩
    have hg : RecOk (getR (lk l[i].Key (pl t'))).1 := by
      cases hq : lk l[i].Key (pl t') with
      | none => exact hz
      | some r =>
        rcases at_key (k := l[i].Key) default hr'.srt with ⟨p, a1, a2, a3, _⟩ | ⟨_, a2, _⟩
        · rw [hq] at a3
          obtain rfl := Option.some.inj a3
          exact (hr'.ok p (List.mem_of_getElem? a1)).1
        · rw [hq] at a2; cases a2
    have h10 : ((1 : Int) == 0) = false := rfl
    rw [h10]
    simp only [Bool.not_false, gd_t]
    rw [rsame_rec hg hg, sameR_refl]
    simp only [Option.bind_some, Bool.not_true, Bool.false_eq_true, if_false]
    exact does_loop hl hw hx n (i + 1) s' t' (by omega) hr'
/-- **ShelfDoes.** -/
theorem ShelfDoes_true (a0 : Int) (a1 : List moietylaw09_Op) (w0 : (IntKind.i64).min ≤ a0 ∧ a0 ≤ (IntKind.i64).max) (w1 : a1.length ≤ maxLen ∧ ∀ e0 ∈ a1, wf_moietylaw09_Op e0) : moietylaw09_ShelfDoes a0 a1 = some true := by
  unfold moietylaw09_ShelfDoes
  rw [speaks9]
  simp only [Option.bind_some, Bool.not_true, Bool.false_eq_true, if_false]
  rcases big_eq w1.2 with h | ⟨h, h1, h2⟩
  · rw [h]; rfl
  · rw [h]
    simp only [Option.bind_some, Bool.false_eq_true, if_false]
    have hloop : ∀ r : Int, moietylaw09_ShelfDoes_l1 a1 (Int.toNat ((a1.length : Int) - (0 : Int)) + 1) { top := .nil, room := r } { L := [], Room := r } 0 = some (.inr ()) := fun r => by
      have := does_loop h1 w1.2 h2 a1.length 0 _ _ (by omega) (rel_new r)
      rw [show ((0 : Nat) : Int) = 0 from rfl] at this
      rw [show (Int.toNat ((a1.length : Int) - (0 : Int)) + 1) = a1.length + 1 by omega, this]
    unfold shelf_New
    by_cases hr : a0 < 1 ∨ 4096 < a0
    · rw [if_pos (by simpa using hr)]
      have hq : (decide ((1 : Int) ≤ a0) && decide (a0 ≤ 4096)) = false := by simp; omega
      simp only [Option.bind_some, hq, shelf_Shelf_Room]
      simp only [hloop]
      rfl
    · rw [if_neg (by simpa using hr)]
      have hq : (decide ((1 : Int) ≤ a0) && decide (a0 ≤ 4096)) = true := by simp; omega
      simp only [Option.bind_some, hq, shelf_Shelf_Room]
      simp only [hloop]
      rfl
end Go.CL

/- ShelfHigh: the tree is even, so it isn't high. -/
set_option linter.unusedVariables false
set_option linter.unusedSimpArgs false
namespace Go.CL
open Go

def W (t : shelf_nodeT) : Nat := (toL t).length + 1
def Bal : shelf_nodeT → Prop
  | .nil => True
  | .node _ _ l r _ => Bal l ∧ Bal r ∧ W l ≤ 3 * W r ∧ W r ≤ 3 * W l
theorem made_bal {k : ByteArray} {x : api_Record} {l r : shelf_nodeT} (hl : Szd l) (hr : Szd r) (bl : (toL l).length < 1099511627776) (br : (toL r).length < 1099511627776) (Hl : Bal l) (Hr : Bal r) (n1 : W l ≤ 3 * W r) (n2 : W r ≤ 3 * W l) :
    ∃ t, shelf_made k x l r = some t ∧ Szd t ∧ toL t = toL l ++ (k, x) :: toL r ∧ Bal t := ⟨_, made_eq hl hr bl br, ⟨hl, hr, rfl⟩, rfl, ⟨Hl, Hr, n1, n2⟩⟩
theorem insL_len2 (k : ByteArray) (x : api_Record) : ∀ l : List KV, l.length ≤ (insL k x l).length
  | [] => by simp
  | p :: l => by
    have := insL_len2 k x l
    simp only [insL]
    split
    · simp
    · split <;> simp <;> omega
theorem delL_len2 (k : ByteArray) : ∀ l : List KV, l.length ≤ (delL k l).length + 1
  | [] => by simp
  | p :: l => by
    have := delL_len2 k l
    simp only [delL]
    split <;> simp <;> omega
theorem even_bal {k : ByteArray} {x : api_Record} {l r : shelf_nodeT} (hl : Szd l) (hr : Szd r) (bl : (toL l).length < 1099511627776) (br : (toL r).length < 1099511627776) (bs : (toL l).length + (toL r).length + 1 < 1099511627776)
    (Hl : Bal l) (Hr : Bal r) (n1 : W l ≤ 3 * W r + 3) (n2 : W r ≤ 3 * W l + 3) :
    ∃ t, shelf_even k x l r = some t ∧ Szd t ∧ toL t = toL l ++ (k, x) :: toL r ∧ Bal t := by
  unfold shelf_even
  rw [heavy_eq hr hl br bl, heavy_eq hl hr bl br]
  simp only [Option.bind_some]
  by_cases h1 : heavyB r l = true
  · have hlen : 0 < (toL r).length := by
      unfold heavyB at h1
      have := of_decide_eq_true h1
      omega
    obtain ⟨rk, rx, rl, rr, rs, rfl⟩ := nonnil hlen
    obtain ⟨s1, s2, s3⟩ := hr
    have e : (toL (shelf_nodeT.node rk rx rl rr rs)).length = (toL rl).length + (toL rr).length + 1 := by simp [toL]; omega
    obtain ⟨Ba, Bb, n3, n4⟩ := Hr
    have f1 : 3 * ((toL l).length + 1) < (toL (shelf_nodeT.node rk rx rl rr rs)).length + 1 := of_decide_eq_true h1
    simp only [W] at n1 n2 n3 n4
    rw [e] at br bs f1 n1 n2
    simp only [h1, gd_t, shelf_nodeT.un, Option.bind_some, if_true]
    rw [count_eq s1, count_eq s2]
    simp only [Option.bind_some, Bool.true_and]
    by_cases h2 : (decide (IntKind.i64.wrap (((toL rl).length : Int) + 1) < IntKind.i64.wrap (2 * IntKind.i64.wrap (((toL rr).length : Int) + 1)))) = true
    · rw [if_pos h2]
      have f2 : (toL rl).length + 1 < 2 * ((toL rr).length + 1) := by
        rw [wr (x := ((toL rr).length : Int) + 1) (by omega) (by omega), wr (x := ((toL rl).length : Int) + 1) (by omega) (by omega), wr (by omega) (by omega)] at h2
        have := of_decide_eq_true h2
        omega
      obtain ⟨t1, e1, z1, l1, Bt1⟩ := made_bal (k := k) (x := x) hl s1 bl (by omega) Hl Ba (by simp only [W]; omega) (by simp only [W]; omega)
      have b1 : (toL t1).length < 1099511627776 := by rw [l1]; simp; omega
      obtain ⟨t2, e2, z2, l2, Bt2⟩ := made_bal (k := rk) (x := rx) z1 s2 b1 (by omega) Bt1 Bb (by simp only [W, l1, List.length_append, List.length_cons]; omega) (by simp only [W, l1, List.length_append, List.length_cons]; omega)
      exact ⟨t2, by rw [e1]; simp only [Option.bind_some]; rw [e2]; rfl, z2, by rw [l2, l1]; simp [toL], Bt2⟩
    · rw [if_neg h2]
      have f2 : ¬ ((toL rl).length : Int) + 1 < 2 * ((toL rr).length + 1) := by
        rw [wr (x := ((toL rr).length : Int) + 1) (by omega) (by omega), wr (x := ((toL rl).length : Int) + 1) (by omega) (by omega), wr (by omega) (by omega)] at h2
        simpa using h2
      have hlen2 : 0 < (toL rl).length := by omega
      obtain ⟨lk, lx, ll, lr, ls, rfl⟩ := nonnil hlen2
      obtain ⟨q1, q2, q3⟩ := s1
      have e' : (toL (shelf_nodeT.node lk lx ll lr ls)).length = (toL ll).length + (toL lr).length + 1 := by simp [toL]; omega
      obtain ⟨Bc, Bd, n5, n6⟩ := Ba
      simp only [W] at n5 n6
      rw [e'] at br bs f1 f2 n1 n2 n3 n4 e
      simp only [shelf_nodeT.un, Option.bind_some]
      obtain ⟨t1, e1, z1, l1, Bt1⟩ := made_bal (k := k) (x := x) hl q1 bl (by omega) Hl Bc (by simp only [W]; omega) (by simp only [W]; omega)
      obtain ⟨t2, e2, z2, l2, Bt2⟩ := made_bal (k := rk) (x := rx) q2 s2 (by omega) (by omega) Bd Bb (by simp only [W]; omega) (by simp only [W]; omega)
      have b1 : (toL t1).length < 1099511627776 := by rw [l1]; simp; omega
      have b2 : (toL t2).length < 1099511627776 := by rw [l2]; simp; omega
      obtain ⟨t3, e3, z3, l3, Bt3⟩ := made_bal (k := lk) (x := lx) z1 z2 b1 b2 Bt1 Bt2 (by simp only [W, l1, l2, List.length_append, List.length_cons]; omega) (by simp only [W, l1, l2, List.length_append, List.length_cons]; omega)
      exact ⟨t3, by rw [e1]; simp only [Option.bind_some]; rw [e2]; simp only [Option.bind_some]; rw [e3]; rfl, z3, by rw [l3, l1, l2]; simp [toL], Bt3⟩
  · have h1' : heavyB r l = false := by simpa using h1
    simp only [h1', gd_f, Option.bind_some, Bool.false_and, Bool.false_eq_true, if_false]
    by_cases h3 : heavyB l r = true
    · have hlen : 0 < (toL l).length := by
        unfold heavyB at h3
        have := of_decide_eq_true h3
        omega
      obtain ⟨rk, rx, rl, rr, rs, rfl⟩ := nonnil hlen
      obtain ⟨s1, s2, s3⟩ := hl
      have e : (toL (shelf_nodeT.node rk rx rl rr rs)).length = (toL rl).length + (toL rr).length + 1 := by simp [toL]; omega
      obtain ⟨Ba, Bb, n3, n4⟩ := Hl
      have f1 : 3 * ((toL r).length + 1) < (toL (shelf_nodeT.node rk rx rl rr rs)).length + 1 := of_decide_eq_true h3
      simp only [W] at n1 n2 n3 n4
      rw [e] at bl bs f1 n1 n2
      simp only [h3, gd_t, shelf_nodeT.un, Option.bind_some, if_true]
      rw [count_eq s2, count_eq s1]
      simp only [shelf_node_count, shelf_nodeT.isNil, if_true, Option.bind_some, Bool.true_and]
      by_cases h2 : (decide (IntKind.i64.wrap (((toL rr).length : Int) + 1) < IntKind.i64.wrap (2 * IntKind.i64.wrap (((toL rl).length : Int) + 1)))) = true
      · rw [if_pos h2]
        have f2 : (toL rr).length + 1 < 2 * ((toL rl).length + 1) := by
          rw [wr (x := ((toL rl).length : Int) + 1) (by omega) (by omega), wr (x := ((toL rr).length : Int) + 1) (by omega) (by omega), wr (by omega) (by omega)] at h2
          have := of_decide_eq_true h2
          omega
        obtain ⟨t1, e1, z1, l1, Bt1⟩ := made_bal (k := k) (x := x) s2 hr (by omega) br Bb Hr (by simp only [W]; omega) (by simp only [W]; omega)
        have b1 : (toL t1).length < 1099511627776 := by rw [l1]; simp; omega
        obtain ⟨t2, e2, z2, l2, Bt2⟩ := made_bal (k := rk) (x := rx) s1 z1 (by omega) b1 Ba Bt1 (by simp only [W, l1, List.length_append, List.length_cons]; omega) (by simp only [W, l1, List.length_append, List.length_cons]; omega)
        exact ⟨t2, by rw [e1]; simp only [Option.bind_some]; rw [e2]; rfl, z2, by rw [l2, l1]; simp [toL], Bt2⟩
      · rw [if_neg h2]
        have f2 : ¬ ((toL rr).length : Int) + 1 < 2 * ((toL rl).length + 1) := by
          rw [wr (x := ((toL rl).length : Int) + 1) (by omega) (by omega), wr (x := ((toL rr).length : Int) + 1) (by omega) (by omega), wr (by omega) (by omega)] at h2
          simpa using h2
        have hlen2 : 0 < (toL rr).length := by omega
        obtain ⟨lk, lx, ll, lr, ls, rfl⟩ := nonnil hlen2
        obtain ⟨q1, q2, q3⟩ := s2
        have e' : (toL (shelf_nodeT.node lk lx ll lr ls)).length = (toL ll).length + (toL lr).length + 1 := by simp [toL]; omega
        obtain ⟨Bc, Bd, n5, n6⟩ := Bb
        simp only [W] at n5 n6
        rw [e'] at bl bs f1 f2 n1 n2 n3 n4 e
        simp only [shelf_nodeT.un, Option.bind_some]
        obtain ⟨t1, e1, z1, l1, Bt1⟩ := made_bal (k := rk) (x := rx) s1 q1 (by omega) (by omega) Ba Bc (by simp only [W]; omega) (by simp only [W]; omega)
        obtain ⟨t2, e2, z2, l2, Bt2⟩ := made_bal (k := k) (x := x) q2 hr (by omega) br Bd Hr (by simp only [W]; omega) (by simp only [W]; omega)
        have b1 : (toL t1).length < 1099511627776 := by rw [l1]; simp; omega
        have b2 : (toL t2).length < 1099511627776 := by rw [l2]; simp; omega
        obtain ⟨t3, e3, z3, l3, Bt3⟩ := made_bal (k := lk) (x := lx) z1 z2 b1 b2 Bt1 Bt2 (by simp only [W, l1, l2, List.length_append, List.length_cons]; omega) (by simp only [W, l1, l2, List.length_append, List.length_cons]; omega)
        exact ⟨t3, by rw [e1]; simp only [Option.bind_some]; rw [e2]; simp only [Option.bind_some]; rw [e3]; rfl, z3, by rw [l3, l1, l2]; simp [toL], Bt3⟩
    · have h3' : heavyB l r = false := by simpa using h3
      simp only [h3', gd_f, Option.bind_some, Bool.false_and, Bool.false_eq_true, if_false]
      have g1 : ¬ 3 * ((toL l).length + 1) < (toL r).length + 1 := fun h => h1 (decide_eq_true h)
      have g3 : ¬ 3 * ((toL r).length + 1) < (toL l).length + 1 := fun h => h3 (decide_eq_true h)
      obtain ⟨t1, e1, z1, l1, Bt1⟩ := made_bal (k := k) (x := x) hl hr bl br Hl Hr (by simp only [W]; omega) (by simp only [W]; omega)
      exact ⟨t1, by rw [e1]; simp [shelf_node_count, shelf_nodeT.isNil, shelf_nodeT.un, Option.bind_some, gd], z1, l1, Bt1⟩
theorem set_bal : ∀ (n : Nat) (t : shelf_nodeT) (k : ByteArray) (x : api_Record), t.hh < n → Szd t → Srt (toL t) → (toL t).length + 2 < 1099511627776 → Bal t →
    ∃ t', shelf_node_set_r n t k x = some t' ∧ Szd t' ∧ toL t' = insL k x (toL t) ∧ Bal t'
  | 0, t, k, x, h, _, _, _, _ => by omega
  | n + 1, .nil, k, x, _, _, _, _, _ => by
    obtain ⟨t1, e1, z1, l1, B1⟩ := made_bal (k := k) (x := x) (l := .nil) (r := .nil) trivial trivial (by simp [toL]) (by simp [toL]) trivial trivial (by decide) (by decide)
    refine ⟨t1, ?_, z1, by rw [l1]; rfl, B1⟩
    simp only [shelf_node_set_r, shelf_node_set_b, shelf_nodeT.isNil, if_true]
    rw [e1]; rfl
  | n + 1, .node nk nx l r s, k, x, hh, hz, hs, hb, hB => by
    obtain ⟨Bl, Br, m1, m2⟩ := hB
    simp only [W] at m1 m2
    obtain ⟨z1, z2, z3⟩ := hz
    simp only [toL] at hs hb
    obtain ⟨s1, s2, sA, sB⟩ := srt_app hs
    have hlen : (toL l ++ (nk, nx) :: toL r).length = (toL l).length + (toL r).length + 1 := by simp; omega
    rw [hlen] at hb
    simp only [shelf_nodeT.hh] at hh
    simp only [shelf_node_set_r, shelf_node_set_b, shelf_nodeT.isNil, shelf_nodeT.un, Bool.false_eq_true, if_false, Option.bind_some]
    by_cases h1 : sLt k nk = true
    · rw [if_pos h1]
      obtain ⟨t1, e1, y1, l1, B1⟩ := set_bal n l k x (by omega) z1 s1 (by omega) Bl
      have b1 := insL_len k x (toL l)
      have b2 := insL_len2 k x (toL l)
      rw [← l1] at b1 b2
      obtain ⟨t2, e2, y2, l2, B2⟩ := even_bal (k := nk) (x := nx) y1 z2 (by omega) (by omega) (by omega) B1 Br (by simp only [W]; omega) (by simp only [W]; omega)
      refine ⟨t2, by rw [e1]; simp only [Option.bind_some]; rw [e2]; rfl, y2, ?_, B2⟩
      rw [l2, l1]; simp only [toL]; rw [insL_lt (by exact h1)]
    · rw [if_neg h1]
      by_cases h2 : k = nk
      · subst h2
        have he : (!(sLt k k || sEq k k)) = false := by simp [sEq_self]
        rw [he]
        simp only [Bool.false_eq_true, if_false]
        obtain ⟨t1, e1, y1, l1, B1⟩ := made_bal (k := k) (x := x) z1 z2 (by omega) (by omega) Bl Br (by simp only [W]; omega) (by simp only [W]; omega)
        refine ⟨t1, by rw [e1]; rfl, y1, ?_, B1⟩
        rw [l1]; simp only [toL]
        rw [insL_skip _ (fun q hq => sA q hq), insL_eq rfl]
      · have h3 : sLt nk k = true := sLt_tri (by simpa using h1) h2
        have he : (!(sLt k nk || sEq k nk)) = true := by simp [sEq_ne.2 h2]; simpa using h1
        rw [he]
        simp only [if_true]
        obtain ⟨t1, e1, y1, l1, B1⟩ := set_bal n r k x (by omega) z2 s2 (by omega) Br
        have b1 := insL_len k x (toL r)
        have b2 := insL_len2 k x (toL r)
        rw [← l1] at b1 b2
        obtain ⟨t2, e2, y2, l2, B2⟩ := even_bal (k := nk) (x := nx) z1 y1 (by omega) (by omega) (by omega) Bl B1 (by simp only [W]; omega) (by simp only [W]; omega)
        refine ⟨t2, by rw [e1]; simp only [Option.bind_some]; rw [e2]; rfl, y2, ?_, B2⟩
        rw [l2, l1]; simp only [toL]
        rw [insL_skip _ (fun q hq => sLt_trans (sA q hq) h3), insL_gt h3]
theorem cut_bal : ∀ (n : Nat) (t : shelf_nodeT) (k : ByteArray), t.hh < n → Szd t → Srt (toL t) → (toL t).length + 2 < 1099511627776 → Bal t →
    ∃ t', shelf_node_cut_r n t k = some t' ∧ Szd t' ∧ toL t' = delL k (toL t) ∧ Bal t'
  | 0, t, k, h, _, _, _, _ => by omega
  | n + 1, .nil, k, _, _, _, _, _ => ⟨.nil, rfl, trivial, rfl, trivial⟩
  | n + 1, .node nk nx l r s, k, hh, hz, hs, hb, hB => by
    obtain ⟨Bl, Br, m1, m2⟩ := hB
    simp only [W] at m1 m2
    obtain ⟨z1, z2, z3⟩ := hz
    simp only [toL] at hs hb
    obtain ⟨s1, s2, sA, sB⟩ := srt_app hs
    have hlen : (toL l ++ (nk, nx) :: toL r).length = (toL l).length + (toL r).length + 1 := by simp; omega
    rw [hlen] at hb
    simp only [shelf_nodeT.hh] at hh
    simp only [shelf_node_cut_r, shelf_node_cut_b, shelf_nodeT.isNil, shelf_nodeT.un, Bool.false_eq_true, if_false, Option.bind_some]
    by_cases h1 : sLt k nk = true
    · rw [if_pos h1]
      obtain ⟨t1, e1, y1, l1, B1⟩ := cut_bal n l k (by omega) z1 s1 (by omega) Bl
      have b1 := delL_len k (toL l)
      have b2 := delL_len2 k (toL l)
      rw [← l1] at b1 b2
      obtain ⟨t2, e2, y2, l2, B2⟩ := even_bal (k := nk) (x := nx) y1 z2 (by omega) (by omega) (by omega) B1 Br (by simp only [W]; omega) (by simp only [W]; omega)
      refine ⟨t2, by rw [e1]; simp only [Option.bind_some]; rw [e2]; rfl, y2, ?_, B2⟩
      rw [l2, l1]; simp only [toL]; rw [delL_lt (by exact h1) (fun q hq => sB q hq)]
    · rw [if_neg h1]
      by_cases h2 : k = nk
      · subst h2
        have he : (!(sLt k k || sEq k k)) = false := by simp [sEq_self]
        rw [he]
        simp only [Bool.false_eq_true, if_false]
        have hdel : delL k (toL l ++ (k, nx) :: toL r) = toL l ++ toL r := by
          rw [delL_skip _ (fun q hq => sA q hq)]
          simp [delL, sEq_self]
        cases hl : l with
        | nil => exact ⟨r, by simp [shelf_nodeT.isNil, shelf_nodeT.un], z2, by show toL r = delL k (toL .nil ++ (k, nx) :: toL r); rw [← hl, hdel, hl]; rfl, Br⟩
        | node k2 x2 l2 r2 q2 =>
          cases hr : r with
          | nil => exact ⟨l, by simp [shelf_nodeT.isNil, shelf_nodeT.un, hl], z1, by rw [← hl, ← hr]; show toL l = delL k (toL l ++ (k, nx) :: toL r); rw [hdel, hr]; simp [toL], Bl⟩
          | node k3 x3 l3 r3 q3 =>
            rw [← hl, ← hr]
            have hn : r.isNil = false := by rw [hr]; rfl
            have hn1 : l.isNil = false := by rw [hl]; rfl
            obtain ⟨t', k', x', l', r', s', B, e1, e2, e3⟩ := first_ok (r.hh + 1) r (Nat.lt_succ_self _) hn
            subst e2
            have hf : shelf_node_first r = some (.node k' x' l' r' s') := by
              unfold shelf_node_first; rw [e1]; rfl
            obtain ⟨t1, c1, y1, l1, B1⟩ := cut_bal n r k' (by omega) z2 s2 (by omega) Br
            have hB : toL t1 = B := by rw [l1, e3]; simp [delL, sEq_self]
            have hBl : B.length + 1 = (toL r).length := by rw [e3]; simp
            obtain ⟨t2, c2, y2, l2, B2⟩ := even_bal (k := k') (x := x') z1 y1 (by omega) (by rw [hB]; omega) (by rw [hB]; omega) Bl B1 (by simp only [W, hB]; omega) (by simp only [W, hB]; omega)
            refine ⟨t2, ?_, y2, ?_, B2⟩
            · simp only [hf, Option.bind_some, shelf_nodeT.un, c1, c2]
              show (if l.isNil = true then some r else if r.isNil = true then some l else some t2) = some t2
              rw [hn, hn1]; rfl
            · show toL t2 = delL k (toL l ++ (k, nx) :: toL r)
              rw [hdel, l2, hB, e3]
      · have h3 : sLt nk k = true := sLt_tri (by simpa using h1) h2
        have he : (!(sLt k nk || sEq k nk)) = true := by simp [sEq_ne.2 h2]; simpa using h1
        rw [he]
        simp only [if_true]
        obtain ⟨t1, e1, y1, l1, B1⟩ := cut_bal n r k (by omega) z2 s2 (by omega) Br
        have b1 := delL_len k (toL r)
        have b2 := delL_len2 k (toL r)
        rw [← l1] at b1 b2
        obtain ⟨t2, e2, y2, l2, B2⟩ := even_bal (k := nk) (x := nx) z1 y1 (by omega) (by omega) (by omega) Bl B1 (by simp only [W]; omega) (by simp only [W]; omega)
        refine ⟨t2, by rw [e1]; simp only [Option.bind_some]; rw [e2]; rfl, y2, ?_, B2⟩
        rw [l2, l1]; simp only [toL]
        rw [delL_skip _ (fun q hq => sLt_trans (sA q hq) h3)]
        simp [delL, sEq_ne.2 h2]
theorem nset_bal {t : shelf_nodeT} {k : ByteArray} {x : api_Record} (hz : Szd t) (hs : Srt (toL t)) (hb : (toL t).length + 2 < 1099511627776) (hB : Bal t) :
    ∃ t', shelf_node_set t k x = some t' ∧ Bal t' := by
  obtain ⟨t', e, _, _, h⟩ := set_bal _ t k x (Nat.lt_succ_self _) hz hs hb hB
  exact ⟨t', e, h⟩
theorem ncut_bal {t : shelf_nodeT} {k : ByteArray} (hz : Szd t) (hs : Srt (toL t)) (hb : (toL t).length + 2 < 1099511627776) (hB : Bal t) :
    ∃ t', shelf_node_cut t k = some t' ∧ Bal t' := by
  obtain ⟨t', e, _, _, h⟩ := cut_bal _ t k (Nat.lt_succ_self _) hz hs hb hB
  exact ⟨t', e, h⟩
theorem scut_bal {s s' : shelf_Shelf} {t : moietyref09_Shelf} {n : Nat} {b : Bool} (h : Rel s t n) (hn : n < 1000000) (hB : Bal s.top) {k : ByteArray} (e : shelf_Shelf_Cut s k = some (s', b)) : Bal s'.top := by
  have hb := h.len
  unfold shelf_Shelf_Cut at e
  rw [sget_eq h] at e
  simp only [Option.bind_some] at e
  split at e
  · injection e with e; injection e with e1 e2; rw [← e1]; exact hB
  · obtain ⟨t1, c1, z1⟩ := ncut_bal (k := k) h.sz (by rw [h.top]; exact h.srt) (by rw [h.tl]; omega) hB
    rw [c1] at e
    simp only [Option.bind_some] at e
    injection e with e; injection e with e1 e2; rw [← e1]; exact z1
theorem sset_bal {s s' : shelf_Shelf} {t : moietyref09_Shelf} {n : Nat} {c : Int} (h : Rel s t n) (hn : n < 1000000) (hB : Bal s.top) {k : ByteArray} {x : api_Record} (hx : Cl x) (e : shelf_Shelf_Set s k x = some (s', c)) : Bal s'.top := by
  have hb := h.len
  obtain ⟨t1, c1, z1⟩ := nset_bal (k := k) (x := x) h.sz (by rw [h.top]; exact h.srt) (by rw [h.tl]; omega) hB
  unfold shelf_Shelf_Set at e
  rw [sget_eq h, slen_eq h, clone_eq hx] at e
  simp only [Option.bind_some] at e
  rw [c1] at e
  simp only [Option.bind_some] at e
  split at e
  · injection e with e; injection e with e1 e2; rw [← e1]; exact hB
  · obtain ⟨c2, d1, d2⟩ := Option.bind_eq_some_iff.1 e
    split at d2
    · injection d2 with d2; injection d2 with e1 e2; rw [← e1]; exact hB
    · obtain ⟨c3, d3, d4⟩ := Option.bind_eq_some_iff.1 d2
      split at d4
      · injection d4 with d4; injection d4 with e1 e2; rw [← e1]; exact hB
      · injection d4 with d4; injection d4 with e1 e2; rw [← e1]; exact z1
/-! ### how high -/
theorem high_pow : ∀ {t : shelf_nodeT}, Bal t → 4 ^ t.hh ≤ 3 ^ t.hh * W t
  | .nil, _ => by simp [shelf_nodeT.hh, W, toL]
  | .node k x l r s, ⟨hl, hr, n1, n2⟩ => by
    have a := high_pow hl
    have b := high_pow hr
    have w : W (.node k x l r s) = W l + W r := by simp [W, toL]; omega
    simp only [shelf_nodeT.hh, w]
    rcases Nat.le_total l.hh r.hh with h | h
    · rw [Nat.max_eq_right h, Nat.pow_succ, Nat.pow_succ]
      have h1 : 3 ^ r.hh * (4 * W r) ≤ 3 ^ r.hh * (3 * (W l + W r)) := Nat.mul_le_mul_left _ (by omega)
      have h2 : 3 ^ r.hh * (4 * W r) = 3 ^ r.hh * W r * 4 := by rw [Nat.mul_comm 4, Nat.mul_assoc]
      have h3 : 3 ^ r.hh * (3 * (W l + W r)) = 3 ^ r.hh * 3 * (W l + W r) := by rw [Nat.mul_assoc]
      have h4 := Nat.mul_le_mul_right 4 b
      omega
    · rw [Nat.max_eq_left h, Nat.pow_succ, Nat.pow_succ]
      have h1 : 3 ^ l.hh * (4 * W l) ≤ 3 ^ l.hh * (3 * (W l + W r)) := Nat.mul_le_mul_left _ (by omega)
      have h2 : 3 ^ l.hh * (4 * W l) = 3 ^ l.hh * W l * 4 := by rw [Nat.mul_comm 4, Nat.mul_assoc]
      have h3 : 3 ^ l.hh * (3 * (W l + W r)) = 3 ^ l.hh * 3 * (W l + W r) := by rw [Nat.mul_assoc]
      have h4 := Nat.mul_le_mul_right 4 a
      omega
theorem high_le {h L w : Nat} (hp : 4 ^ h ≤ 3 ^ h * w) (hw : w ≤ 2 ^ L) : h ≤ 3 * L := by
  refine Nat.le_of_not_lt fun hlt => ?_
  obtain ⟨d, rfl⟩ : ∃ d, h = 3 * L + 1 + d := ⟨h - (3 * L + 1), by omega⟩
  have h1 : 3 ^ (3 * L + 1 + d) * w ≤ 3 ^ (3 * L + 1 + d) * 2 ^ L := Nat.mul_le_mul_left _ hw
  have h2 : 4 ^ (3 * L + 1 + d) = 64 ^ L * (4 * 4 ^ d) := by rw [Nat.pow_add, Nat.pow_add, Nat.pow_mul]; simp [Nat.mul_assoc]
  have h3 : 3 ^ (3 * L + 1 + d) * 2 ^ L = 54 ^ L * (3 * 3 ^ d) := by
    rw [Nat.pow_add, Nat.pow_add, Nat.pow_mul, show (3 ^ 3 : Nat) = 27 from rfl, Nat.pow_one, Nat.mul_assoc (27 ^ L), Nat.mul_comm (27 ^ L), Nat.mul_assoc, ← Nat.mul_pow, Nat.mul_comm]
  have h4 : 54 ^ L ≤ 64 ^ L := Nat.pow_le_pow_left (by decide) L
  have h5 : 3 ^ d ≤ 4 ^ d := Nat.pow_le_pow_left (by decide) d
  have h6 : 0 < 4 ^ d := Nat.pow_pos (by decide)
  have h7 : 0 < 64 ^ L := Nat.pow_pos (by decide)
  have h8 : 54 ^ L * (3 * 3 ^ d) ≤ 64 ^ L * (3 * 3 ^ d) := Nat.mul_le_mul_right _ h4
  have h9 : 64 ^ L * (3 * 3 ^ d) < 64 ^ L * (4 * 4 ^ d) := Nat.mul_lt_mul_of_pos_left (by omega) h7
  omega
theorem high_loop : ∀ (n : Nat) (t : shelf_nodeT), t.hh < n → t.hh < 1000000 → shelf_node_high_r n t = some (t.hh : Int)
  | 0, t, h, _ => by omega
  | n + 1, .nil, _, _ => rfl
  | n + 1, .node k x l r s, h, hb => by
    simp only [shelf_nodeT.hh] at h hb
    simp only [shelf_node_high_r, shelf_node_high_b, shelf_nodeT.isNil, shelf_nodeT.un, Bool.false_eq_true, if_false, Option.bind_some]
    rw [high_loop n l (by omega) (by omega), high_loop n r (by omega) (by omega)]
    simp only [Option.bind_some, shelf_nodeT.hh]
    rw [wr (by omega) (by omega)]
    congr 1; omega
def lenOk (n : Nat) : Bool := match bits_Len (n : Int) with
  | some L => decide (0 ≤ L) && decide (n < 2 ^ L.toNat) && decide (L < 64)
  | none => false
theorem len_all : (List.range 303).all lenOk = true := by kernel_rfl
theorem len_ok {n : Nat} (h : n < 303) : ∃ L : Nat, bits_Len (n : Int) = some (L : Int) ∧ n < 2 ^ L ∧ L < 64 := by
  have := List.all_eq_true.1 len_all n (List.mem_range.2 h)
  unfold lenOk at this
  split at this
  · rename_i L hL
    simp only [Bool.and_eq_true, decide_eq_true_eq] at this
    exact ⟨L.toNat, by rw [hL]; congr 1; omega, this.1.2, by omega⟩
  · cases this
theorem high_step {s : shelf_Shelf} {t : moietyref09_Shelf} {n : Nat} (h : Rel s t n) (hn : n ≤ 301) (hB : Bal s.top) (x : Int) (kk : shelf_Shelf → Int → Option (Bool ⊕ Unit)) : moietylaw09_ShelfHigh_j1 x kk s = kk s (IntKind.i64.wrap (x + 1)) := by
  have hb := h.len
  have hl : (toL s.top).length = t.L.length := h.tl
  obtain ⟨L, e1, e2, e3⟩ := len_ok (n := t.L.length) (by omega)
  have hh : s.top.hh ≤ 3 * L := high_le (high_pow hB) (by simp only [W]; omega)
  have hi : shelf_Shelf_High s = some (s.top.hh : Int) := by
    unfold shelf_Shelf_High shelf_node_high
    rw [high_loop _ _ (Nat.lt_succ_self _) (by omega)]; rfl
  have h0 : decide ((s.top.hh : Int) < 0) = false := by simp
  have hw : IntKind.u64.wrap (t.L.length : Int) = (t.L.length : Int) := wru (by omega) (by omega)
  unfold moietylaw09_ShelfHigh_j1
  rw [hi, slen_eq h]
  simp only [Option.bind_some, h0, Bool.not_false, gd_t, Bool.false_or]
  rw [hw, e1]
  simp only [Option.bind_some]
  rw [wr (x := (3 : Int) * (L : Int)) (by omega) (by omega), if_neg (by simp; omega)]
theorem high_law {l : List moietylaw09_Op} (hl : l.length ≤ 300) (hw : ∀ o ∈ l, wf_moietylaw09_Op o) (hx : ∀ o ∈ l, o.Rec.List.length ≤ 100) : ∀ (n i : Nat) (s : shelf_Shelf) (t : moietyref09_Shelf), i + n = l.length → Rel s t i → Bal s.top → moietylaw09_ShelfHigh_l1 l (n + 1) s (i : Int) = some (.inr ())
  | 0, i, s, t, h, hr, hB => by
    rw [moietylaw09_ShelfHigh_l1, if_neg (by simp; omega)]
  | n + 1, i, s, t, h, hr, hB => by
    have h1 : i < l.length := by omega
    have hm := List.getElem_mem h1
    have hc : Cl l[i].Rec := by have := hx _ hm; unfold Cl; omega
    rw [moietylaw09_ShelfHigh_l1, if_pos (by simp; omega), idx_lt h1]
    simp only [Option.bind_some]
    by_cases hcut : l[i].Cut = true
    · rw [if_pos hcut]
      obtain ⟨s', t', b, e1, e2, r, _⟩ := cut_both hr (by omega) l[i].Key
      have hB' := scut_bal hr (by omega) hB e1
      rw [e1]
      simp only [Option.bind_some]
      rw [high_step r (by omega) hB', wr1 (by omega)]
      exact high_law hl hw hx n (i + 1) s' t' (by omega) (r.mono (by omega)) hB'
    · rw [if_neg hcut]
      obtain ⟨s', t', c, e1, e2, r, _⟩ := set_both hr (by omega) l[i].Key (recOk_of (hw _ hm).2.2 (hx _ hm)) (hx _ hm)
      have hB' := sset_bal hr (by omega) hB hc e1
      rw [e1]
      simp only [Option.bind_some]
      rw [high_step r (by omega) hB', wr1 (by omega)]
      exact high_law hl hw hx n (i + 1) s' t' (by omega) r hB'
/-- **ShelfHigh.** -/
theorem ShelfHigh_true (a0 : List moietylaw09_Op) (w0 : a0.length ≤ maxLen ∧ ∀ e0 ∈ a0, wf_moietylaw09_Op e0) : moietylaw09_ShelfHigh a0 = some true := by
  unfold moietylaw09_ShelfHigh
  rw [speaks9]
  simp only [Option.bind_some, Bool.not_true, Bool.false_eq_true, if_false]
  rcases big_eq w0.2 with h | ⟨h, h1, h2⟩
  · rw [h]; rfl
  · rw [h]
    have hn : shelf_New 4096 = some ({ top := .nil, room := 4096 }, 0) := rfl
    simp only [Option.bind_some, Bool.false_eq_true, if_false, hn]
    have := high_law h1 w0.2 h2 a0.length 0 _ _ (by omega) (rel_new 4096) trivial
    rw [show ((0 : Nat) : Int) = 0 from rfl] at this
    rw [show (Int.toNat ((a0.length : Int) - (0 : Int)) + 1) = a0.length + 1 by omega, this]
    rfl
end Go.CL

set_option linter.unusedVariables false
set_option linter.unusedSimpArgs false
set_option maxRecDepth 100000
namespace Go.CL
open Go Go.RowKit Go.Proofs Go.ChangeShapes Go.WideShapes Go.ChangeAt
theorem Try_own : ownKnob Try.prog.godebug = none := by kernel_rfl
theorem Try_laid : laidOutB Try.prog = true := by kernel_rfl
theorem op_4 : Opn Try.prog 4 Kd.bool (fun x => True) := opn_bool Try.underlying4 (by kernel_rfl)
theorem op_9 : Opn Try.prog 9 Kd.str (fun x => (x.size ≤ maxLen)) := opn_str Try.underlying9 (by kernel_rfl)
theorem op_3 : Opn Try.prog 3 (Kd.int .i64) (fun x => ((IntKind.i64).min ≤ x ∧ x ≤ (IntKind.i64).max)) := opn_int Try.underlying3 (by kernel_rfl)
theorem op_2 : Opn Try.prog 2 (Kd.int .i64) (fun x => ((IntKind.i64).min ≤ x ∧ x ≤ (IntKind.i64).max)) := opn_int Try.underlying2 (by kernel_rfl)
theorem op_35 : Opn Try.prog 35 Kd.flt (fun x => (x < 2 ^ 64)) := opn_flt Try.underlying35 (by kernel_rfl)
theorem op_64 : Opn Try.prog 64 k_api_Item wf_api_Item := ⟨by kernel_rfl, fun hg h => by
  obtain ⟨hl, n, hf⟩ := opn_fields Try.underlying64 h
  obtain ⟨y0, h0⟩ := hf 0 _ rfl
  obtain ⟨v0, k0, w0⟩ := op_35.op hg h0
  obtain ⟨y1, h1⟩ := hf 1 _ rfl
  obtain ⟨v1, k1, w1⟩ := op_9.op hg h1
  refine ⟨⟨v0, v1⟩, ⟨hl.trans (by kernel_rfl), (List.forall_mem_cons.2 ⟨k0, (List.forall_mem_cons.2 ⟨k1, (fun _ h => by cases h)⟩)⟩)⟩, w0, w1⟩, fun h => fm_struct Try.underlying64 h⟩
theorem op_36 : Opn Try.prog 36 k_api_Item.sl (fun x => (x.length ≤ maxLen ∧ ∀ e0 ∈ x, (wf_api_Item e0))) := opn_sl Try.underlying36 (by kernel_rfl) op_64 (by decide)
theorem op_38 : Opn Try.prog 38 k_api_Record wf_api_Record := ⟨by kernel_rfl, fun hg h => by
  obtain ⟨hl, n, hf⟩ := opn_fields Try.underlying38 h
  obtain ⟨y0, h0⟩ := hf 0 _ rfl
  obtain ⟨v0, k0, w0⟩ := op_3.op hg h0
  obtain ⟨y1, h1⟩ := hf 1 _ rfl
  obtain ⟨v1, k1, w1⟩ := op_2.op hg h1
  obtain ⟨y2, h2⟩ := hf 2 _ rfl
  obtain ⟨v2, k2, w2⟩ := op_2.op hg h2
  obtain ⟨y3, h3⟩ := hf 3 _ rfl
  obtain ⟨v3, k3, w3⟩ := op_2.op hg h3
  obtain ⟨y4, h4⟩ := hf 4 _ rfl
  obtain ⟨v4, k4, w4⟩ := op_35.op hg h4
  obtain ⟨y5, h5⟩ := hf 5 _ rfl
  obtain ⟨v5, k5, w5⟩ := op_3.op hg h5
  obtain ⟨y6, h6⟩ := hf 6 _ rfl
  obtain ⟨v6, k6, w6⟩ := op_9.op hg h6
  obtain ⟨y7, h7⟩ := hf 7 _ rfl
  obtain ⟨v7, k7, w7⟩ := op_36.op hg h7
  refine ⟨⟨v0, v1, v2, v3, v4, v5, v6, v7⟩, ⟨hl.trans (by kernel_rfl), (List.forall_mem_cons.2 ⟨k0, (List.forall_mem_cons.2 ⟨k1, (List.forall_mem_cons.2 ⟨k2, (List.forall_mem_cons.2 ⟨k3, (List.forall_mem_cons.2 ⟨k4, (List.forall_mem_cons.2 ⟨k5, (List.forall_mem_cons.2 ⟨k6, (List.forall_mem_cons.2 ⟨k7, (fun _ h => by cases h)⟩)⟩)⟩)⟩)⟩)⟩)⟩)⟩)⟩, w0, w1, w2, w3, w4, w5, w6, w7⟩, fun h => fm_struct Try.underlying38 h⟩
theorem op_40 : Opn Try.prog 40 k_moietylaw09_Op wf_moietylaw09_Op := ⟨by kernel_rfl, fun hg h => by
  obtain ⟨hl, n, hf⟩ := opn_fields Try.underlying40 h
  obtain ⟨y0, h0⟩ := hf 0 _ rfl
  obtain ⟨v0, k0, w0⟩ := op_4.op hg h0
  obtain ⟨y1, h1⟩ := hf 1 _ rfl
  obtain ⟨v1, k1, w1⟩ := op_9.op hg h1
  obtain ⟨y2, h2⟩ := hf 2 _ rfl
  obtain ⟨v2, k2, w2⟩ := op_38.op hg h2
  refine ⟨⟨v0, v1, v2⟩, ⟨hl.trans (by kernel_rfl), (List.forall_mem_cons.2 ⟨k0, (List.forall_mem_cons.2 ⟨k1, (List.forall_mem_cons.2 ⟨k2, (fun _ h => by cases h)⟩)⟩)⟩)⟩, w0, w1, w2⟩, fun h => fm_struct Try.underlying40 h⟩
theorem op_22 : Opn Try.prog 22 k_moietylaw09_Op.sl (fun x => (x.length ≤ maxLen ∧ ∀ e0 ∈ x, (wf_moietylaw09_Op e0))) := opn_sl Try.underlying22 (by kernel_rfl) op_40 (by decide)
theorem ShelfHigh_ret (os : Os) (started : os.Started) (H : Type) (enc : TypeId × Value → H) :
    ReturnsInHanded {} Try.checked os 7 .any (Go.Proofs.Ytlphnpmegolfmaa.Rows.shelfHighSpec.pre6 enc Try.prog Try.f7 Go.Proofs.Ytlphnpmegolfmaa.Rows.shelfHighRow.domain false) (Go.Proofs.Ytlphnpmegolfmaa.Rows.shelfHighSpec.post enc Try.prog Try.f7 false true false false) := by
  refine returnsInHanded_of_change (C := Try.checked) Try_own started (by kernel_rfl) Try.func7
    (ChangeSpec.witness6 (enc := enc) (C := Try.checked) false ⟨#[], #[.slice none 0 0], []⟩ 8 (by kernel_rfl) (by kernel_rfl) (by kernel_rfl) (by kernel_rfl)) ?_
  intro W base args ds gs before hval0 hW hcnd _
  have hval : ∀ (j : Nat) t v, Try.f7.params[j]? = some t → args[j]? = some v → Value.okWide Try.prog W .any base t v := hval0
  have hW' := hW
  obtain ⟨p0, q, hA0, hV, rfl, hfz, hnd⟩ := hW
  have hA : DataW.TrodAll enc Try.prog W 0 (fun _ => true) true Try.f7.params.toList args.toList ds p0 := hA0
  rw [Try.params7] at hA hval
  obtain ⟨v0, d0, rfl, rfl, h0⟩ := trodAll_one hA
  obtain ⟨rfl, rfl⟩ := trodVars_none hV
  simp only [List.append_nil] at hW'
  have hg : GLok W (fun b _ => b < W.heap.size) := (glok_nil rfl W _)
  have hk0 := h0
  obtain ⟨a0, q0, w0⟩ := arg_of op_22 hg h0 (hval 0 22 v0 rfl rfl)
  refine (moietylaw09_ShelfHigh_ok a0 (ShelfHigh_true a0 w0) (GW W hg) [v0] (argsOk_cons q0 argsOk_nil)).mono fun e W' ⟨g', v, he, hw, hs, hq⟩ => ?_
  subst he; subst hw
  rw [pBool_iff.1 hq]
  have hbel := below_of hs
  have hlt : ∀ x ∈ (p0), x.block < W.heap.size := fun x hx => by simpa using hW'.lt x hx
  exact ⟨_, rfl, post_of_below (pv := []) hW' hbel (trodAll_mk1 (shut_bool Try.underlying4 true)) (trodAll_mk1 (Below.trod Try_laid (by kernel_rfl) (of_decide_eq_true (by kernel_rfl)) hk0 hbel (fun x hx => hlt x (by simp [hx])))) rfl⟩
theorem ShelfHigh_holds : Go.Proofs.Ytlphnpmegolfmaa.Rows.ShelfHighSaid :=
  OpenClaim.holds_of_wide 7 Try.f7 rfl rfl rfl rfl rfl rfl rfl ⟨rfl, rfl, rfl, rfl, rfl⟩ rfl rfl rfl rfl rfl (by kernel_rfl) Try.func7 (by kernel_rfl)
    (of_decide_eq_true (by kernel_rfl)) (by unfold Func.isWrapper; first | (rw [if_pos (by decide +kernel)]; kernel_rfl) | (rw [if_neg (by decide +kernel)]; exact ⟨rfl, rfl⟩))
    (fun os started H enc _ => ShelfHigh_ret os started H enc)
end Go.CL
