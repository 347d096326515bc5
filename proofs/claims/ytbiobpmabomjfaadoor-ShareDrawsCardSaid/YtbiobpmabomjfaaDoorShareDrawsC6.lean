/- A part of the proof of ShareDraws. -/
import Derived.Test.YtbiobpmabomjfaaDoorShareDrawsC5
import Derived.KernelRfl
import Derived.Laws.Strings
set_option linter.unusedVariables false
set_option linter.unusedSimpArgs false
set_option maxRecDepth 100000
namespace Go.CL
open Go Go.RowKit Go.Proofs
theorem Zm4 (a0 : Ze) {r : Int × Int} (h : Zga a0 = some r) : FnOk Tryd.prog 55 [(Zg.pd a0)] (pTup [(pInt .u64 r.1), (pInt .u64 r.2)]) := by
 have H0 := h
 unfold Zga at H0
 clear h
 refine Zbt (N := 60) Tryd.func55 rfl rfl (Nat.le_of_ble_eq_true rfl) rfl rfl (fun a g0 hst hb => ?_)
 refine r_s (T := [⟨[.old 0], _, [], [], [1]⟩, ⟨[], _, [], [], [2]⟩, ⟨[], _, [], [1], [3]⟩]) (F := [.op 0 0]) hst hb Za
   (o_p rfl (Zbq rfl rfl u_0) <| o_p rfl (Zb rfl rfl c_i) <| o_p rfl (Zb rfl rfl c_i) <| o_n) (by kernel_rfl) (fun a g hst hb => ?_)
 refine wp_seq ?_
 refine r_s (T := [⟨[.old 0], _, [], [], [6]⟩, ⟨[.op 0 0], _, [], [0], [7]⟩]) (F := [.old 0, .op 1 0]) hst hb Za
   (o_p rfl (Zd Zc9 rfl rfl u_0) <| o_p rfl (Zf ty_3 rfl rfl u_0) <| o_n) (by kernel_rfl) (fun a g hst hb => ?_)
 refine wp_block ?_
 refine r_s (T := [⟨[.old 1], _, [], [], [9]⟩, ⟨[.op 0 0], _, [], [0], [8]⟩]) (F := [.old 0, .old 1, .op 1 0]) hst hb Za
   (o_p rfl (Z7 rfl rfl u_0 c_i) <| o_p rfl (Zb rfl rfl u_0) <| o_n) (by kernel_rfl) (fun a g hst hb => ?_)
 refine wp_cond_split (hst.bool 2 rfl) (fun hc1 => ?_) (fun hc1 => ?_)
 · replace H0 := Zp hc1 H0
   refine r_s (L := [(1, _)]) (T := [⟨[], _, [], [], [4]⟩]) (F := [.old 0, .op 0 0]) (hst.pick [0] rfl) hb Za
     (o_p rfl (Zb rfl rfl c_i) <| o_n) (by kernel_rfl) (fun a g hst hb => ?_)
   refine wp_seq ?_
   refine r_s (T := [⟨[.old 0], _, [], [], [10]⟩, ⟨[.op 0 0], _, [], [0], [11]⟩, ⟨[.op 1 0], _, [], [0, 1], [12]⟩]) (F := [.old 0, .old 1, .op 2 0]) hst hb Za
     (o_p rfl (Zd Zb8 rfl rfl u_0) <| o_p rfl (Zf ty_2 rfl rfl u_0) <| o_p rfl (Zb6 rfl rfl u_0 c_i) <| o_n) (by kernel_rfl) (fun a g hst hb => ?_)
   refine wp_cond_split (hst.bool 2 rfl) (fun hc2 => ?_) (fun hc2 => ?_)
   · replace H0 := Zp hc2 H0
     refine r_s (L := [(1, _), (4, _)]) (T := [⟨[.old 0], _, [], [], [13]⟩, ⟨[.op 0 0], _, [], [0], [14]⟩, ⟨[.op 1 0], _, [], [0, 1], [15]⟩, ⟨[.op 2 0], _, [], [0, 1, 2], [16]⟩, ⟨[.op 3 0], _, [], Lr 4, [17]⟩, ⟨[.op 4 0], _, [], Lr 5, [18]⟩, ⟨[.op 5 0], _, [], Lr 6, [5]⟩]) (F := [.old 1, .op 6 0]) (hst.pick [0, 1] rfl) hb Za
       (o_p rfl (Zd Zb8 rfl rfl u_0) <| o_p rfl (Zf ty_2 rfl rfl u_0) <| o_p rfl (Zck rfl rfl u_0 c_i rfl) <| o_p rfl (Znz rfl rfl u_0 rfl) <| o_p rfl (Zdc Tryd.underlying2 Tryd.underlying62 rfl rfl u_0 rfl) <| o_p rfl (Zck rfl rfl u_0 c_i rfl) <| o_p rfl (Zb rfl rfl u_0) <| o_n) (by kernel_rfl) (fun a g hst hb => ?_)
     refine r_s (T := [⟨[.old 0], _, [], [], [19]⟩, ⟨[.op 0 0], _, [], [0], [20]⟩, ⟨[.old 1], _, [], [], [21]⟩, ⟨[.op 1 0, .op 2 0], _, [], [0, 1, 2], [22]⟩, ⟨[.old 0], _, [], [], [23]⟩, ⟨[.old 1], _, [], [], [24]⟩, ⟨[.op 4 0, .op 5 0], _, [], [4, 5], [25]⟩, ⟨[.op 3 0], _, [], Lr 4, [2]⟩, ⟨[.op 6 0], _, [], Lr 8, [3]⟩]) (F := [.op 7 0, .op 8 0]) hst hb Za
       (o_p rfl (Zc rfl rfl u_0) <| o_p rfl (Zdt rfl rfl u_0 c_i rfl) <| o_p rfl (Zc rfl rfl u_0) <| o_p rfl (Zck rfl rfl u_0 u_1 rfl) <| o_p rfl (Zc rfl rfl u_0) <| o_p rfl (Zc rfl rfl u_0) <| o_p rfl (Zdt rfl rfl u_0 u_1 rfl) <| o_p rfl (Zb rfl rfl u_0) <| o_p rfl (Zb rfl rfl u_0) <| o_n) (by kernel_rfl) (fun a g hst hb => ?_)
     refine wp_ret ?_
     refine Zk ?_
     refine Zo ?_
     refine Zk ?_
     obtain rfl := Option.some.inj H0
     exact Zdr rfl hst hb (Zh (s := 2)) (Zh (s := 3)) (Zc1 (hst.at 0 rfl) (hst.at 1 rfl))
   · replace H0 := Zq hc2 H0
     refine wp_skip ?_
     refine Zn ?_
     refine r_s (L := [(1, _), (4, _)]) (T := ⟨[.old 1], _, [], [], [26]⟩ :: ⟨[.op 0 0], _, [], [0], [27]⟩ :: ⟨[.old 0], _, [], [], [28]⟩ :: ⟨[.op 2 0], _, [], [2], [29]⟩ :: ⟨[.op 3 0], _, [], [2, 3], [30]⟩ :: ⟨[.op 1 0, .op 4 0], _, [], Lr 5, [31]⟩ :: ⟨[.old 1], _, [], [], [32]⟩ :: ⟨[.old 0], _, [], [], [33]⟩ :: ⟨[.op 7 0], _, [], [7], [34]⟩ :: ⟨[.op 8 0], _, [], [7, 8], [35]⟩ :: ⟨[.op 6 0, .op 9 0], _, [], List.range' 6 4, [36]⟩ :: ⟨[.op 5 0], _, [], Lr 6, [2]⟩ :: ⟨[.op 10 0], _, [], Lr 12, [3]⟩ :: []) (F := [.op 11 0, .op 12 0]) (hst.pick [0, 1] rfl) hb Za
       (o_p rfl (Zc rfl rfl u_0) <| o_p rfl (Zdt rfl rfl u_0 c_i rfl) <| o_p rfl (Zd Zb8 rfl rfl u_0) <| o_p rfl (Zf ty_2 rfl rfl u_0) <| o_p rfl (Zdc Tryd.underlying2 Tryd.underlying62 rfl rfl u_0 rfl) <| o_p rfl (Zdt rfl rfl u_0 u_1 rfl) <| o_p rfl (Zc rfl rfl u_0) <| o_p rfl (Zd Zb8 rfl rfl u_0) <| o_p rfl (Zf ty_2 rfl rfl u_0) <| o_p rfl (Zdc Tryd.underlying2 Tryd.underlying62 rfl rfl u_0 rfl) <| o_p rfl (Zck rfl rfl u_0 u_1 rfl) <| o_p rfl (Zb rfl rfl u_0) <| o_p rfl (Zb rfl rfl u_0) <| o_n) (by kernel_rfl) (fun a g hst hb => ?_)
     refine wp_ret ?_
     refine Zo ?_
     refine Zk ?_
     obtain rfl := Option.some.inj H0
     exact Zdr rfl hst hb (Zh (s := 2)) (Zh (s := 3)) (Zc1 (hst.at 0 rfl) (hst.at 1 rfl))
 · replace H0 := Zq hc1 H0
   refine r_s (L := [(1, _), (7, _)]) (T := [⟨[.old 1], _, [], [], [38]⟩, ⟨[.op 0 0], _, [], [0], [37]⟩]) (F := [.old 0, .old 1, .op 1 0]) (hst.pick [0, 1] rfl) hb Za
     (o_p rfl (Z7 rfl rfl u_0 c_i) <| o_p rfl (Zb rfl rfl u_0) <| o_n) (by kernel_rfl) (fun a g hst hb => ?_)
   refine wp_cond_split (hst.bool 2 rfl) (fun hc3 => ?_) (fun hc3 => ?_)
   · replace H0 := Zp hc3 H0
     refine r_s (L := [(1, _)]) (T := ⟨[.old 0], _, [], [], [39]⟩ :: ⟨[.op 0 0], _, [], [0], [40]⟩ :: ⟨[.old 0], _, [], [], [41]⟩ :: ⟨[.op 2 0], _, [], [2], [42]⟩ :: ⟨[.op 1 0, .op 3 0], _, [], Lr 4, [43]⟩ :: ⟨[.op 4 0], _, [], Lr 5, [44]⟩ :: ⟨[.old 0], _, [], [], [45]⟩ :: ⟨[.op 6 0], _, [], [6], [46]⟩ :: ⟨[.old 0], _, [], [], [47]⟩ :: ⟨[.op 8 0], _, [], [8], [48]⟩ :: ⟨[.op 7 0, .op 9 0], _, [], List.range' 6 4, [49]⟩ :: ⟨[.op 10 0], _, [], List.range' 6 5, [50]⟩ :: ⟨[.op 5 0], _, [], Lr 6, [2]⟩ :: ⟨[.op 11 0], _, [], Lr 13, [3]⟩ :: []) (F := [.op 12 0, .op 13 0]) (hst.pick [0] rfl) hb Za
       (o_p rfl (Zd Zf6 rfl rfl u_0) <| o_p rfl (Zf ty_2 rfl rfl u_0) <| o_p rfl (Zd Zb8 rfl rfl u_0) <| o_p rfl (Zf ty_2 rfl rfl u_0) <| o_p rfl (Zdt rfl rfl u_0 u_1 rfl) <| o_p rfl (Zdc Tryd.underlying2 Tryd.underlying62 rfl rfl u_0 rfl) <| o_p rfl (Zd Zb8 rfl rfl u_0) <| o_p rfl (Zf ty_2 rfl rfl u_0) <| o_p rfl (Zd Zf5 rfl rfl u_0) <| o_p rfl (Zf ty_2 rfl rfl u_0) <| o_p rfl (Zdt rfl rfl u_0 u_1 rfl) <| o_p rfl (Zdc Tryd.underlying2 Tryd.underlying62 rfl rfl u_0 rfl) <| o_p rfl (Zb rfl rfl u_0) <| o_p rfl (Zb rfl rfl u_0) <| o_n) (by kernel_rfl) (fun a g hst hb => ?_)
     refine wp_ret ?_
     refine Zo ?_
     refine Zk ?_
     obtain rfl := Option.some.inj H0
     exact Zdr rfl hst hb (Zh (s := 2)) (Zh (s := 3)) (Zc1 (hst.at 0 rfl) (hst.at 1 rfl))
   · replace H0 := Zq hc3 H0
     refine r_s (L := [(1, _), (7, _)]) (T := [⟨[.old 1], _, [], [], [52]⟩, ⟨[.op 0 0], _, [], [0], [51]⟩]) (F := [.old 0, .op 1 0]) (hst.pick [0, 1] rfl) hb Za
       (o_p rfl (Z7 rfl rfl u_0 c_i) <| o_p rfl (Zb rfl rfl u_0) <| o_n) (by kernel_rfl) (fun a g hst hb => ?_)
     refine wp_cond_split (hst.bool 1 rfl) (fun hc4 => ?_) (fun hc4 => ?_)
     · replace H0 := Zp hc4 H0
       refine r_s (L := [(1, _)]) (T := [⟨[.old 0], _, [], [], [53]⟩, ⟨[.op 0 0], _, [], [0], [54]⟩, ⟨[.old 0], _, [], [], [55]⟩, ⟨[.op 2 0], _, [], [2], [56]⟩, ⟨[.op 3 0], _, [], [2, 3], [57]⟩, ⟨[.op 1 0, .op 4 0], _, [], Lr 5, [58]⟩, ⟨[.op 5 0], _, [], Lr 6, [59]⟩, ⟨[.op 6 0], _, [], Lr 7, [2]⟩, ⟨[], _, [], Lr 8, [3]⟩]) (F := [.op 7 0, .op 8 0]) (hst.pick [0] rfl) hb Za
         (o_p rfl (Zd Zef rfl rfl u_0) <| o_p rfl (Zf ty_3 rfl rfl u_0) <| o_p rfl (Zd Zb3 rfl rfl u_0) <| o_p rfl (Zf Zcz rfl rfl u_0) <| o_p rfl (Zco Tryd.underlying23 rfl rfl u_0) <| o_p rfl (Zdt rfl rfl u_0 u_1 rfl) <| o_p rfl (Zdc Tryd.underlying3 Tryd.underlying62 rfl rfl u_0 rfl) <| o_p rfl (Zb rfl rfl u_0) <| o_p rfl (Zb rfl rfl c_i) <| o_n) (by kernel_rfl) (fun a g hst hb => ?_)
       refine wp_ret ?_
       refine Zo ?_
       refine Zk ?_
       obtain rfl := Option.some.inj H0
       exact Zdr rfl hst hb (Zh (s := 2)) (Zh (s := 3)) (Zc1 (hst.at 0 rfl) (hst.at 1 rfl))
     · replace H0 := Zq hc4 H0
       refine wp_skip ?_
       refine Zbg ?_
       refine Zn ?_
       refine r_s (L := []) (T := [⟨[], _, [], [], [2]⟩, ⟨[], _, [], [0], [3]⟩]) (F := [.op 0 0, .op 1 0]) (hst.pick [] rfl) hb Za
         (o_p rfl (Zb rfl rfl c_i) <| o_p rfl (Zb rfl rfl c_i) <| o_n) (by kernel_rfl) (fun a g hst hb => ?_)
       refine wp_ret ?_
       obtain rfl := Option.some.inj H0
       exact Zdr rfl hst hb (Zh (s := 2)) (Zh (s := 3)) (Zc1 (hst.at 0 rfl) (hst.at 1 rfl))
theorem Zil (a0 : Int) (a1 : Int) {r : List Int} (h : Ze0 a0 a1 = some r) : Zki Tryd.prog 56 [(pInt .u64 a0), (pInt .i64 a1)] (Kd.int .u64) 62 r := by
 have H0 := h
 unfold Ze0 at H0
 clear h
 refine Zmq (N := 32) Tryd.func56 rfl rfl (Nat.le_of_ble_eq_true rfl) rfl (fun a g0 h0 hst hb => ?_)
 refine r_s (T := [⟨[], [(4, ((Kd.int .u64).sl.pd ([] : List Int)))], [], [], [4]⟩]) (F := [.old 0, .old 1]) hst hb Za
   (o_p rfl (Zb rfl rfl (Opd.c (fun g => Zh5 g))) <| o_n) (by kernel_rfl) (fun a g hst hb => ?_)
 refine r_s (T := [⟨[], _, [9], [], [8]⟩, ⟨[.op 0 0], _, [], [0], [5]⟩]) (F := [.old 0, .old 1, .op 1 0]) hst hb Za
   (o_p rfl (OB.ownA (xs := []) (Zny (ty := 0) Zvh rfl rfl)) <| o_p rfl (Zb rfl rfl u_0) <| o_n) (by kernel_rfl) (fun a g hst hb => ?_)
 refine wp_seq ?_
 refine r_s (T := [⟨[], _, [], [], [6]⟩]) (F := [.old 0, .old 1, .old 2, .op 0 0]) hst hb Za
   (o_p rfl (Zb rfl rfl c_i) <| o_n) (by kernel_rfl) (fun a g hst hb => ?_)
 obtain ⟨z10, hz1, H0⟩ := Zj H0
 refine Zcl (fun a w => ∃ (y9 : List Int) (g : G), w = g.w ∧ St 32 [(5, (pArr (Kd.int .u64) 62 8 y9))] a g ∧ Base g0 g ∧ y9 = z10) ?_ ?_
 · rintro a w ⟨y9, g, rfl, hst, hb, rfl⟩
   refine Zn ?_
   refine r_s (T := [⟨[.old 0], _, [], [], [31]⟩, ⟨[.op 0 0], _, [], [0], [4]⟩]) (F := [.op 1 0]) hst hb Za
     (o_p rfl (Zc rfl rfl u_0) <| o_p rfl (Zb rfl rfl u_0) <| o_n) (by kernel_rfl) (fun a g hst hb => ?_)
   refine wp_ret ?_
   obtain rfl := Option.some.inj H0
   exact Zwu rfl h0 hst hb (Zh (s := 4)) (hst.at 0 rfl)
 · refine wp_block ?_
   refine wp_loop_ghost (fun n a w => ∃ (x1 : List Int) (x2 : Int) (g : G), w = g.w ∧ St 32 [(0, (pInt .u64 a0)), (1, (pInt .i64 a1)), (5, (pArr (Kd.int .u64) 62 8 x1)), (6, (pInt .i64 x2))] a g ∧ Base g0 g ∧ Zcq a0 a1 n x1 x2 = some z10) (Int.toNat (a1 - (0 : Int)) + 1) ⟨([] : List Int), (0 : Int), g, rfl, (hst.pick [0, 1, 2, 3] rfl), hb, hz1⟩ (fun n a w hI => ?_)
   obtain ⟨x1, x2, g, rfl, hst, hb, H1⟩ := hI
   cases n with
   | zero => exact absurd H1 (by simp [Zcq])
   | succ n =>
     rw [Zcq] at H1
     refine wp_seq ?_
     refine r_s (T := [⟨[.old 3], _, [], [], [9]⟩, ⟨[.old 1], _, [], [], [10]⟩, ⟨[.op 0 0, .op 1 0], _, [], [0, 1], [11]⟩]) (F := [.old 0, .old 1, .old 2, .old 3, .op 2 0]) hst hb Za
       (o_p rfl (Zc rfl rfl u_0) <| o_p rfl (Zc rfl rfl u_0) <| o_p rfl (Zb6 rfl rfl u_0 u_1) <| o_n) (by kernel_rfl) (fun a g hst hb => ?_)
     refine wp_cond_split (hst.bool 4 rfl) (fun hc3 => ?_) (fun hc3 => ?_)
     · replace H1 := Zp hc3 H1
       refine wp_skip ?_
       refine Zn ?_
       refine wp_seq ?_
       refine wp_block ?_
       obtain ⟨h4, H1⟩ := Zhd H1
       refine r_s (L := [(0, _), (1, _), (5, _), (6, _)]) (T := [⟨[.old 0], _, [], [], [14]⟩, ⟨[.old 1], _, [], [], [15]⟩, ⟨[.op 1 0], _, [], [1], [16]⟩, ⟨[.op 0 0, .op 2 0], _, [], [0, 1, 2], [17]⟩, ⟨[.op 3 0], _, [], Lr 4, [7]⟩]) (F := [.old 0, .old 1, .old 2, .old 3, .op 4 0]) (hst.pick [0, 1, 2, 3] rfl) hb Za
         (o_p rfl (Zc rfl rfl u_0) <| o_p rfl (Zc rfl rfl u_0) <| o_p rfl (Zdc Tryd.underlying3 Tryd.underlying62 rfl rfl u_0 rfl) <| o_p rfl (Zv4 rfl rfl u_0 u_1 h4) <| o_p rfl (Zb rfl rfl u_0) <| o_n) (by kernel_rfl) (fun a g hst hb => ?_)
       refine wp_seq ?_
       obtain ⟨h5, H1⟩ := Zhd H1
       refine r_s (T := [⟨[.old 3], _, [], [], [18]⟩, ⟨[.op 0 0], _, [], [0], [19]⟩, ⟨[.old 0], _, [], [], [20]⟩, ⟨[.old 1], _, [], [], [21]⟩, ⟨[.op 3 0], _, [], [3], [22]⟩, ⟨[.op 2 0, .op 4 0], _, [], [2, 3, 4], [23]⟩, ⟨[.op 1 0, .op 5 0], _, [], Lr 6, [24]⟩]) (F := [.old 0, .old 1, .old 2, .old 3, .old 4, .op 6 0]) hst hb Za
         (o_p rfl (Zc rfl rfl u_0) <| o_p rfl (Zdc Tryd.underlying3 Tryd.underlying62 rfl rfl u_0 rfl) <| o_p rfl (Zc rfl rfl u_0) <| o_p rfl (Zc rfl rfl u_0) <| o_p rfl (Zdc Tryd.underlying3 Tryd.underlying62 rfl rfl u_0 rfl) <| o_p rfl (Zwd rfl rfl u_0 u_1 h5) <| o_p rfl (Zb6 rfl rfl u_0 u_1) <| o_n) (by kernel_rfl) (fun a g hst hb => ?_)
       refine Zcl (fun a w => ∃ (j7 : Int) (g : G), w = g.w ∧ St 32 [(0, (pInt .u64 a0)), (1, (pInt .i64 a1)), (5, (pArr (Kd.int .u64) 62 8 x1)), (6, (pInt .i64 x2)), (7, (pInt .u64 j7))] a g ∧ Base g0 g ∧ Zeb x1 x2 (Zcq a0 a1 n) j7 = some z10) ?_ ?_
       · rintro a w ⟨j7, g, rfl, hst, hb, H1⟩
         unfold Zeb at H1
         refine Zn ?_
         obtain ⟨h8, H1⟩ := Zhd H1
         refine r_g (T := [⟨[.old 2], _, [], [], [27]⟩, ⟨[.old 4], _, [], [], [28]⟩, ⟨[.op 1 0], _, [], [1], [29]⟩, ⟨[.op 0 0, .op 2 0], _, [9], [0, 1, 2], [5, 27, 30]⟩, ⟨[.op 3 0], _, [], Lr 4, [5]⟩]) (F := [.old 0, .old 1, .op 4 0, .old 3]) hst hb Za
           (o_p rfl (Zc rfl rfl u_0) <| o_p rfl (Zc rfl rfl u_0) <| o_p rfl (Zh8 Zvh (xs := [.tmp 28]) (.cons u_0 .nil) (by decide) rfl rfl) <| o_p rfl (Zpx Zvh rfl rfl u_0 u_1 (by simp) h8) <| o_p rfl (Zb rfl rfl u_0) <| o_n) (by kernel_rfl) (fun a g hst hb => ?_)
         refine Zbg ?_
         refine Zn ?_
         refine r_g (T := [⟨[.old 3], _, [], [], [12]⟩, ⟨[.op 0 0], _, [], [0], [13]⟩, ⟨[.op 1 0], _, [], [0, 1], [6]⟩]) (F := [.old 0, .old 1, .old 2, .op 2 0]) hst hb Za
           (o_p rfl (Zc rfl rfl u_0) <| o_p rfl (Zck rfl rfl u_0 c_i rfl) <| o_p rfl (Zb rfl rfl u_0) <| o_n) (by kernel_rfl) (fun a g hst hb => ?_)
         exact ⟨n, Nat.lt_succ_self _, (x1 ++ ([j7] : List Int)), (IntKind.i64.wrap (x2 + (1 : Int))), g, rfl, (hst.pick [0, 1, 2, 3] rfl), hb, H1⟩
       · refine wp_cond_split (hst.bool 5 rfl) (fun hc6 => ?_) (fun hc6 => ?_)
         · replace H1 := Zp hc6 H1
           refine r_g (L := [(0, _), (1, _), (5, _), (6, _), (7, _)]) (T := [⟨[.old 4], _, [], [], [25]⟩, ⟨[.op 0 0], _, [], [0], [26]⟩, ⟨[.op 1 0], _, [], [0, 1], [7]⟩]) (F := [.old 0, .old 1, .old 2, .old 3, .op 2 0]) (hst.pick [0, 1, 2, 3, 4] rfl) hb Za
             (o_p rfl (Zc rfl rfl u_0) <| o_p rfl (Zck rfl rfl u_0 c_i rfl) <| o_p rfl (Zb rfl rfl u_0) <| o_n) (by kernel_rfl) (fun a g hst hb => ?_)
           exact ⟨(IntKind.u64.wrap ((IntKind.u64.wrap (Int.tdiv a0 (IntKind.u64.wrap a1))) + (1 : Int))), g, rfl, (hst.pick [0, 1, 2, 3, 4] rfl), hb, H1⟩
         · replace H1 := Zq hc6 H1
           refine wp_skip ?_
           exact ⟨(IntKind.u64.wrap (Int.tdiv a0 (IntKind.u64.wrap a1))), g, rfl, (hst.pick [0, 1, 2, 3, 4] rfl), hb, H1⟩
     · replace H1 := Zq hc3 H1
       refine wp_exit ?_
       refine Zb9 ?_
       refine Zb9 ?_
       refine Zcy ?_
       exact ⟨x1, g, rfl, (hst.pick [2] rfl), hb, Option.some.inj H1⟩
theorem Znl (a0 : Ze) (a1 : Int) {r : (Option Zi) × Int} (h : Zfu a0 a1 = some r) : Znt Tryd.prog 25 [(Zg.pd a0), (pInt .i64 a1)] Zb7 r.1 (pInt .i64 r.2) := by
 have H0 := h
 unfold Zfu at H0
 clear h
 refine Zuy (N := 43) Tryd.func25 rfl rfl (Nat.le_of_ble_eq_true rfl) rfl (fun a g0 h0 hst hb => ?_)
 refine r_s (T := [⟨[.old 0], _, [], [], [2]⟩, ⟨[], [(4, (pEq (.pointer none)))], [], [], [4]⟩, ⟨[], _, [], [1], [5]⟩]) (F := [.old 1, .op 0 0]) hst hb Za
   (o_p rfl (Zbq rfl rfl u_0) <| o_p rfl (Zb rfl rfl (Opd.c (fun g => Zjz g))) <| o_p rfl (Zb rfl rfl c_i) <| o_n) (by kernel_rfl) (fun a g hst hb => ?_)
 refine wp_seq ?_
 refine r_s (T := [⟨[.old 0], _, [], [], [11]⟩, ⟨[.op 0 0], _, [], [0], [12]⟩, ⟨[.op 1 0], _, [], [0, 1], [13]⟩, ⟨[.op 2 0, .old 0], _, [], [0, 1, 2], [14]⟩, ⟨[.op 2 0, .op 3 0], _, [], Lr 4, [15]⟩, ⟨[.op 2 0, .op 4 0], _, [], Lr 5, [16]⟩]) (F := [.old 0, .old 1, .op 5 0]) hst hb Za
   (o_p rfl (Zc rfl rfl u_0) <| o_p rfl (Zb6 rfl rfl u_0 c_i) <| o_p rfl (Zc rfl rfl u_0) <| o_g (g_f rfl rfl rfl (fun hG => Zc rfl rfl u_0)) <| o_g (g_f rfl rfl rfl (fun hG => Zci rfl rfl (Opd.gd hG u_0) c_i)) <| o_p rfl (Zbf rfl rfl u_0 (fun hz => (Opd.gd (bNF hz) u_1))) <| o_n) (by kernel_rfl) (fun a g hst hb => ?_)
 refine wp_cond_split (hst.bool 2 rfl) (fun hc1 => ?_) (fun hc1 => ?_)
 · replace H0 := Zp hc1 H0
   refine r_s (L := []) (T := [⟨[], [(4, (pEq (.pointer none)))], [], [], [4]⟩, ⟨[], _, [], [0], [5]⟩]) (F := [.op 0 0, .op 1 0]) (hst.pick [] rfl) hb Za
     (o_p rfl (Zb rfl rfl (Opd.c (fun g => Zjz g))) <| o_p rfl (Zb rfl rfl c_i) <| o_n) (by kernel_rfl) (fun a g hst hb => ?_)
   refine wp_ret ?_
   refine Zk ?_
   obtain rfl := Option.some.inj H0
   exact Zpn rfl hst hb (Zh (s := 4)) (Zh (s := 5)) (hst.at 1 rfl) (hst.at 0 rfl)
 · replace H0 := Zq hc1 H0
   refine wp_skip ?_
   refine Zn ?_
   obtain ⟨r2, h3, H0⟩ := Zj H0
   refine r_s (L := [(1, _), (2, _)]) (T := [⟨[.old 1], _, [], [], [17]⟩, ⟨[.op 0 0], _, [], [0], [18]⟩, ⟨[.op 1 0], _, [], [0, 1], [6]⟩]) (F := [.old 0, .old 1, .op 2 0]) (hst.pick [0, 1] rfl) hb Za
     (o_p rfl (Zf Z8 rfl rfl u_0) <| o_p rfl (Zu Zva (Zhi _ h3) rfl rfl (.cons u_0 .nil)) <| o_p rfl (Zb rfl rfl u_0) <| o_n) (by kernel_rfl) (fun a g hst hb => ?_)
   refine wp_seq ?_
   refine r_s (T := [⟨[.old 2], _, [], [], [19]⟩, ⟨[.op 0 0], _, [], [0], [20]⟩]) (F := [.old 0, .old 1, .old 2, .op 1 0]) hst hb Za
     (o_p rfl (Zc rfl rfl u_0) <| o_p rfl (Zcp rfl rfl u_0 c_i) <| o_n) (by kernel_rfl) (fun a g hst hb => ?_)
   refine wp_cond_split (hst.bool 3 rfl) (fun hc4 => ?_) (fun hc4 => ?_)
   · replace H0 := Zp hc4 H0
     refine r_s (L := [(6, _)]) (T := [⟨[.old 0], _, [], [], [21]⟩, ⟨[], [(4, (pEq (.pointer none)))], [], [], [4]⟩, ⟨[.op 0 0], _, [], [0, 1], [5]⟩]) (F := [.op 1 0, .op 2 0]) (hst.pick [2] rfl) hb Za
       (o_p rfl (Zc rfl rfl u_0) <| o_p rfl (Zb rfl rfl (Opd.c (fun g => Zjz g))) <| o_p rfl (Zb rfl rfl u_0) <| o_n) (by kernel_rfl) (fun a g hst hb => ?_)
     refine wp_ret ?_
     refine Zk ?_
     obtain rfl := Option.some.inj H0
     exact Zpn rfl hst hb (Zh (s := 4)) (Zh (s := 5)) (hst.at 1 rfl) (hst.at 0 rfl)
   · replace H0 := Zq hc4 H0
     refine wp_skip ?_
     refine Zn ?_
     obtain ⟨r5, h6, H0⟩ := Zj H0
     refine r_s (L := [(1, _), (2, _)]) (T := [⟨[.old 1], _, [], [], [23]⟩, ⟨[.op 0 0], _, [], [0], [24]⟩, ⟨[.op 1 0], _, [], [0, 1], [22]⟩, ⟨[.op 2 0], _, [], [0, 1, 2], [25]⟩, ⟨[.op 2 0], _, [], [0, 1, 2], [26]⟩, ⟨[], [(7, (pBox Zg 7 (default : Ze)))], [8], [], [7]⟩, ⟨[.op 3 0, .op 5 0], _, [8], [0, 1, 2, 3, 5], [7]⟩, ⟨[.op 4 0], _, [], Lr 7, [8]⟩]) (F := [.old 0, .old 1, .op 7 0]) (hst.pick [0, 1] rfl) hb Za
       (o_p rfl (Zf Z8 rfl rfl u_0) <| o_p rfl (Zu Z3d (Zmu _ h6) rfl rfl (.cons u_0 .nil)) <| o_p rfl (Zc rfl rfl u_0) <| o_p rfl (Z6 rfl rfl u_0 rfl) <| o_p rfl (Z6 rfl rfl u_0 rfl) <| o_p rfl (Zbu (zs := [.int .i64 0, .int .i64 0, .int .i64 0, .int .i64 0, .float .f64 0, .int .i64 0, .string ByteArray.empty, .slice none 0 0]) (by kernel_rfl) (fun g => Zb4 g) rfl rfl) <| o_p rfl (Zct Z8 rfl rfl u_1 u_0) <| o_p rfl (Zb rfl rfl u_0) <| o_n) (by kernel_rfl) (fun a g hst hb => ?_)
     refine wp_seq ?_
     refine r_s (T := [⟨[.old 2], _, [], [], [27]⟩, ⟨[.op 0 0], _, [], [0], [28]⟩]) (F := [.old 0, .old 1, .op 1 0]) hst hb Za
       (o_p rfl (Zc rfl rfl u_0) <| o_p rfl (Zcf rfl rfl u_0) <| o_n) (by kernel_rfl) (fun a g hst hb => ?_)
     refine wp_cond_split (hst.bool 2 rfl) (fun hc7 => ?_) (fun hc7 => ?_)
     · replace H0 := Zp hc7 H0
       refine r_s (L := []) (T := [⟨[], [(4, (pEq (.pointer none)))], [], [], [4]⟩, ⟨[], _, [], [0], [5]⟩]) (F := [.op 0 0, .op 1 0]) (hst.pick [] rfl) hb Za
         (o_p rfl (Zb rfl rfl (Opd.c (fun g => Zjz g))) <| o_p rfl (Zb rfl rfl c_i) <| o_n) (by kernel_rfl) (fun a g hst hb => ?_)
       refine wp_ret ?_
       refine Zk ?_
       obtain rfl := Option.some.inj H0
       exact Zpn rfl hst hb (Zh (s := 4)) (Zh (s := 5)) (hst.at 1 rfl) (hst.at 0 rfl)
     · replace H0 := Zq hc7 H0
       refine wp_skip ?_
       refine Zn ?_
       obtain ⟨r8, h9, H0⟩ := Zj H0
       refine r_s (L := [(1, _), (2, _)]) (T := [⟨[.old 1], _, [], [], [30]⟩, ⟨[.op 0 0], _, [], [0], [31]⟩, ⟨[.op 1 0], _, [], [0, 1], [29]⟩, ⟨[.op 2 0], _, [], [0, 1, 2], [32]⟩, ⟨[.op 2 0], _, [], [0, 1, 2], [33]⟩, ⟨[.op 3 0], _, [], Lr 4, [9]⟩, ⟨[.op 4 0], _, [], Lr 6, [10]⟩]) (F := [.old 0, .old 1, .op 5 0, .op 6 0]) (hst.pick [0, 1] rfl) hb Za
         (o_p rfl (Zf Z8 rfl rfl u_0) <| o_p rfl (Zu Z19 (Zm4 _ h9) rfl rfl (.cons u_0 .nil)) <| o_p rfl (Zc rfl rfl u_0) <| o_p rfl (Z6 rfl rfl u_0 rfl) <| o_p rfl (Z6 rfl rfl u_0 rfl) <| o_p rfl (Zb rfl rfl u_0) <| o_p rfl (Zb rfl rfl u_0) <| o_n) (by kernel_rfl) (fun a g hst hb => ?_)
       obtain ⟨r10, h11, H0⟩ := Zj H0; obtain ⟨r12, h13, H0⟩ := Zj H0
       refine r_s (T := [⟨[.old 1], _, [], [], [34]⟩, ⟨[.old 2], _, [], [], [35]⟩, ⟨[.old 0], _, [], [], [36]⟩, ⟨[.op 1 0, .op 2 0], _, [38], [1, 2], [37]⟩, ⟨[.old 3], _, [], [], [38]⟩, ⟨[.old 0], _, [], [], [39]⟩, ⟨[.op 4 0, .op 5 0], _, [41], List.range' 1 5, [40]⟩, ⟨[.op 0 0, .op 3 0, .op 6 0], _, [], Lr 7, [41]⟩, ⟨[.op 7 0], _, [43], Lr 8, [42]⟩, ⟨[.op 8 0], _, [], Lr 9, [4]⟩, ⟨[], _, [], Lr 10, [5]⟩]) (F := [.op 9 0, .op 10 0]) hst hb Za
         (o_p rfl (Zf Z8 rfl rfl u_0) <| o_p rfl (Zc rfl rfl u_0) <| o_p rfl (Zc rfl rfl u_0) <| o_p rfl (Zh7 (j := 37) Zyn (Zil _ _ h11) rfl rfl (.cons u_0 (.cons u_1 .nil))) <| o_p rfl (Zc rfl rfl u_0) <| o_p rfl (Zc rfl rfl u_0) <| o_p rfl (Zh7 (j := 40) Zyn (Zil _ _ h13) rfl rfl (.cons u_0 (.cons u_1 .nil))) <| o_p rfl (Ztf (kV := Zbh) (raw := Zbo) (xv := ({ R := a0, Up := r10, Down := r12 } : Zi)) (l1 := Zbd) (l2 := Zbe) (fun s1 s2 U w0 w1 w2 => Ztj rfl rfl w0 w1 w2) rfl u_0 u_1 u_2) <| o_p rfl (Zwb (by decide) rfl rfl u_0) <| o_p rfl (Zb rfl rfl u_0) <| o_p rfl (Zb rfl rfl c_i) <| o_n) (by kernel_rfl) (fun a g hst hb => ?_)
       refine wp_ret ?_
       obtain rfl := Option.some.inj H0
       exact Zpn rfl hst hb (Zh (s := 4)) (Zh (s := 5)) (hst.at 1 rfl) ⟨42, 37, 40, by decide, by decide, by decide, (hst.at 0 rfl)⟩
theorem Zhj (a0 : (List Zx)) {r : (List Zx)} (h : Zdm a0 = some r) : Zki Tryd.prog 57 [(Z1.sl.pd a0)] Z1 96 r := by
 unfold Zdm at h
 obtain ⟨hsz, H0⟩ := Zhd h
 obtain rfl := Option.some.inj H0
 refine Zmq (N := 8) Tryd.func57 rfl rfl (Nat.le_of_ble_eq_true rfl) rfl (fun a g0 h0 hst hb => ?_)
 refine r_s (T := [⟨[], [(2, (Z1.sl.pd []))], [], [], [2]⟩]) (F := [.old 0]) hst hb Za
   (o_p rfl (Zb rfl rfl (Opd.c (fun g => Zh5 g))) <| o_n) (by kernel_rfl) (fun a g hst hb => ?_)
 refine wp_seq ?_
 refine r_s (T := [⟨[.old 0], _, [], [], [3]⟩, ⟨[.op 0 0], _, [], [0], [4]⟩]) (F := [.old 0, .op 1 0]) hst hb Za
   (o_p rfl (Zc rfl rfl u_0) <| o_p rfl (Zqh Tryd.underlying92 rfl rfl u_0) <| o_n) (by kernel_rfl) (fun a g hst hb => ?_)
 obtain ⟨c, hc, hc'⟩ := hst.at 1 rfl
 refine wp_cond_split hc (fun ht => ?_) (fun hf => ?_)
 · obtain rfl := hc' ht
   refine r_s (L := []) (T := [⟨[], [(2, (pEq (.slice none 0 0)))], [], [], [2]⟩]) (F := [.op 0 0]) (hst.pick [] rfl) hb Za
     (o_p rfl (Zb rfl rfl (Opd.c (fun g => rfl))) <| o_n) (by kernel_rfl) (fun a g hst hb => ?_)
   refine wp_ret ?_
   refine Zk ?_
   exact Zot rfl hst hb (Zh (s := 2)) ⟨none, hst.at 0 rfl⟩
 · refine wp_skip ?_
   refine Zn ?_
   refine r_s (L := [(0, _)]) (T := [⟨[], [(5, (pOwn Z1 96 5 (some 0) (([] : (List Zx)).map some)))], [6], [], [5]⟩, ⟨[.old 0], _, [], [], [6]⟩, ⟨[.op 0 0, .op 1 0], _, [6], [0, 1], [5, 7]⟩, ⟨[.op 2 0], _, [], [0, 1, 2], [2]⟩]) (F := [.op 3 0]) (hst.pick [0] rfl) hb Za
     (o_p rfl (Zny (ty := 0) Zrv rfl rfl) <| o_p rfl (Zc rfl rfl u_0) <| o_p rfl (Zj9 Zrv rfl rfl u_0 u_1 (by simpa using hsz)) <| o_p rfl (Zb rfl rfl u_0) <| o_n) (by kernel_rfl) (fun a g hst hb => ?_)
   refine wp_ret ?_
   exact Zsw rfl h0 hst hb (Zh (s := 2)) (hst.at 0 rfl)
theorem Zl3 (a0 : Zs) {r : Zs} (h : Zfr a0 = some r) : FnM Tryd.prog 26 Zby a0 a0 [] (Zdz.ptr r) := by
 have H0 := h
 unfold Zfr at H0
 clear h
 refine Zt7 (N := 14) Tryd.func26 rfl rfl (Nat.le_of_ble_eq_true rfl) rfl rfl (fun a g0 b0 hst hb => ?_)
 replace hst : St 14 [(0, (Zdq (some b0) Zbj Zbk hpT 0 a0)), (1002, (pST Zbj Zbk Zb0 Z1 96 b0 a0))] _ _ := Zpe hst
 refine r_s (T := [⟨[], _, [], [], [2]⟩]) (F := [.old 0, .old 1]) hst hb Za
   (o_p rfl (Zr6 (.inr rfl)) <| o_n) (by kernel_rfl) (fun a g hst hb => ?_)
 obtain ⟨r1, h2, H0⟩ := Zj H0
 refine r_s (T := ⟨[.old 0], _, [], [], [3]⟩ :: ⟨[.op 0 0], _, [], [0], [4]⟩ :: ⟨[.op 1 0], _, [], [0, 1], [5]⟩ :: ⟨[.op 2 0], _, [], [0, 1, 2], [6]⟩ :: ⟨[.old 0], _, [], [], [7]⟩ :: ⟨[.op 4 0], _, [], [4], [8]⟩ :: ⟨[.op 5 0, .old 1], _, [], [4, 5], [9]⟩ :: ⟨[.op 6 0], _, [], [4, 5, 6], [10]⟩ :: ⟨[.op 7 0], [(11, (Z1.sl.pd r1))], [12], List.range' 4 4, [11]⟩ :: ⟨[.op 3 0, .op 8 0], _, [], Lr 9, [12]⟩ :: ⟨[.op 9 0], _, [], Lr 10, [13]⟩ :: ⟨[.op 10 0], _, [], Lr 11, [2]⟩ :: []) (F := [.old 0, .op 11 0, .old 1]) hst hb Za
   (o_p rfl (Zc rfl rfl u_0) <| o_p rfl (Z4 rfl rfl u_0 (fun _ _ ⟨_, ⟨_, _, _, e, _⟩, _⟩ => ⟨_, e⟩)) <| o_p rfl (Zmk Zsm (off := 0) (by kernel_rfl) (fun _ => rfl) rfl rfl u_0) <| o_p rfl (Zo4 Z8 rfl rfl u_0) <| o_p rfl (Zc rfl rfl u_0) <| o_p rfl (Z4 rfl rfl u_0 (fun _ _ ⟨_, ⟨_, _, _, e, _⟩, _⟩ => ⟨_, e⟩)) <| o_p rfl (Zfn Zji (off := 8) (q := (pArr Z1 96 1000000 (Zb0 a0))) (by kernel_rfl) (pr := id) (fun _ => rfl) (fun _ _ h => h) rfl rfl (Opd.joinS u_0 u_1)) <| o_p rfl (Zg3 Zl6 rfl rfl u_0) <| o_p rfl (OB.giveA (Zoz (j := 11) Zl8 (by decide) Z2u (Zhj _ h2) rfl rfl u_0 rfl .nil)) <| o_p rfl (Zwl rfl rfl u_0 u_1) <| o_p rfl (Zbq rfl rfl u_0) <| o_p rfl (Zb rfl rfl u_0) <| o_n) (by kernel_rfl) (fun a g hst hb => ?_)
 refine wp_ret ?_
 obtain rfl := Option.some.inj H0
 exact Zlg rfl hst hb (Zh (s := 2)) (hst.at 1 rfl) (Zgm (hst.at 0 rfl) (hst.at 2 rfl))
theorem Zin (a0 : Int) {r : Int} (h : Zek a0 = some r) : FnOk Tryd.prog 35 [(pInt .i64 a0)] (pInt .i64 r) := by
 have H0 := h
 unfold Zek at H0
 clear h
 refine Zbt (N := 15) Tryd.func35 rfl rfl (Nat.le_of_ble_eq_true rfl) rfl rfl (fun a g0 hst hb => ?_)
 refine r_s (T := [⟨[], _, [], [], [2]⟩]) (F := [.old 0]) hst hb Za
   (o_p rfl (Zb rfl rfl c_i) <| o_n) (by kernel_rfl) (fun a g hst hb => ?_)
 refine r_s (T := [⟨[], _, [], [], [4]⟩, ⟨[.op 0 0], _, [], [0], [3]⟩]) (F := [.old 0, .op 1 0]) hst hb Za
   (o_p rfl (Zh8 Z1d (xs := [.const (.int .i64 0), .const (.int .i64 0), .const (.int .i64 0), .const (.int .i64 0), .const (.int .i64 0), .const (.int .i64 1), .const (.int .i64 1), .const (.int .i64 2), .const (.int .i64 3), .const (.int .i64 3), .const (.int .i64 4), .const (.int .i64 4), .const (.int .i64 4), .const (.int .i64 5), .const (.int .i64 6), .const (.int .i64 7), .const (.int .i64 7), .const (.int .i64 7), .const (.int .i64 8), .const (.int .i64 8), .const (.int .i64 8), .const (.int .i64 9)]) (.cons c_i (.cons c_i (.cons c_i (.cons c_i (.cons c_i (.cons c_i (.cons c_i (.cons c_i (.cons c_i (.cons c_i (.cons c_i (.cons c_i (.cons c_i (.cons c_i (.cons c_i (.cons c_i (.cons c_i (.cons c_i (.cons c_i (.cons c_i (.cons c_i (.cons c_i .nil)))))))))))))))))))))) (by decide) rfl rfl) <| o_p rfl (Zb rfl rfl u_0) <| o_n) (by kernel_rfl) (fun a g hst hb => ?_)
 refine wp_seq ?_
 refine r_s (T := [⟨[.old 0], _, [], [], [5]⟩, ⟨[.op 0 0], _, [], [0], [6]⟩, ⟨[.op 1 0], _, [], [0, 1], [7]⟩, ⟨[.op 2 0, .old 0], _, [], [0, 1, 2], [8]⟩, ⟨[.op 2 0, .op 3 0], _, [], Lr 4, [9]⟩, ⟨[.op 2 0, .op 4 0], _, [], Lr 5, [10]⟩]) (F := [.old 0, .old 1, .op 5 0]) hst hb Za
   (o_p rfl (Zc rfl rfl u_0) <| o_p rfl (Zb6 rfl rfl u_0 c_i) <| o_p rfl (Zc rfl rfl u_0) <| o_g (g_f rfl rfl rfl (fun hG => Zc rfl rfl u_0)) <| o_g (g_f rfl rfl rfl (fun hG => Zci rfl rfl (Opd.gd hG u_0) c_i)) <| o_p rfl (Zbf rfl rfl u_0 (fun hz => (Opd.gd (bNF hz) u_1))) <| o_n) (by kernel_rfl) (fun a g hst hb => ?_)
 refine wp_cond_split (hst.bool 2 rfl) (fun hc1 => ?_) (fun hc1 => ?_)
 · replace H0 := Zp hc1 H0
   refine r_s (L := []) (T := [⟨[], _, [], [], [2]⟩]) (F := [.op 0 0]) (hst.pick [] rfl) hb Za
     (o_p rfl (Zb rfl rfl c_i) <| o_n) (by kernel_rfl) (fun a g hst hb => ?_)
   refine wp_ret ?_
   refine Zk ?_
   obtain rfl := Option.some.inj H0
   exact Zz rfl hst hb (Zh (s := 2)) (hst.at 0 rfl)
 · replace H0 := Zq hc1 H0
   refine wp_skip ?_
   refine Zn ?_
   obtain ⟨e2, h3, H0⟩ := Zj H0
   refine r_s (L := [(0, _), (3, _)]) (T := [⟨[.old 1], _, [], [], [11]⟩, ⟨[.old 0], _, [], [], [12]⟩, ⟨[.op 0 0, .op 1 0], _, [], [0, 1], [13]⟩, ⟨[.op 2 0], _, [], [0, 1, 2], [14]⟩, ⟨[.op 3 0], _, [], Lr 4, [2]⟩]) (F := [.op 4 0]) (hst.pick [0, 1] rfl) hb Za
     (o_p rfl (Zc rfl rfl u_0) <| o_p rfl (Zc rfl rfl u_0) <| o_p rfl (Zbm Tryd.underlying110 sz_3 rfl rfl u_0 u_1 h3) <| o_p rfl (Zf ty_3 rfl rfl u_0) <| o_p rfl (Zb rfl rfl u_0) <| o_n) (by kernel_rfl) (fun a g hst hb => ?_)
   refine wp_ret ?_
   obtain rfl := Option.some.inj H0
   exact Zz rfl hst hb (Zh (s := 2)) (hst.at 0 rfl)
theorem Zl2 (a0 : Int) (a1 : Int) {r : Bool} (h : Zel a0 a1 = some r) : FnOk Tryd.prog 13 [(pInt .i64 a0), (pInt .i64 a1)] (Z9 r) := by
 have H0 := h
 unfold Zel at H0
 clear h
 refine Zbt (N := 39) Tryd.func13 rfl rfl (Nat.le_of_ble_eq_true rfl) rfl rfl (fun a g0 hst hb => ?_)
 refine r_s (T := [⟨[], _, [], [], [4]⟩]) (F := [.old 0, .old 1]) hst hb Za
   (o_p rfl (Zb rfl rfl c_b) <| o_n) (by kernel_rfl) (fun a g hst hb => ?_)
 refine wp_seq ?_
 refine r_s (T := ⟨[.old 1], _, [], [], [5]⟩ :: ⟨[.op 0 0], _, [], [0], [6]⟩ :: ⟨[.op 1 0], _, [], [0, 1], [7]⟩ :: ⟨[.op 2 0, .old 1], _, [], [0, 1, 2], [8]⟩ :: ⟨[.op 2 0, .op 3 0], _, [], Lr 4, [9]⟩ :: ⟨[.op 2 0, .op 4 0], _, [], Lr 5, [10]⟩ :: ⟨[.op 5 0], _, [], Lr 6, [11]⟩ :: ⟨[.op 6 0, .old 1], _, [], Lr 7, [12]⟩ :: ⟨[.op 6 0, .op 7 0], _, [], Lr 8, [13]⟩ :: ⟨[.op 6 0, .op 8 0], _, [], Lr 9, [14]⟩ :: ⟨[.op 9 0], _, [], Lr 10, [15]⟩ :: ⟨[.op 10 0, .old 1], _, [], Lr 11, [16]⟩ :: ⟨[.op 10 0, .op 11 0], _, [], Lr 12, [17]⟩ :: ⟨[.op 10 0, .op 12 0], _, [], Lr 13, [18]⟩ :: ⟨[.op 13 0], _, [], Lr 14, [19]⟩ :: ⟨[.op 14 0, .old 1], _, [], Lr 15, [20]⟩ :: ⟨[.op 14 0, .op 15 0], _, [], Lr 16, [21]⟩ :: ⟨[.op 14 0, .op 16 0], _, [], Lr 17, [22]⟩ :: ⟨[.op 17 0], _, [], Lr 18, [23]⟩ :: ⟨[.op 18 0, .old 1], _, [], Lr 19, [24]⟩ :: ⟨[.op 18 0, .op 19 0], _, [], Lr 20, [25]⟩ :: ⟨[.op 18 0, .op 20 0], _, [], Lr 21, [26]⟩ :: ⟨[.op 21 0], _, [], Lr 22, [27]⟩ :: ⟨[.op 22 0, .old 1], _, [], Lr 23, [28]⟩ :: ⟨[.op 22 0, .op 23 0], _, [], Lr 24, [29]⟩ :: ⟨[.op 22 0, .op 24 0], _, [], Lr 25, [30]⟩ :: ⟨[.op 25 0], _, [], Lr 26, [31]⟩ :: ⟨[.op 26 0, .old 1], _, [], Lr 27, [32]⟩ :: ⟨[.op 26 0, .op 27 0], _, [], Lr 28, [33]⟩ :: ⟨[.op 26 0, .op 28 0], _, [], Lr 29, [34]⟩ :: []) (F := [.old 0, .old 1, .op 29 0]) hst hb Za
   (o_p rfl (Zc rfl rfl u_0) <| o_p rfl (Zcp rfl rfl u_0 c_i) <| o_p rfl (Zc rfl rfl u_0) <| o_g (g_t rfl rfl rfl (fun hG => Zc rfl rfl u_0)) <| o_g (g_t rfl rfl rfl (fun hG => Zcp rfl rfl (Opd.gd hG u_0) c_i)) <| o_p rfl (Zbc rfl rfl u_0 (fun hz => (Opd.gd hz u_1))) <| o_p rfl (Zc rfl rfl u_0) <| o_g (g_t rfl rfl rfl (fun hG => Zc rfl rfl u_0)) <| o_g (g_t rfl rfl rfl (fun hG => Zcp rfl rfl (Opd.gd hG u_0) c_i)) <| o_p rfl (Zbc rfl rfl u_0 (fun hz => (Opd.gd hz u_1))) <| o_p rfl (Zc rfl rfl u_0) <| o_g (g_t rfl rfl rfl (fun hG => Zc rfl rfl u_0)) <| o_g (g_t rfl rfl rfl (fun hG => Zcp rfl rfl (Opd.gd hG u_0) c_i)) <| o_p rfl (Zbc rfl rfl u_0 (fun hz => (Opd.gd hz u_1))) <| o_p rfl (Zc rfl rfl u_0) <| o_g (g_t rfl rfl rfl (fun hG => Zc rfl rfl u_0)) <| o_g (g_t rfl rfl rfl (fun hG => Zcp rfl rfl (Opd.gd hG u_0) c_i)) <| o_p rfl (Zbc rfl rfl u_0 (fun hz => (Opd.gd hz u_1))) <| o_p rfl (Zc rfl rfl u_0) <| o_g (g_t rfl rfl rfl (fun hG => Zc rfl rfl u_0)) <| o_g (g_t rfl rfl rfl (fun hG => Zcp rfl rfl (Opd.gd hG u_0) c_i)) <| o_p rfl (Zbc rfl rfl u_0 (fun hz => (Opd.gd hz u_1))) <| o_p rfl (Zc rfl rfl u_0) <| o_g (g_t rfl rfl rfl (fun hG => Zc rfl rfl u_0)) <| o_g (g_t rfl rfl rfl (fun hG => Zcp rfl rfl (Opd.gd hG u_0) c_i)) <| o_p rfl (Zbc rfl rfl u_0 (fun hz => (Opd.gd hz u_1))) <| o_p rfl (Zc rfl rfl u_0) <| o_g (g_t rfl rfl rfl (fun hG => Zc rfl rfl u_0)) <| o_g (g_t rfl rfl rfl (fun hG => Zcp rfl rfl (Opd.gd hG u_0) c_i)) <| o_p rfl (Zbc rfl rfl u_0 (fun hz => (Opd.gd hz u_1))) <| o_n) (by kernel_rfl) (fun a g hst hb => ?_)
 refine wp_cond_split (hst.bool 2 rfl) (fun hc1 => ?_) (fun hc1 => ?_)
 · replace H0 := Zp hc1 H0
   refine r_s (L := []) (T := [⟨[], _, [], [], [4]⟩]) (F := [.op 0 0]) (hst.pick [] rfl) hb Za
     (o_p rfl (Zb rfl rfl c_b) <| o_n) (by kernel_rfl) (fun a g hst hb => ?_)
   refine wp_ret ?_
   refine Zk ?_
   obtain rfl := Option.some.inj H0
   exact Zz rfl hst hb (Zh (s := 4)) (hst.at 0 rfl)
 · replace H0 := Zq hc1 H0
   refine wp_skip ?_
   refine Zn ?_
   obtain ⟨r2, h3, H0⟩ := Zj H0
   refine r_s (L := [(0, _), (1, _)]) (T := [⟨[.old 1], _, [], [], [35]⟩, ⟨[.op 0 0], _, [], [0], [36]⟩, ⟨[.old 0], _, [], [], [37]⟩, ⟨[.op 1 0, .op 2 0], _, [], [0, 1, 2], [38]⟩, ⟨[.op 3 0], _, [], Lr 4, [4]⟩]) (F := [.op 4 0]) (hst.pick [0, 1] rfl) hb Za
     (o_p rfl (Zc rfl rfl u_0) <| o_p rfl (Zu Zuj (Zin _ h3) rfl rfl (.cons u_0 .nil)) <| o_p rfl (Zc rfl rfl u_0) <| o_p rfl (Z7 rfl rfl u_0 u_1) <| o_p rfl (Zb rfl rfl u_0) <| o_n) (by kernel_rfl) (fun a g hst hb => ?_)
   refine wp_ret ?_
   obtain rfl := Option.some.inj H0
   exact Zz rfl hst hb (Zh (s := 4)) (hst.at 0 rfl)
theorem Zm5 (a0 : Ze) (a1 : Ze) {r : Bool} (h : Zgd a0 a1 = some r) : FnOk Tryd.prog 14 [(Zg.pd a0), (Zg.pd a1)] (Z9 r) := by
 have H0 := h
 unfold Zgd at H0
 clear h
 refine Zbt (N := 97) Tryd.func14 rfl rfl (Nat.le_of_ble_eq_true rfl) rfl rfl (fun a g0 hst hb => ?_)
 refine r_s (T := [⟨[.old 0], _, [], [], [2]⟩, ⟨[.old 1], _, [], [], [3]⟩, ⟨[], _, [], [], [4]⟩]) (F := [.op 0 0, .op 1 0]) hst hb Za
   (o_p rfl (Zbq rfl rfl u_0) <| o_p rfl (Zbq rfl rfl u_0) <| o_p rfl (Zb rfl rfl c_b) <| o_n) (by kernel_rfl) (fun a g hst hb => ?_)
 refine wp_seq ?_
 refine r_s (T := ⟨[.old 0], _, [], [], [6]⟩ :: ⟨[.op 0 0], _, [], [0], [7]⟩ :: ⟨[.old 1], _, [], [], [8]⟩ :: ⟨[.op 2 0], _, [], [2], [9]⟩ :: ⟨[.op 1 0, .op 3 0], _, [], Lr 4, [10]⟩ :: ⟨[.op 4 0], _, [], Lr 5, [11]⟩ :: ⟨[.op 5 0, .old 0], _, [], Lr 6, [12]⟩ :: ⟨[.op 5 0, .op 6 0], _, [], Lr 7, [13]⟩ :: ⟨[.op 5 0, .old 1], _, [], Lr 6, [14]⟩ :: ⟨[.op 5 0, .op 8 0], _, [], [0, 1, 2, 3, 4, 5, 8], [15]⟩ :: ⟨[.op 5 0, .op 7 0, .op 9 0], _, [], Lr 10, [16]⟩ :: ⟨[.op 5 0, .op 10 0], _, [], Lr 11, [17]⟩ :: ⟨[.op 11 0], _, [], Lr 12, [18]⟩ :: ⟨[.op 12 0, .old 0], _, [], Lr 13, [19]⟩ :: ⟨[.op 12 0, .op 13 0], _, [], Lr 14, [20]⟩ :: ⟨[.op 12 0, .old 1], _, [], Lr 13, [21]⟩ :: ⟨[.op 12 0, .op 15 0], _, [], 0 :: 1 :: 2 :: 3 :: 4 :: 5 :: 6 :: 7 :: 8 :: 9 :: 10 :: 11 :: 12 :: 15 :: [], [22]⟩ :: ⟨[.op 12 0, .op 14 0, .op 16 0], _, [], Lr 17, [23]⟩ :: ⟨[.op 12 0, .op 17 0], _, [], Lr 18, [24]⟩ :: ⟨[.op 18 0], _, [], Lr 19, [25]⟩ :: ⟨[.op 19 0, .old 0], _, [], Lr 20, [26]⟩ :: ⟨[.op 19 0, .op 20 0], _, [], Lr 21, [27]⟩ :: ⟨[.op 19 0, .old 1], _, [], Lr 20, [28]⟩ :: ⟨[.op 19 0, .op 22 0], _, [], 0 :: 1 :: 2 :: 3 :: 4 :: 5 :: 6 :: 7 :: 8 :: 9 :: 10 :: 11 :: 12 :: 13 :: 14 :: 15 :: 16 :: 17 :: 18 :: 19 :: 22 :: [], [29]⟩ :: ⟨[.op 19 0, .op 21 0, .op 23 0], _, [], Lr 24, [30]⟩ :: ⟨[.op 19 0, .op 24 0], _, [], Lr 25, [31]⟩ :: ⟨[.op 25 0], _, [], Lr 26, [32]⟩ :: ⟨[.op 26 0, .old 0], _, [], Lr 27, [33]⟩ :: ⟨[.op 26 0, .op 27 0], _, [], Lr 28, [34]⟩ :: ⟨[.op 26 0, .old 1], _, [], Lr 27, [35]⟩ :: ⟨[.op 26 0, .op 29 0], _, [], 0 :: 1 :: 2 :: 3 :: 4 :: 5 :: 6 :: 7 :: 8 :: 9 :: 10 :: 11 :: 12 :: 13 :: 14 :: 15 :: 16 :: 17 :: 18 :: 19 :: 20 :: 21 :: 22 :: 23 :: 24 :: 25 :: 26 :: 29 :: [], [36]⟩ :: ⟨[.op 26 0, .op 28 0, .op 30 0], _, [], Lr 31, [37]⟩ :: ⟨[.op 26 0, .op 31 0], _, [], Lr 32, [38]⟩ :: ⟨[.op 32 0], _, [], Lr 33, [39]⟩ :: ⟨[.op 33 0, .old 0], _, [], Lr 34, [40]⟩ :: ⟨[.op 33 0, .op 34 0], _, [], Lr 35, [41]⟩ :: ⟨[.op 33 0, .old 1], _, [], Lr 34, [42]⟩ :: ⟨[.op 33 0, .op 36 0], _, [], 0 :: 1 :: 2 :: 3 :: 4 :: 5 :: 6 :: 7 :: 8 :: 9 :: 10 :: 11 :: 12 :: 13 :: 14 :: 15 :: 16 :: 17 :: 18 :: 19 :: 20 :: 21 :: 22 :: 23 :: 24 :: 25 :: 26 :: 27 :: 28 :: 29 :: 30 :: 31 :: 32 :: 33 :: 36 :: [], [43]⟩ :: ⟨[.op 33 0, .op 35 0, .op 37 0], _, [], Lr 38, [44]⟩ :: ⟨[.op 33 0, .op 38 0], _, [], Lr 39, [45]⟩ :: []) (F := [.old 0, .old 1, .op 39 0]) hst hb Za
   (o_p rfl (Zd Zc9 rfl rfl u_0) <| o_p rfl (Zf ty_3 rfl rfl u_0) <| o_p rfl (Zd Zc9 rfl rfl u_0) <| o_p rfl (Zf ty_3 rfl rfl u_0) <| o_p rfl (Zcp rfl rfl u_0 u_1) <| o_p rfl (Zc rfl rfl u_0) <| o_g (g_f rfl rfl rfl (fun hG => Zd Zb8 rfl rfl u_0)) <| o_g (g_f rfl rfl rfl (fun hG => Zf ty_2 rfl rfl (Opd.gd hG u_0))) <| o_g (g_f rfl rfl rfl (fun hG => Zd Zb8 rfl rfl u_0)) <| o_g (g_f rfl rfl rfl (fun hG => Zf ty_2 rfl rfl (Opd.gd hG u_0))) <| o_g (g_f rfl rfl rfl (fun hG => Zcp rfl rfl (Opd.gd hG u_0) (Opd.gd hG u_1))) <| o_p rfl (Zbf rfl rfl u_0 (fun hz => (Opd.gd (bNF hz) u_1))) <| o_p rfl (Zc rfl rfl u_0) <| o_g (g_f rfl rfl rfl (fun hG => Zd Zf5 rfl rfl u_0)) <| o_g (g_f rfl rfl rfl (fun hG => Zf ty_2 rfl rfl (Opd.gd hG u_0))) <| o_g (g_f rfl rfl rfl (fun hG => Zd Zf5 rfl rfl u_0)) <| o_g (g_f rfl rfl rfl (fun hG => Zf ty_2 rfl rfl (Opd.gd hG u_0))) <| o_g (g_f rfl rfl rfl (fun hG => Zcp rfl rfl (Opd.gd hG u_0) (Opd.gd hG u_1))) <| o_p rfl (Zbf rfl rfl u_0 (fun hz => (Opd.gd (bNF hz) u_1))) <| o_p rfl (Zc rfl rfl u_0) <| o_g (g_f rfl rfl rfl (fun hG => Zd Zf6 rfl rfl u_0)) <| o_g (g_f rfl rfl rfl (fun hG => Zf ty_2 rfl rfl (Opd.gd hG u_0))) <| o_g (g_f rfl rfl rfl (fun hG => Zd Zf6 rfl rfl u_0)) <| o_g (g_f rfl rfl rfl (fun hG => Zf ty_2 rfl rfl (Opd.gd hG u_0))) <| o_g (g_f rfl rfl rfl (fun hG => Zcp rfl rfl (Opd.gd hG u_0) (Opd.gd hG u_1))) <| o_p rfl (Zbf rfl rfl u_0 (fun hz => (Opd.gd (bNF hz) u_1))) <| o_p rfl (Zc rfl rfl u_0) <| o_g (g_f rfl rfl rfl (fun hG => Zd Zef rfl rfl u_0)) <| o_g (g_f rfl rfl rfl (fun hG => Zf ty_3 rfl rfl (Opd.gd hG u_0))) <| o_g (g_f rfl rfl rfl (fun hG => Zd Zef rfl rfl u_0)) <| o_g (g_f rfl rfl rfl (fun hG => Zf ty_3 rfl rfl (Opd.gd hG u_0))) <| o_g (g_f rfl rfl rfl (fun hG => Zcp rfl rfl (Opd.gd hG u_0) (Opd.gd hG u_1))) <| o_p rfl (Zbf rfl rfl u_0 (fun hz => (Opd.gd (bNF hz) u_1))) <| o_p rfl (Zc rfl rfl u_0) <| o_g (g_f rfl rfl rfl (fun hG => Zd Zhb rfl rfl u_0)) <| o_g (g_f rfl rfl rfl (fun hG => Zf ty_9 rfl rfl (Opd.gd hG u_0))) <| o_g (g_f rfl rfl rfl (fun hG => Zd Zhb rfl rfl u_0)) <| o_g (g_f rfl rfl rfl (fun hG => Zf ty_9 rfl rfl (Opd.gd hG u_0))) <| o_g (g_f rfl rfl rfl (fun hG => Zp7 rfl rfl (Opd.gd hG u_0) (Opd.gd hG u_1))) <| o_p rfl (Zbf rfl rfl u_0 (fun hz => (Opd.gd (bNF hz) u_1))) <| o_n) (by kernel_rfl) (fun a g hst hb => ?_)
 refine wp_cond_split (hst.bool 2 rfl) (fun hc1 => ?_) (fun hc1 => ?_)
 · replace H0 := Zp hc1 H0
   refine r_s (L := []) (T := [⟨[], _, [], [], [4]⟩]) (F := [.op 0 0]) (hst.pick [] rfl) hb Za
     (o_p rfl (Zb rfl rfl c_b) <| o_n) (by kernel_rfl) (fun a g hst hb => ?_)
   refine wp_ret ?_
   refine Zk ?_
   obtain rfl := Option.some.inj H0
   exact Zz rfl hst hb (Zh (s := 4)) (hst.at 0 rfl)
 · replace H0 := Zq hc1 H0
   refine wp_skip ?_
   refine Zn ?_
   refine wp_seq ?_
   obtain ⟨r2, h3, H0⟩ := Zj H0
   refine r_s (L := [(2, _), (3, _)]) (T := ⟨[.old 0], _, [], [], [46]⟩ :: ⟨[.op 0 0], _, [], [0], [47]⟩ :: ⟨[.old 1], _, [], [], [48]⟩ :: ⟨[.op 2 0], _, [], [2], [49]⟩ :: ⟨[.op 1 0, .op 3 0], _, [], Lr 4, [50]⟩ :: ⟨[.op 4 0], _, [], Lr 5, [51]⟩ :: ⟨[.op 5 0], _, [], Lr 6, [52]⟩ :: ⟨[.op 6 0, .old 0], _, [], Lr 7, [53]⟩ :: ⟨[.op 6 0, .op 7 0], _, [], Lr 8, [54]⟩ :: ⟨[.op 6 0, .op 8 0], _, [], Lr 9, [55]⟩ :: ⟨[.op 6 0, .old 1], _, [], Lr 7, [56]⟩ :: ⟨[.op 6 0, .op 10 0], _, [], [0, 1, 2, 3, 4, 5, 6, 10], [57]⟩ :: ⟨[.op 6 0, .op 11 0], _, [], [0, 1, 2, 3, 4, 5, 6, 10, 11], [58]⟩ :: ⟨[.op 6 0, .op 9 0, .op 12 0], _, [], Lr 13, [59]⟩ :: ⟨[.op 6 0, .op 13 0], _, [], Lr 14, [60]⟩ :: []) (F := [.old 0, .old 1, .op 14 0]) (hst.pick [0, 1] rfl) hb Za
     (o_p rfl (Zd Ze3 rfl rfl u_0) <| o_p rfl (Zf Zc0 rfl rfl u_0) <| o_p rfl (Zd Ze3 rfl rfl u_0) <| o_p rfl (Zf Zc0 rfl rfl u_0) <| o_p rfl (Zu Zpi (Ze6 _ _ h3) rfl rfl (.cons u_0 (.cons u_1 .nil))) <| o_p rfl (Zcf rfl rfl u_0) <| o_p rfl (Zc rfl rfl u_0) <| o_g (g_f rfl rfl rfl (fun hG => Zd Zb3 rfl rfl u_0)) <| o_g (g_f rfl rfl rfl (fun hG => Zf Zcz rfl rfl (Opd.gd hG u_0))) <| o_g (g_f rfl rfl rfl (fun hG => Zco Tryd.underlying23 rfl rfl (Opd.gd hG u_0))) <| o_g (g_f rfl rfl rfl (fun hG => Zd Zb3 rfl rfl u_0)) <| o_g (g_f rfl rfl rfl (fun hG => Zf Zcz rfl rfl (Opd.gd hG u_0))) <| o_g (g_f rfl rfl rfl (fun hG => Zco Tryd.underlying23 rfl rfl (Opd.gd hG u_0))) <| o_g (g_f rfl rfl rfl (fun hG => Zcp rfl rfl (Opd.gd hG u_0) (Opd.gd hG u_1))) <| o_p rfl (Zbf rfl rfl u_0 (fun hz => (Opd.gd (bNF hz) u_1))) <| o_n) (by kernel_rfl) (fun a g hst hb => ?_)
   refine wp_cond_split (hst.bool 2 rfl) (fun hc4 => ?_) (fun hc4 => ?_)
   · replace H0 := Zp hc4 H0
     refine r_s (L := []) (T := [⟨[], _, [], [], [4]⟩]) (F := [.op 0 0]) (hst.pick [] rfl) hb Za
       (o_p rfl (Zb rfl rfl c_b) <| o_n) (by kernel_rfl) (fun a g hst hb => ?_)
     refine wp_ret ?_
     refine Zk ?_
     obtain rfl := Option.some.inj H0
     exact Zz rfl hst hb (Zh (s := 4)) (hst.at 0 rfl)
   · replace H0 := Zq hc4 H0
     refine wp_skip ?_
     refine Zn ?_
     refine wp_seq ?_
     refine r_s (L := [(2, _), (3, _)]) (T := [⟨[], _, [], [], [5]⟩]) (F := [.old 0, .old 1, .op 0 0]) (hst.pick [0, 1] rfl) hb Za
       (o_p rfl (Zb rfl rfl c_i) <| o_n) (by kernel_rfl) (fun a g hst hb => ?_)
     obtain ⟨z18, hz1, H0⟩ := Zj H0
     refine Zcl (fun a w => ∃ (g : G), w = g.w ∧ St 97 [] a g ∧ Base g0 g ∧ (.inr ()) = z18) ?_ ?_
     · rintro a w ⟨g, rfl, hst, hb, rfl⟩
       refine Zn ?_
       refine r_s (T := [⟨[], _, [], [], [4]⟩]) (F := [.op 0 0]) hst hb Za
         (o_p rfl (Zb rfl rfl c_b) <| o_n) (by kernel_rfl) (fun a g hst hb => ?_)
       refine wp_ret ?_
       obtain rfl := Option.some.inj H0
       exact Zz rfl hst hb (Zh (s := 4)) (hst.at 0 rfl)
     · refine wp_block ?_
       refine wp_loop_ghost (fun n a w => ∃ (x5 : Int) (g : G), w = g.w ∧ St 97 [(2, (Zg.ptr a0)), (3, (Zg.ptr a1)), (5, (pInt .i64 x5))] a g ∧ Base g0 g ∧ Zdk a0 a1 n x5 = some z18) (Int.toNat ((a0.List.length : Int) - (0 : Int)) + 1) ⟨(0 : Int), g, rfl, (hst.pick [0, 1, 2] rfl), hb, hz1⟩ (fun n a w hI => ?_)
       obtain ⟨x5, g, rfl, hst, hb, H1⟩ := hI
       cases n with
       | zero => exact absurd H1 (by simp [Zdk])
       | succ n =>
         rw [Zdk] at H1
         refine wp_seq ?_
         refine r_s (T := [⟨[.old 2], _, [], [], [61]⟩, ⟨[.old 0], _, [], [], [62]⟩, ⟨[.op 1 0], _, [], [1], [63]⟩, ⟨[.op 2 0], _, [], [1, 2], [64]⟩, ⟨[.op 0 0, .op 3 0], _, [], Lr 4, [65]⟩]) (F := [.old 0, .old 1, .old 2, .op 4 0]) hst hb Za
           (o_p rfl (Zc rfl rfl u_0) <| o_p rfl (Zd Zb3 rfl rfl u_0) <| o_p rfl (Zf Zcz rfl rfl u_0) <| o_p rfl (Zco Tryd.underlying23 rfl rfl u_0) <| o_p rfl (Zb6 rfl rfl u_0 u_1) <| o_n) (by kernel_rfl) (fun a g hst hb => ?_)
         refine wp_cond_split (hst.bool 3 rfl) (fun hc6 => ?_) (fun hc6 => ?_)
         · replace H1 := Zp hc6 H1
           refine wp_skip ?_
           refine Zn ?_
           refine wp_seq ?_
           refine wp_block ?_
           obtain ⟨e7, h8, H1⟩ := Zj H1; obtain ⟨e9, h10, H1⟩ := Zj H1; obtain ⟨e11, h12, H1⟩ := Zj H1; obtain ⟨e13, h14, H1⟩ := Zj H1; obtain ⟨r15, h16, H1⟩ := Zj H1
           refine r_s (L := [(2, _), (3, _), (5, _)]) (T := ⟨[.old 0], _, [], [], [68]⟩ :: ⟨[.op 0 0], _, [], [0], [69]⟩ :: ⟨[.old 2], _, [], [], [70]⟩ :: ⟨[.op 1 0, .op 2 0], _, [], [0, 1, 2], [71]⟩ :: ⟨[.op 3 0], _, [], Lr 4, [72]⟩ :: ⟨[.op 4 0], _, [], Lr 5, [73]⟩ :: ⟨[.old 1], _, [], [], [74]⟩ :: ⟨[.op 6 0], _, [], [6], [75]⟩ :: ⟨[.old 2], _, [], [], [76]⟩ :: ⟨[.op 7 0, .op 8 0], _, [], [6, 7, 8], [77]⟩ :: ⟨[.op 9 0], _, [], List.range' 6 4, [78]⟩ :: ⟨[.op 10 0], _, [], List.range' 6 5, [79]⟩ :: ⟨[.op 5 0, .op 11 0], _, [], Lr 12, [80]⟩ :: ⟨[.op 12 0], _, [], Lr 13, [81]⟩ :: ⟨[.op 13 0, .old 0], _, [], Lr 14, [82]⟩ :: ⟨[.op 13 0, .op 14 0], _, [], Lr 15, [83]⟩ :: ⟨[.op 13 0, .old 2], _, [], Lr 14, [84]⟩ :: ⟨[.op 13 0, .op 15 0, .op 16 0], _, [], Lr 17, [85]⟩ :: ⟨[.op 13 0, .op 17 0], _, [], Lr 18, [86]⟩ :: ⟨[.op 13 0, .op 18 0], _, [], Lr 19, [87]⟩ :: ⟨[.op 13 0, .old 1], _, [], Lr 14, [88]⟩ :: ⟨[.op 13 0, .op 20 0], _, [], 0 :: 1 :: 2 :: 3 :: 4 :: 5 :: 6 :: 7 :: 8 :: 9 :: 10 :: 11 :: 12 :: 13 :: 20 :: [], [89]⟩ :: ⟨[.op 13 0, .old 2], _, [], Lr 14, [90]⟩ :: ⟨[.op 13 0, .op 21 0, .op 22 0], _, [], 0 :: 1 :: 2 :: 3 :: 4 :: 5 :: 6 :: 7 :: 8 :: 9 :: 10 :: 11 :: 12 :: 13 :: 20 :: 21 :: 22 :: [], [91]⟩ :: ⟨[.op 13 0, .op 23 0], _, [], 0 :: 1 :: 2 :: 3 :: 4 :: 5 :: 6 :: 7 :: 8 :: 9 :: 10 :: 11 :: 12 :: 13 :: 20 :: 21 :: 22 :: 23 :: [], [92]⟩ :: ⟨[.op 13 0, .op 24 0], _, [], 0 :: 1 :: 2 :: 3 :: 4 :: 5 :: 6 :: 7 :: 8 :: 9 :: 10 :: 11 :: 12 :: 13 :: 20 :: 21 :: 22 :: 23 :: 24 :: [], [93]⟩ :: ⟨[.op 13 0, .op 19 0, .op 25 0], _, [], Lr 26, [94]⟩ :: ⟨[.op 13 0, .op 26 0], _, [], Lr 27, [95]⟩ :: ⟨[.op 13 0, .op 27 0], _, [], Lr 28, [96]⟩ :: []) (F := [.old 0, .old 1, .old 2, .op 28 0]) (hst.pick [0, 1, 2] rfl) hb Za
             (o_p rfl (Zd Zb3 rfl rfl u_0) <| o_p rfl (Zf Zcz rfl rfl u_0) <| o_p rfl (Zc rfl rfl u_0) <| o_p rfl (Zbm Tryd.underlying23 Zff rfl rfl u_0 u_1 h8) <| o_p rfl (Zd Zd3 rfl rfl u_0) <| o_p rfl (Zf ty_9 rfl rfl u_0) <| o_p rfl (Zd Zb3 rfl rfl u_0) <| o_p rfl (Zf Zcz rfl rfl u_0) <| o_p rfl (Zc rfl rfl u_0) <| o_p rfl (Zbm Tryd.underlying23 Zff rfl rfl u_0 u_1 h10) <| o_p rfl (Zd Zd3 rfl rfl u_0) <| o_p rfl (Zf ty_9 rfl rfl u_0) <| o_p rfl (Zp7 rfl rfl u_0 u_1) <| o_p rfl (Zc rfl rfl u_0) <| o_g (g_f rfl rfl rfl (fun hG => Zd Zb3 rfl rfl u_0)) <| o_g (g_f rfl rfl rfl (fun hG => Zf Zcz rfl rfl (Opd.gd hG u_0))) <| o_g (g_f rfl rfl rfl (fun hG => Zc rfl rfl u_0)) <| o_g (g_f rfl rfl rfl (fun hG => Zbm Tryd.underlying23 Zff rfl rfl (Opd.gd hG u_0) (Opd.gd hG u_1) (Zbs h12 hG))) <| o_g (g_f rfl rfl rfl (fun hG => Zd Zen rfl rfl (Opd.gd hG u_0))) <| o_g (g_f rfl rfl rfl (fun hG => Zf Zc0 rfl rfl (Opd.gd hG u_0))) <| o_g (g_f rfl rfl rfl (fun hG => Zd Zb3 rfl rfl u_0)) <| o_g (g_f rfl rfl rfl (fun hG => Zf Zcz rfl rfl (Opd.gd hG u_0))) <| o_g (g_f rfl rfl rfl (fun hG => Zc rfl rfl u_0)) <| o_g (g_f rfl rfl rfl (fun hG => Zbm Tryd.underlying23 Zff rfl rfl (Opd.gd hG u_0) (Opd.gd hG u_1) (Zbs h14 hG))) <| o_g (g_f rfl rfl rfl (fun hG => Zd Zen rfl rfl (Opd.gd hG u_0))) <| o_g (g_f rfl rfl rfl (fun hG => Zf Zc0 rfl rfl (Opd.gd hG u_0))) <| o_g (g_f rfl rfl rfl (fun hG => Zu Zpi (Ze6 _ _ (Zbs h16 hG)) rfl rfl (.cons (Opd.gd hG u_0) (.cons (Opd.gd hG u_1) .nil)))) <| o_g (g_f rfl rfl rfl (fun hG => Zcf rfl rfl (Opd.gd hG u_0))) <| o_p rfl (Zbf rfl rfl u_0 (fun hz => (Opd.gd (bNF hz) u_1))) <| o_n) (by kernel_rfl) (fun a g hst hb => ?_)
           refine wp_cond_split (hst.bool 3 rfl) (fun hc17 => ?_) (fun hc17 => ?_)
           · replace H1 := Zp hc17 H1
             refine r_s (L := []) (T := [⟨[], _, [], [], [4]⟩]) (F := [.op 0 0]) (hst.pick [] rfl) hb Za
               (o_p rfl (Zb rfl rfl c_b) <| o_n) (by kernel_rfl) (fun a g hst hb => ?_)
             refine wp_ret ?_
             refine Zo ?_
             refine Zk ?_
             refine Zk ?_
             refine Zo ?_
             refine Zk ?_
             refine Zk ?_
             obtain rfl := Option.some.inj H1
             obtain rfl := Option.some.inj H0
             exact Zz rfl hst hb (Zh (s := 4)) (hst.at 0 rfl)
           · replace H1 := Zq hc17 H1
             refine wp_skip ?_
             refine Zbg ?_
             refine Zn ?_
             refine r_g (L := [(2, _), (3, _), (5, _)]) (T := [⟨[.old 2], _, [], [], [66]⟩, ⟨[.op 0 0], _, [], [0], [67]⟩, ⟨[.op 1 0], _, [], [0, 1], [5]⟩]) (F := [.old 0, .old 1, .op 2 0]) (hst.pick [0, 1, 2] rfl) hb Za
               (o_p rfl (Zc rfl rfl u_0) <| o_p rfl (Zck rfl rfl u_0 c_i rfl) <| o_p rfl (Zb rfl rfl u_0) <| o_n) (by kernel_rfl) (fun a g hst hb => ?_)
             exact ⟨n, Nat.lt_succ_self _, (IntKind.i64.wrap (x5 + (1 : Int))), g, rfl, (hst.pick [0, 1, 2] rfl), hb, H1⟩
         · replace H1 := Zq hc6 H1
           refine wp_exit ?_
           refine Zb9 ?_
           refine Zb9 ?_
           refine Zcy ?_
           exact ⟨g, rfl, (hst.pick [] rfl), hb, Option.some.inj H1⟩
theorem Zlu (a0 : Int) {r : ByteArray} (h : Zic a0 = some r) : FnOk Tryd.prog 75 [(pInt .i64 a0)] (pStr r) := by
 have H0 := h
 unfold Zic at H0
 clear h
 refine Zbt (N := 15) Tryd.func75 rfl rfl (Nat.le_of_ble_eq_true rfl) rfl rfl (fun a g0 hst hb => ?_)
 refine r_s (T := [⟨[], _, [], [], [2]⟩]) (F := [.old 0]) hst hb Za
   (o_p rfl (Zb rfl rfl c_s) <| o_n) (by kernel_rfl) (fun a g hst hb => ?_)
 refine r_s (T := [⟨[], _, [], [], [4]⟩, ⟨[.op 0 0], _, [], [0], [3]⟩]) (F := [.old 0, .op 1 0]) hst hb Za
   (o_p rfl (Zh8 Zvi (xs := [.const (.string ⟨#[]⟩), .const (.string ⟨#[109]⟩), .const (.string ⟨#[]⟩), .const (.string ⟨#[]⟩), .const (.string ⟨#[]⟩), .const (.string ⟨#[115]⟩), .const (.string ⟨#[115]⟩), .const (.string ⟨#[110]⟩), .const (.string ⟨#[110]⟩), .const (.string ⟨#[110]⟩), .const (.string ⟨#[110]⟩), .const (.string ⟨#[110]⟩), .const (.string ⟨#[110]⟩), .const (.string ⟨#[120]⟩), .const (.string ⟨#[120]⟩), .const (.string ⟨#[120]⟩), .const (.string ⟨#[120]⟩), .const (.string ⟨#[120]⟩), .const (.string ⟨#[115]⟩), .const (.string ⟨#[115]⟩), .const (.string ⟨#[115]⟩), .const (.string ⟨#[120, 115]⟩)]) (.cons c_s (.cons c_s (.cons c_s (.cons c_s (.cons c_s (.cons c_s (.cons c_s (.cons c_s (.cons c_s (.cons c_s (.cons c_s (.cons c_s (.cons c_s (.cons c_s (.cons c_s (.cons c_s (.cons c_s (.cons c_s (.cons c_s (.cons c_s (.cons c_s (.cons c_s .nil)))))))))))))))))))))) (by decide) rfl rfl) <| o_p rfl (Zb rfl rfl u_0) <| o_n) (by kernel_rfl) (fun a g hst hb => ?_)
 refine wp_seq ?_
 refine r_s (T := [⟨[.old 0], _, [], [], [5]⟩, ⟨[.op 0 0], _, [], [0], [6]⟩, ⟨[.op 1 0], _, [], [0, 1], [7]⟩, ⟨[.op 2 0, .old 0], _, [], [0, 1, 2], [8]⟩, ⟨[.op 2 0, .op 3 0], _, [], Lr 4, [9]⟩, ⟨[.op 2 0, .op 4 0], _, [], Lr 5, [10]⟩]) (F := [.old 0, .old 1, .op 5 0]) hst hb Za
   (o_p rfl (Zc rfl rfl u_0) <| o_p rfl (Zb6 rfl rfl u_0 c_i) <| o_p rfl (Zc rfl rfl u_0) <| o_g (g_f rfl rfl rfl (fun hG => Zc rfl rfl u_0)) <| o_g (g_f rfl rfl rfl (fun hG => Zci rfl rfl (Opd.gd hG u_0) c_i)) <| o_p rfl (Zbf rfl rfl u_0 (fun hz => (Opd.gd (bNF hz) u_1))) <| o_n) (by kernel_rfl) (fun a g hst hb => ?_)
 refine wp_cond_split (hst.bool 2 rfl) (fun hc1 => ?_) (fun hc1 => ?_)
 · replace H0 := Zp hc1 H0
   refine r_s (L := []) (T := [⟨[], _, [], [], [2]⟩]) (F := [.op 0 0]) (hst.pick [] rfl) hb Za
     (o_p rfl (Zb rfl rfl c_s) <| o_n) (by kernel_rfl) (fun a g hst hb => ?_)
   refine wp_ret ?_
   refine Zk ?_
   obtain rfl := Option.some.inj H0
   exact Zz rfl hst hb (Zh (s := 2)) (hst.at 0 rfl)
 · replace H0 := Zq hc1 H0
   refine wp_skip ?_
   refine Zn ?_
   obtain ⟨e2, h3, H0⟩ := Zj H0
   refine r_s (L := [(0, _), (3, _)]) (T := [⟨[.old 1], _, [], [], [11]⟩, ⟨[.old 0], _, [], [], [12]⟩, ⟨[.op 0 0, .op 1 0], _, [], [0, 1], [13]⟩, ⟨[.op 2 0], _, [], [0, 1, 2], [14]⟩, ⟨[.op 3 0], _, [], Lr 4, [2]⟩]) (F := [.op 4 0]) (hst.pick [0, 1] rfl) hb Za
     (o_p rfl (Zc rfl rfl u_0) <| o_p rfl (Zc rfl rfl u_0) <| o_p rfl (Zbm Tryd.underlying122 sz_9 rfl rfl u_0 u_1 h3) <| o_p rfl (Zf ty_9 rfl rfl u_0) <| o_p rfl (Zb rfl rfl u_0) <| o_n) (by kernel_rfl) (fun a g hst hb => ?_)
   refine wp_ret ?_
   obtain rfl := Option.some.inj H0
   exact Zz rfl hst hb (Zh (s := 2)) (hst.at 0 rfl)
theorem Zia (a0 : Int) (a1 : Int) {r : Bool} (h : Zdh a0 a1 = some r) : FnOk Tryd.prog 48 [(pInt .i64 a0), (pInt .u8 a1)] (Z9 r) := by
 have H0 := h
 unfold Zdh at H0
 clear h
 refine Zbt (N := 20) Tryd.func48 rfl rfl (Nat.le_of_ble_eq_true rfl) rfl rfl (fun a g0 hst hb => ?_)
 refine r_s (T := [⟨[], _, [], [], [4]⟩]) (F := [.old 0, .old 1]) hst hb Za
   (o_p rfl (Zb rfl rfl c_b) <| o_n) (by kernel_rfl) (fun a g hst hb => ?_)
 obtain ⟨r1, h2, H0⟩ := Zj H0
 refine r_s (T := [⟨[.old 0], _, [], [], [7]⟩, ⟨[.op 0 0], _, [], [0], [8]⟩, ⟨[.op 1 0], _, [], [0, 1], [5]⟩]) (F := [.old 1, .op 2 0]) hst hb Za
   (o_p rfl (Zc rfl rfl u_0) <| o_p rfl (Zu Z23 (Zlu _ h2) rfl rfl (.cons u_0 .nil)) <| o_p rfl (Zb rfl rfl u_0) <| o_n) (by kernel_rfl) (fun a g hst hb => ?_)
 refine wp_seq ?_
 refine r_s (T := [⟨[], _, [], [], [6]⟩]) (F := [.old 0, .old 1, .op 0 0]) hst hb Za
   (o_p rfl (Zb rfl rfl c_i) <| o_n) (by kernel_rfl) (fun a g hst hb => ?_)
 obtain ⟨z8, hz1, H0⟩ := Zj H0
 refine Zcl (fun a w => ∃ (g : G), w = g.w ∧ St 20 [] a g ∧ Base g0 g ∧ (.inr ()) = z8) ?_ ?_
 · rintro a w ⟨g, rfl, hst, hb, rfl⟩
   refine Zn ?_
   refine r_s (T := [⟨[], _, [], [], [4]⟩]) (F := [.op 0 0]) hst hb Za
     (o_p rfl (Zb rfl rfl c_b) <| o_n) (by kernel_rfl) (fun a g hst hb => ?_)
   refine wp_ret ?_
   obtain rfl := Option.some.inj H0
   exact Zz rfl hst hb (Zh (s := 4)) (hst.at 0 rfl)
 · refine wp_block ?_
   refine wp_loop_ghost (fun n a w => ∃ (x3 : Int) (g : G), w = g.w ∧ St 20 [(1, (pInt .u8 a1)), (5, (pStr r1)), (6, (pInt .i64 x3))] a g ∧ Base g0 g ∧ Zfo a1 r1 n x3 = some z8) (Int.toNat ((r1.size : Int) - (0 : Int)) + 1) ⟨(0 : Int), g, rfl, (hst.pick [0, 1, 2] rfl), hb, hz1⟩ (fun n a w hI => ?_)
   obtain ⟨x3, g, rfl, hst, hb, H1⟩ := hI
   cases n with
   | zero => exact absurd H1 (by simp [Zfo])
   | succ n =>
     rw [Zfo] at H1
     refine wp_seq ?_
     refine r_s (T := [⟨[.old 2], _, [], [], [9]⟩, ⟨[.old 1], _, [], [], [10]⟩, ⟨[.op 1 0], _, [], [1], [11]⟩, ⟨[.op 0 0, .op 2 0], _, [], [0, 1, 2], [12]⟩]) (F := [.old 0, .old 1, .old 2, .op 3 0]) hst hb Za
       (o_p rfl (Zc rfl rfl u_0) <| o_p rfl (Zc rfl rfl u_0) <| o_p rfl (Zem Tryd.underlying9 rfl rfl u_0) <| o_p rfl (Zb6 rfl rfl u_0 u_1) <| o_n) (by kernel_rfl) (fun a g hst hb => ?_)
     refine wp_cond_split (hst.bool 3 rfl) (fun hc4 => ?_) (fun hc4 => ?_)
     · replace H1 := Zp hc4 H1
       refine wp_skip ?_
       refine Zn ?_
       refine wp_seq ?_
       refine wp_block ?_
       obtain ⟨b5, h6, H1⟩ := Zj H1
       refine r_s (L := [(1, _), (5, _), (6, _)]) (T := [⟨[.old 1], _, [], [], [15]⟩, ⟨[.old 2], _, [], [], [16]⟩, ⟨[.op 0 0, .op 1 0], _, [], [0, 1], [17]⟩, ⟨[.old 0], _, [], [], [18]⟩, ⟨[.op 2 0, .op 3 0], _, [], Lr 4, [19]⟩]) (F := [.old 0, .old 1, .old 2, .op 4 0]) (hst.pick [0, 1, 2] rfl) hb Za
         (o_p rfl (Zc rfl rfl u_0) <| o_p rfl (Zc rfl rfl u_0) <| o_p rfl (Zjp Tryd.underlying9 rfl rfl u_0 u_1 h6) <| o_p rfl (Zc rfl rfl u_0) <| o_p rfl (Z7 rfl rfl u_0 u_1) <| o_n) (by kernel_rfl) (fun a g hst hb => ?_)
       refine wp_cond_split (hst.bool 3 rfl) (fun hc7 => ?_) (fun hc7 => ?_)
       · replace H1 := Zp hc7 H1
         refine r_s (L := []) (T := [⟨[], _, [], [], [4]⟩]) (F := [.op 0 0]) (hst.pick [] rfl) hb Za
           (o_p rfl (Zb rfl rfl c_b) <| o_n) (by kernel_rfl) (fun a g hst hb => ?_)
         refine wp_ret ?_
         refine Zo ?_
         refine Zk ?_
         refine Zk ?_
         refine Zo ?_
         refine Zk ?_
         refine Zk ?_
         obtain rfl := Option.some.inj H1
         obtain rfl := Option.some.inj H0
         exact Zz rfl hst hb (Zh (s := 4)) (hst.at 0 rfl)
       · replace H1 := Zq hc7 H1
         refine wp_skip ?_
         refine Zbg ?_
         refine Zn ?_
         refine r_g (L := [(1, _), (5, _), (6, _)]) (T := [⟨[.old 2], _, [], [], [13]⟩, ⟨[.op 0 0], _, [], [0], [14]⟩, ⟨[.op 1 0], _, [], [0, 1], [6]⟩]) (F := [.old 0, .old 1, .op 2 0]) (hst.pick [0, 1, 2] rfl) hb Za
           (o_p rfl (Zc rfl rfl u_0) <| o_p rfl (Zck rfl rfl u_0 c_i rfl) <| o_p rfl (Zb rfl rfl u_0) <| o_n) (by kernel_rfl) (fun a g hst hb => ?_)
         exact ⟨n, Nat.lt_succ_self _, (IntKind.i64.wrap (x3 + (1 : Int))), g, rfl, (hst.pick [0, 1, 2] rfl), hb, H1⟩
     · replace H1 := Zq hc4 H1
       refine wp_exit ?_
       refine Zb9 ?_
       refine Zb9 ?_
       refine Zcy ?_
       exact ⟨g, rfl, (hst.pick [] rfl), hb, Option.some.inj H1⟩
theorem Zmj (a0 : Zr) {r : Int} (h : Zd1 a0 = some r) : FnOk Tryd.prog 22 [(Zy.pd a0)] (pInt .i64 r) := by
 have H0 := h
 unfold Zd1 at H0
 clear h
 refine Zbt (N := 113) Tryd.func22 rfl rfl (Nat.le_of_ble_eq_true rfl) rfl rfl (fun a g0 hst hb => ?_)
 refine r_s (T := [⟨[.old 0], _, [], [], [1]⟩, ⟨[], _, [], [], [2]⟩]) (F := [.op 0 0]) hst hb Za
   (o_p rfl (Zbq rfl rfl u_0) <| o_p rfl (Zb rfl rfl c_i) <| o_n) (by kernel_rfl) (fun a g hst hb => ?_)
 refine wp_seq ?_
 refine r_s (T := [⟨[.old 0], _, [], [], [3]⟩, ⟨[.op 0 0], _, [], [0], [4]⟩, ⟨[.op 1 0], _, [], [0, 1], [5]⟩, ⟨[.op 2 0], _, [], [0, 1, 2], [6]⟩, ⟨[.op 3 0, .old 0], _, [], Lr 4, [7]⟩, ⟨[.op 3 0, .op 4 0], _, [], Lr 5, [8]⟩, ⟨[.op 3 0, .op 5 0], _, [], Lr 6, [9]⟩, ⟨[.op 3 0, .op 6 0], _, [], Lr 7, [10]⟩]) (F := [.old 0, .op 7 0]) hst hb Za
   (o_p rfl (Zd Zce rfl rfl u_0) <| o_p rfl (Zf ty_3 rfl rfl u_0) <| o_p rfl (Zb6 rfl rfl u_0 c_i) <| o_p rfl (Zc rfl rfl u_0) <| o_g (g_f rfl rfl rfl (fun hG => Zd Zce rfl rfl u_0)) <| o_g (g_f rfl rfl rfl (fun hG => Zf ty_3 rfl rfl (Opd.gd hG u_0))) <| o_g (g_f rfl rfl rfl (fun hG => Zci rfl rfl (Opd.gd hG u_0) c_i)) <| o_p rfl (Zbf rfl rfl u_0 (fun hz => (Opd.gd (bNF hz) u_1))) <| o_n) (by kernel_rfl) (fun a g hst hb => ?_)
 refine wp_cond_split (hst.bool 1 rfl) (fun hc1 => ?_) (fun hc1 => ?_)
 · replace H0 := Zp hc1 H0
   refine r_s (L := []) (T := [⟨[], _, [], [], [2]⟩]) (F := [.op 0 0]) (hst.pick [] rfl) hb Za
     (o_p rfl (Zb rfl rfl c_i) <| o_n) (by kernel_rfl) (fun a g hst hb => ?_)
   refine wp_ret ?_
   refine Zk ?_
   obtain rfl := Option.some.inj H0
   exact Zz rfl hst hb (Zh (s := 2)) (hst.at 0 rfl)
 · replace H0 := Zq hc1 H0
   refine wp_skip ?_
   refine Zn ?_
   refine wp_seq ?_
   refine r_s (L := [(1, _)]) (T := [⟨[.old 0], _, [], [], [11]⟩, ⟨[.op 0 0], _, [], [0], [12]⟩, ⟨[.op 1 0], _, [], [0, 1], [13]⟩, ⟨[.op 2 0], _, [], [0, 1, 2], [14]⟩, ⟨[.op 3 0], _, [], Lr 4, [15]⟩, ⟨[.op 4 0, .old 0], _, [], Lr 5, [16]⟩, ⟨[.op 4 0, .op 5 0], _, [], Lr 6, [17]⟩, ⟨[.op 4 0, .op 6 0], _, [], Lr 7, [18]⟩, ⟨[.op 4 0, .op 7 0], _, [], Lr 8, [19]⟩, ⟨[.op 4 0, .op 8 0], _, [], Lr 9, [20]⟩]) (F := [.old 0, .op 9 0]) (hst.pick [0] rfl) hb Za
     (o_p rfl (Zd Zl4 rfl rfl u_0) <| o_p rfl (Zf ty_9 rfl rfl u_0) <| o_p rfl (Zem Tryd.underlying9 rfl rfl u_0) <| o_p rfl (Zb6 rfl rfl u_0 c_i) <| o_p rfl (Zc rfl rfl u_0) <| o_g (g_f rfl rfl rfl (fun hG => Zd Zl4 rfl rfl u_0)) <| o_g (g_f rfl rfl rfl (fun hG => Zf ty_9 rfl rfl (Opd.gd hG u_0))) <| o_g (g_f rfl rfl rfl (fun hG => Zem Tryd.underlying9 rfl rfl (Opd.gd hG u_0))) <| o_g (g_f rfl rfl rfl (fun hG => Zci rfl rfl (Opd.gd hG u_0) c_i)) <| o_p rfl (Zbf rfl rfl u_0 (fun hz => (Opd.gd (bNF hz) u_1))) <| o_n) (by kernel_rfl) (fun a g hst hb => ?_)
   refine wp_cond_split (hst.bool 1 rfl) (fun hc2 => ?_) (fun hc2 => ?_)
   · replace H0 := Zp hc2 H0
     refine r_s (L := []) (T := [⟨[], _, [], [], [2]⟩]) (F := [.op 0 0]) (hst.pick [] rfl) hb Za
       (o_p rfl (Zb rfl rfl c_i) <| o_n) (by kernel_rfl) (fun a g hst hb => ?_)
     refine wp_ret ?_
     refine Zk ?_
     obtain rfl := Option.some.inj H0
     exact Zz rfl hst hb (Zh (s := 2)) (hst.at 0 rfl)
   · replace H0 := Zq hc2 H0
     refine wp_skip ?_
     refine Zn ?_
     refine wp_seq ?_
     obtain ⟨r3, h4, H0⟩ := Zj H0; obtain ⟨r5, h6, H0⟩ := Zj H0; obtain ⟨r7, h8, H0⟩ := Zj H0; obtain ⟨r9, h10, H0⟩ := Zj H0
     refine r_s (L := [(1, _)]) (T := ⟨[.old 0], _, [], [], [21]⟩ :: ⟨[.op 0 0], _, [], [0], [22]⟩ :: ⟨[.op 1 0], _, [], [0, 1], [23]⟩ :: ⟨[.op 2 0], _, [], [0, 1, 2], [24]⟩ :: ⟨[.op 3 0], _, [], Lr 4, [25]⟩ :: ⟨[.op 4 0, .old 0], _, [], Lr 5, [26]⟩ :: ⟨[.op 4 0, .op 5 0], _, [], Lr 6, [27]⟩ :: ⟨[.op 4 0, .op 6 0], _, [], Lr 7, [28]⟩ :: ⟨[.op 4 0, .op 7 0], _, [], Lr 8, [29]⟩ :: ⟨[.op 8 0], _, [], Lr 9, [30]⟩ :: ⟨[.op 9 0, .old 0], _, [], Lr 10, [31]⟩ :: ⟨[.op 9 0, .op 10 0], _, [], Lr 11, [32]⟩ :: ⟨[.op 9 0, .op 11 0], _, [], Lr 12, [33]⟩ :: ⟨[.op 9 0, .op 12 0], _, [], Lr 13, [34]⟩ :: ⟨[.op 9 0, .op 13 0], _, [], Lr 14, [35]⟩ :: ⟨[.op 14 0, .old 0], _, [], Lr 15, [36]⟩ :: ⟨[.op 14 0, .op 15 0], _, [], Lr 16, [37]⟩ :: ⟨[.op 14 0, .op 16 0], _, [], Lr 17, [38]⟩ :: ⟨[.op 14 0, .op 17 0], _, [], Lr 18, [39]⟩ :: ⟨[.op 9 0, .op 14 0, .op 18 0], _, [], Lr 19, [40]⟩ :: ⟨[.op 9 0, .op 19 0], _, [], Lr 20, [41]⟩ :: ⟨[.op 20 0], _, [], Lr 21, [42]⟩ :: ⟨[.op 21 0, .old 0], _, [], Lr 22, [43]⟩ :: ⟨[.op 21 0, .op 22 0], _, [], Lr 23, [44]⟩ :: ⟨[.op 21 0, .op 23 0], _, [], Lr 24, [45]⟩ :: ⟨[.op 21 0, .op 24 0], _, [], Lr 25, [46]⟩ :: ⟨[.op 21 0, .op 25 0], _, [], Lr 26, [47]⟩ :: ⟨[.op 26 0, .old 0], _, [], Lr 27, [48]⟩ :: ⟨[.op 26 0, .op 27 0], _, [], Lr 28, [49]⟩ :: ⟨[.op 26 0, .op 28 0], _, [], Lr 29, [50]⟩ :: ⟨[.op 21 0, .op 26 0, .op 29 0], _, [], Lr 30, [51]⟩ :: ⟨[.op 21 0, .op 30 0], _, [], Lr 31, [52]⟩ :: []) (F := [.old 0, .op 31 0]) (hst.pick [0] rfl) hb Za
       (o_p rfl (Zd Zce rfl rfl u_0) <| o_p rfl (Zf ty_3 rfl rfl u_0) <| o_p rfl (Zu Zux (Zia _ _ h4) rfl rfl (.cons u_0 (.cons c_i .nil))) <| o_p rfl (Zcf rfl rfl u_0) <| o_p rfl (Zc rfl rfl u_0) <| o_g (g_t rfl rfl rfl (fun hG => Zd Zc3 rfl rfl u_0)) <| o_g (g_t rfl rfl rfl (fun hG => Zf ty_2 rfl rfl (Opd.gd hG u_0))) <| o_g (g_t rfl rfl rfl (fun hG => Zcp rfl rfl (Opd.gd hG u_0) c_i)) <| o_p rfl (Zbc rfl rfl u_0 (fun hz => (Opd.gd hz u_1))) <| o_p rfl (Zc rfl rfl u_0) <| o_g (g_f rfl rfl rfl (fun hG => Zd Zce rfl rfl u_0)) <| o_g (g_f rfl rfl rfl (fun hG => Zf ty_3 rfl rfl (Opd.gd hG u_0))) <| o_g (g_f rfl rfl rfl (fun hG => Zu Zux (Zia _ _ (Zbs h6 hG)) rfl rfl (.cons (Opd.gd hG u_0) (.cons c_i .nil)))) <| o_g (g_f rfl rfl rfl (fun hG => Zcf rfl rfl (Opd.gd hG u_0))) <| o_g (g_f rfl rfl rfl (fun hG => Zc rfl rfl (Opd.gd hG u_0))) <| o_g (g_ti rfl rfl rfl (fun hG => Zd Zjq rfl rfl u_0)) <| o_g (g_ti rfl rfl rfl (fun hG => Zf Zc0 rfl rfl (Opd.gd hG u_0))) <| o_g (g_ti rfl rfl rfl (fun hG => Zu Zpi (Ze6 _ _ (Zbs h8 hG)) rfl rfl (.cons (Opd.gd hG u_0) (.cons c_f .nil)))) <| o_g (g_ti rfl rfl rfl (fun hG => Zcf rfl rfl (Opd.gd hG u_0))) <| o_g (g_f rfl rfl rfl (fun hG => Zbc rfl rfl (Opd.gd hG u_0) (fun hz => (Opd.gd (bA hG hz) u_1)))) <| o_p rfl (Zbf rfl rfl u_0 (fun hz => (Opd.gd (bNF hz) u_1))) <| o_p rfl (Zc rfl rfl u_0) <| o_g (g_f rfl rfl rfl (fun hG => Zd Zce rfl rfl u_0)) <| o_g (g_f rfl rfl rfl (fun hG => Zf ty_3 rfl rfl (Opd.gd hG u_0))) <| o_g (g_f rfl rfl rfl (fun hG => Zu Zux (Zia _ _ (Zbs h10 hG)) rfl rfl (.cons (Opd.gd hG u_0) (.cons c_i .nil)))) <| o_g (g_f rfl rfl rfl (fun hG => Zcf rfl rfl (Opd.gd hG u_0))) <| o_g (g_f rfl rfl rfl (fun hG => Zc rfl rfl (Opd.gd hG u_0))) <| o_g (g_ti rfl rfl rfl (fun hG => Zd Zfc rfl rfl u_0)) <| o_g (g_ti rfl rfl rfl (fun hG => Zf ty_9 rfl rfl (Opd.gd hG u_0))) <| o_g (g_ti rfl rfl rfl (fun hG => Zp7 rfl rfl (Opd.gd hG u_0) c_s)) <| o_g (g_f rfl rfl rfl (fun hG => Zbc rfl rfl (Opd.gd hG u_0) (fun hz => (Opd.gd (bA hG hz) u_1)))) <| o_p rfl (Zbf rfl rfl u_0 (fun hz => (Opd.gd (bNF hz) u_1))) <| o_n) (by kernel_rfl) (fun a g hst hb => ?_)
     refine wp_cond_split (hst.bool 1 rfl) (fun hc11 => ?_) (fun hc11 => ?_)
     · replace H0 := Zp hc11 H0
       refine r_s (L := []) (T := [⟨[], _, [], [], [2]⟩]) (F := [.op 0 0]) (hst.pick [] rfl) hb Za
         (o_p rfl (Zb rfl rfl c_i) <| o_n) (by kernel_rfl) (fun a g hst hb => ?_)
       refine wp_ret ?_
       refine Zk ?_
       obtain rfl := Option.some.inj H0
       exact Zz rfl hst hb (Zh (s := 2)) (hst.at 0 rfl)
     · replace H0 := Zq hc11 H0
       refine wp_skip ?_
       refine Zn ?_
       refine wp_seq ?_
       obtain ⟨r12, h13, H0⟩ := Zj H0
       refine r_s (L := [(1, _)]) (T := [⟨[.old 0], _, [], [], [53]⟩, ⟨[.op 0 0], _, [], [0], [54]⟩, ⟨[.op 1 0], _, [], [0, 1], [55]⟩, ⟨[.op 2 0], _, [], [0, 1, 2], [56]⟩, ⟨[.op 3 0, .old 0], _, [], Lr 4, [57]⟩, ⟨[.op 3 0, .op 4 0], _, [], Lr 5, [58]⟩, ⟨[.op 3 0], _, [], Lr 4, [59]⟩, ⟨[.op 3 0, .op 5 0, .op 6 0], _, [], Lr 7, [60]⟩, ⟨[.op 3 0, .op 7 0], _, [], Lr 8, [61]⟩, ⟨[.op 3 0, .op 8 0], _, [], Lr 9, [62]⟩]) (F := [.old 0, .op 9 0]) (hst.pick [0] rfl) hb Za
         (o_p rfl (Zd Zce rfl rfl u_0) <| o_p rfl (Zf ty_3 rfl rfl u_0) <| o_p rfl (Zcp rfl rfl u_0 c_i) <| o_p rfl (Zc rfl rfl u_0) <| o_g (g_t rfl rfl rfl (fun hG => Zd Zkk rfl rfl u_0)) <| o_g (g_t rfl rfl rfl (fun hG => Zf Z8 rfl rfl (Opd.gd hG u_0))) <| o_g (g_t rfl rfl rfl (fun hG => Zks rfl rfl )) <| o_g (g_t rfl rfl rfl (fun hG => Zu Z2h (Zm5 _ _ (Zbs h13 hG)) rfl rfl (.cons (Opd.gd hG u_0) (.cons (Opd.gd hG u_1) .nil)))) <| o_g (g_t rfl rfl rfl (fun hG => Zcf rfl rfl (Opd.gd hG u_0))) <| o_p rfl (Zbc rfl rfl u_0 (fun hz => (Opd.gd hz u_1))) <| o_n) (by kernel_rfl) (fun a g hst hb => ?_)
       refine wp_cond_split (hst.bool 1 rfl) (fun hc14 => ?_) (fun hc14 => ?_)
       · replace H0 := Zp hc14 H0
         refine r_s (L := []) (T := [⟨[], _, [], [], [2]⟩]) (F := [.op 0 0]) (hst.pick [] rfl) hb Za
           (o_p rfl (Zb rfl rfl c_i) <| o_n) (by kernel_rfl) (fun a g hst hb => ?_)
         refine wp_ret ?_
         refine Zk ?_
         obtain rfl := Option.some.inj H0
         exact Zz rfl hst hb (Zh (s := 2)) (hst.at 0 rfl)
       · replace H0 := Zq hc14 H0
         refine wp_skip ?_
         refine Zn ?_
         refine wp_seq ?_
         obtain ⟨r15, h16, H0⟩ := Zj H0; obtain ⟨r17, h18, H0⟩ := Zj H0
         refine r_s (L := [(1, _)]) (T := ⟨[.old 0], _, [], [], [63]⟩ :: ⟨[.op 0 0], _, [], [0], [64]⟩ :: ⟨[.op 1 0], _, [], [0, 1], [65]⟩ :: ⟨[.op 2 0], _, [], [0, 1, 2], [66]⟩ :: ⟨[.op 3 0], _, [], Lr 4, [67]⟩ :: ⟨[.op 4 0, .old 0], _, [], Lr 5, [68]⟩ :: ⟨[.op 4 0, .op 5 0], _, [], Lr 6, [69]⟩ :: ⟨[.op 4 0, .op 6 0], _, [], Lr 7, [70]⟩ :: ⟨[.op 4 0, .op 7 0], _, [], Lr 8, [71]⟩ :: ⟨[.op 4 0, .op 8 0], _, [], Lr 9, [72]⟩ :: ⟨[.op 9 0], _, [], Lr 10, [73]⟩ :: ⟨[.op 10 0, .old 0], _, [], Lr 11, [74]⟩ :: ⟨[.op 10 0, .op 11 0], _, [], Lr 12, [75]⟩ :: ⟨[.op 10 0, .op 12 0], _, [], Lr 13, [76]⟩ :: ⟨[.op 10 0, .op 13 0], _, [], Lr 14, [77]⟩ :: ⟨[.op 10 0, .op 14 0], _, [], Lr 15, [78]⟩ :: ⟨[.op 15 0, .old 0], _, [], Lr 16, [79]⟩ :: ⟨[.op 15 0, .op 16 0], _, [], Lr 17, [80]⟩ :: ⟨[.op 15 0, .op 17 0], _, [], Lr 18, [81]⟩ :: ⟨[.op 15 0, .op 18 0], _, [], Lr 19, [82]⟩ :: ⟨[.op 10 0, .op 15 0, .op 19 0], _, [], Lr 20, [83]⟩ :: ⟨[.op 10 0, .op 20 0], _, [], Lr 21, [84]⟩ :: []) (F := [.old 0, .op 21 0]) (hst.pick [0] rfl) hb Za
           (o_p rfl (Zd Zce rfl rfl u_0) <| o_p rfl (Zf ty_3 rfl rfl u_0) <| o_p rfl (Zu Zuj (Zin _ h16) rfl rfl (.cons u_0 .nil)) <| o_p rfl (Z7 rfl rfl u_0 c_i) <| o_p rfl (Zc rfl rfl u_0) <| o_g (g_t rfl rfl rfl (fun hG => Zd Zfc rfl rfl u_0)) <| o_g (g_t rfl rfl rfl (fun hG => Zf ty_9 rfl rfl (Opd.gd hG u_0))) <| o_g (g_t rfl rfl rfl (fun hG => Zem Tryd.underlying9 rfl rfl (Opd.gd hG u_0))) <| o_g (g_t rfl rfl rfl (fun hG => Zci rfl rfl (Opd.gd hG u_0) c_i)) <| o_p rfl (Zbc rfl rfl u_0 (fun hz => (Opd.gd hz u_1))) <| o_p rfl (Zc rfl rfl u_0) <| o_g (g_f rfl rfl rfl (fun hG => Zd Zce rfl rfl u_0)) <| o_g (g_f rfl rfl rfl (fun hG => Zf ty_3 rfl rfl (Opd.gd hG u_0))) <| o_g (g_f rfl rfl rfl (fun hG => Zu Zuj (Zin _ (Zbs h18 hG)) rfl rfl (.cons (Opd.gd hG u_0) .nil))) <| o_g (g_f rfl rfl rfl (fun hG => Zcp rfl rfl (Opd.gd hG u_0) c_i)) <| o_g (g_f rfl rfl rfl (fun hG => Zc rfl rfl (Opd.gd hG u_0))) <| o_g (g_ti rfl rfl rfl (fun hG => Zd Zfc rfl rfl u_0)) <| o_g (g_ti rfl rfl rfl (fun hG => Zf ty_9 rfl rfl (Opd.gd hG u_0))) <| o_g (g_ti rfl rfl rfl (fun hG => Zem Tryd.underlying9 rfl rfl (Opd.gd hG u_0))) <| o_g (g_ti rfl rfl rfl (fun hG => Zci rfl rfl (Opd.gd hG u_0) c_i)) <| o_g (g_f rfl rfl rfl (fun hG => Zbc rfl rfl (Opd.gd hG u_0) (fun hz => (Opd.gd (bA hG hz) u_1)))) <| o_p rfl (Zbf rfl rfl u_0 (fun hz => (Opd.gd (bNF hz) u_1))) <| o_n) (by kernel_rfl) (fun a g hst hb => ?_)
         refine wp_cond_split (hst.bool 1 rfl) (fun hc19 => ?_) (fun hc19 => ?_)
         · replace H0 := Zp hc19 H0
           refine r_s (L := []) (T := [⟨[], _, [], [], [2]⟩]) (F := [.op 0 0]) (hst.pick [] rfl) hb Za
             (o_p rfl (Zb rfl rfl c_i) <| o_n) (by kernel_rfl) (fun a g hst hb => ?_)
           refine wp_ret ?_
           refine Zk ?_
           obtain rfl := Option.some.inj H0
           exact Zz rfl hst hb (Zh (s := 2)) (hst.at 0 rfl)
         · replace H0 := Zq hc19 H0
           refine wp_skip ?_
           refine Zn ?_
           refine wp_seq ?_
           refine r_s (L := [(1, _)]) (T := ⟨[.old 0], _, [], [], [85]⟩ :: ⟨[.op 0 0], _, [], [0], [86]⟩ :: ⟨[.op 1 0], _, [], [0, 1], [87]⟩ :: ⟨[.op 2 0], _, [], [0, 1, 2], [88]⟩ :: ⟨[.op 3 0, .old 0], _, [], Lr 4, [89]⟩ :: ⟨[.op 3 0, .op 4 0], _, [], Lr 5, [90]⟩ :: ⟨[.op 3 0, .op 5 0], _, [], Lr 6, [91]⟩ :: ⟨[.op 3 0, .op 6 0], _, [], Lr 7, [92]⟩ :: ⟨[.op 7 0], _, [], Lr 8, [93]⟩ :: ⟨[.op 8 0, .old 0], _, [], Lr 9, [94]⟩ :: ⟨[.op 8 0, .op 9 0], _, [], Lr 10, [95]⟩ :: ⟨[.op 8 0, .op 10 0], _, [], Lr 11, [96]⟩ :: ⟨[.op 8 0, .op 11 0], _, [], Lr 12, [97]⟩ :: ⟨[.op 12 0, .old 0], _, [], Lr 13, [98]⟩ :: ⟨[.op 12 0, .op 13 0], _, [], Lr 14, [99]⟩ :: ⟨[.op 12 0, .op 14 0], _, [], Lr 15, [100]⟩ :: ⟨[.op 8 0, .op 12 0, .op 15 0], _, [], Lr 16, [101]⟩ :: ⟨[.op 8 0, .op 16 0], _, [], Lr 17, [102]⟩ :: []) (F := [.old 0, .op 17 0]) (hst.pick [0] rfl) hb Za
             (o_p rfl (Zd Zce rfl rfl u_0) <| o_p rfl (Zf ty_3 rfl rfl u_0) <| o_p rfl (Z7 rfl rfl u_0 c_i) <| o_p rfl (Zc rfl rfl u_0) <| o_g (g_f rfl rfl rfl (fun hG => Zd Zce rfl rfl u_0)) <| o_g (g_f rfl rfl rfl (fun hG => Zf ty_3 rfl rfl (Opd.gd hG u_0))) <| o_g (g_f rfl rfl rfl (fun hG => Z7 rfl rfl (Opd.gd hG u_0) c_i)) <| o_p rfl (Zbf rfl rfl u_0 (fun hz => (Opd.gd (bNF hz) u_1))) <| o_p rfl (Zc rfl rfl u_0) <| o_g (g_t rfl rfl rfl (fun hG => Zd Zc3 rfl rfl u_0)) <| o_g (g_t rfl rfl rfl (fun hG => Zf ty_2 rfl rfl (Opd.gd hG u_0))) <| o_g (g_t rfl rfl rfl (fun hG => Zb6 rfl rfl (Opd.gd hG u_0) c_i)) <| o_g (g_t rfl rfl rfl (fun hG => Zc rfl rfl (Opd.gd hG u_0))) <| o_g (g_fi rfl rfl rfl (fun hG => Zd Zc3 rfl rfl u_0)) <| o_g (g_fi rfl rfl rfl (fun hG => Zf ty_2 rfl rfl (Opd.gd hG u_0))) <| o_g (g_fi rfl rfl rfl (fun hG => Zci rfl rfl (Opd.gd hG u_0) c_i)) <| o_g (g_t rfl rfl rfl (fun hG => Zbf rfl rfl (Opd.gd hG u_0) (fun hz => (Opd.gd (bA hG (bNF hz)) u_1)))) <| o_p rfl (Zbc rfl rfl u_0 (fun hz => (Opd.gd hz u_1))) <| o_n) (by kernel_rfl) (fun a g hst hb => ?_)
           refine wp_cond_split (hst.bool 1 rfl) (fun hc20 => ?_) (fun hc20 => ?_)
           · replace H0 := Zp hc20 H0
             refine r_s (L := []) (T := [⟨[], _, [], [], [2]⟩]) (F := [.op 0 0]) (hst.pick [] rfl) hb Za
               (o_p rfl (Zb rfl rfl c_i) <| o_n) (by kernel_rfl) (fun a g hst hb => ?_)
             refine wp_ret ?_
             refine Zk ?_
             obtain rfl := Option.some.inj H0
             exact Zz rfl hst hb (Zh (s := 2)) (hst.at 0 rfl)
           · replace H0 := Zq hc20 H0
             refine wp_skip ?_
             refine Zn ?_
             refine wp_seq ?_
             obtain ⟨r21, h22, H0⟩ := Zj H0
             refine r_s (L := [(1, _)]) (T := [⟨[.old 0], _, [], [], [103]⟩, ⟨[.op 0 0], _, [], [0], [104]⟩, ⟨[.op 1 0], _, [], [0, 1], [105]⟩, ⟨[.op 2 0], _, [], [0, 1, 2], [106]⟩]) (F := [.old 0, .op 3 0]) (hst.pick [0] rfl) hb Za
               (o_p rfl (Zd Zjq rfl rfl u_0) <| o_p rfl (Zf Zc0 rfl rfl u_0) <| o_p rfl (Zu Zu1 (Zhg _ h22) rfl rfl (.cons u_0 .nil)) <| o_p rfl (Zcf rfl rfl u_0) <| o_n) (by kernel_rfl) (fun a g hst hb => ?_)
             refine wp_cond_split (hst.bool 1 rfl) (fun hc23 => ?_) (fun hc23 => ?_)
             · replace H0 := Zp hc23 H0
               refine r_s (L := []) (T := [⟨[], _, [], [], [2]⟩]) (F := [.op 0 0]) (hst.pick [] rfl) hb Za
                 (o_p rfl (Zb rfl rfl c_i) <| o_n) (by kernel_rfl) (fun a g hst hb => ?_)
               refine wp_ret ?_
               refine Zk ?_
               obtain rfl := Option.some.inj H0
               exact Zz rfl hst hb (Zh (s := 2)) (hst.at 0 rfl)
             · replace H0 := Zq hc23 H0
               refine wp_skip ?_
               refine Zn ?_
               refine wp_seq ?_
               refine r_s (L := [(1, _)]) (T := [⟨[.old 0], _, [], [], [107]⟩, ⟨[.op 0 0], _, [], [0], [108]⟩, ⟨[.op 1 0], _, [], [0, 1], [109]⟩]) (F := [.old 0, .op 2 0]) (hst.pick [0] rfl) hb Za
                 (o_p rfl (Zd Zce rfl rfl u_0) <| o_p rfl (Zf ty_3 rfl rfl u_0) <| o_p rfl (Z7 rfl rfl u_0 c_i) <| o_n) (by kernel_rfl) (fun a g hst hb => ?_)
               refine wp_cond_split (hst.bool 1 rfl) (fun hc24 => ?_) (fun hc24 => ?_)
               · replace H0 := Zp hc24 H0
                 obtain ⟨r25, h26, H0⟩ := Zj H0
                 refine r_s (L := [(1, _)]) (T := [⟨[.old 0], _, [], [], [110]⟩, ⟨[.op 0 0], _, [], [0], [111]⟩, ⟨[.op 1 0], _, [], [0, 1], [112]⟩, ⟨[.op 2 0], _, [], [0, 1, 2], [2]⟩]) (F := [.op 3 0]) (hst.pick [0] rfl) hb Za
                   (o_p rfl (Zd Zkk rfl rfl u_0) <| o_p rfl (Zf Z8 rfl rfl u_0) <| o_p rfl (Zu Zva (Zhi _ h26) rfl rfl (.cons u_0 .nil)) <| o_p rfl (Zb rfl rfl u_0) <| o_n) (by kernel_rfl) (fun a g hst hb => ?_)
                 refine wp_ret ?_
                 refine Zk ?_
                 obtain rfl := Option.some.inj H0
                 exact Zz rfl hst hb (Zh (s := 2)) (hst.at 0 rfl)
               · replace H0 := Zq hc24 H0
                 refine wp_skip ?_
                 refine Zn ?_
                 refine r_s (L := []) (T := [⟨[], _, [], [], [2]⟩]) (F := [.op 0 0]) (hst.pick [] rfl) hb Za
                   (o_p rfl (Zb rfl rfl c_i) <| o_n) (by kernel_rfl) (fun a g hst hb => ?_)
                 refine wp_ret ?_
                 obtain rfl := Option.some.inj H0
                 exact Zz rfl hst hb (Zh (s := 2)) (hst.at 0 rfl)
theorem Zj0 (a0 : Zi) (a1 : Zr) {r : Int × Int} (h : Zdv a0 a1 = some r) : FnOk Tryd.prog 60 [(Zev.ptr a0), (Zy.pd a1)] (pTup [(pInt .u64 r.1), (pInt .u64 r.2)]) := by
 have H0 := h
 unfold Zdv at H0
 clear h
 refine Zbt (N := 63) Tryd.func60 rfl rfl (Nat.le_of_ble_eq_true rfl) rfl rfl (fun a g0 hst hb => ?_)
 refine r_s (T := [⟨[.old 1], _, [], [], [3]⟩, ⟨[], _, [], [], [4]⟩, ⟨[], _, [], [1], [5]⟩]) (F := [.old 0, .op 0 0]) hst hb Za
   (o_p rfl (Zbq rfl rfl u_0) <| o_p rfl (Zb rfl rfl c_i) <| o_p rfl (Zb rfl rfl c_i) <| o_n) (by kernel_rfl) (fun a g hst hb => ?_)
 refine wp_seq ?_
 refine r_s (T := [⟨[.old 1], _, [], [], [7]⟩, ⟨[.op 0 0], _, [], [0], [8]⟩, ⟨[.op 1 0], _, [], [0, 1], [9]⟩, ⟨[.op 2 0], _, [], [0, 1, 2], [10]⟩, ⟨[.op 3 0, .old 1], _, [], Lr 4, [11]⟩, ⟨[.op 3 0, .op 4 0], _, [], Lr 5, [12]⟩, ⟨[.op 3 0, .op 5 0], _, [], Lr 6, [13]⟩, ⟨[.op 3 0, .op 6 0], _, [], Lr 7, [14]⟩]) (F := [.old 0, .old 1, .op 7 0]) hst hb Za
   (o_p rfl (Zd Zce rfl rfl u_0) <| o_p rfl (Zf ty_3 rfl rfl u_0) <| o_p rfl (Z7 rfl rfl u_0 c_i) <| o_p rfl (Zc rfl rfl u_0) <| o_g (g_t rfl rfl rfl (fun hG => Zd Zc3 rfl rfl u_0)) <| o_g (g_t rfl rfl rfl (fun hG => Zf ty_2 rfl rfl (Opd.gd hG u_0))) <| o_g (g_t rfl rfl rfl (fun hG => Zb6 rfl rfl (Opd.gd hG u_0) c_i)) <| o_p rfl (Zbc rfl rfl u_0 (fun hz => (Opd.gd hz u_1))) <| o_n) (by kernel_rfl) (fun a g hst hb => ?_)
 refine wp_cond_split (hst.bool 2 rfl) (fun hc1 => ?_) (fun hc1 => ?_)
 · replace H0 := Zp hc1 H0
   refine r_s (L := [(3, _)]) (T := [⟨[.old 0], _, [], [], [15]⟩, ⟨[.op 0 0], _, [], [0], [16]⟩, ⟨[.op 1 0], _, [], [0, 1], [17]⟩, ⟨[.op 2 0], _, [], [0, 1, 2], [18]⟩, ⟨[.op 3 0], _, [], Lr 4, [19]⟩, ⟨[.op 4 0], _, [], Lr 5, [20]⟩, ⟨[], _, [], [], [4]⟩, ⟨[.op 5 0], _, [], Lr 7, [5]⟩]) (F := [.op 6 0, .op 7 0]) (hst.pick [1] rfl) hb Za
     (o_p rfl (Zd Zc3 rfl rfl u_0) <| o_p rfl (Zf ty_2 rfl rfl u_0) <| o_p rfl (Zck rfl rfl u_0 c_i rfl) <| o_p rfl (Znz rfl rfl u_0 rfl) <| o_p rfl (Zdc Tryd.underlying2 Tryd.underlying62 rfl rfl u_0 rfl) <| o_p rfl (Zck rfl rfl u_0 c_i rfl) <| o_p rfl (Zb rfl rfl c_i) <| o_p rfl (Zb rfl rfl u_0) <| o_n) (by kernel_rfl) (fun a g hst hb => ?_)
   refine wp_ret ?_
   refine Zk ?_
   obtain rfl := Option.some.inj H0
   exact Zdr rfl hst hb (Zh (s := 4)) (Zh (s := 5)) (Zc1 (hst.at 0 rfl) (hst.at 1 rfl))
 · replace H0 := Zq hc1 H0
   refine wp_skip ?_
   refine Zn ?_
   refine wp_seq ?_
   refine r_s (L := [(0, _), (3, _)]) (T := [⟨[.old 1], _, [], [], [21]⟩, ⟨[.op 0 0], _, [], [0], [22]⟩, ⟨[.op 1 0], _, [], [0, 1], [23]⟩, ⟨[.op 2 0], _, [], [0, 1, 2], [24]⟩, ⟨[.op 3 0, .old 1], _, [], Lr 4, [25]⟩, ⟨[.op 3 0, .op 4 0], _, [], Lr 5, [26]⟩, ⟨[.op 3 0, .op 5 0], _, [], Lr 6, [27]⟩, ⟨[.op 3 0, .op 6 0], _, [], Lr 7, [28]⟩]) (F := [.old 0, .old 1, .op 7 0]) (hst.pick [0, 1] rfl) hb Za
     (o_p rfl (Zd Zce rfl rfl u_0) <| o_p rfl (Zf ty_3 rfl rfl u_0) <| o_p rfl (Z7 rfl rfl u_0 c_i) <| o_p rfl (Zc rfl rfl u_0) <| o_g (g_f rfl rfl rfl (fun hG => Zd Zce rfl rfl u_0)) <| o_g (g_f rfl rfl rfl (fun hG => Zf ty_3 rfl rfl (Opd.gd hG u_0))) <| o_g (g_f rfl rfl rfl (fun hG => Z7 rfl rfl (Opd.gd hG u_0) c_i)) <| o_p rfl (Zbf rfl rfl u_0 (fun hz => (Opd.gd (bNF hz) u_1))) <| o_n) (by kernel_rfl) (fun a g hst hb => ?_)
   refine wp_cond_split (hst.bool 2 rfl) (fun hc2 => ?_) (fun hc2 => ?_)
   · replace H0 := Zp hc2 H0
     refine r_s (L := [(3, _)]) (T := [⟨[.old 0], _, [], [], [29]⟩, ⟨[.op 0 0], _, [], [0], [30]⟩, ⟨[.op 1 0], _, [], [0, 1], [31]⟩, ⟨[.op 2 0], _, [], [0, 1, 2], [4]⟩, ⟨[], _, [], Lr 4, [5]⟩]) (F := [.op 3 0, .op 4 0]) (hst.pick [1] rfl) hb Za
       (o_p rfl (Zd Zc3 rfl rfl u_0) <| o_p rfl (Zf ty_2 rfl rfl u_0) <| o_p rfl (Zdc Tryd.underlying2 Tryd.underlying62 rfl rfl u_0 rfl) <| o_p rfl (Zb rfl rfl u_0) <| o_p rfl (Zb rfl rfl c_i) <| o_n) (by kernel_rfl) (fun a g hst hb => ?_)
     refine wp_ret ?_
     refine Zk ?_
     obtain rfl := Option.some.inj H0
     exact Zdr rfl hst hb (Zh (s := 4)) (Zh (s := 5)) (Zc1 (hst.at 0 rfl) (hst.at 1 rfl))
   · replace H0 := Zq hc2 H0
     refine wp_skip ?_
     refine Zn ?_
     refine wp_seq ?_
     refine r_s (L := [(0, _), (3, _)]) (T := [⟨[.old 1], _, [], [], [32]⟩, ⟨[.op 0 0], _, [], [0], [33]⟩, ⟨[.op 1 0], _, [], [0, 1], [34]⟩]) (F := [.old 0, .old 1, .op 2 0]) (hst.pick [0, 1] rfl) hb Za
       (o_p rfl (Zd Zce rfl rfl u_0) <| o_p rfl (Zf ty_3 rfl rfl u_0) <| o_p rfl (Z7 rfl rfl u_0 c_i) <| o_n) (by kernel_rfl) (fun a g hst hb => ?_)
     refine wp_cond_split (hst.bool 2 rfl) (fun hc3 => ?_) (fun hc3 => ?_)
     · replace H0 := Zp hc3 H0
       refine r_s (L := [(3, _)]) (T := [⟨[.old 0], _, [], [], [35]⟩, ⟨[.op 0 0], _, [], [0], [36]⟩, ⟨[.op 1 0], _, [], [0, 1], [37]⟩, ⟨[], _, [], [], [4]⟩, ⟨[.op 2 0], _, [], Lr 4, [5]⟩]) (F := [.op 3 0, .op 4 0]) (hst.pick [1] rfl) hb Za
         (o_p rfl (Zd Zc3 rfl rfl u_0) <| o_p rfl (Zf ty_2 rfl rfl u_0) <| o_p rfl (Zdc Tryd.underlying2 Tryd.underlying62 rfl rfl u_0 rfl) <| o_p rfl (Zb rfl rfl c_i) <| o_p rfl (Zb rfl rfl u_0) <| o_n) (by kernel_rfl) (fun a g hst hb => ?_)
       refine wp_ret ?_
       refine Zk ?_
       obtain rfl := Option.some.inj H0
       exact Zdr rfl hst hb (Zh (s := 4)) (Zh (s := 5)) (Zc1 (hst.at 0 rfl) (hst.at 1 rfl))
     · replace H0 := Zq hc3 H0
       refine wp_skip ?_
       refine Zn ?_
       refine wp_seq ?_
       refine r_s (L := [(0, _), (3, _)]) (T := [⟨[.old 1], _, [], [], [38]⟩, ⟨[.op 0 0], _, [], [0], [39]⟩, ⟨[.op 1 0], _, [], [0, 1], [40]⟩]) (F := [.old 0, .old 1, .op 2 0]) (hst.pick [0, 1] rfl) hb Za
         (o_p rfl (Zd Zce rfl rfl u_0) <| o_p rfl (Zf ty_3 rfl rfl u_0) <| o_p rfl (Z7 rfl rfl u_0 c_i) <| o_n) (by kernel_rfl) (fun a g hst hb => ?_)
       refine wp_cond_split (hst.bool 2 rfl) (fun hc4 => ?_) (fun hc4 => ?_)
       · replace H0 := Zp hc4 H0
         refine wp_seq ?_
         refine r_s (L := [(0, _), (3, _)]) (T := [⟨[], _, [], [], [6]⟩]) (F := [.old 0, .old 1, .op 0 0]) (hst.pick [0, 1] rfl) hb Za
           (o_p rfl (Zb rfl rfl c_i) <| o_n) (by kernel_rfl) (fun a g hst hb => ?_)
         obtain ⟨z10, hz1, H0⟩ := Zj H0
         refine Zcl (fun a w => ∃ (g : G), w = g.w ∧ St 63 [] a g ∧ Base g0 g ∧ (.inr ()) = z10) ?_ ?_
         · rintro a w ⟨g, rfl, hst, hb, rfl⟩
           refine Zn ?_
           refine r_s (T := [⟨[], _, [], [], [4]⟩, ⟨[], _, [], [0], [5]⟩]) (F := [.op 0 0, .op 1 0]) hst hb Za
             (o_p rfl (Zb rfl rfl c_i) <| o_p rfl (Zb rfl rfl c_i) <| o_n) (by kernel_rfl) (fun a g hst hb => ?_)
           refine wp_ret ?_
           refine Zk ?_
           obtain rfl := Option.some.inj H0
           exact Zdr rfl hst hb (Zh (s := 4)) (Zh (s := 5)) (Zc1 (hst.at 0 rfl) (hst.at 1 rfl))
         · refine wp_block ?_
           refine wp_loop_ghost (fun n a w => ∃ (x5 : Int) (g : G), w = g.w ∧ St 63 [(0, (Zev.ptr a0)), (3, (Zy.ptr a1)), (6, (pInt .i64 x5))] a g ∧ Base g0 g ∧ Zcd a0 a1 n x5 = some z10) (Int.toNat ((a0.R.List.length : Int) - (0 : Int)) + 1) ⟨(0 : Int), g, rfl, (hst.pick [0, 1, 2] rfl), hb, hz1⟩ (fun n a w hI => ?_)
           obtain ⟨x5, g, rfl, hst, hb, H1⟩ := hI
           cases n with
           | zero => exact absurd H1 (by simp [Zcd])
           | succ n =>
             rw [Zcd] at H1
             refine wp_seq ?_
             refine r_s (T := [⟨[.old 2], _, [], [], [41]⟩, ⟨[.old 0], _, [], [], [42]⟩, ⟨[.op 1 0], _, [], [1], [43]⟩, ⟨[.op 2 0], _, [], [1, 2], [44]⟩, ⟨[.op 3 0], _, [], [1, 2, 3], [45]⟩, ⟨[.op 4 0], _, [], List.range' 1 4, [46]⟩, ⟨[.op 5 0], _, [], List.range' 1 5, [47]⟩, ⟨[.op 0 0, .op 6 0], _, [], Lr 7, [48]⟩]) (F := [.old 0, .old 1, .old 2, .op 7 0]) hst hb Za
               (o_p rfl (Zc rfl rfl u_0) <| o_p rfl (Zc rfl rfl u_0) <| o_p rfl (Z4 rfl rfl u_0 (fun _ _ ⟨_, _, _, e, _⟩ => ⟨_, e⟩)) <| o_p rfl (Zd Ztt rfl rfl u_0) <| o_p rfl (Zd Zb3 rfl rfl u_0) <| o_p rfl (Zf Zcz rfl rfl u_0) <| o_p rfl (Zco Tryd.underlying23 rfl rfl u_0) <| o_p rfl (Zb6 rfl rfl u_0 u_1) <| o_n) (by kernel_rfl) (fun a g hst hb => ?_)
             refine wp_cond_split (hst.bool 3 rfl) (fun hc6 => ?_) (fun hc6 => ?_)
             · replace H1 := Zp hc6 H1
               refine wp_skip ?_
               refine Zn ?_
               refine wp_seq ?_
               refine wp_block ?_
               obtain ⟨e7, h8, H1⟩ := Zj H1
               refine r_s (L := [(0, _), (3, _), (6, _)]) (T := ⟨[.old 0], _, [], [], [51]⟩ :: ⟨[.op 0 0], _, [], [0], [52]⟩ :: ⟨[.op 1 0], _, [], [0, 1], [53]⟩ :: ⟨[.op 2 0], _, [], [0, 1, 2], [54]⟩ :: ⟨[.op 3 0], _, [], Lr 4, [55]⟩ :: ⟨[.old 2], _, [], [], [56]⟩ :: ⟨[.op 4 0, .op 5 0], _, [], Lr 6, [57]⟩ :: ⟨[.op 6 0], _, [], Lr 7, [58]⟩ :: ⟨[.op 7 0], _, [], Lr 8, [59]⟩ :: ⟨[.old 1], _, [], [], [60]⟩ :: ⟨[.op 9 0], _, [], [9], [61]⟩ :: ⟨[.op 8 0, .op 10 0], _, [], Lr 11, [62]⟩ :: []) (F := [.old 0, .old 1, .old 2, .op 11 0]) (hst.pick [0, 1, 2] rfl) hb Za
                 (o_p rfl (Zc rfl rfl u_0) <| o_p rfl (Z4 rfl rfl u_0 (fun _ _ ⟨_, _, _, e, _⟩ => ⟨_, e⟩)) <| o_p rfl (Zd Ztt rfl rfl u_0) <| o_p rfl (Zd Zb3 rfl rfl u_0) <| o_p rfl (Zf Zcz rfl rfl u_0) <| o_p rfl (Zc rfl rfl u_0) <| o_p rfl (Zbm Tryd.underlying23 Zff rfl rfl u_0 u_1 h8) <| o_p rfl (Zd Zd3 rfl rfl u_0) <| o_p rfl (Zf ty_9 rfl rfl u_0) <| o_p rfl (Zd Zfc rfl rfl u_0) <| o_p rfl (Zf ty_9 rfl rfl u_0) <| o_p rfl (Zjy rfl rfl u_0 u_1) <| o_n) (by kernel_rfl) (fun a g hst hb => ?_)
               refine wp_cond_split (hst.bool 3 rfl) (fun hc9 => ?_) (fun hc9 => ?_)
               · replace H1 := Zp hc9 H1
                 refine r_s (L := []) (T := [⟨[], _, [], [], [4]⟩, ⟨[], _, [], [0], [5]⟩]) (F := [.op 0 0, .op 1 0]) (hst.pick [] rfl) hb Za
                   (o_p rfl (Zb rfl rfl c_i) <| o_p rfl (Zb rfl rfl c_i) <| o_n) (by kernel_rfl) (fun a g hst hb => ?_)
                 refine wp_ret ?_
                 refine Zo ?_
                 refine Zk ?_
                 refine Zk ?_
                 refine Zo ?_
                 refine Zk ?_
                 refine Zk ?_
                 refine Zk ?_
                 obtain rfl := Option.some.inj H1
                 obtain rfl := Option.some.inj H0
                 exact Zdr rfl hst hb (Zh (s := 4)) (Zh (s := 5)) (Zc1 (hst.at 0 rfl) (hst.at 1 rfl))
               · replace H1 := Zq hc9 H1
                 refine wp_skip ?_
                 refine Zbg ?_
                 refine Zn ?_
                 refine r_g (L := [(0, _), (3, _), (6, _)]) (T := [⟨[.old 2], _, [], [], [49]⟩, ⟨[.op 0 0], _, [], [0], [50]⟩, ⟨[.op 1 0], _, [], [0, 1], [6]⟩]) (F := [.old 0, .old 1, .op 2 0]) (hst.pick [0, 1, 2] rfl) hb Za
                   (o_p rfl (Zc rfl rfl u_0) <| o_p rfl (Zck rfl rfl u_0 c_i rfl) <| o_p rfl (Zb rfl rfl u_0) <| o_n) (by kernel_rfl) (fun a g hst hb => ?_)
                 exact ⟨n, Nat.lt_succ_self _, (IntKind.i64.wrap (x5 + (1 : Int))), g, rfl, (hst.pick [0, 1, 2] rfl), hb, H1⟩
             · replace H1 := Zq hc6 H1
               refine wp_exit ?_
               refine Zb9 ?_
               refine Zb9 ?_
               refine Zcy ?_
               exact ⟨g, rfl, (hst.pick [] rfl), hb, Option.some.inj H1⟩
       · replace H0 := Zq hc4 H0
         refine wp_skip ?_
         refine Zn ?_
         refine r_s (L := []) (T := [⟨[], _, [], [], [4]⟩, ⟨[], _, [], [0], [5]⟩]) (F := [.op 0 0, .op 1 0]) (hst.pick [] rfl) hb Za
           (o_p rfl (Zb rfl rfl c_i) <| o_p rfl (Zb rfl rfl c_i) <| o_n) (by kernel_rfl) (fun a g hst hb => ?_)
         refine wp_ret ?_
         obtain rfl := Option.some.inj H0
         exact Zdr rfl hst hb (Zh (s := 4)) (Zh (s := 5)) (Zc1 (hst.at 0 rfl) (hst.at 1 rfl))
theorem Zj5 (a0 : Zi) (a1 : Zr) {r : Int × Int} (h : Zdv a0 a1 = some r) : FnL Tryd.prog 60 [(Zev.ptr a0), (Zy.pd a1)] (pTup [(pInt .u64 r.1), (pInt .u64 r.2)]) := FnL.of (Zj0 a0 a1 h) Zq8
theorem Zjo (a0 : Zi) (a1 : Int) (a2 : List Zr) {r : Int × Zi} (h : Zeo a0 a1 a2 = some r) : FnM Tryd.prog 29 Zb7 a0 r.2 [(pInt .i64 a1), (Zy.sl.pd a2)] (pInt .i64 r.1) := by
 have H0 := h
 unfold Zeo at H0
 clear h
 refine Zxg (N := 110) Tryd.func29 rfl rfl (Nat.le_of_ble_eq_true rfl) rfl rfl (fun a g0 b0 hst hb => ?_)
 replace hst : St 110 [(0, (Zdq (some b0) Zbh Zbo hpT 0 a0)), (1, (pInt .i64 a1)), (2, (Zy.sl.pd a2)), (1002, (pSTR Zbh Zbo (hpL2 (pArr (Kd.int .u64) 62 1000000 (Zbd a0)) (pArr (Kd.int .u64) 62 1000001 (Zbe a0))) b0 a0))] _ _ := Ztl hst
 refine r_s (T := [⟨[], _, [], [], [6]⟩]) (F := [.old 0, .old 1, .old 2, .old 3]) hst hb Za
   (o_p rfl (Zb rfl rfl c_i) <| o_n) (by kernel_rfl) (fun a g hst hb => ?_)
 refine wp_seq ?_
 refine r_s (T := [⟨[.old 1], _, [], [], [13]⟩, ⟨[.op 0 0], _, [], [0], [14]⟩, ⟨[.op 1 0], _, [], [0, 1], [15]⟩, ⟨[.op 2 0, .old 1], _, [], [0, 1, 2], [16]⟩, ⟨[.op 2 0, .old 0], _, [], [0, 1, 2], [17]⟩, ⟨[.op 2 0, .op 4 0], _, [], [0, 1, 2, 4], [18]⟩, ⟨[.op 2 0, .op 5 0, .old 3], _, [], [0, 1, 2, 4, 5], [19]⟩, ⟨[.op 2 0, .op 6 0], _, [], [0, 1, 2, 4, 5, 6], [20]⟩, ⟨[.op 2 0, .op 7 0], _, [], [0, 1, 2, 4, 5, 6, 7], [21]⟩, ⟨[.op 2 0, .op 3 0, .op 8 0], _, [], Lr 9, [22]⟩, ⟨[.op 2 0, .op 9 0], _, [], Lr 10, [23]⟩]) (F := [.old 0, .old 1, .old 2, .op 10 0, .old 3]) hst hb Za
   (o_p rfl (Zc rfl rfl u_0) <| o_p rfl (Zb6 rfl rfl u_0 c_i) <| o_p rfl (Zc rfl rfl u_0) <| o_g (g_f rfl rfl rfl (fun hG => Zc rfl rfl u_0)) <| o_g (g_f rfl rfl rfl (fun hG => Zc rfl rfl u_0)) <| o_g (g_f rfl rfl rfl (fun hG => Z4 rfl rfl (Opd.gd hG u_0) (fun _ _ ⟨_, ⟨_, _, _, e, _⟩, _⟩ => ⟨_, e⟩))) <| o_g (g_f rfl rfl rfl (fun hG => Zfn Zmf (off := 8) (q := (pArr (Kd.int .u64) 62 1000000 a0.Up)) (by kernel_rfl) (pr := Prod.fst) (fun _ => rfl) (fun g s (h : ((hpL2 (pArr (Kd.int .u64) 62 1000000 (Zbd a0)) (pArr (Kd.int .u64) 62 1000001 (Zbe a0)))).p g s) => h.1) rfl rfl (Opd.joinR (Opd.gd hG u_0) u_1))) <| o_g (g_f rfl rfl rfl (fun hG => Zg3 Zkr rfl rfl (Opd.gd hG u_0))) <| o_g (g_f rfl rfl rfl (fun hG => Ztx Tryd.underlying67 rfl rfl (Opd.gd hG u_0))) <| o_g (g_f rfl rfl rfl (fun hG => Zmx rfl rfl (Opd.gd hG u_0) (Opd.gd hG u_1))) <| o_p rfl (Zbf rfl rfl u_0 (fun hz => (Opd.gd (bNF hz) u_1))) <| o_n) (by kernel_rfl) (fun a g hst hb => ?_)
 refine wp_cond_split (hst.bool 3 rfl) (fun hc1 => ?_) (fun hc1 => ?_)
 · replace H0 := Zp hc1 H0
   refine r_s (L := [(0, _), (1002, _)]) (T := [⟨[], _, [], [], [6]⟩]) (F := [.old 0, .op 0 0, .old 1]) (hst.pick [0, 4] rfl) hb Za
     (o_p rfl (Zb rfl rfl c_i) <| o_n) (by kernel_rfl) (fun a g hst hb => ?_)
   refine wp_ret ?_
   refine Zk ?_
   obtain rfl := Option.some.inj H0
   exact Zku rfl hst hb (Zh (s := 6)) (hst.at 1 rfl) (Zgv (hst.at 0 rfl) (hst.at 2 rfl))
 · replace H0 := Zq hc1 H0
   refine wp_skip ?_
   refine Zn ?_
   obtain ⟨e2, h3, H0⟩ := Zj H0; obtain ⟨e4, h5, H0⟩ := Zj H0
   refine r_s (L := [(0, _), (1, _), (2, _), (1002, _)]) (T := ⟨[.old 0], _, [], [], [24]⟩ :: ⟨[.op 0 0], _, [], [0], [25]⟩ :: ⟨[.op 1 0, .old 3], _, [], [0, 1], [26]⟩ :: ⟨[.op 2 0], _, [], [0, 1, 2], [27]⟩ :: ⟨[.old 1], _, [], [], [28]⟩ :: ⟨[.op 3 0, .op 4 0], _, [], Lr 5, [29]⟩ :: ⟨[.op 5 0], _, [], Lr 6, [30]⟩ :: ⟨[.old 0], _, [], [], [31]⟩ :: ⟨[.op 7 0], _, [], [7], [32]⟩ :: ⟨[.op 8 0, .old 3], _, [], [7, 8], [33]⟩ :: ⟨[.op 9 0], _, [], [7, 8, 9], [34]⟩ :: ⟨[.old 1], _, [], [], [35]⟩ :: ⟨[.op 10 0, .op 11 0], _, [], List.range' 7 5, [36]⟩ :: ⟨[.op 12 0], _, [], List.range' 7 6, [37]⟩ :: ⟨[.op 6 0], _, [], Lr 7, [7]⟩ :: ⟨[.op 13 0], _, [], Lr 15, [8]⟩ :: []) (F := [.old 0, .old 1, .old 2, .op 14 0, .op 15 0, .old 3]) (hst.pick [0, 1, 2, 4] rfl) hb Za
     (o_p rfl (Zc rfl rfl u_0) <| o_p rfl (Z4 rfl rfl u_0 (fun _ _ ⟨_, ⟨_, _, _, e, _⟩, _⟩ => ⟨_, e⟩)) <| o_p rfl (Zfn Zmf (off := 8) (q := (pArr (Kd.int .u64) 62 1000000 a0.Up)) (by kernel_rfl) (pr := Prod.fst) (fun _ => rfl) (fun g s (h : ((hpL2 (pArr (Kd.int .u64) 62 1000000 (Zbd a0)) (pArr (Kd.int .u64) 62 1000001 (Zbe a0)))).p g s) => h.1) rfl rfl (Opd.joinR u_0 u_1)) <| o_p rfl (Zg3 Zkr rfl rfl u_0) <| o_p rfl (Zc rfl rfl u_0) <| o_p rfl (Ziy Tryd.underlying67 Zn7 rfl rfl u_0 u_1 h3) <| o_p rfl (Zn1 Ze5 rfl rfl u_0) <| o_p rfl (Zc rfl rfl u_0) <| o_p rfl (Z4 rfl rfl u_0 (fun _ _ ⟨_, ⟨_, _, _, e, _⟩, _⟩ => ⟨_, e⟩)) <| o_p rfl (Zfn Zo9 (off := 9) (q := (pArr (Kd.int .u64) 62 1000001 a0.Down)) (by kernel_rfl) (pr := Prod.snd) (fun _ => rfl) (fun g s (h : ((hpL2 (pArr (Kd.int .u64) 62 1000000 (Zbd a0)) (pArr (Kd.int .u64) 62 1000001 (Zbe a0)))).p g s) => h.2) rfl rfl (Opd.joinR u_0 u_1)) <| o_p rfl (Zg3 Zkr rfl rfl u_0) <| o_p rfl (Zc rfl rfl u_0) <| o_p rfl (Ziy Tryd.underlying67 Zn7 rfl rfl u_0 u_1 h5) <| o_p rfl (Zn1 Ze5 rfl rfl u_0) <| o_p rfl (Zb rfl rfl u_0) <| o_p rfl (Zb rfl rfl u_0) <| o_n) (by kernel_rfl) (fun a g hst hb => ?_)
   refine wp_seq ?_
   refine r_s (T := [⟨[], _, [], [], [9]⟩]) (F := [.old 0, .old 1, .old 2, .old 3, .old 4, .op 0 0, .old 5]) hst hb Za
     (o_p rfl (Zb rfl rfl c_i) <| o_n) (by kernel_rfl) (fun a g hst hb => ?_)
   obtain ⟨z33, hz1, H0⟩ := Zj H0
   refine Zcl (fun a w => ∃ (y30 : Zi) (y31 : Int) (y32 : Int) (g : G), w = g.w ∧ St 110 [(0, (Zdq (some b0) Zbh Zbo hpT 0 y30)), (1, (pInt .i64 a1)), (7, (pInt .u64 y31)), (8, (pInt .u64 y32)), (1002, (pSTR Zbh Zbo (hpL2 (pArr (Kd.int .u64) 62 1000000 (Zbd y30)) (pArr (Kd.int .u64) 62 1000001 (Zbe y30))) b0 y30))] a g ∧ Base g0 g ∧ (.inr (y30, y31, y32)) = z33) ?_ ?_
   · rintro a w ⟨y30, y31, y32, g, rfl, hst, hb, rfl⟩
     refine Zn ?_
     obtain ⟨e34, h35, H0⟩ := Zj H0
     refine r_s (T := [⟨[.old 0], _, [], [], [96]⟩, ⟨[.op 0 0], _, [], [0], [97]⟩, ⟨[.op 1 0, .old 4], _, [], [0, 1], [98]⟩, ⟨[.op 2 0], _, [], [0, 1, 2], [99]⟩, ⟨[.old 1], _, [], [], [100]⟩, ⟨[.old 2], _, [], [], [101]⟩, ⟨[.op 3 0, .op 4 0], _, [], Lr 6, [102]⟩, ⟨[.op 5 0, .op 6 0, .old 4, .old 0], [(1002, (pSTR Zbh Zbo (hpL2 (pArr (Kd.int .u64) 62 1000000 (Zbd ({ y30 with Up := y30.Up.set (Int.toNat a1) y31 } : Zi))) (pArr (Kd.int .u64) 62 1000001 (Zbe ({ y30 with Up := y30.Up.set (Int.toNat a1) y31 } : Zi)))) b0 ({ y30 with Up := y30.Up.set (Int.toNat a1) y31 } : Zi))), (0, (Zdq (some b0) Zbh Zbo hpT 0 ({ y30 with Up := y30.Up.set (Int.toNat a1) y31 } : Zi)))], [1000001], Lr 7, [0, 98, 99, 102, 1002]⟩]) (F := [.op 7 1, .old 1, .old 3, .op 7 0]) hst hb Za
       (o_p rfl (Zc rfl rfl u_0) <| o_p rfl (Z4 rfl rfl u_0 (fun _ _ ⟨_, ⟨_, _, _, e, _⟩, _⟩ => ⟨_, e⟩)) <| o_p rfl (Zfn Zmf (off := 8) (q := (pArr (Kd.int .u64) 62 1000000 y30.Up)) (by kernel_rfl) (pr := Prod.fst) (fun _ => rfl) (fun g s (h : ((hpL2 (pArr (Kd.int .u64) 62 1000000 (Zbd y30)) (pArr (Kd.int .u64) 62 1000001 (Zbe y30)))).p g s) => h.1) rfl rfl (Opd.joinR u_0 u_1)) <| o_p rfl (Zg3 Zkr rfl rfl u_0) <| o_p rfl (Zc rfl rfl u_0) <| o_p rfl (Zc rfl rfl u_0) <| o_p rfl (Ziy Tryd.underlying67 Zn7 rfl rfl u_0 u_1 h35) <| o_p rfl (Zov (R := (hpL2 (pArr (Kd.int .u64) 62 1000000 (Zbd y30)) (pArr (Kd.int .u64) 62 1000001 (Zbe y30)))) (R' := (hpL2 (pArr (Kd.int .u64) 62 1000000 (Zbd ({ y30 with Up := y30.Up.set (Int.toNat a1) y31 } : Zi))) (pArr (Kd.int .u64) 62 1000001 (Zbe ({ y30 with Up := y30.Up.set (Int.toNat a1) y31 } : Zi))))) (xv := y30) (x' := ({ y30 with Up := y30.Up.set (Int.toNat a1) y31 } : Zi)) (u := e34) (pr := Prod.fst) (by decide) (fun _ => rfl) (fun g s (h : ((hpL2 (pArr (Kd.int .u64) 62 1000000 (Zbd y30)) (pArr (Kd.int .u64) 62 1000001 (Zbe y30)))).p g s) => h.1) (fun g g' s st (h : ((hpL2 (pArr (Kd.int .u64) 62 1000000 (Zbd y30)) (pArr (Kd.int .u64) 62 1000001 (Zbe y30)))).p g s) h' => ⟨h', (pArr (Kd.int .u64) 62 1000001 (Zbe y30)).st st (fun k hk hS => fpne (List.mem_singleton.1 hk) (List.mem_singleton.1 hS) (by decide)) h.2⟩) Ze5 rfl rfl u_3 u_2 u_1 u_0 (Zp9 h35) (by decide)) <| o_n) (by kernel_rfl) (fun a g hst hb => ?_)
     obtain ⟨e36, h37, H0⟩ := Zj H0
     refine r_s (T := [⟨[.old 0], _, [], [], [103]⟩, ⟨[.op 0 0], _, [], [0], [104]⟩, ⟨[.op 1 0, .old 3], _, [], [0, 1], [105]⟩, ⟨[.op 2 0], _, [], [0, 1, 2], [106]⟩, ⟨[.old 1], _, [], [], [107]⟩, ⟨[.old 2], _, [], [], [108]⟩, ⟨[.op 3 0, .op 4 0], _, [], Lr 6, [109]⟩, ⟨[.op 5 0, .op 6 0, .old 3, .old 0], [(1002, (pSTR Zbh Zbo (hpL2 (pArr (Kd.int .u64) 62 1000000 (Zbd ({ ({ y30 with Up := y30.Up.set (Int.toNat a1) y31 } : Zi) with Down := (({ y30 with Up := y30.Up.set (Int.toNat a1) y31 } : Zi).Down).set (Int.toNat a1) y32 } : Zi))) (pArr (Kd.int .u64) 62 1000001 (Zbe ({ ({ y30 with Up := y30.Up.set (Int.toNat a1) y31 } : Zi) with Down := (({ y30 with Up := y30.Up.set (Int.toNat a1) y31 } : Zi).Down).set (Int.toNat a1) y32 } : Zi)))) b0 ({ ({ y30 with Up := y30.Up.set (Int.toNat a1) y31 } : Zi) with Down := (({ y30 with Up := y30.Up.set (Int.toNat a1) y31 } : Zi).Down).set (Int.toNat a1) y32 } : Zi))), (0, (Zdq (some b0) Zbh Zbo hpT 0 ({ ({ y30 with Up := y30.Up.set (Int.toNat a1) y31 } : Zi) with Down := (({ y30 with Up := y30.Up.set (Int.toNat a1) y31 } : Zi).Down).set (Int.toNat a1) y32 } : Zi)))], [1000002], Lr 7, [0, 105, 106, 109, 1002]⟩]) (F := [.op 7 1, .op 7 0]) hst hb Za
       (o_p rfl (Zc rfl rfl u_0) <| o_p rfl (Z4 rfl rfl u_0 (fun _ _ ⟨_, ⟨_, _, _, e, _⟩, _⟩ => ⟨_, e⟩)) <| o_p rfl (Zfn Zo9 (off := 9) (q := (pArr (Kd.int .u64) 62 1000001 (({ y30 with Up := y30.Up.set (Int.toNat a1) y31 } : Zi).Down))) (by kernel_rfl) (pr := Prod.snd) (fun _ => rfl) (fun g s (h : ((hpL2 (pArr (Kd.int .u64) 62 1000000 (Zbd ({ y30 with Up := y30.Up.set (Int.toNat a1) y31 } : Zi))) (pArr (Kd.int .u64) 62 1000001 (Zbe ({ y30 with Up := y30.Up.set (Int.toNat a1) y31 } : Zi))))).p g s) => h.2) rfl rfl (Opd.joinR u_0 u_1)) <| o_p rfl (Zg3 Zkr rfl rfl u_0) <| o_p rfl (Zc rfl rfl u_0) <| o_p rfl (Zc rfl rfl u_0) <| o_p rfl (Ziy Tryd.underlying67 Zn7 rfl rfl u_0 u_1 h37) <| o_p rfl (Zov (R := (hpL2 (pArr (Kd.int .u64) 62 1000000 (Zbd ({ y30 with Up := y30.Up.set (Int.toNat a1) y31 } : Zi))) (pArr (Kd.int .u64) 62 1000001 (Zbe ({ y30 with Up := y30.Up.set (Int.toNat a1) y31 } : Zi))))) (R' := (hpL2 (pArr (Kd.int .u64) 62 1000000 (Zbd ({ ({ y30 with Up := y30.Up.set (Int.toNat a1) y31 } : Zi) with Down := (({ y30 with Up := y30.Up.set (Int.toNat a1) y31 } : Zi).Down).set (Int.toNat a1) y32 } : Zi))) (pArr (Kd.int .u64) 62 1000001 (Zbe ({ ({ y30 with Up := y30.Up.set (Int.toNat a1) y31 } : Zi) with Down := (({ y30 with Up := y30.Up.set (Int.toNat a1) y31 } : Zi).Down).set (Int.toNat a1) y32 } : Zi))))) (xv := ({ y30 with Up := y30.Up.set (Int.toNat a1) y31 } : Zi)) (x' := ({ ({ y30 with Up := y30.Up.set (Int.toNat a1) y31 } : Zi) with Down := (({ y30 with Up := y30.Up.set (Int.toNat a1) y31 } : Zi).Down).set (Int.toNat a1) y32 } : Zi)) (u := e36) (pr := Prod.snd) (by decide) (fun _ => rfl) (fun g s (h : ((hpL2 (pArr (Kd.int .u64) 62 1000000 (Zbd ({ y30 with Up := y30.Up.set (Int.toNat a1) y31 } : Zi))) (pArr (Kd.int .u64) 62 1000001 (Zbe ({ y30 with Up := y30.Up.set (Int.toNat a1) y31 } : Zi))))).p g s) => h.2) (fun g g' s st (h : ((hpL2 (pArr (Kd.int .u64) 62 1000000 (Zbd ({ y30 with Up := y30.Up.set (Int.toNat a1) y31 } : Zi))) (pArr (Kd.int .u64) 62 1000001 (Zbe ({ y30 with Up := y30.Up.set (Int.toNat a1) y31 } : Zi))))).p g s) h' => ⟨(pArr (Kd.int .u64) 62 1000000 (Zbd ({ y30 with Up := y30.Up.set (Int.toNat a1) y31 } : Zi))).st st (fun k hk hS => fpne (List.mem_singleton.1 hk) (List.mem_singleton.1 hS) (by decide)) h.1, h'⟩) Ze5 rfl rfl u_3 u_2 u_1 u_0 (Zp9 h37) (by decide)) <| o_n) (by kernel_rfl) (fun a g hst hb => ?_)
     refine r_s (T := [⟨[], _, [], [], [6]⟩]) (F := [.old 0, .op 0 0, .old 1]) hst hb Za
       (o_p rfl (Zb rfl rfl c_i) <| o_n) (by kernel_rfl) (fun a g hst hb => ?_)
     refine wp_ret ?_
     obtain rfl := Option.some.inj H0
     exact Zku rfl hst hb (Zh (s := 6)) (hst.at 1 rfl) (Zgv (hst.at 0 rfl) (hst.at 2 rfl))
   · refine wp_block ?_
     refine wp_loop_ghost (fun n a w => ∃ (x6 : Zi) (x7 : Int) (x8 : Int) (x9 : Int) (g : G), w = g.w ∧ St 110 [(0, (Zdq (some b0) Zbh Zbo hpT 0 x6)), (1, (pInt .i64 a1)), (2, (Zy.sl.pd a2)), (7, (pInt .u64 x7)), (8, (pInt .u64 x8)), (9, (pInt .i64 x9)), (1002, (pSTR Zbh Zbo (hpL2 (pArr (Kd.int .u64) 62 1000000 (Zbd x6)) (pArr (Kd.int .u64) 62 1000001 (Zbe x6))) b0 x6))] a g ∧ Base g0 g ∧ Zcc a2 n x6 x7 x8 x9 = some z33) (Int.toNat ((a2.length : Int) - (0 : Int)) + 1) ⟨a0, e2, e4, (0 : Int), g, rfl, (hst.pick [0, 1, 2, 3, 4, 5, 6] rfl), hb, hz1⟩ (fun n a w hI => ?_)
     obtain ⟨x6, x7, x8, x9, g, rfl, hst, hb, H1⟩ := hI
     cases n with
     | zero => exact absurd H1 (by simp [Zcc])
     | succ n =>
       rw [Zcc] at H1
       refine wp_seq ?_
       refine r_s (T := [⟨[.old 5], _, [], [], [38]⟩, ⟨[.old 2], _, [], [], [39]⟩, ⟨[.op 1 0], _, [], [1], [40]⟩, ⟨[.op 0 0, .op 2 0], _, [], [0, 1, 2], [41]⟩]) (F := [.old 0, .old 1, .old 2, .old 3, .old 4, .old 5, .op 3 0, .old 6]) hst hb Za
         (o_p rfl (Zc rfl rfl u_0) <| o_p rfl (Zc rfl rfl u_0) <| o_p rfl (Zco Tryd.underlying60 rfl rfl u_0) <| o_p rfl (Zb6 rfl rfl u_0 u_1) <| o_n) (by kernel_rfl) (fun a g hst hb => ?_)
       refine wp_cond_split (hst.bool 6 rfl) (fun hc10 => ?_) (fun hc10 => ?_)
       · replace H1 := Zp hc10 H1
         refine wp_skip ?_
         refine Zn ?_
         refine wp_seq ?_
         refine wp_block ?_
         obtain ⟨e11, h12, H1⟩ := Zj H1; obtain ⟨r13, h14, H1⟩ := Zj H1
         refine r_s (L := [(0, _), (1, _), (2, _), (7, _), (8, _), (9, _), (1002, _)]) (T := [⟨[.old 2], _, [], [], [44]⟩, ⟨[.old 5], _, [], [], [45]⟩, ⟨[.op 0 0, .op 1 0], _, [], [0, 1], [46]⟩, ⟨[.op 2 0], _, [], [0, 1, 2], [47]⟩, ⟨[.op 3 0], _, [], Lr 4, [48]⟩, ⟨[.op 4 0], _, [], Lr 5, [10]⟩]) (F := [.old 0, .old 1, .old 2, .old 3, .old 4, .old 5, .op 5 0, .old 6]) (hst.pick [0, 1, 2, 3, 4, 5, 7] rfl) hb Za
           (o_p rfl (Zc rfl rfl u_0) <| o_p rfl (Zc rfl rfl u_0) <| o_p rfl (Zbm Tryd.underlying60 Zpz rfl rfl u_0 u_1 h12) <| o_p rfl (Zf Zgf rfl rfl u_0) <| o_p rfl (Zu Z2i (Zmj _ h14) rfl rfl (.cons u_0 .nil)) <| o_p rfl (Zb rfl rfl u_0) <| o_n) (by kernel_rfl) (fun a g hst hb => ?_)
         refine wp_seq ?_
         refine r_s (T := [⟨[.old 6], _, [], [], [49]⟩, ⟨[.op 0 0], _, [], [0], [50]⟩]) (F := [.old 0, .old 1, .old 2, .old 3, .old 4, .old 5, .old 6, .op 1 0, .old 7]) hst hb Za
           (o_p rfl (Zc rfl rfl u_0) <| o_p rfl (Zcp rfl rfl u_0 c_i) <| o_n) (by kernel_rfl) (fun a g hst hb => ?_)
         refine wp_cond_split (hst.bool 7 rfl) (fun hc15 => ?_) (fun hc15 => ?_)
         · replace H1 := Zp hc15 H1
           refine r_s (L := [(0, _), (10, _), (1002, _)]) (T := [⟨[.old 1], _, [], [], [51]⟩, ⟨[.op 0 0], _, [], [0], [6]⟩]) (F := [.old 0, .op 1 0, .old 2]) (hst.pick [0, 6, 8] rfl) hb Za
             (o_p rfl (Zc rfl rfl u_0) <| o_p rfl (Zb rfl rfl u_0) <| o_n) (by kernel_rfl) (fun a g hst hb => ?_)
           refine wp_ret ?_
           refine Zk ?_
           refine Zo ?_
           refine Zk ?_
           refine Zk ?_
           refine Zo ?_
           refine Zk ?_
           refine Zk ?_
           obtain rfl := Option.some.inj H1
           obtain rfl := Option.some.inj H0
           exact Zku rfl hst hb (Zh (s := 6)) (hst.at 1 rfl) (Zgv (hst.at 0 rfl) (hst.at 2 rfl))
         · replace H1 := Zq hc15 H1
           refine wp_skip ?_
           refine Zn ?_
           refine wp_seq ?_
           obtain ⟨e16, h17, H1⟩ := Zj H1; obtain ⟨r18, h19, H1⟩ := Zj H1
           refine r_s (L := [(0, _), (1, _), (2, _), (7, _), (8, _), (9, _), (1002, _)]) (T := ⟨[.old 0], _, [], [], [52]⟩ :: ⟨[.op 0 0], _, [], [0], [53]⟩ :: ⟨[.op 1 0], _, [], [0, 1], [54]⟩ :: ⟨[.op 2 0], _, [], [0, 1, 2], [55]⟩ :: ⟨[.op 3 0], _, [], Lr 4, [56]⟩ :: ⟨[.old 2], _, [], [], [57]⟩ :: ⟨[.old 5], _, [], [], [58]⟩ :: ⟨[.op 5 0, .op 6 0], _, [], [5, 6], [59]⟩ :: ⟨[.op 7 0], _, [], [5, 6, 7], [60]⟩ :: ⟨[.op 8 0], _, [], List.range' 5 4, [61]⟩ :: ⟨[.op 4 0, .op 9 0], _, [], Lr 10, [62]⟩ :: ⟨[.op 10 0], _, [], Lr 11, [63]⟩ :: []) (F := [.old 0, .old 1, .old 2, .old 3, .old 4, .old 5, .op 11 0, .old 6]) (hst.pick [0, 1, 2, 3, 4, 5, 8] rfl) hb Za
             (o_p rfl (Zc rfl rfl u_0) <| o_p rfl (Z4 rfl rfl u_0 (fun _ _ ⟨_, ⟨_, _, _, e, _⟩, _⟩ => ⟨_, e⟩)) <| o_p rfl (Zmk Zw5 (off := 0) (by kernel_rfl) (fun _ => rfl) rfl rfl u_0) <| o_p rfl (Zp0 Zc9 (off2 := 0) (by kernel_rfl) (by decide) rfl rfl u_0) <| o_p rfl (Zo4 ty_3 rfl rfl u_0) <| o_p rfl (Zc rfl rfl u_0) <| o_p rfl (Zc rfl rfl u_0) <| o_p rfl (Zbm Tryd.underlying60 Zpz rfl rfl u_0 u_1 h17) <| o_p rfl (Zd Zce rfl rfl u_0) <| o_p rfl (Zf ty_3 rfl rfl u_0) <| o_p rfl (Zu Z2q (Zl2 _ _ h19) rfl rfl (.cons u_0 (.cons u_1 .nil))) <| o_p rfl (Zcf rfl rfl u_0) <| o_n) (by kernel_rfl) (fun a g hst hb => ?_)
           refine wp_cond_split (hst.bool 6 rfl) (fun hc20 => ?_) (fun hc20 => ?_)
           · replace H1 := Zp hc20 H1
             refine r_s (L := [(0, _), (1002, _)]) (T := [⟨[], _, [], [], [6]⟩]) (F := [.old 0, .op 0 0, .old 1]) (hst.pick [0, 7] rfl) hb Za
               (o_p rfl (Zb rfl rfl c_i) <| o_n) (by kernel_rfl) (fun a g hst hb => ?_)
             refine wp_ret ?_
             refine Zk ?_
             refine Zo ?_
             refine Zk ?_
             refine Zk ?_
             refine Zo ?_
             refine Zk ?_
             refine Zk ?_
             obtain rfl := Option.some.inj H1
             obtain rfl := Option.some.inj H0
             exact Zku rfl hst hb (Zh (s := 6)) (hst.at 1 rfl) (Zgv (hst.at 0 rfl) (hst.at 2 rfl))
           · replace H1 := Zq hc20 H1
             refine wp_skip ?_
             refine Zn ?_
             obtain ⟨e21, h22, H1⟩ := Zj H1; obtain ⟨r23, h24, H1⟩ := Zj H1
             refine r_s (L := [(0, _), (1, _), (2, _), (7, _), (8, _), (9, _), (1002, _)]) (T := [⟨[.old 0], _, [], [], [65]⟩, ⟨[.old 2], _, [], [], [66]⟩, ⟨[.old 5], _, [], [], [67]⟩, ⟨[.op 1 0, .op 2 0], _, [], [1, 2], [68]⟩, ⟨[.op 3 0], _, [], [1, 2, 3], [69]⟩, ⟨[.op 0 0, .op 4 0, .old 6], _, [], Lr 5, [70]⟩, ⟨[.op 5 0], _, [], Lr 6, [64]⟩, ⟨[.op 6 0], _, [], Lr 7, [71]⟩, ⟨[.op 6 0], _, [], Lr 7, [72]⟩, ⟨[.op 7 0], _, [], Lr 8, [11]⟩, ⟨[.op 8 0], _, [], Lr 10, [12]⟩]) (F := [.old 0, .old 1, .old 2, .old 3, .old 4, .old 5, .op 9 0, .op 10 0, .old 6]) (hst.pick [0, 1, 2, 3, 4, 5, 7] rfl) hb Za
               (o_p rfl (Zc rfl rfl u_0) <| o_p rfl (Zc rfl rfl u_0) <| o_p rfl (Zc rfl rfl u_0) <| o_p rfl (Zbm Tryd.underlying60 Zpz rfl rfl u_0 u_1 h22) <| o_p rfl (Zf Zgf rfl rfl u_0) <| o_p rfl (Zsk (Z1a Zlv) Z14 Z2f (Zj5 _ _ h24) rfl rfl (Opd.joinR u_0 u_2) rfl (.cons u_1 .nil)) <| o_p rfl (Zc rfl rfl u_0) <| o_p rfl (Z6 rfl rfl u_0 rfl) <| o_p rfl (Z6 rfl rfl u_0 rfl) <| o_p rfl (Zb rfl rfl u_0) <| o_p rfl (Zb rfl rfl u_0) <| o_n) (by kernel_rfl) (fun a g hst hb => ?_)
             refine wp_seq ?_
             obtain ⟨e25, h26, H1⟩ := Zj H1
             refine r_s (T := [⟨[.old 6], _, [], [], [73]⟩, ⟨[.old 3], _, [], [], [74]⟩, ⟨[.op 0 0, .op 1 0], _, [], [0, 1], [75]⟩, ⟨[.op 2 0], _, [], [0, 1, 2], [76]⟩, ⟨[.op 3 0, .old 2], _, [], Lr 4, [77]⟩, ⟨[.op 3 0, .old 5], _, [], Lr 4, [78]⟩, ⟨[.op 3 0, .op 4 0, .op 5 0], _, [], Lr 6, [79]⟩, ⟨[.op 3 0, .op 6 0], _, [], Lr 7, [80]⟩, ⟨[.op 3 0, .op 7 0], _, [], Lr 8, [81]⟩, ⟨[.op 3 0, .op 8 0], _, [], Lr 9, [82]⟩, ⟨[.op 3 0, .op 9 0], _, [], Lr 10, [83]⟩]) (F := [.old 0, .old 1, .old 2, .old 3, .old 4, .old 5, .old 6, .old 7, .op 10 0, .old 8]) hst hb Za
               (o_p rfl (Zc rfl rfl u_0) <| o_p rfl (Zc rfl rfl u_0) <| o_p rfl (Zci rfl rfl u_0 u_1) <| o_p rfl (Zc rfl rfl u_0) <| o_g (g_t rfl rfl rfl (fun hG => Zc rfl rfl u_0)) <| o_g (g_t rfl rfl rfl (fun hG => Zc rfl rfl u_0)) <| o_g (g_t rfl rfl rfl (fun hG => Zbm Tryd.underlying60 Zpz rfl rfl (Opd.gd hG u_0) (Opd.gd hG u_1) (Zbs h26 hG))) <| o_g (g_t rfl rfl rfl (fun hG => Zd Zce rfl rfl (Opd.gd hG u_0))) <| o_g (g_t rfl rfl rfl (fun hG => Zf ty_3 rfl rfl (Opd.gd hG u_0))) <| o_g (g_t rfl rfl rfl (fun hG => Z7 rfl rfl (Opd.gd hG u_0) c_i)) <| o_p rfl (Zbc rfl rfl u_0 (fun hz => (Opd.gd hz u_1))) <| o_n) (by kernel_rfl) (fun a g hst hb => ?_)
             refine wp_cond_split (hst.bool 8 rfl) (fun hc27 => ?_) (fun hc27 => ?_)
             · replace H1 := Zp hc27 H1
               refine r_s (L := [(0, _), (1002, _)]) (T := [⟨[], _, [], [], [6]⟩]) (F := [.old 0, .op 0 0, .old 1]) (hst.pick [0, 9] rfl) hb Za
                 (o_p rfl (Zb rfl rfl c_i) <| o_n) (by kernel_rfl) (fun a g hst hb => ?_)
               refine wp_ret ?_
               refine Zk ?_
               refine Zo ?_
               refine Zk ?_
               refine Zk ?_
               refine Zo ?_
               refine Zk ?_
               refine Zk ?_
               obtain rfl := Option.some.inj H1
               obtain rfl := Option.some.inj H0
               exact Zku rfl hst hb (Zh (s := 6)) (hst.at 1 rfl) (Zgv (hst.at 0 rfl) (hst.at 2 rfl))
             · replace H1 := Zq hc27 H1
               refine wp_skip ?_
               refine Zn ?_
               refine wp_seq ?_
               refine r_s (L := [(0, _), (1, _), (2, _), (7, _), (8, _), (9, _), (11, _), (12, _), (1002, _)]) (T := [⟨[.old 6], _, [], [], [84]⟩, ⟨[.old 3], _, [], [], [85]⟩, ⟨[.op 0 0, .op 1 0], _, [], [0, 1], [86]⟩]) (F := [.old 0, .old 1, .old 2, .old 3, .old 4, .old 5, .old 6, .old 7, .op 2 0, .old 8]) (hst.pick [0, 1, 2, 3, 4, 5, 6, 7, 9] rfl) hb Za
                 (o_p rfl (Zc rfl rfl u_0) <| o_p rfl (Zc rfl rfl u_0) <| o_p rfl (Zci rfl rfl u_0 u_1) <| o_n) (by kernel_rfl) (fun a g hst hb => ?_)
               refine wp_cond_split (hst.bool 8 rfl) (fun hc28 => ?_) (fun hc28 => ?_)
               · replace H1 := Zp hc28 H1
                 refine r_s (L := [(0, _), (1002, _)]) (T := [⟨[], _, [], [], [6]⟩]) (F := [.old 0, .op 0 0, .old 1]) (hst.pick [0, 9] rfl) hb Za
                   (o_p rfl (Zb rfl rfl c_i) <| o_n) (by kernel_rfl) (fun a g hst hb => ?_)
                 refine wp_ret ?_
                 refine Zk ?_
                 refine Zo ?_
                 refine Zk ?_
                 refine Zk ?_
                 refine Zo ?_
                 refine Zk ?_
                 refine Zk ?_
                 obtain rfl := Option.some.inj H1
                 obtain rfl := Option.some.inj H0
                 exact Zku rfl hst hb (Zh (s := 6)) (hst.at 1 rfl) (Zgv (hst.at 0 rfl) (hst.at 2 rfl))
               · replace H1 := Zq hc28 H1
                 refine wp_skip ?_
                 refine Zn ?_
                 refine wp_seq ?_
                 refine r_s (L := [(0, _), (1, _), (2, _), (7, _), (8, _), (9, _), (11, _), (12, _), (1002, _)]) (T := [⟨[.old 7], _, [], [], [87]⟩, ⟨[.old 4], _, [], [], [88]⟩, ⟨[.op 0 0, .op 1 0], _, [], [0, 1], [89]⟩]) (F := [.old 0, .old 1, .old 2, .old 3, .old 4, .old 5, .old 6, .old 7, .op 2 0, .old 8]) (hst.pick [0, 1, 2, 3, 4, 5, 6, 7, 9] rfl) hb Za
                   (o_p rfl (Zc rfl rfl u_0) <| o_p rfl (Zc rfl rfl u_0) <| o_p rfl (Zci rfl rfl u_0 u_1) <| o_n) (by kernel_rfl) (fun a g hst hb => ?_)
                 refine wp_cond_split (hst.bool 8 rfl) (fun hc29 => ?_) (fun hc29 => ?_)
                 · replace H1 := Zp hc29 H1
                   refine r_s (L := [(0, _), (1002, _)]) (T := [⟨[], _, [], [], [6]⟩]) (F := [.old 0, .op 0 0, .old 1]) (hst.pick [0, 9] rfl) hb Za
                     (o_p rfl (Zb rfl rfl c_i) <| o_n) (by kernel_rfl) (fun a g hst hb => ?_)
                   refine wp_ret ?_
                   refine Zk ?_
                   refine Zo ?_
                   refine Zk ?_
                   refine Zk ?_
                   refine Zo ?_
                   refine Zk ?_
                   refine Zk ?_
                   obtain rfl := Option.some.inj H1
                   obtain rfl := Option.some.inj H0
                   exact Zku rfl hst hb (Zh (s := 6)) (hst.at 1 rfl) (Zgv (hst.at 0 rfl) (hst.at 2 rfl))
                 · replace H1 := Zq hc29 H1
                   refine wp_skip ?_
                   refine Zn ?_
                   refine r_s (L := [(0, _), (1, _), (2, _), (7, _), (8, _), (9, _), (11, _), (12, _), (1002, _)]) (T := [⟨[.old 3], _, [], [], [90]⟩, ⟨[.old 6], _, [], [], [91]⟩, ⟨[.op 0 0, .op 1 0], _, [], [0, 1], [92]⟩, ⟨[.op 2 0], _, [], [0, 1, 2], [7]⟩]) (F := [.old 0, .old 1, .old 2, .op 3 0, .old 4, .old 5, .old 7, .old 8]) (hst.pick [0, 1, 2, 3, 4, 5, 6, 7, 9] rfl) hb Za
                     (o_p rfl (Zc rfl rfl u_0) <| o_p rfl (Zc rfl rfl u_0) <| o_p rfl (Zdt rfl rfl u_0 u_1 rfl) <| o_p rfl (Zb rfl rfl u_0) <| o_n) (by kernel_rfl) (fun a g hst hb => ?_)
                   refine r_g (T := [⟨[.old 4], _, [], [], [93]⟩, ⟨[.old 6], _, [], [], [94]⟩, ⟨[.op 0 0, .op 1 0], _, [], [0, 1], [95]⟩, ⟨[.op 2 0], _, [], [0, 1, 2], [8]⟩]) (F := [.old 0, .old 1, .old 2, .old 3, .op 3 0, .old 5, .old 7]) hst hb Za
                     (o_p rfl (Zc rfl rfl u_0) <| o_p rfl (Zc rfl rfl u_0) <| o_p rfl (Zdt rfl rfl u_0 u_1 rfl) <| o_p rfl (Zb rfl rfl u_0) <| o_n) (by kernel_rfl) (fun a g hst hb => ?_)
                   refine Zbg ?_
                   refine Zn ?_
                   refine r_g (T := [⟨[.old 5], _, [], [], [42]⟩, ⟨[.op 0 0], _, [], [0], [43]⟩, ⟨[.op 1 0], _, [], [0, 1], [9]⟩]) (F := [.old 0, .old 1, .old 2, .old 3, .old 4, .op 2 0, .old 6]) hst hb Za
                     (o_p rfl (Zc rfl rfl u_0) <| o_p rfl (Zck rfl rfl u_0 c_i rfl) <| o_p rfl (Zb rfl rfl u_0) <| o_n) (by kernel_rfl) (fun a g hst hb => ?_)
                   exact ⟨n, Nat.lt_succ_self _, x6, (IntKind.u64.wrap (x7 - r23.1)), (IntKind.u64.wrap (x8 - r23.2)), (IntKind.i64.wrap (x9 + (1 : Int))), g, rfl, (hst.pick [0, 1, 2, 3, 4, 5, 6] rfl), hb, H1⟩
       · replace H1 := Zq hc10 H1
         refine wp_exit ?_
         refine Zb9 ?_
         refine Zb9 ?_
         refine Zcy ?_
         exact ⟨x6, x7, x8, g, rfl, (hst.pick [0, 1, 3, 4, 7] rfl), hb, Option.some.inj H1⟩
theorem Zj7 (a0 : Zi) (a1 : Int) (a2 : List Zr) {r : Zi × Int} (h : Ze4 a0 a1 a2 = some r) : FnM Tryd.prog 29 Zb7 a0 r.1 [(pInt .i64 a1), (Zy.sl.pd a2)] (pInt .i64 r.2) := by
 obtain ⟨u, h1, h2⟩ := Zj h
 obtain rfl := Option.some.inj h2
 exact Zjo a0 a1 a2 h1
theorem Zka (a0 : Ze) (a1 : Int) (a2 : List Zbp) {r : Bool} (h : Zfg a0 a1 a2 = some r) : FnOk Tryd.prog 7 [(Zg.pd a0), (pInt .i64 a1), (Zbw.sl.pd a2)] (Z9 r) := by
 have H0 := h
 unfold Zfg at H0
 clear h
 refine Zbt (N := 150) Tryd.func7 rfl rfl (Nat.le_of_ble_eq_true rfl) rfl rfl (fun a g0 hst hb => ?_)
 refine r_s (T := [⟨[.old 0], _, [], [], [3]⟩, ⟨[], _, [], [], [6]⟩]) (F := [.old 1, .old 2, .op 0 0]) hst hb Za
   (o_p rfl (Zbq rfl rfl u_0) <| o_p rfl (Zb rfl rfl c_b) <| o_n) (by kernel_rfl) (fun a g hst hb => ?_)
 refine wp_seq ?_
 obtain ⟨r1, h2, H0⟩ := Zj H0
 refine r_s (T := [⟨[], _, [], [], [22]⟩, ⟨[.op 0 0], _, [], [0], [23]⟩]) (F := [.old 0, .old 1, .old 2, .op 1 0]) hst hb Za
   (o_p rfl (Zu en_8 (Zl0 h2) rfl rfl .nil) <| o_p rfl (Zcf rfl rfl u_0) <| o_n) (by kernel_rfl) (fun a g hst hb => ?_)
 refine wp_cond_split (hst.bool 3 rfl) (fun hc3 => ?_) (fun hc3 => ?_)
 · replace H0 := Zp hc3 H0
   refine r_s (L := []) (T := [⟨[], _, [], [], [6]⟩]) (F := [.op 0 0]) (hst.pick [] rfl) hb Za
     (o_p rfl (Zb rfl rfl c_b) <| o_n) (by kernel_rfl) (fun a g hst hb => ?_)
   refine wp_ret ?_
   refine Zk ?_
   obtain rfl := Option.some.inj H0
   exact Zz rfl hst hb (Zh (s := 6)) (hst.at 0 rfl)
 · replace H0 := Zq hc3 H0
   refine wp_skip ?_
   refine Zn ?_
   refine wp_seq ?_
   obtain ⟨r4, h5, H0⟩ := Zj H0
   refine r_s (L := [(1, _), (2, _), (3, _)]) (T := [⟨[.old 2], _, [], [], [24]⟩, ⟨[.old 1], _, [], [], [25]⟩, ⟨[.op 0 0, .op 1 0], _, [], [0, 1], [26]⟩]) (F := [.old 0, .old 1, .old 2, .op 2 0]) (hst.pick [0, 1, 2] rfl) hb Za
     (o_p rfl (Zf Z8 rfl rfl u_0) <| o_p rfl (Zc rfl rfl u_0) <| o_p rfl (Zu en_9 (Znm _ _ h5) rfl rfl (.cons u_0 (.cons u_1 .nil))) <| o_n) (by kernel_rfl) (fun a g hst hb => ?_)
   refine wp_cond_split (hst.bool 3 rfl) (fun hc6 => ?_) (fun hc6 => ?_)
   · replace H0 := Zp hc6 H0
     refine r_s (L := []) (T := [⟨[], _, [], [], [6]⟩]) (F := [.op 0 0]) (hst.pick [] rfl) hb Za
       (o_p rfl (Zb rfl rfl c_b) <| o_n) (by kernel_rfl) (fun a g hst hb => ?_)
     refine wp_ret ?_
     refine Zk ?_
     obtain rfl := Option.some.inj H0
     exact Zz rfl hst hb (Zh (s := 6)) (hst.at 0 rfl)
   · replace H0 := Zq hc6 H0
     refine wp_skip ?_
     refine Zn ?_
     obtain ⟨r7, h8, H0⟩ := Zj H0
     refine r_s (L := [(1, _), (2, _), (3, _)]) (T := [⟨[.old 2], _, [], [], [28]⟩, ⟨[.old 0], _, [], [], [29]⟩, ⟨[.op 0 0, .op 1 0], [(30, (pTup [(Zed Zby 30 r7.1), (pInt .i64 r7.2)]))], [31, 1000031], [0, 1], [30]⟩, ⟨[.op 2 0], _, [], [0, 1, 2], [27]⟩, ⟨[.op 3 0], _, [], Lr 4, [31]⟩, ⟨[.op 3 0], _, [], Lr 4, [32]⟩, ⟨[.op 4 0], _, [], Lr 5, [7]⟩, ⟨[.op 5 0], _, [], Lr 7, [8]⟩]) (F := [.old 0, .old 1, .old 2, .op 6 0, .op 7 0]) (hst.pick [0, 1, 2] rfl) hb Za
       (o_p rfl (Zf Z8 rfl rfl u_0) <| o_p rfl (Zc rfl rfl u_0) <| o_p rfl (Zlp Zyd (Zm6 _ _ h8) rfl rfl rfl (.cons u_0 (.cons u_1 .nil))) <| o_p rfl (Zc rfl rfl u_0) <| o_p rfl (Z6 rfl rfl u_0 rfl) <| o_p rfl (Z6 rfl rfl u_0 rfl) <| o_p rfl (Zb rfl rfl u_0) <| o_p rfl (Zb rfl rfl u_0) <| o_n) (by kernel_rfl) (fun a g hst hb => ?_)
     obtain ⟨r9, h10, H0⟩ := Zj H0
     refine r_s (T := [⟨[.old 2], _, [], [], [34]⟩, ⟨[.old 0], _, [], [], [35]⟩, ⟨[.op 0 0, .op 1 0], [(36, (pTup [(Zed Zb7 36 r9.1), (pInt .i64 r9.2)]))], [37, 1000037], [0, 1], [36]⟩, ⟨[.op 2 0], _, [], [0, 1, 2], [33]⟩, ⟨[.op 3 0], _, [], Lr 4, [37]⟩, ⟨[.op 3 0], _, [], Lr 4, [38]⟩, ⟨[.op 4 0], _, [], Lr 5, [9]⟩, ⟨[.op 5 0], _, [], Lr 7, [10]⟩]) (F := [.old 0, .old 1, .old 3, .old 4, .op 6 0, .op 7 0]) hst hb Za
       (o_p rfl (Zf Z8 rfl rfl u_0) <| o_p rfl (Zc rfl rfl u_0) <| o_p rfl (Zlp Z2p (Znl _ _ h10) rfl rfl rfl (.cons u_0 (.cons u_1 .nil))) <| o_p rfl (Zc rfl rfl u_0) <| o_p rfl (Z6 rfl rfl u_0 rfl) <| o_p rfl (Z6 rfl rfl u_0 rfl) <| o_p rfl (Zb rfl rfl u_0) <| o_p rfl (Zb rfl rfl u_0) <| o_n) (by kernel_rfl) (fun a g hst hb => ?_)
     refine wp_seq ?_
     refine r_s (T := [⟨[.old 3], _, [], [], [39]⟩, ⟨[.old 5], _, [], [], [40]⟩, ⟨[.op 0 0, .op 1 0], _, [], [0, 1], [41]⟩, ⟨[.op 2 0], _, [], [0, 1, 2], [42]⟩, ⟨[.op 3 0, .old 2], _, [], Lr 4, [43]⟩, ⟨[.op 3 0, .op 4 0], _, [], Lr 5, [44]⟩, ⟨[.op 3 0, .old 5], _, [], Lr 4, [45]⟩, ⟨[.op 3 0, .op 6 0], _, [], [0, 1, 2, 3, 6], [46]⟩, ⟨[.op 3 0, .op 5 0, .op 7 0], _, [], Lr 8, [47]⟩, ⟨[.op 3 0, .op 8 0], _, [], Lr 9, [48]⟩]) (F := [.old 0, .old 1, .old 2, .old 4, .old 5, .op 9 0]) hst hb Za
       (o_p rfl (Zc rfl rfl u_0) <| o_p rfl (Zc rfl rfl u_0) <| o_p rfl (Zcp rfl rfl u_0 u_1) <| o_p rfl (Zc rfl rfl u_0) <| o_g (g_f rfl rfl rfl (fun hG => Zc rfl rfl u_0)) <| o_g (g_f rfl rfl rfl (fun hG => Zvr Tryd.underlying54 rfl rfl (Opd.gd hG u_0) Zsx)) <| o_g (g_f rfl rfl rfl (fun hG => Zc rfl rfl u_0)) <| o_g (g_f rfl rfl rfl (fun hG => Zcp rfl rfl (Opd.gd hG u_0) c_i)) <| o_g (g_f rfl rfl rfl (fun hG => Zzo Tryd.underlying4 rfl rfl (Opd.gd hG u_0) (Opd.gd hG u_1))) <| o_p rfl (Zbf rfl rfl u_0 (fun hz => (Opd.gd (bNF hz) u_1))) <| o_n) (by kernel_rfl) (fun a g hst hb => ?_)
     refine wp_cond_split (hst.bool 5 rfl) (fun hc11 => ?_) (fun hc11 => ?_)
     · replace H0 := Zp hc11 H0
       refine r_s (L := []) (T := [⟨[], _, [], [], [6]⟩]) (F := [.op 0 0]) (hst.pick [] rfl) hb Za
         (o_p rfl (Zb rfl rfl c_b) <| o_n) (by kernel_rfl) (fun a g hst hb => ?_)
       refine wp_ret ?_
       refine Zk ?_
       obtain rfl := Option.some.inj H0
       exact Zz rfl hst hb (Zh (s := 6)) (hst.at 0 rfl)
     · replace H0 := Zq hc11 H0
       refine wp_skip ?_
       refine Zn ?_
       refine wp_seq ?_
       refine r_s (L := [(1, _), (2, _), (7, _), (9, _), (10, _)]) (T := [⟨[.old 4], _, [], [], [49]⟩, ⟨[.op 0 0], _, [], [0], [50]⟩]) (F := [.old 0, .old 1, .old 2, .old 3, .op 1 0]) (hst.pick [0, 1, 2, 3, 4] rfl) hb Za
         (o_p rfl (Zc rfl rfl u_0) <| o_p rfl (Zcp rfl rfl u_0 c_i) <| o_n) (by kernel_rfl) (fun a g hst hb => ?_)
       refine wp_cond_split (hst.bool 4 rfl) (fun hc12 => ?_) (fun hc12 => ?_)
       · replace H0 := Zp hc12 H0
         refine r_s (L := []) (T := [⟨[], _, [], [], [6]⟩]) (F := [.op 0 0]) (hst.pick [] rfl) hb Za
           (o_p rfl (Zb rfl rfl c_b) <| o_n) (by kernel_rfl) (fun a g hst hb => ?_)
         refine wp_ret ?_
         refine Zk ?_
         obtain rfl := Option.some.inj H0
         exact Zz rfl hst hb (Zh (s := 6)) (hst.at 0 rfl)
       · replace H0 := Zq hc12 H0
         refine wp_skip ?_
         refine Zn ?_
         refine r_s (L := [(1, _), (2, _), (7, _), (9, _)]) (T := [⟨[], [(11, (pRow Zy 37 11 ([] : List Zr)))], [], [], [11]⟩]) (F := [.old 0, .old 1, .old 2, .old 3, .op 0 0]) (hst.pick [0, 1, 2, 3] rfl) hb Za
           (o_p rfl (Zb rfl rfl (Opd.c (fun g => Zsv 11 g))) <| o_n) (by kernel_rfl) (fun a g hst hb => ?_)
         refine wp_seq ?_
         refine r_s (T := [⟨[.old 1], _, [], [], [51]⟩, ⟨[.op 0 0], _, [], [0], [52]⟩, ⟨[], _, [], [], [53]⟩]) (F := [.old 0, .old 2, .old 3, .old 4, .op 0 0, .op 1 0, .op 2 0]) hst hb Za
           (o_p rfl (Zc rfl rfl u_0) <| o_p rfl (Zco Tryd.underlying40 rfl rfl u_0) <| o_p rfl (Zc rfl rfl c_i) <| o_n) (by kernel_rfl) (fun a g hst hb => ?_)
         obtain ⟨z53, hz1, H0⟩ := Zj H0
         refine Zcl (fun a w => ∃ (g : G), w = g.w ∧ St 150 [] a g ∧ Base g0 g ∧ (.inr ()) = z53) ?_ ?_
         · rintro a w ⟨g, rfl, hst, hb, rfl⟩
           refine Zn ?_
           refine r_s (T := [⟨[], _, [], [], [6]⟩]) (F := [.op 0 0]) hst hb Za
             (o_p rfl (Zb rfl rfl c_b) <| o_n) (by kernel_rfl) (fun a g hst hb => ?_)
           refine wp_ret ?_
           obtain rfl := Option.some.inj H0
           exact Zz rfl hst hb (Zh (s := 6)) (hst.at 0 rfl)
         · refine wp_block ?_
           refine wp_loop_ghost (fun n a w => ∃ (x13 : Option Zs) (x14 : Option Zi) (x15 : List Zr) (x16 : Int) (g : G), w = g.w ∧ St 150 [(1, (pInt .i64 a1)), (7, (Zed Zby 30 x13)), (9, (Zed Zb7 36 x14)), (11, (pRow Zy 37 11 x15)), (51, (Zbw.sl.pd a2)), (52, (pInt .i64 (a2.length : Int))), (53, (pInt .i64 x16))] a g ∧ Base g0 g ∧ Zb5 a1 a2 n x13 x14 x15 x16 = some z53) (Int.toNat ((a2.length : Int) - (0 : Int)) + 1) ⟨r7.1, r9.1, ([] : List Zr), (0 : Int), g, rfl, (hst.pick [0, 1, 2, 3, 4, 5, 6] rfl), hb, hz1⟩ (fun n a w hI => ?_)
           obtain ⟨x13, x14, x15, x16, g, rfl, hst, hb, H1⟩ := hI
           cases n with
           | zero => exact absurd H1 (by simp [Zb5])
           | succ n =>
             rw [Zb5] at H1
             refine r_s (T := [⟨[.old 6, .old 5], _, [], [], [54]⟩]) (F := [.old 0, .old 1, .old 2, .old 3, .old 4, .old 5, .old 6, .op 0 0]) hst hb Za
               (o_p rfl (Zb6 rfl rfl u_0 u_1) <| o_n) (by kernel_rfl) (fun a g hst hb => ?_)
             refine wp_seq ?_
             refine wp_cond_split (hst.bool 7 rfl) (fun hc17 => ?_) (fun hc17 => ?_)
             · replace H1 := Zp hc17 H1
               refine wp_skip ?_
               refine Zn ?_
               refine wp_seq ?_
               refine Zcl (fun a w => ∃ (j50 : Option Zs) (j51 : Option Zi) (j52 : List Zr) (g : G), w = g.w ∧ St 150 [(1, (pInt .i64 a1)), (7, (Zed Zby 30 j50)), (9, (Zed Zb7 36 j51)), (11, (pRow Zy 37 11 j52)), (51, (Zbw.sl.pd a2)), (52, (pInt .i64 (a2.length : Int))), (53, (pInt .i64 x16))] a g ∧ Base g0 g ∧ Zdi x16 (Zb5 a1 a2 n) j50 j51 j52 = some z53) ?_ ?_
               · rintro a w ⟨j50, j51, j52, g, rfl, hst, hb, H1⟩
                 unfold Zdi at H1
                 refine Zn ?_
                 refine r_g (T := [⟨[.old 6], _, [], [], [149]⟩, ⟨[.op 0 0], _, [], [0], [53]⟩]) (F := [.old 0, .old 1, .old 2, .old 3, .old 4, .old 5, .op 1 0]) hst hb Za
                   (o_p rfl (Zck rfl rfl u_0 c_i rfl) <| o_p rfl (Zc rfl rfl u_0) <| o_n) (by kernel_rfl) (fun a g hst hb => ?_)
                 exact ⟨n, Nat.lt_succ_self _, j50, j51, j52, (IntKind.i64.wrap (x16 + (1 : Int))), g, rfl, (hst.pick [0, 1, 2, 3, 4, 5, 6] rfl), hb, H1⟩
               · refine wp_block ?_
                 obtain ⟨e18, h19, H1⟩ := Zj H1
                 refine r_s (L := [(1, _), (7, _), (9, _), (11, _), (51, _), (52, _), (53, _)]) (T := [⟨[.old 4, .old 6], _, [], [], [55]⟩, ⟨[.op 0 0], _, [], [0], [56]⟩, ⟨[], [(13, (pBox Zbw 13 (default : Zbp)))], [14], [], [13]⟩, ⟨[.op 1 0, .op 2 0], _, [14], [0, 1, 2], [13]⟩]) (F := [.old 0, .old 1, .old 2, .old 3, .op 3 0, .old 4, .old 5, .old 6]) (hst.pick [0, 1, 2, 3, 4, 5, 6] rfl) hb Za
                   (o_p rfl (Zbm Tryd.underlying40 Zyk rfl rfl u_0 u_1 h19) <| o_p rfl (Zf Zrr rfl rfl u_0) <| o_p rfl (Zbu (zs := [.int .i64 0, .int .i64 0, .string ByteArray.empty, .int .i64 0, .float .f64 0, .string ByteArray.empty, .int .i64 0, .int .i64 0, .int .i64 0, .int .i64 0, .float .f64 0, .int .i64 0, .string ByteArray.empty, .slice none 0 0, .bool false]) (by kernel_rfl) (fun g => Zjb g) rfl rfl) <| o_p rfl (Zct Zrr rfl rfl u_1 u_0) <| o_n) (by kernel_rfl) (fun a g hst hb => ?_)
                 obtain ⟨h20, H1⟩ := Zhd H1
                 refine r_s (T := [⟨[.old 3], _, [], [], [57]⟩, ⟨[.old 4], _, [], [], [58]⟩, ⟨[.op 1 0], _, [], [1], [59]⟩, ⟨[.op 2 0], _, [], [1, 2], [60]⟩, ⟨[.op 0 0, .op 3 0], _, [12], Lr 4, [11, 57, 61]⟩, ⟨[.op 4 0], _, [], Lr 5, [11]⟩]) (F := [.old 0, .old 1, .old 2, .op 5 0, .old 4, .old 5, .old 6, .old 7]) hst hb Za
                   (o_p rfl (Zc rfl rfl u_0) <| o_p rfl (Zd Zqo rfl rfl u_0) <| o_p rfl (Zf Zgf rfl rfl u_0) <| o_p rfl (Zh8 Zrq (xs := [.tmp 59]) (.cons u_0 .nil) (by decide) rfl rfl) <| o_p rfl (Zqx Zrq rfl rfl u_0 u_1 h20) <| o_p rfl (Zb rfl rfl u_0) <| o_n) (by kernel_rfl) (fun a g hst hb => ?_)
                 refine wp_seq ?_
                 refine r_s (T := [⟨[.old 3], _, [], [], [62]⟩, ⟨[.op 0 0], _, [], [0], [63]⟩, ⟨[.op 1 0], _, [], [0, 1], [64]⟩, ⟨[.op 2 0], _, [], [0, 1, 2], [65]⟩, ⟨[.op 3 0, .old 4], _, [], Lr 4, [66]⟩, ⟨[.op 3 0, .op 4 0], _, [], Lr 5, [67]⟩, ⟨[.op 3 0, .op 5 0], _, [], Lr 6, [68]⟩, ⟨[.op 3 0, .op 6 0], _, [], Lr 7, [69]⟩]) (F := [.old 0, .old 1, .old 2, .old 3, .old 4, .old 5, .old 6, .old 7, .op 7 0]) hst hb Za
                   (o_p rfl (Zc rfl rfl u_0) <| o_p rfl (Zco Tryd.underlying60 rfl rfl (Opd.imp u_0 (fun _ _ h => Zlb h))) <| o_p rfl (Zb6 rfl rfl u_0 c_i) <| o_p rfl (Zc rfl rfl u_0) <| o_g (g_t rfl rfl rfl (fun hG => Zd Zqo rfl rfl u_0)) <| o_g (g_t rfl rfl rfl (fun hG => Zd Zy7 rfl rfl (Opd.gd hG u_0))) <| o_g (g_t rfl rfl rfl (fun hG => Zf ty_4 rfl rfl (Opd.gd hG u_0))) <| o_p rfl (Zbc rfl rfl u_0 (fun hz => (Opd.gd hz u_1))) <| o_n) (by kernel_rfl) (fun a g hst hb => ?_)
                 refine wp_cond_split (hst.bool 8 rfl) (fun hc21 => ?_) (fun hc21 => ?_)
                 · replace H1 := Zp hc21 H1
                   refine wp_exit ?_
                   refine Zb9 ?_
                   refine Zcy ?_
                   exact ⟨x13, x14, (x15 ++ ([e18.Act] : List Zr)), g, rfl, (hst.pick [0, 1, 2, 3, 5, 6, 7] rfl), hb, H1⟩
                 · replace H1 := Zq hc21 H1
                   refine wp_skip ?_
                   refine Zn ?_
                   obtain ⟨n22, h23, H1⟩ := Zj H1; obtain ⟨r24, h25, H1⟩ := Zj H1
                   refine r_s (L := [(1, _), (7, _), (9, _), (11, _), (13, _), (51, _), (52, _), (53, _)]) (T := [⟨[.old 1], _, [], [], [70]⟩, ⟨[.op 0 0, .old 1], [(71, (Zdz.ptr r24)), (7, (Zed Zby 30 (some n22)))], [31, 1000031], [0], [7, 70, 71]⟩, ⟨[.op 1 0], _, [], [0, 1], [14]⟩]) (F := [.old 0, .op 1 1, .old 2, .old 3, .old 4, .op 2 0, .old 5, .old 6, .old 7]) (hst.pick [0, 1, 2, 3, 4, 5, 6, 7] rfl) hb Za
                     (o_p rfl (Zc rfl rfl u_0) <| o_p rfl (OB.objO (Zhn Z2l (Zl3 _ h25) rfl rfl rfl (by decide) (Opd.imp u_1 (fun _ _ h => Zc7 h23 h)) (Opd.imp u_0 (fun _ _ h => Zc7 h23 h)) .nil)) <| o_p rfl (Zb rfl rfl u_0) <| o_n) (by kernel_rfl) (fun a g hst hb => ?_)
                   obtain ⟨r26, h27, H1⟩ := Zj H1
                   refine r_s (T := [⟨[.old 1], _, [], [], [73]⟩, ⟨[.old 4], _, [], [], [74]⟩, ⟨[.op 1 0], _, [], [1], [75]⟩, ⟨[.op 0 0, .op 2 0, .old 1], [(76, (pTup [(pInt .u64 r26.1), (pInt .u64 r26.2)])), (7, (Zed Zby 30 (some n22)))], [31, 1000031], [0, 1, 2], [7, 73, 76]⟩, ⟨[.op 3 0], _, [], Lr 4, [72]⟩, ⟨[.op 4 0], _, [], Lr 5, [77]⟩, ⟨[.op 4 0], _, [], Lr 5, [78]⟩, ⟨[.op 5 0], _, [], Lr 6, [15]⟩, ⟨[.op 6 0], _, [], Lr 8, [16]⟩]) (F := [.old 0, .op 3 1, .old 2, .old 3, .old 4, .old 5, .op 7 0, .op 8 0, .old 6, .old 7, .old 8]) hst hb Za
                     (o_p rfl (Zc rfl rfl u_0) <| o_p rfl (Zd Zn8 rfl rfl u_0) <| o_p rfl (Zf ty_3 rfl rfl u_0) <| o_p rfl (OB.objO (Zhn Zpm (Zf2 _ _ h27) rfl rfl rfl (by decide) (Opd.imp u_2 (fun _ _ h => Zc7 rfl h)) (Opd.imp u_0 (fun _ _ h => Zc7 rfl h)) (.cons u_1 .nil))) <| o_p rfl (Zc rfl rfl u_0) <| o_p rfl (Z6 rfl rfl u_0 rfl) <| o_p rfl (Z6 rfl rfl u_0 rfl) <| o_p rfl (Zb rfl rfl u_0) <| o_p rfl (Zb rfl rfl u_0) <| o_n) (by kernel_rfl) (fun a g hst hb => ?_)
                   refine wp_seq ?_
                   obtain ⟨r28, h29, H1⟩ := Zj H1; obtain ⟨n30, h31, H1⟩ := Zj H1; obtain ⟨r32, h33, H1⟩ := Zj H1
                   refine r_s (T := [⟨[.old 1], _, [], [], [79]⟩, ⟨[.old 4], _, [], [], [80]⟩, ⟨[.op 1 0], _, [], [1], [81]⟩, ⟨[.old 3], _, [], [], [82]⟩, ⟨[.op 0 0, .op 2 0, .op 3 0, .old 1], [(83, (pInt .i64 r28.2)), (7, (Zed Zby 30 (some r28.1)))], [31, 1000031], Lr 4, [7, 79, 83]⟩, ⟨[.old 2], _, [], [], [84]⟩, ⟨[.old 4], _, [], [], [85]⟩, ⟨[.op 6 0], _, [], [6], [86]⟩, ⟨[.old 3], _, [], [], [87]⟩, ⟨[.op 5 0, .op 7 0, .op 8 0, .old 2], [(88, (pInt .i64 r32.2)), (9, (Zed Zb7 36 (some r32.1)))], [37, 1000037], Lr 9, [9, 84, 88]⟩, ⟨[.op 4 0, .op 9 0], _, [], Lr 10, [89]⟩]) (F := [.old 0, .op 4 1, .op 9 1, .old 4, .old 5, .old 6, .old 7, .old 8, .old 9, .old 10, .op 10 0]) hst hb Za
                     (o_p rfl (Zc rfl rfl u_0) <| o_p rfl (Zd Zn8 rfl rfl u_0) <| o_p rfl (Zf ty_3 rfl rfl u_0) <| o_p rfl (Zc rfl rfl u_0) <| o_p rfl (OB.objO (Zhn Zuo (Zhl _ _ _ h29) rfl rfl rfl (by decide) (Opd.imp u_3 (fun _ _ h => Zc7 rfl h)) (Opd.imp u_0 (fun _ _ h => Zc7 rfl h)) (.cons u_1 (.cons (Opd.imp u_2 (fun _ _ h => Zlb h)) .nil)))) <| o_p rfl (Zc rfl rfl u_0) <| o_p rfl (Zd Zn8 rfl rfl u_0) <| o_p rfl (Zf ty_3 rfl rfl u_0) <| o_p rfl (Zc rfl rfl u_0) <| o_p rfl (OB.objO (Zhn Z1r (Zj7 _ _ _ h33) rfl rfl rfl (by decide) (Opd.imp u_3 (fun _ _ h => Zc7 h31 h)) (Opd.imp u_0 (fun _ _ h => Zc7 h31 h)) (.cons u_1 (.cons (Opd.imp u_2 (fun _ _ h => Zlb h)) .nil)))) <| o_p rfl (Zcp rfl rfl u_0 u_1) <| o_n) (by kernel_rfl) (fun a g hst hb => ?_)
                   refine wp_cond_split (hst.bool 10 rfl) (fun hc34 => ?_) (fun hc34 => ?_)
                   · replace H1 := Zp hc34 H1
                     refine r_s (L := []) (T := [⟨[], _, [], [], [6]⟩]) (F := [.op 0 0]) (hst.pick [] rfl) hb Za
                       (o_p rfl (Zb rfl rfl c_b) <| o_n) (by kernel_rfl) (fun a g hst hb => ?_)
                     refine wp_ret ?_
                     refine Zk ?_
                     refine Zo ?_
                     refine Zk ?_
                     refine Zk ?_
                     refine Zk ?_
                     refine Zo ?_
                     refine Zk ?_
                     refine Zk ?_
                     obtain rfl := Option.some.inj H1
                     obtain rfl := Option.some.inj H0
                     exact Zz rfl hst hb (Zh (s := 6)) (hst.at 0 rfl)
                   · replace H1 := Zq hc34 H1
                     refine wp_skip ?_
                     refine Zn ?_
                     refine wp_seq ?_
                     obtain ⟨r35, h36, H1⟩ := Zj H1
                     refine r_s (L := [(1, _), (7, _), (9, _), (13, _), (14, _), (15, _), (16, _), (51, _), (52, _), (53, _)]) (T := [⟨[.old 4], _, [], [], [91]⟩, ⟨[.old 3], _, [], [], [92]⟩, ⟨[.op 1 0], _, [], [1], [93]⟩, ⟨[.op 0 0, .op 2 0], _, [], [0, 1, 2], [94]⟩, ⟨[.op 3 0], _, [], Lr 4, [90]⟩, ⟨[.op 4 0], _, [], Lr 5, [95]⟩, ⟨[.op 4 0], _, [], Lr 5, [96]⟩, ⟨[.op 5 0], _, [], Lr 6, [17]⟩, ⟨[.op 6 0], _, [], Lr 8, [18]⟩]) (F := [.old 0, .old 1, .old 2, .old 5, .old 6, .op 7 0, .op 8 0, .old 7, .old 8, .old 9]) (hst.pick [0, 1, 2, 3, 4, 5, 6, 7, 8, 9] rfl) hb Za
                       (o_p rfl (Zc rfl rfl u_0) <| o_p rfl (Zd Zn8 rfl rfl u_0) <| o_p rfl (Zf ty_3 rfl rfl u_0) <| o_p rfl (Zu Zpm (Zi7 _ _ h36).ok rfl rfl (.cons u_0 (.cons u_1 .nil))) <| o_p rfl (Zc rfl rfl u_0) <| o_p rfl (Z6 rfl rfl u_0 rfl) <| o_p rfl (Z6 rfl rfl u_0 rfl) <| o_p rfl (Zb rfl rfl u_0) <| o_p rfl (Zb rfl rfl u_0) <| o_n) (by kernel_rfl) (fun a g hst hb => ?_)
                     refine r_s (T := [⟨[.old 5], _, [], [], [97]⟩, ⟨[.old 3], _, [], [], [98]⟩, ⟨[.op 0 0, .op 1 0], _, [], [0, 1], [99]⟩, ⟨[.op 2 0], _, [], [0, 1, 2], [100]⟩, ⟨[.op 3 0, .old 6], _, [], Lr 4, [101]⟩, ⟨[.op 3 0, .old 4], _, [], Lr 4, [102]⟩, ⟨[.op 3 0, .op 4 0, .op 5 0], _, [], Lr 6, [103]⟩, ⟨[.op 3 0, .op 6 0], _, [], Lr 7, [104]⟩]) (F := [.old 0, .old 1, .old 2, .old 7, .old 8, .old 9, .op 7 0]) hst hb Za
                       (o_p rfl (Zc rfl rfl u_0) <| o_p rfl (Zc rfl rfl u_0) <| o_p rfl (Zcp rfl rfl u_0 u_1) <| o_p rfl (Zc rfl rfl u_0) <| o_g (g_f rfl rfl rfl (fun hG => Zc rfl rfl u_0)) <| o_g (g_f rfl rfl rfl (fun hG => Zc rfl rfl u_0)) <| o_g (g_f rfl rfl rfl (fun hG => Zcp rfl rfl (Opd.gd hG u_0) (Opd.gd hG u_1))) <| o_p rfl (Zbf rfl rfl u_0 (fun hz => (Opd.gd (bNF hz) u_1))) <| o_n) (by kernel_rfl) (fun a g hst hb => ?_)
                     refine wp_cond_split (hst.bool 6 rfl) (fun hc37 => ?_) (fun hc37 => ?_)
                     · replace H1 := Zp hc37 H1
                       refine r_s (L := []) (T := [⟨[], _, [], [], [6]⟩]) (F := [.op 0 0]) (hst.pick [] rfl) hb Za
                         (o_p rfl (Zb rfl rfl c_b) <| o_n) (by kernel_rfl) (fun a g hst hb => ?_)
                       refine wp_ret ?_
                       refine Zk ?_
                       refine Zo ?_
                       refine Zk ?_
                       refine Zk ?_
                       refine Zk ?_
                       refine Zo ?_
                       refine Zk ?_
                       refine Zk ?_
                       obtain rfl := Option.some.inj H1
                       obtain rfl := Option.some.inj H0
                       exact Zz rfl hst hb (Zh (s := 6)) (hst.at 0 rfl)
                     · replace H1 := Zq hc37 H1
                       refine wp_skip ?_
                       refine Zn ?_
                       refine r_s (L := [(1, _), (7, _), (9, _), (51, _), (52, _), (53, _)]) (T := [⟨[], [(11, (pRow Zy 37 11 ([] : List Zr)))], [], [], [11]⟩]) (F := [.old 0, .old 1, .old 2, .op 0 0, .old 3, .old 4, .old 5]) (hst.pick [0, 1, 2, 3, 4, 5] rfl) hb Za
                         (o_p rfl (Zb rfl rfl (Opd.c (fun g => Zsv 11 g))) <| o_n) (by kernel_rfl) (fun a g hst hb => ?_)
                       refine r_s (T := [⟨[], _, [], [], [19]⟩]) (F := [.old 0, .old 1, .old 2, .old 3, .op 0 0, .old 4, .old 5, .old 6]) hst hb Za
                         (o_p rfl (Zb rfl rfl c_i) <| o_n) (by kernel_rfl) (fun a g hst hb => ?_)
                       obtain ⟨z49, hz2, H1⟩ := Zj H1
                       refine Zcl (fun a w => ∃ (g : G), w = g.w ∧ St 150 [(1, (pInt .i64 a1)), (7, (Zed Zby 30 (some r28.1))), (9, (Zed Zb7 36 (some r32.1))), (11, (pRow Zy 37 11 ([] : List Zr))), (51, (Zbw.sl.pd a2)), (52, (pInt .i64 (a2.length : Int))), (53, (pInt .i64 x16))] a g ∧ Base g0 g ∧ (.inr ()) = z49) ?_ ?_
                       · rintro a w ⟨g, rfl, hst, hb, rfl⟩
                         refine Zbg ?_
                         exact ⟨(some r28.1), (some r32.1), ([] : List Zr), g, rfl, (hst.pick [0, 1, 2, 3, 4, 5, 6] rfl), hb, H1⟩
                       · refine wp_block ?_
                         refine wp_loop_ghost (fun n a w => ∃ (x38 : Int) (g : G), w = g.w ∧ St 150 [(1, (pInt .i64 a1)), (7, (Zed Zby 30 (some r28.1))), (9, (Zed Zb7 36 (some r32.1))), (11, (pRow Zy 37 11 ([] : List Zr))), (19, (pInt .i64 x38)), (51, (Zbw.sl.pd a2)), (52, (pInt .i64 (a2.length : Int))), (53, (pInt .i64 x16))] a g ∧ Base g0 g ∧ Zb2 a1 r28 r32 n x38 = some z49) (Int.toNat (a1 + 1 - (-1 : Int)) + 1) ⟨(-1 : Int), g, rfl, (hst.pick [0, 1, 2, 3, 4, 5, 6, 7] rfl), hb, hz2⟩ (fun n a w hI => ?_)
                         obtain ⟨x38, g, rfl, hst, hb, H2⟩ := hI
                         cases n with
                         | zero => exact absurd H2 (by simp [Zb2])
                         | succ n =>
                           rw [Zb2] at H2
                           refine wp_seq ?_
                           refine r_s (T := [⟨[.old 4], _, [], [], [105]⟩, ⟨[.old 0], _, [], [], [106]⟩, ⟨[.op 0 0, .op 1 0], _, [], [0, 1], [107]⟩]) (F := [.old 0, .old 1, .old 2, .old 3, .old 4, .old 5, .old 6, .old 7, .op 2 0]) hst hb Za
                             (o_p rfl (Zc rfl rfl u_0) <| o_p rfl (Zc rfl rfl u_0) <| o_p rfl (Zur rfl rfl u_0 u_1) <| o_n) (by kernel_rfl) (fun a g hst hb => ?_)
                           refine wp_cond_split (hst.bool 8 rfl) (fun hc39 => ?_) (fun hc39 => ?_)
                           · replace H2 := Zp hc39 H2
                             refine wp_skip ?_
                             refine Zn ?_
                             refine wp_seq ?_
                             refine Zcl (fun a w => ∃ (g : G), w = g.w ∧ St 150 [(1, (pInt .i64 a1)), (7, (Zed Zby 30 (some r28.1))), (9, (Zed Zb7 36 (some r32.1))), (11, (pRow Zy 37 11 ([] : List Zr))), (19, (pInt .i64 x38)), (51, (Zbw.sl.pd a2)), (52, (pInt .i64 (a2.length : Int))), (53, (pInt .i64 x16))] a g ∧ Base g0 g ∧ Zdj x38 (Zb2 a1 r28 r32 n) = some z49) ?_ ?_
                             · rintro a w ⟨g, rfl, hst, hb, H2⟩
                               unfold Zdj at H2
                               refine Zn ?_
                               refine r_g (T := [⟨[.old 4], _, [], [], [108]⟩, ⟨[.op 0 0], _, [], [0], [109]⟩, ⟨[.op 1 0], _, [], [0, 1], [19]⟩]) (F := [.old 0, .old 1, .old 2, .old 3, .op 2 0, .old 5, .old 6, .old 7]) hst hb Za
                                 (o_p rfl (Zc rfl rfl u_0) <| o_p rfl (Zck rfl rfl u_0 c_i rfl) <| o_p rfl (Zb rfl rfl u_0) <| o_n) (by kernel_rfl) (fun a g hst hb => ?_)
                               exact ⟨n, Nat.lt_succ_self _, (IntKind.i64.wrap (x38 + (1 : Int))), g, rfl, (hst.pick [0, 1, 2, 3, 4, 5, 6, 7] rfl), hb, H2⟩
                             · refine wp_block ?_
                               obtain ⟨r40, h41, H2⟩ := Zj H2
                               refine r_s (L := [(1, _), (7, _), (9, _), (11, _), (19, _), (51, _), (52, _), (53, _)]) (T := [⟨[.old 1], _, [], [], [111]⟩, ⟨[.old 4], _, [], [], [112]⟩, ⟨[.op 0 0, .op 1 0, .old 1], [(113, (pTup [(pInt .u64 r40.1), (pInt .u64 r40.2)])), (7, (Zed Zby 30 (some r28.1)))], [31, 1000031], [0, 1], [7, 111, 113]⟩, ⟨[.op 2 0], _, [], [0, 1, 2], [110]⟩, ⟨[.op 3 0], _, [], Lr 4, [114]⟩, ⟨[.op 3 0], _, [], Lr 4, [115]⟩, ⟨[.op 4 0], _, [], Lr 5, [20]⟩, ⟨[.op 5 0], _, [], Lr 7, [21]⟩]) (F := [.old 0, .op 2 1, .old 2, .old 3, .old 4, .op 6 0, .op 7 0, .old 5, .old 6, .old 7]) (hst.pick [0, 1, 2, 3, 4, 5, 6, 7] rfl) hb Za
                                 (o_p rfl (Zc rfl rfl u_0) <| o_p rfl (Zc rfl rfl u_0) <| o_p rfl (OB.objO (Zhn Zpm (Zf2 _ _ h41) rfl rfl rfl (by decide) (Opd.imp u_2 (fun _ _ h => Zc7 rfl h)) (Opd.imp u_0 (fun _ _ h => Zc7 rfl h)) (.cons u_1 .nil))) <| o_p rfl (Zc rfl rfl u_0) <| o_p rfl (Z6 rfl rfl u_0 rfl) <| o_p rfl (Z6 rfl rfl u_0 rfl) <| o_p rfl (Zb rfl rfl u_0) <| o_p rfl (Zb rfl rfl u_0) <| o_n) (by kernel_rfl) (fun a g hst hb => ?_)
                               refine r_s (T := [⟨[.old 4], _, [], [], [116]⟩, ⟨[.op 0 0], _, [], [0], [117]⟩, ⟨[.op 1 0], _, [], [0, 1], [118]⟩, ⟨[.op 2 0, .old 4], _, [], [0, 1, 2], [119]⟩, ⟨[.op 2 0, .old 0], _, [], [0, 1, 2], [120]⟩, ⟨[.op 2 0, .op 3 0, .op 4 0], _, [], Lr 5, [121]⟩, ⟨[.op 2 0, .op 5 0], _, [], Lr 6, [122]⟩]) (F := [.old 0, .old 1, .old 2, .old 3, .old 4, .old 5, .old 6, .old 7, .old 8, .old 9, .op 6 0]) hst hb Za
                                 (o_p rfl (Zc rfl rfl u_0) <| o_p rfl (Zb6 rfl rfl u_0 c_i) <| o_p rfl (Zc rfl rfl u_0) <| o_g (g_f rfl rfl rfl (fun hG => Zc rfl rfl u_0)) <| o_g (g_f rfl rfl rfl (fun hG => Zc rfl rfl u_0)) <| o_g (g_f rfl rfl rfl (fun hG => Z7 rfl rfl (Opd.gd hG u_0) (Opd.gd hG u_1))) <| o_p rfl (Zbf rfl rfl u_0 (fun hz => (Opd.gd (bNF hz) u_1))) <| o_n) (by kernel_rfl) (fun a g hst hb => ?_)
                               refine wp_cond_split (hst.bool 10 rfl) (fun hc42 => ?_) (fun hc42 => ?_)
                               · replace H2 := Zp hc42 H2
                                 refine r_s (L := [(1, _), (7, _), (9, _), (11, _), (19, _), (20, _), (21, _), (51, _), (52, _), (53, _)]) (T := [⟨[.old 5], _, [], [], [123]⟩, ⟨[.op 0 0], _, [], [0], [124]⟩, ⟨[.op 1 0], _, [], [0, 1], [125]⟩, ⟨[.op 2 0, .old 6], _, [], [0, 1, 2], [126]⟩, ⟨[.op 2 0, .op 3 0], _, [], Lr 4, [127]⟩, ⟨[.op 2 0, .op 4 0], _, [], Lr 5, [128]⟩]) (F := [.old 0, .old 1, .old 2, .old 3, .old 4, .old 7, .old 8, .old 9, .op 5 0]) (hst.pick [0, 1, 2, 3, 4, 5, 6, 7, 8, 9] rfl) hb Za
                                   (o_p rfl (Zc rfl rfl u_0) <| o_p rfl (Zcp rfl rfl u_0 c_i) <| o_p rfl (Zc rfl rfl u_0) <| o_g (g_f rfl rfl rfl (fun hG => Zc rfl rfl u_0)) <| o_g (g_f rfl rfl rfl (fun hG => Zcp rfl rfl (Opd.gd hG u_0) c_i)) <| o_p rfl (Zbf rfl rfl u_0 (fun hz => (Opd.gd (bNF hz) u_1))) <| o_n) (by kernel_rfl) (fun a g hst hb => ?_)
                                 refine wp_cond_split (hst.bool 8 rfl) (fun hc43 => ?_) (fun hc43 => ?_)
                                 · replace H2 := Zp hc43 H2
                                   refine r_s (L := []) (T := [⟨[], _, [], [], [6]⟩]) (F := [.op 0 0]) (hst.pick [] rfl) hb Za
                                     (o_p rfl (Zb rfl rfl c_b) <| o_n) (by kernel_rfl) (fun a g hst hb => ?_)
                                   refine wp_ret ?_
                                   refine Zo ?_
                                   refine Zk ?_
                                   refine Zk ?_
                                   refine Zk ?_
                                   refine Zo ?_
                                   refine Zk ?_
                                   refine Zo ?_
                                   refine Zk ?_
                                   refine Zk ?_
                                   refine Zk ?_
                                   refine Zo ?_
                                   refine Zk ?_
                                   refine Zk ?_
                                   obtain rfl := Option.some.inj H2
                                   obtain rfl := Option.some.inj H1
                                   obtain rfl := Option.some.inj H0
                                   exact Zz rfl hst hb (Zh (s := 6)) (hst.at 0 rfl)
                                 · replace H2 := Zq hc43 H2
                                   refine wp_skip ?_
                                   refine Zbg ?_
                                   exact ⟨g, rfl, (hst.pick [0, 1, 2, 3, 4, 5, 6, 7] rfl), hb, H2⟩
                               · replace H2 := Zq hc42 H2
                                 obtain ⟨e44, h45, H2⟩ := Zj H2; obtain ⟨e46, h47, H2⟩ := Zj H2
                                 refine r_s (L := [(1, _), (7, _), (9, _), (11, _), (19, _), (20, _), (21, _), (51, _), (52, _), (53, _)]) (T := ⟨[.old 5], _, [], [], [129]⟩ :: ⟨[.old 2], _, [], [], [130]⟩ :: ⟨[.op 1 0], [(131, (pObj Zb7 36 r32.1))], [], [1], [131]⟩ :: ⟨[.op 2 0], _, [], [1, 2], [132]⟩ :: ⟨[.op 3 0], _, [], [1, 2, 3], [133]⟩ :: ⟨[.old 4], _, [], [], [134]⟩ :: ⟨[.op 4 0, .op 5 0], _, [], List.range' 1 5, [135]⟩ :: ⟨[.op 6 0], _, [], List.range' 1 6, [136]⟩ :: ⟨[.op 0 0, .op 7 0], _, [], Lr 8, [137]⟩ :: ⟨[.op 8 0], _, [], Lr 9, [138]⟩ :: ⟨[.op 9 0, .old 6], _, [], Lr 10, [139]⟩ :: ⟨[.op 9 0, .old 2], _, [], Lr 10, [140]⟩ :: ⟨[.op 9 0, .op 11 0], [(141, (pIf (!(r40.1 != e44)) (pObj Zb7 36 r32.1)))], [], [0, 1, 2, 3, 4, 5, 6, 7, 8, 9, 11], [141]⟩ :: ⟨[.op 9 0, .op 12 0], _, [], 0 :: 1 :: 2 :: 3 :: 4 :: 5 :: 6 :: 7 :: 8 :: 9 :: 11 :: 12 :: [], [142]⟩ :: ⟨[.op 9 0, .op 13 0], _, [], 0 :: 1 :: 2 :: 3 :: 4 :: 5 :: 6 :: 7 :: 8 :: 9 :: 11 :: 12 :: 13 :: [], [143]⟩ :: ⟨[.op 9 0, .old 4], _, [], Lr 10, [144]⟩ :: ⟨[.op 9 0, .op 14 0, .op 15 0], _, [], 0 :: 1 :: 2 :: 3 :: 4 :: 5 :: 6 :: 7 :: 8 :: 9 :: 11 :: 12 :: 13 :: 14 :: 15 :: [], [145]⟩ :: ⟨[.op 9 0, .op 16 0], _, [], 0 :: 1 :: 2 :: 3 :: 4 :: 5 :: 6 :: 7 :: 8 :: 9 :: 11 :: 12 :: 13 :: 14 :: 15 :: 16 :: [], [146]⟩ :: ⟨[.op 9 0, .op 10 0, .op 17 0], _, [], Lr 18, [147]⟩ :: ⟨[.op 9 0, .op 18 0], _, [], Lr 19, [148]⟩ :: []) (F := [.old 0, .old 1, .old 2, .old 3, .old 4, .old 7, .old 8, .old 9, .op 19 0]) (hst.pick [0, 1, 2, 3, 4, 5, 6, 7, 8, 9] rfl) hb Za
                                   (o_p rfl (Zc rfl rfl u_0) <| o_p rfl (Zc rfl rfl u_0) <| o_p rfl (Z4 rfl rfl (Opd.imp u_0 (fun _ _ h => Zc7 rfl h)) (fun _ _ ⟨_, _, e, _⟩ => ⟨_, e⟩)) <| o_p rfl (Zps Zmf (off := 8) (by kernel_rfl) rfl rfl u_0) <| o_p rfl (Zqv Zk6 Zkr rfl rfl u_0) <| o_p rfl (Zc rfl rfl u_0) <| o_p rfl (Zpf (l := r32.1.Up) (fun _ _ _ _ h => h.a1) Tryd.underlying67 Zn7 rfl rfl u_0 u_1 h45) <| o_p rfl (Zq9 Ze5 rfl rfl u_0) <| o_p rfl (Zcp rfl rfl u_0 u_1) <| o_p rfl (Zc rfl rfl u_0) <| o_g (g_f rfl rfl rfl (fun hG => Zc rfl rfl u_0)) <| o_g (g_f rfl rfl rfl (fun hG => Zc rfl rfl u_0)) <| o_g (g_f rfl rfl rfl (fun hG => Z4 rfl rfl (Opd.imp (Opd.gd hG u_0) (fun _ _ h => Zc7 rfl h)) (fun _ _ ⟨_, _, e, _⟩ => ⟨_, e⟩))) <| o_g (g_f rfl rfl rfl (fun hG => Zps Zo9 (off := 9) (by kernel_rfl) rfl rfl (Opd.gd hG u_0))) <| o_g (g_f rfl rfl rfl (fun hG => Zqv Zk8 Zkr rfl rfl (Opd.gd hG u_0))) <| o_g (g_f rfl rfl rfl (fun hG => Zc rfl rfl u_0)) <| o_g (g_f rfl rfl rfl (fun hG => Zpf (l := r32.1.Down) (fun _ _ _ _ h => h.a2) Tryd.underlying67 Zn7 rfl rfl (Opd.gd hG u_0) (Opd.gd hG u_1) (Zbs h47 hG))) <| o_g (g_f rfl rfl rfl (fun hG => Zq9 Ze5 rfl rfl (Opd.gd hG u_0))) <| o_g (g_f rfl rfl rfl (fun hG => Zcp rfl rfl (Opd.gd hG u_0) (Opd.gd hG u_1))) <| o_p rfl (Zbf rfl rfl u_0 (fun hz => (Opd.gd (bNF hz) u_1))) <| o_n) (by kernel_rfl) (fun a g hst hb => ?_)
                                 refine wp_cond_split (hst.bool 8 rfl) (fun hc48 => ?_) (fun hc48 => ?_)
                                 · replace H2 := Zp hc48 H2
                                   refine r_s (L := []) (T := [⟨[], _, [], [], [6]⟩]) (F := [.op 0 0]) (hst.pick [] rfl) hb Za
                                     (o_p rfl (Zb rfl rfl c_b) <| o_n) (by kernel_rfl) (fun a g hst hb => ?_)
                                   refine wp_ret ?_
                                   refine Zo ?_
                                   refine Zk ?_
                                   refine Zk ?_
                                   refine Zk ?_
                                   refine Zo ?_
                                   refine Zk ?_
                                   refine Zo ?_
                                   refine Zk ?_
                                   refine Zk ?_
                                   refine Zk ?_
                                   refine Zo ?_
                                   refine Zk ?_
                                   refine Zk ?_
                                   obtain rfl := Option.some.inj H2
                                   obtain rfl := Option.some.inj H1
                                   obtain rfl := Option.some.inj H0
                                   exact Zz rfl hst hb (Zh (s := 6)) (hst.at 0 rfl)
                                 · replace H2 := Zq hc48 H2
                                   refine wp_skip ?_
                                   refine Zbg ?_
                                   exact ⟨g, rfl, (hst.pick [0, 1, 2, 3, 4, 5, 6, 7] rfl), hb, H2⟩
                           · replace H2 := Zq hc39 H2
                             refine wp_exit ?_
                             refine Zb9 ?_
                             refine Zb9 ?_
                             refine Zcy ?_
                             exact ⟨g, rfl, (hst.pick [0, 1, 2, 3, 5, 6, 7] rfl), hb, Option.some.inj H2⟩
             · replace H1 := Zq hc17 H1
               refine wp_exit ?_
               refine Zb9 ?_
               refine Zb9 ?_
               refine Zcy ?_
               exact ⟨g, rfl, (hst.pick [] rfl), hb, Option.some.inj H1⟩
end Go.CL
namespace Go.CL
open Go
inductive shelf_nodeT where
 | nil
 | node (key : ByteArray) (rec_ : Ze) (left : shelf_nodeT) (right : shelf_nodeT) (size : Int)
 deriving Inhabited
structure shelf_node where
 key : ByteArray
 rec_ : Ze
 left : shelf_nodeT
 right : shelf_nodeT
 size : Int
 deriving Inhabited
def shelf_node.up (x : shelf_node) : shelf_nodeT := .node x.key x.rec_ x.left x.right x.size
def shelf_nodeT.hh : shelf_nodeT → Nat
 | .nil => 0
 | .node x0 x1 x2 x3 x4 => max x2.hh x3.hh + 1
def NANB : Nat := 9221120237041090561
def keyf (b : Nat) : Int := if isn b then 18444492273895866369 else if TOP ≤ b then 18446744073709551615 - b else b + 9223372036854775808
def Zc5 (b : Nat) : Nat := if isn b then NANB else b
theorem Zqy {b : Nat} (hb : b < 18446744073709551616) : fneq b b = decide (isn b) := by
 unfold fneq
 show (Ieee.double.order b b != some .eq) = _
 by_cases h : isn b
 · rw [Zq0 (.inl h)]; simp [h]
 · obtain ⟨o, ho, _, he⟩ := Zmg hb hb h h
   rw [ho, he.2 rfl]; simp [h]
theorem Zr9 {b : Nat} (hb : b < 18446744073709551616) : Zee b = some (Zc5 b) := by
 unfold Zee Zc5
 rw [Zqy hb]
 by_cases h : isn b
 · simp [h, Ziw, NANB]
 · simp [h]
theorem Zyx {b : Nat} (hb : b < 18446744073709551616) : (bAnd .u64 (b : Int) 9223372036854775808 != 0) = decide (TOP ≤ b) := by
 have h1 : (BitVec.ofInt 64 (b : Int) &&& BitVec.ofInt 64 9223372036854775808).toNat = b &&& 9223372036854775808 := by
   rw [BitVec.toNat_and]
   have e1 : (BitVec.ofInt 64 (b : Int)).toNat = b := by
     rw [show BitVec.ofInt 64 (b : Int) = BitVec.ofNat 64 b from rfl]
     simp; omega
   rw [e1]; rfl
 have h2 : b &&& 9223372036854775808 = (b.testBit 63).toNat * 9223372036854775808 := by
   apply Nat.eq_of_testBit_eq
   intro i
   rw [Nat.testBit_and, show (9223372036854775808 : Nat) = 2 ^ 63 from rfl, Nat.testBit_two_pow]
   by_cases hi : 63 = i
   · subst hi
     cases b.testBit 63
     · simp
     · rw [Bool.toNat_true, Nat.one_mul, Nat.testBit_two_pow]; simp
   · cases b.testBit 63
     · simp [hi]
     · rw [Bool.toNat_true, Nat.one_mul, Nat.testBit_two_pow]; simp [hi]
 have h3 : b.testBit 63 = decide (TOP ≤ b) := by
   rw [Nat.testBit_eq_decide_div_mod_eq]
   unfold TOP
   by_cases h : 9223372036854775808 ≤ b
   · have : b / 2 ^ 63 % 2 = 1 := by omega
     simp [this, h]
   · have : b / 2 ^ 63 % 2 = 0 := by omega
     simp [this, h]
 unfold bAnd
 show (IntKind.wrap .u64 ((BitVec.ofInt 64 (b : Int) &&& BitVec.ofInt 64 9223372036854775808).toNat : Int) != 0) = _
 rw [h1, h2, h3]
 by_cases h : TOP ≤ b
 · simp only [h, decide_true, Bool.toNat_true, Nat.one_mul]
   rfl
 · simp only [h, decide_false, Bool.toNat_false, Nat.zero_mul]
   rfl
theorem Zzf {b : Nat} (hb : b < 18446744073709551616) : bXor .u64 IntKind.u64.max (b : Int) = 18446744073709551615 - b := by
 have h1 : (BitVec.ofInt 64 18446744073709551615 ^^^ BitVec.ofInt 64 (b : Int)).toNat = 18446744073709551615 - b := by
   have e1 : BitVec.ofInt 64 18446744073709551615 = BitVec.allOnes 64 := by decide
   rw [e1, BitVec.allOnes_xor, BitVec.toNat_not]
   have e2 : (BitVec.ofInt 64 (b : Int)).toNat = b := by
     rw [show BitVec.ofInt 64 (b : Int) = BitVec.ofNat 64 b from rfl]
     simp; omega
   rw [e2]
 unfold bXor
 show IntKind.wrap .u64 ((BitVec.ofInt 64 18446744073709551615 ^^^ BitVec.ofInt 64 (b : Int)).toNat : Int) = _
 rw [h1]
 simp [IntKind.wrap, IntKind.signed, IntKind.bits]
 omega
theorem Z1m {b : Nat} (hb : b < 9223372036854775808) : bOr .u64 (b : Int) 9223372036854775808 = b + 9223372036854775808 := by
 have h1 : (BitVec.ofInt 64 (b : Int) ||| BitVec.ofInt 64 9223372036854775808).toNat = b + 9223372036854775808 := by
   rw [BitVec.toNat_or]
   have e1 : (BitVec.ofInt 64 (b : Int)).toNat = b := by
     rw [show BitVec.ofInt 64 (b : Int) = BitVec.ofNat 64 b from rfl]
     simp; omega
   rw [e1, show (BitVec.ofInt 64 9223372036854775808).toNat = 2 ^ 63 * 1 from rfl, Nat.or_comm]
   rw [← Nat.two_pow_add_eq_or_of_lt (by simpa using hb)]
   omega
 unfold bOr
 show IntKind.wrap .u64 ((BitVec.ofInt 64 (b : Int) ||| BitVec.ofInt 64 9223372036854775808).toNat : Int) = _
 rw [h1]
 simp [IntKind.wrap, IntKind.signed, IntKind.bits]
 omega
theorem Zxx {b : Nat} (hb : b < 18446744073709551616) : Zc5 b < 18446744073709551616 := by
 unfold Zc5 NANB; split <;> omega
theorem Zpq {b : Nat} (hb : b < 18446744073709551616) : Zi1 b = some (keyf b) := by
 unfold Zi1
 rw [Zr9 hb]
 simp only [Option.bind_some]
 rw [Zyx (Zxx hb)]
 unfold keyf Zc5
 by_cases h : isn b
 · simp only [h, if_true]
   rfl
 · simp only [h, if_false]
   by_cases ht : TOP ≤ b
   · simp only [ht, decide_true, if_true]
     rw [Zzf hb]
   · simp only [ht, decide_false, if_false, Bool.false_eq_true]
     rw [Z1m (by unfold TOP at ht; omega)]
theorem Zkl {a b : Nat} (ha : a < 18446744073709551616) (hb : b < 18446744073709551616) : Zg1 a b = some (decide (keyf a = keyf b)) := by
 unfold Zg1
 rw [Zpq ha, Zpq hb]
 simp [BEq.beq]
theorem Zy2 {a b : Nat} (ha : a < 18446744073709551616) (hb : b < 18446744073709551616) : Ziv a b = some (decide (keyf a < keyf b)) := by
 unfold Ziv
 rw [Zpq ha, Zpq hb]
 simp
theorem Znp {a : Nat} (ha : a < 18446744073709551616) : Zhm a = some (decide (a = Zc5 a)) := by
 unfold Zhm
 rw [Zr9 ha]
 congr 1
 by_cases h : a = Zc5 a
 · simp [← h]
 · have : (a : Int) ≠ (Zc5 a : Int) := by omega
   simp [h, this]
theorem Zud {a b : Nat} (ha : a < 18446744073709551616) (hb : b < 18446744073709551616) (na : ¬ isn a) (nb : ¬ isn b) : keyf a < keyf b ↔ (sg a < sg b ∨ (a = TOP ∧ b = 0)) := by
 unfold keyf
 rw [if_neg na, if_neg nb]
 unfold sg isn rg INF TOP at *
 split <;> split <;> omega
theorem Zt5 {a b : Nat} (ha : a < 18446744073709551616) (hb : b < 18446744073709551616) (na : ¬ isn a) (nb : ¬ isn b) : feql a b = decide (sg a = sg b) := by
 unfold feql
 show (Ieee.double.order a b == some .eq) = _
 obtain ⟨o, ho, _, he⟩ := Zmg ha hb na nb
 rw [ho]
 by_cases h : sg a = sg b
 · rw [he.2 h]; simp [h]
 · have : o ≠ .eq := fun h' => h (he.1 h')
   simp [h, this]
theorem Zy0 {a b : Nat} (ha : a < 18446744073709551616) (hb : b < 18446744073709551616) (na : ¬ isn a) (nb : ¬ isn b) : flss a b = decide (sg a < sg b) := by
 unfold flss
 show (Ieee.double.order a b == some .lt) = _
 obtain ⟨o, ho, hl, _⟩ := Zmg ha hb na nb
 rw [ho]
 by_cases h : sg a < sg b
 · rw [hl.2 h]; simp [h]
 · have : o ≠ .lt := fun h' => h (hl.1 h')
   simp [h, this]
theorem Z0n : Zez 0 = some false := by kernel_rfl
theorem Z0i : Zez TOP = some true := by kernel_rfl
theorem nan0 : ¬ isn 0 := by decide
theorem Zuh {a : Nat} (ha : a < 18446744073709551616) : sg a = sg 0 ↔ a = 0 ∨ a = TOP := by
 unfold sg TOP
 split <;> simp <;> omega
theorem Zo2 {a : Nat} (ha : a < 18446744073709551616) : Zej a = some (decide (isn a)) := by
 unfold Zej; rw [Zqy ha]
theorem Zo6 {a b : Nat} (ha : a < 18446744073709551616) (hb : b < 18446744073709551616) : Zei a b = some (decide (keyf a < keyf b)) := by
 unfold Zei
 rw [Zo2 ha, Zo2 hb]
 simp only [Option.bind_some]
 have kb : ∀ x, x < 18446744073709551616 → ¬ isn x → keyf x < 18444492273895866369 := by
   intro x hx nx
   unfold keyf
   rw [if_neg nx]
   unfold isn rg INF TOP at *
   split <;> omega
 have kn : ∀ x, isn x → keyf x = 18444492273895866369 := fun x h => by unfold keyf; rw [if_pos h]
 by_cases na : isn a
 · simp only [na, decide_true, if_true]
   by_cases nb : isn b
   · rw [kn a na, kn b nb]; simp
   · have := kb b hb nb
     rw [kn a na]; simp; omega
 · simp only [na, decide_false, Bool.false_eq_true, if_false]
   by_cases nb : isn b
   · have := kb a ha na
     rw [kn b nb]; simp [nb, this]
   · simp only [nb, decide_false, Bool.false_eq_true, if_false]
     rw [Zt5 ha (by decide) na nan0, Zt5 hb (by decide) nb nan0, Zy0 ha hb na nb]
     by_cases hz : sg a = sg 0 ∧ sg b = sg 0
     · rw [if_pos (by simp [hz])]
       have hk := Zud ha hb na nb
       have h0T : (0 : Nat) ≠ TOP := by decide
       rcases (Zuh ha).1 hz.1 with rfl | rfl <;> rcases (Zuh hb).1 hz.2 with rfl | rfl <;> simp only [Z0n, Z0i, gd, Option.bind_some, if_true, if_false, Bool.false_eq_true, Option.some.injEq] <;> decide
     · rw [if_neg (by simpa using hz)]
       have hk := Zud ha hb na nb
       congr 1
       apply decide_eq_decide.2
       rw [hk]
       constructor
       · intro h; exact .inl h
       · rintro (h | ⟨rfl, rfl⟩)
         · exact h
         · exact absurd ⟨rfl, rfl⟩ hz
theorem Zk1 {a b : Nat} (ha : a < 18446744073709551616) (hb : b < 18446744073709551616) : Zdx a b = some (decide (keyf a = keyf b)) := by
 unfold Zdx
 rw [Zo6 ha hb, Zo6 hb ha]
 simp only [Option.bind_some, gd]
 by_cases h1 : keyf a < keyf b
 · have : keyf a ≠ keyf b := by omega
   simp [h1, this]
 · by_cases h2 : keyf b < keyf a
   · have : keyf a ≠ keyf b := by omega
     simp [h1, h2, this]
   · have : keyf a = keyf b := by omega
     simp [this]
theorem Zme {a : Nat} (ha : a < 18446744073709551616) : Zd8 a = some (decide (a = Zc5 a)) := by
 unfold Zd8
 rw [Zo2 ha]
 unfold Zc5 NANB
 by_cases h : isn a
 · by_cases h2 : a = 9221120237041090561
   · simp [h, h2]
   · have : (a : Int) ≠ 9221120237041090561 := by omega
     simp [h, h2, this]
 · simp [h]
theorem wr {x : Int} (h1 : -9223372036854775808 ≤ x) (h2 : x ≤ 9223372036854775807) : IntKind.i64.wrap x = x := by
 rw [IntKind.wrap_i64]; omega
theorem wr1 {i : Nat} (h : i < 9223372036854775807) : IntKind.i64.wrap ((i : Int) + 1) = ((i + 1 : Nat) : Int) := by
 rw [wr (by omega) (by omega)]; omega
theorem Zml (n : Int) : IntKind.u64.wrap n = n % 18446744073709551616 := by simp [IntKind.wrap, IntKind.bits, IntKind.signed]
theorem wrm {i : Nat} (h : i < 9223372036854775807) (h0 : 0 < i) : IntKind.i64.wrap ((i : Int) - 1) = ((i - 1 : Nat) : Int) := by
 rw [wr (by omega) (by omega)]; omega
theorem idxn {α : Type} (xs : List α) (i : Nat) : idx xs (i : Int) = xs[i]? := by
 unfold idx
 rw [if_pos (by omega)]
 simp
theorem Ze7 {α : Type} {xs : List α} {i : Nat} (h : i < xs.length) : idx xs (i : Int) = some xs[i] := by
 rw [idxn, List.getElem?_eq_getElem h]
theorem gd_t {β : Type} [Inhabited β] (x : Option β) : gd true x = x := rfl
theorem gd_f {β : Type} [Inhabited β] (x : Option β) : gd false x = some default := rfl
theorem Zu2 {a b : ByteArray} (h : a.toList = b.toList) : a = b := by
 rw [_root_.Go.ByteArray.toList_eq, _root_.Go.ByteArray.toList_eq] at h
 exact ByteArray.ext (Array.toList_inj.1 h)
theorem Zn9 {a b : ByteArray} : sEq a b = true ↔ a = b := by
 unfold sEq
 constructor
 · intro h; exact Zu2 (by simpa using h)
 · rintro rfl; simp
theorem Zxj (a : ByteArray) : sEq a a = true := Zn9.2 rfl
theorem Z1f {a b : ByteArray} : sEq a b = false ↔ a ≠ b := by
 cases h : sEq a b
 · simp; intro e; rw [Zn9.2 e] at h; cases h
 · simp; exact Zn9.1 h
abbrev W64 : Nat := 18446744073709551616
structure Zg8 (a : Ze) : Prop where
 real : a.Real < W64
 len : a.List.length < 4611686018427387904
 sc : ∀ e ∈ a.List, e.Score < W64
def Zjf (a b : Zm) : Bool := if keyf a.Score = keyf b.Score then sLt a.Name b.Name else decide (keyf b.Score < keyf a.Score)
theorem Zwm {a b : Zm} (ha : a.Score < W64) (hb : b.Score < W64) : Zhk a b = some (Zjf a b) := by
 unfold Zhk Zjf
 rw [Zkl ha hb, Zy2 hb ha]
 by_cases h : keyf a.Score = keyf b.Score <;> simp [h]
theorem Zxi {a b : Zm} (ha : a.Score < W64) (hb : b.Score < W64) : Zfy a b = some (Zjf a b) := by
 unfold Zfy Zjf
 rw [Zo6 hb ha, Zk1 ha hb]
 by_cases h : keyf a.Score = keyf b.Score
 · simp [h]
 · by_cases h2 : keyf b.Score < keyf a.Score <;> simp [h, h2]
theorem Zt8 {a : Nat} (ha : a < W64) : Zfe a = some (decide (keyf a = keyf 0)) := by
 unfold Zfe
 rw [Zk1 ha (by decide)]
 rfl
def Zg9 (k : Int) (l : List Zm) (i : Nat) : Int :=
 match l[i]? with
 | none => 0
 | some x =>
   let p := (l[i - 1]?).getD default
   if (16 : Int) < x.Name.size then 3
   else if (k = 8 ∧ keyf x.Score ≠ keyf 0) ∨ x.Score ≠ Zc5 x.Score then 4
   else if 0 < i ∧ k = 8 ∧ sLt p.Name x.Name = false then 4
   else if 0 < i ∧ k = 9 ∧ Zjf p x = false then 4
   else 0
theorem Zv8 {k : Int} {l : List Zm} {i n : Nat} (hi : i < l.length) (hl : l.length < 4611686018427387904) (hs : ∀ e ∈ l, e.Score < W64) :
   Zeh k l (n + 1) (i : Int) = if Zg9 k l i = 0 then Zeh k l n ((i + 1 : Nat) : Int) else some (.inl (Zg9 k l i)) := by
 have hx : l[i].Score < W64 := hs _ (List.getElem_mem hi)
 rw [Zeh, if_pos (by simp; omega), Ze7 hi, wr1 (by omega)]
 simp only [Option.bind_some]
 rw [Zkl hx (by decide), Znp hx]
 simp only [Zg9, List.getElem?_eq_getElem hi]
 by_cases h1 : (16 : Int) < l[i].Name.size
 · simp [h1]
 · simp only [h1, decide_false, if_false, Bool.false_eq_true]
   have hz : ((0 : Nat) : Int) = 0 := rfl
   by_cases h0 : 0 < i
   · have hp : i - 1 < l.length := by omega
     have hps : l[i - 1].Score < W64 := hs _ (List.getElem_mem hp)
     have hd : (decide ((0 : Int) < (i : Int))) = true := by simp; omega
     rw [hd, wrm (by omega) h0, Ze7 hp]
     simp only [List.getElem?_eq_getElem hp, Option.getD_some, h0, true_and, Bool.true_and]
     by_cases h8 : k = 8
     · subst h8
       simp only [beq_self_eq_true, gd_t, Option.bind_some, true_and, Bool.true_and]
       by_cases hk : keyf l[i].Score = keyf 0
       · by_cases hc : l[i].Score = Zc5 l[i].Score
         · simp [hk, ← hc, gd]
           cases sLt l[i - 1].Name l[i].Name <;> simp
         · simp [hk, hc, gd]
       · simp [hk, gd]
     · have h8' : (k == 8) = false := by simpa using h8
       simp only [h8', h8, gd_f, gd_t, Option.bind_some, false_and, false_or, Bool.false_and, Bool.not_false, Bool.false_or]
       by_cases hc : l[i].Score = Zc5 l[i].Score
       · by_cases h9 : k = 9
         · subst h9
           simp [← hc, gd, Zwm hps hx]
           cases Zjf l[i - 1] l[i] <;> simp
         · simp [← hc, gd, h9]
       · simp [hc]
   · have h00 : i = 0 := by omega
     subst h00
     simp only [Nat.lt_irrefl, false_and, if_false, Int.ofNat_zero, Int.lt_irrefl, decide_false, Bool.false_and, gd_f, Option.bind_some, Int.natCast_zero]
     by_cases h8 : k = 8
     · subst h8
       simp only [beq_self_eq_true, gd_t, Option.bind_some, true_and, Bool.true_and]
       by_cases hk : keyf l[0].Score = keyf 0
       · by_cases hc : l[0].Score = Zc5 l[0].Score
         · simp [hk, ← hc, gd]
         · simp [hk, hc, gd]
       · simp [hk, gd]
     · have h8' : (k == 8) = false := by simpa using h8
       simp only [h8', h8, gd_f, gd_t, Option.bind_some, false_and, false_or, Bool.false_and, Bool.not_false, Bool.false_or]
       by_cases hc : l[0].Score = Zc5 l[0].Score
       · simp [← hc, gd]
       · simp [hc]
theorem Zxs {k : Int} {l : List Zm} {i : Nat} (hi : i < l.length) (hl : l.length < 4611686018427387904) (hs : ∀ e ∈ l, e.Score < W64) : Zgb k l (i : Int) = some (Zg9 k l i) := by
 have hx : l[i].Score < W64 := hs _ (List.getElem_mem hi)
 unfold Zgb
 rw [Ze7 hi]
 simp only [Option.bind_some]
 rw [Zt8 hx, Zme hx]
 simp only [Zg9, List.getElem?_eq_getElem hi]
 by_cases h1 : (16 : Int) < l[i].Name.size
 · simp [h1]
 · simp only [h1, decide_false, if_false, Bool.false_eq_true]
   by_cases h0 : 0 < i
   · have hp : i - 1 < l.length := by omega
     have hps : l[i - 1].Score < W64 := hs _ (List.getElem_mem hp)
     have hd : (decide ((0 : Int) < (i : Int))) = true := by simp; omega
     rw [hd, wrm (by omega) h0, Ze7 hp]
     simp only [List.getElem?_eq_getElem hp, Option.getD_some, h0, true_and, Bool.true_and]
     by_cases h8 : k = 8
     · subst h8
       simp only [beq_self_eq_true, gd_t, Option.bind_some, true_and, Bool.true_and]
       by_cases hk : keyf l[i].Score = keyf 0
       · by_cases hc : l[i].Score = Zc5 l[i].Score
         · simp [hk, ← hc, gd]
           cases sLt l[i - 1].Name l[i].Name <;> simp
         · simp [hk, hc, gd]
       · simp [hk, gd]
     · have h8' : (k == 8) = false := by simpa using h8
       simp only [h8', h8, gd_f, gd_t, Option.bind_some, false_and, false_or, Bool.false_and, Bool.not_false, Bool.false_or]
       by_cases hc : l[i].Score = Zc5 l[i].Score
       · by_cases h9 : k = 9
         · subst h9
           simp [← hc, gd, Zxi hps hx]
           cases Zjf l[i - 1] l[i] <;> simp
         · simp [← hc, gd, h9]
       · simp [hc]
   · have h00 : i = 0 := by omega
     subst h00
     simp only [Nat.lt_irrefl, false_and, if_false, Int.ofNat_zero, Int.lt_irrefl, decide_false, Bool.false_and, gd_f, Option.bind_some, Int.natCast_zero]
     by_cases h8 : k = 8
     · subst h8
       simp only [beq_self_eq_true, gd_t, Option.bind_some, true_and, Bool.true_and]
       by_cases hk : keyf l[0].Score = keyf 0
       · by_cases hc : l[0].Score = Zc5 l[0].Score
         · simp [hk, ← hc, gd]
         · simp [hk, hc, gd]
       · simp [hk, gd]
     · have h8' : (k == 8) = false := by simpa using h8
       simp only [h8', h8, gd_f, gd_t, Option.bind_some, false_and, false_or, Bool.false_and, Bool.not_false, Bool.false_or]
       by_cases hc : l[0].Score = Zc5 l[0].Score
       · simp [← hc, gd]
       · simp [hc]
def Zgq (k : Int) (l : List Zm) : Nat → Nat → Int
 | _, 0 => 0
 | i, n + 1 => if Zg9 k l i = 0 then Zgq k l (i + 1) n else Zg9 k l i
def endC (c : Int) : Int ⊕ Unit := if c = 0 then .inr () else .inl c
theorem Zpa {k : Int} {l : List Zm} {i n : Nat} (h : Zg9 k l i = 0) : Zgq k l i (n + 1) = Zgq k l (i + 1) n := by simp [Zgq, h]
theorem Zo7 {k : Int} {l : List Zm} {i n : Nat} (h : ¬ Zg9 k l i = 0) : Zgq k l i (n + 1) = Zg9 k l i := by simp [Zgq, h]
theorem Zvk {c : Int} (h : ¬ c = 0) : endC c = .inl c := if_neg h
theorem Zp3 {k : Int} {l : List Zm} (hl : l.length < 4611686018427387904) (hs : ∀ e ∈ l, e.Score < W64) : ∀ (n i : Nat), i + n = l.length →
   Zeh k l (n + 1) (i : Int) = some (endC (Zgq k l i n))
 | 0, i, h => by
   rw [Zeh, if_neg (by simp; omega)]
   rfl
 | n + 1, i, h => by
   rw [Zv8 (by omega) hl hs]
   by_cases hc : Zg9 k l i = 0
   · rw [if_pos hc, Zpa hc, Zp3 hl hs n (i + 1) (by omega)]
   · rw [if_neg hc, Zo7 hc, Zvk hc]
theorem Zxn {k : Int} {l : List Zm} (hl : l.length < 4611686018427387904) (hs : ∀ e ∈ l, e.Score < W64) : Zjv k l = some (Zgq k l 0 l.length) := by
 unfold Zjv
 rw [show (Int.toNat ((l.length : Int) - (0 : Int)) + 1) = l.length + 1 by omega, show (0 : Int) = ((0 : Nat) : Int) from rfl, Zp3 hl hs l.length 0 (by omega)]
 unfold endC
 by_cases h : Zgq k l 0 l.length = 0 <;> simp [h]
theorem Zou {a : Ze} (ha : Zg8 a) : ∀ (n i : Nat), i + n = a.List.length →
   Zdf a (n + 1) (i : Int) = some (endC (Zgq a.Kind a.List i n))
 | 0, i, h => by
   rw [Zdf, if_neg (by simp; omega)]
   rfl
 | n + 1, i, h => by
   have hl := ha.len
   rw [Zdf, if_pos (by simp; omega), Zxs (by omega) hl ha.sc, wr1 (by omega)]
   simp only [Option.bind_some]
   by_cases hc : Zg9 a.Kind a.List i = 0
   · rw [if_neg (by simp [hc]), Zpa hc, Zou ha n (i + 1) (by omega)]
   · rw [if_pos (by simp [hc]), Zo7 hc, Zvk hc]
def Zg6 (t n b r l : Bool) (a : Ze) : Bool := (t || sEq a.Text ⟨#[]⟩) && (n || a.Num == 0) && (b || (a.Low == 0 && a.High == 0)) && (r || decide (keyf a.Real = keyf 0)) && (l || (a.Cap == 0 && (a.List.length : Int) == 0))
theorem Zy4 {a : Ze} (ha : Zg8 a) (t n b r l : Bool) : Zkz a ⟨t, n, b, r, l⟩ = some (Zg6 t n b r l a) := by
 unfold Zkz Zg6
 rw [Zkl ha.real (by decide)]
 simp only
 generalize sEq a.Text ⟨#[]⟩ = x1
 generalize (a.Num == 0) = x2
 generalize (a.Low == 0) = x3
 generalize (a.High == 0) = x4
 generalize decide (keyf a.Real = keyf 0) = x5
 generalize (a.Cap == 0) = x6
 generalize ((a.List.length : Int) == 0) = x7
 revert t n b r l x1 x2 x3 x4 x5 x6 x7
 decide
theorem Zzw {a : Ze} (ha : Zg8 a) {s : ByteArray} {t n b r l : Bool} (h : Zcn s (Int.toNat ((s.size : Int) - (0 : Int)) + 1) false false false false false 0 = some (t, n, b, r, l)) : Zge a s = some (Zg6 t n b r l a) := by
 unfold Zge Zg6
 rw [h, Zt8 ha.real]
 simp only [Option.bind_some, bne]
 generalize sEq a.Text ⟨#[]⟩ = x1
 generalize (a.Num == 0) = x2
 generalize (a.Low == 0) = x3
 generalize (a.High == 0) = x4
 generalize decide (keyf a.Real = keyf 0) = x5
 generalize (a.Cap == 0) = x6
 generalize ((a.List.length : Int) == 0) = x7
 clear h
 revert t n b r l x1 x2 x3 x4 x5 x6 x7
 decide
theorem Z1z : Zcn ⟨#[116]⟩ (Int.toNat (((⟨#[116]⟩ : ByteArray).size : Int) - (0 : Int)) + 1) false false false false false 0 = some (true, false, false, false, false) := by kernel_rfl
theorem Zye : Zcn ⟨#[110]⟩ (Int.toNat (((⟨#[110]⟩ : ByteArray).size : Int) - (0 : Int)) + 1) false false false false false 0 = some (false, true, false, false, false) := by kernel_rfl
theorem Z0v : Zcn ⟨#[110, 98]⟩ (Int.toNat (((⟨#[110, 98]⟩ : ByteArray).size : Int) - (0 : Int)) + 1) false false false false false 0 = some (false, true, true, false, false) := by kernel_rfl
theorem Zuq : Zcn ⟨#[114]⟩ (Int.toNat (((⟨#[114]⟩ : ByteArray).size : Int) - (0 : Int)) + 1) false false false false false 0 = some (false, false, false, true, false) := by kernel_rfl
theorem Zya : Zcn ⟨#[108]⟩ (Int.toNat (((⟨#[108]⟩ : ByteArray).size : Int) - (0 : Int)) + 1) false false false false false 0 = some (false, false, false, false, true) := by kernel_rfl
def Zlt (t n b r l : Bool) (a : Ze) : Int :=
 if Zg6 t n b r l a = false then 4
 else if (64 : Int) < a.Text.size then 3
 else if b = true ∧ (a.Low < -2305843009213693952 ∨ 2305843009213693952 < a.High ∨ a.Num < a.Low ∨ a.High < a.Num) then 1
 else if a.Real ≠ Zc5 a.Real then 4
 else if l = false then 0
 else if a.Cap < 1 ∨ 32 < a.Cap then 1
 else if a.Cap < a.List.length then 8
 else Zgq a.Kind a.List 0 a.List.length
theorem Zes {a : Ze} (ha : Zg8 a) {t n b r l : Bool} (hk : ¬ (a.Kind ≤ 0 ∨ 10 ≤ a.Kind)) (hs : Zdp a.Kind = some ⟨t, n, b, r, l⟩) : Zdu a = some (Zlt t n b r l a) := by
 unfold Zdu Zlt
 rw [hs]
 simp only [Option.bind_some]
 rw [Zy4 ha, Znp ha.real, Zxn ha.len ha.sc]
 simp only [Option.bind_some]
 rw [if_neg (by simpa using hk)]
 by_cases h1 : Zg6 t n b r l a = false
 · rw [if_pos h1, if_pos (by simp [h1])]
 · rw [if_neg h1, if_neg (by simpa using h1)]
   by_cases h2 : (64 : Int) < a.Text.size
   · rw [if_pos h2, if_pos (by simpa using h2)]
   · rw [if_neg h2, if_neg (by simpa using h2)]
     by_cases h3 : b = true ∧ (a.Low < -2305843009213693952 ∨ 2305843009213693952 < a.High ∨ a.Num < a.Low ∨ a.High < a.Num)
     · rw [if_pos h3, if_pos (by simpa [or_assoc] using h3)]
     · rw [if_neg h3, if_neg (by simpa [or_assoc] using h3)]
       by_cases h4 : a.Real = Zc5 a.Real
       · rw [if_neg (show ¬ (a.Real ≠ Zc5 a.Real) from fun h => h h4), decide_eq_true h4]
         simp only [Bool.not_true, Bool.false_eq_true, if_false]
         cases l
         · simp
         · simp only [Bool.not_true, Bool.false_eq_true, if_false, Bool.true_eq_false]
           by_cases h5 : a.Cap < 1 ∨ 32 < a.Cap
           · rw [if_pos h5, if_pos (by simpa using h5)]
           · rw [if_neg h5, if_neg (by simpa using h5)]
             by_cases h6 : a.Cap < a.List.length
             · rw [if_pos h6, if_pos (by simpa using h6)]
             · rw [if_neg h6, if_neg (by simpa using h6)]
       · rw [if_pos (show a.Real ≠ Zc5 a.Real from h4), decide_eq_false h4]
         rfl
theorem Zvv : Zdp 1 = some ⟨true, false, false, false, false⟩ := by kernel_rfl
theorem Zwt : Zdp 2 = some ⟨false, true, false, false, false⟩ := by kernel_rfl
theorem Zww : Zdp 3 = some ⟨false, true, false, false, false⟩ := by kernel_rfl
theorem Zvu : Zdp 4 = some ⟨false, true, true, false, false⟩ := by kernel_rfl
theorem Zwh : Zdp 5 = some ⟨false, false, false, true, false⟩ := by kernel_rfl
theorem Zwn : Zdp 6 = some ⟨false, false, false, true, false⟩ := by kernel_rfl
theorem Zvp : Zdp 7 = some ⟨false, false, false, true, false⟩ := by kernel_rfl
theorem Zvl : Zdp 8 = some ⟨false, false, false, false, true⟩ := by kernel_rfl
theorem Zwp : Zdp 9 = some ⟨false, false, false, false, true⟩ := by kernel_rfl
def Zoe (t n b r l : Bool) (k : Int) (a : Ze) : Int :=
 if Zg6 t n b r l a = false then 4
 else if k = 1 ∧ (64 : Int) < a.Text.size then 3
 else if k = 4 ∧ (a.Low < -2305843009213693952 ∨ 2305843009213693952 < a.High ∨ a.Num < a.Low ∨ a.High < a.Num) then 1
 else if a.Real ≠ Zc5 a.Real then 4
 else if k < 8 then 0
 else if a.Cap < 1 ∨ 32 < a.Cap then 1
 else if a.Cap < a.List.length then 8
 else Zgq a.Kind a.List 0 a.List.length
theorem Zey {a : Ze} (ha : Zg8 a) {t n b r l : Bool} {s : ByteArray} (hk : ¬ (a.Kind < 1 ∨ 9 < a.Kind)) (hf : Zgo a.Kind = some s)
   (ho : Zcn s (Int.toNat ((s.size : Int) - (0 : Int)) + 1) false false false false false 0 = some (t, n, b, r, l)) : Zc2 a = some (Zoe t n b r l a.Kind a) := by
 unfold Zc2 Zoe
 have hw : IntKind.i64.wrap (0 - (2305843009213693952 : Int)) = -2305843009213693952 := by decide
 rw [hf, Zme ha.real, hw, show (Int.toNat ((a.List.length : Int) - (0 : Int)) + 1) = a.List.length + 1 by omega]
 have hloop := Zou ha a.List.length 0 (by omega)
 rw [show ((0 : Nat) : Int) = 0 from rfl] at hloop
 rw [hloop]
 simp only [Option.bind_some]
 rw [if_neg (by simpa using hk), Zzw ha ho]
 simp only [Option.bind_some]
 by_cases h1 : Zg6 t n b r l a = false
 · rw [if_pos h1, if_pos (by simp [h1])]
 · rw [if_neg h1, if_neg (by simpa using h1)]
   by_cases h2 : a.Kind = 1 ∧ (64 : Int) < a.Text.size
   · rw [if_pos h2, if_pos (by simpa using h2)]
   · rw [if_neg h2, if_neg (by simpa using h2)]
     by_cases h3 : a.Kind = 4 ∧ (a.Low < -2305843009213693952 ∨ 2305843009213693952 < a.High ∨ a.Num < a.Low ∨ a.High < a.Num)
     · rw [if_pos h3, if_pos (by simpa [or_assoc] using h3)]
     · rw [if_neg h3, if_neg (by simpa [or_assoc] using h3)]
       by_cases h4 : a.Real = Zc5 a.Real
       · rw [if_neg (show ¬ (a.Real ≠ Zc5 a.Real) from fun h => h h4), decide_eq_true h4]
         simp only [Bool.not_true, Bool.false_eq_true, if_false]
         by_cases h7 : a.Kind < 8
         · rw [if_pos h7, if_pos (by simpa using h7)]
         · rw [if_neg h7, if_neg (by simpa using h7)]
           by_cases h5 : a.Cap < 1 ∨ 32 < a.Cap
           · rw [if_pos h5, if_pos (by simpa using h5)]
           · rw [if_neg h5, if_neg (by simpa using h5)]
             by_cases h6 : a.Cap < a.List.length
             · rw [if_pos h6, if_pos (by simpa using h6)]
             · rw [if_neg h6, if_neg (by simpa using h6)]
               unfold endC
               by_cases h : Zgq a.Kind a.List 0 a.List.length = 0 <;> simp [h]
       · rw [if_pos (show a.Real ≠ Zc5 a.Real from h4), decide_eq_false h4]
         rfl
theorem Zz6 {t n b r l : Bool} {a : Ze} (h : ¬ Zg6 t n b r l a = false) (ht : t = false) : a.Text.size = 0 := by
 subst ht
 have : Zg6 false n b r l a = true := by simpa using h
 unfold Zg6 at this
 simp only [Bool.false_or, Bool.and_eq_true] at this
 have := Zn9.1 this.1.1.1.1
 rw [this]; rfl
theorem D_eq (t n b r l : Bool) (k : Int) (a : Ze) (ht : t = true ↔ k = 1) (hb : b = true ↔ k = 4) (hl : l = false ↔ k < 8) : Zoe t n b r l k a = Zlt t n b r l a := by
 unfold Zoe Zlt
 by_cases h1 : Zg6 t n b r l a = false
 · rw [if_pos h1, if_pos h1]
 · rw [if_neg h1, if_neg h1]
   have e2 : (k = 1 ∧ (64 : Int) < a.Text.size) ↔ (64 : Int) < a.Text.size := by
     constructor
     · exact fun h => h.2
     · intro h
       refine ⟨ht.1 ?_, h⟩
       cases t
       · have := Zz6 h1 rfl; omega
       · rfl
   simp only [e2, hb, hl]
theorem Zkh {a : Ze} (ha : Zg8 a) : ∃ c, Zdu a = some c ∧ Zc2 a = some c := by
 by_cases hk : a.Kind ≤ 0 ∨ 10 ≤ a.Kind
 · refine ⟨5, ?_, ?_⟩
   · unfold Zdu
     have hs : ∃ s, Zdp a.Kind = some s := by
       have h1 : ¬ a.Kind = 1 := by omega
       have h2 : ¬ a.Kind = 2 := by omega
       have h3 : ¬ a.Kind = 3 := by omega
       have h4 : ¬ a.Kind = 4 := by omega
       have h5 : ¬ a.Kind = 5 := by omega
       have h6 : ¬ a.Kind = 6 := by omega
       have h7 : ¬ a.Kind = 7 := by omega
       have h8 : ¬ a.Kind = 8 := by omega
       have h9 : ¬ a.Kind = 9 := by omega
       exact ⟨⟨false, false, false, false, false⟩, by simp [Zdp, Zhv, Zgh, Zhq, h1, h2, h3, h4, h5, h6, h7, h8, h9]⟩
     obtain ⟨s, hs⟩ := hs
     rw [hs]
     simp only [Option.bind_some]
     rw [if_pos (by simpa using hk)]
   · unfold Zc2
     rw [if_pos (by simp; omega)]
 · have hk2 : ¬ (a.Kind < 1 ∨ 9 < a.Kind) := by omega
   have hk' : a.Kind = 1 ∨ a.Kind = 2 ∨ a.Kind = 3 ∨ a.Kind = 4 ∨ a.Kind = 5 ∨ a.Kind = 6 ∨ a.Kind = 7 ∨ a.Kind = 8 ∨ a.Kind = 9 := by omega
   rcases hk' with h | h | h | h | h | h | h | h | h
   · exact ⟨_, Zes ha hk (by rw [h]; exact Zvv), by rw [Zey ha hk2 (by rw [h]; kernel_rfl) Z1z, D_eq _ _ _ _ _ _ _ (by simp [h]) (by simp [h]) (by simp [h])]⟩
   · exact ⟨_, Zes ha hk (by rw [h]; exact Zwt), by rw [Zey ha hk2 (by rw [h]; kernel_rfl) Zye, D_eq _ _ _ _ _ _ _ (by simp [h]) (by simp [h]) (by simp [h])]⟩
   · exact ⟨_, Zes ha hk (by rw [h]; exact Zww), by rw [Zey ha hk2 (by rw [h]; kernel_rfl) Zye, D_eq _ _ _ _ _ _ _ (by simp [h]) (by simp [h]) (by simp [h])]⟩
   · exact ⟨_, Zes ha hk (by rw [h]; exact Zvu), by rw [Zey ha hk2 (by rw [h]; kernel_rfl) Z0v, D_eq _ _ _ _ _ _ _ (by simp [h]) (by simp [h]) (by simp [h])]⟩
   · exact ⟨_, Zes ha hk (by rw [h]; exact Zwh), by rw [Zey ha hk2 (by rw [h]; kernel_rfl) Zuq, D_eq _ _ _ _ _ _ _ (by simp [h]) (by simp [h]) (by simp [h])]⟩
   · exact ⟨_, Zes ha hk (by rw [h]; exact Zwn), by rw [Zey ha hk2 (by rw [h]; kernel_rfl) Zuq, D_eq _ _ _ _ _ _ _ (by simp [h]) (by simp [h]) (by simp [h])]⟩
   · exact ⟨_, Zes ha hk (by rw [h]; exact Zvp), by rw [Zey ha hk2 (by rw [h]; kernel_rfl) Zuq, D_eq _ _ _ _ _ _ _ (by simp [h]) (by simp [h]) (by simp [h])]⟩
   · exact ⟨_, Zes ha hk (by rw [h]; exact Zvl), by rw [Zey ha hk2 (by rw [h]; kernel_rfl) Zya, D_eq _ _ _ _ _ _ _ (by simp [h]) (by simp [h]) (by simp [h])]⟩
   · exact ⟨_, Zes ha hk (by rw [h]; exact Zwp), by rw [Zey ha hk2 (by rw [h]; kernel_rfl) Zya, D_eq _ _ _ _ _ _ _ (by simp [h]) (by simp [h]) (by simp [h])]⟩
def endB : Bool → Bool ⊕ Unit
 | true => .inr ()
 | false => .inl false
def eqI (x y : Zm) : Bool := sEq x.Name y.Name && decide (keyf x.Score = keyf y.Score)
def eqL : List Zm → List Zm → Bool
 | [], [] => true
 | x :: xs, y :: ys => eqI x y && eqL xs ys
 | _, _ => false
def Zla (a b : Ze) : Bool := (a.Kind == b.Kind) && (a.Num == b.Num) && (a.Low == b.Low) && (a.High == b.High) && decide (keyf a.Real = keyf b.Real) && (a.Cap == b.Cap) && sEq a.Text b.Text && eqL a.List b.List
theorem Zqf : ∀ {a b : List Zm}, eqL a b = true → a.length = b.length
 | [], [], _ => rfl
 | x :: xs, y :: ys, h => by
   simp only [eqL, Bool.and_eq_true] at h
   simp [Zqf h.2]
 | [], _ :: _, h => by simp [eqL] at h
 | _ :: _, [], h => by simp [eqL] at h
theorem Zxc {x y : Zm} (hx : x.Score < W64) (hy : y.Score < W64) : Zgx x y = some (eqI x y) := by
 unfold Zgx eqI
 rw [Zkl hx hy]
 cases sEq x.Name y.Name <;> simp [gd]
theorem Zsf {a b : List Zm} (ha : ∀ e ∈ a, e.Score < W64) (hb : ∀ e ∈ b, e.Score < W64) (hl : a.length < 4611686018427387904) (he : a.length = b.length) : ∀ (n i : Nat), i + n = a.length →
   Zbb a b (fun y0 y1 => Zgx y0 y1) (n + 1) (i : Int) = some (endB (eqL (a.drop i) (b.drop i)))
 | 0, i, h => by
   rw [Zbb, if_neg (by simp; omega), List.drop_of_length_le (by omega), List.drop_of_length_le (by omega)]
   rfl
 | n + 1, i, h => by
   have h1 : i < a.length := by omega
   have h2 : i < b.length := by omega
   rw [Zbb, if_pos (by simp; omega), Ze7 h1, Ze7 h2, wr1 (by omega)]
   simp only [Option.bind_some]
   rw [Zxc (ha _ (List.getElem_mem h1)) (hb _ (List.getElem_mem h2)), List.drop_eq_getElem_cons h1, List.drop_eq_getElem_cons h2]
   simp only [Option.bind_some, eqL]
   cases hq : eqI a[i] b[i]
   · simp [endB]
   · simp only [Bool.not_true, Bool.false_eq_true, if_false, Bool.true_and]
     exact Zsf ha hb hl he n (i + 1) (by omega)
theorem Z1n {a b : List Zm} (ha : ∀ e ∈ a, e.Score < W64) (hb : ∀ e ∈ b, e.Score < W64) (hl : a.length < 4611686018427387904) : Zbz a b (fun y0 y1 => Zgx y0 y1) = some (eqL a b) := by
 unfold Zbz
 by_cases he : a.length = b.length
 · rw [if_neg (by simp; omega), show (Int.toNat ((a.length : Int) - (0 : Int)) + 1) = a.length + 1 by omega]
   have := Zsf ha hb hl he a.length 0 (by omega)
   rw [show ((0 : Nat) : Int) = 0 from rfl] at this
   rw [this]
   simp only [List.drop_zero]
   cases eqL a b <;> simp [endB]
 · rw [if_pos (by simp; omega)]
   cases h : eqL a b
   · rfl
   · exact absurd (Zqf h) he
theorem Zw6 {a b : Ze} (ha : Zg8 a) (hb : Zg8 b) : Zkv a b = some (Zla a b) := by
 unfold Zkv Zla
 rw [Zkl ha.real hb.real, Z1n ha.sc hb.sc ha.len]
 generalize (a.Kind == b.Kind) = x1
 generalize (a.Num == b.Num) = x2
 generalize (a.Low == b.Low) = x3
 generalize (a.High == b.High) = x4
 generalize decide (keyf a.Real = keyf b.Real) = x5
 generalize (a.Cap == b.Cap) = x6
 generalize sEq a.Text b.Text = x7
 generalize eqL a.List b.List = x8
 revert x1 x2 x3 x4 x5 x6 x7 x8
 decide
theorem Zp4 {a b : Ze} (ha : Zg8 a) (hb : Zg8 b) (he : a.List.length = b.List.length) : ∀ (n i : Nat), i + n = a.List.length →
   Zdk a b (n + 1) (i : Int) = some (endB (eqL (a.List.drop i) (b.List.drop i)))
 | 0, i, h => by
   rw [Zdk, if_neg (by simp; omega), List.drop_of_length_le (by omega), List.drop_of_length_le (by omega)]
   rfl
 | n + 1, i, h => by
   have h1 : i < a.List.length := by omega
   have h2 : i < b.List.length := by omega
   have hl := ha.len
   have hs1 := ha.sc _ (List.getElem_mem h1)
   have hs2 := hb.sc _ (List.getElem_mem h2)
   rw [Zdk, if_pos (by simp; omega), Ze7 h1, Ze7 h2, wr1 (by omega), List.drop_eq_getElem_cons h1, List.drop_eq_getElem_cons h2]
   simp only [Option.bind_some, eqL, eqI]
   cases hn : sEq a.List[i].Name b.List[i].Name
   · simp [gd, endB]
   · simp only [Bool.not_true, Bool.not_false, gd_t, Option.bind_some]
     rw [Zk1 hs1 hs2]
     simp only [Option.bind_some, Bool.false_or, Bool.true_and]
     by_cases hk : keyf a.List[i].Score = keyf b.List[i].Score
     · simp only [hk, decide_true, Bool.not_true, Bool.false_eq_true, if_false, Bool.true_and]
       exact Zp4 ha hb he n (i + 1) (by omega)
     · simp [hk, endB]
theorem Zvw {a b : Ze} (ha : Zg8 a) (hb : Zg8 b) : Zgd a b = some (Zla a b) := by
 unfold Zgd Zla
 rw [Zk1 ha.real hb.real]
 by_cases he : a.List.length = b.List.length
 · have := Zp4 ha hb he a.List.length 0 (by omega)
   rw [show ((0 : Nat) : Int) = 0 from rfl] at this
   rw [show (Int.toNat ((a.List.length : Int) - (0 : Int)) + 1) = a.List.length + 1 by omega, this]
   have hn : ((a.List.length : Int) != (b.List.length : Int)) = false := by simp; omega
   rw [hn]
   simp only [List.drop_zero, bne]
   generalize (a.Kind == b.Kind) = x1
   generalize (a.Num == b.Num) = x2
   generalize (a.Low == b.Low) = x3
   generalize (a.High == b.High) = x4
   generalize decide (keyf a.Real = keyf b.Real) = x5
   generalize (a.Cap == b.Cap) = x6
   generalize sEq a.Text b.Text = x7
   generalize eqL a.List b.List = x8
   clear this hn he
   revert x1 x2 x3 x4 x5 x6 x7 x8
   decide
 · have h8 : eqL a.List b.List = false := by
     cases h : eqL a.List b.List
     · rfl
     · exact absurd (Zqf h) he
   have hn : ((a.List.length : Int) != (b.List.length : Int)) = true := by simp; omega
   rw [hn, h8]
   simp only [bne, Bool.or_true, Option.bind_some, if_true, Bool.and_false, ite_self]
theorem Zpd {a : Ze} (hl : a.List.length ≤ 9223372036854775807) : ∀ (n i : Nat), i + n = a.List.length → ∃ z, Zds a (n + 1) (i : Int) = some z ∧ (z = .inl 1 ∨ z = .inr ())
 | 0, i, h => by
   rw [Zds, if_neg (by simp; omega)]
   exact ⟨_, rfl, .inr rfl⟩
 | n + 1, i, h => by
   rw [Zds, if_pos (by simp; omega), Ze7 (by omega), wr1 (by omega)]
   simp only [Option.bind_some]
   split
   · exact ⟨_, rfl, .inl rfl⟩
   · exact Zpd hl n (i + 1) (by omega)
theorem Zx1 {a : Ze} (hl : a.List.length ≤ 9223372036854775807) : ∃ c, Zfv a = some c ∧ (c = 0 ∨ c = 1) ∧ (c = 0 → a.List.length ≤ 100) := by
 unfold Zfv
 by_cases h : (100 : Int) < a.List.length ∨ (1000 : Int) < a.Text.size
 · rw [if_pos (by simpa using h)]
   exact ⟨1, rfl, .inr rfl, fun h => by cases h⟩
 · rw [if_neg (by simpa using h), show (Int.toNat ((a.List.length : Int) - (0 : Int)) + 1) = a.List.length + 1 by omega]
   obtain ⟨z, hz, hc⟩ := Zpd hl a.List.length 0 (by omega)
   rw [show ((0 : Nat) : Int) = 0 from rfl] at hz
   rw [hz]
   rcases hc with rfl | rfl
   · exact ⟨1, rfl, .inr rfl, fun h => by cases h⟩
   · exact ⟨0, rfl, .inl rfl, fun _ => by omega⟩
end Go.CL
