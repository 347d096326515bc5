/- A part of the proof of HandReads. -/
import Derived.Test.YtlanlccmokaajaaGreatDoorHandReadsC5
import Derived.KernelRfl
import Derived.Laws.Strings
set_option linter.unusedVariables false
set_option linter.unusedSimpArgs false
set_option maxRecDepth 100000
namespace Go.CL
open Go Go.RowKit Go.Proofs
theorem Zqf (a0 : Zu) {r : Bool × Zu} (h : Zh0 a0 = some r) : FnMR Tryz.prog 19 Zci a0 r.2 [] (Zbe r.1) := by
 have H0 := h
 unfold Zh0 at H0
 clear h
 refine Zru (N := 86) Tryz.func19 rfl rfl (Nat.le_of_ble_eq_true rfl) rfl rfl (fun a g0 b0 hst hb => ?_)
 replace hst : St 86 [(0, (pEq (ptrB b0 0))), (1002, (pSJ Zbf Zbz (hpL (pRow Zn 68 1000000 (Zda a0))) 0 b0 a0))] _ _ := Zpq hst
 refine r_s (T := [⟨[], _, [], [], [2]⟩]) (F := [.old 0, .old 1]) hst hb Zb
   (o_p rfl (Zc rfl rfl c_b) <| o_n) (by kernel_rfl) (fun a g hst hb => ?_)
 refine wp_seq ?_
 refine r_s (T := [⟨[.old 0], _, [], [], [6]⟩, ⟨[.op 0 0], _, [], [0], [7]⟩, ⟨[.op 1 0], _, [], [0, 1], [8]⟩, ⟨[.op 2 0, .old 1], _, [], [0, 1, 2], [9]⟩]) (F := [.old 0, .op 3 0, .old 1]) hst hb Zb
   (o_p rfl (Za rfl rfl u_0) <| o_p rfl (Zm rfl rfl u_0 (fun _ _ h => ⟨_, h⟩)) <| o_p rfl (Zb0 Zmi rfl rfl u_0) <| o_p rfl (Zez (u := a0.over) ty_4 (fun g s cs h _ => kp_4 h) rfl rfl u_1 u_0) <| o_n) (by kernel_rfl) (fun a g hst hb => ?_)
 refine wp_cond_split (hst.bool 1 rfl) (fun hc1 => ?_) (fun hc1 => ?_)
 · replace H0 := Zz hc1 H0
   refine r_s (L := [(0, _), (1002, _)]) (T := [⟨[], _, [], [], [2]⟩]) (F := [.old 0, .op 0 0, .old 1]) (hst.pick [0, 2] rfl) hb Zb
     (o_p rfl (Zc rfl rfl c_b) <| o_n) (by kernel_rfl) (fun a g hst hb => ?_)
   refine wp_ret ?_
   refine Zt ?_
   obtain rfl := Option.some.inj H0
   exact Zw6 rfl hst hb (Zk (s := 2)) (hst.at 1 rfl) (hst.at 2 rfl)
 · replace H0 := Z0 hc1 H0
   refine wp_skip ?_
   refine Zv ?_
   refine r_s (L := [(0, _), (1002, _)]) (T := [⟨[.old 0], _, [], [], [10]⟩, ⟨[.op 0 0], _, [], [0], [11]⟩, ⟨[.op 1 0], _, [], [0, 1], [12]⟩, ⟨[.op 2 0], _, [], [0, 1, 2], [13]⟩, ⟨[.op 3 0, .old 1], [(14, (pRow Zn 68 1000000 a0.out.Answers))], [], Lr 4, [14]⟩, ⟨[.op 4 0], _, [], Lr 5, [15]⟩, ⟨[.op 5 0], _, [], Lr 6, [3]⟩]) (F := [.old 0, .op 6 0, .op 4 0, .old 1]) (hst.pick [0, 2] rfl) hb Zb
     (o_p rfl (Za rfl rfl u_0) <| o_p rfl (Zm rfl rfl u_0 (fun _ _ h => ⟨_, h⟩)) <| o_p rfl (Zb0 Zme rfl rfl u_0) <| o_p rfl (Zb0 Zu5 rfl rfl u_0) <| o_p rfl (Zse Zok (fun g s cs h => Z16 h) rfl rfl u_1 u_0) <| o_p rfl (Zce Tryz.underlying47 rfl rfl (Opd.imp u_0 (fun _ _ h => Zis h))) <| o_p rfl (Zc rfl rfl u_0) <| o_n) (by kernel_rfl) (fun a g hst hb => ?_)
   obtain ⟨e2, h3, H0⟩ := Zg H0
   refine r_s (T := [⟨[.old 0], _, [], [], [16]⟩, ⟨[.op 0 0], _, [], [0], [17]⟩, ⟨[.op 1 0], _, [], [0, 1], [18]⟩, ⟨[.op 2 0], _, [], [0, 1, 2], [19]⟩, ⟨[.op 3 0, .old 3], _, [], Lr 4, [20]⟩, ⟨[.old 1], _, [], [], [21]⟩, ⟨[.op 4 0, .op 5 0], _, [], Lr 6, [22]⟩, ⟨[.op 6 0], _, [], Lr 7, [23]⟩, ⟨[], [(4, (pBox Zy 4 (default : Zs)))], [5], [], [4]⟩, ⟨[.op 7 0, .op 8 0], _, [5], Lr 9, [4]⟩]) (F := [.old 0, .old 1, .op 9 0, .old 2, .old 3]) hst hb Zb
     (o_p rfl (Za rfl rfl u_0) <| o_p rfl (Zm rfl rfl u_0 (fun _ _ h => ⟨_, h⟩)) <| o_p rfl (Zb0 Zu1 rfl rfl u_0) <| o_p rfl (Zb0 Zuj rfl rfl u_0) <| o_p rfl (Zez (u := a0.d.Acts) Zmr (fun g s cs h _ => Zxp h) rfl rfl u_1 u_0) <| o_p rfl (Za rfl rfl u_0) <| o_p rfl (Zb4 Tryz.underlying23 Zp5 rfl rfl u_0 u_1 h3) <| o_p rfl (Zf Zh2 rfl rfl u_0) <| o_p rfl (Zbk (zs := [.int .i64 0, .string ByteArray.empty, .int .i64 0, .float .f64 0, .string ByteArray.empty, .int .i64 0, .int .i64 0, .int .i64 0, .int .i64 0, .float .f64 0, .int .i64 0, .string ByteArray.empty, .slice none 0 0, .bool false]) (by kernel_rfl) (fun g => Zlz g) rfl rfl) <| o_p rfl (Zcb Zh2 rfl rfl u_1 u_0) <| o_n) (by kernel_rfl) (fun a g hst hb => ?_)
   refine r_s (T := [⟨[], [(5, (pBox Zn 5 (default : Zi)))], [6], [], [5]⟩]) (F := [.old 0, .old 1, .old 2, .op 0 0, .old 3, .old 4]) hst hb Zb
     (o_p rfl (Zbk (zs := [.int .i64 0, .int .i64 0, .int .i64 0, .int .i64 0, .int .i64 0, .int .i64 0, .float .f64 0, .int .i64 0, .string ByteArray.empty, .slice none 0 0]) (by kernel_rfl) (fun g => Zh5 g) rfl rfl) <| o_n) (by kernel_rfl) (fun a g hst hb => ?_)
   refine wp_seq ?_
   obtain ⟨r4, h5, H0⟩ := Zg H0
   refine r_s (T := [⟨[.old 0], _, [], [], [24]⟩, ⟨[.op 0 0], _, [], [0], [25]⟩, ⟨[.op 1 0], _, [], [0, 1], [26]⟩, ⟨[.op 2 0, .old 5], _, [], [0, 1, 2], [27]⟩, ⟨[.old 2], _, [], [], [28]⟩, ⟨[.op 4 0], _, [], [4], [29]⟩, ⟨[.op 3 0, .op 5 0], _, [], Lr 6, [30]⟩, ⟨[.op 6 0], _, [], Lr 7, [31]⟩]) (F := [.old 0, .old 1, .old 2, .old 3, .old 4, .op 7 0, .old 5]) hst hb Zb
     (o_p rfl (Za rfl rfl u_0) <| o_p rfl (Zm rfl rfl u_0 (fun _ _ h => ⟨_, h⟩)) <| o_p rfl (Zb0 Z0h rfl rfl u_0) <| o_p rfl (Zez (u := a0.split) Z5s (fun g s cs h _ => kp_1 h) rfl rfl u_1 u_0) <| o_p rfl (Ze Zjw rfl rfl u_0) <| o_p rfl (Zf ty_9 rfl rfl u_0) <| o_p rfl (Zq Z5r (Zhx _ _ h5) rfl rfl (.cons u_0 (.cons u_1 .nil))) <| o_p rfl (Zcg rfl rfl u_0) <| o_n) (by kernel_rfl) (fun a g hst hb => ?_)
   refine Zcs (fun a w => ∃ (j9 : Zi) (j10 : Zu) (g : G), w = g.w ∧ St 86 [(0, (pEq (ptrB b0 0))), (3, (pInt .i64 (a0.out.Answers.length : Int))), (4, (Zy.ptr e2)), (5, (pBox Zn 5 j9)), (14, (pRow Zn 68 1000000 a0.out.Answers)), (1002, (pSJ Zbf Zbz (hpL (pRow Zn 68 1000000 (Zda j10))) 0 b0 j10))] a g ∧ Base g0 g ∧ Zf8 a0 e2 j9 j10 = some r) ?_ ?_
   · rintro a w ⟨j9, j10, g, rfl, hst, hb, H0⟩
     unfold Zf8 at H0
     refine Zv ?_
     refine wp_seq ?_
     refine r_s (T := [⟨[.old 2], _, [], [], [44]⟩, ⟨[.op 0 0], _, [], [0], [45]⟩, ⟨[.op 1 0], _, [], [0, 1], [46]⟩, ⟨[.op 2 0, .old 3], _, [], [0, 1, 2], [47]⟩, ⟨[.op 2 0, .op 3 0], _, [], Lr 4, [48]⟩, ⟨[.op 2 0, .op 4 0], _, [], Lr 5, [49]⟩, ⟨[.op 2 0, .op 5 0], _, [], Lr 6, [50]⟩]) (F := [.old 0, .old 1, .old 3, .old 4, .op 6 0, .old 5]) hst hb Zb
       (o_p rfl (Ze Z6e rfl rfl u_0) <| o_p rfl (Zf ty_4 rfl rfl u_0) <| o_p rfl (Za rfl rfl u_0) <| o_g (g_t rfl rfl rfl (fun hG => Zbb Zur (off := 0) (by kernel_rfl) rfl rfl u_0)) <| o_g (g_t rfl rfl rfl (fun hG => Zcm Zt4 rfl rfl (Opd.gd hG u_0))) <| o_g (g_t rfl rfl rfl (fun hG => Zg9 rfl rfl (Opd.gd hG u_0) c_i)) <| o_p rfl (Zbm rfl rfl u_0 (fun hz => (Opd.gd hz u_1))) <| o_n) (by kernel_rfl) (fun a g hst hb => ?_)
     refine wp_cond_split (hst.bool 4 rfl) (fun hc11 => ?_) (fun hc11 => ?_)
     · replace H0 := Zz hc11 H0
       refine r_s (L := [(0, _), (3, _), (5, _), (14, _), (1002, _)]) (T := ⟨[.old 0], _, [], [], [51]⟩ :: ⟨[.old 0], _, [], [], [52]⟩ :: ⟨[.old 2], _, [], [], [53]⟩ :: ⟨[.op 2 0], _, [], [2], [54]⟩ :: ⟨[.old 1], _, [], [], [55]⟩ :: ⟨[.op 4 0], _, [], [4], [56]⟩ :: ⟨[.op 3 0, .op 5 0], [(57, (Zbw.pd (Zby ({ Code := j9.Code, At := (IntKind.i64.wrap ((a0.out.Answers.length : Int) + (1 : Int))), Answers := ([] : List Zi) } : Z6) (none, 0, 0))))], [], List.range' 2 4, [57]⟩ :: ⟨[.op 0 0], _, [], [0, 2, 3, 4, 5, 6], [58]⟩ :: ⟨[.op 7 0], _, [], [0, 2, 3, 4, 5, 6, 7], [59]⟩ :: ⟨[.op 8 0, .op 6 0, .old 4], [(1002, (pSJ Zbf Zbz (hpL (pRow Zn 68 1000000 (Zda ({ j10 with out := ({ Code := j9.Code, At := (IntKind.i64.wrap ((a0.out.Answers.length : Int) + (1 : Int))), Answers := ([] : List Zi) } : Z6) } : Zu)))) 0 b0 ({ j10 with out := ({ Code := j9.Code, At := (IntKind.i64.wrap ((a0.out.Answers.length : Int) + (1 : Int))), Answers := ([] : List Zi) } : Z6) } : Zu)))], [1], [0, 2, 3, 4, 5, 6, 7, 8], [1002]⟩ :: ⟨[.op 1 0], _, [], Lr 10, [60]⟩ :: ⟨[.op 10 0], _, [], Lr 11, [61]⟩ :: ⟨[.op 11 0, .op 9 0], [(1002, (pSJ Zbf Zbz (hpL (pRow Zn 68 1000000 (Zda ({ ({ j10 with out := ({ Code := j9.Code, At := (IntKind.i64.wrap ((a0.out.Answers.length : Int) + (1 : Int))), Answers := ([] : List Zi) } : Z6) } : Zu) with over := true } : Zu)))) 0 b0 ({ ({ j10 with out := ({ Code := j9.Code, At := (IntKind.i64.wrap ((a0.out.Answers.length : Int) + (1 : Int))), Answers := ([] : List Zi) } : Z6) } : Zu) with over := true } : Zu)))], [1], Lr 12, [1002]⟩ :: []) (F := [.old 0, .op 12 0]) (hst.pick [0, 1, 2, 3, 5] rfl) hb Zb
         (o_p rfl (Za rfl rfl u_0) <| o_p rfl (Za rfl rfl u_0) <| o_p rfl (Zbb Zur (off := 0) (by kernel_rfl) rfl rfl u_0) <| o_p rfl (Zcm Zt4 rfl rfl u_0) <| o_p rfl (Za rfl rfl u_0) <| o_p rfl (Zch rfl rfl u_0 c_i rfl) <| o_p rfl (Ztp rfl rfl u_0 u_1) <| o_p rfl (Zm rfl rfl u_0 (fun _ _ h => ⟨_, h⟩)) <| o_p rfl (Zb0 Zme rfl rfl u_0) <| o_p rfl (Zjv Z2t rfl rfl (fun k hk => by rw [List.mem_singleton.1 hk]; decide) u_2 u_0 u_1 (fun g g' cs s0 ys h hr hy => ⟨(none, 0, 0), Z18 h hy, Zn5 1000000 g'⟩)) <| o_p rfl (Zm rfl rfl u_0 (fun _ _ h => ⟨_, h⟩)) <| o_p rfl (Zb0 Zmi rfl rfl u_0) <| o_p rfl (Zjv ty_4 rfl rfl (fun k hk => by rw [List.mem_singleton.1 hk]; decide) u_1 u_0 c_b (fun g g' cs s0 ys h hr hy => ⟨s0, wp_4 h hy, hr⟩)) <| o_n) (by kernel_rfl) (fun a g hst hb => ?_)
       refine r_s (T := [⟨[], _, [], [], [2]⟩]) (F := [.old 0, .op 0 0, .old 1]) hst hb Zb
         (o_p rfl (Zc rfl rfl c_b) <| o_n) (by kernel_rfl) (fun a g hst hb => ?_)
       refine wp_ret ?_
       refine Zt ?_
       obtain rfl := Option.some.inj H0
       exact Zw6 rfl hst hb (Zk (s := 2)) (hst.at 1 rfl) (hst.at 2 rfl)
     · replace H0 := Z0 hc11 H0
       refine wp_skip ?_
       refine Zv ?_
       obtain ⟨h12, H0⟩ := Zhi H0
       refine r_s (L := [(0, _), (3, _), (5, _), (14, _), (1002, _)]) (T := ⟨[.old 0], _, [], [], [62]⟩ :: ⟨[.old 0], _, [], [], [63]⟩ :: ⟨[.op 1 0], _, [], [1], [64]⟩ :: ⟨[.op 2 0], _, [], [1, 2], [65]⟩ :: ⟨[.op 3 0], _, [], [1, 2, 3], [66]⟩ :: ⟨[.op 4 0, .old 4], [(67, (pRow Zn 68 1000000 j10.out.Answers))], [], List.range' 1 4, [67]⟩ :: ⟨[.old 2], _, [], [], [68]⟩ :: ⟨[.op 6 0], _, [], [6], [69]⟩ :: ⟨[.op 5 0, .op 7 0, .old 4], [(1002, (pSJ Zbf Zbz hpT 0 b0 j10)), (70, (pRow Zn 68 1000000 (j10.out.Answers ++ ([j9] : List Zi))))], [1000001], List.range' 1 7, [14, 67, 70, 1002]⟩ :: ⟨[.op 0 0], _, [], Lr 9, [71]⟩ :: ⟨[.op 9 0], _, [], Lr 10, [72]⟩ :: ⟨[.op 10 0], _, [], Lr 11, [73]⟩ :: ⟨[.op 11 0, .op 8 1, .op 8 0], [(1002, (pSJ Zbf Zbz (hpL (pRow Zn 68 1000000 (Zda ({ j10 with out := { j10.out with Answers := (j10.out.Answers ++ ([j9] : List Zi)) } } : Zu)))) 0 b0 ({ j10 with out := { j10.out with Answers := (j10.out.Answers ++ ([j9] : List Zi)) } } : Zu)))], [1], Lr 12, [1002]⟩ :: []) (F := [.old 0, .old 1, .op 12 0]) (hst.pick [0, 1, 2, 3, 5] rfl) hb Zb
         (o_p rfl (Za rfl rfl u_0) <| o_p rfl (Za rfl rfl u_0) <| o_p rfl (Zm rfl rfl u_0 (fun _ _ h => ⟨_, h⟩)) <| o_p rfl (Zb0 Zme rfl rfl u_0) <| o_p rfl (Zb0 Zu5 rfl rfl u_0) <| o_p rfl (Zse Zok (fun g s cs h => Z16 h) rfl rfl u_1 u_0) <| o_p rfl (Zck Zdn rfl rfl u_0) <| o_p rfl (Zl1 Zw1 (xs := [.tmp 68]) (.cons u_0 .nil) (by decide) rfl rfl) <| o_p rfl (OB.frameU (Zje Zw1 rfl rfl u_0 u_1 h12) (Opd.imp u_2 (fun _ _ h => sj_T h)) (fun k hk hS => Z9q (List.mem_singleton.1 hk) (List.mem_singleton.1 hS) (by decide)) (fun h => by cases h)) <| o_p rfl (Zm rfl rfl u_0 (fun _ _ h => ⟨_, h⟩)) <| o_p rfl (Zb0 Zme rfl rfl u_0) <| o_p rfl (Zb0 Zu5 rfl rfl u_0) <| o_p rfl (Zyi Zok rfl rfl (fun _ _ h => Z6i h) (fun k hk => by cases hk) (fun k hk => by rw [List.mem_singleton.1 hk]; decide) u_2 u_0 u_1 (fun g cs s0 s1 ys h hy => Z8o h hy)) <| o_n) (by kernel_rfl) (fun a g hst hb => ?_)
       refine r_s (T := ⟨[.old 0], _, [], [], [74]⟩ :: ⟨[.old 1], _, [], [], [75]⟩ :: ⟨[.op 1 0], _, [], [1], [76]⟩ :: ⟨[.old 0], _, [], [], [77]⟩ :: ⟨[.op 3 0], _, [], [3], [78]⟩ :: ⟨[.op 4 0], _, [], [3, 4], [79]⟩ :: ⟨[.op 5 0], _, [], [3, 4, 5], [80]⟩ :: ⟨[.op 6 0, .old 2], _, [], List.range' 3 4, [81]⟩ :: ⟨[.op 7 0], _, [], List.range' 3 5, [82]⟩ :: ⟨[.op 2 0, .op 8 0], _, [], List.range' 1 8, [83]⟩ :: ⟨[.op 0 0], _, [], Lr 10, [84]⟩ :: ⟨[.op 10 0], _, [], Lr 11, [85]⟩ :: ⟨[.op 11 0, .op 9 0, .old 2], [(1002, (pSJ Zbf Zbz (hpL (pRow Zn 68 1000000 (Zda ({ ({ j10 with out := { j10.out with Answers := (j10.out.Answers ++ ([j9] : List Zi)) } } : Zu) with over := ((IntKind.i64.wrap ((a0.out.Answers.length : Int) + (1 : Int))) == (((({ j10 with out := { j10.out with Answers := (j10.out.Answers ++ ([j9] : List Zi)) } } : Zu).d).Acts).length : Int)) } : Zu)))) 0 b0 ({ ({ j10 with out := { j10.out with Answers := (j10.out.Answers ++ ([j9] : List Zi)) } } : Zu) with over := ((IntKind.i64.wrap ((a0.out.Answers.length : Int) + (1 : Int))) == (((({ j10 with out := { j10.out with Answers := (j10.out.Answers ++ ([j9] : List Zi)) } } : Zu).d).Acts).length : Int)) } : Zu)))], [1], Lr 12, [1002]⟩ :: []) (F := [.old 0, .op 12 0]) hst hb Zb
         (o_p rfl (Za rfl rfl u_0) <| o_p rfl (Za rfl rfl u_0) <| o_p rfl (Zch rfl rfl u_0 c_i rfl) <| o_p rfl (Za rfl rfl u_0) <| o_p rfl (Zm rfl rfl u_0 (fun _ _ h => ⟨_, h⟩)) <| o_p rfl (Zb0 Zu1 rfl rfl u_0) <| o_p rfl (Zb0 Zuj rfl rfl u_0) <| o_p rfl (Zez (u := (({ j10 with out := { j10.out with Answers := (j10.out.Answers ++ ([j9] : List Zi)) } } : Zu).d).Acts) Zmr (fun g s cs h _ => Zxp h) rfl rfl u_1 u_0) <| o_p rfl (Zce Tryz.underlying23 rfl rfl u_0) <| o_p rfl (Zb1 rfl rfl u_0 u_1) <| o_p rfl (Zm rfl rfl u_0 (fun _ _ h => ⟨_, h⟩)) <| o_p rfl (Zb0 Zmi rfl rfl u_0) <| o_p rfl (Zjv ty_4 rfl rfl (fun k hk => by rw [List.mem_singleton.1 hk]; decide) u_2 u_0 u_1 (fun g g' cs s0 ys h hr hy => ⟨s0, wp_4 h hy, hr⟩)) <| o_n) (by kernel_rfl) (fun a g hst hb => ?_)
       refine r_s (T := [⟨[], _, [], [], [2]⟩]) (F := [.old 0, .op 0 0, .old 1]) hst hb Zb
         (o_p rfl (Zc rfl rfl c_b) <| o_n) (by kernel_rfl) (fun a g hst hb => ?_)
       refine wp_ret ?_
       obtain rfl := Option.some.inj H0
       exact Zw6 rfl hst hb (Zk (s := 2)) (hst.at 1 rfl) (hst.at 2 rfl)
   · refine wp_cond_split (hst.bool 5 rfl) (fun hc6 => ?_) (fun hc6 => ?_)
     · replace H0 := Zz hc6 H0
       obtain ⟨r7, h8, H0⟩ := Zg H0
       refine r_g (L := [(0, _), (3, _), (4, _), (5, _), (14, _), (1002, _)]) (T := ⟨[.old 0], _, [], [], [33]⟩ :: ⟨[.old 0], _, [], [], [34]⟩ :: ⟨[.op 1 0], _, [], [1], [35]⟩ :: ⟨[.op 2 0], _, [], [1, 2], [36]⟩ :: ⟨[.op 3 0, .old 5], _, [], [1, 2, 3], [37]⟩ :: ⟨[.old 2], _, [], [], [38]⟩ :: ⟨[.op 4 0, .op 5 0], _, [], List.range' 1 5, [39]⟩ :: ⟨[.op 6 0], _, [], List.range' 1 6, [32]⟩ :: ⟨[.op 7 0], _, [], List.range' 1 7, [40]⟩ :: ⟨[.op 7 0], _, [], List.range' 1 7, [41]⟩ :: ⟨[.op 0 0], _, [], Lr 9, [42]⟩ :: ⟨[.op 10 0], _, [], [0, 1, 2, 3, 4, 5, 6, 7, 8, 10], [43]⟩ :: ⟨[.op 11 0, .op 8 0, .old 5], [(1002, (pSJ Zbf Zbz (hpL (pRow Zn 68 1000000 (Zda ({ a0 with now := r7.1 } : Zu)))) 0 b0 ({ a0 with now := r7.1 } : Zu)))], [1], [0, 1, 2, 3, 4, 5, 6, 7, 8, 10, 11], [1002]⟩ :: ⟨[.op 9 0, .old 3], _, [6], Lr 13, [5]⟩ :: []) (F := [.old 0, .old 1, .old 2, .op 13 0, .old 4, .op 12 0]) (hst.pick [0, 1, 2, 3, 4, 6] rfl) hb Zb
         (o_p rfl (Za rfl rfl u_0) <| o_p rfl (Za rfl rfl u_0) <| o_p rfl (Zm rfl rfl u_0 (fun _ _ h => ⟨_, h⟩)) <| o_p rfl (Zb0 Zrk rfl rfl u_0) <| o_p rfl (Zez (u := a0.now) Zbn (fun g s cs h _ => kp_2 h) rfl rfl u_1 u_0) <| o_p rfl (Zf Zh2 rfl rfl u_0) <| o_p rfl (Zq Zbat (Zy9 _ _ h8) rfl rfl (.cons u_0 (.cons u_1 .nil))) <| o_p rfl (Za rfl rfl u_0) <| o_p rfl (Z4 rfl rfl u_0 rfl) <| o_p rfl (Z4 rfl rfl u_0 rfl) <| o_p rfl (Zm rfl rfl u_0 (fun _ _ h => ⟨_, h⟩)) <| o_p rfl (Zb0 Zrk rfl rfl u_0) <| o_p rfl (Zjv Zbn rfl rfl (fun k hk => by rw [List.mem_singleton.1 hk]; decide) u_2 u_0 u_1 (fun g g' cs s0 ys h hr hy => ⟨s0, wp_2 h hy, hr⟩)) <| o_p rfl (Zba Zdn rfl rfl u_1 u_0) <| o_n) (by kernel_rfl) (fun a g hst hb => ?_)
       exact ⟨r7.2, ({ a0 with now := r7.1 } : Zu), g, rfl, (hst.pick [0, 1, 2, 3, 4, 5] rfl), hb, H0⟩
     · replace H0 := Z0 hc6 H0
       refine wp_skip ?_
       exact ⟨(default : Zi), a0, g, rfl, (hst.pick [0, 1, 2, 3, 4, 6] rfl), hb, H0⟩
theorem Zi2 (a0 : Zu) {r : Zu × Bool} (h : Zfy a0 = some r) : FnMR Tryz.prog 19 Zci a0 r.1 [] (Zbe r.2) := by
 obtain ⟨u, h1, h2⟩ := Zg h
 obtain rfl := Option.some.inj h2
 exact Zqf a0 h1
theorem Zqm (a0 : Int) {r : Zl × Int} (h : Znb a0 = some r) : FnOk Tryz.prog 28 [(pInt .i64 a0)] (pTup [(Zw.pd r.1), (pInt .i64 r.2)]) := by
 have H0 := h
 unfold Znb at H0
 clear h
 refine Zbv (N := 13) Tryz.func28 rfl rfl (Nat.le_of_ble_eq_true rfl) rfl rfl (fun a g0 hst hb => ?_)
 refine r_s (T := [⟨[], [(2, (pBox Zw 2 (default : Zl)))], [3], [], [2]⟩, ⟨[], _, [], [], [3]⟩]) (F := [.old 0, .op 0 0]) hst hb Zb
   (o_p rfl (Zbk (zs := [.pointer none, .int .i64 0]) (by kernel_rfl) (fun g => Zdq g) rfl rfl) <| o_p rfl (Zc rfl rfl c_i) <| o_n) (by kernel_rfl) (fun a g hst hb => ?_)
 refine wp_seq ?_
 refine r_s (T := [⟨[.old 0], _, [], [], [4]⟩, ⟨[.op 0 0], _, [], [0], [5]⟩, ⟨[.op 1 0], _, [], [0, 1], [6]⟩, ⟨[.op 2 0, .old 0], _, [], [0, 1, 2], [7]⟩, ⟨[.op 2 0, .op 3 0], _, [], Lr 4, [8]⟩, ⟨[.op 2 0, .op 4 0], _, [], Lr 5, [9]⟩]) (F := [.old 0, .old 1, .op 5 0]) hst hb Zb
   (o_p rfl (Za rfl rfl u_0) <| o_p rfl (Zc0 rfl rfl u_0 c_i) <| o_p rfl (Za rfl rfl u_0) <| o_g (g_f rfl rfl rfl (fun hG => Za rfl rfl u_0)) <| o_g (g_f rfl rfl rfl (fun hG => Zcy rfl rfl (Opd.gd hG u_0) c_i)) <| o_p rfl (Zbu rfl rfl u_0 (fun hz => (Opd.gd (bNF hz) u_1))) <| o_n) (by kernel_rfl) (fun a g hst hb => ?_)
 refine wp_cond_split (hst.bool 2 rfl) (fun hc1 => ?_) (fun hc1 => ?_)
 · replace H0 := Zz hc1 H0
   refine r_s (L := [(2, _)]) (T := [⟨[], _, [], [], [10]⟩, ⟨[.op 0 0, .old 0], _, [3], [0], [2]⟩, ⟨[], _, [], [0, 1], [3]⟩]) (F := [.op 1 0, .op 2 0]) (hst.pick [1] rfl) hb Zb
     (o_p rfl (Z8c rfl rfl ) <| o_p rfl (Zba Zbn rfl rfl u_1 u_0) <| o_p rfl (Zc rfl rfl c_i) <| o_n) (by kernel_rfl) (fun a g hst hb => ?_)
   refine wp_ret ?_
   refine Zt ?_
   obtain rfl := Option.some.inj H0
   obtain ⟨u0, hu0, hq0⟩ := Zbl (P := Tryz.prog) Zbn (hst.at 0 rfl)
   exact Zfh rfl hst hb hu0 (Zk (s := 3)) (Zdx hq0 (hst.at 1 rfl))
 · replace H0 := Z0 hc1 H0
   refine wp_skip ?_
   refine Zv ?_
   refine r_s (L := [(0, _), (2, _)]) (T := [⟨[.old 0], _, [], [], [11]⟩, ⟨[.op 0 0], _, [], [0], [12]⟩, ⟨[.op 1 0, .old 1], _, [3], [0, 1], [2]⟩, ⟨[], _, [], [0, 1, 2], [3]⟩]) (F := [.op 2 0, .op 3 0]) (hst.pick [0, 1] rfl) hb Zb
     (o_p rfl (Za rfl rfl u_0) <| o_p rfl (Z7k rfl rfl u_0) <| o_p rfl (Zba Zbn rfl rfl u_1 u_0) <| o_p rfl (Zc rfl rfl c_i) <| o_n) (by kernel_rfl) (fun a g hst hb => ?_)
   refine wp_ret ?_
   obtain rfl := Option.some.inj H0
   obtain ⟨u0, hu0, hq0⟩ := Zbl (P := Tryz.prog) Zbn (hst.at 0 rfl)
   exact Zfh rfl hst hb hu0 (Zk (s := 3)) (Zdx hq0 (hst.at 1 rfl))
theorem Zo6 {r : Bool} (h : Zij = some r) : FnOk Tryz.prog 7 [] (Zbe r) := by
 have H0 := h
 unfold Zij at H0
 clear h
 refine Zbv (N := 112) Tryz.func7 rfl rfl (Nat.le_of_ble_eq_true rfl) rfl rfl (fun a g0 hst hb => ?_)
 refine r_s (T := [⟨[], _, [], [], [0]⟩]) (F := []) hst hb Zb
   (o_p rfl (Zc rfl rfl c_b) <| o_n) (by kernel_rfl) (fun a g hst hb => ?_)
 obtain ⟨r1, h2, H0⟩ := Zg H0
 refine r_s (T := [⟨[], _, [], [], [15]⟩, ⟨[.op 0 0], _, [], [0], [14]⟩, ⟨[.op 1 0], _, [], [0, 1], [16]⟩, ⟨[.op 1 0], _, [], [0, 1], [17]⟩, ⟨[], [(1, (pBox Zw 1 (default : Zl)))], [2], [], [1]⟩, ⟨[.op 2 0, .op 4 0], _, [2], [0, 1, 2, 4], [1]⟩, ⟨[.op 3 0], _, [], Lr 6, [2]⟩]) (F := [.op 5 0]) hst hb Zb
   (o_p rfl (Zq Z47 (Zqm _ h2) rfl rfl (.cons c_i .nil)) <| o_p rfl (Za rfl rfl u_0) <| o_p rfl (Z4 rfl rfl u_0 rfl) <| o_p rfl (Z4 rfl rfl u_0 rfl) <| o_p rfl (Zbk (zs := [.pointer none, .int .i64 0]) (by kernel_rfl) (fun g => Zdq g) rfl rfl) <| o_p rfl (Zba Zbn rfl rfl u_1 u_0) <| o_p rfl (Zc rfl rfl u_0) <| o_n) (by kernel_rfl) (fun a g hst hb => ?_)
 obtain ⟨r3, h4, H0⟩ := Zg H0
 refine r_s (T := [⟨[.old 0], _, [], [], [19]⟩, ⟨[], _, [], [], [20]⟩, ⟨[.op 0 0, .op 1 0], _, [], [0, 1], [21]⟩, ⟨[.op 2 0], _, [], [0, 1, 2], [18]⟩, ⟨[.op 3 0], _, [], Lr 4, [22]⟩, ⟨[.op 3 0], _, [], Lr 4, [23]⟩, ⟨[.op 4 0, .old 0], _, [2], Lr 5, [1]⟩]) (F := [.op 6 0]) hst hb Zb
   (o_p rfl (Zck Zbn rfl rfl u_0) <| o_p rfl (Z2p rfl rfl c_i c_i) <| o_p rfl (Zq Zw2 (Zit _ _ _ h4) rfl rfl (.cons u_0 (.cons c_s (.cons u_1 .nil)))) <| o_p rfl (Za rfl rfl u_0) <| o_p rfl (Z4 rfl rfl u_0 rfl) <| o_p rfl (Z4 rfl rfl u_0 rfl) <| o_p rfl (Zba Zbn rfl rfl u_1 u_0) <| o_n) (by kernel_rfl) (fun a g hst hb => ?_)
 refine r_s (T := [⟨[], _, [], [], [24]⟩, ⟨[.op 0 0], _, [], [0], [25]⟩, ⟨[.op 1 0], _, [], [0, 1], [26]⟩, ⟨[], [(3, (pBox Zb8 3 (default : Zbg)))], [4], [], [3]⟩, ⟨[.op 2 0, .op 3 0], _, [4], Lr 4, [3]⟩]) (F := [.old 0, .op 4 0]) hst hb Zb
   (o_p rfl (Zzq rfl rfl c_i c_s c_i) <| o_p rfl (Zl1 Ztl (xs := [.tmp 24]) (.cons u_0 .nil) (by decide) rfl rfl) <| o_p rfl (Z0l rfl rfl u_0) <| o_p rfl (Zbk (zs := [.slice none 0 0]) (by kernel_rfl) (fun g => Zsa g) rfl rfl) <| o_p rfl (Zcb Znl rfl rfl u_1 u_0) <| o_n) (by kernel_rfl) (fun a g hst hb => ?_)
 obtain ⟨r5, h6, H0⟩ := Zg H0; obtain ⟨r7, h8, H0⟩ := Zg H0
 refine r_s (T := [⟨[.old 1], _, [], [], [27]⟩, ⟨[.old 0], _, [], [], [28]⟩, ⟨[.op 0 0, .op 1 0], [(29, (Zco none Zci 29 r5))], [30, 1000030], [0, 1], [29]⟩, ⟨[.old 1], _, [], [], [30]⟩, ⟨[.old 0], _, [], [], [31]⟩, ⟨[], _, [], [], [32]⟩, ⟨[.op 3 0, .op 4 0, .op 5 0], [(33, (Zco none Zci 33 r7))], [34, 1000034], Lr 6, [33]⟩, ⟨[.op 2 0], [(4, (Zco none Zci 29 r5))], [], Lr 7, [4]⟩, ⟨[.op 6 0], [(5, (Zco none Zci 33 r7))], [], Lr 8, [5]⟩]) (F := [.old 0, .op 7 0, .op 8 0]) hst hb Zb
   (o_p rfl (Zf Znl rfl rfl u_0) <| o_p rfl (Zck Zbn rfl rfl u_0) <| o_p rfl (Zou Z1q (Zox _ _ _ h6) rfl rfl (.cons u_0 (.cons u_1 (.cons (Opd.c (fun g => Zgn g)) .nil)))) <| o_p rfl (Zf Znl rfl rfl u_0) <| o_p rfl (Zck Zbn rfl rfl u_0) <| o_p rfl (Zl1 Zro (xs := [.const (.string ⟨#[97]⟩)]) (.cons c_s .nil) (by decide) rfl rfl) <| o_p rfl (Zou Z1q (Zox _ _ _ h8) rfl rfl (.cons u_0 (.cons u_1 (.cons u_2 .nil)))) <| o_p rfl (Zc rfl rfl u_0) <| o_p rfl (Zc rfl rfl u_0) <| o_n) (by kernel_rfl) (fun a g hst hb => ?_)
 refine wp_seq ?_
 obtain ⟨r9, h10, H0⟩ := Zg H0; obtain ⟨r11, h12, H0⟩ := Zg H0; obtain ⟨r13, h14, H0⟩ := Zg H0; obtain ⟨r15, h16, H0⟩ := Zg H0; obtain ⟨r17, h18, H0⟩ := Zg H0
 refine r_s (T := ⟨[.old 1], [(34, (Zco none Zci 29 r5))], [], [], [34]⟩ :: ⟨[.op 0 0], _, [], [0], [35]⟩ :: ⟨[.op 1 0], _, [], [0, 1], [36]⟩ :: ⟨[.op 2 0, .old 2], [(37, (pIf (!false) (Zco none Zci 33 r7)))], [], [0, 1, 2], [37]⟩ :: ⟨[.op 2 0, .op 3 0], _, [], Lr 4, [38]⟩ :: ⟨[.op 2 0, .op 4 0], _, [], Lr 5, [39]⟩ :: ⟨[.op 5 0], _, [], Lr 6, [40]⟩ :: ⟨[.op 6 0, .old 1], [(41, (pIf (!(false || false)) (Zco none Zci 29 r5)))], [], Lr 7, [41]⟩ :: ⟨[.op 6 0, .op 7 0, .old 1], [(42, (pIf (!(false || false)) (Zbe r9))), (4, (Zco none Zci 29 r5))], [30, 1000030], Lr 8, [4, 34, 41, 42]⟩ :: ⟨[.op 6 0, .op 8 0], _, [], Lr 9, [43]⟩ :: ⟨[.op 9 0], _, [], Lr 10, [44]⟩ :: ⟨[.op 10 0, .op 8 1], [(45, (pIf (!((false || false) || r9)) (Zco none Zci 29 r5)))], [], Lr 11, [45]⟩ :: ⟨[.op 10 0, .op 11 0, .op 8 1], [(46, (pIf (!((false || false) || r9)) (Zbe r11.2))), (4, (Zco none Zci 29 (if (!((false || false) || r9)) = true then r11.1 else r5)))], [30, 1000030], Lr 12, [4, 34, 41, 45, 46]⟩ :: ⟨[.op 10 0, .op 12 0], _, [], Lr 13, [47]⟩ :: ⟨[.op 10 0, .op 13 0], _, [], Lr 14, [48]⟩ :: ⟨[.op 14 0], _, [], Lr 15, [49]⟩ :: ⟨[.op 15 0, .op 12 1], [(50, (pIf (!(((false || false) || r9) || (!r11.2))) (Zco none Zci 29 (if (!((false || false) || r9)) = true then r11.1 else r5))))], [], Lr 16, [50]⟩ :: ⟨[.op 15 0, .op 16 0, .op 12 1], [(51, (pIf (!(((false || false) || r9) || (!r11.2))) (Zbe r13.2))), (4, (Zco none Zci 29 (if (!(((false || false) || r9) || (!r11.2))) = true then r13.1 else (if (!((false || false) || r9)) = true then r11.1 else r5))))], [30, 1000030], Lr 17, [4, 34, 41, 45, 50, 51]⟩ :: ⟨[.op 15 0, .op 17 0], _, [], Lr 18, [52]⟩ :: ⟨[.op 18 0], _, [], Lr 19, [53]⟩ :: ⟨[.op 19 0, .op 17 1], [(54, (pIf (!((((false || false) || r9) || (!r11.2)) || r13.2)) (Zco none Zci 29 (if (!(((false || false) || r9) || (!r11.2))) = true then r13.1 else (if (!((false || false) || r9)) = true then r11.1 else r5)))))], [], Lr 20, [54]⟩ :: ⟨[.op 19 0, .op 20 0, .op 17 1], [(55, (pIf (!((((false || false) || r9) || (!r11.2)) || r13.2)) (Zbe r15))), (4, (Zco none Zci 29 (if (!(((false || false) || r9) || (!r11.2))) = true then r13.1 else (if (!((false || false) || r9)) = true then r11.1 else r5))))], [30, 1000030], Lr 21, [4, 34, 41, 45, 50, 54, 55]⟩ :: ⟨[.op 19 0, .op 21 0], _, [], Lr 22, [56]⟩ :: ⟨[.op 19 0, .op 22 0], _, [], Lr 23, [57]⟩ :: ⟨[.op 23 0], _, [], Lr 24, [58]⟩ :: ⟨[.op 24 0, .old 2], [(59, (pIf (!(((((false || false) || r9) || (!r11.2)) || r13.2) || (!r15))) (Zco none Zci 33 r7)))], [], Lr 25, [59]⟩ :: ⟨[.op 24 0, .op 25 0, .old 2], [(60, (pIf (!(((((false || false) || r9) || (!r11.2)) || r13.2) || (!r15))) (Zbe r17.2))), (5, (Zco none Zci 33 (if (!(((((false || false) || r9) || (!r11.2)) || r13.2) || (!r15))) = true then r17.1 else r7)))], [34, 1000034], Lr 26, [5, 37, 59, 60]⟩ :: ⟨[.op 24 0, .op 26 0], _, [], Lr 27, [61]⟩ :: ⟨[.op 24 0, .op 27 0], _, [], Lr 28, [62]⟩ :: []) (F := [.old 0, .op 21 1, .op 26 1, .op 28 0]) hst hb Zb
   (o_p rfl (Za rfl rfl u_0) <| o_p rfl (Zm7 Tryz.underlying43 rfl rfl u_0 Zyp) <| o_p rfl (Za rfl rfl u_0) <| o_g (g_f rfl rfl rfl (fun hG => Za rfl rfl u_0)) <| o_g (g_f rfl rfl rfl (fun hG => Zm7 Tryz.underlying43 rfl rfl (Opd.gd hG u_0) Zyp)) <| o_p rfl (Zbu rfl rfl u_0 (fun hz => (Opd.gd (bNF hz) u_1))) <| o_p rfl (Za rfl rfl u_0) <| o_g (g_f rfl rfl rfl (fun hG => Za rfl rfl u_0)) <| o_g (OT.guardMR (!(false || false)) (gF (false || false)).1 (gF (false || false)).2 rfl rfl rfl (by decide) u_1 (fun hG => Zf0 Z1p (Zk0 _ (Zbq h10 hG)) rfl rfl rfl (by decide) u_1 (Opd.gd hG u_0) .nil) (ite_self _).symm) <| o_p rfl (Zbu rfl rfl u_0 (fun hz => (Opd.gd (bNF hz) u_1))) <| o_p rfl (Za rfl rfl u_0) <| o_g (g_f rfl rfl rfl (fun hG => Za rfl rfl u_0)) <| o_g (OT.guardMR (!((false || false) || r9)) (gF ((false || false) || r9)).1 (gF ((false || false) || r9)).2 rfl rfl rfl (by decide) u_1 (fun hG => Zf0 Zwu (Zi2 _ (Zbq h12 hG)) rfl rfl rfl (by decide) u_1 (Opd.gd hG u_0) .nil) rfl) <| o_g (g_f rfl rfl rfl (fun hG => Zcg rfl rfl (Opd.gd hG u_0))) <| o_p rfl (Zbu rfl rfl u_0 (fun hz => (Opd.gd (bNF hz) u_1))) <| o_p rfl (Za rfl rfl u_0) <| o_g (g_f rfl rfl rfl (fun hG => Za rfl rfl u_0)) <| o_g (OT.guardMR (!(((false || false) || r9) || (!r11.2))) (gF (((false || false) || r9) || (!r11.2))).1 (gF (((false || false) || r9) || (!r11.2))).2 rfl rfl rfl (by decide) u_1 (fun hG => Zf0 Zwu (Zi2 _ (Zbq h14 hG)) rfl rfl rfl (by decide) u_1 (Opd.gd hG u_0) .nil) rfl) <| o_p rfl (Zbu rfl rfl u_0 (fun hz => (Opd.gd (bNF hz) u_1))) <| o_p rfl (Za rfl rfl u_0) <| o_g (g_f rfl rfl rfl (fun hG => Za rfl rfl u_0)) <| o_g (OT.guardMR (!((((false || false) || r9) || (!r11.2)) || r13.2)) (gF ((((false || false) || r9) || (!r11.2)) || r13.2)).1 (gF ((((false || false) || r9) || (!r11.2)) || r13.2)).2 rfl rfl rfl (by decide) u_1 (fun hG => Zf0 Z1p (Zk0 _ (Zbq h16 hG)) rfl rfl rfl (by decide) u_1 (Opd.gd hG u_0) .nil) (ite_self _).symm) <| o_g (g_f rfl rfl rfl (fun hG => Zcg rfl rfl (Opd.gd hG u_0))) <| o_p rfl (Zbu rfl rfl u_0 (fun hz => (Opd.gd (bNF hz) u_1))) <| o_p rfl (Za rfl rfl u_0) <| o_g (g_f rfl rfl rfl (fun hG => Za rfl rfl u_0)) <| o_g (OT.guardMR (!(((((false || false) || r9) || (!r11.2)) || r13.2) || (!r15))) (gF (((((false || false) || r9) || (!r11.2)) || r13.2) || (!r15))).1 (gF (((((false || false) || r9) || (!r11.2)) || r13.2) || (!r15))).2 rfl rfl rfl (by decide) u_1 (fun hG => Zf0 Zwu (Zi2 _ (Zbq h18 hG)) rfl rfl rfl (by decide) u_1 (Opd.gd hG u_0) .nil) rfl) <| o_g (g_f rfl rfl rfl (fun hG => Zcg rfl rfl (Opd.gd hG u_0))) <| o_p rfl (Zbu rfl rfl u_0 (fun hz => (Opd.gd (bNF hz) u_1))) <| o_n) (by kernel_rfl) (fun a g hst hb => ?_)
 refine wp_cond_split (hst.bool 3 rfl) (fun hc19 => ?_) (fun hc19 => ?_)
 · replace H0 := Zz hc19 H0
   refine r_s (L := []) (T := [⟨[], _, [], [], [0]⟩]) (F := [.op 0 0]) (hst.pick [] rfl) hb Zb
     (o_p rfl (Zc rfl rfl c_b) <| o_n) (by kernel_rfl) (fun a g hst hb => ?_)
   refine wp_ret ?_
   refine Zt ?_
   obtain rfl := Option.some.inj H0
   exact Z8 rfl hst hb (Zk (s := 0)) (hst.at 0 rfl)
 · replace H0 := Z0 hc19 H0
   refine wp_skip ?_
   refine Zv ?_
   obtain ⟨r20, h21, H0⟩ := Zg H0
   refine r_s (L := [(1, _), (4, _), (5, _)]) (T := [⟨[.old 1], [(64, (Zco none Zci 29 (if (!(((false || false) || r9) || (!r11.2))) = true then r13.1 else (if (!((false || false) || r9)) = true then r11.1 else r5))))], [], [], [64]⟩, ⟨[.old 0], _, [], [], [65]⟩, ⟨[.op 0 0, .op 1 0, .old 1], [(66, (pTup [(Zw.pd r20.1), (Zy.sl.pd r20.2)])), (4, (Zco none Zci 29 (if (!(((false || false) || r9) || (!r11.2))) = true then r13.1 else (if (!((false || false) || r9)) = true then r11.1 else r5))))], [30, 1000030], [0, 1], [4, 64, 66]⟩, ⟨[.op 2 0], _, [], [0, 1, 2], [63]⟩, ⟨[.op 3 0], _, [], Lr 4, [67]⟩, ⟨[.op 3 0], _, [], Lr 4, [68]⟩, ⟨[], [(6, (pBox Zw 6 (default : Zl)))], [7], [], [6]⟩, ⟨[.op 4 0, .op 6 0], _, [7], [0, 1, 2, 3, 4, 6], [6]⟩, ⟨[.op 5 0], _, [], Lr 8, [7]⟩]) (F := [.old 0, .old 2, .op 7 0, .op 8 0]) (hst.pick [0, 1, 2] rfl) hb Zb
     (o_p rfl (Za rfl rfl u_0) <| o_p rfl (Zck Zbn rfl rfl u_0) <| o_p rfl (Zf0 Z0w (Zj0 _ _ h21) rfl rfl rfl (by decide) u_2 u_0 (.cons u_1 .nil)) <| o_p rfl (Za rfl rfl u_0) <| o_p rfl (Z4 rfl rfl u_0 rfl) <| o_p rfl (Z4 rfl rfl u_0 rfl) <| o_p rfl (Zbk (zs := [.pointer none, .int .i64 0]) (by kernel_rfl) (fun g => Zdq g) rfl rfl) <| o_p rfl (Zcb Zbn rfl rfl u_1 u_0) <| o_p rfl (Zc rfl rfl u_0) <| o_n) (by kernel_rfl) (fun a g hst hb => ?_)
   obtain ⟨r22, h23, H0⟩ := Zg H0
   refine r_s (T := [⟨[.old 1], [(70, (Zco none Zci 33 (if (!(((((false || false) || r9) || (!r11.2)) || r13.2) || (!r15))) = true then r17.1 else r7)))], [], [], [70]⟩, ⟨[.old 0], _, [], [], [71]⟩, ⟨[.op 0 0, .op 1 0, .old 1], [(72, (pTup [(Zw.pd r22.1), (Zy.sl.pd r22.2)])), (5, (Zco none Zci 33 (if (!(((((false || false) || r9) || (!r11.2)) || r13.2) || (!r15))) = true then r17.1 else r7)))], [34, 1000034], [0, 1], [5, 70, 72]⟩, ⟨[.op 2 0], _, [], [0, 1, 2], [69]⟩, ⟨[.op 3 0], _, [], Lr 4, [73]⟩, ⟨[.op 3 0], _, [], Lr 4, [74]⟩, ⟨[], [(8, (pBox Zw 8 (default : Zl)))], [9], [], [8]⟩, ⟨[.op 4 0, .op 6 0], _, [9], [0, 1, 2, 3, 4, 6], [8]⟩, ⟨[.op 5 0], _, [], Lr 8, [9]⟩]) (F := [.old 0, .op 2 1, .old 2, .old 3, .op 7 0, .op 8 0]) hst hb Zb
     (o_p rfl (Za rfl rfl u_0) <| o_p rfl (Zck Zbn rfl rfl u_0) <| o_p rfl (Zf0 Z0w (Zj0 _ _ h23) rfl rfl rfl (by decide) u_2 u_0 (.cons u_1 .nil)) <| o_p rfl (Za rfl rfl u_0) <| o_p rfl (Z4 rfl rfl u_0 rfl) <| o_p rfl (Z4 rfl rfl u_0 rfl) <| o_p rfl (Zbk (zs := [.pointer none, .int .i64 0]) (by kernel_rfl) (fun g => Zdq g) rfl rfl) <| o_p rfl (Zcb Zbn rfl rfl u_1 u_0) <| o_p rfl (Zc rfl rfl u_0) <| o_n) (by kernel_rfl) (fun a g hst hb => ?_)
   obtain ⟨r24, h25, H0⟩ := Zg H0
   refine r_s (T := [⟨[.old 2], _, [], [], [76]⟩, ⟨[.op 0 0], _, [], [0], [77]⟩, ⟨[.op 1 0], _, [], [0, 1], [75]⟩, ⟨[.op 2 0], _, [], [0, 1, 2], [78]⟩, ⟨[.op 2 0], _, [], [0, 1, 2], [79]⟩, ⟨[], [(10, (pBox Zh 10 (default : Zd)))], [11], [], [10]⟩, ⟨[.op 3 0, .op 5 0], _, [11], [0, 1, 2, 3, 5], [10]⟩, ⟨[.op 4 0], _, [], Lr 7, [11]⟩]) (F := [.old 0, .old 1, .old 3, .old 4, .old 5, .op 6 0]) hst hb Zb
     (o_p rfl (Zf Zbn rfl rfl u_0) <| o_p rfl (Zq Zrv (Zfv _ _ h25) rfl rfl (.cons u_0 (.cons c_s .nil))) <| o_p rfl (Za rfl rfl u_0) <| o_p rfl (Z4 rfl rfl u_0 rfl) <| o_p rfl (Z4 rfl rfl u_0 rfl) <| o_p rfl (Zbk (zs := [.int .i64 0, .int .i64 0, .int .i64 0, .int .i64 0, .float .f64 0, .int .i64 0, .string ByteArray.empty, .slice none 0 0]) (by kernel_rfl) (fun g => Zcd g) rfl rfl) <| o_p rfl (Zcb Zbh rfl rfl u_1 u_0) <| o_p rfl (Zc rfl rfl u_0) <| o_n) (by kernel_rfl) (fun a g hst hb => ?_)
   obtain ⟨r26, h27, H0⟩ := Zg H0
   refine r_s (T := [⟨[.old 1], [(81, (Zco none Zci 33 (if (!(((((false || false) || r9) || (!r11.2)) || r13.2) || (!r15))) = true then r17.1 else r7)))], [], [], [81]⟩, ⟨[.op 0 0, .old 1], [(82, (pTup [(Zcj.pd r26.1), (Zbe r26.2)])), (5, (Zco none Zci 33 (if (!(((((false || false) || r9) || (!r11.2)) || r13.2) || (!r15))) = true then r17.1 else r7)))], [34, 1000034], [0], [5, 81, 82]⟩, ⟨[.op 1 0], _, [], [0, 1], [80]⟩, ⟨[.op 2 0], _, [], [0, 1, 2], [83]⟩, ⟨[.op 2 0], _, [], [0, 1, 2], [84]⟩, ⟨[], [(12, (pBox Zcj 12 (default : Z6)))], [13], [], [12]⟩, ⟨[.op 3 0, .op 5 0], _, [13], [0, 1, 2, 3, 5], [12]⟩, ⟨[.op 4 0], _, [], Lr 7, [13]⟩]) (F := [.old 0, .old 2, .old 3, .old 4, .old 5, .op 6 0, .op 7 0]) hst hb Zb
     (o_p rfl (Za rfl rfl u_0) <| o_p rfl (Zf0 Z5z (Zl9 _ h27) rfl rfl rfl (by decide) u_1 u_0 .nil) <| o_p rfl (Za rfl rfl u_0) <| o_p rfl (Z4 rfl rfl u_0 rfl) <| o_p rfl (Z4 rfl rfl u_0 rfl) <| o_p rfl (Zbk (zs := [.int .i64 0, .int .i64 0, .slice none 0 0]) (by kernel_rfl) (fun g => Zlb g) rfl rfl) <| o_p rfl (Zcb Znn rfl rfl u_1 u_0) <| o_p rfl (Zc rfl rfl u_0) <| o_n) (by kernel_rfl) (fun a g hst hb => ?_)
   obtain ⟨r28, h29, H0⟩ := Zg H0
   refine r_s (T := ⟨[.old 1], _, [], [], [85]⟩ :: ⟨[.op 0 0], _, [], [0], [86]⟩ :: ⟨[.op 1 0], _, [], [0, 1], [87]⟩ :: ⟨[.op 2 0], _, [], [0, 1, 2], [88]⟩ :: ⟨[.op 3 0, .old 4], _, [], Lr 4, [89]⟩ :: ⟨[.op 3 0, .op 4 0], _, [], Lr 5, [90]⟩ :: ⟨[.op 3 0, .op 5 0], _, [], Lr 6, [91]⟩ :: ⟨[.op 3 0, .op 6 0], _, [], Lr 7, [92]⟩ :: ⟨[.op 7 0], _, [], Lr 8, [93]⟩ :: ⟨[.op 8 0, .old 0], _, [], Lr 9, [94]⟩ :: ⟨[.op 8 0, .old 2], _, [], Lr 9, [95]⟩ :: ⟨[.op 8 0, .op 9 0, .op 10 0], _, [], Lr 11, [96]⟩ :: ⟨[.op 8 0, .op 11 0], _, [], Lr 12, [97]⟩ :: ⟨[.op 12 0], _, [], Lr 13, [98]⟩ :: ⟨[.op 13 0, .old 3], _, [], Lr 14, [99]⟩ :: ⟨[.op 13 0, .op 14 0], _, [], Lr 15, [100]⟩ :: ⟨[.op 13 0, .op 15 0], _, [], Lr 16, [101]⟩ :: ⟨[.op 13 0, .op 16 0], _, [], Lr 17, [102]⟩ :: ⟨[.op 17 0], _, [], Lr 18, [103]⟩ :: ⟨[.op 18 0, .old 6], _, [], Lr 19, [104]⟩ :: ⟨[.op 18 0, .op 19 0], _, [], Lr 20, [105]⟩ :: ⟨[.op 20 0], _, [], Lr 21, [106]⟩ :: ⟨[.op 21 0, .old 5], _, [], Lr 22, [107]⟩ :: ⟨[.op 21 0, .op 22 0], _, [], Lr 23, [108]⟩ :: ⟨[.op 21 0, .op 23 0], _, [], Lr 24, [109]⟩ :: ⟨[.op 21 0, .op 24 0], _, [], Lr 25, [110]⟩ :: ⟨[.op 21 0, .op 25 0], _, [], Lr 26, [111]⟩ :: ⟨[.op 26 0], _, [], Lr 27, [0]⟩ :: []) (F := [.op 27 0]) hst hb Zb
     (o_p rfl (Za rfl rfl u_0) <| o_p rfl (Zce Tryz.underlying23 rfl rfl u_0) <| o_p rfl (Zb1 rfl rfl u_0 c_i) <| o_p rfl (Za rfl rfl u_0) <| o_g (g_t rfl rfl rfl (fun hG => Ze Zem rfl rfl u_0)) <| o_g (g_t rfl rfl rfl (fun hG => Zf ty_2 rfl rfl (Opd.gd hG u_0))) <| o_g (g_t rfl rfl rfl (fun hG => Zb1 rfl rfl (Opd.gd hG u_0) c_i)) <| o_p rfl (Zbm rfl rfl u_0 (fun hz => (Opd.gd hz u_1))) <| o_p rfl (Za rfl rfl u_0) <| o_g (g_t rfl rfl rfl (fun hG => Zck Zbn rfl rfl u_0)) <| o_g (g_t rfl rfl rfl (fun hG => Zf Zbn rfl rfl u_0)) <| o_g (g_t rfl rfl rfl (fun hG => Zq Z5v (Zp9 _ _ (Zbq h29 hG)) rfl rfl (.cons (Opd.gd hG u_0) (.cons (Opd.gd hG u_1) .nil)))) <| o_p rfl (Zbm rfl rfl u_0 (fun hz => (Opd.gd hz u_1))) <| o_p rfl (Za rfl rfl u_0) <| o_g (g_t rfl rfl rfl (fun hG => Za rfl rfl u_0)) <| o_g (g_t rfl rfl rfl (fun hG => Zce Tryz.underlying23 rfl rfl (Opd.gd hG u_0))) <| o_g (g_t rfl rfl rfl (fun hG => Zb1 rfl rfl (Opd.gd hG u_0) c_i)) <| o_p rfl (Zbm rfl rfl u_0 (fun hz => (Opd.gd hz u_1))) <| o_p rfl (Za rfl rfl u_0) <| o_g (g_t rfl rfl rfl (fun hG => Za rfl rfl u_0)) <| o_p rfl (Zbm rfl rfl u_0 (fun hz => (Opd.gd hz u_1))) <| o_p rfl (Za rfl rfl u_0) <| o_g (g_t rfl rfl rfl (fun hG => Ze Zu6 rfl rfl u_0)) <| o_g (g_t rfl rfl rfl (fun hG => Zf Z5u rfl rfl (Opd.gd hG u_0))) <| o_g (g_t rfl rfl rfl (fun hG => Zce Tryz.underlying47 rfl rfl (Opd.gd hG u_0))) <| o_g (g_t rfl rfl rfl (fun hG => Zb1 rfl rfl (Opd.gd hG u_0) c_i)) <| o_p rfl (Zbm rfl rfl u_0 (fun hz => (Opd.gd hz u_1))) <| o_p rfl (Zc rfl rfl u_0) <| o_n) (by kernel_rfl) (fun a g hst hb => ?_)
   refine wp_ret ?_
   obtain rfl := Option.some.inj H0
   exact Z8 rfl hst hb (Zk (s := 0)) (hst.at 0 rfl)
theorem Zmw (a0 : Zd) {r : Int} (h : Zhf a0 = some r) : FnOk Tryz.prog 31 [(Zh.pd a0)] (pInt .i64 r) := by
 have H0 := h
 unfold Zhf at H0
 clear h
 refine Zbv (N := 27) Tryz.func31 rfl rfl (Nat.le_of_ble_eq_true rfl) rfl rfl (fun a g0 hst hb => ?_)
 refine r_s (T := [⟨[.old 0], _, [], [], [1]⟩, ⟨[], _, [], [], [2]⟩]) (F := [.op 0 0]) hst hb Zb
   (o_p rfl (Zbr rfl rfl u_0) <| o_p rfl (Zc rfl rfl c_i) <| o_n) (by kernel_rfl) (fun a g hst hb => ?_)
 refine wp_seq ?_
 refine r_s (T := [⟨[.old 0], _, [], [], [5]⟩, ⟨[.op 0 0], _, [], [0], [6]⟩, ⟨[.op 1 0], _, [], [0, 1], [7]⟩, ⟨[.op 2 0], _, [], [0, 1, 2], [8]⟩, ⟨[.op 3 0], _, [], Lr 4, [9]⟩, ⟨[.op 4 0, .old 0], _, [], Lr 5, [10]⟩, ⟨[.op 4 0, .op 5 0], _, [], Lr 6, [11]⟩, ⟨[.op 4 0, .op 6 0], _, [], Lr 7, [12]⟩, ⟨[.op 4 0, .op 7 0], _, [], Lr 8, [13]⟩, ⟨[.op 4 0, .op 8 0], _, [], Lr 9, [14]⟩]) (F := [.old 0, .op 9 0]) hst hb Zb
   (o_p rfl (Ze Zdp rfl rfl u_0) <| o_p rfl (Zf Ze9 rfl rfl u_0) <| o_p rfl (Zce Tryz.underlying36 rfl rfl u_0) <| o_p rfl (Zcy rfl rfl u_0 c_i) <| o_p rfl (Za rfl rfl u_0) <| o_g (g_f rfl rfl rfl (fun hG => Ze Zkp rfl rfl u_0)) <| o_g (g_f rfl rfl rfl (fun hG => Zf ty_9 rfl rfl (Opd.gd hG u_0))) <| o_g (g_f rfl rfl rfl (fun hG => Zf9 Tryz.underlying9 rfl rfl (Opd.gd hG u_0))) <| o_g (g_f rfl rfl rfl (fun hG => Zcy rfl rfl (Opd.gd hG u_0) c_i)) <| o_p rfl (Zbu rfl rfl u_0 (fun hz => (Opd.gd (bNF hz) u_1))) <| o_n) (by kernel_rfl) (fun a g hst hb => ?_)
 refine wp_cond_split (hst.bool 1 rfl) (fun hc1 => ?_) (fun hc1 => ?_)
 · replace H0 := Zz hc1 H0
   refine r_s (L := []) (T := [⟨[], _, [], [], [2]⟩]) (F := [.op 0 0]) (hst.pick [] rfl) hb Zb
     (o_p rfl (Zc rfl rfl c_i) <| o_n) (by kernel_rfl) (fun a g hst hb => ?_)
   refine wp_ret ?_
   refine Zt ?_
   obtain rfl := Option.some.inj H0
   exact Z8 rfl hst hb (Zk (s := 2)) (hst.at 0 rfl)
 · replace H0 := Z0 hc1 H0
   refine wp_skip ?_
   refine Zv ?_
   refine wp_seq ?_
   refine r_s (L := [(1, _)]) (T := [⟨[.old 0], _, [], [], [15]⟩, ⟨[.op 0 0], _, [], [0], [16]⟩, ⟨[.op 1 0], _, [], [0, 1], [17]⟩, ⟨[], _, [], [], [18]⟩]) (F := [.op 1 0, .op 2 0, .op 3 0]) (hst.pick [0] rfl) hb Zb
     (o_p rfl (Ze Zdp rfl rfl u_0) <| o_p rfl (Zf Ze9 rfl rfl u_0) <| o_p rfl (Zce Tryz.underlying36 rfl rfl u_0) <| o_p rfl (Za rfl rfl c_i) <| o_n) (by kernel_rfl) (fun a g hst hb => ?_)
   obtain ⟨z7, hz1, H0⟩ := Zg H0
   refine Zcs (fun a w => ∃ (g : G), w = g.w ∧ St 27 [] a g ∧ Base g0 g ∧ (.inr ()) = z7) ?_ ?_
   · rintro a w ⟨g, rfl, hst, hb, rfl⟩
     refine Zv ?_
     refine r_s (T := [⟨[], _, [], [], [2]⟩]) (F := [.op 0 0]) hst hb Zb
       (o_p rfl (Zc rfl rfl c_i) <| o_n) (by kernel_rfl) (fun a g hst hb => ?_)
     refine wp_ret ?_
     obtain rfl := Option.some.inj H0
     exact Z8 rfl hst hb (Zk (s := 2)) (hst.at 0 rfl)
   · refine wp_block ?_
     refine wp_loop_ghost (fun n a w => ∃ (x2 : Int) (g : G), w = g.w ∧ St 27 [(16, (Zx.sl.pd a0.List)), (17, (pInt .i64 (a0.List.length : Int))), (18, (pInt .i64 x2))] a g ∧ Base g0 g ∧ Zej a0 n x2 = some z7) (Int.toNat ((a0.List.length : Int) - (0 : Int)) + 1) ⟨(0 : Int), g, rfl, (hst.pick [0, 1, 2] rfl), hb, hz1⟩ (fun n a w hI => ?_)
     obtain ⟨x2, g, rfl, hst, hb, H1⟩ := hI
     cases n with
     | zero => exact absurd H1 (by simp [Zej])
     | succ n =>
       rw [Zej] at H1
       refine r_s (T := [⟨[.old 2, .old 1], _, [], [], [19]⟩]) (F := [.old 0, .old 1, .old 2, .op 0 0]) hst hb Zb
         (o_p rfl (Zc0 rfl rfl u_0 u_1) <| o_n) (by kernel_rfl) (fun a g hst hb => ?_)
       refine wp_seq ?_
       refine wp_cond_split (hst.bool 3 rfl) (fun hc3 => ?_) (fun hc3 => ?_)
       · replace H1 := Zz hc3 H1
         refine wp_skip ?_
         refine Zv ?_
         refine wp_seq ?_
         refine wp_block ?_
         obtain ⟨e4, h5, H1⟩ := Zg H1
         refine r_s (L := [(16, _), (17, _), (18, _)]) (T := [⟨[.old 0, .old 2], _, [], [], [20]⟩, ⟨[.op 0 0], _, [], [0], [21]⟩, ⟨[], [(4, (pBox Zx 4 (default : Zj)))], [5], [], [4]⟩, ⟨[.op 1 0, .op 2 0], _, [5], [0, 1, 2], [4]⟩]) (F := [.op 3 0, .old 0, .old 1, .old 2]) (hst.pick [0, 1, 2] rfl) hb Zb
           (o_p rfl (Zb4 Tryz.underlying36 Zil rfl rfl u_0 u_1 h5) <| o_p rfl (Zf Ze1 rfl rfl u_0) <| o_p rfl (Zbk (zs := [.float .f64 0, .string ByteArray.empty]) (by kernel_rfl) (fun g => Zju g) rfl rfl) <| o_p rfl (Zcb Ze1 rfl rfl u_1 u_0) <| o_n) (by kernel_rfl) (fun a g hst hb => ?_)
         refine r_s (T := [⟨[.old 0], _, [], [], [22]⟩, ⟨[.op 0 0], _, [], [0], [23]⟩, ⟨[.op 1 0], _, [], [0, 1], [24]⟩, ⟨[.op 2 0], _, [], [0, 1, 2], [25]⟩]) (F := [.old 1, .old 2, .old 3, .op 3 0]) hst hb Zb
           (o_p rfl (Ze Zft rfl rfl u_0) <| o_p rfl (Zf ty_9 rfl rfl u_0) <| o_p rfl (Zf9 Tryz.underlying9 rfl rfl u_0) <| o_p rfl (Zcy rfl rfl u_0 c_i) <| o_n) (by kernel_rfl) (fun a g hst hb => ?_)
         refine wp_cond_split (hst.bool 3 rfl) (fun hc6 => ?_) (fun hc6 => ?_)
         · replace H1 := Zz hc6 H1
           refine r_s (L := []) (T := [⟨[], _, [], [], [2]⟩]) (F := [.op 0 0]) (hst.pick [] rfl) hb Zb
             (o_p rfl (Zc rfl rfl c_i) <| o_n) (by kernel_rfl) (fun a g hst hb => ?_)
           refine wp_ret ?_
           refine Z7 ?_
           refine Zt ?_
           refine Zt ?_
           refine Z7 ?_
           refine Zt ?_
           refine Zt ?_
           obtain rfl := Option.some.inj H1
           obtain rfl := Option.some.inj H0
           exact Z8 rfl hst hb (Zk (s := 2)) (hst.at 0 rfl)
         · replace H1 := Z0 hc6 H1
           refine wp_skip ?_
           refine Zbp ?_
           refine Zv ?_
           refine r_g (L := [(16, _), (17, _), (18, _)]) (T := [⟨[.old 2], _, [], [], [26]⟩, ⟨[.op 0 0], _, [], [0], [18]⟩]) (F := [.old 0, .old 1, .op 1 0]) (hst.pick [0, 1, 2] rfl) hb Zb
             (o_p rfl (Zch rfl rfl u_0 c_i rfl) <| o_p rfl (Za rfl rfl u_0) <| o_n) (by kernel_rfl) (fun a g hst hb => ?_)
           exact ⟨n, Nat.lt_succ_self _, (IntKind.i64.wrap (x2 + (1 : Int))), g, rfl, (hst.pick [0, 1, 2] rfl), hb, H1⟩
       · replace H1 := Z0 hc3 H1
         refine wp_exit ?_
         refine Zca ?_
         refine Zca ?_
         refine Zcv ?_
         exact ⟨g, rfl, (hst.pick [] rfl), hb, Option.some.inj H1⟩
theorem Zj1 (a0 : Nat) {r : Bool} (h : Ze6 a0 = some r) : FnOk Tryz.prog 96 [(pFlt a0)] (Zbe r) := by
 have H0 := h
 unfold Ze6 at H0
 clear h
 refine Zbv (N := 6) Tryz.func96 rfl rfl (Nat.le_of_ble_eq_true rfl) rfl rfl (fun a g0 hst hb => ?_)
 refine r_s (T := [⟨[], _, [], [], [2]⟩]) (F := [.old 0]) hst hb Zb
   (o_p rfl (Zc rfl rfl c_b) <| o_n) (by kernel_rfl) (fun a g hst hb => ?_)
 refine r_s (T := [⟨[.old 0], _, [], [], [3]⟩, ⟨[.old 0], _, [], [], [4]⟩, ⟨[.op 0 0, .op 1 0], _, [], [0, 1], [5]⟩, ⟨[.op 2 0], _, [], [0, 1, 2], [2]⟩]) (F := [.op 3 0]) hst hb Zb
   (o_p rfl (Za rfl rfl u_0) <| o_p rfl (Za rfl rfl u_0) <| o_p rfl (Z0j rfl rfl u_0 u_1) <| o_p rfl (Zc rfl rfl u_0) <| o_n) (by kernel_rfl) (fun a g hst hb => ?_)
 refine wp_ret ?_
 obtain rfl := Option.some.inj H0
 exact Z8 rfl hst hb (Zk (s := 2)) (hst.at 0 rfl)
theorem Zlp (a0 : Nat) {r : Bool} (h : Ze4 a0 = some r) : FnOk Tryz.prog 71 [(pFlt a0)] (Zbe r) := by
 have H0 := h
 unfold Ze4 at H0
 clear h
 refine Zbv (N := 11) Tryz.func71 rfl rfl (Nat.le_of_ble_eq_true rfl) rfl rfl (fun a g0 hst hb => ?_)
 refine r_s (T := [⟨[], _, [], [], [2]⟩]) (F := [.old 0]) hst hb Zb
   (o_p rfl (Zc rfl rfl c_b) <| o_n) (by kernel_rfl) (fun a g hst hb => ?_)
 obtain ⟨r1, h2, H0⟩ := Zg H0
 refine r_s (T := [⟨[.old 0], _, [], [], [3]⟩, ⟨[.op 0 0], _, [], [0], [4]⟩, ⟨[.op 1 0], _, [], [0, 1], [5]⟩, ⟨[.op 2 0], _, [], [0, 1, 2], [6]⟩, ⟨[.op 3 0, .old 0], _, [], Lr 4, [7]⟩, ⟨[.op 3 0, .op 4 0], _, [], Lr 5, [8]⟩, ⟨[.op 3 0, .op 5 0], _, [], Lr 6, [9]⟩, ⟨[.op 3 0, .op 6 0], _, [], Lr 7, [10]⟩, ⟨[.op 7 0], _, [], Lr 8, [2]⟩]) (F := [.op 8 0]) hst hb Zb
   (o_p rfl (Za rfl rfl u_0) <| o_p rfl (Zq Z1n (Zj1 _ h2) rfl rfl (.cons u_0 .nil)) <| o_p rfl (Zcg rfl rfl u_0) <| o_p rfl (Za rfl rfl u_0) <| o_g (g_f rfl rfl rfl (fun hG => Za rfl rfl u_0)) <| o_g (g_f rfl rfl rfl (fun hG => Zrm Zww rfl rfl (Opd.gd hG u_0))) <| o_g (g_f rfl rfl rfl (fun hG => Zb1 rfl rfl (Opd.gd hG u_0) c_i)) <| o_p rfl (Zbu rfl rfl u_0 (fun hz => (Opd.gd (bNF hz) u_1))) <| o_p rfl (Zc rfl rfl u_0) <| o_n) (by kernel_rfl) (fun a g hst hb => ?_)
 refine wp_ret ?_
 obtain rfl := Option.some.inj H0
 exact Z8 rfl hst hb (Zk (s := 2)) (hst.at 0 rfl)
theorem Zlx (a0 : Nat) {r : Bool} (h : Zgb a0 = some r) : FnOk Tryz.prog 98 [(pFlt a0)] (Zbe r) := by
 have H0 := h
 unfold Zgb at H0
 clear h
 refine Zbv (N := 10) Tryz.func98 rfl rfl (Nat.le_of_ble_eq_true rfl) rfl rfl (fun a g0 hst hb => ?_)
 refine r_s (T := [⟨[], _, [], [], [2]⟩]) (F := [.old 0]) hst hb Zb
   (o_p rfl (Zc rfl rfl c_b) <| o_n) (by kernel_rfl) (fun a g hst hb => ?_)
 refine wp_seq ?_
 refine r_s (T := [⟨[.old 0], _, [], [], [3]⟩, ⟨[.op 0 0], _, [], [0], [4]⟩]) (F := [.old 0, .op 1 0]) hst hb Zb
   (o_p rfl (Za rfl rfl u_0) <| o_p rfl (Zuv rfl rfl u_0 c_f) <| o_n) (by kernel_rfl) (fun a g hst hb => ?_)
 refine wp_cond_split (hst.bool 1 rfl) (fun hc1 => ?_) (fun hc1 => ?_)
 · replace H0 := Zz hc1 H0
   obtain ⟨f2, h3, H0⟩ := Zg H0
   refine r_s (L := [(0, _)]) (T := [⟨[.old 0], _, [], [], [5]⟩, ⟨[.op 0 0], _, [], [0], [6]⟩, ⟨[.op 1 0], _, [], [0, 1], [7]⟩, ⟨[.op 2 0], _, [], [0, 1, 2], [2]⟩]) (F := [.op 3 0]) (hst.pick [0] rfl) hb Zb
     (o_p rfl (Za rfl rfl u_0) <| o_p rfl (Z7q rfl rfl c_f u_0 h3) <| o_p rfl (Zuw rfl rfl u_0 c_f) <| o_p rfl (Zc rfl rfl u_0) <| o_n) (by kernel_rfl) (fun a g hst hb => ?_)
   refine wp_ret ?_
   refine Zt ?_
   obtain rfl := Option.some.inj H0
   exact Z8 rfl hst hb (Zk (s := 2)) (hst.at 0 rfl)
 · replace H0 := Z0 hc1 H0
   refine wp_skip ?_
   refine Zv ?_
   refine r_s (L := [(0, _)]) (T := [⟨[.old 0], _, [], [], [8]⟩, ⟨[.op 0 0], _, [], [0], [9]⟩, ⟨[.op 1 0], _, [], [0, 1], [2]⟩]) (F := [.op 2 0]) (hst.pick [0] rfl) hb Zb
     (o_p rfl (Za rfl rfl u_0) <| o_p rfl (Zuw rfl rfl u_0 c_f) <| o_p rfl (Zc rfl rfl u_0) <| o_n) (by kernel_rfl) (fun a g hst hb => ?_)
   refine wp_ret ?_
   obtain rfl := Option.some.inj H0
   exact Z8 rfl hst hb (Zk (s := 2)) (hst.at 0 rfl)
theorem Zjz (a0 : Nat) (a1 : Nat) {r : Bool} (h : Zen a0 a1 = some r) : FnOk Tryz.prog 72 [(pFlt a0), (pFlt a1)] (Zbe r) := by
 have H0 := h
 unfold Zen at H0
 clear h
 refine Zbv (N := 25) Tryz.func72 rfl rfl (Nat.le_of_ble_eq_true rfl) rfl rfl (fun a g0 hst hb => ?_)
 refine r_s (T := [⟨[], _, [], [], [4]⟩]) (F := [.old 0, .old 1]) hst hb Zb
   (o_p rfl (Zc rfl rfl c_b) <| o_n) (by kernel_rfl) (fun a g hst hb => ?_)
 refine wp_seq ?_
 obtain ⟨r1, h2, H0⟩ := Zg H0
 refine r_s (T := [⟨[.old 0], _, [], [], [5]⟩, ⟨[.op 0 0], _, [], [0], [6]⟩]) (F := [.old 0, .old 1, .op 1 0]) hst hb Zb
   (o_p rfl (Za rfl rfl u_0) <| o_p rfl (Zq Z1n (Zj1 _ h2) rfl rfl (.cons u_0 .nil)) <| o_n) (by kernel_rfl) (fun a g hst hb => ?_)
 refine wp_cond_split (hst.bool 2 rfl) (fun hc3 => ?_) (fun hc3 => ?_)
 · replace H0 := Zz hc3 H0
   refine r_s (L := []) (T := [⟨[], _, [], [], [4]⟩]) (F := [.op 0 0]) (hst.pick [] rfl) hb Zb
     (o_p rfl (Zc rfl rfl c_b) <| o_n) (by kernel_rfl) (fun a g hst hb => ?_)
   refine wp_ret ?_
   refine Zt ?_
   obtain rfl := Option.some.inj H0
   exact Z8 rfl hst hb (Zk (s := 4)) (hst.at 0 rfl)
 · replace H0 := Z0 hc3 H0
   refine wp_skip ?_
   refine Zv ?_
   refine wp_seq ?_
   obtain ⟨r4, h5, H0⟩ := Zg H0
   refine r_s (L := [(0, _), (1, _)]) (T := [⟨[.old 1], _, [], [], [7]⟩, ⟨[.op 0 0], _, [], [0], [8]⟩]) (F := [.old 0, .old 1, .op 1 0]) (hst.pick [0, 1] rfl) hb Zb
     (o_p rfl (Za rfl rfl u_0) <| o_p rfl (Zq Z1n (Zj1 _ h5) rfl rfl (.cons u_0 .nil)) <| o_n) (by kernel_rfl) (fun a g hst hb => ?_)
   refine wp_cond_split (hst.bool 2 rfl) (fun hc6 => ?_) (fun hc6 => ?_)
   · replace H0 := Zz hc6 H0
     refine r_s (L := []) (T := [⟨[], _, [], [], [4]⟩]) (F := [.op 0 0]) (hst.pick [] rfl) hb Zb
       (o_p rfl (Zc rfl rfl c_b) <| o_n) (by kernel_rfl) (fun a g hst hb => ?_)
     refine wp_ret ?_
     refine Zt ?_
     obtain rfl := Option.some.inj H0
     exact Z8 rfl hst hb (Zk (s := 4)) (hst.at 0 rfl)
   · replace H0 := Z0 hc6 H0
     refine wp_skip ?_
     refine Zv ?_
     refine wp_seq ?_
     refine r_s (L := [(0, _), (1, _)]) (T := [⟨[.old 0], _, [], [], [9]⟩, ⟨[.op 0 0], _, [], [0], [10]⟩, ⟨[.op 1 0], _, [], [0, 1], [11]⟩, ⟨[.op 2 0, .old 1], _, [], [0, 1, 2], [12]⟩, ⟨[.op 2 0, .op 3 0], _, [], Lr 4, [13]⟩, ⟨[.op 2 0, .op 4 0], _, [], Lr 5, [14]⟩]) (F := [.old 0, .old 1, .op 5 0]) (hst.pick [0, 1] rfl) hb Zb
       (o_p rfl (Za rfl rfl u_0) <| o_p rfl (Zuv rfl rfl u_0 c_f) <| o_p rfl (Za rfl rfl u_0) <| o_g (g_t rfl rfl rfl (fun hG => Za rfl rfl u_0)) <| o_g (g_t rfl rfl rfl (fun hG => Zuv rfl rfl (Opd.gd hG u_0) c_f)) <| o_p rfl (Zbm rfl rfl u_0 (fun hz => (Opd.gd hz u_1))) <| o_n) (by kernel_rfl) (fun a g hst hb => ?_)
     refine wp_cond_split (hst.bool 2 rfl) (fun hc7 => ?_) (fun hc7 => ?_)
     · replace H0 := Zz hc7 H0
       obtain ⟨r8, h9, H0⟩ := Zg H0; obtain ⟨r10, h11, H0⟩ := Zg H0
       refine r_s (L := [(0, _), (1, _)]) (T := [⟨[.old 0], _, [], [], [15]⟩, ⟨[.op 0 0], _, [], [0], [16]⟩, ⟨[.op 1 0], _, [], [0, 1], [17]⟩, ⟨[.op 2 0, .old 1], _, [], [0, 1, 2], [18]⟩, ⟨[.op 2 0, .op 3 0], _, [], Lr 4, [19]⟩, ⟨[.op 2 0, .op 4 0], _, [], Lr 5, [20]⟩, ⟨[.op 2 0, .op 5 0], _, [], Lr 6, [21]⟩, ⟨[.op 6 0], _, [], Lr 7, [4]⟩]) (F := [.op 7 0]) (hst.pick [0, 1] rfl) hb Zb
         (o_p rfl (Za rfl rfl u_0) <| o_p rfl (Zq Z51 (Zlx _ h9) rfl rfl (.cons u_0 .nil)) <| o_p rfl (Za rfl rfl u_0) <| o_g (g_t rfl rfl rfl (fun hG => Za rfl rfl u_0)) <| o_g (g_t rfl rfl rfl (fun hG => Zq Z51 (Zlx _ (Zbq h11 hG)) rfl rfl (.cons (Opd.gd hG u_0) .nil))) <| o_g (g_t rfl rfl rfl (fun hG => Zcg rfl rfl (Opd.gd hG u_0))) <| o_p rfl (Zbm rfl rfl u_0 (fun hz => (Opd.gd hz u_1))) <| o_p rfl (Zc rfl rfl u_0) <| o_n) (by kernel_rfl) (fun a g hst hb => ?_)
       refine wp_ret ?_
       refine Zt ?_
       obtain rfl := Option.some.inj H0
       exact Z8 rfl hst hb (Zk (s := 4)) (hst.at 0 rfl)
     · replace H0 := Z0 hc7 H0
       refine wp_skip ?_
       refine Zv ?_
       refine r_s (L := [(0, _), (1, _)]) (T := [⟨[.old 0], _, [], [], [22]⟩, ⟨[.old 1], _, [], [], [23]⟩, ⟨[.op 0 0, .op 1 0], _, [], [0, 1], [24]⟩, ⟨[.op 2 0], _, [], [0, 1, 2], [4]⟩]) (F := [.op 3 0]) (hst.pick [0, 1] rfl) hb Zb
         (o_p rfl (Za rfl rfl u_0) <| o_p rfl (Za rfl rfl u_0) <| o_p rfl (Zuw rfl rfl u_0 u_1) <| o_p rfl (Zc rfl rfl u_0) <| o_n) (by kernel_rfl) (fun a g hst hb => ?_)
       refine wp_ret ?_
       obtain rfl := Option.some.inj H0
       exact Z8 rfl hst hb (Zk (s := 4)) (hst.at 0 rfl)
theorem Zl7 (a0 : Nat) (a1 : Nat) {r : Bool} (h : Zdr a0 a1 = some r) : FnOk Tryz.prog 49 [(pFlt a0), (pFlt a1)] (Zbe r) := by
 have H0 := h
 unfold Zdr at H0
 clear h
 refine Zbv (N := 15) Tryz.func49 rfl rfl (Nat.le_of_ble_eq_true rfl) rfl rfl (fun a g0 hst hb => ?_)
 refine r_s (T := [⟨[], _, [], [], [4]⟩]) (F := [.old 0, .old 1]) hst hb Zb
   (o_p rfl (Zc rfl rfl c_b) <| o_n) (by kernel_rfl) (fun a g hst hb => ?_)
 obtain ⟨r1, h2, H0⟩ := Zg H0; obtain ⟨r3, h4, H0⟩ := Zg H0
 refine r_s (T := [⟨[.old 0], _, [], [], [5]⟩, ⟨[.old 1], _, [], [], [6]⟩, ⟨[.op 0 0, .op 1 0], _, [], [0, 1], [7]⟩, ⟨[.op 2 0], _, [], [0, 1, 2], [8]⟩, ⟨[.op 3 0], _, [], Lr 4, [9]⟩, ⟨[.op 4 0, .old 1], _, [], Lr 5, [10]⟩, ⟨[.op 4 0, .old 0], _, [], Lr 5, [11]⟩, ⟨[.op 4 0, .op 5 0, .op 6 0], _, [], Lr 7, [12]⟩, ⟨[.op 4 0, .op 7 0], _, [], Lr 8, [13]⟩, ⟨[.op 4 0, .op 8 0], _, [], Lr 9, [14]⟩, ⟨[.op 9 0], _, [], Lr 10, [4]⟩]) (F := [.op 10 0]) hst hb Zb
   (o_p rfl (Za rfl rfl u_0) <| o_p rfl (Za rfl rfl u_0) <| o_p rfl (Zq Z07 (Zjz _ _ h2) rfl rfl (.cons u_0 (.cons u_1 .nil))) <| o_p rfl (Zcg rfl rfl u_0) <| o_p rfl (Za rfl rfl u_0) <| o_g (g_t rfl rfl rfl (fun hG => Za rfl rfl u_0)) <| o_g (g_t rfl rfl rfl (fun hG => Za rfl rfl u_0)) <| o_g (g_t rfl rfl rfl (fun hG => Zq Z07 (Zjz _ _ (Zbq h4 hG)) rfl rfl (.cons (Opd.gd hG u_0) (.cons (Opd.gd hG u_1) .nil)))) <| o_g (g_t rfl rfl rfl (fun hG => Zcg rfl rfl (Opd.gd hG u_0))) <| o_p rfl (Zbm rfl rfl u_0 (fun hz => (Opd.gd hz u_1))) <| o_p rfl (Zc rfl rfl u_0) <| o_n) (by kernel_rfl) (fun a g hst hb => ?_)
 refine wp_ret ?_
 obtain rfl := Option.some.inj H0
 exact Z8 rfl hst hb (Zk (s := 4)) (hst.at 0 rfl)
theorem Zma (a0 : Nat) {r : Bool} (h : Zgu a0 = some r) : FnOk Tryz.prog 103 [(pFlt a0)] (Zbe r) := by
 have H0 := h
 unfold Zgu at H0
 clear h
 refine Zbv (N := 5) Tryz.func103 rfl rfl (Nat.le_of_ble_eq_true rfl) rfl rfl (fun a g0 hst hb => ?_)
 refine r_s (T := [⟨[], _, [], [], [2]⟩]) (F := [.old 0]) hst hb Zb
   (o_p rfl (Zc rfl rfl c_b) <| o_n) (by kernel_rfl) (fun a g hst hb => ?_)
 obtain ⟨r1, h2, H0⟩ := Zg H0
 refine r_s (T := [⟨[.old 0], _, [], [], [3]⟩, ⟨[.op 0 0], _, [], [0], [4]⟩, ⟨[.op 1 0], _, [], [0, 1], [2]⟩]) (F := [.op 2 0]) hst hb Zb
   (o_p rfl (Za rfl rfl u_0) <| o_p rfl (Zq Z5g (Zl7 _ _ h2) rfl rfl (.cons u_0 (.cons c_f .nil))) <| o_p rfl (Zc rfl rfl u_0) <| o_n) (by kernel_rfl) (fun a g hst hb => ?_)
 refine wp_ret ?_
 obtain rfl := Option.some.inj H0
 exact Z8 rfl hst hb (Zk (s := 2)) (hst.at 0 rfl)
theorem Zqg (a0 : Zd) (a1 : ByteArray) {r : Bool} (h : Zh1 a0 a1 = some r) : FnOk Tryz.prog 82 [(Zh.pd a0), (pStr a1)] (Zbe r) := by
 have H0 := h
 unfold Zh1 at H0
 clear h
 refine Zbv (N := 106) Tryz.func82 rfl rfl (Nat.le_of_ble_eq_true rfl) rfl rfl (fun a g0 hst hb => ?_)
 refine r_s (T := [⟨[.old 0], _, [], [], [2]⟩, ⟨[], _, [], [], [4]⟩]) (F := [.old 1, .op 0 0]) hst hb Zb
   (o_p rfl (Zbr rfl rfl u_0) <| o_p rfl (Zc rfl rfl c_b) <| o_n) (by kernel_rfl) (fun a g hst hb => ?_)
 refine r_s (T := [⟨[], _, [], [], [5]⟩, ⟨[], _, [], [0], [6]⟩, ⟨[], _, [], [0, 1], [7]⟩, ⟨[], _, [], [0, 1, 2], [8]⟩, ⟨[], _, [], Lr 4, [9]⟩]) (F := [.old 0, .old 1, .op 0 0, .op 1 0, .op 2 0, .op 3 0, .op 4 0]) hst hb Zb
   (o_p rfl (Zc rfl rfl c_b) <| o_p rfl (Zc rfl rfl c_b) <| o_p rfl (Zc rfl rfl c_b) <| o_p rfl (Zc rfl rfl c_b) <| o_p rfl (Zc rfl rfl c_b) <| o_n) (by kernel_rfl) (fun a g hst hb => ?_)
 refine wp_seq ?_
 refine r_s (T := [⟨[], _, [], [], [10]⟩]) (F := [.old 0, .old 1, .old 2, .old 3, .old 4, .old 5, .old 6, .op 0 0]) hst hb Zb
   (o_p rfl (Zc rfl rfl c_i) <| o_n) (by kernel_rfl) (fun a g hst hb => ?_)
 obtain ⟨z23, hz1, H0⟩ := Zg H0
 refine Zcs (fun a w => ∃ (y18 : Bool) (y19 : Bool) (y20 : Bool) (y21 : Bool) (y22 : Bool) (g : G), w = g.w ∧ St 106 [(2, (Zh.ptr a0)), (5, (Zbe y18)), (6, (Zbe y19)), (7, (Zbe y20)), (8, (Zbe y21)), (9, (Zbe y22))] a g ∧ Base g0 g ∧ (y18, y19, y20, y21, y22) = z23) ?_ ?_
 · rintro a w ⟨y18, y19, y20, y21, y22, g, rfl, hst, hb, rfl⟩
   refine Zv ?_
   refine wp_seq ?_
   refine r_s (T := ⟨[.old 1], _, [], [], [52]⟩ :: ⟨[.op 0 0], _, [], [0], [53]⟩ :: ⟨[.op 1 0], _, [], [0, 1], [54]⟩ :: ⟨[.op 2 0, .old 0], _, [], [0, 1, 2], [55]⟩ :: ⟨[.op 2 0, .op 3 0], _, [], Lr 4, [56]⟩ :: ⟨[.op 2 0, .op 4 0], _, [], Lr 5, [57]⟩ :: ⟨[.op 2 0, .op 5 0], _, [], Lr 6, [58]⟩ :: ⟨[.op 6 0], _, [], Lr 7, [59]⟩ :: ⟨[.op 7 0, .old 2], _, [], Lr 8, [60]⟩ :: ⟨[.op 7 0, .op 8 0], _, [], Lr 9, [61]⟩ :: ⟨[.op 7 0, .op 9 0], _, [], Lr 10, [62]⟩ :: ⟨[.op 10 0, .old 0], _, [], Lr 11, [63]⟩ :: ⟨[.op 10 0, .op 11 0], _, [], Lr 12, [64]⟩ :: ⟨[.op 10 0, .op 12 0], _, [], Lr 13, [65]⟩ :: ⟨[.op 7 0, .op 10 0, .op 13 0], _, [], Lr 14, [66]⟩ :: ⟨[.op 7 0, .op 14 0], _, [], Lr 15, [67]⟩ :: ⟨[.op 15 0], _, [], Lr 16, [68]⟩ :: ⟨[.op 16 0, .old 3], _, [], Lr 17, [69]⟩ :: ⟨[.op 16 0, .op 17 0], _, [], Lr 18, [70]⟩ :: ⟨[.op 16 0, .op 18 0], _, [], Lr 19, [71]⟩ :: ⟨[.op 19 0, .old 0], _, [], Lr 20, [72]⟩ :: ⟨[.op 19 0, .op 20 0], _, [], Lr 21, [73]⟩ :: ⟨[.op 19 0, .op 21 0], _, [], Lr 22, [74]⟩ :: ⟨[.op 16 0, .op 19 0, .op 22 0], _, [], Lr 23, [75]⟩ :: ⟨[.op 16 0, .op 23 0], _, [], Lr 24, [76]⟩ :: ⟨[.op 24 0], _, [], Lr 25, [77]⟩ :: ⟨[.op 25 0, .old 3], _, [], Lr 26, [78]⟩ :: ⟨[.op 25 0, .op 26 0], _, [], Lr 27, [79]⟩ :: ⟨[.op 25 0, .op 27 0], _, [], Lr 28, [80]⟩ :: ⟨[.op 28 0, .old 0], _, [], Lr 29, [81]⟩ :: ⟨[.op 28 0, .op 29 0], _, [], Lr 30, [82]⟩ :: ⟨[.op 28 0, .op 30 0], _, [], Lr 31, [83]⟩ :: ⟨[.op 25 0, .op 28 0, .op 31 0], _, [], Lr 32, [84]⟩ :: ⟨[.op 25 0, .op 32 0], _, [], Lr 33, [85]⟩ :: []) (F := [.old 0, .old 4, .old 5, .op 33 0]) hst hb Zb
     (o_p rfl (Za rfl rfl u_0) <| o_p rfl (Zcg rfl rfl u_0) <| o_p rfl (Za rfl rfl u_0) <| o_g (g_t rfl rfl rfl (fun hG => Ze Zkp rfl rfl u_0)) <| o_g (g_t rfl rfl rfl (fun hG => Zf ty_9 rfl rfl (Opd.gd hG u_0))) <| o_g (g_t rfl rfl rfl (fun hG => Z3a rfl rfl (Opd.gd hG u_0) c_s)) <| o_p rfl (Zbm rfl rfl u_0 (fun hz => (Opd.gd hz u_1))) <| o_p rfl (Za rfl rfl u_0) <| o_g (g_f rfl rfl rfl (fun hG => Za rfl rfl u_0)) <| o_g (g_f rfl rfl rfl (fun hG => Zcg rfl rfl (Opd.gd hG u_0))) <| o_g (g_f rfl rfl rfl (fun hG => Za rfl rfl (Opd.gd hG u_0))) <| o_g (g_ti rfl rfl rfl (fun hG => Ze Zem rfl rfl u_0)) <| o_g (g_ti rfl rfl rfl (fun hG => Zf ty_2 rfl rfl (Opd.gd hG u_0))) <| o_g (g_ti rfl rfl rfl (fun hG => Zg9 rfl rfl (Opd.gd hG u_0) c_i)) <| o_g (g_f rfl rfl rfl (fun hG => Zbm rfl rfl (Opd.gd hG u_0) (fun hz => (Opd.gd (bA hG hz) u_1)))) <| o_p rfl (Zbu rfl rfl u_0 (fun hz => (Opd.gd (bNF hz) u_1))) <| o_p rfl (Za rfl rfl u_0) <| o_g (g_f rfl rfl rfl (fun hG => Za rfl rfl u_0)) <| o_g (g_f rfl rfl rfl (fun hG => Zcg rfl rfl (Opd.gd hG u_0))) <| o_g (g_f rfl rfl rfl (fun hG => Za rfl rfl (Opd.gd hG u_0))) <| o_g (g_ti rfl rfl rfl (fun hG => Ze Zkj rfl rfl u_0)) <| o_g (g_ti rfl rfl rfl (fun hG => Zf ty_2 rfl rfl (Opd.gd hG u_0))) <| o_g (g_ti rfl rfl rfl (fun hG => Zg9 rfl rfl (Opd.gd hG u_0) c_i)) <| o_g (g_f rfl rfl rfl (fun hG => Zbm rfl rfl (Opd.gd hG u_0) (fun hz => (Opd.gd (bA hG hz) u_1)))) <| o_p rfl (Zbu rfl rfl u_0 (fun hz => (Opd.gd (bNF hz) u_1))) <| o_p rfl (Za rfl rfl u_0) <| o_g (g_f rfl rfl rfl (fun hG => Za rfl rfl u_0)) <| o_g (g_f rfl rfl rfl (fun hG => Zcg rfl rfl (Opd.gd hG u_0))) <| o_g (g_f rfl rfl rfl (fun hG => Za rfl rfl (Opd.gd hG u_0))) <| o_g (g_ti rfl rfl rfl (fun hG => Ze Zkt rfl rfl u_0)) <| o_g (g_ti rfl rfl rfl (fun hG => Zf ty_2 rfl rfl (Opd.gd hG u_0))) <| o_g (g_ti rfl rfl rfl (fun hG => Zg9 rfl rfl (Opd.gd hG u_0) c_i)) <| o_g (g_f rfl rfl rfl (fun hG => Zbm rfl rfl (Opd.gd hG u_0) (fun hz => (Opd.gd (bA hG hz) u_1)))) <| o_p rfl (Zbu rfl rfl u_0 (fun hz => (Opd.gd (bNF hz) u_1))) <| o_n) (by kernel_rfl) (fun a g hst hb => ?_)
   refine wp_cond_split (hst.bool 3 rfl) (fun hc24 => ?_) (fun hc24 => ?_)
   · replace H0 := Zz hc24 H0
     refine r_s (L := []) (T := [⟨[], _, [], [], [4]⟩]) (F := [.op 0 0]) (hst.pick [] rfl) hb Zb
       (o_p rfl (Zc rfl rfl c_b) <| o_n) (by kernel_rfl) (fun a g hst hb => ?_)
     refine wp_ret ?_
     refine Zt ?_
     obtain rfl := Option.some.inj H0
     exact Z8 rfl hst hb (Zk (s := 4)) (hst.at 0 rfl)
   · replace H0 := Z0 hc24 H0
     refine wp_skip ?_
     refine Zv ?_
     obtain ⟨r25, h26, H0⟩ := Zg H0
     refine r_s (L := [(2, _), (8, _), (9, _)]) (T := ⟨[.old 1], _, [], [], [86]⟩ :: ⟨[.op 0 0], _, [], [0], [87]⟩ :: ⟨[.op 1 0, .old 0], _, [], [0, 1], [88]⟩ :: ⟨[.op 1 0, .op 2 0], _, [], [0, 1, 2], [89]⟩ :: ⟨[.op 1 0, .op 3 0], _, [], Lr 4, [90]⟩ :: ⟨[.op 1 0, .op 4 0], _, [], Lr 5, [91]⟩ :: ⟨[.op 5 0], _, [], Lr 6, [92]⟩ :: ⟨[.op 6 0, .old 2], _, [], Lr 7, [93]⟩ :: ⟨[.op 6 0, .op 7 0], _, [], Lr 8, [94]⟩ :: ⟨[.op 8 0, .old 0], _, [], Lr 9, [95]⟩ :: ⟨[.op 8 0, .op 9 0], _, [], Lr 10, [96]⟩ :: ⟨[.op 8 0, .op 10 0], _, [], Lr 11, [97]⟩ :: ⟨[.op 8 0, .op 11 0], _, [], Lr 12, [98]⟩ :: ⟨[.op 12 0, .old 0], _, [], Lr 13, [99]⟩ :: ⟨[.op 12 0, .op 13 0], _, [], Lr 14, [100]⟩ :: ⟨[.op 12 0, .op 14 0], _, [], Lr 15, [101]⟩ :: ⟨[.op 12 0, .op 15 0], _, [], Lr 16, [102]⟩ :: ⟨[.op 8 0, .op 12 0, .op 16 0], _, [], Lr 17, [103]⟩ :: ⟨[.op 6 0, .op 8 0, .op 17 0], _, [], Lr 18, [104]⟩ :: ⟨[.op 6 0, .op 18 0], _, [], Lr 19, [105]⟩ :: ⟨[.op 19 0], _, [], Lr 20, [4]⟩ :: []) (F := [.op 20 0]) (hst.pick [0, 1, 2] rfl) hb Zb
       (o_p rfl (Za rfl rfl u_0) <| o_p rfl (Za rfl rfl u_0) <| o_g (g_f rfl rfl rfl (fun hG => Ze Zlo rfl rfl u_0)) <| o_g (g_f rfl rfl rfl (fun hG => Zf Zfg rfl rfl (Opd.gd hG u_0))) <| o_g (g_f rfl rfl rfl (fun hG => Zq Z27 (Zma _ (Zbq h26 hG)) rfl rfl (.cons (Opd.gd hG u_0) .nil))) <| o_p rfl (Zbu rfl rfl u_0 (fun hz => (Opd.gd (bNF hz) u_1))) <| o_p rfl (Za rfl rfl u_0) <| o_g (g_t rfl rfl rfl (fun hG => Za rfl rfl u_0)) <| o_g (g_t rfl rfl rfl (fun hG => Za rfl rfl (Opd.gd hG u_0))) <| o_g (g_fi rfl rfl rfl (fun hG => Ze Zh7 rfl rfl u_0)) <| o_g (g_fi rfl rfl rfl (fun hG => Zf ty_3 rfl rfl (Opd.gd hG u_0))) <| o_g (g_fi rfl rfl rfl (fun hG => Zb1 rfl rfl (Opd.gd hG u_0) c_i)) <| o_g (g_fi rfl rfl rfl (fun hG => Za rfl rfl (Opd.gd hG u_0))) <| o_g (g_ti rfl rfl rfl (fun hG => Ze Zdp rfl rfl u_0)) <| o_g (g_ti rfl rfl rfl (fun hG => Zf Ze9 rfl rfl (Opd.gd hG u_0))) <| o_g (g_ti rfl rfl rfl (fun hG => Zce Tryz.underlying36 rfl rfl (Opd.gd hG u_0))) <| o_g (g_ti rfl rfl rfl (fun hG => Zb1 rfl rfl (Opd.gd hG u_0) c_i)) <| o_g (g_fi rfl rfl rfl (fun hG => Zbm rfl rfl (Opd.gd hG u_0) (fun hz => (Opd.gd (bA hG hz) u_1)))) <| o_g (g_t rfl rfl rfl (fun hG => Zbu rfl rfl (Opd.gd hG u_0) (fun hz => (Opd.gd (bA hG (bNF hz)) u_1)))) <| o_p rfl (Zbm rfl rfl u_0 (fun hz => (Opd.gd hz u_1))) <| o_p rfl (Zc rfl rfl u_0) <| o_n) (by kernel_rfl) (fun a g hst hb => ?_)
     refine wp_ret ?_
     obtain rfl := Option.some.inj H0
     exact Z8 rfl hst hb (Zk (s := 4)) (hst.at 0 rfl)
 · refine wp_block ?_
   refine wp_loop_ghost (fun n a w => ∃ (x1 : Bool) (x2 : Bool) (x3 : Bool) (x4 : Bool) (x5 : Bool) (x6 : Int) (g : G), w = g.w ∧ St 106 [(1, (pStr a1)), (2, (Zh.ptr a0)), (5, (Zbe x1)), (6, (Zbe x2)), (7, (Zbe x3)), (8, (Zbe x4)), (9, (Zbe x5)), (10, (pInt .i64 x6))] a g ∧ Base g0 g ∧ Zcr a1 n x1 x2 x3 x4 x5 x6 = some z23) (Int.toNat ((a1.size : Int) - (0 : Int)) + 1) ⟨false, false, false, false, false, (0 : Int), g, rfl, (hst.pick [0, 1, 2, 3, 4, 5, 6, 7] rfl), hb, hz1⟩ (fun n a w hI => ?_)
   obtain ⟨x1, x2, x3, x4, x5, x6, g, rfl, hst, hb, H1⟩ := hI
   cases n with
   | zero => exact absurd H1 (by simp [Zcr])
   | succ n =>
     rw [Zcr] at H1
     refine wp_seq ?_
     refine r_s (T := [⟨[.old 7], _, [], [], [11]⟩, ⟨[.old 0], _, [], [], [12]⟩, ⟨[.op 1 0], _, [], [1], [13]⟩, ⟨[.op 0 0, .op 2 0], _, [], [0, 1, 2], [14]⟩]) (F := [.old 0, .old 1, .old 2, .old 3, .old 4, .old 5, .old 6, .old 7, .op 3 0]) hst hb Zb
       (o_p rfl (Za rfl rfl u_0) <| o_p rfl (Za rfl rfl u_0) <| o_p rfl (Zf9 Tryz.underlying9 rfl rfl u_0) <| o_p rfl (Zc0 rfl rfl u_0 u_1) <| o_n) (by kernel_rfl) (fun a g hst hb => ?_)
     refine wp_cond_split (hst.bool 8 rfl) (fun hc7 => ?_) (fun hc7 => ?_)
     · replace H1 := Zz hc7 H1
       refine wp_skip ?_
       refine Zv ?_
       refine wp_seq ?_
       refine wp_block ?_
       obtain ⟨b8, h9, H1⟩ := Zg H1
       refine r_s (L := [(1, _), (2, _), (5, _), (6, _), (7, _), (8, _), (9, _), (10, _)]) (T := [⟨[.old 2], _, [], [], [17]⟩, ⟨[.op 0 0], _, [], [0], [18]⟩, ⟨[.op 1 0, .old 0], _, [], [0, 1], [19]⟩, ⟨[.op 1 0, .old 7], _, [], [0, 1], [20]⟩, ⟨[.op 1 0, .op 2 0, .op 3 0], _, [], Lr 4, [21]⟩, ⟨[.op 1 0, .op 4 0], _, [], Lr 5, [22]⟩, ⟨[.op 1 0, .op 5 0], _, [], Lr 6, [23]⟩, ⟨[.op 6 0], _, [], Lr 7, [5]⟩]) (F := [.old 0, .old 1, .op 7 0, .old 3, .old 4, .old 5, .old 6, .old 7]) (hst.pick [0, 1, 2, 3, 4, 5, 6, 7] rfl) hb Zb
         (o_p rfl (Za rfl rfl u_0) <| o_p rfl (Za rfl rfl u_0) <| o_g (g_f rfl rfl rfl (fun hG => Za rfl rfl u_0)) <| o_g (g_f rfl rfl rfl (fun hG => Za rfl rfl u_0)) <| o_g (g_f rfl rfl rfl (fun hG => Zns Tryz.underlying9 rfl rfl (Opd.gd hG u_0) (Opd.gd hG u_1) (Zbq h9 hG))) <| o_g (g_f rfl rfl rfl (fun hG => Zb1 rfl rfl (Opd.gd hG u_0) c_i)) <| o_p rfl (Zbu rfl rfl u_0 (fun hz => (Opd.gd (bNF hz) u_1))) <| o_p rfl (Zc rfl rfl u_0) <| o_n) (by kernel_rfl) (fun a g hst hb => ?_)
       obtain ⟨b10, h11, H1⟩ := Zg H1
       refine r_s (T := [⟨[.old 3], _, [], [], [24]⟩, ⟨[.op 0 0], _, [], [0], [25]⟩, ⟨[.op 1 0, .old 0], _, [], [0, 1], [26]⟩, ⟨[.op 1 0, .old 7], _, [], [0, 1], [27]⟩, ⟨[.op 1 0, .op 2 0, .op 3 0], _, [], Lr 4, [28]⟩, ⟨[.op 1 0, .op 4 0], _, [], Lr 5, [29]⟩, ⟨[.op 1 0, .op 5 0], _, [], Lr 6, [30]⟩, ⟨[.op 6 0], _, [], Lr 7, [6]⟩]) (F := [.old 0, .old 1, .old 2, .op 7 0, .old 4, .old 5, .old 6, .old 7]) hst hb Zb
         (o_p rfl (Za rfl rfl u_0) <| o_p rfl (Za rfl rfl u_0) <| o_g (g_f rfl rfl rfl (fun hG => Za rfl rfl u_0)) <| o_g (g_f rfl rfl rfl (fun hG => Za rfl rfl u_0)) <| o_g (g_f rfl rfl rfl (fun hG => Zns Tryz.underlying9 rfl rfl (Opd.gd hG u_0) (Opd.gd hG u_1) (Zbq h11 hG))) <| o_g (g_f rfl rfl rfl (fun hG => Zb1 rfl rfl (Opd.gd hG u_0) c_i)) <| o_p rfl (Zbu rfl rfl u_0 (fun hz => (Opd.gd (bNF hz) u_1))) <| o_p rfl (Zc rfl rfl u_0) <| o_n) (by kernel_rfl) (fun a g hst hb => ?_)
       obtain ⟨b12, h13, H1⟩ := Zg H1
       refine r_s (T := [⟨[.old 4], _, [], [], [31]⟩, ⟨[.op 0 0], _, [], [0], [32]⟩, ⟨[.op 1 0, .old 0], _, [], [0, 1], [33]⟩, ⟨[.op 1 0, .old 7], _, [], [0, 1], [34]⟩, ⟨[.op 1 0, .op 2 0, .op 3 0], _, [], Lr 4, [35]⟩, ⟨[.op 1 0, .op 4 0], _, [], Lr 5, [36]⟩, ⟨[.op 1 0, .op 5 0], _, [], Lr 6, [37]⟩, ⟨[.op 6 0], _, [], Lr 7, [7]⟩]) (F := [.old 0, .old 1, .old 2, .old 3, .op 7 0, .old 5, .old 6, .old 7]) hst hb Zb
         (o_p rfl (Za rfl rfl u_0) <| o_p rfl (Za rfl rfl u_0) <| o_g (g_f rfl rfl rfl (fun hG => Za rfl rfl u_0)) <| o_g (g_f rfl rfl rfl (fun hG => Za rfl rfl u_0)) <| o_g (g_f rfl rfl rfl (fun hG => Zns Tryz.underlying9 rfl rfl (Opd.gd hG u_0) (Opd.gd hG u_1) (Zbq h13 hG))) <| o_g (g_f rfl rfl rfl (fun hG => Zb1 rfl rfl (Opd.gd hG u_0) c_i)) <| o_p rfl (Zbu rfl rfl u_0 (fun hz => (Opd.gd (bNF hz) u_1))) <| o_p rfl (Zc rfl rfl u_0) <| o_n) (by kernel_rfl) (fun a g hst hb => ?_)
       obtain ⟨b14, h15, H1⟩ := Zg H1
       refine r_s (T := [⟨[.old 5], _, [], [], [38]⟩, ⟨[.op 0 0], _, [], [0], [39]⟩, ⟨[.op 1 0, .old 0], _, [], [0, 1], [40]⟩, ⟨[.op 1 0, .old 7], _, [], [0, 1], [41]⟩, ⟨[.op 1 0, .op 2 0, .op 3 0], _, [], Lr 4, [42]⟩, ⟨[.op 1 0, .op 4 0], _, [], Lr 5, [43]⟩, ⟨[.op 1 0, .op 5 0], _, [], Lr 6, [44]⟩, ⟨[.op 6 0], _, [], Lr 7, [8]⟩]) (F := [.old 0, .old 1, .old 2, .old 3, .old 4, .op 7 0, .old 6, .old 7]) hst hb Zb
         (o_p rfl (Za rfl rfl u_0) <| o_p rfl (Za rfl rfl u_0) <| o_g (g_f rfl rfl rfl (fun hG => Za rfl rfl u_0)) <| o_g (g_f rfl rfl rfl (fun hG => Za rfl rfl u_0)) <| o_g (g_f rfl rfl rfl (fun hG => Zns Tryz.underlying9 rfl rfl (Opd.gd hG u_0) (Opd.gd hG u_1) (Zbq h15 hG))) <| o_g (g_f rfl rfl rfl (fun hG => Zb1 rfl rfl (Opd.gd hG u_0) c_i)) <| o_p rfl (Zbu rfl rfl u_0 (fun hz => (Opd.gd (bNF hz) u_1))) <| o_p rfl (Zc rfl rfl u_0) <| o_n) (by kernel_rfl) (fun a g hst hb => ?_)
       obtain ⟨b16, h17, H1⟩ := Zg H1
       refine r_g (T := [⟨[.old 6], _, [], [], [45]⟩, ⟨[.op 0 0], _, [], [0], [46]⟩, ⟨[.op 1 0, .old 0], _, [], [0, 1], [47]⟩, ⟨[.op 1 0, .old 7], _, [], [0, 1], [48]⟩, ⟨[.op 1 0, .op 2 0, .op 3 0], _, [], Lr 4, [49]⟩, ⟨[.op 1 0, .op 4 0], _, [], Lr 5, [50]⟩, ⟨[.op 1 0, .op 5 0], _, [], Lr 6, [51]⟩, ⟨[.op 6 0], _, [], Lr 7, [9]⟩]) (F := [.old 0, .old 1, .old 2, .old 3, .old 4, .old 5, .op 7 0, .old 7]) hst hb Zb
         (o_p rfl (Za rfl rfl u_0) <| o_p rfl (Za rfl rfl u_0) <| o_g (g_f rfl rfl rfl (fun hG => Za rfl rfl u_0)) <| o_g (g_f rfl rfl rfl (fun hG => Za rfl rfl u_0)) <| o_g (g_f rfl rfl rfl (fun hG => Zns Tryz.underlying9 rfl rfl (Opd.gd hG u_0) (Opd.gd hG u_1) (Zbq h17 hG))) <| o_g (g_f rfl rfl rfl (fun hG => Zb1 rfl rfl (Opd.gd hG u_0) c_i)) <| o_p rfl (Zbu rfl rfl u_0 (fun hz => (Opd.gd (bNF hz) u_1))) <| o_p rfl (Zc rfl rfl u_0) <| o_n) (by kernel_rfl) (fun a g hst hb => ?_)
       refine Zbp ?_
       refine Zv ?_
       refine r_g (T := [⟨[.old 7], _, [], [], [15]⟩, ⟨[.op 0 0], _, [], [0], [16]⟩, ⟨[.op 1 0], _, [], [0, 1], [10]⟩]) (F := [.old 0, .old 1, .old 2, .old 3, .old 4, .old 5, .old 6, .op 2 0]) hst hb Zb
         (o_p rfl (Za rfl rfl u_0) <| o_p rfl (Zch rfl rfl u_0 c_i rfl) <| o_p rfl (Zc rfl rfl u_0) <| o_n) (by kernel_rfl) (fun a g hst hb => ?_)
       exact ⟨n, Nat.lt_succ_self _, (x1 || (b8 == (116 : Int))), (x2 || (b10 == (110 : Int))), (x3 || (b12 == (98 : Int))), (x4 || (b14 == (114 : Int))), (x5 || (b16 == (108 : Int))), (IntKind.i64.wrap (x6 + (1 : Int))), g, rfl, (hst.pick [0, 1, 2, 3, 4, 5, 6, 7] rfl), hb, H1⟩
     · replace H1 := Z0 hc7 H1
       refine wp_exit ?_
       refine Zca ?_
       refine Zca ?_
       refine Zcv ?_
       exact ⟨x1, x2, x3, x4, x5, g, rfl, (hst.pick [1, 2, 3, 4, 5, 6] rfl), hb, Option.some.inj H1⟩
theorem Zo8 (a0 : Int) {r : ByteArray} (h : Ziu a0 = some r) : FnOk Tryz.prog 83 [(pInt .i64 a0)] (pStr r) := by
 have H0 := h
 unfold Ziu at H0
 clear h
 refine Zbv (N := 15) Tryz.func83 rfl rfl (Nat.le_of_ble_eq_true rfl) rfl rfl (fun a g0 hst hb => ?_)
 refine r_s (T := [⟨[], _, [], [], [2]⟩]) (F := [.old 0]) hst hb Zb
   (o_p rfl (Zc rfl rfl c_s) <| o_n) (by kernel_rfl) (fun a g hst hb => ?_)
 refine r_s (T := [⟨[], _, [], [], [4]⟩, ⟨[.op 0 0], _, [], [0], [3]⟩]) (F := [.old 0, .op 1 0]) hst hb Zb
   (o_p rfl (Zl1 Zro (xs := [.const (.string ⟨#[]⟩), .const (.string ⟨#[116]⟩), .const (.string ⟨#[110]⟩), .const (.string ⟨#[110]⟩), .const (.string ⟨#[110, 98]⟩), .const (.string ⟨#[114]⟩), .const (.string ⟨#[114]⟩), .const (.string ⟨#[114]⟩), .const (.string ⟨#[108]⟩), .const (.string ⟨#[108]⟩)]) (.cons c_s (.cons c_s (.cons c_s (.cons c_s (.cons c_s (.cons c_s (.cons c_s (.cons c_s (.cons c_s (.cons c_s .nil)))))))))) (by decide) rfl rfl) <| o_p rfl (Zc rfl rfl u_0) <| o_n) (by kernel_rfl) (fun a g hst hb => ?_)
 refine wp_seq ?_
 refine r_s (T := [⟨[.old 0], _, [], [], [5]⟩, ⟨[.op 0 0], _, [], [0], [6]⟩, ⟨[.op 1 0], _, [], [0, 1], [7]⟩, ⟨[.op 2 0, .old 0], _, [], [0, 1, 2], [8]⟩, ⟨[.op 2 0, .op 3 0], _, [], Lr 4, [9]⟩, ⟨[.op 2 0, .op 4 0], _, [], Lr 5, [10]⟩]) (F := [.old 0, .old 1, .op 5 0]) hst hb Zb
   (o_p rfl (Za rfl rfl u_0) <| o_p rfl (Zc0 rfl rfl u_0 c_i) <| o_p rfl (Za rfl rfl u_0) <| o_g (g_f rfl rfl rfl (fun hG => Za rfl rfl u_0)) <| o_g (g_f rfl rfl rfl (fun hG => Zcy rfl rfl (Opd.gd hG u_0) c_i)) <| o_p rfl (Zbu rfl rfl u_0 (fun hz => (Opd.gd (bNF hz) u_1))) <| o_n) (by kernel_rfl) (fun a g hst hb => ?_)
 refine wp_cond_split (hst.bool 2 rfl) (fun hc1 => ?_) (fun hc1 => ?_)
 · replace H0 := Zz hc1 H0
   refine r_s (L := []) (T := [⟨[], _, [], [], [2]⟩]) (F := [.op 0 0]) (hst.pick [] rfl) hb Zb
     (o_p rfl (Zc rfl rfl c_s) <| o_n) (by kernel_rfl) (fun a g hst hb => ?_)
   refine wp_ret ?_
   refine Zt ?_
   obtain rfl := Option.some.inj H0
   exact Z8 rfl hst hb (Zk (s := 2)) (hst.at 0 rfl)
 · replace H0 := Z0 hc1 H0
   refine wp_skip ?_
   refine Zv ?_
   obtain ⟨e2, h3, H0⟩ := Zg H0
   refine r_s (L := [(0, _), (3, _)]) (T := [⟨[.old 1], _, [], [], [11]⟩, ⟨[.old 0], _, [], [], [12]⟩, ⟨[.op 0 0, .op 1 0], _, [], [0, 1], [13]⟩, ⟨[.op 2 0], _, [], [0, 1, 2], [14]⟩, ⟨[.op 3 0], _, [], Lr 4, [2]⟩]) (F := [.op 4 0]) (hst.pick [0, 1] rfl) hb Zb
     (o_p rfl (Za rfl rfl u_0) <| o_p rfl (Za rfl rfl u_0) <| o_p rfl (Zb4 Tryz.underlying26 sz_9 rfl rfl u_0 u_1 h3) <| o_p rfl (Zf ty_9 rfl rfl u_0) <| o_p rfl (Zc rfl rfl u_0) <| o_n) (by kernel_rfl) (fun a g hst hb => ?_)
   refine wp_ret ?_
   obtain rfl := Option.some.inj H0
   exact Z8 rfl hst hb (Zk (s := 2)) (hst.at 0 rfl)
theorem Zp0 (a0 : Zj) (a1 : Zj) {r : Bool} (h : Zfe a0 a1 = some r) : FnOk Tryz.prog 104 [(Zx.pd a0), (Zx.pd a1)] (Zbe r) := by
 have H0 := h
 unfold Zfe at H0
 clear h
 refine Zbv (N := 22) Tryz.func104 rfl rfl (Nat.le_of_ble_eq_true rfl) rfl rfl (fun a g0 hst hb => ?_)
 refine r_s (T := [⟨[.old 0], _, [], [], [2]⟩, ⟨[.old 1], _, [], [], [3]⟩, ⟨[], _, [], [], [4]⟩]) (F := [.op 0 0, .op 1 0]) hst hb Zb
   (o_p rfl (Zbr rfl rfl u_0) <| o_p rfl (Zbr rfl rfl u_0) <| o_p rfl (Zc rfl rfl c_b) <| o_n) (by kernel_rfl) (fun a g hst hb => ?_)
 refine wp_seq ?_
 obtain ⟨r1, h2, H0⟩ := Zg H0
 refine r_s (T := [⟨[.old 1], _, [], [], [5]⟩, ⟨[.op 0 0], _, [], [0], [6]⟩, ⟨[.old 0], _, [], [], [7]⟩, ⟨[.op 2 0], _, [], [2], [8]⟩, ⟨[.op 1 0, .op 3 0], _, [], Lr 4, [9]⟩]) (F := [.old 0, .old 1, .op 4 0]) hst hb Zb
   (o_p rfl (Ze Zf4 rfl rfl u_0) <| o_p rfl (Zf Zfg rfl rfl u_0) <| o_p rfl (Ze Zf4 rfl rfl u_0) <| o_p rfl (Zf Zfg rfl rfl u_0) <| o_p rfl (Zq Z07 (Zjz _ _ h2) rfl rfl (.cons u_0 (.cons u_1 .nil))) <| o_n) (by kernel_rfl) (fun a g hst hb => ?_)
 refine wp_cond_split (hst.bool 2 rfl) (fun hc3 => ?_) (fun hc3 => ?_)
 · replace H0 := Zz hc3 H0
   refine r_s (L := []) (T := [⟨[], _, [], [], [4]⟩]) (F := [.op 0 0]) (hst.pick [] rfl) hb Zb
     (o_p rfl (Zc rfl rfl c_b) <| o_n) (by kernel_rfl) (fun a g hst hb => ?_)
   refine wp_ret ?_
   refine Zt ?_
   obtain rfl := Option.some.inj H0
   exact Z8 rfl hst hb (Zk (s := 4)) (hst.at 0 rfl)
 · replace H0 := Z0 hc3 H0
   refine wp_skip ?_
   refine Zv ?_
   obtain ⟨r4, h5, H0⟩ := Zg H0
   refine r_s (L := [(2, _), (3, _)]) (T := ⟨[.old 0], _, [], [], [10]⟩ :: ⟨[.op 0 0], _, [], [0], [11]⟩ :: ⟨[.old 1], _, [], [], [12]⟩ :: ⟨[.op 2 0], _, [], [2], [13]⟩ :: ⟨[.op 1 0, .op 3 0], _, [], Lr 4, [14]⟩ :: ⟨[.op 4 0], _, [], Lr 5, [15]⟩ :: ⟨[.op 5 0, .old 0], _, [], Lr 6, [16]⟩ :: ⟨[.op 5 0, .op 6 0], _, [], Lr 7, [17]⟩ :: ⟨[.op 5 0, .old 1], _, [], Lr 6, [18]⟩ :: ⟨[.op 5 0, .op 8 0], _, [], [0, 1, 2, 3, 4, 5, 8], [19]⟩ :: ⟨[.op 5 0, .op 7 0, .op 9 0], _, [], Lr 10, [20]⟩ :: ⟨[.op 5 0, .op 10 0], _, [], Lr 11, [21]⟩ :: ⟨[.op 11 0], _, [], Lr 12, [4]⟩ :: []) (F := [.op 12 0]) (hst.pick [0, 1] rfl) hb Zb
     (o_p rfl (Ze Zf4 rfl rfl u_0) <| o_p rfl (Zf Zfg rfl rfl u_0) <| o_p rfl (Ze Zf4 rfl rfl u_0) <| o_p rfl (Zf Zfg rfl rfl u_0) <| o_p rfl (Zq Z5g (Zl7 _ _ h5) rfl rfl (.cons u_0 (.cons u_1 .nil))) <| o_p rfl (Za rfl rfl u_0) <| o_g (g_t rfl rfl rfl (fun hG => Ze Zft rfl rfl u_0)) <| o_g (g_t rfl rfl rfl (fun hG => Zf ty_9 rfl rfl (Opd.gd hG u_0))) <| o_g (g_t rfl rfl rfl (fun hG => Ze Zft rfl rfl u_0)) <| o_g (g_t rfl rfl rfl (fun hG => Zf ty_9 rfl rfl (Opd.gd hG u_0))) <| o_g (g_t rfl rfl rfl (fun hG => Zmz rfl rfl (Opd.gd hG u_0) (Opd.gd hG u_1))) <| o_p rfl (Zbm rfl rfl u_0 (fun hz => (Opd.gd hz u_1))) <| o_p rfl (Zc rfl rfl u_0) <| o_n) (by kernel_rfl) (fun a g hst hb => ?_)
   refine wp_ret ?_
   obtain rfl := Option.some.inj H0
   exact Z8 rfl hst hb (Zk (s := 4)) (hst.at 0 rfl)
theorem Zqc (a0 : Int) (a1 : List Zj) (a2 : Int) {r : Int} (h : Zhv a0 a1 a2 = some r) : FnOk Tryz.prog 84 [(pInt .i64 a0), (Zx.sl.pd a1), (pInt .i64 a2)] (pInt .i64 r) := by
 have H0 := h
 unfold Zhv at H0
 clear h
 refine Zbv (N := 64) Tryz.func84 rfl rfl (Nat.le_of_ble_eq_true rfl) rfl rfl (fun a g0 hst hb => ?_)
 refine r_s (T := [⟨[], _, [], [], [6]⟩]) (F := [.old 0, .old 1, .old 2]) hst hb Zb
   (o_p rfl (Zc rfl rfl c_i) <| o_n) (by kernel_rfl) (fun a g hst hb => ?_)
 obtain ⟨e1, h2, H0⟩ := Zg H0
 refine r_s (T := [⟨[.old 1], _, [], [], [8]⟩, ⟨[.old 2], _, [], [], [9]⟩, ⟨[.op 0 0, .op 1 0], _, [], [0, 1], [10]⟩, ⟨[.op 2 0], _, [], [0, 1, 2], [11]⟩, ⟨[], [(7, (pBox Zx 7 (default : Zj)))], [8], [], [7]⟩, ⟨[.op 3 0, .op 4 0], _, [8], Lr 5, [7]⟩]) (F := [.old 0, .old 1, .old 2, .op 5 0]) hst hb Zb
   (o_p rfl (Za rfl rfl u_0) <| o_p rfl (Za rfl rfl u_0) <| o_p rfl (Zb4 Tryz.underlying36 Zil rfl rfl u_0 u_1 h2) <| o_p rfl (Zf Ze1 rfl rfl u_0) <| o_p rfl (Zbk (zs := [.float .f64 0, .string ByteArray.empty]) (by kernel_rfl) (fun g => Zju g) rfl rfl) <| o_p rfl (Zcb Ze1 rfl rfl u_1 u_0) <| o_n) (by kernel_rfl) (fun a g hst hb => ?_)
 refine wp_seq ?_
 refine r_s (T := [⟨[.old 3], _, [], [], [12]⟩, ⟨[.op 0 0], _, [], [0], [13]⟩, ⟨[.op 1 0], _, [], [0, 1], [14]⟩, ⟨[.op 2 0], _, [], [0, 1, 2], [15]⟩]) (F := [.old 0, .old 1, .old 2, .old 3, .op 3 0]) hst hb Zb
   (o_p rfl (Ze Zft rfl rfl u_0) <| o_p rfl (Zf ty_9 rfl rfl u_0) <| o_p rfl (Zf9 Tryz.underlying9 rfl rfl u_0) <| o_p rfl (Zcy rfl rfl u_0 c_i) <| o_n) (by kernel_rfl) (fun a g hst hb => ?_)
 refine wp_cond_split (hst.bool 4 rfl) (fun hc3 => ?_) (fun hc3 => ?_)
 · replace H0 := Zz hc3 H0
   refine r_s (L := []) (T := [⟨[], _, [], [], [6]⟩]) (F := [.op 0 0]) (hst.pick [] rfl) hb Zb
     (o_p rfl (Zc rfl rfl c_i) <| o_n) (by kernel_rfl) (fun a g hst hb => ?_)
   refine wp_ret ?_
   refine Zt ?_
   obtain rfl := Option.some.inj H0
   exact Z8 rfl hst hb (Zk (s := 6)) (hst.at 0 rfl)
 · replace H0 := Z0 hc3 H0
   refine wp_skip ?_
   refine Zv ?_
   refine wp_seq ?_
   obtain ⟨r4, h5, H0⟩ := Zg H0; obtain ⟨r6, h7, H0⟩ := Zg H0
   refine r_s (L := [(0, _), (1, _), (2, _), (7, _)]) (T := ⟨[.old 0], _, [], [], [16]⟩ :: ⟨[.op 0 0], _, [], [0], [17]⟩ :: ⟨[.op 1 0], _, [], [0, 1], [18]⟩ :: ⟨[.op 2 0, .old 3], _, [], [0, 1, 2], [19]⟩ :: ⟨[.op 2 0, .op 3 0], _, [], Lr 4, [20]⟩ :: ⟨[.op 2 0, .op 4 0], _, [], Lr 5, [21]⟩ :: ⟨[.op 2 0, .op 5 0], _, [], Lr 6, [22]⟩ :: ⟨[.op 2 0, .op 6 0], _, [], Lr 7, [23]⟩ :: ⟨[.op 7 0], _, [], Lr 8, [24]⟩ :: ⟨[.op 8 0, .old 3], _, [], Lr 9, [25]⟩ :: ⟨[.op 8 0, .op 9 0], _, [], Lr 10, [26]⟩ :: ⟨[.op 8 0, .op 10 0], _, [], Lr 11, [27]⟩ :: ⟨[.op 8 0, .op 11 0], _, [], Lr 12, [28]⟩ :: ⟨[.op 8 0, .op 12 0], _, [], Lr 13, [29]⟩ :: []) (F := [.old 0, .old 1, .old 2, .old 3, .op 13 0]) (hst.pick [0, 1, 2, 3] rfl) hb Zb
     (o_p rfl (Za rfl rfl u_0) <| o_p rfl (Zb1 rfl rfl u_0 c_i) <| o_p rfl (Za rfl rfl u_0) <| o_g (g_t rfl rfl rfl (fun hG => Ze Zf4 rfl rfl u_0)) <| o_g (g_t rfl rfl rfl (fun hG => Zf Zfg rfl rfl (Opd.gd hG u_0))) <| o_g (g_t rfl rfl rfl (fun hG => Zq Z27 (Zma _ (Zbq h5 hG)) rfl rfl (.cons (Opd.gd hG u_0) .nil))) <| o_g (g_t rfl rfl rfl (fun hG => Zcg rfl rfl (Opd.gd hG u_0))) <| o_p rfl (Zbm rfl rfl u_0 (fun hz => (Opd.gd hz u_1))) <| o_p rfl (Za rfl rfl u_0) <| o_g (g_f rfl rfl rfl (fun hG => Ze Zf4 rfl rfl u_0)) <| o_g (g_f rfl rfl rfl (fun hG => Zf Zfg rfl rfl (Opd.gd hG u_0))) <| o_g (g_f rfl rfl rfl (fun hG => Zq Z5e (Zlp _ (Zbq h7 hG)) rfl rfl (.cons (Opd.gd hG u_0) .nil))) <| o_g (g_f rfl rfl rfl (fun hG => Zcg rfl rfl (Opd.gd hG u_0))) <| o_p rfl (Zbu rfl rfl u_0 (fun hz => (Opd.gd (bNF hz) u_1))) <| o_n) (by kernel_rfl) (fun a g hst hb => ?_)
   refine wp_cond_split (hst.bool 4 rfl) (fun hc8 => ?_) (fun hc8 => ?_)
   · replace H0 := Zz hc8 H0
     refine r_s (L := []) (T := [⟨[], _, [], [], [6]⟩]) (F := [.op 0 0]) (hst.pick [] rfl) hb Zb
       (o_p rfl (Zc rfl rfl c_i) <| o_n) (by kernel_rfl) (fun a g hst hb => ?_)
     refine wp_ret ?_
     refine Zt ?_
     obtain rfl := Option.some.inj H0
     exact Z8 rfl hst hb (Zk (s := 6)) (hst.at 0 rfl)
   · replace H0 := Z0 hc8 H0
     refine wp_skip ?_
     refine Zv ?_
     refine wp_seq ?_
     obtain ⟨e9, h10, H0⟩ := Zg H0
     refine r_s (L := [(0, _), (1, _), (2, _), (7, _)]) (T := ⟨[.old 2], _, [], [], [30]⟩ :: ⟨[.op 0 0], _, [], [0], [31]⟩ :: ⟨[.op 1 0], _, [], [0, 1], [32]⟩ :: ⟨[.op 2 0, .old 0], _, [], [0, 1, 2], [33]⟩ :: ⟨[.op 2 0, .op 3 0], _, [], Lr 4, [34]⟩ :: ⟨[.op 2 0, .op 4 0], _, [], Lr 5, [35]⟩ :: ⟨[.op 5 0], _, [], Lr 6, [36]⟩ :: ⟨[.op 6 0, .old 1], _, [], Lr 7, [37]⟩ :: ⟨[.op 6 0, .old 2], _, [], Lr 7, [38]⟩ :: ⟨[.op 6 0, .op 8 0], _, [], [0, 1, 2, 3, 4, 5, 6, 8], [39]⟩ :: ⟨[.op 6 0, .op 7 0, .op 9 0], _, [], Lr 10, [40]⟩ :: ⟨[.op 6 0, .op 10 0], _, [], Lr 11, [41]⟩ :: ⟨[.op 6 0, .op 11 0], _, [], Lr 12, [42]⟩ :: ⟨[.op 6 0, .old 3], _, [], Lr 7, [43]⟩ :: ⟨[.op 6 0, .op 13 0], _, [], [0, 1, 2, 3, 4, 5, 6, 13], [44]⟩ :: ⟨[.op 6 0, .op 12 0, .op 14 0], _, [], Lr 15, [45]⟩ :: ⟨[.op 6 0, .op 15 0], _, [], Lr 16, [46]⟩ :: ⟨[.op 6 0, .op 16 0], _, [], Lr 17, [47]⟩ :: []) (F := [.old 0, .old 1, .old 2, .old 3, .op 17 0]) (hst.pick [0, 1, 2, 3] rfl) hb Zb
       (o_p rfl (Za rfl rfl u_0) <| o_p rfl (Zcy rfl rfl u_0 c_i) <| o_p rfl (Za rfl rfl u_0) <| o_g (g_t rfl rfl rfl (fun hG => Za rfl rfl u_0)) <| o_g (g_t rfl rfl rfl (fun hG => Zb1 rfl rfl (Opd.gd hG u_0) c_i)) <| o_p rfl (Zbm rfl rfl u_0 (fun hz => (Opd.gd hz u_1))) <| o_p rfl (Za rfl rfl u_0) <| o_g (g_t rfl rfl rfl (fun hG => Za rfl rfl u_0)) <| o_g (g_t rfl rfl rfl (fun hG => Za rfl rfl u_0)) <| o_g (g_t rfl rfl rfl (fun hG => Zkf rfl rfl (Opd.gd hG u_0) c_i rfl)) <| o_g (g_t rfl rfl rfl (fun hG => Zb4 Tryz.underlying36 Zil rfl rfl (Opd.gd hG u_0) (Opd.gd hG u_1) (Zbq h10 hG))) <| o_g (g_t rfl rfl rfl (fun hG => Ze Zft rfl rfl (Opd.gd hG u_0))) <| o_g (g_t rfl rfl rfl (fun hG => Zf ty_9 rfl rfl (Opd.gd hG u_0))) <| o_g (g_t rfl rfl rfl (fun hG => Ze Zft rfl rfl u_0)) <| o_g (g_t rfl rfl rfl (fun hG => Zf ty_9 rfl rfl (Opd.gd hG u_0))) <| o_g (g_t rfl rfl rfl (fun hG => Zmz rfl rfl (Opd.gd hG u_0) (Opd.gd hG u_1))) <| o_g (g_t rfl rfl rfl (fun hG => Zcg rfl rfl (Opd.gd hG u_0))) <| o_p rfl (Zbm rfl rfl u_0 (fun hz => (Opd.gd hz u_1))) <| o_n) (by kernel_rfl) (fun a g hst hb => ?_)
     refine wp_cond_split (hst.bool 4 rfl) (fun hc11 => ?_) (fun hc11 => ?_)
     · replace H0 := Zz hc11 H0
       refine r_s (L := []) (T := [⟨[], _, [], [], [6]⟩]) (F := [.op 0 0]) (hst.pick [] rfl) hb Zb
         (o_p rfl (Zc rfl rfl c_i) <| o_n) (by kernel_rfl) (fun a g hst hb => ?_)
       refine wp_ret ?_
       refine Zt ?_
       obtain rfl := Option.some.inj H0
       exact Z8 rfl hst hb (Zk (s := 6)) (hst.at 0 rfl)
     · replace H0 := Z0 hc11 H0
       refine wp_skip ?_
       refine Zv ?_
       refine wp_seq ?_
       obtain ⟨e12, h13, H0⟩ := Zg H0; obtain ⟨r14, h15, H0⟩ := Zg H0
       refine r_s (L := [(0, _), (1, _), (2, _), (7, _)]) (T := ⟨[.old 2], _, [], [], [48]⟩ :: ⟨[.op 0 0], _, [], [0], [49]⟩ :: ⟨[.op 1 0], _, [], [0, 1], [50]⟩ :: ⟨[.op 2 0, .old 0], _, [], [0, 1, 2], [51]⟩ :: ⟨[.op 2 0, .op 3 0], _, [], Lr 4, [52]⟩ :: ⟨[.op 2 0, .op 4 0], _, [], Lr 5, [53]⟩ :: ⟨[.op 5 0], _, [], Lr 6, [54]⟩ :: ⟨[.op 6 0, .old 1], _, [], Lr 7, [55]⟩ :: ⟨[.op 6 0, .old 2], _, [], Lr 7, [56]⟩ :: ⟨[.op 6 0, .op 8 0], _, [], [0, 1, 2, 3, 4, 5, 6, 8], [57]⟩ :: ⟨[.op 6 0, .op 7 0, .op 9 0], _, [], Lr 10, [58]⟩ :: ⟨[.op 6 0, .op 10 0], _, [], Lr 11, [59]⟩ :: ⟨[.op 6 0, .old 3], _, [], Lr 7, [60]⟩ :: ⟨[.op 6 0, .op 11 0, .op 12 0], _, [], Lr 13, [61]⟩ :: ⟨[.op 6 0, .op 13 0], _, [], Lr 14, [62]⟩ :: ⟨[.op 6 0, .op 14 0], _, [], Lr 15, [63]⟩ :: []) (F := [.op 15 0]) (hst.pick [0, 1, 2, 3] rfl) hb Zb
         (o_p rfl (Za rfl rfl u_0) <| o_p rfl (Zcy rfl rfl u_0 c_i) <| o_p rfl (Za rfl rfl u_0) <| o_g (g_t rfl rfl rfl (fun hG => Za rfl rfl u_0)) <| o_g (g_t rfl rfl rfl (fun hG => Zb1 rfl rfl (Opd.gd hG u_0) c_i)) <| o_p rfl (Zbm rfl rfl u_0 (fun hz => (Opd.gd hz u_1))) <| o_p rfl (Za rfl rfl u_0) <| o_g (g_t rfl rfl rfl (fun hG => Za rfl rfl u_0)) <| o_g (g_t rfl rfl rfl (fun hG => Za rfl rfl u_0)) <| o_g (g_t rfl rfl rfl (fun hG => Zkf rfl rfl (Opd.gd hG u_0) c_i rfl)) <| o_g (g_t rfl rfl rfl (fun hG => Zb4 Tryz.underlying36 Zil rfl rfl (Opd.gd hG u_0) (Opd.gd hG u_1) (Zbq h13 hG))) <| o_g (g_t rfl rfl rfl (fun hG => Zf Ze1 rfl rfl (Opd.gd hG u_0))) <| o_g (g_t rfl rfl rfl (fun hG => Zf Ze1 rfl rfl u_0)) <| o_g (g_t rfl rfl rfl (fun hG => Zq Z73 (Zp0 _ _ (Zbq h15 hG)) rfl rfl (.cons (Opd.gd hG u_0) (.cons (Opd.gd hG u_1) .nil)))) <| o_g (g_t rfl rfl rfl (fun hG => Zcg rfl rfl (Opd.gd hG u_0))) <| o_p rfl (Zbm rfl rfl u_0 (fun hz => (Opd.gd hz u_1))) <| o_n) (by kernel_rfl) (fun a g hst hb => ?_)
       refine wp_cond_split (hst.bool 0 rfl) (fun hc16 => ?_) (fun hc16 => ?_)
       · replace H0 := Zz hc16 H0
         refine r_s (L := []) (T := [⟨[], _, [], [], [6]⟩]) (F := [.op 0 0]) (hst.pick [] rfl) hb Zb
           (o_p rfl (Zc rfl rfl c_i) <| o_n) (by kernel_rfl) (fun a g hst hb => ?_)
         refine wp_ret ?_
         refine Zt ?_
         obtain rfl := Option.some.inj H0
         exact Z8 rfl hst hb (Zk (s := 6)) (hst.at 0 rfl)
       · replace H0 := Z0 hc16 H0
         refine wp_skip ?_
         refine Zv ?_
         refine r_s (L := []) (T := [⟨[], _, [], [], [6]⟩]) (F := [.op 0 0]) (hst.pick [] rfl) hb Zb
           (o_p rfl (Zc rfl rfl c_i) <| o_n) (by kernel_rfl) (fun a g hst hb => ?_)
         refine wp_ret ?_
         obtain rfl := Option.some.inj H0
         exact Z8 rfl hst hb (Zk (s := 6)) (hst.at 0 rfl)
theorem Zpx (a0 : Zd) {r : Int} (h : Zdt a0 = some r) : FnOk Tryz.prog 54 [(Zh.pd a0)] (pInt .i64 r) := by
 have H0 := h
 unfold Zdt at H0
 clear h
 refine Zbv (N := 96) Tryz.func54 rfl rfl (Nat.le_of_ble_eq_true rfl) rfl rfl (fun a g0 hst hb => ?_)
 refine r_s (T := [⟨[.old 0], _, [], [], [1]⟩, ⟨[], _, [], [], [2]⟩]) (F := [.op 0 0]) hst hb Zb
   (o_p rfl (Zbr rfl rfl u_0) <| o_p rfl (Zc rfl rfl c_i) <| o_n) (by kernel_rfl) (fun a g hst hb => ?_)
 refine wp_seq ?_
 refine r_s (T := [⟨[.old 0], _, [], [], [6]⟩, ⟨[.op 0 0], _, [], [0], [7]⟩, ⟨[.op 1 0], _, [], [0, 1], [8]⟩, ⟨[.op 2 0], _, [], [0, 1, 2], [9]⟩, ⟨[.op 3 0, .old 0], _, [], Lr 4, [10]⟩, ⟨[.op 3 0, .op 4 0], _, [], Lr 5, [11]⟩, ⟨[.op 3 0, .op 5 0], _, [], Lr 6, [12]⟩, ⟨[.op 3 0, .op 6 0], _, [], Lr 7, [13]⟩]) (F := [.old 0, .op 7 0]) hst hb Zb
   (o_p rfl (Ze Zgv rfl rfl u_0) <| o_p rfl (Zf ty_3 rfl rfl u_0) <| o_p rfl (Zc0 rfl rfl u_0 c_i) <| o_p rfl (Za rfl rfl u_0) <| o_g (g_f rfl rfl rfl (fun hG => Ze Zgv rfl rfl u_0)) <| o_g (g_f rfl rfl rfl (fun hG => Zf ty_3 rfl rfl (Opd.gd hG u_0))) <| o_g (g_f rfl rfl rfl (fun hG => Zcy rfl rfl (Opd.gd hG u_0) c_i)) <| o_p rfl (Zbu rfl rfl u_0 (fun hz => (Opd.gd (bNF hz) u_1))) <| o_n) (by kernel_rfl) (fun a g hst hb => ?_)
 refine wp_cond_split (hst.bool 1 rfl) (fun hc1 => ?_) (fun hc1 => ?_)
 · replace H0 := Zz hc1 H0
   refine r_s (L := []) (T := [⟨[], _, [], [], [2]⟩]) (F := [.op 0 0]) (hst.pick [] rfl) hb Zb
     (o_p rfl (Zc rfl rfl c_i) <| o_n) (by kernel_rfl) (fun a g hst hb => ?_)
   refine wp_ret ?_
   refine Zt ?_
   obtain rfl := Option.some.inj H0
   exact Z8 rfl hst hb (Zk (s := 2)) (hst.at 0 rfl)
 · replace H0 := Z0 hc1 H0
   refine wp_skip ?_
   refine Zv ?_
   refine wp_seq ?_
   obtain ⟨r2, h3, H0⟩ := Zg H0; obtain ⟨r4, h5, H0⟩ := Zg H0
   refine r_s (L := [(1, _)]) (T := [⟨[.old 0], _, [], [], [14]⟩, ⟨[.old 0], _, [], [], [15]⟩, ⟨[.op 1 0], _, [], [1], [16]⟩, ⟨[.op 2 0], _, [], [1, 2], [17]⟩, ⟨[.op 0 0, .op 3 0], _, [], Lr 4, [18]⟩, ⟨[.op 4 0], _, [], Lr 5, [19]⟩]) (F := [.old 0, .op 5 0]) (hst.pick [0] rfl) hb Zb
     (o_p rfl (Zf Zbh rfl rfl u_0) <| o_p rfl (Ze Zgv rfl rfl u_0) <| o_p rfl (Zf ty_3 rfl rfl u_0) <| o_p rfl (Zq Zban (Zo8 _ h3) rfl rfl (.cons u_0 .nil)) <| o_p rfl (Zq Zbab (Zqg _ _ h5) rfl rfl (.cons u_0 (.cons u_1 .nil))) <| o_p rfl (Zcg rfl rfl u_0) <| o_n) (by kernel_rfl) (fun a g hst hb => ?_)
   refine wp_cond_split (hst.bool 1 rfl) (fun hc6 => ?_) (fun hc6 => ?_)
   · replace H0 := Zz hc6 H0
     refine r_s (L := []) (T := [⟨[], _, [], [], [2]⟩]) (F := [.op 0 0]) (hst.pick [] rfl) hb Zb
       (o_p rfl (Zc rfl rfl c_i) <| o_n) (by kernel_rfl) (fun a g hst hb => ?_)
     refine wp_ret ?_
     refine Zt ?_
     obtain rfl := Option.some.inj H0
     exact Z8 rfl hst hb (Zk (s := 2)) (hst.at 0 rfl)
   · replace H0 := Z0 hc6 H0
     refine wp_skip ?_
     refine Zv ?_
     refine wp_seq ?_
     refine r_s (L := [(1, _)]) (T := [⟨[.old 0], _, [], [], [20]⟩, ⟨[.op 0 0], _, [], [0], [21]⟩, ⟨[.op 1 0], _, [], [0, 1], [22]⟩, ⟨[.op 2 0], _, [], [0, 1, 2], [23]⟩, ⟨[.op 3 0, .old 0], _, [], Lr 4, [24]⟩, ⟨[.op 3 0, .op 4 0], _, [], Lr 5, [25]⟩, ⟨[.op 3 0, .op 5 0], _, [], Lr 6, [26]⟩, ⟨[.op 3 0, .op 6 0], _, [], Lr 7, [27]⟩, ⟨[.op 3 0, .op 7 0], _, [], Lr 8, [28]⟩]) (F := [.old 0, .op 8 0]) (hst.pick [0] rfl) hb Zb
       (o_p rfl (Ze Zgv rfl rfl u_0) <| o_p rfl (Zf ty_3 rfl rfl u_0) <| o_p rfl (Zb1 rfl rfl u_0 c_i) <| o_p rfl (Za rfl rfl u_0) <| o_g (g_t rfl rfl rfl (fun hG => Ze Zkp rfl rfl u_0)) <| o_g (g_t rfl rfl rfl (fun hG => Zf ty_9 rfl rfl (Opd.gd hG u_0))) <| o_g (g_t rfl rfl rfl (fun hG => Zf9 Tryz.underlying9 rfl rfl (Opd.gd hG u_0))) <| o_g (g_t rfl rfl rfl (fun hG => Zcy rfl rfl (Opd.gd hG u_0) c_i)) <| o_p rfl (Zbm rfl rfl u_0 (fun hz => (Opd.gd hz u_1))) <| o_n) (by kernel_rfl) (fun a g hst hb => ?_)
     refine wp_cond_split (hst.bool 1 rfl) (fun hc7 => ?_) (fun hc7 => ?_)
     · replace H0 := Zz hc7 H0
       refine r_s (L := []) (T := [⟨[], _, [], [], [2]⟩]) (F := [.op 0 0]) (hst.pick [] rfl) hb Zb
         (o_p rfl (Zc rfl rfl c_i) <| o_n) (by kernel_rfl) (fun a g hst hb => ?_)
       refine wp_ret ?_
       refine Zt ?_
       obtain rfl := Option.some.inj H0
       exact Z8 rfl hst hb (Zk (s := 2)) (hst.at 0 rfl)
     · replace H0 := Z0 hc7 H0
       refine wp_skip ?_
       refine Zv ?_
       refine r_s (L := [(1, _)]) (T := [⟨[], _, [], [], [3]⟩]) (F := [.old 0, .op 0 0]) (hst.pick [0] rfl) hb Zb
         (o_p rfl (Zc rfl rfl c_i) <| o_n) (by kernel_rfl) (fun a g hst hb => ?_)
       refine wp_seq ?_
       refine r_s (T := ⟨[.old 0], _, [], [], [29]⟩ :: ⟨[.op 0 0], _, [], [0], [30]⟩ :: ⟨[.op 1 0], _, [], [0, 1], [31]⟩ :: ⟨[.op 2 0], _, [], [0, 1, 2], [32]⟩ :: ⟨[.op 3 0, .old 0], _, [], Lr 4, [33]⟩ :: ⟨[.op 3 0, .op 4 0], _, [], Lr 5, [34]⟩ :: ⟨[.op 3 0, .old 1], _, [], Lr 4, [35]⟩ :: ⟨[.op 3 0, .op 6 0], _, [], [0, 1, 2, 3, 6], [36]⟩ :: ⟨[.op 3 0, .op 5 0, .op 7 0], _, [], Lr 8, [37]⟩ :: ⟨[.op 3 0, .op 8 0], _, [], Lr 9, [38]⟩ :: ⟨[.op 9 0, .old 0], _, [], Lr 10, [39]⟩ :: ⟨[.op 9 0, .op 10 0], _, [], Lr 11, [40]⟩ :: ⟨[.op 9 0, .old 1], _, [], Lr 10, [41]⟩ :: ⟨[.op 9 0, .op 11 0, .op 12 0], _, [], Lr 13, [42]⟩ :: ⟨[.op 3 0, .op 9 0, .op 13 0], _, [], Lr 14, [43]⟩ :: ⟨[.op 3 0, .op 14 0], _, [], Lr 15, [44]⟩ :: ⟨[.op 15 0, .old 0], _, [], Lr 16, [45]⟩ :: ⟨[.op 15 0, .op 16 0], _, [], Lr 17, [46]⟩ :: ⟨[.op 15 0, .old 0], _, [], Lr 16, [47]⟩ :: ⟨[.op 15 0, .op 18 0], _, [], 0 :: 1 :: 2 :: 3 :: 4 :: 5 :: 6 :: 7 :: 8 :: 9 :: 10 :: 11 :: 12 :: 13 :: 14 :: 15 :: 18 :: [], [48]⟩ :: ⟨[.op 15 0, .op 17 0, .op 19 0], _, [], Lr 20, [49]⟩ :: ⟨[.op 3 0, .op 15 0, .op 20 0], _, [], Lr 21, [50]⟩ :: ⟨[.op 3 0, .op 21 0], _, [], Lr 22, [51]⟩ :: ⟨[.op 22 0, .old 0], _, [], Lr 23, [52]⟩ :: ⟨[.op 22 0, .op 23 0], _, [], Lr 24, [53]⟩ :: ⟨[.op 22 0, .old 0], _, [], Lr 23, [54]⟩ :: ⟨[.op 22 0, .op 25 0], _, [], 0 :: 1 :: 2 :: 3 :: 4 :: 5 :: 6 :: 7 :: 8 :: 9 :: 10 :: 11 :: 12 :: 13 :: 14 :: 15 :: 16 :: 17 :: 18 :: 19 :: 20 :: 21 :: 22 :: 25 :: [], [55]⟩ :: ⟨[.op 22 0, .op 24 0, .op 26 0], _, [], Lr 27, [56]⟩ :: ⟨[.op 3 0, .op 22 0, .op 27 0], _, [], Lr 28, [57]⟩ :: ⟨[.op 3 0, .op 28 0], _, [], Lr 29, [58]⟩ :: []) (F := [.old 0, .op 29 0]) hst hb Zb
         (o_p rfl (Ze Zgv rfl rfl u_0) <| o_p rfl (Zf ty_3 rfl rfl u_0) <| o_p rfl (Zb1 rfl rfl u_0 c_i) <| o_p rfl (Za rfl rfl u_0) <| o_g (g_t rfl rfl rfl (fun hG => Ze Zkj rfl rfl u_0)) <| o_g (g_t rfl rfl rfl (fun hG => Zf ty_2 rfl rfl (Opd.gd hG u_0))) <| o_g (g_t rfl rfl rfl (fun hG => Za rfl rfl u_0)) <| o_g (g_t rfl rfl rfl (fun hG => Z8p rfl rfl (Opd.gd hG u_0) rfl)) <| o_g (g_t rfl rfl rfl (fun hG => Zc0 rfl rfl (Opd.gd hG u_0) (Opd.gd hG u_1))) <| o_g (g_t rfl rfl rfl (fun hG => Za rfl rfl (Opd.gd hG u_0))) <| o_g (g_fi rfl rfl rfl (fun hG => Ze Zkt rfl rfl u_0)) <| o_g (g_fi rfl rfl rfl (fun hG => Zf ty_2 rfl rfl (Opd.gd hG u_0))) <| o_g (g_fi rfl rfl rfl (fun hG => Za rfl rfl u_0)) <| o_g (g_fi rfl rfl rfl (fun hG => Zcy rfl rfl (Opd.gd hG u_0) (Opd.gd hG u_1))) <| o_g (g_t rfl rfl rfl (fun hG => Zbu rfl rfl (Opd.gd hG u_0) (fun hz => (Opd.gd (bA hG (bNF hz)) u_1)))) <| o_g (g_t rfl rfl rfl (fun hG => Za rfl rfl (Opd.gd hG u_0))) <| o_g (g_fi rfl rfl rfl (fun hG => Ze Zem rfl rfl u_0)) <| o_g (g_fi rfl rfl rfl (fun hG => Zf ty_2 rfl rfl (Opd.gd hG u_0))) <| o_g (g_fi rfl rfl rfl (fun hG => Ze Zkj rfl rfl u_0)) <| o_g (g_fi rfl rfl rfl (fun hG => Zf ty_2 rfl rfl (Opd.gd hG u_0))) <| o_g (g_fi rfl rfl rfl (fun hG => Zc0 rfl rfl (Opd.gd hG u_0) (Opd.gd hG u_1))) <| o_g (g_t rfl rfl rfl (fun hG => Zbu rfl rfl (Opd.gd hG u_0) (fun hz => (Opd.gd (bA hG (bNF hz)) u_1)))) <| o_g (g_t rfl rfl rfl (fun hG => Za rfl rfl (Opd.gd hG u_0))) <| o_g (g_fi rfl rfl rfl (fun hG => Ze Zem rfl rfl u_0)) <| o_g (g_fi rfl rfl rfl (fun hG => Zf ty_2 rfl rfl (Opd.gd hG u_0))) <| o_g (g_fi rfl rfl rfl (fun hG => Ze Zkt rfl rfl u_0)) <| o_g (g_fi rfl rfl rfl (fun hG => Zf ty_2 rfl rfl (Opd.gd hG u_0))) <| o_g (g_fi rfl rfl rfl (fun hG => Zcy rfl rfl (Opd.gd hG u_0) (Opd.gd hG u_1))) <| o_g (g_t rfl rfl rfl (fun hG => Zbu rfl rfl (Opd.gd hG u_0) (fun hz => (Opd.gd (bA hG (bNF hz)) u_1)))) <| o_p rfl (Zbm rfl rfl u_0 (fun hz => (Opd.gd hz u_1))) <| o_n) (by kernel_rfl) (fun a g hst hb => ?_)
       refine wp_cond_split (hst.bool 1 rfl) (fun hc8 => ?_) (fun hc8 => ?_)
       · replace H0 := Zz hc8 H0
         refine r_s (L := []) (T := [⟨[], _, [], [], [2]⟩]) (F := [.op 0 0]) (hst.pick [] rfl) hb Zb
           (o_p rfl (Zc rfl rfl c_i) <| o_n) (by kernel_rfl) (fun a g hst hb => ?_)
         refine wp_ret ?_
         refine Zt ?_
         obtain rfl := Option.some.inj H0
         exact Z8 rfl hst hb (Zk (s := 2)) (hst.at 0 rfl)
       · replace H0 := Z0 hc8 H0
         refine wp_skip ?_
         refine Zv ?_
         refine wp_seq ?_
         obtain ⟨r9, h10, H0⟩ := Zg H0
         refine r_s (L := [(1, _)]) (T := [⟨[.old 0], _, [], [], [59]⟩, ⟨[.op 0 0], _, [], [0], [60]⟩, ⟨[.op 1 0], _, [], [0, 1], [61]⟩, ⟨[.op 2 0], _, [], [0, 1, 2], [62]⟩]) (F := [.old 0, .op 3 0]) (hst.pick [0] rfl) hb Zb
           (o_p rfl (Ze Zlo rfl rfl u_0) <| o_p rfl (Zf Zfg rfl rfl u_0) <| o_p rfl (Zq Z5e (Zlp _ h10) rfl rfl (.cons u_0 .nil)) <| o_p rfl (Zcg rfl rfl u_0) <| o_n) (by kernel_rfl) (fun a g hst hb => ?_)
         refine wp_cond_split (hst.bool 1 rfl) (fun hc11 => ?_) (fun hc11 => ?_)
         · replace H0 := Zz hc11 H0
           refine r_s (L := []) (T := [⟨[], _, [], [], [2]⟩]) (F := [.op 0 0]) (hst.pick [] rfl) hb Zb
             (o_p rfl (Zc rfl rfl c_i) <| o_n) (by kernel_rfl) (fun a g hst hb => ?_)
           refine wp_ret ?_
           refine Zt ?_
           obtain rfl := Option.some.inj H0
           exact Z8 rfl hst hb (Zk (s := 2)) (hst.at 0 rfl)
         · replace H0 := Z0 hc11 H0
           refine wp_skip ?_
           refine Zv ?_
           refine wp_seq ?_
           refine r_s (L := [(1, _)]) (T := [⟨[.old 0], _, [], [], [63]⟩, ⟨[.op 0 0], _, [], [0], [64]⟩, ⟨[.op 1 0], _, [], [0, 1], [65]⟩]) (F := [.old 0, .op 2 0]) (hst.pick [0] rfl) hb Zb
             (o_p rfl (Ze Zgv rfl rfl u_0) <| o_p rfl (Zf ty_3 rfl rfl u_0) <| o_p rfl (Zc0 rfl rfl u_0 c_i) <| o_n) (by kernel_rfl) (fun a g hst hb => ?_)
           refine wp_cond_split (hst.bool 1 rfl) (fun hc12 => ?_) (fun hc12 => ?_)
           · replace H0 := Zz hc12 H0
             refine r_s (L := []) (T := [⟨[], _, [], [], [2]⟩]) (F := [.op 0 0]) (hst.pick [] rfl) hb Zb
               (o_p rfl (Zc rfl rfl c_i) <| o_n) (by kernel_rfl) (fun a g hst hb => ?_)
             refine wp_ret ?_
             refine Zt ?_
             obtain rfl := Option.some.inj H0
             exact Z8 rfl hst hb (Zk (s := 2)) (hst.at 0 rfl)
           · replace H0 := Z0 hc12 H0
             refine wp_skip ?_
             refine Zv ?_
             refine wp_seq ?_
             refine r_s (L := [(1, _)]) (T := [⟨[.old 0], _, [], [], [66]⟩, ⟨[.op 0 0], _, [], [0], [67]⟩, ⟨[.op 1 0], _, [], [0, 1], [68]⟩, ⟨[.op 2 0], _, [], [0, 1, 2], [69]⟩, ⟨[.op 3 0, .old 0], _, [], Lr 4, [70]⟩, ⟨[.op 3 0, .op 4 0], _, [], Lr 5, [71]⟩, ⟨[.op 3 0, .op 5 0], _, [], Lr 6, [72]⟩, ⟨[.op 3 0, .op 6 0], _, [], Lr 7, [73]⟩]) (F := [.old 0, .op 7 0]) (hst.pick [0] rfl) hb Zb
               (o_p rfl (Ze Zh7 rfl rfl u_0) <| o_p rfl (Zf ty_3 rfl rfl u_0) <| o_p rfl (Zc0 rfl rfl u_0 c_i) <| o_p rfl (Za rfl rfl u_0) <| o_g (g_f rfl rfl rfl (fun hG => Ze Zh7 rfl rfl u_0)) <| o_g (g_f rfl rfl rfl (fun hG => Zf ty_3 rfl rfl (Opd.gd hG u_0))) <| o_g (g_f rfl rfl rfl (fun hG => Zcy rfl rfl (Opd.gd hG u_0) c_i)) <| o_p rfl (Zbu rfl rfl u_0 (fun hz => (Opd.gd (bNF hz) u_1))) <| o_n) (by kernel_rfl) (fun a g hst hb => ?_)
             refine wp_cond_split (hst.bool 1 rfl) (fun hc13 => ?_) (fun hc13 => ?_)
             · replace H0 := Zz hc13 H0
               refine r_s (L := []) (T := [⟨[], _, [], [], [2]⟩]) (F := [.op 0 0]) (hst.pick [] rfl) hb Zb
                 (o_p rfl (Zc rfl rfl c_i) <| o_n) (by kernel_rfl) (fun a g hst hb => ?_)
               refine wp_ret ?_
               refine Zt ?_
               obtain rfl := Option.some.inj H0
               exact Z8 rfl hst hb (Zk (s := 2)) (hst.at 0 rfl)
             · replace H0 := Z0 hc13 H0
               refine wp_skip ?_
               refine Zv ?_
               refine wp_seq ?_
               refine r_s (L := [(1, _)]) (T := [⟨[.old 0], _, [], [], [74]⟩, ⟨[.op 0 0], _, [], [0], [75]⟩, ⟨[.op 1 0], _, [], [0, 1], [76]⟩, ⟨[.old 0], _, [], [], [77]⟩, ⟨[.op 3 0], _, [], [3], [78]⟩, ⟨[.op 2 0, .op 4 0], _, [], Lr 5, [79]⟩]) (F := [.old 0, .op 5 0]) (hst.pick [0] rfl) hb Zb
                 (o_p rfl (Ze Zdp rfl rfl u_0) <| o_p rfl (Zf Ze9 rfl rfl u_0) <| o_p rfl (Zce Tryz.underlying36 rfl rfl u_0) <| o_p rfl (Ze Zh7 rfl rfl u_0) <| o_p rfl (Zf ty_3 rfl rfl u_0) <| o_p rfl (Zcy rfl rfl u_0 u_1) <| o_n) (by kernel_rfl) (fun a g hst hb => ?_)
               refine wp_cond_split (hst.bool 1 rfl) (fun hc14 => ?_) (fun hc14 => ?_)
               · replace H0 := Zz hc14 H0
                 refine r_s (L := []) (T := [⟨[], _, [], [], [2]⟩]) (F := [.op 0 0]) (hst.pick [] rfl) hb Zb
                   (o_p rfl (Zc rfl rfl c_i) <| o_n) (by kernel_rfl) (fun a g hst hb => ?_)
                 refine wp_ret ?_
                 refine Zt ?_
                 obtain rfl := Option.some.inj H0
                 exact Z8 rfl hst hb (Zk (s := 2)) (hst.at 0 rfl)
               · replace H0 := Z0 hc14 H0
                 refine wp_skip ?_
                 refine Zv ?_
                 refine wp_seq ?_
                 refine r_s (L := [(1, _)]) (T := [⟨[], _, [], [], [4]⟩]) (F := [.old 0, .op 0 0]) (hst.pick [0] rfl) hb Zb
                   (o_p rfl (Zc rfl rfl c_i) <| o_n) (by kernel_rfl) (fun a g hst hb => ?_)
                 obtain ⟨z20, hz1, H0⟩ := Zg H0
                 refine Zcs (fun a w => ∃ (g : G), w = g.w ∧ St 96 [] a g ∧ Base g0 g ∧ (.inr ()) = z20) ?_ ?_
                 · rintro a w ⟨g, rfl, hst, hb, rfl⟩
                   refine Zv ?_
                   refine r_s (T := [⟨[], _, [], [], [2]⟩]) (F := [.op 0 0]) hst hb Zb
                     (o_p rfl (Zc rfl rfl c_i) <| o_n) (by kernel_rfl) (fun a g hst hb => ?_)
                   refine wp_ret ?_
                   obtain rfl := Option.some.inj H0
                   exact Z8 rfl hst hb (Zk (s := 2)) (hst.at 0 rfl)
                 · refine wp_block ?_
                   refine wp_loop_ghost (fun n a w => ∃ (x15 : Int) (g : G), w = g.w ∧ St 96 [(1, (Zh.ptr a0)), (4, (pInt .i64 x15))] a g ∧ Base g0 g ∧ Zd3 a0 n x15 = some z20) (Int.toNat ((a0.List.length : Int) - (0 : Int)) + 1) ⟨(0 : Int), g, rfl, (hst.pick [0, 1] rfl), hb, hz1⟩ (fun n a w hI => ?_)
                   obtain ⟨x15, g, rfl, hst, hb, H1⟩ := hI
                   cases n with
                   | zero => exact absurd H1 (by simp [Zd3])
                   | succ n =>
                     rw [Zd3] at H1
                     refine wp_seq ?_
                     refine r_s (T := [⟨[.old 1], _, [], [], [80]⟩, ⟨[.old 0], _, [], [], [81]⟩, ⟨[.op 1 0], _, [], [1], [82]⟩, ⟨[.op 2 0], _, [], [1, 2], [83]⟩, ⟨[.op 0 0, .op 3 0], _, [], Lr 4, [84]⟩]) (F := [.old 0, .old 1, .op 4 0]) hst hb Zb
                       (o_p rfl (Za rfl rfl u_0) <| o_p rfl (Ze Zdp rfl rfl u_0) <| o_p rfl (Zf Ze9 rfl rfl u_0) <| o_p rfl (Zce Tryz.underlying36 rfl rfl u_0) <| o_p rfl (Zc0 rfl rfl u_0 u_1) <| o_n) (by kernel_rfl) (fun a g hst hb => ?_)
                     refine wp_cond_split (hst.bool 2 rfl) (fun hc16 => ?_) (fun hc16 => ?_)
                     · replace H1 := Zz hc16 H1
                       refine wp_skip ?_
                       refine Zv ?_
                       refine wp_seq ?_
                       refine wp_block ?_
                       obtain ⟨r17, h18, H1⟩ := Zg H1
                       refine r_s (L := [(1, _), (4, _)]) (T := [⟨[.old 0], _, [], [], [87]⟩, ⟨[.op 0 0], _, [], [0], [88]⟩, ⟨[.old 0], _, [], [], [89]⟩, ⟨[.op 2 0], _, [], [2], [90]⟩, ⟨[.old 1], _, [], [], [91]⟩, ⟨[.op 1 0, .op 3 0, .op 4 0], _, [], Lr 5, [92]⟩, ⟨[.op 5 0], _, [], Lr 6, [5]⟩]) (F := [.old 0, .old 1, .op 6 0]) (hst.pick [0, 1] rfl) hb Zb
                         (o_p rfl (Ze Zgv rfl rfl u_0) <| o_p rfl (Zf ty_3 rfl rfl u_0) <| o_p rfl (Ze Zdp rfl rfl u_0) <| o_p rfl (Zf Ze9 rfl rfl u_0) <| o_p rfl (Za rfl rfl u_0) <| o_p rfl (Zq Zbae (Zqc _ _ _ h18) rfl rfl (.cons u_0 (.cons u_1 (.cons u_2 .nil)))) <| o_p rfl (Zc rfl rfl u_0) <| o_n) (by kernel_rfl) (fun a g hst hb => ?_)
                       refine r_s (T := [⟨[.old 2], _, [], [], [93]⟩, ⟨[.op 0 0], _, [], [0], [94]⟩]) (F := [.old 0, .old 1, .old 2, .op 1 0]) hst hb Zb
                         (o_p rfl (Za rfl rfl u_0) <| o_p rfl (Zg9 rfl rfl u_0 c_i) <| o_n) (by kernel_rfl) (fun a g hst hb => ?_)
                       refine wp_cond_split (hst.bool 3 rfl) (fun hc19 => ?_) (fun hc19 => ?_)
                       · replace H1 := Zz hc19 H1
                         refine r_s (L := [(5, _)]) (T := [⟨[.old 0], _, [], [], [95]⟩, ⟨[.op 0 0], _, [], [0], [2]⟩]) (F := [.op 1 0]) (hst.pick [2] rfl) hb Zb
                           (o_p rfl (Za rfl rfl u_0) <| o_p rfl (Zc rfl rfl u_0) <| o_n) (by kernel_rfl) (fun a g hst hb => ?_)
                         refine wp_ret ?_
                         refine Z7 ?_
                         refine Zt ?_
                         refine Zt ?_
                         refine Z7 ?_
                         refine Zt ?_
                         refine Zt ?_
                         obtain rfl := Option.some.inj H1
                         obtain rfl := Option.some.inj H0
                         exact Z8 rfl hst hb (Zk (s := 2)) (hst.at 0 rfl)
                       · replace H1 := Z0 hc19 H1
                         refine wp_skip ?_
                         refine Zbp ?_
                         refine Zv ?_
                         refine r_g (L := [(1, _), (4, _)]) (T := [⟨[.old 1], _, [], [], [85]⟩, ⟨[.op 0 0], _, [], [0], [86]⟩, ⟨[.op 1 0], _, [], [0, 1], [4]⟩]) (F := [.old 0, .op 2 0]) (hst.pick [0, 1] rfl) hb Zb
                           (o_p rfl (Za rfl rfl u_0) <| o_p rfl (Zch rfl rfl u_0 c_i rfl) <| o_p rfl (Zc rfl rfl u_0) <| o_n) (by kernel_rfl) (fun a g hst hb => ?_)
                         exact ⟨n, Nat.lt_succ_self _, (IntKind.i64.wrap (x15 + (1 : Int))), g, rfl, (hst.pick [0, 1] rfl), hb, H1⟩
                     · replace H1 := Z0 hc16 H1
                       refine wp_exit ?_
                       refine Zca ?_
                       refine Zca ?_
                       refine Zcv ?_
                       exact ⟨g, rfl, (hst.pick [] rfl), hb, Option.some.inj H1⟩
theorem Znp (a0 : Zo) (a1 : ByteArray) {r : Int} (h : Zet a0 a1 = some r) : FnOk Tryz.prog 55 [(Zbt.pd a0), (pStr a1)] (pInt .i64 r) := by
 have H0 := h
 unfold Zet at H0
 clear h
 refine Zbv (N := 24) Tryz.func55 rfl rfl (Nat.le_of_ble_eq_true rfl) rfl rfl (fun a g0 hst hb => ?_)
 refine r_s (T := [⟨[.old 0], _, [], [], [2]⟩, ⟨[], _, [], [], [4]⟩]) (F := [.old 1, .op 0 0]) hst hb Zb
   (o_p rfl (Zbr rfl rfl u_0) <| o_p rfl (Zc rfl rfl c_i) <| o_n) (by kernel_rfl) (fun a g hst hb => ?_)
 refine r_s (T := [⟨[], _, [], [], [5]⟩]) (F := [.old 0, .old 1, .op 0 0]) hst hb Zb
   (o_p rfl (Zc rfl rfl c_i) <| o_n) (by kernel_rfl) (fun a g hst hb => ?_)
 obtain ⟨z6, hz1, H0⟩ := Zg H0
 refine wp_seq ?_
 refine Zcs (fun a w => ∃ (y5 : Int) (g : G), w = g.w ∧ St 24 [(5, (pInt .i64 y5))] a g ∧ Base g0 g ∧ y5 = z6) ?_ ?_
 · rintro a w ⟨y5, g, rfl, hst, hb, rfl⟩
   refine Zv ?_
   refine r_s (T := [⟨[.old 0], _, [], [], [23]⟩, ⟨[.op 0 0], _, [], [0], [4]⟩]) (F := [.op 1 0]) hst hb Zb
     (o_p rfl (Za rfl rfl u_0) <| o_p rfl (Zc rfl rfl u_0) <| o_n) (by kernel_rfl) (fun a g hst hb => ?_)
   refine wp_ret ?_
   obtain rfl := Option.some.inj H0
   exact Z8 rfl hst hb (Zk (s := 4)) (hst.at 0 rfl)
 · refine wp_block ?_
   refine wp_loop_ghost (fun n a w => ∃ (x1 : Int) (g : G), w = g.w ∧ St 24 [(1, (pStr a1)), (2, (Zbt.ptr a0)), (5, (pInt .i64 x1))] a g ∧ Base g0 g ∧ Zc3 a0 a1 n x1 = some z6) (Int.toNat ((a0.L.length : Int) - (0 : Int)) + 1) ⟨(0 : Int), g, rfl, (hst.pick [0, 1, 2] rfl), hb, hz1⟩ (fun n a w hI => ?_)
   obtain ⟨x1, g, rfl, hst, hb, H1⟩ := hI
   cases n with
   | zero => exact absurd H1 (by simp [Zc3])
   | succ n =>
     rw [Zc3] at H1
     refine wp_seq ?_
     obtain ⟨e2, h3, H1⟩ := Zg H1
     refine r_s (T := ⟨[.old 2], _, [], [], [6]⟩ :: ⟨[.old 1], _, [], [], [7]⟩ :: ⟨[.op 1 0], _, [], [1], [8]⟩ :: ⟨[.op 2 0], _, [], [1, 2], [9]⟩ :: ⟨[.op 0 0, .op 3 0], _, [], Lr 4, [10]⟩ :: ⟨[.op 4 0], _, [], Lr 5, [11]⟩ :: ⟨[.op 5 0, .old 1], _, [], Lr 6, [12]⟩ :: ⟨[.op 5 0, .op 6 0], _, [], Lr 7, [13]⟩ :: ⟨[.op 5 0, .old 2], _, [], Lr 6, [14]⟩ :: ⟨[.op 5 0, .op 7 0, .op 8 0], _, [], Lr 9, [15]⟩ :: ⟨[.op 5 0, .op 9 0], _, [], Lr 10, [16]⟩ :: ⟨[.op 5 0, .op 10 0], _, [], Lr 11, [17]⟩ :: ⟨[.op 5 0, .old 0], _, [], Lr 6, [18]⟩ :: ⟨[.op 5 0, .op 11 0, .op 12 0], _, [], Lr 13, [19]⟩ :: ⟨[.op 5 0, .op 13 0], _, [], Lr 14, [20]⟩ :: []) (F := [.old 0, .old 1, .old 2, .op 14 0]) hst hb Zb
       (o_p rfl (Za rfl rfl u_0) <| o_p rfl (Ze Zmh rfl rfl u_0) <| o_p rfl (Zf Zpo rfl rfl u_0) <| o_p rfl (Zce Tryz.underlying22 rfl rfl u_0) <| o_p rfl (Zc0 rfl rfl u_0 u_1) <| o_p rfl (Za rfl rfl u_0) <| o_g (g_t rfl rfl rfl (fun hG => Ze Zmh rfl rfl u_0)) <| o_g (g_t rfl rfl rfl (fun hG => Zf Zpo rfl rfl (Opd.gd hG u_0))) <| o_g (g_t rfl rfl rfl (fun hG => Za rfl rfl u_0)) <| o_g (g_t rfl rfl rfl (fun hG => Zb4 Tryz.underlying22 Zt3 rfl rfl (Opd.gd hG u_0) (Opd.gd hG u_1) (Zbq h3 hG))) <| o_g (g_t rfl rfl rfl (fun hG => Ze Zpa rfl rfl (Opd.gd hG u_0))) <| o_g (g_t rfl rfl rfl (fun hG => Zf ty_9 rfl rfl (Opd.gd hG u_0))) <| o_g (g_t rfl rfl rfl (fun hG => Za rfl rfl u_0)) <| o_g (g_t rfl rfl rfl (fun hG => Zmz rfl rfl (Opd.gd hG u_0) (Opd.gd hG u_1))) <| o_p rfl (Zbm rfl rfl u_0 (fun hz => (Opd.gd hz u_1))) <| o_n) (by kernel_rfl) (fun a g hst hb => ?_)
     refine wp_cond_split (hst.bool 3 rfl) (fun hc4 => ?_) (fun hc4 => ?_)
     · replace H1 := Zz hc4 H1
       refine wp_skip ?_
       refine Zv ?_
       refine wp_block ?_
       refine r_g (L := [(1, _), (2, _), (5, _)]) (T := [⟨[.old 2], _, [], [], [21]⟩, ⟨[.op 0 0], _, [], [0], [22]⟩, ⟨[.op 1 0], _, [], [0, 1], [5]⟩]) (F := [.old 0, .old 1, .op 2 0]) (hst.pick [0, 1, 2] rfl) hb Zb
         (o_p rfl (Za rfl rfl u_0) <| o_p rfl (Zch rfl rfl u_0 c_i rfl) <| o_p rfl (Zc rfl rfl u_0) <| o_n) (by kernel_rfl) (fun a g hst hb => ?_)
       refine Zbp ?_
       exact ⟨n, Nat.lt_succ_self _, (IntKind.i64.wrap (x1 + (1 : Int))), g, rfl, (hst.pick [0, 1, 2] rfl), hb, H1⟩
     · replace H1 := Z0 hc4 H1
       refine wp_exit ?_
       refine Zca ?_
       refine Zca ?_
       refine Zcv ?_
       exact ⟨x1, g, rfl, (hst.pick [2] rfl), hb, Option.some.inj H1⟩
theorem Zn7 (a0 : Zo) (a1 : ByteArray) (a2 : Zd) {r : Zo × Int} (h : Zfx a0 a1 a2 = some r) : FnOk Tryz.prog 32 [(Zbt.pd a0), (pStr a1), (Zh.pd a2)] (pTup [(Zbt.pd r.1), (pInt .i64 r.2)]) := by
 have H0 := h
 unfold Zfx at H0
 clear h
 refine Zbv (N := 80) Tryz.func32 rfl rfl (Nat.le_of_ble_eq_true rfl) rfl rfl (fun a g0 hst hb => ?_)
 refine r_s (T := [⟨[.old 0], _, [], [], [3]⟩, ⟨[.old 2], _, [], [], [5]⟩, ⟨[], [(6, (pBox Zbt 6 (default : Zo)))], [7], [], [6]⟩, ⟨[], _, [], [], [7]⟩]) (F := [.old 1, .op 0 0, .op 1 0, .op 2 0]) hst hb Zb
   (o_p rfl (Zbr rfl rfl u_0) <| o_p rfl (Zbr rfl rfl u_0) <| o_p rfl (Zbk (zs := [.slice none 0 0, .int .i64 0]) (by kernel_rfl) (fun g => Zlv g) rfl rfl) <| o_p rfl (Zc rfl rfl c_i) <| o_n) (by kernel_rfl) (fun a g hst hb => ?_)
 refine wp_seq ?_
 refine r_s (T := [⟨[.old 0], _, [], [], [12]⟩, ⟨[.op 0 0], _, [], [0], [13]⟩, ⟨[.op 1 0], _, [], [0, 1], [14]⟩, ⟨[.op 2 0], _, [], [0, 1, 2], [15]⟩, ⟨[.op 3 0, .old 0], _, [], Lr 4, [16]⟩, ⟨[.op 3 0, .op 4 0], _, [], Lr 5, [17]⟩, ⟨[.op 3 0, .op 5 0], _, [], Lr 6, [18]⟩, ⟨[.op 3 0, .op 6 0], _, [], Lr 7, [19]⟩]) (F := [.old 0, .old 1, .old 2, .old 3, .op 7 0]) hst hb Zb
   (o_p rfl (Za rfl rfl u_0) <| o_p rfl (Zf9 Tryz.underlying9 rfl rfl u_0) <| o_p rfl (Zc0 rfl rfl u_0 c_i) <| o_p rfl (Za rfl rfl u_0) <| o_g (g_f rfl rfl rfl (fun hG => Za rfl rfl u_0)) <| o_g (g_f rfl rfl rfl (fun hG => Zf9 Tryz.underlying9 rfl rfl (Opd.gd hG u_0))) <| o_g (g_f rfl rfl rfl (fun hG => Zcy rfl rfl (Opd.gd hG u_0) c_i)) <| o_p rfl (Zbu rfl rfl u_0 (fun hz => (Opd.gd (bNF hz) u_1))) <| o_n) (by kernel_rfl) (fun a g hst hb => ?_)
 refine wp_cond_split (hst.bool 4 rfl) (fun hc1 => ?_) (fun hc1 => ?_)
 · replace H0 := Zz hc1 H0
   refine r_s (L := [(3, _), (6, _)]) (T := [⟨[.old 0], _, [], [], [20]⟩, ⟨[.op 0 0, .old 1], _, [7], [0], [6]⟩, ⟨[], _, [], [0, 1], [7]⟩]) (F := [.op 1 0, .op 2 0]) (hst.pick [1, 3] rfl) hb Zb
     (o_p rfl (Zf Zjg rfl rfl u_0) <| o_p rfl (Zba Zjg rfl rfl u_1 u_0) <| o_p rfl (Zc rfl rfl c_i) <| o_n) (by kernel_rfl) (fun a g hst hb => ?_)
   refine wp_ret ?_
   refine Zt ?_
   obtain rfl := Option.some.inj H0
   obtain ⟨u0, hu0, hq0⟩ := Zbl (P := Tryz.prog) Zjg (hst.at 0 rfl)
   exact Zfh rfl hst hb hu0 (Zk (s := 7)) (Zdx hq0 (hst.at 1 rfl))
 · replace H0 := Z0 hc1 H0
   refine wp_skip ?_
   refine Zv ?_
   obtain ⟨r2, h3, H0⟩ := Zg H0
   refine r_s (L := [(1, _), (3, _), (5, _), (6, _)]) (T := [⟨[.old 2], _, [], [], [21]⟩, ⟨[.op 0 0], _, [], [0], [22]⟩, ⟨[.op 1 0], _, [], [0, 1], [8]⟩]) (F := [.old 0, .old 1, .old 2, .old 3, .op 2 0]) (hst.pick [0, 1, 2, 3] rfl) hb Zb
     (o_p rfl (Zf Zbh rfl rfl u_0) <| o_p rfl (Zq Zbak (Zpx _ h3) rfl rfl (.cons u_0 .nil)) <| o_p rfl (Zc rfl rfl u_0) <| o_n) (by kernel_rfl) (fun a g hst hb => ?_)
   refine wp_seq ?_
   refine r_s (T := [⟨[.old 4], _, [], [], [23]⟩, ⟨[.op 0 0], _, [], [0], [24]⟩]) (F := [.old 0, .old 1, .old 2, .old 3, .old 4, .op 1 0]) hst hb Zb
     (o_p rfl (Za rfl rfl u_0) <| o_p rfl (Zg9 rfl rfl u_0 c_i) <| o_n) (by kernel_rfl) (fun a g hst hb => ?_)
   refine wp_cond_split (hst.bool 5 rfl) (fun hc4 => ?_) (fun hc4 => ?_)
   · replace H0 := Zz hc4 H0
     refine r_s (L := [(3, _), (6, _), (8, _)]) (T := [⟨[.old 0], _, [], [], [25]⟩, ⟨[.old 2], _, [], [], [26]⟩, ⟨[.op 0 0, .old 1], _, [7], [0], [6]⟩, ⟨[.op 1 0], _, [], [0, 1, 2], [7]⟩]) (F := [.op 2 0, .op 3 0]) (hst.pick [1, 3, 4] rfl) hb Zb
       (o_p rfl (Zf Zjg rfl rfl u_0) <| o_p rfl (Za rfl rfl u_0) <| o_p rfl (Zba Zjg rfl rfl u_1 u_0) <| o_p rfl (Zc rfl rfl u_0) <| o_n) (by kernel_rfl) (fun a g hst hb => ?_)
     refine wp_ret ?_
     refine Zt ?_
     obtain rfl := Option.some.inj H0
     obtain ⟨u0, hu0, hq0⟩ := Zbl (P := Tryz.prog) Zjg (hst.at 0 rfl)
     exact Zfh rfl hst hb hu0 (Zk (s := 7)) (Zdx hq0 (hst.at 1 rfl))
   · replace H0 := Z0 hc4 H0
     refine wp_skip ?_
     refine Zv ?_
     obtain ⟨r5, h6, H0⟩ := Zg H0
     refine r_s (L := [(1, _), (3, _), (5, _), (6, _)]) (T := [⟨[.old 1], _, [], [], [27]⟩, ⟨[.old 0], _, [], [], [28]⟩, ⟨[.op 0 0, .op 1 0], _, [], [0, 1], [29]⟩, ⟨[.op 2 0], _, [], [0, 1, 2], [9]⟩]) (F := [.old 0, .old 1, .old 2, .old 3, .op 3 0]) (hst.pick [0, 1, 2, 3] rfl) hb Zb
       (o_p rfl (Zf Zjg rfl rfl u_0) <| o_p rfl (Za rfl rfl u_0) <| o_p rfl (Zq Zbaw (Znp _ _ h6) rfl rfl (.cons u_0 (.cons u_1 .nil))) <| o_p rfl (Zc rfl rfl u_0) <| o_n) (by kernel_rfl) (fun a g hst hb => ?_)
     obtain ⟨e7, h8, H0⟩ := Zg H0
     refine r_s (T := ⟨[.old 4], _, [], [], [30]⟩ :: ⟨[.old 1], _, [], [], [31]⟩ :: ⟨[.op 1 0], _, [], [1], [32]⟩ :: ⟨[.op 2 0], _, [], [1, 2], [33]⟩ :: ⟨[.op 0 0, .op 3 0], _, [], Lr 4, [34]⟩ :: ⟨[.op 4 0], _, [], Lr 5, [35]⟩ :: ⟨[.op 5 0, .old 1], _, [], Lr 6, [36]⟩ :: ⟨[.op 5 0, .op 6 0], _, [], Lr 7, [37]⟩ :: ⟨[.op 5 0, .old 4], _, [], Lr 6, [38]⟩ :: ⟨[.op 5 0, .op 7 0, .op 8 0], _, [], Lr 9, [39]⟩ :: ⟨[.op 5 0, .op 9 0], _, [], Lr 10, [40]⟩ :: ⟨[.op 5 0, .op 10 0], _, [], Lr 11, [41]⟩ :: ⟨[.op 5 0, .old 0], _, [], Lr 6, [42]⟩ :: ⟨[.op 5 0, .op 11 0, .op 12 0], _, [], Lr 13, [43]⟩ :: ⟨[.op 5 0, .op 13 0], _, [], Lr 14, [44]⟩ :: ⟨[.op 14 0], _, [], Lr 15, [10]⟩ :: []) (F := [.old 0, .old 1, .old 2, .old 3, .old 4, .op 15 0]) hst hb Zb
       (o_p rfl (Za rfl rfl u_0) <| o_p rfl (Ze Zmh rfl rfl u_0) <| o_p rfl (Zf Zpo rfl rfl u_0) <| o_p rfl (Zce Tryz.underlying22 rfl rfl u_0) <| o_p rfl (Zc0 rfl rfl u_0 u_1) <| o_p rfl (Za rfl rfl u_0) <| o_g (g_t rfl rfl rfl (fun hG => Ze Zmh rfl rfl u_0)) <| o_g (g_t rfl rfl rfl (fun hG => Zf Zpo rfl rfl (Opd.gd hG u_0))) <| o_g (g_t rfl rfl rfl (fun hG => Za rfl rfl u_0)) <| o_g (g_t rfl rfl rfl (fun hG => Zb4 Tryz.underlying22 Zt3 rfl rfl (Opd.gd hG u_0) (Opd.gd hG u_1) (Zbq h8 hG))) <| o_g (g_t rfl rfl rfl (fun hG => Ze Zpa rfl rfl (Opd.gd hG u_0))) <| o_g (g_t rfl rfl rfl (fun hG => Zf ty_9 rfl rfl (Opd.gd hG u_0))) <| o_g (g_t rfl rfl rfl (fun hG => Za rfl rfl u_0)) <| o_g (g_t rfl rfl rfl (fun hG => Zk7 rfl rfl (Opd.gd hG u_0) (Opd.gd hG u_1))) <| o_p rfl (Zbm rfl rfl u_0 (fun hz => (Opd.gd hz u_1))) <| o_p rfl (Zc rfl rfl u_0) <| o_n) (by kernel_rfl) (fun a g hst hb => ?_)
     refine wp_seq ?_
     refine r_s (T := [⟨[.old 5], _, [], [], [45]⟩, ⟨[.op 0 0], _, [], [0], [46]⟩, ⟨[.op 1 0], _, [], [0, 1], [47]⟩, ⟨[.op 2 0, .old 1], _, [], [0, 1, 2], [48]⟩, ⟨[.op 2 0, .op 3 0], _, [], Lr 4, [49]⟩, ⟨[.op 2 0, .op 4 0], _, [], Lr 5, [50]⟩, ⟨[.op 2 0, .old 1], _, [], [0, 1, 2], [51]⟩, ⟨[.op 2 0, .op 6 0], _, [], [0, 1, 2, 6], [52]⟩, ⟨[.op 2 0, .op 5 0, .op 7 0], _, [], Lr 8, [53]⟩, ⟨[.op 2 0, .op 8 0], _, [], Lr 9, [54]⟩]) (F := [.old 0, .old 1, .old 2, .old 3, .old 4, .old 5, .op 9 0]) hst hb Zb
       (o_p rfl (Za rfl rfl u_0) <| o_p rfl (Zcg rfl rfl u_0) <| o_p rfl (Za rfl rfl u_0) <| o_g (g_t rfl rfl rfl (fun hG => Ze Zmh rfl rfl u_0)) <| o_g (g_t rfl rfl rfl (fun hG => Zf Zpo rfl rfl (Opd.gd hG u_0))) <| o_g (g_t rfl rfl rfl (fun hG => Zce Tryz.underlying22 rfl rfl (Opd.gd hG u_0))) <| o_g (g_t rfl rfl rfl (fun hG => Ze Z0c rfl rfl u_0)) <| o_g (g_t rfl rfl rfl (fun hG => Zf ty_3 rfl rfl (Opd.gd hG u_0))) <| o_g (g_t rfl rfl rfl (fun hG => Zry rfl rfl (Opd.gd hG u_0) (Opd.gd hG u_1))) <| o_p rfl (Zbm rfl rfl u_0 (fun hz => (Opd.gd hz u_1))) <| o_n) (by kernel_rfl) (fun a g hst hb => ?_)
     refine wp_cond_split (hst.bool 6 rfl) (fun hc9 => ?_) (fun hc9 => ?_)
     · replace H0 := Zz hc9 H0
       refine r_s (L := [(3, _), (6, _)]) (T := [⟨[.old 0], _, [], [], [55]⟩, ⟨[.op 0 0, .old 1], _, [7], [0], [6]⟩, ⟨[], _, [], [0, 1], [7]⟩]) (F := [.op 1 0, .op 2 0]) (hst.pick [1, 3] rfl) hb Zb
         (o_p rfl (Zf Zjg rfl rfl u_0) <| o_p rfl (Zba Zjg rfl rfl u_1 u_0) <| o_p rfl (Zc rfl rfl c_i) <| o_n) (by kernel_rfl) (fun a g hst hb => ?_)
       refine wp_ret ?_
       refine Zt ?_
       obtain rfl := Option.some.inj H0
       obtain ⟨u0, hu0, hq0⟩ := Zbl (P := Tryz.prog) Zjg (hst.at 0 rfl)
       exact Zfh rfl hst hb hu0 (Zk (s := 7)) (Zdx hq0 (hst.at 1 rfl))
     · replace H0 := Z0 hc9 H0
       refine wp_skip ?_
       refine Zv ?_
       obtain ⟨c10, h11, H0⟩ := Zg H0; obtain ⟨h12, H0⟩ := Zhi H0
       refine r_s (L := [(1, _), (3, _), (5, _), (6, _), (9, _), (10, _)]) (T := [⟨[], _, [57], [], [56]⟩, ⟨[.old 1], _, [], [], [57]⟩, ⟨[.op 1 0], _, [], [1], [58]⟩, ⟨[.old 4], _, [], [], [59]⟩, ⟨[.op 2 0, .op 3 0], _, [], [1, 2, 3], [60]⟩, ⟨[.op 0 0, .op 4 0], _, [57], Lr 5, [56, 61]⟩, ⟨[.op 5 0], _, [], Lr 6, [11]⟩]) (F := [.old 0, .old 1, .old 2, .old 3, .old 4, .old 5, .op 6 0]) (hst.pick [0, 1, 2, 3, 4, 5] rfl) hb Zb
         (o_p rfl (Zrf 56 Ztf (xs := []) .nil (by decide) rfl rfl) <| o_p rfl (Ze Zmh rfl rfl u_0) <| o_p rfl (Zf Zpo rfl rfl u_0) <| o_p rfl (Za rfl rfl u_0) <| o_p rfl (Z0p Tryz.underlying22 Zt3 rfl rfl u_0 u_1 h11) <| o_p rfl (Zje Ztf rfl rfl u_0 u_1 h12) <| o_p rfl (Zc rfl rfl u_0) <| o_n) (by kernel_rfl) (fun a g hst hb => ?_)
       obtain ⟨h13, H0⟩ := Zhi H0
       refine r_s (T := [⟨[.old 6], _, [], [], [62]⟩, ⟨[.old 0], _, [], [], [63]⟩, ⟨[.old 2], _, [], [], [64]⟩, ⟨[.op 1 0, .op 2 0], _, [], [1, 2], [65]⟩, ⟨[.op 3 0], _, [], [1, 2, 3], [66]⟩, ⟨[.op 0 0, .op 4 0], _, [57], Lr 5, [11, 62, 67]⟩, ⟨[.op 5 0], _, [], Lr 6, [11]⟩]) (F := [.old 1, .old 3, .old 4, .old 5, .op 6 0]) hst hb Zb
         (o_p rfl (Za rfl rfl u_0) <| o_p rfl (Za rfl rfl u_0) <| o_p rfl (Zf Zbh rfl rfl u_0) <| o_p rfl (Z2r rfl rfl u_0 u_1) <| o_p rfl (Zl1 Ztf (xs := [.tmp 65]) (.cons u_0 .nil) (by decide) rfl rfl) <| o_p rfl (Zje Ztf rfl rfl u_0 u_1 h13) <| o_p rfl (Zc rfl rfl u_0) <| o_n) (by kernel_rfl) (fun a g hst hb => ?_)
       refine wp_seq ?_
       refine r_s (T := [⟨[.old 3], _, [], [], [68]⟩]) (F := [.old 0, .old 1, .old 2, .old 4, .op 0 0]) hst hb Zb
         (o_p rfl (Za rfl rfl u_0) <| o_n) (by kernel_rfl) (fun a g hst hb => ?_)
       refine Zcs (fun a w => ∃ (j15 : Int) (g : G), w = g.w ∧ St 80 [(3, (Zbt.ptr a0)), (6, (pBox Zbt 6 (default : Zo))), (9, (pInt .i64 j15)), (11, (pRow Zbx 85 56 ((([] : List Z9) ++ c10) ++ ([({ Key := a1, Rec := a2 } : Z9)] : List Z9))))] a g ∧ Base g0 g ∧ Zeg a0 a1 a2 c10 j15 = some r) ?_ ?_
       · rintro a w ⟨j15, g, rfl, hst, hb, H0⟩
         unfold Zeg at H0
         refine Zv ?_
         obtain ⟨c16, h17, H0⟩ := Zg H0; obtain ⟨h18, H0⟩ := Zhi H0
         refine r_s (T := [⟨[.old 3], _, [], [], [71]⟩, ⟨[.old 0], _, [], [], [72]⟩, ⟨[.op 1 0], _, [], [1], [73]⟩, ⟨[.old 2], _, [], [], [74]⟩, ⟨[.op 2 0, .op 3 0], _, [], [1, 2, 3], [75]⟩, ⟨[.op 0 0, .op 4 0], _, [57], Lr 5, [11, 71, 76]⟩, ⟨[.old 0], _, [], [], [77]⟩, ⟨[.op 6 0], _, [], [6], [78]⟩, ⟨[.op 5 0, .op 7 0], _, [], Lr 8, [79]⟩, ⟨[.op 8 0, .old 1], _, [7], Lr 9, [6]⟩, ⟨[], _, [], Lr 10, [7]⟩]) (F := [.op 9 0, .op 10 0]) hst hb Zb
           (o_p rfl (Za rfl rfl u_0) <| o_p rfl (Ze Zmh rfl rfl u_0) <| o_p rfl (Zf Zpo rfl rfl u_0) <| o_p rfl (Za rfl rfl u_0) <| o_p rfl (Z56 Tryz.underlying22 Zt3 rfl rfl u_0 u_1 h17) <| o_p rfl (Zje Ztf rfl rfl u_0 u_1 h18) <| o_p rfl (Ze Z0c rfl rfl u_0) <| o_p rfl (Zf ty_3 rfl rfl u_0) <| o_p rfl (Z2g rfl rfl (Opd.imp u_0 (fun _ _ h => Zis h)) u_1) <| o_p rfl (Zba Zjg rfl rfl u_1 u_0) <| o_p rfl (Zc rfl rfl c_i) <| o_n) (by kernel_rfl) (fun a g hst hb => ?_)
         refine wp_ret ?_
         obtain rfl := Option.some.inj H0
         obtain ⟨u0, hu0, hq0⟩ := Zbl (P := Tryz.prog) Zjg (hst.at 0 rfl)
         exact Zfh rfl hst hb hu0 (Zk (s := 7)) (Zdx hq0 (hst.at 1 rfl))
       · refine wp_cond_split (hst.bool 4 rfl) (fun hc14 => ?_) (fun hc14 => ?_)
         · replace H0 := Zz hc14 H0
           refine r_g (L := [(3, _), (6, _), (9, _), (11, _)]) (T := [⟨[.old 2], _, [], [], [69]⟩, ⟨[.op 0 0], _, [], [0], [70]⟩, ⟨[.op 1 0], _, [], [0, 1], [9]⟩]) (F := [.old 0, .old 1, .op 2 0, .old 3]) (hst.pick [0, 1, 2, 3] rfl) hb Zb
             (o_p rfl (Za rfl rfl u_0) <| o_p rfl (Zch rfl rfl u_0 c_i rfl) <| o_p rfl (Zc rfl rfl u_0) <| o_n) (by kernel_rfl) (fun a g hst hb => ?_)
           exact ⟨(IntKind.i64.wrap (r5 + (1 : Int))), g, rfl, (hst.pick [0, 1, 2, 3] rfl), hb, H0⟩
         · replace H0 := Z0 hc14 H0
           refine wp_skip ?_
           exact ⟨r5, g, rfl, (hst.pick [0, 1, 2, 3] rfl), hb, H0⟩
theorem Zpz (a0 : Int) (a1 : List Z9) {r : Zl × (Option Zo)} (h : Zga a0 a1 = some r) : FnOk Tryz.prog 8 [(pInt .i64 a0), (Zbx.sl.pd a1)] (pTup [(Zw.pd r.1), (Zbt.opt.pd r.2)]) := by
 have H0 := h
 unfold Zga at H0
 clear h
 refine Zbv (N := 63) Tryz.func8 rfl rfl (Nat.le_of_ble_eq_true rfl) rfl rfl (fun a g0 hst hb => ?_)
 refine r_s (T := [⟨[], [(4, (pBox Zw 4 (default : Zl)))], [5], [], [4]⟩, ⟨[], [(5, (Zbt.opt.pd (none : Option Zo)))], [], [], [5]⟩]) (F := [.old 0, .old 1, .op 0 0]) hst hb Zb
   (o_p rfl (Zbk (zs := [.pointer none, .int .i64 0]) (by kernel_rfl) (fun g => Zdq g) rfl rfl) <| o_p rfl (Zc rfl rfl (Opd.c (fun g => Zqp g))) <| o_n) (by kernel_rfl) (fun a g hst hb => ?_)
 obtain ⟨r1, h2, H0⟩ := Zg H0
 refine r_s (T := [⟨[.old 0], _, [], [], [12]⟩, ⟨[.op 0 0], _, [], [0], [13]⟩, ⟨[.op 1 0], _, [], [0, 1], [11]⟩, ⟨[.op 2 0], _, [], [0, 1, 2], [14]⟩, ⟨[.op 2 0], _, [], [0, 1, 2], [15]⟩, ⟨[], [(6, (pBox Zw 6 (default : Zl)))], [7], [], [6]⟩, ⟨[.op 3 0, .op 5 0], _, [7], [0, 1, 2, 3, 5], [6]⟩, ⟨[.op 4 0], _, [], Lr 7, [7]⟩]) (F := [.old 0, .old 1, .old 2, .op 6 0, .op 7 0]) hst hb Zb
   (o_p rfl (Za rfl rfl u_0) <| o_p rfl (Zq Z47 (Zqm _ h2) rfl rfl (.cons u_0 .nil)) <| o_p rfl (Za rfl rfl u_0) <| o_p rfl (Z4 rfl rfl u_0 rfl) <| o_p rfl (Z4 rfl rfl u_0 rfl) <| o_p rfl (Zbk (zs := [.pointer none, .int .i64 0]) (by kernel_rfl) (fun g => Zdq g) rfl rfl) <| o_p rfl (Zba Zbn rfl rfl u_1 u_0) <| o_p rfl (Zc rfl rfl u_0) <| o_n) (by kernel_rfl) (fun a g hst hb => ?_)
 refine wp_seq ?_
 refine r_s (T := [⟨[.old 4], _, [], [], [16]⟩, ⟨[.op 0 0], _, [], [0], [17]⟩, ⟨[.op 1 0], _, [], [0, 1], [18]⟩, ⟨[.op 2 0, .old 1], _, [], [0, 1, 2], [19]⟩, ⟨[.op 2 0, .op 3 0], _, [], Lr 4, [20]⟩, ⟨[.op 2 0, .op 4 0], _, [], Lr 5, [21]⟩, ⟨[.op 2 0, .op 5 0], _, [], Lr 6, [22]⟩]) (F := [.old 0, .old 1, .old 2, .old 3, .op 6 0]) hst hb Zb
   (o_p rfl (Za rfl rfl u_0) <| o_p rfl (Zg9 rfl rfl u_0 c_i) <| o_p rfl (Za rfl rfl u_0) <| o_g (g_f rfl rfl rfl (fun hG => Za rfl rfl u_0)) <| o_g (g_f rfl rfl rfl (fun hG => Zce Tryz.underlying22 rfl rfl (Opd.gd hG u_0))) <| o_g (g_f rfl rfl rfl (fun hG => Zcy rfl rfl (Opd.gd hG u_0) c_i)) <| o_p rfl (Zbu rfl rfl u_0 (fun hz => (Opd.gd (bNF hz) u_1))) <| o_n) (by kernel_rfl) (fun a g hst hb => ?_)
 refine wp_cond_split (hst.bool 4 rfl) (fun hc3 => ?_) (fun hc3 => ?_)
 · replace H0 := Zz hc3 H0
   refine r_s (L := [(4, _), (6, _)]) (T := [⟨[.old 1], _, [], [], [23]⟩, ⟨[.op 0 0, .old 0], _, [5], [0], [4]⟩, ⟨[], [(5, (Zbt.opt.pd (none : Option Zo)))], [], [0, 1], [5]⟩]) (F := [.op 1 0, .op 2 0]) (hst.pick [2, 3] rfl) hb Zb
     (o_p rfl (Zck Zbn rfl rfl u_0) <| o_p rfl (Zba Zbn rfl rfl u_1 u_0) <| o_p rfl (Zc rfl rfl (Opd.c (fun g => Zqp g))) <| o_n) (by kernel_rfl) (fun a g hst hb => ?_)
   refine wp_ret ?_
   refine Zt ?_
   obtain rfl := Option.some.inj H0
   obtain ⟨u0, hu0, hq0⟩ := Zbl (P := Tryz.prog) Zbn (hst.at 0 rfl)
   exact Zfh rfl hst hb hu0 (Zk (s := 5)) (Zdx hq0 (hst.at 1 rfl))
 · replace H0 := Z0 hc3 H0
   refine wp_skip ?_
   refine Zv ?_
   refine r_s (L := [(0, _), (1, _), (4, _), (6, _)]) (T := [⟨[.old 0], _, [], [], [24]⟩, ⟨[.op 0 0], _, [], [0], [25]⟩, ⟨[], [(8, (pBox Zbt 8 (default : Zo)))], [9], [], [8]⟩, ⟨[.op 1 0, .op 2 0], _, [9], [0, 1, 2], [8]⟩]) (F := [.old 1, .old 2, .old 3, .op 3 0]) (hst.pick [0, 1, 2, 3] rfl) hb Zb
     (o_p rfl (Za rfl rfl u_0) <| o_p rfl (Z7r rfl rfl u_0) <| o_p rfl (Zbk (zs := [.slice none 0 0, .int .i64 0]) (by kernel_rfl) (fun g => Zlv g) rfl rfl) <| o_p rfl (Zba Zjg rfl rfl u_1 u_0) <| o_n) (by kernel_rfl) (fun a g hst hb => ?_)
   refine wp_seq ?_
   refine r_s (T := [⟨[.old 0], _, [], [], [26]⟩, ⟨[.op 0 0], _, [], [0], [27]⟩, ⟨[], _, [], [], [28]⟩]) (F := [.old 1, .old 2, .old 3, .op 0 0, .op 1 0, .op 2 0]) hst hb Zb
     (o_p rfl (Za rfl rfl u_0) <| o_p rfl (Zce Tryz.underlying22 rfl rfl u_0) <| o_p rfl (Za rfl rfl c_i) <| o_n) (by kernel_rfl) (fun a g hst hb => ?_)
   obtain ⟨z21, hz1, H0⟩ := Zg H0
   refine Zcs (fun a w => ∃ (y18 : Zl) (y19 : Zl) (y20 : Zo) (g : G), w = g.w ∧ St 63 [(4, (pBox Zw 4 y18)), (6, (pBox Zw 6 y19)), (8, (pBox Zbt 8 y20))] a g ∧ Base g0 g ∧ (.inr (y18, y19, y20)) = z21) ?_ ?_
   · rintro a w ⟨y18, y19, y20, g, rfl, hst, hb, rfl⟩
     refine Zv ?_
     refine r_s (T := [⟨[.old 1], _, [], [], [62]⟩, ⟨[.op 0 0, .old 0], _, [5], [0], [4]⟩, ⟨[.old 2], _, [9], [0, 1], [5, 8]⟩]) (F := [.op 1 0, .op 2 0]) hst hb Zb
       (o_p rfl (Zck Zbn rfl rfl u_0) <| o_p rfl (Zba Zbn rfl rfl u_1 u_0) <| o_p rfl (Z31 (.inr rfl) rfl u_0) <| o_n) (by kernel_rfl) (fun a g hst hb => ?_)
     refine wp_ret ?_
     obtain rfl := Option.some.inj H0
     obtain ⟨u0, hu0, hq0⟩ := Zbl (P := Tryz.prog) Zbn (hst.at 0 rfl)
     exact Zfh rfl hst hb hu0 (Zk (s := 5)) (Zdx hq0 (hst.at 1 rfl))
   · refine wp_block ?_
     refine wp_loop_ghost (fun n a w => ∃ (x4 : Zl) (x5 : Zl) (x6 : Zo) (x7 : Int) (g : G), w = g.w ∧ St 63 [(4, (pBox Zw 4 x4)), (6, (pBox Zw 6 x5)), (8, (pBox Zbt 8 x6)), (26, (Zbx.sl.pd a1)), (27, (pInt .i64 (a1.length : Int))), (28, (pInt .i64 x7))] a g ∧ Base g0 g ∧ Zdo a1 n x4 x5 x6 x7 = some z21) (Int.toNat ((a1.length : Int) - (0 : Int)) + 1) ⟨(default : Zl), r1.1, ({ L := ([] : List Z9), Room := a0 } : Zo), (0 : Int), g, rfl, (hst.pick [0, 1, 2, 3, 4, 5] rfl), hb, hz1⟩ (fun n a w hI => ?_)
     obtain ⟨x4, x5, x6, x7, g, rfl, hst, hb, H1⟩ := hI
     cases n with
     | zero => exact absurd H1 (by simp [Zdo])
     | succ n =>
       rw [Zdo] at H1
       refine r_s (T := [⟨[.old 5, .old 4], _, [], [], [29]⟩]) (F := [.old 0, .old 1, .old 2, .old 3, .old 4, .old 5, .op 0 0]) hst hb Zb
         (o_p rfl (Zc0 rfl rfl u_0 u_1) <| o_n) (by kernel_rfl) (fun a g hst hb => ?_)
       refine wp_seq ?_
       refine wp_cond_split (hst.bool 6 rfl) (fun hc8 => ?_) (fun hc8 => ?_)
       · replace H1 := Zz hc8 H1
         refine wp_skip ?_
         refine Zv ?_
         refine wp_seq ?_
         refine wp_block ?_
         obtain ⟨e9, h10, H1⟩ := Zg H1
         refine r_s (L := [(4, _), (6, _), (8, _), (26, _), (27, _), (28, _)]) (T := [⟨[.old 3, .old 5], _, [], [], [30]⟩, ⟨[.op 0 0], _, [], [0], [31]⟩, ⟨[], [(10, (pBox Zbx 10 (default : Z9)))], [11], [], [10]⟩, ⟨[.op 1 0, .op 2 0], _, [11], [0, 1, 2], [10]⟩]) (F := [.old 0, .old 1, .old 2, .op 3 0, .old 3, .old 4, .old 5]) (hst.pick [0, 1, 2, 3, 4, 5] rfl) hb Zb
           (o_p rfl (Zb4 Tryz.underlying22 Zt3 rfl rfl u_0 u_1 h10) <| o_p rfl (Zf Z5i rfl rfl u_0) <| o_p rfl (Zbk (zs := [.string ByteArray.empty, .int .i64 0, .int .i64 0, .int .i64 0, .int .i64 0, .float .f64 0, .int .i64 0, .string ByteArray.empty, .slice none 0 0]) (by kernel_rfl) (fun g => Zqe g) rfl rfl) <| o_p rfl (Zcb Z5i rfl rfl u_1 u_0) <| o_n) (by kernel_rfl) (fun a g hst hb => ?_)
         refine wp_seq ?_
         obtain ⟨r11, h12, H1⟩ := Zg H1
         refine r_s (T := [⟨[.old 3], _, [], [], [32]⟩, ⟨[.op 0 0], _, [], [0], [33]⟩, ⟨[.op 1 0], _, [], [0, 1], [34]⟩, ⟨[.op 2 0], _, [], [0, 1, 2], [35]⟩, ⟨[.op 3 0], _, [], Lr 4, [36]⟩, ⟨[.op 4 0, .old 3], _, [], Lr 5, [37]⟩, ⟨[.op 4 0, .op 5 0], _, [], Lr 6, [38]⟩, ⟨[.op 4 0, .op 6 0], _, [], Lr 7, [39]⟩, ⟨[.op 4 0, .op 7 0], _, [], Lr 8, [40]⟩, ⟨[.op 4 0, .op 8 0], _, [], Lr 9, [41]⟩]) (F := [.old 0, .old 1, .old 2, .old 3, .old 4, .old 5, .old 6, .op 9 0]) hst hb Zb
           (o_p rfl (Ze Zpa rfl rfl u_0) <| o_p rfl (Zf ty_9 rfl rfl u_0) <| o_p rfl (Zf9 Tryz.underlying9 rfl rfl u_0) <| o_p rfl (Zcy rfl rfl u_0 c_i) <| o_p rfl (Za rfl rfl u_0) <| o_g (g_f rfl rfl rfl (fun hG => Ze Zuk rfl rfl u_0)) <| o_g (g_f rfl rfl rfl (fun hG => Zf Zbh rfl rfl (Opd.gd hG u_0))) <| o_g (g_f rfl rfl rfl (fun hG => Zq Z46 (Zmw _ (Zbq h12 hG)) rfl rfl (.cons (Opd.gd hG u_0) .nil))) <| o_g (g_f rfl rfl rfl (fun hG => Zcy rfl rfl (Opd.gd hG u_0) c_i)) <| o_p rfl (Zbu rfl rfl u_0 (fun hz => (Opd.gd (bNF hz) u_1))) <| o_n) (by kernel_rfl) (fun a g hst hb => ?_)
         refine wp_cond_split (hst.bool 7 rfl) (fun hc13 => ?_) (fun hc13 => ?_)
         · replace H1 := Zz hc13 H1
           refine r_s (L := [(4, _), (6, _)]) (T := [⟨[.old 1], _, [], [], [42]⟩, ⟨[.op 0 0, .old 0], _, [5], [0], [4]⟩, ⟨[], [(5, (Zbt.opt.pd (none : Option Zo)))], [], [0, 1], [5]⟩]) (F := [.op 1 0, .op 2 0]) (hst.pick [0, 1] rfl) hb Zb
             (o_p rfl (Zck Zbn rfl rfl u_0) <| o_p rfl (Zba Zbn rfl rfl u_1 u_0) <| o_p rfl (Zc rfl rfl (Opd.c (fun g => Zqp g))) <| o_n) (by kernel_rfl) (fun a g hst hb => ?_)
           refine wp_ret ?_
           refine Zt ?_
           refine Z7 ?_
           refine Zt ?_
           refine Zt ?_
           refine Z7 ?_
           refine Zt ?_
           refine Zt ?_
           obtain rfl := Option.some.inj H1
           obtain rfl := Option.some.inj H0
           obtain ⟨u0, hu0, hq0⟩ := Zbl (P := Tryz.prog) Zbn (hst.at 0 rfl)
           exact Zfh rfl hst hb hu0 (Zk (s := 5)) (Zdx hq0 (hst.at 1 rfl))
         · replace H1 := Z0 hc13 H1
           refine wp_skip ?_
           refine Zv ?_
           obtain ⟨r14, h15, H1⟩ := Zg H1
           refine r_s (L := [(4, _), (6, _), (8, _), (10, _), (26, _), (27, _), (28, _)]) (T := [⟨[.old 1], _, [], [], [44]⟩, ⟨[.old 3], _, [], [], [45]⟩, ⟨[.op 1 0], _, [], [1], [46]⟩, ⟨[.old 3], _, [], [], [47]⟩, ⟨[.op 3 0], _, [], [3], [48]⟩, ⟨[.op 0 0, .op 2 0, .op 4 0], _, [], Lr 5, [49]⟩, ⟨[.op 5 0], _, [], Lr 6, [43]⟩, ⟨[.op 6 0], _, [], Lr 7, [50]⟩, ⟨[.op 6 0], _, [], Lr 7, [51]⟩, ⟨[.op 7 0, .old 1], _, [7], Lr 8, [6]⟩]) (F := [.old 0, .op 9 0, .old 2, .old 3, .old 4, .old 5, .old 6]) (hst.pick [0, 1, 2, 3, 4, 5, 6] rfl) hb Zb
             (o_p rfl (Zck Zbn rfl rfl u_0) <| o_p rfl (Ze Zpa rfl rfl u_0) <| o_p rfl (Zf ty_9 rfl rfl u_0) <| o_p rfl (Ze Zuk rfl rfl u_0) <| o_p rfl (Zf Zbh rfl rfl u_0) <| o_p rfl (Zq Zw2 (Zit _ _ _ h15) rfl rfl (.cons u_0 (.cons u_1 (.cons u_2 .nil)))) <| o_p rfl (Za rfl rfl u_0) <| o_p rfl (Z4 rfl rfl u_0 rfl) <| o_p rfl (Z4 rfl rfl u_0 rfl) <| o_p rfl (Zba Zbn rfl rfl u_1 u_0) <| o_n) (by kernel_rfl) (fun a g hst hb => ?_)
           obtain ⟨r16, h17, H1⟩ := Zg H1
           refine r_g (T := [⟨[.old 2], _, [], [], [53]⟩, ⟨[.old 3], _, [], [], [54]⟩, ⟨[.op 1 0], _, [], [1], [55]⟩, ⟨[.old 3], _, [], [], [56]⟩, ⟨[.op 3 0], _, [], [3], [57]⟩, ⟨[.op 0 0, .op 2 0, .op 4 0], _, [], Lr 5, [58]⟩, ⟨[.op 5 0], _, [], Lr 6, [52]⟩, ⟨[.op 6 0], _, [], Lr 7, [59]⟩, ⟨[.op 6 0], _, [], Lr 7, [60]⟩, ⟨[.op 7 0, .old 2], _, [9], Lr 8, [8]⟩]) (F := [.old 0, .old 1, .op 9 0, .old 4, .old 5, .old 6]) hst hb Zb
             (o_p rfl (Zck Zjg rfl rfl u_0) <| o_p rfl (Ze Zpa rfl rfl u_0) <| o_p rfl (Zf ty_9 rfl rfl u_0) <| o_p rfl (Ze Zuk rfl rfl u_0) <| o_p rfl (Zf Zbh rfl rfl u_0) <| o_p rfl (Zq Zba0 (Zn7 _ _ _ h17) rfl rfl (.cons u_0 (.cons u_1 (.cons u_2 .nil)))) <| o_p rfl (Za rfl rfl u_0) <| o_p rfl (Z4 rfl rfl u_0 rfl) <| o_p rfl (Z4 rfl rfl u_0 rfl) <| o_p rfl (Zba Zjg rfl rfl u_1 u_0) <| o_n) (by kernel_rfl) (fun a g hst hb => ?_)
           refine Zbp ?_
           refine Zv ?_
           refine r_g (T := [⟨[.old 5], _, [], [], [61]⟩, ⟨[.op 0 0], _, [], [0], [28]⟩]) (F := [.old 0, .old 1, .old 2, .old 3, .old 4, .op 1 0]) hst hb Zb
             (o_p rfl (Zch rfl rfl u_0 c_i rfl) <| o_p rfl (Za rfl rfl u_0) <| o_n) (by kernel_rfl) (fun a g hst hb => ?_)
           exact ⟨n, Nat.lt_succ_self _, x4, r14.1, r16.1, (IntKind.i64.wrap (x7 + (1 : Int))), g, rfl, (hst.pick [0, 1, 2, 3, 4, 5] rfl), hb, H1⟩
       · replace H1 := Z0 hc8 H1
         refine wp_exit ?_
         refine Zca ?_
         refine Zca ?_
         refine Zcv ?_
         exact ⟨x4, x5, x6, g, rfl, (hst.pick [0, 1, 2] rfl), hb, Option.some.inj H1⟩
theorem Zrc (a0 : Zs) {r : Int} (h : Zia a0 = some r) : FnOk Tryz.prog 33 [(Zy.pd a0)] (pInt .i64 r) := by
 have H0 := h
 unfold Zia at H0
 clear h
 refine Zbv (N := 19) Tryz.func33 rfl rfl (Nat.le_of_ble_eq_true rfl) rfl rfl (fun a g0 hst hb => ?_)
 refine r_s (T := [⟨[.old 0], _, [], [], [1]⟩, ⟨[], _, [], [], [2]⟩]) (F := [.op 0 0]) hst hb Zb
   (o_p rfl (Zbr rfl rfl u_0) <| o_p rfl (Zc rfl rfl c_i) <| o_n) (by kernel_rfl) (fun a g hst hb => ?_)
 refine wp_seq ?_
 obtain ⟨r1, h2, H0⟩ := Zg H0
 refine r_s (T := ⟨[.old 0], _, [], [], [3]⟩ :: ⟨[.op 0 0], _, [], [0], [4]⟩ :: ⟨[.op 1 0], _, [], [0, 1], [5]⟩ :: ⟨[.op 2 0], _, [], [0, 1, 2], [6]⟩ :: ⟨[.op 3 0], _, [], Lr 4, [7]⟩ :: ⟨[.op 4 0, .old 0], _, [], Lr 5, [8]⟩ :: ⟨[.op 4 0, .op 5 0], _, [], Lr 6, [9]⟩ :: ⟨[.op 4 0, .op 6 0], _, [], Lr 7, [10]⟩ :: ⟨[.op 4 0, .op 7 0], _, [], Lr 8, [11]⟩ :: ⟨[.op 4 0, .op 8 0], _, [], Lr 9, [12]⟩ :: ⟨[.op 9 0], _, [], Lr 10, [13]⟩ :: ⟨[.op 10 0, .old 0], _, [], Lr 11, [14]⟩ :: ⟨[.op 10 0, .op 11 0], _, [], Lr 12, [15]⟩ :: ⟨[.op 10 0, .op 12 0], _, [], Lr 13, [16]⟩ :: ⟨[.op 10 0, .op 13 0], _, [], Lr 14, [17]⟩ :: ⟨[.op 10 0, .op 14 0], _, [], Lr 15, [18]⟩ :: []) (F := [.op 15 0]) hst hb Zb
   (o_p rfl (Ze Zjw rfl rfl u_0) <| o_p rfl (Zf ty_9 rfl rfl u_0) <| o_p rfl (Zf9 Tryz.underlying9 rfl rfl u_0) <| o_p rfl (Zcy rfl rfl u_0 c_i) <| o_p rfl (Za rfl rfl u_0) <| o_g (g_f rfl rfl rfl (fun hG => Ze Zjy rfl rfl u_0)) <| o_g (g_f rfl rfl rfl (fun hG => Zf ty_9 rfl rfl (Opd.gd hG u_0))) <| o_g (g_f rfl rfl rfl (fun hG => Zf9 Tryz.underlying9 rfl rfl (Opd.gd hG u_0))) <| o_g (g_f rfl rfl rfl (fun hG => Zcy rfl rfl (Opd.gd hG u_0) c_i)) <| o_p rfl (Zbu rfl rfl u_0 (fun hz => (Opd.gd (bNF hz) u_1))) <| o_p rfl (Za rfl rfl u_0) <| o_g (g_f rfl rfl rfl (fun hG => Ze Znw rfl rfl u_0)) <| o_g (g_f rfl rfl rfl (fun hG => Zf Zbh rfl rfl (Opd.gd hG u_0))) <| o_g (g_f rfl rfl rfl (fun hG => Zq Z46 (Zmw _ (Zbq h2 hG)) rfl rfl (.cons (Opd.gd hG u_0) .nil))) <| o_g (g_f rfl rfl rfl (fun hG => Zcy rfl rfl (Opd.gd hG u_0) c_i)) <| o_p rfl (Zbu rfl rfl u_0 (fun hz => (Opd.gd (bNF hz) u_1))) <| o_n) (by kernel_rfl) (fun a g hst hb => ?_)
 refine wp_cond_split (hst.bool 0 rfl) (fun hc3 => ?_) (fun hc3 => ?_)
 · replace H0 := Zz hc3 H0
   refine r_s (L := []) (T := [⟨[], _, [], [], [2]⟩]) (F := [.op 0 0]) (hst.pick [] rfl) hb Zb
     (o_p rfl (Zc rfl rfl c_i) <| o_n) (by kernel_rfl) (fun a g hst hb => ?_)
   refine wp_ret ?_
   refine Zt ?_
   obtain rfl := Option.some.inj H0
   exact Z8 rfl hst hb (Zk (s := 2)) (hst.at 0 rfl)
 · replace H0 := Z0 hc3 H0
   refine wp_skip ?_
   refine Zv ?_
   refine r_s (L := []) (T := [⟨[], _, [], [], [2]⟩]) (F := [.op 0 0]) (hst.pick [] rfl) hb Zb
     (o_p rfl (Zc rfl rfl c_i) <| o_n) (by kernel_rfl) (fun a g hst hb => ?_)
   refine wp_ret ?_
   obtain rfl := Option.some.inj H0
   exact Z8 rfl hst hb (Zk (s := 2)) (hst.at 0 rfl)
theorem Zq3 (a0 : Zbg) {r : Int} (h : Ziq a0 = some r) : FnOk Tryz.prog 9 [(Zb8.pd a0)] (pInt .i64 r) := by
 have H0 := h
 unfold Ziq at H0
 clear h
 refine Zbv (N := 20) Tryz.func9 rfl rfl (Nat.le_of_ble_eq_true rfl) rfl rfl (fun a g0 hst hb => ?_)
 refine r_s (T := [⟨[.old 0], _, [], [], [1]⟩, ⟨[], _, [], [], [2]⟩]) (F := [.op 0 0]) hst hb Zb
   (o_p rfl (Zbr rfl rfl u_0) <| o_p rfl (Zc rfl rfl c_i) <| o_n) (by kernel_rfl) (fun a g hst hb => ?_)
 refine wp_seq ?_
 refine r_s (T := [⟨[.old 0], _, [], [], [5]⟩, ⟨[.op 0 0], _, [], [0], [6]⟩, ⟨[.op 1 0], _, [], [0, 1], [7]⟩, ⟨[.op 2 0], _, [], [0, 1, 2], [8]⟩]) (F := [.old 0, .op 3 0]) hst hb Zb
   (o_p rfl (Ze Zkv rfl rfl u_0) <| o_p rfl (Zf Zmr rfl rfl u_0) <| o_p rfl (Zce Tryz.underlying23 rfl rfl u_0) <| o_p rfl (Zcy rfl rfl u_0 c_i) <| o_n) (by kernel_rfl) (fun a g hst hb => ?_)
 refine wp_cond_split (hst.bool 1 rfl) (fun hc1 => ?_) (fun hc1 => ?_)
 · replace H0 := Zz hc1 H0
   refine r_s (L := []) (T := [⟨[], _, [], [], [2]⟩]) (F := [.op 0 0]) (hst.pick [] rfl) hb Zb
     (o_p rfl (Zc rfl rfl c_i) <| o_n) (by kernel_rfl) (fun a g hst hb => ?_)
   refine wp_ret ?_
   refine Zt ?_
   obtain rfl := Option.some.inj H0
   exact Z8 rfl hst hb (Zk (s := 2)) (hst.at 0 rfl)
 · replace H0 := Z0 hc1 H0
   refine wp_skip ?_
   refine Zv ?_
   refine wp_seq ?_
   refine r_s (L := [(1, _)]) (T := [⟨[.old 0], _, [], [], [9]⟩, ⟨[.op 0 0], _, [], [0], [10]⟩, ⟨[.op 1 0], _, [], [0, 1], [11]⟩, ⟨[], _, [], [], [12]⟩]) (F := [.op 1 0, .op 2 0, .op 3 0]) (hst.pick [0] rfl) hb Zb
     (o_p rfl (Ze Zkv rfl rfl u_0) <| o_p rfl (Zf Zmr rfl rfl u_0) <| o_p rfl (Zce Tryz.underlying23 rfl rfl u_0) <| o_p rfl (Za rfl rfl c_i) <| o_n) (by kernel_rfl) (fun a g hst hb => ?_)
   obtain ⟨z9, hz1, H0⟩ := Zg H0
   refine Zcs (fun a w => ∃ (g : G), w = g.w ∧ St 20 [] a g ∧ Base g0 g ∧ (.inr ()) = z9) ?_ ?_
   · rintro a w ⟨g, rfl, hst, hb, rfl⟩
     refine Zv ?_
     refine r_s (T := [⟨[], _, [], [], [2]⟩]) (F := [.op 0 0]) hst hb Zb
       (o_p rfl (Zc rfl rfl c_i) <| o_n) (by kernel_rfl) (fun a g hst hb => ?_)
     refine wp_ret ?_
     obtain rfl := Option.some.inj H0
     exact Z8 rfl hst hb (Zk (s := 2)) (hst.at 0 rfl)
   · refine wp_block ?_
     refine wp_loop_ghost (fun n a w => ∃ (x2 : Int) (g : G), w = g.w ∧ St 20 [(10, (Zy.sl.pd a0.Acts)), (11, (pInt .i64 (a0.Acts.length : Int))), (12, (pInt .i64 x2))] a g ∧ Base g0 g ∧ Zd5 a0 n x2 = some z9) (Int.toNat ((a0.Acts.length : Int) - (0 : Int)) + 1) ⟨(0 : Int), g, rfl, (hst.pick [0, 1, 2] rfl), hb, hz1⟩ (fun n a w hI => ?_)
     obtain ⟨x2, g, rfl, hst, hb, H1⟩ := hI
     cases n with
     | zero => exact absurd H1 (by simp [Zd5])
     | succ n =>
       rw [Zd5] at H1
       refine r_s (T := [⟨[.old 2, .old 1], _, [], [], [13]⟩]) (F := [.old 0, .old 1, .old 2, .op 0 0]) hst hb Zb
         (o_p rfl (Zc0 rfl rfl u_0 u_1) <| o_n) (by kernel_rfl) (fun a g hst hb => ?_)
       refine wp_seq ?_
       refine wp_cond_split (hst.bool 3 rfl) (fun hc3 => ?_) (fun hc3 => ?_)
       · replace H1 := Zz hc3 H1
         refine wp_skip ?_
         refine Zv ?_
         refine wp_seq ?_
         refine wp_block ?_
         obtain ⟨e4, h5, H1⟩ := Zg H1
         refine r_s (L := [(10, _), (11, _), (12, _)]) (T := [⟨[.old 0, .old 2], _, [], [], [14]⟩, ⟨[.op 0 0], _, [], [0], [15]⟩, ⟨[], [(4, (pBox Zy 4 (default : Zs)))], [5], [], [4]⟩, ⟨[.op 1 0, .op 2 0], _, [5], [0, 1, 2], [4]⟩]) (F := [.op 3 0, .old 0, .old 1, .old 2]) (hst.pick [0, 1, 2] rfl) hb Zb
           (o_p rfl (Zb4 Tryz.underlying23 Zp5 rfl rfl u_0 u_1 h5) <| o_p rfl (Zf Zh2 rfl rfl u_0) <| o_p rfl (Zbk (zs := [.int .i64 0, .string ByteArray.empty, .int .i64 0, .float .f64 0, .string ByteArray.empty, .int .i64 0, .int .i64 0, .int .i64 0, .int .i64 0, .float .f64 0, .int .i64 0, .string ByteArray.empty, .slice none 0 0, .bool false]) (by kernel_rfl) (fun g => Zlz g) rfl rfl) <| o_p rfl (Zcb Zh2 rfl rfl u_1 u_0) <| o_n) (by kernel_rfl) (fun a g hst hb => ?_)
         obtain ⟨r6, h7, H1⟩ := Zg H1
         refine r_s (T := [⟨[.old 0], _, [], [], [16]⟩, ⟨[.op 0 0], _, [], [0], [17]⟩, ⟨[.op 1 0], _, [], [0, 1], [18]⟩]) (F := [.old 1, .old 2, .old 3, .op 2 0]) hst hb Zb
           (o_p rfl (Zf Zh2 rfl rfl u_0) <| o_p rfl (Zq Zbaj (Zrc _ h7) rfl rfl (.cons u_0 .nil)) <| o_p rfl (Zcy rfl rfl u_0 c_i) <| o_n) (by kernel_rfl) (fun a g hst hb => ?_)
         refine wp_cond_split (hst.bool 3 rfl) (fun hc8 => ?_) (fun hc8 => ?_)
         · replace H1 := Zz hc8 H1
           refine r_s (L := []) (T := [⟨[], _, [], [], [2]⟩]) (F := [.op 0 0]) (hst.pick [] rfl) hb Zb
             (o_p rfl (Zc rfl rfl c_i) <| o_n) (by kernel_rfl) (fun a g hst hb => ?_)
           refine wp_ret ?_
           refine Z7 ?_
           refine Zt ?_
           refine Zt ?_
           refine Z7 ?_
           refine Zt ?_
           refine Zt ?_
           obtain rfl := Option.some.inj H1
           obtain rfl := Option.some.inj H0
           exact Z8 rfl hst hb (Zk (s := 2)) (hst.at 0 rfl)
         · replace H1 := Z0 hc8 H1
           refine wp_skip ?_
           refine Zbp ?_
           refine Zv ?_
           refine r_g (L := [(10, _), (11, _), (12, _)]) (T := [⟨[.old 2], _, [], [], [19]⟩, ⟨[.op 0 0], _, [], [0], [12]⟩]) (F := [.old 0, .old 1, .op 1 0]) (hst.pick [0, 1, 2] rfl) hb Zb
             (o_p rfl (Zch rfl rfl u_0 c_i rfl) <| o_p rfl (Za rfl rfl u_0) <| o_n) (by kernel_rfl) (fun a g hst hb => ?_)
           exact ⟨n, Nat.lt_succ_self _, (IntKind.i64.wrap (x2 + (1 : Int))), g, rfl, (hst.pick [0, 1, 2] rfl), hb, H1⟩
       · replace H1 := Z0 hc3 H1
         refine wp_exit ?_
         refine Zca ?_
         refine Zca ?_
         refine Zcv ?_
         exact ⟨g, rfl, (hst.pick [] rfl), hb, Option.some.inj H1⟩
theorem Zqo (a0 : List ByteArray) (a1 : ByteArray) {r : Bool} (h : Zh9 a0 a1 = some r) : FnOk Tryz.prog 11 [(Kd.str.sl.pd a0), (pStr a1)] (Zbe r) := by
 have H0 := h
 unfold Zh9 at H0
 clear h
 refine Zbv (N := 18) Tryz.func11 rfl rfl (Nat.le_of_ble_eq_true rfl) rfl rfl (fun a g0 hst hb => ?_)
 refine r_s (T := [⟨[], _, [], [], [4]⟩]) (F := [.old 0, .old 1]) hst hb Zb
   (o_p rfl (Zc rfl rfl c_b) <| o_n) (by kernel_rfl) (fun a g hst hb => ?_)
 refine wp_seq ?_
 refine r_s (T := [⟨[], _, [], [], [5]⟩]) (F := [.old 0, .old 1, .op 0 0]) hst hb Zb
   (o_p rfl (Zc rfl rfl c_i) <| o_n) (by kernel_rfl) (fun a g hst hb => ?_)
 obtain ⟨z6, hz1, H0⟩ := Zg H0
 refine Zcs (fun a w => ∃ (g : G), w = g.w ∧ St 18 [] a g ∧ Base g0 g ∧ (.inr ()) = z6) ?_ ?_
 · rintro a w ⟨g, rfl, hst, hb, rfl⟩
   refine Zv ?_
   refine r_s (T := [⟨[], _, [], [], [4]⟩]) (F := [.op 0 0]) hst hb Zb
     (o_p rfl (Zc rfl rfl c_b) <| o_n) (by kernel_rfl) (fun a g hst hb => ?_)
   refine wp_ret ?_
   obtain rfl := Option.some.inj H0
   exact Z8 rfl hst hb (Zk (s := 4)) (hst.at 0 rfl)
 · refine wp_block ?_
   refine wp_loop_ghost (fun n a w => ∃ (x1 : Int) (g : G), w = g.w ∧ St 18 [(0, (Kd.str.sl.pd a0)), (1, (pStr a1)), (5, (pInt .i64 x1))] a g ∧ Base g0 g ∧ Zdz a0 a1 n x1 = some z6) (Int.toNat ((a0.length : Int) - (0 : Int)) + 1) ⟨(0 : Int), g, rfl, (hst.pick [0, 1, 2] rfl), hb, hz1⟩ (fun n a w hI => ?_)
   obtain ⟨x1, g, rfl, hst, hb, H1⟩ := hI
   cases n with
   | zero => exact absurd H1 (by simp [Zdz])
   | succ n =>
     rw [Zdz] at H1
     refine wp_seq ?_
     refine r_s (T := [⟨[.old 2], _, [], [], [6]⟩, ⟨[.old 0], _, [], [], [7]⟩, ⟨[.op 1 0], _, [], [1], [8]⟩, ⟨[.op 0 0, .op 2 0], _, [], [0, 1, 2], [9]⟩]) (F := [.old 0, .old 1, .old 2, .op 3 0]) hst hb Zb
       (o_p rfl (Za rfl rfl u_0) <| o_p rfl (Za rfl rfl u_0) <| o_p rfl (Zce Tryz.underlying26 rfl rfl u_0) <| o_p rfl (Zc0 rfl rfl u_0 u_1) <| o_n) (by kernel_rfl) (fun a g hst hb => ?_)
     refine wp_cond_split (hst.bool 3 rfl) (fun hc2 => ?_) (fun hc2 => ?_)
     · replace H1 := Zz hc2 H1
       refine wp_skip ?_
       refine Zv ?_
       refine wp_seq ?_
       refine wp_block ?_
       obtain ⟨e3, h4, H1⟩ := Zg H1
       refine r_s (L := [(0, _), (1, _), (5, _)]) (T := [⟨[.old 0], _, [], [], [12]⟩, ⟨[.old 2], _, [], [], [13]⟩, ⟨[.op 0 0, .op 1 0], _, [], [0, 1], [14]⟩, ⟨[.op 2 0], _, [], [0, 1, 2], [15]⟩, ⟨[.old 1], _, [], [], [16]⟩, ⟨[.op 3 0, .op 4 0], _, [], Lr 5, [17]⟩]) (F := [.old 0, .old 1, .old 2, .op 5 0]) (hst.pick [0, 1, 2] rfl) hb Zb
         (o_p rfl (Za rfl rfl u_0) <| o_p rfl (Za rfl rfl u_0) <| o_p rfl (Zb4 Tryz.underlying26 sz_9 rfl rfl u_0 u_1 h4) <| o_p rfl (Zf ty_9 rfl rfl u_0) <| o_p rfl (Za rfl rfl u_0) <| o_p rfl (Zk7 rfl rfl u_0 u_1) <| o_n) (by kernel_rfl) (fun a g hst hb => ?_)
       refine wp_cond_split (hst.bool 3 rfl) (fun hc5 => ?_) (fun hc5 => ?_)
       · replace H1 := Zz hc5 H1
         refine r_s (L := []) (T := [⟨[], _, [], [], [4]⟩]) (F := [.op 0 0]) (hst.pick [] rfl) hb Zb
           (o_p rfl (Zc rfl rfl c_b) <| o_n) (by kernel_rfl) (fun a g hst hb => ?_)
         refine wp_ret ?_
         refine Z7 ?_
         refine Zt ?_
         refine Zt ?_
         refine Z7 ?_
         refine Zt ?_
         refine Zt ?_
         obtain rfl := Option.some.inj H1
         obtain rfl := Option.some.inj H0
         exact Z8 rfl hst hb (Zk (s := 4)) (hst.at 0 rfl)
       · replace H1 := Z0 hc5 H1
         refine wp_skip ?_
         refine Zbp ?_
         refine Zv ?_
         refine r_g (L := [(0, _), (1, _), (5, _)]) (T := [⟨[.old 2], _, [], [], [10]⟩, ⟨[.op 0 0], _, [], [0], [11]⟩, ⟨[.op 1 0], _, [], [0, 1], [5]⟩]) (F := [.old 0, .old 1, .op 2 0]) (hst.pick [0, 1, 2] rfl) hb Zb
           (o_p rfl (Za rfl rfl u_0) <| o_p rfl (Zch rfl rfl u_0 c_i rfl) <| o_p rfl (Zc rfl rfl u_0) <| o_n) (by kernel_rfl) (fun a g hst hb => ?_)
         exact ⟨n, Nat.lt_succ_self _, (IntKind.i64.wrap (x1 + (1 : Int))), g, rfl, (hst.pick [0, 1, 2] rfl), hb, H1⟩
     · replace H1 := Z0 hc2 H1
       refine wp_exit ?_
       refine Zca ?_
       refine Zca ?_
       refine Zcv ?_
       exact ⟨g, rfl, (hst.pick [] rfl), hb, Option.some.inj H1⟩
theorem Zpi (a0 : Zu) {r : Int × Zu} (h : Zi1 a0 = some r) : FnMR Tryz.prog 13 Zci a0 r.2 [] (pInt .i64 r.1) := by
 have H0 := h
 unfold Zi1 at H0
 clear h
 refine Z6d (N := 13) Tryz.func13 rfl rfl (Nat.le_of_ble_eq_true rfl) rfl rfl (fun a g0 b0 hst hb => ?_)
 replace hst : St 13 [(0, (Zco (some b0) Zci 0 a0))] _ _ := hst
 refine r_s (T := [⟨[], _, [], [], [2]⟩]) (F := [.old 0]) hst hb Zb
   (o_p rfl (Zc rfl rfl c_i) <| o_n) (by kernel_rfl) (fun a g hst hb => ?_)
 refine r_s (T := [⟨[], _, [], [], [3]⟩]) (F := [.old 0, .op 0 0]) hst hb Zb
   (o_p rfl (Zc rfl rfl c_i) <| o_n) (by kernel_rfl) (fun a g hst hb => ?_)
 obtain ⟨z8, hz1, H0⟩ := Zg H0
 refine wp_seq ?_
 refine Zcs (fun a w => ∃ (y6 : Zu) (y7 : Int) (g : G), w = g.w ∧ St 13 [(0, (Zco (some b0) Zci 0 y6)), (3, (pInt .i64 y7))] a g ∧ Base g0 g ∧ (y6, y7) = z8) ?_ ?_
 · rintro a w ⟨y6, y7, g, rfl, hst, hb, rfl⟩
   refine Zv ?_
   refine r_s (T := [⟨[.old 1], _, [], [], [12]⟩, ⟨[.op 0 0], _, [], [0], [2]⟩]) (F := [.old 0, .op 1 0]) hst hb Zb
     (o_p rfl (Za rfl rfl u_0) <| o_p rfl (Zc rfl rfl u_0) <| o_n) (by kernel_rfl) (fun a g hst hb => ?_)
   refine wp_ret ?_
   obtain rfl := Option.some.inj H0
   exact Z97 rfl hst hb (Zk (s := 2)) (hst.at 1 rfl) (hst.at 0 rfl)
 · refine wp_block ?_
   refine wp_loop_ghost (fun n a w => ∃ (x1 : Zu) (x2 : Int) (g : G), w = g.w ∧ St 13 [(0, (Zco (some b0) Zci 0 x1)), (3, (pInt .i64 x2))] a g ∧ Base g0 g ∧ Zek n x1 x2 = some z8) (Int.toNat ((20 : Int) - (0 : Int)) + 1) ⟨a0, (0 : Int), g, rfl, (hst.pick [0, 1] rfl), hb, hz1⟩ (fun n a w hI => ?_)
   obtain ⟨x1, x2, g, rfl, hst, hb, H1⟩ := hI
   cases n with
   | zero => exact absurd H1 (by simp [Zek])
   | succ n =>
     rw [Zek] at H1
     refine wp_seq ?_
     obtain ⟨r3, h4, H1⟩ := Zg H1
     refine r_s (T := [⟨[.old 1], _, [], [], [4]⟩, ⟨[.op 0 0], _, [], [0], [5]⟩, ⟨[.op 1 0], _, [], [0, 1], [6]⟩, ⟨[.op 2 0, .old 0], [(7, (pIf (decide (x2 < (20 : Int))) (Zco (some b0) Zci 0 x1)))], [], [0, 1, 2], [7]⟩, ⟨[.op 2 0, .op 3 0, .old 0], [(8, (pIf (decide (x2 < (20 : Int))) (Zbe r3.2))), (0, (Zco (some b0) Zci 0 (if (decide (x2 < (20 : Int))) = true then r3.1 else x1)))], [1, 1000001], Lr 4, [0, 7, 8]⟩, ⟨[.op 2 0, .op 4 0], _, [], Lr 5, [9]⟩]) (F := [.op 4 1, .old 1, .op 5 0]) hst hb Zb
       (o_p rfl (Za rfl rfl u_0) <| o_p rfl (Zc0 rfl rfl u_0 c_i) <| o_p rfl (Za rfl rfl u_0) <| o_g (g_t rfl rfl rfl (fun hG => Za rfl rfl u_0)) <| o_g (OT.guardMR (decide (x2 < (20 : Int))) (gT (decide (x2 < (20 : Int)))).1 (gT (decide (x2 < (20 : Int)))).2 rfl rfl rfl (by decide) u_1 (fun hG => Zf0 Zwu (Zi2 _ (Zbq h4 hG)) rfl rfl rfl (by decide) u_1 (Opd.gd hG u_0) .nil) rfl) <| o_p rfl (Zbm rfl rfl u_0 (fun hz => (Opd.gd hz u_1))) <| o_n) (by kernel_rfl) (fun a g hst hb => ?_)
     refine wp_cond_split (hst.bool 2 rfl) (fun hc5 => ?_) (fun hc5 => ?_)
     · replace H1 := Zz hc5 H1
       refine wp_skip ?_
       refine Zv ?_
       refine wp_block ?_
       refine r_g (L := [(0, _), (3, _)]) (T := [⟨[.old 1], _, [], [], [10]⟩, ⟨[.op 0 0], _, [], [0], [11]⟩, ⟨[.op 1 0], _, [], [0, 1], [3]⟩]) (F := [.old 0, .op 2 0]) (hst.pick [0, 1] rfl) hb Zb
         (o_p rfl (Za rfl rfl u_0) <| o_p rfl (Zch rfl rfl u_0 c_i rfl) <| o_p rfl (Zc rfl rfl u_0) <| o_n) (by kernel_rfl) (fun a g hst hb => ?_)
       refine Zbp ?_
       exact ⟨n, Nat.lt_succ_self _, (if (decide (x2 < (20 : Int))) = true then r3.1 else x1), (IntKind.i64.wrap (x2 + (1 : Int))), g, rfl, (hst.pick [0, 1] rfl), hb, H1⟩
     · replace H1 := Z0 hc5 H1
       refine wp_exit ?_
       refine Zca ?_
       refine Zca ?_
       refine Zcv ?_
       exact ⟨(if (decide (x2 < (20 : Int))) = true then r3.1 else x1), x2, g, rfl, (hst.pick [0, 1] rfl), hb, Option.some.inj H1⟩
theorem Zq7 (a0 : Zu) {r : Zu × Int} (h : Zj6 a0 = some r) : FnMR Tryz.prog 13 Zci a0 r.1 [] (pInt .i64 r.2) := by
 obtain ⟨u, h1, h2⟩ := Zg h
 obtain rfl := Option.some.inj h2
 exact Zpi a0 h1
theorem Zoe (a0 : List Z9) (a1 : Zbg) (a2 : List ByteArray) {r : Bool} (h : Zg8 a0 a1 a2 = some r) : FnOk Tryz.prog 3 [(Zbx.sl.pd a0), (Zb8.pd a1), (Kd.str.sl.pd a2)] (Zbe r) := by
 have H0 := h
 unfold Zg8 at H0
 clear h
 refine Zbv (N := 98) Tryz.func3 rfl rfl (Nat.le_of_ble_eq_true rfl) rfl rfl (fun a g0 hst hb => ?_)
 refine r_s (T := [⟨[.old 1], _, [], [], [4]⟩, ⟨[], _, [], [], [6]⟩]) (F := [.old 0, .old 2, .op 0 0]) hst hb Zb
   (o_p rfl (Zbr rfl rfl u_0) <| o_p rfl (Zc rfl rfl c_b) <| o_n) (by kernel_rfl) (fun a g hst hb => ?_)
 refine wp_seq ?_
 obtain ⟨r1, h2, H0⟩ := Zg H0
 refine r_s (T := [⟨[], _, [], [], [17]⟩, ⟨[.op 0 0], _, [], [0], [18]⟩]) (F := [.old 0, .old 1, .old 2, .op 1 0]) hst hb Zb
   (o_p rfl (Zq en_7 (Zo6 h2) rfl rfl .nil) <| o_p rfl (Zcg rfl rfl u_0) <| o_n) (by kernel_rfl) (fun a g hst hb => ?_)
 refine wp_cond_split (hst.bool 3 rfl) (fun hc3 => ?_) (fun hc3 => ?_)
 · replace H0 := Zz hc3 H0
   refine r_s (L := []) (T := [⟨[], _, [], [], [6]⟩]) (F := [.op 0 0]) (hst.pick [] rfl) hb Zb
     (o_p rfl (Zc rfl rfl c_b) <| o_n) (by kernel_rfl) (fun a g hst hb => ?_)
   refine wp_ret ?_
   refine Zt ?_
   obtain rfl := Option.some.inj H0
   exact Z8 rfl hst hb (Zk (s := 6)) (hst.at 0 rfl)
 · replace H0 := Z0 hc3 H0
   refine wp_skip ?_
   refine Zv ?_
   obtain ⟨r4, h5, H0⟩ := Zg H0
   refine r_s (L := [(0, _), (2, _), (4, _)]) (T := [⟨[.old 0], _, [], [], [20]⟩, ⟨[.op 0 0], _, [], [0], [21]⟩, ⟨[.op 1 0], _, [], [0, 1], [19]⟩, ⟨[.op 2 0], _, [], [0, 1, 2], [22]⟩, ⟨[.op 2 0], _, [], [0, 1, 2], [23]⟩, ⟨[], [(7, (pBox Zw 7 (default : Zl)))], [8], [], [7]⟩, ⟨[.op 3 0, .op 5 0], _, [8], [0, 1, 2, 3, 5], [7]⟩, ⟨[.op 4 0], _, [], Lr 7, [8]⟩]) (F := [.old 1, .old 2, .op 6 0, .op 7 0]) (hst.pick [0, 1, 2] rfl) hb Zb
     (o_p rfl (Za rfl rfl u_0) <| o_p rfl (Zq en_8 (Zpz _ _ h5) rfl rfl (.cons c_i (.cons u_0 .nil))) <| o_p rfl (Za rfl rfl u_0) <| o_p rfl (Z4 rfl rfl u_0 rfl) <| o_p rfl (Z4 rfl rfl u_0 rfl) <| o_p rfl (Zbk (zs := [.pointer none, .int .i64 0]) (by kernel_rfl) (fun g => Zdq g) rfl rfl) <| o_p rfl (Zcb Zbn rfl rfl u_1 u_0) <| o_p rfl (Zc rfl rfl u_0) <| o_n) (by kernel_rfl) (fun a g hst hb => ?_)
   refine wp_seq ?_
   obtain ⟨r6, h7, H0⟩ := Zg H0
   refine r_s (T := ⟨[.old 3], _, [], [], [24]⟩ :: ⟨[.op 0 0], _, [], [0], [25]⟩ :: ⟨[.op 1 0], _, [], [0, 1], [26]⟩ :: ⟨[.op 2 0, .old 1], _, [], [0, 1, 2], [27]⟩ :: ⟨[.op 2 0, .op 3 0], _, [], Lr 4, [28]⟩ :: ⟨[.op 2 0, .op 4 0], _, [], Lr 5, [29]⟩ :: ⟨[.op 2 0, .op 5 0], _, [], Lr 6, [30]⟩ :: ⟨[.op 6 0], _, [], Lr 7, [31]⟩ :: ⟨[.op 7 0, .old 0], _, [], Lr 8, [32]⟩ :: ⟨[.op 7 0, .op 8 0], _, [], Lr 9, [33]⟩ :: ⟨[.op 7 0, .op 9 0], _, [], Lr 10, [34]⟩ :: ⟨[.op 7 0, .op 10 0], _, [], Lr 11, [35]⟩ :: []) (F := [.old 0, .old 1, .old 2, .op 11 0]) hst hb Zb
     (o_p rfl (Za rfl rfl u_0) <| o_p rfl (Zm7 Tryz.underlying31 rfl rfl u_0 Z2l) <| o_p rfl (Za rfl rfl u_0) <| o_g (g_f rfl rfl rfl (fun hG => Zf Znl rfl rfl u_0)) <| o_g (g_f rfl rfl rfl (fun hG => Zq en_9 (Zq3 _ (Zbq h7 hG)) rfl rfl (.cons (Opd.gd hG u_0) .nil))) <| o_g (g_f rfl rfl rfl (fun hG => Zcy rfl rfl (Opd.gd hG u_0) c_i)) <| o_p rfl (Zbu rfl rfl u_0 (fun hz => (Opd.gd (bNF hz) u_1))) <| o_p rfl (Za rfl rfl u_0) <| o_g (g_f rfl rfl rfl (fun hG => Za rfl rfl u_0)) <| o_g (g_f rfl rfl rfl (fun hG => Zce Tryz.underlying26 rfl rfl (Opd.gd hG u_0))) <| o_g (g_f rfl rfl rfl (fun hG => Zcy rfl rfl (Opd.gd hG u_0) c_i)) <| o_p rfl (Zbu rfl rfl u_0 (fun hz => (Opd.gd (bNF hz) u_1))) <| o_n) (by kernel_rfl) (fun a g hst hb => ?_)
   refine wp_cond_split (hst.bool 3 rfl) (fun hc8 => ?_) (fun hc8 => ?_)
   · replace H0 := Zz hc8 H0
     refine r_s (L := []) (T := [⟨[], _, [], [], [6]⟩]) (F := [.op 0 0]) (hst.pick [] rfl) hb Zb
       (o_p rfl (Zc rfl rfl c_b) <| o_n) (by kernel_rfl) (fun a g hst hb => ?_)
     refine wp_ret ?_
     refine Zt ?_
     obtain rfl := Option.some.inj H0
     exact Z8 rfl hst hb (Zk (s := 6)) (hst.at 0 rfl)
   · replace H0 := Z0 hc8 H0
     refine wp_skip ?_
     refine Zv ?_
     refine r_s (L := [(2, _), (4, _), (7, _)]) (T := [⟨[], _, [], [], [9]⟩]) (F := [.old 0, .old 1, .old 2, .op 0 0]) (hst.pick [0, 1, 2] rfl) hb Zb
       (o_p rfl (Zc rfl rfl c_b) <| o_n) (by kernel_rfl) (fun a g hst hb => ?_)
     refine wp_seq ?_
     refine r_s (T := [⟨[.old 1], _, [], [], [36]⟩, ⟨[.op 0 0], _, [], [0], [37]⟩, ⟨[.op 1 0], _, [], [0, 1], [38]⟩, ⟨[], _, [], [], [39]⟩]) (F := [.old 0, .old 1, .old 2, .old 3, .op 1 0, .op 2 0, .op 3 0]) hst hb Zb
       (o_p rfl (Ze Zkv rfl rfl u_0) <| o_p rfl (Zf Zmr rfl rfl u_0) <| o_p rfl (Zce Tryz.underlying23 rfl rfl u_0) <| o_p rfl (Za rfl rfl c_i) <| o_n) (by kernel_rfl) (fun a g hst hb => ?_)
     obtain ⟨z19, hz1, H0⟩ := Zg H0
     refine Zcs (fun a w => ∃ (y18 : Bool) (g : G), w = g.w ∧ St 98 [(2, (Kd.str.sl.pd a2)), (4, (Zb8.ptr a1)), (7, (Zw.ptr r4.1)), (9, (Zbe y18))] a g ∧ Base g0 g ∧ y18 = z19) ?_ ?_
     · rintro a w ⟨y18, g, rfl, hst, hb, rfl⟩
       refine Zv ?_
       obtain ⟨r20, h21, H0⟩ := Zg H0
       refine r_s (T := [⟨[.old 1], _, [], [], [57]⟩, ⟨[.old 2], _, [], [], [58]⟩, ⟨[.old 0], _, [], [], [59]⟩, ⟨[.op 0 0, .op 1 0, .op 2 0], [(60, (Zco none Zci 60 r20))], [61, 1000061], [0, 1, 2], [60]⟩, ⟨[.op 3 0], [(12, (Zco none Zci 60 r20))], [], Lr 4, [12]⟩]) (F := [.old 2, .old 3, .op 4 0]) hst hb Zb
         (o_p rfl (Zf Znl rfl rfl u_0) <| o_p rfl (Zf Zbn rfl rfl u_0) <| o_p rfl (Za rfl rfl u_0) <| o_p rfl (Zou Z1q (Zox _ _ _ h21) rfl rfl (.cons u_0 (.cons u_1 (.cons u_2 .nil)))) <| o_p rfl (Zc rfl rfl u_0) <| o_n) (by kernel_rfl) (fun a g hst hb => ?_)
       obtain ⟨r22, h23, H0⟩ := Zg H0
       refine r_s (T := [⟨[.old 2], [(61, (Zco none Zci 60 r20))], [], [], [61]⟩, ⟨[.op 0 0, .old 2], [(62, (pInt .i64 r22.2)), (12, (Zco none Zci 60 r22.1))], [61, 1000061], [0], [12, 61, 62]⟩]) (F := [.old 0, .old 1, .op 1 1]) hst hb Zb
         (o_p rfl (Za rfl rfl u_0) <| o_p rfl (Zf0 Zbai (Zq7 _ h23) rfl rfl rfl (by decide) u_1 u_0 .nil) <| o_n) (by kernel_rfl) (fun a g hst hb => ?_)
       obtain ⟨r24, h25, H0⟩ := Zg H0
       refine r_s (T := [⟨[.old 2], [(64, (Zco none Zci 60 r22.1))], [], [], [64]⟩, ⟨[.op 0 0, .old 2], [(65, (pTup [(Zcj.pd r24.1), (Zbe r24.2)])), (12, (Zco none Zci 60 r22.1))], [61, 1000061], [0], [12, 64, 65]⟩, ⟨[.op 1 0], _, [], [0, 1], [63]⟩, ⟨[.op 2 0], _, [], [0, 1, 2], [66]⟩, ⟨[.op 2 0], _, [], [0, 1, 2], [67]⟩, ⟨[], [(13, (pBox Zcj 13 (default : Z6)))], [14], [], [13]⟩, ⟨[.op 3 0, .op 5 0], _, [14], [0, 1, 2, 3, 5], [13]⟩, ⟨[.op 4 0], _, [], Lr 7, [14]⟩]) (F := [.old 0, .old 1, .op 1 1, .op 6 0, .op 7 0]) hst hb Zb
         (o_p rfl (Za rfl rfl u_0) <| o_p rfl (Zf0 Z5z (Zl9 _ h25) rfl rfl rfl (by decide) u_1 u_0 .nil) <| o_p rfl (Za rfl rfl u_0) <| o_p rfl (Z4 rfl rfl u_0 rfl) <| o_p rfl (Z4 rfl rfl u_0 rfl) <| o_p rfl (Zbk (zs := [.int .i64 0, .int .i64 0, .slice none 0 0]) (by kernel_rfl) (fun g => Zlb g) rfl rfl) <| o_p rfl (Zcb Znn rfl rfl u_1 u_0) <| o_p rfl (Zc rfl rfl u_0) <| o_n) (by kernel_rfl) (fun a g hst hb => ?_)
       obtain ⟨r26, h27, H0⟩ := Zg H0
       refine r_s (T := [⟨[.old 2], [(69, (Zco none Zci 60 r22.1))], [], [], [69]⟩, ⟨[.old 0], _, [], [], [70]⟩, ⟨[.op 0 0, .op 1 0, .old 2], [(71, (pTup [(Zw.pd r26.1), (Zy.sl.pd r26.2)])), (12, (Zco none Zci 60 r22.1))], [61, 1000061], [0, 1], [12, 69, 71]⟩, ⟨[.op 2 0], _, [], [0, 1, 2], [68]⟩, ⟨[.op 3 0], _, [], Lr 4, [72]⟩, ⟨[.op 3 0], _, [], Lr 4, [73]⟩, ⟨[], [(15, (pBox Zw 15 (default : Zl)))], [16], [], [15]⟩, ⟨[.op 4 0, .op 6 0], _, [16], [0, 1, 2, 3, 4, 6], [15]⟩, ⟨[.op 5 0], _, [], Lr 8, [16]⟩]) (F := [.old 0, .old 1, .op 2 1, .old 3, .old 4, .op 7 0, .op 8 0]) hst hb Zb
         (o_p rfl (Za rfl rfl u_0) <| o_p rfl (Zf Zbn rfl rfl u_0) <| o_p rfl (Zf0 Z0w (Zj0 _ _ h27) rfl rfl rfl (by decide) u_2 u_0 (.cons u_1 .nil)) <| o_p rfl (Za rfl rfl u_0) <| o_p rfl (Z4 rfl rfl u_0 rfl) <| o_p rfl (Z4 rfl rfl u_0 rfl) <| o_p rfl (Zbk (zs := [.pointer none, .int .i64 0]) (by kernel_rfl) (fun g => Zdq g) rfl rfl) <| o_p rfl (Zcb Zbn rfl rfl u_1 u_0) <| o_p rfl (Zc rfl rfl u_0) <| o_n) (by kernel_rfl) (fun a g hst hb => ?_)
       refine wp_seq ?_
       obtain ⟨r28, h29, H0⟩ := Zg H0
       refine r_s (T := [⟨[.old 4], _, [], [], [74]⟩, ⟨[.op 0 0], _, [], [0], [75]⟩, ⟨[.op 1 0], _, [], [0, 1], [76]⟩, ⟨[.op 2 0, .old 2], [(77, (pIf (!(!r24.2)) (Zco none Zci 60 r22.1)))], [], [0, 1, 2], [77]⟩, ⟨[.op 2 0, .op 3 0, .old 2], [(78, (pIf (!(!r24.2)) (Zbe r28))), (12, (Zco none Zci 60 r22.1))], [61, 1000061], Lr 4, [12, 77, 78]⟩, ⟨[.op 2 0, .op 4 0], _, [], Lr 5, [79]⟩, ⟨[.op 2 0, .op 5 0], _, [], Lr 6, [80]⟩]) (F := [.old 0, .old 1, .old 3, .old 5, .old 6, .op 6 0]) hst hb Zb
         (o_p rfl (Za rfl rfl u_0) <| o_p rfl (Zcg rfl rfl u_0) <| o_p rfl (Za rfl rfl u_0) <| o_g (g_f rfl rfl rfl (fun hG => Za rfl rfl u_0)) <| o_g (OT.guardMR (!(!r24.2)) (gF (!r24.2)).1 (gF (!r24.2)).2 rfl rfl rfl (by decide) u_1 (fun hG => Zf0 Z1p (Zk0 _ (Zbq h29 hG)) rfl rfl rfl (by decide) u_1 (Opd.gd hG u_0) .nil) (ite_self _).symm) <| o_g (g_f rfl rfl rfl (fun hG => Zcg rfl rfl (Opd.gd hG u_0))) <| o_p rfl (Zbu rfl rfl u_0 (fun hz => (Opd.gd (bNF hz) u_1))) <| o_n) (by kernel_rfl) (fun a g hst hb => ?_)
       refine wp_cond_split (hst.bool 5 rfl) (fun hc30 => ?_) (fun hc30 => ?_)
       · replace H0 := Zz hc30 H0
         refine r_s (L := []) (T := [⟨[], _, [], [], [6]⟩]) (F := [.op 0 0]) (hst.pick [] rfl) hb Zb
           (o_p rfl (Zc rfl rfl c_b) <| o_n) (by kernel_rfl) (fun a g hst hb => ?_)
         refine wp_ret ?_
         refine Zt ?_
         obtain rfl := Option.some.inj H0
         exact Z8 rfl hst hb (Zk (s := 6)) (hst.at 0 rfl)
       · replace H0 := Z0 hc30 H0
         refine wp_skip ?_
         refine Zv ?_
         obtain ⟨r31, h32, H0⟩ := Zg H0
         refine r_s (L := [(7, _), (9, _), (13, _), (15, _), (16, _)]) (T := ⟨[.old 1], _, [], [], [81]⟩ :: ⟨[.op 0 0], _, [], [0], [82]⟩ :: ⟨[.op 1 0], _, [], [0, 1], [83]⟩ :: ⟨[.op 2 0, .old 2], _, [], [0, 1, 2], [84]⟩ :: ⟨[.op 2 0, .op 3 0], _, [], Lr 4, [85]⟩ :: ⟨[.op 2 0, .op 4 0], _, [], Lr 5, [86]⟩ :: ⟨[.op 2 0, .op 5 0], _, [], Lr 6, [87]⟩ :: ⟨[.op 6 0], _, [], Lr 7, [88]⟩ :: ⟨[.op 7 0, .old 3], _, [], Lr 8, [89]⟩ :: ⟨[.op 7 0, .old 0], _, [], Lr 8, [90]⟩ :: ⟨[.op 7 0, .op 8 0, .op 9 0], _, [], Lr 10, [91]⟩ :: ⟨[.op 7 0, .op 10 0], _, [], Lr 11, [92]⟩ :: ⟨[.op 11 0, .old 4], _, [], Lr 12, [93]⟩ :: ⟨[.op 11 0, .op 12 0], _, [], Lr 13, [94]⟩ :: ⟨[.op 11 0, .op 13 0], _, [], Lr 14, [95]⟩ :: ⟨[.op 7 0, .op 11 0, .op 14 0], _, [], Lr 15, [96]⟩ :: ⟨[.op 7 0, .op 15 0], _, [], Lr 16, [97]⟩ :: ⟨[.op 16 0], _, [], Lr 17, [6]⟩ :: []) (F := [.op 17 0]) (hst.pick [0, 1, 2, 3, 4] rfl) hb Zb
           (o_p rfl (Za rfl rfl u_0) <| o_p rfl (Zcg rfl rfl u_0) <| o_p rfl (Za rfl rfl u_0) <| o_g (g_t rfl rfl rfl (fun hG => Ze Z57 rfl rfl u_0)) <| o_g (g_t rfl rfl rfl (fun hG => Zf Zt4 rfl rfl (Opd.gd hG u_0))) <| o_g (g_t rfl rfl rfl (fun hG => Zb1 rfl rfl (Opd.gd hG u_0) c_i)) <| o_p rfl (Zbm rfl rfl u_0 (fun hz => (Opd.gd hz u_1))) <| o_p rfl (Za rfl rfl u_0) <| o_g (g_f rfl rfl rfl (fun hG => Zf Zbn rfl rfl u_0)) <| o_g (g_f rfl rfl rfl (fun hG => Zf Zbn rfl rfl u_0)) <| o_g (g_f rfl rfl rfl (fun hG => Zq Z5v (Zp9 _ _ (Zbq h32 hG)) rfl rfl (.cons (Opd.gd hG u_0) (.cons (Opd.gd hG u_1) .nil)))) <| o_g (g_f rfl rfl rfl (fun hG => Za rfl rfl (Opd.gd hG u_0))) <| o_g (g_ti rfl rfl rfl (fun hG => Za rfl rfl u_0)) <| o_g (g_ti rfl rfl rfl (fun hG => Zce Tryz.underlying23 rfl rfl (Opd.gd hG u_0))) <| o_g (g_ti rfl rfl rfl (fun hG => Zb1 rfl rfl (Opd.gd hG u_0) c_i)) <| o_g (g_f rfl rfl rfl (fun hG => Zbm rfl rfl (Opd.gd hG u_0) (fun hz => (Opd.gd (bA hG hz) u_1)))) <| o_p rfl (Zbu rfl rfl u_0 (fun hz => (Opd.gd (bNF hz) u_1))) <| o_p rfl (Zc rfl rfl u_0) <| o_n) (by kernel_rfl) (fun a g hst hb => ?_)
         refine wp_ret ?_
         obtain rfl := Option.some.inj H0
         exact Z8 rfl hst hb (Zk (s := 6)) (hst.at 0 rfl)
     · refine wp_block ?_
       refine wp_loop_ghost (fun n a w => ∃ (x9 : Bool) (x10 : Int) (g : G), w = g.w ∧ St 98 [(2, (Kd.str.sl.pd a2)), (4, (Zb8.ptr a1)), (7, (Zw.ptr r4.1)), (9, (Zbe x9)), (37, (Zy.sl.pd a1.Acts)), (38, (pInt .i64 (a1.Acts.length : Int))), (39, (pInt .i64 x10))] a g ∧ Base g0 g ∧ Zc7 a1 a2 n x9 x10 = some z19) (Int.toNat ((a1.Acts.length : Int) - (0 : Int)) + 1) ⟨true, (0 : Int), g, rfl, (hst.pick [0, 1, 2, 3, 4, 5, 6] rfl), hb, hz1⟩ (fun n a w hI => ?_)
       obtain ⟨x9, x10, g, rfl, hst, hb, H1⟩ := hI
       cases n with
       | zero => exact absurd H1 (by simp [Zc7])
       | succ n =>
         rw [Zc7] at H1
         refine r_s (T := [⟨[.old 6, .old 5], _, [], [], [40]⟩]) (F := [.old 0, .old 1, .old 2, .old 3, .old 4, .old 5, .old 6, .op 0 0]) hst hb Zb
           (o_p rfl (Zc0 rfl rfl u_0 u_1) <| o_n) (by kernel_rfl) (fun a g hst hb => ?_)
         refine wp_seq ?_
         refine wp_cond_split (hst.bool 7 rfl) (fun hc11 => ?_) (fun hc11 => ?_)
         · replace H1 := Zz hc11 H1
           refine wp_skip ?_
           refine Zv ?_
           refine wp_seq ?_
           refine wp_block ?_
           obtain ⟨e12, h13, H1⟩ := Zg H1
           refine r_s (L := [(2, _), (4, _), (7, _), (9, _), (37, _), (38, _), (39, _)]) (T := [⟨[.old 4, .old 6], _, [], [], [41]⟩, ⟨[.op 0 0], _, [], [0], [42]⟩, ⟨[], [(11, (pBox Zy 11 (default : Zs)))], [12], [], [11]⟩, ⟨[.op 1 0, .op 2 0], _, [12], [0, 1, 2], [11]⟩]) (F := [.old 0, .old 1, .old 2, .old 3, .op 3 0, .old 4, .old 5, .old 6]) (hst.pick [0, 1, 2, 3, 4, 5, 6] rfl) hb Zb
             (o_p rfl (Zb4 Tryz.underlying23 Zp5 rfl rfl u_0 u_1 h13) <| o_p rfl (Zf Zh2 rfl rfl u_0) <| o_p rfl (Zbk (zs := [.int .i64 0, .string ByteArray.empty, .int .i64 0, .float .f64 0, .string ByteArray.empty, .int .i64 0, .int .i64 0, .int .i64 0, .int .i64 0, .float .f64 0, .int .i64 0, .string ByteArray.empty, .slice none 0 0, .bool false]) (by kernel_rfl) (fun g => Zlz g) rfl rfl) <| o_p rfl (Zcb Zh2 rfl rfl u_1 u_0) <| o_n) (by kernel_rfl) (fun a g hst hb => ?_)
           obtain ⟨r14, h15, H1⟩ := Zg H1; obtain ⟨r16, h17, H1⟩ := Zg H1
           refine r_g (T := ⟨[.old 3], _, [], [], [43]⟩ :: ⟨[.op 0 0], _, [], [0], [44]⟩ :: ⟨[.op 1 0, .old 4], _, [], [0, 1], [45]⟩ :: ⟨[.op 1 0, .op 2 0], _, [], [0, 1, 2], [46]⟩ :: ⟨[.op 1 0, .op 3 0], _, [], Lr 4, [47]⟩ :: ⟨[.op 1 0, .op 4 0], _, [], Lr 5, [48]⟩ :: ⟨[.op 5 0], _, [], Lr 6, [49]⟩ :: ⟨[.op 6 0, .old 0], _, [], Lr 7, [50]⟩ :: ⟨[.op 6 0, .old 4], _, [], Lr 7, [51]⟩ :: ⟨[.op 6 0, .op 8 0], _, [], [0, 1, 2, 3, 4, 5, 6, 8], [52]⟩ :: ⟨[.op 6 0, .op 7 0, .op 9 0], _, [], Lr 10, [53]⟩ :: ⟨[.op 6 0, .op 10 0], _, [], Lr 11, [54]⟩ :: ⟨[.op 6 0, .op 11 0], _, [], Lr 12, [55]⟩ :: ⟨[.op 12 0], _, [], Lr 13, [9]⟩ :: []) (F := [.old 0, .old 1, .old 2, .op 13 0, .old 5, .old 6, .old 7]) hst hb Zb
             (o_p rfl (Za rfl rfl u_0) <| o_p rfl (Za rfl rfl u_0) <| o_g (g_t rfl rfl rfl (fun hG => Ze Zg7 rfl rfl u_0)) <| o_g (g_t rfl rfl rfl (fun hG => Zf ty_3 rfl rfl (Opd.gd hG u_0))) <| o_g (g_t rfl rfl rfl (fun hG => Zq Z0t (Zoh _ (Zbq h15 hG)) rfl rfl (.cons (Opd.gd hG u_0) .nil))) <| o_p rfl (Zbm rfl rfl u_0 (fun hz => (Opd.gd hz u_1))) <| o_p rfl (Za rfl rfl u_0) <| o_g (g_t rfl rfl rfl (fun hG => Za rfl rfl u_0)) <| o_g (g_t rfl rfl rfl (fun hG => Ze Zjw rfl rfl u_0)) <| o_g (g_t rfl rfl rfl (fun hG => Zf ty_9 rfl rfl (Opd.gd hG u_0))) <| o_g (g_t rfl rfl rfl (fun hG => Zq Zbap (Zqo _ _ (Zbq h17 hG)) rfl rfl (.cons (Opd.gd hG u_0) (.cons (Opd.gd hG u_1) .nil)))) <| o_g (g_t rfl rfl rfl (fun hG => Zcg rfl rfl (Opd.gd hG u_0))) <| o_p rfl (Zbm rfl rfl u_0 (fun hz => (Opd.gd hz u_1))) <| o_p rfl (Zc rfl rfl u_0) <| o_n) (by kernel_rfl) (fun a g hst hb => ?_)
           refine Zbp ?_
           refine Zv ?_
           refine r_g (T := [⟨[.old 6], _, [], [], [56]⟩, ⟨[.op 0 0], _, [], [0], [39]⟩]) (F := [.old 0, .old 1, .old 2, .old 3, .old 4, .old 5, .op 1 0]) hst hb Zb
             (o_p rfl (Zch rfl rfl u_0 c_i rfl) <| o_p rfl (Za rfl rfl u_0) <| o_n) (by kernel_rfl) (fun a g hst hb => ?_)
           exact ⟨n, Nat.lt_succ_self _, ((x9 && r14) && (!r16)), (IntKind.i64.wrap (x10 + (1 : Int))), g, rfl, (hst.pick [0, 1, 2, 3, 4, 5, 6] rfl), hb, H1⟩
         · replace H1 := Z0 hc11 H1
           refine wp_exit ?_
           refine Zca ?_
           refine Zca ?_
           refine Zcv ?_
           exact ⟨x9, g, rfl, (hst.pick [0, 1, 2, 3] rfl), hb, Option.some.inj H1⟩
end Go.CL
namespace Go.CL
open Go
def NANB : Nat := 9221120237041090561
def keyf (b : Nat) : Int := if isn b then 18444492273895866369 else if TOP ≤ b then 18446744073709551615 - b else b + 9223372036854775808
def Zb6 (b : Nat) : Nat := if isn b then NANB else b
theorem Zvr {b : Nat} (hb : b < 18446744073709551616) : fneq b b = decide (isn b) := by
 unfold fneq
 show (Ieee.double.order b b != some .eq) = _
 by_cases h : isn b
 · rw [Zvk (.inl h)]; simp [h]
 · obtain ⟨o, ho, _, he⟩ := Zph hb hb h h
   rw [ho, he.2 rfl]; simp [h]
theorem Ziw {b : Nat} (hb : b < 18446744073709551616) : Zff b = some (Zb6 b) := by
 unfold Zff Zb6
 rw [Zvr hb]
 by_cases h : isn b
 · simp [h, Zpn, NANB]
 · simp [h]
theorem Z7c {b : Nat} (hb : b < 18446744073709551616) : (bAnd .u64 (b : Int) 9223372036854775808 != 0) = decide (TOP ≤ b) := by
 have h1 : (BitVec.ofInt 64 (b : Int) &&& BitVec.ofInt 64 9223372036854775808).toNat = b &&& 9223372036854775808 := by
   rw [BitVec.toNat_and]
   have e1 : (BitVec.ofInt 64 (b : Int)).toNat = b := by
     rw [show BitVec.ofInt 64 (b : Int) = BitVec.ofNat 64 b from rfl]
     simp; omega
   rw [e1]; rfl
 have h2 : b &&& 9223372036854775808 = (b.testBit 63).toNat * 9223372036854775808 := by
   apply Nat.eq_of_testBit_eq
   intro i
   rw [Nat.testBit_and, show (9223372036854775808 : Nat) = 2 ^ 63 from rfl, Nat.testBit_two_pow]
   by_cases hi : 63 = i
   · subst hi
     cases b.testBit 63
     · simp
     · rw [Bool.toNat_true, Nat.one_mul, Nat.testBit_two_pow]; simp
   · cases b.testBit 63
     · simp [hi]
     · rw [Bool.toNat_true, Nat.one_mul, Nat.testBit_two_pow]; simp [hi]
 have h3 : b.testBit 63 = decide (TOP ≤ b) := by
   rw [Nat.testBit_eq_decide_div_mod_eq]
   unfold TOP
   by_cases h : 9223372036854775808 ≤ b
   · have : b / 2 ^ 63 % 2 = 1 := by omega
     simp [this, h]
   · have : b / 2 ^ 63 % 2 = 0 := by omega
     simp [this, h]
 unfold bAnd
 show (IntKind.wrap .u64 ((BitVec.ofInt 64 (b : Int) &&& BitVec.ofInt 64 9223372036854775808).toNat : Int) != 0) = _
 rw [h1, h2, h3]
 by_cases h : TOP ≤ b
 · simp only [h, decide_true, Bool.toNat_true, Nat.one_mul]
   rfl
 · simp only [h, decide_false, Bool.toNat_false, Nat.zero_mul]
   rfl
theorem Z7u {b : Nat} (hb : b < 18446744073709551616) : bXor .u64 IntKind.u64.max (b : Int) = 18446744073709551615 - b := by
 have h1 : (BitVec.ofInt 64 18446744073709551615 ^^^ BitVec.ofInt 64 (b : Int)).toNat = 18446744073709551615 - b := by
   have e1 : BitVec.ofInt 64 18446744073709551615 = BitVec.allOnes 64 := by decide
   rw [e1, BitVec.allOnes_xor, BitVec.toNat_not]
   have e2 : (BitVec.ofInt 64 (b : Int)).toNat = b := by
     rw [show BitVec.ofInt 64 (b : Int) = BitVec.ofNat 64 b from rfl]
     simp; omega
   rw [e2]
 unfold bXor
 show IntKind.wrap .u64 ((BitVec.ofInt 64 18446744073709551615 ^^^ BitVec.ofInt 64 (b : Int)).toNat : Int) = _
 rw [h1]
 simp [IntKind.wrap, IntKind.signed, IntKind.bits]
 omega
theorem Z8f {b : Nat} (hb : b < 9223372036854775808) : bOr .u64 (b : Int) 9223372036854775808 = b + 9223372036854775808 := by
 have h1 : (BitVec.ofInt 64 (b : Int) ||| BitVec.ofInt 64 9223372036854775808).toNat = b + 9223372036854775808 := by
   rw [BitVec.toNat_or]
   have e1 : (BitVec.ofInt 64 (b : Int)).toNat = b := by
     rw [show BitVec.ofInt 64 (b : Int) = BitVec.ofNat 64 b from rfl]
     simp; omega
   rw [e1, show (BitVec.ofInt 64 9223372036854775808).toNat = 2 ^ 63 * 1 from rfl, Nat.or_comm]
   rw [← Nat.two_pow_add_eq_or_of_lt (by simpa using hb)]
   omega
 unfold bOr
 show IntKind.wrap .u64 ((BitVec.ofInt 64 (b : Int) ||| BitVec.ofInt 64 9223372036854775808).toNat : Int) = _
 rw [h1]
 simp [IntKind.wrap, IntKind.signed, IntKind.bits]
 omega
theorem Zsx {b : Nat} (hb : b < 18446744073709551616) : Zb6 b < 18446744073709551616 := by
 unfold Zb6 NANB; split <;> omega
theorem Zt1 {b : Nat} (hb : b < 18446744073709551616) : Zli b = some (keyf b) := by
 unfold Zli
 rw [Ziw hb]
 simp only [Option.bind_some]
 rw [Z7c (Zsx hb)]
 unfold keyf Zb6
 by_cases h : isn b
 · simp only [h, if_true]
   rfl
 · simp only [h, if_false]
   by_cases ht : TOP ≤ b
   · simp only [ht, decide_true, if_true]
     rw [Z7u hb]
   · simp only [ht, decide_false, if_false, Bool.false_eq_true]
     rw [Z8f (by unfold TOP at ht; omega)]
theorem Znt {a b : Nat} (ha : a < 18446744073709551616) (hb : b < 18446744073709551616) : Ziv a b = some (decide (keyf a = keyf b)) := by
 unfold Ziv
 rw [Zt1 ha, Zt1 hb]
 simp [BEq.beq]
theorem Zu2 {a b : Nat} (ha : a < 18446744073709551616) (hb : b < 18446744073709551616) : Zle a b = some (decide (keyf a < keyf b)) := by
 unfold Zle
 rw [Zt1 ha, Zt1 hb]
 simp
theorem Zqx {a : Nat} (ha : a < 18446744073709551616) : Zji a = some (decide (a = Zb6 a)) := by
 unfold Zji
 rw [Ziw ha]
 congr 1
 by_cases h : a = Zb6 a
 · simp [← h]
 · have : (a : Int) ≠ (Zb6 a : Int) := by omega
   simp [h, this]
theorem Zzs {a b : Nat} (ha : a < 18446744073709551616) (hb : b < 18446744073709551616) (na : ¬ isn a) (nb : ¬ isn b) : keyf a < keyf b ↔ (sg a < sg b ∨ (a = TOP ∧ b = 0)) := by
 unfold keyf
 rw [if_neg na, if_neg nb]
 unfold sg isn rg INF TOP at *
 split <;> split <;> omega
theorem Z0i {a b : Nat} (ha : a < 18446744073709551616) (hb : b < 18446744073709551616) (na : ¬ isn a) (nb : ¬ isn b) : feql a b = decide (sg a = sg b) := by
 unfold feql
 show (Ieee.double.order a b == some .eq) = _
 obtain ⟨o, ho, _, he⟩ := Zph ha hb na nb
 rw [ho]
 by_cases h : sg a = sg b
 · rw [he.2 h]; simp [h]
 · have : o ≠ .eq := fun h' => h (he.1 h')
   simp [h, this]
theorem Z7s {a b : Nat} (ha : a < 18446744073709551616) (hb : b < 18446744073709551616) (na : ¬ isn a) (nb : ¬ isn b) : flss a b = decide (sg a < sg b) := by
 unfold flss
 show (Ieee.double.order a b == some .lt) = _
 obtain ⟨o, ho, hl, _⟩ := Zph ha hb na nb
 rw [ho]
 by_cases h : sg a < sg b
 · rw [hl.2 h]; simp [h]
 · have : o ≠ .lt := fun h' => h (hl.1 h')
   simp [h, this]
theorem Z8v : Zgb 0 = some false := by kernel_rfl
theorem Z84 : Zgb TOP = some true := by kernel_rfl
theorem nan0 : ¬ isn 0 := by decide
theorem Zz0 {a : Nat} (ha : a < 18446744073709551616) : sg a = sg 0 ↔ a = 0 ∨ a = TOP := by
 unfold sg TOP
 split <;> simp <;> omega
theorem Zpv {a : Nat} (ha : a < 18446744073709551616) : Ze6 a = some (decide (isn a)) := by
 unfold Ze6; rw [Zvr ha]
theorem Zod {a b : Nat} (ha : a < 18446744073709551616) (hb : b < 18446744073709551616) : Zen a b = some (decide (keyf a < keyf b)) := by
 unfold Zen
 rw [Zpv ha, Zpv hb]
 simp only [Option.bind_some]
 have kb : ∀ x, x < 18446744073709551616 → ¬ isn x → keyf x < 18444492273895866369 := by
   intro x hx nx
   unfold keyf
   rw [if_neg nx]
   unfold isn rg INF TOP at *
   split <;> omega
 have kn : ∀ x, isn x → keyf x = 18444492273895866369 := fun x h => by unfold keyf; rw [if_pos h]
 by_cases na : isn a
 · simp only [na, decide_true, if_true]
   by_cases nb : isn b
   · rw [kn a na, kn b nb]; simp
   · have := kb b hb nb
     rw [kn a na]; simp; omega
 · simp only [na, decide_false, Bool.false_eq_true, if_false]
   by_cases nb : isn b
   · have := kb a ha na
     rw [kn b nb]; simp [nb, this]
   · simp only [nb, decide_false, Bool.false_eq_true, if_false]
     rw [Z0i ha (by decide) na nan0, Z0i hb (by decide) nb nan0, Z7s ha hb na nb]
     by_cases hz : sg a = sg 0 ∧ sg b = sg 0
     · rw [if_pos (by simp [hz])]
       have hk := Zzs ha hb na nb
       have h0T : (0 : Nat) ≠ TOP := by decide
       rcases (Zz0 ha).1 hz.1 with rfl | rfl <;> rcases (Zz0 hb).1 hz.2 with rfl | rfl <;> simp only [Z8v, Z84, gd, Option.bind_some, if_true, if_false, Bool.false_eq_true, Option.some.injEq] <;> decide
     · rw [if_neg (by simpa using hz)]
       have hk := Zzs ha hb na nb
       congr 1
       apply decide_eq_decide.2
       rw [hk]
       constructor
       · intro h; exact .inl h
       · rintro (h | ⟨rfl, rfl⟩)
         · exact h
         · exact absurd ⟨rfl, rfl⟩ hz
theorem Zmf {a b : Nat} (ha : a < 18446744073709551616) (hb : b < 18446744073709551616) : Zdr a b = some (decide (keyf a = keyf b)) := by
 unfold Zdr
 rw [Zod ha hb, Zod hb ha]
 simp only [Option.bind_some, gd]
 by_cases h1 : keyf a < keyf b
 · have : keyf a ≠ keyf b := by omega
   simp [h1, this]
 · by_cases h2 : keyf b < keyf a
   · have : keyf a ≠ keyf b := by omega
     simp [h1, h2, this]
   · have : keyf a = keyf b := by omega
     simp [this]
theorem Zpl {a : Nat} (ha : a < 18446744073709551616) : Ze4 a = some (decide (a = Zb6 a)) := by
 unfold Ze4
 rw [Zpv ha]
 unfold Zb6 NANB
 by_cases h : isn a
 · by_cases h2 : a = 9221120237041090561
   · simp [h, h2]
   · have : (a : Int) ≠ 9221120237041090561 := by omega
     simp [h, h2, this]
 · simp [h]
theorem wr {x : Int} (h1 : -9223372036854775808 ≤ x) (h2 : x ≤ 9223372036854775807) : IntKind.i64.wrap x = x := by
 rw [IntKind.wrap_i64]; omega
theorem wr1 {i : Nat} (h : i < 9223372036854775807) : IntKind.i64.wrap ((i : Int) + 1) = ((i + 1 : Nat) : Int) := by
 rw [wr (by omega) (by omega)]; omega
theorem Z99 (n : Int) : IntKind.u64.wrap n = n % 18446744073709551616 := by simp [IntKind.wrap, IntKind.bits, IntKind.signed]
theorem wru {x : Int} (h1 : 0 ≤ x) (h2 : x < 18446744073709551616) : IntKind.u64.wrap x = x := by rw [Z99]; omega
theorem wrm {i : Nat} (h : i < 9223372036854775807) (h0 : 0 < i) : IntKind.i64.wrap ((i : Int) - 1) = ((i - 1 : Nat) : Int) := by
 rw [wr (by omega) (by omega)]; omega
theorem idxn {α : Type} (xs : List α) (i : Nat) : idx xs (i : Int) = xs[i]? := by
 unfold idx
 rw [if_pos (by omega)]
 simp
theorem Zdb {α : Type} {xs : List α} {i : Nat} (h : i < xs.length) : idx xs (i : Int) = some xs[i] := by
 rw [idxn, List.getElem?_eq_getElem h]
theorem gd_t {β : Type} [Inhabited β] (x : Option β) : gd true x = x := rfl
theorem gd_f {β : Type} [Inhabited β] (x : Option β) : gd false x = some default := rfl
theorem Zmm {α : Type} {xs : List α} {l h : Nat} (h1 : l ≤ h) (h2 : h ≤ xs.length) : cut xs (l : Int) (h : Int) = some ((xs.drop l).take (h - l)) := by
 unfold cut
 rw [if_pos (by omega)]
 simp
theorem Ztq {a b : ByteArray} (h : a.toList = b.toList) : a = b := by
 rw [_root_.Go.ByteArray.toList_eq, _root_.Go.ByteArray.toList_eq] at h
 exact ByteArray.ext (Array.toList_inj.1 h)
theorem Zde {a b : ByteArray} : sEq a b = true ↔ a = b := by
 unfold sEq
 constructor
 · intro h; exact Ztq (by simpa using h)
 · rintro rfl; simp
theorem Zc8 (a : ByteArray) : sEq a a = true := Zde.2 rfl
theorem Zel {a b : ByteArray} : sEq a b = false ↔ a ≠ b := by
 cases h : sEq a b
 · simp; intro e; rw [Zde.2 e] at h; cases h
 · simp; exact Zde.1 h
theorem Z3p : ∀ l : List UInt8, Op.bytesLess l l = false
 | [] => rfl
 | x :: l => by simp [Op.bytesLess, Z3p l]
theorem Zxq : ∀ {a b c : List UInt8}, Op.bytesLess a b = true → Op.bytesLess b c = true → Op.bytesLess a c = true
 | [], [], c, h, _ => by simp [Op.bytesLess] at h
 | [], y :: b, [], _, k => by simp [Op.bytesLess] at k
 | [], y :: b, z :: c, _, _ => rfl
 | x :: a, [], c, h, _ => by simp [Op.bytesLess] at h
 | x :: a, y :: b, [], _, k => by simp [Op.bytesLess] at k
 | x :: a, y :: b, z :: c, h, k => by
   simp only [Op.bytesLess, Bool.or_eq_true, Bool.and_eq_true, decide_eq_true_eq, beq_iff_eq] at h k ⊢
   rcases h with h | ⟨h1, h2⟩ <;> rcases k with k | ⟨k1, k2⟩
   · exact .inl (UInt8.lt_trans h k)
   · subst k1; exact .inl h
   · subst h1; exact .inl k
   · subst h1; subst k1; exact .inr ⟨rfl, Zxq h2 k2⟩
theorem Z3h : ∀ (a b : List UInt8), Op.bytesLess a b = false → a ≠ b → Op.bytesLess b a = true
 | [], [], _, h => absurd rfl h
 | [], y :: b, h, _ => by simp [Op.bytesLess] at h
 | x :: a, [], _, _ => rfl
 | x :: a, y :: b, h, hn => by
   simp only [Op.bytesLess, Bool.or_eq_false_iff, decide_eq_false_iff_not, Bool.and_eq_false_iff] at h
   simp only [Op.bytesLess, Bool.or_eq_true, Bool.and_eq_true, decide_eq_true_eq, beq_iff_eq]
   by_cases e : x = y
   · subst e
     right
     refine ⟨rfl, Z3h a b ?_ (fun h' => hn (by rw [h']))⟩
     rcases h.2 with h | h
     · simp at h
     · exact h
   · left
     rcases UInt8.lt_or_lt_of_ne e with h' | h'
     · exact absurd h' h.1
     · exact h'
theorem Zhd (a : ByteArray) : sLt a a = false := Z3p _
theorem Zfi {a b c : ByteArray} (h : sLt a b = true) (k : sLt b c = true) : sLt a c = true := Zxq h k
theorem Zlm {a b : ByteArray} (h : sLt a b = false) (hn : a ≠ b) : sLt b a = true := Z3h _ _ h (fun e => hn (Ztq e))
theorem Zss {a b : ByteArray} (h : sLt a b = true) : sLt b a = false := by
 cases k : sLt b a
 · rfl
 · have := Zfi h k
   rw [Zhd] at this; cases this
theorem Zlu {a b : ByteArray} (h : sLt a b = true) : a ≠ b := fun e => by subst e; rw [Zhd] at h; cases h
abbrev W64 : Nat := 18446744073709551616
structure Zhp (a : Zd) : Prop where
 real : a.Real < W64
 len : a.List.length < 4611686018427387904
 sc : ∀ e ∈ a.List, e.Score < W64
def Zdf (a b : Zj) : Bool := if keyf a.Score = keyf b.Score then sLt a.Name b.Name else decide (keyf b.Score < keyf a.Score)
theorem Zop {a b : Zj} (ha : a.Score < W64) (hb : b.Score < W64) : Zjn a b = some (Zdf a b) := by
 unfold Zjn Zdf
 rw [Znt ha hb, Zu2 hb ha]
 by_cases h : keyf a.Score = keyf b.Score <;> simp [h]
theorem Zxe {a b : Zj} (ha : a.Score < W64) (hb : b.Score < W64) : Zfe a b = some (Zdf a b) := by
 unfold Zfe Zdf
 rw [Zod hb ha, Zmf ha hb]
 by_cases h : keyf a.Score = keyf b.Score
 · simp [h]
 · by_cases h2 : keyf b.Score < keyf a.Score <;> simp [h, h2]
theorem Zz9 {a : Nat} (ha : a < W64) : Zgu a = some (decide (keyf a = keyf 0)) := by
 unfold Zgu
 rw [Zmf ha (by decide)]
 rfl
def Zha (k : Int) (l : List Zj) (i : Nat) : Int :=
 match l[i]? with
 | none => 0
 | some x =>
   let p := (l[i - 1]?).getD default
   if (16 : Int) < x.Name.size then 3
   else if (k = 8 ∧ keyf x.Score ≠ keyf 0) ∨ x.Score ≠ Zb6 x.Score then 4
   else if 0 < i ∧ k = 8 ∧ sLt p.Name x.Name = false then 4
   else if 0 < i ∧ k = 9 ∧ Zdf p x = false then 4
   else 0
theorem Z2h {k : Int} {l : List Zj} {i n : Nat} (hi : i < l.length) (hl : l.length < 4611686018427387904) (hs : ∀ e ∈ l, e.Score < W64) :
   Zfk k l (n + 1) (i : Int) = if Zha k l i = 0 then Zfk k l n ((i + 1 : Nat) : Int) else some (.inl (Zha k l i)) := by
 have hx : l[i].Score < W64 := hs _ (List.getElem_mem hi)
 rw [Zfk, if_pos (by simp; omega), Zdb hi, wr1 (by omega)]
 simp only [Option.bind_some]
 rw [Znt hx (by decide), Zqx hx]
 simp only [Zha, List.getElem?_eq_getElem hi]
 by_cases h1 : (16 : Int) < l[i].Name.size
 · simp [h1]
 · simp only [h1, decide_false, if_false, Bool.false_eq_true]
   have hz : ((0 : Nat) : Int) = 0 := rfl
   by_cases h0 : 0 < i
   · have hp : i - 1 < l.length := by omega
     have hps : l[i - 1].Score < W64 := hs _ (List.getElem_mem hp)
     have hd : (decide ((0 : Int) < (i : Int))) = true := by simp; omega
     rw [hd, wrm (by omega) h0, Zdb hp]
     simp only [List.getElem?_eq_getElem hp, Option.getD_some, h0, true_and, Bool.true_and]
     by_cases h8 : k = 8
     · subst h8
       simp only [beq_self_eq_true, gd_t, Option.bind_some, true_and, Bool.true_and]
       by_cases hk : keyf l[i].Score = keyf 0
       · by_cases hc : l[i].Score = Zb6 l[i].Score
         · simp [hk, ← hc, gd]
           cases sLt l[i - 1].Name l[i].Name <;> simp
         · simp [hk, hc, gd]
       · simp [hk, gd]
     · have h8' : (k == 8) = false := by simpa using h8
       simp only [h8', h8, gd_f, gd_t, Option.bind_some, false_and, false_or, Bool.false_and, Bool.not_false, Bool.false_or]
       by_cases hc : l[i].Score = Zb6 l[i].Score
       · by_cases h9 : k = 9
         · subst h9
           simp [← hc, gd, Zop hps hx]
           cases Zdf l[i - 1] l[i] <;> simp
         · simp [← hc, gd, h9]
       · simp [hc]
   · have h00 : i = 0 := by omega
     subst h00
     simp only [Nat.lt_irrefl, false_and, if_false, Int.ofNat_zero, Int.lt_irrefl, decide_false, Bool.false_and, gd_f, Option.bind_some, Int.natCast_zero]
     by_cases h8 : k = 8
     · subst h8
       simp only [beq_self_eq_true, gd_t, Option.bind_some, true_and, Bool.true_and]
       by_cases hk : keyf l[0].Score = keyf 0
       · by_cases hc : l[0].Score = Zb6 l[0].Score
         · simp [hk, ← hc, gd]
         · simp [hk, hc, gd]
       · simp [hk, gd]
     · have h8' : (k == 8) = false := by simpa using h8
       simp only [h8', h8, gd_f, gd_t, Option.bind_some, false_and, false_or, Bool.false_and, Bool.not_false, Bool.false_or]
       by_cases hc : l[0].Score = Zb6 l[0].Score
       · simp [← hc, gd]
       · simp [hc]
theorem Z4a {k : Int} {l : List Zj} {i : Nat} (hi : i < l.length) (hl : l.length < 4611686018427387904) (hs : ∀ e ∈ l, e.Score < W64) : Zhv k l (i : Int) = some (Zha k l i) := by
 have hx : l[i].Score < W64 := hs _ (List.getElem_mem hi)
 unfold Zhv
 rw [Zdb hi]
 simp only [Option.bind_some]
 rw [Zz9 hx, Zpl hx]
 simp only [Zha, List.getElem?_eq_getElem hi]
 by_cases h1 : (16 : Int) < l[i].Name.size
 · simp [h1]
 · simp only [h1, decide_false, if_false, Bool.false_eq_true]
   by_cases h0 : 0 < i
   · have hp : i - 1 < l.length := by omega
     have hps : l[i - 1].Score < W64 := hs _ (List.getElem_mem hp)
     have hd : (decide ((0 : Int) < (i : Int))) = true := by simp; omega
     rw [hd, wrm (by omega) h0, Zdb hp]
     simp only [List.getElem?_eq_getElem hp, Option.getD_some, h0, true_and, Bool.true_and]
     by_cases h8 : k = 8
     · subst h8
       simp only [beq_self_eq_true, gd_t, Option.bind_some, true_and, Bool.true_and]
       by_cases hk : keyf l[i].Score = keyf 0
       · by_cases hc : l[i].Score = Zb6 l[i].Score
         · simp [hk, ← hc, gd]
           cases sLt l[i - 1].Name l[i].Name <;> simp
         · simp [hk, hc, gd]
       · simp [hk, gd]
     · have h8' : (k == 8) = false := by simpa using h8
       simp only [h8', h8, gd_f, gd_t, Option.bind_some, false_and, false_or, Bool.false_and, Bool.not_false, Bool.false_or]
       by_cases hc : l[i].Score = Zb6 l[i].Score
       · by_cases h9 : k = 9
         · subst h9
           simp [← hc, gd, Zxe hps hx]
           cases Zdf l[i - 1] l[i] <;> simp
         · simp [← hc, gd, h9]
       · simp [hc]
   · have h00 : i = 0 := by omega
     subst h00
     simp only [Nat.lt_irrefl, false_and, if_false, Int.ofNat_zero, Int.lt_irrefl, decide_false, Bool.false_and, gd_f, Option.bind_some, Int.natCast_zero]
     by_cases h8 : k = 8
     · subst h8
       simp only [beq_self_eq_true, gd_t, Option.bind_some, true_and, Bool.true_and]
       by_cases hk : keyf l[0].Score = keyf 0
       · by_cases hc : l[0].Score = Zb6 l[0].Score
         · simp [hk, ← hc, gd]
         · simp [hk, hc, gd]
       · simp [hk, gd]
     · have h8' : (k == 8) = false := by simpa using h8
       simp only [h8', h8, gd_f, gd_t, Option.bind_some, false_and, false_or, Bool.false_and, Bool.not_false, Bool.false_or]
       by_cases hc : l[0].Score = Zb6 l[0].Score
       · simp [← hc, gd]
       · simp [hc]
end Go.CL
