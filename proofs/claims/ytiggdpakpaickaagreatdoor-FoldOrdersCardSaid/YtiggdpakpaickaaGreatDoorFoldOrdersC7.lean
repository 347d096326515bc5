/- A part of the proof of FoldOrders. -/
import Derived.Test.YtiggdpakpaickaaGreatDoorFoldOrdersC6
import Derived.KernelRfl
import Derived.Laws.Strings
set_option linter.unusedVariables false
set_option linter.unusedSimpArgs false
set_option maxRecDepth 100000
namespace Go.CL
open Go Go.RowKit Go.Proofs
theorem Zsh (a0 : Ze) (a1 : Z3) {r : Ze × Zg} (h : Zbx a0 a1 = some r) : FnOk Tryz.prog 87 [(Zi.pd a0), (Zbe.pd a1)] (pTup [(Zi.pd r.1), (Zm.pd r.2)]) := by
 have H0 := h
 unfold Zbx at H0
 clear h
 refine Zbp (N := 217) Tryz.func87 rfl rfl (Nat.le_of_ble_eq_true rfl) rfl rfl (fun a g0 hst hb => ?_)
 refine r_s (T := [⟨[.old 0], _, [3], [], [2]⟩, ⟨[.old 1], _, [], [], [3]⟩, ⟨[], [(4, (pBox Zi 4 (default : Ze)))], [5], [], [4]⟩, ⟨[], [(5, (pBox Zm 5 (default : Zg)))], [6], [], [5]⟩]) (F := [.op 0 0, .op 1 0, .op 2 0, .op 3 0]) hst hb Za
   (o_p rfl (Zk3 rfl rfl u_0) <| o_p rfl (Zbj rfl rfl u_0) <| o_p rfl (Zbd (zs := [.int .i64 0, .int .i64 0, .int .i64 0, .int .i64 0, .float .f64 0, .int .i64 0, .string ByteArray.empty, .slice none 0 0]) (by kernel_rfl) (fun g => Zb9 g) rfl rfl) <| o_p rfl (Zbd (zs := [.int .i64 0, .int .i64 0, .int .i64 0, .int .i64 0, .int .i64 0, .int .i64 0, .float .f64 0, .int .i64 0, .string ByteArray.empty, .slice none 0 0]) (by kernel_rfl) (fun g => Zcx g) rfl rfl) <| o_n) (by kernel_rfl) (fun a g hst hb => ?_)
 refine r_s (T := [⟨[], _, [], [], [10]⟩, ⟨[], [(6, (pBox Zm 6 (default : Zg)))], [7], [], [6]⟩, ⟨[.op 0 0, .op 1 0], _, [7], [0, 1], [6]⟩]) (F := [.old 0, .old 1, .old 2, .old 3, .op 2 0]) hst hb Za
   (o_p rfl (Zou rfl rfl ) <| o_p rfl (Zbd (zs := [.int .i64 0, .int .i64 0, .int .i64 0, .int .i64 0, .int .i64 0, .int .i64 0, .float .f64 0, .int .i64 0, .string ByteArray.empty, .slice none 0 0]) (by kernel_rfl) (fun g => Zcx g) rfl rfl) <| o_p rfl (Zz Zbz rfl rfl u_1 u_0) <| o_n) (by kernel_rfl) (fun a g hst hb => ?_)
 refine wp_seq ?_
 refine r_s (T := [⟨[.old 1], _, [], [], [11]⟩, ⟨[.op 0 0], _, [], [0], [12]⟩]) (F := [.old 0, .old 1, .old 2, .old 3, .old 4, .op 1 0]) hst hb Za
   (o_p rfl (Zd Zdc rfl rfl u_0) <| o_p rfl (Zf ty_3 rfl rfl u_0) <| o_n) (by kernel_rfl) (fun a g hst hb => ?_)
 refine Zb8 (fun a w => ∃ (j65 : Ze) (j66 : Zg) (g : G), w = g.w ∧ St 217 [(2, (pBox Zi 2 j65)), (4, (pBox Zi 4 (default : Ze))), (5, (pBox Zm 5 (default : Zg))), (6, (pBox Zm 6 j66))] a g ∧ Base g0 g ∧ Z5 j65 j66 = some r) ?_ ?_
 · rintro a w ⟨j65, j66, g, rfl, hst, hb, H0⟩
   unfold Z5 at H0
   refine Zr ?_
   refine r_s (T := [⟨[.old 0], _, [], [], [215]⟩, ⟨[.old 3], _, [], [], [216]⟩, ⟨[.op 0 0, .old 1], _, [5], [0], [4]⟩, ⟨[.op 1 0, .old 2], _, [6], [0, 1, 2], [5]⟩]) (F := [.op 2 0, .op 3 0]) hst hb Za
     (o_p rfl (Zbw Zbb rfl rfl u_0) <| o_p rfl (Zbw Zbz rfl rfl u_0) <| o_p rfl (Zz Zbb rfl rfl u_1 u_0) <| o_p rfl (Zz Zbz rfl rfl u_1 u_0) <| o_n) (by kernel_rfl) (fun a g hst hb => ?_)
   refine wp_ret ?_
   obtain rfl := Option.some.inj H0
   obtain ⟨u0, hu0, hq0⟩ := Z8 (P := Tryz.prog) Zbb (hst.at 0 rfl)
   obtain ⟨u1, hu1, hq1⟩ := Z8 (P := Tryz.prog) Zbz (hst.at 1 rfl)
   exact Zda rfl hst hb hu0 hu1 (Zcn hq0 hq1)
 · refine wp_block ?_
   refine r_s (T := [⟨[.old 5], _, [], [], [14]⟩, ⟨[.op 0 0], _, [], [0], [13]⟩]) (F := [.old 0, .old 1, .old 2, .old 3, .old 4, .old 5, .op 1 0]) hst hb Za
     (o_p rfl (Zbl rfl rfl u_0 c_i) <| o_p rfl (Zc rfl rfl u_0) <| o_n) (by kernel_rfl) (fun a g hst hb => ?_)
   refine wp_cond_split (hst.bool 6 rfl) (fun hc1 => ?_) (fun hc1 => ?_)
   · replace H0 := Zw hc1 H0
     refine r_g (L := [(2, _), (3, _), (4, _), (5, _), (6, _)]) (T := [⟨[.old 1], _, [], [], [15]⟩, ⟨[.op 0 0], _, [], [0], [16]⟩, ⟨[.old 0], _, [], [0, 1], [17]⟩, ⟨[.op 1 0, .op 2 0, .old 0], _, [3], [0, 1, 2], [2, 17]⟩]) (F := [.op 3 0, .old 2, .old 3, .old 4]) (hst.pick [0, 1, 2, 3, 4] rfl) hb Za
       (o_p rfl (Zd Zfc rfl rfl u_0) <| o_p rfl (Zf ty_9 rfl rfl u_0) <| o_p rfl (Zs Zia (off := 6) (by kernel_rfl) rfl rfl u_0) <| o_p rfl (Zru ty_9 rfl rfl u_2 u_1 u_0) <| o_n) (by kernel_rfl) (fun a g hst hb => ?_)
     refine Zba ?_
     exact ⟨({ a0 with Text := a1.S }), ({ Code := (0 : Int), Num := (0 : Int), Rec := (default : Ze) } : Zg), g, rfl, (hst.pick [0, 1, 2, 3] rfl), hb, H0⟩
   · replace H0 := Zx hc1 H0
     refine r_s (L := [(2, _), (3, _), (4, _), (5, _), (6, _), (12, _)]) (T := [⟨[.old 5], _, [], [], [19]⟩, ⟨[.op 0 0], _, [], [0], [18]⟩]) (F := [.old 0, .old 1, .old 2, .old 3, .old 4, .old 5, .op 1 0]) (hst.pick [0, 1, 2, 3, 4, 5] rfl) hb Za
       (o_p rfl (Zbl rfl rfl u_0 c_i) <| o_p rfl (Zc rfl rfl u_0) <| o_n) (by kernel_rfl) (fun a g hst hb => ?_)
     refine wp_cond_split (hst.bool 6 rfl) (fun hc2 => ?_) (fun hc2 => ?_)
     · replace H0 := Zw hc2 H0
       obtain ⟨r3, h4, H0⟩ := Zh H0
       refine r_s (L := [(2, _), (3, _), (4, _), (5, _), (6, _)]) (T := [⟨[.old 0], _, [], [], [20]⟩, ⟨[.op 0 0], _, [], [0], [21]⟩, ⟨[.old 4], _, [], [0, 1], [22]⟩, ⟨[.op 1 0, .op 2 0, .old 4], _, [7], [0, 1, 2], [6, 22]⟩]) (F := [.old 0, .old 1, .old 2, .old 3, .op 3 0]) (hst.pick [0, 1, 2, 3, 4] rfl) hb Za
         (o_p rfl (Zbw Zbb rfl rfl u_0) <| o_p rfl (Zn Zwl (Zhl _ h4) rfl rfl (.cons u_0 .nil)) <| o_p rfl (Zs Znm (off := 2) (by kernel_rfl) rfl rfl u_0) <| o_p rfl (Zzk Zbb rfl rfl u_2 u_1 u_0) <| o_n) (by kernel_rfl) (fun a g hst hb => ?_)
       refine r_g (T := [⟨[.old 1], _, [], [], [23]⟩, ⟨[.op 0 0], _, [], [0], [24]⟩, ⟨[.old 0], _, [], [0, 1], [25]⟩, ⟨[.op 1 0, .op 2 0, .old 0], _, [3], [0, 1, 2], [2, 25]⟩]) (F := [.op 3 0, .old 2, .old 3, .old 4]) hst hb Za
         (o_p rfl (Zd Zfc rfl rfl u_0) <| o_p rfl (Zf ty_9 rfl rfl u_0) <| o_p rfl (Zs Zia (off := 6) (by kernel_rfl) rfl rfl u_0) <| o_p rfl (Zru ty_9 rfl rfl u_2 u_1 u_0) <| o_n) (by kernel_rfl) (fun a g hst hb => ?_)
       refine Zba ?_
       exact ⟨({ a0 with Text := a1.S }), ({ ({ Code := (0 : Int), Num := (0 : Int), Rec := (default : Ze) } : Zg) with Rec := r3 }), g, rfl, (hst.pick [0, 1, 2, 3] rfl), hb, H0⟩
     · replace H0 := Zx hc2 H0
       refine r_s (L := [(2, _), (3, _), (4, _), (5, _), (6, _), (12, _)]) (T := [⟨[.old 5], _, [], [], [27]⟩, ⟨[.op 0 0], _, [], [0], [26]⟩]) (F := [.old 0, .old 1, .old 2, .old 3, .old 4, .old 5, .op 1 0]) (hst.pick [0, 1, 2, 3, 4, 5] rfl) hb Za
         (o_p rfl (Zbl rfl rfl u_0 c_i) <| o_p rfl (Zc rfl rfl u_0) <| o_n) (by kernel_rfl) (fun a g hst hb => ?_)
       refine wp_cond_split (hst.bool 6 rfl) (fun hc5 => ?_) (fun hc5 => ?_)
       · replace H0 := Zw hc5 H0
         refine r_g (L := [(2, _), (3, _), (4, _), (5, _), (6, _)]) (T := [⟨[.old 0], _, [], [], [28]⟩, ⟨[.op 0 0], _, [], [0], [29]⟩, ⟨[.old 1], _, [], [], [30]⟩, ⟨[.op 2 0], _, [], [2], [31]⟩, ⟨[.op 1 0, .op 3 0], _, [], Lr 4, [32]⟩, ⟨[.old 0], _, [], Lr 5, [33]⟩, ⟨[.op 4 0, .op 5 0, .old 0], _, [3], Lr 6, [2, 28, 33]⟩]) (F := [.op 6 0, .old 2, .old 3, .old 4]) (hst.pick [0, 1, 2, 3, 4] rfl) hb Za
           (o_p rfl (Zs Zcs (off := 1) (by kernel_rfl) rfl rfl u_0) <| o_p rfl (Zbq ty_2 rfl rfl u_0) <| o_p rfl (Zd Zdv rfl rfl u_0) <| o_p rfl (Zf ty_2 rfl rfl u_0) <| o_p rfl (Zb3 rfl rfl u_0 u_1 rfl) <| o_p rfl (Zs Zcs (off := 1) (by kernel_rfl) rfl rfl u_0) <| o_p rfl (Zlt ty_2 rfl rfl u_2 u_1 u_0) <| o_n) (by kernel_rfl) (fun a g hst hb => ?_)
         refine Zba ?_
         exact ⟨({ a0 with Num := (IntKind.i64.wrap (a0.Num + a1.N)) }), ({ Code := (0 : Int), Num := (0 : Int), Rec := (default : Ze) } : Zg), g, rfl, (hst.pick [0, 1, 2, 3] rfl), hb, H0⟩
       · replace H0 := Zx hc5 H0
         refine r_s (L := [(2, _), (3, _), (4, _), (5, _), (6, _), (12, _)]) (T := [⟨[.old 5], _, [], [], [35]⟩, ⟨[.op 0 0], _, [], [0], [34]⟩]) (F := [.old 0, .old 1, .old 2, .old 3, .old 4, .old 5, .op 1 0]) (hst.pick [0, 1, 2, 3, 4, 5] rfl) hb Za
           (o_p rfl (Zbl rfl rfl u_0 c_i) <| o_p rfl (Zc rfl rfl u_0) <| o_n) (by kernel_rfl) (fun a g hst hb => ?_)
         refine wp_cond_split (hst.bool 6 rfl) (fun hc6 => ?_) (fun hc6 => ?_)
         · replace H0 := Zw hc6 H0
           obtain ⟨r7, h8, H0⟩ := Zh H0
           refine r_s (L := [(2, _), (3, _), (4, _), (5, _), (6, _)]) (T := [⟨[.old 0], _, [], [], [36]⟩, ⟨[.op 0 0], _, [], [0], [37]⟩, ⟨[.old 1], _, [], [], [38]⟩, ⟨[.op 2 0], _, [], [2], [39]⟩, ⟨[.op 1 0, .op 3 0], _, [], Lr 4, [40]⟩]) (F := [.old 0, .old 1, .old 2, .old 3, .old 4, .op 4 0]) (hst.pick [0, 1, 2, 3, 4] rfl) hb Za
             (o_p rfl (Zs Zcs (off := 1) (by kernel_rfl) rfl rfl u_0) <| o_p rfl (Zbq ty_2 rfl rfl u_0) <| o_p rfl (Zd Zdv rfl rfl u_0) <| o_p rfl (Zf ty_2 rfl rfl u_0) <| o_p rfl (Zn Z74 (Zqd _ _ h8) rfl rfl (.cons u_0 (.cons u_1 .nil))) <| o_n) (by kernel_rfl) (fun a g hst hb => ?_)
           refine wp_cond_split (hst.bool 5 rfl) (fun hc9 => ?_) (fun hc9 => ?_)
           · replace H0 := Zw hc9 H0
             refine r_g (L := [(2, _), (4, _), (5, _), (6, _)]) (T := [⟨[.old 3], _, [], [], [41]⟩, ⟨[.op 0 0, .old 3], _, [7], [0], [6, 41]⟩]) (F := [.old 0, .old 1, .old 2, .op 1 0]) (hst.pick [0, 2, 3, 4] rfl) hb Za
               (o_p rfl (Zs Zf0 (off := 0) (by kernel_rfl) rfl rfl u_0) <| o_p rfl (Znk Zgj rfl rfl u_1 u_0 c_i) <| o_n) (by kernel_rfl) (fun a g hst hb => ?_)
             refine Zba ?_
             exact ⟨a0, ({ ({ Code := (0 : Int), Num := (0 : Int), Rec := (default : Ze) } : Zg) with Code := (9 : Int) }), g, rfl, (hst.pick [0, 1, 2, 3] rfl), hb, H0⟩
           · replace H0 := Zx hc9 H0
             refine r_g (L := [(2, _), (3, _), (4, _), (5, _), (6, _)]) (T := [⟨[.old 0], _, [], [], [42]⟩, ⟨[.op 0 0], _, [], [0], [43]⟩, ⟨[.old 1], _, [], [], [44]⟩, ⟨[.op 2 0], _, [], [2], [45]⟩, ⟨[.op 1 0, .op 3 0], _, [], Lr 4, [46]⟩, ⟨[.old 0], _, [], Lr 5, [47]⟩, ⟨[.op 4 0, .op 5 0, .old 0], _, [3], Lr 6, [2, 42, 47]⟩]) (F := [.op 6 0, .old 2, .old 3, .old 4]) (hst.pick [0, 1, 2, 3, 4] rfl) hb Za
               (o_p rfl (Zs Zcs (off := 1) (by kernel_rfl) rfl rfl u_0) <| o_p rfl (Zbq ty_2 rfl rfl u_0) <| o_p rfl (Zd Zdv rfl rfl u_0) <| o_p rfl (Zf ty_2 rfl rfl u_0) <| o_p rfl (Zb3 rfl rfl u_0 u_1 rfl) <| o_p rfl (Zs Zcs (off := 1) (by kernel_rfl) rfl rfl u_0) <| o_p rfl (Zlt ty_2 rfl rfl u_2 u_1 u_0) <| o_n) (by kernel_rfl) (fun a g hst hb => ?_)
             refine Zba ?_
             exact ⟨({ a0 with Num := (IntKind.i64.wrap (a0.Num + a1.N)) }), ({ Code := (0 : Int), Num := (0 : Int), Rec := (default : Ze) } : Zg), g, rfl, (hst.pick [0, 1, 2, 3] rfl), hb, H0⟩
         · replace H0 := Zx hc6 H0
           refine wp_seq ?_
           refine r_s (L := [(2, _), (3, _), (4, _), (5, _), (6, _), (12, _)]) (T := [⟨[.old 5], _, [], [], [49]⟩, ⟨[.op 0 0], _, [], [0], [48]⟩]) (F := [.old 0, .old 1, .old 2, .old 3, .old 4, .old 5, .op 1 0]) (hst.pick [0, 1, 2, 3, 4, 5] rfl) hb Za
             (o_p rfl (Zbl rfl rfl u_0 c_i) <| o_p rfl (Zc rfl rfl u_0) <| o_n) (by kernel_rfl) (fun a g hst hb => ?_)
           refine Zb8 (fun a w => ∃ (j11 : Bool) (g : G), w = g.w ∧ St 217 [(2, (pBox Zi 2 a0)), (3, (Zbe.ptr a1)), (4, (pBox Zi 4 (default : Ze))), (5, (pBox Zm 5 (default : Zg))), (6, (pBox Zm 6 ({ Code := (0 : Int), Num := (0 : Int), Rec := (default : Ze) } : Zg))), (12, (pInt .i64 a1.Kind)), (48, (Zbg j11))] a g ∧ Base g0 g ∧ Zch a0 a1 j11 = some r) ?_ ?_
           · rintro a w ⟨j11, g, rfl, hst, hb, H0⟩
             unfold Zch at H0
             refine Zr ?_
             refine wp_cond_split (hst.bool 6 rfl) (fun hc12 => ?_) (fun hc12 => ?_)
             · replace H0 := Zw hc12 H0
               refine r_s (L := [(2, _), (3, _), (4, _), (5, _), (6, _)]) (T := [⟨[.old 0], _, [], [], [51]⟩, ⟨[.op 0 0], _, [], [0], [52]⟩, ⟨[.old 1], _, [], [], [53]⟩, ⟨[.op 2 0], _, [], [2], [54]⟩, ⟨[.op 1 0, .op 3 0], _, [], Lr 4, [55]⟩]) (F := [.old 0, .old 2, .old 3, .old 4, .op 4 0]) (hst.pick [0, 1, 2, 3, 4] rfl) hb Za
                 (o_p rfl (Zs Zcs (off := 1) (by kernel_rfl) rfl rfl u_0) <| o_p rfl (Zbq ty_2 rfl rfl u_0) <| o_p rfl (Zd Zdv rfl rfl u_0) <| o_p rfl (Zf ty_2 rfl rfl u_0) <| o_p rfl (Zcc rfl rfl u_0 u_1) <| o_n) (by kernel_rfl) (fun a g hst hb => ?_)
               refine wp_cond_split (hst.bool 4 rfl) (fun hc13 => ?_) (fun hc13 => ?_)
               · replace H0 := Zw hc13 H0
                 refine r_g (L := [(2, _), (4, _), (5, _), (6, _)]) (T := [⟨[.old 3], _, [], [], [56]⟩, ⟨[.op 0 0, .old 3], _, [7], [0], [6, 56]⟩]) (F := [.old 0, .old 1, .old 2, .op 1 0]) (hst.pick [0, 1, 2, 3] rfl) hb Za
                   (o_p rfl (Zs Zf0 (off := 0) (by kernel_rfl) rfl rfl u_0) <| o_p rfl (Znk Zgj rfl rfl u_1 u_0 c_i) <| o_n) (by kernel_rfl) (fun a g hst hb => ?_)
                 refine Zba ?_
                 exact ⟨a0, ({ ({ Code := (0 : Int), Num := (0 : Int), Rec := (default : Ze) } : Zg) with Code := (11 : Int) }), g, rfl, (hst.pick [0, 1, 2, 3] rfl), hb, H0⟩
               · replace H0 := Zx hc13 H0
                 refine wp_skip ?_
                 refine Zba ?_
                 exact ⟨a0, ({ Code := (0 : Int), Num := (0 : Int), Rec := (default : Ze) } : Zg), g, rfl, (hst.pick [0, 1, 2, 3] rfl), hb, H0⟩
             · replace H0 := Zx hc12 H0
               refine r_s (L := [(2, _), (3, _), (4, _), (5, _), (6, _), (12, _)]) (T := [⟨[.old 5], _, [], [], [58]⟩, ⟨[.op 0 0], _, [], [0], [57]⟩]) (F := [.old 0, .old 1, .old 2, .old 3, .old 4, .old 5, .op 1 0]) (hst.pick [0, 1, 2, 3, 4, 5] rfl) hb Za
                 (o_p rfl (Zbl rfl rfl u_0 c_i) <| o_p rfl (Zc rfl rfl u_0) <| o_n) (by kernel_rfl) (fun a g hst hb => ?_)
               refine wp_cond_split (hst.bool 6 rfl) (fun hc14 => ?_) (fun hc14 => ?_)
               · replace H0 := Zw hc14 H0
                 refine r_s (L := [(2, _), (3, _), (4, _), (5, _), (6, _)]) (T := [⟨[.old 0], _, [], [], [59]⟩, ⟨[.op 0 0], _, [], [0], [60]⟩, ⟨[.old 1], _, [], [], [61]⟩, ⟨[.op 2 0], _, [], [2], [62]⟩, ⟨[.op 1 0, .op 3 0], _, [], Lr 4, [63]⟩, ⟨[.old 0], _, [], [], [64]⟩, ⟨[.op 5 0], _, [], [5], [65]⟩, ⟨[.op 4 0, .op 6 0], _, [], Lr 7, [66]⟩]) (F := [.old 0, .old 1, .old 2, .old 3, .old 4, .op 7 0]) (hst.pick [0, 1, 2, 3, 4] rfl) hb Za
                   (o_p rfl (Zs Zcs (off := 1) (by kernel_rfl) rfl rfl u_0) <| o_p rfl (Zbq ty_2 rfl rfl u_0) <| o_p rfl (Zd Zdv rfl rfl u_0) <| o_p rfl (Zf ty_2 rfl rfl u_0) <| o_p rfl (Zb3 rfl rfl u_0 u_1 rfl) <| o_p rfl (Zs Zip (off := 3) (by kernel_rfl) rfl rfl u_0) <| o_p rfl (Zbq ty_2 rfl rfl u_0) <| o_p rfl (Zck rfl rfl u_0 u_1) <| o_n) (by kernel_rfl) (fun a g hst hb => ?_)
                 refine wp_cond_split (hst.bool 5 rfl) (fun hc15 => ?_) (fun hc15 => ?_)
                 · replace H0 := Zw hc15 H0
                   refine r_g (L := [(2, _), (4, _), (5, _), (6, _)]) (T := [⟨[.old 3], _, [], [], [67]⟩, ⟨[.op 0 0, .old 3], _, [7], [0], [6, 67]⟩]) (F := [.old 0, .old 1, .old 2, .op 1 0]) (hst.pick [0, 2, 3, 4] rfl) hb Za
                     (o_p rfl (Zs Zf0 (off := 0) (by kernel_rfl) rfl rfl u_0) <| o_p rfl (Znk Zgj rfl rfl u_1 u_0 c_i) <| o_n) (by kernel_rfl) (fun a g hst hb => ?_)
                   refine Zba ?_
                   exact ⟨a0, ({ ({ Code := (0 : Int), Num := (0 : Int), Rec := (default : Ze) } : Zg) with Code := (9 : Int) }), g, rfl, (hst.pick [0, 1, 2, 3] rfl), hb, H0⟩
                 · replace H0 := Zx hc15 H0
                   refine r_g (L := [(2, _), (3, _), (4, _), (5, _), (6, _)]) (T := [⟨[.old 0], _, [], [], [68]⟩, ⟨[.op 0 0], _, [], [0], [69]⟩, ⟨[.old 1], _, [], [], [70]⟩, ⟨[.op 2 0], _, [], [2], [71]⟩, ⟨[.op 1 0, .op 3 0], _, [], Lr 4, [72]⟩, ⟨[.old 0], _, [], Lr 5, [73]⟩, ⟨[.op 4 0, .op 5 0, .old 0], _, [3], Lr 6, [2, 68, 73]⟩]) (F := [.op 6 0, .old 2, .old 3, .old 4]) (hst.pick [0, 1, 2, 3, 4] rfl) hb Za
                     (o_p rfl (Zs Zcs (off := 1) (by kernel_rfl) rfl rfl u_0) <| o_p rfl (Zbq ty_2 rfl rfl u_0) <| o_p rfl (Zd Zdv rfl rfl u_0) <| o_p rfl (Zf ty_2 rfl rfl u_0) <| o_p rfl (Zb3 rfl rfl u_0 u_1 rfl) <| o_p rfl (Zs Zcs (off := 1) (by kernel_rfl) rfl rfl u_0) <| o_p rfl (Zlt ty_2 rfl rfl u_2 u_1 u_0) <| o_n) (by kernel_rfl) (fun a g hst hb => ?_)
                   refine Zba ?_
                   exact ⟨({ a0 with Num := (IntKind.i64.wrap (a0.Num + a1.N)) }), ({ Code := (0 : Int), Num := (0 : Int), Rec := (default : Ze) } : Zg), g, rfl, (hst.pick [0, 1, 2, 3] rfl), hb, H0⟩
               · replace H0 := Zx hc14 H0
                 refine r_s (L := [(2, _), (3, _), (4, _), (5, _), (6, _), (12, _)]) (T := [⟨[.old 5], _, [], [], [75]⟩, ⟨[.op 0 0], _, [], [0], [74]⟩]) (F := [.old 0, .old 1, .old 2, .old 3, .old 4, .old 5, .op 1 0]) (hst.pick [0, 1, 2, 3, 4, 5] rfl) hb Za
                   (o_p rfl (Zbl rfl rfl u_0 c_i) <| o_p rfl (Zc rfl rfl u_0) <| o_n) (by kernel_rfl) (fun a g hst hb => ?_)
                 refine wp_cond_split (hst.bool 6 rfl) (fun hc16 => ?_) (fun hc16 => ?_)
                 · replace H0 := Zw hc16 H0
                   refine r_s (L := [(2, _), (3, _), (4, _), (5, _), (6, _)]) (T := [⟨[.old 0], _, [], [], [76]⟩, ⟨[.op 0 0], _, [], [0], [77]⟩, ⟨[.old 1], _, [], [], [78]⟩, ⟨[.op 2 0], _, [], [2], [79]⟩, ⟨[.op 1 0, .op 3 0], _, [], Lr 4, [80]⟩, ⟨[.old 0], _, [], [], [81]⟩, ⟨[.op 5 0], _, [], [5], [82]⟩, ⟨[.op 4 0, .op 6 0], _, [], Lr 7, [83]⟩]) (F := [.old 0, .old 1, .old 2, .old 3, .old 4, .op 7 0]) (hst.pick [0, 1, 2, 3, 4] rfl) hb Za
                     (o_p rfl (Zs Zcs (off := 1) (by kernel_rfl) rfl rfl u_0) <| o_p rfl (Zbq ty_2 rfl rfl u_0) <| o_p rfl (Zd Zdv rfl rfl u_0) <| o_p rfl (Zf ty_2 rfl rfl u_0) <| o_p rfl (Zgn rfl rfl u_0 u_1 rfl) <| o_p rfl (Zs Ziq (off := 2) (by kernel_rfl) rfl rfl u_0) <| o_p rfl (Zbq ty_2 rfl rfl u_0) <| o_p rfl (Zcc rfl rfl u_0 u_1) <| o_n) (by kernel_rfl) (fun a g hst hb => ?_)
                   refine wp_cond_split (hst.bool 5 rfl) (fun hc17 => ?_) (fun hc17 => ?_)
                   · replace H0 := Zw hc17 H0
                     refine r_g (L := [(2, _), (4, _), (5, _), (6, _)]) (T := [⟨[.old 3], _, [], [], [84]⟩, ⟨[.op 0 0, .old 3], _, [7], [0], [6, 84]⟩]) (F := [.old 0, .old 1, .old 2, .op 1 0]) (hst.pick [0, 2, 3, 4] rfl) hb Za
                       (o_p rfl (Zs Zf0 (off := 0) (by kernel_rfl) rfl rfl u_0) <| o_p rfl (Znk Zgj rfl rfl u_1 u_0 c_i) <| o_n) (by kernel_rfl) (fun a g hst hb => ?_)
                     refine Zba ?_
                     exact ⟨a0, ({ ({ Code := (0 : Int), Num := (0 : Int), Rec := (default : Ze) } : Zg) with Code := (10 : Int) }), g, rfl, (hst.pick [0, 1, 2, 3] rfl), hb, H0⟩
                   · replace H0 := Zx hc17 H0
                     refine r_g (L := [(2, _), (3, _), (4, _), (5, _), (6, _)]) (T := [⟨[.old 0], _, [], [], [85]⟩, ⟨[.op 0 0], _, [], [0], [86]⟩, ⟨[.old 1], _, [], [], [87]⟩, ⟨[.op 2 0], _, [], [2], [88]⟩, ⟨[.op 1 0, .op 3 0], _, [], Lr 4, [89]⟩, ⟨[.old 0], _, [], Lr 5, [90]⟩, ⟨[.op 4 0, .op 5 0, .old 0], _, [3], Lr 6, [2, 85, 90]⟩]) (F := [.op 6 0, .old 2, .old 3, .old 4]) (hst.pick [0, 1, 2, 3, 4] rfl) hb Za
                       (o_p rfl (Zs Zcs (off := 1) (by kernel_rfl) rfl rfl u_0) <| o_p rfl (Zbq ty_2 rfl rfl u_0) <| o_p rfl (Zd Zdv rfl rfl u_0) <| o_p rfl (Zf ty_2 rfl rfl u_0) <| o_p rfl (Zgn rfl rfl u_0 u_1 rfl) <| o_p rfl (Zs Zcs (off := 1) (by kernel_rfl) rfl rfl u_0) <| o_p rfl (Zlt ty_2 rfl rfl u_2 u_1 u_0) <| o_n) (by kernel_rfl) (fun a g hst hb => ?_)
                     refine Zba ?_
                     exact ⟨({ a0 with Num := (IntKind.i64.wrap (a0.Num - a1.N)) }), ({ Code := (0 : Int), Num := (0 : Int), Rec := (default : Ze) } : Zg), g, rfl, (hst.pick [0, 1, 2, 3] rfl), hb, H0⟩
                 · replace H0 := Zx hc16 H0
                   refine r_s (L := [(2, _), (3, _), (4, _), (5, _), (6, _), (12, _)]) (T := [⟨[.old 5], _, [], [], [92]⟩, ⟨[.op 0 0], _, [], [0], [91]⟩]) (F := [.old 0, .old 1, .old 2, .old 3, .old 4, .old 5, .op 1 0]) (hst.pick [0, 1, 2, 3, 4, 5] rfl) hb Za
                     (o_p rfl (Zbl rfl rfl u_0 c_i) <| o_p rfl (Zc rfl rfl u_0) <| o_n) (by kernel_rfl) (fun a g hst hb => ?_)
                   refine wp_cond_split (hst.bool 6 rfl) (fun hc18 => ?_) (fun hc18 => ?_)
                   · replace H0 := Zw hc18 H0
                     obtain ⟨r19, h20, H0⟩ := Zh H0
                     refine r_g (L := [(2, _), (3, _), (4, _), (5, _), (6, _)]) (T := [⟨[.old 0], _, [], [], [93]⟩, ⟨[.op 0 0], _, [], [0], [94]⟩, ⟨[.old 1], _, [], [], [95]⟩, ⟨[.op 2 0], _, [], [2], [96]⟩, ⟨[.op 1 0, .op 3 0], _, [], Lr 4, [97]⟩, ⟨[.old 0], _, [], Lr 5, [98]⟩, ⟨[.op 4 0, .op 5 0, .old 0], _, [3], Lr 6, [2, 93, 98]⟩]) (F := [.op 6 0, .old 2, .old 3, .old 4]) (hst.pick [0, 1, 2, 3, 4] rfl) hb Za
                       (o_p rfl (Zs Zfj (off := 4) (by kernel_rfl) rfl rfl u_0) <| o_p rfl (Zbq Zcv rfl rfl u_0) <| o_p rfl (Zd Zin rfl rfl u_0) <| o_p rfl (Zf Zcv rfl rfl u_0) <| o_p rfl (Zn Z7t (Zrf _ _ h20) rfl rfl (.cons u_0 (.cons u_1 .nil))) <| o_p rfl (Zs Zfj (off := 4) (by kernel_rfl) rfl rfl u_0) <| o_p rfl (Znj Zcv rfl rfl u_2 u_1 u_0) <| o_n) (by kernel_rfl) (fun a g hst hb => ?_)
                     refine Zba ?_
                     exact ⟨({ a0 with Real := r19 }), ({ Code := (0 : Int), Num := (0 : Int), Rec := (default : Ze) } : Zg), g, rfl, (hst.pick [0, 1, 2, 3] rfl), hb, H0⟩
                   · replace H0 := Zx hc18 H0
                     refine r_s (L := [(2, _), (3, _), (4, _), (5, _), (6, _), (12, _)]) (T := [⟨[.old 5], _, [], [], [100]⟩, ⟨[.op 0 0], _, [], [0], [99]⟩]) (F := [.old 0, .old 1, .old 2, .old 3, .old 4, .old 5, .op 1 0]) (hst.pick [0, 1, 2, 3, 4, 5] rfl) hb Za
                       (o_p rfl (Zbl rfl rfl u_0 c_i) <| o_p rfl (Zc rfl rfl u_0) <| o_n) (by kernel_rfl) (fun a g hst hb => ?_)
                     refine wp_cond_split (hst.bool 6 rfl) (fun hc21 => ?_) (fun hc21 => ?_)
                     · replace H0 := Zw hc21 H0
                       obtain ⟨r22, h23, H0⟩ := Zh H0
                       refine r_g (L := [(2, _), (3, _), (4, _), (5, _), (6, _)]) (T := [⟨[.old 0], _, [], [], [101]⟩, ⟨[.op 0 0], _, [], [0], [102]⟩, ⟨[.old 1], _, [], [], [103]⟩, ⟨[.op 2 0], _, [], [2], [104]⟩, ⟨[.op 1 0, .op 3 0], _, [], Lr 4, [105]⟩, ⟨[.old 0], _, [], Lr 5, [106]⟩, ⟨[.op 4 0, .op 5 0, .old 0], _, [3], Lr 6, [2, 101, 106]⟩]) (F := [.op 6 0, .old 2, .old 3, .old 4]) (hst.pick [0, 1, 2, 3, 4] rfl) hb Za
                         (o_p rfl (Zs Zfj (off := 4) (by kernel_rfl) rfl rfl u_0) <| o_p rfl (Zbq Zcv rfl rfl u_0) <| o_p rfl (Zd Zin rfl rfl u_0) <| o_p rfl (Zf Zcv rfl rfl u_0) <| o_p rfl (Zn Z7y (Zq4 _ _ h23) rfl rfl (.cons u_0 (.cons u_1 .nil))) <| o_p rfl (Zs Zfj (off := 4) (by kernel_rfl) rfl rfl u_0) <| o_p rfl (Znj Zcv rfl rfl u_2 u_1 u_0) <| o_n) (by kernel_rfl) (fun a g hst hb => ?_)
                       refine Zba ?_
                       exact ⟨({ a0 with Real := r22 }), ({ Code := (0 : Int), Num := (0 : Int), Rec := (default : Ze) } : Zg), g, rfl, (hst.pick [0, 1, 2, 3] rfl), hb, H0⟩
                     · replace H0 := Zx hc21 H0
                       refine r_s (L := [(2, _), (3, _), (4, _), (5, _), (6, _), (12, _)]) (T := [⟨[.old 5], _, [], [], [108]⟩, ⟨[.op 0 0], _, [], [0], [107]⟩]) (F := [.old 0, .old 1, .old 2, .old 3, .old 4, .old 5, .op 1 0]) (hst.pick [0, 1, 2, 3, 4, 5] rfl) hb Za
                         (o_p rfl (Zbl rfl rfl u_0 c_i) <| o_p rfl (Zc rfl rfl u_0) <| o_n) (by kernel_rfl) (fun a g hst hb => ?_)
                       refine wp_cond_split (hst.bool 6 rfl) (fun hc24 => ?_) (fun hc24 => ?_)
                       · replace H0 := Zw hc24 H0
                         obtain ⟨r25, h26, H0⟩ := Zh H0; obtain ⟨r27, h28, H0⟩ := Zh H0
                         refine r_g (L := [(2, _), (3, _), (4, _), (5, _), (6, _)]) (T := [⟨[.old 0], _, [], [], [109]⟩, ⟨[.op 0 0], _, [], [0], [110]⟩, ⟨[.old 1], _, [], [], [111]⟩, ⟨[.op 2 0], _, [], [2], [112]⟩, ⟨[.op 1 0, .op 3 0], _, [], Lr 4, [113]⟩, ⟨[.op 4 0], _, [], Lr 5, [114]⟩, ⟨[.op 5 0], _, [], Lr 6, [115]⟩, ⟨[.old 0], _, [], Lr 7, [116]⟩, ⟨[.op 6 0, .op 7 0, .old 0], _, [3], Lr 8, [2, 109, 116]⟩]) (F := [.op 8 0, .old 2, .old 3, .old 4]) (hst.pick [0, 1, 2, 3, 4] rfl) hb Za
                           (o_p rfl (Zs Zfj (off := 4) (by kernel_rfl) rfl rfl u_0) <| o_p rfl (Zbq Zcv rfl rfl u_0) <| o_p rfl (Zd Zin rfl rfl u_0) <| o_p rfl (Zf Zcv rfl rfl u_0) <| o_p rfl (Zxt rfl rfl u_0 u_1) <| o_p rfl (Zn Z14 (Zp9 (fun r z hr hz => by simp only [Ze5, Zeb, hr, hz, Option.bind_some, if_true]) (fun z r h => Zmb z h) h26) rfl rfl (.cons u_0 .nil)) <| o_p rfl (Zn Z2y (Zlv _ h28) rfl rfl (.cons u_0 .nil)) <| o_p rfl (Zs Zfj (off := 4) (by kernel_rfl) rfl rfl u_0) <| o_p rfl (Znj Zcv rfl rfl u_2 u_1 u_0) <| o_n) (by kernel_rfl) (fun a g hst hb => ?_)
                         refine Zba ?_
                         exact ⟨({ a0 with Real := r27 }), ({ Code := (0 : Int), Num := (0 : Int), Rec := (default : Ze) } : Zg), g, rfl, (hst.pick [0, 1, 2, 3] rfl), hb, H0⟩
                       · replace H0 := Zx hc24 H0
                         refine r_s (L := [(2, _), (3, _), (4, _), (5, _), (6, _), (12, _)]) (T := [⟨[.old 5], _, [], [], [118]⟩, ⟨[.op 0 0], _, [], [0], [117]⟩]) (F := [.old 0, .old 1, .old 2, .old 3, .old 4, .old 5, .op 1 0]) (hst.pick [0, 1, 2, 3, 4, 5] rfl) hb Za
                           (o_p rfl (Zbl rfl rfl u_0 c_i) <| o_p rfl (Zc rfl rfl u_0) <| o_n) (by kernel_rfl) (fun a g hst hb => ?_)
                         refine wp_cond_split (hst.bool 6 rfl) (fun hc29 => ?_) (fun hc29 => ?_)
                         · replace H0 := Zw hc29 H0
                           obtain ⟨r30, h31, H0⟩ := Zh H0; obtain ⟨r32, h33, H0⟩ := Zh H0
                           refine r_g (L := [(2, _), (3, _), (4, _), (5, _), (6, _)]) (T := [⟨[.old 0], _, [], [], [119]⟩, ⟨[.op 0 0], _, [], [0], [120]⟩, ⟨[.old 1], _, [], [], [121]⟩, ⟨[.op 2 0], _, [], [2], [122]⟩, ⟨[.op 1 0, .op 3 0], _, [], Lr 4, [123]⟩, ⟨[.op 4 0], _, [], Lr 5, [124]⟩, ⟨[.op 5 0], _, [], Lr 6, [125]⟩, ⟨[.old 0], _, [], Lr 7, [126]⟩, ⟨[.op 6 0, .op 7 0, .old 0], _, [3], Lr 8, [2, 119, 126]⟩]) (F := [.op 8 0, .old 2, .old 3, .old 4]) (hst.pick [0, 1, 2, 3, 4] rfl) hb Za
                             (o_p rfl (Zs Zfj (off := 4) (by kernel_rfl) rfl rfl u_0) <| o_p rfl (Zbq Zcv rfl rfl u_0) <| o_p rfl (Zd Zin rfl rfl u_0) <| o_p rfl (Zf Zcv rfl rfl u_0) <| o_p rfl (Zxl rfl rfl u_0 u_1) <| o_p rfl (Zn Z14 (Zp9 (fun r z hr hz => by simp only [Ze5, Zeb, hr, hz, Option.bind_some, if_true]) (fun z r h => Zmb z h) h31) rfl rfl (.cons u_0 .nil)) <| o_p rfl (Zn Z2y (Zlv _ h33) rfl rfl (.cons u_0 .nil)) <| o_p rfl (Zs Zfj (off := 4) (by kernel_rfl) rfl rfl u_0) <| o_p rfl (Znj Zcv rfl rfl u_2 u_1 u_0) <| o_n) (by kernel_rfl) (fun a g hst hb => ?_)
                           refine Zba ?_
                           exact ⟨({ a0 with Real := r32 }), ({ Code := (0 : Int), Num := (0 : Int), Rec := (default : Ze) } : Zg), g, rfl, (hst.pick [0, 1, 2, 3] rfl), hb, H0⟩
                         · replace H0 := Zx hc29 H0
                           refine r_s (L := [(2, _), (3, _), (4, _), (5, _), (6, _), (12, _)]) (T := [⟨[.old 5], _, [], [], [128]⟩, ⟨[.op 0 0], _, [], [0], [127]⟩]) (F := [.old 0, .old 1, .old 2, .old 3, .old 4, .old 5, .op 1 0]) (hst.pick [0, 1, 2, 3, 4, 5] rfl) hb Za
                             (o_p rfl (Zbl rfl rfl u_0 c_i) <| o_p rfl (Zc rfl rfl u_0) <| o_n) (by kernel_rfl) (fun a g hst hb => ?_)
                           refine wp_cond_split (hst.bool 6 rfl) (fun hc34 => ?_) (fun hc34 => ?_)
                           · replace H0 := Zw hc34 H0
                             refine r_g (L := [(2, _), (3, _), (4, _), (5, _), (6, _)]) (T := [⟨[.old 1], _, [], [], [129]⟩, ⟨[.op 0 0], _, [], [0], [130]⟩, ⟨[.old 0], _, [], [0, 1], [131]⟩, ⟨[.op 1 0, .op 2 0, .old 0], _, [3], [0, 1, 2], [2, 131]⟩]) (F := [.op 3 0, .old 2, .old 3, .old 4]) (hst.pick [0, 1, 2, 3, 4] rfl) hb Za
                               (o_p rfl (Zd Zin rfl rfl u_0) <| o_p rfl (Zf Zcv rfl rfl u_0) <| o_p rfl (Zs Zfj (off := 4) (by kernel_rfl) rfl rfl u_0) <| o_p rfl (Znj Zcv rfl rfl u_2 u_1 u_0) <| o_n) (by kernel_rfl) (fun a g hst hb => ?_)
                             refine Zba ?_
                             exact ⟨({ a0 with Real := a1.X }), ({ Code := (0 : Int), Num := (0 : Int), Rec := (default : Ze) } : Zg), g, rfl, (hst.pick [0, 1, 2, 3] rfl), hb, H0⟩
                           · replace H0 := Zx hc34 H0
                             refine r_s (L := [(2, _), (3, _), (4, _), (5, _), (6, _), (12, _)]) (T := [⟨[.old 5], _, [], [], [133]⟩, ⟨[.op 0 0], _, [], [0], [132]⟩]) (F := [.old 0, .old 1, .old 2, .old 3, .old 4, .old 5, .op 1 0]) (hst.pick [0, 1, 2, 3, 4, 5] rfl) hb Za
                               (o_p rfl (Zbl rfl rfl u_0 c_i) <| o_p rfl (Zc rfl rfl u_0) <| o_n) (by kernel_rfl) (fun a g hst hb => ?_)
                             refine wp_cond_split (hst.bool 6 rfl) (fun hc35 => ?_) (fun hc35 => ?_)
                             · replace H0 := Zw hc35 H0
                               obtain ⟨r36, h37, H0⟩ := Zh H0
                               refine r_s (L := [(2, _), (3, _), (4, _), (5, _), (6, _)]) (T := ⟨[.old 0], _, [], [], [134]⟩ :: ⟨[.op 0 0], _, [], [0], [135]⟩ :: ⟨[.old 1], _, [], [], [136]⟩ :: ⟨[.op 2 0], _, [], [2], [137]⟩ :: ⟨[.op 1 0, .op 3 0], _, [], Lr 4, [138]⟩ :: ⟨[.op 4 0], _, [], Lr 5, [139]⟩ :: ⟨[.op 5 0], _, [], Lr 6, [140]⟩ :: ⟨[.op 6 0, .old 0], _, [], Lr 7, [141]⟩ :: ⟨[.op 6 0, .op 7 0], _, [], Lr 8, [142]⟩ :: ⟨[.op 6 0, .op 8 0], _, [], Lr 9, [143]⟩ :: ⟨[.op 6 0, .old 0], _, [], Lr 7, [144]⟩ :: ⟨[.op 6 0, .op 10 0], _, [], [0, 1, 2, 3, 4, 5, 6, 10], [145]⟩ :: ⟨[.op 6 0, .op 9 0, .op 11 0], _, [], Lr 12, [146]⟩ :: ⟨[.op 6 0, .op 12 0], _, [], Lr 13, [147]⟩ :: []) (F := [.old 0, .old 1, .old 2, .old 3, .old 4, .op 13 0]) (hst.pick [0, 1, 2, 3, 4] rfl) hb Za
                                 (o_p rfl (Zs Zca (off := 7) (by kernel_rfl) rfl rfl u_0) <| o_p rfl (Zbq Zc1 rfl rfl u_0) <| o_p rfl (Zd Zfc rfl rfl u_0) <| o_p rfl (Zf ty_9 rfl rfl u_0) <| o_p rfl (Zn Z2f (Zmx _ _ h37) rfl rfl (.cons u_0 (.cons u_1 .nil))) <| o_p rfl (Zb7 rfl rfl u_0) <| o_p rfl (Zb rfl rfl u_0) <| o_g (g_t rfl rfl rfl (fun hG => Zs Zca (off := 7) (by kernel_rfl) rfl rfl u_0)) <| o_g (g_t rfl rfl rfl (fun hG => Zbq Zc1 rfl rfl (Opd.gd hG u_0))) <| o_g (g_t rfl rfl rfl (fun hG => Zbu Tryz.underlying62 rfl rfl (Opd.gd hG u_0))) <| o_g (g_t rfl rfl rfl (fun hG => Zs Zf9 (off := 5) (by kernel_rfl) rfl rfl u_0)) <| o_g (g_t rfl rfl rfl (fun hG => Zbq ty_3 rfl rfl (Opd.gd hG u_0))) <| o_g (g_t rfl rfl rfl (fun hG => Zk4 rfl rfl (Opd.gd hG u_0) (Opd.gd hG u_1))) <| o_p rfl (Zbc rfl rfl u_0 (fun hz => (Opd.gd hz u_1))) <| o_n) (by kernel_rfl) (fun a g hst hb => ?_)
                               refine wp_cond_split (hst.bool 5 rfl) (fun hc38 => ?_) (fun hc38 => ?_)
                               · replace H0 := Zw hc38 H0
                                 refine r_g (L := [(2, _), (4, _), (5, _), (6, _)]) (T := [⟨[.old 3], _, [], [], [148]⟩, ⟨[.op 0 0, .old 3], _, [7], [0], [6, 148]⟩]) (F := [.old 0, .old 1, .old 2, .op 1 0]) (hst.pick [0, 2, 3, 4] rfl) hb Za
                                   (o_p rfl (Zs Zf0 (off := 0) (by kernel_rfl) rfl rfl u_0) <| o_p rfl (Znk Zgj rfl rfl u_1 u_0 c_i) <| o_n) (by kernel_rfl) (fun a g hst hb => ?_)
                                 refine Zba ?_
                                 exact ⟨a0, ({ ({ Code := (0 : Int), Num := (0 : Int), Rec := (default : Ze) } : Zg) with Code := (8 : Int) }), g, rfl, (hst.pick [0, 1, 2, 3] rfl), hb, H0⟩
                               · replace H0 := Zx hc38 H0
                                 obtain ⟨r39, h40, H0⟩ := Zh H0
                                 refine r_g (L := [(2, _), (3, _), (4, _), (5, _), (6, _)]) (T := [⟨[.old 0], _, [], [], [149]⟩, ⟨[.op 0 0], _, [], [0], [150]⟩, ⟨[.old 1], _, [], [], [151]⟩, ⟨[.op 2 0], _, [], [2], [152]⟩, ⟨[.op 3 0], _, [], [2, 3], [153]⟩, ⟨[.op 1 0, .op 4 0], _, [], Lr 5, [154]⟩, ⟨[.old 0], _, [], Lr 6, [155]⟩, ⟨[.op 5 0, .op 6 0, .old 0], _, [3], Lr 7, [2, 149, 155]⟩]) (F := [.op 7 0, .old 2, .old 3, .old 4]) (hst.pick [0, 1, 2, 3, 4] rfl) hb Za
                                   (o_p rfl (Zs Zca (off := 7) (by kernel_rfl) rfl rfl u_0) <| o_p rfl (Zbq Zc1 rfl rfl u_0) <| o_p rfl (Zd Zfc rfl rfl u_0) <| o_p rfl (Zf ty_9 rfl rfl u_0) <| o_p rfl (Zyd rfl rfl u_0) <| o_p rfl (Zn Z1r (Zmh _ _ _ h40) rfl rfl (.cons u_0 (.cons u_1 (.cons c_b .nil)))) <| o_p rfl (Zs Zca (off := 7) (by kernel_rfl) rfl rfl u_0) <| o_p rfl (Zlq Zc1 rfl rfl u_2 u_1 u_0) <| o_n) (by kernel_rfl) (fun a g hst hb => ?_)
                                 refine Zba ?_
                                 exact ⟨({ a0 with List := r39 }), ({ Code := (0 : Int), Num := (0 : Int), Rec := (default : Ze) } : Zg), g, rfl, (hst.pick [0, 1, 2, 3] rfl), hb, H0⟩
                             · replace H0 := Zx hc35 H0
                               refine r_s (L := [(2, _), (3, _), (4, _), (5, _), (6, _), (12, _)]) (T := [⟨[.old 5], _, [], [], [157]⟩, ⟨[.op 0 0], _, [], [0], [156]⟩]) (F := [.old 0, .old 1, .old 2, .old 3, .old 4, .old 5, .op 1 0]) (hst.pick [0, 1, 2, 3, 4, 5] rfl) hb Za
                                 (o_p rfl (Zbl rfl rfl u_0 c_i) <| o_p rfl (Zc rfl rfl u_0) <| o_n) (by kernel_rfl) (fun a g hst hb => ?_)
                               refine wp_cond_split (hst.bool 6 rfl) (fun hc41 => ?_) (fun hc41 => ?_)
                               · replace H0 := Zw hc41 H0
                                 refine r_s (L := [(2, _), (3, _), (4, _), (5, _), (6, _)]) (T := [⟨[], _, [159], [], [158]⟩, ⟨[.op 0 0], _, [], [0], [7]⟩]) (F := [.old 0, .old 1, .old 2, .old 3, .old 4, .op 1 0]) (hst.pick [0, 1, 2, 3, 4] rfl) hb Za
                                   (o_p rfl (Zkz 158 Zdb (xs := []) .nil (by decide) rfl rfl) <| o_p rfl (Zc rfl rfl u_0) <| o_n) (by kernel_rfl) (fun a g hst hb => ?_)
                                 refine wp_seq ?_
                                 refine r_s (T := [⟨[], _, [], [], [8]⟩]) (F := [.old 0, .old 1, .old 2, .old 3, .old 4, .old 5, .op 0 0]) hst hb Za
                                   (o_p rfl (Zc rfl rfl c_i) <| o_n) (by kernel_rfl) (fun a g hst hb => ?_)
                                 obtain ⟨z53, hz1, H0⟩ := Zh H0
                                 refine Zb8 (fun a w => ∃ (y52 : List Zl) (g : G), w = g.w ∧ St 217 [(2, (pBox Zi 2 a0)), (4, (pBox Zi 4 (default : Ze))), (5, (pBox Zm 5 (default : Zg))), (6, (pBox Zm 6 ({ Code := (0 : Int), Num := (0 : Int), Rec := (default : Ze) } : Zg))), (7, (pRow Zy 105 158 y52))] a g ∧ Base g0 g ∧ y52 = z53) ?_ ?_
                                 · rintro a w ⟨y52, g, rfl, hst, hb, rfl⟩
                                   refine Zr ?_
                                   refine r_g (T := [⟨[.old 4], _, [], [], [183]⟩, ⟨[.old 0], _, [], [0], [184]⟩, ⟨[.op 0 0, .op 1 0, .old 0], _, [3], [0, 1], [2, 184]⟩]) (F := [.op 2 0, .old 1, .old 2, .old 3]) hst hb Za
                                     (o_p rfl (Zb rfl rfl u_0) <| o_p rfl (Zs Zca (off := 7) (by kernel_rfl) rfl rfl u_0) <| o_p rfl (Zlq Zc1 rfl rfl u_2 u_1 (Opd.imp u_0 (fun _ _ h => Zjw h))) <| o_n) (by kernel_rfl) (fun a g hst hb => ?_)
                                   refine Zba ?_
                                   exact ⟨({ a0 with List := y52 }), ({ Code := (0 : Int), Num := (0 : Int), Rec := (default : Ze) } : Zg), g, rfl, (hst.pick [0, 1, 2, 3] rfl), hb, H0⟩
                                 · refine wp_block ?_
                                   refine wp_loop_ghost (fun n a w => ∃ (x42 : List Zl) (x43 : Int) (g : G), w = g.w ∧ St 217 [(2, (pBox Zi 2 a0)), (3, (Zbe.ptr a1)), (4, (pBox Zi 4 (default : Ze))), (5, (pBox Zm 5 (default : Zg))), (6, (pBox Zm 6 ({ Code := (0 : Int), Num := (0 : Int), Rec := (default : Ze) } : Zg))), (7, (pRow Zy 105 158 x42)), (8, (pInt .i64 x43))] a g ∧ Base g0 g ∧ Zc9 a0 a1 n x42 x43 = some z53) (Int.toNat ((a0.List.length : Int) - (0 : Int)) + 1) ⟨([] : List Zl), (0 : Int), g, rfl, (hst.pick [0, 1, 2, 3, 4, 5, 6] rfl), hb, hz1⟩ (fun n a w hI => ?_)
                                   obtain ⟨x42, x43, g, rfl, hst, hb, H1⟩ := hI
                                   cases n with
                                   | zero => exact absurd H1 (by simp [Zc9])
                                   | succ n =>
                                     rw [Zc9] at H1
                                     refine wp_seq ?_
                                     refine r_s (T := [⟨[.old 6], _, [], [], [159]⟩, ⟨[.old 0], _, [], [], [160]⟩, ⟨[.op 1 0], _, [], [1], [161]⟩, ⟨[.op 2 0], _, [], [1, 2], [162]⟩, ⟨[.op 0 0, .op 3 0], _, [], Lr 4, [163]⟩]) (F := [.old 0, .old 1, .old 2, .old 3, .old 4, .old 5, .old 6, .op 4 0]) hst hb Za
                                       (o_p rfl (Zb rfl rfl u_0) <| o_p rfl (Zs Zca (off := 7) (by kernel_rfl) rfl rfl u_0) <| o_p rfl (Zbq Zc1 rfl rfl u_0) <| o_p rfl (Zbu Tryz.underlying62 rfl rfl u_0) <| o_p rfl (Zcc rfl rfl u_0 u_1) <| o_n) (by kernel_rfl) (fun a g hst hb => ?_)
                                     refine wp_cond_split (hst.bool 7 rfl) (fun hc44 => ?_) (fun hc44 => ?_)
                                     · replace H1 := Zw hc44 H1
                                       refine wp_skip ?_
                                       refine Zr ?_
                                       refine wp_seq ?_
                                       refine Zb8 (fun a w => ∃ (j51 : List Zl) (g : G), w = g.w ∧ St 217 [(2, (pBox Zi 2 a0)), (3, (Zbe.ptr a1)), (4, (pBox Zi 4 (default : Ze))), (5, (pBox Zm 5 (default : Zg))), (6, (pBox Zm 6 ({ Code := (0 : Int), Num := (0 : Int), Rec := (default : Ze) } : Zg))), (7, (pRow Zy 105 158 j51)), (8, (pInt .i64 x43))] a g ∧ Base g0 g ∧ Zh0 x43 (Zc9 a0 a1 n) j51 = some z53) ?_ ?_
                                       · rintro a w ⟨j51, g, rfl, hst, hb, H1⟩
                                         unfold Zh0 at H1
                                         refine Zr ?_
                                         refine r_g (T := [⟨[.old 6], _, [], [], [164]⟩, ⟨[.op 0 0], _, [], [0], [165]⟩, ⟨[.op 1 0], _, [], [0, 1], [8]⟩]) (F := [.old 0, .old 1, .old 2, .old 3, .old 4, .old 5, .op 2 0]) hst hb Za
                                           (o_p rfl (Zb rfl rfl u_0) <| o_p rfl (Zb3 rfl rfl u_0 c_i rfl) <| o_p rfl (Zc rfl rfl u_0) <| o_n) (by kernel_rfl) (fun a g hst hb => ?_)
                                         exact ⟨n, Nat.lt_succ_self _, j51, (IntKind.i64.wrap (x43 + (1 : Int))), g, rfl, (hst.pick [0, 1, 2, 3, 4, 5, 6] rfl), hb, H1⟩
                                       · refine wp_block ?_
                                         obtain ⟨e45, h46, H1⟩ := Zh H1
                                         refine r_s (L := [(2, _), (3, _), (4, _), (5, _), (6, _), (7, _), (8, _)]) (T := [⟨[.old 0], _, [], [], [166]⟩, ⟨[.op 0 0], _, [], [0], [167]⟩, ⟨[.old 6], _, [], [], [168]⟩, ⟨[.op 1 0, .op 2 0], _, [], [0, 1, 2], [169]⟩, ⟨[.op 3 0], _, [], Lr 4, [170]⟩, ⟨[.op 4 0], _, [], Lr 5, [171]⟩, ⟨[.old 1], _, [], [], [172]⟩, ⟨[.op 6 0], _, [], [6], [173]⟩, ⟨[.op 5 0, .op 7 0], _, [], Lr 8, [174]⟩]) (F := [.old 0, .old 1, .old 2, .old 3, .old 4, .old 5, .old 6, .op 8 0]) (hst.pick [0, 1, 2, 3, 4, 5, 6] rfl) hb Za
                                           (o_p rfl (Zs Zca (off := 7) (by kernel_rfl) rfl rfl u_0) <| o_p rfl (Zbq Zc1 rfl rfl u_0) <| o_p rfl (Zb rfl rfl u_0) <| o_p rfl (Zbf Tryz.underlying62 Zeq rfl rfl u_0 u_1 h46) <| o_p rfl (Zd Zdo rfl rfl u_0) <| o_p rfl (Zf ty_9 rfl rfl u_0) <| o_p rfl (Zd Zfc rfl rfl u_0) <| o_p rfl (Zf ty_9 rfl rfl u_0) <| o_p rfl (Zob rfl rfl u_0 u_1) <| o_n) (by kernel_rfl) (fun a g hst hb => ?_)
                                         refine wp_cond_split (hst.bool 7 rfl) (fun hc47 => ?_) (fun hc47 => ?_)
                                         · replace H1 := Zw hc47 H1
                                           obtain ⟨e48, h49, H1⟩ := Zh H1; obtain ⟨h50, H1⟩ := Zge H1
                                           refine r_g (L := [(2, _), (3, _), (4, _), (5, _), (6, _), (7, _), (8, _)]) (T := [⟨[.old 5], _, [], [], [175]⟩, ⟨[.old 0], _, [], [], [176]⟩, ⟨[.op 1 0], _, [], [1], [177]⟩, ⟨[.old 6], _, [], [], [178]⟩, ⟨[.op 2 0, .op 3 0], _, [], [1, 2, 3], [179]⟩, ⟨[.op 4 0], _, [], List.range' 1 4, [180]⟩, ⟨[.op 5 0], _, [], List.range' 1 5, [181]⟩, ⟨[.op 0 0, .op 6 0], _, [159], Lr 7, [7, 175, 182]⟩, ⟨[.op 7 0], _, [], Lr 8, [7]⟩]) (F := [.old 0, .old 1, .old 2, .old 3, .old 4, .op 8 0, .old 6]) (hst.pick [0, 1, 2, 3, 4, 5, 6] rfl) hb Za
                                             (o_p rfl (Zb rfl rfl u_0) <| o_p rfl (Zs Zca (off := 7) (by kernel_rfl) rfl rfl u_0) <| o_p rfl (Zbq Zc1 rfl rfl u_0) <| o_p rfl (Zb rfl rfl u_0) <| o_p rfl (Zbf Tryz.underlying62 Zeq rfl rfl u_0 u_1 h49) <| o_p rfl (Zf Zdt rfl rfl u_0) <| o_p rfl (Zhi Zdb (xs := [.tmp 180]) (.cons u_0 .nil) (by decide) rfl rfl) <| o_p rfl (Zft Zdb rfl rfl u_0 u_1 h50) <| o_p rfl (Zc rfl rfl u_0) <| o_n) (by kernel_rfl) (fun a g hst hb => ?_)
                                           refine Zba ?_
                                           exact ⟨(x42 ++ ([e48] : List Zl)), g, rfl, (hst.pick [0, 1, 2, 3, 4, 5, 6] rfl), hb, H1⟩
                                         · replace H1 := Zx hc47 H1
                                           refine wp_skip ?_
                                           refine Zba ?_
                                           exact ⟨x42, g, rfl, (hst.pick [0, 1, 2, 3, 4, 5, 6] rfl), hb, H1⟩
                                     · replace H1 := Zx hc44 H1
                                       refine wp_exit ?_
                                       refine Zb6 ?_
                                       refine Zb6 ?_
                                       refine Zco ?_
                                       exact ⟨x42, g, rfl, (hst.pick [0, 2, 3, 4, 5] rfl), hb, Option.some.inj H1⟩
                               · replace H0 := Zx hc41 H0
                                 refine r_s (L := [(2, _), (3, _), (4, _), (5, _), (6, _), (12, _)]) (T := [⟨[.old 5], _, [], [], [186]⟩, ⟨[.op 0 0], _, [], [0], [185]⟩]) (F := [.old 0, .old 1, .old 2, .old 3, .old 4, .old 5, .op 1 0]) (hst.pick [0, 1, 2, 3, 4, 5] rfl) hb Za
                                   (o_p rfl (Zbl rfl rfl u_0 c_i) <| o_p rfl (Zc rfl rfl u_0) <| o_n) (by kernel_rfl) (fun a g hst hb => ?_)
                                 refine wp_cond_split (hst.bool 6 rfl) (fun hc54 => ?_) (fun hc54 => ?_)
                                 · replace H0 := Zw hc54 H0
                                   obtain ⟨r55, h56, H0⟩ := Zh H0
                                   refine r_s (L := [(2, _), (3, _), (4, _), (5, _), (6, _)]) (T := [⟨[.old 0], _, [], [], [187]⟩, ⟨[.op 0 0], _, [], [0], [188]⟩, ⟨[.old 1], _, [], [], [189]⟩, ⟨[.op 2 0], _, [], [2], [190]⟩, ⟨[.op 1 0, .op 3 0], _, [], Lr 4, [191]⟩, ⟨[.op 4 0], _, [], Lr 5, [192]⟩]) (F := [.old 0, .old 2, .old 3, .old 4, .op 5 0]) (hst.pick [0, 1, 2, 3, 4] rfl) hb Za
                                     (o_p rfl (Zs Zca (off := 7) (by kernel_rfl) rfl rfl u_0) <| o_p rfl (Zbq Zc1 rfl rfl u_0) <| o_p rfl (Zd Zfc rfl rfl u_0) <| o_p rfl (Zf ty_9 rfl rfl u_0) <| o_p rfl (Zn Z2f (Zmx _ _ h56) rfl rfl (.cons u_0 (.cons u_1 .nil))) <| o_p rfl (Zb7 rfl rfl u_0) <| o_n) (by kernel_rfl) (fun a g hst hb => ?_)
                                   refine wp_cond_split (hst.bool 4 rfl) (fun hc57 => ?_) (fun hc57 => ?_)
                                   · replace H0 := Zw hc57 H0
                                     refine r_g (L := [(2, _), (4, _), (5, _), (6, _)]) (T := [⟨[.old 3], _, [], [], [193]⟩, ⟨[.op 0 0, .old 3], _, [7], [0], [6, 193]⟩]) (F := [.old 0, .old 1, .old 2, .op 1 0]) (hst.pick [0, 1, 2, 3] rfl) hb Za
                                       (o_p rfl (Zs Zf0 (off := 0) (by kernel_rfl) rfl rfl u_0) <| o_p rfl (Znk Zgj rfl rfl u_1 u_0 c_i) <| o_n) (by kernel_rfl) (fun a g hst hb => ?_)
                                     refine Zba ?_
                                     exact ⟨a0, ({ ({ Code := (0 : Int), Num := (0 : Int), Rec := (default : Ze) } : Zg) with Code := (11 : Int) }), g, rfl, (hst.pick [0, 1, 2, 3] rfl), hb, H0⟩
                                   · replace H0 := Zx hc57 H0
                                     refine wp_skip ?_
                                     refine Zba ?_
                                     exact ⟨a0, ({ Code := (0 : Int), Num := (0 : Int), Rec := (default : Ze) } : Zg), g, rfl, (hst.pick [0, 1, 2, 3] rfl), hb, H0⟩
                                 · replace H0 := Zx hc54 H0
                                   refine r_s (L := [(2, _), (3, _), (4, _), (5, _), (6, _), (12, _)]) (T := [⟨[.old 5], _, [], [], [195]⟩, ⟨[.op 0 0], _, [], [0], [194]⟩]) (F := [.old 0, .old 1, .old 2, .old 3, .old 4, .op 1 0]) (hst.pick [0, 1, 2, 3, 4, 5] rfl) hb Za
                                     (o_p rfl (Zbl rfl rfl u_0 c_i) <| o_p rfl (Zc rfl rfl u_0) <| o_n) (by kernel_rfl) (fun a g hst hb => ?_)
                                   refine wp_cond_split (hst.bool 5 rfl) (fun hc58 => ?_) (fun hc58 => ?_)
                                   · replace H0 := Zw hc58 H0
                                     obtain ⟨r59, h60, H0⟩ := Zh H0
                                     refine r_s (L := [(2, _), (3, _), (4, _), (5, _), (6, _)]) (T := [⟨[.old 0], _, [], [], [196]⟩, ⟨[.op 0 0], _, [], [0], [197]⟩, ⟨[.old 1], _, [], [], [198]⟩, ⟨[.op 2 0], _, [], [2], [199]⟩, ⟨[.old 1], _, [], [], [200]⟩, ⟨[.op 4 0], _, [], [4], [201]⟩, ⟨[.op 3 0, .op 5 0], _, [], List.range' 2 4, [202]⟩, ⟨[.op 1 0, .op 6 0], _, [], Lr 7, [203]⟩, ⟨[.op 7 0], _, [], Lr 8, [9]⟩]) (F := [.old 0, .old 2, .old 3, .old 4, .op 8 0]) (hst.pick [0, 1, 2, 3, 4] rfl) hb Za
                                       (o_p rfl (Zs Zca (off := 7) (by kernel_rfl) rfl rfl u_0) <| o_p rfl (Zbq Zc1 rfl rfl u_0) <| o_p rfl (Zd Zin rfl rfl u_0) <| o_p rfl (Zf Zcv rfl rfl u_0) <| o_p rfl (Zd Zfc rfl rfl u_0) <| o_p rfl (Zf ty_9 rfl rfl u_0) <| o_p rfl (Zt5 rfl rfl u_0 u_1) <| o_p rfl (Zn Z1r (Zmh _ _ _ h60) rfl rfl (.cons u_0 (.cons u_1 (.cons c_b .nil)))) <| o_p rfl (Zc rfl rfl u_0) <| o_n) (by kernel_rfl) (fun a g hst hb => ?_)
                                     refine wp_seq ?_
                                     refine r_s (T := [⟨[.old 4], _, [], [], [204]⟩, ⟨[.op 0 0], _, [], [0], [205]⟩, ⟨[.old 0], _, [], [], [206]⟩, ⟨[.op 2 0], _, [], [2], [207]⟩, ⟨[.op 1 0, .op 3 0], _, [], Lr 4, [208]⟩]) (F := [.old 0, .old 1, .old 2, .old 3, .old 4, .op 4 0]) hst hb Za
                                       (o_p rfl (Zb rfl rfl u_0) <| o_p rfl (Zbu Tryz.underlying62 rfl rfl u_0) <| o_p rfl (Zs Zf9 (off := 5) (by kernel_rfl) rfl rfl u_0) <| o_p rfl (Zbq ty_3 rfl rfl u_0) <| o_p rfl (Zck rfl rfl u_0 u_1) <| o_n) (by kernel_rfl) (fun a g hst hb => ?_)
                                     refine Zb8 (fun a w => ∃ (j64 : List Zl) (g : G), w = g.w ∧ St 217 [(2, (pBox Zi 2 a0)), (4, (pBox Zi 4 (default : Ze))), (5, (pBox Zm 5 (default : Zg))), (6, (pBox Zm 6 ({ Code := (0 : Int), Num := (0 : Int), Rec := (default : Ze) } : Zg))), (9, (Zy.sl.pd j64))] a g ∧ Base g0 g ∧ Zel a0 j64 = some r) ?_ ?_
                                     · rintro a w ⟨j64, g, rfl, hst, hb, H0⟩
                                       unfold Zel at H0
                                       refine Zr ?_
                                       refine r_g (T := [⟨[.old 4], _, [], [], [213]⟩, ⟨[.old 0], _, [], [0], [214]⟩, ⟨[.op 0 0, .op 1 0, .old 0], _, [3], [0, 1], [2, 214]⟩]) (F := [.op 2 0, .old 1, .old 2, .old 3]) hst hb Za
                                         (o_p rfl (Zb rfl rfl u_0) <| o_p rfl (Zs Zca (off := 7) (by kernel_rfl) rfl rfl u_0) <| o_p rfl (Zlq Zc1 rfl rfl u_2 u_1 u_0) <| o_n) (by kernel_rfl) (fun a g hst hb => ?_)
                                       refine Zba ?_
                                       exact ⟨({ a0 with List := j64 }), ({ Code := (0 : Int), Num := (0 : Int), Rec := (default : Ze) } : Zg), g, rfl, (hst.pick [0, 1, 2, 3] rfl), hb, H0⟩
                                     · refine wp_cond_split (hst.bool 5 rfl) (fun hc61 => ?_) (fun hc61 => ?_)
                                       · replace H0 := Zw hc61 H0
                                         obtain ⟨c62, h63, H0⟩ := Zh H0
                                         refine r_g (L := [(2, _), (4, _), (5, _), (6, _), (9, _)]) (T := [⟨[.old 4], _, [], [], [209]⟩, ⟨[.old 0], _, [], [], [210]⟩, ⟨[.op 1 0], _, [], [1], [211]⟩, ⟨[.op 0 0, .op 2 0], _, [], [0, 1, 2], [212]⟩, ⟨[.op 3 0], _, [], Lr 4, [9]⟩]) (F := [.old 0, .old 1, .old 2, .old 3, .op 4 0]) (hst.pick [0, 1, 2, 3, 4] rfl) hb Za
                                           (o_p rfl (Zb rfl rfl u_0) <| o_p rfl (Zs Zf9 (off := 5) (by kernel_rfl) rfl rfl u_0) <| o_p rfl (Zbq ty_3 rfl rfl u_0) <| o_p rfl (Zrr Tryz.underlying62 Zeq rfl rfl u_0 u_1 h63) <| o_p rfl (Zc rfl rfl u_0) <| o_n) (by kernel_rfl) (fun a g hst hb => ?_)
                                         exact ⟨c62, g, rfl, (hst.pick [0, 1, 2, 3, 4] rfl), hb, H0⟩
                                       · replace H0 := Zx hc61 H0
                                         refine wp_skip ?_
                                         exact ⟨r59, g, rfl, (hst.pick [0, 1, 2, 3, 4] rfl), hb, H0⟩
                                   · replace H0 := Zx hc58 H0
                                     refine wp_skip ?_
                                     refine Zba ?_
                                     exact ⟨a0, ({ Code := (0 : Int), Num := (0 : Int), Rec := (default : Ze) } : Zg), g, rfl, (hst.pick [0, 2, 3, 4] rfl), hb, H0⟩
           · refine wp_cond_split (hst.bool 6 rfl) (fun hc10 => ?_) (fun hc10 => ?_)
             · replace H0 := Zw hc10 H0
               refine wp_skip ?_
               exact ⟨(a1.Kind == (9 : Int)), g, rfl, (hst.pick [0, 1, 2, 3, 4, 5, 6] rfl), hb, H0⟩
             · replace H0 := Zx hc10 H0
               refine r_g (L := [(2, _), (3, _), (4, _), (5, _), (6, _), (12, _)]) (T := [⟨[.old 5], _, [], [], [50]⟩, ⟨[.op 0 0], _, [], [0], [48]⟩]) (F := [.old 0, .old 1, .old 2, .old 3, .old 4, .old 5, .op 1 0]) (hst.pick [0, 1, 2, 3, 4, 5] rfl) hb Za
                 (o_p rfl (Zbl rfl rfl u_0 c_i) <| o_p rfl (Zc rfl rfl u_0) <| o_n) (by kernel_rfl) (fun a g hst hb => ?_)
               exact ⟨(a1.Kind == (12 : Int)), g, rfl, (hst.pick [0, 1, 2, 3, 4, 5, 6] rfl), hb, H0⟩
theorem Zpw (a0 : Ze) (a1 : Bool) (a2 : Z3) {r : Ze × Bool × Zg} (h : Zhv a0 a1 a2 = some r) : FnOk Tryz.prog 58 [(Zi.pd a0), (Zbg a1), (Zbe.pd a2)] (pTup [(Zi.pd r.1), (Zbg r.2.1), (Zm.pd r.2.2)]) := by
 have H0 := h
 unfold Zhv at H0
 clear h
 refine Zbp (N := 109) Tryz.func58 rfl rfl (Nat.le_of_ble_eq_true rfl) rfl rfl (fun a g0 hst hb => ?_)
 refine r_s (T := [⟨[.old 0], _, [4], [], [3]⟩, ⟨[.old 2], _, [], [], [5]⟩, ⟨[], [(6, (pBox Zi 6 (default : Ze)))], [7], [], [6]⟩, ⟨[], _, [], [], [7]⟩, ⟨[], [(8, (pBox Zm 8 (default : Zg)))], [9], [], [8]⟩]) (F := [.old 1, .op 0 0, .op 1 0, .op 2 0, .op 4 0]) hst hb Za
   (o_p rfl (Zk3 rfl rfl u_0) <| o_p rfl (Zbj rfl rfl u_0) <| o_p rfl (Zbd (zs := [.int .i64 0, .int .i64 0, .int .i64 0, .int .i64 0, .float .f64 0, .int .i64 0, .string ByteArray.empty, .slice none 0 0]) (by kernel_rfl) (fun g => Zb9 g) rfl rfl) <| o_p rfl (Zc rfl rfl c_b) <| o_p rfl (Zbd (zs := [.int .i64 0, .int .i64 0, .int .i64 0, .int .i64 0, .int .i64 0, .int .i64 0, .float .f64 0, .int .i64 0, .string ByteArray.empty, .slice none 0 0]) (by kernel_rfl) (fun g => Zcx g) rfl rfl) <| o_n) (by kernel_rfl) (fun a g hst hb => ?_)
 refine wp_seq ?_
 refine r_s (T := [⟨[.old 0], _, [], [], [13]⟩, ⟨[.op 0 0], _, [], [0], [14]⟩]) (F := [.old 0, .old 1, .old 2, .old 3, .old 4, .op 1 0]) hst hb Za
   (o_p rfl (Zb rfl rfl u_0) <| o_p rfl (Zb7 rfl rfl u_0) <| o_n) (by kernel_rfl) (fun a g hst hb => ?_)
 refine Zb8 (fun a w => ∃ (j2 : Ze) (g : G), w = g.w ∧ St 109 [(1, (Zbg a1)), (3, (pBox Zi 3 j2)), (5, (Zbe.ptr a2)), (6, (pBox Zi 6 (default : Ze))), (8, (pBox Zm 8 (default : Zg)))] a g ∧ Base g0 g ∧ Zfo a1 a2 j2 = some r) ?_ ?_
 · rintro a w ⟨j2, g, rfl, hst, hb, H0⟩
   unfold Zfo at H0
   refine Zr ?_
   obtain ⟨r3, h4, H0⟩ := Zh H0
   refine r_s (T := [⟨[.old 1], _, [], [], [16]⟩, ⟨[.op 0 0], _, [], [0], [17]⟩, ⟨[.op 1 0, .old 1], _, [4], [0, 1], [3]⟩]) (F := [.old 0, .op 2 0, .old 2, .old 3, .old 4]) hst hb Za
     (o_p rfl (Zbw Zbb rfl rfl u_0) <| o_p rfl (Zn Zwl (Zhl _ h4) rfl rfl (.cons u_0 .nil)) <| o_p rfl (Zz Zbb rfl rfl u_1 u_0) <| o_n) (by kernel_rfl) (fun a g hst hb => ?_)
   obtain ⟨r5, h6, H0⟩ := Zh H0
   refine r_s (T := [⟨[.old 2], _, [], [], [18]⟩, ⟨[.op 0 0], _, [], [0], [19]⟩, ⟨[.op 1 0], _, [], [0, 1], [9]⟩]) (F := [.old 0, .old 1, .old 2, .old 3, .old 4, .op 2 0]) hst hb Za
     (o_p rfl (Zf Zfl rfl rfl u_0) <| o_p rfl (Zn Z48 (Zmc _ h6) rfl rfl (.cons u_0 .nil)) <| o_p rfl (Zc rfl rfl u_0) <| o_n) (by kernel_rfl) (fun a g hst hb => ?_)
   refine wp_seq ?_
   refine r_s (T := [⟨[.old 5], _, [], [], [20]⟩, ⟨[.op 0 0], _, [], [0], [21]⟩, ⟨[.op 1 0], _, [], [0, 1], [22]⟩, ⟨[.op 2 0, .old 0], _, [], [0, 1, 2], [23]⟩, ⟨[.op 2 0, .op 3 0], _, [], Lr 4, [24]⟩]) (F := [.old 0, .old 1, .old 2, .old 3, .old 4, .old 5, .op 4 0]) hst hb Za
     (o_p rfl (Zb rfl rfl u_0) <| o_p rfl (Zbl rfl rfl u_0 c_i) <| o_p rfl (Zb rfl rfl u_0) <| o_g (g_t rfl rfl rfl (fun hG => Zb rfl rfl u_0)) <| o_p rfl (Zbc rfl rfl u_0 (fun hz => (Opd.gd hz u_1))) <| o_n) (by kernel_rfl) (fun a g hst hb => ?_)
   refine Zb8 (fun a w => ∃ (j10 : Int) (g : G), w = g.w ∧ St 109 [(1, (Zbg a1)), (3, (pBox Zi 3 r3)), (5, (Zbe.ptr a2)), (6, (pBox Zi 6 (default : Ze))), (8, (pBox Zm 8 (default : Zg))), (9, (pInt .i64 j10))] a g ∧ Base g0 g ∧ Zd1 a1 a2 r3 j10 = some r) ?_ ?_
   · rintro a w ⟨j10, g, rfl, hst, hb, H0⟩
     unfold Zd1 at H0
     refine Zr ?_
     refine wp_seq ?_
     refine r_s (T := [⟨[.old 5], _, [], [], [27]⟩, ⟨[.op 0 0], _, [], [0], [28]⟩, ⟨[.op 1 0], _, [], [0, 1], [29]⟩, ⟨[.op 2 0, .old 2], _, [], [0, 1, 2], [30]⟩, ⟨[.op 2 0, .op 3 0], _, [], Lr 4, [31]⟩, ⟨[.op 2 0, .op 4 0], _, [], Lr 5, [32]⟩, ⟨[.op 2 0, .op 5 0], _, [], Lr 6, [33]⟩, ⟨[.op 6 0], _, [], Lr 7, [34]⟩, ⟨[.op 7 0, .old 0], _, [], Lr 8, [35]⟩, ⟨[.op 7 0, .op 8 0], _, [], Lr 9, [36]⟩]) (F := [.old 0, .old 1, .old 2, .old 3, .old 4, .old 5, .op 9 0]) hst hb Za
       (o_p rfl (Zb rfl rfl u_0) <| o_p rfl (Zbl rfl rfl u_0 c_i) <| o_p rfl (Zb rfl rfl u_0) <| o_g (g_t rfl rfl rfl (fun hG => Zd Zdc rfl rfl u_0)) <| o_g (g_t rfl rfl rfl (fun hG => Zf ty_3 rfl rfl (Opd.gd hG u_0))) <| o_g (g_t rfl rfl rfl (fun hG => Zbl rfl rfl (Opd.gd hG u_0) c_i)) <| o_p rfl (Zbc rfl rfl u_0 (fun hz => (Opd.gd hz u_1))) <| o_p rfl (Zb rfl rfl u_0) <| o_g (g_t rfl rfl rfl (fun hG => Zb rfl rfl u_0)) <| o_p rfl (Zbc rfl rfl u_0 (fun hz => (Opd.gd hz u_1))) <| o_n) (by kernel_rfl) (fun a g hst hb => ?_)
     refine Zb8 (fun a w => ∃ (j12 : Int) (g : G), w = g.w ∧ St 109 [(1, (Zbg a1)), (3, (pBox Zi 3 r3)), (5, (Zbe.ptr a2)), (6, (pBox Zi 6 (default : Ze))), (8, (pBox Zm 8 (default : Zg))), (9, (pInt .i64 j12))] a g ∧ Base g0 g ∧ Zfk a1 a2 r3 j12 = some r) ?_ ?_
     · rintro a w ⟨j12, g, rfl, hst, hb, H0⟩
       unfold Zfk at H0
       refine Zr ?_
       refine wp_seq ?_
       refine r_s (T := ⟨[.old 5], _, [], [], [37]⟩ :: ⟨[.op 0 0], _, [], [0], [38]⟩ :: ⟨[.op 1 0], _, [], [0, 1], [39]⟩ :: ⟨[.op 2 0, .old 0], _, [], [0, 1, 2], [40]⟩ :: ⟨[.op 2 0, .op 3 0], _, [], Lr 4, [41]⟩ :: ⟨[.op 2 0, .op 4 0], _, [], Lr 5, [42]⟩ :: ⟨[.op 5 0], _, [], Lr 6, [43]⟩ :: ⟨[.op 6 0, .old 2], _, [], Lr 7, [44]⟩ :: ⟨[.op 6 0, .op 7 0], _, [], Lr 8, [45]⟩ :: ⟨[.op 6 0, .op 8 0], _, [], Lr 9, [46]⟩ :: ⟨[.op 6 0, .op 9 0], _, [], Lr 10, [47]⟩ :: ⟨[.op 10 0], _, [], Lr 11, [48]⟩ :: ⟨[.op 11 0, .old 2], _, [], Lr 12, [49]⟩ :: ⟨[.op 11 0, .op 12 0], _, [], Lr 13, [50]⟩ :: ⟨[.op 11 0, .op 13 0], _, [], Lr 14, [51]⟩ :: ⟨[.op 11 0, .op 14 0], _, [], Lr 15, [52]⟩ :: []) (F := [.old 0, .old 1, .old 2, .old 3, .old 4, .old 5, .op 15 0]) hst hb Za
         (o_p rfl (Zb rfl rfl u_0) <| o_p rfl (Zbl rfl rfl u_0 c_i) <| o_p rfl (Zb rfl rfl u_0) <| o_g (g_t rfl rfl rfl (fun hG => Zb rfl rfl u_0)) <| o_g (g_t rfl rfl rfl (fun hG => Zb7 rfl rfl (Opd.gd hG u_0))) <| o_p rfl (Zbc rfl rfl u_0 (fun hz => (Opd.gd hz u_1))) <| o_p rfl (Zb rfl rfl u_0) <| o_g (g_t rfl rfl rfl (fun hG => Zd Zdc rfl rfl u_0)) <| o_g (g_t rfl rfl rfl (fun hG => Zf ty_3 rfl rfl (Opd.gd hG u_0))) <| o_g (g_t rfl rfl rfl (fun hG => Zc6 rfl rfl (Opd.gd hG u_0) c_i)) <| o_p rfl (Zbc rfl rfl u_0 (fun hz => (Opd.gd hz u_1))) <| o_p rfl (Zb rfl rfl u_0) <| o_g (g_t rfl rfl rfl (fun hG => Zd Zdc rfl rfl u_0)) <| o_g (g_t rfl rfl rfl (fun hG => Zf ty_3 rfl rfl (Opd.gd hG u_0))) <| o_g (g_t rfl rfl rfl (fun hG => Zc6 rfl rfl (Opd.gd hG u_0) c_i)) <| o_p rfl (Zbc rfl rfl u_0 (fun hz => (Opd.gd hz u_1))) <| o_n) (by kernel_rfl) (fun a g hst hb => ?_)
       refine Zb8 (fun a w => ∃ (j14 : Int) (g : G), w = g.w ∧ St 109 [(1, (Zbg a1)), (3, (pBox Zi 3 r3)), (5, (Zbe.ptr a2)), (6, (pBox Zi 6 (default : Ze))), (8, (pBox Zm 8 (default : Zg))), (9, (pInt .i64 j14))] a g ∧ Base g0 g ∧ Zfp a1 a2 r3 j14 = some r) ?_ ?_
       · rintro a w ⟨j14, g, rfl, hst, hb, H0⟩
         unfold Zfp at H0
         refine Zr ?_
         obtain ⟨r15, h16, H0⟩ := Zh H0
         refine r_s (T := [⟨[.old 2], _, [], [], [53]⟩, ⟨[.op 0 0], _, [], [0], [54]⟩, ⟨[.op 1 0], _, [], [0, 1], [55]⟩, ⟨[.op 2 0], _, [], [0, 1, 2], [10]⟩]) (F := [.old 0, .old 1, .old 2, .old 3, .old 4, .old 5, .op 3 0]) hst hb Za
           (o_p rfl (Zd Zdc rfl rfl u_0) <| o_p rfl (Zf ty_3 rfl rfl u_0) <| o_p rfl (Zn Z1a (Zlc _ h16) rfl rfl (.cons u_0 .nil)) <| o_p rfl (Zc rfl rfl u_0) <| o_n) (by kernel_rfl) (fun a g hst hb => ?_)
         refine wp_seq ?_
         refine r_s (T := ⟨[.old 5], _, [], [], [56]⟩ :: ⟨[.op 0 0], _, [], [0], [57]⟩ :: ⟨[.op 1 0], _, [], [0, 1], [58]⟩ :: ⟨[.op 2 0, .old 6], _, [], [0, 1, 2], [59]⟩ :: ⟨[.op 2 0, .op 3 0], _, [], Lr 4, [60]⟩ :: ⟨[.op 2 0, .op 4 0], _, [], Lr 5, [61]⟩ :: ⟨[.op 5 0], _, [], Lr 6, [62]⟩ :: ⟨[.op 6 0, .old 6], _, [], Lr 7, [63]⟩ :: ⟨[.op 6 0, .old 1], _, [], Lr 7, [64]⟩ :: ⟨[.op 6 0, .op 8 0], _, [], [0, 1, 2, 3, 4, 5, 6, 8], [65]⟩ :: ⟨[.op 6 0, .op 7 0, .op 9 0], _, [], Lr 10, [66]⟩ :: ⟨[.op 6 0, .op 10 0], _, [], Lr 11, [67]⟩ :: []) (F := [.old 0, .old 1, .old 2, .old 3, .old 4, .old 5, .op 11 0]) hst hb Za
           (o_p rfl (Zb rfl rfl u_0) <| o_p rfl (Zbl rfl rfl u_0 c_i) <| o_p rfl (Zb rfl rfl u_0) <| o_g (g_t rfl rfl rfl (fun hG => Zb rfl rfl u_0)) <| o_g (g_t rfl rfl rfl (fun hG => Zc6 rfl rfl (Opd.gd hG u_0) c_i)) <| o_p rfl (Zbc rfl rfl u_0 (fun hz => (Opd.gd hz u_1))) <| o_p rfl (Zb rfl rfl u_0) <| o_g (g_t rfl rfl rfl (fun hG => Zb rfl rfl u_0)) <| o_g (g_t rfl rfl rfl (fun hG => Zs Zfq (off := 0) (by kernel_rfl) rfl rfl u_0)) <| o_g (g_t rfl rfl rfl (fun hG => Zbq ty_3 rfl rfl (Opd.gd hG u_0))) <| o_g (g_t rfl rfl rfl (fun hG => Zc6 rfl rfl (Opd.gd hG u_0) (Opd.gd hG u_1))) <| o_p rfl (Zbc rfl rfl u_0 (fun hz => (Opd.gd hz u_1))) <| o_n) (by kernel_rfl) (fun a g hst hb => ?_)
         refine Zb8 (fun a w => ∃ (j18 : Int) (g : G), w = g.w ∧ St 109 [(1, (Zbg a1)), (3, (pBox Zi 3 r3)), (5, (Zbe.ptr a2)), (6, (pBox Zi 6 (default : Ze))), (8, (pBox Zm 8 (default : Zg))), (9, (pInt .i64 j18))] a g ∧ Base g0 g ∧ Zfi a1 a2 r3 j18 = some r) ?_ ?_
         · rintro a w ⟨j18, g, rfl, hst, hb, H0⟩
           unfold Zfi at H0
           refine Zr ?_
           refine wp_seq ?_
           refine r_s (T := [⟨[.old 5], _, [], [], [68]⟩, ⟨[.op 0 0], _, [], [0], [69]⟩]) (F := [.old 0, .old 1, .old 2, .old 3, .old 4, .old 5, .op 1 0]) hst hb Za
             (o_p rfl (Zb rfl rfl u_0) <| o_p rfl (Zc6 rfl rfl u_0 c_i) <| o_n) (by kernel_rfl) (fun a g hst hb => ?_)
           refine wp_cond_split (hst.bool 6 rfl) (fun hc19 => ?_) (fun hc19 => ?_)
           · replace H0 := Zw hc19 H0
             refine r_s (L := [(1, _), (3, _), (6, _), (8, _), (9, _)]) (T := [⟨[.old 1], _, [], [], [70]⟩, ⟨[.old 0], _, [], [], [71]⟩, ⟨[.old 4], _, [], [], [72]⟩, ⟨[.op 2 0], _, [], [2], [73]⟩, ⟨[.op 0 0, .old 2], _, [7], [0], [6]⟩, ⟨[.op 1 0], _, [], [0, 1, 4], [7]⟩, ⟨[.op 3 0, .old 3], _, [9], Lr 6, [8]⟩]) (F := [.op 4 0, .op 5 0, .op 6 0]) (hst.pick [0, 1, 3, 4, 5] rfl) hb Za
               (o_p rfl (Zbw Zbb rfl rfl u_0) <| o_p rfl (Zb rfl rfl u_0) <| o_p rfl (Zb rfl rfl u_0) <| o_p rfl (Zpf rfl rfl u_0) <| o_p rfl (Zz Zbb rfl rfl u_1 u_0) <| o_p rfl (Zc rfl rfl u_0) <| o_p rfl (Zz Zbz rfl rfl u_1 u_0) <| o_n) (by kernel_rfl) (fun a g hst hb => ?_)
             refine wp_ret ?_
             refine Zq ?_
             obtain rfl := Option.some.inj H0
             obtain ⟨u0, hu0, hq0⟩ := Z8 (P := Tryz.prog) Zbb (hst.at 0 rfl)
             obtain ⟨u2, hu2, hq2⟩ := Z8 (P := Tryz.prog) Zbz (hst.at 2 rfl)
             exact Zh4 rfl hst hb hu0 (Zk (s := 7)) hu2 (Zgh hq0 (hst.at 1 rfl) hq2)
           · replace H0 := Zx hc19 H0
             refine wp_skip ?_
             refine Zr ?_
             refine wp_seq ?_
             refine r_s (L := [(1, _), (3, _), (5, _), (6, _), (8, _)]) (T := [⟨[.old 2], _, [], [], [74]⟩, ⟨[.op 0 0], _, [], [0], [75]⟩]) (F := [.old 0, .old 1, .old 2, .old 3, .old 4, .op 1 0]) (hst.pick [0, 1, 2, 3, 4] rfl) hb Za
               (o_p rfl (Zd Zdc rfl rfl u_0) <| o_p rfl (Zf ty_3 rfl rfl u_0) <| o_n) (by kernel_rfl) (fun a g hst hb => ?_)
             refine wp_block ?_
             refine r_s (T := [⟨[.old 5], _, [], [], [77]⟩, ⟨[.op 0 0], _, [], [0], [76]⟩]) (F := [.old 0, .old 1, .old 2, .old 3, .old 4, .old 5, .op 1 0]) hst hb Za
               (o_p rfl (Zbl rfl rfl u_0 c_i) <| o_p rfl (Zc rfl rfl u_0) <| o_n) (by kernel_rfl) (fun a g hst hb => ?_)
             refine wp_cond_split (hst.bool 6 rfl) (fun hc20 => ?_) (fun hc20 => ?_)
             · replace H0 := Zw hc20 H0
               obtain ⟨r21, h22, H0⟩ := Zh H0
               refine r_s (L := [(5, _), (6, _), (8, _)]) (T := [⟨[.old 0], _, [], [], [78]⟩, ⟨[.op 0 0], _, [], [0], [79]⟩, ⟨[.op 1 0], _, [], [0, 1], [80]⟩, ⟨[], _, [], [], [81]⟩, ⟨[.op 2 0, .old 1], _, [7], [0, 1, 2], [6]⟩, ⟨[], _, [], [0, 1, 2, 4], [7]⟩, ⟨[.op 3 0, .old 2], _, [9], Lr 6, [8]⟩]) (F := [.op 4 0, .op 5 0, .op 6 0]) (hst.pick [2, 3, 4] rfl) hb Za
                 (o_p rfl (Zd Zmm rfl rfl u_0) <| o_p rfl (Zf Zbb rfl rfl u_0) <| o_p rfl (Zn Zwl (Zhl _ h22) rfl rfl (.cons u_0 .nil)) <| o_p rfl (Zou rfl rfl ) <| o_p rfl (Zz Zbb rfl rfl u_1 u_0) <| o_p rfl (Zc rfl rfl c_b) <| o_p rfl (Zz Zbz rfl rfl u_1 u_0) <| o_n) (by kernel_rfl) (fun a g hst hb => ?_)
               refine wp_ret ?_
               refine Z2 ?_
               refine Zq ?_
               obtain rfl := Option.some.inj H0
               obtain ⟨u0, hu0, hq0⟩ := Z8 (P := Tryz.prog) Zbb (hst.at 0 rfl)
               obtain ⟨u2, hu2, hq2⟩ := Z8 (P := Tryz.prog) Zbz (hst.at 2 rfl)
               exact Zh4 rfl hst hb hu0 (Zk (s := 7)) hu2 (Zgh hq0 (hst.at 1 rfl) hq2)
             · replace H0 := Zx hc20 H0
               refine r_s (L := [(1, _), (3, _), (5, _), (6, _), (8, _), (75, _)]) (T := [⟨[.old 5], _, [], [], [83]⟩, ⟨[.op 0 0], _, [], [0], [82]⟩]) (F := [.old 0, .old 1, .old 2, .old 3, .old 4, .old 5, .op 1 0]) (hst.pick [0, 1, 2, 3, 4, 5] rfl) hb Za
                 (o_p rfl (Zbl rfl rfl u_0 c_i) <| o_p rfl (Zc rfl rfl u_0) <| o_n) (by kernel_rfl) (fun a g hst hb => ?_)
               refine wp_cond_split (hst.bool 6 rfl) (fun hc23 => ?_) (fun hc23 => ?_)
               · replace H0 := Zw hc23 H0
                 refine r_s (L := [(6, _), (8, _)]) (T := [⟨[], _, [], [], [84]⟩, ⟨[], _, [], [], [85]⟩, ⟨[.op 0 0, .old 0], _, [7], [0], [6]⟩, ⟨[], _, [], [0, 2], [7]⟩, ⟨[.op 1 0, .old 1], _, [9], Lr 4, [8]⟩]) (F := [.op 2 0, .op 3 0, .op 4 0]) (hst.pick [3, 4] rfl) hb Za
                   (o_p rfl (Zma rfl rfl ) <| o_p rfl (Zou rfl rfl ) <| o_p rfl (Zz Zbb rfl rfl u_1 u_0) <| o_p rfl (Zc rfl rfl c_b) <| o_p rfl (Zz Zbz rfl rfl u_1 u_0) <| o_n) (by kernel_rfl) (fun a g hst hb => ?_)
                 refine wp_ret ?_
                 refine Z2 ?_
                 refine Zq ?_
                 obtain rfl := Option.some.inj H0
                 obtain ⟨u0, hu0, hq0⟩ := Z8 (P := Tryz.prog) Zbb (hst.at 0 rfl)
                 obtain ⟨u2, hu2, hq2⟩ := Z8 (P := Tryz.prog) Zbz (hst.at 2 rfl)
                 exact Zh4 rfl hst hb hu0 (Zk (s := 7)) hu2 (Zgh hq0 (hst.at 1 rfl) hq2)
               · replace H0 := Zx hc23 H0
                 refine r_s (L := [(1, _), (3, _), (5, _), (6, _), (8, _), (75, _)]) (T := [⟨[.old 5], _, [], [], [87]⟩, ⟨[.op 0 0], _, [], [0], [86]⟩]) (F := [.old 0, .old 1, .old 2, .old 3, .old 4, .old 5, .op 1 0]) (hst.pick [0, 1, 2, 3, 4, 5] rfl) hb Za
                   (o_p rfl (Zbl rfl rfl u_0 c_i) <| o_p rfl (Zc rfl rfl u_0) <| o_n) (by kernel_rfl) (fun a g hst hb => ?_)
                 refine wp_cond_split (hst.bool 6 rfl) (fun hc24 => ?_) (fun hc24 => ?_)
                 · replace H0 := Zw hc24 H0
                   refine r_s (L := [(1, _), (3, _), (6, _), (8, _)]) (T := [⟨[.old 1], _, [], [], [88]⟩, ⟨[.old 0], _, [], [], [89]⟩, ⟨[.old 1], _, [], [], [90]⟩, ⟨[.op 2 0], _, [], [2], [91]⟩, ⟨[.op 3 0], _, [], [2, 3], [92]⟩, ⟨[.op 0 0, .old 2], _, [7], [0], [6]⟩, ⟨[.op 1 0], _, [], [0, 1, 5], [7]⟩, ⟨[.op 4 0, .old 3], _, [9], Lr 7, [8]⟩]) (F := [.op 5 0, .op 6 0, .op 7 0]) (hst.pick [0, 1, 3, 4] rfl) hb Za
                     (o_p rfl (Zbw Zbb rfl rfl u_0) <| o_p rfl (Zb rfl rfl u_0) <| o_p rfl (Zs Zfq (off := 0) (by kernel_rfl) rfl rfl u_0) <| o_p rfl (Zbq ty_3 rfl rfl u_0) <| o_p rfl (Zz4 rfl rfl u_0) <| o_p rfl (Zz Zbb rfl rfl u_1 u_0) <| o_p rfl (Zc rfl rfl u_0) <| o_p rfl (Zz Zbz rfl rfl u_1 u_0) <| o_n) (by kernel_rfl) (fun a g hst hb => ?_)
                   refine wp_ret ?_
                   refine Z2 ?_
                   refine Zq ?_
                   obtain rfl := Option.some.inj H0
                   obtain ⟨u0, hu0, hq0⟩ := Z8 (P := Tryz.prog) Zbb (hst.at 0 rfl)
                   obtain ⟨u2, hu2, hq2⟩ := Z8 (P := Tryz.prog) Zbz (hst.at 2 rfl)
                   exact Zh4 rfl hst hb hu0 (Zk (s := 7)) hu2 (Zgh hq0 (hst.at 1 rfl) hq2)
                 · replace H0 := Zx hc24 H0
                   refine r_s (L := [(1, _), (3, _), (5, _), (6, _), (8, _), (75, _)]) (T := [⟨[.old 5], _, [], [], [94]⟩, ⟨[.op 0 0], _, [], [0], [93]⟩]) (F := [.old 0, .old 1, .old 2, .old 3, .old 4, .op 1 0]) (hst.pick [0, 1, 2, 3, 4, 5] rfl) hb Za
                     (o_p rfl (Zbl rfl rfl u_0 c_i) <| o_p rfl (Zc rfl rfl u_0) <| o_n) (by kernel_rfl) (fun a g hst hb => ?_)
                   refine wp_cond_split (hst.bool 5 rfl) (fun hc25 => ?_) (fun hc25 => ?_)
                   · replace H0 := Zw hc25 H0
                     obtain ⟨r26, h27, H0⟩ := Zh H0
                     refine r_s (L := [(1, _), (3, _), (6, _), (8, _)]) (T := [⟨[.old 1], _, [], [], [95]⟩, ⟨[.old 0], _, [], [], [96]⟩, ⟨[.old 1], _, [], [], [97]⟩, ⟨[.op 2 0], _, [], [2], [98]⟩, ⟨[.op 3 0], _, [], [2, 3], [99]⟩, ⟨[.op 0 0, .old 2], _, [7], [0, 2, 3], [6]⟩, ⟨[.op 1 0], _, [], [0, 1, 2, 3, 5], [7]⟩, ⟨[.op 4 0, .old 3], _, [9], Lr 7, [8]⟩]) (F := [.op 5 0, .op 6 0, .op 7 0]) (hst.pick [0, 1, 3, 4] rfl) hb Za
                       (o_p rfl (Zbw Zbb rfl rfl u_0) <| o_p rfl (Zb rfl rfl u_0) <| o_p rfl (Zbw Zbb rfl rfl u_0) <| o_p rfl (Zn Zwl (Zhl _ h27) rfl rfl (.cons u_0 .nil)) <| o_p rfl (Zzx rfl rfl u_0) <| o_p rfl (Zz Zbb rfl rfl u_1 u_0) <| o_p rfl (Zc rfl rfl u_0) <| o_p rfl (Zz Zbz rfl rfl u_1 u_0) <| o_n) (by kernel_rfl) (fun a g hst hb => ?_)
                     refine wp_ret ?_
                     refine Z2 ?_
                     refine Zq ?_
                     obtain rfl := Option.some.inj H0
                     obtain ⟨u0, hu0, hq0⟩ := Z8 (P := Tryz.prog) Zbb (hst.at 0 rfl)
                     obtain ⟨u2, hu2, hq2⟩ := Z8 (P := Tryz.prog) Zbz (hst.at 2 rfl)
                     exact Zh4 rfl hst hb hu0 (Zk (s := 7)) hu2 (Zgh hq0 (hst.at 1 rfl) hq2)
                   · replace H0 := Zx hc25 H0
                     refine wp_skip ?_
                     refine Zba ?_
                     refine Zr ?_
                     obtain ⟨r28, h29, H0⟩ := Zh H0
                     refine r_s (L := [(1, _), (3, _), (5, _), (6, _), (8, _)]) (T := [⟨[.old 1], _, [], [], [101]⟩, ⟨[.old 2], _, [], [], [102]⟩, ⟨[.op 0 0, .op 1 0], _, [], [0, 1], [103]⟩, ⟨[.op 2 0], _, [], [0, 1, 2], [100]⟩, ⟨[.op 3 0], _, [], Lr 4, [104]⟩, ⟨[.op 3 0], _, [], Lr 4, [105]⟩, ⟨[], [(11, (pBox Zi 11 (default : Ze)))], [12], [], [11]⟩, ⟨[], [(12, (pBox Zm 12 (default : Zg)))], [13], [], [12]⟩, ⟨[.op 4 0, .op 6 0], _, [12], [0, 1, 2, 3, 4, 6, 7], [11]⟩, ⟨[.op 5 0, .op 7 0], _, [13], Lr 9, [12]⟩]) (F := [.old 0, .old 3, .old 4, .op 8 0, .op 9 0]) (hst.pick [0, 1, 2, 3, 4] rfl) hb Za
                       (o_p rfl (Zbw Zbb rfl rfl u_0) <| o_p rfl (Zf Zfl rfl rfl u_0) <| o_p rfl (Zn Zban (Zsh _ _ h29) rfl rfl (.cons u_0 (.cons u_1 .nil))) <| o_p rfl (Zb rfl rfl u_0) <| o_p rfl (Z4 rfl rfl u_0 rfl) <| o_p rfl (Z4 rfl rfl u_0 rfl) <| o_p rfl (Zbd (zs := [.int .i64 0, .int .i64 0, .int .i64 0, .int .i64 0, .float .f64 0, .int .i64 0, .string ByteArray.empty, .slice none 0 0]) (by kernel_rfl) (fun g => Zb9 g) rfl rfl) <| o_p rfl (Zbd (zs := [.int .i64 0, .int .i64 0, .int .i64 0, .int .i64 0, .int .i64 0, .int .i64 0, .float .f64 0, .int .i64 0, .string ByteArray.empty, .slice none 0 0]) (by kernel_rfl) (fun g => Zcx g) rfl rfl) <| o_p rfl (Zb5 Zbb rfl rfl u_1 u_0) <| o_p rfl (Zb5 Zbz rfl rfl u_1 u_0) <| o_n) (by kernel_rfl) (fun a g hst hb => ?_)
                     refine r_s (T := [⟨[.old 3], _, [], [], [106]⟩, ⟨[.old 0], _, [], [], [107]⟩, ⟨[.old 4], _, [], [], [108]⟩, ⟨[.op 0 0, .old 1], _, [7], [0], [6]⟩, ⟨[.op 1 0], _, [], [0, 1, 3], [7]⟩, ⟨[.op 2 0, .old 2], _, [9], Lr 5, [8]⟩]) (F := [.op 3 0, .op 4 0, .op 5 0]) hst hb Za
                       (o_p rfl (Zf Zbb rfl rfl u_0) <| o_p rfl (Zb rfl rfl u_0) <| o_p rfl (Zf Zbz rfl rfl u_0) <| o_p rfl (Zz Zbb rfl rfl u_1 u_0) <| o_p rfl (Zc rfl rfl u_0) <| o_p rfl (Zz Zbz rfl rfl u_1 u_0) <| o_n) (by kernel_rfl) (fun a g hst hb => ?_)
                     refine wp_ret ?_
                     obtain rfl := Option.some.inj H0
                     obtain ⟨u0, hu0, hq0⟩ := Z8 (P := Tryz.prog) Zbb (hst.at 0 rfl)
                     obtain ⟨u2, hu2, hq2⟩ := Z8 (P := Tryz.prog) Zbz (hst.at 2 rfl)
                     exact Zh4 rfl hst hb hu0 (Zk (s := 7)) hu2 (Zgh hq0 (hst.at 1 rfl) hq2)
         · refine wp_cond_split (hst.bool 6 rfl) (fun hc17 => ?_) (fun hc17 => ?_)
           · replace H0 := Zw hc17 H0
             refine r_g (L := [(1, _), (3, _), (5, _), (6, _), (8, _)]) (T := [⟨[], _, [], [], [9]⟩]) (F := [.old 0, .old 1, .old 2, .old 3, .old 4, .op 0 0]) (hst.pick [0, 1, 2, 3, 4] rfl) hb Za
               (o_p rfl (Zc rfl rfl c_i) <| o_n) (by kernel_rfl) (fun a g hst hb => ?_)
             exact ⟨(5 : Int), g, rfl, (hst.pick [0, 1, 2, 3, 4, 5] rfl), hb, H0⟩
           · replace H0 := Zx hc17 H0
             refine wp_skip ?_
             exact ⟨j14, g, rfl, (hst.pick [0, 1, 2, 3, 4, 5] rfl), hb, H0⟩
       · refine wp_cond_split (hst.bool 6 rfl) (fun hc13 => ?_) (fun hc13 => ?_)
         · replace H0 := Zw hc13 H0
           refine r_g (L := [(1, _), (3, _), (5, _), (6, _), (8, _)]) (T := [⟨[], _, [], [], [9]⟩]) (F := [.old 0, .old 1, .old 2, .old 3, .old 4, .op 0 0]) (hst.pick [0, 1, 2, 3, 4] rfl) hb Za
             (o_p rfl (Zc rfl rfl c_i) <| o_n) (by kernel_rfl) (fun a g hst hb => ?_)
           exact ⟨(6 : Int), g, rfl, (hst.pick [0, 1, 2, 3, 4, 5] rfl), hb, H0⟩
         · replace H0 := Zx hc13 H0
           refine wp_skip ?_
           exact ⟨j12, g, rfl, (hst.pick [0, 1, 2, 3, 4, 5] rfl), hb, H0⟩
     · refine wp_cond_split (hst.bool 6 rfl) (fun hc11 => ?_) (fun hc11 => ?_)
       · replace H0 := Zw hc11 H0
         refine r_g (L := [(1, _), (3, _), (5, _), (6, _), (8, _)]) (T := [⟨[], _, [], [], [9]⟩]) (F := [.old 0, .old 1, .old 2, .old 3, .old 4, .op 0 0]) (hst.pick [0, 1, 2, 3, 4] rfl) hb Za
           (o_p rfl (Zc rfl rfl c_i) <| o_n) (by kernel_rfl) (fun a g hst hb => ?_)
         exact ⟨(7 : Int), g, rfl, (hst.pick [0, 1, 2, 3, 4, 5] rfl), hb, H0⟩
       · replace H0 := Zx hc11 H0
         refine wp_skip ?_
         exact ⟨j10, g, rfl, (hst.pick [0, 1, 2, 3, 4, 5] rfl), hb, H0⟩
   · refine wp_cond_split (hst.bool 6 rfl) (fun hc7 => ?_) (fun hc7 => ?_)
     · replace H0 := Zw hc7 H0
       obtain ⟨r8, h9, H0⟩ := Zh H0
       refine r_g (L := [(1, _), (3, _), (5, _), (6, _), (8, _)]) (T := [⟨[.old 1], _, [], [], [25]⟩, ⟨[.op 0 0], _, [], [0], [26]⟩, ⟨[.op 1 0], _, [], [0, 1], [9]⟩]) (F := [.old 0, .old 1, .old 2, .old 3, .old 4, .op 2 0]) (hst.pick [0, 1, 2, 3, 4] rfl) hb Za
         (o_p rfl (Zbw Zbb rfl rfl u_0) <| o_p rfl (Zn Z1f (Zj5 _ h9) rfl rfl (.cons u_0 .nil)) <| o_p rfl (Zc rfl rfl u_0) <| o_n) (by kernel_rfl) (fun a g hst hb => ?_)
       exact ⟨r8, g, rfl, (hst.pick [0, 1, 2, 3, 4, 5] rfl), hb, H0⟩
     · replace H0 := Zx hc7 H0
       refine wp_skip ?_
       exact ⟨r5, g, rfl, (hst.pick [0, 1, 2, 3, 4, 5] rfl), hb, H0⟩
 · refine wp_cond_split (hst.bool 5 rfl) (fun hc1 => ?_) (fun hc1 => ?_)
   · replace H0 := Zw hc1 H0
     refine r_g (L := [(1, _), (3, _), (5, _), (6, _), (8, _)]) (T := [⟨[], _, [], [], [15]⟩, ⟨[.op 0 0, .old 1], _, [4], [0], [3]⟩]) (F := [.old 0, .op 1 0, .old 2, .old 3, .old 4]) (hst.pick [0, 1, 2, 3, 4] rfl) hb Za
       (o_p rfl (Zma rfl rfl ) <| o_p rfl (Zz Zbb rfl rfl u_1 u_0) <| o_n) (by kernel_rfl) (fun a g hst hb => ?_)
     exact ⟨({ Kind := (0 : Int), Num := (0 : Int), Low := (0 : Int), High := (0 : Int), Real := (0 : Nat), Cap := (0 : Int), Text := ByteArray.empty, List := ([] : List Zl) } : Ze), g, rfl, (hst.pick [0, 1, 2, 3, 4] rfl), hb, H0⟩
   · replace H0 := Zx hc1 H0
     refine wp_skip ?_
     exact ⟨a0, g, rfl, (hst.pick [0, 1, 2, 3, 4] rfl), hb, H0⟩
theorem Zn0 (a0 : Zj) (a1 : ByteArray) {r : Zj × Bool} (h : Zga a0 a1 = some r) : FnOk Tryz.prog 59 [(Z6.pd a0), (pStr a1)] (pTup [(Z6.pd r.1), (Zbg r.2)]) := by
 have H0 := h
 unfold Zga at H0
 clear h
 refine Zbp (N := 43) Tryz.func59 rfl rfl (Nat.le_of_ble_eq_true rfl) rfl rfl (fun a g0 hst hb => ?_)
 refine r_s (T := [⟨[.old 0], _, [], [], [2]⟩, ⟨[], [(4, (pBox Z6 4 (default : Zj)))], [5], [], [4]⟩, ⟨[], _, [], [], [5]⟩]) (F := [.old 1, .op 0 0, .op 1 0]) hst hb Za
   (o_p rfl (Zbj rfl rfl u_0) <| o_p rfl (Zbd (zs := [.slice none 0 0, .int .i64 0]) (by kernel_rfl) (fun g => Zez g) rfl rfl) <| o_p rfl (Zc rfl rfl c_b) <| o_n) (by kernel_rfl) (fun a g hst hb => ?_)
 obtain ⟨r1, h2, H0⟩ := Zh H0
 refine r_s (T := [⟨[.old 1], _, [], [], [8]⟩, ⟨[.old 0], _, [], [], [9]⟩, ⟨[.op 0 0, .op 1 0], _, [], [0, 1], [10]⟩, ⟨[.op 2 0], _, [], [0, 1, 2], [6]⟩]) (F := [.old 0, .old 1, .old 2, .op 3 0]) hst hb Za
   (o_p rfl (Zf Zcl rfl rfl u_0) <| o_p rfl (Zb rfl rfl u_0) <| o_p rfl (Zn Z0p (Zh5 _ _ h2) rfl rfl (.cons u_0 (.cons u_1 .nil))) <| o_p rfl (Zc rfl rfl u_0) <| o_n) (by kernel_rfl) (fun a g hst hb => ?_)
 refine wp_seq ?_
 obtain ⟨e3, h4, H0⟩ := Zh H0
 refine r_s (T := ⟨[.old 3], _, [], [], [11]⟩ :: ⟨[.old 1], _, [], [], [12]⟩ :: ⟨[.op 1 0], _, [], [1], [13]⟩ :: ⟨[.op 2 0], _, [], [1, 2], [14]⟩ :: ⟨[.op 0 0, .op 3 0], _, [], Lr 4, [15]⟩ :: ⟨[.op 4 0], _, [], Lr 5, [16]⟩ :: ⟨[.op 5 0, .old 1], _, [], Lr 6, [17]⟩ :: ⟨[.op 5 0, .op 6 0], _, [], Lr 7, [18]⟩ :: ⟨[.op 5 0, .old 3], _, [], Lr 6, [19]⟩ :: ⟨[.op 5 0, .op 7 0, .op 8 0], _, [], Lr 9, [20]⟩ :: ⟨[.op 5 0, .op 9 0], _, [], Lr 10, [21]⟩ :: ⟨[.op 5 0, .op 10 0], _, [], Lr 11, [22]⟩ :: ⟨[.op 5 0, .old 0], _, [], Lr 6, [23]⟩ :: ⟨[.op 5 0, .op 11 0, .op 12 0], _, [], Lr 13, [24]⟩ :: ⟨[.op 5 0, .op 13 0], _, [], Lr 14, [25]⟩ :: []) (F := [.old 1, .old 2, .old 3, .op 14 0]) hst hb Za
   (o_p rfl (Zb rfl rfl u_0) <| o_p rfl (Zd Zgc rfl rfl u_0) <| o_p rfl (Zf Zi0 rfl rfl u_0) <| o_p rfl (Zbu Tryz.underlying22 rfl rfl u_0) <| o_p rfl (Zk4 rfl rfl u_0 u_1) <| o_p rfl (Zb rfl rfl u_0) <| o_g (g_f rfl rfl rfl (fun hG => Zd Zgc rfl rfl u_0)) <| o_g (g_f rfl rfl rfl (fun hG => Zf Zi0 rfl rfl (Opd.gd hG u_0))) <| o_g (g_f rfl rfl rfl (fun hG => Zb rfl rfl u_0)) <| o_g (g_f rfl rfl rfl (fun hG => Zbf Tryz.underlying22 Zl4 rfl rfl (Opd.gd hG u_0) (Opd.gd hG u_1) (Zbm h4 hG))) <| o_g (g_f rfl rfl rfl (fun hG => Zd Zlp rfl rfl (Opd.gd hG u_0))) <| o_g (g_f rfl rfl rfl (fun hG => Zf ty_9 rfl rfl (Opd.gd hG u_0))) <| o_g (g_f rfl rfl rfl (fun hG => Zb rfl rfl u_0)) <| o_g (g_f rfl rfl rfl (fun hG => Zob rfl rfl (Opd.gd hG u_0) (Opd.gd hG u_1))) <| o_p rfl (Zbt rfl rfl u_0 (fun hz => (Opd.gd (bNF hz) u_1))) <| o_n) (by kernel_rfl) (fun a g hst hb => ?_)
 refine wp_cond_split (hst.bool 3 rfl) (fun hc5 => ?_) (fun hc5 => ?_)
 · replace H0 := Zw hc5 H0
   refine r_s (L := [(2, _), (4, _)]) (T := [⟨[.old 0], _, [], [], [26]⟩, ⟨[.op 0 0, .old 1], _, [5], [0], [4]⟩, ⟨[], _, [], [0, 1], [5]⟩]) (F := [.op 1 0, .op 2 0]) (hst.pick [0, 1] rfl) hb Za
     (o_p rfl (Zf Zcl rfl rfl u_0) <| o_p rfl (Zz Zcl rfl rfl u_1 u_0) <| o_p rfl (Zc rfl rfl c_b) <| o_n) (by kernel_rfl) (fun a g hst hb => ?_)
   refine wp_ret ?_
   refine Zq ?_
   obtain rfl := Option.some.inj H0
   obtain ⟨u0, hu0, hq0⟩ := Z8 (P := Tryz.prog) Zcl (hst.at 0 rfl)
   exact Zda rfl hst hb hu0 (Zk (s := 5)) (Zcn hq0 (hst.at 1 rfl))
 · replace H0 := Zx hc5 H0
   refine wp_skip ?_
   refine Zr ?_
   obtain ⟨c6, h7, H0⟩ := Zh H0; obtain ⟨h8, H0⟩ := Zge H0
   refine r_s (L := [(2, _), (4, _), (6, _)]) (T := [⟨[], _, [28], [], [27]⟩, ⟨[.old 0], _, [], [], [28]⟩, ⟨[.op 1 0], _, [], [1], [29]⟩, ⟨[.old 2], _, [], [], [30]⟩, ⟨[.op 2 0, .op 3 0], _, [], [1, 2, 3], [31]⟩, ⟨[.op 0 0, .op 4 0], _, [28], Lr 5, [27, 32]⟩, ⟨[.op 5 0], _, [], Lr 6, [7]⟩]) (F := [.old 0, .old 1, .old 2, .op 6 0]) (hst.pick [0, 1, 2] rfl) hb Za
     (o_p rfl (Zkz 27 Zog (xs := []) .nil (by decide) rfl rfl) <| o_p rfl (Zd Zgc rfl rfl u_0) <| o_p rfl (Zf Zi0 rfl rfl u_0) <| o_p rfl (Zb rfl rfl u_0) <| o_p rfl (Zrr Tryz.underlying22 Zl4 rfl rfl u_0 u_1 h7) <| o_p rfl (Zft Zog rfl rfl u_0 u_1 h8) <| o_p rfl (Zc rfl rfl u_0) <| o_n) (by kernel_rfl) (fun a g hst hb => ?_)
   obtain ⟨c9, h10, H0⟩ := Zh H0; obtain ⟨h11, H0⟩ := Zge H0
   refine r_s (T := ⟨[.old 3], _, [], [], [33]⟩ :: ⟨[.old 0], _, [], [], [34]⟩ :: ⟨[.op 1 0], _, [], [1], [35]⟩ :: ⟨[.old 2], _, [], [], [36]⟩ :: ⟨[.op 3 0], _, [], [3], [37]⟩ :: ⟨[.op 2 0, .op 4 0], _, [], List.range' 1 4, [38]⟩ :: ⟨[.op 0 0, .op 5 0], _, [28], Lr 6, [7, 33, 39]⟩ :: ⟨[.old 0], _, [], [], [40]⟩ :: ⟨[.op 7 0], _, [], [7], [41]⟩ :: ⟨[.op 6 0, .op 8 0], _, [], Lr 9, [42]⟩ :: ⟨[.op 9 0, .old 1], _, [5], Lr 10, [4]⟩ :: ⟨[], _, [], Lr 11, [5]⟩ :: []) (F := [.op 10 0, .op 11 0]) hst hb Za
     (o_p rfl (Zb rfl rfl u_0) <| o_p rfl (Zd Zgc rfl rfl u_0) <| o_p rfl (Zf Zi0 rfl rfl u_0) <| o_p rfl (Zb rfl rfl u_0) <| o_p rfl (Zb3 rfl rfl u_0 c_i rfl) <| o_p rfl (Zzq Tryz.underlying22 Zl4 rfl rfl u_0 u_1 h10) <| o_p rfl (Zft Zog rfl rfl u_0 u_1 h11) <| o_p rfl (Zd Zpg rfl rfl u_0) <| o_p rfl (Zf ty_3 rfl rfl u_0) <| o_p rfl (Zvo rfl rfl (Opd.imp u_0 (fun _ _ h => Zjw h)) u_1) <| o_p rfl (Zz Zcl rfl rfl u_1 u_0) <| o_p rfl (Zc rfl rfl c_b) <| o_n) (by kernel_rfl) (fun a g hst hb => ?_)
   refine wp_ret ?_
   obtain rfl := Option.some.inj H0
   obtain ⟨u0, hu0, hq0⟩ := Z8 (P := Tryz.prog) Zcl (hst.at 0 rfl)
   exact Zda rfl hst hb hu0 (Zk (s := 5)) (Zcn hq0 (hst.at 1 rfl))
theorem Zqo (a0 : Zj) (a1 : Z3) {r : Zj × Zg} (h : Ziv a0 a1 = some r) : FnOk Tryz.prog 32 [(Z6.pd a0), (Zbe.pd a1)] (pTup [(Z6.pd r.1), (Zm.pd r.2)]) := by
 have H0 := h
 unfold Ziv at H0
 clear h
 refine Zbp (N := 65) Tryz.func32 rfl rfl (Nat.le_of_ble_eq_true rfl) rfl rfl (fun a g0 hst hb => ?_)
 refine r_s (T := [⟨[.old 0], _, [3], [], [2]⟩, ⟨[.old 1], _, [], [], [3]⟩, ⟨[], [(4, (pBox Z6 4 (default : Zj)))], [5], [], [4]⟩, ⟨[], [(5, (pBox Zm 5 (default : Zg)))], [6], [], [5]⟩]) (F := [.op 0 0, .op 1 0, .op 2 0, .op 3 0]) hst hb Za
   (o_p rfl (Zk3 rfl rfl u_0) <| o_p rfl (Zbj rfl rfl u_0) <| o_p rfl (Zbd (zs := [.slice none 0 0, .int .i64 0]) (by kernel_rfl) (fun g => Zez g) rfl rfl) <| o_p rfl (Zbd (zs := [.int .i64 0, .int .i64 0, .int .i64 0, .int .i64 0, .int .i64 0, .int .i64 0, .float .f64 0, .int .i64 0, .string ByteArray.empty, .slice none 0 0]) (by kernel_rfl) (fun g => Zcx g) rfl rfl) <| o_n) (by kernel_rfl) (fun a g hst hb => ?_)
 obtain ⟨r1, h2, H0⟩ := Zh H0
 refine r_s (T := [⟨[.old 0], _, [], [], [12]⟩, ⟨[.old 1], _, [], [], [13]⟩, ⟨[.op 1 0], _, [], [1], [14]⟩, ⟨[.op 0 0, .op 2 0], _, [], [0, 1, 2], [15]⟩, ⟨[.op 3 0], _, [], Lr 4, [11]⟩, ⟨[.op 4 0], _, [], Lr 5, [16]⟩, ⟨[.op 4 0], _, [], Lr 5, [17]⟩, ⟨[], [(6, (pBox Zi 6 (default : Ze)))], [7], [], [6]⟩, ⟨[.op 5 0, .op 7 0], _, [7], [0, 1, 2, 3, 4, 5, 7], [6]⟩, ⟨[.op 6 0], _, [], Lr 9, [7]⟩]) (F := [.old 0, .old 1, .old 2, .old 3, .op 8 0, .op 9 0]) hst hb Za
   (o_p rfl (Zbw Zcl rfl rfl u_0) <| o_p rfl (Zd Zjn rfl rfl u_0) <| o_p rfl (Zf ty_9 rfl rfl u_0) <| o_p rfl (Zn Z9b (Znu _ _ h2) rfl rfl (.cons u_0 (.cons u_1 .nil))) <| o_p rfl (Zb rfl rfl u_0) <| o_p rfl (Z4 rfl rfl u_0 rfl) <| o_p rfl (Z4 rfl rfl u_0 rfl) <| o_p rfl (Zbd (zs := [.int .i64 0, .int .i64 0, .int .i64 0, .int .i64 0, .float .f64 0, .int .i64 0, .string ByteArray.empty, .slice none 0 0]) (by kernel_rfl) (fun g => Zb9 g) rfl rfl) <| o_p rfl (Zb5 Zbb rfl rfl u_1 u_0) <| o_p rfl (Zc rfl rfl u_0) <| o_n) (by kernel_rfl) (fun a g hst hb => ?_)
 obtain ⟨r3, h4, H0⟩ := Zh H0
 refine r_s (T := ⟨[.old 4], _, [], [], [19]⟩ :: ⟨[.old 5], _, [], [], [20]⟩ :: ⟨[.old 1], _, [], [], [21]⟩ :: ⟨[.op 0 0, .op 1 0, .op 2 0], _, [], [0, 1, 2], [22]⟩ :: ⟨[.op 3 0], _, [], Lr 4, [18]⟩ :: ⟨[.op 4 0], _, [], Lr 5, [23]⟩ :: ⟨[.op 4 0], _, [], Lr 5, [24]⟩ :: ⟨[.op 4 0], _, [], Lr 5, [25]⟩ :: ⟨[], [(8, (pBox Zi 8 (default : Ze)))], [9], [], [8]⟩ :: ⟨[], [(10, (pBox Zm 10 (default : Zg)))], [11], [], [10]⟩ :: ⟨[.op 5 0, .op 8 0], _, [9], [0, 1, 2, 3, 4, 5, 8, 9], [8]⟩ :: ⟨[.op 6 0], _, [], [0, 1, 2, 3, 4, 5, 6, 8, 9, 10], [9]⟩ :: ⟨[.op 7 0, .op 9 0], _, [11], Lr 12, [10]⟩ :: []) (F := [.old 0, .old 1, .old 2, .old 3, .op 10 0, .op 11 0, .op 12 0]) hst hb Za
   (o_p rfl (Zf Zbb rfl rfl u_0) <| o_p rfl (Zb rfl rfl u_0) <| o_p rfl (Zf Zfl rfl rfl u_0) <| o_p rfl (Zn Z9k (Zpw _ _ _ h4) rfl rfl (.cons u_0 (.cons u_1 (.cons u_2 .nil)))) <| o_p rfl (Zb rfl rfl u_0) <| o_p rfl (Z4 rfl rfl u_0 rfl) <| o_p rfl (Z4 rfl rfl u_0 rfl) <| o_p rfl (Z4 rfl rfl u_0 rfl) <| o_p rfl (Zbd (zs := [.int .i64 0, .int .i64 0, .int .i64 0, .int .i64 0, .float .f64 0, .int .i64 0, .string ByteArray.empty, .slice none 0 0]) (by kernel_rfl) (fun g => Zb9 g) rfl rfl) <| o_p rfl (Zbd (zs := [.int .i64 0, .int .i64 0, .int .i64 0, .int .i64 0, .int .i64 0, .int .i64 0, .float .f64 0, .int .i64 0, .string ByteArray.empty, .slice none 0 0]) (by kernel_rfl) (fun g => Zcx g) rfl rfl) <| o_p rfl (Zb5 Zbb rfl rfl u_1 u_0) <| o_p rfl (Zc rfl rfl u_0) <| o_p rfl (Zb5 Zbz rfl rfl u_1 u_0) <| o_n) (by kernel_rfl) (fun a g hst hb => ?_)
 refine wp_seq ?_
 refine r_s (T := [⟨[.old 6], _, [], [], [26]⟩, ⟨[.op 0 0], _, [], [0], [27]⟩, ⟨[.op 1 0], _, [], [0, 1], [28]⟩]) (F := [.old 0, .old 1, .old 2, .old 3, .old 4, .old 5, .old 6, .op 2 0]) hst hb Za
   (o_p rfl (Zd Zf0 rfl rfl u_0) <| o_p rfl (Zf Zgj rfl rfl u_0) <| o_p rfl (Zc6 rfl rfl u_0 c_i) <| o_n) (by kernel_rfl) (fun a g hst hb => ?_)
 refine wp_cond_split (hst.bool 7 rfl) (fun hc5 => ?_) (fun hc5 => ?_)
 · replace H0 := Zw hc5 H0
   refine r_s (L := [(2, _), (4, _), (5, _), (10, _)]) (T := [⟨[.old 0], _, [], [], [29]⟩, ⟨[.old 3], _, [], [], [30]⟩, ⟨[.op 0 0, .old 1], _, [5], [0], [4]⟩, ⟨[.op 1 0, .old 2], _, [6], [0, 1, 2], [5]⟩]) (F := [.op 2 0, .op 3 0]) (hst.pick [0, 2, 3, 6] rfl) hb Za
     (o_p rfl (Zbw Zcl rfl rfl u_0) <| o_p rfl (Zf Zbz rfl rfl u_0) <| o_p rfl (Zz Zcl rfl rfl u_1 u_0) <| o_p rfl (Zz Zbz rfl rfl u_1 u_0) <| o_n) (by kernel_rfl) (fun a g hst hb => ?_)
   refine wp_ret ?_
   refine Zq ?_
   obtain rfl := Option.some.inj H0
   obtain ⟨u0, hu0, hq0⟩ := Z8 (P := Tryz.prog) Zcl (hst.at 0 rfl)
   obtain ⟨u1, hu1, hq1⟩ := Z8 (P := Tryz.prog) Zbz (hst.at 1 rfl)
   exact Zda rfl hst hb hu0 hu1 (Zcn hq0 hq1)
 · replace H0 := Zx hc5 H0
   refine wp_skip ?_
   refine Zr ?_
   refine wp_seq ?_
   refine r_s (L := [(2, _), (3, _), (4, _), (5, _), (8, _), (9, _), (10, _)]) (T := [⟨[.old 1], _, [], [], [31]⟩, ⟨[.op 0 0], _, [], [0], [32]⟩, ⟨[.op 1 0], _, [], [0, 1], [33]⟩, ⟨[.op 2 0], _, [], [0, 1, 2], [34]⟩, ⟨[.op 3 0, .old 0], _, [], Lr 4, [35]⟩, ⟨[.op 3 0, .op 4 0], _, [], Lr 5, [36]⟩, ⟨[.op 3 0, .op 5 0], _, [], Lr 6, [37]⟩, ⟨[.op 3 0, .old 0], _, [], Lr 4, [38]⟩, ⟨[.op 3 0, .op 7 0], _, [], [0, 1, 2, 3, 7], [39]⟩, ⟨[.op 3 0, .op 6 0, .op 8 0], _, [], Lr 9, [40]⟩, ⟨[.op 3 0, .op 9 0], _, [], Lr 10, [41]⟩]) (F := [.old 0, .old 1, .old 2, .old 3, .old 4, .old 5, .old 6, .op 10 0]) (hst.pick [0, 1, 2, 3, 4, 5, 6] rfl) hb Za
     (o_p rfl (Zd Zdc rfl rfl u_0) <| o_p rfl (Zf ty_3 rfl rfl u_0) <| o_p rfl (Zbl rfl rfl u_0 c_i) <| o_p rfl (Zb rfl rfl u_0) <| o_g (g_t rfl rfl rfl (fun hG => Zs Zgc (off := 0) (by kernel_rfl) rfl rfl u_0)) <| o_g (g_t rfl rfl rfl (fun hG => Zbq Zi0 rfl rfl (Opd.gd hG u_0))) <| o_g (g_t rfl rfl rfl (fun hG => Zbu Tryz.underlying22 rfl rfl (Opd.gd hG u_0))) <| o_g (g_t rfl rfl rfl (fun hG => Zs Zpg (off := 1) (by kernel_rfl) rfl rfl u_0)) <| o_g (g_t rfl rfl rfl (fun hG => Zbq ty_3 rfl rfl (Opd.gd hG u_0))) <| o_g (g_t rfl rfl rfl (fun hG => Zk4 rfl rfl (Opd.gd hG u_0) (Opd.gd hG u_1))) <| o_p rfl (Zbc rfl rfl u_0 (fun hz => (Opd.gd hz u_1))) <| o_n) (by kernel_rfl) (fun a g hst hb => ?_)
   refine wp_cond_split (hst.bool 7 rfl) (fun hc6 => ?_) (fun hc6 => ?_)
   · replace H0 := Zw hc6 H0
     refine r_s (L := [(2, _), (4, _), (5, _)]) (T := [⟨[.old 0], _, [], [], [42]⟩, ⟨[], _, [], [], [43]⟩, ⟨[.op 0 0, .old 1], _, [5], [0], [4]⟩, ⟨[.op 1 0, .old 2], _, [6], [0, 1, 2], [5]⟩]) (F := [.op 2 0, .op 3 0]) (hst.pick [0, 2, 3] rfl) hb Za
       (o_p rfl (Zbw Zcl rfl rfl u_0) <| o_p rfl (Zpf rfl rfl c_i) <| o_p rfl (Zz Zcl rfl rfl u_1 u_0) <| o_p rfl (Zz Zbz rfl rfl u_1 u_0) <| o_n) (by kernel_rfl) (fun a g hst hb => ?_)
     refine wp_ret ?_
     refine Zq ?_
     obtain rfl := Option.some.inj H0
     obtain ⟨u0, hu0, hq0⟩ := Z8 (P := Tryz.prog) Zcl (hst.at 0 rfl)
     obtain ⟨u1, hu1, hq1⟩ := Z8 (P := Tryz.prog) Zbz (hst.at 1 rfl)
     exact Zda rfl hst hb hu0 hu1 (Zcn hq0 hq1)
   · replace H0 := Zx hc6 H0
     refine wp_skip ?_
     refine Zr ?_
     refine wp_seq ?_
     refine r_s (L := [(2, _), (3, _), (4, _), (5, _), (8, _), (9, _), (10, _)]) (T := [⟨[.old 5], _, [], [], [44]⟩, ⟨[.op 0 0], _, [], [0], [45]⟩]) (F := [.old 0, .old 1, .old 2, .old 3, .old 4, .old 6, .op 1 0]) (hst.pick [0, 1, 2, 3, 4, 5, 6] rfl) hb Za
       (o_p rfl (Zb rfl rfl u_0) <| o_p rfl (Zb7 rfl rfl u_0) <| o_n) (by kernel_rfl) (fun a g hst hb => ?_)
     refine wp_cond_split (hst.bool 6 rfl) (fun hc7 => ?_) (fun hc7 => ?_)
     · replace H0 := Zw hc7 H0
       obtain ⟨r8, h9, H0⟩ := Zh H0
       refine r_s (L := [(2, _), (3, _), (4, _), (5, _), (10, _)]) (T := [⟨[.old 0], _, [], [], [47]⟩, ⟨[.old 1], _, [], [], [48]⟩, ⟨[.op 1 0], _, [], [1], [49]⟩, ⟨[.op 0 0, .op 2 0], _, [], [0, 1, 2], [50]⟩, ⟨[.op 3 0], _, [], Lr 4, [46]⟩, ⟨[.op 4 0], _, [], Lr 5, [51]⟩, ⟨[.op 4 0], _, [], Lr 5, [52]⟩, ⟨[.op 5 0, .old 0], _, [3], Lr 6, [2]⟩]) (F := [.op 7 0, .old 2, .old 3, .old 4]) (hst.pick [0, 1, 2, 3, 5] rfl) hb Za
         (o_p rfl (Zbw Zcl rfl rfl u_0) <| o_p rfl (Zd Zjn rfl rfl u_0) <| o_p rfl (Zf ty_9 rfl rfl u_0) <| o_p rfl (Zn Z9z (Zn0 _ _ h9) rfl rfl (.cons u_0 (.cons u_1 .nil))) <| o_p rfl (Zb rfl rfl u_0) <| o_p rfl (Z4 rfl rfl u_0 rfl) <| o_p rfl (Z4 rfl rfl u_0 rfl) <| o_p rfl (Zz Zcl rfl rfl u_1 u_0) <| o_n) (by kernel_rfl) (fun a g hst hb => ?_)
       refine r_s (T := [⟨[.old 0], _, [], [], [53]⟩, ⟨[.old 3], _, [], [], [54]⟩, ⟨[.op 0 0, .old 1], _, [5], [0], [4]⟩, ⟨[.op 1 0, .old 2], _, [6], [0, 1, 2], [5]⟩]) (F := [.op 2 0, .op 3 0]) hst hb Za
         (o_p rfl (Zbw Zcl rfl rfl u_0) <| o_p rfl (Zf Zbz rfl rfl u_0) <| o_p rfl (Zz Zcl rfl rfl u_1 u_0) <| o_p rfl (Zz Zbz rfl rfl u_1 u_0) <| o_n) (by kernel_rfl) (fun a g hst hb => ?_)
       refine wp_ret ?_
       refine Zq ?_
       obtain rfl := Option.some.inj H0
       obtain ⟨u0, hu0, hq0⟩ := Z8 (P := Tryz.prog) Zcl (hst.at 0 rfl)
       obtain ⟨u1, hu1, hq1⟩ := Z8 (P := Tryz.prog) Zbz (hst.at 1 rfl)
       exact Zda rfl hst hb hu0 hu1 (Zcn hq0 hq1)
     · replace H0 := Zx hc7 H0
       refine wp_skip ?_
       refine Zr ?_
       obtain ⟨r10, h11, H0⟩ := Zh H0
       refine r_s (L := [(2, _), (3, _), (4, _), (5, _), (8, _), (10, _)]) (T := [⟨[.old 0], _, [], [], [56]⟩, ⟨[.old 1], _, [], [], [57]⟩, ⟨[.op 1 0], _, [], [1], [58]⟩, ⟨[.old 4], _, [], [], [59]⟩, ⟨[.op 0 0, .op 2 0, .op 3 0], _, [], Lr 4, [60]⟩, ⟨[.op 4 0], _, [], Lr 5, [55]⟩, ⟨[.op 5 0], _, [], Lr 6, [61]⟩, ⟨[.op 5 0], _, [], Lr 6, [62]⟩, ⟨[.op 6 0, .old 0], _, [3], Lr 7, [2]⟩]) (F := [.op 8 0, .old 2, .old 3, .old 5]) (hst.pick [0, 1, 2, 3, 4, 5] rfl) hb Za
         (o_p rfl (Zbw Zcl rfl rfl u_0) <| o_p rfl (Zd Zjn rfl rfl u_0) <| o_p rfl (Zf ty_9 rfl rfl u_0) <| o_p rfl (Zf Zbb rfl rfl u_0) <| o_p rfl (Zn Z41 (Zko _ _ _ h11) rfl rfl (.cons u_0 (.cons u_1 (.cons u_2 .nil)))) <| o_p rfl (Zb rfl rfl u_0) <| o_p rfl (Z4 rfl rfl u_0 rfl) <| o_p rfl (Z4 rfl rfl u_0 rfl) <| o_p rfl (Zz Zcl rfl rfl u_1 u_0) <| o_n) (by kernel_rfl) (fun a g hst hb => ?_)
       refine r_s (T := [⟨[.old 0], _, [], [], [63]⟩, ⟨[.old 3], _, [], [], [64]⟩, ⟨[.op 0 0, .old 1], _, [5], [0], [4]⟩, ⟨[.op 1 0, .old 2], _, [6], [0, 1, 2], [5]⟩]) (F := [.op 2 0, .op 3 0]) hst hb Za
         (o_p rfl (Zbw Zcl rfl rfl u_0) <| o_p rfl (Zf Zbz rfl rfl u_0) <| o_p rfl (Zz Zcl rfl rfl u_1 u_0) <| o_p rfl (Zz Zbz rfl rfl u_1 u_0) <| o_n) (by kernel_rfl) (fun a g hst hb => ?_)
       refine wp_ret ?_
       obtain rfl := Option.some.inj H0
       obtain ⟨u0, hu0, hq0⟩ := Z8 (P := Tryz.prog) Zcl (hst.at 0 rfl)
       obtain ⟨u1, hu1, hq1⟩ := Z8 (P := Tryz.prog) Zbz (hst.at 1 rfl)
       exact Zda rfl hst hb hu0 hu1 (Zcn hq0 hq1)
theorem Zq5 (a0 : Zj) (a1 : Zb0) {r : Zj × Zt} (h : Zi4 a0 a1 = some r) : FnOk Tryz.prog 14 [(Z6.pd a0), (Zcm.pd a1)] (pTup [(Z6.pd r.1), (Zbk.pd r.2)]) := by
 have H0 := h
 unfold Zi4 at H0
 clear h
 refine Zbp (N := 67) Tryz.func14 rfl rfl (Nat.le_of_ble_eq_true rfl) rfl rfl (fun a g0 hst hb => ?_)
 refine r_s (T := [⟨[.old 0], _, [], [], [2]⟩, ⟨[.old 1], _, [], [], [3]⟩, ⟨[], [(4, (pBox Z6 4 (default : Zj)))], [5], [], [4]⟩, ⟨[], [(5, (pBox Zbk 5 (default : Zt)))], [6], [], [5]⟩]) (F := [.op 0 0, .op 1 0, .op 2 0, .op 3 0]) hst hb Za
   (o_p rfl (Zbj rfl rfl u_0) <| o_p rfl (Zbj rfl rfl u_0) <| o_p rfl (Zbd (zs := [.slice none 0 0, .int .i64 0]) (by kernel_rfl) (fun g => Zez g) rfl rfl) <| o_p rfl (Zbd (zs := [.int .i64 0, .int .i64 0, .slice none 0 0]) (by kernel_rfl) (fun g => Zkd g) rfl rfl) <| o_n) (by kernel_rfl) (fun a g hst hb => ?_)
 obtain ⟨r1, h2, H0⟩ := Zh H0
 refine r_s (T := [⟨[.old 1], _, [], [], [13]⟩, ⟨[.op 0 0], _, [], [0], [14]⟩, ⟨[.op 1 0], _, [], [0, 1], [12]⟩, ⟨[.op 2 0], _, [], [0, 1, 2], [15]⟩, ⟨[.op 2 0], _, [], [0, 1, 2], [16]⟩, ⟨[.op 3 0], _, [], Lr 4, [6]⟩, ⟨[.op 4 0], _, [], Lr 6, [7]⟩]) (F := [.old 0, .old 1, .old 2, .old 3, .op 5 0, .op 6 0]) hst hb Za
   (o_p rfl (Zf Zmw rfl rfl u_0) <| o_p rfl (Zn Zbal (Zpx _ h2) rfl rfl (.cons u_0 .nil)) <| o_p rfl (Zb rfl rfl u_0) <| o_p rfl (Z4 rfl rfl u_0 rfl) <| o_p rfl (Z4 rfl rfl u_0 rfl) <| o_p rfl (Zc rfl rfl u_0) <| o_p rfl (Zc rfl rfl u_0) <| o_n) (by kernel_rfl) (fun a g hst hb => ?_)
 refine wp_seq ?_
 refine r_s (T := [⟨[.old 4], _, [], [], [17]⟩, ⟨[.op 0 0], _, [], [0], [18]⟩]) (F := [.old 0, .old 1, .old 2, .old 3, .old 4, .old 5, .op 1 0]) hst hb Za
   (o_p rfl (Zb rfl rfl u_0) <| o_p rfl (Zc6 rfl rfl u_0 c_i) <| o_n) (by kernel_rfl) (fun a g hst hb => ?_)
 refine wp_cond_split (hst.bool 6 rfl) (fun hc3 => ?_) (fun hc3 => ?_)
 · replace H0 := Zw hc3 H0
   refine r_s (L := [(2, _), (4, _), (5, _), (6, _), (7, _)]) (T := [⟨[.old 0], _, [], [], [19]⟩, ⟨[.old 3], _, [], [], [20]⟩, ⟨[.old 4], _, [], [], [21]⟩, ⟨[.op 1 0, .op 2 0], _, [], [1, 2], [22]⟩, ⟨[.op 0 0, .old 1], _, [5], [0], [4]⟩, ⟨[.op 3 0, .old 2], _, [6], Lr 5, [5]⟩]) (F := [.op 4 0, .op 5 0]) (hst.pick [0, 2, 3, 4, 5] rfl) hb Za
     (o_p rfl (Zf Zcl rfl rfl u_0) <| o_p rfl (Zb rfl rfl u_0) <| o_p rfl (Zb rfl rfl u_0) <| o_p rfl (Zm8 rfl rfl u_0 u_1) <| o_p rfl (Zz Zcl rfl rfl u_1 u_0) <| o_p rfl (Zz Zhc rfl rfl u_1 u_0) <| o_n) (by kernel_rfl) (fun a g hst hb => ?_)
   refine wp_ret ?_
   refine Zq ?_
   obtain rfl := Option.some.inj H0
   obtain ⟨u0, hu0, hq0⟩ := Z8 (P := Tryz.prog) Zcl (hst.at 0 rfl)
   obtain ⟨u1, hu1, hq1⟩ := Z8 (P := Tryz.prog) Zhc (hst.at 1 rfl)
   exact Zda rfl hst hb hu0 hu1 (Zcn hq0 hq1)
 · replace H0 := Zx hc3 H0
   refine wp_skip ?_
   refine Zr ?_
   refine r_s (L := [(2, _), (3, _), (4, _), (5, _)]) (T := [⟨[.old 0], _, [], [], [23]⟩, ⟨[], _, [25], [], [24]⟩, ⟨[], [(8, (pBox Z6 8 (default : Zj)))], [9], [], [8]⟩, ⟨[.op 0 0, .op 2 0], _, [9], [0, 2], [8]⟩, ⟨[.op 1 0], _, [], Lr 4, [9]⟩]) (F := [.old 0, .old 1, .old 2, .old 3, .op 3 0, .op 4 0]) (hst.pick [0, 1, 2, 3] rfl) hb Za
     (o_p rfl (Zf Zcl rfl rfl u_0) <| o_p rfl (Zkz 24 Ztp (xs := []) .nil (by decide) rfl rfl) <| o_p rfl (Zbd (zs := [.slice none 0 0, .int .i64 0]) (by kernel_rfl) (fun g => Zez g) rfl rfl) <| o_p rfl (Zz Zcl rfl rfl u_1 u_0) <| o_p rfl (Zc rfl rfl u_0) <| o_n) (by kernel_rfl) (fun a g hst hb => ?_)
   refine wp_seq ?_
   refine r_s (T := [⟨[], _, [], [], [10]⟩]) (F := [.old 0, .old 1, .old 2, .old 3, .old 4, .old 5, .op 0 0]) hst hb Za
     (o_p rfl (Zc rfl rfl c_i) <| o_n) (by kernel_rfl) (fun a g hst hb => ?_)
   obtain ⟨z22, hz1, H0⟩ := Zh H0
   refine Zb8 (fun a w => ∃ (y18 : Zj) (y19 : Zt) (y20 : Zj) (y21 : List Zg) (g : G), w = g.w ∧ St 67 [(4, (pBox Z6 4 y18)), (5, (pBox Zbk 5 y19)), (8, (pBox Z6 8 y20)), (9, (pRow Zm 70 24 y21))] a g ∧ Base g0 g ∧ (.inr (y18, y19, y20, y21)) = z22) ?_ ?_
   · rintro a w ⟨y18, y19, y20, y21, g, rfl, hst, hb, rfl⟩
     refine Zr ?_
     refine r_s (T := [⟨[.old 2], _, [], [], [64]⟩, ⟨[.old 3], _, [], [], [65]⟩, ⟨[.op 1 0], _, [], [1], [66]⟩, ⟨[.op 0 0, .old 0], _, [5], [0], [4]⟩, ⟨[.op 2 0, .old 1], _, [6], Lr 4, [5]⟩]) (F := [.op 3 0, .op 4 0]) hst hb Za
       (o_p rfl (Zbw Zcl rfl rfl u_0) <| o_p rfl (Zb rfl rfl u_0) <| o_p rfl (Z6w rfl rfl (Opd.imp u_0 (fun _ _ h => Zjw h))) <| o_p rfl (Zz Zcl rfl rfl u_1 u_0) <| o_p rfl (Zz Zhc rfl rfl u_1 u_0) <| o_n) (by kernel_rfl) (fun a g hst hb => ?_)
     refine wp_ret ?_
     obtain rfl := Option.some.inj H0
     obtain ⟨u0, hu0, hq0⟩ := Z8 (P := Tryz.prog) Zcl (hst.at 0 rfl)
     obtain ⟨u1, hu1, hq1⟩ := Z8 (P := Tryz.prog) Zhc (hst.at 1 rfl)
     exact Zda rfl hst hb hu0 hu1 (Zcn hq0 hq1)
   · refine wp_block ?_
     refine wp_loop_ghost (fun n a w => ∃ (x4 : Zj) (x5 : Zt) (x6 : Zj) (x7 : List Zg) (x8 : Int) (g : G), w = g.w ∧ St 67 [(2, (Z6.ptr a0)), (3, (Zcm.ptr a1)), (4, (pBox Z6 4 x4)), (5, (pBox Zbk 5 x5)), (8, (pBox Z6 8 x6)), (9, (pRow Zm 70 24 x7)), (10, (pInt .i64 x8))] a g ∧ Base g0 g ∧ Zdy a0 a1 n x4 x5 x6 x7 x8 = some z22) (Int.toNat ((a1.Acts.length : Int) - (0 : Int)) + 1) ⟨(default : Zj), (default : Zt), a0, ([] : List Zg), (0 : Int), g, rfl, (hst.pick [0, 1, 2, 3, 4, 5, 6] rfl), hb, hz1⟩ (fun n a w hI => ?_)
     obtain ⟨x4, x5, x6, x7, x8, g, rfl, hst, hb, H1⟩ := hI
     cases n with
     | zero => exact absurd H1 (by simp [Zdy])
     | succ n =>
       rw [Zdy] at H1
       refine wp_seq ?_
       refine r_s (T := [⟨[.old 6], _, [], [], [25]⟩, ⟨[.old 1], _, [], [], [26]⟩, ⟨[.op 1 0], _, [], [1], [27]⟩, ⟨[.op 2 0], _, [], [1, 2], [28]⟩, ⟨[.op 0 0, .op 3 0], _, [], Lr 4, [29]⟩]) (F := [.old 0, .old 1, .old 2, .old 3, .old 4, .old 5, .old 6, .op 4 0]) hst hb Za
         (o_p rfl (Zb rfl rfl u_0) <| o_p rfl (Zd Zib rfl rfl u_0) <| o_p rfl (Zf Zla rfl rfl u_0) <| o_p rfl (Zbu Tryz.underlying50 rfl rfl u_0) <| o_p rfl (Zcc rfl rfl u_0 u_1) <| o_n) (by kernel_rfl) (fun a g hst hb => ?_)
       refine wp_cond_split (hst.bool 7 rfl) (fun hc9 => ?_) (fun hc9 => ?_)
       · replace H1 := Zw hc9 H1
         refine wp_skip ?_
         refine Zr ?_
         refine wp_seq ?_
         refine wp_block ?_
         refine r_s (L := [(2, _), (3, _), (4, _), (5, _), (8, _), (9, _), (10, _)]) (T := [⟨[], _, [], [], [32]⟩, ⟨[], [(11, (pBox Zm 11 (default : Zg)))], [12], [], [11]⟩, ⟨[.op 0 0, .op 1 0], _, [12], [0, 1], [11]⟩]) (F := [.old 0, .old 1, .old 2, .old 3, .old 4, .old 5, .old 6, .op 2 0]) (hst.pick [0, 1, 2, 3, 4, 5, 6] rfl) hb Za
           (o_p rfl (Zou rfl rfl ) <| o_p rfl (Zbd (zs := [.int .i64 0, .int .i64 0, .int .i64 0, .int .i64 0, .int .i64 0, .int .i64 0, .float .f64 0, .int .i64 0, .string ByteArray.empty, .slice none 0 0]) (by kernel_rfl) (fun g => Zcx g) rfl rfl) <| o_p rfl (Zz Zbz rfl rfl u_1 u_0) <| o_n) (by kernel_rfl) (fun a g hst hb => ?_)
         obtain ⟨e10, h11, H1⟩ := Zh H1; obtain ⟨r12, h13, H1⟩ := Zh H1
         refine r_s (T := ⟨[.old 4], _, [], [], [34]⟩ :: ⟨[.old 1], _, [], [], [35]⟩ :: ⟨[.op 1 0], _, [], [1], [36]⟩ :: ⟨[.old 6], _, [], [], [37]⟩ :: ⟨[.op 2 0, .op 3 0], _, [], [1, 2, 3], [38]⟩ :: ⟨[.op 4 0], _, [], List.range' 1 4, [39]⟩ :: ⟨[.op 0 0, .op 5 0], _, [], Lr 6, [40]⟩ :: ⟨[.op 6 0], _, [], Lr 7, [33]⟩ :: ⟨[.op 7 0], _, [], Lr 8, [41]⟩ :: ⟨[.op 7 0], _, [], Lr 8, [42]⟩ :: ⟨[.op 8 0, .old 4], _, [9], Lr 9, [8]⟩ :: ⟨[.op 9 0, .old 7], _, [12], Lr 11, [11]⟩ :: []) (F := [.old 0, .old 1, .old 2, .old 3, .op 10 0, .old 5, .old 6, .op 11 0]) hst hb Za
           (o_p rfl (Zbw Zcl rfl rfl u_0) <| o_p rfl (Zd Zib rfl rfl u_0) <| o_p rfl (Zf Zla rfl rfl u_0) <| o_p rfl (Zb rfl rfl u_0) <| o_p rfl (Zbf Tryz.underlying50 Zr0 rfl rfl u_0 u_1 h11) <| o_p rfl (Zf Zfl rfl rfl u_0) <| o_p rfl (Zn Zbac (Zqo _ _ h13) rfl rfl (.cons u_0 (.cons u_1 .nil))) <| o_p rfl (Zb rfl rfl u_0) <| o_p rfl (Z4 rfl rfl u_0 rfl) <| o_p rfl (Z4 rfl rfl u_0 rfl) <| o_p rfl (Zz Zcl rfl rfl u_1 u_0) <| o_p rfl (Zz Zbz rfl rfl u_1 u_0) <| o_n) (by kernel_rfl) (fun a g hst hb => ?_)
         refine wp_seq ?_
         obtain ⟨e14, h15, H1⟩ := Zh H1
         refine r_s (T := [⟨[.old 7], _, [], [], [43]⟩, ⟨[.op 0 0], _, [], [0], [44]⟩, ⟨[.op 1 0], _, [], [0, 1], [45]⟩, ⟨[.op 2 0], _, [], [0, 1, 2], [46]⟩, ⟨[.op 3 0, .old 1], _, [], Lr 4, [47]⟩, ⟨[.op 3 0, .op 4 0], _, [], Lr 5, [48]⟩, ⟨[.op 3 0, .old 6], _, [], Lr 4, [49]⟩, ⟨[.op 3 0, .op 5 0, .op 6 0], _, [], Lr 7, [50]⟩, ⟨[.op 3 0, .op 7 0], _, [], Lr 8, [51]⟩, ⟨[.op 3 0, .op 8 0], _, [], Lr 9, [52]⟩, ⟨[.op 3 0, .op 9 0], _, [], Lr 10, [53]⟩]) (F := [.old 0, .old 1, .old 2, .old 3, .old 4, .old 5, .old 6, .old 7, .op 10 0]) hst hb Za
           (o_p rfl (Zs Zf0 (off := 0) (by kernel_rfl) rfl rfl u_0) <| o_p rfl (Zbq Zgj rfl rfl u_0) <| o_p rfl (Zc6 rfl rfl u_0 c_i) <| o_p rfl (Zb rfl rfl u_0) <| o_g (g_t rfl rfl rfl (fun hG => Zd Zib rfl rfl u_0)) <| o_g (g_t rfl rfl rfl (fun hG => Zf Zla rfl rfl (Opd.gd hG u_0))) <| o_g (g_t rfl rfl rfl (fun hG => Zb rfl rfl u_0)) <| o_g (g_t rfl rfl rfl (fun hG => Zbf Tryz.underlying50 Zr0 rfl rfl (Opd.gd hG u_0) (Opd.gd hG u_1) (Zbm h15 hG))) <| o_g (g_t rfl rfl rfl (fun hG => Zd Zus rfl rfl (Opd.gd hG u_0))) <| o_g (g_t rfl rfl rfl (fun hG => Zf ty_4 rfl rfl (Opd.gd hG u_0))) <| o_p rfl (Zbc rfl rfl u_0 (fun hz => (Opd.gd hz u_1))) <| o_n) (by kernel_rfl) (fun a g hst hb => ?_)
         refine wp_cond_split (hst.bool 8 rfl) (fun hc16 => ?_) (fun hc16 => ?_)
         · replace H1 := Zw hc16 H1
           refine r_s (L := [(2, _), (4, _), (5, _), (10, _), (11, _)]) (T := [⟨[.old 0], _, [], [], [54]⟩, ⟨[.old 4], _, [], [], [55]⟩, ⟨[.op 1 0], _, [], [1], [56]⟩, ⟨[.old 3], _, [], [], [57]⟩, ⟨[.op 3 0], _, [], [3], [58]⟩, ⟨[.op 2 0, .op 4 0], _, [], List.range' 1 4, [59]⟩, ⟨[.op 0 0, .old 1], _, [5], [0], [4]⟩, ⟨[.op 5 0, .old 2], _, [6], Lr 7, [5]⟩]) (F := [.op 6 0, .op 7 0]) (hst.pick [0, 2, 3, 6, 7] rfl) hb Za
             (o_p rfl (Zf Zcl rfl rfl u_0) <| o_p rfl (Zs Zf0 (off := 0) (by kernel_rfl) rfl rfl u_0) <| o_p rfl (Zbq Zgj rfl rfl u_0) <| o_p rfl (Zb rfl rfl u_0) <| o_p rfl (Zb3 rfl rfl u_0 c_i rfl) <| o_p rfl (Zm8 rfl rfl u_0 u_1) <| o_p rfl (Zz Zcl rfl rfl u_1 u_0) <| o_p rfl (Zz Zhc rfl rfl u_1 u_0) <| o_n) (by kernel_rfl) (fun a g hst hb => ?_)
           refine wp_ret ?_
           refine Zq ?_
           refine Z2 ?_
           refine Zq ?_
           refine Zq ?_
           refine Z2 ?_
           refine Zq ?_
           refine Zq ?_
           obtain rfl := Option.some.inj H1
           obtain rfl := Option.some.inj H0
           obtain ⟨u0, hu0, hq0⟩ := Z8 (P := Tryz.prog) Zcl (hst.at 0 rfl)
           obtain ⟨u1, hu1, hq1⟩ := Z8 (P := Tryz.prog) Zhc (hst.at 1 rfl)
           exact Zda rfl hst hb hu0 hu1 (Zcn hq0 hq1)
         · replace H1 := Zx hc16 H1
           refine wp_skip ?_
           refine Zr ?_
           obtain ⟨h17, H1⟩ := Zge H1
           refine r_g (L := [(2, _), (3, _), (4, _), (5, _), (8, _), (9, _), (10, _), (11, _)]) (T := [⟨[.old 5], _, [], [], [60]⟩, ⟨[.old 7], _, [], [], [61]⟩, ⟨[.op 1 0], _, [], [1], [62]⟩, ⟨[.op 0 0, .op 2 0], _, [25], [0, 1, 2], [9, 60, 63]⟩, ⟨[.op 3 0], _, [], Lr 4, [9]⟩]) (F := [.old 0, .old 1, .old 2, .old 3, .old 4, .op 4 0, .old 6]) (hst.pick [0, 1, 2, 3, 4, 5, 6, 7] rfl) hb Za
             (o_p rfl (Zb rfl rfl u_0) <| o_p rfl (Zbw Zbz rfl rfl u_0) <| o_p rfl (Zhi Ztp (xs := [.tmp 61]) (.cons u_0 .nil) (by decide) rfl rfl) <| o_p rfl (Zft Ztp rfl rfl u_0 u_1 h17) <| o_p rfl (Zc rfl rfl u_0) <| o_n) (by kernel_rfl) (fun a g hst hb => ?_)
           refine Zba ?_
           refine Zr ?_
           refine r_g (T := [⟨[.old 6], _, [], [], [30]⟩, ⟨[.op 0 0], _, [], [0], [31]⟩, ⟨[.op 1 0], _, [], [0, 1], [10]⟩]) (F := [.old 0, .old 1, .old 2, .old 3, .old 4, .old 5, .op 2 0]) hst hb Za
             (o_p rfl (Zb rfl rfl u_0) <| o_p rfl (Zb3 rfl rfl u_0 c_i rfl) <| o_p rfl (Zc rfl rfl u_0) <| o_n) (by kernel_rfl) (fun a g hst hb => ?_)
           exact ⟨n, Nat.lt_succ_self _, x4, x5, r12.1, (x7 ++ ([r12.2] : List Zg)), (IntKind.i64.wrap (x8 + (1 : Int))), g, rfl, (hst.pick [0, 1, 2, 3, 4, 5, 6] rfl), hb, H1⟩
       · replace H1 := Zx hc9 H1
         refine wp_exit ?_
         refine Zb6 ?_
         refine Zb6 ?_
         refine Zco ?_
         exact ⟨x4, x5, x6, x7, g, rfl, (hst.pick [2, 3, 4, 5] rfl), hb, Option.some.inj H1⟩
theorem Znf (a0 : List Z9) (a1 : List Zb0) (a2 : List Int) {r : Bool} (h : Zg7 a0 a1 a2 = some r) : FnOk Tryz.prog 4 [(Zb1.sl.pd a0), (Zcm.sl.pd a1), ((Kd.int .i64).sl.pd a2)] (Zbg r) := by
 have H0 := h
 unfold Zg7 at H0
 clear h
 refine Zbp (N := 83) Tryz.func4 rfl rfl (Nat.le_of_ble_eq_true rfl) rfl rfl (fun a g0 hst hb => ?_)
 refine r_s (T := [⟨[], _, [], [], [6]⟩]) (F := [.old 0, .old 1, .old 2]) hst hb Za
   (o_p rfl (Zc rfl rfl c_b) <| o_n) (by kernel_rfl) (fun a g hst hb => ?_)
 refine wp_seq ?_
 obtain ⟨r1, h2, H0⟩ := Zh H0
 refine r_s (T := [⟨[], _, [], [], [15]⟩, ⟨[.op 0 0], _, [], [0], [16]⟩]) (F := [.old 0, .old 1, .old 2, .op 1 0]) hst hb Za
   (o_p rfl (Zn en_6 (Zpd h2) rfl rfl .nil) <| o_p rfl (Zb7 rfl rfl u_0) <| o_n) (by kernel_rfl) (fun a g hst hb => ?_)
 refine wp_cond_split (hst.bool 3 rfl) (fun hc3 => ?_) (fun hc3 => ?_)
 · replace H0 := Zw hc3 H0
   refine r_s (L := []) (T := [⟨[], _, [], [], [6]⟩]) (F := [.op 0 0]) (hst.pick [] rfl) hb Za
     (o_p rfl (Zc rfl rfl c_b) <| o_n) (by kernel_rfl) (fun a g hst hb => ?_)
   refine wp_ret ?_
   refine Zq ?_
   obtain rfl := Option.some.inj H0
   exact Z1 rfl hst hb (Zk (s := 6)) (hst.at 0 rfl)
 · replace H0 := Zx hc3 H0
   refine wp_skip ?_
   refine Zr ?_
   obtain ⟨r4, h5, H0⟩ := Zh H0
   refine r_s (L := [(0, _), (1, _), (2, _)]) (T := [⟨[.old 0], _, [], [], [18]⟩, ⟨[.op 0 0], _, [], [0], [19]⟩, ⟨[.op 1 0], _, [], [0, 1], [17]⟩, ⟨[.op 2 0], _, [], [0, 1, 2], [20]⟩, ⟨[.op 2 0], _, [], [0, 1, 2], [21]⟩, ⟨[], [(7, (pBox Z0 7 (default : Zo)))], [8], [], [7]⟩, ⟨[.op 3 0, .op 5 0], _, [8], [0, 1, 2, 3, 5], [7]⟩, ⟨[.op 4 0], _, [], Lr 7, [8]⟩]) (F := [.old 1, .old 2, .op 6 0, .op 7 0]) (hst.pick [0, 1, 2] rfl) hb Za
     (o_p rfl (Zb rfl rfl u_0) <| o_p rfl (Zn en_7 (Zpn _ _ h5) rfl rfl (.cons c_i (.cons u_0 .nil))) <| o_p rfl (Zb rfl rfl u_0) <| o_p rfl (Z4 rfl rfl u_0 rfl) <| o_p rfl (Z4 rfl rfl u_0 rfl) <| o_p rfl (Zbd (zs := [.pointer none, .int .i64 0]) (by kernel_rfl) (fun g => Zct g) rfl rfl) <| o_p rfl (Zb5 Zbv rfl rfl u_1 u_0) <| o_p rfl (Zc rfl rfl u_0) <| o_n) (by kernel_rfl) (fun a g hst hb => ?_)
   refine wp_seq ?_
   obtain ⟨r6, h7, H0⟩ := Zh H0
   refine r_s (T := ⟨[.old 3], _, [], [], [22]⟩ :: ⟨[.op 0 0], _, [], [0], [23]⟩ :: ⟨[.op 1 0], _, [], [0, 1], [24]⟩ :: ⟨[.op 2 0, .old 0], _, [], [0, 1, 2], [25]⟩ :: ⟨[.op 2 0, .op 3 0], _, [], Lr 4, [26]⟩ :: ⟨[.op 2 0, .op 4 0], _, [], Lr 5, [27]⟩ :: ⟨[.op 2 0, .op 5 0], _, [], Lr 6, [28]⟩ :: ⟨[.op 6 0], _, [], Lr 7, [29]⟩ :: ⟨[.op 7 0, .old 1], _, [], Lr 8, [30]⟩ :: ⟨[.op 7 0, .op 8 0], _, [], Lr 9, [31]⟩ :: ⟨[.op 7 0, .op 9 0], _, [], Lr 10, [32]⟩ :: ⟨[.op 7 0, .op 10 0], _, [], Lr 11, [33]⟩ :: []) (F := [.old 0, .old 1, .old 2, .old 3, .op 11 0]) hst hb Za
     (o_p rfl (Zb rfl rfl u_0) <| o_p rfl (Zpa Tryz.underlying28 rfl rfl u_0 Z27) <| o_p rfl (Zb rfl rfl u_0) <| o_g (g_f rfl rfl rfl (fun hG => Zb rfl rfl u_0)) <| o_g (g_f rfl rfl rfl (fun hG => Zn en_8 (Zrb _ (Zbm h7 hG)) rfl rfl (.cons (Opd.gd hG u_0) .nil))) <| o_g (g_f rfl rfl rfl (fun hG => Zck rfl rfl (Opd.gd hG u_0) c_i)) <| o_p rfl (Zbt rfl rfl u_0 (fun hz => (Opd.gd (bNF hz) u_1))) <| o_p rfl (Zb rfl rfl u_0) <| o_g (g_f rfl rfl rfl (fun hG => Zb rfl rfl u_0)) <| o_g (g_f rfl rfl rfl (fun hG => Zbu Tryz.underlying42 rfl rfl (Opd.gd hG u_0))) <| o_g (g_f rfl rfl rfl (fun hG => Zck rfl rfl (Opd.gd hG u_0) c_i)) <| o_p rfl (Zbt rfl rfl u_0 (fun hz => (Opd.gd (bNF hz) u_1))) <| o_n) (by kernel_rfl) (fun a g hst hb => ?_)
   refine wp_cond_split (hst.bool 4 rfl) (fun hc8 => ?_) (fun hc8 => ?_)
   · replace H0 := Zw hc8 H0
     refine r_s (L := []) (T := [⟨[], _, [], [], [6]⟩]) (F := [.op 0 0]) (hst.pick [] rfl) hb Za
       (o_p rfl (Zc rfl rfl c_b) <| o_n) (by kernel_rfl) (fun a g hst hb => ?_)
     refine wp_ret ?_
     refine Zq ?_
     obtain rfl := Option.some.inj H0
     exact Z1 rfl hst hb (Zk (s := 6)) (hst.at 0 rfl)
   · replace H0 := Zx hc8 H0
     refine wp_skip ?_
     refine Zr ?_
     obtain ⟨r9, h10, H0⟩ := Zh H0
     refine r_s (L := [(1, _), (2, _), (7, _), (8, _)]) (T := [⟨[.old 2], _, [], [], [35]⟩, ⟨[.old 0], _, [], [], [36]⟩, ⟨[.old 1], _, [], [], [37]⟩, ⟨[.op 0 0, .op 1 0, .op 2 0], _, [], [0, 1, 2], [38]⟩, ⟨[.op 3 0], _, [], Lr 4, [34]⟩, ⟨[.op 4 0], _, [], Lr 5, [39]⟩, ⟨[.op 4 0], _, [], Lr 5, [40]⟩, ⟨[], [(9, (pBox Z0 9 (default : Zo)))], [10], [], [9]⟩, ⟨[.op 5 0, .op 7 0], _, [10], [0, 1, 2, 3, 4, 5, 7], [9]⟩, ⟨[.op 6 0], _, [], Lr 9, [10]⟩]) (F := [.old 0, .old 1, .old 3, .op 8 0, .op 9 0]) (hst.pick [0, 1, 2, 3] rfl) hb Za
       (o_p rfl (Zf Zbv rfl rfl u_0) <| o_p rfl (Zb rfl rfl u_0) <| o_p rfl (Zb rfl rfl u_0) <| o_p rfl (Zn Z9u (Zwe _ _ _ h10) rfl rfl (.cons u_0 (.cons u_1 (.cons u_2 .nil)))) <| o_p rfl (Zb rfl rfl u_0) <| o_p rfl (Z4 rfl rfl u_0 rfl) <| o_p rfl (Z4 rfl rfl u_0 rfl) <| o_p rfl (Zbd (zs := [.pointer none, .int .i64 0]) (by kernel_rfl) (fun g => Zct g) rfl rfl) <| o_p rfl (Zb5 Zbv rfl rfl u_1 u_0) <| o_p rfl (Zc rfl rfl u_0) <| o_n) (by kernel_rfl) (fun a g hst hb => ?_)
     obtain ⟨n11, h12, H0⟩ := Zh H0; obtain ⟨h13, H0⟩ := Zge H0
     refine r_s (T := [⟨[.old 2], _, [], [], [41]⟩, ⟨[.op 0 0], _, [], [0], [42]⟩, ⟨[.op 1 0], _, [], [0, 1], [43]⟩, ⟨[.old 0], _, [], [], [44]⟩, ⟨[.op 3 0], _, [], [3], [45]⟩, ⟨[.op 4 0], [(46, (pArr Zbk 47 46 (List.replicate (Int.toNat (a1.length : Int)) (default : Zt))))], [47], [3, 4], [46]⟩, ⟨[], [(11, (pBox Z6 11 (default : Zj)))], [12], [], [11]⟩, ⟨[.op 2 0, .op 6 0], _, [12], [0, 1, 2, 6], [11]⟩, ⟨[.op 5 0], _, [], Lr 8, [12]⟩]) (F := [.old 0, .old 1, .old 3, .old 4, .op 7 0, .op 8 0]) hst hb Za
       (o_p rfl (Zb rfl rfl u_0) <| o_p rfl (Zu rfl rfl (Opd.imp u_0 (fun _ _ h => Z3m h12 h)) (fun _ _ ⟨_, _, _, e, _⟩ => ⟨_, e⟩)) <| o_p rfl (Zf Zcl rfl rfl u_0) <| o_p rfl (Zb rfl rfl u_0) <| o_p rfl (Zbu Tryz.underlying23 rfl rfl u_0) <| o_p rfl (Zz1 (zs := [.int .i64 0, .int .i64 0, .slice none 0 0]) (zv := (default : Zt)) Zwz (by kernel_rfl) (fun g => Zkd g) (by decide) rfl rfl (Opd.to u_0 (congrArg (pInt .i64) (Int.toNat_of_nonneg h13.1).symm)) (Opd.to u_0 (congrArg (pInt .i64) (Int.toNat_of_nonneg h13.1).symm)) h13.2 (Nat.le_trans (Nat.le_mul_of_pos_right _ (by decide)) h13.2)) <| o_p rfl (Zbd (zs := [.slice none 0 0, .int .i64 0]) (by kernel_rfl) (fun g => Zez g) rfl rfl) <| o_p rfl (Zz Zcl rfl rfl u_1 u_0) <| o_p rfl (Zc rfl rfl u_0) <| o_n) (by kernel_rfl) (fun a g hst hb => ?_)
     refine wp_seq ?_
     refine r_s (T := [⟨[.old 1], _, [], [], [47]⟩, ⟨[.op 0 0], _, [], [0], [48]⟩, ⟨[], _, [], [], [49]⟩]) (F := [.old 0, .old 2, .old 3, .old 4, .old 5, .op 0 0, .op 1 0, .op 2 0]) hst hb Za
       (o_p rfl (Zb rfl rfl u_0) <| o_p rfl (Zbu Tryz.underlying42 rfl rfl u_0) <| o_p rfl (Zb rfl rfl c_i) <| o_n) (by kernel_rfl) (fun a g hst hb => ?_)
     obtain ⟨z31, hz1, H0⟩ := Zh H0
     refine Zb8 (fun a w => ∃ (y29 : Zj) (y30 : List Zt) (g : G), w = g.w ∧ St 83 [(9, (Z0.ptr r9.1)), (10, (Zbk.sl.pd r9.2)), (11, (pBox Z6 11 y29)), (12, (pArr Zbk 47 46 y30))] a g ∧ Base g0 g ∧ (y29, y30) = z31) ?_ ?_
     · rintro a w ⟨y29, y30, g, rfl, hst, hb, rfl⟩
       refine Zr ?_
       obtain ⟨r32, h33, H0⟩ := Zh H0; obtain ⟨r34, h35, H0⟩ := Zh H0
       refine r_s (T := [⟨[.old 0], _, [], [], [74]⟩, ⟨[.old 2], _, [], [], [75]⟩, ⟨[.op 0 0, .op 1 0], _, [], [0, 1], [76]⟩, ⟨[.op 2 0], _, [], [0, 1, 2], [77]⟩, ⟨[.op 3 0], _, [], Lr 4, [78]⟩, ⟨[.op 4 0, .old 1], _, [], Lr 5, [79]⟩, ⟨[.op 4 0, .old 3], _, [47], Lr 5, [12, 80]⟩, ⟨[.op 4 0, .op 5 0, .op 6 0], _, [], Lr 7, [81]⟩, ⟨[.op 4 0, .op 7 0], _, [], Lr 8, [82]⟩, ⟨[.op 8 0], _, [], Lr 9, [6]⟩]) (F := [.op 9 0]) hst hb Za
         (o_p rfl (Zf Zbv rfl rfl u_0) <| o_p rfl (Zbw Zcl rfl rfl u_0) <| o_p rfl (Zn Z83 (Zsc _ _ h33) rfl rfl (.cons u_0 (.cons u_1 .nil))) <| o_p rfl (Zbl rfl rfl u_0 c_i) <| o_p rfl (Zb rfl rfl u_0) <| o_g (g_t rfl rfl rfl (fun hG => Zb rfl rfl u_0)) <| o_g (g_t rfl rfl rfl (fun hG => Zxg (.inl rfl) rfl u_0)) <| o_g (g_t rfl rfl rfl (fun hG => Zn Z9y (Zpu _ _ (Zbm h35 hG)) rfl rfl (.cons (Opd.gd hG u_0) (.cons (Opd.gd hG u_1) .nil)))) <| o_p rfl (Zbc rfl rfl u_0 (fun hz => (Opd.gd hz u_1))) <| o_p rfl (Zc rfl rfl u_0) <| o_n) (by kernel_rfl) (fun a g hst hb => ?_)
       refine wp_ret ?_
       obtain rfl := Option.some.inj H0
       exact Z1 rfl hst hb (Zk (s := 6)) (hst.at 0 rfl)
     · refine wp_block ?_
       refine wp_loop_ghost (fun n a w => ∃ (x14 : Zj) (x15 : List Zt) (x16 : Int) (g : G), w = g.w ∧ St 83 [(1, (Zcm.sl.pd a1)), (9, (Z0.ptr r9.1)), (10, (Zbk.sl.pd r9.2)), (11, (pBox Z6 11 x14)), (12, (pArr Zbk 47 46 x15)), (47, ((Kd.int .i64).sl.pd a2)), (48, (pInt .i64 (a2.length : Int))), (49, (pInt .i64 x16))] a g ∧ Base g0 g ∧ Zcp a1 a2 n x14 x15 x16 = some z31) (Int.toNat ((a2.length : Int) - (0 : Int)) + 1) ⟨n11, (List.replicate (Int.toNat (a1.length : Int)) (default : Zt)), (0 : Int), g, rfl, (hst.pick [0, 1, 2, 3, 4, 5, 6, 7] rfl), hb, hz1⟩ (fun n a w hI => ?_)
       obtain ⟨x14, x15, x16, g, rfl, hst, hb, H1⟩ := hI
       cases n with
       | zero => exact absurd H1 (by simp [Zcp])
       | succ n =>
         rw [Zcp] at H1
         refine r_s (T := [⟨[.old 7, .old 6], _, [], [], [50]⟩]) (F := [.old 0, .old 1, .old 2, .old 3, .old 4, .old 5, .old 6, .old 7, .op 0 0]) hst hb Za
           (o_p rfl (Zcc rfl rfl u_0 u_1) <| o_n) (by kernel_rfl) (fun a g hst hb => ?_)
         refine wp_seq ?_
         refine wp_cond_split (hst.bool 8 rfl) (fun hc17 => ?_) (fun hc17 => ?_)
         · replace H1 := Zw hc17 H1
           refine wp_skip ?_
           refine Zr ?_
           refine wp_seq ?_
           refine Zb8 (fun a w => ∃ (j27 : Zj) (j28 : List Zt) (g : G), w = g.w ∧ St 83 [(1, (Zcm.sl.pd a1)), (9, (Z0.ptr r9.1)), (10, (Zbk.sl.pd r9.2)), (11, (pBox Z6 11 j27)), (12, (pArr Zbk 47 46 j28)), (47, ((Kd.int .i64).sl.pd a2)), (48, (pInt .i64 (a2.length : Int))), (49, (pInt .i64 x16))] a g ∧ Base g0 g ∧ Zed x16 (Zcp a1 a2 n) j27 j28 = some z31) ?_ ?_
           · rintro a w ⟨j27, j28, g, rfl, hst, hb, H1⟩
             unfold Zed at H1
             refine Zr ?_
             refine r_g (T := [⟨[.old 7], _, [], [], [73]⟩, ⟨[.op 0 0], _, [], [0], [49]⟩]) (F := [.old 0, .old 1, .old 2, .old 3, .old 4, .old 5, .old 6, .op 1 0]) hst hb Za
               (o_p rfl (Zb3 rfl rfl u_0 c_i rfl) <| o_p rfl (Zb rfl rfl u_0) <| o_n) (by kernel_rfl) (fun a g hst hb => ?_)
             exact ⟨n, Nat.lt_succ_self _, j27, j28, (IntKind.i64.wrap (x16 + (1 : Int))), g, rfl, (hst.pick [0, 1, 2, 3, 4, 5, 6, 7] rfl), hb, H1⟩
           · refine wp_block ?_
             obtain ⟨e18, h19, H1⟩ := Zh H1
             refine r_s (L := [(1, _), (9, _), (10, _), (11, _), (12, _), (47, _), (48, _), (49, _)]) (T := [⟨[.old 5, .old 7], _, [], [], [51]⟩, ⟨[.op 0 0], _, [], [0], [52]⟩, ⟨[.op 1 0], _, [], [0, 1], [14]⟩]) (F := [.old 0, .old 1, .old 2, .old 3, .old 4, .op 2 0, .old 5, .old 6, .old 7]) (hst.pick [0, 1, 2, 3, 4, 5, 6, 7] rfl) hb Za
               (o_p rfl (Zbf Tryz.underlying42 sz_3 rfl rfl u_0 u_1 h19) <| o_p rfl (Zf ty_3 rfl rfl u_0) <| o_p rfl (Zc rfl rfl u_0) <| o_n) (by kernel_rfl) (fun a g hst hb => ?_)
             refine r_s (T := [⟨[.old 5], _, [], [], [53]⟩, ⟨[.op 0 0], _, [], [0], [54]⟩, ⟨[.op 1 0], _, [], [0, 1], [55]⟩, ⟨[.op 2 0, .old 5], _, [], [0, 1, 2], [56]⟩, ⟨[.op 2 0, .old 0], _, [], [0, 1, 2], [57]⟩, ⟨[.op 2 0, .op 4 0], _, [], [0, 1, 2, 4], [58]⟩, ⟨[.op 2 0, .op 3 0, .op 5 0], _, [], Lr 6, [59]⟩, ⟨[.op 2 0, .op 6 0], _, [], Lr 7, [60]⟩]) (F := [.old 0, .old 1, .old 2, .old 3, .old 4, .old 5, .old 6, .old 7, .old 8, .op 7 0]) hst hb Za
               (o_p rfl (Zb rfl rfl u_0) <| o_p rfl (Zk4 rfl rfl u_0 c_i) <| o_p rfl (Zb rfl rfl u_0) <| o_g (g_t rfl rfl rfl (fun hG => Zb rfl rfl u_0)) <| o_g (g_t rfl rfl rfl (fun hG => Zb rfl rfl u_0)) <| o_g (g_t rfl rfl rfl (fun hG => Zbu Tryz.underlying23 rfl rfl (Opd.gd hG u_0))) <| o_g (g_t rfl rfl rfl (fun hG => Zcc rfl rfl (Opd.gd hG u_0) (Opd.gd hG u_1))) <| o_p rfl (Zbc rfl rfl u_0 (fun hz => (Opd.gd hz u_1))) <| o_n) (by kernel_rfl) (fun a g hst hb => ?_)
             refine wp_cond_split (hst.bool 9 rfl) (fun hc20 => ?_) (fun hc20 => ?_)
             · replace H1 := Zw hc20 H1
               obtain ⟨e21, h22, H1⟩ := Zh H1; obtain ⟨r23, h24, H1⟩ := Zh H1; obtain ⟨e25, h26, H1⟩ := Zh H1
               refine r_g (L := [(1, _), (9, _), (10, _), (11, _), (12, _), (14, _), (47, _), (48, _), (49, _)]) (T := ⟨[.old 4], _, [], [], [62]⟩ :: ⟨[.old 5], _, [], [], [63]⟩ :: ⟨[.old 3], _, [], [], [64]⟩ :: ⟨[.old 0], _, [], [], [65]⟩ :: ⟨[.old 5], _, [], [], [66]⟩ :: ⟨[.op 3 0, .op 4 0], _, [], [3, 4], [67]⟩ :: ⟨[.op 5 0], _, [], [3, 4, 5], [68]⟩ :: ⟨[.op 2 0, .op 6 0], _, [], List.range' 2 5, [69]⟩ :: ⟨[.op 7 0], _, [], List.range' 2 6, [61]⟩ :: ⟨[.op 8 0], _, [], List.range' 2 7, [70]⟩ :: ⟨[.op 8 0], _, [], List.range' 2 7, [71]⟩ :: ⟨[.op 9 0, .old 3], _, [12], List.range' 2 8, [11]⟩ :: ⟨[.op 0 0, .op 1 0], _, [], Lr 12, [72]⟩ :: ⟨[.op 10 0, .op 12 0, .old 4], _, [47], Lr 13, [12, 62, 72]⟩ :: []) (F := [.old 0, .old 1, .old 2, .op 11 0, .op 13 0, .old 6, .old 7, .old 8]) (hst.pick [0, 1, 2, 3, 4, 5, 6, 7, 8] rfl) hb Za
                 (o_p rfl (Zb rfl rfl u_0) <| o_p rfl (Zb rfl rfl u_0) <| o_p rfl (Zbw Zcl rfl rfl u_0) <| o_p rfl (Zb rfl rfl u_0) <| o_p rfl (Zb rfl rfl u_0) <| o_p rfl (Zbf Tryz.underlying23 Zwn rfl rfl u_0 u_1 h22) <| o_p rfl (Zf Zmw rfl rfl u_0) <| o_p rfl (Zn Z81 (Zq5 _ _ h24) rfl rfl (.cons u_0 (.cons u_1 .nil))) <| o_p rfl (Zb rfl rfl u_0) <| o_p rfl (Z4 rfl rfl u_0 rfl) <| o_p rfl (Z4 rfl rfl u_0 rfl) <| o_p rfl (Zz Zcl rfl rfl u_1 u_0) <| o_p rfl (Zvz Tryz.underlying32 Zp0 rfl rfl u_0 u_1 h26) <| o_p rfl (Zsy (u := e25) Zhc rfl rfl u_2 u_1 u_0 (Z0c h26) (by decide)) <| o_n) (by kernel_rfl) (fun a g hst hb => ?_)
               refine Zba ?_
               exact ⟨r23.1, (x15.set (Int.toNat e18) r23.2), g, rfl, (hst.pick [0, 1, 2, 3, 4, 5, 6, 7] rfl), hb, H1⟩
             · replace H1 := Zx hc20 H1
               refine wp_skip ?_
               refine Zba ?_
               exact ⟨x14, x15, g, rfl, (hst.pick [0, 1, 2, 3, 4, 6, 7, 8] rfl), hb, H1⟩
         · replace H1 := Zx hc17 H1
           refine wp_exit ?_
           refine Zb6 ?_
           refine Zb6 ?_
           refine Zco ?_
           exact ⟨x14, x15, g, rfl, (hst.pick [1, 2, 3, 4] rfl), hb, Option.some.inj H1⟩
end Go.CL
namespace Go.CL
open Go
def NANB : Nat := 9221120237041090561
def keyf (b : Nat) : Int := if isn b then 18444492273895866369 else if TOP ≤ b then 18446744073709551615 - b else b + 9223372036854775808
def Zcd (b : Nat) : Nat := if isn b then NANB else b
theorem Zvj {b : Nat} (hb : b < 18446744073709551616) : fneq b b = decide (isn b) := by
 unfold fneq
 show (Ieee.double.order b b != some .eq) = _
 by_cases h : isn b
 · rw [Zv1 (.inl h)]; simp [h]
 · obtain ⟨o, ho, _, he⟩ := Zp4 hb hb h h
   rw [ho, he.2 rfl]; simp [h]
theorem Zje {b : Nat} (hb : b < 18446744073709551616) : Zfx b = some (Zcd b) := by
 unfold Zfx Zcd
 rw [Zvj hb]
 by_cases h : isn b
 · simp [h, Zp8, NANB]
 · simp [h]
theorem Z6x {b : Nat} (hb : b < 18446744073709551616) : (bAnd .u64 (b : Int) 9223372036854775808 != 0) = decide (TOP ≤ b) := by
 have h1 : (BitVec.ofInt 64 (b : Int) &&& BitVec.ofInt 64 9223372036854775808).toNat = b &&& 9223372036854775808 := by
   rw [BitVec.toNat_and]
   have e1 : (BitVec.ofInt 64 (b : Int)).toNat = b := by
     rw [show BitVec.ofInt 64 (b : Int) = BitVec.ofNat 64 b from rfl]
     simp; omega
   rw [e1]; rfl
 have h2 : b &&& 9223372036854775808 = (b.testBit 63).toNat * 9223372036854775808 := by
   apply Nat.eq_of_testBit_eq
   intro i
   rw [Nat.testBit_and, show (9223372036854775808 : Nat) = 2 ^ 63 from rfl, Nat.testBit_two_pow]
   by_cases hi : 63 = i
   · subst hi
     cases b.testBit 63
     · simp
     · rw [Bool.toNat_true, Nat.one_mul, Nat.testBit_two_pow]; simp
   · cases b.testBit 63
     · simp [hi]
     · rw [Bool.toNat_true, Nat.one_mul, Nat.testBit_two_pow]; simp [hi]
 have h3 : b.testBit 63 = decide (TOP ≤ b) := by
   rw [Nat.testBit_eq_decide_div_mod_eq]
   unfold TOP
   by_cases h : 9223372036854775808 ≤ b
   · have : b / 2 ^ 63 % 2 = 1 := by omega
     simp [this, h]
   · have : b / 2 ^ 63 % 2 = 0 := by omega
     simp [this, h]
 unfold bAnd
 show (IntKind.wrap .u64 ((BitVec.ofInt 64 (b : Int) &&& BitVec.ofInt 64 9223372036854775808).toNat : Int) != 0) = _
 rw [h1, h2, h3]
 by_cases h : TOP ≤ b
 · simp only [h, decide_true, Bool.toNat_true, Nat.one_mul]
   rfl
 · simp only [h, decide_false, Bool.toNat_false, Nat.zero_mul]
   rfl
theorem Z6v {b : Nat} (hb : b < 18446744073709551616) : bXor .u64 IntKind.u64.max (b : Int) = 18446744073709551615 - b := by
 have h1 : (BitVec.ofInt 64 18446744073709551615 ^^^ BitVec.ofInt 64 (b : Int)).toNat = 18446744073709551615 - b := by
   have e1 : BitVec.ofInt 64 18446744073709551615 = BitVec.allOnes 64 := by decide
   rw [e1, BitVec.allOnes_xor, BitVec.toNat_not]
   have e2 : (BitVec.ofInt 64 (b : Int)).toNat = b := by
     rw [show BitVec.ofInt 64 (b : Int) = BitVec.ofNat 64 b from rfl]
     simp; omega
   rw [e2]
 unfold bXor
 show IntKind.wrap .u64 ((BitVec.ofInt 64 18446744073709551615 ^^^ BitVec.ofInt 64 (b : Int)).toNat : Int) = _
 rw [h1]
 simp [IntKind.wrap, IntKind.signed, IntKind.bits]
 omega
theorem Z8d {b : Nat} (hb : b < 9223372036854775808) : bOr .u64 (b : Int) 9223372036854775808 = b + 9223372036854775808 := by
 have h1 : (BitVec.ofInt 64 (b : Int) ||| BitVec.ofInt 64 9223372036854775808).toNat = b + 9223372036854775808 := by
   rw [BitVec.toNat_or]
   have e1 : (BitVec.ofInt 64 (b : Int)).toNat = b := by
     rw [show BitVec.ofInt 64 (b : Int) = BitVec.ofNat 64 b from rfl]
     simp; omega
   rw [e1, show (BitVec.ofInt 64 9223372036854775808).toNat = 2 ^ 63 * 1 from rfl, Nat.or_comm]
   rw [← Nat.two_pow_add_eq_or_of_lt (by simpa using hb)]
   omega
 unfold bOr
 show IntKind.wrap .u64 ((BitVec.ofInt 64 (b : Int) ||| BitVec.ofInt 64 9223372036854775808).toNat : Int) = _
 rw [h1]
 simp [IntKind.wrap, IntKind.signed, IntKind.bits]
 omega
theorem Ztg {b : Nat} (hb : b < 18446744073709551616) : Zcd b < 18446744073709551616 := by
 unfold Zcd NANB; split <;> omega
theorem Zug {b : Nat} (hb : b < 18446744073709551616) : Zls b = some (keyf b) := by
 unfold Zls
 rw [Zje hb]
 simp only [Option.bind_some]
 rw [Z6x (Ztg hb)]
 unfold keyf Zcd
 by_cases h : isn b
 · simp only [h, if_true]
   rfl
 · simp only [h, if_false]
   by_cases ht : TOP ≤ b
   · simp only [ht, decide_true, if_true]
     rw [Z6v hb]
   · simp only [ht, decide_false, if_false, Bool.false_eq_true]
     rw [Z8d (by unfold TOP at ht; omega)]
theorem Znn {a b : Nat} (ha : a < 18446744073709551616) (hb : b < 18446744073709551616) : Zjd a b = some (decide (keyf a = keyf b)) := by
 unfold Zjd
 rw [Zug ha, Zug hb]
 simp [BEq.beq]
theorem Zuq {a b : Nat} (ha : a < 18446744073709551616) (hb : b < 18446744073709551616) : Zln a b = some (decide (keyf a < keyf b)) := by
 unfold Zln
 rw [Zug ha, Zug hb]
 simp
theorem Zri {a : Nat} (ha : a < 18446744073709551616) : Zj6 a = some (decide (a = Zcd a)) := by
 unfold Zj6
 rw [Zje ha]
 congr 1
 by_cases h : a = Zcd a
 · simp [← h]
 · have : (a : Int) ≠ (Zcd a : Int) := by omega
   simp [h, this]
theorem Zzr {a b : Nat} (ha : a < 18446744073709551616) (hb : b < 18446744073709551616) (na : ¬ isn a) (nb : ¬ isn b) : keyf a < keyf b ↔ (sg a < sg b ∨ (a = TOP ∧ b = 0)) := by
 unfold keyf
 rw [if_neg na, if_neg nb]
 unfold sg isn rg INF TOP at *
 split <;> split <;> omega
theorem Zzs {a b : Nat} (ha : a < 18446744073709551616) (hb : b < 18446744073709551616) (na : ¬ isn a) (nb : ¬ isn b) : feql a b = decide (sg a = sg b) := by
 unfold feql
 show (Ieee.double.order a b == some .eq) = _
 obtain ⟨o, ho, _, he⟩ := Zp4 ha hb na nb
 rw [ho]
 by_cases h : sg a = sg b
 · rw [he.2 h]; simp [h]
 · have : o ≠ .eq := fun h' => h (he.1 h')
   simp [h, this]
theorem Z6u {a b : Nat} (ha : a < 18446744073709551616) (hb : b < 18446744073709551616) (na : ¬ isn a) (nb : ¬ isn b) : flss a b = decide (sg a < sg b) := by
 unfold flss
 show (Ieee.double.order a b == some .lt) = _
 obtain ⟨o, ho, hl, _⟩ := Zp4 ha hb na nb
 rw [ho]
 by_cases h : sg a < sg b
 · rw [hl.2 h]; simp [h]
 · have : o ≠ .lt := fun h' => h (hl.1 h')
   simp [h, this]
theorem Z73 : Zgt 0 = some false := by kernel_rfl
theorem Z79 : Zgt TOP = some true := by kernel_rfl
theorem nan0 : ¬ isn 0 := by decide
theorem Zzi {a : Nat} (ha : a < 18446744073709551616) : sg a = sg 0 ↔ a = 0 ∨ a = TOP := by
 unfold sg TOP
 split <;> simp <;> omega
theorem Zp7 {a : Nat} (ha : a < 18446744073709551616) : Zeb a = some (decide (isn a)) := by
 unfold Zeb; rw [Zvj ha]
theorem Znz {a b : Nat} (ha : a < 18446744073709551616) (hb : b < 18446744073709551616) : Ze1 a b = some (decide (keyf a < keyf b)) := by
 unfold Ze1
 rw [Zp7 ha, Zp7 hb]
 simp only [Option.bind_some]
 have kb : ∀ x, x < 18446744073709551616 → ¬ isn x → keyf x < 18444492273895866369 := by
   intro x hx nx
   unfold keyf
   rw [if_neg nx]
   unfold isn rg INF TOP at *
   split <;> omega
 have kn : ∀ x, isn x → keyf x = 18444492273895866369 := fun x h => by unfold keyf; rw [if_pos h]
 by_cases na : isn a
 · simp only [na, decide_true, if_true]
   by_cases nb : isn b
   · rw [kn a na, kn b nb]; simp
   · have := kb b hb nb
     rw [kn a na]; simp; omega
 · simp only [na, decide_false, Bool.false_eq_true, if_false]
   by_cases nb : isn b
   · have := kb a ha na
     rw [kn b nb]; simp [nb, this]
   · simp only [nb, decide_false, Bool.false_eq_true, if_false]
     rw [Zzs ha (by decide) na nan0, Zzs hb (by decide) nb nan0, Z6u ha hb na nb]
     by_cases hz : sg a = sg 0 ∧ sg b = sg 0
     · rw [if_pos (by simp [hz])]
       have hk := Zzr ha hb na nb
       have h0T : (0 : Nat) ≠ TOP := by decide
       rcases (Zzi ha).1 hz.1 with rfl | rfl <;> rcases (Zzi hb).1 hz.2 with rfl | rfl <;> simp only [Z73, Z79, gd, Option.bind_some, if_true, if_false, Bool.false_eq_true, Option.some.injEq] <;> decide
     · rw [if_neg (by simpa using hz)]
       have hk := Zzr ha hb na nb
       congr 1
       apply decide_eq_decide.2
       rw [hk]
       constructor
       · intro h; exact .inl h
       · rintro (h | ⟨rfl, rfl⟩)
         · exact h
         · exact absurd ⟨rfl, rfl⟩ hz
theorem Zmq {a b : Nat} (ha : a < 18446744073709551616) (hb : b < 18446744073709551616) : Zdn a b = some (decide (keyf a = keyf b)) := by
 unfold Zdn
 rw [Znz ha hb, Znz hb ha]
 simp only [Option.bind_some, gd]
 by_cases h1 : keyf a < keyf b
 · have : keyf a ≠ keyf b := by omega
   simp [h1, this]
 · by_cases h2 : keyf b < keyf a
   · have : keyf a ≠ keyf b := by omega
     simp [h1, h2, this]
   · have : keyf a = keyf b := by omega
     simp [this]
theorem Zpq {a : Nat} (ha : a < 18446744073709551616) : Zfd a = some (decide (a = Zcd a)) := by
 unfold Zfd
 rw [Zp7 ha]
 unfold Zcd NANB
 by_cases h : isn a
 · by_cases h2 : a = 9221120237041090561
   · simp [h, h2]
   · have : (a : Int) ≠ 9221120237041090561 := by omega
     simp [h, h2, this]
 · simp [h]
theorem wr {x : Int} (h1 : -9223372036854775808 ≤ x) (h2 : x ≤ 9223372036854775807) : IntKind.i64.wrap x = x := by
 rw [IntKind.wrap_i64]; omega
theorem wr1 {i : Nat} (h : i < 9223372036854775807) : IntKind.i64.wrap ((i : Int) + 1) = ((i + 1 : Nat) : Int) := by
 rw [wr (by omega) (by omega)]; omega
theorem Z80 (n : Int) : IntKind.u64.wrap n = n % 18446744073709551616 := by simp [IntKind.wrap, IntKind.bits, IntKind.signed]
theorem wru {x : Int} (h1 : 0 ≤ x) (h2 : x < 18446744073709551616) : IntKind.u64.wrap x = x := by rw [Z80]; omega
theorem wrm {i : Nat} (h : i < 9223372036854775807) (h0 : 0 < i) : IntKind.i64.wrap ((i : Int) - 1) = ((i - 1 : Nat) : Int) := by
 rw [wr (by omega) (by omega)]; omega
theorem idxn {α : Type} (xs : List α) (i : Nat) : idx xs (i : Int) = xs[i]? := by
 unfold idx
 rw [if_pos (by omega)]
 simp
theorem Zc8 {α : Type} {xs : List α} {i : Nat} (h : i < xs.length) : idx xs (i : Int) = some xs[i] := by
 rw [idxn, List.getElem?_eq_getElem h]
theorem gd_t {β : Type} [Inhabited β] (x : Option β) : gd true x = x := rfl
theorem gd_f {β : Type} [Inhabited β] (x : Option β) : gd false x = some default := rfl
theorem Zmk {α : Type} {xs : List α} {l h : Nat} (h1 : l ≤ h) (h2 : h ≤ xs.length) : cut xs (l : Int) (h : Int) = some ((xs.drop l).take (h - l)) := by
 unfold cut
 rw [if_pos (by omega)]
 simp
theorem Zt2 {a b : ByteArray} (h : a.toList = b.toList) : a = b := by
 rw [_root_.Go.ByteArray.toList_eq, _root_.Go.ByteArray.toList_eq] at h
 exact ByteArray.ext (Array.toList_inj.1 h)
theorem Zid {a b : ByteArray} : sEq a b = true ↔ a = b := by
 unfold sEq
 constructor
 · intro h; exact Zt2 (by simpa using h)
 · rintro rfl; simp
theorem Ze7 (a : ByteArray) : sEq a a = true := Zid.2 rfl
theorem Zep {a b : ByteArray} : sEq a b = false ↔ a ≠ b := by
 cases h : sEq a b
 · simp; intro e; rw [Zid.2 e] at h; cases h
 · simp; exact Zid.1 h
theorem Z11 : ∀ l : List UInt8, Op.bytesLess l l = false
 | [] => rfl
 | x :: l => by simp [Op.bytesLess, Z11 l]
theorem Zxw : ∀ {a b c : List UInt8}, Op.bytesLess a b = true → Op.bytesLess b c = true → Op.bytesLess a c = true
 | [], [], c, h, _ => by simp [Op.bytesLess] at h
 | [], y :: b, [], _, k => by simp [Op.bytesLess] at k
 | [], y :: b, z :: c, _, _ => rfl
 | x :: a, [], c, h, _ => by simp [Op.bytesLess] at h
 | x :: a, y :: b, [], _, k => by simp [Op.bytesLess] at k
 | x :: a, y :: b, z :: c, h, k => by
   simp only [Op.bytesLess, Bool.or_eq_true, Bool.and_eq_true, decide_eq_true_eq, beq_iff_eq] at h k ⊢
   rcases h with h | ⟨h1, h2⟩ <;> rcases k with k | ⟨k1, k2⟩
   · exact .inl (UInt8.lt_trans h k)
   · subst k1; exact .inl h
   · subst h1; exact .inl k
   · subst h1; subst k1; exact .inr ⟨rfl, Zxw h2 k2⟩
theorem Z3d : ∀ (a b : List UInt8), Op.bytesLess a b = false → a ≠ b → Op.bytesLess b a = true
 | [], [], _, h => absurd rfl h
 | [], y :: b, h, _ => by simp [Op.bytesLess] at h
 | x :: a, [], _, _ => rfl
 | x :: a, y :: b, h, hn => by
   simp only [Op.bytesLess, Bool.or_eq_false_iff, decide_eq_false_iff_not, Bool.and_eq_false_iff] at h
   simp only [Op.bytesLess, Bool.or_eq_true, Bool.and_eq_true, decide_eq_true_eq, beq_iff_eq]
   by_cases e : x = y
   · subst e
     right
     refine ⟨rfl, Z3d a b ?_ (fun h' => hn (by rw [h']))⟩
     rcases h.2 with h | h
     · simp at h
     · exact h
   · left
     rcases UInt8.lt_or_lt_of_ne e with h' | h'
     · exact absurd h' h.1
     · exact h'
theorem Zlu (a : ByteArray) : sLt a a = false := Z11 _
theorem Zgg {a b c : ByteArray} (h : sLt a b = true) (k : sLt b c = true) : sLt a c = true := Zxw h k
theorem Zms {a b : ByteArray} (h : sLt a b = false) (hn : a ≠ b) : sLt b a = true := Z3d _ _ h (fun e => hn (Zt2 e))
theorem Zti {a b : ByteArray} (h : sLt a b = true) : sLt b a = false := by
 cases k : sLt b a
 · rfl
 · have := Zgg h k
   rw [Zlu] at this; cases this
theorem Zl1 {a b : ByteArray} (h : sLt a b = true) : a ≠ b := fun e => by subst e; rw [Zlu] at h; cases h
abbrev W64 : Nat := 18446744073709551616
structure Zh7 (a : Ze) : Prop where
 real : a.Real < W64
 len : a.List.length < 4611686018427387904
 sc : ∀ e ∈ a.List, e.Score < W64
def Zdh (a b : Zl) : Bool := if keyf a.Score = keyf b.Score then sLt a.Name b.Name else decide (keyf b.Score < keyf a.Score)
theorem Zof {a b : Zl} (ha : a.Score < W64) (hb : b.Score < W64) : Zj4 a b = some (Zdh a b) := by
 unfold Zj4 Zdh
 rw [Znn ha hb, Zuq hb ha]
 by_cases h : keyf a.Score = keyf b.Score <;> simp [h]
theorem Zx1 {a b : Zl} (ha : a.Score < W64) (hb : b.Score < W64) : Zfr a b = some (Zdh a b) := by
 unfold Zfr Zdh
 rw [Znz hb ha, Zmq ha hb]
 by_cases h : keyf a.Score = keyf b.Score
 · simp [h]
 · by_cases h2 : keyf b.Score < keyf a.Score <;> simp [h, h2]
theorem Zz2 {a : Nat} (ha : a < W64) : Zg2 a = some (decide (keyf a = keyf 0)) := by
 unfold Zg2
 rw [Zmq ha (by decide)]
 rfl
def Zhn (k : Int) (l : List Zl) (i : Nat) : Int :=
 match l[i]? with
 | none => 0
 | some x =>
   let p := (l[i - 1]?).getD default
   if (16 : Int) < x.Name.size then 3
   else if (k = 8 ∧ keyf x.Score ≠ keyf 0) ∨ x.Score ≠ Zcd x.Score then 4
   else if 0 < i ∧ k = 8 ∧ sLt p.Name x.Name = false then 4
   else if 0 < i ∧ k = 9 ∧ Zdh p x = false then 4
   else 0
theorem Z23 {k : Int} {l : List Zl} {i n : Nat} (hi : i < l.length) (hl : l.length < 4611686018427387904) (hs : ∀ e ∈ l, e.Score < W64) :
   Zf3 k l (n + 1) (i : Int) = if Zhn k l i = 0 then Zf3 k l n ((i + 1 : Nat) : Int) else some (.inl (Zhn k l i)) := by
 have hx : l[i].Score < W64 := hs _ (List.getElem_mem hi)
 rw [Zf3, if_pos (by simp; omega), Zc8 hi, wr1 (by omega)]
 simp only [Option.bind_some]
 rw [Znn hx (by decide), Zri hx]
 simp only [Zhn, List.getElem?_eq_getElem hi]
 by_cases h1 : (16 : Int) < l[i].Name.size
 · simp [h1]
 · simp only [h1, decide_false, if_false, Bool.false_eq_true]
   have hz : ((0 : Nat) : Int) = 0 := rfl
   by_cases h0 : 0 < i
   · have hp : i - 1 < l.length := by omega
     have hps : l[i - 1].Score < W64 := hs _ (List.getElem_mem hp)
     have hd : (decide ((0 : Int) < (i : Int))) = true := by simp; omega
     rw [hd, wrm (by omega) h0, Zc8 hp]
     simp only [List.getElem?_eq_getElem hp, Option.getD_some, h0, true_and, Bool.true_and]
     by_cases h8 : k = 8
     · subst h8
       simp only [beq_self_eq_true, gd_t, Option.bind_some, true_and, Bool.true_and]
       by_cases hk : keyf l[i].Score = keyf 0
       · by_cases hc : l[i].Score = Zcd l[i].Score
         · simp [hk, ← hc, gd]
           cases sLt l[i - 1].Name l[i].Name <;> simp
         · simp [hk, hc, gd]
       · simp [hk, gd]
     · have h8' : (k == 8) = false := by simpa using h8
       simp only [h8', h8, gd_f, gd_t, Option.bind_some, false_and, false_or, Bool.false_and, Bool.not_false, Bool.false_or]
       by_cases hc : l[i].Score = Zcd l[i].Score
       · by_cases h9 : k = 9
         · subst h9
           simp [← hc, gd, Zof hps hx]
           cases Zdh l[i - 1] l[i] <;> simp
         · simp [← hc, gd, h9]
       · simp [hc]
   · have h00 : i = 0 := by omega
     subst h00
     simp only [Nat.lt_irrefl, false_and, if_false, Int.ofNat_zero, Int.lt_irrefl, decide_false, Bool.false_and, gd_f, Option.bind_some, Int.natCast_zero]
     by_cases h8 : k = 8
     · subst h8
       simp only [beq_self_eq_true, gd_t, Option.bind_some, true_and, Bool.true_and]
       by_cases hk : keyf l[0].Score = keyf 0
       · by_cases hc : l[0].Score = Zcd l[0].Score
         · simp [hk, ← hc, gd]
         · simp [hk, hc, gd]
       · simp [hk, gd]
     · have h8' : (k == 8) = false := by simpa using h8
       simp only [h8', h8, gd_f, gd_t, Option.bind_some, false_and, false_or, Bool.false_and, Bool.not_false, Bool.false_or]
       by_cases hc : l[0].Score = Zcd l[0].Score
       · simp [← hc, gd]
       · simp [hc]
theorem Z3k {k : Int} {l : List Zl} {i : Nat} (hi : i < l.length) (hl : l.length < 4611686018427387904) (hs : ∀ e ∈ l, e.Score < W64) : Zii k l (i : Int) = some (Zhn k l i) := by
 have hx : l[i].Score < W64 := hs _ (List.getElem_mem hi)
 unfold Zii
 rw [Zc8 hi]
 simp only [Option.bind_some]
 rw [Zz2 hx, Zpq hx]
 simp only [Zhn, List.getElem?_eq_getElem hi]
 by_cases h1 : (16 : Int) < l[i].Name.size
 · simp [h1]
 · simp only [h1, decide_false, if_false, Bool.false_eq_true]
   by_cases h0 : 0 < i
   · have hp : i - 1 < l.length := by omega
     have hps : l[i - 1].Score < W64 := hs _ (List.getElem_mem hp)
     have hd : (decide ((0 : Int) < (i : Int))) = true := by simp; omega
     rw [hd, wrm (by omega) h0, Zc8 hp]
     simp only [List.getElem?_eq_getElem hp, Option.getD_some, h0, true_and, Bool.true_and]
     by_cases h8 : k = 8
     · subst h8
       simp only [beq_self_eq_true, gd_t, Option.bind_some, true_and, Bool.true_and]
       by_cases hk : keyf l[i].Score = keyf 0
       · by_cases hc : l[i].Score = Zcd l[i].Score
         · simp [hk, ← hc, gd]
           cases sLt l[i - 1].Name l[i].Name <;> simp
         · simp [hk, hc, gd]
       · simp [hk, gd]
     · have h8' : (k == 8) = false := by simpa using h8
       simp only [h8', h8, gd_f, gd_t, Option.bind_some, false_and, false_or, Bool.false_and, Bool.not_false, Bool.false_or]
       by_cases hc : l[i].Score = Zcd l[i].Score
       · by_cases h9 : k = 9
         · subst h9
           simp [← hc, gd, Zx1 hps hx]
           cases Zdh l[i - 1] l[i] <;> simp
         · simp [← hc, gd, h9]
       · simp [hc]
   · have h00 : i = 0 := by omega
     subst h00
     simp only [Nat.lt_irrefl, false_and, if_false, Int.ofNat_zero, Int.lt_irrefl, decide_false, Bool.false_and, gd_f, Option.bind_some, Int.natCast_zero]
     by_cases h8 : k = 8
     · subst h8
       simp only [beq_self_eq_true, gd_t, Option.bind_some, true_and, Bool.true_and]
       by_cases hk : keyf l[0].Score = keyf 0
       · by_cases hc : l[0].Score = Zcd l[0].Score
         · simp [hk, ← hc, gd]
         · simp [hk, hc, gd]
       · simp [hk, gd]
     · have h8' : (k == 8) = false := by simpa using h8
       simp only [h8', h8, gd_f, gd_t, Option.bind_some, false_and, false_or, Bool.false_and, Bool.not_false, Bool.false_or]
       by_cases hc : l[0].Score = Zcd l[0].Score
       · simp [← hc, gd]
       · simp [hc]
def Zi2 (k : Int) (l : List Zl) : Nat → Nat → Int
 | _, 0 => 0
 | i, n + 1 => if Zhn k l i = 0 then Zi2 k l (i + 1) n else Zhn k l i
def endC (c : Int) : Int ⊕ Unit := if c = 0 then .inr () else .inl c
theorem Ztf {k : Int} {l : List Zl} {i n : Nat} (h : Zhn k l i = 0) : Zi2 k l i (n + 1) = Zi2 k l (i + 1) n := by simp [Zi2, h]
theorem Zs5 {k : Int} {l : List Zl} {i n : Nat} (h : ¬ Zhn k l i = 0) : Zi2 k l i (n + 1) = Zhn k l i := by simp [Zi2, h]
theorem Z2d {c : Int} (h : ¬ c = 0) : endC c = .inl c := if_neg h
theorem Zud {k : Int} {l : List Zl} (hl : l.length < 4611686018427387904) (hs : ∀ e ∈ l, e.Score < W64) : ∀ (n i : Nat), i + n = l.length →
   Zf3 k l (n + 1) (i : Int) = some (endC (Zi2 k l i n))
 | 0, i, h => by
   rw [Zf3, if_neg (by simp; omega)]
   rfl
 | n + 1, i, h => by
   rw [Z23 (by omega) hl hs]
   by_cases hc : Zhn k l i = 0
   · rw [if_pos hc, Ztf hc, Zud hl hs n (i + 1) (by omega)]
   · rw [if_neg hc, Zs5 hc, Z2d hc]
theorem Z4e {k : Int} {l : List Zl} (hl : l.length < 4611686018427387904) (hs : ∀ e ∈ l, e.Score < W64) : Zna k l = some (Zi2 k l 0 l.length) := by
 unfold Zna
 rw [show (Int.toNat ((l.length : Int) - (0 : Int)) + 1) = l.length + 1 by omega, show (0 : Int) = ((0 : Nat) : Int) from rfl, Zud hl hs l.length 0 (by omega)]
 unfold endC
 by_cases h : Zi2 k l 0 l.length = 0 <;> simp [h]
theorem Zsr {a : Ze} (ha : Zh7 a) : ∀ (n i : Nat), i + n = a.List.length →
   Zd0 a (n + 1) (i : Int) = some (endC (Zi2 a.Kind a.List i n))
 | 0, i, h => by
   rw [Zd0, if_neg (by simp; omega)]
   rfl
 | n + 1, i, h => by
   have hl := ha.len
   rw [Zd0, if_pos (by simp; omega), Z3k (by omega) hl ha.sc, wr1 (by omega)]
   simp only [Option.bind_some]
   by_cases hc : Zhn a.Kind a.List i = 0
   · rw [if_neg (by simp [hc]), Ztf hc, Zsr ha n (i + 1) (by omega)]
   · rw [if_pos (by simp [hc]), Zs5 hc, Z2d hc]
def Zhb (t n b r l : Bool) (a : Ze) : Bool := (t || sEq a.Text ⟨#[]⟩) && (n || a.Num == 0) && (b || (a.Low == 0 && a.High == 0)) && (r || decide (keyf a.Real = keyf 0)) && (l || (a.Cap == 0 && (a.List.length : Int) == 0))
theorem Z5w {a : Ze} (ha : Zh7 a) (t n b r l : Bool) : Zn1 a ⟨t, n, b, r, l⟩ = some (Zhb t n b r l a) := by
 unfold Zn1 Zhb
 rw [Znn ha.real (by decide)]
 simp only
 generalize sEq a.Text ⟨#[]⟩ = x1
 generalize (a.Num == 0) = x2
 generalize (a.Low == 0) = x3
 generalize (a.High == 0) = x4
 generalize decide (keyf a.Real = keyf 0) = x5
 generalize (a.Cap == 0) = x6
 generalize ((a.List.length : Int) == 0) = x7
 revert t n b r l x1 x2 x3 x4 x5 x6 x7
 decide
theorem Z6s {a : Ze} (ha : Zh7 a) {s : ByteArray} {t n b r l : Bool} (h : Zcy s (Int.toNat ((s.size : Int) - (0 : Int)) + 1) false false false false false 0 = some (t, n, b, r, l)) : Zij a s = some (Zhb t n b r l a) := by
 unfold Zij Zhb
 rw [h, Zz2 ha.real]
 simp only [Option.bind_some, bne]
 generalize sEq a.Text ⟨#[]⟩ = x1
 generalize (a.Num == 0) = x2
 generalize (a.Low == 0) = x3
 generalize (a.High == 0) = x4
 generalize decide (keyf a.Real = keyf 0) = x5
 generalize (a.Cap == 0) = x6
 generalize ((a.List.length : Int) == 0) = x7
 clear h
 revert t n b r l x1 x2 x3 x4 x5 x6 x7
 decide
theorem Z9o : Zcy ⟨#[116]⟩ (Int.toNat (((⟨#[116]⟩ : ByteArray).size : Int) - (0 : Int)) + 1) false false false false false 0 = some (true, false, false, false, false) := by kernel_rfl
theorem Z43 : Zcy ⟨#[110]⟩ (Int.toNat (((⟨#[110]⟩ : ByteArray).size : Int) - (0 : Int)) + 1) false false false false false 0 = some (false, true, false, false, false) := by kernel_rfl
theorem Z8f : Zcy ⟨#[110, 98]⟩ (Int.toNat (((⟨#[110, 98]⟩ : ByteArray).size : Int) - (0 : Int)) + 1) false false false false false 0 = some (false, true, true, false, false) := by kernel_rfl
theorem Z0l : Zcy ⟨#[114]⟩ (Int.toNat (((⟨#[114]⟩ : ByteArray).size : Int) - (0 : Int)) + 1) false false false false false 0 = some (false, false, false, true, false) := by kernel_rfl
theorem Z47 : Zcy ⟨#[108]⟩ (Int.toNat (((⟨#[108]⟩ : ByteArray).size : Int) - (0 : Int)) + 1) false false false false false 0 = some (false, false, false, false, true) := by kernel_rfl
def Zo2 (t n b r l : Bool) (a : Ze) : Int :=
 if Zhb t n b r l a = false then 4
 else if (64 : Int) < a.Text.size then 3
 else if b = true ∧ (a.Low < -2305843009213693952 ∨ 2305843009213693952 < a.High ∨ a.Num < a.Low ∨ a.High < a.Num) then 1
 else if a.Real ≠ Zcd a.Real then 4
 else if l = false then 0
 else if a.Cap < 1 ∨ 32 < a.Cap then 1
 else if a.Cap < a.List.length then 8
 else Zi2 a.Kind a.List 0 a.List.length
theorem Zgk {a : Ze} (ha : Zh7 a) {t n b r l : Bool} (hk : ¬ (a.Kind ≤ 0 ∨ 10 ≤ a.Kind)) (hs : Zeh a.Kind = some ⟨t, n, b, r, l⟩) : Zeg a = some (Zo2 t n b r l a) := by
 unfold Zeg Zo2
 rw [hs]
 simp only [Option.bind_some]
 rw [Z5w ha, Zri ha.real, Z4e ha.len ha.sc]
 simp only [Option.bind_some]
 rw [if_neg (by simpa using hk)]
 by_cases h1 : Zhb t n b r l a = false
 · rw [if_pos h1, if_pos (by simp [h1])]
 · rw [if_neg h1, if_neg (by simpa using h1)]
   by_cases h2 : (64 : Int) < a.Text.size
   · rw [if_pos h2, if_pos (by simpa using h2)]
   · rw [if_neg h2, if_neg (by simpa using h2)]
     by_cases h3 : b = true ∧ (a.Low < -2305843009213693952 ∨ 2305843009213693952 < a.High ∨ a.Num < a.Low ∨ a.High < a.Num)
     · rw [if_pos h3, if_pos (by simpa [or_assoc] using h3)]
     · rw [if_neg h3, if_neg (by simpa [or_assoc] using h3)]
       by_cases h4 : a.Real = Zcd a.Real
       · rw [if_neg (show ¬ (a.Real ≠ Zcd a.Real) from fun h => h h4), decide_eq_true h4]
         simp only [Bool.not_true, Bool.false_eq_true, if_false]
         cases l
         · simp
         · simp only [Bool.not_true, Bool.false_eq_true, if_false, Bool.true_eq_false]
           by_cases h5 : a.Cap < 1 ∨ 32 < a.Cap
           · rw [if_pos h5, if_pos (by simpa using h5)]
           · rw [if_neg h5, if_neg (by simpa using h5)]
             by_cases h6 : a.Cap < a.List.length
             · rw [if_pos h6, if_pos (by simpa using h6)]
             · rw [if_neg h6, if_neg (by simpa using h6)]
       · rw [if_pos (show a.Real ≠ Zcd a.Real from h4), decide_eq_false h4]
         rfl
theorem Z2x : Zeh 1 = some ⟨true, false, false, false, false⟩ := by kernel_rfl
theorem Z20 : Zeh 2 = some ⟨false, true, false, false, false⟩ := by kernel_rfl
theorem Z15 : Zeh 3 = some ⟨false, true, false, false, false⟩ := by kernel_rfl
theorem Z1y : Zeh 4 = some ⟨false, true, true, false, false⟩ := by kernel_rfl
theorem Z2b : Zeh 5 = some ⟨false, false, false, true, false⟩ := by kernel_rfl
theorem Z1u : Zeh 6 = some ⟨false, false, false, true, false⟩ := by kernel_rfl
theorem Z1p : Zeh 7 = some ⟨false, false, false, true, false⟩ := by kernel_rfl
theorem Z2c : Zeh 8 = some ⟨false, false, false, false, true⟩ := by kernel_rfl
theorem Z3i : Zeh 9 = some ⟨false, false, false, false, true⟩ := by kernel_rfl
def Zrt (t n b r l : Bool) (k : Int) (a : Ze) : Int :=
 if Zhb t n b r l a = false then 4
 else if k = 1 ∧ (64 : Int) < a.Text.size then 3
 else if k = 4 ∧ (a.Low < -2305843009213693952 ∨ 2305843009213693952 < a.High ∨ a.Num < a.Low ∨ a.High < a.Num) then 1
 else if a.Real ≠ Zcd a.Real then 4
 else if k < 8 then 0
 else if a.Cap < 1 ∨ 32 < a.Cap then 1
 else if a.Cap < a.List.length then 8
 else Zi2 a.Kind a.List 0 a.List.length
theorem Zgm {a : Ze} (ha : Zh7 a) {t n b r l : Bool} {s : ByteArray} (hk : ¬ (a.Kind < 1 ∨ 9 < a.Kind)) (hf : Zi9 a.Kind = some s)
   (ho : Zcy s (Int.toNat ((s.size : Int) - (0 : Int)) + 1) false false false false false 0 = some (t, n, b, r, l)) : Zdl a = some (Zrt t n b r l a.Kind a) := by
 unfold Zdl Zrt
 have hw : IntKind.i64.wrap (0 - (2305843009213693952 : Int)) = -2305843009213693952 := by decide
 rw [hf, Zpq ha.real, hw, show (Int.toNat ((a.List.length : Int) - (0 : Int)) + 1) = a.List.length + 1 by omega]
 have hloop := Zsr ha a.List.length 0 (by omega)
 rw [show ((0 : Nat) : Int) = 0 from rfl] at hloop
 rw [hloop]
 simp only [Option.bind_some]
 rw [if_neg (by simpa using hk), Z6s ha ho]
 simp only [Option.bind_some]
 by_cases h1 : Zhb t n b r l a = false
 · rw [if_pos h1, if_pos (by simp [h1])]
 · rw [if_neg h1, if_neg (by simpa using h1)]
   by_cases h2 : a.Kind = 1 ∧ (64 : Int) < a.Text.size
   · rw [if_pos h2, if_pos (by simpa using h2)]
   · rw [if_neg h2, if_neg (by simpa using h2)]
     by_cases h3 : a.Kind = 4 ∧ (a.Low < -2305843009213693952 ∨ 2305843009213693952 < a.High ∨ a.Num < a.Low ∨ a.High < a.Num)
     · rw [if_pos h3, if_pos (by simpa [or_assoc] using h3)]
     · rw [if_neg h3, if_neg (by simpa [or_assoc] using h3)]
       by_cases h4 : a.Real = Zcd a.Real
       · rw [if_neg (show ¬ (a.Real ≠ Zcd a.Real) from fun h => h h4), decide_eq_true h4]
         simp only [Bool.not_true, Bool.false_eq_true, if_false]
         by_cases h7 : a.Kind < 8
         · rw [if_pos h7, if_pos (by simpa using h7)]
         · rw [if_neg h7, if_neg (by simpa using h7)]
           by_cases h5 : a.Cap < 1 ∨ 32 < a.Cap
           · rw [if_pos h5, if_pos (by simpa using h5)]
           · rw [if_neg h5, if_neg (by simpa using h5)]
             by_cases h6 : a.Cap < a.List.length
             · rw [if_pos h6, if_pos (by simpa using h6)]
             · rw [if_neg h6, if_neg (by simpa using h6)]
               unfold endC
               by_cases h : Zi2 a.Kind a.List 0 a.List.length = 0 <;> simp [h]
       · rw [if_pos (show a.Real ≠ Zcd a.Real from h4), decide_eq_false h4]
         rfl
theorem Z54 {t n b r l : Bool} {a : Ze} (h : ¬ Zhb t n b r l a = false) (ht : t = false) : a.Text.size = 0 := by
 subst ht
 have : Zhb false n b r l a = true := by simpa using h
 unfold Zhb at this
 simp only [Bool.false_or, Bool.and_eq_true] at this
 have := Zid.1 this.1.1.1.1
 rw [this]; rfl
theorem D_eq (t n b r l : Bool) (k : Int) (a : Ze) (ht : t = true ↔ k = 1) (hb : b = true ↔ k = 4) (hl : l = false ↔ k < 8) : Zrt t n b r l k a = Zo2 t n b r l a := by
 unfold Zrt Zo2
 by_cases h1 : Zhb t n b r l a = false
 · rw [if_pos h1, if_pos h1]
 · rw [if_neg h1, if_neg h1]
   have e2 : (k = 1 ∧ (64 : Int) < a.Text.size) ↔ (64 : Int) < a.Text.size := by
     constructor
     · exact fun h => h.2
     · intro h
       refine ⟨ht.1 ?_, h⟩
       cases t
       · have := Z54 h1 rfl; omega
       · rfl
   simp only [e2, hb, hl]
theorem Zl3 {a : Ze} (ha : Zh7 a) : ∃ c, Zeg a = some c ∧ Zdl a = some c := by
 by_cases hk : a.Kind ≤ 0 ∨ 10 ≤ a.Kind
 · refine ⟨5, ?_, ?_⟩
   · unfold Zeg
     have hs : ∃ s, Zeh a.Kind = some s := by
       have h1 : ¬ a.Kind = 1 := by omega
       have h2 : ¬ a.Kind = 2 := by omega
       have h3 : ¬ a.Kind = 3 := by omega
       have h4 : ¬ a.Kind = 4 := by omega
       have h5 : ¬ a.Kind = 5 := by omega
       have h6 : ¬ a.Kind = 6 := by omega
       have h7 : ¬ a.Kind = 7 := by omega
       have h8 : ¬ a.Kind = 8 := by omega
       have h9 : ¬ a.Kind = 9 := by omega
       exact ⟨⟨false, false, false, false, false⟩, by simp [Zeh, Zka, Zir, Zj9, h1, h2, h3, h4, h5, h6, h7, h8, h9]⟩
     obtain ⟨s, hs⟩ := hs
     rw [hs]
     simp only [Option.bind_some]
     rw [if_pos (by simpa using hk)]
   · unfold Zdl
     rw [if_pos (by simp; omega)]
 · have hk2 : ¬ (a.Kind < 1 ∨ 9 < a.Kind) := by omega
   have hk' : a.Kind = 1 ∨ a.Kind = 2 ∨ a.Kind = 3 ∨ a.Kind = 4 ∨ a.Kind = 5 ∨ a.Kind = 6 ∨ a.Kind = 7 ∨ a.Kind = 8 ∨ a.Kind = 9 := by omega
   rcases hk' with h | h | h | h | h | h | h | h | h
   · exact ⟨_, Zgk ha hk (by rw [h]; exact Z2x), by rw [Zgm ha hk2 (by rw [h]; kernel_rfl) Z9o, D_eq _ _ _ _ _ _ _ (by simp [h]) (by simp [h]) (by simp [h])]⟩
   · exact ⟨_, Zgk ha hk (by rw [h]; exact Z20), by rw [Zgm ha hk2 (by rw [h]; kernel_rfl) Z43, D_eq _ _ _ _ _ _ _ (by simp [h]) (by simp [h]) (by simp [h])]⟩
   · exact ⟨_, Zgk ha hk (by rw [h]; exact Z15), by rw [Zgm ha hk2 (by rw [h]; kernel_rfl) Z43, D_eq _ _ _ _ _ _ _ (by simp [h]) (by simp [h]) (by simp [h])]⟩
   · exact ⟨_, Zgk ha hk (by rw [h]; exact Z1y), by rw [Zgm ha hk2 (by rw [h]; kernel_rfl) Z8f, D_eq _ _ _ _ _ _ _ (by simp [h]) (by simp [h]) (by simp [h])]⟩
   · exact ⟨_, Zgk ha hk (by rw [h]; exact Z2b), by rw [Zgm ha hk2 (by rw [h]; kernel_rfl) Z0l, D_eq _ _ _ _ _ _ _ (by simp [h]) (by simp [h]) (by simp [h])]⟩
   · exact ⟨_, Zgk ha hk (by rw [h]; exact Z1u), by rw [Zgm ha hk2 (by rw [h]; kernel_rfl) Z0l, D_eq _ _ _ _ _ _ _ (by simp [h]) (by simp [h]) (by simp [h])]⟩
   · exact ⟨_, Zgk ha hk (by rw [h]; exact Z1p), by rw [Zgm ha hk2 (by rw [h]; kernel_rfl) Z0l, D_eq _ _ _ _ _ _ _ (by simp [h]) (by simp [h]) (by simp [h])]⟩
   · exact ⟨_, Zgk ha hk (by rw [h]; exact Z2c), by rw [Zgm ha hk2 (by rw [h]; kernel_rfl) Z47, D_eq _ _ _ _ _ _ _ (by simp [h]) (by simp [h]) (by simp [h])]⟩
   · exact ⟨_, Zgk ha hk (by rw [h]; exact Z3i), by rw [Zgm ha hk2 (by rw [h]; kernel_rfl) Z47, D_eq _ _ _ _ _ _ _ (by simp [h]) (by simp [h]) (by simp [h])]⟩
def endB : Bool → Bool ⊕ Unit
 | true => .inr ()
 | false => .inl false
def eqI (x y : Zl) : Bool := sEq x.Name y.Name && decide (keyf x.Score = keyf y.Score)
def eqL : List Zl → List Zl → Bool
 | [], [] => true
 | x :: xs, y :: ys => eqI x y && eqL xs ys
 | _, _ => false
def Zk5 (a b : Ze) : Bool := (a.Kind == b.Kind) && (a.Num == b.Num) && (a.Low == b.Low) && (a.High == b.High) && decide (keyf a.Real = keyf b.Real) && (a.Cap == b.Cap) && sEq a.Text b.Text && eqL a.List b.List
theorem Zu0 : ∀ {a b : List Zl}, eqL a b = true → a.length = b.length
 | [], [], _ => rfl
 | x :: xs, y :: ys, h => by
   simp only [eqL, Bool.and_eq_true] at h
   simp [Zu0 h.2]
 | [], _ :: _, h => by simp [eqL] at h
 | _ :: _, [], h => by simp [eqL] at h
theorem Z4k {x y : Zl} (hx : x.Score < W64) (hy : y.Score < W64) : Zis x y = some (eqI x y) := by
 unfold Zis eqI
 rw [Znn hx hy]
 cases sEq x.Name y.Name <;> simp [gd]
theorem Zxm {a b : List Zl} (ha : ∀ e ∈ a, e.Score < W64) (hb : ∀ e ∈ b, e.Score < W64) (hl : a.length < 4611686018427387904) (he : a.length = b.length) : ∀ (n i : Nat), i + n = a.length →
   Zbr a b (fun y0 y1 => Zis y0 y1) (n + 1) (i : Int) = some (endB (eqL (a.drop i) (b.drop i)))
 | 0, i, h => by
   rw [Zbr, if_neg (by simp; omega), List.drop_of_length_le (by omega), List.drop_of_length_le (by omega)]
   rfl
 | n + 1, i, h => by
   have h1 : i < a.length := by omega
   have h2 : i < b.length := by omega
   rw [Zbr, if_pos (by simp; omega), Zc8 h1, Zc8 h2, wr1 (by omega)]
   simp only [Option.bind_some]
   rw [Z4k (ha _ (List.getElem_mem h1)) (hb _ (List.getElem_mem h2)), List.drop_eq_getElem_cons h1, List.drop_eq_getElem_cons h2]
   simp only [Option.bind_some, eqL]
   cases hq : eqI a[i] b[i]
   · simp [endB]
   · simp only [Bool.not_true, Bool.false_eq_true, if_false, Bool.true_and]
     exact Zxm ha hb hl he n (i + 1) (by omega)
theorem Z7n {a b : List Zl} (ha : ∀ e ∈ a, e.Score < W64) (hb : ∀ e ∈ b, e.Score < W64) (hl : a.length < 4611686018427387904) : Zce a b (fun y0 y1 => Zis y0 y1) = some (eqL a b) := by
 unfold Zce
 by_cases he : a.length = b.length
 · rw [if_neg (by simp; omega), show (Int.toNat ((a.length : Int) - (0 : Int)) + 1) = a.length + 1 by omega]
   have := Zxm ha hb hl he a.length 0 (by omega)
   rw [show ((0 : Nat) : Int) = 0 from rfl] at this
   rw [this]
   simp only [List.drop_zero]
   cases eqL a b <;> simp [endB]
 · rw [if_pos (by simp; omega)]
   cases h : eqL a b
   · rfl
   · exact absurd (Zu0 h) he
theorem Z3w {a b : Ze} (ha : Zh7 a) (hb : Zh7 b) : Zml a b = some (Zk5 a b) := by
 unfold Zml Zk5
 rw [Znn ha.real hb.real, Z7n ha.sc hb.sc ha.len]
 generalize (a.Kind == b.Kind) = x1
 generalize (a.Num == b.Num) = x2
 generalize (a.Low == b.Low) = x3
 generalize (a.High == b.High) = x4
 generalize decide (keyf a.Real = keyf b.Real) = x5
 generalize (a.Cap == b.Cap) = x6
 generalize sEq a.Text b.Text = x7
 generalize eqL a.List b.List = x8
 revert x1 x2 x3 x4 x5 x6 x7 x8
 decide
theorem Zt4 {a b : Ze} (ha : Zh7 a) (hb : Zh7 b) (he : a.List.length = b.List.length) : ∀ (n i : Nat), i + n = a.List.length →
   Zef a b (n + 1) (i : Int) = some (endB (eqL (a.List.drop i) (b.List.drop i)))
 | 0, i, h => by
   rw [Zef, if_neg (by simp; omega), List.drop_of_length_le (by omega), List.drop_of_length_le (by omega)]
   rfl
 | n + 1, i, h => by
   have h1 : i < a.List.length := by omega
   have h2 : i < b.List.length := by omega
   have hl := ha.len
   have hs1 := ha.sc _ (List.getElem_mem h1)
   have hs2 := hb.sc _ (List.getElem_mem h2)
   rw [Zef, if_pos (by simp; omega), Zc8 h1, Zc8 h2, wr1 (by omega), List.drop_eq_getElem_cons h1, List.drop_eq_getElem_cons h2]
   simp only [Option.bind_some, eqL, eqI]
   cases hn : sEq a.List[i].Name b.List[i].Name
   · simp [gd, endB]
   · simp only [Bool.not_true, Bool.not_false, gd_t, Option.bind_some]
     rw [Zmq hs1 hs2]
     simp only [Option.bind_some, Bool.false_or, Bool.true_and]
     by_cases hk : keyf a.List[i].Score = keyf b.List[i].Score
     · simp only [hk, decide_true, Bool.not_true, Bool.false_eq_true, if_false, Bool.true_and]
       exact Zt4 ha hb he n (i + 1) (by omega)
     · simp [hk, endB]
theorem Zrg {a b : Ze} (ha : Zh7 a) (hb : Zh7 b) : Zf8 a b = some (Zk5 a b) := by
 unfold Zf8 Zk5
 rw [Zmq ha.real hb.real]
 by_cases he : a.List.length = b.List.length
 · have := Zt4 ha hb he a.List.length 0 (by omega)
   rw [show ((0 : Nat) : Int) = 0 from rfl] at this
   rw [show (Int.toNat ((a.List.length : Int) - (0 : Int)) + 1) = a.List.length + 1 by omega, this]
   have hn : ((a.List.length : Int) != (b.List.length : Int)) = false := by simp; omega
   rw [hn]
   simp only [List.drop_zero, bne]
   generalize (a.Kind == b.Kind) = x1
   generalize (a.Num == b.Num) = x2
   generalize (a.Low == b.Low) = x3
   generalize (a.High == b.High) = x4
   generalize decide (keyf a.Real = keyf b.Real) = x5
   generalize (a.Cap == b.Cap) = x6
   generalize sEq a.Text b.Text = x7
   generalize eqL a.List b.List = x8
   clear this hn he
   revert x1 x2 x3 x4 x5 x6 x7 x8
   decide
 · have h8 : eqL a.List b.List = false := by
     cases h : eqL a.List b.List
     · rfl
     · exact absurd (Zu0 h) he
   have hn : ((a.List.length : Int) != (b.List.length : Int)) = true := by simp; omega
   rw [hn, h8]
   simp only [bne, Bool.or_true, Option.bind_some, if_true, Bool.and_false, ite_self]
theorem Zt1 {a : Ze} (hl : a.List.length ≤ 9223372036854775807) : ∀ (n i : Nat), i + n = a.List.length → ∃ z, Zev a (n + 1) (i : Int) = some z ∧ (z = .inl 1 ∨ z = .inr ())
 | 0, i, h => by
   rw [Zev, if_neg (by simp; omega)]
   exact ⟨_, rfl, .inr rfl⟩
 | n + 1, i, h => by
   rw [Zev, if_pos (by simp; omega), Zc8 (by omega), wr1 (by omega)]
   simp only [Option.bind_some]
   split
   · exact ⟨_, rfl, .inl rfl⟩
   · exact Zt1 hl n (i + 1) (by omega)
theorem Z44 {a : Ze} (hl : a.List.length ≤ 9223372036854775807) : ∃ c, Zhp a = some c ∧ (c = 0 ∨ c = 1) ∧ (c = 0 → a.List.length ≤ 100) := by
 unfold Zhp
 by_cases h : (100 : Int) < a.List.length ∨ (1000 : Int) < a.Text.size
 · rw [if_pos (by simpa using h)]
   exact ⟨1, rfl, .inr rfl, fun h => by cases h⟩
 · rw [if_neg (by simpa using h), show (Int.toNat ((a.List.length : Int) - (0 : Int)) + 1) = a.List.length + 1 by omega]
   obtain ⟨z, hz, hc⟩ := Zt1 hl a.List.length 0 (by omega)
   rw [show ((0 : Nat) : Int) = 0 from rfl] at hz
   rw [hz]
   rcases hc with rfl | rfl
   · exact ⟨1, rfl, .inr rfl, fun h => by cases h⟩
   · exact ⟨0, rfl, .inl rfl, fun _ => by omega⟩
abbrev KV := ByteArray × Ze
def toL : shelf_nodeT → List KV
 | .nil => []
 | .node k r l rr _ => toL l ++ (k, r) :: toL rr
def Szd : shelf_nodeT → Prop
 | .nil => True
 | .node k r l rr s => Szd l ∧ Szd rr ∧ s = (((toL l).length + (toL rr).length + 1 : Nat) : Int)
def Srt (l : List KV) : Prop := l.Pairwise fun p q => sLt p.1 q.1 = true
theorem Zjf {t : shelf_nodeT} (h : Szd t) : Zcq t = some ((toL t).length : Int) := by
 cases t with
 | nil => rfl
 | node k r l rr s =>
   obtain ⟨_, _, h3⟩ := h
   simp [Zcq, shelf_nodeT.isNil, shelf_nodeT.un, toL, h3]
   omega
theorem Z60 {k : ByteArray} {x : Ze} {l r : shelf_nodeT} (hl : Szd l) (hr : Szd r) (bl : (toL l).length < 1099511627776) (br : (toL r).length < 1099511627776) :
   Zdq k x l r = some (.node k x l r (((toL l).length + (toL r).length + 1 : Nat) : Int)) := by
 unfold Zdq
 rw [Zjf hl, Zjf hr]
 simp only [Option.bind_some, shelf_node.up]
 rw [wr (x := (toL l).length + (toL r).length) (by omega) (by omega), wr (by omega) (by omega)]
 rfl
theorem Zic {k : ByteArray} {x : Ze} {l r : shelf_nodeT} (hl : Szd l) (hr : Szd r) (bl : (toL l).length < 1099511627776) (br : (toL r).length < 1099511627776) :
   ∃ t, Zdq k x l r = some t ∧ Szd t ∧ toL t = toL l ++ (k, x) :: toL r := ⟨_, Z60 hl hr bl br, ⟨hl, hr, rfl⟩, rfl⟩
def Zm0 (a b : shelf_nodeT) : Bool := decide (3 * ((toL b).length + 1) < (toL a).length + 1)
theorem Zxp {a b : shelf_nodeT} (ha : Szd a) (hb : Szd b) (ba : (toL a).length < 1099511627776) (bb : (toL b).length < 1099511627776) : Zh8 a b = some (Zm0 a b) := by
 unfold Zh8 Zm0
 rw [Zjf ha, Zjf hb]
 simp only [Option.bind_some]
 rw [wr (x := ((toL b).length : Int) + 1) (by omega) (by omega), wr (x := ((toL a).length : Int) + 1) (by omega) (by omega), wr (by omega) (by omega)]
 congr 1
 apply decide_eq_decide.2
 omega
theorem Zub {t : shelf_nodeT} (h : 0 < (toL t).length) : ∃ k r l rr s, t = .node k r l rr s := by
 cases t with
 | nil => simp [toL] at h
 | node k r l rr s => exact ⟨k, r, l, rr, s, rfl⟩
theorem Zow {k : ByteArray} {x : Ze} {l r : shelf_nodeT} (hl : Szd l) (hr : Szd r) (bl : (toL l).length < 1099511627776) (br : (toL r).length < 1099511627776) (bs : (toL l).length + (toL r).length + 1 < 1099511627776) :
   ∃ t, Zh3 k x l r = some t ∧ Szd t ∧ toL t = toL l ++ (k, x) :: toL r := by
 unfold Zh3
 rw [Zxp hr hl br bl, Zxp hl hr bl br]
 simp only [Option.bind_some]
 by_cases h1 : Zm0 r l = true
 · have hlen : 0 < (toL r).length := by
     unfold Zm0 at h1
     have := of_decide_eq_true h1
     omega
   obtain ⟨rk, rx, rl, rr, rs, rfl⟩ := Zub hlen
   obtain ⟨s1, s2, s3⟩ := hr
   have e : (toL (shelf_nodeT.node rk rx rl rr rs)).length = (toL rl).length + (toL rr).length + 1 := by simp [toL]; omega
   rw [e] at br bs
   simp only [h1, gd_t, shelf_nodeT.un, Option.bind_some, if_true]
   rw [Zjf s1, Zjf s2]
   simp only [Option.bind_some, Bool.true_and]
   by_cases h2 : (decide (IntKind.i64.wrap (((toL rl).length : Int) + 1) < IntKind.i64.wrap (2 * IntKind.i64.wrap (((toL rr).length : Int) + 1)))) = true
   · rw [if_pos h2]
     obtain ⟨t1, e1, z1, l1⟩ := Zic (k := k) (x := x) hl s1 bl (by omega)
     have b1 : (toL t1).length < 1099511627776 := by rw [l1]; simp; omega
     obtain ⟨t2, e2, z2, l2⟩ := Zic (k := rk) (x := rx) z1 s2 b1 (by omega)
     exact ⟨t2, by rw [e1]; simp only [Option.bind_some]; rw [e2]; rfl, z2, by rw [l2, l1]; simp [toL]⟩
   · rw [if_neg h2]
     have hlen2 : 0 < (toL rl).length := by
       rw [wr (x := ((toL rr).length : Int) + 1) (by omega) (by omega), wr (x := ((toL rl).length : Int) + 1) (by omega) (by omega), wr (by omega) (by omega)] at h2
       have : ¬ ((toL rl).length : Int) + 1 < 2 * ((toL rr).length + 1) := by simpa using h2
       omega
     obtain ⟨lk, lx, ll, lr, ls, rfl⟩ := Zub hlen2
     obtain ⟨q1, q2, q3⟩ := s1
     have e' : (toL (shelf_nodeT.node lk lx ll lr ls)).length = (toL ll).length + (toL lr).length + 1 := by simp [toL]; omega
     rw [e'] at br bs
     simp only [shelf_nodeT.un, Option.bind_some]
     obtain ⟨t1, e1, z1, l1⟩ := Zic (k := k) (x := x) hl q1 bl (by omega)
     obtain ⟨t2, e2, z2, l2⟩ := Zic (k := rk) (x := rx) q2 s2 (by omega) (by omega)
     have b1 : (toL t1).length < 1099511627776 := by rw [l1]; simp; omega
     have b2 : (toL t2).length < 1099511627776 := by rw [l2]; simp; omega
     obtain ⟨t3, e3, z3, l3⟩ := Zic (k := lk) (x := lx) z1 z2 b1 b2
     exact ⟨t3, by rw [e1]; simp only [Option.bind_some]; rw [e2]; simp only [Option.bind_some]; rw [e3]; rfl, z3, by rw [l3, l1, l2]; simp [toL]⟩
 · have h1' : Zm0 r l = false := by simpa using h1
   simp only [h1', gd_f, Option.bind_some, Bool.false_and, Bool.false_eq_true, if_false]
   by_cases h3 : Zm0 l r = true
   · have hlen : 0 < (toL l).length := by
       unfold Zm0 at h3
       have := of_decide_eq_true h3
       omega
     obtain ⟨rk, rx, rl, rr, rs, rfl⟩ := Zub hlen
     obtain ⟨s1, s2, s3⟩ := hl
     have e : (toL (shelf_nodeT.node rk rx rl rr rs)).length = (toL rl).length + (toL rr).length + 1 := by simp [toL]; omega
     rw [e] at bl bs
     simp only [h3, gd_t, shelf_nodeT.un, Option.bind_some, if_true]
     rw [Zjf s2, Zjf s1]
     simp only [Zcq, shelf_nodeT.isNil, if_true, Option.bind_some, Bool.true_and]
     by_cases h2 : (decide (IntKind.i64.wrap (((toL rr).length : Int) + 1) < IntKind.i64.wrap (2 * IntKind.i64.wrap (((toL rl).length : Int) + 1)))) = true
     · rw [if_pos h2]
       obtain ⟨t1, e1, z1, l1⟩ := Zic (k := k) (x := x) s2 hr (by omega) br
       have b1 : (toL t1).length < 1099511627776 := by rw [l1]; simp; omega
       obtain ⟨t2, e2, z2, l2⟩ := Zic (k := rk) (x := rx) s1 z1 (by omega) b1
       exact ⟨t2, by rw [e1]; simp only [Option.bind_some]; rw [e2]; rfl, z2, by rw [l2, l1]; simp [toL]⟩
     · rw [if_neg h2]
       have hlen2 : 0 < (toL rr).length := by
         rw [wr (x := ((toL rl).length : Int) + 1) (by omega) (by omega), wr (x := ((toL rr).length : Int) + 1) (by omega) (by omega), wr (by omega) (by omega)] at h2
         have : ¬ ((toL rr).length : Int) + 1 < 2 * ((toL rl).length + 1) := by simpa using h2
         omega
       obtain ⟨lk, lx, ll, lr, ls, rfl⟩ := Zub hlen2
       obtain ⟨q1, q2, q3⟩ := s2
       have e' : (toL (shelf_nodeT.node lk lx ll lr ls)).length = (toL ll).length + (toL lr).length + 1 := by simp [toL]; omega
       rw [e'] at bl bs
       simp only [shelf_nodeT.un, Option.bind_some]
       obtain ⟨t1, e1, z1, l1⟩ := Zic (k := rk) (x := rx) s1 q1 (by omega) (by omega)
       obtain ⟨t2, e2, z2, l2⟩ := Zic (k := k) (x := x) q2 hr (by omega) br
       have b1 : (toL t1).length < 1099511627776 := by rw [l1]; simp; omega
       have b2 : (toL t2).length < 1099511627776 := by rw [l2]; simp; omega
       obtain ⟨t3, e3, z3, l3⟩ := Zic (k := lk) (x := lx) z1 z2 b1 b2
       exact ⟨t3, by rw [e1]; simp only [Option.bind_some]; rw [e2]; simp only [Option.bind_some]; rw [e3]; rfl, z3, by rw [l3, l1, l2]; simp [toL]⟩
   · have h3' : Zm0 l r = false := by simpa using h3
     simp only [h3', gd_f, Option.bind_some, Bool.false_and, Bool.false_eq_true, if_false]
     obtain ⟨t1, e1, z1, l1⟩ := Zic (k := k) (x := x) hl hr bl br
     exact ⟨t1, by rw [e1]; simp [Zcq, shelf_nodeT.isNil, shelf_nodeT.un, Option.bind_some, gd], z1, l1⟩
def insL (k : ByteArray) (x : Ze) : List KV → List KV
 | [] => [(k, x)]
 | p :: l => if sLt k p.1 then (k, x) :: p :: l else if sEq k p.1 then (k, x) :: l else p :: insL k x l
def delL (k : ByteArray) : List KV → List KV
 | [] => []
 | p :: l => if sEq k p.1 then l else p :: delL k l
theorem Znx (k : ByteArray) (x : Ze) : ∀ l : List KV, (insL k x l).length ≤ l.length + 1
 | [] => by simp [insL]
 | p :: l => by
   have := Znx k x l
   simp only [insL]
   split
   · simp
   · split <;> simp <;> omega
theorem Zpm (k : ByteArray) : ∀ l : List KV, (delL k l).length ≤ l.length
 | [] => by simp [delL]
 | p :: l => by
   have := Zpm k l
   simp only [delL]
   split <;> simp <;> omega
theorem Zz7 {k : ByteArray} {x : Ze} {p : KV} {B : List KV} (h : sLt k p.1 = true) : ∀ A : List KV, insL k x (A ++ p :: B) = insL k x A ++ p :: B
 | [] => by simp [insL, h]
 | q :: A => by
   simp only [List.cons_append, insL]
   split
   · rfl
   · split
     · rfl
     · rw [Zz7 h A]; rfl
theorem Zrp {k : ByteArray} {x : Ze} {B : List KV} : ∀ A : List KV, (∀ q ∈ A, sLt q.1 k = true) → insL k x (A ++ B) = A ++ insL k x B
 | [], _ => rfl
 | q :: A, h => by
   have hq := h q (by simp)
   have h1 : sLt k q.1 = false := Zti hq
   have h2 : sEq k q.1 = false := Zep.2 (fun e => Zl1 hq e.symm)
   simp only [List.cons_append, insL, h1, h2, Bool.false_eq_true, if_false]
   rw [Zrp A fun q hq => h q (by simp [hq])]
theorem Z5o {k : ByteArray} {x : Ze} {p : KV} {B : List KV} (h : k = p.1) : insL k x (p :: B) = (k, x) :: B := by
 simp [insL, h, Zlu, Ze7]
theorem Z57 {k : ByteArray} {x : Ze} {p : KV} {B : List KV} (h : sLt p.1 k = true) : insL k x (p :: B) = p :: insL k x B := by
 have h1 : sLt k p.1 = false := Zti h
 have h2 : sEq k p.1 = false := Zep.2 (fun e => Zl1 h e.symm)
 simp [insL, h1, h2]
theorem Zpz {k : ByteArray} : ∀ l : List KV, (∀ q ∈ l, q.1 ≠ k) → delL k l = l
 | [], _ => rfl
 | p :: l, h => by
   have : sEq k p.1 = false := Zep.2 (fun e => h p (by simp) e.symm)
   simp only [delL, this, Bool.false_eq_true, if_false]
   rw [Zpz l fun q hq => h q (by simp [hq])]
theorem Zzj {k : ByteArray} {p : KV} {B : List KV} (h : sLt k p.1 = true) (hB : ∀ q ∈ B, sLt p.1 q.1 = true) : ∀ A : List KV, delL k (A ++ p :: B) = delL k A ++ p :: B
 | [] => by
   have h1 : sEq k p.1 = false := Zep.2 (Zl1 h)
   simp only [List.nil_append, delL, h1, Bool.false_eq_true, if_false]
   rw [Zpz B fun q hq e => by
     have := Zgg h (hB q hq)
     rw [e, Zlu] at this; cases this]
 | q :: A => by
   simp only [List.cons_append, delL]
   split
   · rfl
   · rw [Zzj h hB A]; rfl
theorem Zq2 {k : ByteArray} {B : List KV} : ∀ A : List KV, (∀ q ∈ A, sLt q.1 k = true) → delL k (A ++ B) = A ++ delL k B
 | [], _ => rfl
 | q :: A, h => by
   have hq := h q (by simp)
   have h2 : sEq k q.1 = false := Zep.2 (fun e => Zl1 hq e.symm)
   simp only [List.cons_append, delL, h2, Bool.false_eq_true, if_false]
   rw [Zq2 A fun q hq => h q (by simp [hq])]
theorem Zux {A B : List KV} {p : KV} (h : Srt (A ++ p :: B)) : Srt A ∧ Srt B ∧ (∀ q ∈ A, sLt q.1 p.1 = true) ∧ (∀ q ∈ B, sLt p.1 q.1 = true) := by
 obtain ⟨h1, h2, h3⟩ := List.pairwise_append.1 h
 obtain ⟨h4, h5⟩ := List.pairwise_cons.1 h2
 exact ⟨h1, h5, fun q hq => h3 q hq p (by simp), h4⟩
theorem Zr7 {k : ByteArray} {x : Ze} : ∀ {l : List KV} {q : KV}, q ∈ insL k x l → q = (k, x) ∨ q ∈ l
 | [], q, h => by simp [insL] at h; exact .inl h
 | p :: l, q, h => by
   simp only [insL] at h
   split at h
   · rcases List.mem_cons.1 h with h | h
     · exact .inl h
     · exact .inr h
   · split at h
     · rcases List.mem_cons.1 h with h | h
       · exact .inl h
       · exact .inr (List.mem_cons_of_mem _ h)
     · rcases List.mem_cons.1 h with h | h
       · exact .inr (by simp [h])
       · rcases Zr7 h with h | h
         · exact .inl h
         · exact .inr (List.mem_cons_of_mem _ h)
theorem Zr4 {k : ByteArray} : ∀ {l : List KV} {q : KV}, q ∈ delL k l → q ∈ l
 | [], q, h => by simp [delL] at h
 | p :: l, q, h => by
   simp only [delL] at h
   split at h
   · exact List.mem_cons_of_mem _ h
   · rcases List.mem_cons.1 h with h | h
     · simp [h]
     · exact List.mem_cons_of_mem _ (Zr4 h)
theorem Zzz {k : ByteArray} {x : Ze} : ∀ {l : List KV}, Srt l → Srt (insL k x l)
 | [], _ => List.pairwise_singleton ..
 | p :: l, h => by
   obtain ⟨h1, h2⟩ := List.pairwise_cons.1 h
   simp only [insL]
   split
   · rename_i hk
     refine List.pairwise_cons.2 ⟨fun q hq => ?_, h⟩
     rcases List.mem_cons.1 hq with rfl | hq
     · exact hk
     · exact Zgg hk (h1 q hq)
   · rename_i hk
     split
     · rename_i he
       have he := Zid.1 he
       exact List.pairwise_cons.2 ⟨fun q hq => by rw [he]; exact h1 q hq, h2⟩
     · rename_i he
       have hlt : sLt p.1 k = true := Zms (by simpa using hk) (fun e => he (Zid.2 e))
       refine List.pairwise_cons.2 ⟨fun q hq => ?_, Zzz h2⟩
       rcases Zr7 hq with rfl | hq
       · exact hlt
       · exact h1 q hq
theorem Zzo {k : ByteArray} : ∀ {l : List KV}, Srt l → Srt (delL k l)
 | [], h => h
 | p :: l, h => by
   obtain ⟨h1, h2⟩ := List.pairwise_cons.1 h
   simp only [delL]
   split
   · exact h2
   · exact List.pairwise_cons.2 ⟨fun q hq => h1 q (Zr4 hq), Zzo h2⟩
theorem Zxb : ∀ (n : Nat) (t : shelf_nodeT) (k : ByteArray) (x : Ze), t.hh < n → Szd t → Srt (toL t) → (toL t).length + 2 < 1099511627776 →
   ∃ t', Zff n t k x = some t' ∧ Szd t' ∧ toL t' = insL k x (toL t)
 | 0, t, k, x, h, _, _, _ => by omega
 | n + 1, .nil, k, x, _, _, _, _ => by
   obtain ⟨t1, e1, z1, l1⟩ := Zic (k := k) (x := x) (l := .nil) (r := .nil) trivial trivial (by simp [toL]) (by simp [toL])
   refine ⟨t1, ?_, z1, by rw [l1]; rfl⟩
   simp only [Zff, Zig, shelf_nodeT.isNil, if_true]
   rw [e1]; rfl
 | n + 1, .node nk nx l r s, k, x, hh, hz, hs, hb => by
   obtain ⟨z1, z2, z3⟩ := hz
   simp only [toL] at hs hb
   obtain ⟨s1, s2, sA, sB⟩ := Zux hs
   have hlen : (toL l ++ (nk, nx) :: toL r).length = (toL l).length + (toL r).length + 1 := by simp; omega
   rw [hlen] at hb
   simp only [shelf_nodeT.hh] at hh
   simp only [Zff, Zig, shelf_nodeT.isNil, shelf_nodeT.un, Bool.false_eq_true, if_false, Option.bind_some]
   by_cases h1 : sLt k nk = true
   · rw [if_pos h1]
     obtain ⟨t1, e1, y1, l1⟩ := Zxb n l k x (by omega) z1 s1 (by omega)
     have b1 := Znx k x (toL l)
     rw [← l1] at b1
     obtain ⟨t2, e2, y2, l2⟩ := Zow (k := nk) (x := nx) y1 z2 (by omega) (by omega) (by omega)
     refine ⟨t2, by rw [e1]; simp only [Option.bind_some]; rw [e2]; rfl, y2, ?_⟩
     rw [l2, l1]; simp only [toL]; rw [Zz7 (by exact h1)]
   · rw [if_neg h1]
     by_cases h2 : k = nk
     · subst h2
       have he : (!(sLt k k || sEq k k)) = false := by simp [Ze7]
       rw [he]
       simp only [Bool.false_eq_true, if_false]
       obtain ⟨t1, e1, y1, l1⟩ := Zic (k := k) (x := x) z1 z2 (by omega) (by omega)
       refine ⟨t1, by rw [e1]; rfl, y1, ?_⟩
       rw [l1]; simp only [toL]
       rw [Zrp _ (fun q hq => sA q hq), Z5o rfl]
     · have h3 : sLt nk k = true := Zms (by simpa using h1) h2
       have he : (!(sLt k nk || sEq k nk)) = true := by simp [Zep.2 h2]; simpa using h1
       rw [he]
       simp only [if_true]
       obtain ⟨t1, e1, y1, l1⟩ := Zxb n r k x (by omega) z2 s2 (by omega)
       have b1 := Znx k x (toL r)
       rw [← l1] at b1
       obtain ⟨t2, e2, y2, l2⟩ := Zow (k := nk) (x := nx) z1 y1 (by omega) (by omega) (by omega)
       refine ⟨t2, by rw [e1]; simp only [Option.bind_some]; rw [e2]; rfl, y2, ?_⟩
       rw [l2, l1]; simp only [toL]
       rw [Zrp _ (fun q hq => Zgg (sA q hq) h3), Z57 h3]
theorem Zzm {t : shelf_nodeT} {k : ByteArray} {x : Ze} (hz : Szd t) (hs : Srt (toL t)) (hb : (toL t).length + 2 < 1099511627776) :
   ∃ t', Zmi t k x = some t' ∧ Szd t' ∧ toL t' = insL k x (toL t) := Zxb _ t k x (Nat.lt_succ_self _) hz hs hb
theorem Zx0 : ∀ (n : Nat) (t : shelf_nodeT), t.hh < n → t.isNil = false → ∃ t' k x l r s B, Ze9 n t = some t' ∧ t' = .node k x l r s ∧ toL t = (k, x) :: B
 | 0, t, h, _ => by omega
 | n + 1, .nil, _, h => by cases h
 | n + 1, .node k x l r s, hh, _ => by
   simp only [shelf_nodeT.hh] at hh
   simp only [Ze9, shelf_nodeT.un, Option.bind_some]
   cases l with
   | nil => exact ⟨_, k, x, .nil, r, s, toL r, rfl, rfl, rfl⟩
   | node k2 x2 l2 r2 s2 =>
     obtain ⟨t', k', x', l', r', s', B, e1, e2, e3⟩ := Zx0 n (.node k2 x2 l2 r2 s2) (by omega) rfl
     exact ⟨t', k', x', l', r', s', B ++ (k, x) :: toL r, by simp [shelf_nodeT.isNil]; exact e1, e2, by
       simp only [toL] at e3 ⊢
       rw [e3]; rfl⟩
theorem Zts : ∀ (n : Nat) (t : shelf_nodeT) (k : ByteArray), t.hh < n → Szd t → Srt (toL t) → (toL t).length + 2 < 1099511627776 →
   ∃ t', Zf7 n t k = some t' ∧ Szd t' ∧ toL t' = delL k (toL t)
 | 0, t, k, h, _, _, _ => by omega
 | n + 1, .nil, k, _, _, _, _ => ⟨.nil, rfl, trivial, rfl⟩
 | n + 1, .node nk nx l r s, k, hh, hz, hs, hb => by
   obtain ⟨z1, z2, z3⟩ := hz
   simp only [toL] at hs hb
   obtain ⟨s1, s2, sA, sB⟩ := Zux hs
   have hlen : (toL l ++ (nk, nx) :: toL r).length = (toL l).length + (toL r).length + 1 := by simp; omega
   rw [hlen] at hb
   simp only [shelf_nodeT.hh] at hh
   simp only [Zf7, Zj1, shelf_nodeT.isNil, shelf_nodeT.un, Bool.false_eq_true, if_false, Option.bind_some]
   by_cases h1 : sLt k nk = true
   · rw [if_pos h1]
     obtain ⟨t1, e1, y1, l1⟩ := Zts n l k (by omega) z1 s1 (by omega)
     have b1 := Zpm k (toL l)
     rw [← l1] at b1
     obtain ⟨t2, e2, y2, l2⟩ := Zow (k := nk) (x := nx) y1 z2 (by omega) (by omega) (by omega)
     refine ⟨t2, by rw [e1]; simp only [Option.bind_some]; rw [e2]; rfl, y2, ?_⟩
     rw [l2, l1]; simp only [toL]; rw [Zzj (by exact h1) (fun q hq => sB q hq)]
   · rw [if_neg h1]
     by_cases h2 : k = nk
     · subst h2
       have he : (!(sLt k k || sEq k k)) = false := by simp [Ze7]
       rw [he]
       simp only [Bool.false_eq_true, if_false]
       have hdel : delL k (toL l ++ (k, nx) :: toL r) = toL l ++ toL r := by
         rw [Zq2 _ (fun q hq => sA q hq)]
         simp [delL, Ze7]
       cases hl : l with
       | nil => exact ⟨r, by simp [shelf_nodeT.isNil, shelf_nodeT.un], z2, by show toL r = delL k (toL .nil ++ (k, nx) :: toL r); rw [← hl, hdel, hl]; rfl⟩
       | node k2 x2 l2 r2 q2 =>
         cases hr : r with
         | nil => exact ⟨l, by simp [shelf_nodeT.isNil, shelf_nodeT.un, hl], z1, by rw [← hl, ← hr]; show toL l = delL k (toL l ++ (k, nx) :: toL r); rw [hdel, hr]; simp [toL]⟩
         | node k3 x3 l3 r3 q3 =>
           rw [← hl, ← hr]
           have hn : r.isNil = false := by rw [hr]; rfl
           have hn1 : l.isNil = false := by rw [hl]; rfl
           obtain ⟨t', k', x', l', r', s', B, e1, e2, e3⟩ := Zx0 (r.hh + 1) r (Nat.lt_succ_self _) hn
           subst e2
           have hf : Zif r = some (.node k' x' l' r' s') := by
             unfold Zif; rw [e1]; rfl
           obtain ⟨t1, c1, y1, l1⟩ := Zts n r k' (by omega) z2 s2 (by omega)
           have hB : toL t1 = B := by rw [l1, e3]; simp [delL, Ze7]
           have hBl : B.length + 1 = (toL r).length := by rw [e3]; simp
           obtain ⟨t2, c2, y2, l2⟩ := Zow (k := k') (x := x') z1 y1 (by omega) (by rw [hB]; omega) (by rw [hB]; omega)
           refine ⟨t2, ?_, y2, ?_⟩
           · simp only [hf, Option.bind_some, shelf_nodeT.un, c1, c2]
             show (if l.isNil = true then some r else if r.isNil = true then some l else some t2) = some t2
             rw [hn, hn1]; rfl
           · show toL t2 = delL k (toL l ++ (k, nx) :: toL r)
             rw [hdel, l2, hB, e3]
     · have h3 : sLt nk k = true := Zms (by simpa using h1) h2
       have he : (!(sLt k nk || sEq k nk)) = true := by simp [Zep.2 h2]; simpa using h1
       rw [he]
       simp only [if_true]
       obtain ⟨t1, e1, y1, l1⟩ := Zts n r k (by omega) z2 s2 (by omega)
       have b1 := Zpm k (toL r)
       rw [← l1] at b1
       obtain ⟨t2, e2, y2, l2⟩ := Zow (k := nk) (x := nx) z1 y1 (by omega) (by omega) (by omega)
       refine ⟨t2, by rw [e1]; simp only [Option.bind_some]; rw [e2]; rfl, y2, ?_⟩
       rw [l2, l1]; simp only [toL]
       rw [Zq2 _ (fun q hq => Zgg (sA q hq) h3)]
       simp [delL, Zep.2 h2]
theorem Z6f {t : shelf_nodeT} {k : ByteArray} (hz : Szd t) (hs : Srt (toL t)) (hb : (toL t).length + 2 < 1099511627776) :
   ∃ t', Zmj t k = some t' ∧ Szd t' ∧ toL t' = delL k (toL t) := Zts _ t k (Nat.lt_succ_self _) hz hs hb
def lk (k : ByteArray) : List KV → Option Ze
 | [] => none
 | p :: l => if sEq k p.1 then some p.2 else lk k l
def rk (k : ByteArray) : List KV → Nat
 | [] => 0
 | p :: l => if sLt p.1 k then rk k l + 1 else 0
theorem Zs2 {k : ByteArray} : ∀ {l : List KV}, (∀ q ∈ l, q.1 ≠ k) → lk k l = none
 | [], _ => rfl
 | p :: l, h => by
   have : sEq k p.1 = false := Zep.2 (fun e => h p (by simp) e.symm)
   simp only [lk, this, Bool.false_eq_true, if_false]
   exact Zs2 fun q hq => h q (by simp [hq])
theorem Z42 {k : ByteArray} {p : KV} {B : List KV} (h : sLt k p.1 = true) (hB : ∀ q ∈ B, sLt p.1 q.1 = true) : ∀ A : List KV, lk k (A ++ p :: B) = lk k A
 | [] => by
   have h1 : sEq k p.1 = false := Zep.2 (Zl1 h)
   simp only [List.nil_append, lk, h1, Bool.false_eq_true, if_false]
   exact Zs2 fun q hq e => by
     have := Zgg h (hB q hq)
     rw [e, Zlu] at this; cases this
 | q :: A => by
   simp only [List.cons_append, lk]
   split
   · rfl
   · exact Z42 h hB A
theorem Zu7 {k : ByteArray} {B : List KV} : ∀ A : List KV, (∀ q ∈ A, sLt q.1 k = true) → lk k (A ++ B) = lk k B
 | [], _ => rfl
 | q :: A, h => by
   have hq := h q (by simp)
   have h2 : sEq k q.1 = false := Zep.2 (fun e => Zl1 hq e.symm)
   simp only [List.cons_append, lk, h2, Bool.false_eq_true, if_false]
   exact Zu7 A fun q hq => h q (by simp [hq])
theorem Ztq (k : ByteArray) : ∀ l : List KV, rk k l ≤ l.length
 | [] => by simp [rk]
 | p :: l => by
   have := Ztq k l
   simp only [rk]
   split <;> simp <;> omega
def Cl (x : Ze) : Prop := x.List.length ≤ 1000
theorem Zpo {x : Ze} (h : Cl x) : Zfu x = some x := by
 unfold Zfu Zb2
 unfold Cl at h
 rw [if_pos (by omega)]
 rfl
abbrev zrec : Ze := { Kind := 0, Num := 0, Low := 0, High := 0, Real := 0, Cap := 0, Text := ByteArray.empty, List := [] }
def getR : Option Ze → Ze × Bool
 | some r => (r, true)
 | none => (zrec, false)
def getE (x : Ze) : Option Ze → (Ze × Bool) ⊕ Ze
 | some r => .inl (r, true)
 | none => .inr x
theorem Zs0 (k : ByteArray) (x : Ze) : ∀ (n : Nat) (t : shelf_nodeT), t.hh < n → Srt (toL t) → (∀ q ∈ toL t, Cl q.2) → Zdz k n x t = some (getE x (lk k (toL t)))
 | 0, t, h, _, _ => by omega
 | n + 1, .nil, _, _, _ => rfl
 | n + 1, .node nk nx l r s, hh, hs, hc => by
   simp only [toL] at hs hc
   obtain ⟨s1, s2, sA, sB⟩ := Zux hs
   simp only [shelf_nodeT.hh] at hh
   simp only [Zdz, shelf_nodeT.isNil, shelf_nodeT.un, Bool.not_false, if_true, Option.bind_some, Zhf, toL]
   by_cases h1 : sLt k nk = true
   · rw [if_pos h1, Zs0 k x n l (by omega) s1 (fun q hq => hc q (by simp [hq])), Z42 (by exact h1) (fun q hq => sB q hq)]
   · rw [if_neg h1]
     by_cases h2 : k = nk
     · subst h2
       have he : (!(sLt k k || sEq k k)) = false := by simp [Ze7]
       rw [he]
       simp only [Bool.false_eq_true, if_false]
       rw [Zpo (hc (k, nx) (by simp)), Zu7 _ (fun q hq => sA q hq)]
       simp [lk, Ze7, getE]
     · have h3 : sLt nk k = true := Zms (by simpa using h1) h2
       have he : (!(sLt k nk || sEq k nk)) = true := by simp [Zep.2 h2]; simpa using h1
       rw [he]
       simp only [if_true]
       rw [Zs0 k x n r (by omega) s2 (fun q hq => hc q (by simp [hq])), Zu7 _ (fun q hq => Zgg (sA q hq) h3)]
       simp [lk, Zep.2 h2]
theorem Z8g {s : Zo} {k : ByteArray} (hs : Srt (toL s.top)) (hc : ∀ q ∈ toL s.top, Cl q.2) : Zfv s k = some (getR (lk k (toL s.top))) := by
 unfold Zfv
 rw [Zs0 k _ _ _ (Nat.lt_succ_self _) hs hc]
 cases lk k (toL s.top) <;> rfl
def atE (x : Ze) : Option KV → (ByteArray × Ze × Bool) ⊕ Ze
 | some p => .inl (p.1, p.2, true)
 | none => .inr x
theorem Z1i {α : Type} {A B : List α} {i : Int} (h : i < A.length) : idx (A ++ B) i = idx A i := by
 unfold idx
 split
 · rw [List.getElem?_append_left (by omega)]
 · rfl
theorem Zy5 {α : Type} {A B : List α} {p : α} : idx (A ++ p :: B) (A.length : Int) = some p := by
 rw [idxn]; simp
theorem Z00 {α : Type} {A B : List α} {p : α} {i : Int} (h : (A.length : Int) < i) : idx (A ++ p :: B) i = idx B (i - (A.length + 1)) := by
 unfold idx
 rw [if_pos (by omega), if_pos (by omega), List.getElem?_append_right (by omega)]
 rw [show i.toNat - A.length = (i - (A.length + 1)).toNat + 1 by omega, List.getElem?_cons_succ]
theorem Zuz (x : Ze) : ∀ (n : Nat) (t : shelf_nodeT) (i : Int), t.hh < n → Szd t → (toL t).length + 2 < 1099511627776 → -1099511627776 < i → i < 1099511627776 → (∀ q ∈ toL t, Cl q.2) → Zds n i x t = some (atE x (idx (toL t) i))
 | 0, t, i, h, _, _, _, _, _ => by omega
 | n + 1, .nil, i, _, _, _, _, _, _ => by
   simp only [Zds, shelf_nodeT.isNil, toL]
   have hn : idx ([] : List KV) i = none := by
     unfold idx
     split <;> simp
   rw [hn]
   rfl
 | n + 1, .node nk nx l r s, i, hh, hz, hb, i1, i2, hc => by
   obtain ⟨z1, z2, z3⟩ := hz
   simp only [toL] at hb hc
   have hlen : (toL l ++ (nk, nx) :: toL r).length = (toL l).length + (toL r).length + 1 := by simp; omega
   rw [hlen] at hb
   simp only [shelf_nodeT.hh] at hh
   simp only [Zds, shelf_nodeT.isNil, shelf_nodeT.un, Bool.not_false, if_true, Option.bind_some, Zhq, toL]
   rw [Zjf z1]
   simp only [Option.bind_some]
   by_cases h1 : i < (toL l).length
   · rw [if_pos (by simpa using h1), Zuz x n l i (by omega) z1 (by omega) i1 i2 (fun q hq => hc q (by simp [hq])), Z1i h1]
   · rw [if_neg (by simpa using h1)]
     by_cases h2 : ((toL l).length : Int) < i
     · rw [if_pos (by simpa using h2), wr (x := ((toL l).length : Int) + 1) (by omega) (by omega), wr (by omega) (by omega), Zuz x n r _ (by omega) z2 (by omega) (by omega) (by omega) (fun q hq => hc q (by simp [hq])), Z00 h2]
     · rw [if_neg (by simpa using h2), Zpo (hc (nk, nx) (by simp))]
       have : i = (toL l).length := by omega
       subst this
       rw [Zy5]; rfl
def atR : Option KV → ByteArray × Ze × Bool
 | some p => (p.1, p.2, true)
 | none => (⟨#[]⟩, zrec, false)
theorem Z9i {s : Zo} {i : Int} (hz : Szd s.top) (hb : (toL s.top).length + 2 < 1099511627776) (i1 : -1099511627776 < i) (i2 : i < 1099511627776) (hc : ∀ q ∈ toL s.top, Cl q.2) : Zjr s i = some (atR (idx (toL s.top) i)) := by
 unfold Zjr
 rw [Zuz _ _ _ _ (Nat.lt_succ_self _) hz hb i1 i2 hc]
 cases idx (toL s.top) i <;> rfl
theorem Zl0 {k : ByteArray} (x : Ze) : ∀ {l : List KV}, Srt l →
   (∃ p, l[rk k l]? = some p ∧ p.1 = k ∧ lk k l = some p.2 ∧ insL k x l = l.take (rk k l) ++ (k, x) :: l.drop (rk k l + 1) ∧ delL k l = l.take (rk k l) ++ l.drop (rk k l + 1)) ∨
   ((∀ p, l[rk k l]? = some p → p.1 ≠ k) ∧ lk k l = none ∧ insL k x l = l.take (rk k l) ++ (k, x) :: l.drop (rk k l) ∧ delL k l = l)
 | [], _ => .inr ⟨fun p h => by simp at h, rfl, rfl, rfl⟩
 | p :: l, hs => by
   obtain ⟨h1, h2⟩ := List.pairwise_cons.1 hs
   by_cases h : sLt p.1 k = true
   · have e1 : sLt k p.1 = false := Zti h
     have e2 : sEq k p.1 = false := Zep.2 (fun e => Zl1 h e.symm)
     simp only [rk, h, if_true, lk, insL, delL, e1, e2, Bool.false_eq_true, if_false, List.getElem?_cons_succ, List.take_succ_cons, List.drop_succ_cons]
     rcases Zl0 x h2 with ⟨q, a1, a2, a3, a4, a5⟩ | ⟨a1, a2, a3, a4⟩
     · exact .inl ⟨q, a1, a2, a3, by rw [a4]; rfl, by rw [a5]; rfl⟩
     · exact .inr ⟨a1, a2, by rw [a3]; rfl, by rw [a4]⟩
   · have h' : sLt p.1 k = false := by simpa using h
     simp only [rk, h', Bool.false_eq_true, if_false]
     by_cases he : k = p.1
     · left
       exact ⟨p, rfl, he.symm, by simp [lk, he, Ze7], by simp [insL, he, Zlu, Ze7], by simp [delL, he, Ze7]⟩
     · right
       have hlt : sLt k p.1 = true := Zms h' (fun e => he e.symm)
       have hne : ∀ q ∈ l, q.1 ≠ k := fun q hq e => by
         have := Zgg hlt (h1 q hq)
         rw [e, Zlu] at this; cases this
       refine ⟨fun q hq e => ?_, ?_, by simp [insL, hlt], ?_⟩
       · simp at hq; subst hq; exact he e.symm
       · simp only [lk, Zep.2 he, Bool.false_eq_true, if_false]; exact Zs2 hne
       · simp only [delL, Zep.2 he, Bool.false_eq_true, if_false]; rw [Zpz l hne]
end Go.CL
