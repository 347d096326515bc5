/- A part of the proof of ShareMerges. -/
import Derived.Test.YtbiobpmabomjfaaDoorShareMergesC3
set_option linter.unusedVariables false
set_option linter.unusedSimpArgs false
set_option maxRecDepth 100000
namespace Go.CL
open Go Go.RowKit Go.Proofs
theorem Zmp (a0 : Zb) {r : Zb × Bool} (h : Zkm a0 = some r) : FnOk Tryd.prog 10 [(Zf.pd a0)] (pTup [(Zf.pd r.1), (Zba r.2)]) := by
 have H0 := h
 unfold Zkm at H0
 clear h
 refine Zbq (N := 32) Tryd.func10 rfl rfl (Nat.le_of_ble_eq_true rfl) rfl rfl (fun a g0 hst hb => ?_)
 refine r_s (T := [⟨[.old 0], _, [], [], [1]⟩, ⟨[], [(2, (pBox Zf 2 (default : Zb)))], [3], [], [2]⟩, ⟨[], _, [], [], [3]⟩]) (F := [.op 0 0, .op 1 0]) hst hb Za
   (o_p rfl (Zbs rfl rfl u_0) <| o_p rfl (Zbi (zs := [.int .i64 0, .int .i64 0, .int .i64 0, .int .i64 0, .float .f64 0, .int .i64 0, .string ByteArray.empty, .slice none 0 0]) (by kernel_rfl) (fun g => Zbo g) rfl rfl) <| o_p rfl (Zc rfl rfl c_b) <| o_n) (by kernel_rfl) (fun a g hst hb => ?_)
 refine wp_seq ?_
 obtain ⟨r1, h2, H0⟩ := Zk H0
 refine r_s (T := [⟨[.old 0], _, [], [], [4]⟩, ⟨[.op 0 0], _, [], [0], [5]⟩, ⟨[.op 1 0], _, [], [0, 1], [6]⟩]) (F := [.old 0, .old 1, .op 2 0]) hst hb Za
   (o_p rfl (Zg Z0 rfl rfl u_0) <| o_p rfl (Zt Zr1 (Zj6 _ h2) rfl rfl (.cons u_0 .nil)) <| o_p rfl (Zdu rfl rfl u_0 c_i) <| o_n) (by kernel_rfl) (fun a g hst hb => ?_)
 refine wp_cond_split (hst.bool 2 rfl) (fun hc3 => ?_) (fun hc3 => ?_)
 · replace H0 := Zp hc3 H0
   refine r_s (L := [(2, _)]) (T := [⟨[], _, [], [], [7]⟩, ⟨[.op 0 0, .old 0], _, [3], [0], [2]⟩, ⟨[], _, [], [0, 1], [3]⟩]) (F := [.op 1 0, .op 2 0]) (hst.pick [1] rfl) hb Za
     (o_p rfl (Zkt rfl rfl ) <| o_p rfl (Z5 Z0 rfl rfl u_1 u_0) <| o_p rfl (Zc rfl rfl c_b) <| o_n) (by kernel_rfl) (fun a g hst hb => ?_)
   refine wp_ret ?_
   refine Zm ?_
   obtain rfl := Option.some.inj H0
   obtain ⟨u0, hu0, hq0⟩ := Zbe (P := Tryd.prog) Z0 (hst.at 0 rfl)
   exact Zhk rfl hst hb hu0 (Zl (s := 3)) (Zf1 hq0 (hst.at 1 rfl))
 · replace H0 := Zo hc3 H0
   refine wp_skip ?_
   refine Zq ?_
   refine wp_seq ?_
   refine r_s (L := [(1, _), (2, _)]) (T := [⟨[.old 0], _, [], [], [8]⟩, ⟨[.op 0 0], _, [], [0], [9]⟩]) (F := [.old 0, .old 1, .op 1 0]) (hst.pick [0, 1] rfl) hb Za
     (o_p rfl (Ze Zcx rfl rfl u_0) <| o_p rfl (Zg ty_3 rfl rfl u_0) <| o_n) (by kernel_rfl) (fun a g hst hb => ?_)
   refine wp_block ?_
   refine wp_seq ?_
   refine r_s (T := [⟨[.old 2], _, [], [], [11]⟩, ⟨[.op 0 0], _, [], [0], [10]⟩]) (F := [.old 0, .old 1, .old 2, .op 1 0]) hst hb Za
     (o_p rfl (Z7 rfl rfl u_0 c_i) <| o_p rfl (Zc rfl rfl u_0) <| o_n) (by kernel_rfl) (fun a g hst hb => ?_)
   refine Zbv (fun a w => ∃ (j6 : Bool) (g : G), w = g.w ∧ St 32 [(1, (Zf.ptr a0)), (2, (pBox Zf 2 (default : Zb))), (9, (pInt .i64 a0.Kind)), (10, (Zba j6))] a g ∧ Base g0 g ∧ Zhy a0 j6 = some r) ?_ ?_
   · rintro a w ⟨j6, g, rfl, hst, hb, H0⟩
     unfold Zhy at H0
     refine Zq ?_
     refine wp_cond_split (hst.bool 3 rfl) (fun hc7 => ?_) (fun hc7 => ?_)
     · replace H0 := Zp hc7 H0
       refine r_s (L := [(2, _)]) (T := [⟨[], _, [], [], [14]⟩, ⟨[.op 0 0, .old 0], _, [3], [0], [2]⟩, ⟨[], _, [], [0, 1], [3]⟩]) (F := [.op 1 0, .op 2 0]) (hst.pick [1] rfl) hb Za
         (o_p rfl (Z0q rfl rfl c_i) <| o_p rfl (Z5 Z0 rfl rfl u_1 u_0) <| o_p rfl (Zc rfl rfl c_b) <| o_n) (by kernel_rfl) (fun a g hst hb => ?_)
       refine wp_ret ?_
       refine Zv ?_
       refine Zm ?_
       obtain rfl := Option.some.inj H0
       obtain ⟨u0, hu0, hq0⟩ := Zbe (P := Tryd.prog) Z0 (hst.at 0 rfl)
       exact Zhk rfl hst hb hu0 (Zl (s := 3)) (Zf1 hq0 (hst.at 1 rfl))
     · replace H0 := Zo hc7 H0
       refine r_s (L := [(1, _), (2, _), (9, _)]) (T := [⟨[.old 2], _, [], [], [16]⟩, ⟨[.op 0 0], _, [], [0], [15]⟩]) (F := [.old 0, .old 1, .old 2, .op 1 0]) (hst.pick [0, 1, 2] rfl) hb Za
         (o_p rfl (Z7 rfl rfl u_0 c_i) <| o_p rfl (Zc rfl rfl u_0) <| o_n) (by kernel_rfl) (fun a g hst hb => ?_)
       refine wp_cond_split (hst.bool 3 rfl) (fun hc8 => ?_) (fun hc8 => ?_)
       · replace H0 := Zp hc8 H0
         obtain ⟨r9, h10, H0⟩ := Zk H0
         refine r_s (L := [(2, _)]) (T := [⟨[], _, [], [], [17]⟩, ⟨[.op 0 0], _, [], [0], [18]⟩, ⟨[.op 1 0, .old 0], _, [3], [0, 1], [2]⟩, ⟨[], _, [], [0, 1, 2], [3]⟩]) (F := [.op 2 0, .op 3 0]) (hst.pick [1] rfl) hb Za
           (o_p rfl (Zt Z33 (Ztv _ h10) rfl rfl (.cons c_i .nil)) <| o_p rfl (Zq7 rfl rfl c_i u_0) <| o_p rfl (Z5 Z0 rfl rfl u_1 u_0) <| o_p rfl (Zc rfl rfl c_b) <| o_n) (by kernel_rfl) (fun a g hst hb => ?_)
         refine wp_ret ?_
         refine Zv ?_
         refine Zm ?_
         obtain rfl := Option.some.inj H0
         obtain ⟨u0, hu0, hq0⟩ := Zbe (P := Tryd.prog) Z0 (hst.at 0 rfl)
         exact Zhk rfl hst hb hu0 (Zl (s := 3)) (Zf1 hq0 (hst.at 1 rfl))
       · replace H0 := Zo hc8 H0
         refine r_s (L := [(1, _), (2, _), (9, _)]) (T := [⟨[.old 2], _, [], [], [20]⟩, ⟨[.op 0 0], _, [], [0], [19]⟩]) (F := [.old 0, .old 1, .old 2, .op 1 0]) (hst.pick [0, 1, 2] rfl) hb Za
           (o_p rfl (Z7 rfl rfl u_0 c_i) <| o_p rfl (Zc rfl rfl u_0) <| o_n) (by kernel_rfl) (fun a g hst hb => ?_)
         refine wp_cond_split (hst.bool 3 rfl) (fun hc11 => ?_) (fun hc11 => ?_)
         · replace H0 := Zp hc11 H0
           obtain ⟨r12, h13, H0⟩ := Zk H0
           refine r_s (L := [(2, _)]) (T := [⟨[], _, [], [], [21]⟩, ⟨[.op 0 0], _, [], [0], [22]⟩, ⟨[.op 1 0, .old 0], _, [3], [0, 1], [2]⟩, ⟨[], _, [], [0, 1, 2], [3]⟩]) (F := [.op 2 0, .op 3 0]) (hst.pick [1] rfl) hb Za
             (o_p rfl (Zt Zyl (Zo6 h13) rfl rfl .nil) <| o_p rfl (Zq7 rfl rfl c_i u_0) <| o_p rfl (Z5 Z0 rfl rfl u_1 u_0) <| o_p rfl (Zc rfl rfl c_b) <| o_n) (by kernel_rfl) (fun a g hst hb => ?_)
           refine wp_ret ?_
           refine Zv ?_
           refine Zm ?_
           obtain rfl := Option.some.inj H0
           obtain ⟨u0, hu0, hq0⟩ := Zbe (P := Tryd.prog) Z0 (hst.at 0 rfl)
           exact Zhk rfl hst hb hu0 (Zl (s := 3)) (Zf1 hq0 (hst.at 1 rfl))
         · replace H0 := Zo hc11 H0
           refine r_s (L := [(1, _), (2, _), (9, _)]) (T := [⟨[.old 2], _, [], [], [24]⟩, ⟨[.op 0 0], _, [], [0], [23]⟩]) (F := [.old 0, .old 1, .old 2, .op 1 0]) (hst.pick [0, 1, 2] rfl) hb Za
             (o_p rfl (Z7 rfl rfl u_0 c_i) <| o_p rfl (Zc rfl rfl u_0) <| o_n) (by kernel_rfl) (fun a g hst hb => ?_)
           refine wp_cond_split (hst.bool 3 rfl) (fun hc14 => ?_) (fun hc14 => ?_)
           · replace H0 := Zp hc14 H0
             refine r_s (L := [(2, _)]) (T := [⟨[], _, [], [], [25]⟩, ⟨[.op 0 0, .old 0], _, [3], [0], [2]⟩, ⟨[], _, [], [0, 1], [3]⟩]) (F := [.op 1 0, .op 2 0]) (hst.pick [1] rfl) hb Za
               (o_p rfl (Zrl rfl rfl c_i c_i) <| o_p rfl (Z5 Z0 rfl rfl u_1 u_0) <| o_p rfl (Zc rfl rfl c_b) <| o_n) (by kernel_rfl) (fun a g hst hb => ?_)
             refine wp_ret ?_
             refine Zv ?_
             refine Zm ?_
             obtain rfl := Option.some.inj H0
             obtain ⟨u0, hu0, hq0⟩ := Zbe (P := Tryd.prog) Z0 (hst.at 0 rfl)
             exact Zhk rfl hst hb hu0 (Zl (s := 3)) (Zf1 hq0 (hst.at 1 rfl))
           · replace H0 := Zo hc14 H0
             refine r_s (L := [(1, _), (2, _), (9, _)]) (T := [⟨[.old 2], _, [], [], [27]⟩, ⟨[.op 0 0], _, [], [0], [26]⟩]) (F := [.old 0, .old 1, .op 1 0]) (hst.pick [0, 1, 2] rfl) hb Za
               (o_p rfl (Z7 rfl rfl u_0 c_i) <| o_p rfl (Zc rfl rfl u_0) <| o_n) (by kernel_rfl) (fun a g hst hb => ?_)
             refine wp_cond_split (hst.bool 2 rfl) (fun hc15 => ?_) (fun hc15 => ?_)
             · replace H0 := Zp hc15 H0
               refine r_s (L := [(1, _), (2, _)]) (T := [⟨[.old 0], _, [], [], [28]⟩, ⟨[.op 0 0], _, [], [0], [29]⟩, ⟨[.op 1 0], _, [], [0, 1], [30]⟩, ⟨[.op 2 0, .old 1], _, [3], [0, 1, 2], [2]⟩, ⟨[], _, [], Lr 4, [3]⟩]) (F := [.op 3 0, .op 4 0]) (hst.pick [0, 1] rfl) hb Za
                 (o_p rfl (Ze Zeo rfl rfl u_0) <| o_p rfl (Zg ty_3 rfl rfl u_0) <| o_p rfl (Zrl rfl rfl c_i u_0) <| o_p rfl (Z5 Z0 rfl rfl u_1 u_0) <| o_p rfl (Zc rfl rfl c_b) <| o_n) (by kernel_rfl) (fun a g hst hb => ?_)
               refine wp_ret ?_
               refine Zv ?_
               refine Zm ?_
               obtain rfl := Option.some.inj H0
               obtain ⟨u0, hu0, hq0⟩ := Zbe (P := Tryd.prog) Z0 (hst.at 0 rfl)
               exact Zhk rfl hst hb hu0 (Zl (s := 3)) (Zf1 hq0 (hst.at 1 rfl))
             · replace H0 := Zo hc15 H0
               refine wp_skip ?_
               refine Z6 ?_
               refine Zq ?_
               refine r_s (L := [(2, _)]) (T := [⟨[], _, [], [], [31]⟩, ⟨[.op 0 0, .old 0], _, [3], [0], [2]⟩, ⟨[], _, [], [0, 1], [3]⟩]) (F := [.op 1 0, .op 2 0]) (hst.pick [1] rfl) hb Za
                 (o_p rfl (Zkt rfl rfl ) <| o_p rfl (Z5 Z0 rfl rfl u_1 u_0) <| o_p rfl (Zc rfl rfl c_b) <| o_n) (by kernel_rfl) (fun a g hst hb => ?_)
               refine wp_ret ?_
               obtain rfl := Option.some.inj H0
               obtain ⟨u0, hu0, hq0⟩ := Zbe (P := Tryd.prog) Z0 (hst.at 0 rfl)
               exact Zhk rfl hst hb hu0 (Zl (s := 3)) (Zf1 hq0 (hst.at 1 rfl))
   · refine wp_cond_split (hst.bool 3 rfl) (fun hc4 => ?_) (fun hc4 => ?_)
     · replace H0 := Zp hc4 H0
       refine wp_skip ?_
       exact ⟨(a0.Kind == (2 : Int)), g, rfl, (hst.pick [0, 1, 2, 3] rfl), hb, H0⟩
     · replace H0 := Zo hc4 H0
       refine r_s (L := [(1, _), (2, _), (9, _)]) (T := [⟨[.old 2], _, [], [], [12]⟩, ⟨[.op 0 0], _, [], [0], [10]⟩]) (F := [.old 0, .old 1, .old 2, .op 1 0]) (hst.pick [0, 1, 2] rfl) hb Za
         (o_p rfl (Z7 rfl rfl u_0 c_i) <| o_p rfl (Zc rfl rfl u_0) <| o_n) (by kernel_rfl) (fun a g hst hb => ?_)
       refine wp_cond_split (hst.bool 3 rfl) (fun hc5 => ?_) (fun hc5 => ?_)
       · replace H0 := Zp hc5 H0
         refine wp_skip ?_
         exact ⟨(a0.Kind == (3 : Int)), g, rfl, (hst.pick [0, 1, 2, 3] rfl), hb, H0⟩
       · replace H0 := Zo hc5 H0
         refine r_g (L := [(1, _), (2, _), (9, _)]) (T := [⟨[.old 2], _, [], [], [13]⟩, ⟨[.op 0 0], _, [], [0], [10]⟩]) (F := [.old 0, .old 1, .old 2, .op 1 0]) (hst.pick [0, 1, 2] rfl) hb Za
           (o_p rfl (Z7 rfl rfl u_0 c_i) <| o_p rfl (Zc rfl rfl u_0) <| o_n) (by kernel_rfl) (fun a g hst hb => ?_)
         exact ⟨(a0.Kind == (4 : Int)), g, rfl, (hst.pick [0, 1, 2, 3] rfl), hb, H0⟩
theorem Zrj (a0 : Int) {r : Zcy} (h : Zlg a0 = some r) : FnOk Tryd.prog 62 [(pInt .i64 a0)] (Zdm.pd r) := by
 have H0 := h
 unfold Zlg at H0
 clear h
 refine Zbq (N := 13) Tryd.func62 rfl rfl (Nat.le_of_ble_eq_true rfl) rfl rfl (fun a g0 hst hb => ?_)
 refine r_s (T := [⟨[], [(2, (pBox Zdm 2 (default : Zcy)))], [3], [], [2]⟩]) (F := [.old 0, .op 0 0]) hst hb Za
   (o_p rfl (Zbi (zs := [.string ByteArray.empty, .int .i64 0, .string ByteArray.empty]) (by kernel_rfl) (fun g => Zpf g) rfl rfl) <| o_n) (by kernel_rfl) (fun a g hst hb => ?_)
 refine wp_seq ?_
 refine r_s (T := [⟨[.old 0], _, [], [], [3]⟩, ⟨[.op 0 0], _, [], [0], [4]⟩, ⟨[.op 1 0], _, [], [0, 1], [5]⟩, ⟨[.op 2 0, .old 0], _, [], [0, 1, 2], [6]⟩, ⟨[.op 2 0, .op 3 0], _, [], Lr 4, [7]⟩, ⟨[.op 2 0, .op 4 0], _, [], Lr 5, [8]⟩]) (F := [.old 0, .old 1, .op 5 0]) hst hb Za
   (o_p rfl (Zd rfl rfl u_0) <| o_p rfl (Zu9 rfl rfl u_0 c_i) <| o_p rfl (Zd rfl rfl u_0) <| o_g (g_f rfl rfl rfl (fun hG => Zd rfl rfl u_0)) <| o_g (g_f rfl rfl rfl (fun hG => Zji rfl rfl (Opd.gd hG u_0) c_i)) <| o_p rfl (Zbj rfl rfl u_0 (fun hz => (Opd.gd (bNF hz) u_1))) <| o_n) (by kernel_rfl) (fun a g hst hb => ?_)
 refine wp_cond_split (hst.bool 2 rfl) (fun hc1 => ?_) (fun hc1 => ?_)
 · replace H0 := Zp hc1 H0
   refine r_s (L := [(2, _)]) (T := [⟨[], _, [], [], [9]⟩, ⟨[.op 0 0, .old 0], _, [3], [0], [2]⟩]) (F := [.op 1 0]) (hst.pick [1] rfl) hb Za
     (o_p rfl (Zz4 rfl rfl ) <| o_p rfl (Z5 Zig rfl rfl u_1 u_0) <| o_n) (by kernel_rfl) (fun a g hst hb => ?_)
   refine wp_ret ?_
   refine Zm ?_
   obtain rfl := Option.some.inj H0
   obtain ⟨u0, hu0, hq0⟩ := Zbe (P := Tryd.prog) Zig (hst.at 0 rfl)
   exact Zx rfl hst hb hu0 hq0
 · replace H0 := Zo hc1 H0
   refine wp_skip ?_
   refine Zq ?_
   obtain ⟨e2, h3, H0⟩ := Zk H0
   refine r_s (L := [(0, _), (2, _)]) (T := [⟨[.old 0], _, [], [], [10]⟩, ⟨[.op 0 0], _, [], [0], [11]⟩, ⟨[.op 1 0], _, [], [0, 1], [12]⟩, ⟨[.op 2 0, .old 1], _, [3], [0, 1, 2], [2]⟩]) (F := [.op 3 0]) (hst.pick [0, 1] rfl) hb Za
     (o_p rfl (Zd rfl rfl u_0) <| o_p rfl (Zt0 Tryd.underlying127 Z2q rfl rfl (Opd.glob gm_1 gk_1) u_0 h3) <| o_p rfl (Zg Zig rfl rfl u_0) <| o_p rfl (Z5 Zig rfl rfl u_1 u_0) <| o_n) (by kernel_rfl) (fun a g hst hb => ?_)
   refine wp_ret ?_
   obtain rfl := Option.some.inj H0
   obtain ⟨u0, hu0, hq0⟩ := Zbe (P := Tryd.prog) Zig (hst.at 0 rfl)
   exact Zx rfl hst hb hu0 hq0
theorem Zq3 (a0 : Int) {r : Int} (h : Zll a0 = some r) : FnOk Tryd.prog 34 [(pInt .i64 a0)] (pInt .i64 r) := by
 have H0 := h
 unfold Zll at H0
 clear h
 refine Zbq (N := 6) Tryd.func34 rfl rfl (Nat.le_of_ble_eq_true rfl) rfl rfl (fun a g0 hst hb => ?_)
 refine r_s (T := [⟨[], _, [], [], [2]⟩]) (F := [.old 0]) hst hb Za
   (o_p rfl (Zc rfl rfl c_i) <| o_n) (by kernel_rfl) (fun a g hst hb => ?_)
 obtain ⟨r1, h2, H0⟩ := Zk H0
 refine r_s (T := [⟨[.old 0], _, [], [], [3]⟩, ⟨[.op 0 0], _, [], [0], [4]⟩, ⟨[.op 1 0], _, [], [0, 1], [5]⟩, ⟨[.op 2 0], _, [], [0, 1, 2], [2]⟩]) (F := [.op 3 0]) hst hb Za
   (o_p rfl (Zd rfl rfl u_0) <| o_p rfl (Zt Zzn (Zrj _ h2) rfl rfl (.cons u_0 .nil)) <| o_p rfl (Zso Zs5 rfl rfl u_0) <| o_p rfl (Zc rfl rfl u_0) <| o_n) (by kernel_rfl) (fun a g hst hb => ?_)
 refine wp_ret ?_
 obtain rfl := Option.some.inj H0
 exact Zx rfl hst hb (Zl (s := 2)) (hst.at 0 rfl)
theorem Zl1 (a0 : Int) (a1 : Int) {r : Bool} (h : Zj5 a0 a1 = some r) : FnOk Tryd.prog 12 [(pInt .i64 a0), (pInt .i64 a1)] (Zba r) := by
 have H0 := h
 unfold Zj5 at H0
 clear h
 refine Zbq (N := 19) Tryd.func12 rfl rfl (Nat.le_of_ble_eq_true rfl) rfl rfl (fun a g0 hst hb => ?_)
 refine r_s (T := [⟨[], _, [], [], [4]⟩]) (F := [.old 0, .old 1]) hst hb Za
   (o_p rfl (Zc rfl rfl c_b) <| o_n) (by kernel_rfl) (fun a g hst hb => ?_)
 refine wp_seq ?_
 refine r_s (T := [⟨[.old 1], _, [], [], [5]⟩]) (F := [.old 0, .old 1, .op 0 0]) hst hb Za
   (o_p rfl (Zd rfl rfl u_0) <| o_n) (by kernel_rfl) (fun a g hst hb => ?_)
 refine wp_block ?_
 refine wp_seq ?_
 refine r_s (T := [⟨[.old 2], _, [], [], [7]⟩, ⟨[.op 0 0], _, [], [0], [6]⟩]) (F := [.old 0, .old 1, .old 2, .op 1 0]) hst hb Za
   (o_p rfl (Z7 rfl rfl u_0 c_i) <| o_p rfl (Zc rfl rfl u_0) <| o_n) (by kernel_rfl) (fun a g hst hb => ?_)
 refine Zbv (fun a w => ∃ (j8 : Bool) (g : G), w = g.w ∧ St 19 [(0, (pInt .i64 a0)), (1, (pInt .i64 a1)), (6, (Zba j8))] a g ∧ Base g0 g ∧ Zds a0 a1 j8 = some r) ?_ ?_
 · rintro a w ⟨j8, g, rfl, hst, hb, H0⟩
   unfold Zds at H0
   refine Zq ?_
   refine wp_cond_split (hst.bool 2 rfl) (fun hc9 => ?_) (fun hc9 => ?_)
   · replace H0 := Zp hc9 H0
     obtain ⟨r10, h11, H0⟩ := Zk H0
     refine r_s (L := [(0, _), (1, _)]) (T := [⟨[.old 1], _, [], [], [15]⟩, ⟨[.op 0 0], _, [], [0], [16]⟩, ⟨[.old 0], _, [], [], [17]⟩, ⟨[.op 1 0, .op 2 0], _, [], [0, 1, 2], [18]⟩, ⟨[.op 3 0], _, [], Lr 4, [4]⟩]) (F := [.op 4 0]) (hst.pick [0, 1] rfl) hb Za
       (o_p rfl (Zd rfl rfl u_0) <| o_p rfl (Zt Zzf (Zq3 _ h11) rfl rfl (.cons u_0 .nil)) <| o_p rfl (Zd rfl rfl u_0) <| o_p rfl (Z7 rfl rfl u_0 u_1) <| o_p rfl (Zc rfl rfl u_0) <| o_n) (by kernel_rfl) (fun a g hst hb => ?_)
     refine wp_ret ?_
     refine Zv ?_
     refine Zm ?_
     obtain rfl := Option.some.inj H0
     exact Zx rfl hst hb (Zl (s := 4)) (hst.at 0 rfl)
   · replace H0 := Zo hc9 H0
     refine wp_skip ?_
     refine Z6 ?_
     refine Zq ?_
     refine r_s (L := []) (T := [⟨[], _, [], [], [4]⟩]) (F := [.op 0 0]) (hst.pick [] rfl) hb Za
       (o_p rfl (Zc rfl rfl c_b) <| o_n) (by kernel_rfl) (fun a g hst hb => ?_)
     refine wp_ret ?_
     obtain rfl := Option.some.inj H0
     exact Zx rfl hst hb (Zl (s := 4)) (hst.at 0 rfl)
 · refine wp_cond_split (hst.bool 3 rfl) (fun hc1 => ?_) (fun hc1 => ?_)
   · replace H0 := Zp hc1 H0
     refine wp_skip ?_
     exact ⟨(a1 == (7 : Int)), g, rfl, (hst.pick [0, 1, 3] rfl), hb, H0⟩
   · replace H0 := Zo hc1 H0
     refine r_s (L := [(0, _), (1, _), (5, _)]) (T := [⟨[.old 2], _, [], [], [8]⟩, ⟨[.op 0 0], _, [], [0], [6]⟩]) (F := [.old 0, .old 1, .old 2, .op 1 0]) (hst.pick [0, 1, 2] rfl) hb Za
       (o_p rfl (Z7 rfl rfl u_0 c_i) <| o_p rfl (Zc rfl rfl u_0) <| o_n) (by kernel_rfl) (fun a g hst hb => ?_)
     refine wp_cond_split (hst.bool 3 rfl) (fun hc2 => ?_) (fun hc2 => ?_)
     · replace H0 := Zp hc2 H0
       refine wp_skip ?_
       exact ⟨(a1 == (8 : Int)), g, rfl, (hst.pick [0, 1, 3] rfl), hb, H0⟩
     · replace H0 := Zo hc2 H0
       refine r_s (L := [(0, _), (1, _), (5, _)]) (T := [⟨[.old 2], _, [], [], [9]⟩, ⟨[.op 0 0], _, [], [0], [6]⟩]) (F := [.old 0, .old 1, .old 2, .op 1 0]) (hst.pick [0, 1, 2] rfl) hb Za
         (o_p rfl (Z7 rfl rfl u_0 c_i) <| o_p rfl (Zc rfl rfl u_0) <| o_n) (by kernel_rfl) (fun a g hst hb => ?_)
       refine wp_cond_split (hst.bool 3 rfl) (fun hc3 => ?_) (fun hc3 => ?_)
       · replace H0 := Zp hc3 H0
         refine wp_skip ?_
         exact ⟨(a1 == (10 : Int)), g, rfl, (hst.pick [0, 1, 3] rfl), hb, H0⟩
       · replace H0 := Zo hc3 H0
         refine r_s (L := [(0, _), (1, _), (5, _)]) (T := [⟨[.old 2], _, [], [], [10]⟩, ⟨[.op 0 0], _, [], [0], [6]⟩]) (F := [.old 0, .old 1, .old 2, .op 1 0]) (hst.pick [0, 1, 2] rfl) hb Za
           (o_p rfl (Z7 rfl rfl u_0 c_i) <| o_p rfl (Zc rfl rfl u_0) <| o_n) (by kernel_rfl) (fun a g hst hb => ?_)
         refine wp_cond_split (hst.bool 3 rfl) (fun hc4 => ?_) (fun hc4 => ?_)
         · replace H0 := Zp hc4 H0
           refine wp_skip ?_
           exact ⟨(a1 == (11 : Int)), g, rfl, (hst.pick [0, 1, 3] rfl), hb, H0⟩
         · replace H0 := Zo hc4 H0
           refine r_s (L := [(0, _), (1, _), (5, _)]) (T := [⟨[.old 2], _, [], [], [11]⟩, ⟨[.op 0 0], _, [], [0], [6]⟩]) (F := [.old 0, .old 1, .old 2, .op 1 0]) (hst.pick [0, 1, 2] rfl) hb Za
             (o_p rfl (Z7 rfl rfl u_0 c_i) <| o_p rfl (Zc rfl rfl u_0) <| o_n) (by kernel_rfl) (fun a g hst hb => ?_)
           refine wp_cond_split (hst.bool 3 rfl) (fun hc5 => ?_) (fun hc5 => ?_)
           · replace H0 := Zp hc5 H0
             refine wp_skip ?_
             exact ⟨(a1 == (13 : Int)), g, rfl, (hst.pick [0, 1, 3] rfl), hb, H0⟩
           · replace H0 := Zo hc5 H0
             refine r_s (L := [(0, _), (1, _), (5, _)]) (T := [⟨[.old 2], _, [], [], [12]⟩, ⟨[.op 0 0], _, [], [0], [6]⟩]) (F := [.old 0, .old 1, .old 2, .op 1 0]) (hst.pick [0, 1, 2] rfl) hb Za
               (o_p rfl (Z7 rfl rfl u_0 c_i) <| o_p rfl (Zc rfl rfl u_0) <| o_n) (by kernel_rfl) (fun a g hst hb => ?_)
             refine wp_cond_split (hst.bool 3 rfl) (fun hc6 => ?_) (fun hc6 => ?_)
             · replace H0 := Zp hc6 H0
               refine wp_skip ?_
               exact ⟨(a1 == (14 : Int)), g, rfl, (hst.pick [0, 1, 3] rfl), hb, H0⟩
             · replace H0 := Zo hc6 H0
               refine r_s (L := [(0, _), (1, _), (5, _)]) (T := [⟨[.old 2], _, [], [], [13]⟩, ⟨[.op 0 0], _, [], [0], [6]⟩]) (F := [.old 0, .old 1, .old 2, .op 1 0]) (hst.pick [0, 1, 2] rfl) hb Za
                 (o_p rfl (Z7 rfl rfl u_0 c_i) <| o_p rfl (Zc rfl rfl u_0) <| o_n) (by kernel_rfl) (fun a g hst hb => ?_)
               refine wp_cond_split (hst.bool 3 rfl) (fun hc7 => ?_) (fun hc7 => ?_)
               · replace H0 := Zp hc7 H0
                 refine wp_skip ?_
                 exact ⟨(a1 == (18 : Int)), g, rfl, (hst.pick [0, 1, 3] rfl), hb, H0⟩
               · replace H0 := Zo hc7 H0
                 refine r_g (L := [(0, _), (1, _), (5, _)]) (T := [⟨[.old 2], _, [], [], [14]⟩, ⟨[.op 0 0], _, [], [0], [6]⟩]) (F := [.old 0, .old 1, .op 1 0]) (hst.pick [0, 1, 2] rfl) hb Za
                   (o_p rfl (Z7 rfl rfl u_0 c_i) <| o_p rfl (Zc rfl rfl u_0) <| o_n) (by kernel_rfl) (fun a g hst hb => ?_)
                 exact ⟨(a1 == (21 : Int)), g, rfl, (hst.pick [0, 1, 2] rfl), hb, H0⟩
theorem Zjd (a0 : (List Zh)) {r : (List Zh)} (h : Zbt a0 = some r) : FnOk Tryd.prog 64 [(Zr.sl.pd a0)] (Zr.sl.pd r) := by
 unfold Zbt at h
 obtain ⟨hsz, H0⟩ := Zhb h
 obtain rfl := Option.some.inj H0
 refine Zbq (N := 8) Tryd.func64 rfl rfl (Nat.le_of_ble_eq_true rfl) rfl rfl (fun a g0 hst hb => ?_)
 refine wp_seq ?_
 refine Zmi Za (N := 8) (L := [(0, (Zr.sl.pd a0))]) (T := [⟨[], [(2, (Zr.sl.pd []))], [], [], [2]⟩]) (F := [.old 0]) (by kernel_rfl)
   (Zhc (OT.plain rfl (Zc rfl rfl (Opd.c (fun g => Zix g)))) Zl3) hst hb (fun a g hst hb => ?_)
 refine Zq ?_
 refine wp_seq ?_
 refine wp_seq ?_
 refine Zmi Za (N := 8) (L := [(0, (Zr.sl.pd a0))]) (T := [⟨[.old 0], [(3, (Zr.sl.pd a0))], [], [], [3]⟩, ⟨[.op 0 0], [(4, Zyt a0)], [], [0], [4]⟩]) (F := [.old 0, .op 1 0]) (by kernel_rfl)
   (Zhc (OT.plain rfl (Zd rfl rfl Opd.t0)) (Zhc (OT.plain rfl (Zul Tryd.underlying23 rfl rfl Opd.t0)) Zl3)) hst hb (fun a g hst hb => ?_)
 refine Zq ?_
 obtain ⟨c, hc, hc'⟩ := hst.at 1 rfl
 refine wp_cond_split hc (fun ht => ?_) (fun hf => ?_)
 · obtain rfl := hc' ht
   refine wp_seq ?_
   refine Zmi Za (N := 8) (L := []) (T := [⟨[], [(2, (Zr.sl.pd []))], [], [], [2]⟩]) (F := [.op 0 0]) (by kernel_rfl)
     (Zhc (OT.plain rfl (Zc rfl rfl (Opd.c (fun g => Zix g)))) Zl3) (hst.pick [] rfl) hb (fun a g hst hb => ?_)
   refine Zq ?_
   refine wp_ret ?_
   refine Zm ?_
   exact Zx rfl hst hb (Zl (s := 2)) (hst.at 0 rfl)
 · refine wp_skip ?_
   refine Zq ?_
   refine wp_seq ?_
   have hsz' : (([] : (List Zh)).length + a0.length) * 24 ≤ 140737488355328 := by simpa using hsz
   refine Zmi Za (N := 8) (L := [(0, (Zr.sl.pd a0))]) (T := [⟨[], [(5, (pRow Zr 75 5 []))], [6], [], [5]⟩, ⟨[.old 0], [(6, (Zr.sl.pd a0))], [], [], [6]⟩, ⟨[.op 0 0, .op 1 0], [(7, (pRow Zr 75 5 ([] ++ a0)))], [6], [0, 1], [5, 7]⟩, ⟨[.op 2 0], [(2, (pRow Zr 75 5 ([] ++ a0)))], [], [0, 1, 2], [2]⟩]) (F := [.op 3 0]) (by kernel_rfl)
     (Zhc (OT.plain rfl (Zkp 5 Zcu (xs := []) .nil (by decide) rfl rfl)) (Zhc (OT.plain rfl (Zd rfl rfl Opd.t0)) (Zhc (OT.plain rfl (Zi5 Zcu rfl rfl Opd.t0 (Opd.tl Opd.t0) hsz')) (Zhc (OT.plain rfl (Zc rfl rfl Opd.t0)) Zl3)))) (hst.pick [0] rfl) hb (fun a g hst hb => ?_)
   refine Zq ?_
   refine wp_ret ?_
   exact Zx rfl hst hb (Zl (s := 2)) (Zks (hst.at 0 rfl))
theorem Zek (a0 : (List Zh)) {r : (List Zh)} (h : Zbt a0 = some r) : Zqu Tryd.prog 64 [(Zr.sl.pd a0)] Zr 75 r := by
 unfold Zbt at h
 obtain ⟨hsz, H0⟩ := Zhb h
 obtain rfl := Option.some.inj H0
 refine Zvw (N := 8) Tryd.func64 rfl rfl (Nat.le_of_ble_eq_true rfl) rfl (fun a g0 h0 hst hb => ?_)
 refine r_s (T := [⟨[], [(2, (Zr.sl.pd []))], [], [], [2]⟩]) (F := [.old 0]) hst hb Za
   (o_p rfl (Zc rfl rfl (Opd.c (fun g => Zix g))) <| o_n) (by kernel_rfl) (fun a g hst hb => ?_)
 refine wp_seq ?_
 refine r_s (T := [⟨[.old 0], _, [], [], [3]⟩, ⟨[.op 0 0], _, [], [0], [4]⟩]) (F := [.old 0, .op 1 0]) hst hb Za
   (o_p rfl (Zd rfl rfl u_0) <| o_p rfl (Zul Tryd.underlying23 rfl rfl u_0) <| o_n) (by kernel_rfl) (fun a g hst hb => ?_)
 obtain ⟨c, hc, hc'⟩ := hst.at 1 rfl
 refine wp_cond_split hc (fun ht => ?_) (fun hf => ?_)
 · obtain rfl := hc' ht
   refine r_s (L := []) (T := [⟨[], [(2, (pEq (.slice none 0 0)))], [], [], [2]⟩]) (F := [.op 0 0]) (hst.pick [] rfl) hb Za
     (o_p rfl (Zc rfl rfl (Opd.c (fun g => rfl))) <| o_n) (by kernel_rfl) (fun a g hst hb => ?_)
   refine wp_ret ?_
   refine Zm ?_
   exact Zts rfl hst hb (Zl (s := 2)) ⟨none, hst.at 0 rfl⟩
 · refine wp_skip ?_
   refine Zq ?_
   refine r_s (L := [(0, _)]) (T := [⟨[], [(5, (pOwn Zr 75 5 (some 0) (([] : (List Zh)).map some)))], [6], [], [5]⟩, ⟨[.old 0], _, [], [], [6]⟩, ⟨[.op 0 0, .op 1 0], _, [6], [0, 1], [5, 7]⟩, ⟨[.op 2 0], _, [], [0, 1, 2], [2]⟩]) (F := [.op 3 0]) (hst.pick [0] rfl) hb Za
     (o_p rfl (Zw9 (ty := 0) Zcu rfl rfl) <| o_p rfl (Zd rfl rfl u_0) <| o_p rfl (Zm6 Zcu rfl rfl u_0 u_1 (by simpa using hsz)) <| o_p rfl (Zc rfl rfl u_0) <| o_n) (by kernel_rfl) (fun a g hst hb => ?_)
   refine wp_ret ?_
   exact Zyk rfl h0 hst hb (Zl (s := 2)) (hst.at 0 rfl)
theorem Zgs (a0 : Zb) {r : Zb} (h : Zf2 a0 = some r) : FnOk Tryd.prog 37 [(Zf.pd a0)] (Zf.pd r) := by
 have H0 := h
 unfold Zf2 at H0
 clear h
 refine Zbq (N := 8) Tryd.func37 rfl rfl (Nat.le_of_ble_eq_true rfl) rfl rfl (fun a g0 hst hb => ?_)
 refine r_s (T := [⟨[.old 0], _, [2], [], [1]⟩, ⟨[], [(2, (pBox Zf 2 (default : Zb)))], [3], [], [2]⟩]) (F := [.op 0 0, .op 1 0]) hst hb Za
   (o_p rfl (Zik rfl rfl u_0) <| o_p rfl (Zbi (zs := [.int .i64 0, .int .i64 0, .int .i64 0, .int .i64 0, .float .f64 0, .int .i64 0, .string ByteArray.empty, .slice none 0 0]) (by kernel_rfl) (fun g => Zbo g) rfl rfl) <| o_n) (by kernel_rfl) (fun a g hst hb => ?_)
 obtain ⟨r1, h2, H0⟩ := Zk H0
 refine r_s (T := [⟨[.old 0], _, [], [], [3]⟩, ⟨[.op 0 0], _, [], [0], [4]⟩, ⟨[.op 1 0], _, [], [0, 1], [5]⟩, ⟨[.old 0], _, [], [0, 1, 2], [6]⟩, ⟨[.op 2 0, .op 3 0, .old 0], _, [2], Lr 4, [1, 3, 6]⟩]) (F := [.op 4 0, .old 1]) hst hb Za
   (o_p rfl (Zj Zbm (off := 7) (by kernel_rfl) rfl rfl u_0) <| o_p rfl (Z1 Zca rfl rfl u_0) <| o_p rfl (Zt Zr2 (Zjd _ h2) rfl rfl (.cons u_0 .nil)) <| o_p rfl (Zj Zbm (off := 7) (by kernel_rfl) rfl rfl u_0) <| o_p rfl (Zi6 Zca rfl rfl u_2 u_1 u_0) <| o_n) (by kernel_rfl) (fun a g hst hb => ?_)
 refine r_s (T := [⟨[.old 0], _, [], [], [7]⟩, ⟨[.op 0 0, .old 1], _, [3], [0], [2]⟩]) (F := [.op 1 0]) hst hb Za
   (o_p rfl (Zch Z0 rfl rfl u_0) <| o_p rfl (Z5 Z0 rfl rfl u_1 u_0) <| o_n) (by kernel_rfl) (fun a g hst hb => ?_)
 refine wp_ret ?_
 obtain rfl := Option.some.inj H0
 obtain ⟨u0, hu0, hq0⟩ := Zbe (P := Tryd.prog) Z0 (hst.at 0 rfl)
 exact Zx rfl hst hb hu0 hq0
theorem Zpw (a0 : Nat) (a1 : Nat) {r : Nat} (h : Zh2 a0 a1 = some r) : FnOk Tryd.prog 38 [(pFlt a0), (pFlt a1)] (pFlt r) := by
 have H0 := h
 unfold Zh2 at H0
 clear h
 refine Zbq (N := 12) Tryd.func38 rfl rfl (Nat.le_of_ble_eq_true rfl) rfl rfl (fun a g0 hst hb => ?_)
 refine r_s (T := [⟨[], _, [], [], [4]⟩]) (F := [.old 0, .old 1]) hst hb Za
   (o_p rfl (Zc rfl rfl c_f) <| o_n) (by kernel_rfl) (fun a g hst hb => ?_)
 refine wp_seq ?_
 obtain ⟨r1, h2, H0⟩ := Zk H0
 refine r_s (T := [⟨[.old 0], _, [], [], [5]⟩, ⟨[.old 1], _, [], [], [6]⟩, ⟨[.op 0 0, .op 1 0], _, [], [0, 1], [7]⟩]) (F := [.old 0, .old 1, .op 2 0]) hst hb Za
   (o_p rfl (Zd rfl rfl u_0) <| o_p rfl (Zd rfl rfl u_0) <| o_p rfl (Zt Zvr (Zl8 _ _ h2) rfl rfl (.cons u_0 (.cons u_1 .nil))) <| o_n) (by kernel_rfl) (fun a g hst hb => ?_)
 refine wp_cond_split (hst.bool 2 rfl) (fun hc3 => ?_) (fun hc3 => ?_)
 · replace H0 := Zp hc3 H0
   obtain ⟨r4, h5, H0⟩ := Zk H0
   refine r_s (L := [(1, _)]) (T := [⟨[.old 0], _, [], [], [8]⟩, ⟨[.op 0 0], _, [], [0], [9]⟩, ⟨[.op 1 0], _, [], [0, 1], [4]⟩]) (F := [.op 2 0]) (hst.pick [1] rfl) hb Za
     (o_p rfl (Zd rfl rfl u_0) <| o_p rfl (Zt Zl4 (Zf0 _ h5) rfl rfl (.cons u_0 .nil)) <| o_p rfl (Zc rfl rfl u_0) <| o_n) (by kernel_rfl) (fun a g hst hb => ?_)
   refine wp_ret ?_
   refine Zm ?_
   obtain rfl := Option.some.inj H0
   exact Zx rfl hst hb (Zl (s := 4)) (hst.at 0 rfl)
 · replace H0 := Zo hc3 H0
   refine wp_skip ?_
   refine Zq ?_
   obtain ⟨r6, h7, H0⟩ := Zk H0
   refine r_s (L := [(0, _)]) (T := [⟨[.old 0], _, [], [], [10]⟩, ⟨[.op 0 0], _, [], [0], [11]⟩, ⟨[.op 1 0], _, [], [0, 1], [4]⟩]) (F := [.op 2 0]) (hst.pick [0] rfl) hb Za
     (o_p rfl (Zd rfl rfl u_0) <| o_p rfl (Zt Zl4 (Zf0 _ h7) rfl rfl (.cons u_0 .nil)) <| o_p rfl (Zc rfl rfl u_0) <| o_n) (by kernel_rfl) (fun a g hst hb => ?_)
   refine wp_ret ?_
   obtain rfl := Option.some.inj H0
   exact Zx rfl hst hb (Zl (s := 4)) (hst.at 0 rfl)
theorem Zp2 (a0 : Nat) (a1 : Nat) {r : Nat} (h : Zhr a0 a1 = some r) : FnOk Tryd.prog 39 [(pFlt a0), (pFlt a1)] (pFlt r) := by
 have H0 := h
 unfold Zhr at H0
 clear h
 refine Zbq (N := 12) Tryd.func39 rfl rfl (Nat.le_of_ble_eq_true rfl) rfl rfl (fun a g0 hst hb => ?_)
 refine r_s (T := [⟨[], _, [], [], [4]⟩]) (F := [.old 0, .old 1]) hst hb Za
   (o_p rfl (Zc rfl rfl c_f) <| o_n) (by kernel_rfl) (fun a g hst hb => ?_)
 refine wp_seq ?_
 obtain ⟨r1, h2, H0⟩ := Zk H0
 refine r_s (T := [⟨[.old 1], _, [], [], [5]⟩, ⟨[.old 0], _, [], [], [6]⟩, ⟨[.op 0 0, .op 1 0], _, [], [0, 1], [7]⟩]) (F := [.old 0, .old 1, .op 2 0]) hst hb Za
   (o_p rfl (Zd rfl rfl u_0) <| o_p rfl (Zd rfl rfl u_0) <| o_p rfl (Zt Zvr (Zl8 _ _ h2) rfl rfl (.cons u_0 (.cons u_1 .nil))) <| o_n) (by kernel_rfl) (fun a g hst hb => ?_)
 refine wp_cond_split (hst.bool 2 rfl) (fun hc3 => ?_) (fun hc3 => ?_)
 · replace H0 := Zp hc3 H0
   obtain ⟨r4, h5, H0⟩ := Zk H0
   refine r_s (L := [(1, _)]) (T := [⟨[.old 0], _, [], [], [8]⟩, ⟨[.op 0 0], _, [], [0], [9]⟩, ⟨[.op 1 0], _, [], [0, 1], [4]⟩]) (F := [.op 2 0]) (hst.pick [1] rfl) hb Za
     (o_p rfl (Zd rfl rfl u_0) <| o_p rfl (Zt Zl4 (Zf0 _ h5) rfl rfl (.cons u_0 .nil)) <| o_p rfl (Zc rfl rfl u_0) <| o_n) (by kernel_rfl) (fun a g hst hb => ?_)
   refine wp_ret ?_
   refine Zm ?_
   obtain rfl := Option.some.inj H0
   exact Zx rfl hst hb (Zl (s := 4)) (hst.at 0 rfl)
 · replace H0 := Zo hc3 H0
   refine wp_skip ?_
   refine Zq ?_
   obtain ⟨r6, h7, H0⟩ := Zk H0
   refine r_s (L := [(0, _)]) (T := [⟨[.old 0], _, [], [], [10]⟩, ⟨[.op 0 0], _, [], [0], [11]⟩, ⟨[.op 1 0], _, [], [0, 1], [4]⟩]) (F := [.op 2 0]) (hst.pick [0] rfl) hb Za
     (o_p rfl (Zd rfl rfl u_0) <| o_p rfl (Zt Zl4 (Zf0 _ h7) rfl rfl (.cons u_0 .nil)) <| o_p rfl (Zc rfl rfl u_0) <| o_n) (by kernel_rfl) (fun a g hst hb => ?_)
   refine wp_ret ?_
   obtain rfl := Option.some.inj H0
   exact Zx rfl hst hb (Zl (s := 4)) (hst.at 0 rfl)
theorem Zho (a0 : Zcy) (a1 : Int) {r : Bool} (h : Zcz a0 a1 = some r) : FnOk Tryd.prog 104 [(Zdm.pd a0), (pInt .u8 a1)] (Zba r) := by
 have H0 := h
 unfold Zcz at H0
 clear h
 refine Zbq (N := 19) Tryd.func104 rfl rfl (Nat.le_of_ble_eq_true rfl) rfl rfl (fun a g0 hst hb => ?_)
 refine r_s (T := [⟨[.old 0], _, [], [], [2]⟩, ⟨[], _, [], [], [4]⟩]) (F := [.old 1, .op 0 0]) hst hb Za
   (o_p rfl (Zbs rfl rfl u_0) <| o_p rfl (Zc rfl rfl c_b) <| o_n) (by kernel_rfl) (fun a g hst hb => ?_)
 refine wp_seq ?_
 refine r_s (T := [⟨[.old 1], _, [], [], [6]⟩, ⟨[.op 0 0], _, [], [0], [7]⟩, ⟨[.op 1 0], _, [], [0, 1], [8]⟩, ⟨[], _, [], [], [9]⟩]) (F := [.old 0, .old 1, .op 2 0, .op 3 0]) hst hb Za
   (o_p rfl (Ze Zs0 rfl rfl u_0) <| o_p rfl (Zg ty_9 rfl rfl u_0) <| o_p rfl (Ze8 Tryd.underlying9 rfl rfl u_0) <| o_p rfl (Zd rfl rfl c_i) <| o_n) (by kernel_rfl) (fun a g hst hb => ?_)
 obtain ⟨z6, hz1, H0⟩ := Zk H0
 refine Zbv (fun a w => ∃ (g : G), w = g.w ∧ St 19 [] a g ∧ Base g0 g ∧ (.inr ()) = z6) ?_ ?_
 · rintro a w ⟨g, rfl, hst, hb, rfl⟩
   refine Zq ?_
   refine r_s (T := [⟨[], _, [], [], [4]⟩]) (F := [.op 0 0]) hst hb Za
     (o_p rfl (Zc rfl rfl c_b) <| o_n) (by kernel_rfl) (fun a g hst hb => ?_)
   refine wp_ret ?_
   obtain rfl := Option.some.inj H0
   exact Zx rfl hst hb (Zl (s := 4)) (hst.at 0 rfl)
 · refine wp_block ?_
   refine wp_loop_ghost (fun n a w => ∃ (x1 : Int) (g : G), w = g.w ∧ St 19 [(1, (pInt .u8 a1)), (2, (Zdm.ptr a0)), (8, (pInt .i64 (a0.has.size : Int))), (9, (pInt .i64 x1))] a g ∧ Base g0 g ∧ Zgb a0 a1 n x1 = some z6) (Int.toNat ((a0.has.size : Int) - (0 : Int)) + 1) ⟨(0 : Int), g, rfl, (hst.pick [0, 1, 2, 3] rfl), hb, hz1⟩ (fun n a w hI => ?_)
   obtain ⟨x1, g, rfl, hst, hb, H1⟩ := hI
   cases n with
   | zero => exact absurd H1 (by simp [Zgb])
   | succ n =>
     rw [Zgb] at H1
     refine r_s (T := [⟨[.old 3, .old 2], _, [], [], [10]⟩]) (F := [.old 0, .old 1, .old 2, .old 3, .op 0 0]) hst hb Za
       (o_p rfl (Zcb rfl rfl u_0 u_1) <| o_n) (by kernel_rfl) (fun a g hst hb => ?_)
     refine wp_seq ?_
     refine wp_cond_split (hst.bool 4 rfl) (fun hc2 => ?_) (fun hc2 => ?_)
     · replace H1 := Zp hc2 H1
       refine wp_skip ?_
       refine Zq ?_
       refine wp_seq ?_
       refine wp_block ?_
       refine r_s (L := [(1, _), (2, _), (8, _), (9, _)]) (T := [⟨[.old 3], _, [], [], [11]⟩, ⟨[.op 0 0], _, [], [0], [5]⟩]) (F := [.old 0, .old 1, .op 1 0, .old 2, .old 3]) (hst.pick [0, 1, 2, 3] rfl) hb Za
         (o_p rfl (Zd rfl rfl u_0) <| o_p rfl (Zc rfl rfl u_0) <| o_n) (by kernel_rfl) (fun a g hst hb => ?_)
       obtain ⟨b3, h4, H1⟩ := Zk H1
       refine r_s (T := [⟨[.old 1], _, [], [], [12]⟩, ⟨[.op 0 0], _, [], [0], [13]⟩, ⟨[.old 2], _, [], [], [14]⟩, ⟨[.op 1 0, .op 2 0], _, [], [0, 1, 2], [15]⟩, ⟨[.old 0], _, [], [], [16]⟩, ⟨[.op 3 0, .op 4 0], _, [], Lr 5, [17]⟩]) (F := [.old 0, .old 1, .old 3, .old 4, .op 5 0]) hst hb Za
         (o_p rfl (Ze Zs0 rfl rfl u_0) <| o_p rfl (Zg ty_9 rfl rfl u_0) <| o_p rfl (Zd rfl rfl u_0) <| o_p rfl (Zkh Tryd.underlying9 rfl rfl u_0 u_1 h4) <| o_p rfl (Zd rfl rfl u_0) <| o_p rfl (Z7 rfl rfl u_0 u_1) <| o_n) (by kernel_rfl) (fun a g hst hb => ?_)
       refine wp_cond_split (hst.bool 4 rfl) (fun hc5 => ?_) (fun hc5 => ?_)
       · replace H1 := Zp hc5 H1
         refine r_s (L := []) (T := [⟨[], _, [], [], [4]⟩]) (F := [.op 0 0]) (hst.pick [] rfl) hb Za
           (o_p rfl (Zc rfl rfl c_b) <| o_n) (by kernel_rfl) (fun a g hst hb => ?_)
         refine wp_ret ?_
         refine Zv ?_
         refine Zm ?_
         refine Zm ?_
         refine Zv ?_
         refine Zm ?_
         refine Zm ?_
         obtain rfl := Option.some.inj H1
         obtain rfl := Option.some.inj H0
         exact Zx rfl hst hb (Zl (s := 4)) (hst.at 0 rfl)
       · replace H1 := Zo hc5 H1
         refine wp_skip ?_
         refine Z6 ?_
         refine Zq ?_
         refine r_g (L := [(1, _), (2, _), (8, _), (9, _)]) (T := [⟨[.old 3], _, [], [], [18]⟩, ⟨[.op 0 0], _, [], [0], [9]⟩]) (F := [.old 0, .old 1, .old 2, .op 1 0]) (hst.pick [0, 1, 2, 3] rfl) hb Za
           (o_p rfl (Zcg rfl rfl u_0 c_i rfl) <| o_p rfl (Zd rfl rfl u_0) <| o_n) (by kernel_rfl) (fun a g hst hb => ?_)
         exact ⟨n, Nat.lt_succ_self _, (IntKind.i64.wrap (x1 + (1 : Int))), g, rfl, (hst.pick [0, 1, 2, 3] rfl), hb, H1⟩
     · replace H1 := Zo hc2 H1
       refine wp_exit ?_
       refine Zcf ?_
       refine Zcf ?_
       refine Zc1 ?_
       exact ⟨g, rfl, (hst.pick [] rfl), hb, Option.some.inj H1⟩
theorem Zfw (f2 : Nat) (C2 : List Pd) (hC2 : Free C2) (e2_ : Zn Tryd.prog f2) (φ2 : Zh → Zh → Option Bool) (hφ2 : ∀ (y0 : Zh) (y1 : Zh) (r : Bool), φ2 y0 y1 = some r → FnOk Tryd.prog f2 ([(Zr.pd y0), (Zr.pd y1)] ++ C2) (Zba r)) (a0 : List Zh) (a1 : List Zh) {r : Bool} (h : Zb0 a0 a1 φ2 = some r) : FnOk Tryd.prog 110 [(Zr.sl.pd a0), (Zr.sl.pd a1), (pClo f2 C2 hC2)] (Zba r) := by
 have H0 := h
 unfold Zb0 at H0
 clear h
 refine Zbq (N := 32) Tryd.func110 rfl rfl (Nat.le_of_ble_eq_true rfl) rfl rfl (fun a g0 hst hb => ?_)
 refine r_s (T := [⟨[], _, [], [], [6]⟩]) (F := [.old 0, .old 1, .old 2]) hst hb Za
   (o_p rfl (Zc rfl rfl c_b) <| o_n) (by kernel_rfl) (fun a g hst hb => ?_)
 refine wp_seq ?_
 refine r_s (T := [⟨[.old 0], _, [], [], [10]⟩, ⟨[.op 0 0], _, [], [0], [11]⟩, ⟨[.old 1], _, [], [], [12]⟩, ⟨[.op 2 0], _, [], [2], [13]⟩, ⟨[.op 1 0, .op 3 0], _, [], Lr 4, [14]⟩]) (F := [.old 0, .old 1, .old 2, .op 4 0]) hst hb Za
   (o_p rfl (Zd rfl rfl u_0) <| o_p rfl (Zcd Tryd.underlying23 rfl rfl u_0) <| o_p rfl (Zd rfl rfl u_0) <| o_p rfl (Zcd Tryd.underlying23 rfl rfl u_0) <| o_p rfl (Zdu rfl rfl u_0 u_1) <| o_n) (by kernel_rfl) (fun a g hst hb => ?_)
 refine wp_cond_split (hst.bool 3 rfl) (fun hc1 => ?_) (fun hc1 => ?_)
 · replace H0 := Zp hc1 H0
   refine r_s (L := []) (T := [⟨[], _, [], [], [6]⟩]) (F := [.op 0 0]) (hst.pick [] rfl) hb Za
     (o_p rfl (Zc rfl rfl c_b) <| o_n) (by kernel_rfl) (fun a g hst hb => ?_)
   refine wp_ret ?_
   refine Zm ?_
   obtain rfl := Option.some.inj H0
   exact Zx rfl hst hb (Zl (s := 6)) (hst.at 0 rfl)
 · replace H0 := Zo hc1 H0
   refine wp_skip ?_
   refine Zq ?_
   refine wp_seq ?_
   refine r_s (L := [(0, _), (1, _), (2, _)]) (T := [⟨[.old 0], _, [], [], [15]⟩, ⟨[.op 0 0], _, [], [0], [16]⟩, ⟨[], _, [], [], [17]⟩]) (F := [.old 1, .old 2, .op 0 0, .op 1 0, .op 2 0]) (hst.pick [0, 1, 2] rfl) hb Za
     (o_p rfl (Zd rfl rfl u_0) <| o_p rfl (Zcd Tryd.underlying23 rfl rfl u_0) <| o_p rfl (Zd rfl rfl c_i) <| o_n) (by kernel_rfl) (fun a g hst hb => ?_)
   obtain ⟨z11, hz1, H0⟩ := Zk H0
   refine Zbv (fun a w => ∃ (g : G), w = g.w ∧ St 32 [] a g ∧ Base g0 g ∧ (.inr ()) = z11) ?_ ?_
   · rintro a w ⟨g, rfl, hst, hb, rfl⟩
     refine Zq ?_
     refine r_s (T := [⟨[], _, [], [], [6]⟩]) (F := [.op 0 0]) hst hb Za
       (o_p rfl (Zc rfl rfl c_b) <| o_n) (by kernel_rfl) (fun a g hst hb => ?_)
     refine wp_ret ?_
     obtain rfl := Option.some.inj H0
     exact Zx rfl hst hb (Zl (s := 6)) (hst.at 0 rfl)
   · refine wp_block ?_
     refine wp_loop_ghost (fun n a w => ∃ (x2 : Int) (g : G), w = g.w ∧ St 32 [(1, (Zr.sl.pd a1)), (2, (pClo f2 C2 hC2)), (15, (Zr.sl.pd a0)), (16, (pInt .i64 (a0.length : Int))), (17, (pInt .i64 x2))] a g ∧ Base g0 g ∧ Zbg a0 a1 φ2 n x2 = some z11) (Int.toNat ((a0.length : Int) - (0 : Int)) + 1) ⟨(0 : Int), g, rfl, (hst.pick [0, 1, 2, 3, 4] rfl), hb, hz1⟩ (fun n a w hI => ?_)
     obtain ⟨x2, g, rfl, hst, hb, H1⟩ := hI
     cases n with
     | zero => exact absurd H1 (by simp [Zbg])
     | succ n =>
       rw [Zbg] at H1
       refine r_s (T := [⟨[.old 4, .old 3], _, [], [], [18]⟩]) (F := [.old 0, .old 1, .old 2, .old 3, .old 4, .op 0 0]) hst hb Za
         (o_p rfl (Zcb rfl rfl u_0 u_1) <| o_n) (by kernel_rfl) (fun a g hst hb => ?_)
       refine wp_seq ?_
       refine wp_cond_split (hst.bool 5 rfl) (fun hc3 => ?_) (fun hc3 => ?_)
       · replace H1 := Zp hc3 H1
         refine wp_skip ?_
         refine Zq ?_
         refine wp_seq ?_
         refine wp_block ?_
         obtain ⟨e4, h5, H1⟩ := Zk H1
         refine r_s (L := [(1, _), (2, _), (15, _), (16, _), (17, _)]) (T := [⟨[.old 4], _, [], [], [19]⟩, ⟨[.old 2, .old 4], _, [], [], [20]⟩, ⟨[.op 1 0], _, [], [1], [21]⟩, ⟨[], [(8, (pBox Zr 8 (default : Zh)))], [9], [], [8]⟩, ⟨[.op 0 0], _, [], Lr 4, [7]⟩, ⟨[.op 2 0, .op 3 0], _, [9], Lr 5, [8]⟩]) (F := [.old 0, .old 1, .op 4 0, .op 5 0, .old 2, .old 3, .old 4]) (hst.pick [0, 1, 2, 3, 4] rfl) hb Za
           (o_p rfl (Zd rfl rfl u_0) <| o_p rfl (Zbh Tryd.underlying23 Zdv rfl rfl u_0 u_1 h5) <| o_p rfl (Zg Zdh rfl rfl u_0) <| o_p rfl (Zbi (zs := [.float .f64 0, .string ByteArray.empty]) (by kernel_rfl) (fun g => Zgi g) rfl rfl) <| o_p rfl (Zc rfl rfl u_0) <| o_p rfl (Zci Zdh rfl rfl u_1 u_0) <| o_n) (by kernel_rfl) (fun a g hst hb => ?_)
         obtain ⟨e6, h7, H1⟩ := Zk H1
         refine r_s (T := [⟨[.old 0], _, [], [], [22]⟩, ⟨[.old 2], _, [], [], [23]⟩, ⟨[.op 0 0, .op 1 0], _, [], [0, 1], [24]⟩, ⟨[.op 2 0], _, [], [0, 1, 2], [25]⟩, ⟨[], [(9, (pBox Zr 9 (default : Zh)))], [10], [], [9]⟩, ⟨[.op 3 0, .op 4 0], _, [10], Lr 5, [9]⟩]) (F := [.old 0, .old 1, .old 3, .op 5 0, .old 4, .old 5, .old 6]) hst hb Za
           (o_p rfl (Zd rfl rfl u_0) <| o_p rfl (Zd rfl rfl u_0) <| o_p rfl (Zbh Tryd.underlying23 Zdv rfl rfl u_0 u_1 h7) <| o_p rfl (Zg Zdh rfl rfl u_0) <| o_p rfl (Zbi (zs := [.float .f64 0, .string ByteArray.empty]) (by kernel_rfl) (fun g => Zgi g) rfl rfl) <| o_p rfl (Zci Zdh rfl rfl u_1 u_0) <| o_n) (by kernel_rfl) (fun a g hst hb => ?_)
         obtain ⟨r8, h9, H1⟩ := Zk H1
         refine r_s (T := [⟨[.old 1], _, [], [], [26]⟩, ⟨[.old 2], _, [], [], [27]⟩, ⟨[.old 3], _, [], [], [28]⟩, ⟨[.op 0 0, .op 1 0, .op 2 0], _, [], [0, 1, 2], [29]⟩, ⟨[.op 3 0], _, [], Lr 4, [30]⟩]) (F := [.old 0, .old 1, .old 4, .old 5, .old 6, .op 4 0]) hst hb Za
           (o_p rfl (Zd rfl rfl u_0) <| o_p rfl (Zg Zdh rfl rfl u_0) <| o_p rfl (Zg Zdh rfl rfl u_0) <| o_p rfl (Zm0 e2_ (hφ2 _ _ _ h9) rfl rfl u_0 (.cons u_1 (.cons u_2 .nil))) <| o_p rfl (Zb4 rfl rfl u_0) <| o_n) (by kernel_rfl) (fun a g hst hb => ?_)
         refine wp_cond_split (hst.bool 5 rfl) (fun hc10 => ?_) (fun hc10 => ?_)
         · replace H1 := Zp hc10 H1
           refine r_s (L := []) (T := [⟨[], _, [], [], [6]⟩]) (F := [.op 0 0]) (hst.pick [] rfl) hb Za
             (o_p rfl (Zc rfl rfl c_b) <| o_n) (by kernel_rfl) (fun a g hst hb => ?_)
           refine wp_ret ?_
           refine Zv ?_
           refine Zm ?_
           refine Zm ?_
           refine Zv ?_
           refine Zm ?_
           refine Zm ?_
           obtain rfl := Option.some.inj H1
           obtain rfl := Option.some.inj H0
           exact Zx rfl hst hb (Zl (s := 6)) (hst.at 0 rfl)
         · replace H1 := Zo hc10 H1
           refine wp_skip ?_
           refine Z6 ?_
           refine Zq ?_
           refine r_g (L := [(1, _), (2, _), (15, _), (16, _), (17, _)]) (T := [⟨[.old 4], _, [], [], [31]⟩, ⟨[.op 0 0], _, [], [0], [17]⟩]) (F := [.old 0, .old 1, .old 2, .old 3, .op 1 0]) (hst.pick [0, 1, 2, 3, 4] rfl) hb Za
             (o_p rfl (Zcg rfl rfl u_0 c_i rfl) <| o_p rfl (Zd rfl rfl u_0) <| o_n) (by kernel_rfl) (fun a g hst hb => ?_)
           exact ⟨n, Nat.lt_succ_self _, (IntKind.i64.wrap (x2 + (1 : Int))), g, rfl, (hst.pick [0, 1, 2, 3, 4] rfl), hb, H1⟩
       · replace H1 := Zo hc3 H1
         refine wp_exit ?_
         refine Zcf ?_
         refine Zcf ?_
         refine Zc1 ?_
         exact ⟨g, rfl, (hst.pick [] rfl), hb, Option.some.inj H1⟩
theorem Zrp (a0 : Zh) (a1 : Zh) {r : Bool} (h : Zgw a0 a1 = some r) : FnOk Tryd.prog 111 [(Zr.pd a0), (Zr.pd a1)] (Zba r) := by
 have H0 := h
 unfold Zgw at H0
 clear h
 refine Zbq (N := 17) Tryd.func111 rfl rfl (Nat.le_of_ble_eq_true rfl) rfl rfl (fun a g0 hst hb => ?_)
 refine r_s (T := [⟨[.old 0], _, [], [], [2]⟩, ⟨[.old 1], _, [], [], [3]⟩, ⟨[], _, [], [], [4]⟩]) (F := [.op 0 0, .op 1 0]) hst hb Za
   (o_p rfl (Zbs rfl rfl u_0) <| o_p rfl (Zbs rfl rfl u_0) <| o_p rfl (Zc rfl rfl c_b) <| o_n) (by kernel_rfl) (fun a g hst hb => ?_)
 obtain ⟨r1, h2, H0⟩ := Zk H0
 refine r_s (T := ⟨[.old 0], _, [], [], [5]⟩ :: ⟨[.op 0 0], _, [], [0], [6]⟩ :: ⟨[.old 1], _, [], [], [7]⟩ :: ⟨[.op 2 0], _, [], [2], [8]⟩ :: ⟨[.op 1 0, .op 3 0], _, [], Lr 4, [9]⟩ :: ⟨[.op 4 0], _, [], Lr 5, [10]⟩ :: ⟨[.op 5 0, .old 0], _, [], Lr 6, [11]⟩ :: ⟨[.op 5 0, .op 6 0], _, [], Lr 7, [12]⟩ :: ⟨[.op 5 0, .old 1], _, [], Lr 6, [13]⟩ :: ⟨[.op 5 0, .op 8 0], _, [], [0, 1, 2, 3, 4, 5, 8], [14]⟩ :: ⟨[.op 5 0, .op 7 0, .op 9 0], _, [], Lr 10, [15]⟩ :: ⟨[.op 5 0, .op 10 0], _, [], Lr 11, [16]⟩ :: ⟨[.op 11 0], _, [], Lr 12, [4]⟩ :: []) (F := [.op 12 0]) hst hb Za
   (o_p rfl (Ze Zc4 rfl rfl u_0) <| o_p rfl (Zg ty_9 rfl rfl u_0) <| o_p rfl (Ze Zc4 rfl rfl u_0) <| o_p rfl (Zg ty_9 rfl rfl u_0) <| o_p rfl (Zj2 rfl rfl u_0 u_1) <| o_p rfl (Zd rfl rfl u_0) <| o_g (g_t rfl rfl rfl (fun hG => Ze Zee rfl rfl u_0)) <| o_g (g_t rfl rfl rfl (fun hG => Zg Zby rfl rfl (Opd.gd hG u_0))) <| o_g (g_t rfl rfl rfl (fun hG => Ze Zee rfl rfl u_0)) <| o_g (g_t rfl rfl rfl (fun hG => Zg Zby rfl rfl (Opd.gd hG u_0))) <| o_g (g_t rfl rfl rfl (fun hG => Zt Zoh (Zin _ _ (Zbn h2 hG)) rfl rfl (.cons (Opd.gd hG u_0) (.cons (Opd.gd hG u_1) .nil)))) <| o_p rfl (Zbb rfl rfl u_0 (fun hz => (Opd.gd hz u_1))) <| o_p rfl (Zc rfl rfl u_0) <| o_n) (by kernel_rfl) (fun a g hst hb => ?_)
 refine wp_ret ?_
 obtain rfl := Option.some.inj H0
 exact Zx rfl hst hb (Zl (s := 4)) (hst.at 0 rfl)
theorem Ztj (a0 : Zb) (a1 : Zb) {r : Bool} (h : Zlk a0 a1 = some r) : FnOk Tryd.prog 105 [(Zf.pd a0), (Zf.pd a1)] (Zba r) := by
 have H0 := h
 unfold Zlk at H0
 clear h
 refine Zbq (N := 59) Tryd.func105 rfl rfl (Nat.le_of_ble_eq_true rfl) rfl rfl (fun a g0 hst hb => ?_)
 refine r_s (T := [⟨[.old 0], _, [], [], [2]⟩, ⟨[.old 1], _, [], [], [3]⟩, ⟨[], _, [], [], [4]⟩]) (F := [.op 0 0, .op 1 0]) hst hb Za
   (o_p rfl (Zbs rfl rfl u_0) <| o_p rfl (Zbs rfl rfl u_0) <| o_p rfl (Zc rfl rfl c_b) <| o_n) (by kernel_rfl) (fun a g hst hb => ?_)
 obtain ⟨r1, h2, H0⟩ := Zk H0; obtain ⟨r3, h4, H0⟩ := Zk H0
 refine r_s (T := ⟨[.old 0], _, [], [], [5]⟩ :: ⟨[.op 0 0], _, [], [0], [6]⟩ :: ⟨[.old 1], _, [], [], [7]⟩ :: ⟨[.op 2 0], _, [], [2], [8]⟩ :: ⟨[.op 1 0, .op 3 0], _, [], Lr 4, [9]⟩ :: ⟨[.op 4 0], _, [], Lr 5, [10]⟩ :: ⟨[.op 5 0, .old 0], _, [], Lr 6, [11]⟩ :: ⟨[.op 5 0, .op 6 0], _, [], Lr 7, [12]⟩ :: ⟨[.op 5 0, .old 1], _, [], Lr 6, [13]⟩ :: ⟨[.op 5 0, .op 8 0], _, [], [0, 1, 2, 3, 4, 5, 8], [14]⟩ :: ⟨[.op 5 0, .op 7 0, .op 9 0], _, [], Lr 10, [15]⟩ :: ⟨[.op 5 0, .op 10 0], _, [], Lr 11, [16]⟩ :: ⟨[.op 11 0], _, [], Lr 12, [17]⟩ :: ⟨[.op 12 0, .old 0], _, [], Lr 13, [18]⟩ :: ⟨[.op 12 0, .op 13 0], _, [], Lr 14, [19]⟩ :: ⟨[.op 12 0, .old 1], _, [], Lr 13, [20]⟩ :: ⟨[.op 12 0, .op 15 0], _, [], 0 :: 1 :: 2 :: 3 :: 4 :: 5 :: 6 :: 7 :: 8 :: 9 :: 10 :: 11 :: 12 :: 15 :: [], [21]⟩ :: ⟨[.op 12 0, .op 14 0, .op 16 0], _, [], Lr 17, [22]⟩ :: ⟨[.op 12 0, .op 17 0], _, [], Lr 18, [23]⟩ :: ⟨[.op 18 0], _, [], Lr 19, [24]⟩ :: ⟨[.op 19 0, .old 0], _, [], Lr 20, [25]⟩ :: ⟨[.op 19 0, .op 20 0], _, [], Lr 21, [26]⟩ :: ⟨[.op 19 0, .old 1], _, [], Lr 20, [27]⟩ :: ⟨[.op 19 0, .op 22 0], _, [], 0 :: 1 :: 2 :: 3 :: 4 :: 5 :: 6 :: 7 :: 8 :: 9 :: 10 :: 11 :: 12 :: 13 :: 14 :: 15 :: 16 :: 17 :: 18 :: 19 :: 22 :: [], [28]⟩ :: ⟨[.op 19 0, .op 21 0, .op 23 0], _, [], Lr 24, [29]⟩ :: ⟨[.op 19 0, .op 24 0], _, [], Lr 25, [30]⟩ :: ⟨[.op 25 0], _, [], Lr 26, [31]⟩ :: ⟨[.op 26 0, .old 0], _, [], Lr 27, [32]⟩ :: ⟨[.op 26 0, .op 27 0], _, [], Lr 28, [33]⟩ :: ⟨[.op 26 0, .old 1], _, [], Lr 27, [34]⟩ :: ⟨[.op 26 0, .op 29 0], _, [], 0 :: 1 :: 2 :: 3 :: 4 :: 5 :: 6 :: 7 :: 8 :: 9 :: 10 :: 11 :: 12 :: 13 :: 14 :: 15 :: 16 :: 17 :: 18 :: 19 :: 20 :: 21 :: 22 :: 23 :: 24 :: 25 :: 26 :: 29 :: [], [35]⟩ :: ⟨[.op 26 0, .op 28 0, .op 30 0], _, [], Lr 31, [36]⟩ :: ⟨[.op 26 0, .op 31 0], _, [], Lr 32, [37]⟩ :: ⟨[.op 32 0], _, [], Lr 33, [38]⟩ :: ⟨[.op 33 0, .old 0], _, [], Lr 34, [39]⟩ :: ⟨[.op 33 0, .op 34 0], _, [], Lr 35, [40]⟩ :: ⟨[.op 33 0, .old 1], _, [], Lr 34, [41]⟩ :: ⟨[.op 33 0, .op 36 0], _, [], 0 :: 1 :: 2 :: 3 :: 4 :: 5 :: 6 :: 7 :: 8 :: 9 :: 10 :: 11 :: 12 :: 13 :: 14 :: 15 :: 16 :: 17 :: 18 :: 19 :: 20 :: 21 :: 22 :: 23 :: 24 :: 25 :: 26 :: 27 :: 28 :: 29 :: 30 :: 31 :: 32 :: 33 :: 36 :: [], [42]⟩ :: ⟨[.op 33 0, .op 35 0, .op 37 0], _, [], Lr 38, [43]⟩ :: ⟨[.op 33 0, .op 38 0], _, [], Lr 39, [44]⟩ :: ⟨[.op 39 0], _, [], Lr 40, [45]⟩ :: ⟨[.op 40 0, .old 0], _, [], Lr 41, [46]⟩ :: ⟨[.op 40 0, .op 41 0], _, [], Lr 42, [47]⟩ :: ⟨[.op 40 0, .old 1], _, [], Lr 41, [48]⟩ :: ⟨[.op 40 0, .op 43 0], _, [], 0 :: 1 :: 2 :: 3 :: 4 :: 5 :: 6 :: 7 :: 8 :: 9 :: 10 :: 11 :: 12 :: 13 :: 14 :: 15 :: 16 :: 17 :: 18 :: 19 :: 20 :: 21 :: 22 :: 23 :: 24 :: 25 :: 26 :: 27 :: 28 :: 29 :: 30 :: 31 :: 32 :: 33 :: 34 :: 35 :: 36 :: 37 :: 38 :: 39 :: 40 :: 43 :: [], [49]⟩ :: ⟨[.op 40 0, .op 42 0, .op 44 0], _, [], Lr 45, [50]⟩ :: ⟨[.op 40 0, .op 45 0], _, [], Lr 46, [51]⟩ :: ⟨[.op 46 0], _, [], Lr 47, [52]⟩ :: ⟨[.op 47 0, .old 0], _, [], Lr 48, [53]⟩ :: ⟨[.op 47 0, .op 48 0], _, [], Lr 49, [54]⟩ :: ⟨[.op 47 0, .old 1], _, [], Lr 48, [55]⟩ :: ⟨[.op 47 0, .op 50 0], _, [], 0 :: 1 :: 2 :: 3 :: 4 :: 5 :: 6 :: 7 :: 8 :: 9 :: 10 :: 11 :: 12 :: 13 :: 14 :: 15 :: 16 :: 17 :: 18 :: 19 :: 20 :: 21 :: 22 :: 23 :: 24 :: 25 :: 26 :: 27 :: 28 :: 29 :: 30 :: 31 :: 32 :: 33 :: 34 :: 35 :: 36 :: 37 :: 38 :: 39 :: 40 :: 41 :: 42 :: 43 :: 44 :: 45 :: 46 :: 47 :: 50 :: [], [56]⟩ :: ⟨[.op 47 0, .op 49 0, .op 51 0], _, [], Lr 52, [57]⟩ :: ⟨[.op 47 0, .op 52 0], _, [], Lr 53, [58]⟩ :: ⟨[.op 53 0], _, [], Lr 54, [4]⟩ :: []) (F := [.op 54 0]) hst hb Za
   (o_p rfl (Ze Zcx rfl rfl u_0) <| o_p rfl (Zg ty_3 rfl rfl u_0) <| o_p rfl (Ze Zcx rfl rfl u_0) <| o_p rfl (Zg ty_3 rfl rfl u_0) <| o_p rfl (Z7 rfl rfl u_0 u_1) <| o_p rfl (Zd rfl rfl u_0) <| o_g (g_t rfl rfl rfl (fun hG => Ze Zbx rfl rfl u_0)) <| o_g (g_t rfl rfl rfl (fun hG => Zg ty_2 rfl rfl (Opd.gd hG u_0))) <| o_g (g_t rfl rfl rfl (fun hG => Ze Zbx rfl rfl u_0)) <| o_g (g_t rfl rfl rfl (fun hG => Zg ty_2 rfl rfl (Opd.gd hG u_0))) <| o_g (g_t rfl rfl rfl (fun hG => Z7 rfl rfl (Opd.gd hG u_0) (Opd.gd hG u_1))) <| o_p rfl (Zbb rfl rfl u_0 (fun hz => (Opd.gd hz u_1))) <| o_p rfl (Zd rfl rfl u_0) <| o_g (g_t rfl rfl rfl (fun hG => Ze Zgl rfl rfl u_0)) <| o_g (g_t rfl rfl rfl (fun hG => Zg ty_2 rfl rfl (Opd.gd hG u_0))) <| o_g (g_t rfl rfl rfl (fun hG => Ze Zgl rfl rfl u_0)) <| o_g (g_t rfl rfl rfl (fun hG => Zg ty_2 rfl rfl (Opd.gd hG u_0))) <| o_g (g_t rfl rfl rfl (fun hG => Z7 rfl rfl (Opd.gd hG u_0) (Opd.gd hG u_1))) <| o_p rfl (Zbb rfl rfl u_0 (fun hz => (Opd.gd hz u_1))) <| o_p rfl (Zd rfl rfl u_0) <| o_g (g_t rfl rfl rfl (fun hG => Ze Zgn rfl rfl u_0)) <| o_g (g_t rfl rfl rfl (fun hG => Zg ty_2 rfl rfl (Opd.gd hG u_0))) <| o_g (g_t rfl rfl rfl (fun hG => Ze Zgn rfl rfl u_0)) <| o_g (g_t rfl rfl rfl (fun hG => Zg ty_2 rfl rfl (Opd.gd hG u_0))) <| o_g (g_t rfl rfl rfl (fun hG => Z7 rfl rfl (Opd.gd hG u_0) (Opd.gd hG u_1))) <| o_p rfl (Zbb rfl rfl u_0 (fun hz => (Opd.gd hz u_1))) <| o_p rfl (Zd rfl rfl u_0) <| o_g (g_t rfl rfl rfl (fun hG => Ze Zcv rfl rfl u_0)) <| o_g (g_t rfl rfl rfl (fun hG => Zg Zby rfl rfl (Opd.gd hG u_0))) <| o_g (g_t rfl rfl rfl (fun hG => Ze Zcv rfl rfl u_0)) <| o_g (g_t rfl rfl rfl (fun hG => Zg Zby rfl rfl (Opd.gd hG u_0))) <| o_g (g_t rfl rfl rfl (fun hG => Zt Zoh (Zin _ _ (Zbn h2 hG)) rfl rfl (.cons (Opd.gd hG u_0) (.cons (Opd.gd hG u_1) .nil)))) <| o_p rfl (Zbb rfl rfl u_0 (fun hz => (Opd.gd hz u_1))) <| o_p rfl (Zd rfl rfl u_0) <| o_g (g_t rfl rfl rfl (fun hG => Ze Zeo rfl rfl u_0)) <| o_g (g_t rfl rfl rfl (fun hG => Zg ty_3 rfl rfl (Opd.gd hG u_0))) <| o_g (g_t rfl rfl rfl (fun hG => Ze Zeo rfl rfl u_0)) <| o_g (g_t rfl rfl rfl (fun hG => Zg ty_3 rfl rfl (Opd.gd hG u_0))) <| o_g (g_t rfl rfl rfl (fun hG => Z7 rfl rfl (Opd.gd hG u_0) (Opd.gd hG u_1))) <| o_p rfl (Zbb rfl rfl u_0 (fun hz => (Opd.gd hz u_1))) <| o_p rfl (Zd rfl rfl u_0) <| o_g (g_t rfl rfl rfl (fun hG => Ze Zgp rfl rfl u_0)) <| o_g (g_t rfl rfl rfl (fun hG => Zg ty_9 rfl rfl (Opd.gd hG u_0))) <| o_g (g_t rfl rfl rfl (fun hG => Ze Zgp rfl rfl u_0)) <| o_g (g_t rfl rfl rfl (fun hG => Zg ty_9 rfl rfl (Opd.gd hG u_0))) <| o_g (g_t rfl rfl rfl (fun hG => Zj2 rfl rfl (Opd.gd hG u_0) (Opd.gd hG u_1))) <| o_p rfl (Zbb rfl rfl u_0 (fun hz => (Opd.gd hz u_1))) <| o_p rfl (Zd rfl rfl u_0) <| o_g (g_t rfl rfl rfl (fun hG => Ze Zbm rfl rfl u_0)) <| o_g (g_t rfl rfl rfl (fun hG => Zg Zca rfl rfl (Opd.gd hG u_0))) <| o_g (g_t rfl rfl rfl (fun hG => Ze Zbm rfl rfl u_0)) <| o_g (g_t rfl rfl rfl (fun hG => Zg Zca rfl rfl (Opd.gd hG u_0))) <| o_g (g_t rfl rfl rfl (fun hG => Zt Z18 (Zfw 111 [] rfl Z1z (fun y0 y1 => Zgw y0 y1) (fun y0 y1 r h => Zrp y0 y1 h) _ _ (Zbn h4 hG)) rfl rfl (.cons (Opd.gd hG u_0) (.cons (Opd.gd hG u_1) (.cons Opd.fnc .nil))))) <| o_p rfl (Zbb rfl rfl u_0 (fun hz => (Opd.gd hz u_1))) <| o_p rfl (Zc rfl rfl u_0) <| o_n) (by kernel_rfl) (fun a g hst hb => ?_)
 refine wp_ret ?_
 obtain rfl := Option.some.inj H0
 exact Zx rfl hst hb (Zl (s := 4)) (hst.at 0 rfl)
theorem Ztk (a0 : Zs) (a1 : Zcy) {r : Bool} (h : Znb a0 a1 = some r) : FnOk Tryd.prog 78 [(Zw.pd a0), (Zdm.pd a1)] (Zba r) := by
 have H0 := h
 unfold Znb at H0
 clear h
 refine Zbq (N := 40) Tryd.func78 rfl rfl (Nat.le_of_ble_eq_true rfl) rfl rfl (fun a g0 hst hb => ?_)
 refine r_s (T := [⟨[.old 0], _, [], [], [2]⟩, ⟨[.old 1], _, [], [], [3]⟩, ⟨[], _, [], [], [4]⟩]) (F := [.op 0 0, .op 1 0]) hst hb Za
   (o_p rfl (Zbs rfl rfl u_0) <| o_p rfl (Zbs rfl rfl u_0) <| o_p rfl (Zc rfl rfl c_b) <| o_n) (by kernel_rfl) (fun a g hst hb => ?_)
 obtain ⟨r1, h2, H0⟩ := Zk H0; obtain ⟨r3, h4, H0⟩ := Zk H0; obtain ⟨r5, h6, H0⟩ := Zk H0; obtain ⟨r7, h8, H0⟩ := Zk H0; obtain ⟨r9, h10, H0⟩ := Zk H0; obtain ⟨r11, h12, H0⟩ := Zk H0
 refine r_s (T := ⟨[.old 1], _, [], [], [5]⟩ :: ⟨[.op 0 0], _, [], [0], [6]⟩ :: ⟨[.op 1 0], _, [], [0, 1], [7]⟩ :: ⟨[.op 2 0, .old 0], _, [], [0, 1, 2], [8]⟩ :: ⟨[.op 2 0, .op 3 0], _, [], Lr 4, [9]⟩ :: ⟨[.op 2 0, .op 4 0], _, [], Lr 5, [10]⟩ :: ⟨[.op 2 0, .op 5 0], _, [], Lr 6, [11]⟩ :: ⟨[.op 6 0], _, [], Lr 7, [12]⟩ :: ⟨[.op 7 0, .old 1], _, [], Lr 8, [13]⟩ :: ⟨[.op 7 0, .op 8 0], _, [], Lr 9, [14]⟩ :: ⟨[.op 7 0, .op 9 0], _, [], Lr 10, [15]⟩ :: ⟨[.op 10 0, .old 0], _, [], Lr 11, [16]⟩ :: ⟨[.op 10 0, .op 11 0], _, [], Lr 12, [17]⟩ :: ⟨[.op 10 0, .op 12 0], _, [], Lr 13, [18]⟩ :: ⟨[.op 7 0, .op 10 0, .op 13 0], _, [], Lr 14, [19]⟩ :: ⟨[.op 7 0, .op 14 0], _, [], Lr 15, [20]⟩ :: ⟨[.op 15 0], _, [], Lr 16, [21]⟩ :: ⟨[.op 16 0, .old 1], _, [], Lr 17, [22]⟩ :: ⟨[.op 16 0, .op 17 0], _, [], Lr 18, [23]⟩ :: ⟨[.op 16 0, .op 18 0], _, [], Lr 19, [24]⟩ :: ⟨[.op 19 0, .old 0], _, [], Lr 20, [25]⟩ :: ⟨[.op 19 0, .op 20 0], _, [], Lr 21, [26]⟩ :: ⟨[.op 19 0, .op 21 0], _, [], Lr 22, [27]⟩ :: ⟨[.op 16 0, .op 19 0, .op 22 0], _, [], Lr 23, [28]⟩ :: ⟨[.op 16 0, .op 23 0], _, [], Lr 24, [29]⟩ :: ⟨[.op 24 0], _, [], Lr 25, [30]⟩ :: ⟨[.op 25 0, .old 1], _, [], Lr 26, [31]⟩ :: ⟨[.op 25 0, .op 26 0], _, [], Lr 27, [32]⟩ :: ⟨[.op 25 0, .op 27 0], _, [], Lr 28, [33]⟩ :: ⟨[.op 28 0, .old 0], _, [], Lr 29, [34]⟩ :: ⟨[.op 28 0, .op 29 0], _, [], Lr 30, [35]⟩ :: ⟨[.op 28 0], _, [], Lr 29, [36]⟩ :: ⟨[.op 28 0, .op 30 0, .op 31 0], _, [], Lr 32, [37]⟩ :: ⟨[.op 25 0, .op 28 0, .op 32 0], _, [], Lr 33, [38]⟩ :: ⟨[.op 25 0, .op 33 0], _, [], Lr 34, [39]⟩ :: ⟨[.op 34 0], _, [], Lr 35, [4]⟩ :: []) (F := [.op 35 0]) hst hb Za
   (o_p rfl (Zg Zig rfl rfl u_0) <| o_p rfl (Zt Zpq (Zho _ _ h2) rfl rfl (.cons u_0 (.cons c_i .nil))) <| o_p rfl (Zd rfl rfl u_0) <| o_g (g_f rfl rfl rfl (fun hG => Ze Zcq rfl rfl u_0)) <| o_g (g_f rfl rfl rfl (fun hG => Zg ty_2 rfl rfl (Opd.gd hG u_0))) <| o_g (g_f rfl rfl rfl (fun hG => Z7 rfl rfl (Opd.gd hG u_0) c_i)) <| o_p rfl (Zbj rfl rfl u_0 (fun hz => (Opd.gd (bNF hz) u_1))) <| o_p rfl (Zd rfl rfl u_0) <| o_g (g_t rfl rfl rfl (fun hG => Zg Zig rfl rfl u_0)) <| o_g (g_t rfl rfl rfl (fun hG => Zt Zpq (Zho _ _ (Zbn h4 hG)) rfl rfl (.cons (Opd.gd hG u_0) (.cons c_i .nil)))) <| o_g (g_t rfl rfl rfl (fun hG => Zd rfl rfl (Opd.gd hG u_0))) <| o_g (g_fi rfl rfl rfl (fun hG => Ze Zgm rfl rfl u_0)) <| o_g (g_fi rfl rfl rfl (fun hG => Zg Zby rfl rfl (Opd.gd hG u_0))) <| o_g (g_fi rfl rfl rfl (fun hG => Zt Zoh (Zin _ _ (Zbn h6 hG)) rfl rfl (.cons (Opd.gd hG u_0) (.cons c_f .nil)))) <| o_g (g_t rfl rfl rfl (fun hG => Zbj rfl rfl (Opd.gd hG u_0) (fun hz => (Opd.gd (bA hG (bNF hz)) u_1)))) <| o_p rfl (Zbb rfl rfl u_0 (fun hz => (Opd.gd hz u_1))) <| o_p rfl (Zd rfl rfl u_0) <| o_g (g_t rfl rfl rfl (fun hG => Zg Zig rfl rfl u_0)) <| o_g (g_t rfl rfl rfl (fun hG => Zt Zpq (Zho _ _ (Zbn h8 hG)) rfl rfl (.cons (Opd.gd hG u_0) (.cons c_i .nil)))) <| o_g (g_t rfl rfl rfl (fun hG => Zd rfl rfl (Opd.gd hG u_0))) <| o_g (g_fi rfl rfl rfl (fun hG => Ze Zd7 rfl rfl u_0)) <| o_g (g_fi rfl rfl rfl (fun hG => Zg ty_9 rfl rfl (Opd.gd hG u_0))) <| o_g (g_fi rfl rfl rfl (fun hG => Zj2 rfl rfl (Opd.gd hG u_0) c_s)) <| o_g (g_t rfl rfl rfl (fun hG => Zbj rfl rfl (Opd.gd hG u_0) (fun hz => (Opd.gd (bA hG (bNF hz)) u_1)))) <| o_p rfl (Zbb rfl rfl u_0 (fun hz => (Opd.gd hz u_1))) <| o_p rfl (Zd rfl rfl u_0) <| o_g (g_t rfl rfl rfl (fun hG => Zg Zig rfl rfl u_0)) <| o_g (g_t rfl rfl rfl (fun hG => Zt Zpq (Zho _ _ (Zbn h10 hG)) rfl rfl (.cons (Opd.gd hG u_0) (.cons c_i .nil)))) <| o_g (g_t rfl rfl rfl (fun hG => Zd rfl rfl (Opd.gd hG u_0))) <| o_g (g_fi rfl rfl rfl (fun hG => Ze Zkd rfl rfl u_0)) <| o_g (g_fi rfl rfl rfl (fun hG => Zg Z0 rfl rfl (Opd.gd hG u_0))) <| o_g (g_fi rfl rfl rfl (fun hG => Zkt rfl rfl )) <| o_g (g_fi rfl rfl rfl (fun hG => Zt Z2p (Ztj _ _ (Zbn h12 hG)) rfl rfl (.cons (Opd.gd hG u_0) (.cons (Opd.gd hG u_1) .nil)))) <| o_g (g_t rfl rfl rfl (fun hG => Zbj rfl rfl (Opd.gd hG u_0) (fun hz => (Opd.gd (bA hG (bNF hz)) u_1)))) <| o_p rfl (Zbb rfl rfl u_0 (fun hz => (Opd.gd hz u_1))) <| o_p rfl (Zc rfl rfl u_0) <| o_n) (by kernel_rfl) (fun a g hst hb => ?_)
 refine wp_ret ?_
 obtain rfl := Option.some.inj H0
 exact Zx rfl hst hb (Zl (s := 4)) (hst.at 0 rfl)
theorem Zto (a0 : Zcy) {r : Int} (h : Zmr a0 = some r) : FnOk Tryd.prog 79 [(Zdm.pd a0)] (pInt .i64 r) := by
 have H0 := h
 unfold Zmr at H0
 clear h
 refine Zbq (N := 6) Tryd.func79 rfl rfl (Nat.le_of_ble_eq_true rfl) rfl rfl (fun a g0 hst hb => ?_)
 refine r_s (T := [⟨[.old 0], _, [], [], [1]⟩, ⟨[], _, [], [], [2]⟩]) (F := [.op 0 0]) hst hb Za
   (o_p rfl (Zbs rfl rfl u_0) <| o_p rfl (Zc rfl rfl c_i) <| o_n) (by kernel_rfl) (fun a g hst hb => ?_)
 refine wp_seq ?_
 refine r_s (T := [⟨[.old 0], _, [], [], [3]⟩, ⟨[.op 0 0], _, [], [0], [4]⟩, ⟨[.op 1 0], _, [], [0, 1], [5]⟩]) (F := [.op 2 0]) hst hb Za
   (o_p rfl (Ze Zs5 rfl rfl u_0) <| o_p rfl (Zg ty_3 rfl rfl u_0) <| o_p rfl (Z7 rfl rfl u_0 c_i) <| o_n) (by kernel_rfl) (fun a g hst hb => ?_)
 refine wp_cond_split (hst.bool 0 rfl) (fun hc1 => ?_) (fun hc1 => ?_)
 · replace H0 := Zp hc1 H0
   refine r_s (L := []) (T := [⟨[], _, [], [], [2]⟩]) (F := [.op 0 0]) (hst.pick [] rfl) hb Za
     (o_p rfl (Zc rfl rfl c_i) <| o_n) (by kernel_rfl) (fun a g hst hb => ?_)
   refine wp_ret ?_
   refine Zm ?_
   obtain rfl := Option.some.inj H0
   exact Zx rfl hst hb (Zl (s := 2)) (hst.at 0 rfl)
 · replace H0 := Zo hc1 H0
   refine wp_skip ?_
   refine Zq ?_
   refine r_s (L := []) (T := [⟨[], _, [], [], [2]⟩]) (F := [.op 0 0]) (hst.pick [] rfl) hb Za
     (o_p rfl (Zc rfl rfl c_i) <| o_n) (by kernel_rfl) (fun a g hst hb => ?_)
   refine wp_ret ?_
   obtain rfl := Option.some.inj H0
   exact Zx rfl hst hb (Zl (s := 2)) (hst.at 0 rfl)
theorem Zn4 (a0 : Zs) {r : Int} (h : Zgh a0 = some r) : FnOk Tryd.prog 58 [(Zw.pd a0)] (pInt .i64 r) := by
 have H0 := h
 unfold Zgh at H0
 clear h
 refine Zbq (N := 64) Tryd.func58 rfl rfl (Nat.le_of_ble_eq_true rfl) rfl rfl (fun a g0 hst hb => ?_)
 refine r_s (T := [⟨[.old 0], _, [], [], [1]⟩, ⟨[], _, [], [], [2]⟩]) (F := [.op 0 0]) hst hb Za
   (o_p rfl (Zbs rfl rfl u_0) <| o_p rfl (Zc rfl rfl c_i) <| o_n) (by kernel_rfl) (fun a g hst hb => ?_)
 obtain ⟨r1, h2, H0⟩ := Zk H0
 refine r_s (T := [⟨[.old 0], _, [], [], [4]⟩, ⟨[.op 0 0], _, [], [0], [5]⟩, ⟨[.op 1 0], _, [], [0, 1], [6]⟩, ⟨[], [(3, (pBox Zdm 3 (default : Zcy)))], [4], [], [3]⟩, ⟨[.op 2 0, .op 3 0], _, [4], Lr 4, [3]⟩]) (F := [.old 0, .op 4 0]) hst hb Za
   (o_p rfl (Ze Zb9 rfl rfl u_0) <| o_p rfl (Zg ty_3 rfl rfl u_0) <| o_p rfl (Zt Zzn (Zrj _ h2) rfl rfl (.cons u_0 .nil)) <| o_p rfl (Zbi (zs := [.string ByteArray.empty, .int .i64 0, .string ByteArray.empty]) (by kernel_rfl) (fun g => Zpf g) rfl rfl) <| o_p rfl (Zci Zig rfl rfl u_1 u_0) <| o_n) (by kernel_rfl) (fun a g hst hb => ?_)
 refine wp_seq ?_
 refine wp_block ?_
 refine r_s (T := [⟨[.old 1], _, [], [], [8]⟩, ⟨[.op 0 0], _, [], [0], [9]⟩, ⟨[.op 1 0], _, [], [0, 1], [10]⟩, ⟨[.op 2 0], _, [], [0, 1, 2], [7]⟩]) (F := [.old 0, .old 1, .op 3 0]) hst hb Za
   (o_p rfl (Ze Zxx rfl rfl u_0) <| o_p rfl (Zg ty_9 rfl rfl u_0) <| o_p rfl (Zj2 rfl rfl u_0 c_s) <| o_p rfl (Zc rfl rfl u_0) <| o_n) (by kernel_rfl) (fun a g hst hb => ?_)
 refine wp_cond_split (hst.bool 2 rfl) (fun hc3 => ?_) (fun hc3 => ?_)
 · replace H0 := Zp hc3 H0
   refine r_s (L := []) (T := [⟨[], _, [], [], [2]⟩]) (F := [.op 0 0]) (hst.pick [] rfl) hb Za
     (o_p rfl (Zc rfl rfl c_i) <| o_n) (by kernel_rfl) (fun a g hst hb => ?_)
   refine wp_ret ?_
   refine Zv ?_
   refine Zm ?_
   obtain rfl := Option.some.inj H0
   exact Zx rfl hst hb (Zl (s := 2)) (hst.at 0 rfl)
 · replace H0 := Zo hc3 H0
   refine r_s (L := [(1, _), (3, _)]) (T := [⟨[.old 0], _, [], [], [12]⟩, ⟨[.op 0 0], _, [], [0], [13]⟩, ⟨[.op 1 0], _, [], [0, 1], [14]⟩, ⟨[.op 2 0], _, [], [0, 1, 2], [15]⟩, ⟨[.op 3 0, .old 0], _, [], Lr 4, [16]⟩, ⟨[.op 3 0, .op 4 0], _, [], Lr 5, [17]⟩, ⟨[.op 3 0, .op 5 0], _, [], Lr 6, [18]⟩, ⟨[.op 3 0, .op 6 0], _, [], Lr 7, [19]⟩, ⟨[.op 3 0, .op 7 0], _, [], Lr 8, [20]⟩, ⟨[.op 8 0], _, [], Lr 9, [11]⟩]) (F := [.old 0, .old 1, .op 9 0]) (hst.pick [0, 1] rfl) hb Za
     (o_p rfl (Ze Zmb rfl rfl u_0) <| o_p rfl (Zg ty_9 rfl rfl u_0) <| o_p rfl (Zj2 rfl rfl u_0 c_s) <| o_p rfl (Zd rfl rfl u_0) <| o_g (g_f rfl rfl rfl (fun hG => Ze Zmb rfl rfl u_0)) <| o_g (g_f rfl rfl rfl (fun hG => Zg ty_9 rfl rfl (Opd.gd hG u_0))) <| o_g (g_f rfl rfl rfl (fun hG => Ze8 Tryd.underlying9 rfl rfl (Opd.gd hG u_0))) <| o_g (g_f rfl rfl rfl (fun hG => Zcj rfl rfl (Opd.gd hG u_0) c_i)) <| o_p rfl (Zbj rfl rfl u_0 (fun hz => (Opd.gd (bNF hz) u_1))) <| o_p rfl (Zc rfl rfl u_0) <| o_n) (by kernel_rfl) (fun a g hst hb => ?_)
   refine wp_cond_split (hst.bool 2 rfl) (fun hc4 => ?_) (fun hc4 => ?_)
   · replace H0 := Zp hc4 H0
     refine r_s (L := []) (T := [⟨[], _, [], [], [2]⟩]) (F := [.op 0 0]) (hst.pick [] rfl) hb Za
       (o_p rfl (Zc rfl rfl c_i) <| o_n) (by kernel_rfl) (fun a g hst hb => ?_)
     refine wp_ret ?_
     refine Zv ?_
     refine Zm ?_
     obtain rfl := Option.some.inj H0
     exact Zx rfl hst hb (Zl (s := 2)) (hst.at 0 rfl)
   · replace H0 := Zo hc4 H0
     obtain ⟨r5, h6, H0⟩ := Zk H0
     refine r_s (L := [(1, _), (3, _)]) (T := [⟨[.old 0], _, [], [], [22]⟩, ⟨[.old 1], _, [], [], [23]⟩, ⟨[.op 0 0, .op 1 0], _, [], [0, 1], [24]⟩, ⟨[.op 2 0], _, [], [0, 1, 2], [25]⟩, ⟨[.op 3 0], _, [], Lr 4, [21]⟩]) (F := [.old 0, .old 1, .op 4 0]) (hst.pick [0, 1] rfl) hb Za
       (o_p rfl (Zg Zfa rfl rfl u_0) <| o_p rfl (Zg Zig rfl rfl u_0) <| o_p rfl (Zt Z39 (Ztk _ _ h6) rfl rfl (.cons u_0 (.cons u_1 .nil))) <| o_p rfl (Zb4 rfl rfl u_0) <| o_p rfl (Zc rfl rfl u_0) <| o_n) (by kernel_rfl) (fun a g hst hb => ?_)
     refine wp_cond_split (hst.bool 2 rfl) (fun hc7 => ?_) (fun hc7 => ?_)
     · replace H0 := Zp hc7 H0
       refine r_s (L := []) (T := [⟨[], _, [], [], [2]⟩]) (F := [.op 0 0]) (hst.pick [] rfl) hb Za
         (o_p rfl (Zc rfl rfl c_i) <| o_n) (by kernel_rfl) (fun a g hst hb => ?_)
       refine wp_ret ?_
       refine Zv ?_
       refine Zm ?_
       obtain rfl := Option.some.inj H0
       exact Zx rfl hst hb (Zl (s := 2)) (hst.at 0 rfl)
     · replace H0 := Zo hc7 H0
       obtain ⟨r8, h9, H0⟩ := Zk H0
       refine r_s (L := [(1, _), (3, _)]) (T := [⟨[.old 0], _, [], [], [27]⟩, ⟨[.op 0 0], _, [], [0], [28]⟩, ⟨[.op 1 0], _, [], [0, 1], [29]⟩, ⟨[.old 1], _, [], [], [30]⟩, ⟨[.op 3 0], _, [], [3], [31]⟩, ⟨[.op 2 0, .op 4 0], _, [], Lr 5, [32]⟩, ⟨[.op 5 0], _, [], Lr 6, [26]⟩]) (F := [.old 0, .op 6 0]) (hst.pick [0, 1] rfl) hb Za
         (o_p rfl (Ze Zd7 rfl rfl u_0) <| o_p rfl (Zg ty_9 rfl rfl u_0) <| o_p rfl (Ze8 Tryd.underlying9 rfl rfl u_0) <| o_p rfl (Zg Zig rfl rfl u_0) <| o_p rfl (Zt Z3k (Zto _ h9) rfl rfl (.cons u_0 .nil)) <| o_p rfl (Zcj rfl rfl u_0 u_1) <| o_p rfl (Zc rfl rfl u_0) <| o_n) (by kernel_rfl) (fun a g hst hb => ?_)
       refine wp_cond_split (hst.bool 1 rfl) (fun hc10 => ?_) (fun hc10 => ?_)
       · replace H0 := Zp hc10 H0
         refine r_s (L := []) (T := [⟨[], _, [], [], [2]⟩]) (F := [.op 0 0]) (hst.pick [] rfl) hb Za
           (o_p rfl (Zc rfl rfl c_i) <| o_n) (by kernel_rfl) (fun a g hst hb => ?_)
         refine wp_ret ?_
         refine Zv ?_
         refine Zm ?_
         obtain rfl := Option.some.inj H0
         exact Zx rfl hst hb (Zl (s := 2)) (hst.at 0 rfl)
       · replace H0 := Zo hc10 H0
         refine r_s (L := [(1, _)]) (T := ⟨[.old 0], _, [], [], [34]⟩ :: ⟨[.op 0 0], _, [], [0], [35]⟩ :: ⟨[.op 1 0], _, [], [0, 1], [36]⟩ :: ⟨[.op 2 0], _, [], [0, 1, 2], [37]⟩ :: ⟨[.op 3 0, .old 0], _, [], Lr 4, [38]⟩ :: ⟨[.op 3 0, .op 4 0], _, [], Lr 5, [39]⟩ :: ⟨[.op 3 0, .op 5 0], _, [], Lr 6, [40]⟩ :: ⟨[.op 3 0, .op 6 0], _, [], Lr 7, [41]⟩ :: ⟨[.op 7 0], _, [], Lr 8, [42]⟩ :: ⟨[.op 8 0, .old 0], _, [], Lr 9, [43]⟩ :: ⟨[.op 8 0, .op 9 0], _, [], Lr 10, [44]⟩ :: ⟨[.op 8 0, .op 10 0], _, [], Lr 11, [45]⟩ :: ⟨[.op 8 0, .op 11 0], _, [], Lr 12, [46]⟩ :: ⟨[.op 12 0, .old 0], _, [], Lr 13, [47]⟩ :: ⟨[.op 12 0, .op 13 0], _, [], Lr 14, [48]⟩ :: ⟨[.op 12 0, .op 14 0], _, [], Lr 15, [49]⟩ :: ⟨[.op 8 0, .op 12 0, .op 15 0], _, [], Lr 16, [50]⟩ :: ⟨[.op 8 0, .op 16 0], _, [], Lr 17, [51]⟩ :: ⟨[.op 17 0], _, [], Lr 18, [33]⟩ :: []) (F := [.old 0, .op 18 0]) (hst.pick [0] rfl) hb Za
           (o_p rfl (Ze Zb9 rfl rfl u_0) <| o_p rfl (Zg ty_3 rfl rfl u_0) <| o_p rfl (Z7 rfl rfl u_0 c_i) <| o_p rfl (Zd rfl rfl u_0) <| o_g (g_f rfl rfl rfl (fun hG => Ze Zb9 rfl rfl u_0)) <| o_g (g_f rfl rfl rfl (fun hG => Zg ty_3 rfl rfl (Opd.gd hG u_0))) <| o_g (g_f rfl rfl rfl (fun hG => Z7 rfl rfl (Opd.gd hG u_0) c_i)) <| o_p rfl (Zbj rfl rfl u_0 (fun hz => (Opd.gd (bNF hz) u_1))) <| o_p rfl (Zd rfl rfl u_0) <| o_g (g_t rfl rfl rfl (fun hG => Ze Zcq rfl rfl u_0)) <| o_g (g_t rfl rfl rfl (fun hG => Zg ty_2 rfl rfl (Opd.gd hG u_0))) <| o_g (g_t rfl rfl rfl (fun hG => Zcb rfl rfl (Opd.gd hG u_0) c_i)) <| o_g (g_t rfl rfl rfl (fun hG => Zd rfl rfl (Opd.gd hG u_0))) <| o_g (g_fi rfl rfl rfl (fun hG => Ze Zcq rfl rfl u_0)) <| o_g (g_fi rfl rfl rfl (fun hG => Zg ty_2 rfl rfl (Opd.gd hG u_0))) <| o_g (g_fi rfl rfl rfl (fun hG => Zcj rfl rfl (Opd.gd hG u_0) c_i)) <| o_g (g_t rfl rfl rfl (fun hG => Zbj rfl rfl (Opd.gd hG u_0) (fun hz => (Opd.gd (bA hG (bNF hz)) u_1)))) <| o_p rfl (Zbb rfl rfl u_0 (fun hz => (Opd.gd hz u_1))) <| o_p rfl (Zc rfl rfl u_0) <| o_n) (by kernel_rfl) (fun a g hst hb => ?_)
         refine wp_cond_split (hst.bool 1 rfl) (fun hc11 => ?_) (fun hc11 => ?_)
         · replace H0 := Zp hc11 H0
           refine r_s (L := []) (T := [⟨[], _, [], [], [2]⟩]) (F := [.op 0 0]) (hst.pick [] rfl) hb Za
             (o_p rfl (Zc rfl rfl c_i) <| o_n) (by kernel_rfl) (fun a g hst hb => ?_)
           refine wp_ret ?_
           refine Zv ?_
           refine Zm ?_
           obtain rfl := Option.some.inj H0
           exact Zx rfl hst hb (Zl (s := 2)) (hst.at 0 rfl)
         · replace H0 := Zo hc11 H0
           obtain ⟨r12, h13, H0⟩ := Zk H0
           refine r_s (L := [(1, _)]) (T := [⟨[.old 0], _, [], [], [53]⟩, ⟨[.op 0 0], _, [], [0], [54]⟩, ⟨[.op 1 0], _, [], [0, 1], [55]⟩, ⟨[.op 2 0], _, [], [0, 1, 2], [56]⟩, ⟨[.op 3 0], _, [], Lr 4, [52]⟩]) (F := [.old 0, .op 4 0]) (hst.pick [0] rfl) hb Za
             (o_p rfl (Ze Zgm rfl rfl u_0) <| o_p rfl (Zg Zby rfl rfl u_0) <| o_p rfl (Zt Zvt (Zk4 _ h13) rfl rfl (.cons u_0 .nil)) <| o_p rfl (Zb4 rfl rfl u_0) <| o_p rfl (Zc rfl rfl u_0) <| o_n) (by kernel_rfl) (fun a g hst hb => ?_)
           refine wp_cond_split (hst.bool 1 rfl) (fun hc14 => ?_) (fun hc14 => ?_)
           · replace H0 := Zp hc14 H0
             refine r_s (L := []) (T := [⟨[], _, [], [], [2]⟩]) (F := [.op 0 0]) (hst.pick [] rfl) hb Za
               (o_p rfl (Zc rfl rfl c_i) <| o_n) (by kernel_rfl) (fun a g hst hb => ?_)
             refine wp_ret ?_
             refine Zv ?_
             refine Zm ?_
             obtain rfl := Option.some.inj H0
             exact Zx rfl hst hb (Zl (s := 2)) (hst.at 0 rfl)
           · replace H0 := Zo hc14 H0
             refine r_s (L := [(1, _)]) (T := [⟨[.old 0], _, [], [], [58]⟩, ⟨[.op 0 0], _, [], [0], [59]⟩, ⟨[.op 1 0], _, [], [0, 1], [60]⟩, ⟨[.op 2 0], _, [], [0, 1, 2], [57]⟩]) (F := [.old 0, .op 3 0]) (hst.pick [0] rfl) hb Za
               (o_p rfl (Ze Zb9 rfl rfl u_0) <| o_p rfl (Zg ty_3 rfl rfl u_0) <| o_p rfl (Z7 rfl rfl u_0 c_i) <| o_p rfl (Zc rfl rfl u_0) <| o_n) (by kernel_rfl) (fun a g hst hb => ?_)
             refine wp_cond_split (hst.bool 1 rfl) (fun hc15 => ?_) (fun hc15 => ?_)
             · replace H0 := Zp hc15 H0
               obtain ⟨r16, h17, H0⟩ := Zk H0
               refine r_s (L := [(1, _)]) (T := [⟨[.old 0], _, [], [], [61]⟩, ⟨[.op 0 0], _, [], [0], [62]⟩, ⟨[.op 1 0], _, [], [0, 1], [63]⟩, ⟨[.op 2 0], _, [], [0, 1, 2], [2]⟩]) (F := [.op 3 0]) (hst.pick [0] rfl) hb Za
                 (o_p rfl (Ze Zkd rfl rfl u_0) <| o_p rfl (Zg Z0 rfl rfl u_0) <| o_p rfl (Zt Zr1 (Zj6 _ h17) rfl rfl (.cons u_0 .nil)) <| o_p rfl (Zc rfl rfl u_0) <| o_n) (by kernel_rfl) (fun a g hst hb => ?_)
               refine wp_ret ?_
               refine Zv ?_
               refine Zm ?_
               obtain rfl := Option.some.inj H0
               exact Zx rfl hst hb (Zl (s := 2)) (hst.at 0 rfl)
             · replace H0 := Zo hc15 H0
               refine wp_skip ?_
               refine Z6 ?_
               refine Zq ?_
               refine r_s (L := []) (T := [⟨[], _, [], [], [2]⟩]) (F := [.op 0 0]) (hst.pick [] rfl) hb Za
                 (o_p rfl (Zc rfl rfl c_i) <| o_n) (by kernel_rfl) (fun a g hst hb => ?_)
               refine wp_ret ?_
               obtain rfl := Option.some.inj H0
               exact Zx rfl hst hb (Zl (s := 2)) (hst.at 0 rfl)
theorem Zg7 (a0 : Int) (a1 : Zb) (a2 : Bool) {r : Zb × Bool × Zi × Zb} (h : Zff a0 a1 a2 = some r) : FnB Tryd.prog 67 [.val (pInt .i64 a0), .box Zf a1 r.2.2.2, .val (Kd.bool.ptr a2)] (pTup [(Zf.pd r.1), (Zba r.2.1), (Zu.pd r.2.2.1)]) := by
 have H0 := h
 unfold Zff at H0
 clear h
 refine Zhz (N := 11) Tryd.func67 rfl rfl (Nat.le_of_ble_eq_true rfl) rfl rfl (fun a g0 bs hbs hst hb => ?_)
 obtain ⟨b1, rfl⟩ := Z3j hbs
 replace hst : St 11 [(0, (pInt .i64 a0)), (1, (Zbl (some b1) Zf 1 a1)), (2, (Kd.bool.ptr a2))] _ _ := hst
 refine r_s (T := [⟨[], [(4, (pBox Zf 4 (default : Zb)))], [5], [], [4]⟩, ⟨[], _, [], [], [5]⟩, ⟨[], [(6, (pBox Zu 6 (default : Zi)))], [7], [], [6]⟩]) (F := [.old 0, .old 1, .old 2, .op 0 0, .op 2 0]) hst hb Za
   (o_p rfl (Zbi (zs := [.int .i64 0, .int .i64 0, .int .i64 0, .int .i64 0, .float .f64 0, .int .i64 0, .string ByteArray.empty, .slice none 0 0]) (by kernel_rfl) (fun g => Zbo g) rfl rfl) <| o_p rfl (Zc rfl rfl c_b) <| o_p rfl (Zbi (zs := [.int .i64 0, .int .i64 0, .int .i64 0, .int .i64 0, .int .i64 0, .int .i64 0, .float .f64 0, .int .i64 0, .string ByteArray.empty, .slice none 0 0]) (by kernel_rfl) (fun g => Ze6 g) rfl rfl) <| o_n) (by kernel_rfl) (fun a g hst hb => ?_)
 refine r_s (T := [⟨[.old 1], _, [], [], [7]⟩, ⟨[.old 2], _, [], [], [8]⟩, ⟨[.old 0], _, [], [], [9]⟩, ⟨[.op 2 0], _, [], [2], [10]⟩, ⟨[.op 0 0, .old 3], _, [5], [0], [4]⟩, ⟨[.op 1 0], _, [], [0, 1, 4], [5]⟩, ⟨[.op 3 0, .old 4], _, [7], Lr 6, [6]⟩]) (F := [.old 1, .op 4 0, .op 5 0, .op 6 0]) hst hb Za
   (o_p rfl (Zch Z0 rfl rfl u_0) <| o_p rfl (Zg ty_4 rfl rfl u_0) <| o_p rfl (Zd rfl rfl u_0) <| o_p rfl (Zqx rfl rfl u_0) <| o_p rfl (Z5 Z0 rfl rfl u_1 u_0) <| o_p rfl (Zc rfl rfl u_0) <| o_p rfl (Z5 Zct rfl rfl u_1 u_0) <| o_n) (by kernel_rfl) (fun a g hst hb => ?_)
 refine wp_ret ?_
 obtain rfl := Option.some.inj H0
 obtain ⟨u0, hu0, hq0⟩ := Zbe (P := Tryd.prog) Z0 (hst.at 1 rfl)
 obtain ⟨u2, hu2, hq2⟩ := Zbe (P := Tryd.prog) Zct (hst.at 3 rfl)
 exact Z3m rfl hst hb hu0 (Zl (s := 5)) hu2 (Zfp hq0 (hst.at 2 rfl) hq2) ⟨Zcn (hst.at 0 rfl), trivial⟩
theorem Zo5 (a0 : Zb) (a1 : Zs) (a2 : Zi) {r : Int × Zb × Zi} (h : Zkc a0 a1 a2 = some r) : FnB Tryd.prog 82 [.box Zf a0 r.2.1, .val (Zw.pd a1), .box Zu a2 r.2.2] (pInt .i64 r.1) := by
 have H0 := h
 unfold Zkc at H0
 clear h
 refine Zhz (N := 12) Tryd.func82 rfl rfl (Nat.le_of_ble_eq_true rfl) rfl rfl (fun a g0 bs hbs hst hb => ?_)
 obtain ⟨b0, b2, rfl⟩ := Zjh hbs
 replace hst : St 12 [(0, (Zbl (some b0) Zf 0 a0)), (1, (Zw.pd a1)), (2, (Zbl (some b2) Zu 2 a2))] _ _ := hst
 refine r_s (T := [⟨[.old 1], _, [], [], [4]⟩, ⟨[], _, [], [], [6]⟩]) (F := [.old 0, .old 2, .op 0 0]) hst hb Za
   (o_p rfl (Zbs rfl rfl u_0) <| o_p rfl (Zc rfl rfl c_i) <| o_n) (by kernel_rfl) (fun a g hst hb => ?_)
 refine r_s (T := [⟨[.old 0], _, [], [], [7]⟩, ⟨[.old 2], _, [], [], [8]⟩, ⟨[.op 1 0], _, [], [1], [9]⟩, ⟨[.op 0 0], _, [], [0, 1, 2], [10]⟩, ⟨[.op 3 0], _, [], Lr 4, [11]⟩, ⟨[.op 2 0, .op 4 0, .old 0], _, [1], Lr 5, [0, 7, 10, 11]⟩]) (F := [.op 5 0, .old 1]) hst hb Za
   (o_p rfl (Zd rfl rfl u_0) <| o_p rfl (Ze Zd7 rfl rfl u_0) <| o_p rfl (Zg ty_9 rfl rfl u_0) <| o_p rfl (Zbc rfl rfl u_0 (fun _ _ ⟨_, _, _, e, _⟩ => ⟨_, e⟩)) <| o_p rfl (Zj Zgp (off := 6) (by kernel_rfl) rfl rfl u_0) <| o_p rfl (Zok ty_9 rfl rfl u_2 u_1 u_0) <| o_n) (by kernel_rfl) (fun a g hst hb => ?_)
 refine r_s (T := [⟨[], _, [], [], [6]⟩]) (F := [.old 0, .old 1, .op 0 0]) hst hb Za
   (o_p rfl (Zc rfl rfl c_i) <| o_n) (by kernel_rfl) (fun a g hst hb => ?_)
 refine wp_ret ?_
 obtain rfl := Option.some.inj H0
 exact Zf5 rfl hst hb (Zl (s := 6)) (hst.at 2 rfl) ⟨Zcn (hst.at 0 rfl), Zcn (hst.at 1 rfl), trivial⟩
theorem Zow (a0 : Zb) (a1 : Zs) (a2 : Zi) {r : Int × Zb × Zi} (h : Zh3 a0 a1 a2 = some r) : FnB Tryd.prog 83 [.box Zf a0 r.2.1, .val (Zw.pd a1), .box Zu a2 r.2.2] (pInt .i64 r.1) := by
 have H0 := h
 unfold Zh3 at H0
 clear h
 refine Zhz (N := 19) Tryd.func83 rfl rfl (Nat.le_of_ble_eq_true rfl) rfl rfl (fun a g0 bs hbs hst hb => ?_)
 obtain ⟨b0, b2, rfl⟩ := Zjh hbs
 replace hst : St 19 [(0, (Zbl (some b0) Zf 0 a0)), (1, (Zw.pd a1)), (2, (Zbl (some b2) Zu 2 a2))] _ _ := hst
 refine r_s (T := [⟨[.old 1], _, [], [], [4]⟩, ⟨[], _, [], [], [6]⟩]) (F := [.old 0, .old 2, .op 0 0]) hst hb Za
   (o_p rfl (Zbs rfl rfl u_0) <| o_p rfl (Zc rfl rfl c_i) <| o_n) (by kernel_rfl) (fun a g hst hb => ?_)
 obtain ⟨r1, h2, H0⟩ := Zk H0
 refine r_s (T := [⟨[.old 1], _, [], [], [7]⟩, ⟨[.old 0], _, [], [], [8]⟩, ⟨[.op 1 0], _, [], [1], [9]⟩, ⟨[.op 2 0], _, [], [1, 2], [10]⟩, ⟨[.op 3 0], _, [], [1, 2, 3], [11]⟩, ⟨[.op 0 0], _, [], Lr 5, [12]⟩, ⟨[.op 5 0], _, [], Lr 6, [13]⟩, ⟨[.op 4 0, .op 6 0, .old 1], _, [3], Lr 7, [2, 7, 12, 13]⟩]) (F := [.old 0, .op 7 0, .old 2]) hst hb Za
   (o_p rfl (Zd rfl rfl u_0) <| o_p rfl (Zd rfl rfl u_0) <| o_p rfl (Zbc rfl rfl u_0 (fun _ _ ⟨_, _, _, e, _⟩ => ⟨_, e⟩)) <| o_p rfl (Zch Z0 rfl rfl u_0) <| o_p rfl (Zt Zmx (Zgs _ h2) rfl rfl (.cons u_0 .nil)) <| o_p rfl (Zbc rfl rfl u_0 (fun _ _ ⟨_, _, _, e, _⟩ => ⟨_, e⟩)) <| o_p rfl (Zj Zup (off := 2) (by kernel_rfl) rfl rfl u_0) <| o_p rfl (Zum Z0 rfl rfl u_2 u_1 u_0) <| o_n) (by kernel_rfl) (fun a g hst hb => ?_)
 refine r_s (T := [⟨[.old 0], _, [], [], [14]⟩, ⟨[.old 2], _, [], [], [15]⟩, ⟨[.op 1 0], _, [], [1], [16]⟩, ⟨[.op 0 0], _, [], [0, 1, 2], [17]⟩, ⟨[.op 3 0], _, [], Lr 4, [18]⟩, ⟨[.op 2 0, .op 4 0, .old 0], _, [1], Lr 5, [0, 14, 17, 18]⟩]) (F := [.op 5 0, .old 1]) hst hb Za
   (o_p rfl (Zd rfl rfl u_0) <| o_p rfl (Ze Zd7 rfl rfl u_0) <| o_p rfl (Zg ty_9 rfl rfl u_0) <| o_p rfl (Zbc rfl rfl u_0 (fun _ _ ⟨_, _, _, e, _⟩ => ⟨_, e⟩)) <| o_p rfl (Zj Zgp (off := 6) (by kernel_rfl) rfl rfl u_0) <| o_p rfl (Zok ty_9 rfl rfl u_2 u_1 u_0) <| o_n) (by kernel_rfl) (fun a g hst hb => ?_)
 refine r_s (T := [⟨[], _, [], [], [6]⟩]) (F := [.old 0, .old 1, .op 0 0]) hst hb Za
   (o_p rfl (Zc rfl rfl c_i) <| o_n) (by kernel_rfl) (fun a g hst hb => ?_)
 refine wp_ret ?_
 obtain rfl := Option.some.inj H0
 exact Zf5 rfl hst hb (Zl (s := 6)) (hst.at 2 rfl) ⟨Zcn (hst.at 0 rfl), Zcn (hst.at 1 rfl), trivial⟩
theorem Zo1 (a0 : Zb) (a1 : Zs) (a2 : Zi) {r : Int × Zb × Zi} (h : Zki a0 a1 a2 = some r) : FnB Tryd.prog 84 [.box Zf a0 r.2.1, .val (Zw.pd a1), .box Zu a2 r.2.2] (pInt .i64 r.1) := by
 have H0 := h
 unfold Zki at H0
 clear h
 refine Zhz (N := 16) Tryd.func84 rfl rfl (Nat.le_of_ble_eq_true rfl) rfl rfl (fun a g0 bs hbs hst hb => ?_)
 obtain ⟨b0, b2, rfl⟩ := Zjh hbs
 replace hst : St 16 [(0, (Zbl (some b0) Zf 0 a0)), (1, (Zw.pd a1)), (2, (Zbl (some b2) Zu 2 a2))] _ _ := hst
 refine r_s (T := [⟨[.old 1], _, [], [], [4]⟩, ⟨[], _, [], [], [6]⟩]) (F := [.old 0, .old 2, .op 0 0]) hst hb Za
   (o_p rfl (Zbs rfl rfl u_0) <| o_p rfl (Zc rfl rfl c_i) <| o_n) (by kernel_rfl) (fun a g hst hb => ?_)
 refine r_s (T := [⟨[.old 0], _, [], [], [7]⟩, ⟨[.op 0 0], _, [], [0], [8]⟩, ⟨[.op 1 0], _, [], [0, 1], [9]⟩, ⟨[.op 2 0], _, [], [0, 1, 2], [10]⟩, ⟨[.old 2], _, [], [], [11]⟩, ⟨[.op 4 0], _, [], [4], [12]⟩, ⟨[.op 3 0, .op 5 0], _, [], Lr 6, [13]⟩, ⟨[.op 0 0], _, [], Lr 7, [14]⟩, ⟨[.op 7 0], _, [], Lr 8, [15]⟩, ⟨[.op 6 0, .op 8 0, .old 0], _, [1], Lr 9, [0, 7, 8, 9, 14, 15]⟩]) (F := [.op 9 0, .old 1]) hst hb Za
   (o_p rfl (Zd rfl rfl u_0) <| o_p rfl (Zbc rfl rfl u_0 (fun _ _ ⟨_, _, _, e, _⟩ => ⟨_, e⟩)) <| o_p rfl (Zj Zbx (off := 1) (by kernel_rfl) rfl rfl u_0) <| o_p rfl (Z1 ty_2 rfl rfl u_0) <| o_p rfl (Ze Zcq rfl rfl u_0) <| o_p rfl (Zg ty_2 rfl rfl u_0) <| o_p rfl (Zcg rfl rfl u_0 u_1 rfl) <| o_p rfl (Zbc rfl rfl u_0 (fun _ _ ⟨_, _, _, e, _⟩ => ⟨_, e⟩)) <| o_p rfl (Zj Zbx (off := 1) (by kernel_rfl) rfl rfl u_0) <| o_p rfl (Zil ty_2 rfl rfl u_2 u_1 u_0) <| o_n) (by kernel_rfl) (fun a g hst hb => ?_)
 refine r_s (T := [⟨[], _, [], [], [6]⟩]) (F := [.old 0, .old 1, .op 0 0]) hst hb Za
   (o_p rfl (Zc rfl rfl c_i) <| o_n) (by kernel_rfl) (fun a g hst hb => ?_)
 refine wp_ret ?_
 obtain rfl := Option.some.inj H0
 exact Zf5 rfl hst hb (Zl (s := 6)) (hst.at 2 rfl) ⟨Zcn (hst.at 0 rfl), Zcn (hst.at 1 rfl), trivial⟩
theorem Zsj (a0 : Zb) (a1 : Zs) (a2 : Zi) {r : Int × Zb × Zi} (h : Zkr a0 a1 a2 = some r) : FnB Tryd.prog 85 [.box Zf a0 r.2.1, .val (Zw.pd a1), .box Zu a2 r.2.2] (pInt .i64 r.1) := by
 have H0 := h
 unfold Zkr at H0
 clear h
 refine Zhz (N := 44) Tryd.func85 rfl rfl (Nat.le_of_ble_eq_true rfl) rfl rfl (fun a g0 bs hbs hst hb => ?_)
 obtain ⟨b0, b2, rfl⟩ := Zjh hbs
 replace hst : St 44 [(0, (Zbl (some b0) Zf 0 a0)), (1, (Zw.pd a1)), (2, (Zbl (some b2) Zu 2 a2))] _ _ := hst
 refine r_s (T := [⟨[.old 1], _, [], [], [4]⟩, ⟨[], _, [], [], [6]⟩]) (F := [.old 0, .old 2, .op 0 0]) hst hb Za
   (o_p rfl (Zbs rfl rfl u_0) <| o_p rfl (Zc rfl rfl c_i) <| o_n) (by kernel_rfl) (fun a g hst hb => ?_)
 refine wp_seq ?_
 refine r_s (T := ⟨[.old 2], _, [], [], [7]⟩ :: ⟨[.op 0 0], _, [], [0], [8]⟩ :: ⟨[.op 1 0], _, [], [0, 1], [9]⟩ :: ⟨[.op 2 0], _, [], [0, 1, 2], [10]⟩ :: ⟨[.op 3 0, .old 0], _, [], Lr 4, [11]⟩ :: ⟨[.op 3 0, .op 4 0], _, [], Lr 5, [12]⟩ :: ⟨[.op 3 0, .op 5 0], _, [], Lr 6, [13]⟩ :: ⟨[.op 3 0, .op 6 0], _, [], Lr 7, [14]⟩ :: ⟨[.op 3 0, .old 2], _, [], Lr 4, [15]⟩ :: ⟨[.op 3 0, .op 8 0], _, [], [0, 1, 2, 3, 8], [16]⟩ :: ⟨[.op 3 0, .op 9 0], _, [], [0, 1, 2, 3, 8, 9], [17]⟩ :: ⟨[.op 3 0, .op 7 0, .op 10 0], _, [], Lr 11, [18]⟩ :: ⟨[.op 3 0, .op 11 0], _, [], Lr 12, [19]⟩ :: ⟨[.op 12 0], _, [], Lr 13, [20]⟩ :: ⟨[.op 13 0, .old 2], _, [], Lr 14, [21]⟩ :: ⟨[.op 13 0, .op 14 0], _, [], Lr 15, [22]⟩ :: ⟨[.op 13 0, .op 15 0], _, [], Lr 16, [23]⟩ :: ⟨[.op 13 0, .op 16 0], _, [], Lr 17, [24]⟩ :: ⟨[.op 17 0, .old 0], _, [], Lr 18, [25]⟩ :: ⟨[.op 17 0, .op 18 0], _, [], Lr 19, [26]⟩ :: ⟨[.op 17 0, .op 19 0], _, [], Lr 20, [27]⟩ :: ⟨[.op 17 0, .op 20 0], _, [], Lr 21, [28]⟩ :: ⟨[.op 17 0, .old 2], _, [], Lr 18, [29]⟩ :: ⟨[.op 17 0, .op 22 0], _, [], 0 :: 1 :: 2 :: 3 :: 4 :: 5 :: 6 :: 7 :: 8 :: 9 :: 10 :: 11 :: 12 :: 13 :: 14 :: 15 :: 16 :: 17 :: 22 :: [], [30]⟩ :: ⟨[.op 17 0, .op 23 0], _, [], 0 :: 1 :: 2 :: 3 :: 4 :: 5 :: 6 :: 7 :: 8 :: 9 :: 10 :: 11 :: 12 :: 13 :: 14 :: 15 :: 16 :: 17 :: 22 :: 23 :: [], [31]⟩ :: ⟨[.op 17 0, .op 21 0, .op 24 0], _, [], Lr 25, [32]⟩ :: ⟨[.op 13 0, .op 17 0, .op 25 0], _, [], Lr 26, [33]⟩ :: ⟨[.op 13 0, .op 26 0], _, [], Lr 27, [34]⟩ :: []) (F := [.old 0, .old 1, .old 2, .op 27 0]) hst hb Za
   (o_p rfl (Ze Zcq rfl rfl u_0) <| o_p rfl (Zg ty_2 rfl rfl u_0) <| o_p rfl (Zcj rfl rfl u_0 c_i) <| o_p rfl (Zd rfl rfl u_0) <| o_g (g_t rfl rfl rfl (fun hG => Zd rfl rfl u_0)) <| o_g (g_t rfl rfl rfl (fun hG => Zbc rfl rfl (Opd.gd hG u_0) (fun _ _ ⟨_, _, _, e, _⟩ => ⟨_, e⟩))) <| o_g (g_t rfl rfl rfl (fun hG => Zj Zbx (off := 1) (by kernel_rfl) rfl rfl (Opd.gd hG u_0))) <| o_g (g_t rfl rfl rfl (fun hG => Z1 ty_2 rfl rfl (Opd.gd hG u_0))) <| o_g (g_t rfl rfl rfl (fun hG => Ze Zcq rfl rfl u_0)) <| o_g (g_t rfl rfl rfl (fun hG => Zg ty_2 rfl rfl (Opd.gd hG u_0))) <| o_g (g_t rfl rfl rfl (fun hG => Zd5 rfl rfl c_i (Opd.gd hG u_0) rfl)) <| o_g (g_t rfl rfl rfl (fun hG => Zcj rfl rfl (Opd.gd hG u_0) (Opd.gd hG u_1))) <| o_p rfl (Zbb rfl rfl u_0 (fun hz => (Opd.gd hz u_1))) <| o_p rfl (Zd rfl rfl u_0) <| o_g (g_f rfl rfl rfl (fun hG => Ze Zcq rfl rfl u_0)) <| o_g (g_f rfl rfl rfl (fun hG => Zg ty_2 rfl rfl (Opd.gd hG u_0))) <| o_g (g_f rfl rfl rfl (fun hG => Zcb rfl rfl (Opd.gd hG u_0) c_i)) <| o_g (g_f rfl rfl rfl (fun hG => Zd rfl rfl (Opd.gd hG u_0))) <| o_g (g_ti rfl rfl rfl (fun hG => Zd rfl rfl u_0)) <| o_g (g_ti rfl rfl rfl (fun hG => Zbc rfl rfl (Opd.gd hG u_0) (fun _ _ ⟨_, _, _, e, _⟩ => ⟨_, e⟩))) <| o_g (g_ti rfl rfl rfl (fun hG => Zj Zbx (off := 1) (by kernel_rfl) rfl rfl (Opd.gd hG u_0))) <| o_g (g_ti rfl rfl rfl (fun hG => Z1 ty_2 rfl rfl (Opd.gd hG u_0))) <| o_g (g_ti rfl rfl rfl (fun hG => Ze Zcq rfl rfl u_0)) <| o_g (g_ti rfl rfl rfl (fun hG => Zg ty_2 rfl rfl (Opd.gd hG u_0))) <| o_g (g_ti rfl rfl rfl (fun hG => Zd5 rfl rfl c_i (Opd.gd hG u_0) rfl)) <| o_g (g_ti rfl rfl rfl (fun hG => Zcb rfl rfl (Opd.gd hG u_0) (Opd.gd hG u_1))) <| o_g (g_f rfl rfl rfl (fun hG => Zbb rfl rfl (Opd.gd hG u_0) (fun hz => (Opd.gd (bA hG hz) u_1)))) <| o_p rfl (Zbj rfl rfl u_0 (fun hz => (Opd.gd (bNF hz) u_1))) <| o_n) (by kernel_rfl) (fun a g hst hb => ?_)
 refine wp_cond_split (hst.bool 3 rfl) (fun hc1 => ?_) (fun hc1 => ?_)
 · replace H0 := Zp hc1 H0
   refine r_s (L := [(0, _), (2, _)]) (T := [⟨[], _, [], [], [6]⟩]) (F := [.old 0, .old 1, .op 0 0]) (hst.pick [0, 1] rfl) hb Za
     (o_p rfl (Zc rfl rfl c_i) <| o_n) (by kernel_rfl) (fun a g hst hb => ?_)
   refine wp_ret ?_
   refine Zm ?_
   obtain rfl := Option.some.inj H0
   exact Zf5 rfl hst hb (Zl (s := 6)) (hst.at 2 rfl) ⟨Zcn (hst.at 0 rfl), Zcn (hst.at 1 rfl), trivial⟩
 · replace H0 := Zo hc1 H0
   refine wp_skip ?_
   refine Zq ?_
   refine r_s (L := [(0, _), (2, _), (4, _)]) (T := [⟨[.old 0], _, [], [], [35]⟩, ⟨[.op 0 0], _, [], [0], [36]⟩, ⟨[.op 1 0], _, [], [0, 1], [37]⟩, ⟨[.op 2 0], _, [], [0, 1, 2], [38]⟩, ⟨[.old 2], _, [], [], [39]⟩, ⟨[.op 4 0], _, [], [4], [40]⟩, ⟨[.op 3 0, .op 5 0], _, [], Lr 6, [41]⟩, ⟨[.op 0 0], _, [], Lr 7, [42]⟩, ⟨[.op 7 0], _, [], Lr 8, [43]⟩, ⟨[.op 6 0, .op 8 0, .old 0], _, [1], Lr 9, [0, 35, 36, 37, 42, 43]⟩]) (F := [.op 9 0, .old 1]) (hst.pick [0, 1, 2] rfl) hb Za
     (o_p rfl (Zd rfl rfl u_0) <| o_p rfl (Zbc rfl rfl u_0 (fun _ _ ⟨_, _, _, e, _⟩ => ⟨_, e⟩)) <| o_p rfl (Zj Zbx (off := 1) (by kernel_rfl) rfl rfl u_0) <| o_p rfl (Z1 ty_2 rfl rfl u_0) <| o_p rfl (Ze Zcq rfl rfl u_0) <| o_p rfl (Zg ty_2 rfl rfl u_0) <| o_p rfl (Zcg rfl rfl u_0 u_1 rfl) <| o_p rfl (Zbc rfl rfl u_0 (fun _ _ ⟨_, _, _, e, _⟩ => ⟨_, e⟩)) <| o_p rfl (Zj Zbx (off := 1) (by kernel_rfl) rfl rfl u_0) <| o_p rfl (Zil ty_2 rfl rfl u_2 u_1 u_0) <| o_n) (by kernel_rfl) (fun a g hst hb => ?_)
   refine r_s (T := [⟨[], _, [], [], [6]⟩]) (F := [.old 0, .old 1, .op 0 0]) hst hb Za
     (o_p rfl (Zc rfl rfl c_i) <| o_n) (by kernel_rfl) (fun a g hst hb => ?_)
   refine wp_ret ?_
   obtain rfl := Option.some.inj H0
   exact Zf5 rfl hst hb (Zl (s := 6)) (hst.at 2 rfl) ⟨Zcn (hst.at 0 rfl), Zcn (hst.at 1 rfl), trivial⟩
theorem Zl0 (a0 : Zb) (a1 : Zs) (a2 : Zi) {r : Int × Zb × Zi} (h : Zh4 a0 a1 a2 = some r) : FnB Tryd.prog 86 [.box Zf a0 r.2.1, .val (Zw.pd a1), .box Zu a2 r.2.2] (pInt .i64 r.1) := by
 have H0 := h
 unfold Zh4 at H0
 clear h
 refine Zhz (N := 14) Tryd.func86 rfl rfl (Nat.le_of_ble_eq_true rfl) rfl rfl (fun a g0 bs hbs hst hb => ?_)
 obtain ⟨b0, b2, rfl⟩ := Zjh hbs
 replace hst : St 14 [(0, (Zbl (some b0) Zf 0 a0)), (1, (Zw.pd a1)), (2, (Zbl (some b2) Zu 2 a2))] _ _ := hst
 refine r_s (T := [⟨[.old 1], _, [], [], [4]⟩, ⟨[], _, [], [], [6]⟩]) (F := [.old 0, .old 2, .op 0 0]) hst hb Za
   (o_p rfl (Zbs rfl rfl u_0) <| o_p rfl (Zc rfl rfl c_i) <| o_n) (by kernel_rfl) (fun a g hst hb => ?_)
 refine wp_seq ?_
 refine r_s (T := [⟨[.old 0], _, [], [], [7]⟩, ⟨[.op 0 0], _, [], [0], [8]⟩, ⟨[.op 1 0], _, [], [0, 1], [9]⟩, ⟨[.op 2 0], _, [], [0, 1, 2], [10]⟩, ⟨[.old 2], _, [], [], [11]⟩, ⟨[.op 4 0], _, [], [4], [12]⟩, ⟨[.op 3 0, .op 5 0], _, [], Lr 6, [13]⟩]) (F := [.old 0, .old 1, .op 6 0]) hst hb Za
   (o_p rfl (Zd rfl rfl u_0) <| o_p rfl (Zbc rfl rfl u_0 (fun _ _ ⟨_, _, _, e, _⟩ => ⟨_, e⟩)) <| o_p rfl (Zj Zbx (off := 1) (by kernel_rfl) rfl rfl u_0) <| o_p rfl (Z1 ty_2 rfl rfl u_0) <| o_p rfl (Ze Zcq rfl rfl u_0) <| o_p rfl (Zg ty_2 rfl rfl u_0) <| o_p rfl (Zcb rfl rfl u_0 u_1) <| o_n) (by kernel_rfl) (fun a g hst hb => ?_)
 refine wp_cond_split (hst.bool 2 rfl) (fun hc1 => ?_) (fun hc1 => ?_)
 · replace H0 := Zp hc1 H0
   refine r_s (L := [(0, _), (2, _)]) (T := [⟨[], _, [], [], [6]⟩]) (F := [.old 0, .old 1, .op 0 0]) (hst.pick [0, 1] rfl) hb Za
     (o_p rfl (Zc rfl rfl c_i) <| o_n) (by kernel_rfl) (fun a g hst hb => ?_)
   refine wp_ret ?_
   refine Zm ?_
   obtain rfl := Option.some.inj H0
   exact Zf5 rfl hst hb (Zl (s := 6)) (hst.at 2 rfl) ⟨Zcn (hst.at 0 rfl), Zcn (hst.at 1 rfl), trivial⟩
 · replace H0 := Zo hc1 H0
   refine wp_skip ?_
   refine Zq ?_
   refine r_s (L := [(0, _), (2, _)]) (T := [⟨[], _, [], [], [6]⟩]) (F := [.old 0, .old 1, .op 0 0]) (hst.pick [0, 1] rfl) hb Za
     (o_p rfl (Zc rfl rfl c_i) <| o_n) (by kernel_rfl) (fun a g hst hb => ?_)
   refine wp_ret ?_
   obtain rfl := Option.some.inj H0
   exact Zf5 rfl hst hb (Zl (s := 6)) (hst.at 2 rfl) ⟨Zcn (hst.at 0 rfl), Zcn (hst.at 1 rfl), trivial⟩
theorem Zoy (a0 : Zb) (a1 : Zs) (a2 : Zi) {r : Int × Zb × Zi} (h : Zh1 a0 a1 a2 = some r) : FnB Tryd.prog 87 [.box Zf a0 r.2.1, .val (Zw.pd a1), .box Zu a2 r.2.2] (pInt .i64 r.1) := by
 have H0 := h
 unfold Zh1 at H0
 clear h
 refine Zhz (N := 28) Tryd.func87 rfl rfl (Nat.le_of_ble_eq_true rfl) rfl rfl (fun a g0 bs hbs hst hb => ?_)
 obtain ⟨b0, b2, rfl⟩ := Zjh hbs
 replace hst : St 28 [(0, (Zbl (some b0) Zf 0 a0)), (1, (Zw.pd a1)), (2, (Zbl (some b2) Zu 2 a2))] _ _ := hst
 refine r_s (T := [⟨[.old 1], _, [], [], [4]⟩, ⟨[], _, [], [], [6]⟩]) (F := [.old 0, .old 2, .op 0 0]) hst hb Za
   (o_p rfl (Zbs rfl rfl u_0) <| o_p rfl (Zc rfl rfl c_i) <| o_n) (by kernel_rfl) (fun a g hst hb => ?_)
 refine wp_seq ?_
 refine r_s (T := ⟨[.old 2], _, [], [], [7]⟩ :: ⟨[.op 0 0], _, [], [0], [8]⟩ :: ⟨[.old 0], _, [], [], [9]⟩ :: ⟨[.op 2 0], _, [], [2], [10]⟩ :: ⟨[.op 3 0], _, [], [2, 3], [11]⟩ :: ⟨[.op 4 0], _, [], [2, 3, 4], [12]⟩ :: ⟨[.old 0], _, [], [], [13]⟩ :: ⟨[.op 6 0], _, [], [6], [14]⟩ :: ⟨[.op 7 0], _, [], [6, 7], [15]⟩ :: ⟨[.op 8 0], _, [], [6, 7, 8], [16]⟩ :: ⟨[.op 5 0, .op 9 0], _, [], List.range' 2 8, [17]⟩ :: ⟨[.op 1 0, .op 10 0], _, [], Lr 11, [18]⟩ :: []) (F := [.old 0, .old 1, .old 2, .op 11 0]) hst hb Za
   (o_p rfl (Ze Zcq rfl rfl u_0) <| o_p rfl (Zg ty_2 rfl rfl u_0) <| o_p rfl (Zd rfl rfl u_0) <| o_p rfl (Zbc rfl rfl u_0 (fun _ _ ⟨_, _, _, e, _⟩ => ⟨_, e⟩)) <| o_p rfl (Zj Zgn (off := 3) (by kernel_rfl) rfl rfl u_0) <| o_p rfl (Z1 ty_2 rfl rfl u_0) <| o_p rfl (Zd rfl rfl u_0) <| o_p rfl (Zbc rfl rfl u_0 (fun _ _ ⟨_, _, _, e, _⟩ => ⟨_, e⟩)) <| o_p rfl (Zj Zbx (off := 1) (by kernel_rfl) rfl rfl u_0) <| o_p rfl (Z1 ty_2 rfl rfl u_0) <| o_p rfl (Zd5 rfl rfl u_0 u_1 rfl) <| o_p rfl (Zcj rfl rfl u_0 u_1) <| o_n) (by kernel_rfl) (fun a g hst hb => ?_)
 refine wp_cond_split (hst.bool 3 rfl) (fun hc1 => ?_) (fun hc1 => ?_)
 · replace H0 := Zp hc1 H0
   refine r_s (L := [(0, _), (2, _)]) (T := [⟨[], _, [], [], [6]⟩]) (F := [.old 0, .old 1, .op 0 0]) (hst.pick [0, 1] rfl) hb Za
     (o_p rfl (Zc rfl rfl c_i) <| o_n) (by kernel_rfl) (fun a g hst hb => ?_)
   refine wp_ret ?_
   refine Zm ?_
   obtain rfl := Option.some.inj H0
   exact Zf5 rfl hst hb (Zl (s := 6)) (hst.at 2 rfl) ⟨Zcn (hst.at 0 rfl), Zcn (hst.at 1 rfl), trivial⟩
 · replace H0 := Zo hc1 H0
   refine wp_skip ?_
   refine Zq ?_
   refine r_s (L := [(0, _), (2, _), (4, _)]) (T := [⟨[.old 0], _, [], [], [19]⟩, ⟨[.op 0 0], _, [], [0], [20]⟩, ⟨[.op 1 0], _, [], [0, 1], [21]⟩, ⟨[.op 2 0], _, [], [0, 1, 2], [22]⟩, ⟨[.old 2], _, [], [], [23]⟩, ⟨[.op 4 0], _, [], [4], [24]⟩, ⟨[.op 3 0, .op 5 0], _, [], Lr 6, [25]⟩, ⟨[.op 0 0], _, [], Lr 7, [26]⟩, ⟨[.op 7 0], _, [], Lr 8, [27]⟩, ⟨[.op 6 0, .op 8 0, .old 0], _, [1], Lr 9, [0, 19, 20, 21, 26, 27]⟩]) (F := [.op 9 0, .old 1]) (hst.pick [0, 1, 2] rfl) hb Za
     (o_p rfl (Zd rfl rfl u_0) <| o_p rfl (Zbc rfl rfl u_0 (fun _ _ ⟨_, _, _, e, _⟩ => ⟨_, e⟩)) <| o_p rfl (Zj Zbx (off := 1) (by kernel_rfl) rfl rfl u_0) <| o_p rfl (Z1 ty_2 rfl rfl u_0) <| o_p rfl (Ze Zcq rfl rfl u_0) <| o_p rfl (Zg ty_2 rfl rfl u_0) <| o_p rfl (Zcg rfl rfl u_0 u_1 rfl) <| o_p rfl (Zbc rfl rfl u_0 (fun _ _ ⟨_, _, _, e, _⟩ => ⟨_, e⟩)) <| o_p rfl (Zj Zbx (off := 1) (by kernel_rfl) rfl rfl u_0) <| o_p rfl (Zil ty_2 rfl rfl u_2 u_1 u_0) <| o_n) (by kernel_rfl) (fun a g hst hb => ?_)
   refine r_s (T := [⟨[], _, [], [], [6]⟩]) (F := [.old 0, .old 1, .op 0 0]) hst hb Za
     (o_p rfl (Zc rfl rfl c_i) <| o_n) (by kernel_rfl) (fun a g hst hb => ?_)
   refine wp_ret ?_
   obtain rfl := Option.some.inj H0
   exact Zf5 rfl hst hb (Zl (s := 6)) (hst.at 2 rfl) ⟨Zcn (hst.at 0 rfl), Zcn (hst.at 1 rfl), trivial⟩
theorem Zoz (a0 : Zb) (a1 : Zs) (a2 : Zi) {r : Int × Zb × Zi} (h : Zhu a0 a1 a2 = some r) : FnB Tryd.prog 88 [.box Zf a0 r.2.1, .val (Zw.pd a1), .box Zu a2 r.2.2] (pInt .i64 r.1) := by
 have H0 := h
 unfold Zhu at H0
 clear h
 refine Zhz (N := 28) Tryd.func88 rfl rfl (Nat.le_of_ble_eq_true rfl) rfl rfl (fun a g0 bs hbs hst hb => ?_)
 obtain ⟨b0, b2, rfl⟩ := Zjh hbs
 replace hst : St 28 [(0, (Zbl (some b0) Zf 0 a0)), (1, (Zw.pd a1)), (2, (Zbl (some b2) Zu 2 a2))] _ _ := hst
 refine r_s (T := [⟨[.old 1], _, [], [], [4]⟩, ⟨[], _, [], [], [6]⟩]) (F := [.old 0, .old 2, .op 0 0]) hst hb Za
   (o_p rfl (Zbs rfl rfl u_0) <| o_p rfl (Zc rfl rfl c_i) <| o_n) (by kernel_rfl) (fun a g hst hb => ?_)
 refine wp_seq ?_
 refine r_s (T := ⟨[.old 2], _, [], [], [7]⟩ :: ⟨[.op 0 0], _, [], [0], [8]⟩ :: ⟨[.old 0], _, [], [], [9]⟩ :: ⟨[.op 2 0], _, [], [2], [10]⟩ :: ⟨[.op 3 0], _, [], [2, 3], [11]⟩ :: ⟨[.op 4 0], _, [], [2, 3, 4], [12]⟩ :: ⟨[.old 0], _, [], [], [13]⟩ :: ⟨[.op 6 0], _, [], [6], [14]⟩ :: ⟨[.op 7 0], _, [], [6, 7], [15]⟩ :: ⟨[.op 8 0], _, [], [6, 7, 8], [16]⟩ :: ⟨[.op 5 0, .op 9 0], _, [], List.range' 2 8, [17]⟩ :: ⟨[.op 1 0, .op 10 0], _, [], Lr 11, [18]⟩ :: []) (F := [.old 0, .old 1, .old 2, .op 11 0]) hst hb Za
   (o_p rfl (Ze Zcq rfl rfl u_0) <| o_p rfl (Zg ty_2 rfl rfl u_0) <| o_p rfl (Zd rfl rfl u_0) <| o_p rfl (Zbc rfl rfl u_0 (fun _ _ ⟨_, _, _, e, _⟩ => ⟨_, e⟩)) <| o_p rfl (Zj Zbx (off := 1) (by kernel_rfl) rfl rfl u_0) <| o_p rfl (Z1 ty_2 rfl rfl u_0) <| o_p rfl (Zd rfl rfl u_0) <| o_p rfl (Zbc rfl rfl u_0 (fun _ _ ⟨_, _, _, e, _⟩ => ⟨_, e⟩)) <| o_p rfl (Zj Zgl (off := 2) (by kernel_rfl) rfl rfl u_0) <| o_p rfl (Z1 ty_2 rfl rfl u_0) <| o_p rfl (Zd5 rfl rfl u_0 u_1 rfl) <| o_p rfl (Zcj rfl rfl u_0 u_1) <| o_n) (by kernel_rfl) (fun a g hst hb => ?_)
 refine wp_cond_split (hst.bool 3 rfl) (fun hc1 => ?_) (fun hc1 => ?_)
 · replace H0 := Zp hc1 H0
   refine r_s (L := [(0, _), (2, _)]) (T := [⟨[], _, [], [], [6]⟩]) (F := [.old 0, .old 1, .op 0 0]) (hst.pick [0, 1] rfl) hb Za
     (o_p rfl (Zc rfl rfl c_i) <| o_n) (by kernel_rfl) (fun a g hst hb => ?_)
   refine wp_ret ?_
   refine Zm ?_
   obtain rfl := Option.some.inj H0
   exact Zf5 rfl hst hb (Zl (s := 6)) (hst.at 2 rfl) ⟨Zcn (hst.at 0 rfl), Zcn (hst.at 1 rfl), trivial⟩
 · replace H0 := Zo hc1 H0
   refine wp_skip ?_
   refine Zq ?_
   refine r_s (L := [(0, _), (2, _), (4, _)]) (T := [⟨[.old 0], _, [], [], [19]⟩, ⟨[.op 0 0], _, [], [0], [20]⟩, ⟨[.op 1 0], _, [], [0, 1], [21]⟩, ⟨[.op 2 0], _, [], [0, 1, 2], [22]⟩, ⟨[.old 2], _, [], [], [23]⟩, ⟨[.op 4 0], _, [], [4], [24]⟩, ⟨[.op 3 0, .op 5 0], _, [], Lr 6, [25]⟩, ⟨[.op 0 0], _, [], Lr 7, [26]⟩, ⟨[.op 7 0], _, [], Lr 8, [27]⟩, ⟨[.op 6 0, .op 8 0, .old 0], _, [1], Lr 9, [0, 19, 20, 21, 26, 27]⟩]) (F := [.op 9 0, .old 1]) (hst.pick [0, 1, 2] rfl) hb Za
     (o_p rfl (Zd rfl rfl u_0) <| o_p rfl (Zbc rfl rfl u_0 (fun _ _ ⟨_, _, _, e, _⟩ => ⟨_, e⟩)) <| o_p rfl (Zj Zbx (off := 1) (by kernel_rfl) rfl rfl u_0) <| o_p rfl (Z1 ty_2 rfl rfl u_0) <| o_p rfl (Ze Zcq rfl rfl u_0) <| o_p rfl (Zg ty_2 rfl rfl u_0) <| o_p rfl (Zd5 rfl rfl u_0 u_1 rfl) <| o_p rfl (Zbc rfl rfl u_0 (fun _ _ ⟨_, _, _, e, _⟩ => ⟨_, e⟩)) <| o_p rfl (Zj Zbx (off := 1) (by kernel_rfl) rfl rfl u_0) <| o_p rfl (Zil ty_2 rfl rfl u_2 u_1 u_0) <| o_n) (by kernel_rfl) (fun a g hst hb => ?_)
   refine r_s (T := [⟨[], _, [], [], [6]⟩]) (F := [.old 0, .old 1, .op 0 0]) hst hb Za
     (o_p rfl (Zc rfl rfl c_i) <| o_n) (by kernel_rfl) (fun a g hst hb => ?_)
   refine wp_ret ?_
   obtain rfl := Option.some.inj H0
   exact Zf5 rfl hst hb (Zl (s := 6)) (hst.at 2 rfl) ⟨Zcn (hst.at 0 rfl), Zcn (hst.at 1 rfl), trivial⟩
theorem Zhx (h : Nat) (he : Zn Tryd.prog h) (ψ : Nat → Nat → Option Nat) (hψ : ∀ x y z, ψ x y = some z → FnOk Tryd.prog h [pFlt x, pFlt y] (pFlt z)) (a0 : Zb) (a1 : Zs) (a2 : Zi) {z : Nat} (hz : ψ a0.Real a1.X = some z) : FnB Tryd.prog 106 [.box Zf a0 { a0 with Real := z }, .val (Zw.pd a1), .box Zu a2 a2, .val (Kd.fnc.ptr h)] (pInt .i64 0) := by
 refine Zhz (N := 19) Tryd.func106 rfl rfl (Nat.le_of_ble_eq_true rfl) rfl rfl (fun a g0 bs hbs hst hb => ?_)
 obtain ⟨b0, b2, rfl⟩ := Zjh hbs
 replace hst : St 19 [(0, (Zbl (some b0) Zf 0 a0)), (1, (Zw.pd a1)), (2, (Zbl (some b2) Zu 2 a2)), (3, (Kd.fnc.ptr h))] _ _ := hst
 refine r_s (T := [⟨[.old 1], _, [], [], [5]⟩, ⟨[], _, [], [], [7]⟩]) (F := [.old 0, .old 2, .old 3, .op 0 0]) hst hb Za
   (o_p rfl (Zbs rfl rfl u_0) <| o_p rfl (Zc rfl rfl c_i) <| o_n) (by kernel_rfl) (fun a g hst hb => ?_)
 refine r_s (T := [⟨[.old 0], _, [], [], [8]⟩, ⟨[.old 2], _, [], [], [9]⟩, ⟨[.old 0], _, [], [], [10]⟩, ⟨[.op 2 0], _, [], [2], [11]⟩, ⟨[.op 3 0], _, [], [2, 3], [12]⟩, ⟨[.op 4 0], _, [], [2, 3, 4], [13]⟩, ⟨[.old 3], _, [], [], [14]⟩, ⟨[.op 6 0], _, [], [6], [15]⟩, ⟨[.op 1 0, .op 5 0, .op 7 0], [(16, (pFlt z))], [], [1, 2, 3, 4, 5, 6, 7], [16]⟩, ⟨[.op 0 0], _, [], [0, 1, 2, 3, 4, 5, 6, 7, 8], [17]⟩, ⟨[.op 9 0], _, [], [0, 1, 2, 3, 4, 5, 6, 7, 8, 9], [18]⟩, ⟨[.op 8 0, .op 10 0, .old 0], _, [1], [0, 1, 2, 3, 4, 5, 6, 7, 8, 9, 10], [0, 8, 10, 11, 12, 17, 18]⟩]) (F := [.op 11 0, .old 1]) hst hb Za
   (o_p rfl (Zd rfl rfl u_0) <| o_p rfl (Zg Z2h rfl rfl u_0) <| o_p rfl (Zd rfl rfl u_0) <| o_p rfl (Zbc rfl rfl u_0 (fun _ _ ⟨_, _, _, e, _⟩ => ⟨_, e⟩)) <| o_p rfl (Zj Zcv (off := 4) (by kernel_rfl) rfl rfl u_0) <| o_p rfl (Z1 Zby rfl rfl u_0) <| o_p rfl (Ze Zgm rfl rfl u_0) <| o_p rfl (Zg Zby rfl rfl u_0) <| o_p rfl (Zm0 (C := []) (hC := rfl) he (hψ _ _ _ hz) rfl rfl (Opd.imp u_0 (fun _ _ h => Zzs h)) (.cons u_1 (.cons u_2 .nil))) <| o_p rfl (Zbc rfl rfl u_0 (fun _ _ ⟨_, _, _, e, _⟩ => ⟨_, e⟩)) <| o_p rfl (Zj Zcv (off := 4) (by kernel_rfl) rfl rfl u_0) <| o_p rfl (Zio Zby rfl rfl u_2 u_1 u_0) <| o_n) (by kernel_rfl) (fun a g hst hb => ?_)
 refine r_s (T := [⟨[], _, [], [], [7]⟩]) (F := [.old 0, .old 1, .op 0 0]) hst hb Za
   (o_p rfl (Zc rfl rfl c_i) <| o_n) (by kernel_rfl) (fun a g hst hb => ?_)
 refine wp_ret ?_
 exact Zf5 rfl hst hb (Zl (s := 7)) (hst.at 2 rfl) ⟨Zcn (hst.at 0 rfl), Zcn (hst.at 1 rfl), trivial⟩
theorem Zi0 (h : Nat) : FnOk Tryd.prog 89 [(Kd.fnc.pd h)] (pClo 106 [(Kd.fnc.ptr h)] rfl) := by
 refine Zbq (N := 4) Tryd.func89 rfl rfl (Nat.le_of_ble_eq_true rfl) rfl rfl (fun a g0 hst hb => ?_)
 refine r_s (T := [⟨[.old 0], _, [], [], [1]⟩, ⟨[], [], [], [], [2]⟩]) (F := [.op 0 0]) hst hb Za
   (o_p rfl (Zbs rfl rfl u_0) <| o_p rfl (Zyb (.inr rfl)) <| o_n) (by kernel_rfl) (fun a g hst hb => ?_)
 refine r_s (T := [⟨[.old 0], [(3, (pClo 106 [(Kd.fnc.ptr h)] rfl))], [], [], [3]⟩, ⟨[.op 0 0], _, [], [0], [2]⟩]) (F := [.op 1 0]) hst hb Za
   (o_p rfl (Ztl rfl rfl (.cons u_0 .nil)) <| o_p rfl (Zc rfl rfl u_0) <| o_n) (by kernel_rfl) (fun a g hst hb => ?_)
 refine wp_ret ?_
 exact Zx rfl hst hb (Zl (s := 2)) (hst.at 0 rfl)
theorem Ztq (a0 : Nat) (a1 : Nat) {r : Nat} (h : Ziz a0 a1 = some r) : FnOk Tryd.prog 90 [(pFlt a0), (pFlt a1)] (pFlt r) := by
 have H0 := h
 unfold Ziz at H0
 clear h
 refine Zbq (N := 9) Tryd.func90 rfl rfl (Nat.le_of_ble_eq_true rfl) rfl rfl (fun a g0 hst hb => ?_)
 refine r_s (T := [⟨[], _, [], [], [4]⟩]) (F := [.old 0, .old 1]) hst hb Za
   (o_p rfl (Zc rfl rfl c_f) <| o_n) (by kernel_rfl) (fun a g hst hb => ?_)
 obtain ⟨r1, h2, H0⟩ := Zk H0
 refine r_s (T := [⟨[.old 0], _, [], [], [5]⟩, ⟨[.old 1], _, [], [], [6]⟩, ⟨[.op 0 0, .op 1 0], _, [], [0, 1], [7]⟩, ⟨[.op 2 0], _, [], [0, 1, 2], [8]⟩, ⟨[.op 3 0], _, [], Lr 4, [4]⟩]) (F := [.op 4 0]) hst hb Za
   (o_p rfl (Zd rfl rfl u_0) <| o_p rfl (Zd rfl rfl u_0) <| o_p rfl (Zsr rfl rfl u_0 u_1) <| o_p rfl (Zt Zl4 (Zm8 (fun r z hr hz => by simp only [Zez, hr, hz, Option.bind_some, if_true]) (fun z r h => Zf0 z h) h2) rfl rfl (.cons u_0 .nil)) <| o_p rfl (Zc rfl rfl u_0) <| o_n) (by kernel_rfl) (fun a g hst hb => ?_)
 refine wp_ret ?_
 obtain rfl := Option.some.inj H0
 exact Zx rfl hst hb (Zl (s := 4)) (hst.at 0 rfl)
theorem Zsy (a0 : Nat) (a1 : Nat) {r : Nat} (h : Zh7 a0 a1 = some r) : FnOk Tryd.prog 91 [(pFlt a0), (pFlt a1)] (pFlt r) := by
 have H0 := h
 unfold Zh7 at H0
 clear h
 refine Zbq (N := 9) Tryd.func91 rfl rfl (Nat.le_of_ble_eq_true rfl) rfl rfl (fun a g0 hst hb => ?_)
 refine r_s (T := [⟨[], _, [], [], [4]⟩]) (F := [.old 0, .old 1]) hst hb Za
   (o_p rfl (Zc rfl rfl c_f) <| o_n) (by kernel_rfl) (fun a g hst hb => ?_)
 obtain ⟨r1, h2, H0⟩ := Zk H0
 refine r_s (T := [⟨[.old 0], _, [], [], [5]⟩, ⟨[.old 1], _, [], [], [6]⟩, ⟨[.op 0 0, .op 1 0], _, [], [0, 1], [7]⟩, ⟨[.op 2 0], _, [], [0, 1, 2], [8]⟩, ⟨[.op 3 0], _, [], Lr 4, [4]⟩]) (F := [.op 4 0]) hst hb Za
   (o_p rfl (Zd rfl rfl u_0) <| o_p rfl (Zd rfl rfl u_0) <| o_p rfl (Zsd rfl rfl u_0 u_1) <| o_p rfl (Zt Zl4 (Zm8 (fun r z hr hz => by simp only [Zez, hr, hz, Option.bind_some, if_true]) (fun z r h => Zf0 z h) h2) rfl rfl (.cons u_0 .nil)) <| o_p rfl (Zc rfl rfl u_0) <| o_n) (by kernel_rfl) (fun a g hst hb => ?_)
 refine wp_ret ?_
 obtain rfl := Option.some.inj H0
 exact Zx rfl hst hb (Zl (s := 4)) (hst.at 0 rfl)
theorem Zo0 (a0 : Nat) (a1 : Nat) {r : Nat} (h : Zgk a0 a1 = some r) : FnOk Tryd.prog 92 [(pFlt a0), (pFlt a1)] (pFlt r) := by
 have H0 := h
 unfold Zgk at H0
 clear h
 refine Zbq (N := 6) Tryd.func92 rfl rfl (Nat.le_of_ble_eq_true rfl) rfl rfl (fun a g0 hst hb => ?_)
 refine r_s (L := [(1, _)]) (T := [⟨[], _, [], [], [4]⟩]) (F := [.old 0]) (hst.pick [1] rfl) hb Za
   (o_p rfl (Zc rfl rfl c_f) <| o_n) (by kernel_rfl) (fun a g hst hb => ?_)
 refine r_s (T := [⟨[.old 0], _, [], [], [5]⟩, ⟨[.op 0 0], _, [], [0], [4]⟩]) (F := [.op 1 0]) hst hb Za
   (o_p rfl (Zd rfl rfl u_0) <| o_p rfl (Zc rfl rfl u_0) <| o_n) (by kernel_rfl) (fun a g hst hb => ?_)
 refine wp_ret ?_
 obtain rfl := Option.some.inj H0
 exact Zx rfl hst hb (Zl (s := 4)) (hst.at 0 rfl)
theorem Zgd (f2 : Nat) (C2 : List Pd) (hC2 : Free C2) (e2_ : Zn Tryd.prog f2) (φ2 : Zh → ByteArray → Option Int) (hφ2 : ∀ (y0 : Zh) (y1 : ByteArray) (r : Int), φ2 y0 y1 = some r → FnOk Tryd.prog f2 ([(Zr.pd y0), (pStr y1)] ++ C2) (pInt .i64 r)) (a0 : List Zh) (a1 : ByteArray) {r : Int × Bool} (h : Zcr a0 a1 φ2 = some r) : FnOk Tryd.prog 108 [(Zr.sl.pd a0), (pStr a1), (pClo f2 C2 hC2)] (pTup [(pInt .i64 r.1), (Zba r.2)]) := by
 have H0 := h
 unfold Zcr at H0
 clear h
 refine Zbq (N := 49) Tryd.func108 rfl rfl (Nat.le_of_ble_eq_true rfl) rfl rfl (fun a g0 hst hb => ?_)
 refine r_s (T := [⟨[], _, [], [], [6]⟩, ⟨[], _, [], [0], [7]⟩]) (F := [.old 0, .old 1, .old 2]) hst hb Za
   (o_p rfl (Zc rfl rfl c_i) <| o_p rfl (Zc rfl rfl c_b) <| o_n) (by kernel_rfl) (fun a g hst hb => ?_)
 refine r_s (T := [⟨[.old 0], _, [], [], [12]⟩, ⟨[.op 0 0], _, [], [0], [13]⟩, ⟨[.op 1 0], _, [], [0, 1], [8]⟩]) (F := [.old 0, .old 1, .old 2, .op 2 0, .op 0 0]) hst hb Za
   (o_p rfl (Zd rfl rfl u_0) <| o_p rfl (Zcd Tryd.underlying23 rfl rfl u_0) <| o_p rfl (Zc rfl rfl u_0) <| o_n) (by kernel_rfl) (fun a g hst hb => ?_)
 refine r_s (T := [⟨[.old 3], _, [], [], [14]⟩, ⟨[], _, [], [], [9]⟩, ⟨[.op 0 0], _, [], [0, 1], [10]⟩]) (F := [.old 0, .old 1, .old 2, .old 3, .op 1 0, .op 2 0, .old 4]) hst hb Za
   (o_p rfl (Zd rfl rfl u_0) <| o_p rfl (Zc rfl rfl c_i) <| o_p rfl (Zc rfl rfl u_0) <| o_n) (by kernel_rfl) (fun a g hst hb => ?_)
 obtain ⟨z12, hz1, H0⟩ := Zk H0
 refine wp_seq ?_
 refine Zbv (fun a w => ∃ (y11 : Int) (g : G), w = g.w ∧ St 49 [(0, (Zr.sl.pd a0)), (1, (pStr a1)), (2, (pClo f2 C2 hC2)), (8, (pInt .i64 (a0.length : Int))), (9, (pInt .i64 y11)), (12, (Zr.sl.pd a0))] a g ∧ Base g0 g ∧ y11 = z12) ?_ ?_
 · rintro a w ⟨y11, g, rfl, hst, hb, rfl⟩
   refine Zq ?_
   obtain ⟨e13, h14, H0⟩ := Zk H0; obtain ⟨r15, h16, H0⟩ := Zk H0
   refine r_s (T := ⟨[.old 4], _, [], [], [35]⟩ :: ⟨[.old 4], _, [], [], [36]⟩ :: ⟨[.old 3], _, [], [], [37]⟩ :: ⟨[.op 1 0, .op 2 0], _, [], [1, 2], [38]⟩ :: ⟨[.op 3 0], _, [], [1, 2, 3], [39]⟩ :: ⟨[.op 4 0, .old 2], _, [], List.range' 1 4, [40]⟩ :: ⟨[.op 4 0, .old 0], _, [], List.range' 1 4, [41]⟩ :: ⟨[.op 4 0, .old 4], _, [], List.range' 1 4, [42]⟩ :: ⟨[.op 4 0, .op 6 0, .op 7 0], _, [], [1, 2, 3, 4, 6, 7], [43]⟩ :: ⟨[.op 4 0, .op 8 0], _, [], [1, 2, 3, 4, 6, 7, 8], [44]⟩ :: ⟨[.op 4 0, .old 1], _, [], List.range' 1 4, [45]⟩ :: ⟨[.op 4 0, .op 5 0, .op 9 0, .op 10 0], _, [], List.range' 1 10, [46]⟩ :: ⟨[.op 4 0, .op 11 0], _, [], List.range' 1 11, [47]⟩ :: ⟨[.op 4 0, .op 12 0], _, [], List.range' 1 12, [48]⟩ :: ⟨[.op 0 0], _, [], Lr 12, [6]⟩ :: ⟨[.op 13 0], _, [], Lr 15, [7]⟩ :: []) (F := [.op 14 0, .op 15 0]) hst hb Za
     (o_p rfl (Zd rfl rfl u_0) <| o_p rfl (Zd rfl rfl u_0) <| o_p rfl (Zd rfl rfl u_0) <| o_p rfl (Zcb rfl rfl u_0 u_1) <| o_p rfl (Zd rfl rfl u_0) <| o_g (g_t rfl rfl rfl (fun hG => Zd rfl rfl u_0)) <| o_g (g_t rfl rfl rfl (fun hG => Zd rfl rfl u_0)) <| o_g (g_t rfl rfl rfl (fun hG => Zd rfl rfl u_0)) <| o_g (g_t rfl rfl rfl (fun hG => Zbh Tryd.underlying23 Zdv rfl rfl (Opd.gd hG u_0) (Opd.gd hG u_1) (Zbn h14 hG))) <| o_g (g_t rfl rfl rfl (fun hG => Zg Zdh rfl rfl (Opd.gd hG u_0))) <| o_g (g_t rfl rfl rfl (fun hG => Zd rfl rfl u_0)) <| o_g (g_t rfl rfl rfl (fun hG => Zm0 e2_ (hφ2 _ _ _ (Zbn h16 hG)) rfl rfl (Opd.gd hG u_0) (.cons (Opd.gd hG u_1) (.cons (Opd.gd hG u_2) .nil)))) <| o_g (g_t rfl rfl rfl (fun hG => Z7 rfl rfl (Opd.gd hG u_0) c_i)) <| o_p rfl (Zbb rfl rfl u_0 (fun hz => (Opd.gd hz u_1))) <| o_p rfl (Zc rfl rfl u_0) <| o_p rfl (Zc rfl rfl u_0) <| o_n) (by kernel_rfl) (fun a g hst hb => ?_)
   refine wp_ret ?_
   obtain rfl := Option.some.inj H0
   exact Zhk rfl hst hb (Zl (s := 6)) (Zl (s := 7)) (Zf1 (hst.at 0 rfl) (hst.at 1 rfl))
 · refine wp_block ?_
   refine wp_loop_ghost (fun n a w => ∃ (x1 : Int) (x2 : Int) (g : G), w = g.w ∧ St 49 [(0, (Zr.sl.pd a0)), (1, (pStr a1)), (2, (pClo f2 C2 hC2)), (8, (pInt .i64 (a0.length : Int))), (9, (pInt .i64 x1)), (10, (pInt .i64 x2)), (12, (Zr.sl.pd a0))] a g ∧ Base g0 g ∧ Zbd a0 a1 φ2 n x1 x2 = some z12) (Int.toNat ((a0.length : Int) - (0 : Int)) + 1) ⟨(0 : Int), (a0.length : Int), g, rfl, (hst.pick [0, 1, 2, 3, 4, 5, 6] rfl), hb, hz1⟩ (fun n a w hI => ?_)
   obtain ⟨x1, x2, g, rfl, hst, hb, H1⟩ := hI
   cases n with
   | zero => exact absurd H1 (by simp [Zbd])
   | succ n =>
     rw [Zbd] at H1
     refine wp_seq ?_
     refine r_s (T := [⟨[.old 4], _, [], [], [15]⟩, ⟨[.old 5], _, [], [], [16]⟩, ⟨[.op 0 0, .op 1 0], _, [], [0, 1], [17]⟩]) (F := [.old 0, .old 1, .old 2, .old 3, .old 4, .old 5, .old 6, .op 2 0]) hst hb Za
       (o_p rfl (Zd rfl rfl u_0) <| o_p rfl (Zd rfl rfl u_0) <| o_p rfl (Zcb rfl rfl u_0 u_1) <| o_n) (by kernel_rfl) (fun a g hst hb => ?_)
     refine wp_cond_split (hst.bool 7 rfl) (fun hc3 => ?_) (fun hc3 => ?_)
     · replace H1 := Zp hc3 H1
       refine wp_skip ?_
       refine Zq ?_
       refine Zbv (fun a w => ∃ (j9 : Int) (j10 : Int) (g : G), w = g.w ∧ St 49 [(0, (Zr.sl.pd a0)), (1, (pStr a1)), (2, (pClo f2 C2 hC2)), (8, (pInt .i64 (a0.length : Int))), (9, (pInt .i64 j9)), (10, (pInt .i64 j10)), (12, (Zr.sl.pd a0))] a g ∧ Base g0 g ∧ Zb1 (Zbd a0 a1 φ2 n) j9 j10 = some z12) ?_ ?_
       · rintro a w ⟨j9, j10, g, rfl, hst, hb, H1⟩
         unfold Zb1 at H1
         exact ⟨n, Nat.lt_succ_self _, j9, j10, g, rfl, (hst.pick [0, 1, 2, 3, 4, 5, 6] rfl), hb, H1⟩
       · refine wp_block ?_
         refine r_s (L := [(0, _), (1, _), (2, _), (8, _), (9, _), (10, _), (12, _)]) (T := [⟨[.old 4], _, [], [], [18]⟩, ⟨[.old 5], _, [], [], [19]⟩, ⟨[.op 0 0, .op 1 0], _, [], [0, 1], [20]⟩, ⟨[.op 2 0], _, [], [0, 1, 2], [21]⟩, ⟨[.op 3 0], _, [], Lr 4, [22]⟩, ⟨[.op 4 0], _, [], Lr 5, [23]⟩, ⟨[.op 5 0], _, [], Lr 6, [11]⟩]) (F := [.old 0, .old 1, .old 2, .old 3, .old 4, .old 5, .op 6 0, .old 6]) (hst.pick [0, 1, 2, 3, 4, 5, 6] rfl) hb Za
           (o_p rfl (Zd rfl rfl u_0) <| o_p rfl (Zd rfl rfl u_0) <| o_p rfl (Zcg rfl rfl u_0 u_1 rfl) <| o_p rfl (Zf4 Tryd.underlying3 Tryd.underlying142 rfl rfl u_0 rfl) <| o_p rfl (Z2w rfl rfl u_0 c_i (by decide) rfl) <| o_p rfl (Zf4 Tryd.underlying142 Tryd.underlying3 rfl rfl u_0 rfl) <| o_p rfl (Zc rfl rfl u_0) <| o_n) (by kernel_rfl) (fun a g hst hb => ?_)
         obtain ⟨e4, h5, H1⟩ := Zk H1; obtain ⟨r6, h7, H1⟩ := Zk H1
         refine r_s (T := [⟨[.old 2], _, [], [], [24]⟩, ⟨[.old 0], _, [], [], [25]⟩, ⟨[.old 6], _, [], [], [26]⟩, ⟨[.op 1 0, .op 2 0], _, [], [1, 2], [27]⟩, ⟨[.op 3 0], _, [], [1, 2, 3], [28]⟩, ⟨[.old 1], _, [], [], [29]⟩, ⟨[.op 0 0, .op 4 0, .op 5 0], _, [], Lr 6, [30]⟩, ⟨[.op 6 0], _, [], Lr 7, [31]⟩]) (F := [.old 0, .old 1, .old 2, .old 3, .old 4, .old 5, .old 6, .old 7, .op 7 0]) hst hb Za
           (o_p rfl (Zd rfl rfl u_0) <| o_p rfl (Zd rfl rfl u_0) <| o_p rfl (Zd rfl rfl u_0) <| o_p rfl (Zbh Tryd.underlying23 Zdv rfl rfl u_0 u_1 h5) <| o_p rfl (Zg Zdh rfl rfl u_0) <| o_p rfl (Zd rfl rfl u_0) <| o_p rfl (Zm0 e2_ (hφ2 _ _ _ h7) rfl rfl u_0 (.cons u_1 (.cons u_2 .nil))) <| o_p rfl (Zcb rfl rfl u_0 c_i) <| o_n) (by kernel_rfl) (fun a g hst hb => ?_)
         refine wp_cond_split (hst.bool 8 rfl) (fun hc8 => ?_) (fun hc8 => ?_)
         · replace H1 := Zp hc8 H1
           refine r_g (L := [(0, _), (1, _), (2, _), (8, _), (10, _), (11, _), (12, _)]) (T := [⟨[.old 5], _, [], [], [32]⟩, ⟨[.op 0 0], _, [], [0], [33]⟩, ⟨[.op 1 0], _, [], [0, 1], [9]⟩]) (F := [.old 0, .old 1, .old 2, .old 3, .op 2 0, .old 4, .old 6]) (hst.pick [0, 1, 2, 3, 5, 6, 7] rfl) hb Za
             (o_p rfl (Zd rfl rfl u_0) <| o_p rfl (Zcg rfl rfl u_0 c_i rfl) <| o_p rfl (Zc rfl rfl u_0) <| o_n) (by kernel_rfl) (fun a g hst hb => ?_)
           refine Z6 ?_
           exact ⟨(IntKind.i64.wrap ((IntKind.i64.wrap (Int.fdiv (IntKind.u64.wrap (IntKind.i64.wrap (x1 + x2))) (2 ^ 1))) + (1 : Int))), x2, g, rfl, (hst.pick [0, 1, 2, 3, 4, 5, 6] rfl), hb, H1⟩
         · replace H1 := Zo hc8 H1
           refine r_g (L := [(0, _), (1, _), (2, _), (8, _), (9, _), (11, _), (12, _)]) (T := [⟨[.old 5], _, [], [], [34]⟩, ⟨[.op 0 0], _, [], [0], [10]⟩]) (F := [.old 0, .old 1, .old 2, .old 3, .old 4, .op 1 0, .old 6]) (hst.pick [0, 1, 2, 3, 4, 6, 7] rfl) hb Za
             (o_p rfl (Zd rfl rfl u_0) <| o_p rfl (Zc rfl rfl u_0) <| o_n) (by kernel_rfl) (fun a g hst hb => ?_)
           refine Z6 ?_
           exact ⟨x1, (IntKind.i64.wrap (Int.fdiv (IntKind.u64.wrap (IntKind.i64.wrap (x1 + x2))) (2 ^ 1))), g, rfl, (hst.pick [0, 1, 2, 3, 4, 5, 6] rfl), hb, H1⟩
     · replace H1 := Zo hc3 H1
       refine wp_exit ?_
       refine Zcf ?_
       refine Zcf ?_
       refine Zc1 ?_
       exact ⟨x1, g, rfl, (hst.pick [0, 1, 2, 3, 4, 6] rfl), hb, Option.some.inj H1⟩
theorem Zq0 (a0 : Zh) (a1 : ByteArray) {r : Int} (h : Zhi a0 a1 = some r) : FnOk Tryd.prog 109 [(Zr.pd a0), (pStr a1)] (pInt .i64 r) := by
 have H0 := h
 unfold Zhi at H0
 clear h
 refine Zbq (N := 15) Tryd.func109 rfl rfl (Nat.le_of_ble_eq_true rfl) rfl rfl (fun a g0 hst hb => ?_)
 refine r_s (T := [⟨[.old 0], _, [], [], [2]⟩, ⟨[], _, [], [], [4]⟩]) (F := [.old 1, .op 0 0]) hst hb Za
   (o_p rfl (Zbs rfl rfl u_0) <| o_p rfl (Zc rfl rfl c_i) <| o_n) (by kernel_rfl) (fun a g hst hb => ?_)
 refine wp_seq ?_
 refine wp_block ?_
 refine r_s (T := [⟨[.old 1], _, [], [], [6]⟩, ⟨[.op 0 0], _, [], [0], [7]⟩, ⟨[.old 0], _, [], [], [8]⟩, ⟨[.op 1 0, .op 2 0], _, [], [0, 1, 2], [9]⟩, ⟨[.op 3 0], _, [], Lr 4, [5]⟩]) (F := [.old 0, .old 1, .op 4 0]) hst hb Za
   (o_p rfl (Ze Zc4 rfl rfl u_0) <| o_p rfl (Zg ty_9 rfl rfl u_0) <| o_p rfl (Zd rfl rfl u_0) <| o_p rfl (Znv rfl rfl u_0 u_1) <| o_p rfl (Zc rfl rfl u_0) <| o_n) (by kernel_rfl) (fun a g hst hb => ?_)
 refine wp_cond_split (hst.bool 2 rfl) (fun hc1 => ?_) (fun hc1 => ?_)
 · replace H0 := Zp hc1 H0
   refine r_s (L := []) (T := [⟨[], _, [], [], [4]⟩]) (F := [.op 0 0]) (hst.pick [] rfl) hb Za
     (o_p rfl (Zc rfl rfl c_i) <| o_n) (by kernel_rfl) (fun a g hst hb => ?_)
   refine wp_ret ?_
   refine Zv ?_
   refine Zm ?_
   obtain rfl := Option.some.inj H0
   exact Zx rfl hst hb (Zl (s := 4)) (hst.at 0 rfl)
 · replace H0 := Zo hc1 H0
   refine r_s (L := [(1, _), (2, _)]) (T := [⟨[.old 1], _, [], [], [11]⟩, ⟨[.op 0 0], _, [], [0], [12]⟩, ⟨[.old 0], _, [], [], [13]⟩, ⟨[.op 1 0, .op 2 0], _, [], [0, 1, 2], [14]⟩, ⟨[.op 3 0], _, [], Lr 4, [10]⟩]) (F := [.op 4 0]) (hst.pick [0, 1] rfl) hb Za
     (o_p rfl (Ze Zc4 rfl rfl u_0) <| o_p rfl (Zg ty_9 rfl rfl u_0) <| o_p rfl (Zd rfl rfl u_0) <| o_p rfl (Z2l rfl rfl u_0 u_1) <| o_p rfl (Zc rfl rfl u_0) <| o_n) (by kernel_rfl) (fun a g hst hb => ?_)
   refine wp_cond_split (hst.bool 0 rfl) (fun hc2 => ?_) (fun hc2 => ?_)
   · replace H0 := Zp hc2 H0
     refine r_s (L := []) (T := [⟨[], _, [], [], [4]⟩]) (F := [.op 0 0]) (hst.pick [] rfl) hb Za
       (o_p rfl (Zc rfl rfl c_i) <| o_n) (by kernel_rfl) (fun a g hst hb => ?_)
     refine wp_ret ?_
     refine Zv ?_
     refine Zm ?_
     obtain rfl := Option.some.inj H0
     exact Zx rfl hst hb (Zl (s := 4)) (hst.at 0 rfl)
   · replace H0 := Zo hc2 H0
     refine wp_skip ?_
     refine Z6 ?_
     refine Zq ?_
     refine r_s (L := []) (T := [⟨[], _, [], [], [4]⟩]) (F := [.op 0 0]) (hst.pick [] rfl) hb Za
       (o_p rfl (Zc rfl rfl c_i) <| o_n) (by kernel_rfl) (fun a g hst hb => ?_)
     refine wp_ret ?_
     obtain rfl := Option.some.inj H0
     exact Zx rfl hst hb (Zl (s := 4)) (hst.at 0 rfl)
theorem Zlr (a0 : List Zh) (a1 : ByteArray) {r : Int × Bool} (h : Zi3 a0 a1 = some r) : FnOk Tryd.prog 95 [(Zr.sl.pd a0), (pStr a1)] (pTup [(pInt .i64 r.1), (Zba r.2)]) := by
 have H0 := h
 unfold Zi3 at H0
 clear h
 refine Zbq (N := 11) Tryd.func95 rfl rfl (Nat.le_of_ble_eq_true rfl) rfl rfl (fun a g0 hst hb => ?_)
 refine r_s (T := [⟨[], _, [], [], [4]⟩, ⟨[], _, [], [0], [5]⟩]) (F := [.old 0, .old 1]) hst hb Za
   (o_p rfl (Zc rfl rfl c_i) <| o_p rfl (Zc rfl rfl c_b) <| o_n) (by kernel_rfl) (fun a g hst hb => ?_)
 obtain ⟨r1, h2, H0⟩ := Zk H0
 refine r_s (T := [⟨[.old 0], _, [], [], [6]⟩, ⟨[.old 1], _, [], [], [7]⟩, ⟨[.op 0 0, .op 1 0], _, [], [0, 1], [8]⟩, ⟨[.op 2 0], _, [], [0, 1, 2], [9]⟩, ⟨[.op 2 0], _, [], [0, 1, 2], [10]⟩, ⟨[.op 3 0], _, [], Lr 5, [4]⟩, ⟨[.op 4 0], _, [], Lr 6, [5]⟩]) (F := [.op 5 0, .op 6 0]) hst hb Za
   (o_p rfl (Zd rfl rfl u_0) <| o_p rfl (Zd rfl rfl u_0) <| o_p rfl (Zt Z2g (Zgd 109 [] rfl Z2c (fun y0 y1 => Zhi y0 y1) (fun y0 y1 r h => Zq0 y0 y1 h) _ _ h2) rfl rfl (.cons u_0 (.cons u_1 (.cons Opd.fnc .nil)))) <| o_p rfl (Zbf rfl rfl u_0 rfl) <| o_p rfl (Zbf rfl rfl u_0 rfl) <| o_p rfl (Zc rfl rfl u_0) <| o_p rfl (Zc rfl rfl u_0) <| o_n) (by kernel_rfl) (fun a g hst hb => ?_)
 refine wp_ret ?_
 obtain rfl := Option.some.inj H0
 exact Zhk rfl hst hb (Zl (s := 4)) (Zl (s := 5)) (Zf1 (hst.at 0 rfl) (hst.at 1 rfl))
set_option maxHeartbeats 1000000 in
theorem Zge (a0 : List Zh) (a1 : Int) (a2 : List Zh) {r : List Zh} (h : Zco a0 a1 a2 = some r) : Zsa Tryd.prog 107 Zr 75 a0 [(pInt .i64 a1), (Zr.sl.pd a2)] (Zr.sl.pd r) := by
 unfold Zco at h
 obtain ⟨⟨hi0, hi1, hm, hsz⟩, H0⟩ := Zhb h
 obtain rfl := Option.some.inj H0
 obtain ⟨k, rfl⟩ := Int.eq_ofNat_of_zero_le hi0
 have hk : k ≤ a0.length := by omega
 have hb0 : (a0.length + a2.length) ≤ 140737488355328 := Nat.le_trans (Nat.le_mul_of_pos_right _ (by decide)) hsz
 simp only [Int.toNat_natCast]
 refine Zsl (N := 95) Tryd.func107 rfl rfl (Nat.le_of_ble_eq_true rfl) rfl (fun hx a g A0 hst hb => ?_) (fun a g cap hcap hmax hst hb => ?_)
 · subst hx
   obtain rfl : k = 0 := by simpa using hk
   refine r_s (T := [⟨[], [(6, (Zr.sl.pd []))], [], [], [6]⟩]) (F := [.old 0, .old 1, .old 2]) hst hb Za
     (o_p rfl (Zc rfl rfl (Opd.c (fun g => Zix g))) <| o_n) (by kernel_rfl) (fun a g hst hb => ?_)
   refine r_s (T := [⟨[.old 0], _, [], [], [10]⟩, ⟨[.old 1], _, [], [], [11]⟩, ⟨[.op 0 0, .op 1 0], _, [], [0, 1], [12]⟩]) (F := [.old 0, .old 1, .old 2]) hst hb Za
     (o_p rfl (Zd rfl rfl u_0) <| o_p rfl (Zd rfl rfl u_0) <| o_p rfl (Zws Zcu rfl u_0 u_1) <| o_n) (by kernel_rfl) (fun a g hst hb => ?_)
   refine r_s (T := [⟨[.old 2], _, [], [], [13]⟩, ⟨[.op 0 0], _, [], [0], [14]⟩, ⟨[.op 1 0], _, [], [0, 1], [7]⟩]) (F := [.old 0, .old 1, .old 2, .op 2 0]) hst hb Za
     (o_p rfl (Zd rfl rfl u_0) <| o_p rfl (Zcd Tryd.underlying23 rfl rfl u_0) <| o_p rfl (Zc rfl rfl u_0) <| o_n) (by kernel_rfl) (fun a g hst hb => ?_)
   refine wp_seq ?_
   refine r_s (T := [⟨[.old 3], _, [], [], [15]⟩, ⟨[.op 0 0], _, [], [0], [16]⟩]) (F := [.old 0, .old 1, .old 2, .old 3, .op 1 0]) hst hb Za
     (o_p rfl (Zd rfl rfl u_0) <| o_p rfl (Z7 rfl rfl u_0 c_i) <| o_n) (by kernel_rfl) (fun a g hst hb => ?_)
   refine wp_cond_split (hst.bool 4 rfl) (fun hc => ?_) (fun hc => ?_)
   · exact absurd (beq_iff_eq.1 hc) (by omega)
   · refine wp_skip ?_
     refine Zq ?_
     refine r_s (L := [(0, _), (1, _), (2, _), (7, _)]) (T := [⟨[.old 0], _, [], [], [18]⟩, ⟨[.op 0 0], _, [], [0], [19]⟩, ⟨[.op 1 0], _, [], [0, 1], [8]⟩]) (F := [.old 0, .old 1, .old 2, .old 3, .op 2 0]) (hst.pick [0, 1, 2, 3] rfl) hb Za
       (o_p rfl (Zd rfl rfl u_0) <| o_p rfl (Z1k Tryd.underlying23 rfl rfl u_0) <| o_p rfl (Zc rfl rfl u_0) <| o_n) (by kernel_rfl) (fun a g hst hb => ?_)
     refine wp_seq ?_
     refine r_s (T := [⟨[.old 1], _, [], [], [20]⟩, ⟨[.old 4], _, [], [], [21]⟩, ⟨[.op 0 0, .op 1 0], _, [], [0, 1], [22]⟩]) (F := [.old 0, .old 1, .old 2, .old 3, .old 4, .op 2 0]) hst hb Za
       (o_p rfl (Zd rfl rfl u_0) <| o_p rfl (Zd rfl rfl u_0) <| o_p rfl (Z7 rfl rfl u_0 u_1) <| o_n) (by kernel_rfl) (fun a g hst hb => ?_)
     refine wp_cond_split (hst.bool 5 rfl) (fun hc => ?_) (fun hc => ?_)
     · refine r_s (L := [(0, _), (2, _)]) (T := [⟨[.old 0], _, [], [], [23]⟩, ⟨[.old 1], _, [], [], [24]⟩, ⟨[.op 0 0, .op 1 0], [(25, (pOwn Zr 75 25 none (a2.map some)))], [26], [0, 1], [25]⟩, ⟨[.op 2 0], _, [], [0, 1, 2], [6]⟩]) (F := [.op 3 0]) (hst.pick [0, 2] rfl) hb Za
         (o_p rfl (Zd rfl rfl u_0) <| o_p rfl (Zd rfl rfl u_0) <| o_p rfl (Zpu Zcu rfl rfl u_0 u_1 hm (by simpa using hsz)) <| o_p rfl (Zc rfl rfl u_0) <| o_n) (by kernel_rfl) (fun a g hst hb => ?_)
       refine wp_ret ?_
       refine Zm ?_
       have hq := hst.at 0 rfl
       have he : ([] : List Zh).take 0 ++ a2 ++ ([] : List Zh).drop 0 = a2 := by simp
       rw [he]
       exact Zmj rfl hst hb (Zl (s := 6)) hq
     · exact absurd hc (by simp)
 · refine r_s (T := [⟨[], [(6, (Zr.sl.pd []))], [], [], [6]⟩]) (F := [.old 0, .old 1, .old 2]) hst hb Za
     (o_p rfl (Zc rfl rfl (Opd.c (fun g => Zix g))) <| o_n) (by kernel_rfl) (fun a g hst hb => ?_)
   refine r_s (T := [⟨[.old 0], _, [], [], [10]⟩, ⟨[.old 1], _, [], [], [11]⟩, ⟨[.op 0 0, .op 1 0], _, [], [0, 1], [12]⟩]) (F := [.old 0, .old 1, .old 2]) hst hb Za
     (o_p rfl (Zd rfl rfl u_0) <| o_p rfl (Zd rfl rfl u_0) <| o_p rfl (Zfx Zcu (by simpa using hk) rfl rfl u_0 u_1) <| o_n) (by kernel_rfl) (fun a g hst hb => ?_)
   refine r_s (T := [⟨[.old 2], _, [], [], [13]⟩, ⟨[.op 0 0], _, [], [0], [14]⟩, ⟨[.op 1 0], _, [], [0, 1], [7]⟩]) (F := [.old 0, .old 1, .old 2, .op 2 0]) hst hb Za
     (o_p rfl (Zd rfl rfl u_0) <| o_p rfl (Zcd Tryd.underlying23 rfl rfl u_0) <| o_p rfl (Zc rfl rfl u_0) <| o_n) (by kernel_rfl) (fun a g hst hb => ?_)
   refine wp_seq ?_
   refine r_s (T := [⟨[.old 3], _, [], [], [15]⟩, ⟨[.op 0 0], _, [], [0], [16]⟩]) (F := [.old 0, .old 1, .old 2, .old 3, .op 1 0]) hst hb Za
     (o_p rfl (Zd rfl rfl u_0) <| o_p rfl (Z7 rfl rfl u_0 c_i) <| o_n) (by kernel_rfl) (fun a g hst hb => ?_)
   refine wp_cond_split (hst.bool 4 rfl) (fun hc => ?_) (fun hc => ?_)
   · exact absurd (beq_iff_eq.1 hc) (by omega)
   · refine wp_skip ?_
     refine Zq ?_
     refine r_s (L := [(0, _), (1, _), (2, _), (7, _)]) (T := [⟨[.old 0], _, [], [], [18]⟩, ⟨[.op 0 0], _, [], [0], [19]⟩, ⟨[.op 1 0], _, [], [0, 1], [8]⟩]) (F := [.old 0, .old 1, .old 2, .old 3, .op 2 0]) (hst.pick [0, 1, 2, 3] rfl) hb Za
       (o_p rfl (Zd rfl rfl u_0) <| o_p rfl (Zoq Tryd.underlying23 rfl rfl u_0) <| o_p rfl (Zc rfl rfl u_0) <| o_n) (by kernel_rfl) (fun a g hst hb => ?_)
     refine wp_seq ?_
     refine r_s (T := [⟨[.old 1], _, [], [], [20]⟩, ⟨[.old 4], _, [], [], [21]⟩, ⟨[.op 0 0, .op 1 0], _, [], [0, 1], [22]⟩]) (F := [.old 0, .old 1, .old 2, .old 3, .old 4, .op 2 0]) hst hb Za
       (o_p rfl (Zd rfl rfl u_0) <| o_p rfl (Zd rfl rfl u_0) <| o_p rfl (Z7 rfl rfl u_0 u_1) <| o_n) (by kernel_rfl) (fun a g hst hb => ?_)
     refine wp_cond_split (hst.bool 5 rfl) (fun hc => ?_) (fun hc => ?_)
     · refine r_s (L := [(0, _), (2, _)]) (T := [⟨[.old 0], _, [], [], [23]⟩, ⟨[.old 1], _, [], [], [24]⟩, ⟨[.op 0 0, .op 1 0], _, [1], [0, 1], [25, 0, 23]⟩, ⟨[.op 2 0], _, [], [0, 1, 2], [6]⟩]) (F := [.op 3 0]) (hst.pick [0, 2] rfl) hb Za
         (o_p rfl (Zd rfl rfl u_0) <| o_p rfl (Zd rfl rfl u_0) <| o_p rfl (Zm6 Zcu rfl rfl u_0 u_1 hsz) <| o_p rfl (Zc rfl rfl u_0) <| o_n) (by kernel_rfl) (fun a g hst hb => ?_)
       refine wp_ret ?_
       refine Zm ?_
       have hq := hst.at 0 rfl
       have hkn := beq_iff_eq.1 hc
       simp only [List.length_map] at hkn
       have hkn : k = a0.length := by omega
       have he : a0.take k ++ a2 ++ a0.drop k = a0 ++ a2 := by simp [hkn]
       rw [he]
       exact Zmj rfl hst hb (Zl (s := 6)) hq
     · have hkn : k ≠ a0.length := fun h => (beq_eq_false_iff_ne.1 hc) (by simp only [List.length_map]; omega)
       refine wp_skip ?_
       refine Zq ?_
       refine wp_seq ?_
       refine r_s (L := [(0, _), (1, _), (2, _), (7, _), (8, _)]) (T := [⟨[.old 4], _, [], [], [26]⟩, ⟨[.old 3], _, [], [], [27]⟩, ⟨[.op 0 0, .op 1 0], _, [], [0, 1], [28]⟩, ⟨[.old 0], _, [], [], [29]⟩, ⟨[.op 3 0], _, [], [3], [30]⟩, ⟨[.op 2 0, .op 4 0], _, [], [0, 1, 2, 3, 4], [31]⟩]) (F := [.old 0, .old 1, .old 2, .old 3, .old 4, .op 5 0]) (hst.pick [0, 1, 2, 3, 4] rfl) hb Za
         (o_p rfl (Zd rfl rfl u_0) <| o_p rfl (Zd rfl rfl u_0) <| o_p rfl (Zcg rfl rfl u_0 u_1 (Zot (by simp only [List.length_map]; omega))) <| o_p rfl (Zd rfl rfl u_0) <| o_p rfl (Z0o Tryd.underlying23 rfl rfl u_0) <| o_p rfl (Zcj rfl rfl u_0 u_1) <| o_n) (by kernel_rfl) (fun a g hst hb => ?_)
       refine wp_cond_split (hst.bool 5 rfl) (fun hc2 => ?_) (fun hc2 => ?_)
       · have hgr : cap < k + (a0.length + a2.length - k) := by have := of_decide_eq_true hc2; simp only [List.length_map] at this; omega
         refine r_s (L := [(0, _), (1, _), (2, _), (7, _), (8, _)]) (T := [⟨[.old 0], _, [], [], [32]⟩, ⟨[.old 1], _, [], [], [33]⟩, ⟨[.op 0 0, .op 1 0], _, [], [0, 1], [34]⟩, ⟨[.old 4], _, [], [], [35]⟩, ⟨[.old 3], _, [], [], [36]⟩, ⟨[.op 3 0, .op 4 0], _, [], [3, 4], [37]⟩, ⟨[.old 1], _, [], [], [38]⟩, ⟨[.op 5 0, .op 6 0], _, [], [3, 4, 5, 6], [39]⟩, ⟨[.op 2 0, .op 7 0, .old 0], [(40, (pOwn Zr 75 40 none ((a0.take k).map some ++ List.replicate (a0.length + a2.length - k) none)))], [41], [0, 1, 2, 3, 4, 5, 6, 7], [40]⟩, ⟨[.op 8 0], _, [], [0, 1, 2, 3, 4, 5, 6, 7, 8], [9]⟩]) (F := [.old 0, .old 1, .old 2, .old 3, .op 9 0]) (hst.pick [0, 1, 2, 3, 4] rfl) hb Za
           (o_p rfl (Zd rfl rfl u_0) <| o_p rfl (Zd rfl rfl u_0) <| o_p rfl (Zn1 Zcu (by simpa using hk) rfl rfl u_0 u_1) <| o_p rfl (Zd rfl rfl u_0) <| o_p rfl (Zd rfl rfl u_0) <| o_p rfl (Zcg rfl rfl u_0 u_1 (Zot (by simp only [List.length_map]; omega))) <| o_p rfl (Zd rfl rfl u_0) <| o_p rfl (Zd5 rfl rfl u_0 u_1 (Z2o (n := a0.length + a2.length) (by simp only [List.length_map]) (by omega) (by omega))) <| o_p rfl (Zu3 (s := 0) (d2 := 40) (xs := a0.take k) Zcu Tryd.underlying3 (by simp; omega) (by simp; omega) (by omega) hgr (by rw [show k + (a0.length + a2.length - k) = a0.length + a2.length by omega]; exact hsz) (Zp4 a0 k) rfl rfl u_0 u_1 u_2) <| o_p rfl (Zc rfl rfl u_0) <| o_n) (by kernel_rfl) (fun a g hst hb => ?_)
         have hl1 : (((a0.take k).map some ++ List.replicate (a0.length + a2.length - k) none) : List (Option Zh)).length = a0.length + a2.length := by simp; omega
         refine r_s (T := [⟨[.old 4], _, [], [], [41]⟩, ⟨[.old 1], _, [], [], [42]⟩, ⟨[.op 0 0, .op 1 0], _, [], [0, 1], [43]⟩, ⟨[.old 2], _, [], [], [44]⟩, ⟨[.op 2 0, .op 3 0, .old 4], _, [41], [0, 1, 2, 3], [45, 9, 41, 43]⟩]) (F := [.old 0, .old 1, .old 2, .old 3, .op 4 1]) hst hb Za
           (o_p rfl (Zd rfl rfl u_0) <| o_p rfl (Zd rfl rfl u_0) <| o_p rfl (Zfx Zcu (by rw [hl1]; omega) rfl rfl u_0 u_1) <| o_p rfl (Zd rfl rfl u_0) <| o_p rfl (Zsp (s := 9) Zcu (by rw [hl1]; omega) (by rw [hl1]; omega) rfl rfl (by decide) u_0 u_1 u_2) <| o_n) (by kernel_rfl) (fun a g hst hb => ?_)
         have hl2 : (over (((a0.take k).map some ++ List.replicate (a0.length + a2.length - k) none) : List (Option Zh)) k a2).length = a0.length + a2.length := by rw [Zjm (by rw [hl1]; omega), hl1]
         refine r_s (T := [⟨[.old 4], _, [], [], [46]⟩, ⟨[.old 1], _, [], [], [47]⟩, ⟨[.old 3], _, [], [], [48]⟩, ⟨[.op 1 0, .op 2 0], _, [], [1, 2], [49]⟩, ⟨[.op 0 0, .op 3 0], _, [], [0, 1, 2, 3], [50]⟩, ⟨[.old 0], _, [], [], [51]⟩, ⟨[.old 1], _, [], [], [52]⟩, ⟨[.op 5 0, .op 6 0], _, [], [5, 6], [53]⟩, ⟨[.op 4 0, .op 7 0, .old 4, .old 0], _, [41], [0, 1, 2, 3, 4, 5, 6, 7], [54, 9, 46, 50]⟩]) (F := [.op 8 1]) hst hb Za
           (o_p rfl (Zd rfl rfl u_0) <| o_p rfl (Zd rfl rfl u_0) <| o_p rfl (Zd rfl rfl u_0) <| o_p rfl (Zcg rfl rfl u_0 u_1 (Zot (by omega))) <| o_p rfl (Zfx Zcu (by rw [hl2]; omega) rfl rfl u_0 u_1) <| o_p rfl (Zd rfl rfl u_0) <| o_p rfl (Zd rfl rfl u_0) <| o_p rfl (Zfx Zcu (by simpa using hk) rfl rfl u_0 u_1) <| o_p rfl (Zsf (s := 9) (s2 := 0) (ws := a0.drop k) Zcu (by rw [hl2]; omega) (by simp; omega) (by rw [hl2, List.length_map, List.length_drop]; exact (Nat.min_eq_left (by omega)).symm) (fun i x hx => by rw [List.getElem?_drop] at hx; rw [List.getElem?_map, hx]; rfl) rfl rfl (by decide) u_0 u_1 u_2 u_3) <| o_n) (by kernel_rfl) (fun a g hst hb => ?_)
         refine r_s (T := [⟨[.old 0], _, [], [], [55]⟩, ⟨[.op 0 0], _, [], [0], [6]⟩]) (F := [.op 1 0]) hst hb Za
           (o_p rfl (Zd rfl rfl u_0) <| o_p rfl (Zc rfl rfl u_0) <| o_n) (by kernel_rfl) (fun a g hst hb => ?_)
         refine wp_ret ?_
         refine Zm ?_
         have hq := hst.at 0 rfl
         rw [ins1 hk] at hq
         exact Zmj rfl hst hb (Zl (s := 6)) hq
       · have hroom : a0.length + a2.length ≤ cap := by have := of_decide_eq_false hc2; simp only [List.length_map] at this; omega
         refine wp_skip ?_
         refine Zq ?_
         refine r_s (L := [(0, _), (1, _), (2, _), (7, _), (8, _)]) (T := [⟨[.old 0], _, [], [], [56]⟩, ⟨[.old 4], _, [], [], [57]⟩, ⟨[.old 3], _, [], [], [58]⟩, ⟨[.op 1 0, .op 2 0], _, [], [1, 2], [59]⟩, ⟨[.op 0 0, .op 3 0], [(60, (pOwn Zr 75 0 (some cap) (a0.map some ++ List.replicate (a0.length + a2.length - (a0.map some).length) none)))], [], [0, 1, 2, 3], [60]⟩, ⟨[.op 4 0], _, [], [0, 1, 2, 3, 4], [0]⟩]) (F := [.op 5 0, .old 1, .old 2, .old 3]) (hst.pick [0, 1, 2, 3, 4] rfl) hb Za
           (o_p rfl (Zd rfl rfl u_0) <| o_p rfl (Zd rfl rfl u_0) <| o_p rfl (Zd rfl rfl u_0) <| o_p rfl (Zcg rfl rfl u_0 u_1 (Zot (by simp only [List.length_map]; omega))) <| o_p rfl (Zti (h := a0.length + a2.length) Zcu (by simp) hroom rfl rfl u_0 (Opd.to u_1 (by simp))) <| o_p rfl (Zc rfl rfl u_0) <| o_n) (by kernel_rfl) (fun a g hst hb => ?_)
         have hl1 : ((a0.map some ++ List.replicate (a0.length + a2.length - (a0.map some).length) none) : List (Option Zh)).length = a0.length + a2.length := by simp
         refine wp_seq ?_
         refine r_s (T := [⟨[.old 2], _, [], [], [61]⟩, ⟨[.old 0], _, [], [], [62]⟩, ⟨[.old 1], _, [], [], [63]⟩, ⟨[.old 3], _, [], [], [64]⟩, ⟨[.op 2 0, .op 3 0], _, [], [2, 3], [65]⟩, ⟨[.op 1 0, .op 4 0], _, [], [1, 2, 3, 4], [66]⟩, ⟨[.op 0 0, .op 5 0, .old 0], _, [], [0, 1, 2, 3, 4, 5], [67]⟩, ⟨[.op 6 0], _, [], [0, 1, 2, 3, 4, 5, 6], [68]⟩]) (F := [.old 0, .old 1, .old 2, .old 3, .op 7 0]) hst hb Za
           (o_p rfl (Zd rfl rfl u_0) <| o_p rfl (Zd rfl rfl u_0) <| o_p rfl (Zd rfl rfl u_0) <| o_p rfl (Zd rfl rfl u_0) <| o_p rfl (Zcg rfl rfl u_0 u_1 (Zot (by omega))) <| o_p rfl (Zfx Zcu (by rw [hl1]; omega) rfl rfl u_0 u_1) <| o_p rfl (Zt1 (s := 0) Zcu rfl Z16 (by rw [hl1]; omega) rfl rfl u_0 u_1 u_2) <| o_p rfl (Zb4 rfl rfl u_0) <| o_n) (by kernel_rfl) (fun a g hst hb => ?_)
         refine wp_cond_split (hst.bool 4 rfl) (fun hc3 => ?_) (fun hc3 => absurd hc3 (by simp))
         refine r_s (L := [(0, _), (1, _), (2, _), (7, _)]) (T := [⟨[.old 0], _, [], [], [69]⟩, ⟨[.old 1], _, [], [], [70]⟩, ⟨[.old 3], _, [], [], [71]⟩, ⟨[.op 1 0, .op 2 0], _, [], [1, 2], [72]⟩, ⟨[.op 0 0, .op 3 0], _, [], [0, 1, 2, 3], [73]⟩, ⟨[.old 0], _, [], [], [74]⟩, ⟨[.old 1], _, [], [], [75]⟩, ⟨[.op 5 0, .op 6 0], _, [], [5, 6], [76]⟩, ⟨[.op 4 0, .op 7 0, .old 0, .old 0], _, [1], [0, 1, 2, 3, 4, 5, 6, 7], [77, 0, 69, 73, 74, 76]⟩]) (F := [.op 8 1, .old 1, .old 2, .old 3]) (hst.pick [0, 1, 2, 3] rfl) hb Za
           (o_p rfl (Zd rfl rfl u_0) <| o_p rfl (Zd rfl rfl u_0) <| o_p rfl (Zd rfl rfl u_0) <| o_p rfl (Zcg rfl rfl u_0 u_1 (Zot (by omega))) <| o_p rfl (Zfx Zcu (by rw [hl1]; omega) rfl rfl u_0 u_1) <| o_p rfl (Zd rfl rfl u_0) <| o_p rfl (Zd rfl rfl u_0) <| o_p rfl (Zfx Zcu (by rw [hl1]; omega) rfl rfl u_0 u_1) <| o_p rfl (Zsf (s := 0) (s2 := 0) (ws := a0.drop k) Zcu (by rw [hl1]; omega) (by rw [hl1]; omega) (by rw [hl1, List.length_drop]; have hm1 : Nat.min (a0.length + a2.length - k) (a0.length + a2.length - (k + a2.length)) = a0.length + a2.length - (k + a2.length) := Nat.min_eq_right (by omega); rw [hm1]; omega) (fun i x hx => by have hi := (List.getElem?_eq_some_iff.1 hx).1; rw [List.length_drop] at hi; rw [List.getElem?_drop] at hx; rw [List.getElem?_append_left (by simp; omega), List.getElem?_map, hx]; rfl) rfl rfl (by decide) u_0 u_1 u_2 u_3) <| o_n) (by kernel_rfl) (fun a g hst hb => ?_)
         have hl2 : (over ((a0.map some ++ List.replicate (a0.length + a2.length - (a0.map some).length) none) : List (Option Zh)) (k + a2.length) (a0.drop k)).length = a0.length + a2.length := by rw [Zjm (by rw [hl1, List.length_drop]; omega), hl1]
         refine r_s (T := [⟨[.old 0], _, [], [], [78]⟩, ⟨[.old 1], _, [], [], [79]⟩, ⟨[.op 0 0, .op 1 0], _, [], [0, 1], [80]⟩, ⟨[.old 2], _, [], [], [81]⟩, ⟨[.op 2 0, .op 3 0, .old 0], _, [1], [0, 1, 2, 3], [82, 0, 78, 80]⟩]) (F := [.op 4 1]) hst hb Za
           (o_p rfl (Zd rfl rfl u_0) <| o_p rfl (Zd rfl rfl u_0) <| o_p rfl (Zfx Zcu (by rw [hl2]; omega) rfl rfl u_0 u_1) <| o_p rfl (Zd rfl rfl u_0) <| o_p rfl (Zsp (s := 0) Zcu (by rw [hl2]; omega) (by rw [hl2]; omega) rfl rfl (by decide) u_0 u_1 u_2) <| o_n) (by kernel_rfl) (fun a g hst hb => ?_)
         refine r_s (T := [⟨[.old 0], _, [], [], [83]⟩, ⟨[.op 0 0], _, [], [0], [6]⟩]) (F := [.op 1 0]) hst hb Za
           (o_p rfl (Zd rfl rfl u_0) <| o_p rfl (Zc rfl rfl u_0) <| o_n) (by kernel_rfl) (fun a g hst hb => ?_)
         refine wp_ret ?_
         refine Zm ?_
         have hq := hst.at 0 rfl
         rw [ins2 hk] at hq
         exact Zmj rfl hst hb (Zl (s := 6)) hq
theorem Zsq (a0 : Zb) (a1 : Zs) (a2 : Zi) {r : Int × Zb × Zi} (h : Zi4 a0 a1 a2 = some r) : FnB Tryd.prog 93 [.box Zf a0 r.2.1, .val (Zw.pd a1), .box Zu a2 r.2.2] (pInt .i64 r.1) := by
 have H0 := h
 unfold Zi4 at H0
 clear h
 refine Zhz (N := 46) Tryd.func93 rfl rfl (Nat.le_of_ble_eq_true rfl) rfl rfl (fun a g0 bs hbs hst hb => ?_)
 obtain ⟨b0, b2, rfl⟩ := Zjh hbs
 replace hst : St 46 [(0, (Zbl (some b0) Zf 0 a0)), (1, (Zw.pd a1)), (2, (Zbl (some b2) Zu 2 a2))] _ _ := hst
 refine r_s (T := [⟨[.old 1], _, [], [], [4]⟩, ⟨[], _, [], [], [6]⟩]) (F := [.old 0, .old 2, .op 0 0]) hst hb Za
   (o_p rfl (Zbs rfl rfl u_0) <| o_p rfl (Zc rfl rfl c_i) <| o_n) (by kernel_rfl) (fun a g hst hb => ?_)
 obtain ⟨r1, h2, H0⟩ := Zk H0
 refine r_s (T := ⟨[.old 0], _, [], [], [10]⟩ :: ⟨[.op 0 0], _, [], [0], [11]⟩ :: ⟨[.op 1 0], _, [], [0, 1], [12]⟩ :: ⟨[.op 2 0], _, [], [0, 1, 2], [13]⟩ :: ⟨[.old 2], _, [], [], [14]⟩ :: ⟨[.op 4 0], _, [], [4], [15]⟩ :: ⟨[.op 3 0, .op 5 0], _, [], Lr 6, [16]⟩ :: ⟨[.op 6 0], _, [], Lr 7, [9]⟩ :: ⟨[.op 7 0], _, [], Lr 8, [17]⟩ :: ⟨[.op 7 0], _, [], Lr 8, [18]⟩ :: ⟨[.op 8 0], _, [], Lr 9, [7]⟩ :: ⟨[.op 9 0], _, [], Lr 11, [8]⟩ :: []) (F := [.old 0, .old 1, .old 2, .op 10 0, .op 11 0]) hst hb Za
   (o_p rfl (Zd rfl rfl u_0) <| o_p rfl (Zbc rfl rfl u_0 (fun _ _ ⟨_, _, _, e, _⟩ => ⟨_, e⟩)) <| o_p rfl (Zj Zbm (off := 7) (by kernel_rfl) rfl rfl u_0) <| o_p rfl (Z1 Zca rfl rfl u_0) <| o_p rfl (Ze Zd7 rfl rfl u_0) <| o_p rfl (Zg ty_9 rfl rfl u_0) <| o_p rfl (Zt Zvk (Zlr _ _ h2) rfl rfl (.cons u_0 (.cons u_1 .nil))) <| o_p rfl (Zd rfl rfl u_0) <| o_p rfl (Zbf rfl rfl u_0 rfl) <| o_p rfl (Zbf rfl rfl u_0 rfl) <| o_p rfl (Zc rfl rfl u_0) <| o_p rfl (Zc rfl rfl u_0) <| o_n) (by kernel_rfl) (fun a g hst hb => ?_)
 refine wp_seq ?_
 refine wp_block ?_
 refine r_s (T := [⟨[.old 4], _, [], [], [20]⟩, ⟨[.op 0 0], _, [], [0], [19]⟩]) (F := [.old 0, .old 1, .old 2, .old 3, .op 1 0]) hst hb Za
   (o_p rfl (Zd rfl rfl u_0) <| o_p rfl (Zc rfl rfl u_0) <| o_n) (by kernel_rfl) (fun a g hst hb => ?_)
 refine wp_cond_split (hst.bool 4 rfl) (fun hc3 => ?_) (fun hc3 => ?_)
 · replace H0 := Zp hc3 H0
   refine r_s (L := [(0, _), (2, _)]) (T := [⟨[], _, [], [], [6]⟩]) (F := [.old 0, .old 1, .op 0 0]) (hst.pick [0, 1] rfl) hb Za
     (o_p rfl (Zc rfl rfl c_i) <| o_n) (by kernel_rfl) (fun a g hst hb => ?_)
   refine wp_ret ?_
   refine Zv ?_
   refine Zm ?_
   obtain rfl := Option.some.inj H0
   exact Zf5 rfl hst hb (Zl (s := 6)) (hst.at 2 rfl) ⟨Zcn (hst.at 0 rfl), Zcn (hst.at 1 rfl), trivial⟩
 · replace H0 := Zo hc3 H0
   refine r_s (L := [(0, _), (2, _), (4, _), (7, _)]) (T := [⟨[.old 0], _, [], [], [22]⟩, ⟨[.op 0 0], _, [], [0], [23]⟩, ⟨[.op 1 0], _, [], [0, 1], [24]⟩, ⟨[.op 2 0], _, [], [0, 1, 2], [25]⟩, ⟨[.op 3 0], _, [], Lr 4, [26]⟩, ⟨[.old 0], _, [], [], [27]⟩, ⟨[.op 5 0], _, [], [5], [28]⟩, ⟨[.op 6 0], _, [], [5, 6], [29]⟩, ⟨[.op 7 0], _, [], [5, 6, 7], [30]⟩, ⟨[.op 4 0, .op 8 0], _, [], Lr 9, [31]⟩, ⟨[.op 9 0], _, [], Lr 10, [21]⟩]) (F := [.old 0, .old 1, .old 2, .old 3, .op 10 0]) (hst.pick [0, 1, 2, 3] rfl) hb Za
     (o_p rfl (Zd rfl rfl u_0) <| o_p rfl (Zbc rfl rfl u_0 (fun _ _ ⟨_, _, _, e, _⟩ => ⟨_, e⟩)) <| o_p rfl (Zj Zbm (off := 7) (by kernel_rfl) rfl rfl u_0) <| o_p rfl (Z1 Zca rfl rfl u_0) <| o_p rfl (Zcd Tryd.underlying23 rfl rfl u_0) <| o_p rfl (Zd rfl rfl u_0) <| o_p rfl (Zbc rfl rfl u_0 (fun _ _ ⟨_, _, _, e, _⟩ => ⟨_, e⟩)) <| o_p rfl (Zj Zeo (off := 5) (by kernel_rfl) rfl rfl u_0) <| o_p rfl (Z1 ty_3 rfl rfl u_0) <| o_p rfl (Zji rfl rfl u_0 u_1) <| o_p rfl (Zc rfl rfl u_0) <| o_n) (by kernel_rfl) (fun a g hst hb => ?_)
   refine wp_cond_split (hst.bool 4 rfl) (fun hc4 => ?_) (fun hc4 => ?_)
   · replace H0 := Zp hc4 H0
     refine r_s (L := [(0, _), (2, _)]) (T := [⟨[], _, [], [], [6]⟩]) (F := [.old 0, .old 1, .op 0 0]) (hst.pick [0, 1] rfl) hb Za
       (o_p rfl (Zc rfl rfl c_i) <| o_n) (by kernel_rfl) (fun a g hst hb => ?_)
     refine wp_ret ?_
     refine Zv ?_
     refine Zm ?_
     obtain rfl := Option.some.inj H0
     exact Zf5 rfl hst hb (Zl (s := 6)) (hst.at 2 rfl) ⟨Zcn (hst.at 0 rfl), Zcn (hst.at 1 rfl), trivial⟩
   · replace H0 := Zo hc4 H0
     refine wp_skip ?_
     refine Z6 ?_
     refine Zq ?_
     obtain ⟨r5, h6, H0⟩ := Zk H0; obtain ⟨r7, h8, H0⟩ := Zk H0
     refine r_s (L := [(0, _), (2, _), (4, _), (7, _)]) (T := ⟨[.old 0], _, [], [], [32]⟩ :: ⟨[.old 0], _, [], [], [33]⟩ :: ⟨[.op 1 0], _, [], [1], [34]⟩ :: ⟨[.op 2 0], _, [], [1, 2], [35]⟩ :: ⟨[.op 3 0], _, [], [1, 2, 3], [36]⟩ :: ⟨[.op 4 0], _, [38], List.range' 1 4, [37]⟩ :: ⟨[.old 3], _, [], [], [38]⟩ :: ⟨[.old 2], _, [], [], [39]⟩ :: ⟨[.op 7 0], _, [], [7], [40]⟩ :: ⟨[.op 8 0], _, [], [7, 8], [41]⟩ :: ⟨[.op 9 0], _, [], [7, 8, 9], [42]⟩ :: ⟨[.op 5 0, .op 6 0, .op 10 0], _, [38], List.range' 1 10, [37, 43]⟩ :: ⟨[.op 0 0], _, [], Lr 12, [44]⟩ :: ⟨[.op 12 0], _, [], Lr 13, [45]⟩ :: ⟨[.op 11 0, .op 13 0, .old 0], _, [1], Lr 14, [0, 32, 33, 34, 35, 44, 45]⟩ :: []) (F := [.op 14 0, .old 1]) (hst.pick [0, 1, 2, 3] rfl) hb Za
       (o_p rfl (Zd rfl rfl u_0) <| o_p rfl (Zd rfl rfl u_0) <| o_p rfl (Zbc rfl rfl u_0 (fun _ _ ⟨_, _, _, e, _⟩ => ⟨_, e⟩)) <| o_p rfl (Zj Zbm (off := 7) (by kernel_rfl) rfl rfl u_0) <| o_p rfl (Z1 Zca rfl rfl u_0) <| o_p rfl (Zlp (j := 37) Zr2 (Zek _ h6) rfl rfl (.cons u_0 .nil)) <| o_p rfl (Zd rfl rfl u_0) <| o_p rfl (Ze Zd7 rfl rfl u_0) <| o_p rfl (Zg ty_9 rfl rfl u_0) <| o_p rfl (Zt5 rfl rfl u_0) <| o_p rfl (Zgx Zcu (xs := [.tmp 41]) (.cons u_0 .nil) (by decide) rfl rfl) <| o_p rfl (Zmz Zv7 (Zge _ _ _ h8) rfl rfl rfl u_0 (.cons u_1 (.cons u_2 .nil))) <| o_p rfl (Zbc rfl rfl u_0 (fun _ _ ⟨_, _, _, e, _⟩ => ⟨_, e⟩)) <| o_p rfl (Zj Zbm (off := 7) (by kernel_rfl) rfl rfl u_0) <| o_p rfl (Zi6 Zca rfl rfl u_2 u_1 u_0) <| o_n) (by kernel_rfl) (fun a g hst hb => ?_)
     refine r_s (T := [⟨[], _, [], [], [6]⟩]) (F := [.old 0, .old 1, .op 0 0]) hst hb Za
       (o_p rfl (Zc rfl rfl c_i) <| o_n) (by kernel_rfl) (fun a g hst hb => ?_)
     refine wp_ret ?_
     obtain rfl := Option.some.inj H0
     exact Zf5 rfl hst hb (Zl (s := 6)) (hst.at 2 rfl) ⟨Zcn (hst.at 0 rfl), Zcn (hst.at 1 rfl), trivial⟩
theorem Zja (a0 : List Zh) (a1 a2 : Int) {r : List Zh} (h : Zd6 a0 a1 a2 = some r) : Zsa Tryd.prog 96 Zr 75 a0 [(pInt .i64 a1), (pInt .i64 a2)] (Zr.sl.pd r) := by
 unfold Zd6 at h
 obtain ⟨⟨hpos, hi0, hij, hj, hsz⟩, H0⟩ := Zhb h
 obtain rfl := Option.some.inj H0
 obtain ⟨k, rfl⟩ := Int.eq_ofNat_of_zero_le hi0
 obtain ⟨l, rfl⟩ := Int.eq_ofNat_of_zero_le (Int.le_trans hi0 hij)
 have hkl : k ≤ l := by omega
 have hl : l ≤ a0.length := by omega
 simp only [Int.toNat_natCast]
 refine Zsl (N := 33) Tryd.func96 rfl rfl (Nat.le_of_ble_eq_true rfl) rfl (fun hx a g A0 hst hb => ?_) (fun a g cap hcap hmax hst hb => ?_)
 · rw [hx] at hpos; cases hpos
 · refine r_s (T := [⟨[], [(6, (Zr.sl.pd []))], [], [], [6]⟩]) (F := [.old 0, .old 1, .old 2]) hst hb Za
     (o_p rfl (Zc rfl rfl (Opd.c (fun g => Zix g))) <| o_n) (by kernel_rfl) (fun a g hst hb => ?_)
   refine r_s (T := [⟨[.old 0], _, [], [], [8]⟩, ⟨[.old 1], _, [], [], [9]⟩, ⟨[.old 2], _, [], [], [10]⟩, ⟨[.old 0], _, [], [], [11]⟩, ⟨[.op 3 0], _, [], [3], [12]⟩, ⟨[.op 0 0, .op 1 0, .op 2 0, .op 4 0], [], [], [0, 1, 2, 3, 4], [13]⟩]) (F := [.old 0, .old 1, .old 2]) hst hb Za
     (o_p rfl (Zd rfl rfl u_0) <| o_p rfl (Zd rfl rfl u_0) <| o_p rfl (Zd rfl rfl u_0) <| o_p rfl (Zd rfl rfl u_0) <| o_p rfl (Zoq Tryd.underlying23 rfl rfl u_0) <| o_p rfl (Zxh Zcu hkl (by simpa using hl) (Nat.le_refl _) rfl u_0 u_1 u_2 u_3) <| o_n) (by kernel_rfl) (fun a g hst hb => ?_)
   refine wp_seq ?_
   refine r_s (T := [⟨[.old 1], _, [], [], [14]⟩, ⟨[.old 2], _, [], [], [15]⟩, ⟨[.op 0 0, .op 1 0], _, [], [0, 1], [16]⟩]) (F := [.old 0, .old 1, .old 2, .op 2 0]) hst hb Za
     (o_p rfl (Zd rfl rfl u_0) <| o_p rfl (Zd rfl rfl u_0) <| o_p rfl (Z7 rfl rfl u_0 u_1) <| o_n) (by kernel_rfl) (fun a g hst hb => ?_)
   refine wp_cond_split (hst.bool 3 rfl) (fun hc => ?_) (fun hc => ?_)
   · refine r_s (L := [(0, _)]) (T := [⟨[.old 0], _, [], [], [17]⟩, ⟨[.op 0 0], _, [], [0], [6]⟩]) (F := [.op 1 0]) (hst.pick [0] rfl) hb Za
       (o_p rfl (Zd rfl rfl u_0) <| o_p rfl (Zc rfl rfl u_0) <| o_n) (by kernel_rfl) (fun a g hst hb => ?_)
     refine wp_ret ?_
     refine Zm ?_
     have hq := hst.at 0 rfl
     have hkl2 := beq_iff_eq.1 hc
     have he : a0.take k ++ a0.drop l = a0 := by rw [show l = k by omega, List.take_append_drop]
     rw [he]
     exact Zmj rfl hst hb (Zl (s := 6)) hq
   · refine wp_skip ?_
     refine Zq ?_
     refine r_s (L := [(0, _), (1, _), (2, _)]) (T := [⟨[.old 0], _, [], [], [18]⟩, ⟨[.op 0 0], _, [], [0], [19]⟩, ⟨[.op 1 0], _, [], [0, 1], [7]⟩]) (F := [.old 0, .old 1, .old 2, .op 2 0]) (hst.pick [0, 1, 2] rfl) hb Za
       (o_p rfl (Zd rfl rfl u_0) <| o_p rfl (Zoq Tryd.underlying23 rfl rfl u_0) <| o_p rfl (Zc rfl rfl u_0) <| o_n) (by kernel_rfl) (fun a g hst hb => ?_)
     refine r_s (T := [⟨[.old 0], _, [], [], [20]⟩, ⟨[.old 1], _, [], [], [21]⟩, ⟨[.op 0 0, .op 1 0], _, [], [0, 1], [22]⟩, ⟨[.old 0], _, [], [], [23]⟩, ⟨[.old 2], _, [], [], [24]⟩, ⟨[.op 3 0, .op 4 0], _, [], [3, 4], [25]⟩, ⟨[.op 2 0, .op 5 0, .old 0], [(26, (pOwn Zr 75 0 (some cap) ((a0.take k ++ a0.drop l).map some)))], [1], [0, 1, 2, 3, 4, 5], [26, 0, 20, 22, 23, 25]⟩, ⟨[.op 6 0], _, [], [0, 1, 2, 3, 4, 5, 6], [0]⟩]) (F := [.op 7 0, .old 3]) hst hb Za
       (o_p rfl (Zd rfl rfl u_0) <| o_p rfl (Zd rfl rfl u_0) <| o_p rfl (Zn1 Zcu (by simp; omega) rfl rfl u_0 u_1) <| o_p rfl (Zd rfl rfl u_0) <| o_p rfl (Zd rfl rfl u_0) <| o_p rfl (Zfx Zcu (by simpa using hl) rfl rfl u_0 u_1) <| o_p rfl (Zvx (s := 0) (k := cap) (xs := a0.take k) (ws := a0.drop l) Zcu (by simp; omega) (by simp; omega) (by simp; omega) (by simp) (Zp4 a0 k) (Zu4 a0 l) rfl rfl u_0 u_1 u_2) <| o_p rfl (Zc rfl rfl u_0) <| o_n) (by kernel_rfl) (fun a g hst hb => ?_)
     have hl2 : ((a0.take k ++ a0.drop l).map some).length = k + (a0.length - l) := by simp; omega
     refine r_s (T := [⟨[.old 0], _, [], [], [27]⟩, ⟨[.old 0], _, [], [], [28]⟩, ⟨[.op 1 0], _, [], [1], [29]⟩, ⟨[.old 1], _, [], [], [30]⟩, ⟨[.op 0 0, .op 2 0, .op 3 0], _, [], [0, 1, 2, 3], [31]⟩, ⟨[.op 4 0, .old 0], _, [1], [0, 1, 2, 3, 4], [0, 27, 28, 31]⟩]) (F := [.op 5 0]) hst hb Za
       (o_p rfl (Zd rfl rfl u_0) <| o_p rfl (Zd rfl rfl u_0) <| o_p rfl (Zoq Tryd.underlying23 rfl rfl u_0) <| o_p rfl (Zd rfl rfl u_0) <| o_p rfl (Zv0 (k := cap) Zcu (by rw [hl2, List.length_map]; omega) (by rw [List.length_map]; omega) rfl rfl u_0 u_1 u_2) <| o_p rfl (Zwv (s := 0) (k := cap) Zcu (by kernel_rfl) (Nat.le_refl _) (by rw [hl2, List.length_map]; omega) rfl rfl u_0 u_1) <| o_n) (by kernel_rfl) (fun a g hst hb => ?_)
     refine r_s (T := [⟨[.old 0], _, [], [], [32]⟩, ⟨[.op 0 0], _, [], [0], [6]⟩]) (F := [.op 1 0]) hst hb Za
       (o_p rfl (Zd rfl rfl u_0) <| o_p rfl (Zc rfl rfl u_0) <| o_n) (by kernel_rfl) (fun a g hst hb => ?_)
     refine wp_ret ?_
     exact Zmj rfl hst hb (Zl (s := 6)) (hst.at 0 rfl)
theorem Zo2 (a0 : Zb) (a1 : Zs) (a2 : Zi) {r : Int × Zb × Zi} (h : Zht a0 a1 a2 = some r) : FnB Tryd.prog 94 [.box Zf a0 r.2.1, .val (Zw.pd a1), .box Zu a2 r.2.2] (pInt .i64 r.1) := by
 have H0 := h
 unfold Zht at H0
 clear h
 refine Zhz (N := 32) Tryd.func94 rfl rfl (Nat.le_of_ble_eq_true rfl) rfl rfl (fun a g0 bs hbs hst hb => ?_)
 obtain ⟨b0, b2, rfl⟩ := Zjh hbs
 replace hst : St 32 [(0, (Zbl (some b0) Zf 0 a0)), (1, (Zw.pd a1)), (2, (Zbl (some b2) Zu 2 a2))] _ _ := hst
 refine r_s (T := [⟨[.old 1], _, [], [], [4]⟩, ⟨[], _, [], [], [6]⟩]) (F := [.old 0, .old 2, .op 0 0]) hst hb Za
   (o_p rfl (Zbs rfl rfl u_0) <| o_p rfl (Zc rfl rfl c_i) <| o_n) (by kernel_rfl) (fun a g hst hb => ?_)
 refine wp_seq ?_
 obtain ⟨r1, h2, H0⟩ := Zk H0
 refine r_s (T := ⟨[.old 0], _, [], [], [10]⟩ :: ⟨[.op 0 0], _, [], [0], [11]⟩ :: ⟨[.op 1 0], _, [], [0, 1], [12]⟩ :: ⟨[.op 2 0], _, [], [0, 1, 2], [13]⟩ :: ⟨[.old 2], _, [], [], [14]⟩ :: ⟨[.op 4 0], _, [], [4], [15]⟩ :: ⟨[.op 3 0, .op 5 0], _, [], Lr 6, [16]⟩ :: ⟨[.op 6 0], _, [], Lr 7, [9]⟩ :: ⟨[.op 7 0], _, [], Lr 8, [17]⟩ :: ⟨[.op 7 0], _, [], Lr 8, [18]⟩ :: ⟨[.op 8 0], _, [], Lr 9, [7]⟩ :: ⟨[.op 9 0], _, [], Lr 11, [8]⟩ :: []) (F := [.old 0, .old 1, .op 10 0, .op 11 0]) hst hb Za
   (o_p rfl (Zd rfl rfl u_0) <| o_p rfl (Zbc rfl rfl u_0 (fun _ _ ⟨_, _, _, e, _⟩ => ⟨_, e⟩)) <| o_p rfl (Zj Zbm (off := 7) (by kernel_rfl) rfl rfl u_0) <| o_p rfl (Z1 Zca rfl rfl u_0) <| o_p rfl (Ze Zd7 rfl rfl u_0) <| o_p rfl (Zg ty_9 rfl rfl u_0) <| o_p rfl (Zt Zvk (Zlr _ _ h2) rfl rfl (.cons u_0 (.cons u_1 .nil))) <| o_p rfl (Zd rfl rfl u_0) <| o_p rfl (Zbf rfl rfl u_0 rfl) <| o_p rfl (Zbf rfl rfl u_0 rfl) <| o_p rfl (Zc rfl rfl u_0) <| o_p rfl (Zc rfl rfl u_0) <| o_n) (by kernel_rfl) (fun a g hst hb => ?_)
 refine r_s (T := [⟨[.old 3], _, [], [], [19]⟩]) (F := [.old 0, .old 1, .old 2, .op 0 0]) hst hb Za
   (o_p rfl (Zd rfl rfl u_0) <| o_n) (by kernel_rfl) (fun a g hst hb => ?_)
 refine Zbv (fun a w => ∃ (j8 : Zb) (g : G), w = g.w ∧ St 32 [(0, (Zbl (some b0) Zf 0 j8)), (2, (Zbl (some b2) Zu 2 a2))] a g ∧ Base g0 g ∧ Zhm a2 j8 = some r) ?_ ?_
 · rintro a w ⟨j8, g, rfl, hst, hb, H0⟩
   unfold Zhm at H0
   refine Zq ?_
   refine r_s (T := [⟨[], _, [], [], [6]⟩]) (F := [.old 0, .old 1, .op 0 0]) hst hb Za
     (o_p rfl (Zc rfl rfl c_i) <| o_n) (by kernel_rfl) (fun a g hst hb => ?_)
   refine wp_ret ?_
   obtain rfl := Option.some.inj H0
   exact Zf5 rfl hst hb (Zl (s := 6)) (hst.at 2 rfl) ⟨Zcn (hst.at 0 rfl), Zcn (hst.at 1 rfl), trivial⟩
 · refine wp_cond_split (hst.bool 3 rfl) (fun hc3 => ?_) (fun hc3 => ?_)
   · replace H0 := Zp hc3 H0
     obtain ⟨r4, h5, H0⟩ := Zk H0; obtain ⟨r6, h7, H0⟩ := Zk H0
     refine r_g (L := [(0, _), (2, _), (7, _)]) (T := ⟨[.old 0], _, [], [], [20]⟩ :: ⟨[.old 0], _, [], [], [21]⟩ :: ⟨[.op 1 0], _, [], [1], [22]⟩ :: ⟨[.op 2 0], _, [], [1, 2], [23]⟩ :: ⟨[.op 3 0], _, [], [1, 2, 3], [24]⟩ :: ⟨[.op 4 0], _, [26], List.range' 1 4, [25]⟩ :: ⟨[.old 2], _, [], [], [26]⟩ :: ⟨[.old 2], _, [], [], [27]⟩ :: ⟨[.op 7 0], _, [], [7], [28]⟩ :: ⟨[.op 5 0, .op 6 0, .op 8 0], _, [26], List.range' 1 8, [25, 29]⟩ :: ⟨[.op 0 0], _, [], Lr 10, [30]⟩ :: ⟨[.op 10 0], _, [], Lr 11, [31]⟩ :: ⟨[.op 9 0, .op 11 0, .old 0], _, [1], Lr 12, [0, 20, 21, 22, 23, 30, 31]⟩ :: []) (F := [.op 12 0, .old 1]) (hst.pick [0, 1, 2] rfl) hb Za
       (o_p rfl (Zd rfl rfl u_0) <| o_p rfl (Zd rfl rfl u_0) <| o_p rfl (Zbc rfl rfl u_0 (fun _ _ ⟨_, _, _, e, _⟩ => ⟨_, e⟩)) <| o_p rfl (Zj Zbm (off := 7) (by kernel_rfl) rfl rfl u_0) <| o_p rfl (Z1 Zca rfl rfl u_0) <| o_p rfl (Zlp (j := 25) Zr2 (Zek _ h5) rfl rfl (.cons u_0 .nil)) <| o_p rfl (Zd rfl rfl u_0) <| o_p rfl (Zd rfl rfl u_0) <| o_p rfl (Zcg rfl rfl u_0 c_i rfl) <| o_p rfl (Zmz Z36 (Zja _ _ _ h7) rfl rfl rfl u_0 (.cons u_1 (.cons u_2 .nil))) <| o_p rfl (Zbc rfl rfl u_0 (fun _ _ ⟨_, _, _, e, _⟩ => ⟨_, e⟩)) <| o_p rfl (Zj Zbm (off := 7) (by kernel_rfl) rfl rfl u_0) <| o_p rfl (Zi6 Zca rfl rfl u_2 u_1 u_0) <| o_n) (by kernel_rfl) (fun a g hst hb => ?_)
     exact ⟨({ a0 with List := r6 }), g, rfl, (hst.pick [0, 1] rfl), hb, H0⟩
   · replace H0 := Zo hc3 H0
     refine wp_skip ?_
     exact ⟨a0, g, rfl, (hst.pick [0, 1] rfl), hb, H0⟩
theorem Zo3 (a0 : Zb) (a1 : Zs) (a2 : Zi) {r : Int × Zb × Zi} (h : Zhw a0 a1 a2 = some r) : FnB Tryd.prog 97 [.box Zf a0 r.2.1, .val (Zw.pd a1), .box Zu a2 r.2.2] (pInt .i64 r.1) := by
 have H0 := h
 unfold Zhw at H0
 clear h
 refine Zhz (N := 21) Tryd.func97 rfl rfl (Nat.le_of_ble_eq_true rfl) rfl rfl (fun a g0 bs hbs hst hb => ?_)
 obtain ⟨b0, b2, rfl⟩ := Zjh hbs
 replace hst : St 21 [(0, (Zbl (some b0) Zf 0 a0)), (1, (Zw.pd a1)), (2, (Zbl (some b2) Zu 2 a2))] _ _ := hst
 refine r_s (T := [⟨[.old 1], _, [], [], [4]⟩, ⟨[], _, [], [], [6]⟩]) (F := [.old 0, .old 2, .op 0 0]) hst hb Za
   (o_p rfl (Zbs rfl rfl u_0) <| o_p rfl (Zc rfl rfl c_i) <| o_n) (by kernel_rfl) (fun a g hst hb => ?_)
 refine wp_seq ?_
 obtain ⟨r1, h2, H0⟩ := Zk H0
 refine r_s (T := ⟨[.old 0], _, [], [], [10]⟩ :: ⟨[.op 0 0], _, [], [0], [11]⟩ :: ⟨[.op 1 0], _, [], [0, 1], [12]⟩ :: ⟨[.op 2 0], _, [], [0, 1, 2], [13]⟩ :: ⟨[.old 2], _, [], [], [14]⟩ :: ⟨[.op 4 0], _, [], [4], [15]⟩ :: ⟨[.op 3 0, .op 5 0], _, [], Lr 6, [16]⟩ :: ⟨[.op 6 0], _, [], Lr 7, [9]⟩ :: ⟨[.op 7 0], _, [], Lr 8, [17]⟩ :: ⟨[.op 7 0], _, [], Lr 8, [18]⟩ :: ⟨[.op 8 0], _, [], Lr 9, [7]⟩ :: ⟨[.op 9 0], _, [], Lr 11, [8]⟩ :: []) (F := [.old 0, .old 1, .op 11 0]) hst hb Za
   (o_p rfl (Zd rfl rfl u_0) <| o_p rfl (Zbc rfl rfl u_0 (fun _ _ ⟨_, _, _, e, _⟩ => ⟨_, e⟩)) <| o_p rfl (Zj Zbm (off := 7) (by kernel_rfl) rfl rfl u_0) <| o_p rfl (Z1 Zca rfl rfl u_0) <| o_p rfl (Ze Zd7 rfl rfl u_0) <| o_p rfl (Zg ty_9 rfl rfl u_0) <| o_p rfl (Zt Zvk (Zlr _ _ h2) rfl rfl (.cons u_0 (.cons u_1 .nil))) <| o_p rfl (Zd rfl rfl u_0) <| o_p rfl (Zbf rfl rfl u_0 rfl) <| o_p rfl (Zbf rfl rfl u_0 rfl) <| o_p rfl (Zc rfl rfl u_0) <| o_p rfl (Zc rfl rfl u_0) <| o_n) (by kernel_rfl) (fun a g hst hb => ?_)
 refine r_s (T := [⟨[.old 2], _, [], [], [19]⟩, ⟨[.op 0 0], _, [], [0], [20]⟩]) (F := [.old 0, .old 1, .op 1 0]) hst hb Za
   (o_p rfl (Zd rfl rfl u_0) <| o_p rfl (Zb4 rfl rfl u_0) <| o_n) (by kernel_rfl) (fun a g hst hb => ?_)
 refine wp_cond_split (hst.bool 2 rfl) (fun hc3 => ?_) (fun hc3 => ?_)
 · replace H0 := Zp hc3 H0
   refine r_s (L := [(0, _), (2, _)]) (T := [⟨[], _, [], [], [6]⟩]) (F := [.old 0, .old 1, .op 0 0]) (hst.pick [0, 1] rfl) hb Za
     (o_p rfl (Zc rfl rfl c_i) <| o_n) (by kernel_rfl) (fun a g hst hb => ?_)
   refine wp_ret ?_
   refine Zm ?_
   obtain rfl := Option.some.inj H0
   exact Zf5 rfl hst hb (Zl (s := 6)) (hst.at 2 rfl) ⟨Zcn (hst.at 0 rfl), Zcn (hst.at 1 rfl), trivial⟩
 · replace H0 := Zo hc3 H0
   refine wp_skip ?_
   refine Zq ?_
   refine r_s (L := [(0, _), (2, _)]) (T := [⟨[], _, [], [], [6]⟩]) (F := [.old 0, .old 1, .op 0 0]) (hst.pick [0, 1] rfl) hb Za
     (o_p rfl (Zc rfl rfl c_i) <| o_n) (by kernel_rfl) (fun a g hst hb => ?_)
   refine wp_ret ?_
   obtain rfl := Option.some.inj H0
   exact Zf5 rfl hst hb (Zl (s := 6)) (hst.at 2 rfl) ⟨Zcn (hst.at 0 rfl), Zcn (hst.at 1 rfl), trivial⟩
theorem Zrq (a0 : Zb) (a1 : Zs) (a2 : Zi) {r : Int × Zb × Zi} (h : Zia a0 a1 a2 = some r) : FnB Tryd.prog 98 [.box Zf a0 r.2.1, .val (Zw.pd a1), .box Zu a2 r.2.2] (pInt .i64 r.1) := by
 have H0 := h
 unfold Zia at H0
 clear h
 refine Zhz (N := 75) Tryd.func98 rfl rfl (Nat.le_of_ble_eq_true rfl) rfl rfl (fun a g0 bs hbs hst hb => ?_)
 obtain ⟨b0, b2, rfl⟩ := Zjh hbs
 replace hst : St 75 [(0, (Zbl (some b0) Zf 0 a0)), (1, (Zw.pd a1)), (2, (Zbl (some b2) Zu 2 a2))] _ _ := hst
 refine r_s (T := [⟨[.old 1], _, [], [], [4]⟩, ⟨[], _, [], [], [6]⟩]) (F := [.old 0, .old 2, .op 0 0]) hst hb Za
   (o_p rfl (Zbs rfl rfl u_0) <| o_p rfl (Zc rfl rfl c_i) <| o_n) (by kernel_rfl) (fun a g hst hb => ?_)
 refine r_s (T := [⟨[.old 2], _, [], [], [10]⟩, ⟨[.op 0 0], _, [], [0], [11]⟩, ⟨[.old 2], _, [], [], [12]⟩, ⟨[.op 2 0], _, [], [2], [13]⟩, ⟨[.op 1 0, .op 3 0], _, [], Lr 4, [14]⟩, ⟨[], [(7, (pBox Zr 7 (default : Zh)))], [8], [], [7]⟩, ⟨[.op 4 0, .op 5 0], _, [8], Lr 6, [7]⟩]) (F := [.old 0, .old 1, .op 6 0]) hst hb Za
   (o_p rfl (Ze Zgm rfl rfl u_0) <| o_p rfl (Zg Zby rfl rfl u_0) <| o_p rfl (Ze Zd7 rfl rfl u_0) <| o_p rfl (Zg ty_9 rfl rfl u_0) <| o_p rfl (Zrm rfl rfl u_0 u_1) <| o_p rfl (Zbi (zs := [.float .f64 0, .string ByteArray.empty]) (by kernel_rfl) (fun g => Zgi g) rfl rfl) <| o_p rfl (Zci Zdh rfl rfl u_1 u_0) <| o_n) (by kernel_rfl) (fun a g hst hb => ?_)
 refine r_s (T := [⟨[], _, [], [], [8]⟩]) (F := [.old 0, .old 1, .old 2, .op 0 0]) hst hb Za
   (o_p rfl (Zc rfl rfl c_i) <| o_n) (by kernel_rfl) (fun a g hst hb => ?_)
 obtain ⟨z8, hz1, H0⟩ := Zk H0
 refine wp_seq ?_
 refine Zbv (fun a w => ∃ (y7 : Int) (g : G), w = g.w ∧ St 75 [(0, (Zbl (some b0) Zf 0 a0)), (2, (Zbl (some b2) Zu 2 a2)), (7, (Zr.ptr ({ Score := a1.X, Name := a1.S } : Zh))), (8, (pInt .i64 y7))] a g ∧ Base g0 g ∧ y7 = z8) ?_ ?_
 · rintro a w ⟨y7, g, rfl, hst, hb, rfl⟩
   refine Zq ?_
   refine wp_seq ?_
   obtain ⟨e9, h10, H0⟩ := Zk H0; obtain ⟨r11, h12, H0⟩ := Zk H0
   refine r_s (T := ⟨[.old 3], _, [], [], [35]⟩ :: ⟨[.old 0], _, [], [], [36]⟩ :: ⟨[.op 1 0], _, [], [1], [37]⟩ :: ⟨[.op 2 0], _, [], [1, 2], [38]⟩ :: ⟨[.op 3 0], _, [], [1, 2, 3], [39]⟩ :: ⟨[.op 4 0], _, [], List.range' 1 4, [40]⟩ :: ⟨[.op 0 0, .op 5 0], _, [], Lr 6, [41]⟩ :: ⟨[.op 6 0], _, [], Lr 7, [42]⟩ :: ⟨[.op 7 0, .old 2], _, [], Lr 8, [43]⟩ :: ⟨[.op 7 0, .old 0], _, [], Lr 8, [44]⟩ :: ⟨[.op 7 0, .op 9 0], _, [], [0, 1, 2, 3, 4, 5, 6, 7, 9], [45]⟩ :: ⟨[.op 7 0, .op 10 0], _, [], [0, 1, 2, 3, 4, 5, 6, 7, 9, 10], [46]⟩ :: ⟨[.op 7 0, .op 11 0], _, [], [0, 1, 2, 3, 4, 5, 6, 7, 9, 10, 11], [47]⟩ :: ⟨[.op 7 0, .old 3], _, [], Lr 8, [48]⟩ :: ⟨[.op 7 0, .op 12 0, .op 13 0], _, [], 0 :: 1 :: 2 :: 3 :: 4 :: 5 :: 6 :: 7 :: 9 :: 10 :: 11 :: 12 :: 13 :: [], [49]⟩ :: ⟨[.op 7 0, .op 14 0], _, [], 0 :: 1 :: 2 :: 3 :: 4 :: 5 :: 6 :: 7 :: 9 :: 10 :: 11 :: 12 :: 13 :: 14 :: [], [50]⟩ :: ⟨[.op 7 0, .op 8 0, .op 15 0], _, [], Lr 16, [51]⟩ :: ⟨[.op 7 0, .op 16 0], _, [], Lr 17, [52]⟩ :: ⟨[.op 7 0, .op 17 0], _, [], Lr 18, [53]⟩ :: []) (F := [.old 0, .old 1, .old 2, .old 3, .op 18 0]) hst hb Za
     (o_p rfl (Zd rfl rfl u_0) <| o_p rfl (Zd rfl rfl u_0) <| o_p rfl (Zbc rfl rfl u_0 (fun _ _ ⟨_, _, _, e, _⟩ => ⟨_, e⟩)) <| o_p rfl (Zj Zbm (off := 7) (by kernel_rfl) rfl rfl u_0) <| o_p rfl (Z1 Zca rfl rfl u_0) <| o_p rfl (Zcd Tryd.underlying23 rfl rfl u_0) <| o_p rfl (Zcb rfl rfl u_0 u_1) <| o_p rfl (Zd rfl rfl u_0) <| o_g (g_t rfl rfl rfl (fun hG => Zg Zdh rfl rfl u_0)) <| o_g (g_t rfl rfl rfl (fun hG => Zd rfl rfl u_0)) <| o_g (g_t rfl rfl rfl (fun hG => Zbc rfl rfl (Opd.gd hG u_0) (fun _ _ ⟨_, _, _, e, _⟩ => ⟨_, e⟩))) <| o_g (g_t rfl rfl rfl (fun hG => Zj Zbm (off := 7) (by kernel_rfl) rfl rfl (Opd.gd hG u_0))) <| o_g (g_t rfl rfl rfl (fun hG => Z1 Zca rfl rfl (Opd.gd hG u_0))) <| o_g (g_t rfl rfl rfl (fun hG => Zd rfl rfl u_0)) <| o_g (g_t rfl rfl rfl (fun hG => Zbh Tryd.underlying23 Zdv rfl rfl (Opd.gd hG u_0) (Opd.gd hG u_1) (Zbn h10 hG))) <| o_g (g_t rfl rfl rfl (fun hG => Zg Zdh rfl rfl (Opd.gd hG u_0))) <| o_g (g_t rfl rfl rfl (fun hG => Zt Zvn (Zk3 _ _ (Zbn h12 hG)) rfl rfl (.cons (Opd.gd hG u_0) (.cons (Opd.gd hG u_1) .nil)))) <| o_g (g_t rfl rfl rfl (fun hG => Zb4 rfl rfl (Opd.gd hG u_0))) <| o_p rfl (Zbb rfl rfl u_0 (fun hz => (Opd.gd hz u_1))) <| o_n) (by kernel_rfl) (fun a g hst hb => ?_)
   refine wp_cond_split (hst.bool 4 rfl) (fun hc13 => ?_) (fun hc13 => ?_)
   · replace H0 := Zp hc13 H0
     refine r_s (L := [(0, _), (2, _)]) (T := [⟨[], _, [], [], [6]⟩]) (F := [.old 0, .old 1, .op 0 0]) (hst.pick [0, 1] rfl) hb Za
       (o_p rfl (Zc rfl rfl c_i) <| o_n) (by kernel_rfl) (fun a g hst hb => ?_)
     refine wp_ret ?_
     refine Zm ?_
     obtain rfl := Option.some.inj H0
     exact Zf5 rfl hst hb (Zl (s := 6)) (hst.at 2 rfl) ⟨Zcn (hst.at 0 rfl), Zcn (hst.at 1 rfl), trivial⟩
   · replace H0 := Zo hc13 H0
     refine wp_skip ?_
     refine Zq ?_
     obtain ⟨r14, h15, H0⟩ := Zk H0; obtain ⟨r16, h17, H0⟩ := Zk H0
     refine r_s (L := [(0, _), (2, _), (7, _), (8, _)]) (T := [⟨[.old 0], _, [], [], [54]⟩, ⟨[.op 0 0], _, [], [0], [55]⟩, ⟨[.op 1 0], _, [], [0, 1], [56]⟩, ⟨[.op 2 0], _, [], [0, 1, 2], [57]⟩, ⟨[.op 3 0], _, [59], Lr 4, [58]⟩, ⟨[.old 3], _, [], [], [59]⟩, ⟨[.old 2], _, [], [], [60]⟩, ⟨[.op 6 0], _, [], [6], [61]⟩, ⟨[.op 4 0, .op 5 0, .op 7 0], _, [59], Lr 8, [58, 62]⟩, ⟨[.op 8 0], _, [], Lr 9, [9]⟩]) (F := [.old 0, .old 1, .op 9 0]) (hst.pick [0, 1, 2, 3] rfl) hb Za
       (o_p rfl (Zd rfl rfl u_0) <| o_p rfl (Zbc rfl rfl u_0 (fun _ _ ⟨_, _, _, e, _⟩ => ⟨_, e⟩)) <| o_p rfl (Zj Zbm (off := 7) (by kernel_rfl) rfl rfl u_0) <| o_p rfl (Z1 Zca rfl rfl u_0) <| o_p rfl (Zlp (j := 58) Zr2 (Zek _ h15) rfl rfl (.cons u_0 .nil)) <| o_p rfl (Zd rfl rfl u_0) <| o_p rfl (Zg Zdh rfl rfl u_0) <| o_p rfl (Zgx Zcu (xs := [.tmp 60]) (.cons u_0 .nil) (by decide) rfl rfl) <| o_p rfl (Zmz Zv7 (Zge _ _ _ h17) rfl rfl rfl u_0 (.cons u_1 (.cons u_2 .nil))) <| o_p rfl (Zc rfl rfl u_0) <| o_n) (by kernel_rfl) (fun a g hst hb => ?_)
     obtain ⟨c18, h19, H0⟩ := Zk H0
     refine r_s (T := ⟨[.old 0], _, [], [], [63]⟩ :: ⟨[.old 2], _, [], [], [64]⟩ :: ⟨[.old 2], _, [], [], [65]⟩ :: ⟨[.op 2 0], _, [], [2], [66]⟩ :: ⟨[.old 0], _, [], [], [67]⟩ :: ⟨[.op 4 0], _, [], [4], [68]⟩ :: ⟨[.op 5 0], _, [], [4, 5], [69]⟩ :: ⟨[.op 6 0], _, [], [4, 5, 6], [70]⟩ :: ⟨[.op 3 0, .op 7 0], _, [], List.range' 2 6, [71]⟩ :: ⟨[.op 1 0, .op 8 0], _, [], List.range' 1 8, [72]⟩ :: ⟨[.op 0 0], _, [], Lr 10, [73]⟩ :: ⟨[.op 10 0], _, [], Lr 11, [74]⟩ :: ⟨[.op 9 0, .op 11 0, .old 0], _, [1], Lr 12, [0, 63, 67, 68, 69, 73, 74]⟩ :: []) (F := [.op 12 0, .old 1]) hst hb Za
       (o_p rfl (Zd rfl rfl u_0) <| o_p rfl (Zd rfl rfl u_0) <| o_p rfl (Zd rfl rfl u_0) <| o_p rfl (Zcd Tryd.underlying23 rfl rfl u_0) <| o_p rfl (Zd rfl rfl u_0) <| o_p rfl (Zbc rfl rfl u_0 (fun _ _ ⟨_, _, _, e, _⟩ => ⟨_, e⟩)) <| o_p rfl (Zj Zeo (off := 5) (by kernel_rfl) rfl rfl u_0) <| o_p rfl (Z1 ty_3 rfl rfl u_0) <| o_p rfl (Z1m rfl rfl u_0 u_1) <| o_p rfl (Zub Tryd.underlying23 Zdv rfl rfl u_0 u_1 h19) <| o_p rfl (Zbc rfl rfl u_0 (fun _ _ ⟨_, _, _, e, _⟩ => ⟨_, e⟩)) <| o_p rfl (Zj Zbm (off := 7) (by kernel_rfl) rfl rfl u_0) <| o_p rfl (Zi6 Zca rfl rfl u_2 u_1 u_0) <| o_n) (by kernel_rfl) (fun a g hst hb => ?_)
     refine r_s (T := [⟨[], _, [], [], [6]⟩]) (F := [.old 0, .old 1, .op 0 0]) hst hb Za
       (o_p rfl (Zc rfl rfl c_i) <| o_n) (by kernel_rfl) (fun a g hst hb => ?_)
     refine wp_ret ?_
     obtain rfl := Option.some.inj H0
     exact Zf5 rfl hst hb (Zl (s := 6)) (hst.at 2 rfl) ⟨Zcn (hst.at 0 rfl), Zcn (hst.at 1 rfl), trivial⟩
 · refine wp_block ?_
   refine wp_loop_ghost (fun n a w => ∃ (x1 : Int) (g : G), w = g.w ∧ St 75 [(0, (Zbl (some b0) Zf 0 a0)), (2, (Zbl (some b2) Zu 2 a2)), (7, (Zr.ptr ({ Score := a1.X, Name := a1.S } : Zh))), (8, (pInt .i64 x1))] a g ∧ Base g0 g ∧ Ze5 a0 a1 n x1 = some z8) (Int.toNat ((a0.List.length : Int) - (0 : Int)) + 1) ⟨(0 : Int), g, rfl, (hst.pick [0, 1, 2, 3] rfl), hb, hz1⟩ (fun n a w hI => ?_)
   obtain ⟨x1, g, rfl, hst, hb, H1⟩ := hI
   cases n with
   | zero => exact absurd H1 (by simp [Ze5])
   | succ n =>
     rw [Ze5] at H1
     refine wp_seq ?_
     obtain ⟨e2, h3, H1⟩ := Zk H1; obtain ⟨r4, h5, H1⟩ := Zk H1
     refine r_s (T := ⟨[.old 3], _, [], [], [15]⟩ :: ⟨[.old 0], _, [], [], [16]⟩ :: ⟨[.op 1 0], _, [], [1], [17]⟩ :: ⟨[.op 2 0], _, [], [1, 2], [18]⟩ :: ⟨[.op 3 0], _, [], [1, 2, 3], [19]⟩ :: ⟨[.op 4 0], _, [], List.range' 1 4, [20]⟩ :: ⟨[.op 0 0, .op 5 0], _, [], Lr 6, [21]⟩ :: ⟨[.op 6 0], _, [], Lr 7, [22]⟩ :: ⟨[.op 7 0, .old 0], _, [], Lr 8, [23]⟩ :: ⟨[.op 7 0, .op 8 0], _, [], Lr 9, [24]⟩ :: ⟨[.op 7 0, .op 9 0], _, [], Lr 10, [25]⟩ :: ⟨[.op 7 0, .op 10 0], _, [], Lr 11, [26]⟩ :: ⟨[.op 7 0, .old 3], _, [], Lr 8, [27]⟩ :: ⟨[.op 7 0, .op 11 0, .op 12 0], _, [], Lr 13, [28]⟩ :: ⟨[.op 7 0, .op 13 0], _, [], Lr 14, [29]⟩ :: ⟨[.op 7 0, .old 2], _, [], Lr 8, [30]⟩ :: ⟨[.op 7 0, .op 14 0, .op 15 0], _, [], Lr 16, [31]⟩ :: ⟨[.op 7 0, .op 16 0], _, [], Lr 17, [32]⟩ :: []) (F := [.old 0, .old 1, .old 2, .old 3, .op 17 0]) hst hb Za
       (o_p rfl (Zd rfl rfl u_0) <| o_p rfl (Zd rfl rfl u_0) <| o_p rfl (Zbc rfl rfl u_0 (fun _ _ ⟨_, _, _, e, _⟩ => ⟨_, e⟩)) <| o_p rfl (Zj Zbm (off := 7) (by kernel_rfl) rfl rfl u_0) <| o_p rfl (Z1 Zca rfl rfl u_0) <| o_p rfl (Zcd Tryd.underlying23 rfl rfl u_0) <| o_p rfl (Zcb rfl rfl u_0 u_1) <| o_p rfl (Zd rfl rfl u_0) <| o_g (g_t rfl rfl rfl (fun hG => Zd rfl rfl u_0)) <| o_g (g_t rfl rfl rfl (fun hG => Zbc rfl rfl (Opd.gd hG u_0) (fun _ _ ⟨_, _, _, e, _⟩ => ⟨_, e⟩))) <| o_g (g_t rfl rfl rfl (fun hG => Zj Zbm (off := 7) (by kernel_rfl) rfl rfl (Opd.gd hG u_0))) <| o_g (g_t rfl rfl rfl (fun hG => Z1 Zca rfl rfl (Opd.gd hG u_0))) <| o_g (g_t rfl rfl rfl (fun hG => Zd rfl rfl u_0)) <| o_g (g_t rfl rfl rfl (fun hG => Zbh Tryd.underlying23 Zdv rfl rfl (Opd.gd hG u_0) (Opd.gd hG u_1) (Zbn h3 hG))) <| o_g (g_t rfl rfl rfl (fun hG => Zg Zdh rfl rfl (Opd.gd hG u_0))) <| o_g (g_t rfl rfl rfl (fun hG => Zg Zdh rfl rfl u_0)) <| o_g (g_t rfl rfl rfl (fun hG => Zt Zvn (Zk3 _ _ (Zbn h5 hG)) rfl rfl (.cons (Opd.gd hG u_0) (.cons (Opd.gd hG u_1) .nil)))) <| o_p rfl (Zbb rfl rfl u_0 (fun hz => (Opd.gd hz u_1))) <| o_n) (by kernel_rfl) (fun a g hst hb => ?_)
     refine wp_cond_split (hst.bool 4 rfl) (fun hc6 => ?_) (fun hc6 => ?_)
     · replace H1 := Zp hc6 H1
       refine wp_skip ?_
       refine Zq ?_
       refine wp_block ?_
       refine r_g (L := [(0, _), (2, _), (7, _), (8, _)]) (T := [⟨[.old 3], _, [], [], [33]⟩, ⟨[.op 0 0], _, [], [0], [34]⟩, ⟨[.op 1 0], _, [], [0, 1], [8]⟩]) (F := [.old 0, .old 1, .old 2, .op 2 0]) (hst.pick [0, 1, 2, 3] rfl) hb Za
         (o_p rfl (Zd rfl rfl u_0) <| o_p rfl (Zcg rfl rfl u_0 c_i rfl) <| o_p rfl (Zc rfl rfl u_0) <| o_n) (by kernel_rfl) (fun a g hst hb => ?_)
       refine Z6 ?_
       exact ⟨n, Nat.lt_succ_self _, (IntKind.i64.wrap (x1 + (1 : Int))), g, rfl, (hst.pick [0, 1, 2, 3] rfl), hb, H1⟩
     · replace H1 := Zo hc6 H1
       refine wp_exit ?_
       refine Zcf ?_
       refine Zcf ?_
       refine Zc1 ?_
       exact ⟨x1, g, rfl, (hst.pick [0, 1, 2, 3] rfl), hb, Option.some.inj H1⟩
def Phi (k : Int) (f : FuncId) (C : List Pd) : Prop := ∀ (x0 x1 : Zb) (a : Zs) (y0 y1 : Zi) (c : Int), Zbu k x0 a y0 = some (c, x1, y1) → FnB Tryd.prog f ([.box Zf x0 x1, .val (Zw.pd a), .box Zu y0 y1] ++ C.map .val) (pInt .i64 c)
theorem Z08 {k : Int} {x0 : Zb} {a : Zs} {y0 : Zi} {r : Int × Zb × Zi} (h : Zbu k x0 a y0 = some r) : ∀ f C, Phi k f C → FnB Tryd.prog f ([.box Zf x0 r.2.1, .val (Zw.pd a), .box Zu y0 r.2.2] ++ C.map .val) (pInt .i64 r.1) := fun f C hΦ => hΦ _ _ _ _ _ _ h
def tabT : TabT := fun k => if 5 ≤ k ∧ k ≤ 21 then some (Phi k) else none
theorem Z2a {i : Int} (h : 5 ≤ i ∧ i ≤ 21) : tabT i.toNat = some (Phi i) := by
 unfold tabT
 rw [if_pos (by omega), show ((i.toNat : Nat) : Int) = i by omega]
theorem Z3g : Phi 5 82 [] := fun x0 x1 a y0 y1 c h => Zo5 x0 a y0 (r := (c, x1, y1)) (by simpa [Zbu] using h)
theorem Z3z : Phi 6 83 [] := fun x0 x1 a y0 y1 c h => Zow x0 a y0 (r := (c, x1, y1)) (by simpa [Zbu] using h)
theorem Z3c : Phi 7 84 [] := fun x0 x1 a y0 y1 c h => Zo1 x0 a y0 (r := (c, x1, y1)) (by simpa [Zbu] using h)
theorem Z20 : Phi 8 85 [] := fun x0 x1 a y0 y1 c h => Zsj x0 a y0 (r := (c, x1, y1)) (by simpa [Zbu] using h)
theorem Z21 : Phi 9 86 [] := fun x0 x1 a y0 y1 c h => Zl0 x0 a y0 (r := (c, x1, y1)) (by simpa [Zbu] using h)
theorem Z2r : Phi 10 87 [] := fun x0 x1 a y0 y1 c h => Zoy x0 a y0 (r := (c, x1, y1)) (by simpa [Zbu] using h)
theorem Z2f : Phi 11 88 [] := fun x0 x1 a y0 y1 c h => Zoz x0 a y0 (r := (c, x1, y1)) (by simpa [Zbu] using h)
theorem Z2b : Phi 12 86 [] := fun x0 x1 a y0 y1 c h => Zl0 x0 a y0 (r := (c, x1, y1)) (by simpa [Zbu] using h)
theorem Z2s : Phi 13 106 [(Kd.fnc.ptr 38)] := fun x0 x1 a y0 y1 c h => by
 have h' : Zel (fun x y => Zh2 x y) x0 a y0 = some (c, x1, y1) := by simpa [Zbu] using h
 obtain ⟨z, hz, h2⟩ := Zk h'
 injection h2 with h2
 simp only [Prod.mk.injEq] at h2
 obtain ⟨rfl, rfl, rfl⟩ := h2
 exact Zhx 38 Zyu (fun x y => Zh2 x y) (fun x y z h => Zpw x y h) x0 a y0 hz
theorem Z13 : Phi 14 106 [(Kd.fnc.ptr 39)] := fun x0 x1 a y0 y1 c h => by
 have h' : Zel (fun x y => Zhr x y) x0 a y0 = some (c, x1, y1) := by simpa [Zbu] using h
 obtain ⟨z, hz, h2⟩ := Zk h'
 injection h2 with h2
 simp only [Prod.mk.injEq] at h2
 obtain ⟨rfl, rfl, rfl⟩ := h2
 exact Zhx 39 Zzb (fun x y => Zhr x y) (fun x y z h => Zp2 x y h) x0 a y0 hz
theorem Z1w : Phi 15 106 [(Kd.fnc.ptr 90)] := fun x0 x1 a y0 y1 c h => by
 have h' : Zel (fun x y => Ziz x y) x0 a y0 = some (c, x1, y1) := by simpa [Zbu] using h
 obtain ⟨z, hz, h2⟩ := Zk h'
 injection h2 with h2
 simp only [Prod.mk.injEq] at h2
 obtain ⟨rfl, rfl, rfl⟩ := h2
 exact Zhx 90 Z32 (fun x y => Ziz x y) (fun x y z h => Ztq x y h) x0 a y0 hz
theorem Z14 : Phi 16 106 [(Kd.fnc.ptr 91)] := fun x0 x1 a y0 y1 c h => by
 have h' : Zel (fun x y => Zh7 x y) x0 a y0 = some (c, x1, y1) := by simpa [Zbu] using h
 obtain ⟨z, hz, h2⟩ := Zk h'
 injection h2 with h2
 simp only [Prod.mk.injEq] at h2
 obtain ⟨rfl, rfl, rfl⟩ := h2
 exact Zhx 91 Z26 (fun x y => Zh7 x y) (fun x y z h => Zsy x y h) x0 a y0 hz
theorem Z1v : Phi 17 106 [(Kd.fnc.ptr 92)] := fun x0 x1 a y0 y1 c h => by
 have h' : Zel (fun x y => Zgk x y) x0 a y0 = some (c, x1, y1) := by simpa [Zbu] using h
 obtain ⟨z, hz, h2⟩ := Zk h'
 injection h2 with h2
 simp only [Prod.mk.injEq] at h2
 obtain ⟨rfl, rfl, rfl⟩ := h2
 exact Zhx 92 Z3t (fun x y => Zgk x y) (fun x y z h => Zo0 x y h) x0 a y0 hz
theorem Z1y : Phi 18 93 [] := fun x0 x1 a y0 y1 c h => Zsq x0 a y0 (r := (c, x1, y1)) (by simpa [Zbu] using h)
theorem Z1q : Phi 19 94 [] := fun x0 x1 a y0 y1 c h => Zo2 x0 a y0 (r := (c, x1, y1)) (by simpa [Zbu] using h)
theorem Z2v : Phi 20 97 [] := fun x0 x1 a y0 y1 c h => Zo3 x0 a y0 (r := (c, x1, y1)) (by simpa [Zbu] using h)
theorem Z15 : Phi 21 98 [] := fun x0 x1 a y0 y1 c h => Zrq x0 a y0 (r := (c, x1, y1)) (by simpa [Zbu] using h)
theorem Ztn {N d : Nat} {o : Oper} {uses : Z8} (hop : o.op = .build 116 #[(5, .func 82), (6, .func 83), (7, .func 84), (8, .func 85), (9, .func 86), (12, .func 86), (10, .func 87), (11, .func 88), (13, .tmp 1), (14, .tmp 2), (15, .tmp 3), (16, .tmp 4), (17, .tmp 5), (18, .func 93), (19, .func 94), (20, .func 97), (21, .func 98)]) (hd : o.dst = some d) (h1 : Opd uses (.tmp 1) (pClo 106 [(Kd.fnc.ptr 38)] rfl)) (h2 : Opd uses (.tmp 2) (pClo 106 [(Kd.fnc.ptr 39)] rfl)) (h3 : Opd uses (.tmp 3) (pClo 106 [(Kd.fnc.ptr 90)] rfl)) (h4 : Opd uses (.tmp 4) (pClo 106 [(Kd.fnc.ptr 91)] rfl)) (h5 : Opd uses (.tmp 5) (pClo 106 [(Kd.fnc.ptr 92)] rfl)) : OB Tryd.prog N o uses [(d, ((Kd.tab Tryd.prog 22 (by decide)).pd tabT))] [] :=
 Zb8 hd fun a g hh => by
   obtain ⟨c1, e1, k1⟩ := h1 a g hh
   obtain ⟨c2, e2, k2⟩ := h2 a g hh
   obtain ⟨c3, e3, k3⟩ := h3 a g hh
   obtain ⟨c4, e4, k4⟩ := h4 a g hh
   obtain ⟨c5, e5, k5⟩ := h5 a g hh
   refine ⟨.agg #[.nilFunc, .nilFunc, .nilFunc, .nilFunc, .nilFunc, .func (.func 82) #[] #[], .func (.func 83) #[] #[], .func (.func 84) #[] #[], .func (.func 85) #[] #[], .func (.func 86) #[] #[], .func (.func 87) #[] #[], .func (.func 88) #[] #[], .func (.func 86) #[] #[], .func (.func 106) #[] c1.toArray, .func (.func 106) #[] c2.toArray, .func (.func 106) #[] c3.toArray, .func (.func 106) #[] c4.toArray, .func (.func 106) #[] c5.toArray, .func (.func 93) #[] #[], .func (.func 94) #[] #[], .func (.func 97) #[] #[], .func (.func 98) #[] #[]], ?_, [.nilFunc, .nilFunc, .nilFunc, .nilFunc, .nilFunc, .func (.func 82) #[] #[], .func (.func 83) #[] #[], .func (.func 84) #[] #[], .func (.func 85) #[] #[], .func (.func 86) #[] #[], .func (.func 87) #[] #[], .func (.func 88) #[] #[], .func (.func 86) #[] #[], .func (.func 106) #[] c1.toArray, .func (.func 106) #[] c2.toArray, .func (.func 106) #[] c3.toArray, .func (.func 106) #[] c4.toArray, .func (.func 106) #[] c5.toArray, .func (.func 93) #[] #[], .func (.func 94) #[] #[], .func (.func 97) #[] #[], .func (.func 98) #[] #[]], ⟨rfl, ?_, ?_⟩, rfl⟩
   · simp only [execOp, hop, Sem.run_bind, Sem.run_pure, Result.andThen_ok, List.map_toArray, List.map_cons, List.map_nil, e1, e2, e3, e4, e5]
     rw [Zta Tryd.underlying116 (zero := .agg #[.nilFunc, .nilFunc, .nilFunc, .nilFunc, .nilFunc, .nilFunc, .nilFunc, .nilFunc, .nilFunc, .nilFunc, .nilFunc, .nilFunc, .nilFunc, .nilFunc, .nilFunc, .nilFunc, .nilFunc, .nilFunc, .nilFunc, .nilFunc, .nilFunc, .nilFunc]) (by kernel_rfl) (by kernel_rfl) (cells := #[.nilFunc, .nilFunc, .nilFunc, .nilFunc, .nilFunc, .func (.func 82) #[] #[], .func (.func 83) #[] #[], .func (.func 84) #[] #[], .func (.func 85) #[] #[], .func (.func 86) #[] #[], .func (.func 87) #[] #[], .func (.func 88) #[] #[], .func (.func 86) #[] #[], .func (.func 106) #[] c1.toArray, .func (.func 106) #[] c2.toArray, .func (.func 106) #[] c3.toArray, .func (.func 106) #[] c4.toArray, .func (.func 106) #[] c5.toArray, .func (.func 93) #[] #[], .func (.func 94) #[] #[], .func (.func 97) #[] #[], .func (.func 98) #[] #[]]) (by kernel_rfl) g.w]
     rfl
   · intro u hu
     simp only [List.mem_cons, List.not_mem_nil, or_false] at hu
     rcases hu with rfl | rfl | rfl | rfl | rfl | rfl | rfl | rfl | rfl | rfl | rfl | rfl | rfl | rfl | rfl | rfl | rfl | rfl | rfl | rfl | rfl | rfl <;> rfl
   · intro k F u hF hu
     unfold tabT at hF
     split at hF
     · rename_i hk
       obtain rfl := Option.some.inj hF
       obtain ⟨hk1, hk2⟩ := hk
       have hk : k = 5 ∨ k = 6 ∨ k = 7 ∨ k = 8 ∨ k = 9 ∨ k = 10 ∨ k = 11 ∨ k = 12 ∨ k = 13 ∨ k = 14 ∨ k = 15 ∨ k = 16 ∨ k = 17 ∨ k = 18 ∨ k = 19 ∨ k = 20 ∨ k = 21 := by omega
       rcases hk with rfl | rfl | rfl | rfl | rfl | rfl | rfl | rfl | rfl | rfl | rfl | rfl | rfl | rfl | rfl | rfl | rfl
       · obtain rfl := Option.some.inj hu; exact ⟨82, [], [], rfl, Z2x, rfl, Z3g, Zdn, fun q hq => by cases hq⟩
       · obtain rfl := Option.some.inj hu; exact ⟨83, [], [], rfl, Z3w, rfl, Z3z, Zdn, fun q hq => by cases hq⟩
       · obtain rfl := Option.some.inj hu; exact ⟨84, [], [], rfl, Z2y, rfl, Z3c, Zdn, fun q hq => by cases hq⟩
       · obtain rfl := Option.some.inj hu; exact ⟨85, [], [], rfl, Z4d, rfl, Z20, Zdn, fun q hq => by cases hq⟩
       · obtain rfl := Option.some.inj hu; exact ⟨86, [], [], rfl, Zzl, rfl, Z21, Zdn, fun q hq => by cases hq⟩
       · obtain rfl := Option.some.inj hu; exact ⟨87, [], [], rfl, Z37, rfl, Z2r, Zdn, fun q hq => by cases hq⟩
       · obtain rfl := Option.some.inj hu; exact ⟨88, [], [], rfl, Z3y, rfl, Z2f, Zdn, fun q hq => by cases hq⟩
       · obtain rfl := Option.some.inj hu; exact ⟨86, [], [], rfl, Zzl, rfl, Z2b, Zdn, fun q hq => by cases hq⟩
       · obtain rfl := Option.some.inj hu; exact ⟨106, _, c1, rfl, Znr, rfl, Z2s, k1, Zi1⟩
       · obtain rfl := Option.some.inj hu; exact ⟨106, _, c2, rfl, Znr, rfl, Z13, k2, Zi1⟩
       · obtain rfl := Option.some.inj hu; exact ⟨106, _, c3, rfl, Znr, rfl, Z1w, k3, Zi1⟩
       · obtain rfl := Option.some.inj hu; exact ⟨106, _, c4, rfl, Znr, rfl, Z14, k4, Zi1⟩
       · obtain rfl := Option.some.inj hu; exact ⟨106, _, c5, rfl, Znr, rfl, Z1v, k5, Zi1⟩
       · obtain rfl := Option.some.inj hu; exact ⟨93, [], [], rfl, Z3f, rfl, Z1y, Zdn, fun q hq => by cases hq⟩
       · obtain rfl := Option.some.inj hu; exact ⟨94, [], [], rfl, Z3u, rfl, Z1q, Zdn, fun q hq => by cases hq⟩
       · obtain rfl := Option.some.inj hu; exact ⟨97, [], [], rfl, Z4b, rfl, Z2v, Zdn, fun q hq => by cases hq⟩
       · obtain rfl := Option.some.inj hu; exact ⟨98, [], [], rfl, Z3i, rfl, Z15, Zdn, fun q hq => by cases hq⟩
     · cases hF
theorem Zw7 : Ty Tryd.prog 116 (Kd.tab Tryd.prog 22 (by decide)) := ⟨by kernel_rfl, by kernel_rfl⟩
theorem Zpy : FnOk Tryd.prog 68 [] (pTab Tryd.prog 22 tabT) := by
 refine Zbq (N := 7) Tryd.func68 rfl rfl (Nat.le_of_ble_eq_true rfl) rfl rfl (fun a g0 hst hb => ?_)
 refine r_s (T := [⟨[], [(0, (pBox (Kd.tab Tryd.prog 22 (by decide)) 0 (fun _ => none)))], [1], [], [0]⟩]) (F := [.op 0 0]) hst hb Za
   (o_p rfl (Zbi (zs := [.nilFunc, .nilFunc, .nilFunc, .nilFunc, .nilFunc, .nilFunc, .nilFunc, .nilFunc, .nilFunc, .nilFunc, .nilFunc, .nilFunc, .nilFunc, .nilFunc, .nilFunc, .nilFunc, .nilFunc, .nilFunc, .nilFunc, .nilFunc, .nilFunc, .nilFunc]) (by kernel_rfl) (fun g => ⟨rfl, by decide, fun k F u h => by cases h⟩) rfl rfl) <| o_n) (by kernel_rfl) (fun a g hst hb => ?_)
 refine r_s (T := [⟨[], _, [], [], [1]⟩, ⟨[], _, [], [0], [2]⟩, ⟨[], _, [], [0, 1], [3]⟩, ⟨[], _, [], [0, 1, 2], [4]⟩, ⟨[], _, [], [0, 1, 2, 3], [5]⟩, ⟨[.op 0 0, .op 1 0, .op 2 0, .op 3 0, .op 4 0], _, [], [0, 1, 2, 3, 4], [6]⟩, ⟨[.op 5 0, .old 0], [(0, (pBox (Kd.tab Tryd.prog 22 (by decide)) 0 tabT))], [1], [0, 1, 2, 3, 4, 5], [0]⟩]) (F := [.op 6 0]) hst hb Za
   (o_p rfl (Zt Zqe (Zi0 38) rfl rfl (.cons Opd.fncv .nil)) <| o_p rfl (Zt Zqe (Zi0 39) rfl rfl (.cons Opd.fncv .nil)) <| o_p rfl (Zt Zqe (Zi0 90) rfl rfl (.cons Opd.fncv .nil)) <| o_p rfl (Zt Zqe (Zi0 91) rfl rfl (.cons Opd.fncv .nil)) <| o_p rfl (Zt Zqe (Zi0 92) rfl rfl (.cons Opd.fncv .nil)) <| o_p rfl (Ztn rfl rfl u_0 u_1 u_2 u_3 u_4) <| o_p rfl (Z5 Zw7 rfl rfl u_1 u_0) <| o_n) (by kernel_rfl) (fun a g hst hb => ?_)
 refine wp_ret ?_
 obtain ⟨u0, hu0, hq0⟩ := Zbe (P := Tryd.prog) Zw7 (hst.at 0 rfl)
 exact Zx rfl hst hb hu0 (Zxz hq0)
end Go.CL
