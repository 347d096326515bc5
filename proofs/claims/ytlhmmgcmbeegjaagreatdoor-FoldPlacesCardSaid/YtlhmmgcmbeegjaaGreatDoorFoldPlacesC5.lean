/- A part of the proof of FoldPlaces. -/
import Derived.Test.YtlhmmgcmbeegjaaGreatDoorFoldPlacesC4
import Derived.Defers
import Derived.Recover
set_option linter.unusedVariables false
set_option linter.unusedSimpArgs false
set_option maxRecDepth 100000
namespace Go.CL
open Go Go.RowKit Go.Proofs
theorem Zp4 (self : shelf_nodeT → ByteArray → Option (shelf_nodeT)) (hself : ∀ (a0 : shelf_nodeT) (a1 : ByteArray) {r : shelf_nodeT}, self a0 a1 = some r → FnOk Tryz.prog 53 [(Z4.pd a0), (pStr a1)] (Z4.pd r)) (a0 : shelf_nodeT) (a1 : ByteArray) {r : shelf_nodeT} (h : Zjf self a0 a1 = some r) : FnOk Tryz.prog 53 [(Z4.pd a0), (pStr a1)] (Z4.pd r) := by
 have H0 := h
 unfold Zjf at H0
 clear h
 refine Zbr (N := 108) Tryz.func53 rfl rfl (Nat.le_of_ble_eq_true rfl) rfl rfl (fun a g0 hst hb => ?_)
 refine r_s (T := [⟨[], [(4, (Z4.pd shelf_nodeT.nil))], [], [], [4]⟩]) (F := [.old 0, .old 1]) hst hb Zb
   (o_p rfl (Zc rfl rfl (Opd.c (fun g => Zd1 g))) <| o_n) (by kernel_rfl) (fun a g hst hb => ?_)
 refine wp_seq ?_
 refine wp_block ?_
 refine r_s (T := [⟨[.old 0], _, [], [], [7]⟩, ⟨[.op 0 0], _, [], [0], [8]⟩, ⟨[.op 1 0], _, [], [0, 1], [6]⟩]) (F := [.old 0, .old 1, .op 2 0]) hst hb Zb
   (o_p rfl (Za rfl rfl u_0) <| o_p rfl (Zns Tryz.underlying28 rfl rfl u_0 (Zen _)) <| o_p rfl (Zc rfl rfl u_0) <| o_n) (by kernel_rfl) (fun a g hst hb => ?_)
 refine wp_cond_split (hst.bool 2 rfl) (fun hc1 => ?_) (fun hc1 => ?_)
 · replace H0 := Zy hc1 H0
   refine r_s (L := []) (T := [⟨[], [(4, (Z4.pd shelf_nodeT.nil))], [], [], [4]⟩]) (F := [.op 0 0]) (hst.pick [] rfl) hb Zb
     (o_p rfl (Zc rfl rfl (Opd.c (fun g => Zd1 g))) <| o_n) (by kernel_rfl) (fun a g hst hb => ?_)
   refine wp_ret ?_
   refine Zw ?_
   refine Zp ?_
   obtain rfl := Option.some.inj H0
   exact Zx rfl hst hb (Zk (s := 4)) (hst.at 0 rfl)
 · replace H0 := Zz hc1 H0
   obtain ⟨n2, h3, H0⟩ := Zg H0
   refine r_s (L := [(0, _), (1, _)]) (T := [⟨[.old 1], _, [], [], [10]⟩, ⟨[.old 0], _, [], [], [11]⟩, ⟨[.op 1 0], _, [], [1], [12]⟩, ⟨[.op 2 0], _, [], [1, 2], [13]⟩, ⟨[.op 3 0], _, [], [1, 2, 3], [14]⟩, ⟨[.op 0 0, .op 4 0], _, [], Lr 5, [15]⟩, ⟨[.op 5 0], _, [], Lr 6, [9]⟩]) (F := [.old 0, .old 1, .op 6 0]) (hst.pick [0, 1] rfl) hb Zb
     (o_p rfl (Za rfl rfl u_0) <| o_p rfl (Za rfl rfl u_0) <| o_p rfl (Zq rfl rfl (Opd.imp u_0 (fun _ _ h => Zr h3 h)) (fun _ _ ⟨_, _, _, e, _⟩ => ⟨_, e⟩)) <| o_p rfl (Ze Zef rfl rfl u_0) <| o_p rfl (Zf ty_9 rfl rfl u_0) <| o_p rfl (Zm2 rfl rfl u_0 u_1) <| o_p rfl (Zc rfl rfl u_0) <| o_n) (by kernel_rfl) (fun a g hst hb => ?_)
   refine wp_cond_split (hst.bool 2 rfl) (fun hc4 => ?_) (fun hc4 => ?_)
   · replace H0 := Zy hc4 H0
     obtain ⟨r5, h6, H0⟩ := Zg H0; obtain ⟨r7, h8, H0⟩ := Zg H0
     refine r_s (L := [(0, _), (1, _)]) (T := ⟨[.old 0], _, [], [], [16]⟩ :: ⟨[.op 0 0], _, [], [0], [17]⟩ :: ⟨[.op 1 0], _, [], [0, 1], [18]⟩ :: ⟨[.op 2 0], _, [], [0, 1, 2], [19]⟩ :: ⟨[.old 0], _, [], [], [20]⟩ :: ⟨[.op 4 0], _, [], [4], [21]⟩ :: ⟨[.op 5 0], _, [], [4, 5], [22]⟩ :: ⟨[.op 6 0], _, [], [4, 5, 6], [23]⟩ :: ⟨[.old 0], _, [], [], [24]⟩ :: ⟨[.op 8 0], _, [], [8], [25]⟩ :: ⟨[.op 9 0], _, [], [8, 9], [26]⟩ :: ⟨[.op 10 0], _, [], [8, 9, 10], [27]⟩ :: ⟨[.old 1], _, [], [], [28]⟩ :: ⟨[.op 11 0, .op 12 0], _, [], List.range' 8 5, [29]⟩ :: ⟨[.old 0], _, [], [], [30]⟩ :: ⟨[.op 14 0], _, [], [14], [31]⟩ :: ⟨[.op 15 0], _, [], [14, 15], [32]⟩ :: ⟨[.op 16 0], _, [], [14, 15, 16], [33]⟩ :: ⟨[.op 3 0, .op 7 0, .op 13 0, .op 17 0], _, [], Lr 18, [34]⟩ :: ⟨[.op 18 0], _, [], Lr 19, [4]⟩ :: []) (F := [.op 19 0]) (hst.pick [0, 1] rfl) hb Zb
       (o_p rfl (Za rfl rfl u_0) <| o_p rfl (Zq rfl rfl (Opd.imp u_0 (fun _ _ h => Zr h3 h)) (fun _ _ ⟨_, _, _, e, _⟩ => ⟨_, e⟩)) <| o_p rfl (Ze Zef rfl rfl u_0) <| o_p rfl (Zf ty_9 rfl rfl u_0) <| o_p rfl (Za rfl rfl u_0) <| o_p rfl (Zq rfl rfl (Opd.imp u_0 (fun _ _ h => Zr h3 h)) (fun _ _ ⟨_, _, _, e, _⟩ => ⟨_, e⟩)) <| o_p rfl (Ze Zgp rfl rfl u_0) <| o_p rfl (Zf Zbn rfl rfl u_0) <| o_p rfl (Za rfl rfl u_0) <| o_p rfl (Zq rfl rfl (Opd.imp u_0 (fun _ _ h => Zr h3 h)) (fun _ _ ⟨_, _, _, e, _⟩ => ⟨_, e⟩)) <| o_p rfl (Ze Zdx rfl rfl u_0) <| o_p rfl (Zf Zcz rfl rfl u_0) <| o_p rfl (Za rfl rfl u_0) <| o_p rfl (Zo Zwy (hself _ _ h6) rfl rfl (.cons u_0 (.cons u_1 .nil))) <| o_p rfl (Za rfl rfl u_0) <| o_p rfl (Zq rfl rfl (Opd.imp u_0 (fun _ _ h => Zr h3 h)) (fun _ _ ⟨_, _, _, e, _⟩ => ⟨_, e⟩)) <| o_p rfl (Ze Zeg rfl rfl u_0) <| o_p rfl (Zf Zcz rfl rfl u_0) <| o_p rfl (Zo Ztn (Zji _ _ _ _ h8) rfl rfl (.cons u_0 (.cons u_1 (.cons u_2 (.cons u_3 .nil))))) <| o_p rfl (Zc rfl rfl u_0) <| o_n) (by kernel_rfl) (fun a g hst hb => ?_)
     refine wp_ret ?_
     refine Zw ?_
     refine Zp ?_
     obtain rfl := Option.some.inj H0
     exact Zx rfl hst hb (Zk (s := 4)) (hst.at 0 rfl)
   · replace H0 := Zz hc4 H0
     refine r_s (L := [(0, _), (1, _)]) (T := [⟨[.old 1], _, [], [], [36]⟩, ⟨[.old 0], _, [], [], [37]⟩, ⟨[.op 1 0], _, [], [1], [38]⟩, ⟨[.op 2 0], _, [], [1, 2], [39]⟩, ⟨[.op 3 0], _, [], [1, 2, 3], [40]⟩, ⟨[.op 0 0, .op 4 0], _, [], Lr 5, [41]⟩, ⟨[.op 5 0], _, [], Lr 6, [35]⟩]) (F := [.old 0, .old 1, .op 6 0]) (hst.pick [0, 1] rfl) hb Zb
       (o_p rfl (Za rfl rfl u_0) <| o_p rfl (Za rfl rfl u_0) <| o_p rfl (Zq rfl rfl (Opd.imp u_0 (fun _ _ h => Zr h3 h)) (fun _ _ ⟨_, _, _, e, _⟩ => ⟨_, e⟩)) <| o_p rfl (Ze Zef rfl rfl u_0) <| o_p rfl (Zf ty_9 rfl rfl u_0) <| o_p rfl (Ztg rfl rfl u_0 u_1) <| o_p rfl (Zc rfl rfl u_0) <| o_n) (by kernel_rfl) (fun a g hst hb => ?_)
     refine wp_cond_split (hst.bool 2 rfl) (fun hc9 => ?_) (fun hc9 => ?_)
     · replace H0 := Zy hc9 H0
       obtain ⟨r10, h11, H0⟩ := Zg H0; obtain ⟨r12, h13, H0⟩ := Zg H0
       refine r_s (L := [(0, _), (1, _)]) (T := ⟨[.old 0], _, [], [], [42]⟩ :: ⟨[.op 0 0], _, [], [0], [43]⟩ :: ⟨[.op 1 0], _, [], [0, 1], [44]⟩ :: ⟨[.op 2 0], _, [], [0, 1, 2], [45]⟩ :: ⟨[.old 0], _, [], [], [46]⟩ :: ⟨[.op 4 0], _, [], [4], [47]⟩ :: ⟨[.op 5 0], _, [], [4, 5], [48]⟩ :: ⟨[.op 6 0], _, [], [4, 5, 6], [49]⟩ :: ⟨[.old 0], _, [], [], [50]⟩ :: ⟨[.op 8 0], _, [], [8], [51]⟩ :: ⟨[.op 9 0], _, [], [8, 9], [52]⟩ :: ⟨[.op 10 0], _, [], [8, 9, 10], [53]⟩ :: ⟨[.old 0], _, [], [], [54]⟩ :: ⟨[.op 12 0], _, [], [12], [55]⟩ :: ⟨[.op 13 0], _, [], [12, 13], [56]⟩ :: ⟨[.op 14 0], _, [], [12, 13, 14], [57]⟩ :: ⟨[.old 1], _, [], [], [58]⟩ :: ⟨[.op 15 0, .op 16 0], _, [], List.range' 12 5, [59]⟩ :: ⟨[.op 3 0, .op 7 0, .op 11 0, .op 17 0], _, [], Lr 18, [60]⟩ :: ⟨[.op 18 0], _, [], Lr 19, [4]⟩ :: []) (F := [.op 19 0]) (hst.pick [0, 1] rfl) hb Zb
         (o_p rfl (Za rfl rfl u_0) <| o_p rfl (Zq rfl rfl (Opd.imp u_0 (fun _ _ h => Zr h3 h)) (fun _ _ ⟨_, _, _, e, _⟩ => ⟨_, e⟩)) <| o_p rfl (Ze Zef rfl rfl u_0) <| o_p rfl (Zf ty_9 rfl rfl u_0) <| o_p rfl (Za rfl rfl u_0) <| o_p rfl (Zq rfl rfl (Opd.imp u_0 (fun _ _ h => Zr h3 h)) (fun _ _ ⟨_, _, _, e, _⟩ => ⟨_, e⟩)) <| o_p rfl (Ze Zgp rfl rfl u_0) <| o_p rfl (Zf Zbn rfl rfl u_0) <| o_p rfl (Za rfl rfl u_0) <| o_p rfl (Zq rfl rfl (Opd.imp u_0 (fun _ _ h => Zr h3 h)) (fun _ _ ⟨_, _, _, e, _⟩ => ⟨_, e⟩)) <| o_p rfl (Ze Zdx rfl rfl u_0) <| o_p rfl (Zf Zcz rfl rfl u_0) <| o_p rfl (Za rfl rfl u_0) <| o_p rfl (Zq rfl rfl (Opd.imp u_0 (fun _ _ h => Zr h3 h)) (fun _ _ ⟨_, _, _, e, _⟩ => ⟨_, e⟩)) <| o_p rfl (Ze Zeg rfl rfl u_0) <| o_p rfl (Zf Zcz rfl rfl u_0) <| o_p rfl (Za rfl rfl u_0) <| o_p rfl (Zo Zwy (hself _ _ h11) rfl rfl (.cons u_0 (.cons u_1 .nil))) <| o_p rfl (Zo Ztn (Zji _ _ _ _ h13) rfl rfl (.cons u_0 (.cons u_1 (.cons u_2 (.cons u_3 .nil))))) <| o_p rfl (Zc rfl rfl u_0) <| o_n) (by kernel_rfl) (fun a g hst hb => ?_)
       refine wp_ret ?_
       refine Zw ?_
       refine Zp ?_
       obtain rfl := Option.some.inj H0
       exact Zx rfl hst hb (Zk (s := 4)) (hst.at 0 rfl)
     · replace H0 := Zz hc9 H0
       refine r_s (L := [(0, _)]) (T := [⟨[.old 0], _, [], [], [62]⟩, ⟨[.op 0 0], _, [], [0], [63]⟩, ⟨[.op 1 0], _, [], [0, 1], [64]⟩, ⟨[.op 2 0], _, [], [0, 1, 2], [65]⟩, ⟨[.op 3 0], _, [], Lr 4, [66]⟩, ⟨[.op 4 0], _, [], Lr 5, [61]⟩]) (F := [.old 0, .op 5 0]) (hst.pick [0] rfl) hb Zb
         (o_p rfl (Za rfl rfl u_0) <| o_p rfl (Zq rfl rfl (Opd.imp u_0 (fun _ _ h => Zr h3 h)) (fun _ _ ⟨_, _, _, e, _⟩ => ⟨_, e⟩)) <| o_p rfl (Ze Zdx rfl rfl u_0) <| o_p rfl (Zf Zcz rfl rfl u_0) <| o_p rfl (Zns Tryz.underlying28 rfl rfl u_0 (Zen _)) <| o_p rfl (Zc rfl rfl u_0) <| o_n) (by kernel_rfl) (fun a g hst hb => ?_)
       refine wp_cond_split (hst.bool 1 rfl) (fun hc14 => ?_) (fun hc14 => ?_)
       · replace H0 := Zy hc14 H0
         refine r_s (L := [(0, _)]) (T := [⟨[.old 0], _, [], [], [67]⟩, ⟨[.op 0 0], _, [], [0], [68]⟩, ⟨[.op 1 0], _, [], [0, 1], [69]⟩, ⟨[.op 2 0], _, [], [0, 1, 2], [70]⟩, ⟨[.op 3 0], _, [], Lr 4, [4]⟩]) (F := [.op 4 0]) (hst.pick [0] rfl) hb Zb
           (o_p rfl (Za rfl rfl u_0) <| o_p rfl (Zq rfl rfl (Opd.imp u_0 (fun _ _ h => Zr h3 h)) (fun _ _ ⟨_, _, _, e, _⟩ => ⟨_, e⟩)) <| o_p rfl (Ze Zeg rfl rfl u_0) <| o_p rfl (Zf Zcz rfl rfl u_0) <| o_p rfl (Zc rfl rfl u_0) <| o_n) (by kernel_rfl) (fun a g hst hb => ?_)
         refine wp_ret ?_
         refine Zw ?_
         refine Zp ?_
         obtain rfl := Option.some.inj H0
         exact Zx rfl hst hb (Zk (s := 4)) (hst.at 0 rfl)
       · replace H0 := Zz hc14 H0
         refine r_s (L := [(0, _)]) (T := [⟨[.old 0], _, [], [], [72]⟩, ⟨[.op 0 0], _, [], [0], [73]⟩, ⟨[.op 1 0], _, [], [0, 1], [74]⟩, ⟨[.op 2 0], _, [], [0, 1, 2], [75]⟩, ⟨[.op 3 0], _, [], Lr 4, [76]⟩, ⟨[.op 4 0], _, [], Lr 5, [71]⟩]) (F := [.old 0, .op 5 0]) (hst.pick [0] rfl) hb Zb
           (o_p rfl (Za rfl rfl u_0) <| o_p rfl (Zq rfl rfl (Opd.imp u_0 (fun _ _ h => Zr h3 h)) (fun _ _ ⟨_, _, _, e, _⟩ => ⟨_, e⟩)) <| o_p rfl (Ze Zeg rfl rfl u_0) <| o_p rfl (Zf Zcz rfl rfl u_0) <| o_p rfl (Zns Tryz.underlying28 rfl rfl u_0 (Zen _)) <| o_p rfl (Zc rfl rfl u_0) <| o_n) (by kernel_rfl) (fun a g hst hb => ?_)
         refine wp_cond_split (hst.bool 1 rfl) (fun hc15 => ?_) (fun hc15 => ?_)
         · replace H0 := Zy hc15 H0
           refine r_s (L := [(0, _)]) (T := [⟨[.old 0], _, [], [], [77]⟩, ⟨[.op 0 0], _, [], [0], [78]⟩, ⟨[.op 1 0], _, [], [0, 1], [79]⟩, ⟨[.op 2 0], _, [], [0, 1, 2], [80]⟩, ⟨[.op 3 0], _, [], Lr 4, [4]⟩]) (F := [.op 4 0]) (hst.pick [0] rfl) hb Zb
             (o_p rfl (Za rfl rfl u_0) <| o_p rfl (Zq rfl rfl (Opd.imp u_0 (fun _ _ h => Zr h3 h)) (fun _ _ ⟨_, _, _, e, _⟩ => ⟨_, e⟩)) <| o_p rfl (Ze Zdx rfl rfl u_0) <| o_p rfl (Zf Zcz rfl rfl u_0) <| o_p rfl (Zc rfl rfl u_0) <| o_n) (by kernel_rfl) (fun a g hst hb => ?_)
           refine wp_ret ?_
           refine Zw ?_
           refine Zp ?_
           obtain rfl := Option.some.inj H0
           exact Zx rfl hst hb (Zk (s := 4)) (hst.at 0 rfl)
         · replace H0 := Zz hc15 H0
           refine wp_skip ?_
           refine Zbu ?_
           refine Zv ?_
           obtain ⟨r16, h17, H0⟩ := Zg H0
           refine r_s (L := [(0, _)]) (T := [⟨[.old 0], _, [], [], [81]⟩, ⟨[.op 0 0], _, [], [0], [82]⟩, ⟨[.op 1 0], _, [], [0, 1], [83]⟩, ⟨[.op 2 0], _, [], [0, 1, 2], [84]⟩, ⟨[.op 3 0], _, [], Lr 4, [85]⟩, ⟨[.op 4 0], _, [], Lr 5, [5]⟩]) (F := [.old 0, .op 5 0]) (hst.pick [0] rfl) hb Zb
             (o_p rfl (Za rfl rfl u_0) <| o_p rfl (Zq rfl rfl (Opd.imp u_0 (fun _ _ h => Zr h3 h)) (fun _ _ ⟨_, _, _, e, _⟩ => ⟨_, e⟩)) <| o_p rfl (Ze Zeg rfl rfl u_0) <| o_p rfl (Zf Zcz rfl rfl u_0) <| o_p rfl (Zo Z93 (Zp9 _ h17) rfl rfl (.cons u_0 .nil)) <| o_p rfl (Zc rfl rfl u_0) <| o_n) (by kernel_rfl) (fun a g hst hb => ?_)
           obtain ⟨n18, h19, H0⟩ := Zg H0; obtain ⟨r20, h21, H0⟩ := Zg H0; obtain ⟨r22, h23, H0⟩ := Zg H0
           refine r_s (T := ⟨[.old 1], _, [], [], [86]⟩ :: ⟨[.op 0 0], _, [], [0], [87]⟩ :: ⟨[.op 1 0], _, [], [0, 1], [88]⟩ :: ⟨[.op 2 0], _, [], [0, 1, 2], [89]⟩ :: ⟨[.old 1], _, [], [], [90]⟩ :: ⟨[.op 4 0], _, [], [4], [91]⟩ :: ⟨[.op 5 0], _, [], [4, 5], [92]⟩ :: ⟨[.op 6 0], _, [], [4, 5, 6], [93]⟩ :: ⟨[.old 0], _, [], [], [94]⟩ :: ⟨[.op 8 0], _, [], [8], [95]⟩ :: ⟨[.op 9 0], _, [], [8, 9], [96]⟩ :: ⟨[.op 10 0], _, [], [8, 9, 10], [97]⟩ :: ⟨[.old 0], _, [], [], [98]⟩ :: ⟨[.op 12 0], _, [], [12], [99]⟩ :: ⟨[.op 13 0], _, [], [12, 13], [100]⟩ :: ⟨[.op 14 0], _, [], [12, 13, 14], [101]⟩ :: ⟨[.old 1], _, [], [], [102]⟩ :: ⟨[.op 16 0], _, [], [16], [103]⟩ :: ⟨[.op 17 0], _, [], [16, 17], [104]⟩ :: ⟨[.op 18 0], _, [], [16, 17, 18], [105]⟩ :: ⟨[.op 15 0, .op 19 0], _, [], List.range' 12 8, [106]⟩ :: ⟨[.op 3 0, .op 7 0, .op 11 0, .op 20 0], _, [], Lr 21, [107]⟩ :: ⟨[.op 21 0], _, [], Lr 22, [4]⟩ :: []) (F := [.op 22 0]) hst hb Zb
             (o_p rfl (Za rfl rfl u_0) <| o_p rfl (Zq rfl rfl (Opd.imp u_0 (fun _ _ h => Zr h19 h)) (fun _ _ ⟨_, _, _, e, _⟩ => ⟨_, e⟩)) <| o_p rfl (Ze Zef rfl rfl u_0) <| o_p rfl (Zf ty_9 rfl rfl u_0) <| o_p rfl (Za rfl rfl u_0) <| o_p rfl (Zq rfl rfl (Opd.imp u_0 (fun _ _ h => Zr h19 h)) (fun _ _ ⟨_, _, _, e, _⟩ => ⟨_, e⟩)) <| o_p rfl (Ze Zgp rfl rfl u_0) <| o_p rfl (Zf Zbn rfl rfl u_0) <| o_p rfl (Za rfl rfl u_0) <| o_p rfl (Zq rfl rfl (Opd.imp u_0 (fun _ _ h => Zr h3 h)) (fun _ _ ⟨_, _, _, e, _⟩ => ⟨_, e⟩)) <| o_p rfl (Ze Zdx rfl rfl u_0) <| o_p rfl (Zf Zcz rfl rfl u_0) <| o_p rfl (Za rfl rfl u_0) <| o_p rfl (Zq rfl rfl (Opd.imp u_0 (fun _ _ h => Zr h3 h)) (fun _ _ ⟨_, _, _, e, _⟩ => ⟨_, e⟩)) <| o_p rfl (Ze Zeg rfl rfl u_0) <| o_p rfl (Zf Zcz rfl rfl u_0) <| o_p rfl (Za rfl rfl u_0) <| o_p rfl (Zq rfl rfl (Opd.imp u_0 (fun _ _ h => Zr h19 h)) (fun _ _ ⟨_, _, _, e, _⟩ => ⟨_, e⟩)) <| o_p rfl (Ze Zef rfl rfl u_0) <| o_p rfl (Zf ty_9 rfl rfl u_0) <| o_p rfl (Zo Zwy (hself _ _ h21) rfl rfl (.cons u_0 (.cons u_1 .nil))) <| o_p rfl (Zo Ztn (Zji _ _ _ _ h23) rfl rfl (.cons u_0 (.cons u_1 (.cons u_2 (.cons u_3 .nil))))) <| o_p rfl (Zc rfl rfl u_0) <| o_n) (by kernel_rfl) (fun a g hst hb => ?_)
           refine wp_ret ?_
           obtain rfl := Option.some.inj H0
           exact Zx rfl hst hb (Zk (s := 4)) (hst.at 0 rfl)
theorem Zl7 : ∀ (n : Nat) (a0 : shelf_nodeT) (a1 : ByteArray) {r : shelf_nodeT}, Zfi n a0 a1 = some r → FnOk Tryz.prog 53 [(Z4.pd a0), (pStr a1)] (Z4.pd r)
 | 0, _, _, _, h => by simp [Zfi] at h
 | n + 1, a0, a1, _, h => Zp4 (Zfi n) (fun a0 a1 r h => Zl7 n a0 a1 h) a0 a1 h
theorem Zrz (a0 : shelf_nodeT) (a1 : ByteArray) {r : shelf_nodeT} (h : Zmi a0 a1 = some r) : FnOk Tryz.prog 53 [(Z4.pd a0), (pStr a1)] (Z4.pd r) := Zl7 _ a0 a1 h
theorem Zqo (a0 : Zn) (a1 : ByteArray) {r : Zn × Bool} (h : Zeq a0 a1 = some r) : FnOk Tryz.prog 34 [(Z1.pd a0), (pStr a1)] (pTup [(Z1.pd r.1), (Zba r.2)]) := by
 have H0 := h
 unfold Zeq at H0
 clear h
 refine Zbr (N := 24) Tryz.func34 rfl rfl (Nat.le_of_ble_eq_true rfl) rfl rfl (fun a g0 hst hb => ?_)
 refine r_s (T := [⟨[.old 0], _, [], [], [2]⟩, ⟨[], [(4, (pBox Z1 4 (default : Zn)))], [5], [], [4]⟩, ⟨[], _, [], [], [5]⟩]) (F := [.old 1, .op 0 0, .op 1 0]) hst hb Zb
   (o_p rfl (Zbh rfl rfl u_0) <| o_p rfl (Zbg (zs := [.pointer none, .int .i64 0]) (by kernel_rfl) (fun g => Zcm g) rfl rfl) <| o_p rfl (Zc rfl rfl c_b) <| o_n) (by kernel_rfl) (fun a g hst hb => ?_)
 refine wp_seq ?_
 obtain ⟨r1, h2, H0⟩ := Zg H0
 refine r_s (T := [⟨[.old 1], _, [], [], [9]⟩, ⟨[.old 0], _, [], [], [10]⟩, ⟨[.op 0 0, .op 1 0], _, [], [0, 1], [11]⟩, ⟨[.op 2 0], _, [], [0, 1, 2], [8]⟩, ⟨[.op 3 0], _, [], Lr 4, [12]⟩, ⟨[.op 3 0], _, [], Lr 4, [13]⟩, ⟨[], [(6, (pBox Zj 6 (default : Zd)))], [7], [], [6]⟩, ⟨[.op 4 0, .op 6 0], _, [7], [0, 1, 2, 3, 4, 6], [6]⟩, ⟨[.op 5 0], _, [], Lr 8, [7]⟩]) (F := [.old 0, .old 1, .old 2, .op 8 0]) hst hb Zb
   (o_p rfl (Zf Zbs rfl rfl u_0) <| o_p rfl (Za rfl rfl u_0) <| o_p rfl (Zo Z03 (Zka _ _ h2) rfl rfl (.cons u_0 (.cons u_1 .nil))) <| o_p rfl (Za rfl rfl u_0) <| o_p rfl (Z5 rfl rfl u_0 rfl) <| o_p rfl (Z5 rfl rfl u_0 rfl) <| o_p rfl (Zbg (zs := [.int .i64 0, .int .i64 0, .int .i64 0, .int .i64 0, .float .f64 0, .int .i64 0, .string ByteArray.empty, .slice none 0 0]) (by kernel_rfl) (fun g => Zch g) rfl rfl) <| o_p rfl (Zb1 Zbn rfl rfl u_1 u_0) <| o_p rfl (Zc rfl rfl u_0) <| o_n) (by kernel_rfl) (fun a g hst hb => ?_)
 refine r_s (T := [⟨[.old 3], _, [], [], [14]⟩, ⟨[.op 0 0], _, [], [0], [15]⟩]) (F := [.old 0, .old 1, .old 2, .op 1 0]) hst hb Zb
   (o_p rfl (Za rfl rfl u_0) <| o_p rfl (Zcr rfl rfl u_0) <| o_n) (by kernel_rfl) (fun a g hst hb => ?_)
 refine wp_cond_split (hst.bool 3 rfl) (fun hc3 => ?_) (fun hc3 => ?_)
 · replace H0 := Zy hc3 H0
   refine r_s (L := [(2, _), (4, _)]) (T := [⟨[.old 0], _, [], [], [16]⟩, ⟨[.op 0 0, .old 1], _, [5], [0], [4]⟩, ⟨[], _, [], [0, 1], [5]⟩]) (F := [.op 1 0, .op 2 0]) (hst.pick [1, 2] rfl) hb Zb
     (o_p rfl (Zf Zbs rfl rfl u_0) <| o_p rfl (Z8 Zbs rfl rfl u_1 u_0) <| o_p rfl (Zc rfl rfl c_b) <| o_n) (by kernel_rfl) (fun a g hst hb => ?_)
   refine wp_ret ?_
   refine Zp ?_
   obtain rfl := Option.some.inj H0
   obtain ⟨u0, hu0, hq0⟩ := Zbo (P := Tryz.prog) Zbs (hst.at 0 rfl)
   exact Ze2 rfl hst hb hu0 (Zk (s := 5)) (Zdj hq0 (hst.at 1 rfl))
 · replace H0 := Zz hc3 H0
   refine wp_skip ?_
   refine Zv ?_
   obtain ⟨r4, h5, H0⟩ := Zg H0
   refine r_s (L := [(1, _), (2, _), (4, _)]) (T := [⟨[.old 1], _, [], [], [17]⟩, ⟨[.op 0 0], _, [], [0], [18]⟩, ⟨[.old 0], _, [], [], [19]⟩, ⟨[.op 1 0, .op 2 0], _, [], [0, 1, 2], [20]⟩, ⟨[.old 1], _, [], [], [21]⟩, ⟨[.op 4 0], _, [], [4], [22]⟩, ⟨[.op 3 0, .op 5 0], _, [], Lr 6, [23]⟩, ⟨[.op 6 0, .old 2], _, [5], Lr 7, [4]⟩, ⟨[], _, [], Lr 8, [5]⟩]) (F := [.op 7 0, .op 8 0]) (hst.pick [0, 1, 2] rfl) hb Zb
     (o_p rfl (Ze Zoy rfl rfl u_0) <| o_p rfl (Zf Zcz rfl rfl u_0) <| o_p rfl (Za rfl rfl u_0) <| o_p rfl (Zo Zwy (Zrz _ _ h5) rfl rfl (.cons u_0 (.cons u_1 .nil))) <| o_p rfl (Ze Zu9 rfl rfl u_0) <| o_p rfl (Zf ty_3 rfl rfl u_0) <| o_p rfl (Zv8 rfl rfl u_0 u_1) <| o_p rfl (Z8 Zbs rfl rfl u_1 u_0) <| o_p rfl (Zc rfl rfl c_b) <| o_n) (by kernel_rfl) (fun a g hst hb => ?_)
   refine wp_ret ?_
   obtain rfl := Option.some.inj H0
   obtain ⟨u0, hu0, hq0⟩ := Zbo (P := Tryz.prog) Zbs (hst.at 0 rfl)
   exact Ze2 rfl hst hb hu0 (Zk (s := 5)) (Zdj hq0 (hst.at 1 rfl))
theorem Zsa (a0 : Zn) (a1 : Zm) {r : Zn × Zh} (h : Zma a0 a1 = some r) : FnOk Tryz.prog 14 [(Z1.pd a0), (Z2.pd a1)] (pTup [(Z1.pd r.1), (Zt.pd r.2)]) := by
 have H0 := h
 unfold Zma at H0
 clear h
 refine Zbr (N := 66) Tryz.func14 rfl rfl (Nat.le_of_ble_eq_true rfl) rfl rfl (fun a g0 hst hb => ?_)
 refine r_s (T := [⟨[.old 0], _, [3], [], [2]⟩, ⟨[.old 1], _, [], [], [3]⟩, ⟨[], [(4, (pBox Z1 4 (default : Zn)))], [5], [], [4]⟩, ⟨[], [(5, (pBox Zt 5 (default : Zh)))], [6], [], [5]⟩]) (F := [.op 0 0, .op 1 0, .op 2 0, .op 3 0]) hst hb Zb
   (o_p rfl (Zrv rfl rfl u_0) <| o_p rfl (Zbh rfl rfl u_0) <| o_p rfl (Zbg (zs := [.pointer none, .int .i64 0]) (by kernel_rfl) (fun g => Zcm g) rfl rfl) <| o_p rfl (Zbg (zs := [.int .i64 0, .int .i64 0, .int .i64 0, .int .i64 0, .int .i64 0, .int .i64 0, .float .f64 0, .int .i64 0, .string ByteArray.empty, .slice none 0 0]) (by kernel_rfl) (fun g => Zej g) rfl rfl) <| o_n) (by kernel_rfl) (fun a g hst hb => ?_)
 obtain ⟨r1, h2, H0⟩ := Zg H0
 refine r_s (T := [⟨[.old 0], _, [], [], [14]⟩, ⟨[.old 1], _, [], [], [15]⟩, ⟨[.op 1 0], _, [], [1], [16]⟩, ⟨[.op 0 0, .op 2 0], _, [], [0, 1, 2], [17]⟩, ⟨[.op 3 0], _, [], Lr 4, [13]⟩, ⟨[.op 4 0], _, [], Lr 5, [18]⟩, ⟨[.op 4 0], _, [], Lr 5, [19]⟩, ⟨[], [(6, (pBox Zj 6 (default : Zd)))], [7], [], [6]⟩, ⟨[.op 5 0, .op 7 0], _, [7], [0, 1, 2, 3, 4, 5, 7], [6]⟩, ⟨[.op 6 0], _, [], Lr 9, [7]⟩]) (F := [.old 0, .old 1, .old 2, .old 3, .op 8 0, .op 9 0]) hst hb Zb
   (o_p rfl (Zcp Zbs rfl rfl u_0) <| o_p rfl (Ze Zjx rfl rfl u_0) <| o_p rfl (Zf ty_9 rfl rfl u_0) <| o_p rfl (Zo Z03 (Zka _ _ h2) rfl rfl (.cons u_0 (.cons u_1 .nil))) <| o_p rfl (Za rfl rfl u_0) <| o_p rfl (Z5 rfl rfl u_0 rfl) <| o_p rfl (Z5 rfl rfl u_0 rfl) <| o_p rfl (Zbg (zs := [.int .i64 0, .int .i64 0, .int .i64 0, .int .i64 0, .float .f64 0, .int .i64 0, .string ByteArray.empty, .slice none 0 0]) (by kernel_rfl) (fun g => Zch g) rfl rfl) <| o_p rfl (Zb1 Zbn rfl rfl u_1 u_0) <| o_p rfl (Zc rfl rfl u_0) <| o_n) (by kernel_rfl) (fun a g hst hb => ?_)
 obtain ⟨r3, h4, H0⟩ := Zg H0
 refine r_s (T := ⟨[.old 4], _, [], [], [21]⟩ :: ⟨[.old 5], _, [], [], [22]⟩ :: ⟨[.old 1], _, [], [], [23]⟩ :: ⟨[.op 0 0, .op 1 0, .op 2 0], _, [], [0, 1, 2], [24]⟩ :: ⟨[.op 3 0], _, [], Lr 4, [20]⟩ :: ⟨[.op 4 0], _, [], Lr 5, [25]⟩ :: ⟨[.op 4 0], _, [], Lr 5, [26]⟩ :: ⟨[.op 4 0], _, [], Lr 5, [27]⟩ :: ⟨[], [(8, (pBox Zj 8 (default : Zd)))], [9], [], [8]⟩ :: ⟨[], [(10, (pBox Zt 10 (default : Zh)))], [11], [], [10]⟩ :: ⟨[.op 5 0, .op 8 0], _, [9], [0, 1, 2, 3, 4, 5, 8, 9], [8]⟩ :: ⟨[.op 6 0], _, [], [0, 1, 2, 3, 4, 5, 6, 8, 9, 10], [9]⟩ :: ⟨[.op 7 0, .op 9 0], _, [11], Lr 12, [10]⟩ :: []) (F := [.old 0, .old 1, .old 2, .old 3, .op 10 0, .op 11 0, .op 12 0]) hst hb Zb
   (o_p rfl (Zf Zbn rfl rfl u_0) <| o_p rfl (Za rfl rfl u_0) <| o_p rfl (Zf Zei rfl rfl u_0) <| o_p rfl (Zo Z9o (Zwm _ _ _ h4) rfl rfl (.cons u_0 (.cons u_1 (.cons u_2 .nil)))) <| o_p rfl (Za rfl rfl u_0) <| o_p rfl (Z5 rfl rfl u_0 rfl) <| o_p rfl (Z5 rfl rfl u_0 rfl) <| o_p rfl (Z5 rfl rfl u_0 rfl) <| o_p rfl (Zbg (zs := [.int .i64 0, .int .i64 0, .int .i64 0, .int .i64 0, .float .f64 0, .int .i64 0, .string ByteArray.empty, .slice none 0 0]) (by kernel_rfl) (fun g => Zch g) rfl rfl) <| o_p rfl (Zbg (zs := [.int .i64 0, .int .i64 0, .int .i64 0, .int .i64 0, .int .i64 0, .int .i64 0, .float .f64 0, .int .i64 0, .string ByteArray.empty, .slice none 0 0]) (by kernel_rfl) (fun g => Zej g) rfl rfl) <| o_p rfl (Zb1 Zbn rfl rfl u_1 u_0) <| o_p rfl (Zc rfl rfl u_0) <| o_p rfl (Zb1 Zcg rfl rfl u_1 u_0) <| o_n) (by kernel_rfl) (fun a g hst hb => ?_)
 refine wp_seq ?_
 refine wp_block ?_
 obtain ⟨r5, h6, H0⟩ := Zg H0
 refine r_s (T := [⟨[.old 6], _, [], [], [29]⟩, ⟨[.op 0 0], _, [], [0], [30]⟩, ⟨[.op 1 0], _, [], [0, 1], [31]⟩, ⟨[.op 2 0], _, [], [0, 1, 2], [32]⟩, ⟨[.op 3 0, .old 1], _, [], Lr 4, [33]⟩, ⟨[.op 3 0, .op 4 0], _, [], Lr 5, [34]⟩, ⟨[.op 3 0, .op 5 0], _, [], Lr 6, [35]⟩, ⟨[.op 3 0, .op 6 0], _, [], Lr 7, [36]⟩, ⟨[.op 7 0], _, [], Lr 8, [28]⟩]) (F := [.old 0, .old 1, .old 2, .old 3, .old 4, .old 5, .old 6, .op 8 0]) hst hb Zb
   (o_p rfl (Ze Zmh rfl rfl u_0) <| o_p rfl (Zf Zlw rfl rfl u_0) <| o_p rfl (Zf2 rfl rfl u_0 c_i) <| o_p rfl (Za rfl rfl u_0) <| o_g (g_f rfl rfl rfl (fun hG => Ze Zeu rfl rfl u_0)) <| o_g (g_f rfl rfl rfl (fun hG => Zf ty_3 rfl rfl (Opd.gd hG u_0))) <| o_g (g_f rfl rfl rfl (fun hG => Zo Z1f (Zn0 _ (Zbb h6 hG)) rfl rfl (.cons (Opd.gd hG u_0) .nil))) <| o_p rfl (Zbi rfl rfl u_0 (fun hz => (Opd.gd (bNF hz) u_1))) <| o_p rfl (Zc rfl rfl u_0) <| o_n) (by kernel_rfl) (fun a g hst hb => ?_)
 refine wp_cond_split (hst.bool 7 rfl) (fun hc7 => ?_) (fun hc7 => ?_)
 · replace H0 := Zy hc7 H0
   refine r_s (L := [(2, _), (4, _), (5, _), (10, _)]) (T := [⟨[.old 0], _, [], [], [37]⟩, ⟨[.old 3], _, [], [], [38]⟩, ⟨[.op 0 0, .old 1], _, [5], [0], [4]⟩, ⟨[.op 1 0, .old 2], _, [6], [0, 1, 2], [5]⟩]) (F := [.op 2 0, .op 3 0]) (hst.pick [0, 2, 3, 6] rfl) hb Zb
     (o_p rfl (Zcp Zbs rfl rfl u_0) <| o_p rfl (Zf Zcg rfl rfl u_0) <| o_p rfl (Z8 Zbs rfl rfl u_1 u_0) <| o_p rfl (Z8 Zcg rfl rfl u_1 u_0) <| o_n) (by kernel_rfl) (fun a g hst hb => ?_)
   refine wp_ret ?_
   refine Zw ?_
   refine Zp ?_
   obtain rfl := Option.some.inj H0
   obtain ⟨u0, hu0, hq0⟩ := Zbo (P := Tryz.prog) Zbs (hst.at 0 rfl)
   obtain ⟨u1, hu1, hq1⟩ := Zbo (P := Tryz.prog) Zcg (hst.at 1 rfl)
   exact Ze2 rfl hst hb hu0 hu1 (Zdj hq0 hq1)
 · replace H0 := Zz hc7 H0
   refine r_s (L := [(2, _), (3, _), (4, _), (5, _), (8, _), (9, _), (10, _)]) (T := [⟨[.old 5], _, [], [], [40]⟩, ⟨[.op 0 0], _, [], [0], [41]⟩, ⟨[.op 1 0], _, [], [0, 1], [39]⟩]) (F := [.old 0, .old 1, .old 2, .old 3, .old 4, .old 6, .op 2 0]) (hst.pick [0, 1, 2, 3, 4, 5, 6] rfl) hb Zb
     (o_p rfl (Za rfl rfl u_0) <| o_p rfl (Zcr rfl rfl u_0) <| o_p rfl (Zc rfl rfl u_0) <| o_n) (by kernel_rfl) (fun a g hst hb => ?_)
   refine wp_cond_split (hst.bool 6 rfl) (fun hc8 => ?_) (fun hc8 => ?_)
   · replace H0 := Zy hc8 H0
     obtain ⟨r9, h10, H0⟩ := Zg H0
     refine r_s (L := [(2, _), (3, _), (4, _), (5, _), (10, _)]) (T := [⟨[.old 0], _, [], [], [43]⟩, ⟨[.old 1], _, [], [], [44]⟩, ⟨[.op 1 0], _, [], [1], [45]⟩, ⟨[.op 0 0, .op 2 0], _, [], [0, 1, 2], [46]⟩, ⟨[.op 3 0], _, [], Lr 4, [42]⟩, ⟨[.op 4 0], _, [], Lr 5, [47]⟩, ⟨[.op 4 0], _, [], Lr 5, [48]⟩, ⟨[.op 5 0, .old 0], _, [3], Lr 6, [2]⟩]) (F := [.op 7 0, .old 2, .old 3, .old 4]) (hst.pick [0, 1, 2, 3, 5] rfl) hb Zb
       (o_p rfl (Zcp Zbs rfl rfl u_0) <| o_p rfl (Ze Zjx rfl rfl u_0) <| o_p rfl (Zf ty_9 rfl rfl u_0) <| o_p rfl (Zo Zba8 (Zqo _ _ h10) rfl rfl (.cons u_0 (.cons u_1 .nil))) <| o_p rfl (Za rfl rfl u_0) <| o_p rfl (Z5 rfl rfl u_0 rfl) <| o_p rfl (Z5 rfl rfl u_0 rfl) <| o_p rfl (Z8 Zbs rfl rfl u_1 u_0) <| o_n) (by kernel_rfl) (fun a g hst hb => ?_)
     refine r_s (T := [⟨[.old 0], _, [], [], [49]⟩, ⟨[.old 3], _, [], [], [50]⟩, ⟨[.op 0 0, .old 1], _, [5], [0], [4]⟩, ⟨[.op 1 0, .old 2], _, [6], [0, 1, 2], [5]⟩]) (F := [.op 2 0, .op 3 0]) hst hb Zb
       (o_p rfl (Zcp Zbs rfl rfl u_0) <| o_p rfl (Zf Zcg rfl rfl u_0) <| o_p rfl (Z8 Zbs rfl rfl u_1 u_0) <| o_p rfl (Z8 Zcg rfl rfl u_1 u_0) <| o_n) (by kernel_rfl) (fun a g hst hb => ?_)
     refine wp_ret ?_
     refine Zw ?_
     refine Zp ?_
     obtain rfl := Option.some.inj H0
     obtain ⟨u0, hu0, hq0⟩ := Zbo (P := Tryz.prog) Zbs (hst.at 0 rfl)
     obtain ⟨u1, hu1, hq1⟩ := Zbo (P := Tryz.prog) Zcg (hst.at 1 rfl)
     exact Ze2 rfl hst hb hu0 hu1 (Zdj hq0 hq1)
   · replace H0 := Zz hc8 H0
     refine wp_skip ?_
     refine Zbu ?_
     refine Zv ?_
     obtain ⟨r11, h12, H0⟩ := Zg H0
     refine r_s (L := [(2, _), (3, _), (4, _), (5, _), (8, _), (10, _)]) (T := [⟨[.old 0], _, [], [], [52]⟩, ⟨[.old 1], _, [], [], [53]⟩, ⟨[.op 1 0], _, [], [1], [54]⟩, ⟨[.old 4], _, [], [], [55]⟩, ⟨[.op 0 0, .op 2 0, .op 3 0], _, [], Lr 4, [56]⟩, ⟨[.op 4 0], _, [], Lr 5, [51]⟩, ⟨[.op 5 0], _, [], Lr 6, [57]⟩, ⟨[.op 5 0], _, [], Lr 6, [58]⟩, ⟨[], [(11, (pBox Z1 11 (default : Zn)))], [12], [], [11]⟩, ⟨[.op 6 0, .op 8 0], _, [12], [0, 1, 2, 3, 4, 5, 6, 8], [11]⟩, ⟨[.op 7 0], _, [], Lr 10, [12]⟩]) (F := [.old 0, .old 2, .old 3, .old 5, .op 9 0, .op 10 0]) (hst.pick [0, 1, 2, 3, 4, 5] rfl) hb Zb
       (o_p rfl (Zcp Zbs rfl rfl u_0) <| o_p rfl (Ze Zjx rfl rfl u_0) <| o_p rfl (Zf ty_9 rfl rfl u_0) <| o_p rfl (Zf Zbn rfl rfl u_0) <| o_p rfl (Zo Z5h (Zmy _ _ _ h12) rfl rfl (.cons u_0 (.cons u_1 (.cons u_2 .nil)))) <| o_p rfl (Za rfl rfl u_0) <| o_p rfl (Z5 rfl rfl u_0 rfl) <| o_p rfl (Z5 rfl rfl u_0 rfl) <| o_p rfl (Zbg (zs := [.pointer none, .int .i64 0]) (by kernel_rfl) (fun g => Zcm g) rfl rfl) <| o_p rfl (Zb1 Zbs rfl rfl u_1 u_0) <| o_p rfl (Zc rfl rfl u_0) <| o_n) (by kernel_rfl) (fun a g hst hb => ?_)
     refine wp_seq ?_
     refine r_s (T := [⟨[.old 5], _, [], [], [59]⟩, ⟨[.op 0 0], _, [], [0], [60]⟩]) (F := [.old 0, .old 1, .old 2, .old 3, .old 4, .old 5, .op 1 0]) hst hb Zb
       (o_p rfl (Za rfl rfl u_0) <| o_p rfl (Zf2 rfl rfl u_0 c_i) <| o_n) (by kernel_rfl) (fun a g hst hb => ?_)
     refine wp_cond_split (hst.bool 6 rfl) (fun hc13 => ?_) (fun hc13 => ?_)
     · replace H0 := Zy hc13 H0
       refine r_s (L := [(2, _), (4, _), (5, _), (12, _)]) (T := [⟨[.old 0], _, [], [], [61]⟩, ⟨[.old 3], _, [], [], [62]⟩, ⟨[.op 1 0], _, [], [1], [63]⟩, ⟨[.op 0 0, .old 1], _, [5], [0], [4]⟩, ⟨[.op 2 0, .old 2], _, [6], Lr 4, [5]⟩]) (F := [.op 3 0, .op 4 0]) (hst.pick [0, 1, 2, 5] rfl) hb Zb
         (o_p rfl (Zcp Zbs rfl rfl u_0) <| o_p rfl (Za rfl rfl u_0) <| o_p rfl (Zvf rfl rfl u_0) <| o_p rfl (Z8 Zbs rfl rfl u_1 u_0) <| o_p rfl (Z8 Zcg rfl rfl u_1 u_0) <| o_n) (by kernel_rfl) (fun a g hst hb => ?_)
       refine wp_ret ?_
       refine Zp ?_
       obtain rfl := Option.some.inj H0
       obtain ⟨u0, hu0, hq0⟩ := Zbo (P := Tryz.prog) Zbs (hst.at 0 rfl)
       obtain ⟨u1, hu1, hq1⟩ := Zbo (P := Tryz.prog) Zcg (hst.at 1 rfl)
       exact Ze2 rfl hst hb hu0 hu1 (Zdj hq0 hq1)
     · replace H0 := Zz hc13 H0
       refine wp_skip ?_
       refine Zv ?_
       refine r_s (L := [(4, _), (5, _), (10, _), (11, _)]) (T := [⟨[.old 3], _, [], [], [64]⟩, ⟨[.old 2], _, [], [], [65]⟩, ⟨[.op 0 0, .old 0], _, [5], [0], [4]⟩, ⟨[.op 1 0, .old 1], _, [6], [0, 1, 2], [5]⟩]) (F := [.op 2 0, .op 3 0]) (hst.pick [1, 2, 3, 4] rfl) hb Zb
         (o_p rfl (Zf Zbs rfl rfl u_0) <| o_p rfl (Zf Zcg rfl rfl u_0) <| o_p rfl (Z8 Zbs rfl rfl u_1 u_0) <| o_p rfl (Z8 Zcg rfl rfl u_1 u_0) <| o_n) (by kernel_rfl) (fun a g hst hb => ?_)
       refine wp_ret ?_
       obtain rfl := Option.some.inj H0
       obtain ⟨u0, hu0, hq0⟩ := Zbo (P := Tryz.prog) Zbs (hst.at 0 rfl)
       obtain ⟨u1, hu1, hq1⟩ := Zbo (P := Tryz.prog) Zcg (hst.at 1 rfl)
       exact Ze2 rfl hst hb hu0 hu1 (Zdj hq0 hq1)
theorem Zwo (a0 : Zbk) {r : Int × Int} (h : Zkp a0 = some r) : FnOk Tryz.prog 28 [(Zcf.pd a0)] (pTup [(pInt .i64 r.1), (pInt .i64 r.2)]) := by
 have H0 := h
 unfold Zkp at H0
 clear h
 refine Zbr (N := 33) Tryz.func28 rfl rfl (Nat.le_of_ble_eq_true rfl) rfl rfl (fun a g0 hst hb => ?_)
 refine r_s (T := [⟨[.old 0], _, [], [], [1]⟩, ⟨[], _, [], [], [2]⟩, ⟨[], _, [], [1], [3]⟩]) (F := [.op 0 0]) hst hb Zb
   (o_p rfl (Zbh rfl rfl u_0) <| o_p rfl (Zc rfl rfl c_i) <| o_p rfl (Zc rfl rfl c_i) <| o_n) (by kernel_rfl) (fun a g hst hb => ?_)
 refine wp_seq ?_
 refine r_s (T := [⟨[.old 0], _, [], [], [7]⟩, ⟨[.op 0 0], _, [], [0], [8]⟩, ⟨[.op 1 0], _, [], [0, 1], [9]⟩, ⟨[.op 2 0], _, [], [0, 1, 2], [10]⟩, ⟨[.op 3 0], _, [], Lr 4, [11]⟩, ⟨[.op 4 0, .old 0], _, [], Lr 5, [12]⟩, ⟨[.op 4 0, .op 5 0], _, [], Lr 6, [13]⟩, ⟨[.op 4 0, .op 6 0], _, [], Lr 7, [14]⟩, ⟨[.op 4 0, .op 7 0], _, [], Lr 8, [15]⟩, ⟨[.op 4 0, .op 8 0], _, [], Lr 9, [16]⟩]) (F := [.old 0, .op 9 0]) hst hb Zb
   (o_p rfl (Ze Zhd rfl rfl u_0) <| o_p rfl (Zf Zj4 rfl rfl u_0) <| o_p rfl (Zb4 Tryz.underlying23 rfl rfl u_0) <| o_p rfl (Zbj rfl rfl u_0 c_i) <| o_p rfl (Za rfl rfl u_0) <| o_g (g_f rfl rfl rfl (fun hG => Ze Zhd rfl rfl u_0)) <| o_g (g_f rfl rfl rfl (fun hG => Zf Zj4 rfl rfl (Opd.gd hG u_0))) <| o_g (g_f rfl rfl rfl (fun hG => Zb4 Tryz.underlying23 rfl rfl (Opd.gd hG u_0))) <| o_g (g_f rfl rfl rfl (fun hG => Zci rfl rfl (Opd.gd hG u_0) c_i)) <| o_p rfl (Zbi rfl rfl u_0 (fun hz => (Opd.gd (bNF hz) u_1))) <| o_n) (by kernel_rfl) (fun a g hst hb => ?_)
 refine wp_cond_split (hst.bool 1 rfl) (fun hc1 => ?_) (fun hc1 => ?_)
 · replace H0 := Zy hc1 H0
   refine r_s (L := []) (T := [⟨[], _, [], [], [2]⟩, ⟨[], _, [], [0], [3]⟩]) (F := [.op 0 0, .op 1 0]) (hst.pick [] rfl) hb Zb
     (o_p rfl (Zc rfl rfl c_i) <| o_p rfl (Zc rfl rfl c_i) <| o_n) (by kernel_rfl) (fun a g hst hb => ?_)
   refine wp_ret ?_
   refine Zp ?_
   obtain rfl := Option.some.inj H0
   exact Ze2 rfl hst hb (Zk (s := 2)) (Zk (s := 3)) (Zdj (hst.at 0 rfl) (hst.at 1 rfl))
 · replace H0 := Zz hc1 H0
   refine wp_skip ?_
   refine Zv ?_
   refine wp_seq ?_
   refine r_s (L := [(1, _)]) (T := [⟨[.old 0], _, [], [], [17]⟩, ⟨[.op 0 0], _, [], [0], [18]⟩, ⟨[.op 1 0], _, [], [0, 1], [19]⟩, ⟨[], _, [], [], [20]⟩]) (F := [.op 1 0, .op 2 0, .op 3 0]) (hst.pick [0] rfl) hb Zb
     (o_p rfl (Ze Zhd rfl rfl u_0) <| o_p rfl (Zf Zj4 rfl rfl u_0) <| o_p rfl (Zb4 Tryz.underlying23 rfl rfl u_0) <| o_p rfl (Za rfl rfl c_i) <| o_n) (by kernel_rfl) (fun a g hst hb => ?_)
   obtain ⟨z9, hz1, H0⟩ := Zg H0
   refine Zcx (fun a w => ∃ (g : G), w = g.w ∧ St 33 [] a g ∧ Base g0 g ∧ (.inr ()) = z9) ?_ ?_
   · rintro a w ⟨g, rfl, hst, hb, rfl⟩
     refine Zv ?_
     refine r_s (T := [⟨[], _, [], [], [2]⟩, ⟨[], _, [], [0], [3]⟩]) (F := [.op 0 0, .op 1 0]) hst hb Zb
       (o_p rfl (Zc rfl rfl c_i) <| o_p rfl (Zc rfl rfl c_i) <| o_n) (by kernel_rfl) (fun a g hst hb => ?_)
     refine wp_ret ?_
     obtain rfl := Option.some.inj H0
     exact Ze2 rfl hst hb (Zk (s := 2)) (Zk (s := 3)) (Zdj (hst.at 0 rfl) (hst.at 1 rfl))
   · refine wp_block ?_
     refine wp_loop_ghost (fun n a w => ∃ (x2 : Int) (g : G), w = g.w ∧ St 33 [(18, (Z2.sl.pd a0.Acts)), (19, (pInt .i64 (a0.Acts.length : Int))), (20, (pInt .i64 x2))] a g ∧ Base g0 g ∧ Zga a0 n x2 = some z9) (Int.toNat ((a0.Acts.length : Int) - (0 : Int)) + 1) ⟨(0 : Int), g, rfl, (hst.pick [0, 1, 2] rfl), hb, hz1⟩ (fun n a w hI => ?_)
     obtain ⟨x2, g, rfl, hst, hb, H1⟩ := hI
     cases n with
     | zero => exact absurd H1 (by simp [Zga])
     | succ n =>
       rw [Zga] at H1
       refine r_s (T := [⟨[.old 2, .old 1], _, [], [], [21]⟩]) (F := [.old 0, .old 1, .old 2, .op 0 0]) hst hb Zb
         (o_p rfl (Zco rfl rfl u_0 u_1) <| o_n) (by kernel_rfl) (fun a g hst hb => ?_)
       refine wp_seq ?_
       refine wp_cond_split (hst.bool 3 rfl) (fun hc3 => ?_) (fun hc3 => ?_)
       · replace H1 := Zy hc3 H1
         refine wp_skip ?_
         refine Zv ?_
         refine wp_seq ?_
         refine wp_block ?_
         obtain ⟨e4, h5, H1⟩ := Zg H1
         refine r_s (L := [(18, _), (19, _), (20, _)]) (T := [⟨[.old 2], _, [], [], [22]⟩, ⟨[.old 0, .old 2], _, [], [], [23]⟩, ⟨[.op 1 0], _, [], [1], [24]⟩, ⟨[], [(5, (pBox Z2 5 (default : Zm)))], [6], [], [5]⟩, ⟨[.op 0 0], _, [], Lr 4, [4]⟩, ⟨[.op 2 0, .op 3 0], _, [6], Lr 5, [5]⟩]) (F := [.op 4 0, .op 5 0, .old 0, .old 1, .old 2]) (hst.pick [0, 1, 2] rfl) hb Zb
           (o_p rfl (Za rfl rfl u_0) <| o_p rfl (Zbp Tryz.underlying23 Zml rfl rfl u_0 u_1 h5) <| o_p rfl (Zf Zei rfl rfl u_0) <| o_p rfl (Zbg (zs := [.int .i64 0, .string ByteArray.empty, .int .i64 0, .float .f64 0, .string ByteArray.empty, .int .i64 0, .int .i64 0, .int .i64 0, .int .i64 0, .float .f64 0, .int .i64 0, .string ByteArray.empty, .slice none 0 0, .bool false]) (by kernel_rfl) (fun g => Zje g) rfl rfl) <| o_p rfl (Zc rfl rfl u_0) <| o_p rfl (Zb1 Zei rfl rfl u_1 u_0) <| o_n) (by kernel_rfl) (fun a g hst hb => ?_)
         obtain ⟨r6, h7, H1⟩ := Zg H1
         refine r_s (T := [⟨[.old 1], _, [], [], [25]⟩, ⟨[.op 0 0], _, [], [0], [26]⟩, ⟨[.op 1 0], _, [], [0, 1], [6]⟩]) (F := [.old 0, .op 2 0, .old 2, .old 3, .old 4]) hst hb Zb
           (o_p rfl (Zf Zei rfl rfl u_0) <| o_p rfl (Zo Z5x (Zq0 _ h7) rfl rfl (.cons u_0 .nil)) <| o_p rfl (Zc rfl rfl u_0) <| o_n) (by kernel_rfl) (fun a g hst hb => ?_)
         refine r_s (T := [⟨[.old 1], _, [], [], [27]⟩, ⟨[.op 0 0], _, [], [0], [28]⟩]) (F := [.old 0, .old 1, .old 2, .old 3, .old 4, .op 1 0]) hst hb Zb
           (o_p rfl (Za rfl rfl u_0) <| o_p rfl (Zf2 rfl rfl u_0 c_i) <| o_n) (by kernel_rfl) (fun a g hst hb => ?_)
         refine wp_cond_split (hst.bool 5 rfl) (fun hc8 => ?_) (fun hc8 => ?_)
         · replace H1 := Zy hc8 H1
           refine r_s (L := [(4, _), (6, _)]) (T := [⟨[.old 1], _, [], [], [29]⟩, ⟨[.old 0], _, [], [], [30]⟩, ⟨[.op 1 0], _, [], [1], [31]⟩, ⟨[.op 0 0], _, [], [0], [2]⟩, ⟨[.op 2 0], _, [], Lr 4, [3]⟩]) (F := [.op 3 0, .op 4 0]) (hst.pick [0, 1] rfl) hb Zb
             (o_p rfl (Za rfl rfl u_0) <| o_p rfl (Za rfl rfl u_0) <| o_p rfl (Zcd rfl rfl u_0 c_i rfl) <| o_p rfl (Zc rfl rfl u_0) <| o_p rfl (Zc rfl rfl u_0) <| o_n) (by kernel_rfl) (fun a g hst hb => ?_)
           refine wp_ret ?_
           refine Zw ?_
           refine Zp ?_
           refine Zp ?_
           refine Zw ?_
           refine Zp ?_
           refine Zp ?_
           obtain rfl := Option.some.inj H1
           obtain rfl := Option.some.inj H0
           exact Ze2 rfl hst hb (Zk (s := 2)) (Zk (s := 3)) (Zdj (hst.at 0 rfl) (hst.at 1 rfl))
         · replace H1 := Zz hc8 H1
           refine wp_skip ?_
           refine Zbu ?_
           refine Zv ?_
           refine r_g (L := [(18, _), (19, _), (20, _)]) (T := [⟨[.old 2], _, [], [], [32]⟩, ⟨[.op 0 0], _, [], [0], [20]⟩]) (F := [.old 0, .old 1, .op 1 0]) (hst.pick [2, 3, 4] rfl) hb Zb
             (o_p rfl (Zcd rfl rfl u_0 c_i rfl) <| o_p rfl (Za rfl rfl u_0) <| o_n) (by kernel_rfl) (fun a g hst hb => ?_)
           exact ⟨n, Nat.lt_succ_self _, (IntKind.i64.wrap (x2 + (1 : Int))), g, rfl, (hst.pick [0, 1, 2] rfl), hb, H1⟩
       · replace H1 := Zz hc3 H1
         refine wp_exit ?_
         refine Zb5 ?_
         refine Zb5 ?_
         refine Zct ?_
         exact ⟨g, rfl, (hst.pick [] rfl), hb, Option.some.inj H1⟩
end Go.CL
namespace Go.CL
open Go Go.RowKit
section
variable {P : Program} {N : Nat} {o : Oper} {uses outs : Zbc} {S : List Nat} {d : Nat} {q : Pd} {x y z : Operand} {Q : Exit → Act → World → Prop} {a : Act} {w : World} {K : Act → World → Prop} {D : List Deferred} {g0 : G} {ops : Array Oper} {L : Zbc} {T : List Spec} {F : List Ref} {os : List Oper} {X : Spec} {Xs : List Spec}
theorem Zo0 {ch : List PanicEntry} (h : Q (.panic ch) a w) : Exit.then K Q (.panic ch) a w := h
theorem Zvw {id : Nat} {ch : List PanicEntry} (h : Q (.panic ch) a w) : Exit.inBlock id Q (.panic ch) a w := h
theorem r_gQ {id : Nat} {draw : Bool} {a : Act} {g : G} {Q : Exit → Act → World → Prop} (h : StD D N L a g) (hb : Base g0 g) (hm : P.follows .mixedOrders = true) (hT : Zi4 P ops N L T D g0 Q ops.toList T) (hc : chk N ops L T F = true)
   (hQ : ∀ a g, StD D N (F.map (Zig L T)) a g → Base g0 g → Q .normal a g.w) : (Code.region id ops draw).wp P Q a g.w := Zzr hm hc hT h hb hQ
theorem q_p (hg : o.guard = none) (h : OB P N o (X.refs.map (Zig L T)) X.outs X.S) (hs : Zi4 P ops N L T D g0 Q os Xs) : Zi4 P ops N L T D g0 Q (o :: os) (X :: Xs) := ⟨(OT.plain hg h).q, hs⟩
theorem q_q (h : OTQ P ops N o (X.refs.map (Zig L T)) X.outs X.S D g0 Q) (hs : Zi4 P ops N L T D g0 Q os Xs) : Zi4 P ops N L T D g0 Q (o :: os) (X :: Xs) := ⟨h, hs⟩
theorem q_n : Zi4 P ops N L T D g0 Q [] [] := trivial
def pNo : Pd := ⟨fun _ _ => False, [], fun _ _ h => h⟩
theorem Zt1 (hx : Opd uses x pNo) : OB P N o uses outs S := fun a g K Q hN hdN hu hK => (hx a g hu).elim
def Zk6 (t : TypeId) (q : Pd) : Pd := ⟨fun g v => ∃ u, v = .iface t u ∧ q.p g u, q.fp, fun st hd ⟨u, e, h⟩ => ⟨u, e, q.st st hd h⟩⟩
theorem Z34 {t : TypeId} (ht : (P.underlying t).map (fun u => match u with | .interface _ => true | _ => false) = some false) (hop : o.op = .makeInterface t x) (hd : o.dst = some d) (hx : Opd uses x q) : OB P N o uses [(d, Zk6 t q)] [] :=
 Zb8 hd fun a g hh => by
   refine ⟨.iface t (a.eval x), ?_, _, rfl, hx a g hh⟩
   cases hu : P.underlying t with
   | none => rw [hu] at ht; cases ht
   | some u =>
     rw [hu] at ht
     cases u <;> first | (simp at ht; done) | simp [execOp, hop, Instr.makeInterface, run_underlying hu]
theorem Z3r {t : TypeId} (hop : o.op = .panic x) (hg : o.guard = none) (hx : Opd uses x (Zk6 t q)) (hQ : ∀ (a : Act) g v, a.tmps.size = N → a.defers = D → Base g0 g → Zea uses a g → (Zk6 t q).p g v → Q (.panic [{ v := v, recovered := false }]) a g.w) : OTQ P ops N o uses outs S D g0 Q := by
 intro a g K hN hD hb hdN hu hK
 have : Region.wanted o (yielded ops a.tmps) = true := by simp [Region.wanted, hg]
 rw [if_pos this]
 obtain ⟨u, hv, hq⟩ := hx a g hu
 have hr : (execOp a.eval o).run P g.w = .halt (.panic (.iface t u)) g.w := by simp [execOp, hop, hv, Instr.panic, goPanic]
 unfold Oper.wp
 rw [hr]
 exact hQ a g _ hN hD hb hu ⟨u, rfl, hq⟩
def Z1o (P : Program) (f : FuncId) (A : List Pd) (q : Pd) : Prop := ∀ (g : G) (args : List Value), ArgsOk A g args → Calls P f args.toArray g.w (fun e w' => ∃ g' v, e = .panicked [{ v := v, recovered := false }] ∧ w' = g'.w ∧ Step [] g g' ∧ q.p g' v)
def Z2y (g0 : G) (q : Pd) : Ending → World → Prop := fun e w' => ∃ g1 v, e = .panicked [{ v := v, recovered := false }] ∧ w' = g1.w ∧ Base g0 g1 ∧ q.p g1 v
theorem Z2h {g g0 : G} {A : List Pd} {args : List Value} {n : Nat} (hle : g.le g0) (hw : g0.w = g.w) (hargs : ArgsOk A g args) (hA : A.all (fun q => q.fp.isEmpty) = true) (hAN : A.length ≤ N) (hn : n = N) : St N (Zlb A 0) { tmps := args.toArray ++ Array.replicate (n - args.toArray.size) undef, defers := [] } g0 := by
 refine ⟨?_, rfl, ?_⟩
 · have := hargs.1
   simp [hn]; omega
 · intro e he
   obtain ⟨i, h1, h2⟩ := Zny he
   have hi : i < args.length := by rw [hargs.1]; exact (List.getElem?_eq_some_iff.1 h2).1
   have hfp : e.2.fp = [] := by
     have := List.all_eq_true.1 hA e.2 (List.mem_of_getElem? h2)
     simpa using this
   have hv : Act.at { tmps := args.toArray ++ Array.replicate (n - args.toArray.size) undef, defers := [] } e.1 = args[i] := by
     rw [h1, Nat.zero_add]
     simp only [Act.at, Array.getD_eq_getD_getElem?]
     rw [Array.getElem?_append, if_pos (by simpa using hi)]
     simp [hi]
   rw [hv]
   exact Pd.le hfp hle (by rw [hw]) (by rw [hw]) (by rw [hw]) (hargs.2 i e.2 _ h2 (List.getElem?_eq_getElem hi))
def G.bare (g : G) : G := ⟨g.w, g.pr, fun _ => 0, g.hpr, g.gl⟩
theorem Zo4 (g : G) : g.le g.bare := ⟨Nat.le_refl _, fun _ _ h => h, fun _ _ _ => rfl, fun _ _ => rfl⟩
theorem Zqm (g : G) : Base g.bare g.bare := ⟨.refl _, rfl, rfl, rfl, fun _ _ _ => ⟨rfl, rfl, rfl⟩⟩
theorem Zq8 {g g1 : G} (hB : Base g.bare g1) : ∃ g2 : G, g2.w = g1.w ∧ Step [] g g2 ∧ g1.le g2 :=
 ⟨⟨g1.w, g1.pr, fun b => if b < g.w.heap.size then g.own b else 0, g1.hpr, g1.gl⟩, rfl, ⟨⟨hB.le.size, hB.le.pr, hB.le.cell, hB.le.blk⟩, hB.os, hB.tape, hB.output, fun b hb _ => ⟨(hB.same b hb rfl).1, (hB.same b hb rfl).2.1, if_pos hb⟩, fun b hb _ => .inl (if_neg (by omega)), fun _ _ h => by cases h⟩, ⟨Nat.le_refl _, fun _ _ h => h, fun _ _ _ => rfl, fun _ _ => rfl⟩⟩
theorem Z4b {f : FuncId} {fn : Func} {c : Code} {A : List Pd} (hf : P.funcs[f]? = some fn) (hb : fn.body = some c) (hn : fn.ntmps = N) (hAN : A.length ≤ N) (hA : A.all (fun q => q.fp.isEmpty) = true) (hq : q.fp = [])
   (h : ∀ (a : Act) (g : G), St N (Zlb A 0) a g → Base g g → c.wp P (bodyPost P fn (Z2y g q)) a g.w) : Z1o P f A q := by
 intro g args hargs
 refine Calls.mono (calls_of_wp hf hb (h _ g.bare (Z2h (Zo4 g) rfl hargs hA hAN hn) (Zqm g))) ?_
 rintro e w' ⟨g1, v, rfl, rfl, hB, hv⟩
 obtain ⟨g2, e2, hS, hle⟩ := Zq8 hB
 exact ⟨g2, v, rfl, e2.symm, hS, Pd.le hq hle (by rw [e2]) (by rw [e2]) (by rw [e2]) hv⟩
theorem Z87 {fn : Func} {a : Act} {g : G} {v : Value} (hd : a.defers = []) (hb : Base g0 g) (hq : q.p g v) : bodyPost P fn (Z2y g0 q) (.panic [{ v := v, recovered := false }]) a g.w := ⟨hd, g, v, rfl, rfl, hb, hq⟩
theorem Zzo {f : FuncId} {xs : List Operand} {A : List Pd} {ty : Array TypeId} (he : Zl P f) (hok : Z1o P f A q) (hop : o.op = .call { callee := .value (.func f), args := xs.toArray, argTypes := ty }) (hg : o.guard = none) (hargs : OpdL uses xs A)
   (hQ : ∀ (a : Act) g v, a.tmps.size = N → a.defers = D → Base g0 g → Zea uses a g → q.p g v → Q (.panic [{ v := v, recovered := false }]) a g.w) : OTQ P ops N o uses outs S D g0 Q := by
 intro a g K hN hD hb hdN hu hK
 have : Region.wanted o (yielded ops a.tmps) = true := by simp [Region.wanted, hg]
 rw [if_pos this]
 have hr : (execOp a.eval o).run P g.w = .ok (.enter f (xs.map a.eval).toArray) g.w := by
   simp [execOp, hop, resolve, Zrl, Deferred.ofValue, invoke, Zi5 he]
 unfold Oper.wp
 rw [hr]
 show Calls P f _ g.w _
 refine Calls.mono (hok g _ (hargs.ok hu)) ?_
 rintro e w' ⟨g', v, rfl, rfl, hs, hq⟩
 exact hQ a g' v hN hD (hb.step hs (by simp)) (fun e he => e.2.st hs (fun _ _ h => by cases h) (hu e he)) hq
theorem Z8u {f : FuncId} {fn : Func} {c : Code} {A : List Pd} (hf : P.funcs[f]? = some fn) (hb : fn.body = some c) (hn : fn.ntmps = N) (hAN : A.length ≤ N) (hA : A.all (fun q => q.fp.isEmpty) = true) (hq : q.fp = [])
   (h : ∀ (a : Act) (g : G), (∀ b, g.own b = 0) → St N (Zlb A 0) a g → Base g g → c.wp P (bodyPostD P fn (Fin g q)) a g.w) : FnOk P f A q := by
 intro g args hargs
 refine Calls.mono (calls_of_wp_defers hf hb (h _ g.bare (fun _ => rfl) (Z2h (Zo4 g) rfl hargs hA hAN hn) (Zqm g))) ?_
 rintro e w' ⟨g1, v, rfl, rfl, hB, hv⟩
 obtain ⟨g2, e2, hS, hle⟩ := Zq8 hB
 exact ⟨g2, v, rfl, e2.symm, hS, Pd.le hq hle (by rw [e2]) (by rw [e2]) (by rw [e2]) hv⟩
def dfr3 (f : FuncId) (v1 : Value) (b2 b3 : Nat) : List Deferred := [{ target := .fn (.func f) #[v1, .pointer (some ⟨b2, 0, none⟩), .pointer (some ⟨b3, 0, none⟩)], args := #[] }]
theorem Z21 {id f x1 x2 x3 d1 : Nat} {o1 o2 : Oper} {a : Act} {w : World} (h1 : o1.op = .makeFunc (.func f) #[] #[.tmp x1, .tmp x2, .tmp x3]) (hg1 : o1.guard = none) (hd1 : o1.dst = some d1) (h2 : o2.op = .defer { callee := .value (.tmp d1), args := #[], argTypes := #[] }) (hg2 : o2.guard = none) (hd2 : o2.dst = none) (hlt : d1 < a.tmps.size)
   {b2 b3 : Nat} {v1 : Value} (e1 : Act.at a x1 = v1) (e2 : Act.at a x2 = .pointer (some ⟨b2, 0, none⟩)) (e3 : Act.at a x3 = .pointer (some ⟨b3, 0, none⟩)) (hD : a.defers = [])
   (hK : Q .normal { tmps := (a.put (some d1) (.func (.func f) #[] #[v1, .pointer (some ⟨b2, 0, none⟩), .pointer (some ⟨b3, 0, none⟩)])).tmps, defers := dfr3 f v1 b2 b3 } w) : (Code.region id #[o1, o2] false).wp P Q a w := by
 refine wp_region ?_
 have q1 : a.eval (.tmp x1) = v1 := e1
 have q2 : a.eval (.tmp x2) = _ := e2
 have q3 : a.eval (.tmp x3) = _ := e3
 have hr1 : (execOp a.eval o1).run P w = .ok (.value (.func (.func f) #[] #[v1, .pointer (some ⟨b2, 0, none⟩), .pointer (some ⟨b3, 0, none⟩)])) w := by
   simp [execOp, h1, Instr.makeFunc, q1, q2, q3]
 have hev : (a.put (some d1) (.func (.func f) #[] #[v1, .pointer (some ⟨b2, 0, none⟩), .pointer (some ⟨b3, 0, none⟩)])).eval (.tmp d1) = .func (.func f) #[] #[v1, .pointer (some ⟨b2, 0, none⟩), .pointer (some ⟨b3, 0, none⟩)] := Zfe _ hlt
 have hr2 : (execOp (a.put (some d1) (.func (.func f) #[] #[v1, .pointer (some ⟨b2, 0, none⟩), .pointer (some ⟨b3, 0, none⟩)])).eval o2).run P w = .ok (.defer { target := .fn (.func f) #[v1, .pointer (some ⟨b2, 0, none⟩), .pointer (some ⟨b3, 0, none⟩)], args := #[] }) w := by
   simp [execOp, h2, resolve, hev, Deferred.ofValue]
 have w1 : ∀ m, Region.wanted o1 m = true := fun m => by simp [Region.wanted, hg1]
 have w2 : ∀ m, Region.wanted o2 m = true := fun m => by simp [Region.wanted, hg2]
 show wpOps P #[o1, o2] _ (Lr 2) a w
 simp only [show Lr 2 = [0, 1] from rfl, wpOps, List.getElem?_toArray, List.getElem?_cons_zero, List.getElem?_cons_succ, w1, if_true]
 refine .inl ?_
 unfold Oper.wp
 rw [hr1, Oper.upon_value, hd1]
 simp only [w2, if_true]
 refine .inl ?_
 rw [hr2, Oper.upon_defer, hd2]
 have : ∀ (d : Deferred) (v : Value), ({ (a.put (some d1) v) with defers := d :: (a.put (some d1) v).defers } : Act) = { tmps := (a.put (some d1) v).tmps, defers := [d] } := fun d v => by
   rw [Zub, hD]
 have h3 := this { target := .fn (.func f) #[v1, .pointer (some ⟨b2, 0, none⟩), .pointer (some ⟨b3, 0, none⟩)], args := #[] } (.func (.func f) #[] #[v1, .pointer (some ⟨b2, 0, none⟩), .pointer (some ⟨b3, 0, none⟩)])
 show Q .normal (Act.put { (a.put (some d1) (.func (.func f) #[] #[v1, .pointer (some ⟨b2, 0, none⟩), .pointer (some ⟨b3, 0, none⟩)])) with defers := _ :: (a.put (some d1) _).defers } none undef) w
 rw [h3]; exact hK
theorem Zz3 {α : Type} {dk : Kd α} {j : Nat} {v : α} {g : G} {u : Value} (h : (pBox dk j v).p g u) : ∃ b, u = .pointer (some ⟨b, 0, none⟩) ∧ (Zbt (some b) dk j v).p g u := by
 obtain ⟨b, cs, t, e, hm, _⟩ := h
 exact ⟨b, e, b, cs, t, e, hm, fun b' hb => Option.some.inj hb⟩
theorem Z70 {α γ σ : Type} {kV : Kd γ} {raw : α → σ → γ} {R : Hp σ} {j : Nat} {x : α} {g : G} {u : Value} (h : (pBxS kV raw R j x).p g u) : ∃ b, u = .pointer (some ⟨b, 0, none⟩) ∧ (Zh6 (some b) kV raw R j x).p g u := by
 obtain ⟨s, h1, h2⟩ := h
 obtain ⟨b, e, h3⟩ := Zz3 h1
 exact ⟨b, e, s, h3, h2⟩
theorem Z3t {α : Type} {dk : Kd α} {j b : Nat} {v : α} {g : G} {u : Value} (h : (Zbt (some b) dk j v).p g u) : u = .pointer (some ⟨b, 0, none⟩) := by
 obtain ⟨b', cs, t, e, hm, hb⟩ := h
 rw [e, hb b rfl]
section
variable {α β φ γ σ : Type} {kS : Kd α} {kR : Kd β} {kF : Kd φ} {kV : Kd γ} {raw : β → σ → γ} {R : Hp σ} {f : FuncId} {tf t4 t5 s4 s5 j4 j5 b4 b5 : Nat} {v2 v : Value}
abbrev ptrV (b : Nat) : Value := .pointer (some ⟨b, 0, none⟩)
def Zzq (P : Program) (f : FuncId) : Prop := ∀ (g : G) (v2 : Value) (b4 b5 : Nat), CallsD P f #[v2, ptrV b4, ptrV b5] .returning g.w (fun e u' w' => e = .returned (.tuple #[]) ∧ u' = .returning ∧ ∃ g', w' = g'.w ∧ Step [] g g')
def Z0c (P : Program) (f : FuncId) (kS : Kd α) (kV : Kd γ) (raw : β → σ → γ) (kR : Kd β) (tf : TypeId) (kF : Kd φ) (mk : φ → β) : Prop := ∀ (g : G) (v2 v : Value) (b4 b5 : Nat) (s z4 : α) (x : β) (r : φ), (kS.ptr s).p g v2 → (Zbt (some b4) kS 0 z4).p g (ptrV b4) → (Zh6 (some b5) kV raw hpT 1 x).p g (ptrV b5) → (Zk6 tf (kF.pd r)).p g v →
 CallsD P f #[v2, ptrV b4, ptrV b5] (.panicking [{ v := v, recovered := false }]) g.w (fun e u' w' => e = .returned (.tuple #[]) ∧ u' = .panicking [{ v := v, recovered := true }] ∧ ∃ g', w' = g'.w ∧ Base g g' ∧ (Zbt (some b4) kS 0 s).p g' (ptrV b4) ∧ (Zbt (some b5) kR 1 (mk r)).p g' (ptrV b5))
theorem Z78 {fn : Func} {r1 r2 : ResultVar} {v1 v2 : Value} {a : Act} {g g0 : G} {L : Zbc} (hr : fn.results = #[r1, r2]) (h : St N L a g) (hb : Base g0 g) (h1 : Zhv P a g r1 v1) (h2 : Zhv P a g r2 v2) (hq : q.p g (.tuple #[v1, v2])) : bodyPostD P fn (Fin g0 q) .ret a g.w := by
 show Leaves P fn a.tmps _ a.defers .returning g.w
 rw [h.df]
 have h1' : (Zfl a.tmps r1).run P g.w = .ok v1 g.w := h1
 have h2' : (Zfl a.tmps r2).run P g.w = .ok v2 g.w := h2
 exact ⟨.tuple #[v1, v2], by simp [Zhu, hr, h1', h2'], g, _, rfl, rfl, hb, hq⟩
theorem Z3l (he : Zl P f) (caps : Array Value) (w : World) : (invoke (.fn (.func f) caps) #[]).run P w = .ok (.enter f caps) w := by
 simp [invoke, Zi5 he]
theorem Z6o {fn : Func} {a : Act} {g g0 : G} {L : Zbc} {c4 c5 : Option Nat} {x : α} {y : β} (hc : Zzq P f) (he : Zl P f) (hr : fn.results = #[.cell s4 t4, .cell s5 t5]) (hT4 : Ty P t4 kS) (hT5 : Ty P t5 kR) (h : StD (dfr3 f v2 b4 b5) N L a g) (hb : Base g0 g)
   (h4 : (Zbt c4 kS j4 x).p g (Act.at a s4)) (h5 : (Zbt c5 kR j5 y).p g (Act.at a s5)) : bodyPostD P fn (Fin g0 (pTup [kS.pd x, kR.pd y])) .ret a g.w := by
 show Leaves P fn a.tmps _ a.defers .returning g.w
 rw [h.df]
 refine leaves_cons (f := f) (args := #[v2, ptrV b4, ptrV b5]) (by simp) (Z3l he _ _) ?_
 refine (hc g v2 b4 b5).mono ?_
 rintro e u' w' ⟨rfl, rfl, g', rfl, hs⟩
 obtain ⟨u4, r4, q4⟩ := Zbo (P := P) hT4 ((Zbt c4 kS j4 x).st hs (fun _ _ h => by cases h) h4)
 obtain ⟨u5, r5, q5⟩ := Zbo (P := P) hT5 ((Zbt c5 kR j5 y).st hs (fun _ _ h => by cases h) h5)
 have r4' : (Zfl a.tmps (.cell s4 t4)).run P g'.w = .ok u4 g'.w := r4
 have r5' : (Zfl a.tmps (.cell s5 t5)).run P g'.w = .ok u5 g'.w := r5
 exact ⟨.tuple #[u4, u5], by simp [Zhu, hr, r4', r5'], g', _, rfl, rfl, hb.step hs (by simp), Zdj q4 q5⟩
theorem Z2a {fn : Func} {a : Act} {g g0 : G} {z4 s : α} {x : β} {r : φ} {mk : φ → β} (hc : Z0c P f kS kV raw kR tf kF mk) (he : Zl P f) (hr : fn.results = #[.cell s4 t4, .cell s5 t5]) (hT4 : Ty P t4 kS) (hT5 : Ty P t5 kR) (h0 : ∀ b, g0.own b = 0) (hD : a.defers = dfr3 f v2 b4 b5) (hb : Base g0 g) (hj : j4 ≠ j5)
   (hs : (kS.ptr s).p g v2) (h4 : (Zbt (some b4) kS j4 z4).p g (Act.at a s4)) (h5 : (Zh6 (some b5) kV raw R j5 x).p g (Act.at a s5)) (hv : (Zk6 tf (kF.pd r)).p g v) : bodyPostD P fn (Fin g0 (pTup [kS.pd s, kR.pd (mk r)])) (.panic [{ v := v, recovered := false }]) a g.w := by
 show Leaves P fn a.tmps _ a.defers (.panicking _) g.w
 rw [hD]
 refine leaves_cons (f := f) (args := #[v2, ptrV b4, ptrV b5]) (by simp) (Z3l he _ _) ?_
 obtain ⟨bb, cs4, ty4, e4, ⟨m1, m2, m3, m4, m5, m6⟩, hbb⟩ := h4
 obtain rfl := hbb _ rfl
 obtain ⟨sg, ⟨bb', cs5, ty5, e5, ⟨n1, n2, n3, n4, n5, n6⟩, hbb'⟩, _⟩ := h5
 obtain rfl := hbb' _ rfl
 have hne : bb ≠ bb' := fun h => by rw [h, n2] at m2; omega
 let gc : G := ⟨g.w, g.pr, fun c => if c = bb then 1 else if c = bb' then 2 else 0, g.hpr, g.gl⟩
 have hle : g.le gc := ⟨Nat.le_refl _, fun _ _ h => h, fun _ _ _ => rfl, fun _ _ => rfl⟩
 have own : ∀ c, gc.own c = if c = bb then 1 else if c = bb' then 2 else 0 := fun _ => rfl
 have k4 : (Zbt (some bb) kS 0 z4).p gc (ptrV bb) := ⟨bb, cs4, ty4, rfl, ⟨m1, by rw [own, if_pos rfl], fun b' _ ho => by
   rw [own] at ho
   split at ho
   · assumption
   · split at ho <;> omega, m4, kS.mono hle m5, m6⟩, hbb⟩
 have k5 : (Zh6 (some bb') kV raw hpT 1 x).p gc (ptrV bb') := ⟨sg, ⟨bb', cs5, ty5, rfl, ⟨n1, by rw [own, if_neg (Ne.symm hne), if_pos rfl], fun b' _ ho => by
   rw [own] at ho
   split at ho
   · omega
   · split at ho
     · assumption
     · omega, n4, kV.mono hle n5, n6⟩, hbb'⟩, trivial⟩
 refine (hc gc v2 v bb bb' s z4 x r (Pd.le (q := kS.ptr s) rfl hle rfl rfl rfl hs) k4 k5 (Pd.le (q := Zk6 tf (kF.pd r)) rfl hle rfl rfl rfl hv)).mono ?_
 rintro e u' w' ⟨rfl, rfl, g', rfl, hB, q4, q5⟩
 have a4 : (Zbt (some bb) kS 0 s).p g' (Act.at a s4) := by rw [e4]; exact q4
 have a5 : (Zbt (some bb') kR 1 (mk r)).p g' (Act.at a s5) := by rw [e5]; exact q5
 obtain ⟨u4, r4, p4⟩ := Zbo (P := P) hT4 a4
 obtain ⟨u5, r5, p5⟩ := Zbo (P := P) hT5 a5
 have r4' : (Zfl a.tmps (.cell s4 t4)).run P g'.w = .ok u4 g'.w := r4
 have r5' : (Zfl a.tmps (.cell s5 t5)).run P g'.w = .ok u5 g'.w := r5
 have hle' : g.le g' := hle.trans hB.le
 show ∃ v, (results fn a.tmps).run P g'.w = .ok v g'.w ∧ _
 refine ⟨.tuple #[u4, u5], by simp [Zhu, hr, r4', r5'], g'.bare, _, rfl, rfl, ⟨hb.le.trans (hle'.trans (Zo4 g')), hB.os.trans hb.os, hB.tape.trans hb.tape, hB.output.trans hb.output, fun c hcl hc0 => ?_⟩, Zdj (Pd.le (q := kS.pd s) rfl (Zo4 g') rfl rfl rfl p4) (Pd.le (q := kR.pd (mk r)) rfl (Zo4 g') rfl rfl rfl p5)⟩
 obtain ⟨k1, k2, k3⟩ := hb.same c hcl hc0
 have h1 : c ≠ bb := fun h => by rw [h, m2] at k3; omega
 have h2 : c ≠ bb' := fun h => by rw [h, n2] at k3; omega
 obtain ⟨l1, l2, l3⟩ := hB.same c (Nat.lt_of_lt_of_le hcl hb.le.size) (by rw [own, if_neg h1, if_neg h2])
 exact ⟨l1.trans k1, l2.trans k2, rfl⟩
theorem Zs1 {t : TypeId} {ms : _} (w : World) (k : Nat) (hu : P.underlying t = some (.interface ms)) : (Op.equalIn (k + 1) t .nilIface .nilIface).run P w = .ok true w := by simp [Op.equalIn, run_underlying hu]
theorem Zr4 {t t2 : TypeId} {u2 : Value} {ms : _} (w : World) (k : Nat) (hu : P.underlying t = some (.interface ms)) : (Op.equalIn (k + 1) t (.iface t2 u2) .nilIface).run P w = .ok false w := by simp [Op.equalIn, run_underlying hu]
theorem Z7e {t ty : TypeId} (ht : (P.underlying t).map (fun u => match u with | .interface _ => true | _ => false) = some true) (hop : o.op = .binOp .eql t x (.const .nilIface) ty) (hd : o.dst = some d) (hx : Opd uses x (pEq .nilIface)) : OB P N o uses [(d, Zba true)] [] :=
 Zb8 hd fun a g hh => by
   have hv : a.eval x = .nilIface := hx a g hh
   refine ⟨.bool true, ?_, Zer _ g⟩
   cases hu : P.underlying t with
   | none => rw [hu] at ht; cases ht
   | some u =>
     rw [hu] at ht
     cases u <;> try (simp at ht; done)
     have hg : (eqGuard .eql t x (.const .nilIface) .nilIface .nilIface).run P g.w = .ok () g.w := by
       unfold eqGuard
       cases x <;> rfl
     have hb : (binOp .eql t .nilIface .nilIface).run P g.w = .ok (.bool true) g.w := by
       show (do pure (.bool (← Op.equal t .nilIface .nilIface)) : Sem Value).run P g.w = _
       have : (Op.equal t .nilIface .nilIface).run P g.w = .ok true g.w := by
         exact Zs1 g.w 9999 hu
       simp only [Sem.run_bind, this, Result.andThen_ok, Sem.run_pure]
     have hc : a.eval (.const .nilIface) = .nilIface := rfl
     simp [execOp, hop, hv, hc, hg, hb]
theorem Z41 {t ty t2 : TypeId} (ht : (P.underlying t).map (fun u => match u with | .interface _ => true | _ => false) = some true) (hop : o.op = .binOp .eql t x (.const .nilIface) ty) (hd : o.dst = some d) (hx : Opd uses x (Zk6 t2 q)) : OB P N o uses [(d, Zba false)] [] :=
 Zb8 hd fun a g hh => by
   obtain ⟨u2, hv, _⟩ := hx a g hh
   refine ⟨.bool false, ?_, Zer _ g⟩
   cases hu : P.underlying t with
   | none => rw [hu] at ht; cases ht
   | some u =>
     rw [hu] at ht
     cases u <;> try (simp at ht; done)
     have hg : (eqGuard .eql t x (.const .nilIface) (.iface t2 u2) .nilIface).run P g.w = .ok () g.w := by
       unfold eqGuard
       split <;> rfl
     have hb : (binOp .eql t (.iface t2 u2) .nilIface).run P g.w = .ok (.bool false) g.w := by
       show (do pure (.bool (← Op.equal t (.iface t2 u2) .nilIface)) : Sem Value).run P g.w = _
       have : (Op.equal t (.iface t2 u2) .nilIface).run P g.w = .ok false g.w := by
         exact Zr4 g.w 9999 hu
       simp only [Sem.run_bind, this, Result.andThen_ok, Sem.run_pure]
     have hc : a.eval (.const .nilIface) = .nilIface := rfl
     simp [execOp, hop, hv, hc, hg, hb]
theorem Z2s {t t2 : TypeId} (ht : (P.underlying t2).map (fun u => match u with | .interface _ => true | _ => false) = some false) (hop : o.op = .typeAssert x t t2 true) (hd : o.dst = some d) (hx : Opd uses x (Zk6 t2 q)) : OB P N o uses [(d, pTup [q, Zba true])] [] :=
 Zb8 hd fun a g hh => by
   obtain ⟨u2, hv, hq⟩ := hx a g hh
   refine ⟨.tuple #[u2, .bool true], ?_, Zdj hq (Zer _ g)⟩
   cases hu : P.underlying t2 with
   | none => rw [hu] at ht; cases ht
   | some u =>
     rw [hu] at ht
     cases u <;> first | (simp at ht; done) | simp [execOp, hop, hv, Instr.typeAssert, run_underlying hu]
end
theorem Z2e {c : Code} {a : Act} {w : World} (J : Act → Prop) (hJ : J a) (h : ∀ a, J a → c.wp P Q a w) : c.wp P Q a w := h a hJ
theorem Zw0 {a : Act} {n : Nat} {g : G} {v : Value} (e : Act.at a n = v) (h : q.p g v) : q.p g (Act.at a n) := e ▸ h
abbrev dact (a : Act) (d1 : Nat) (v : Value) (D : List Deferred) : Act := { tmps := (a.put (some d1) v).tmps, defers := D }
theorem Zrw {a : Act} {d1 n : Nat} {v : Value} {D : List Deferred} {g : G} (h : n ≠ d1) (hq : q.p g (Act.at a n)) : q.p g (Act.at (dact a d1 v D) n) := by
 have : Act.at (dact a d1 v D) n = Act.at a n := Zi6 (a := a) v (fun e => h (Option.some.inj e).symm)
 rw [this]; exact hq
theorem Z4a {a : Act} {g : G} {v u : Value} (h : q.p g u) (e : u = v) : (pAt v q).p g (Act.at a 1000) := e ▸ h
theorem Z9w {k a b : Nat} (h : k = a) (h' : k = b) (hn : a ≠ b) : False := hn (h.symm.trans h')
end
end Go.CL
namespace Go.CL
open Go Go.RowKit Go.Proofs
theorem Zvd : Zzq Tryz.prog 29 := by
 intro g v2 b4 b5
 refine callsD_of_wpS Tryz.func29 rfl fun c₀ cs hu => ?_
 apply wpS_seq
 apply wpS_region
 simp [wpOpsS, go_sem, recoverD, hu, Tryz.ntmps29, Exit.thenS]
 refine wpS_of_wp ?_
 refine Z2e (fun a => St 18 [(6, pEq .nilIface)] a g.bare) ?_ (fun a hst => ?_)
 · exact ⟨by simp, rfl, Zfg (show Act.at _ _ = _ by simp [Act.at, Array.getD_eq_getD_getElem?, Array.getElem?_append, Array.getElem?_setIfInBounds]) Zn9⟩
 have hb := Zqm g
 refine (show (Code.block _ _).wp Tryz.prog _ a g.bare.w from ?_)
 refine wp_block ?_
 refine r_s (T := [⟨[.old 0], _, [], [], [8]⟩]) (F := [.op 0 0, .old 0]) hst hb Zb
   (o_p rfl (Z7e (by kernel_rfl) rfl rfl u_0) <| o_n) (by kernel_rfl) (fun a g1 hst hb => ?_)
 refine wp_cond_split (hst.bool 0 rfl) (fun _ => ?_) (fun hc => by cases hc)
 refine r_g (L := [(6, _)]) (T := [⟨[.old 0], _, [], [], [3]⟩]) (F := [.old 0]) (hst.pick [1] rfl) hb Zb
   (o_p rfl (Zc rfl rfl u_0) <| o_n) (by kernel_rfl) (fun a g1 hst hb => ?_)
 refine Zbu ?_
 obtain ⟨g2, e2, hs, _⟩ := Zq8 hb
 refine ⟨hst.df, .returning, ?_, .tuple #[], by simp [results, Tryz.results29], rfl, rfl, g2, e2.symm, hs⟩
 rw [← hu]
theorem Zuk : Z0c Tryz.prog 29 Z1 Zc8 Zdy Zck 81 Ze3 (fun r => ({ Code := r.code, At := r.at_, Answers := ([] : List Zh) } : Z7)) := by
 intro g v2 v b4 b5 s z4 x r hs h4 h5 hv
 refine callsD_of_wpS Tryz.func29 rfl fun c₀ cs hu => ?_
 apply wpS_seq
 apply wpS_region
 simp [wpOpsS, go_sem, recoverD, hu, Tryz.ntmps29, Exit.thenS]
 refine wpS_of_wp ?_
 refine Z2e (fun a => St 18 [(0, Z1.ptr s), (1, Zbt (some b4) Z1 0 z4), (2, Zh6 (some b5) Zc8 Zdy hpT 1 x), (6, Zk6 81 (Ze3.pd r))] a g) ?_ (fun a hst => ?_)
 · exact ⟨by simp, rfl, Zfg (Zw0 (v := v2) (by simp [Act.at, Array.getD_eq_getD_getElem?, Array.getElem?_append, Array.getElem?_setIfInBounds]) hs) (Zfg (Zw0 (v := ptrV b4) (by simp [Act.at, Array.getD_eq_getD_getElem?, Array.getElem?_append, Array.getElem?_setIfInBounds]) h4) (Zfg (Zw0 (v := ptrV b5) (by simp [Act.at, Array.getD_eq_getD_getElem?, Array.getElem?_append, Array.getElem?_setIfInBounds]) h5) (Zfg (Zw0 (v := v) (by simp [Act.at, Array.getD_eq_getD_getElem?, Array.getElem?_append, Array.getElem?_setIfInBounds]) hv) Zn9)))⟩
 have hb : Base g g := ⟨.refl _, rfl, rfl, rfl, fun _ _ h => ⟨rfl, rfl, h⟩⟩
 refine (show (Code.block _ _).wp Tryz.prog _ a g.w from ?_)
 refine wp_block ?_
 refine r_s (T := [⟨[.old 3], _, [], [], [8]⟩]) (F := [.old 0, .old 1, .old 2, .old 3, .op 0 0]) hst hb Zb
   (o_p rfl (Z41 (by kernel_rfl) rfl rfl u_0) <| o_n) (by kernel_rfl) (fun a g1 hst hb => ?_)
 refine wp_cond_split (hst.bool 4 rfl) (fun hc => by cases hc) (fun _ => ?_)
 refine r_s (L := [(0, _), (1, _), (2, _), (6, _)]) (T := [⟨[.old 3], _, [], [], [9]⟩, ⟨[.op 0 0], _, [], [0], [10]⟩, ⟨[.op 0 0], _, [], [0], [11]⟩]) (F := [.old 0, .old 1, .old 2, .op 1 0, .op 2 0]) (hst.pick [0, 1, 2, 3] rfl) hb Zb
   (o_p rfl (Z2s (by kernel_rfl) rfl rfl u_0) <| o_p rfl (Z5 rfl rfl u_0 rfl) <| o_p rfl (Z5 rfl rfl u_0 rfl) <| o_n) (by kernel_rfl) (fun a g1 hst hb => ?_)
 refine wp_cond_split (hst.bool 3 rfl) (fun _ => ?_) (fun hc => by cases hc)
 refine r_s (L := [(0, _), (1, _), (2, _), (11, _)]) (T := [⟨[], [(4, (pBox Ze3 90 (default : Zdk)))], [91], [], [4]⟩, ⟨[.op 0 0, .old 3], _, [91], [0], [4]⟩]) (F := [.old 0, .old 1, .old 2, .op 1 0]) (hst.pick [0, 1, 2, 4] rfl) hb Zb
   (o_p rfl (Zbg (zs := [.int .i64 0, .int .i64 0]) (by kernel_rfl) (fun g => Zug g) rfl rfl) <| o_p rfl (Zb1 Zba7 rfl rfl u_0 u_1) <| o_n) (by kernel_rfl) (fun a g1 hst hb => ?_)
 refine r_g (T := [⟨[.old 0], _, [], [], [12]⟩, ⟨[.old 3], _, [], [], [13]⟩, ⟨[.op 1 0], _, [], [1], [14]⟩, ⟨[.old 3], _, [], [], [15]⟩, ⟨[.op 3 0], _, [], [3], [16]⟩, ⟨[.op 2 0, .op 4 0], _, [], [1, 2, 3, 4], [17]⟩, ⟨[.old 1, .op 0 0], _, [1], [0], [1]⟩, ⟨[.old 2, .op 5 0], _, [2], [0, 1, 2, 3, 4, 5, 6], [2]⟩]) (F := [.op 6 0, .op 7 0]) hst hb Zb
   (o_p rfl (Zf Zbs rfl rfl u_0) <| o_p rfl (Ze Z6j rfl rfl u_0) <| o_p rfl (Zf Zlw rfl rfl u_0) <| o_p rfl (Ze Z71 rfl rfl u_0) <| o_p rfl (Zf ty_3 rfl rfl u_0) <| o_p rfl (Zq1 rfl rfl u_0 u_1) <| o_p rfl (Z8 Zbs rfl rfl u_0 u_1) <| o_p rfl (Zpy (kV := Zc8) (by rfl) Zja rfl rfl u_0 u_1) <| o_n) (by kernel_rfl) (fun a g1 hst hb => ?_)
 refine Zbu ?_
 have k4 := hst.at 0 rfl
 have k5 := hst.at 1 rfl
 have w4 : Act.at a 1 = ptrV b4 := Z3t k4
 have w5 : Act.at a 2 = ptrV b5 := Z3t k5
 exact ⟨hst.df, .panicking [{ v := v, recovered := true }], rfl, .tuple #[], by simp [results, Tryz.results29], rfl, rfl, g1, rfl, hb, w4 ▸ k4, w5 ▸ k5⟩
theorem Zxl (a0 : Zm) (a1 : Zh) (a2 : Int) {r : Zh} (h : Zmo a0 a1 a2 = some r) : FnOk Tryz.prog 30 [(Z2.pd a0), (Zt.pd a1), (pInt .i64 a2)] (Zt.pd r) := by
 have H0 := h
 unfold Zmo at H0
 clear h
 refine Zbr (N := 20) Tryz.func30 rfl rfl (Nat.le_of_ble_eq_true rfl) rfl rfl (fun a g0 hst hb => ?_)
 refine r_s (T := [⟨[.old 0], _, [], [], [3]⟩, ⟨[.old 1], _, [], [], [4]⟩, ⟨[], [(6, (pBox Zt 6 (default : Zh)))], [7], [], [6]⟩]) (F := [.old 2, .op 0 0, .op 1 0, .op 2 0]) hst hb Zb
   (o_p rfl (Zbh rfl rfl u_0) <| o_p rfl (Zbh rfl rfl u_0) <| o_p rfl (Zbg (zs := [.int .i64 0, .int .i64 0, .int .i64 0, .int .i64 0, .int .i64 0, .int .i64 0, .float .f64 0, .int .i64 0, .string ByteArray.empty, .slice none 0 0]) (by kernel_rfl) (fun g => Zej g) rfl rfl) <| o_n) (by kernel_rfl) (fun a g hst hb => ?_)
 refine wp_seq ?_
 refine r_s (T := [⟨[.old 1], _, [], [], [7]⟩, ⟨[.op 0 0], _, [], [0], [8]⟩, ⟨[.op 1 0], _, [], [0, 1], [9]⟩, ⟨[.op 2 0, .old 2], _, [], [0, 1, 2], [10]⟩, ⟨[.op 2 0, .op 3 0], _, [], Lr 4, [11]⟩, ⟨[.op 2 0, .op 4 0], _, [], Lr 5, [12]⟩, ⟨[.op 2 0, .op 5 0], _, [], Lr 6, [13]⟩]) (F := [.old 0, .old 2, .old 3, .op 6 0]) hst hb Zb
   (o_p rfl (Ze Z0b rfl rfl u_0) <| o_p rfl (Zf ty_4 rfl rfl u_0) <| o_p rfl (Za rfl rfl u_0) <| o_g (g_t rfl rfl rfl (fun hG => Ze Zmh rfl rfl u_0)) <| o_g (g_t rfl rfl rfl (fun hG => Zf Zlw rfl rfl (Opd.gd hG u_0))) <| o_g (g_t rfl rfl rfl (fun hG => Zf2 rfl rfl (Opd.gd hG u_0) c_i)) <| o_p rfl (Zbf rfl rfl u_0 (fun hz => (Opd.gd hz u_1))) <| o_n) (by kernel_rfl) (fun a g hst hb => ?_)
 refine Zcx (fun a w => ∃ (g : G), w = g.w ∧ St 20 [(4, (Zt.ptr a1)), (6, (pBox Zt 6 (default : Zh)))] a g ∧ Base g0 g ∧ Znx a1 = some r) ?_ ?_
 · rintro a w ⟨g, rfl, hst, hb, H0⟩
   unfold Znx at H0
   refine Zv ?_
   refine r_s (T := [⟨[.old 0], _, [], [], [19]⟩, ⟨[.op 0 0, .old 1], _, [7], [0], [6]⟩]) (F := [.op 1 0]) hst hb Zb
     (o_p rfl (Zf Zcg rfl rfl u_0) <| o_p rfl (Z8 Zcg rfl rfl u_1 u_0) <| o_n) (by kernel_rfl) (fun a g hst hb => ?_)
   refine wp_ret ?_
   obtain rfl := Option.some.inj H0
   obtain ⟨u0, hu0, hq0⟩ := Zbo (P := Tryz.prog) Zcg (hst.at 0 rfl)
   exact Zx rfl hst hb hu0 hq0
 · refine wp_cond_split (hst.bool 3 rfl) (fun hc1 => ?_) (fun hc1 => ?_)
   · replace H0 := Zy hc1 H0
     cases H0
   · replace H0 := Zz hc1 H0
     refine wp_skip ?_
     exact ⟨g, rfl, (hst.pick [1, 2] rfl), hb, H0⟩
theorem Zup (a0 : Zm) (a1 : Zh) (a2 : Int) {r : Zdk} (h : Zk7 a0 a1 a2 = some r) : Z1o Tryz.prog 30 [(Z2.pd a0), (Zt.pd a1), (pInt .i64 a2)] (Zk6 81 (Ze3.pd r)) := by
 have H0 := h
 unfold Zk7 at H0
 clear h
 refine Z4b (N := 20) Tryz.func30 rfl rfl (Nat.le_of_ble_eq_true rfl) rfl rfl (fun a g0 hst hb => ?_)
 refine r_s (T := [⟨[.old 0], _, [], [], [3]⟩, ⟨[.old 1], _, [], [], [4]⟩, ⟨[], [(6, (pBox Zt 6 (default : Zh)))], [7], [], [6]⟩]) (F := [.old 2, .op 0 0, .op 1 0, .op 2 0]) hst hb Zb
   (o_p rfl (Zbh rfl rfl u_0) <| o_p rfl (Zbh rfl rfl u_0) <| o_p rfl (Zbg (zs := [.int .i64 0, .int .i64 0, .int .i64 0, .int .i64 0, .int .i64 0, .int .i64 0, .float .f64 0, .int .i64 0, .string ByteArray.empty, .slice none 0 0]) (by kernel_rfl) (fun g => Zej g) rfl rfl) <| o_n) (by kernel_rfl) (fun a g hst hb => ?_)
 refine wp_seq ?_
 refine r_s (T := [⟨[.old 1], _, [], [], [7]⟩, ⟨[.op 0 0], _, [], [0], [8]⟩, ⟨[.op 1 0], _, [], [0, 1], [9]⟩, ⟨[.op 2 0, .old 2], _, [], [0, 1, 2], [10]⟩, ⟨[.op 2 0, .op 3 0], _, [], Lr 4, [11]⟩, ⟨[.op 2 0, .op 4 0], _, [], Lr 5, [12]⟩, ⟨[.op 2 0, .op 5 0], _, [], Lr 6, [13]⟩]) (F := [.old 0, .old 2, .old 3, .op 6 0]) hst hb Zb
   (o_p rfl (Ze Z0b rfl rfl u_0) <| o_p rfl (Zf ty_4 rfl rfl u_0) <| o_p rfl (Za rfl rfl u_0) <| o_g (g_t rfl rfl rfl (fun hG => Ze Zmh rfl rfl u_0)) <| o_g (g_t rfl rfl rfl (fun hG => Zf Zlw rfl rfl (Opd.gd hG u_0))) <| o_g (g_t rfl rfl rfl (fun hG => Zf2 rfl rfl (Opd.gd hG u_0) c_i)) <| o_p rfl (Zbf rfl rfl u_0 (fun hz => (Opd.gd hz u_1))) <| o_n) (by kernel_rfl) (fun a g hst hb => ?_)
 refine Zcx (fun a w => ∃ (g : G), w = g.w ∧ St 20 [(4, (Zt.ptr a1)), (6, (pBox Zt 6 (default : Zh)))] a g ∧ Base g0 g ∧ Zmg = some r) ?_ ?_
 · rintro a w ⟨g, rfl, hst, hb, H0⟩
   unfold Zmg at H0
   refine Zv ?_
   refine r_s (T := [⟨[.old 0], _, [], [], [19]⟩, ⟨[.op 0 0, .old 1], _, [7], [0], [6]⟩]) (F := [.op 1 0]) hst hb Zb
     (o_p rfl (Zf Zcg rfl rfl u_0) <| o_p rfl (Z8 Zcg rfl rfl u_1 u_0) <| o_n) (by kernel_rfl) (fun a g hst hb => ?_)
   cases H0
 · refine wp_cond_split (hst.bool 3 rfl) (fun hc1 => ?_) (fun hc1 => ?_)
   · replace H0 := Zy hc1 H0
     obtain rfl := Option.some.inj H0
     refine r_gQ (L := [(2, _), (4, _), (6, _)]) (T := [⟨[.old 1], _, [], [], [14]⟩, ⟨[.op 0 0], _, [], [0], [15]⟩, ⟨[.old 0], _, [], [], [16]⟩, ⟨[.op 1 0, .op 2 0], _, [], [0, 1, 2], [17]⟩, ⟨[.op 3 0], _, [], Lr 4, [18]⟩, ⟨[.op 4 0], [(1001, pNo)], [], Lr 5, [1001]⟩]) (F := [.op 5 0]) (hst.pick [0, 1, 2] rfl) hb Zb
       (q_p rfl (Ze Zmh rfl rfl u_0) <| q_p rfl (Zf Zlw rfl rfl u_0) <| q_p rfl (Za rfl rfl u_0) <| q_p rfl (Z14 rfl rfl u_0 u_1) <| q_p rfl (Z34 (by kernel_rfl) rfl rfl u_0) <| q_q (Z3r rfl rfl u_0 (fun a g v hN hD hb hu hv => by refine Zo0 ?_; refine Zo0 ?_; exact Z87 hD hb hv)) <| q_n) (by kernel_rfl) (fun a g hst hb => (hst.at 0 rfl).elim)
   · replace H0 := Zz hc1 H0
     refine wp_skip ?_
     exact ⟨g, rfl, (hst.pick [1, 2] rfl), hb, H0⟩
theorem Zsc (a0 : Zn) (a1 : Zbk) {r : Zn × Z7} (h : Zkh a0 a1 = some r) : FnOk Tryz.prog 13 [(Z1.pd a0), (Zcf.pd a1)] (pTup [(Z1.pd r.1), (Zck.pd r.2)]) := by
 have H0 := h
 unfold Zkh at H0
 clear h
 refine Z8u (N := 52) Tryz.func13 rfl rfl (Nat.le_of_ble_eq_true rfl) rfl rfl (fun a g0 h0 hst hb => ?_)
 refine r_s (T := [⟨[.old 0], _, [], [], [2]⟩, ⟨[.old 1], _, [], [], [3]⟩, ⟨[], [(4, (pBox Z1 4 (default : Zn)))], [5], [], [4]⟩, ⟨[], [(5, (Zh6 none Zc8 Zdy (hpL (pRow Zt 58 505 ((default : Z7).Answers))) 5 (default : Z7)))], [6], [], [5]⟩]) (F := [.op 0 0, .op 1 0, .op 2 0, .op 3 0]) hst hb Zb
   (o_p rfl (Zbh rfl rfl u_0) <| o_p rfl (Zbh rfl rfl u_0) <| o_p rfl (Zbg (zs := [.pointer none, .int .i64 0]) (by kernel_rfl) (fun g => Zcm g) rfl rfl) <| o_p rfl (Z29 (R := hpL (pRow Zt 58 505 ((default : Z7).Answers))) (zs := [.int .i64 0, .int .i64 0, .slice none 0 0]) (none, 0, 0) (by kernel_rfl) Zt6 (fun g => Zxz 505 g) rfl rfl) <| o_n) (by kernel_rfl) (fun a g hst hb => ?_)
 refine wp_seq ?_
 obtain ⟨r1, h2, H0⟩ := Zg H0
 refine r_s (T := [⟨[.old 1], _, [], [], [13]⟩, ⟨[.op 0 0], _, [], [0], [14]⟩, ⟨[.op 1 0], _, [], [0, 1], [12]⟩, ⟨[.op 2 0], _, [], [0, 1, 2], [15]⟩, ⟨[.op 2 0], _, [], [0, 1, 2], [16]⟩, ⟨[.op 3 0], _, [], Lr 4, [6]⟩, ⟨[.op 4 0], _, [], Lr 6, [7]⟩]) (F := [.old 0, .old 1, .old 2, .old 3, .op 5 0, .op 6 0]) hst hb Zb
   (o_p rfl (Zf Zht rfl rfl u_0) <| o_p rfl (Zo Z9r (Zwo _ h2) rfl rfl (.cons u_0 .nil)) <| o_p rfl (Za rfl rfl u_0) <| o_p rfl (Z5 rfl rfl u_0 rfl) <| o_p rfl (Z5 rfl rfl u_0 rfl) <| o_p rfl (Zc rfl rfl u_0) <| o_p rfl (Zc rfl rfl u_0) <| o_n) (by kernel_rfl) (fun a g hst hb => ?_)
 refine r_s (T := [⟨[.old 4], _, [], [], [17]⟩, ⟨[.op 0 0], _, [], [0], [18]⟩]) (F := [.old 0, .old 1, .old 2, .old 3, .old 4, .old 5, .op 1 0]) hst hb Zb
   (o_p rfl (Za rfl rfl u_0) <| o_p rfl (Zf2 rfl rfl u_0 c_i) <| o_n) (by kernel_rfl) (fun a g hst hb => ?_)
 refine wp_cond_split (hst.bool 6 rfl) (fun hc3 => ?_) (fun hc3 => ?_)
 · replace H0 := Zy hc3 H0
   refine r_s (L := [(2, _), (4, _), (5, _), (6, _), (7, _)]) (T := [⟨[.old 0], _, [], [], [19]⟩, ⟨[.old 3], _, [], [], [20]⟩, ⟨[.old 4], _, [], [], [21]⟩, ⟨[.op 1 0, .op 2 0], _, [], [1, 2], [22]⟩, ⟨[.op 0 0, .old 1], _, [5], [0], [4]⟩, ⟨[.op 3 0, .old 2], _, [6], Lr 5, [5]⟩]) (F := [.old 0, .op 4 0, .op 5 0]) (hst.pick [0, 2, 3, 4, 5] rfl) hb Zb
     (o_p rfl (Zf Zbs rfl rfl u_0) <| o_p rfl (Za rfl rfl u_0) <| o_p rfl (Za rfl rfl u_0) <| o_p rfl (Zq1 rfl rfl u_0 u_1) <| o_p rfl (Z8 Zbs rfl rfl u_1 u_0) <| o_p rfl (Zpy (kV := Zc8) (by rfl) Zja rfl rfl u_1 u_0) <| o_n) (by kernel_rfl) (fun a g hst hb => ?_)
   refine wp_ret ?_
   refine Zp ?_
   obtain rfl := Option.some.inj H0
   obtain ⟨u0, hu0, hq0⟩ := Zbo (P := Tryz.prog) Zbs (hst.at 1 rfl)
   obtain ⟨u1, hu1, hq1⟩ := Zbo (P := Tryz.prog) Zja (hst.at 2 rfl)
   exact Z78 rfl hst hb hu0 hu1 (Zdj hq0 hq1)
 · replace H0 := Zz hc3 H0
   refine wp_skip ?_
   refine Zv ?_
   obtain ⟨b4, e4, q4⟩ := Zz3 (hst.at 2 rfl)
   obtain ⟨b5, e5, q5⟩ := Z70 (hst.at 3 rfl)
   refine wp_seq ?_
   have q2 := (hst.at 0 rfl)
   obtain ⟨v2, hv2⟩ : ∃ v2, Act.at a 2 = v2 := ⟨_, rfl⟩
   refine Z21 (f := 29) (d1 := 23) (x1 := 2) (x2 := 4) (x3 := 5) ?_ ?_ ?_ ?_ ?_ ?_ ?_ hv2 e4 e5 hst.df ?_
   · rfl
   · rfl
   · rfl
   · rfl
   · rfl
   · rfl
   · rw [hst.size]; decide
   replace hst : StD (dfr3 29 v2 b4 b5) 52 [(2, (Z1.ptr a0)), (3, (Zcf.ptr a1)), (4, (Zbt (some b4) Z1 4 (default : Zn))), (5, (Zh6 (some b5) Zc8 Zdy (hpL (pRow Zt 58 505 ((default : Z7).Answers))) 5 (default : Z7))), (1000, (pAt v2 (Z1.ptr a0)))] (dact a 23 (.func (.func 29) #[] #[v2, .pointer (some ⟨b4, 0, none⟩), .pointer (some ⟨b5, 0, none⟩)]) (dfr3 29 v2 b4 b5)) g := ⟨(Zxk ..).trans hst.size, rfl, (Zfg (Zrw (by decide) (hst.at 0 rfl)) (Zfg (Zrw (by decide) (hst.at 1 rfl)) (Zfg (Zrw (by decide) q4) (Zfg (Zrw (by decide) q5) (Zfg (Z4a q2 hv2) Zn9)))))⟩
   refine Zv ?_
   refine r_s (T := [⟨[.old 0], _, [], [], [24]⟩, ⟨[], [(8, (pBox Z1 8 (default : Zn)))], [9], [], [8]⟩, ⟨[.op 0 0, .op 1 0], _, [9], [0, 1], [8]⟩]) (F := [.old 0, .old 1, .old 2, .old 3, .op 2 0, .old 4]) hst hb Zb
     (o_p rfl (Zf Zbs rfl rfl u_0) <| o_p rfl (Zbg (zs := [.pointer none, .int .i64 0]) (by kernel_rfl) (fun g => Zcm g) rfl rfl) <| o_p rfl (Z8 Zbs rfl rfl u_1 u_0) <| o_n) (by kernel_rfl) (fun a g hst hb => ?_)
   refine wp_seq ?_
   refine r_s (T := [⟨[.old 1], _, [], [], [25]⟩, ⟨[.op 0 0], _, [], [0], [26]⟩, ⟨[.op 1 0], _, [], [0, 1], [27]⟩, ⟨[], _, [], [], [28]⟩]) (F := [.old 0, .old 2, .old 3, .old 4, .op 1 0, .op 2 0, .op 3 0, .old 5]) hst hb Zb
     (o_p rfl (Ze Zhd rfl rfl u_0) <| o_p rfl (Zf Zj4 rfl rfl u_0) <| o_p rfl (Zb4 Tryz.underlying23 rfl rfl u_0) <| o_p rfl (Za rfl rfl c_i) <| o_n) (by kernel_rfl) (fun a g hst hb => ?_)
   obtain ⟨z19, hz1, H0⟩ := Zg H0
   refine Zcx (fun a w => ∃ (y17 : Z7) (y18 : Zn) (g : G), w = g.w ∧ StD (dfr3 29 v2 b4 b5) 52 [(2, (Z1.ptr a0)), (4, (Zbt (some b4) Z1 4 (default : Zn))), (5, (Zh6 (some b5) Zc8 Zdy (hpL (pRow Zt 58 505 y17.Answers)) 5 y17)), (8, (pBox Z1 8 y18)), (1000, (pAt v2 (Z1.ptr a0)))] a g ∧ Base g0 g ∧ (.inr (y17, y18)) = z19) ?_ ?_
   · rintro a w ⟨y17, y18, g, rfl, hst, hb, rfl⟩
     refine Zv ?_
     refine r_s (T := [⟨[.old 3], _, [], [], [50]⟩, ⟨[.old 2], _, [], [], [51]⟩, ⟨[.op 0 0, .old 1], _, [5], [0], [4]⟩, ⟨[.op 1 0, .old 2], _, [6], [0, 1, 2], [5]⟩]) (F := [.old 0, .op 2 0, .op 3 0, .old 4]) hst hb Zb
       (o_p rfl (Zcp Zbs rfl rfl u_0) <| o_p rfl (Z5d Ztj Zja rfl rfl u_0) <| o_p rfl (Z8 Zbs rfl rfl u_1 u_0) <| o_p rfl (Zpy (kV := Zc8) (by rfl) Zja rfl rfl u_1 u_0) <| o_n) (by kernel_rfl) (fun a g hst hb => ?_)
     refine wp_ret ?_
     obtain rfl := Option.some.inj H0
     exact Z6o Zvd Z5i rfl Zbs Zja hst hb (hst.at 1 rfl) (hst.at 2 rfl)
   · refine wp_block ?_
     refine wp_loop_ghost (fun n a w => ∃ (x4 : Z7) (x5 : Zn) (x6 : Int) (g : G), w = g.w ∧ StD (dfr3 29 v2 b4 b5) 52 [(2, (Z1.ptr a0)), (4, (Zbt (some b4) Z1 4 (default : Zn))), (5, (Zh6 (some b5) Zc8 Zdy (hpL (pRow Zt 58 505 x4.Answers)) 5 x4)), (8, (pBox Z1 8 x5)), (26, (Z2.sl.pd a1.Acts)), (27, (pInt .i64 (a1.Acts.length : Int))), (28, (pInt .i64 x6)), (1000, (pAt v2 (Z1.ptr a0)))] a g ∧ Base g0 g ∧ Zgw a0 a1 n x4 x5 x6 = some z19) (Int.toNat ((a1.Acts.length : Int) - (0 : Int)) + 1) ⟨(default : Z7), a0, (0 : Int), g, rfl, (hst.pick [0, 1, 2, 3, 4, 5, 6, 7] rfl), hb, hz1⟩ (fun n a w hI => ?_)
     obtain ⟨x4, x5, x6, g, rfl, hst, hb, H1⟩ := hI
     cases n with
     | zero => exact absurd H1 (by simp [Zgw])
     | succ n =>
       rw [Zgw] at H1
       refine r_s (T := [⟨[.old 6, .old 5], _, [], [], [29]⟩]) (F := [.old 0, .old 1, .old 2, .old 3, .old 4, .old 5, .old 6, .op 0 0, .old 7]) hst hb Zb
         (o_p rfl (Zco rfl rfl u_0 u_1) <| o_n) (by kernel_rfl) (fun a g hst hb => ?_)
       refine wp_seq ?_
       refine wp_cond_split (hst.bool 7 rfl) (fun hc7 => ?_) (fun hc7 => ?_)
       · replace H1 := Zy hc7 H1
         refine wp_skip ?_
         refine Zv ?_
         refine wp_seq ?_
         refine wp_block ?_
         obtain ⟨e8, h9, H1⟩ := Zg H1
         refine r_s (L := [(2, _), (4, _), (5, _), (8, _), (26, _), (27, _), (28, _), (1000, _)]) (T := [⟨[.old 6], _, [], [], [30]⟩, ⟨[.old 4, .old 6], _, [], [], [31]⟩, ⟨[.op 1 0], _, [], [1], [32]⟩, ⟨[], [(10, (pBox Z2 10 (default : Zm)))], [11], [], [10]⟩, ⟨[.op 0 0], _, [], Lr 4, [9]⟩, ⟨[.op 2 0, .op 3 0], _, [11], Lr 5, [10]⟩]) (F := [.old 0, .old 1, .old 2, .old 3, .op 4 0, .op 5 0, .old 4, .old 5, .old 6, .old 7]) (hst.pick [0, 1, 2, 3, 4, 5, 6, 8] rfl) hb Zb
           (o_p rfl (Za rfl rfl u_0) <| o_p rfl (Zbp Tryz.underlying23 Zml rfl rfl u_0 u_1 h9) <| o_p rfl (Zf Zei rfl rfl u_0) <| o_p rfl (Zbg (zs := [.int .i64 0, .string ByteArray.empty, .int .i64 0, .float .f64 0, .string ByteArray.empty, .int .i64 0, .int .i64 0, .int .i64 0, .int .i64 0, .float .f64 0, .int .i64 0, .string ByteArray.empty, .slice none 0 0, .bool false]) (by kernel_rfl) (fun g => Zje g) rfl rfl) <| o_p rfl (Zc rfl rfl u_0) <| o_p rfl (Zb1 Zei rfl rfl u_1 u_0) <| o_n) (by kernel_rfl) (fun a g hst hb => ?_)
         refine r_s (T := [⟨[], [(11, (pBox Zt 11 (default : Zh)))], [12], [], [11]⟩]) (F := [.old 0, .old 1, .old 2, .old 3, .old 4, .old 5, .op 0 0, .old 6, .old 7, .old 8, .old 9]) hst hb Zb
           (o_p rfl (Zbg (zs := [.int .i64 0, .int .i64 0, .int .i64 0, .int .i64 0, .int .i64 0, .int .i64 0, .float .f64 0, .int .i64 0, .string ByteArray.empty, .slice none 0 0]) (by kernel_rfl) (fun g => Zej g) rfl rfl) <| o_n) (by kernel_rfl) (fun a g hst hb => ?_)
         obtain ⟨r10, h11, H1⟩ := Zg H1
         refine r_s (T := [⟨[.old 3], _, [], [], [34]⟩, ⟨[.old 5], _, [], [], [35]⟩, ⟨[.op 0 0, .op 1 0], _, [], [0, 1], [36]⟩, ⟨[.op 2 0], _, [], [0, 1, 2], [33]⟩, ⟨[.op 3 0], _, [], Lr 4, [37]⟩, ⟨[.op 3 0], _, [], Lr 4, [38]⟩, ⟨[.op 4 0, .old 3], _, [9], Lr 5, [8]⟩, ⟨[.op 5 0, .old 6], _, [12], Lr 7, [11]⟩]) (F := [.old 0, .old 1, .old 2, .op 6 0, .old 4, .old 5, .op 7 0, .old 7, .old 8, .old 9, .old 10]) hst hb Zb
           (o_p rfl (Zcp Zbs rfl rfl u_0) <| o_p rfl (Zf Zei rfl rfl u_0) <| o_p rfl (Zo Z6b (Zsa _ _ h11) rfl rfl (.cons u_0 (.cons u_1 .nil))) <| o_p rfl (Za rfl rfl u_0) <| o_p rfl (Z5 rfl rfl u_0 rfl) <| o_p rfl (Z5 rfl rfl u_0 rfl) <| o_p rfl (Z8 Zbs rfl rfl u_1 u_0) <| o_p rfl (Z8 Zcg rfl rfl u_1 u_0) <| o_n) (by kernel_rfl) (fun a g hst hb => ?_)
         rcases Z47 H1 with ⟨p12, h13, H1⟩ | ⟨h13, H1⟩
         · obtain rfl := Option.some.inj H1
           obtain rfl := Option.some.inj H0
           refine r_gQ (L := [(2, _), (4, _), (5, _), (8, _), (9, _), (10, _), (11, _), (26, _), (27, _), (28, _), (1000, _)]) (T := [⟨[.old 2], _, [], [], [39]⟩, ⟨[.op 0 0], _, [], [0], [40]⟩, ⟨[.old 5], _, [], [], [41]⟩, ⟨[.old 6], _, [], [], [42]⟩, ⟨[.old 4], _, [], [], [43]⟩, ⟨[.op 4 0], _, [], [4], [44]⟩, ⟨[.op 2 0, .op 3 0, .op 5 0, .old 1, .old 2, .old 10], [(45, pNo)], [], List.range' 2 4, [45]⟩, ⟨[.op 6 0], [], [], List.range' 2 5, [46]⟩, ⟨[.op 6 0], [], [], Lr 8, [47]⟩, ⟨[.op 6 0], [], [], Lr 9, [48]⟩, ⟨[.op 6 0], [], [], Lr 10, []⟩]) (F := [.op 6 0]) hst hb Zb
             (q_p rfl (Zq4 Zsq (off := 2) (q := (pRow Zt 58 505 x4.Answers)) (by kernel_rfl) (pr := id) (fun _ => rfl) (fun _ _ h => h) rfl rfl u_0) <| q_p rfl (Zw6 Zyg rfl rfl u_0) <| q_p rfl (Zf Zei rfl rfl u_0) <| q_p rfl (Zcp Zcg rfl rfl u_0) <| q_p rfl (Za rfl rfl u_0) <| q_p rfl (Zcd rfl rfl u_0 c_i rfl) <| q_q (Zzo Z59 (Zup _ _ _ h13) rfl rfl (.cons u_0 (.cons u_1 (.cons u_2 .nil))) (fun a g v hN hD hb hu hv => by refine Zvw ?_; refine Zo0 ?_; refine Zo0 ?_; refine Zvw ?_; refine Zo0 ?_; refine Zo0 ?_; exact Z2a (r := p12) (s4 := 4) (s5 := 5) Zuk Z5i rfl Zbs Zja h0 hD hb (by decide) (hu _ (List.mem_of_getElem? (i := 5) rfl)) (hu _ (List.mem_of_getElem? (i := 3) rfl)) (hu _ (List.mem_of_getElem? (i := 4) rfl)) hv)) <| q_p rfl (Zt1 u_0) <| q_p rfl (Zt1 u_0) <| q_p rfl (Zt1 u_0) <| q_p rfl (Zt1 u_0) <| q_n) (by kernel_rfl) (fun a g hst hb => (hst.at 0 rfl).elim)
         · obtain ⟨r14, h15, H1⟩ := Zg H1; obtain ⟨h16, H1⟩ := Zk5 H1
           refine r_g (T := [⟨[.old 2], _, [], [], [39]⟩, ⟨[.op 0 0], _, [], [0], [40]⟩, ⟨[.old 5], _, [], [], [41]⟩, ⟨[.old 6], _, [], [], [42]⟩, ⟨[.old 4], _, [], [], [43]⟩, ⟨[.op 4 0], _, [], [4], [44]⟩, ⟨[.op 2 0, .op 3 0, .op 5 0], _, [], List.range' 2 4, [45]⟩, ⟨[.op 6 0], _, [], List.range' 2 5, [46]⟩, ⟨[.op 1 0, .op 7 0, .old 2], _, [506], Lr 8, [5, 39, 40, 47]⟩, ⟨[.op 8 0], _, [], Lr 9, [48]⟩, ⟨[.op 8 1, .op 9 0, .op 8 0], _, [6], Lr 10, [5, 39, 48]⟩]) (F := [.old 0, .old 1, .op 10 0, .old 3, .old 7, .old 8, .old 9, .old 10]) hst hb Zb
             (o_p rfl (Zq4 Zsq (off := 2) (q := (pRow Zt 58 505 x4.Answers)) (by kernel_rfl) (pr := id) (fun _ => rfl) (fun _ _ h => h) rfl rfl u_0) <| o_p rfl (Zw6 Zyg rfl rfl u_0) <| o_p rfl (Zf Zei rfl rfl u_0) <| o_p rfl (Zcp Zcg rfl rfl u_0) <| o_p rfl (Za rfl rfl u_0) <| o_p rfl (Zcd rfl rfl u_0 c_i rfl) <| o_p rfl (Zo Z59 (Zxl _ _ _ h15) rfl rfl (.cons u_0 (.cons u_1 (.cons u_2 .nil)))) <| o_p rfl (Zi2 Z5n (xs := [.tmp 45]) (.cons u_0 .nil) (by decide) rfl rfl) <| o_p rfl (OB.frameU (Zlt Z5n rfl rfl u_0 u_1 h16) (Opd.imp u_2 (fun _ _ h => Zbbc h)) (fun k hk hS => Z9w (List.mem_singleton.1 hk) (List.mem_singleton.1 hS) (by decide)) (fun h => by cases h)) <| o_p rfl (Zq4 Zsq (off := 2) (q := pAny) (by kernel_rfl) (pr := id) (fun _ => rfl) (fun _ _ _ => trivial) rfl rfl u_0) <| o_p rfl (Z3f (x' := ({ x4 with Answers := (x4.Answers ++ ([r14] : List Zh)) } : Z7)) (R2 := hpL (pRow Zt 58 505 (({ x4 with Answers := (x4.Answers ++ ([r14] : List Zh)) } : Z7).Answers))) (upd := fun _ s2 => s2) Zyg rfl rfl (fun _ _ h => Z6n h) (fun k hk => by rw [List.mem_singleton.1 hk]; decide) (fun k hk => by cases hk) u_2 (fun a g hh => Z7y (u_1 a g hh)) u_0 (fun _ _ _ _ h => h) (fun g cs s0 s1 ys h k => Zt9 h k)) <| o_n) (by kernel_rfl) (fun a g hst hb => ?_)
           refine Zbu ?_
           refine Zv ?_
           refine r_g (T := [⟨[.old 6], _, [], [], [49]⟩, ⟨[.op 0 0], _, [], [0], [28]⟩]) (F := [.old 0, .old 1, .old 2, .old 3, .old 4, .old 5, .op 1 0, .old 7]) hst hb Zb
             (o_p rfl (Zcd rfl rfl u_0 c_i rfl) <| o_p rfl (Za rfl rfl u_0) <| o_n) (by kernel_rfl) (fun a g hst hb => ?_)
           exact ⟨n, Nat.lt_succ_self _, ({ x4 with Answers := (x4.Answers ++ ([r14] : List Zh)) } : Z7), r10.1, (IntKind.i64.wrap (x6 + (1 : Int))), g, rfl, (hst.pick [0, 1, 2, 3, 4, 5, 6, 7] rfl), hb, H1⟩
       · replace H1 := Zz hc7 H1
         refine wp_exit ?_
         refine Zb5 ?_
         refine Zb5 ?_
         refine Zct ?_
         exact ⟨x4, x5, g, rfl, (hst.pick [0, 1, 2, 3, 8] rfl), hb, Option.some.inj H1⟩
theorem Zoj (a0 : Zn) (a1 : List Zbk) {r : Zn × (List Z7)} (h : Zlf a0 a1 = some r) : FnOk Tryz.prog 9 [(Z1.pd a0), (Zcf.sl.pd a1)] (pTup [(Z1.pd r.1), (Zck.sl.pd r.2)]) := by
 have H0 := h
 unfold Zlf at H0
 clear h
 refine Zbr (N := 29) Tryz.func9 rfl rfl (Nat.le_of_ble_eq_true rfl) rfl rfl (fun a g0 hst hb => ?_)
 refine r_s (T := [⟨[.old 0], _, [3], [], [2]⟩, ⟨[], [(4, (pBox Z1 4 (default : Zn)))], [5], [], [4]⟩, ⟨[], [(5, (Zck.sl.pd ([] : List Z7)))], [], [], [5]⟩]) (F := [.old 1, .op 0 0, .op 1 0]) hst hb Zb
   (o_p rfl (Zrv rfl rfl u_0) <| o_p rfl (Zbg (zs := [.pointer none, .int .i64 0]) (by kernel_rfl) (fun g => Zcm g) rfl rfl) <| o_p rfl (Zc rfl rfl (Opd.c (fun g => Zlk g))) <| o_n) (by kernel_rfl) (fun a g hst hb => ?_)
 refine r_s (T := [⟨[], [(6, (pRow Zck 45 6 ([] : List Z7)))], [], [], [6]⟩]) (F := [.old 0, .old 1, .old 2, .op 0 0]) hst hb Zb
   (o_p rfl (Zc rfl rfl (Opd.c (fun g => Zxz 6 g))) <| o_n) (by kernel_rfl) (fun a g hst hb => ?_)
 refine wp_seq ?_
 refine r_s (T := [⟨[.old 0], _, [], [], [10]⟩, ⟨[.op 0 0], _, [], [0], [11]⟩, ⟨[], _, [], [], [12]⟩]) (F := [.old 1, .old 2, .old 3, .op 0 0, .op 1 0, .op 2 0]) hst hb Zb
   (o_p rfl (Za rfl rfl u_0) <| o_p rfl (Zb4 Tryz.underlying35 rfl rfl u_0) <| o_p rfl (Za rfl rfl c_i) <| o_n) (by kernel_rfl) (fun a g hst hb => ?_)
 obtain ⟨z12, hz1, H0⟩ := Zg H0
 refine Zcx (fun a w => ∃ (y10 : Zn) (y11 : List Z7) (g : G), w = g.w ∧ St 29 [(2, (pBox Z1 2 y10)), (4, (pBox Z1 4 (default : Zn))), (6, (pRow Zck 45 6 y11))] a g ∧ Base g0 g ∧ (y10, y11) = z12) ?_ ?_
 · rintro a w ⟨y10, y11, g, rfl, hst, hb, rfl⟩
   refine Zv ?_
   refine r_s (T := [⟨[.old 0], _, [], [], [27]⟩, ⟨[.old 2], _, [], [], [28]⟩, ⟨[.op 0 0, .old 1], _, [5], [0], [4]⟩, ⟨[.op 1 0], _, [], [0, 1, 2], [5]⟩]) (F := [.op 2 0, .op 3 0]) hst hb Zb
     (o_p rfl (Zcp Zbs rfl rfl u_0) <| o_p rfl (Za rfl rfl u_0) <| o_p rfl (Z8 Zbs rfl rfl u_1 u_0) <| o_p rfl (Zc rfl rfl u_0) <| o_n) (by kernel_rfl) (fun a g hst hb => ?_)
   refine wp_ret ?_
   obtain rfl := Option.some.inj H0
   obtain ⟨u0, hu0, hq0⟩ := Zbo (P := Tryz.prog) Zbs (hst.at 0 rfl)
   exact Ze2 rfl hst hb hu0 (Zk (s := 5)) (Zdj hq0 (Zqw (hst.at 1 rfl)))
 · refine wp_block ?_
   refine wp_loop_ghost (fun n a w => ∃ (x1 : Zn) (x2 : List Z7) (x3 : Int) (g : G), w = g.w ∧ St 29 [(2, (pBox Z1 2 x1)), (4, (pBox Z1 4 (default : Zn))), (6, (pRow Zck 45 6 x2)), (10, (Zcf.sl.pd a1)), (11, (pInt .i64 (a1.length : Int))), (12, (pInt .i64 x3))] a g ∧ Base g0 g ∧ Zgx a1 n x1 x2 x3 = some z12) (Int.toNat ((a1.length : Int) - (0 : Int)) + 1) ⟨a0, ([] : List Z7), (0 : Int), g, rfl, (hst.pick [0, 1, 2, 3, 4, 5] rfl), hb, hz1⟩ (fun n a w hI => ?_)
   obtain ⟨x1, x2, x3, g, rfl, hst, hb, H1⟩ := hI
   cases n with
   | zero => exact absurd H1 (by simp [Zgx])
   | succ n =>
     rw [Zgx] at H1
     refine r_s (T := [⟨[.old 5, .old 4], _, [], [], [13]⟩]) (F := [.old 0, .old 1, .old 2, .old 3, .old 4, .old 5, .op 0 0]) hst hb Zb
       (o_p rfl (Zco rfl rfl u_0 u_1) <| o_n) (by kernel_rfl) (fun a g hst hb => ?_)
     refine wp_seq ?_
     refine wp_cond_split (hst.bool 6 rfl) (fun hc4 => ?_) (fun hc4 => ?_)
     · replace H1 := Zy hc4 H1
       refine wp_skip ?_
       refine Zv ?_
       refine wp_seq ?_
       refine wp_block ?_
       obtain ⟨e5, h6, H1⟩ := Zg H1
       refine r_s (L := [(2, _), (4, _), (6, _), (10, _), (11, _), (12, _)]) (T := [⟨[.old 3, .old 5], _, [], [], [14]⟩, ⟨[.op 0 0], _, [], [0], [15]⟩, ⟨[], [(8, (pBox Zcf 8 (default : Zbk)))], [9], [], [8]⟩, ⟨[.op 1 0, .op 2 0], _, [9], [0, 1, 2], [8]⟩]) (F := [.old 0, .old 1, .old 2, .op 3 0, .old 3, .old 4, .old 5]) (hst.pick [0, 1, 2, 3, 4, 5] rfl) hb Zb
         (o_p rfl (Zbp Tryz.underlying35 Zla rfl rfl u_0 u_1 h6) <| o_p rfl (Zf Zht rfl rfl u_0) <| o_p rfl (Zbg (zs := [.slice none 0 0]) (by kernel_rfl) (fun g => Zsj g) rfl rfl) <| o_p rfl (Zb1 Zht rfl rfl u_1 u_0) <| o_n) (by kernel_rfl) (fun a g hst hb => ?_)
       refine r_s (T := [⟨[], [(9, (pBox Zck 9 (default : Z7)))], [10], [], [9]⟩]) (F := [.old 0, .old 1, .old 2, .old 3, .op 0 0, .old 4, .old 5, .old 6]) hst hb Zb
         (o_p rfl (Zbg (zs := [.int .i64 0, .int .i64 0, .slice none 0 0]) (by kernel_rfl) (fun g => Zp1 g) rfl rfl) <| o_n) (by kernel_rfl) (fun a g hst hb => ?_)
       obtain ⟨r7, h8, H1⟩ := Zg H1
       refine r_s (T := [⟨[.old 0], _, [], [], [17]⟩, ⟨[.old 3], _, [], [], [18]⟩, ⟨[.op 0 0, .op 1 0], _, [], [0, 1], [19]⟩, ⟨[.op 2 0], _, [], [0, 1, 2], [16]⟩, ⟨[.op 3 0], _, [], Lr 4, [20]⟩, ⟨[.op 3 0], _, [], Lr 4, [21]⟩, ⟨[.op 4 0, .old 0], _, [3], Lr 5, [2]⟩, ⟨[.op 5 0, .old 4], _, [10], Lr 7, [9]⟩]) (F := [.op 6 0, .old 1, .old 2, .op 7 0, .old 5, .old 6, .old 7]) hst hb Zb
         (o_p rfl (Zcp Zbs rfl rfl u_0) <| o_p rfl (Zf Zht rfl rfl u_0) <| o_p rfl (Zo Z5z (Zsc _ _ h8) rfl rfl (.cons u_0 (.cons u_1 .nil))) <| o_p rfl (Za rfl rfl u_0) <| o_p rfl (Z5 rfl rfl u_0 rfl) <| o_p rfl (Z5 rfl rfl u_0 rfl) <| o_p rfl (Z8 Zbs rfl rfl u_1 u_0) <| o_p rfl (Z8 Zja rfl rfl u_1 u_0) <| o_n) (by kernel_rfl) (fun a g hst hb => ?_)
       obtain ⟨h9, H1⟩ := Zk5 H1
       refine r_g (T := [⟨[.old 2], _, [], [], [22]⟩, ⟨[.old 3], _, [], [], [23]⟩, ⟨[.op 1 0], _, [], [1], [24]⟩, ⟨[.op 0 0, .op 2 0], _, [7], [0, 1, 2], [6, 22, 25]⟩, ⟨[.op 3 0], _, [], Lr 4, [6]⟩]) (F := [.old 0, .old 1, .op 4 0, .old 4, .old 5, .old 6]) hst hb Zb
         (o_p rfl (Za rfl rfl u_0) <| o_p rfl (Zcp Zja rfl rfl u_0) <| o_p rfl (Zi2 Z54 (xs := [.tmp 23]) (.cons u_0 .nil) (by decide) rfl rfl) <| o_p rfl (Zlt Z54 rfl rfl u_0 u_1 h9) <| o_p rfl (Zc rfl rfl u_0) <| o_n) (by kernel_rfl) (fun a g hst hb => ?_)
       refine Zbu ?_
       refine Zv ?_
       refine r_g (T := [⟨[.old 5], _, [], [], [26]⟩, ⟨[.op 0 0], _, [], [0], [12]⟩]) (F := [.old 0, .old 1, .old 2, .old 3, .old 4, .op 1 0]) hst hb Zb
         (o_p rfl (Zcd rfl rfl u_0 c_i rfl) <| o_p rfl (Za rfl rfl u_0) <| o_n) (by kernel_rfl) (fun a g hst hb => ?_)
       exact ⟨n, Nat.lt_succ_self _, r7.1, (x2 ++ ([r7.2] : List Z7)), (IntKind.i64.wrap (x3 + (1 : Int))), g, rfl, (hst.pick [0, 1, 2, 3, 4, 5] rfl), hb, H1⟩
     · replace H1 := Zz hc4 H1
       refine wp_exit ?_
       refine Zb5 ?_
       refine Zb5 ?_
       refine Zct ?_
       exact ⟨x1, x2, g, rfl, (hst.pick [0, 1, 2] rfl), hb, Option.some.inj H1⟩
theorem Zfs (f2 : Nat) (C2 : List Pd) (hC2 : Free C2) (e2_ : Zl Tryz.prog f2) (φ2 : Zh → Zh → Option Bool) (hφ2 : ∀ (y0 : Zh) (y1 : Zh) (r : Bool), φ2 y0 y1 = some r → FnOk Tryz.prog f2 ([(Zt.pd y0), (Zt.pd y1)] ++ C2) (Zba r)) (a0 : List Zh) (a1 : List Zh) {r : Bool} (h : Zcb a0 a1 φ2 = some r) : FnOk Tryz.prog 26 [(Zt.sl.pd a0), (Zt.sl.pd a1), (pClo f2 C2 hC2)] (Zba r) := by
 have H0 := h
 unfold Zcb at H0
 clear h
 refine Zbr (N := 32) Tryz.func26 rfl rfl (Nat.le_of_ble_eq_true rfl) rfl rfl (fun a g0 hst hb => ?_)
 refine r_s (T := [⟨[], _, [], [], [6]⟩]) (F := [.old 0, .old 1, .old 2]) hst hb Zb
   (o_p rfl (Zc rfl rfl c_b) <| o_n) (by kernel_rfl) (fun a g hst hb => ?_)
 refine wp_seq ?_
 refine r_s (T := [⟨[.old 0], _, [], [], [10]⟩, ⟨[.op 0 0], _, [], [0], [11]⟩, ⟨[.old 1], _, [], [], [12]⟩, ⟨[.op 2 0], _, [], [2], [13]⟩, ⟨[.op 1 0, .op 3 0], _, [], Lr 4, [14]⟩]) (F := [.old 0, .old 1, .old 2, .op 4 0]) hst hb Zb
   (o_p rfl (Za rfl rfl u_0) <| o_p rfl (Zb4 Tryz.underlying43 rfl rfl u_0) <| o_p rfl (Za rfl rfl u_0) <| o_p rfl (Zb4 Tryz.underlying43 rfl rfl u_0) <| o_p rfl (Zf2 rfl rfl u_0 u_1) <| o_n) (by kernel_rfl) (fun a g hst hb => ?_)
 refine wp_cond_split (hst.bool 3 rfl) (fun hc1 => ?_) (fun hc1 => ?_)
 · replace H0 := Zy hc1 H0
   refine r_s (L := []) (T := [⟨[], _, [], [], [6]⟩]) (F := [.op 0 0]) (hst.pick [] rfl) hb Zb
     (o_p rfl (Zc rfl rfl c_b) <| o_n) (by kernel_rfl) (fun a g hst hb => ?_)
   refine wp_ret ?_
   refine Zp ?_
   obtain rfl := Option.some.inj H0
   exact Zx rfl hst hb (Zk (s := 6)) (hst.at 0 rfl)
 · replace H0 := Zz hc1 H0
   refine wp_skip ?_
   refine Zv ?_
   refine wp_seq ?_
   refine r_s (L := [(0, _), (1, _), (2, _)]) (T := [⟨[.old 0], _, [], [], [15]⟩, ⟨[.op 0 0], _, [], [0], [16]⟩, ⟨[], _, [], [], [17]⟩]) (F := [.old 1, .old 2, .op 0 0, .op 1 0, .op 2 0]) (hst.pick [0, 1, 2] rfl) hb Zb
     (o_p rfl (Za rfl rfl u_0) <| o_p rfl (Zb4 Tryz.underlying43 rfl rfl u_0) <| o_p rfl (Za rfl rfl c_i) <| o_n) (by kernel_rfl) (fun a g hst hb => ?_)
   obtain ⟨z11, hz1, H0⟩ := Zg H0
   refine Zcx (fun a w => ∃ (g : G), w = g.w ∧ St 32 [] a g ∧ Base g0 g ∧ (.inr ()) = z11) ?_ ?_
   · rintro a w ⟨g, rfl, hst, hb, rfl⟩
     refine Zv ?_
     refine r_s (T := [⟨[], _, [], [], [6]⟩]) (F := [.op 0 0]) hst hb Zb
       (o_p rfl (Zc rfl rfl c_b) <| o_n) (by kernel_rfl) (fun a g hst hb => ?_)
     refine wp_ret ?_
     obtain rfl := Option.some.inj H0
     exact Zx rfl hst hb (Zk (s := 6)) (hst.at 0 rfl)
   · refine wp_block ?_
     refine wp_loop_ghost (fun n a w => ∃ (x2 : Int) (g : G), w = g.w ∧ St 32 [(1, (Zt.sl.pd a1)), (2, (pClo f2 C2 hC2)), (15, (Zt.sl.pd a0)), (16, (pInt .i64 (a0.length : Int))), (17, (pInt .i64 x2))] a g ∧ Base g0 g ∧ Zbd a0 a1 φ2 n x2 = some z11) (Int.toNat ((a0.length : Int) - (0 : Int)) + 1) ⟨(0 : Int), g, rfl, (hst.pick [0, 1, 2, 3, 4] rfl), hb, hz1⟩ (fun n a w hI => ?_)
     obtain ⟨x2, g, rfl, hst, hb, H1⟩ := hI
     cases n with
     | zero => exact absurd H1 (by simp [Zbd])
     | succ n =>
       rw [Zbd] at H1
       refine r_s (T := [⟨[.old 4, .old 3], _, [], [], [18]⟩]) (F := [.old 0, .old 1, .old 2, .old 3, .old 4, .op 0 0]) hst hb Zb
         (o_p rfl (Zco rfl rfl u_0 u_1) <| o_n) (by kernel_rfl) (fun a g hst hb => ?_)
       refine wp_seq ?_
       refine wp_cond_split (hst.bool 5 rfl) (fun hc3 => ?_) (fun hc3 => ?_)
       · replace H1 := Zy hc3 H1
         refine wp_skip ?_
         refine Zv ?_
         refine wp_seq ?_
         refine wp_block ?_
         obtain ⟨e4, h5, H1⟩ := Zg H1
         refine r_s (L := [(1, _), (2, _), (15, _), (16, _), (17, _)]) (T := [⟨[.old 4], _, [], [], [19]⟩, ⟨[.old 2, .old 4], _, [], [], [20]⟩, ⟨[.op 1 0], _, [], [1], [21]⟩, ⟨[], [(8, (pBox Zt 8 (default : Zh)))], [9], [], [8]⟩, ⟨[.op 0 0], _, [], Lr 4, [7]⟩, ⟨[.op 2 0, .op 3 0], _, [9], Lr 5, [8]⟩]) (F := [.old 0, .old 1, .op 4 0, .op 5 0, .old 2, .old 3, .old 4]) (hst.pick [0, 1, 2, 3, 4] rfl) hb Zb
           (o_p rfl (Za rfl rfl u_0) <| o_p rfl (Zbp Tryz.underlying43 Z5y rfl rfl u_0 u_1 h5) <| o_p rfl (Zf Zcg rfl rfl u_0) <| o_p rfl (Zbg (zs := [.int .i64 0, .int .i64 0, .int .i64 0, .int .i64 0, .int .i64 0, .int .i64 0, .float .f64 0, .int .i64 0, .string ByteArray.empty, .slice none 0 0]) (by kernel_rfl) (fun g => Zej g) rfl rfl) <| o_p rfl (Zc rfl rfl u_0) <| o_p rfl (Zb1 Zcg rfl rfl u_1 u_0) <| o_n) (by kernel_rfl) (fun a g hst hb => ?_)
         obtain ⟨e6, h7, H1⟩ := Zg H1
         refine r_s (T := [⟨[.old 0], _, [], [], [22]⟩, ⟨[.old 2], _, [], [], [23]⟩, ⟨[.op 0 0, .op 1 0], _, [], [0, 1], [24]⟩, ⟨[.op 2 0], _, [], [0, 1, 2], [25]⟩, ⟨[], [(9, (pBox Zt 9 (default : Zh)))], [10], [], [9]⟩, ⟨[.op 3 0, .op 4 0], _, [10], Lr 5, [9]⟩]) (F := [.old 0, .old 1, .old 3, .op 5 0, .old 4, .old 5, .old 6]) hst hb Zb
           (o_p rfl (Za rfl rfl u_0) <| o_p rfl (Za rfl rfl u_0) <| o_p rfl (Zbp Tryz.underlying43 Z5y rfl rfl u_0 u_1 h7) <| o_p rfl (Zf Zcg rfl rfl u_0) <| o_p rfl (Zbg (zs := [.int .i64 0, .int .i64 0, .int .i64 0, .int .i64 0, .int .i64 0, .int .i64 0, .float .f64 0, .int .i64 0, .string ByteArray.empty, .slice none 0 0]) (by kernel_rfl) (fun g => Zej g) rfl rfl) <| o_p rfl (Zb1 Zcg rfl rfl u_1 u_0) <| o_n) (by kernel_rfl) (fun a g hst hb => ?_)
         obtain ⟨r8, h9, H1⟩ := Zg H1
         refine r_s (T := [⟨[.old 1], _, [], [], [26]⟩, ⟨[.old 2], _, [], [], [27]⟩, ⟨[.old 3], _, [], [], [28]⟩, ⟨[.op 0 0, .op 1 0, .op 2 0], _, [], [0, 1, 2], [29]⟩, ⟨[.op 3 0], _, [], Lr 4, [30]⟩]) (F := [.old 0, .old 1, .old 4, .old 5, .old 6, .op 4 0]) hst hb Zb
           (o_p rfl (Za rfl rfl u_0) <| o_p rfl (Zf Zcg rfl rfl u_0) <| o_p rfl (Zf Zcg rfl rfl u_0) <| o_p rfl (Zmd e2_ (hφ2 _ _ _ h9) rfl rfl u_0 (.cons u_1 (.cons u_2 .nil))) <| o_p rfl (Zcr rfl rfl u_0) <| o_n) (by kernel_rfl) (fun a g hst hb => ?_)
         refine wp_cond_split (hst.bool 5 rfl) (fun hc10 => ?_) (fun hc10 => ?_)
         · replace H1 := Zy hc10 H1
           refine r_s (L := []) (T := [⟨[], _, [], [], [6]⟩]) (F := [.op 0 0]) (hst.pick [] rfl) hb Zb
             (o_p rfl (Zc rfl rfl c_b) <| o_n) (by kernel_rfl) (fun a g hst hb => ?_)
           refine wp_ret ?_
           refine Zw ?_
           refine Zp ?_
           refine Zp ?_
           refine Zw ?_
           refine Zp ?_
           refine Zp ?_
           obtain rfl := Option.some.inj H1
           obtain rfl := Option.some.inj H0
           exact Zx rfl hst hb (Zk (s := 6)) (hst.at 0 rfl)
         · replace H1 := Zz hc10 H1
           refine wp_skip ?_
           refine Zbu ?_
           refine Zv ?_
           refine r_g (L := [(1, _), (2, _), (15, _), (16, _), (17, _)]) (T := [⟨[.old 4], _, [], [], [31]⟩, ⟨[.op 0 0], _, [], [0], [17]⟩]) (F := [.old 0, .old 1, .old 2, .old 3, .op 1 0]) (hst.pick [0, 1, 2, 3, 4] rfl) hb Zb
             (o_p rfl (Zcd rfl rfl u_0 c_i rfl) <| o_p rfl (Za rfl rfl u_0) <| o_n) (by kernel_rfl) (fun a g hst hb => ?_)
           exact ⟨n, Nat.lt_succ_self _, (IntKind.i64.wrap (x2 + (1 : Int))), g, rfl, (hst.pick [0, 1, 2, 3, 4] rfl), hb, H1⟩
       · replace H1 := Zz hc3 H1
         refine wp_exit ?_
         refine Zb5 ?_
         refine Zb5 ?_
         refine Zct ?_
         exact ⟨g, rfl, (hst.pick [] rfl), hb, Option.some.inj H1⟩
theorem Zxq (a0 : Zh) (a1 : Zh) {r : Bool} (h : Zj9 a0 a1 = some r) : FnOk Tryz.prog 27 [(Zt.pd a0), (Zt.pd a1)] (Zba r) := by
 have H0 := h
 unfold Zj9 at H0
 clear h
 refine Zbr (N := 24) Tryz.func27 rfl rfl (Nat.le_of_ble_eq_true rfl) rfl rfl (fun a g0 hst hb => ?_)
 refine r_s (T := [⟨[.old 0], _, [], [], [2]⟩, ⟨[.old 1], _, [], [], [3]⟩, ⟨[], _, [], [], [4]⟩]) (F := [.op 0 0, .op 1 0]) hst hb Zb
   (o_p rfl (Zbh rfl rfl u_0) <| o_p rfl (Zbh rfl rfl u_0) <| o_p rfl (Zc rfl rfl c_b) <| o_n) (by kernel_rfl) (fun a g hst hb => ?_)
 obtain ⟨r1, h2, H0⟩ := Zg H0
 refine r_s (T := ⟨[.old 0], _, [], [], [5]⟩ :: ⟨[.op 0 0], _, [], [0], [6]⟩ :: ⟨[.old 1], _, [], [], [7]⟩ :: ⟨[.op 2 0], _, [], [2], [8]⟩ :: ⟨[.op 1 0, .op 3 0], _, [], Lr 4, [9]⟩ :: ⟨[.op 4 0], _, [], Lr 5, [10]⟩ :: ⟨[.op 5 0, .old 0], _, [], Lr 6, [11]⟩ :: ⟨[.op 5 0, .op 6 0], _, [], Lr 7, [12]⟩ :: ⟨[.op 5 0, .old 1], _, [], Lr 6, [13]⟩ :: ⟨[.op 5 0, .op 8 0], _, [], [0, 1, 2, 3, 4, 5, 8], [14]⟩ :: ⟨[.op 5 0, .op 7 0, .op 9 0], _, [], Lr 10, [15]⟩ :: ⟨[.op 5 0, .op 10 0], _, [], Lr 11, [16]⟩ :: ⟨[.op 11 0], _, [], Lr 12, [17]⟩ :: ⟨[.op 12 0, .old 0], _, [], Lr 13, [18]⟩ :: ⟨[.op 12 0, .op 13 0], _, [], Lr 14, [19]⟩ :: ⟨[.op 12 0, .old 1], _, [], Lr 13, [20]⟩ :: ⟨[.op 12 0, .op 15 0], _, [], 0 :: 1 :: 2 :: 3 :: 4 :: 5 :: 6 :: 7 :: 8 :: 9 :: 10 :: 11 :: 12 :: 15 :: [], [21]⟩ :: ⟨[.op 12 0, .op 14 0, .op 16 0], _, [], Lr 17, [22]⟩ :: ⟨[.op 12 0, .op 17 0], _, [], Lr 18, [23]⟩ :: ⟨[.op 18 0], _, [], Lr 19, [4]⟩ :: []) (F := [.op 19 0]) hst hb Zb
   (o_p rfl (Ze Zmh rfl rfl u_0) <| o_p rfl (Zf Zlw rfl rfl u_0) <| o_p rfl (Ze Zmh rfl rfl u_0) <| o_p rfl (Zf Zlw rfl rfl u_0) <| o_p rfl (Zbj rfl rfl u_0 u_1) <| o_p rfl (Za rfl rfl u_0) <| o_g (g_t rfl rfl rfl (fun hG => Ze Z0h rfl rfl u_0)) <| o_g (g_t rfl rfl rfl (fun hG => Zf ty_2 rfl rfl (Opd.gd hG u_0))) <| o_g (g_t rfl rfl rfl (fun hG => Ze Z0h rfl rfl u_0)) <| o_g (g_t rfl rfl rfl (fun hG => Zf ty_2 rfl rfl (Opd.gd hG u_0))) <| o_g (g_t rfl rfl rfl (fun hG => Zbj rfl rfl (Opd.gd hG u_0) (Opd.gd hG u_1))) <| o_p rfl (Zbf rfl rfl u_0 (fun hz => (Opd.gd hz u_1))) <| o_p rfl (Za rfl rfl u_0) <| o_g (g_t rfl rfl rfl (fun hG => Ze Zvh rfl rfl u_0)) <| o_g (g_t rfl rfl rfl (fun hG => Zf Zbn rfl rfl (Opd.gd hG u_0))) <| o_g (g_t rfl rfl rfl (fun hG => Ze Zvh rfl rfl u_0)) <| o_g (g_t rfl rfl rfl (fun hG => Zf Zbn rfl rfl (Opd.gd hG u_0))) <| o_g (g_t rfl rfl rfl (fun hG => Zo Z0s (Zok _ _ (Zbb h2 hG)) rfl rfl (.cons (Opd.gd hG u_0) (.cons (Opd.gd hG u_1) .nil)))) <| o_p rfl (Zbf rfl rfl u_0 (fun hz => (Opd.gd hz u_1))) <| o_p rfl (Zc rfl rfl u_0) <| o_n) (by kernel_rfl) (fun a g hst hb => ?_)
 refine wp_ret ?_
 obtain rfl := Option.some.inj H0
 exact Zx rfl hst hb (Zk (s := 4)) (hst.at 0 rfl)
theorem Zm7 (a0 : Z7) (a1 : Z7) {r : Bool} (h : Zi8 a0 a1 = some r) : FnOk Tryz.prog 11 [(Zck.pd a0), (Zck.pd a1)] (Zba r) := by
 have H0 := h
 unfold Zi8 at H0
 clear h
 refine Zbr (N := 24) Tryz.func11 rfl rfl (Nat.le_of_ble_eq_true rfl) rfl rfl (fun a g0 hst hb => ?_)
 refine r_s (T := [⟨[.old 0], _, [], [], [2]⟩, ⟨[.old 1], _, [], [], [3]⟩, ⟨[], _, [], [], [4]⟩]) (F := [.op 0 0, .op 1 0]) hst hb Zb
   (o_p rfl (Zbh rfl rfl u_0) <| o_p rfl (Zbh rfl rfl u_0) <| o_p rfl (Zc rfl rfl c_b) <| o_n) (by kernel_rfl) (fun a g hst hb => ?_)
 obtain ⟨r1, h2, H0⟩ := Zg H0
 refine r_s (T := ⟨[.old 0], _, [], [], [5]⟩ :: ⟨[.op 0 0], _, [], [0], [6]⟩ :: ⟨[.old 1], _, [], [], [7]⟩ :: ⟨[.op 2 0], _, [], [2], [8]⟩ :: ⟨[.op 1 0, .op 3 0], _, [], Lr 4, [9]⟩ :: ⟨[.op 4 0], _, [], Lr 5, [10]⟩ :: ⟨[.op 5 0, .old 0], _, [], Lr 6, [11]⟩ :: ⟨[.op 5 0, .op 6 0], _, [], Lr 7, [12]⟩ :: ⟨[.op 5 0, .old 1], _, [], Lr 6, [13]⟩ :: ⟨[.op 5 0, .op 8 0], _, [], [0, 1, 2, 3, 4, 5, 8], [14]⟩ :: ⟨[.op 5 0, .op 7 0, .op 9 0], _, [], Lr 10, [15]⟩ :: ⟨[.op 5 0, .op 10 0], _, [], Lr 11, [16]⟩ :: ⟨[.op 11 0], _, [], Lr 12, [17]⟩ :: ⟨[.op 12 0, .old 0], _, [], Lr 13, [18]⟩ :: ⟨[.op 12 0, .op 13 0], _, [], Lr 14, [19]⟩ :: ⟨[.op 12 0, .old 1], _, [], Lr 13, [20]⟩ :: ⟨[.op 12 0, .op 15 0], _, [], 0 :: 1 :: 2 :: 3 :: 4 :: 5 :: 6 :: 7 :: 8 :: 9 :: 10 :: 11 :: 12 :: 15 :: [], [21]⟩ :: ⟨[.op 12 0, .op 14 0, .op 16 0], _, [], Lr 17, [22]⟩ :: ⟨[.op 12 0, .op 17 0], _, [], Lr 18, [23]⟩ :: ⟨[.op 18 0], _, [], Lr 19, [4]⟩ :: []) (F := [.op 19 0]) hst hb Zb
   (o_p rfl (Ze Zuw rfl rfl u_0) <| o_p rfl (Zf Zlw rfl rfl u_0) <| o_p rfl (Ze Zuw rfl rfl u_0) <| o_p rfl (Zf Zlw rfl rfl u_0) <| o_p rfl (Zbj rfl rfl u_0 u_1) <| o_p rfl (Za rfl rfl u_0) <| o_g (g_t rfl rfl rfl (fun hG => Ze Zvb rfl rfl u_0)) <| o_g (g_t rfl rfl rfl (fun hG => Zf ty_3 rfl rfl (Opd.gd hG u_0))) <| o_g (g_t rfl rfl rfl (fun hG => Ze Zvb rfl rfl u_0)) <| o_g (g_t rfl rfl rfl (fun hG => Zf ty_3 rfl rfl (Opd.gd hG u_0))) <| o_g (g_t rfl rfl rfl (fun hG => Zbj rfl rfl (Opd.gd hG u_0) (Opd.gd hG u_1))) <| o_p rfl (Zbf rfl rfl u_0 (fun hz => (Opd.gd hz u_1))) <| o_p rfl (Za rfl rfl u_0) <| o_g (g_t rfl rfl rfl (fun hG => Ze Zu7 rfl rfl u_0)) <| o_g (g_t rfl rfl rfl (fun hG => Zf Z0t rfl rfl (Opd.gd hG u_0))) <| o_g (g_t rfl rfl rfl (fun hG => Ze Zu7 rfl rfl u_0)) <| o_g (g_t rfl rfl rfl (fun hG => Zf Z0t rfl rfl (Opd.gd hG u_0))) <| o_g (g_t rfl rfl rfl (fun hG => Zo Z90 (Zfs 27 [] rfl Z98 (fun y0 y1 => Zj9 y0 y1) (fun y0 y1 r h => Zxq y0 y1 h) _ _ (Zbb h2 hG)) rfl rfl (.cons (Opd.gd hG u_0) (.cons (Opd.gd hG u_1) (.cons Opd.fnc .nil))))) <| o_p rfl (Zbf rfl rfl u_0 (fun hz => (Opd.gd hz u_1))) <| o_p rfl (Zc rfl rfl u_0) <| o_n) (by kernel_rfl) (fun a g hst hb => ?_)
 refine wp_ret ?_
 obtain rfl := Option.some.inj H0
 exact Zx rfl hst hb (Zk (s := 4)) (hst.at 0 rfl)
theorem Zqx (a0 : Int) {r : Zn × Int} (h : Zmq a0 = some r) : FnOk Tryz.prog 12 [(pInt .i64 a0)] (pTup [(Z1.pd r.1), (pInt .i64 r.2)]) := by
 have H0 := h
 unfold Zmq at H0
 clear h
 refine Zbr (N := 13) Tryz.func12 rfl rfl (Nat.le_of_ble_eq_true rfl) rfl rfl (fun a g0 hst hb => ?_)
 refine r_s (T := [⟨[], [(2, (pBox Z1 2 (default : Zn)))], [3], [], [2]⟩, ⟨[], _, [], [], [3]⟩]) (F := [.old 0, .op 0 0]) hst hb Zb
   (o_p rfl (Zbg (zs := [.pointer none, .int .i64 0]) (by kernel_rfl) (fun g => Zcm g) rfl rfl) <| o_p rfl (Zc rfl rfl c_i) <| o_n) (by kernel_rfl) (fun a g hst hb => ?_)
 refine wp_seq ?_
 refine r_s (T := [⟨[.old 0], _, [], [], [4]⟩, ⟨[.op 0 0], _, [], [0], [5]⟩, ⟨[.op 1 0], _, [], [0, 1], [6]⟩, ⟨[.op 2 0, .old 0], _, [], [0, 1, 2], [7]⟩, ⟨[.op 2 0, .op 3 0], _, [], Lr 4, [8]⟩, ⟨[.op 2 0, .op 4 0], _, [], Lr 5, [9]⟩]) (F := [.old 0, .old 1, .op 5 0]) hst hb Zb
   (o_p rfl (Za rfl rfl u_0) <| o_p rfl (Zco rfl rfl u_0 c_i) <| o_p rfl (Za rfl rfl u_0) <| o_g (g_f rfl rfl rfl (fun hG => Za rfl rfl u_0)) <| o_g (g_f rfl rfl rfl (fun hG => Zci rfl rfl (Opd.gd hG u_0) c_i)) <| o_p rfl (Zbi rfl rfl u_0 (fun hz => (Opd.gd (bNF hz) u_1))) <| o_n) (by kernel_rfl) (fun a g hst hb => ?_)
 refine wp_cond_split (hst.bool 2 rfl) (fun hc1 => ?_) (fun hc1 => ?_)
 · replace H0 := Zy hc1 H0
   refine r_s (L := [(2, _)]) (T := [⟨[], _, [], [], [10]⟩, ⟨[.op 0 0, .old 0], _, [3], [0], [2]⟩, ⟨[], _, [], [0, 1], [3]⟩]) (F := [.op 1 0, .op 2 0]) (hst.pick [1] rfl) hb Zb
     (o_p rfl (Z8s rfl rfl ) <| o_p rfl (Z8 Zbs rfl rfl u_1 u_0) <| o_p rfl (Zc rfl rfl c_i) <| o_n) (by kernel_rfl) (fun a g hst hb => ?_)
   refine wp_ret ?_
   refine Zp ?_
   obtain rfl := Option.some.inj H0
   obtain ⟨u0, hu0, hq0⟩ := Zbo (P := Tryz.prog) Zbs (hst.at 0 rfl)
   exact Ze2 rfl hst hb hu0 (Zk (s := 3)) (Zdj hq0 (hst.at 1 rfl))
 · replace H0 := Zz hc1 H0
   refine wp_skip ?_
   refine Zv ?_
   refine r_s (L := [(0, _), (2, _)]) (T := [⟨[.old 0], _, [], [], [11]⟩, ⟨[.op 0 0], _, [], [0], [12]⟩, ⟨[.op 1 0, .old 1], _, [3], [0, 1], [2]⟩, ⟨[], _, [], [0, 1, 2], [3]⟩]) (F := [.op 2 0, .op 3 0]) (hst.pick [0, 1] rfl) hb Zb
     (o_p rfl (Za rfl rfl u_0) <| o_p rfl (Z6u rfl rfl u_0) <| o_p rfl (Z8 Zbs rfl rfl u_1 u_0) <| o_p rfl (Zc rfl rfl c_i) <| o_n) (by kernel_rfl) (fun a g hst hb => ?_)
   refine wp_ret ?_
   obtain rfl := Option.some.inj H0
   obtain ⟨u0, hu0, hq0⟩ := Zbo (P := Tryz.prog) Zbs (hst.at 0 rfl)
   exact Ze2 rfl hst hb hu0 (Zk (s := 3)) (Zdj hq0 (hst.at 1 rfl))
theorem Zo1 {r : Bool} (h : Zil = some r) : FnOk Tryz.prog 4 [] (Zba r) := by
 have H0 := h
 unfold Zil at H0
 clear h
 refine Zbr (N := 94) Tryz.func4 rfl rfl (Nat.le_of_ble_eq_true rfl) rfl rfl (fun a g0 hst hb => ?_)
 refine r_s (T := [⟨[], _, [], [], [0]⟩]) (F := []) hst hb Zb
   (o_p rfl (Zc rfl rfl c_b) <| o_n) (by kernel_rfl) (fun a g hst hb => ?_)
 obtain ⟨r1, h2, H0⟩ := Zg H0
 refine r_s (T := [⟨[], _, [], [], [12]⟩, ⟨[.op 0 0], _, [], [0], [11]⟩, ⟨[.op 1 0], _, [], [0, 1], [13]⟩, ⟨[.op 1 0], _, [], [0, 1], [14]⟩, ⟨[], [(1, (pBox Z1 1 (default : Zn)))], [2], [], [1]⟩, ⟨[.op 2 0, .op 4 0], _, [2], [0, 1, 2, 4], [1]⟩, ⟨[.op 3 0], _, [], Lr 6, [2]⟩]) (F := [.op 5 0, .op 6 0]) hst hb Zb
   (o_p rfl (Zo Z5m (Zqx _ h2) rfl rfl (.cons c_i .nil)) <| o_p rfl (Za rfl rfl u_0) <| o_p rfl (Z5 rfl rfl u_0 rfl) <| o_p rfl (Z5 rfl rfl u_0 rfl) <| o_p rfl (Zbg (zs := [.pointer none, .int .i64 0]) (by kernel_rfl) (fun g => Zcm g) rfl rfl) <| o_p rfl (Zb1 Zbs rfl rfl u_1 u_0) <| o_p rfl (Zc rfl rfl u_0) <| o_n) (by kernel_rfl) (fun a g hst hb => ?_)
 refine r_s (T := [⟨[], _, [], [], [15]⟩, ⟨[.op 0 0], _, [], [0], [16]⟩, ⟨[], [(3, (pBox Z2 3 (default : Zm)))], [4], [], [3]⟩, ⟨[.op 1 0, .op 2 0], _, [4], [0, 1, 2], [3]⟩]) (F := [.old 0, .old 1, .op 3 0]) hst hb Zb
   (o_p rfl (Z2j rfl rfl c_i c_i) <| o_p rfl (Zzg rfl rfl c_i c_s u_0) <| o_p rfl (Zbg (zs := [.int .i64 0, .string ByteArray.empty, .int .i64 0, .float .f64 0, .string ByteArray.empty, .int .i64 0, .int .i64 0, .int .i64 0, .int .i64 0, .float .f64 0, .int .i64 0, .string ByteArray.empty, .slice none 0 0, .bool false]) (by kernel_rfl) (fun g => Zje g) rfl rfl) <| o_p rfl (Zb1 Zei rfl rfl u_1 u_0) <| o_n) (by kernel_rfl) (fun a g hst hb => ?_)
 refine r_s (T := [⟨[], _, [], [], [17]⟩, ⟨[], [(4, (pBox Z2 4 (default : Zm)))], [5], [], [4]⟩, ⟨[.op 0 0, .op 1 0], _, [5], [0, 1], [4]⟩]) (F := [.old 0, .old 1, .old 2, .op 2 0]) hst hb Zb
   (o_p rfl (Zwg rfl rfl c_i c_s c_i c_b) <| o_p rfl (Zbg (zs := [.int .i64 0, .string ByteArray.empty, .int .i64 0, .float .f64 0, .string ByteArray.empty, .int .i64 0, .int .i64 0, .int .i64 0, .int .i64 0, .float .f64 0, .int .i64 0, .string ByteArray.empty, .slice none 0 0, .bool false]) (by kernel_rfl) (fun g => Zje g) rfl rfl) <| o_p rfl (Zb1 Zei rfl rfl u_1 u_0) <| o_n) (by kernel_rfl) (fun a g hst hb => ?_)
 obtain ⟨r3, h4, H0⟩ := Zg H0
 refine r_s (T := ⟨[.old 0], _, [], [], [19]⟩ :: ⟨[.old 2], _, [], [], [20]⟩ :: ⟨[.old 3], _, [], [], [21]⟩ :: ⟨[.op 1 0, .op 2 0], _, [], [1, 2], [22]⟩ :: ⟨[.op 3 0], _, [], [1, 2, 3], [23]⟩ :: ⟨[.op 0 0, .op 4 0], _, [], Lr 5, [24]⟩ :: ⟨[.op 5 0], _, [], Lr 6, [18]⟩ :: ⟨[.op 6 0], _, [], Lr 7, [25]⟩ :: ⟨[.op 6 0], _, [], Lr 7, [26]⟩ :: ⟨[], [(5, (pBox Z1 5 (default : Zn)))], [6], [], [5]⟩ :: ⟨[], [(6, (pBox Zck 6 (default : Z7)))], [7], [], [6]⟩ :: ⟨[.op 7 0, .op 9 0], _, [6], [0, 1, 2, 3, 4, 5, 6, 7, 9, 10], [5]⟩ :: ⟨[.op 8 0, .op 10 0], _, [7], Lr 12, [6]⟩ :: []) (F := [.old 0, .old 1, .old 2, .old 3, .op 11 0, .op 12 0]) hst hb Zb
   (o_p rfl (Zf Zbs rfl rfl u_0) <| o_p rfl (Zf Zei rfl rfl u_0) <| o_p rfl (Zf Zei rfl rfl u_0) <| o_p rfl (Zi2 Z0w (xs := [.tmp 20, .tmp 21]) (.cons u_0 (.cons u_1 .nil)) (by decide) rfl rfl) <| o_p rfl (Zu3 rfl rfl u_0) <| o_p rfl (Zo Z5z (Zsc _ _ h4) rfl rfl (.cons u_0 (.cons u_1 .nil))) <| o_p rfl (Za rfl rfl u_0) <| o_p rfl (Z5 rfl rfl u_0 rfl) <| o_p rfl (Z5 rfl rfl u_0 rfl) <| o_p rfl (Zbg (zs := [.pointer none, .int .i64 0]) (by kernel_rfl) (fun g => Zcm g) rfl rfl) <| o_p rfl (Zbg (zs := [.int .i64 0, .int .i64 0, .slice none 0 0]) (by kernel_rfl) (fun g => Zp1 g) rfl rfl) <| o_p rfl (Zb1 Zbs rfl rfl u_1 u_0) <| o_p rfl (Zb1 Zja rfl rfl u_1 u_0) <| o_n) (by kernel_rfl) (fun a g hst hb => ?_)
 obtain ⟨r5, h6, H0⟩ := Zg H0
 refine r_s (T := ⟨[.old 0], _, [], [], [28]⟩ :: ⟨[.old 2], _, [], [], [29]⟩ :: ⟨[.op 1 0], _, [], [1], [30]⟩ :: ⟨[.op 2 0], _, [], [1, 2], [31]⟩ :: ⟨[.old 3], _, [], [], [32]⟩ :: ⟨[.op 4 0], _, [], [4], [33]⟩ :: ⟨[.op 5 0], _, [], [4, 5], [34]⟩ :: ⟨[.op 3 0, .op 6 0], _, [], List.range' 1 6, [35]⟩ :: ⟨[.op 0 0, .op 7 0], _, [], Lr 8, [36]⟩ :: ⟨[.op 8 0], _, [], Lr 9, [27]⟩ :: ⟨[.op 9 0], _, [], Lr 10, [37]⟩ :: ⟨[.op 9 0], _, [], Lr 10, [38]⟩ :: ⟨[], [(7, (pBox Z1 7 (default : Zn)))], [8], [], [7]⟩ :: ⟨[.op 10 0, .op 12 0], _, [8], 0 :: 1 :: 2 :: 3 :: 4 :: 5 :: 6 :: 7 :: 8 :: 9 :: 10 :: 12 :: [], [7]⟩ :: ⟨[.op 11 0], _, [], Lr 14, [8]⟩ :: []) (F := [.old 1, .old 2, .old 4, .old 5, .op 13 0, .op 14 0]) hst hb Zb
   (o_p rfl (Zf Zbs rfl rfl u_0) <| o_p rfl (Zf Zei rfl rfl u_0) <| o_p rfl (Zi2 Z0w (xs := [.tmp 29]) (.cons u_0 .nil) (by decide) rfl rfl) <| o_p rfl (Zu3 rfl rfl u_0) <| o_p rfl (Zf Zei rfl rfl u_0) <| o_p rfl (Zi2 Z0w (xs := [.tmp 32]) (.cons u_0 .nil) (by decide) rfl rfl) <| o_p rfl (Zu3 rfl rfl u_0) <| o_p rfl (Zi2 Z1v (xs := [.tmp 31, .tmp 34]) (.cons u_0 (.cons u_1 .nil)) (by decide) rfl rfl) <| o_p rfl (Zo en_9 (Zoj _ _ h6) rfl rfl (.cons u_0 (.cons u_1 .nil))) <| o_p rfl (Za rfl rfl u_0) <| o_p rfl (Z5 rfl rfl u_0 rfl) <| o_p rfl (Z5 rfl rfl u_0 rfl) <| o_p rfl (Zbg (zs := [.pointer none, .int .i64 0]) (by kernel_rfl) (fun g => Zcm g) rfl rfl) <| o_p rfl (Zb1 Zbs rfl rfl u_1 u_0) <| o_p rfl (Zc rfl rfl u_0) <| o_n) (by kernel_rfl) (fun a g hst hb => ?_)
 obtain ⟨r7, h8, H0⟩ := Zg H0
 refine r_s (T := [⟨[.old 4], _, [], [], [40]⟩, ⟨[.old 1], _, [], [], [41]⟩, ⟨[.op 0 0, .op 1 0], _, [], [0, 1], [42]⟩, ⟨[.op 2 0], _, [], [0, 1, 2], [39]⟩, ⟨[.op 3 0], _, [], Lr 4, [43]⟩, ⟨[.op 3 0], _, [], Lr 4, [44]⟩, ⟨[], [(9, (pBox Z1 9 (default : Zn)))], [10], [], [9]⟩, ⟨[], [(10, (pBox Zt 10 (default : Zh)))], [11], [], [10]⟩, ⟨[.op 4 0, .op 6 0], _, [10], [0, 1, 2, 3, 4, 6, 7], [9]⟩, ⟨[.op 5 0, .op 7 0], _, [11], Lr 9, [10]⟩]) (F := [.old 0, .old 2, .old 3, .old 4, .old 5, .op 9 0]) hst hb Zb
   (o_p rfl (Zf Zbs rfl rfl u_0) <| o_p rfl (Zf Zei rfl rfl u_0) <| o_p rfl (Zo Z6b (Zsa _ _ h8) rfl rfl (.cons u_0 (.cons u_1 .nil))) <| o_p rfl (Za rfl rfl u_0) <| o_p rfl (Z5 rfl rfl u_0 rfl) <| o_p rfl (Z5 rfl rfl u_0 rfl) <| o_p rfl (Zbg (zs := [.pointer none, .int .i64 0]) (by kernel_rfl) (fun g => Zcm g) rfl rfl) <| o_p rfl (Zbg (zs := [.int .i64 0, .int .i64 0, .int .i64 0, .int .i64 0, .int .i64 0, .int .i64 0, .float .f64 0, .int .i64 0, .string ByteArray.empty, .slice none 0 0]) (by kernel_rfl) (fun g => Zej g) rfl rfl) <| o_p rfl (Zb1 Zbs rfl rfl u_1 u_0) <| o_p rfl (Zb1 Zcg rfl rfl u_1 u_0) <| o_n) (by kernel_rfl) (fun a g hst hb => ?_)
 obtain ⟨r9, h10, H0⟩ := Zg H0; obtain ⟨r11, h12, H0⟩ := Zg H0; obtain ⟨r13, h14, H0⟩ := Zg H0; obtain ⟨e15, h16, H0⟩ := Zg H0; obtain ⟨e17, h18, H0⟩ := Zg H0; obtain ⟨e19, h20, H0⟩ := Zg H0
 refine r_s (T := ⟨[.old 0], _, [], [], [45]⟩ :: ⟨[.op 0 0], _, [], [0], [46]⟩ :: ⟨[.op 1 0], _, [], [0, 1], [47]⟩ :: ⟨[.op 2 0, .old 1], _, [], [0, 1, 2], [48]⟩ :: ⟨[.op 2 0, .op 3 0], _, [], Lr 4, [49]⟩ :: ⟨[.op 2 0, .op 4 0], _, [], Lr 5, [50]⟩ :: ⟨[.op 2 0, .op 5 0], _, [], Lr 6, [51]⟩ :: ⟨[.op 6 0], _, [], Lr 7, [52]⟩ :: ⟨[.op 7 0, .old 2], _, [], Lr 8, [53]⟩ :: ⟨[.op 7 0], _, [], Lr 8, [54]⟩ :: ⟨[.op 7 0, .op 8 0, .op 9 0], _, [], Lr 10, [55]⟩ :: ⟨[.op 7 0, .op 10 0], _, [], Lr 11, [56]⟩ :: ⟨[.op 11 0], _, [], Lr 12, [57]⟩ :: ⟨[.op 12 0, .old 3], _, [], Lr 13, [58]⟩ :: ⟨[.op 12 0, .op 13 0], _, [], Lr 14, [59]⟩ :: ⟨[.op 12 0, .op 14 0], _, [], Lr 15, [60]⟩ :: ⟨[.op 12 0, .op 15 0], _, [], Lr 16, [61]⟩ :: ⟨[.op 16 0], _, [], Lr 17, [62]⟩ :: ⟨[.op 17 0, .old 4], _, [], Lr 18, [63]⟩ :: ⟨[.op 17 0, .op 18 0], _, [], Lr 19, [64]⟩ :: ⟨[.op 17 0, .op 19 0], _, [], Lr 20, [65]⟩ :: ⟨[.op 17 0, .op 20 0], _, [], Lr 21, [66]⟩ :: ⟨[.op 21 0], _, [], Lr 22, [67]⟩ :: ⟨[.op 22 0, .old 4], _, [], Lr 23, [68]⟩ :: ⟨[.op 22 0, .op 23 0], _, [], Lr 24, [69]⟩ :: ⟨[.op 22 0, .op 24 0], _, [], Lr 25, [70]⟩ :: ⟨[.op 22 0, .op 25 0], _, [], Lr 26, [71]⟩ :: ⟨[.op 22 0, .op 26 0], _, [], Lr 27, [72]⟩ :: ⟨[.op 22 0, .op 27 0], _, [], Lr 28, [73]⟩ :: ⟨[.op 22 0, .op 28 0], _, [], Lr 29, [74]⟩ :: ⟨[.op 29 0], _, [], Lr 30, [75]⟩ :: ⟨[.op 30 0, .old 4], _, [], Lr 31, [76]⟩ :: ⟨[.op 30 0, .op 31 0], _, [], Lr 32, [77]⟩ :: ⟨[.op 30 0, .op 32 0], _, [], Lr 33, [78]⟩ :: ⟨[.op 30 0, .op 33 0], _, [], Lr 34, [79]⟩ :: ⟨[.op 30 0, .op 34 0], _, [], Lr 35, [80]⟩ :: ⟨[.op 30 0, .op 35 0], _, [], Lr 36, [81]⟩ :: ⟨[.op 36 0], _, [], Lr 37, [82]⟩ :: ⟨[.op 37 0, .old 4], _, [], Lr 38, [83]⟩ :: ⟨[.op 37 0, .op 38 0], _, [], Lr 39, [84]⟩ :: ⟨[.op 37 0, .op 39 0], _, [], Lr 40, [85]⟩ :: ⟨[.op 37 0, .op 40 0], _, [], Lr 41, [86]⟩ :: ⟨[.op 37 0, .op 41 0], _, [], Lr 42, [87]⟩ :: ⟨[.op 37 0, .op 42 0], _, [], Lr 43, [88]⟩ :: ⟨[.op 43 0], _, [], Lr 44, [89]⟩ :: ⟨[.op 44 0, .old 5], _, [], Lr 45, [90]⟩ :: ⟨[.op 44 0, .op 45 0], _, [], Lr 46, [91]⟩ :: ⟨[.op 44 0, .op 46 0], _, [], Lr 47, [92]⟩ :: ⟨[.op 44 0, .op 47 0], _, [], Lr 48, [93]⟩ :: ⟨[.op 48 0], _, [], Lr 49, [0]⟩ :: []) (F := [.op 49 0]) hst hb Zb
   (o_p rfl (Za rfl rfl u_0) <| o_p rfl (Zbj rfl rfl u_0 c_i) <| o_p rfl (Za rfl rfl u_0) <| o_g (g_t rfl rfl rfl (fun hG => Zf Zbs rfl rfl u_0)) <| o_g (g_t rfl rfl rfl (fun hG => Zo Zrx (Zfk _ (Zbb h10 hG)) rfl rfl (.cons (Opd.gd hG u_0) .nil))) <| o_g (g_t rfl rfl rfl (fun hG => Zbj rfl rfl (Opd.gd hG u_0) c_i)) <| o_p rfl (Zbf rfl rfl u_0 (fun hz => (Opd.gd hz u_1))) <| o_p rfl (Za rfl rfl u_0) <| o_g (g_t rfl rfl rfl (fun hG => Zf Zja rfl rfl u_0)) <| o_g (g_t rfl rfl rfl (fun hG => Zq1 rfl rfl c_i c_i)) <| o_g (g_t rfl rfl rfl (fun hG => Zo Z1j (Zm7 _ _ (Zbb h12 hG)) rfl rfl (.cons (Opd.gd hG u_0) (.cons (Opd.gd hG u_1) .nil)))) <| o_p rfl (Zbf rfl rfl u_0 (fun hz => (Opd.gd hz u_1))) <| o_p rfl (Za rfl rfl u_0) <| o_g (g_t rfl rfl rfl (fun hG => Zf Zbs rfl rfl u_0)) <| o_g (g_t rfl rfl rfl (fun hG => Zo Zrx (Zfk _ (Zbb h14 hG)) rfl rfl (.cons (Opd.gd hG u_0) .nil))) <| o_g (g_t rfl rfl rfl (fun hG => Zbj rfl rfl (Opd.gd hG u_0) c_i)) <| o_p rfl (Zbf rfl rfl u_0 (fun hz => (Opd.gd hz u_1))) <| o_p rfl (Za rfl rfl u_0) <| o_g (g_t rfl rfl rfl (fun hG => Za rfl rfl u_0)) <| o_g (g_t rfl rfl rfl (fun hG => Zb4 Tryz.underlying37 rfl rfl (Opd.gd hG u_0))) <| o_g (g_t rfl rfl rfl (fun hG => Zbj rfl rfl (Opd.gd hG u_0) c_i)) <| o_p rfl (Zbf rfl rfl u_0 (fun hz => (Opd.gd hz u_1))) <| o_p rfl (Za rfl rfl u_0) <| o_g (g_t rfl rfl rfl (fun hG => Za rfl rfl u_0)) <| o_g (g_t rfl rfl rfl (fun hG => Zbp Tryz.underlying37 Zpz rfl rfl (Opd.gd hG u_0) c_i (Zbb h16 hG))) <| o_g (g_t rfl rfl rfl (fun hG => Ze Zu7 rfl rfl (Opd.gd hG u_0))) <| o_g (g_t rfl rfl rfl (fun hG => Zf Z0t rfl rfl (Opd.gd hG u_0))) <| o_g (g_t rfl rfl rfl (fun hG => Zb4 Tryz.underlying43 rfl rfl (Opd.gd hG u_0))) <| o_g (g_t rfl rfl rfl (fun hG => Zbj rfl rfl (Opd.gd hG u_0) c_i)) <| o_p rfl (Zbf rfl rfl u_0 (fun hz => (Opd.gd hz u_1))) <| o_p rfl (Za rfl rfl u_0) <| o_g (g_t rfl rfl rfl (fun hG => Za rfl rfl u_0)) <| o_g (g_t rfl rfl rfl (fun hG => Zbp Tryz.underlying37 Zpz rfl rfl (Opd.gd hG u_0) c_i (Zbb h18 hG))) <| o_g (g_t rfl rfl rfl (fun hG => Ze Zuw rfl rfl (Opd.gd hG u_0))) <| o_g (g_t rfl rfl rfl (fun hG => Zf Zlw rfl rfl (Opd.gd hG u_0))) <| o_g (g_t rfl rfl rfl (fun hG => Zbj rfl rfl (Opd.gd hG u_0) c_i)) <| o_p rfl (Zbf rfl rfl u_0 (fun hz => (Opd.gd hz u_1))) <| o_p rfl (Za rfl rfl u_0) <| o_g (g_t rfl rfl rfl (fun hG => Za rfl rfl u_0)) <| o_g (g_t rfl rfl rfl (fun hG => Zbp Tryz.underlying37 Zpz rfl rfl (Opd.gd hG u_0) c_i (Zbb h20 hG))) <| o_g (g_t rfl rfl rfl (fun hG => Ze Zvb rfl rfl (Opd.gd hG u_0))) <| o_g (g_t rfl rfl rfl (fun hG => Zf ty_3 rfl rfl (Opd.gd hG u_0))) <| o_g (g_t rfl rfl rfl (fun hG => Zbj rfl rfl (Opd.gd hG u_0) c_i)) <| o_p rfl (Zbf rfl rfl u_0 (fun hz => (Opd.gd hz u_1))) <| o_p rfl (Za rfl rfl u_0) <| o_g (g_t rfl rfl rfl (fun hG => Ze Zmh rfl rfl u_0)) <| o_g (g_t rfl rfl rfl (fun hG => Zf Zlw rfl rfl (Opd.gd hG u_0))) <| o_g (g_t rfl rfl rfl (fun hG => Zbj rfl rfl (Opd.gd hG u_0) c_i)) <| o_p rfl (Zbf rfl rfl u_0 (fun hz => (Opd.gd hz u_1))) <| o_p rfl (Zc rfl rfl u_0) <| o_n) (by kernel_rfl) (fun a g hst hb => ?_)
 refine wp_ret ?_
 obtain rfl := Option.some.inj H0
 exact Zx rfl hst hb (Zk (s := 0)) (hst.at 0 rfl)
theorem Zmx (a0 : Zd) {r : Int} (h : Zg9 a0 = some r) : FnOk Tryz.prog 16 [(Zj.pd a0)] (pInt .i64 r) := by
 have H0 := h
 unfold Zg9 at H0
 clear h
 refine Zbr (N := 27) Tryz.func16 rfl rfl (Nat.le_of_ble_eq_true rfl) rfl rfl (fun a g0 hst hb => ?_)
 refine r_s (T := [⟨[.old 0], _, [], [], [1]⟩, ⟨[], _, [], [], [2]⟩]) (F := [.op 0 0]) hst hb Zb
   (o_p rfl (Zbh rfl rfl u_0) <| o_p rfl (Zc rfl rfl c_i) <| o_n) (by kernel_rfl) (fun a g hst hb => ?_)
 refine wp_seq ?_
 refine r_s (T := [⟨[.old 0], _, [], [], [5]⟩, ⟨[.op 0 0], _, [], [0], [6]⟩, ⟨[.op 1 0], _, [], [0, 1], [7]⟩, ⟨[.op 2 0], _, [], [0, 1, 2], [8]⟩, ⟨[.op 3 0], _, [], Lr 4, [9]⟩, ⟨[.op 4 0, .old 0], _, [], Lr 5, [10]⟩, ⟨[.op 4 0, .op 5 0], _, [], Lr 6, [11]⟩, ⟨[.op 4 0, .op 6 0], _, [], Lr 7, [12]⟩, ⟨[.op 4 0, .op 7 0], _, [], Lr 8, [13]⟩, ⟨[.op 4 0, .op 8 0], _, [], Lr 9, [14]⟩]) (F := [.old 0, .op 9 0]) hst hb Zb
   (o_p rfl (Ze Zdh rfl rfl u_0) <| o_p rfl (Zf Ze5 rfl rfl u_0) <| o_p rfl (Zb4 Tryz.underlying50 rfl rfl u_0) <| o_p rfl (Zci rfl rfl u_0 c_i) <| o_p rfl (Za rfl rfl u_0) <| o_g (g_f rfl rfl rfl (fun hG => Ze Zkt rfl rfl u_0)) <| o_g (g_f rfl rfl rfl (fun hG => Zf ty_9 rfl rfl (Opd.gd hG u_0))) <| o_g (g_f rfl rfl rfl (fun hG => Zf4 Tryz.underlying9 rfl rfl (Opd.gd hG u_0))) <| o_g (g_f rfl rfl rfl (fun hG => Zci rfl rfl (Opd.gd hG u_0) c_i)) <| o_p rfl (Zbi rfl rfl u_0 (fun hz => (Opd.gd (bNF hz) u_1))) <| o_n) (by kernel_rfl) (fun a g hst hb => ?_)
 refine wp_cond_split (hst.bool 1 rfl) (fun hc1 => ?_) (fun hc1 => ?_)
 · replace H0 := Zy hc1 H0
   refine r_s (L := []) (T := [⟨[], _, [], [], [2]⟩]) (F := [.op 0 0]) (hst.pick [] rfl) hb Zb
     (o_p rfl (Zc rfl rfl c_i) <| o_n) (by kernel_rfl) (fun a g hst hb => ?_)
   refine wp_ret ?_
   refine Zp ?_
   obtain rfl := Option.some.inj H0
   exact Zx rfl hst hb (Zk (s := 2)) (hst.at 0 rfl)
 · replace H0 := Zz hc1 H0
   refine wp_skip ?_
   refine Zv ?_
   refine wp_seq ?_
   refine r_s (L := [(1, _)]) (T := [⟨[.old 0], _, [], [], [15]⟩, ⟨[.op 0 0], _, [], [0], [16]⟩, ⟨[.op 1 0], _, [], [0, 1], [17]⟩, ⟨[], _, [], [], [18]⟩]) (F := [.op 1 0, .op 2 0, .op 3 0]) (hst.pick [0] rfl) hb Zb
     (o_p rfl (Ze Zdh rfl rfl u_0) <| o_p rfl (Zf Ze5 rfl rfl u_0) <| o_p rfl (Zb4 Tryz.underlying50 rfl rfl u_0) <| o_p rfl (Za rfl rfl c_i) <| o_n) (by kernel_rfl) (fun a g hst hb => ?_)
   obtain ⟨z7, hz1, H0⟩ := Zg H0
   refine Zcx (fun a w => ∃ (g : G), w = g.w ∧ St 27 [] a g ∧ Base g0 g ∧ (.inr ()) = z7) ?_ ?_
   · rintro a w ⟨g, rfl, hst, hb, rfl⟩
     refine Zv ?_
     refine r_s (T := [⟨[], _, [], [], [2]⟩]) (F := [.op 0 0]) hst hb Zb
       (o_p rfl (Zc rfl rfl c_i) <| o_n) (by kernel_rfl) (fun a g hst hb => ?_)
     refine wp_ret ?_
     obtain rfl := Option.some.inj H0
     exact Zx rfl hst hb (Zk (s := 2)) (hst.at 0 rfl)
   · refine wp_block ?_
     refine wp_loop_ghost (fun n a w => ∃ (x2 : Int) (g : G), w = g.w ∧ St 27 [(16, (Z0.sl.pd a0.List)), (17, (pInt .i64 (a0.List.length : Int))), (18, (pInt .i64 x2))] a g ∧ Base g0 g ∧ Zec a0 n x2 = some z7) (Int.toNat ((a0.List.length : Int) - (0 : Int)) + 1) ⟨(0 : Int), g, rfl, (hst.pick [0, 1, 2] rfl), hb, hz1⟩ (fun n a w hI => ?_)
     obtain ⟨x2, g, rfl, hst, hb, H1⟩ := hI
     cases n with
     | zero => exact absurd H1 (by simp [Zec])
     | succ n =>
       rw [Zec] at H1
       refine r_s (T := [⟨[.old 2, .old 1], _, [], [], [19]⟩]) (F := [.old 0, .old 1, .old 2, .op 0 0]) hst hb Zb
         (o_p rfl (Zco rfl rfl u_0 u_1) <| o_n) (by kernel_rfl) (fun a g hst hb => ?_)
       refine wp_seq ?_
       refine wp_cond_split (hst.bool 3 rfl) (fun hc3 => ?_) (fun hc3 => ?_)
       · replace H1 := Zy hc3 H1
         refine wp_skip ?_
         refine Zv ?_
         refine wp_seq ?_
         refine wp_block ?_
         obtain ⟨e4, h5, H1⟩ := Zg H1
         refine r_s (L := [(16, _), (17, _), (18, _)]) (T := [⟨[.old 0, .old 2], _, [], [], [20]⟩, ⟨[.op 0 0], _, [], [0], [21]⟩, ⟨[], [(4, (pBox Z0 4 (default : Zi)))], [5], [], [4]⟩, ⟨[.op 1 0, .op 2 0], _, [5], [0, 1, 2], [4]⟩]) (F := [.op 3 0, .old 0, .old 1, .old 2]) (hst.pick [0, 1, 2] rfl) hb Zb
           (o_p rfl (Zbp Tryz.underlying50 Zj3 rfl rfl u_0 u_1 h5) <| o_p rfl (Zf Zft rfl rfl u_0) <| o_p rfl (Zbg (zs := [.float .f64 0, .string ByteArray.empty]) (by kernel_rfl) (fun g => Zjw g) rfl rfl) <| o_p rfl (Zb1 Zft rfl rfl u_1 u_0) <| o_n) (by kernel_rfl) (fun a g hst hb => ?_)
         refine r_s (T := [⟨[.old 0], _, [], [], [22]⟩, ⟨[.op 0 0], _, [], [0], [23]⟩, ⟨[.op 1 0], _, [], [0, 1], [24]⟩, ⟨[.op 2 0], _, [], [0, 1, 2], [25]⟩]) (F := [.old 1, .old 2, .old 3, .op 3 0]) hst hb Zb
           (o_p rfl (Ze Zgl rfl rfl u_0) <| o_p rfl (Zf ty_9 rfl rfl u_0) <| o_p rfl (Zf4 Tryz.underlying9 rfl rfl u_0) <| o_p rfl (Zci rfl rfl u_0 c_i) <| o_n) (by kernel_rfl) (fun a g hst hb => ?_)
         refine wp_cond_split (hst.bool 3 rfl) (fun hc6 => ?_) (fun hc6 => ?_)
         · replace H1 := Zy hc6 H1
           refine r_s (L := []) (T := [⟨[], _, [], [], [2]⟩]) (F := [.op 0 0]) (hst.pick [] rfl) hb Zb
             (o_p rfl (Zc rfl rfl c_i) <| o_n) (by kernel_rfl) (fun a g hst hb => ?_)
           refine wp_ret ?_
           refine Zw ?_
           refine Zp ?_
           refine Zp ?_
           refine Zw ?_
           refine Zp ?_
           refine Zp ?_
           obtain rfl := Option.some.inj H1
           obtain rfl := Option.some.inj H0
           exact Zx rfl hst hb (Zk (s := 2)) (hst.at 0 rfl)
         · replace H1 := Zz hc6 H1
           refine wp_skip ?_
           refine Zbu ?_
           refine Zv ?_
           refine r_g (L := [(16, _), (17, _), (18, _)]) (T := [⟨[.old 2], _, [], [], [26]⟩, ⟨[.op 0 0], _, [], [0], [18]⟩]) (F := [.old 0, .old 1, .op 1 0]) (hst.pick [0, 1, 2] rfl) hb Zb
             (o_p rfl (Zcd rfl rfl u_0 c_i rfl) <| o_p rfl (Za rfl rfl u_0) <| o_n) (by kernel_rfl) (fun a g hst hb => ?_)
           exact ⟨n, Nat.lt_succ_self _, (IntKind.i64.wrap (x2 + (1 : Int))), g, rfl, (hst.pick [0, 1, 2] rfl), hb, H1⟩
       · replace H1 := Zz hc3 H1
         refine wp_exit ?_
         refine Zb5 ?_
         refine Zb5 ?_
         refine Zct ?_
         exact ⟨g, rfl, (hst.pick [] rfl), hb, Option.some.inj H1⟩
theorem Zjz (a0 : Nat) {r : Bool} (h : Zez a0 = some r) : FnOk Tryz.prog 97 [(pFlt a0)] (Zba r) := by
 have H0 := h
 unfold Zez at H0
 clear h
 refine Zbr (N := 6) Tryz.func97 rfl rfl (Nat.le_of_ble_eq_true rfl) rfl rfl (fun a g0 hst hb => ?_)
 refine r_s (T := [⟨[], _, [], [], [2]⟩]) (F := [.old 0]) hst hb Zb
   (o_p rfl (Zc rfl rfl c_b) <| o_n) (by kernel_rfl) (fun a g hst hb => ?_)
 refine r_s (T := [⟨[.old 0], _, [], [], [3]⟩, ⟨[.old 0], _, [], [], [4]⟩, ⟨[.op 0 0, .op 1 0], _, [], [0, 1], [5]⟩, ⟨[.op 2 0], _, [], [0, 1, 2], [2]⟩]) (F := [.op 3 0]) hst hb Zb
   (o_p rfl (Za rfl rfl u_0) <| o_p rfl (Za rfl rfl u_0) <| o_p rfl (Z0e rfl rfl u_0 u_1) <| o_p rfl (Zc rfl rfl u_0) <| o_n) (by kernel_rfl) (fun a g hst hb => ?_)
 refine wp_ret ?_
 obtain rfl := Option.some.inj H0
 exact Zx rfl hst hb (Zk (s := 2)) (hst.at 0 rfl)
theorem Zly (a0 : Nat) {r : Bool} (h : Zf7 a0 = some r) : FnOk Tryz.prog 114 [(pFlt a0)] (Zba r) := by
 have H0 := h
 unfold Zf7 at H0
 clear h
 refine Zbr (N := 10) Tryz.func114 rfl rfl (Nat.le_of_ble_eq_true rfl) rfl rfl (fun a g0 hst hb => ?_)
 refine r_s (T := [⟨[], _, [], [], [2]⟩]) (F := [.old 0]) hst hb Zb
   (o_p rfl (Zc rfl rfl c_b) <| o_n) (by kernel_rfl) (fun a g hst hb => ?_)
 refine wp_seq ?_
 refine r_s (T := [⟨[.old 0], _, [], [], [3]⟩, ⟨[.op 0 0], _, [], [0], [4]⟩]) (F := [.old 0, .op 1 0]) hst hb Zb
   (o_p rfl (Za rfl rfl u_0) <| o_p rfl (Zur rfl rfl u_0 c_f) <| o_n) (by kernel_rfl) (fun a g hst hb => ?_)
 refine wp_cond_split (hst.bool 1 rfl) (fun hc1 => ?_) (fun hc1 => ?_)
 · replace H0 := Zy hc1 H0
   obtain ⟨f2, h3, H0⟩ := Zg H0
   refine r_s (L := [(0, _)]) (T := [⟨[.old 0], _, [], [], [5]⟩, ⟨[.op 0 0], _, [], [0], [6]⟩, ⟨[.op 1 0], _, [], [0, 1], [7]⟩, ⟨[.op 2 0], _, [], [0, 1, 2], [2]⟩]) (F := [.op 3 0]) (hst.pick [0] rfl) hb Zb
     (o_p rfl (Za rfl rfl u_0) <| o_p rfl (Z7v rfl rfl c_f u_0 h3) <| o_p rfl (Zuz rfl rfl u_0 c_f) <| o_p rfl (Zc rfl rfl u_0) <| o_n) (by kernel_rfl) (fun a g hst hb => ?_)
   refine wp_ret ?_
   refine Zp ?_
   obtain rfl := Option.some.inj H0
   exact Zx rfl hst hb (Zk (s := 2)) (hst.at 0 rfl)
 · replace H0 := Zz hc1 H0
   refine wp_skip ?_
   refine Zv ?_
   refine r_s (L := [(0, _)]) (T := [⟨[.old 0], _, [], [], [8]⟩, ⟨[.op 0 0], _, [], [0], [9]⟩, ⟨[.op 1 0], _, [], [0, 1], [2]⟩]) (F := [.op 2 0]) (hst.pick [0] rfl) hb Zb
     (o_p rfl (Za rfl rfl u_0) <| o_p rfl (Zuz rfl rfl u_0 c_f) <| o_p rfl (Zc rfl rfl u_0) <| o_n) (by kernel_rfl) (fun a g hst hb => ?_)
   refine wp_ret ?_
   obtain rfl := Option.some.inj H0
   exact Zx rfl hst hb (Zk (s := 2)) (hst.at 0 rfl)
theorem Zjy (a0 : Nat) (a1 : Nat) {r : Bool} (h : Zeh a0 a1 = some r) : FnOk Tryz.prog 110 [(pFlt a0), (pFlt a1)] (Zba r) := by
 have H0 := h
 unfold Zeh at H0
 clear h
 refine Zbr (N := 25) Tryz.func110 rfl rfl (Nat.le_of_ble_eq_true rfl) rfl rfl (fun a g0 hst hb => ?_)
 refine r_s (T := [⟨[], _, [], [], [4]⟩]) (F := [.old 0, .old 1]) hst hb Zb
   (o_p rfl (Zc rfl rfl c_b) <| o_n) (by kernel_rfl) (fun a g hst hb => ?_)
 refine wp_seq ?_
 obtain ⟨r1, h2, H0⟩ := Zg H0
 refine r_s (T := [⟨[.old 0], _, [], [], [5]⟩, ⟨[.op 0 0], _, [], [0], [6]⟩]) (F := [.old 0, .old 1, .op 1 0]) hst hb Zb
   (o_p rfl (Za rfl rfl u_0) <| o_p rfl (Zo Z09 (Zjz _ h2) rfl rfl (.cons u_0 .nil)) <| o_n) (by kernel_rfl) (fun a g hst hb => ?_)
 refine wp_cond_split (hst.bool 2 rfl) (fun hc3 => ?_) (fun hc3 => ?_)
 · replace H0 := Zy hc3 H0
   refine r_s (L := []) (T := [⟨[], _, [], [], [4]⟩]) (F := [.op 0 0]) (hst.pick [] rfl) hb Zb
     (o_p rfl (Zc rfl rfl c_b) <| o_n) (by kernel_rfl) (fun a g hst hb => ?_)
   refine wp_ret ?_
   refine Zp ?_
   obtain rfl := Option.some.inj H0
   exact Zx rfl hst hb (Zk (s := 4)) (hst.at 0 rfl)
 · replace H0 := Zz hc3 H0
   refine wp_skip ?_
   refine Zv ?_
   refine wp_seq ?_
   obtain ⟨r4, h5, H0⟩ := Zg H0
   refine r_s (L := [(0, _), (1, _)]) (T := [⟨[.old 1], _, [], [], [7]⟩, ⟨[.op 0 0], _, [], [0], [8]⟩]) (F := [.old 0, .old 1, .op 1 0]) (hst.pick [0, 1] rfl) hb Zb
     (o_p rfl (Za rfl rfl u_0) <| o_p rfl (Zo Z09 (Zjz _ h5) rfl rfl (.cons u_0 .nil)) <| o_n) (by kernel_rfl) (fun a g hst hb => ?_)
   refine wp_cond_split (hst.bool 2 rfl) (fun hc6 => ?_) (fun hc6 => ?_)
   · replace H0 := Zy hc6 H0
     refine r_s (L := []) (T := [⟨[], _, [], [], [4]⟩]) (F := [.op 0 0]) (hst.pick [] rfl) hb Zb
       (o_p rfl (Zc rfl rfl c_b) <| o_n) (by kernel_rfl) (fun a g hst hb => ?_)
     refine wp_ret ?_
     refine Zp ?_
     obtain rfl := Option.some.inj H0
     exact Zx rfl hst hb (Zk (s := 4)) (hst.at 0 rfl)
   · replace H0 := Zz hc6 H0
     refine wp_skip ?_
     refine Zv ?_
     refine wp_seq ?_
     refine r_s (L := [(0, _), (1, _)]) (T := [⟨[.old 0], _, [], [], [9]⟩, ⟨[.op 0 0], _, [], [0], [10]⟩, ⟨[.op 1 0], _, [], [0, 1], [11]⟩, ⟨[.op 2 0, .old 1], _, [], [0, 1, 2], [12]⟩, ⟨[.op 2 0, .op 3 0], _, [], Lr 4, [13]⟩, ⟨[.op 2 0, .op 4 0], _, [], Lr 5, [14]⟩]) (F := [.old 0, .old 1, .op 5 0]) (hst.pick [0, 1] rfl) hb Zb
       (o_p rfl (Za rfl rfl u_0) <| o_p rfl (Zur rfl rfl u_0 c_f) <| o_p rfl (Za rfl rfl u_0) <| o_g (g_t rfl rfl rfl (fun hG => Za rfl rfl u_0)) <| o_g (g_t rfl rfl rfl (fun hG => Zur rfl rfl (Opd.gd hG u_0) c_f)) <| o_p rfl (Zbf rfl rfl u_0 (fun hz => (Opd.gd hz u_1))) <| o_n) (by kernel_rfl) (fun a g hst hb => ?_)
     refine wp_cond_split (hst.bool 2 rfl) (fun hc7 => ?_) (fun hc7 => ?_)
     · replace H0 := Zy hc7 H0
       obtain ⟨r8, h9, H0⟩ := Zg H0; obtain ⟨r10, h11, H0⟩ := Zg H0
       refine r_s (L := [(0, _), (1, _)]) (T := [⟨[.old 0], _, [], [], [15]⟩, ⟨[.op 0 0], _, [], [0], [16]⟩, ⟨[.op 1 0], _, [], [0, 1], [17]⟩, ⟨[.op 2 0, .old 1], _, [], [0, 1, 2], [18]⟩, ⟨[.op 2 0, .op 3 0], _, [], Lr 4, [19]⟩, ⟨[.op 2 0, .op 4 0], _, [], Lr 5, [20]⟩, ⟨[.op 2 0, .op 5 0], _, [], Lr 6, [21]⟩, ⟨[.op 6 0], _, [], Lr 7, [4]⟩]) (F := [.op 7 0]) (hst.pick [0, 1] rfl) hb Zb
         (o_p rfl (Za rfl rfl u_0) <| o_p rfl (Zo Z3a (Zly _ h9) rfl rfl (.cons u_0 .nil)) <| o_p rfl (Za rfl rfl u_0) <| o_g (g_t rfl rfl rfl (fun hG => Za rfl rfl u_0)) <| o_g (g_t rfl rfl rfl (fun hG => Zo Z3a (Zly _ (Zbb h11 hG)) rfl rfl (.cons (Opd.gd hG u_0) .nil))) <| o_g (g_t rfl rfl rfl (fun hG => Zcr rfl rfl (Opd.gd hG u_0))) <| o_p rfl (Zbf rfl rfl u_0 (fun hz => (Opd.gd hz u_1))) <| o_p rfl (Zc rfl rfl u_0) <| o_n) (by kernel_rfl) (fun a g hst hb => ?_)
       refine wp_ret ?_
       refine Zp ?_
       obtain rfl := Option.some.inj H0
       exact Zx rfl hst hb (Zk (s := 4)) (hst.at 0 rfl)
     · replace H0 := Zz hc7 H0
       refine wp_skip ?_
       refine Zv ?_
       refine r_s (L := [(0, _), (1, _)]) (T := [⟨[.old 0], _, [], [], [22]⟩, ⟨[.old 1], _, [], [], [23]⟩, ⟨[.op 0 0, .op 1 0], _, [], [0, 1], [24]⟩, ⟨[.op 2 0], _, [], [0, 1, 2], [4]⟩]) (F := [.op 3 0]) (hst.pick [0, 1] rfl) hb Zb
         (o_p rfl (Za rfl rfl u_0) <| o_p rfl (Za rfl rfl u_0) <| o_p rfl (Zuz rfl rfl u_0 u_1) <| o_p rfl (Zc rfl rfl u_0) <| o_n) (by kernel_rfl) (fun a g hst hb => ?_)
       refine wp_ret ?_
       obtain rfl := Option.some.inj H0
       exact Zx rfl hst hb (Zk (s := 4)) (hst.at 0 rfl)
theorem Zl5 (a0 : Nat) (a1 : Nat) {r : Bool} (h : Zdi a0 a1 = some r) : FnOk Tryz.prog 109 [(pFlt a0), (pFlt a1)] (Zba r) := by
 have H0 := h
 unfold Zdi at H0
 clear h
 refine Zbr (N := 15) Tryz.func109 rfl rfl (Nat.le_of_ble_eq_true rfl) rfl rfl (fun a g0 hst hb => ?_)
 refine r_s (T := [⟨[], _, [], [], [4]⟩]) (F := [.old 0, .old 1]) hst hb Zb
   (o_p rfl (Zc rfl rfl c_b) <| o_n) (by kernel_rfl) (fun a g hst hb => ?_)
 obtain ⟨r1, h2, H0⟩ := Zg H0; obtain ⟨r3, h4, H0⟩ := Zg H0
 refine r_s (T := [⟨[.old 0], _, [], [], [5]⟩, ⟨[.old 1], _, [], [], [6]⟩, ⟨[.op 0 0, .op 1 0], _, [], [0, 1], [7]⟩, ⟨[.op 2 0], _, [], [0, 1, 2], [8]⟩, ⟨[.op 3 0], _, [], Lr 4, [9]⟩, ⟨[.op 4 0, .old 1], _, [], Lr 5, [10]⟩, ⟨[.op 4 0, .old 0], _, [], Lr 5, [11]⟩, ⟨[.op 4 0, .op 5 0, .op 6 0], _, [], Lr 7, [12]⟩, ⟨[.op 4 0, .op 7 0], _, [], Lr 8, [13]⟩, ⟨[.op 4 0, .op 8 0], _, [], Lr 9, [14]⟩, ⟨[.op 9 0], _, [], Lr 10, [4]⟩]) (F := [.op 10 0]) hst hb Zb
   (o_p rfl (Za rfl rfl u_0) <| o_p rfl (Za rfl rfl u_0) <| o_p rfl (Zo Zxg (Zjy _ _ h2) rfl rfl (.cons u_0 (.cons u_1 .nil))) <| o_p rfl (Zcr rfl rfl u_0) <| o_p rfl (Za rfl rfl u_0) <| o_g (g_t rfl rfl rfl (fun hG => Za rfl rfl u_0)) <| o_g (g_t rfl rfl rfl (fun hG => Za rfl rfl u_0)) <| o_g (g_t rfl rfl rfl (fun hG => Zo Zxg (Zjy _ _ (Zbb h4 hG)) rfl rfl (.cons (Opd.gd hG u_0) (.cons (Opd.gd hG u_1) .nil)))) <| o_g (g_t rfl rfl rfl (fun hG => Zcr rfl rfl (Opd.gd hG u_0))) <| o_p rfl (Zbf rfl rfl u_0 (fun hz => (Opd.gd hz u_1))) <| o_p rfl (Zc rfl rfl u_0) <| o_n) (by kernel_rfl) (fun a g hst hb => ?_)
 refine wp_ret ?_
 obtain rfl := Option.some.inj H0
 exact Zx rfl hst hb (Zk (s := 4)) (hst.at 0 rfl)
theorem Zl6 (a0 : Nat) {r : Bool} (h : Zgo a0 = some r) : FnOk Tryz.prog 96 [(pFlt a0)] (Zba r) := by
 have H0 := h
 unfold Zgo at H0
 clear h
 refine Zbr (N := 5) Tryz.func96 rfl rfl (Nat.le_of_ble_eq_true rfl) rfl rfl (fun a g0 hst hb => ?_)
 refine r_s (T := [⟨[], _, [], [], [2]⟩]) (F := [.old 0]) hst hb Zb
   (o_p rfl (Zc rfl rfl c_b) <| o_n) (by kernel_rfl) (fun a g hst hb => ?_)
 obtain ⟨r1, h2, H0⟩ := Zg H0
 refine r_s (T := [⟨[.old 0], _, [], [], [3]⟩, ⟨[.op 0 0], _, [], [0], [4]⟩, ⟨[.op 1 0], _, [], [0, 1], [2]⟩]) (F := [.op 2 0]) hst hb Zb
   (o_p rfl (Za rfl rfl u_0) <| o_p rfl (Zo Z3z (Zl5 _ _ h2) rfl rfl (.cons u_0 (.cons c_f .nil))) <| o_p rfl (Zc rfl rfl u_0) <| o_n) (by kernel_rfl) (fun a g hst hb => ?_)
 refine wp_ret ?_
 obtain rfl := Option.some.inj H0
 exact Zx rfl hst hb (Zk (s := 2)) (hst.at 0 rfl)
theorem Zqb (a0 : Zd) (a1 : ByteArray) {r : Bool} (h : Zh0 a0 a1 = some r) : FnOk Tryz.prog 61 [(Zj.pd a0), (pStr a1)] (Zba r) := by
 have H0 := h
 unfold Zh0 at H0
 clear h
 refine Zbr (N := 106) Tryz.func61 rfl rfl (Nat.le_of_ble_eq_true rfl) rfl rfl (fun a g0 hst hb => ?_)
 refine r_s (T := [⟨[.old 0], _, [], [], [2]⟩, ⟨[], _, [], [], [4]⟩]) (F := [.old 1, .op 0 0]) hst hb Zb
   (o_p rfl (Zbh rfl rfl u_0) <| o_p rfl (Zc rfl rfl c_b) <| o_n) (by kernel_rfl) (fun a g hst hb => ?_)
 refine r_s (T := [⟨[], _, [], [], [5]⟩, ⟨[], _, [], [0], [6]⟩, ⟨[], _, [], [0, 1], [7]⟩, ⟨[], _, [], [0, 1, 2], [8]⟩, ⟨[], _, [], Lr 4, [9]⟩]) (F := [.old 0, .old 1, .op 0 0, .op 1 0, .op 2 0, .op 3 0, .op 4 0]) hst hb Zb
   (o_p rfl (Zc rfl rfl c_b) <| o_p rfl (Zc rfl rfl c_b) <| o_p rfl (Zc rfl rfl c_b) <| o_p rfl (Zc rfl rfl c_b) <| o_p rfl (Zc rfl rfl c_b) <| o_n) (by kernel_rfl) (fun a g hst hb => ?_)
 refine wp_seq ?_
 refine r_s (T := [⟨[], _, [], [], [10]⟩]) (F := [.old 0, .old 1, .old 2, .old 3, .old 4, .old 5, .old 6, .op 0 0]) hst hb Zb
   (o_p rfl (Zc rfl rfl c_i) <| o_n) (by kernel_rfl) (fun a g hst hb => ?_)
 obtain ⟨z23, hz1, H0⟩ := Zg H0
 refine Zcx (fun a w => ∃ (y18 : Bool) (y19 : Bool) (y20 : Bool) (y21 : Bool) (y22 : Bool) (g : G), w = g.w ∧ St 106 [(2, (Zj.ptr a0)), (5, (Zba y18)), (6, (Zba y19)), (7, (Zba y20)), (8, (Zba y21)), (9, (Zba y22))] a g ∧ Base g0 g ∧ (y18, y19, y20, y21, y22) = z23) ?_ ?_
 · rintro a w ⟨y18, y19, y20, y21, y22, g, rfl, hst, hb, rfl⟩
   refine Zv ?_
   refine wp_seq ?_
   refine r_s (T := ⟨[.old 1], _, [], [], [52]⟩ :: ⟨[.op 0 0], _, [], [0], [53]⟩ :: ⟨[.op 1 0], _, [], [0, 1], [54]⟩ :: ⟨[.op 2 0, .old 0], _, [], [0, 1, 2], [55]⟩ :: ⟨[.op 2 0, .op 3 0], _, [], Lr 4, [56]⟩ :: ⟨[.op 2 0, .op 4 0], _, [], Lr 5, [57]⟩ :: ⟨[.op 2 0, .op 5 0], _, [], Lr 6, [58]⟩ :: ⟨[.op 6 0], _, [], Lr 7, [59]⟩ :: ⟨[.op 7 0, .old 2], _, [], Lr 8, [60]⟩ :: ⟨[.op 7 0, .op 8 0], _, [], Lr 9, [61]⟩ :: ⟨[.op 7 0, .op 9 0], _, [], Lr 10, [62]⟩ :: ⟨[.op 10 0, .old 0], _, [], Lr 11, [63]⟩ :: ⟨[.op 10 0, .op 11 0], _, [], Lr 12, [64]⟩ :: ⟨[.op 10 0, .op 12 0], _, [], Lr 13, [65]⟩ :: ⟨[.op 7 0, .op 10 0, .op 13 0], _, [], Lr 14, [66]⟩ :: ⟨[.op 7 0, .op 14 0], _, [], Lr 15, [67]⟩ :: ⟨[.op 15 0], _, [], Lr 16, [68]⟩ :: ⟨[.op 16 0, .old 3], _, [], Lr 17, [69]⟩ :: ⟨[.op 16 0, .op 17 0], _, [], Lr 18, [70]⟩ :: ⟨[.op 16 0, .op 18 0], _, [], Lr 19, [71]⟩ :: ⟨[.op 19 0, .old 0], _, [], Lr 20, [72]⟩ :: ⟨[.op 19 0, .op 20 0], _, [], Lr 21, [73]⟩ :: ⟨[.op 19 0, .op 21 0], _, [], Lr 22, [74]⟩ :: ⟨[.op 16 0, .op 19 0, .op 22 0], _, [], Lr 23, [75]⟩ :: ⟨[.op 16 0, .op 23 0], _, [], Lr 24, [76]⟩ :: ⟨[.op 24 0], _, [], Lr 25, [77]⟩ :: ⟨[.op 25 0, .old 3], _, [], Lr 26, [78]⟩ :: ⟨[.op 25 0, .op 26 0], _, [], Lr 27, [79]⟩ :: ⟨[.op 25 0, .op 27 0], _, [], Lr 28, [80]⟩ :: ⟨[.op 28 0, .old 0], _, [], Lr 29, [81]⟩ :: ⟨[.op 28 0, .op 29 0], _, [], Lr 30, [82]⟩ :: ⟨[.op 28 0, .op 30 0], _, [], Lr 31, [83]⟩ :: ⟨[.op 25 0, .op 28 0, .op 31 0], _, [], Lr 32, [84]⟩ :: ⟨[.op 25 0, .op 32 0], _, [], Lr 33, [85]⟩ :: []) (F := [.old 0, .old 4, .old 5, .op 33 0]) hst hb Zb
     (o_p rfl (Za rfl rfl u_0) <| o_p rfl (Zcr rfl rfl u_0) <| o_p rfl (Za rfl rfl u_0) <| o_g (g_t rfl rfl rfl (fun hG => Ze Zkt rfl rfl u_0)) <| o_g (g_t rfl rfl rfl (fun hG => Zf ty_9 rfl rfl (Opd.gd hG u_0))) <| o_g (g_t rfl rfl rfl (fun hG => Zt8 rfl rfl (Opd.gd hG u_0) c_s)) <| o_p rfl (Zbf rfl rfl u_0 (fun hz => (Opd.gd hz u_1))) <| o_p rfl (Za rfl rfl u_0) <| o_g (g_f rfl rfl rfl (fun hG => Za rfl rfl u_0)) <| o_g (g_f rfl rfl rfl (fun hG => Zcr rfl rfl (Opd.gd hG u_0))) <| o_g (g_f rfl rfl rfl (fun hG => Za rfl rfl (Opd.gd hG u_0))) <| o_g (g_ti rfl rfl rfl (fun hG => Ze Zem rfl rfl u_0)) <| o_g (g_ti rfl rfl rfl (fun hG => Zf ty_2 rfl rfl (Opd.gd hG u_0))) <| o_g (g_ti rfl rfl rfl (fun hG => Zf2 rfl rfl (Opd.gd hG u_0) c_i)) <| o_g (g_f rfl rfl rfl (fun hG => Zbf rfl rfl (Opd.gd hG u_0) (fun hz => (Opd.gd (bA hG hz) u_1)))) <| o_p rfl (Zbi rfl rfl u_0 (fun hz => (Opd.gd (bNF hz) u_1))) <| o_p rfl (Za rfl rfl u_0) <| o_g (g_f rfl rfl rfl (fun hG => Za rfl rfl u_0)) <| o_g (g_f rfl rfl rfl (fun hG => Zcr rfl rfl (Opd.gd hG u_0))) <| o_g (g_f rfl rfl rfl (fun hG => Za rfl rfl (Opd.gd hG u_0))) <| o_g (g_ti rfl rfl rfl (fun hG => Ze Zky rfl rfl u_0)) <| o_g (g_ti rfl rfl rfl (fun hG => Zf ty_2 rfl rfl (Opd.gd hG u_0))) <| o_g (g_ti rfl rfl rfl (fun hG => Zf2 rfl rfl (Opd.gd hG u_0) c_i)) <| o_g (g_f rfl rfl rfl (fun hG => Zbf rfl rfl (Opd.gd hG u_0) (fun hz => (Opd.gd (bA hG hz) u_1)))) <| o_p rfl (Zbi rfl rfl u_0 (fun hz => (Opd.gd (bNF hz) u_1))) <| o_p rfl (Za rfl rfl u_0) <| o_g (g_f rfl rfl rfl (fun hG => Za rfl rfl u_0)) <| o_g (g_f rfl rfl rfl (fun hG => Zcr rfl rfl (Opd.gd hG u_0))) <| o_g (g_f rfl rfl rfl (fun hG => Za rfl rfl (Opd.gd hG u_0))) <| o_g (g_ti rfl rfl rfl (fun hG => Ze Zkr rfl rfl u_0)) <| o_g (g_ti rfl rfl rfl (fun hG => Zf ty_2 rfl rfl (Opd.gd hG u_0))) <| o_g (g_ti rfl rfl rfl (fun hG => Zf2 rfl rfl (Opd.gd hG u_0) c_i)) <| o_g (g_f rfl rfl rfl (fun hG => Zbf rfl rfl (Opd.gd hG u_0) (fun hz => (Opd.gd (bA hG hz) u_1)))) <| o_p rfl (Zbi rfl rfl u_0 (fun hz => (Opd.gd (bNF hz) u_1))) <| o_n) (by kernel_rfl) (fun a g hst hb => ?_)
   refine wp_cond_split (hst.bool 3 rfl) (fun hc24 => ?_) (fun hc24 => ?_)
   · replace H0 := Zy hc24 H0
     refine r_s (L := []) (T := [⟨[], _, [], [], [4]⟩]) (F := [.op 0 0]) (hst.pick [] rfl) hb Zb
       (o_p rfl (Zc rfl rfl c_b) <| o_n) (by kernel_rfl) (fun a g hst hb => ?_)
     refine wp_ret ?_
     refine Zp ?_
     obtain rfl := Option.some.inj H0
     exact Zx rfl hst hb (Zk (s := 4)) (hst.at 0 rfl)
   · replace H0 := Zz hc24 H0
     refine wp_skip ?_
     refine Zv ?_
     obtain ⟨r25, h26, H0⟩ := Zg H0
     refine r_s (L := [(2, _), (8, _), (9, _)]) (T := ⟨[.old 1], _, [], [], [86]⟩ :: ⟨[.op 0 0], _, [], [0], [87]⟩ :: ⟨[.op 1 0, .old 0], _, [], [0, 1], [88]⟩ :: ⟨[.op 1 0, .op 2 0], _, [], [0, 1, 2], [89]⟩ :: ⟨[.op 1 0, .op 3 0], _, [], Lr 4, [90]⟩ :: ⟨[.op 1 0, .op 4 0], _, [], Lr 5, [91]⟩ :: ⟨[.op 5 0], _, [], Lr 6, [92]⟩ :: ⟨[.op 6 0, .old 2], _, [], Lr 7, [93]⟩ :: ⟨[.op 6 0, .op 7 0], _, [], Lr 8, [94]⟩ :: ⟨[.op 8 0, .old 0], _, [], Lr 9, [95]⟩ :: ⟨[.op 8 0, .op 9 0], _, [], Lr 10, [96]⟩ :: ⟨[.op 8 0, .op 10 0], _, [], Lr 11, [97]⟩ :: ⟨[.op 8 0, .op 11 0], _, [], Lr 12, [98]⟩ :: ⟨[.op 12 0, .old 0], _, [], Lr 13, [99]⟩ :: ⟨[.op 12 0, .op 13 0], _, [], Lr 14, [100]⟩ :: ⟨[.op 12 0, .op 14 0], _, [], Lr 15, [101]⟩ :: ⟨[.op 12 0, .op 15 0], _, [], Lr 16, [102]⟩ :: ⟨[.op 8 0, .op 12 0, .op 16 0], _, [], Lr 17, [103]⟩ :: ⟨[.op 6 0, .op 8 0, .op 17 0], _, [], Lr 18, [104]⟩ :: ⟨[.op 6 0, .op 18 0], _, [], Lr 19, [105]⟩ :: ⟨[.op 19 0], _, [], Lr 20, [4]⟩ :: []) (F := [.op 20 0]) (hst.pick [0, 1, 2] rfl) hb Zb
       (o_p rfl (Za rfl rfl u_0) <| o_p rfl (Za rfl rfl u_0) <| o_g (g_f rfl rfl rfl (fun hG => Ze Zls rfl rfl u_0)) <| o_g (g_f rfl rfl rfl (fun hG => Zf Zfb rfl rfl (Opd.gd hG u_0))) <| o_g (g_f rfl rfl rfl (fun hG => Zo Z5p (Zl6 _ (Zbb h26 hG)) rfl rfl (.cons (Opd.gd hG u_0) .nil))) <| o_p rfl (Zbi rfl rfl u_0 (fun hz => (Opd.gd (bNF hz) u_1))) <| o_p rfl (Za rfl rfl u_0) <| o_g (g_t rfl rfl rfl (fun hG => Za rfl rfl u_0)) <| o_g (g_t rfl rfl rfl (fun hG => Za rfl rfl (Opd.gd hG u_0))) <| o_g (g_fi rfl rfl rfl (fun hG => Ze Zh9 rfl rfl u_0)) <| o_g (g_fi rfl rfl rfl (fun hG => Zf ty_3 rfl rfl (Opd.gd hG u_0))) <| o_g (g_fi rfl rfl rfl (fun hG => Zbj rfl rfl (Opd.gd hG u_0) c_i)) <| o_g (g_fi rfl rfl rfl (fun hG => Za rfl rfl (Opd.gd hG u_0))) <| o_g (g_ti rfl rfl rfl (fun hG => Ze Zdh rfl rfl u_0)) <| o_g (g_ti rfl rfl rfl (fun hG => Zf Ze5 rfl rfl (Opd.gd hG u_0))) <| o_g (g_ti rfl rfl rfl (fun hG => Zb4 Tryz.underlying50 rfl rfl (Opd.gd hG u_0))) <| o_g (g_ti rfl rfl rfl (fun hG => Zbj rfl rfl (Opd.gd hG u_0) c_i)) <| o_g (g_fi rfl rfl rfl (fun hG => Zbf rfl rfl (Opd.gd hG u_0) (fun hz => (Opd.gd (bA hG hz) u_1)))) <| o_g (g_t rfl rfl rfl (fun hG => Zbi rfl rfl (Opd.gd hG u_0) (fun hz => (Opd.gd (bA hG (bNF hz)) u_1)))) <| o_p rfl (Zbf rfl rfl u_0 (fun hz => (Opd.gd hz u_1))) <| o_p rfl (Zc rfl rfl u_0) <| o_n) (by kernel_rfl) (fun a g hst hb => ?_)
     refine wp_ret ?_
     obtain rfl := Option.some.inj H0
     exact Zx rfl hst hb (Zk (s := 4)) (hst.at 0 rfl)
 · refine wp_block ?_
   refine wp_loop_ghost (fun n a w => ∃ (x1 : Bool) (x2 : Bool) (x3 : Bool) (x4 : Bool) (x5 : Bool) (x6 : Int) (g : G), w = g.w ∧ St 106 [(1, (pStr a1)), (2, (Zj.ptr a0)), (5, (Zba x1)), (6, (Zba x2)), (7, (Zba x3)), (8, (Zba x4)), (9, (Zba x5)), (10, (pInt .i64 x6))] a g ∧ Base g0 g ∧ Zcq a1 n x1 x2 x3 x4 x5 x6 = some z23) (Int.toNat ((a1.size : Int) - (0 : Int)) + 1) ⟨false, false, false, false, false, (0 : Int), g, rfl, (hst.pick [0, 1, 2, 3, 4, 5, 6, 7] rfl), hb, hz1⟩ (fun n a w hI => ?_)
   obtain ⟨x1, x2, x3, x4, x5, x6, g, rfl, hst, hb, H1⟩ := hI
   cases n with
   | zero => exact absurd H1 (by simp [Zcq])
   | succ n =>
     rw [Zcq] at H1
     refine wp_seq ?_
     refine r_s (T := [⟨[.old 7], _, [], [], [11]⟩, ⟨[.old 0], _, [], [], [12]⟩, ⟨[.op 1 0], _, [], [1], [13]⟩, ⟨[.op 0 0, .op 2 0], _, [], [0, 1, 2], [14]⟩]) (F := [.old 0, .old 1, .old 2, .old 3, .old 4, .old 5, .old 6, .old 7, .op 3 0]) hst hb Zb
       (o_p rfl (Za rfl rfl u_0) <| o_p rfl (Za rfl rfl u_0) <| o_p rfl (Zf4 Tryz.underlying9 rfl rfl u_0) <| o_p rfl (Zco rfl rfl u_0 u_1) <| o_n) (by kernel_rfl) (fun a g hst hb => ?_)
     refine wp_cond_split (hst.bool 8 rfl) (fun hc7 => ?_) (fun hc7 => ?_)
     · replace H1 := Zy hc7 H1
       refine wp_skip ?_
       refine Zv ?_
       refine wp_seq ?_
       refine wp_block ?_
       obtain ⟨b8, h9, H1⟩ := Zg H1
       refine r_s (L := [(1, _), (2, _), (5, _), (6, _), (7, _), (8, _), (9, _), (10, _)]) (T := [⟨[.old 2], _, [], [], [17]⟩, ⟨[.op 0 0], _, [], [0], [18]⟩, ⟨[.op 1 0, .old 0], _, [], [0, 1], [19]⟩, ⟨[.op 1 0, .old 7], _, [], [0, 1], [20]⟩, ⟨[.op 1 0, .op 2 0, .op 3 0], _, [], Lr 4, [21]⟩, ⟨[.op 1 0, .op 4 0], _, [], Lr 5, [22]⟩, ⟨[.op 1 0, .op 5 0], _, [], Lr 6, [23]⟩, ⟨[.op 6 0], _, [], Lr 7, [5]⟩]) (F := [.old 0, .old 1, .op 7 0, .old 3, .old 4, .old 5, .old 6, .old 7]) (hst.pick [0, 1, 2, 3, 4, 5, 6, 7] rfl) hb Zb
         (o_p rfl (Za rfl rfl u_0) <| o_p rfl (Za rfl rfl u_0) <| o_g (g_f rfl rfl rfl (fun hG => Za rfl rfl u_0)) <| o_g (g_f rfl rfl rfl (fun hG => Za rfl rfl u_0)) <| o_g (g_f rfl rfl rfl (fun hG => Znk Tryz.underlying9 rfl rfl (Opd.gd hG u_0) (Opd.gd hG u_1) (Zbb h9 hG))) <| o_g (g_f rfl rfl rfl (fun hG => Zbj rfl rfl (Opd.gd hG u_0) c_i)) <| o_p rfl (Zbi rfl rfl u_0 (fun hz => (Opd.gd (bNF hz) u_1))) <| o_p rfl (Zc rfl rfl u_0) <| o_n) (by kernel_rfl) (fun a g hst hb => ?_)
       obtain ⟨b10, h11, H1⟩ := Zg H1
       refine r_s (T := [⟨[.old 3], _, [], [], [24]⟩, ⟨[.op 0 0], _, [], [0], [25]⟩, ⟨[.op 1 0, .old 0], _, [], [0, 1], [26]⟩, ⟨[.op 1 0, .old 7], _, [], [0, 1], [27]⟩, ⟨[.op 1 0, .op 2 0, .op 3 0], _, [], Lr 4, [28]⟩, ⟨[.op 1 0, .op 4 0], _, [], Lr 5, [29]⟩, ⟨[.op 1 0, .op 5 0], _, [], Lr 6, [30]⟩, ⟨[.op 6 0], _, [], Lr 7, [6]⟩]) (F := [.old 0, .old 1, .old 2, .op 7 0, .old 4, .old 5, .old 6, .old 7]) hst hb Zb
         (o_p rfl (Za rfl rfl u_0) <| o_p rfl (Za rfl rfl u_0) <| o_g (g_f rfl rfl rfl (fun hG => Za rfl rfl u_0)) <| o_g (g_f rfl rfl rfl (fun hG => Za rfl rfl u_0)) <| o_g (g_f rfl rfl rfl (fun hG => Znk Tryz.underlying9 rfl rfl (Opd.gd hG u_0) (Opd.gd hG u_1) (Zbb h11 hG))) <| o_g (g_f rfl rfl rfl (fun hG => Zbj rfl rfl (Opd.gd hG u_0) c_i)) <| o_p rfl (Zbi rfl rfl u_0 (fun hz => (Opd.gd (bNF hz) u_1))) <| o_p rfl (Zc rfl rfl u_0) <| o_n) (by kernel_rfl) (fun a g hst hb => ?_)
       obtain ⟨b12, h13, H1⟩ := Zg H1
       refine r_s (T := [⟨[.old 4], _, [], [], [31]⟩, ⟨[.op 0 0], _, [], [0], [32]⟩, ⟨[.op 1 0, .old 0], _, [], [0, 1], [33]⟩, ⟨[.op 1 0, .old 7], _, [], [0, 1], [34]⟩, ⟨[.op 1 0, .op 2 0, .op 3 0], _, [], Lr 4, [35]⟩, ⟨[.op 1 0, .op 4 0], _, [], Lr 5, [36]⟩, ⟨[.op 1 0, .op 5 0], _, [], Lr 6, [37]⟩, ⟨[.op 6 0], _, [], Lr 7, [7]⟩]) (F := [.old 0, .old 1, .old 2, .old 3, .op 7 0, .old 5, .old 6, .old 7]) hst hb Zb
         (o_p rfl (Za rfl rfl u_0) <| o_p rfl (Za rfl rfl u_0) <| o_g (g_f rfl rfl rfl (fun hG => Za rfl rfl u_0)) <| o_g (g_f rfl rfl rfl (fun hG => Za rfl rfl u_0)) <| o_g (g_f rfl rfl rfl (fun hG => Znk Tryz.underlying9 rfl rfl (Opd.gd hG u_0) (Opd.gd hG u_1) (Zbb h13 hG))) <| o_g (g_f rfl rfl rfl (fun hG => Zbj rfl rfl (Opd.gd hG u_0) c_i)) <| o_p rfl (Zbi rfl rfl u_0 (fun hz => (Opd.gd (bNF hz) u_1))) <| o_p rfl (Zc rfl rfl u_0) <| o_n) (by kernel_rfl) (fun a g hst hb => ?_)
       obtain ⟨b14, h15, H1⟩ := Zg H1
       refine r_s (T := [⟨[.old 5], _, [], [], [38]⟩, ⟨[.op 0 0], _, [], [0], [39]⟩, ⟨[.op 1 0, .old 0], _, [], [0, 1], [40]⟩, ⟨[.op 1 0, .old 7], _, [], [0, 1], [41]⟩, ⟨[.op 1 0, .op 2 0, .op 3 0], _, [], Lr 4, [42]⟩, ⟨[.op 1 0, .op 4 0], _, [], Lr 5, [43]⟩, ⟨[.op 1 0, .op 5 0], _, [], Lr 6, [44]⟩, ⟨[.op 6 0], _, [], Lr 7, [8]⟩]) (F := [.old 0, .old 1, .old 2, .old 3, .old 4, .op 7 0, .old 6, .old 7]) hst hb Zb
         (o_p rfl (Za rfl rfl u_0) <| o_p rfl (Za rfl rfl u_0) <| o_g (g_f rfl rfl rfl (fun hG => Za rfl rfl u_0)) <| o_g (g_f rfl rfl rfl (fun hG => Za rfl rfl u_0)) <| o_g (g_f rfl rfl rfl (fun hG => Znk Tryz.underlying9 rfl rfl (Opd.gd hG u_0) (Opd.gd hG u_1) (Zbb h15 hG))) <| o_g (g_f rfl rfl rfl (fun hG => Zbj rfl rfl (Opd.gd hG u_0) c_i)) <| o_p rfl (Zbi rfl rfl u_0 (fun hz => (Opd.gd (bNF hz) u_1))) <| o_p rfl (Zc rfl rfl u_0) <| o_n) (by kernel_rfl) (fun a g hst hb => ?_)
       obtain ⟨b16, h17, H1⟩ := Zg H1
       refine r_g (T := [⟨[.old 6], _, [], [], [45]⟩, ⟨[.op 0 0], _, [], [0], [46]⟩, ⟨[.op 1 0, .old 0], _, [], [0, 1], [47]⟩, ⟨[.op 1 0, .old 7], _, [], [0, 1], [48]⟩, ⟨[.op 1 0, .op 2 0, .op 3 0], _, [], Lr 4, [49]⟩, ⟨[.op 1 0, .op 4 0], _, [], Lr 5, [50]⟩, ⟨[.op 1 0, .op 5 0], _, [], Lr 6, [51]⟩, ⟨[.op 6 0], _, [], Lr 7, [9]⟩]) (F := [.old 0, .old 1, .old 2, .old 3, .old 4, .old 5, .op 7 0, .old 7]) hst hb Zb
         (o_p rfl (Za rfl rfl u_0) <| o_p rfl (Za rfl rfl u_0) <| o_g (g_f rfl rfl rfl (fun hG => Za rfl rfl u_0)) <| o_g (g_f rfl rfl rfl (fun hG => Za rfl rfl u_0)) <| o_g (g_f rfl rfl rfl (fun hG => Znk Tryz.underlying9 rfl rfl (Opd.gd hG u_0) (Opd.gd hG u_1) (Zbb h17 hG))) <| o_g (g_f rfl rfl rfl (fun hG => Zbj rfl rfl (Opd.gd hG u_0) c_i)) <| o_p rfl (Zbi rfl rfl u_0 (fun hz => (Opd.gd (bNF hz) u_1))) <| o_p rfl (Zc rfl rfl u_0) <| o_n) (by kernel_rfl) (fun a g hst hb => ?_)
       refine Zbu ?_
       refine Zv ?_
       refine r_g (T := [⟨[.old 7], _, [], [], [15]⟩, ⟨[.op 0 0], _, [], [0], [16]⟩, ⟨[.op 1 0], _, [], [0, 1], [10]⟩]) (F := [.old 0, .old 1, .old 2, .old 3, .old 4, .old 5, .old 6, .op 2 0]) hst hb Zb
         (o_p rfl (Za rfl rfl u_0) <| o_p rfl (Zcd rfl rfl u_0 c_i rfl) <| o_p rfl (Zc rfl rfl u_0) <| o_n) (by kernel_rfl) (fun a g hst hb => ?_)
       exact ⟨n, Nat.lt_succ_self _, (x1 || (b8 == (116 : Int))), (x2 || (b10 == (110 : Int))), (x3 || (b12 == (98 : Int))), (x4 || (b14 == (114 : Int))), (x5 || (b16 == (108 : Int))), (IntKind.i64.wrap (x6 + (1 : Int))), g, rfl, (hst.pick [0, 1, 2, 3, 4, 5, 6, 7] rfl), hb, H1⟩
     · replace H1 := Zz hc7 H1
       refine wp_exit ?_
       refine Zb5 ?_
       refine Zb5 ?_
       refine Zct ?_
       exact ⟨x1, x2, x3, x4, x5, g, rfl, (hst.pick [1, 2, 3, 4, 5, 6] rfl), hb, Option.some.inj H1⟩
theorem Zoq (a0 : Int) {r : ByteArray} (h : Zid a0 = some r) : FnOk Tryz.prog 62 [(pInt .i64 a0)] (pStr r) := by
 have H0 := h
 unfold Zid at H0
 clear h
 refine Zbr (N := 15) Tryz.func62 rfl rfl (Nat.le_of_ble_eq_true rfl) rfl rfl (fun a g0 hst hb => ?_)
 refine r_s (T := [⟨[], _, [], [], [2]⟩]) (F := [.old 0]) hst hb Zb
   (o_p rfl (Zc rfl rfl c_s) <| o_n) (by kernel_rfl) (fun a g hst hb => ?_)
 refine r_s (T := [⟨[], _, [], [], [4]⟩, ⟨[.op 0 0], _, [], [0], [3]⟩]) (F := [.old 0, .op 1 0]) hst hb Zb
   (o_p rfl (Zi2 Z83 (xs := [.const (.string ⟨#[]⟩), .const (.string ⟨#[116]⟩), .const (.string ⟨#[110]⟩), .const (.string ⟨#[110]⟩), .const (.string ⟨#[110, 98]⟩), .const (.string ⟨#[114]⟩), .const (.string ⟨#[114]⟩), .const (.string ⟨#[114]⟩), .const (.string ⟨#[108]⟩), .const (.string ⟨#[108]⟩)]) (.cons c_s (.cons c_s (.cons c_s (.cons c_s (.cons c_s (.cons c_s (.cons c_s (.cons c_s (.cons c_s (.cons c_s .nil)))))))))) (by decide) rfl rfl) <| o_p rfl (Zc rfl rfl u_0) <| o_n) (by kernel_rfl) (fun a g hst hb => ?_)
 refine wp_seq ?_
 refine r_s (T := [⟨[.old 0], _, [], [], [5]⟩, ⟨[.op 0 0], _, [], [0], [6]⟩, ⟨[.op 1 0], _, [], [0, 1], [7]⟩, ⟨[.op 2 0, .old 0], _, [], [0, 1, 2], [8]⟩, ⟨[.op 2 0, .op 3 0], _, [], Lr 4, [9]⟩, ⟨[.op 2 0, .op 4 0], _, [], Lr 5, [10]⟩]) (F := [.old 0, .old 1, .op 5 0]) hst hb Zb
   (o_p rfl (Za rfl rfl u_0) <| o_p rfl (Zco rfl rfl u_0 c_i) <| o_p rfl (Za rfl rfl u_0) <| o_g (g_f rfl rfl rfl (fun hG => Za rfl rfl u_0)) <| o_g (g_f rfl rfl rfl (fun hG => Zci rfl rfl (Opd.gd hG u_0) c_i)) <| o_p rfl (Zbi rfl rfl u_0 (fun hz => (Opd.gd (bNF hz) u_1))) <| o_n) (by kernel_rfl) (fun a g hst hb => ?_)
 refine wp_cond_split (hst.bool 2 rfl) (fun hc1 => ?_) (fun hc1 => ?_)
 · replace H0 := Zy hc1 H0
   refine r_s (L := []) (T := [⟨[], _, [], [], [2]⟩]) (F := [.op 0 0]) (hst.pick [] rfl) hb Zb
     (o_p rfl (Zc rfl rfl c_s) <| o_n) (by kernel_rfl) (fun a g hst hb => ?_)
   refine wp_ret ?_
   refine Zp ?_
   obtain rfl := Option.some.inj H0
   exact Zx rfl hst hb (Zk (s := 2)) (hst.at 0 rfl)
 · replace H0 := Zz hc1 H0
   refine wp_skip ?_
   refine Zv ?_
   obtain ⟨e2, h3, H0⟩ := Zg H0
   refine r_s (L := [(0, _), (3, _)]) (T := [⟨[.old 1], _, [], [], [11]⟩, ⟨[.old 0], _, [], [], [12]⟩, ⟨[.op 0 0, .op 1 0], _, [], [0, 1], [13]⟩, ⟨[.op 2 0], _, [], [0, 1, 2], [14]⟩, ⟨[.op 3 0], _, [], Lr 4, [2]⟩]) (F := [.op 4 0]) (hst.pick [0, 1] rfl) hb Zb
     (o_p rfl (Za rfl rfl u_0) <| o_p rfl (Za rfl rfl u_0) <| o_p rfl (Zbp Tryz.underlying143 sz_9 rfl rfl u_0 u_1 h3) <| o_p rfl (Zf ty_9 rfl rfl u_0) <| o_p rfl (Zc rfl rfl u_0) <| o_n) (by kernel_rfl) (fun a g hst hb => ?_)
   refine wp_ret ?_
   obtain rfl := Option.some.inj H0
   exact Zx rfl hst hb (Zk (s := 2)) (hst.at 0 rfl)
theorem Zln (a0 : Nat) {r : Bool} (h : Zey a0 = some r) : FnOk Tryz.prog 63 [(pFlt a0)] (Zba r) := by
 have H0 := h
 unfold Zey at H0
 clear h
 refine Zbr (N := 11) Tryz.func63 rfl rfl (Nat.le_of_ble_eq_true rfl) rfl rfl (fun a g0 hst hb => ?_)
 refine r_s (T := [⟨[], _, [], [], [2]⟩]) (F := [.old 0]) hst hb Zb
   (o_p rfl (Zc rfl rfl c_b) <| o_n) (by kernel_rfl) (fun a g hst hb => ?_)
 obtain ⟨r1, h2, H0⟩ := Zg H0
 refine r_s (T := [⟨[.old 0], _, [], [], [3]⟩, ⟨[.op 0 0], _, [], [0], [4]⟩, ⟨[.op 1 0], _, [], [0, 1], [5]⟩, ⟨[.op 2 0], _, [], [0, 1, 2], [6]⟩, ⟨[.op 3 0, .old 0], _, [], Lr 4, [7]⟩, ⟨[.op 3 0, .op 4 0], _, [], Lr 5, [8]⟩, ⟨[.op 3 0, .op 5 0], _, [], Lr 6, [9]⟩, ⟨[.op 3 0, .op 6 0], _, [], Lr 7, [10]⟩, ⟨[.op 7 0], _, [], Lr 8, [2]⟩]) (F := [.op 8 0]) hst hb Zb
   (o_p rfl (Za rfl rfl u_0) <| o_p rfl (Zo Z09 (Zjz _ h2) rfl rfl (.cons u_0 .nil)) <| o_p rfl (Zcr rfl rfl u_0) <| o_p rfl (Za rfl rfl u_0) <| o_g (g_f rfl rfl rfl (fun hG => Za rfl rfl u_0)) <| o_g (g_f rfl rfl rfl (fun hG => Zrn Zw2 rfl rfl (Opd.gd hG u_0))) <| o_g (g_f rfl rfl rfl (fun hG => Zbj rfl rfl (Opd.gd hG u_0) c_i)) <| o_p rfl (Zbi rfl rfl u_0 (fun hz => (Opd.gd (bNF hz) u_1))) <| o_p rfl (Zc rfl rfl u_0) <| o_n) (by kernel_rfl) (fun a g hst hb => ?_)
 refine wp_ret ?_
 obtain rfl := Option.some.inj H0
 exact Zx rfl hst hb (Zk (s := 2)) (hst.at 0 rfl)
theorem Zpw (a0 : Zi) (a1 : Zi) {r : Bool} (h : Ze7 a0 a1 = some r) : FnOk Tryz.prog 98 [(Z0.pd a0), (Z0.pd a1)] (Zba r) := by
 have H0 := h
 unfold Ze7 at H0
 clear h
 refine Zbr (N := 22) Tryz.func98 rfl rfl (Nat.le_of_ble_eq_true rfl) rfl rfl (fun a g0 hst hb => ?_)
 refine r_s (T := [⟨[.old 0], _, [], [], [2]⟩, ⟨[.old 1], _, [], [], [3]⟩, ⟨[], _, [], [], [4]⟩]) (F := [.op 0 0, .op 1 0]) hst hb Zb
   (o_p rfl (Zbh rfl rfl u_0) <| o_p rfl (Zbh rfl rfl u_0) <| o_p rfl (Zc rfl rfl c_b) <| o_n) (by kernel_rfl) (fun a g hst hb => ?_)
 refine wp_seq ?_
 obtain ⟨r1, h2, H0⟩ := Zg H0
 refine r_s (T := [⟨[.old 1], _, [], [], [5]⟩, ⟨[.op 0 0], _, [], [0], [6]⟩, ⟨[.old 0], _, [], [], [7]⟩, ⟨[.op 2 0], _, [], [2], [8]⟩, ⟨[.op 1 0, .op 3 0], _, [], Lr 4, [9]⟩]) (F := [.old 0, .old 1, .op 4 0]) hst hb Zb
   (o_p rfl (Ze Zha rfl rfl u_0) <| o_p rfl (Zf Zfb rfl rfl u_0) <| o_p rfl (Ze Zha rfl rfl u_0) <| o_p rfl (Zf Zfb rfl rfl u_0) <| o_p rfl (Zo Zxg (Zjy _ _ h2) rfl rfl (.cons u_0 (.cons u_1 .nil))) <| o_n) (by kernel_rfl) (fun a g hst hb => ?_)
 refine wp_cond_split (hst.bool 2 rfl) (fun hc3 => ?_) (fun hc3 => ?_)
 · replace H0 := Zy hc3 H0
   refine r_s (L := []) (T := [⟨[], _, [], [], [4]⟩]) (F := [.op 0 0]) (hst.pick [] rfl) hb Zb
     (o_p rfl (Zc rfl rfl c_b) <| o_n) (by kernel_rfl) (fun a g hst hb => ?_)
   refine wp_ret ?_
   refine Zp ?_
   obtain rfl := Option.some.inj H0
   exact Zx rfl hst hb (Zk (s := 4)) (hst.at 0 rfl)
 · replace H0 := Zz hc3 H0
   refine wp_skip ?_
   refine Zv ?_
   obtain ⟨r4, h5, H0⟩ := Zg H0
   refine r_s (L := [(2, _), (3, _)]) (T := ⟨[.old 0], _, [], [], [10]⟩ :: ⟨[.op 0 0], _, [], [0], [11]⟩ :: ⟨[.old 1], _, [], [], [12]⟩ :: ⟨[.op 2 0], _, [], [2], [13]⟩ :: ⟨[.op 1 0, .op 3 0], _, [], Lr 4, [14]⟩ :: ⟨[.op 4 0], _, [], Lr 5, [15]⟩ :: ⟨[.op 5 0, .old 0], _, [], Lr 6, [16]⟩ :: ⟨[.op 5 0, .op 6 0], _, [], Lr 7, [17]⟩ :: ⟨[.op 5 0, .old 1], _, [], Lr 6, [18]⟩ :: ⟨[.op 5 0, .op 8 0], _, [], [0, 1, 2, 3, 4, 5, 8], [19]⟩ :: ⟨[.op 5 0, .op 7 0, .op 9 0], _, [], Lr 10, [20]⟩ :: ⟨[.op 5 0, .op 10 0], _, [], Lr 11, [21]⟩ :: ⟨[.op 11 0], _, [], Lr 12, [4]⟩ :: []) (F := [.op 12 0]) (hst.pick [0, 1] rfl) hb Zb
     (o_p rfl (Ze Zha rfl rfl u_0) <| o_p rfl (Zf Zfb rfl rfl u_0) <| o_p rfl (Ze Zha rfl rfl u_0) <| o_p rfl (Zf Zfb rfl rfl u_0) <| o_p rfl (Zo Z3z (Zl5 _ _ h5) rfl rfl (.cons u_0 (.cons u_1 .nil))) <| o_p rfl (Za rfl rfl u_0) <| o_g (g_t rfl rfl rfl (fun hG => Ze Zgl rfl rfl u_0)) <| o_g (g_t rfl rfl rfl (fun hG => Zf ty_9 rfl rfl (Opd.gd hG u_0))) <| o_g (g_t rfl rfl rfl (fun hG => Ze Zgl rfl rfl u_0)) <| o_g (g_t rfl rfl rfl (fun hG => Zf ty_9 rfl rfl (Opd.gd hG u_0))) <| o_g (g_t rfl rfl rfl (fun hG => Zm2 rfl rfl (Opd.gd hG u_0) (Opd.gd hG u_1))) <| o_p rfl (Zbf rfl rfl u_0 (fun hz => (Opd.gd hz u_1))) <| o_p rfl (Zc rfl rfl u_0) <| o_n) (by kernel_rfl) (fun a g hst hb => ?_)
   refine wp_ret ?_
   obtain rfl := Option.some.inj H0
   exact Zx rfl hst hb (Zk (s := 4)) (hst.at 0 rfl)
theorem Zqa (a0 : Int) (a1 : List Zi) (a2 : Int) {r : Int} (h : Zh4 a0 a1 a2 = some r) : FnOk Tryz.prog 64 [(pInt .i64 a0), (Z0.sl.pd a1), (pInt .i64 a2)] (pInt .i64 r) := by
 have H0 := h
 unfold Zh4 at H0
 clear h
 refine Zbr (N := 64) Tryz.func64 rfl rfl (Nat.le_of_ble_eq_true rfl) rfl rfl (fun a g0 hst hb => ?_)
 refine r_s (T := [⟨[], _, [], [], [6]⟩]) (F := [.old 0, .old 1, .old 2]) hst hb Zb
   (o_p rfl (Zc rfl rfl c_i) <| o_n) (by kernel_rfl) (fun a g hst hb => ?_)
 obtain ⟨e1, h2, H0⟩ := Zg H0
 refine r_s (T := [⟨[.old 1], _, [], [], [8]⟩, ⟨[.old 2], _, [], [], [9]⟩, ⟨[.op 0 0, .op 1 0], _, [], [0, 1], [10]⟩, ⟨[.op 2 0], _, [], [0, 1, 2], [11]⟩, ⟨[], [(7, (pBox Z0 7 (default : Zi)))], [8], [], [7]⟩, ⟨[.op 3 0, .op 4 0], _, [8], Lr 5, [7]⟩]) (F := [.old 0, .old 1, .old 2, .op 5 0]) hst hb Zb
   (o_p rfl (Za rfl rfl u_0) <| o_p rfl (Za rfl rfl u_0) <| o_p rfl (Zbp Tryz.underlying50 Zj3 rfl rfl u_0 u_1 h2) <| o_p rfl (Zf Zft rfl rfl u_0) <| o_p rfl (Zbg (zs := [.float .f64 0, .string ByteArray.empty]) (by kernel_rfl) (fun g => Zjw g) rfl rfl) <| o_p rfl (Zb1 Zft rfl rfl u_1 u_0) <| o_n) (by kernel_rfl) (fun a g hst hb => ?_)
 refine wp_seq ?_
 refine r_s (T := [⟨[.old 3], _, [], [], [12]⟩, ⟨[.op 0 0], _, [], [0], [13]⟩, ⟨[.op 1 0], _, [], [0, 1], [14]⟩, ⟨[.op 2 0], _, [], [0, 1, 2], [15]⟩]) (F := [.old 0, .old 1, .old 2, .old 3, .op 3 0]) hst hb Zb
   (o_p rfl (Ze Zgl rfl rfl u_0) <| o_p rfl (Zf ty_9 rfl rfl u_0) <| o_p rfl (Zf4 Tryz.underlying9 rfl rfl u_0) <| o_p rfl (Zci rfl rfl u_0 c_i) <| o_n) (by kernel_rfl) (fun a g hst hb => ?_)
 refine wp_cond_split (hst.bool 4 rfl) (fun hc3 => ?_) (fun hc3 => ?_)
 · replace H0 := Zy hc3 H0
   refine r_s (L := []) (T := [⟨[], _, [], [], [6]⟩]) (F := [.op 0 0]) (hst.pick [] rfl) hb Zb
     (o_p rfl (Zc rfl rfl c_i) <| o_n) (by kernel_rfl) (fun a g hst hb => ?_)
   refine wp_ret ?_
   refine Zp ?_
   obtain rfl := Option.some.inj H0
   exact Zx rfl hst hb (Zk (s := 6)) (hst.at 0 rfl)
 · replace H0 := Zz hc3 H0
   refine wp_skip ?_
   refine Zv ?_
   refine wp_seq ?_
   obtain ⟨r4, h5, H0⟩ := Zg H0; obtain ⟨r6, h7, H0⟩ := Zg H0
   refine r_s (L := [(0, _), (1, _), (2, _), (7, _)]) (T := ⟨[.old 0], _, [], [], [16]⟩ :: ⟨[.op 0 0], _, [], [0], [17]⟩ :: ⟨[.op 1 0], _, [], [0, 1], [18]⟩ :: ⟨[.op 2 0, .old 3], _, [], [0, 1, 2], [19]⟩ :: ⟨[.op 2 0, .op 3 0], _, [], Lr 4, [20]⟩ :: ⟨[.op 2 0, .op 4 0], _, [], Lr 5, [21]⟩ :: ⟨[.op 2 0, .op 5 0], _, [], Lr 6, [22]⟩ :: ⟨[.op 2 0, .op 6 0], _, [], Lr 7, [23]⟩ :: ⟨[.op 7 0], _, [], Lr 8, [24]⟩ :: ⟨[.op 8 0, .old 3], _, [], Lr 9, [25]⟩ :: ⟨[.op 8 0, .op 9 0], _, [], Lr 10, [26]⟩ :: ⟨[.op 8 0, .op 10 0], _, [], Lr 11, [27]⟩ :: ⟨[.op 8 0, .op 11 0], _, [], Lr 12, [28]⟩ :: ⟨[.op 8 0, .op 12 0], _, [], Lr 13, [29]⟩ :: []) (F := [.old 0, .old 1, .old 2, .old 3, .op 13 0]) (hst.pick [0, 1, 2, 3] rfl) hb Zb
     (o_p rfl (Za rfl rfl u_0) <| o_p rfl (Zbj rfl rfl u_0 c_i) <| o_p rfl (Za rfl rfl u_0) <| o_g (g_t rfl rfl rfl (fun hG => Ze Zha rfl rfl u_0)) <| o_g (g_t rfl rfl rfl (fun hG => Zf Zfb rfl rfl (Opd.gd hG u_0))) <| o_g (g_t rfl rfl rfl (fun hG => Zo Z5p (Zl6 _ (Zbb h5 hG)) rfl rfl (.cons (Opd.gd hG u_0) .nil))) <| o_g (g_t rfl rfl rfl (fun hG => Zcr rfl rfl (Opd.gd hG u_0))) <| o_p rfl (Zbf rfl rfl u_0 (fun hz => (Opd.gd hz u_1))) <| o_p rfl (Za rfl rfl u_0) <| o_g (g_f rfl rfl rfl (fun hG => Ze Zha rfl rfl u_0)) <| o_g (g_f rfl rfl rfl (fun hG => Zf Zfb rfl rfl (Opd.gd hG u_0))) <| o_g (g_f rfl rfl rfl (fun hG => Zo Z5j (Zln _ (Zbb h7 hG)) rfl rfl (.cons (Opd.gd hG u_0) .nil))) <| o_g (g_f rfl rfl rfl (fun hG => Zcr rfl rfl (Opd.gd hG u_0))) <| o_p rfl (Zbi rfl rfl u_0 (fun hz => (Opd.gd (bNF hz) u_1))) <| o_n) (by kernel_rfl) (fun a g hst hb => ?_)
   refine wp_cond_split (hst.bool 4 rfl) (fun hc8 => ?_) (fun hc8 => ?_)
   · replace H0 := Zy hc8 H0
     refine r_s (L := []) (T := [⟨[], _, [], [], [6]⟩]) (F := [.op 0 0]) (hst.pick [] rfl) hb Zb
       (o_p rfl (Zc rfl rfl c_i) <| o_n) (by kernel_rfl) (fun a g hst hb => ?_)
     refine wp_ret ?_
     refine Zp ?_
     obtain rfl := Option.some.inj H0
     exact Zx rfl hst hb (Zk (s := 6)) (hst.at 0 rfl)
   · replace H0 := Zz hc8 H0
     refine wp_skip ?_
     refine Zv ?_
     refine wp_seq ?_
     obtain ⟨e9, h10, H0⟩ := Zg H0
     refine r_s (L := [(0, _), (1, _), (2, _), (7, _)]) (T := ⟨[.old 2], _, [], [], [30]⟩ :: ⟨[.op 0 0], _, [], [0], [31]⟩ :: ⟨[.op 1 0], _, [], [0, 1], [32]⟩ :: ⟨[.op 2 0, .old 0], _, [], [0, 1, 2], [33]⟩ :: ⟨[.op 2 0, .op 3 0], _, [], Lr 4, [34]⟩ :: ⟨[.op 2 0, .op 4 0], _, [], Lr 5, [35]⟩ :: ⟨[.op 5 0], _, [], Lr 6, [36]⟩ :: ⟨[.op 6 0, .old 1], _, [], Lr 7, [37]⟩ :: ⟨[.op 6 0, .old 2], _, [], Lr 7, [38]⟩ :: ⟨[.op 6 0, .op 8 0], _, [], [0, 1, 2, 3, 4, 5, 6, 8], [39]⟩ :: ⟨[.op 6 0, .op 7 0, .op 9 0], _, [], Lr 10, [40]⟩ :: ⟨[.op 6 0, .op 10 0], _, [], Lr 11, [41]⟩ :: ⟨[.op 6 0, .op 11 0], _, [], Lr 12, [42]⟩ :: ⟨[.op 6 0, .old 3], _, [], Lr 7, [43]⟩ :: ⟨[.op 6 0, .op 13 0], _, [], [0, 1, 2, 3, 4, 5, 6, 13], [44]⟩ :: ⟨[.op 6 0, .op 12 0, .op 14 0], _, [], Lr 15, [45]⟩ :: ⟨[.op 6 0, .op 15 0], _, [], Lr 16, [46]⟩ :: ⟨[.op 6 0, .op 16 0], _, [], Lr 17, [47]⟩ :: []) (F := [.old 0, .old 1, .old 2, .old 3, .op 17 0]) (hst.pick [0, 1, 2, 3] rfl) hb Zb
       (o_p rfl (Za rfl rfl u_0) <| o_p rfl (Zci rfl rfl u_0 c_i) <| o_p rfl (Za rfl rfl u_0) <| o_g (g_t rfl rfl rfl (fun hG => Za rfl rfl u_0)) <| o_g (g_t rfl rfl rfl (fun hG => Zbj rfl rfl (Opd.gd hG u_0) c_i)) <| o_p rfl (Zbf rfl rfl u_0 (fun hz => (Opd.gd hz u_1))) <| o_p rfl (Za rfl rfl u_0) <| o_g (g_t rfl rfl rfl (fun hG => Za rfl rfl u_0)) <| o_g (g_t rfl rfl rfl (fun hG => Za rfl rfl u_0)) <| o_g (g_t rfl rfl rfl (fun hG => Zkd rfl rfl (Opd.gd hG u_0) c_i rfl)) <| o_g (g_t rfl rfl rfl (fun hG => Zbp Tryz.underlying50 Zj3 rfl rfl (Opd.gd hG u_0) (Opd.gd hG u_1) (Zbb h10 hG))) <| o_g (g_t rfl rfl rfl (fun hG => Ze Zgl rfl rfl (Opd.gd hG u_0))) <| o_g (g_t rfl rfl rfl (fun hG => Zf ty_9 rfl rfl (Opd.gd hG u_0))) <| o_g (g_t rfl rfl rfl (fun hG => Ze Zgl rfl rfl u_0)) <| o_g (g_t rfl rfl rfl (fun hG => Zf ty_9 rfl rfl (Opd.gd hG u_0))) <| o_g (g_t rfl rfl rfl (fun hG => Zm2 rfl rfl (Opd.gd hG u_0) (Opd.gd hG u_1))) <| o_g (g_t rfl rfl rfl (fun hG => Zcr rfl rfl (Opd.gd hG u_0))) <| o_p rfl (Zbf rfl rfl u_0 (fun hz => (Opd.gd hz u_1))) <| o_n) (by kernel_rfl) (fun a g hst hb => ?_)
     refine wp_cond_split (hst.bool 4 rfl) (fun hc11 => ?_) (fun hc11 => ?_)
     · replace H0 := Zy hc11 H0
       refine r_s (L := []) (T := [⟨[], _, [], [], [6]⟩]) (F := [.op 0 0]) (hst.pick [] rfl) hb Zb
         (o_p rfl (Zc rfl rfl c_i) <| o_n) (by kernel_rfl) (fun a g hst hb => ?_)
       refine wp_ret ?_
       refine Zp ?_
       obtain rfl := Option.some.inj H0
       exact Zx rfl hst hb (Zk (s := 6)) (hst.at 0 rfl)
     · replace H0 := Zz hc11 H0
       refine wp_skip ?_
       refine Zv ?_
       refine wp_seq ?_
       obtain ⟨e12, h13, H0⟩ := Zg H0; obtain ⟨r14, h15, H0⟩ := Zg H0
       refine r_s (L := [(0, _), (1, _), (2, _), (7, _)]) (T := ⟨[.old 2], _, [], [], [48]⟩ :: ⟨[.op 0 0], _, [], [0], [49]⟩ :: ⟨[.op 1 0], _, [], [0, 1], [50]⟩ :: ⟨[.op 2 0, .old 0], _, [], [0, 1, 2], [51]⟩ :: ⟨[.op 2 0, .op 3 0], _, [], Lr 4, [52]⟩ :: ⟨[.op 2 0, .op 4 0], _, [], Lr 5, [53]⟩ :: ⟨[.op 5 0], _, [], Lr 6, [54]⟩ :: ⟨[.op 6 0, .old 1], _, [], Lr 7, [55]⟩ :: ⟨[.op 6 0, .old 2], _, [], Lr 7, [56]⟩ :: ⟨[.op 6 0, .op 8 0], _, [], [0, 1, 2, 3, 4, 5, 6, 8], [57]⟩ :: ⟨[.op 6 0, .op 7 0, .op 9 0], _, [], Lr 10, [58]⟩ :: ⟨[.op 6 0, .op 10 0], _, [], Lr 11, [59]⟩ :: ⟨[.op 6 0, .old 3], _, [], Lr 7, [60]⟩ :: ⟨[.op 6 0, .op 11 0, .op 12 0], _, [], Lr 13, [61]⟩ :: ⟨[.op 6 0, .op 13 0], _, [], Lr 14, [62]⟩ :: ⟨[.op 6 0, .op 14 0], _, [], Lr 15, [63]⟩ :: []) (F := [.op 15 0]) (hst.pick [0, 1, 2, 3] rfl) hb Zb
         (o_p rfl (Za rfl rfl u_0) <| o_p rfl (Zci rfl rfl u_0 c_i) <| o_p rfl (Za rfl rfl u_0) <| o_g (g_t rfl rfl rfl (fun hG => Za rfl rfl u_0)) <| o_g (g_t rfl rfl rfl (fun hG => Zbj rfl rfl (Opd.gd hG u_0) c_i)) <| o_p rfl (Zbf rfl rfl u_0 (fun hz => (Opd.gd hz u_1))) <| o_p rfl (Za rfl rfl u_0) <| o_g (g_t rfl rfl rfl (fun hG => Za rfl rfl u_0)) <| o_g (g_t rfl rfl rfl (fun hG => Za rfl rfl u_0)) <| o_g (g_t rfl rfl rfl (fun hG => Zkd rfl rfl (Opd.gd hG u_0) c_i rfl)) <| o_g (g_t rfl rfl rfl (fun hG => Zbp Tryz.underlying50 Zj3 rfl rfl (Opd.gd hG u_0) (Opd.gd hG u_1) (Zbb h13 hG))) <| o_g (g_t rfl rfl rfl (fun hG => Zf Zft rfl rfl (Opd.gd hG u_0))) <| o_g (g_t rfl rfl rfl (fun hG => Zf Zft rfl rfl u_0)) <| o_g (g_t rfl rfl rfl (fun hG => Zo Zba1 (Zpw _ _ (Zbb h15 hG)) rfl rfl (.cons (Opd.gd hG u_0) (.cons (Opd.gd hG u_1) .nil)))) <| o_g (g_t rfl rfl rfl (fun hG => Zcr rfl rfl (Opd.gd hG u_0))) <| o_p rfl (Zbf rfl rfl u_0 (fun hz => (Opd.gd hz u_1))) <| o_n) (by kernel_rfl) (fun a g hst hb => ?_)
       refine wp_cond_split (hst.bool 0 rfl) (fun hc16 => ?_) (fun hc16 => ?_)
       · replace H0 := Zy hc16 H0
         refine r_s (L := []) (T := [⟨[], _, [], [], [6]⟩]) (F := [.op 0 0]) (hst.pick [] rfl) hb Zb
           (o_p rfl (Zc rfl rfl c_i) <| o_n) (by kernel_rfl) (fun a g hst hb => ?_)
         refine wp_ret ?_
         refine Zp ?_
         obtain rfl := Option.some.inj H0
         exact Zx rfl hst hb (Zk (s := 6)) (hst.at 0 rfl)
       · replace H0 := Zz hc16 H0
         refine wp_skip ?_
         refine Zv ?_
         refine r_s (L := []) (T := [⟨[], _, [], [], [6]⟩]) (F := [.op 0 0]) (hst.pick [] rfl) hb Zb
           (o_p rfl (Zc rfl rfl c_i) <| o_n) (by kernel_rfl) (fun a g hst hb => ?_)
         refine wp_ret ?_
         obtain rfl := Option.some.inj H0
         exact Zx rfl hst hb (Zk (s := 6)) (hst.at 0 rfl)
theorem Zpq (a0 : Zd) {r : Int} (h : Zdo a0 = some r) : FnOk Tryz.prog 39 [(Zj.pd a0)] (pInt .i64 r) := by
 have H0 := h
 unfold Zdo at H0
 clear h
 refine Zbr (N := 96) Tryz.func39 rfl rfl (Nat.le_of_ble_eq_true rfl) rfl rfl (fun a g0 hst hb => ?_)
 refine r_s (T := [⟨[.old 0], _, [], [], [1]⟩, ⟨[], _, [], [], [2]⟩]) (F := [.op 0 0]) hst hb Zb
   (o_p rfl (Zbh rfl rfl u_0) <| o_p rfl (Zc rfl rfl c_i) <| o_n) (by kernel_rfl) (fun a g hst hb => ?_)
 refine wp_seq ?_
 refine r_s (T := [⟨[.old 0], _, [], [], [6]⟩, ⟨[.op 0 0], _, [], [0], [7]⟩, ⟨[.op 1 0], _, [], [0, 1], [8]⟩, ⟨[.op 2 0], _, [], [0, 1, 2], [9]⟩, ⟨[.op 3 0, .old 0], _, [], Lr 4, [10]⟩, ⟨[.op 3 0, .op 4 0], _, [], Lr 5, [11]⟩, ⟨[.op 3 0, .op 5 0], _, [], Lr 6, [12]⟩, ⟨[.op 3 0, .op 6 0], _, [], Lr 7, [13]⟩]) (F := [.old 0, .op 7 0]) hst hb Zb
   (o_p rfl (Ze Zgk rfl rfl u_0) <| o_p rfl (Zf ty_3 rfl rfl u_0) <| o_p rfl (Zco rfl rfl u_0 c_i) <| o_p rfl (Za rfl rfl u_0) <| o_g (g_f rfl rfl rfl (fun hG => Ze Zgk rfl rfl u_0)) <| o_g (g_f rfl rfl rfl (fun hG => Zf ty_3 rfl rfl (Opd.gd hG u_0))) <| o_g (g_f rfl rfl rfl (fun hG => Zci rfl rfl (Opd.gd hG u_0) c_i)) <| o_p rfl (Zbi rfl rfl u_0 (fun hz => (Opd.gd (bNF hz) u_1))) <| o_n) (by kernel_rfl) (fun a g hst hb => ?_)
 refine wp_cond_split (hst.bool 1 rfl) (fun hc1 => ?_) (fun hc1 => ?_)
 · replace H0 := Zy hc1 H0
   refine r_s (L := []) (T := [⟨[], _, [], [], [2]⟩]) (F := [.op 0 0]) (hst.pick [] rfl) hb Zb
     (o_p rfl (Zc rfl rfl c_i) <| o_n) (by kernel_rfl) (fun a g hst hb => ?_)
   refine wp_ret ?_
   refine Zp ?_
   obtain rfl := Option.some.inj H0
   exact Zx rfl hst hb (Zk (s := 2)) (hst.at 0 rfl)
 · replace H0 := Zz hc1 H0
   refine wp_skip ?_
   refine Zv ?_
   refine wp_seq ?_
   obtain ⟨r2, h3, H0⟩ := Zg H0; obtain ⟨r4, h5, H0⟩ := Zg H0
   refine r_s (L := [(1, _)]) (T := [⟨[.old 0], _, [], [], [14]⟩, ⟨[.old 0], _, [], [], [15]⟩, ⟨[.op 1 0], _, [], [1], [16]⟩, ⟨[.op 2 0], _, [], [1, 2], [17]⟩, ⟨[.op 0 0, .op 3 0], _, [], Lr 4, [18]⟩, ⟨[.op 4 0], _, [], Lr 5, [19]⟩]) (F := [.old 0, .op 5 0]) (hst.pick [0] rfl) hb Zb
     (o_p rfl (Zf Zbn rfl rfl u_0) <| o_p rfl (Ze Zgk rfl rfl u_0) <| o_p rfl (Zf ty_3 rfl rfl u_0) <| o_p rfl (Zo Zbar (Zoq _ h3) rfl rfl (.cons u_0 .nil)) <| o_p rfl (Zo Zbap (Zqb _ _ h5) rfl rfl (.cons u_0 (.cons u_1 .nil))) <| o_p rfl (Zcr rfl rfl u_0) <| o_n) (by kernel_rfl) (fun a g hst hb => ?_)
   refine wp_cond_split (hst.bool 1 rfl) (fun hc6 => ?_) (fun hc6 => ?_)
   · replace H0 := Zy hc6 H0
     refine r_s (L := []) (T := [⟨[], _, [], [], [2]⟩]) (F := [.op 0 0]) (hst.pick [] rfl) hb Zb
       (o_p rfl (Zc rfl rfl c_i) <| o_n) (by kernel_rfl) (fun a g hst hb => ?_)
     refine wp_ret ?_
     refine Zp ?_
     obtain rfl := Option.some.inj H0
     exact Zx rfl hst hb (Zk (s := 2)) (hst.at 0 rfl)
   · replace H0 := Zz hc6 H0
     refine wp_skip ?_
     refine Zv ?_
     refine wp_seq ?_
     refine r_s (L := [(1, _)]) (T := [⟨[.old 0], _, [], [], [20]⟩, ⟨[.op 0 0], _, [], [0], [21]⟩, ⟨[.op 1 0], _, [], [0, 1], [22]⟩, ⟨[.op 2 0], _, [], [0, 1, 2], [23]⟩, ⟨[.op 3 0, .old 0], _, [], Lr 4, [24]⟩, ⟨[.op 3 0, .op 4 0], _, [], Lr 5, [25]⟩, ⟨[.op 3 0, .op 5 0], _, [], Lr 6, [26]⟩, ⟨[.op 3 0, .op 6 0], _, [], Lr 7, [27]⟩, ⟨[.op 3 0, .op 7 0], _, [], Lr 8, [28]⟩]) (F := [.old 0, .op 8 0]) (hst.pick [0] rfl) hb Zb
       (o_p rfl (Ze Zgk rfl rfl u_0) <| o_p rfl (Zf ty_3 rfl rfl u_0) <| o_p rfl (Zbj rfl rfl u_0 c_i) <| o_p rfl (Za rfl rfl u_0) <| o_g (g_t rfl rfl rfl (fun hG => Ze Zkt rfl rfl u_0)) <| o_g (g_t rfl rfl rfl (fun hG => Zf ty_9 rfl rfl (Opd.gd hG u_0))) <| o_g (g_t rfl rfl rfl (fun hG => Zf4 Tryz.underlying9 rfl rfl (Opd.gd hG u_0))) <| o_g (g_t rfl rfl rfl (fun hG => Zci rfl rfl (Opd.gd hG u_0) c_i)) <| o_p rfl (Zbf rfl rfl u_0 (fun hz => (Opd.gd hz u_1))) <| o_n) (by kernel_rfl) (fun a g hst hb => ?_)
     refine wp_cond_split (hst.bool 1 rfl) (fun hc7 => ?_) (fun hc7 => ?_)
     · replace H0 := Zy hc7 H0
       refine r_s (L := []) (T := [⟨[], _, [], [], [2]⟩]) (F := [.op 0 0]) (hst.pick [] rfl) hb Zb
         (o_p rfl (Zc rfl rfl c_i) <| o_n) (by kernel_rfl) (fun a g hst hb => ?_)
       refine wp_ret ?_
       refine Zp ?_
       obtain rfl := Option.some.inj H0
       exact Zx rfl hst hb (Zk (s := 2)) (hst.at 0 rfl)
     · replace H0 := Zz hc7 H0
       refine wp_skip ?_
       refine Zv ?_
       refine r_s (L := [(1, _)]) (T := [⟨[], _, [], [], [3]⟩]) (F := [.old 0, .op 0 0]) (hst.pick [0] rfl) hb Zb
         (o_p rfl (Zc rfl rfl c_i) <| o_n) (by kernel_rfl) (fun a g hst hb => ?_)
       refine wp_seq ?_
       refine r_s (T := ⟨[.old 0], _, [], [], [29]⟩ :: ⟨[.op 0 0], _, [], [0], [30]⟩ :: ⟨[.op 1 0], _, [], [0, 1], [31]⟩ :: ⟨[.op 2 0], _, [], [0, 1, 2], [32]⟩ :: ⟨[.op 3 0, .old 0], _, [], Lr 4, [33]⟩ :: ⟨[.op 3 0, .op 4 0], _, [], Lr 5, [34]⟩ :: ⟨[.op 3 0, .old 1], _, [], Lr 4, [35]⟩ :: ⟨[.op 3 0, .op 6 0], _, [], [0, 1, 2, 3, 6], [36]⟩ :: ⟨[.op 3 0, .op 5 0, .op 7 0], _, [], Lr 8, [37]⟩ :: ⟨[.op 3 0, .op 8 0], _, [], Lr 9, [38]⟩ :: ⟨[.op 9 0, .old 0], _, [], Lr 10, [39]⟩ :: ⟨[.op 9 0, .op 10 0], _, [], Lr 11, [40]⟩ :: ⟨[.op 9 0, .old 1], _, [], Lr 10, [41]⟩ :: ⟨[.op 9 0, .op 11 0, .op 12 0], _, [], Lr 13, [42]⟩ :: ⟨[.op 3 0, .op 9 0, .op 13 0], _, [], Lr 14, [43]⟩ :: ⟨[.op 3 0, .op 14 0], _, [], Lr 15, [44]⟩ :: ⟨[.op 15 0, .old 0], _, [], Lr 16, [45]⟩ :: ⟨[.op 15 0, .op 16 0], _, [], Lr 17, [46]⟩ :: ⟨[.op 15 0, .old 0], _, [], Lr 16, [47]⟩ :: ⟨[.op 15 0, .op 18 0], _, [], 0 :: 1 :: 2 :: 3 :: 4 :: 5 :: 6 :: 7 :: 8 :: 9 :: 10 :: 11 :: 12 :: 13 :: 14 :: 15 :: 18 :: [], [48]⟩ :: ⟨[.op 15 0, .op 17 0, .op 19 0], _, [], Lr 20, [49]⟩ :: ⟨[.op 3 0, .op 15 0, .op 20 0], _, [], Lr 21, [50]⟩ :: ⟨[.op 3 0, .op 21 0], _, [], Lr 22, [51]⟩ :: ⟨[.op 22 0, .old 0], _, [], Lr 23, [52]⟩ :: ⟨[.op 22 0, .op 23 0], _, [], Lr 24, [53]⟩ :: ⟨[.op 22 0, .old 0], _, [], Lr 23, [54]⟩ :: ⟨[.op 22 0, .op 25 0], _, [], 0 :: 1 :: 2 :: 3 :: 4 :: 5 :: 6 :: 7 :: 8 :: 9 :: 10 :: 11 :: 12 :: 13 :: 14 :: 15 :: 16 :: 17 :: 18 :: 19 :: 20 :: 21 :: 22 :: 25 :: [], [55]⟩ :: ⟨[.op 22 0, .op 24 0, .op 26 0], _, [], Lr 27, [56]⟩ :: ⟨[.op 3 0, .op 22 0, .op 27 0], _, [], Lr 28, [57]⟩ :: ⟨[.op 3 0, .op 28 0], _, [], Lr 29, [58]⟩ :: []) (F := [.old 0, .op 29 0]) hst hb Zb
         (o_p rfl (Ze Zgk rfl rfl u_0) <| o_p rfl (Zf ty_3 rfl rfl u_0) <| o_p rfl (Zbj rfl rfl u_0 c_i) <| o_p rfl (Za rfl rfl u_0) <| o_g (g_t rfl rfl rfl (fun hG => Ze Zky rfl rfl u_0)) <| o_g (g_t rfl rfl rfl (fun hG => Zf ty_2 rfl rfl (Opd.gd hG u_0))) <| o_g (g_t rfl rfl rfl (fun hG => Za rfl rfl u_0)) <| o_g (g_t rfl rfl rfl (fun hG => Z8d rfl rfl (Opd.gd hG u_0) rfl)) <| o_g (g_t rfl rfl rfl (fun hG => Zco rfl rfl (Opd.gd hG u_0) (Opd.gd hG u_1))) <| o_g (g_t rfl rfl rfl (fun hG => Za rfl rfl (Opd.gd hG u_0))) <| o_g (g_fi rfl rfl rfl (fun hG => Ze Zkr rfl rfl u_0)) <| o_g (g_fi rfl rfl rfl (fun hG => Zf ty_2 rfl rfl (Opd.gd hG u_0))) <| o_g (g_fi rfl rfl rfl (fun hG => Za rfl rfl u_0)) <| o_g (g_fi rfl rfl rfl (fun hG => Zci rfl rfl (Opd.gd hG u_0) (Opd.gd hG u_1))) <| o_g (g_t rfl rfl rfl (fun hG => Zbi rfl rfl (Opd.gd hG u_0) (fun hz => (Opd.gd (bA hG (bNF hz)) u_1)))) <| o_g (g_t rfl rfl rfl (fun hG => Za rfl rfl (Opd.gd hG u_0))) <| o_g (g_fi rfl rfl rfl (fun hG => Ze Zem rfl rfl u_0)) <| o_g (g_fi rfl rfl rfl (fun hG => Zf ty_2 rfl rfl (Opd.gd hG u_0))) <| o_g (g_fi rfl rfl rfl (fun hG => Ze Zky rfl rfl u_0)) <| o_g (g_fi rfl rfl rfl (fun hG => Zf ty_2 rfl rfl (Opd.gd hG u_0))) <| o_g (g_fi rfl rfl rfl (fun hG => Zco rfl rfl (Opd.gd hG u_0) (Opd.gd hG u_1))) <| o_g (g_t rfl rfl rfl (fun hG => Zbi rfl rfl (Opd.gd hG u_0) (fun hz => (Opd.gd (bA hG (bNF hz)) u_1)))) <| o_g (g_t rfl rfl rfl (fun hG => Za rfl rfl (Opd.gd hG u_0))) <| o_g (g_fi rfl rfl rfl (fun hG => Ze Zem rfl rfl u_0)) <| o_g (g_fi rfl rfl rfl (fun hG => Zf ty_2 rfl rfl (Opd.gd hG u_0))) <| o_g (g_fi rfl rfl rfl (fun hG => Ze Zkr rfl rfl u_0)) <| o_g (g_fi rfl rfl rfl (fun hG => Zf ty_2 rfl rfl (Opd.gd hG u_0))) <| o_g (g_fi rfl rfl rfl (fun hG => Zci rfl rfl (Opd.gd hG u_0) (Opd.gd hG u_1))) <| o_g (g_t rfl rfl rfl (fun hG => Zbi rfl rfl (Opd.gd hG u_0) (fun hz => (Opd.gd (bA hG (bNF hz)) u_1)))) <| o_p rfl (Zbf rfl rfl u_0 (fun hz => (Opd.gd hz u_1))) <| o_n) (by kernel_rfl) (fun a g hst hb => ?_)
       refine wp_cond_split (hst.bool 1 rfl) (fun hc8 => ?_) (fun hc8 => ?_)
       · replace H0 := Zy hc8 H0
         refine r_s (L := []) (T := [⟨[], _, [], [], [2]⟩]) (F := [.op 0 0]) (hst.pick [] rfl) hb Zb
           (o_p rfl (Zc rfl rfl c_i) <| o_n) (by kernel_rfl) (fun a g hst hb => ?_)
         refine wp_ret ?_
         refine Zp ?_
         obtain rfl := Option.some.inj H0
         exact Zx rfl hst hb (Zk (s := 2)) (hst.at 0 rfl)
       · replace H0 := Zz hc8 H0
         refine wp_skip ?_
         refine Zv ?_
         refine wp_seq ?_
         obtain ⟨r9, h10, H0⟩ := Zg H0
         refine r_s (L := [(1, _)]) (T := [⟨[.old 0], _, [], [], [59]⟩, ⟨[.op 0 0], _, [], [0], [60]⟩, ⟨[.op 1 0], _, [], [0, 1], [61]⟩, ⟨[.op 2 0], _, [], [0, 1, 2], [62]⟩]) (F := [.old 0, .op 3 0]) (hst.pick [0] rfl) hb Zb
           (o_p rfl (Ze Zls rfl rfl u_0) <| o_p rfl (Zf Zfb rfl rfl u_0) <| o_p rfl (Zo Z5j (Zln _ h10) rfl rfl (.cons u_0 .nil)) <| o_p rfl (Zcr rfl rfl u_0) <| o_n) (by kernel_rfl) (fun a g hst hb => ?_)
         refine wp_cond_split (hst.bool 1 rfl) (fun hc11 => ?_) (fun hc11 => ?_)
         · replace H0 := Zy hc11 H0
           refine r_s (L := []) (T := [⟨[], _, [], [], [2]⟩]) (F := [.op 0 0]) (hst.pick [] rfl) hb Zb
             (o_p rfl (Zc rfl rfl c_i) <| o_n) (by kernel_rfl) (fun a g hst hb => ?_)
           refine wp_ret ?_
           refine Zp ?_
           obtain rfl := Option.some.inj H0
           exact Zx rfl hst hb (Zk (s := 2)) (hst.at 0 rfl)
         · replace H0 := Zz hc11 H0
           refine wp_skip ?_
           refine Zv ?_
           refine wp_seq ?_
           refine r_s (L := [(1, _)]) (T := [⟨[.old 0], _, [], [], [63]⟩, ⟨[.op 0 0], _, [], [0], [64]⟩, ⟨[.op 1 0], _, [], [0, 1], [65]⟩]) (F := [.old 0, .op 2 0]) (hst.pick [0] rfl) hb Zb
             (o_p rfl (Ze Zgk rfl rfl u_0) <| o_p rfl (Zf ty_3 rfl rfl u_0) <| o_p rfl (Zco rfl rfl u_0 c_i) <| o_n) (by kernel_rfl) (fun a g hst hb => ?_)
           refine wp_cond_split (hst.bool 1 rfl) (fun hc12 => ?_) (fun hc12 => ?_)
           · replace H0 := Zy hc12 H0
             refine r_s (L := []) (T := [⟨[], _, [], [], [2]⟩]) (F := [.op 0 0]) (hst.pick [] rfl) hb Zb
               (o_p rfl (Zc rfl rfl c_i) <| o_n) (by kernel_rfl) (fun a g hst hb => ?_)
             refine wp_ret ?_
             refine Zp ?_
             obtain rfl := Option.some.inj H0
             exact Zx rfl hst hb (Zk (s := 2)) (hst.at 0 rfl)
           · replace H0 := Zz hc12 H0
             refine wp_skip ?_
             refine Zv ?_
             refine wp_seq ?_
             refine r_s (L := [(1, _)]) (T := [⟨[.old 0], _, [], [], [66]⟩, ⟨[.op 0 0], _, [], [0], [67]⟩, ⟨[.op 1 0], _, [], [0, 1], [68]⟩, ⟨[.op 2 0], _, [], [0, 1, 2], [69]⟩, ⟨[.op 3 0, .old 0], _, [], Lr 4, [70]⟩, ⟨[.op 3 0, .op 4 0], _, [], Lr 5, [71]⟩, ⟨[.op 3 0, .op 5 0], _, [], Lr 6, [72]⟩, ⟨[.op 3 0, .op 6 0], _, [], Lr 7, [73]⟩]) (F := [.old 0, .op 7 0]) (hst.pick [0] rfl) hb Zb
               (o_p rfl (Ze Zh9 rfl rfl u_0) <| o_p rfl (Zf ty_3 rfl rfl u_0) <| o_p rfl (Zco rfl rfl u_0 c_i) <| o_p rfl (Za rfl rfl u_0) <| o_g (g_f rfl rfl rfl (fun hG => Ze Zh9 rfl rfl u_0)) <| o_g (g_f rfl rfl rfl (fun hG => Zf ty_3 rfl rfl (Opd.gd hG u_0))) <| o_g (g_f rfl rfl rfl (fun hG => Zci rfl rfl (Opd.gd hG u_0) c_i)) <| o_p rfl (Zbi rfl rfl u_0 (fun hz => (Opd.gd (bNF hz) u_1))) <| o_n) (by kernel_rfl) (fun a g hst hb => ?_)
             refine wp_cond_split (hst.bool 1 rfl) (fun hc13 => ?_) (fun hc13 => ?_)
             · replace H0 := Zy hc13 H0
               refine r_s (L := []) (T := [⟨[], _, [], [], [2]⟩]) (F := [.op 0 0]) (hst.pick [] rfl) hb Zb
                 (o_p rfl (Zc rfl rfl c_i) <| o_n) (by kernel_rfl) (fun a g hst hb => ?_)
               refine wp_ret ?_
               refine Zp ?_
               obtain rfl := Option.some.inj H0
               exact Zx rfl hst hb (Zk (s := 2)) (hst.at 0 rfl)
             · replace H0 := Zz hc13 H0
               refine wp_skip ?_
               refine Zv ?_
               refine wp_seq ?_
               refine r_s (L := [(1, _)]) (T := [⟨[.old 0], _, [], [], [74]⟩, ⟨[.op 0 0], _, [], [0], [75]⟩, ⟨[.op 1 0], _, [], [0, 1], [76]⟩, ⟨[.old 0], _, [], [], [77]⟩, ⟨[.op 3 0], _, [], [3], [78]⟩, ⟨[.op 2 0, .op 4 0], _, [], Lr 5, [79]⟩]) (F := [.old 0, .op 5 0]) (hst.pick [0] rfl) hb Zb
                 (o_p rfl (Ze Zdh rfl rfl u_0) <| o_p rfl (Zf Ze5 rfl rfl u_0) <| o_p rfl (Zb4 Tryz.underlying50 rfl rfl u_0) <| o_p rfl (Ze Zh9 rfl rfl u_0) <| o_p rfl (Zf ty_3 rfl rfl u_0) <| o_p rfl (Zci rfl rfl u_0 u_1) <| o_n) (by kernel_rfl) (fun a g hst hb => ?_)
               refine wp_cond_split (hst.bool 1 rfl) (fun hc14 => ?_) (fun hc14 => ?_)
               · replace H0 := Zy hc14 H0
                 refine r_s (L := []) (T := [⟨[], _, [], [], [2]⟩]) (F := [.op 0 0]) (hst.pick [] rfl) hb Zb
                   (o_p rfl (Zc rfl rfl c_i) <| o_n) (by kernel_rfl) (fun a g hst hb => ?_)
                 refine wp_ret ?_
                 refine Zp ?_
                 obtain rfl := Option.some.inj H0
                 exact Zx rfl hst hb (Zk (s := 2)) (hst.at 0 rfl)
               · replace H0 := Zz hc14 H0
                 refine wp_skip ?_
                 refine Zv ?_
                 refine wp_seq ?_
                 refine r_s (L := [(1, _)]) (T := [⟨[], _, [], [], [4]⟩]) (F := [.old 0, .op 0 0]) (hst.pick [0] rfl) hb Zb
                   (o_p rfl (Zc rfl rfl c_i) <| o_n) (by kernel_rfl) (fun a g hst hb => ?_)
                 obtain ⟨z20, hz1, H0⟩ := Zg H0
                 refine Zcx (fun a w => ∃ (g : G), w = g.w ∧ St 96 [] a g ∧ Base g0 g ∧ (.inr ()) = z20) ?_ ?_
                 · rintro a w ⟨g, rfl, hst, hb, rfl⟩
                   refine Zv ?_
                   refine r_s (T := [⟨[], _, [], [], [2]⟩]) (F := [.op 0 0]) hst hb Zb
                     (o_p rfl (Zc rfl rfl c_i) <| o_n) (by kernel_rfl) (fun a g hst hb => ?_)
                   refine wp_ret ?_
                   obtain rfl := Option.some.inj H0
                   exact Zx rfl hst hb (Zk (s := 2)) (hst.at 0 rfl)
                 · refine wp_block ?_
                   refine wp_loop_ghost (fun n a w => ∃ (x15 : Int) (g : G), w = g.w ∧ St 96 [(1, (Zj.ptr a0)), (4, (pInt .i64 x15))] a g ∧ Base g0 g ∧ Zdv a0 n x15 = some z20) (Int.toNat ((a0.List.length : Int) - (0 : Int)) + 1) ⟨(0 : Int), g, rfl, (hst.pick [0, 1] rfl), hb, hz1⟩ (fun n a w hI => ?_)
                   obtain ⟨x15, g, rfl, hst, hb, H1⟩ := hI
                   cases n with
                   | zero => exact absurd H1 (by simp [Zdv])
                   | succ n =>
                     rw [Zdv] at H1
                     refine wp_seq ?_
                     refine r_s (T := [⟨[.old 1], _, [], [], [80]⟩, ⟨[.old 0], _, [], [], [81]⟩, ⟨[.op 1 0], _, [], [1], [82]⟩, ⟨[.op 2 0], _, [], [1, 2], [83]⟩, ⟨[.op 0 0, .op 3 0], _, [], Lr 4, [84]⟩]) (F := [.old 0, .old 1, .op 4 0]) hst hb Zb
                       (o_p rfl (Za rfl rfl u_0) <| o_p rfl (Ze Zdh rfl rfl u_0) <| o_p rfl (Zf Ze5 rfl rfl u_0) <| o_p rfl (Zb4 Tryz.underlying50 rfl rfl u_0) <| o_p rfl (Zco rfl rfl u_0 u_1) <| o_n) (by kernel_rfl) (fun a g hst hb => ?_)
                     refine wp_cond_split (hst.bool 2 rfl) (fun hc16 => ?_) (fun hc16 => ?_)
                     · replace H1 := Zy hc16 H1
                       refine wp_skip ?_
                       refine Zv ?_
                       refine wp_seq ?_
                       refine wp_block ?_
                       obtain ⟨r17, h18, H1⟩ := Zg H1
                       refine r_s (L := [(1, _), (4, _)]) (T := [⟨[.old 0], _, [], [], [87]⟩, ⟨[.op 0 0], _, [], [0], [88]⟩, ⟨[.old 0], _, [], [], [89]⟩, ⟨[.op 2 0], _, [], [2], [90]⟩, ⟨[.old 1], _, [], [], [91]⟩, ⟨[.op 1 0, .op 3 0, .op 4 0], _, [], Lr 5, [92]⟩, ⟨[.op 5 0], _, [], Lr 6, [5]⟩]) (F := [.old 0, .old 1, .op 6 0]) (hst.pick [0, 1] rfl) hb Zb
                         (o_p rfl (Ze Zgk rfl rfl u_0) <| o_p rfl (Zf ty_3 rfl rfl u_0) <| o_p rfl (Ze Zdh rfl rfl u_0) <| o_p rfl (Zf Ze5 rfl rfl u_0) <| o_p rfl (Za rfl rfl u_0) <| o_p rfl (Zo Zba9 (Zqa _ _ _ h18) rfl rfl (.cons u_0 (.cons u_1 (.cons u_2 .nil)))) <| o_p rfl (Zc rfl rfl u_0) <| o_n) (by kernel_rfl) (fun a g hst hb => ?_)
                       refine r_s (T := [⟨[.old 2], _, [], [], [93]⟩, ⟨[.op 0 0], _, [], [0], [94]⟩]) (F := [.old 0, .old 1, .old 2, .op 1 0]) hst hb Zb
                         (o_p rfl (Za rfl rfl u_0) <| o_p rfl (Zf2 rfl rfl u_0 c_i) <| o_n) (by kernel_rfl) (fun a g hst hb => ?_)
                       refine wp_cond_split (hst.bool 3 rfl) (fun hc19 => ?_) (fun hc19 => ?_)
                       · replace H1 := Zy hc19 H1
                         refine r_s (L := [(5, _)]) (T := [⟨[.old 0], _, [], [], [95]⟩, ⟨[.op 0 0], _, [], [0], [2]⟩]) (F := [.op 1 0]) (hst.pick [2] rfl) hb Zb
                           (o_p rfl (Za rfl rfl u_0) <| o_p rfl (Zc rfl rfl u_0) <| o_n) (by kernel_rfl) (fun a g hst hb => ?_)
                         refine wp_ret ?_
                         refine Zw ?_
                         refine Zp ?_
                         refine Zp ?_
                         refine Zw ?_
                         refine Zp ?_
                         refine Zp ?_
                         obtain rfl := Option.some.inj H1
                         obtain rfl := Option.some.inj H0
                         exact Zx rfl hst hb (Zk (s := 2)) (hst.at 0 rfl)
                       · replace H1 := Zz hc19 H1
                         refine wp_skip ?_
                         refine Zbu ?_
                         refine Zv ?_
                         refine r_g (L := [(1, _), (4, _)]) (T := [⟨[.old 1], _, [], [], [85]⟩, ⟨[.op 0 0], _, [], [0], [86]⟩, ⟨[.op 1 0], _, [], [0, 1], [4]⟩]) (F := [.old 0, .op 2 0]) (hst.pick [0, 1] rfl) hb Zb
                           (o_p rfl (Za rfl rfl u_0) <| o_p rfl (Zcd rfl rfl u_0 c_i rfl) <| o_p rfl (Zc rfl rfl u_0) <| o_n) (by kernel_rfl) (fun a g hst hb => ?_)
                         exact ⟨n, Nat.lt_succ_self _, (IntKind.i64.wrap (x15 + (1 : Int))), g, rfl, (hst.pick [0, 1] rfl), hb, H1⟩
                     · replace H1 := Zz hc16 H1
                       refine wp_exit ?_
                       refine Zb5 ?_
                       refine Zb5 ?_
                       refine Zct ?_
                       exact ⟨g, rfl, (hst.pick [] rfl), hb, Option.some.inj H1⟩
theorem Znd (a0 : Zs) (a1 : ByteArray) {r : Int} (h : Zel a0 a1 = some r) : FnOk Tryz.prog 40 [(Zbw.pd a0), (pStr a1)] (pInt .i64 r) := by
 have H0 := h
 unfold Zel at H0
 clear h
 refine Zbr (N := 24) Tryz.func40 rfl rfl (Nat.le_of_ble_eq_true rfl) rfl rfl (fun a g0 hst hb => ?_)
 refine r_s (T := [⟨[.old 0], _, [], [], [2]⟩, ⟨[], _, [], [], [4]⟩]) (F := [.old 1, .op 0 0]) hst hb Zb
   (o_p rfl (Zbh rfl rfl u_0) <| o_p rfl (Zc rfl rfl c_i) <| o_n) (by kernel_rfl) (fun a g hst hb => ?_)
 refine r_s (T := [⟨[], _, [], [], [5]⟩]) (F := [.old 0, .old 1, .op 0 0]) hst hb Zb
   (o_p rfl (Zc rfl rfl c_i) <| o_n) (by kernel_rfl) (fun a g hst hb => ?_)
 obtain ⟨z6, hz1, H0⟩ := Zg H0
 refine wp_seq ?_
 refine Zcx (fun a w => ∃ (y5 : Int) (g : G), w = g.w ∧ St 24 [(5, (pInt .i64 y5))] a g ∧ Base g0 g ∧ y5 = z6) ?_ ?_
 · rintro a w ⟨y5, g, rfl, hst, hb, rfl⟩
   refine Zv ?_
   refine r_s (T := [⟨[.old 0], _, [], [], [23]⟩, ⟨[.op 0 0], _, [], [0], [4]⟩]) (F := [.op 1 0]) hst hb Zb
     (o_p rfl (Za rfl rfl u_0) <| o_p rfl (Zc rfl rfl u_0) <| o_n) (by kernel_rfl) (fun a g hst hb => ?_)
   refine wp_ret ?_
   obtain rfl := Option.some.inj H0
   exact Zx rfl hst hb (Zk (s := 4)) (hst.at 0 rfl)
 · refine wp_block ?_
   refine wp_loop_ghost (fun n a w => ∃ (x1 : Int) (g : G), w = g.w ∧ St 24 [(1, (pStr a1)), (2, (Zbw.ptr a0)), (5, (pInt .i64 x1))] a g ∧ Base g0 g ∧ Zc1 a0 a1 n x1 = some z6) (Int.toNat ((a0.L.length : Int) - (0 : Int)) + 1) ⟨(0 : Int), g, rfl, (hst.pick [0, 1, 2] rfl), hb, hz1⟩ (fun n a w hI => ?_)
   obtain ⟨x1, g, rfl, hst, hb, H1⟩ := hI
   cases n with
   | zero => exact absurd H1 (by simp [Zc1])
   | succ n =>
     rw [Zc1] at H1
     refine wp_seq ?_
     obtain ⟨e2, h3, H1⟩ := Zg H1
     refine r_s (T := ⟨[.old 2], _, [], [], [6]⟩ :: ⟨[.old 1], _, [], [], [7]⟩ :: ⟨[.op 1 0], _, [], [1], [8]⟩ :: ⟨[.op 2 0], _, [], [1, 2], [9]⟩ :: ⟨[.op 0 0, .op 3 0], _, [], Lr 4, [10]⟩ :: ⟨[.op 4 0], _, [], Lr 5, [11]⟩ :: ⟨[.op 5 0, .old 1], _, [], Lr 6, [12]⟩ :: ⟨[.op 5 0, .op 6 0], _, [], Lr 7, [13]⟩ :: ⟨[.op 5 0, .old 2], _, [], Lr 6, [14]⟩ :: ⟨[.op 5 0, .op 7 0, .op 8 0], _, [], Lr 9, [15]⟩ :: ⟨[.op 5 0, .op 9 0], _, [], Lr 10, [16]⟩ :: ⟨[.op 5 0, .op 10 0], _, [], Lr 11, [17]⟩ :: ⟨[.op 5 0, .old 0], _, [], Lr 6, [18]⟩ :: ⟨[.op 5 0, .op 11 0, .op 12 0], _, [], Lr 13, [19]⟩ :: ⟨[.op 5 0, .op 13 0], _, [], Lr 14, [20]⟩ :: []) (F := [.old 0, .old 1, .old 2, .op 14 0]) hst hb Zb
       (o_p rfl (Za rfl rfl u_0) <| o_p rfl (Ze Zme rfl rfl u_0) <| o_p rfl (Zf Zpb rfl rfl u_0) <| o_p rfl (Zb4 Tryz.underlying22 rfl rfl u_0) <| o_p rfl (Zco rfl rfl u_0 u_1) <| o_p rfl (Za rfl rfl u_0) <| o_g (g_t rfl rfl rfl (fun hG => Ze Zme rfl rfl u_0)) <| o_g (g_t rfl rfl rfl (fun hG => Zf Zpb rfl rfl (Opd.gd hG u_0))) <| o_g (g_t rfl rfl rfl (fun hG => Za rfl rfl u_0)) <| o_g (g_t rfl rfl rfl (fun hG => Zbp Tryz.underlying22 Zt7 rfl rfl (Opd.gd hG u_0) (Opd.gd hG u_1) (Zbb h3 hG))) <| o_g (g_t rfl rfl rfl (fun hG => Ze Zo5 rfl rfl (Opd.gd hG u_0))) <| o_g (g_t rfl rfl rfl (fun hG => Zf ty_9 rfl rfl (Opd.gd hG u_0))) <| o_g (g_t rfl rfl rfl (fun hG => Za rfl rfl u_0)) <| o_g (g_t rfl rfl rfl (fun hG => Zm2 rfl rfl (Opd.gd hG u_0) (Opd.gd hG u_1))) <| o_p rfl (Zbf rfl rfl u_0 (fun hz => (Opd.gd hz u_1))) <| o_n) (by kernel_rfl) (fun a g hst hb => ?_)
     refine wp_cond_split (hst.bool 3 rfl) (fun hc4 => ?_) (fun hc4 => ?_)
     · replace H1 := Zy hc4 H1
       refine wp_skip ?_
       refine Zv ?_
       refine wp_block ?_
       refine r_g (L := [(1, _), (2, _), (5, _)]) (T := [⟨[.old 2], _, [], [], [21]⟩, ⟨[.op 0 0], _, [], [0], [22]⟩, ⟨[.op 1 0], _, [], [0, 1], [5]⟩]) (F := [.old 0, .old 1, .op 2 0]) (hst.pick [0, 1, 2] rfl) hb Zb
         (o_p rfl (Za rfl rfl u_0) <| o_p rfl (Zcd rfl rfl u_0 c_i rfl) <| o_p rfl (Zc rfl rfl u_0) <| o_n) (by kernel_rfl) (fun a g hst hb => ?_)
       refine Zbu ?_
       exact ⟨n, Nat.lt_succ_self _, (IntKind.i64.wrap (x1 + (1 : Int))), g, rfl, (hst.pick [0, 1, 2] rfl), hb, H1⟩
     · replace H1 := Zz hc4 H1
       refine wp_exit ?_
       refine Zb5 ?_
       refine Zb5 ?_
       refine Zct ?_
       exact ⟨x1, g, rfl, (hst.pick [2] rfl), hb, Option.some.inj H1⟩
end Go.CL
