/- A part of the proof of FoldRoom. -/
import Derived.Test.YtiggdpakpaickaaDoorFoldRoomC4
import Derived.Defers
import Derived.Recover
set_option linter.unusedVariables false
set_option linter.unusedSimpArgs false
set_option maxRecDepth 100000
namespace Go.CL
open Go Go.RowKit Go.Proofs
theorem Zow (self : shelf_nodeT → ByteArray → Option (shelf_nodeT)) (hself : ∀ (a0 : shelf_nodeT) (a1 : ByteArray) {r : shelf_nodeT}, self a0 a1 = some r → FnOk Tryd.prog 53 [(Zz.pd a0), (pStr a1)] (Zz.pd r)) (a0 : shelf_nodeT) (a1 : ByteArray) {r : shelf_nodeT} (h : Zin self a0 a1 = some r) : FnOk Tryd.prog 53 [(Zz.pd a0), (pStr a1)] (Zz.pd r) := by
 have H0 := h
 unfold Zin at H0
 clear h
 refine Zbr (N := 108) Tryd.func53 rfl rfl (Nat.le_of_ble_eq_true rfl) rfl rfl (fun a g0 hst hb => ?_)
 refine r_s (T := [⟨[], [(4, (Zz.pd shelf_nodeT.nil))], [], [], [4]⟩]) (F := [.old 0, .old 1]) hst hb Zb
   (o_p rfl (Zc rfl rfl (Opd.c (fun g => Zdt g))) <| o_n) (by kernel_rfl) (fun a g hst hb => ?_)
 refine wp_seq ?_
 refine wp_block ?_
 refine r_s (T := [⟨[.old 0], _, [], [], [7]⟩, ⟨[.op 0 0], _, [], [0], [8]⟩, ⟨[.op 1 0], _, [], [0, 1], [6]⟩]) (F := [.old 0, .old 1, .op 2 0]) hst hb Zb
   (o_p rfl (Za rfl rfl u_0) <| o_p rfl (Znv Tryd.underlying25 rfl rfl u_0 (Zea _)) <| o_p rfl (Zc rfl rfl u_0) <| o_n) (by kernel_rfl) (fun a g hst hb => ?_)
 refine wp_cond_split (hst.bool 2 rfl) (fun hc1 => ?_) (fun hc1 => ?_)
 · replace H0 := Z1 hc1 H0
   refine r_s (L := []) (T := [⟨[], [(4, (Zz.pd shelf_nodeT.nil))], [], [], [4]⟩]) (F := [.op 0 0]) (hst.pick [] rfl) hb Zb
     (o_p rfl (Zc rfl rfl (Opd.c (fun g => Zdt g))) <| o_n) (by kernel_rfl) (fun a g hst hb => ?_)
   refine wp_ret ?_
   refine Zy ?_
   refine Zs ?_
   obtain rfl := Option.some.inj H0
   exact Z2 rfl hst hb (Zk (s := 4)) (hst.at 0 rfl)
 · replace H0 := Z0 hc1 H0
   obtain ⟨n2, h3, H0⟩ := Zh H0
   refine r_s (L := [(0, _), (1, _)]) (T := [⟨[.old 1], _, [], [], [10]⟩, ⟨[.old 0], _, [], [], [11]⟩, ⟨[.op 1 0], _, [], [1], [12]⟩, ⟨[.op 2 0], _, [], [1, 2], [13]⟩, ⟨[.op 3 0], _, [], [1, 2, 3], [14]⟩, ⟨[.op 0 0, .op 4 0], _, [], List.range 5, [15]⟩, ⟨[.op 5 0], _, [], List.range 6, [9]⟩]) (F := [.old 0, .old 1, .op 6 0]) (hst.pick [0, 1] rfl) hb Zb
     (o_p rfl (Za rfl rfl u_0) <| o_p rfl (Za rfl rfl u_0) <| o_p rfl (Zn rfl rfl (Opd.imp u_0 (fun _ _ h => Zp h3 h)) (fun _ _ ⟨_, _, _, e, _⟩ => ⟨_, e⟩)) <| o_p rfl (Ze Zeq rfl rfl u_0) <| o_p rfl (Zf ty_9 rfl rfl u_0) <| o_p rfl (Zly rfl rfl u_0 u_1) <| o_p rfl (Zc rfl rfl u_0) <| o_n) (by kernel_rfl) (fun a g hst hb => ?_)
   refine wp_cond_split (hst.bool 2 rfl) (fun hc4 => ?_) (fun hc4 => ?_)
   · replace H0 := Z1 hc4 H0
     obtain ⟨r5, h6, H0⟩ := Zh H0; obtain ⟨r7, h8, H0⟩ := Zh H0
     refine r_s (L := [(0, _), (1, _)]) (T := ⟨[.old 0], _, [], [], [16]⟩ :: ⟨[.op 0 0], _, [], [0], [17]⟩ :: ⟨[.op 1 0], _, [], [0, 1], [18]⟩ :: ⟨[.op 2 0], _, [], [0, 1, 2], [19]⟩ :: ⟨[.old 0], _, [], [], [20]⟩ :: ⟨[.op 4 0], _, [], [4], [21]⟩ :: ⟨[.op 5 0], _, [], [4, 5], [22]⟩ :: ⟨[.op 6 0], _, [], [4, 5, 6], [23]⟩ :: ⟨[.old 0], _, [], [], [24]⟩ :: ⟨[.op 8 0], _, [], [8], [25]⟩ :: ⟨[.op 9 0], _, [], [8, 9], [26]⟩ :: ⟨[.op 10 0], _, [], [8, 9, 10], [27]⟩ :: ⟨[.old 1], _, [], [], [28]⟩ :: ⟨[.op 11 0, .op 12 0], _, [], List.range' 8 5, [29]⟩ :: ⟨[.old 0], _, [], [], [30]⟩ :: ⟨[.op 14 0], _, [], [14], [31]⟩ :: ⟨[.op 15 0], _, [], [14, 15], [32]⟩ :: ⟨[.op 16 0], _, [], [14, 15, 16], [33]⟩ :: ⟨[.op 3 0, .op 7 0, .op 13 0, .op 17 0], _, [], List.range 18, [34]⟩ :: ⟨[.op 18 0], _, [], List.range 19, [4]⟩ :: []) (F := [.op 19 0]) (hst.pick [0, 1] rfl) hb Zb
       (o_p rfl (Za rfl rfl u_0) <| o_p rfl (Zn rfl rfl (Opd.imp u_0 (fun _ _ h => Zp h3 h)) (fun _ _ ⟨_, _, _, e, _⟩ => ⟨_, e⟩)) <| o_p rfl (Ze Zeq rfl rfl u_0) <| o_p rfl (Zf ty_9 rfl rfl u_0) <| o_p rfl (Za rfl rfl u_0) <| o_p rfl (Zn rfl rfl (Opd.imp u_0 (fun _ _ h => Zp h3 h)) (fun _ _ ⟨_, _, _, e, _⟩ => ⟨_, e⟩)) <| o_p rfl (Ze Zg8 rfl rfl u_0) <| o_p rfl (Zf Zbg rfl rfl u_0) <| o_p rfl (Za rfl rfl u_0) <| o_p rfl (Zn rfl rfl (Opd.imp u_0 (fun _ _ h => Zp h3 h)) (fun _ _ ⟨_, _, _, e, _⟩ => ⟨_, e⟩)) <| o_p rfl (Ze Zd8 rfl rfl u_0) <| o_p rfl (Zf Zcp rfl rfl u_0) <| o_p rfl (Za rfl rfl u_0) <| o_p rfl (Zq Zup (hself _ _ h6) rfl rfl (.cons u_0 (.cons u_1 .nil))) <| o_p rfl (Za rfl rfl u_0) <| o_p rfl (Zn rfl rfl (Opd.imp u_0 (fun _ _ h => Zp h3 h)) (fun _ _ ⟨_, _, _, e, _⟩ => ⟨_, e⟩)) <| o_p rfl (Ze Zen rfl rfl u_0) <| o_p rfl (Zf Zcp rfl rfl u_0) <| o_p rfl (Zq Zrp (Ziz _ _ _ _ h8) rfl rfl (.cons u_0 (.cons u_1 (.cons u_2 (.cons u_3 .nil))))) <| o_p rfl (Zc rfl rfl u_0) <| o_n) (by kernel_rfl) (fun a g hst hb => ?_)
     refine wp_ret ?_
     refine Zy ?_
     refine Zs ?_
     obtain rfl := Option.some.inj H0
     exact Z2 rfl hst hb (Zk (s := 4)) (hst.at 0 rfl)
   · replace H0 := Z0 hc4 H0
     refine r_s (L := [(0, _), (1, _)]) (T := [⟨[.old 1], _, [], [], [36]⟩, ⟨[.old 0], _, [], [], [37]⟩, ⟨[.op 1 0], _, [], [1], [38]⟩, ⟨[.op 2 0], _, [], [1, 2], [39]⟩, ⟨[.op 3 0], _, [], [1, 2, 3], [40]⟩, ⟨[.op 0 0, .op 4 0], _, [], List.range 5, [41]⟩, ⟨[.op 5 0], _, [], List.range 6, [35]⟩]) (F := [.old 0, .old 1, .op 6 0]) (hst.pick [0, 1] rfl) hb Zb
       (o_p rfl (Za rfl rfl u_0) <| o_p rfl (Za rfl rfl u_0) <| o_p rfl (Zn rfl rfl (Opd.imp u_0 (fun _ _ h => Zp h3 h)) (fun _ _ ⟨_, _, _, e, _⟩ => ⟨_, e⟩)) <| o_p rfl (Ze Zeq rfl rfl u_0) <| o_p rfl (Zf ty_9 rfl rfl u_0) <| o_p rfl (Zsi rfl rfl u_0 u_1) <| o_p rfl (Zc rfl rfl u_0) <| o_n) (by kernel_rfl) (fun a g hst hb => ?_)
     refine wp_cond_split (hst.bool 2 rfl) (fun hc9 => ?_) (fun hc9 => ?_)
     · replace H0 := Z1 hc9 H0
       obtain ⟨r10, h11, H0⟩ := Zh H0; obtain ⟨r12, h13, H0⟩ := Zh H0
       refine r_s (L := [(0, _), (1, _)]) (T := ⟨[.old 0], _, [], [], [42]⟩ :: ⟨[.op 0 0], _, [], [0], [43]⟩ :: ⟨[.op 1 0], _, [], [0, 1], [44]⟩ :: ⟨[.op 2 0], _, [], [0, 1, 2], [45]⟩ :: ⟨[.old 0], _, [], [], [46]⟩ :: ⟨[.op 4 0], _, [], [4], [47]⟩ :: ⟨[.op 5 0], _, [], [4, 5], [48]⟩ :: ⟨[.op 6 0], _, [], [4, 5, 6], [49]⟩ :: ⟨[.old 0], _, [], [], [50]⟩ :: ⟨[.op 8 0], _, [], [8], [51]⟩ :: ⟨[.op 9 0], _, [], [8, 9], [52]⟩ :: ⟨[.op 10 0], _, [], [8, 9, 10], [53]⟩ :: ⟨[.old 0], _, [], [], [54]⟩ :: ⟨[.op 12 0], _, [], [12], [55]⟩ :: ⟨[.op 13 0], _, [], [12, 13], [56]⟩ :: ⟨[.op 14 0], _, [], [12, 13, 14], [57]⟩ :: ⟨[.old 1], _, [], [], [58]⟩ :: ⟨[.op 15 0, .op 16 0], _, [], List.range' 12 5, [59]⟩ :: ⟨[.op 3 0, .op 7 0, .op 11 0, .op 17 0], _, [], List.range 18, [60]⟩ :: ⟨[.op 18 0], _, [], List.range 19, [4]⟩ :: []) (F := [.op 19 0]) (hst.pick [0, 1] rfl) hb Zb
         (o_p rfl (Za rfl rfl u_0) <| o_p rfl (Zn rfl rfl (Opd.imp u_0 (fun _ _ h => Zp h3 h)) (fun _ _ ⟨_, _, _, e, _⟩ => ⟨_, e⟩)) <| o_p rfl (Ze Zeq rfl rfl u_0) <| o_p rfl (Zf ty_9 rfl rfl u_0) <| o_p rfl (Za rfl rfl u_0) <| o_p rfl (Zn rfl rfl (Opd.imp u_0 (fun _ _ h => Zp h3 h)) (fun _ _ ⟨_, _, _, e, _⟩ => ⟨_, e⟩)) <| o_p rfl (Ze Zg8 rfl rfl u_0) <| o_p rfl (Zf Zbg rfl rfl u_0) <| o_p rfl (Za rfl rfl u_0) <| o_p rfl (Zn rfl rfl (Opd.imp u_0 (fun _ _ h => Zp h3 h)) (fun _ _ ⟨_, _, _, e, _⟩ => ⟨_, e⟩)) <| o_p rfl (Ze Zd8 rfl rfl u_0) <| o_p rfl (Zf Zcp rfl rfl u_0) <| o_p rfl (Za rfl rfl u_0) <| o_p rfl (Zn rfl rfl (Opd.imp u_0 (fun _ _ h => Zp h3 h)) (fun _ _ ⟨_, _, _, e, _⟩ => ⟨_, e⟩)) <| o_p rfl (Ze Zen rfl rfl u_0) <| o_p rfl (Zf Zcp rfl rfl u_0) <| o_p rfl (Za rfl rfl u_0) <| o_p rfl (Zq Zup (hself _ _ h11) rfl rfl (.cons u_0 (.cons u_1 .nil))) <| o_p rfl (Zq Zrp (Ziz _ _ _ _ h13) rfl rfl (.cons u_0 (.cons u_1 (.cons u_2 (.cons u_3 .nil))))) <| o_p rfl (Zc rfl rfl u_0) <| o_n) (by kernel_rfl) (fun a g hst hb => ?_)
       refine wp_ret ?_
       refine Zy ?_
       refine Zs ?_
       obtain rfl := Option.some.inj H0
       exact Z2 rfl hst hb (Zk (s := 4)) (hst.at 0 rfl)
     · replace H0 := Z0 hc9 H0
       refine r_s (L := [(0, _)]) (T := [⟨[.old 0], _, [], [], [62]⟩, ⟨[.op 0 0], _, [], [0], [63]⟩, ⟨[.op 1 0], _, [], [0, 1], [64]⟩, ⟨[.op 2 0], _, [], [0, 1, 2], [65]⟩, ⟨[.op 3 0], _, [], List.range 4, [66]⟩, ⟨[.op 4 0], _, [], List.range 5, [61]⟩]) (F := [.old 0, .op 5 0]) (hst.pick [0] rfl) hb Zb
         (o_p rfl (Za rfl rfl u_0) <| o_p rfl (Zn rfl rfl (Opd.imp u_0 (fun _ _ h => Zp h3 h)) (fun _ _ ⟨_, _, _, e, _⟩ => ⟨_, e⟩)) <| o_p rfl (Ze Zd8 rfl rfl u_0) <| o_p rfl (Zf Zcp rfl rfl u_0) <| o_p rfl (Znv Tryd.underlying25 rfl rfl u_0 (Zea _)) <| o_p rfl (Zc rfl rfl u_0) <| o_n) (by kernel_rfl) (fun a g hst hb => ?_)
       refine wp_cond_split (hst.bool 1 rfl) (fun hc14 => ?_) (fun hc14 => ?_)
       · replace H0 := Z1 hc14 H0
         refine r_s (L := [(0, _)]) (T := [⟨[.old 0], _, [], [], [67]⟩, ⟨[.op 0 0], _, [], [0], [68]⟩, ⟨[.op 1 0], _, [], [0, 1], [69]⟩, ⟨[.op 2 0], _, [], [0, 1, 2], [70]⟩, ⟨[.op 3 0], _, [], List.range 4, [4]⟩]) (F := [.op 4 0]) (hst.pick [0] rfl) hb Zb
           (o_p rfl (Za rfl rfl u_0) <| o_p rfl (Zn rfl rfl (Opd.imp u_0 (fun _ _ h => Zp h3 h)) (fun _ _ ⟨_, _, _, e, _⟩ => ⟨_, e⟩)) <| o_p rfl (Ze Zen rfl rfl u_0) <| o_p rfl (Zf Zcp rfl rfl u_0) <| o_p rfl (Zc rfl rfl u_0) <| o_n) (by kernel_rfl) (fun a g hst hb => ?_)
         refine wp_ret ?_
         refine Zy ?_
         refine Zs ?_
         obtain rfl := Option.some.inj H0
         exact Z2 rfl hst hb (Zk (s := 4)) (hst.at 0 rfl)
       · replace H0 := Z0 hc14 H0
         refine r_s (L := [(0, _)]) (T := [⟨[.old 0], _, [], [], [72]⟩, ⟨[.op 0 0], _, [], [0], [73]⟩, ⟨[.op 1 0], _, [], [0, 1], [74]⟩, ⟨[.op 2 0], _, [], [0, 1, 2], [75]⟩, ⟨[.op 3 0], _, [], List.range 4, [76]⟩, ⟨[.op 4 0], _, [], List.range 5, [71]⟩]) (F := [.old 0, .op 5 0]) (hst.pick [0] rfl) hb Zb
           (o_p rfl (Za rfl rfl u_0) <| o_p rfl (Zn rfl rfl (Opd.imp u_0 (fun _ _ h => Zp h3 h)) (fun _ _ ⟨_, _, _, e, _⟩ => ⟨_, e⟩)) <| o_p rfl (Ze Zen rfl rfl u_0) <| o_p rfl (Zf Zcp rfl rfl u_0) <| o_p rfl (Znv Tryd.underlying25 rfl rfl u_0 (Zea _)) <| o_p rfl (Zc rfl rfl u_0) <| o_n) (by kernel_rfl) (fun a g hst hb => ?_)
         refine wp_cond_split (hst.bool 1 rfl) (fun hc15 => ?_) (fun hc15 => ?_)
         · replace H0 := Z1 hc15 H0
           refine r_s (L := [(0, _)]) (T := [⟨[.old 0], _, [], [], [77]⟩, ⟨[.op 0 0], _, [], [0], [78]⟩, ⟨[.op 1 0], _, [], [0, 1], [79]⟩, ⟨[.op 2 0], _, [], [0, 1, 2], [80]⟩, ⟨[.op 3 0], _, [], List.range 4, [4]⟩]) (F := [.op 4 0]) (hst.pick [0] rfl) hb Zb
             (o_p rfl (Za rfl rfl u_0) <| o_p rfl (Zn rfl rfl (Opd.imp u_0 (fun _ _ h => Zp h3 h)) (fun _ _ ⟨_, _, _, e, _⟩ => ⟨_, e⟩)) <| o_p rfl (Ze Zd8 rfl rfl u_0) <| o_p rfl (Zf Zcp rfl rfl u_0) <| o_p rfl (Zc rfl rfl u_0) <| o_n) (by kernel_rfl) (fun a g hst hb => ?_)
           refine wp_ret ?_
           refine Zy ?_
           refine Zs ?_
           obtain rfl := Option.some.inj H0
           exact Z2 rfl hst hb (Zk (s := 4)) (hst.at 0 rfl)
         · replace H0 := Z0 hc15 H0
           refine wp_skip ?_
           refine Zbt ?_
           refine Zt ?_
           obtain ⟨r16, h17, H0⟩ := Zh H0
           refine r_s (L := [(0, _)]) (T := [⟨[.old 0], _, [], [], [81]⟩, ⟨[.op 0 0], _, [], [0], [82]⟩, ⟨[.op 1 0], _, [], [0, 1], [83]⟩, ⟨[.op 2 0], _, [], [0, 1, 2], [84]⟩, ⟨[.op 3 0], _, [], List.range 4, [85]⟩, ⟨[.op 4 0], _, [], List.range 5, [5]⟩]) (F := [.old 0, .op 5 0]) (hst.pick [0] rfl) hb Zb
             (o_p rfl (Za rfl rfl u_0) <| o_p rfl (Zn rfl rfl (Opd.imp u_0 (fun _ _ h => Zp h3 h)) (fun _ _ ⟨_, _, _, e, _⟩ => ⟨_, e⟩)) <| o_p rfl (Ze Zen rfl rfl u_0) <| o_p rfl (Zf Zcp rfl rfl u_0) <| o_p rfl (Zq Z7x (Zou _ h17) rfl rfl (.cons u_0 .nil)) <| o_p rfl (Zc rfl rfl u_0) <| o_n) (by kernel_rfl) (fun a g hst hb => ?_)
           obtain ⟨n18, h19, H0⟩ := Zh H0; obtain ⟨r20, h21, H0⟩ := Zh H0; obtain ⟨r22, h23, H0⟩ := Zh H0
           refine r_s (T := ⟨[.old 1], _, [], [], [86]⟩ :: ⟨[.op 0 0], _, [], [0], [87]⟩ :: ⟨[.op 1 0], _, [], [0, 1], [88]⟩ :: ⟨[.op 2 0], _, [], [0, 1, 2], [89]⟩ :: ⟨[.old 1], _, [], [], [90]⟩ :: ⟨[.op 4 0], _, [], [4], [91]⟩ :: ⟨[.op 5 0], _, [], [4, 5], [92]⟩ :: ⟨[.op 6 0], _, [], [4, 5, 6], [93]⟩ :: ⟨[.old 0], _, [], [], [94]⟩ :: ⟨[.op 8 0], _, [], [8], [95]⟩ :: ⟨[.op 9 0], _, [], [8, 9], [96]⟩ :: ⟨[.op 10 0], _, [], [8, 9, 10], [97]⟩ :: ⟨[.old 0], _, [], [], [98]⟩ :: ⟨[.op 12 0], _, [], [12], [99]⟩ :: ⟨[.op 13 0], _, [], [12, 13], [100]⟩ :: ⟨[.op 14 0], _, [], [12, 13, 14], [101]⟩ :: ⟨[.old 1], _, [], [], [102]⟩ :: ⟨[.op 16 0], _, [], [16], [103]⟩ :: ⟨[.op 17 0], _, [], [16, 17], [104]⟩ :: ⟨[.op 18 0], _, [], [16, 17, 18], [105]⟩ :: ⟨[.op 15 0, .op 19 0], _, [], List.range' 12 8, [106]⟩ :: ⟨[.op 3 0, .op 7 0, .op 11 0, .op 20 0], _, [], List.range 21, [107]⟩ :: ⟨[.op 21 0], _, [], List.range 22, [4]⟩ :: []) (F := [.op 22 0]) hst hb Zb
             (o_p rfl (Za rfl rfl u_0) <| o_p rfl (Zn rfl rfl (Opd.imp u_0 (fun _ _ h => Zp h19 h)) (fun _ _ ⟨_, _, _, e, _⟩ => ⟨_, e⟩)) <| o_p rfl (Ze Zeq rfl rfl u_0) <| o_p rfl (Zf ty_9 rfl rfl u_0) <| o_p rfl (Za rfl rfl u_0) <| o_p rfl (Zn rfl rfl (Opd.imp u_0 (fun _ _ h => Zp h19 h)) (fun _ _ ⟨_, _, _, e, _⟩ => ⟨_, e⟩)) <| o_p rfl (Ze Zg8 rfl rfl u_0) <| o_p rfl (Zf Zbg rfl rfl u_0) <| o_p rfl (Za rfl rfl u_0) <| o_p rfl (Zn rfl rfl (Opd.imp u_0 (fun _ _ h => Zp h3 h)) (fun _ _ ⟨_, _, _, e, _⟩ => ⟨_, e⟩)) <| o_p rfl (Ze Zd8 rfl rfl u_0) <| o_p rfl (Zf Zcp rfl rfl u_0) <| o_p rfl (Za rfl rfl u_0) <| o_p rfl (Zn rfl rfl (Opd.imp u_0 (fun _ _ h => Zp h3 h)) (fun _ _ ⟨_, _, _, e, _⟩ => ⟨_, e⟩)) <| o_p rfl (Ze Zen rfl rfl u_0) <| o_p rfl (Zf Zcp rfl rfl u_0) <| o_p rfl (Za rfl rfl u_0) <| o_p rfl (Zn rfl rfl (Opd.imp u_0 (fun _ _ h => Zp h19 h)) (fun _ _ ⟨_, _, _, e, _⟩ => ⟨_, e⟩)) <| o_p rfl (Ze Zeq rfl rfl u_0) <| o_p rfl (Zf ty_9 rfl rfl u_0) <| o_p rfl (Zq Zup (hself _ _ h21) rfl rfl (.cons u_0 (.cons u_1 .nil))) <| o_p rfl (Zq Zrp (Ziz _ _ _ _ h23) rfl rfl (.cons u_0 (.cons u_1 (.cons u_2 (.cons u_3 .nil))))) <| o_p rfl (Zc rfl rfl u_0) <| o_n) (by kernel_rfl) (fun a g hst hb => ?_)
           refine wp_ret ?_
           obtain rfl := Option.some.inj H0
           exact Z2 rfl hst hb (Zk (s := 4)) (hst.at 0 rfl)
theorem Zk6 : ∀ (n : Nat) (a0 : shelf_nodeT) (a1 : ByteArray) {r : shelf_nodeT}, Ze5 n a0 a1 = some r → FnOk Tryd.prog 53 [(Zz.pd a0), (pStr a1)] (Zz.pd r)
 | 0, _, _, _, h => by simp [Ze5] at h
 | n + 1, a0, a1, _, h => Zow (Ze5 n) (fun a0 a1 r h => Zk6 n a0 a1 h) a0 a1 h
theorem Zqj (a0 : shelf_nodeT) (a1 : ByteArray) {r : shelf_nodeT} (h : Zld a0 a1 = some r) : FnOk Tryd.prog 53 [(Zz.pd a0), (pStr a1)] (Zz.pd r) := Zk6 _ a0 a1 h
end Go.CL
set_option linter.unusedVariables false
set_option linter.unusedSimpArgs false
set_option maxRecDepth 100000
namespace Go.CL
open Go Go.RowKit Go.Proofs
theorem Zpl (a0 : Zm) (a1 : ByteArray) {r : Zm × Bool} (h : Zfj a0 a1 = some r) : FnOk Tryd.prog 37 [(Zw.pd a0), (pStr a1)] (pTup [(Zw.pd r.1), (Zbb r.2)]) := by
 have H0 := h
 unfold Zfj at H0
 clear h
 refine Zbr (N := 24) Tryd.func37 rfl rfl (Nat.le_of_ble_eq_true rfl) rfl rfl (fun a g0 hst hb => ?_)
 refine r_s (T := [⟨[.old 0], _, [], [], [2]⟩, ⟨[], [(4, (pBox Zw 4 (default : Zm)))], [5], [], [4]⟩, ⟨[], _, [], [], [5]⟩]) (F := [.old 1, .op 0 0, .op 1 0]) hst hb Zb
   (o_p rfl (Zbj rfl rfl u_0) <| o_p rfl (Zbc (zs := [.pointer none, .int .i64 0]) (by kernel_rfl) (fun g => Zct g) rfl rfl) <| o_p rfl (Zc rfl rfl c_b) <| o_n) (by kernel_rfl) (fun a g hst hb => ?_)
 refine wp_seq ?_
 obtain ⟨r1, h2, H0⟩ := Zh H0
 refine r_s (T := [⟨[.old 1], _, [], [], [9]⟩, ⟨[.old 0], _, [], [], [10]⟩, ⟨[.op 0 0, .op 1 0], _, [], [0, 1], [11]⟩, ⟨[.op 2 0], _, [], [0, 1, 2], [8]⟩, ⟨[.op 3 0], _, [], List.range 4, [12]⟩, ⟨[.op 3 0], _, [], List.range 4, [13]⟩, ⟨[], [(6, (pBox Zi 6 (default : Zd)))], [7], [], [6]⟩, ⟨[.op 4 0, .op 6 0], _, [7], [0, 1, 2, 3, 4, 6], [6]⟩, ⟨[.op 5 0], _, [], List.range 8, [7]⟩]) (F := [.old 0, .old 1, .old 2, .op 8 0]) hst hb Zb
   (o_p rfl (Zf Zbl rfl rfl u_0) <| o_p rfl (Za rfl rfl u_0) <| o_p rfl (Zq Zze (Zjf _ _ h2) rfl rfl (.cons u_0 (.cons u_1 .nil))) <| o_p rfl (Za rfl rfl u_0) <| o_p rfl (Z5 rfl rfl u_0 rfl) <| o_p rfl (Z5 rfl rfl u_0 rfl) <| o_p rfl (Zbc (zs := [.int .i64 0, .int .i64 0, .int .i64 0, .int .i64 0, .float .f64 0, .int .i64 0, .string ByteArray.empty, .slice none 0 0]) (by kernel_rfl) (fun g => Zcg g) rfl rfl) <| o_p rfl (Zb0 Zbg rfl rfl u_1 u_0) <| o_p rfl (Zc rfl rfl u_0) <| o_n) (by kernel_rfl) (fun a g hst hb => ?_)
 refine r_s (T := [⟨[.old 3], _, [], [], [14]⟩, ⟨[.op 0 0], _, [], [0], [15]⟩]) (F := [.old 0, .old 1, .old 2, .op 1 0]) hst hb Zb
   (o_p rfl (Za rfl rfl u_0) <| o_p rfl (Zcv rfl rfl u_0) <| o_n) (by kernel_rfl) (fun a g hst hb => ?_)
 refine wp_cond_split (hst.bool 3 rfl) (fun hc3 => ?_) (fun hc3 => ?_)
 · replace H0 := Z1 hc3 H0
   refine r_s (L := [(2, _), (4, _)]) (T := [⟨[.old 0], _, [], [], [16]⟩, ⟨[.op 0 0, .old 1], _, [5], [0], [4]⟩, ⟨[], _, [], [0, 1], [5]⟩]) (F := [.op 1 0, .op 2 0]) (hst.pick [1, 2] rfl) hb Zb
     (o_p rfl (Zf Zbl rfl rfl u_0) <| o_p rfl (Z6 Zbl rfl rfl u_1 u_0) <| o_p rfl (Zc rfl rfl c_b) <| o_n) (by kernel_rfl) (fun a g hst hb => ?_)
   refine wp_ret ?_
   refine Zs ?_
   obtain rfl := Option.some.inj H0
   obtain ⟨u0, hu0, hq0⟩ := Zbf (P := Tryd.prog) Zbl (hst.at 0 rfl)
   exact Zem rfl hst hb hu0 (Zk (s := 5)) (Zdf hq0 (hst.at 1 rfl))
 · replace H0 := Z0 hc3 H0
   refine wp_skip ?_
   refine Zt ?_
   obtain ⟨r4, h5, H0⟩ := Zh H0
   refine r_s (L := [(1, _), (2, _), (4, _)]) (T := [⟨[.old 1], _, [], [], [17]⟩, ⟨[.op 0 0], _, [], [0], [18]⟩, ⟨[.old 0], _, [], [], [19]⟩, ⟨[.op 1 0, .op 2 0], _, [], [0, 1, 2], [20]⟩, ⟨[.old 1], _, [], [], [21]⟩, ⟨[.op 4 0], _, [], [4], [22]⟩, ⟨[.op 3 0, .op 5 0], _, [], List.range 6, [23]⟩, ⟨[.op 6 0, .old 2], _, [5], List.range 7, [4]⟩, ⟨[], _, [], List.range 8, [5]⟩]) (F := [.op 7 0, .op 8 0]) (hst.pick [0, 1, 2] rfl) hb Zb
     (o_p rfl (Ze Znn rfl rfl u_0) <| o_p rfl (Zf Zcp rfl rfl u_0) <| o_p rfl (Za rfl rfl u_0) <| o_p rfl (Zq Zup (Zqj _ _ h5) rfl rfl (.cons u_0 (.cons u_1 .nil))) <| o_p rfl (Ze Zqb rfl rfl u_0) <| o_p rfl (Zf ty_3 rfl rfl u_0) <| o_p rfl (Zt1 rfl rfl u_0 u_1) <| o_p rfl (Z6 Zbl rfl rfl u_1 u_0) <| o_p rfl (Zc rfl rfl c_b) <| o_n) (by kernel_rfl) (fun a g hst hb => ?_)
   refine wp_ret ?_
   obtain rfl := Option.some.inj H0
   obtain ⟨u0, hu0, hq0⟩ := Zbf (P := Tryd.prog) Zbl (hst.at 0 rfl)
   exact Zem rfl hst hb hu0 (Zk (s := 5)) (Zdf hq0 (hst.at 1 rfl))
end Go.CL
set_option linter.unusedVariables false
set_option linter.unusedSimpArgs false
set_option maxRecDepth 100000
namespace Go.CL
open Go Go.RowKit Go.Proofs
theorem Zqw (a0 : Zm) (a1 : Zv) {r : Zm × Zg} (h : Zlc a0 a1 = some r) : FnOk Tryd.prog 16 [(Zw.pd a0), (Z8.pd a1)] (pTup [(Zw.pd r.1), (Zr.pd r.2)]) := by
 have H0 := h
 unfold Zlc at H0
 clear h
 refine Zbr (N := 66) Tryd.func16 rfl rfl (Nat.le_of_ble_eq_true rfl) rfl rfl (fun a g0 hst hb => ?_)
 refine r_s (T := [⟨[.old 0], _, [3], [], [2]⟩, ⟨[.old 1], _, [], [], [3]⟩, ⟨[], [(4, (pBox Zw 4 (default : Zm)))], [5], [], [4]⟩, ⟨[], [(5, (pBox Zr 5 (default : Zg)))], [6], [], [5]⟩]) (F := [.op 0 0, .op 1 0, .op 2 0, .op 3 0]) hst hb Zb
   (o_p rfl (Zp2 rfl rfl u_0) <| o_p rfl (Zbj rfl rfl u_0) <| o_p rfl (Zbc (zs := [.pointer none, .int .i64 0]) (by kernel_rfl) (fun g => Zct g) rfl rfl) <| o_p rfl (Zbc (zs := [.int .i64 0, .int .i64 0, .int .i64 0, .int .i64 0, .int .i64 0, .int .i64 0, .float .f64 0, .int .i64 0, .string ByteArray.empty, .slice none 0 0]) (by kernel_rfl) (fun g => Zd6 g) rfl rfl) <| o_n) (by kernel_rfl) (fun a g hst hb => ?_)
 obtain ⟨r1, h2, H0⟩ := Zh H0
 refine r_s (T := [⟨[.old 0], _, [], [], [14]⟩, ⟨[.old 1], _, [], [], [15]⟩, ⟨[.op 1 0], _, [], [1], [16]⟩, ⟨[.op 0 0, .op 2 0], _, [], [0, 1, 2], [17]⟩, ⟨[.op 3 0], _, [], List.range 4, [13]⟩, ⟨[.op 4 0], _, [], List.range 5, [18]⟩, ⟨[.op 4 0], _, [], List.range 5, [19]⟩, ⟨[], [(6, (pBox Zi 6 (default : Zd)))], [7], [], [6]⟩, ⟨[.op 5 0, .op 7 0], _, [7], [0, 1, 2, 3, 4, 5, 7], [6]⟩, ⟨[.op 6 0], _, [], List.range 9, [7]⟩]) (F := [.old 0, .old 1, .old 2, .old 3, .op 8 0, .op 9 0]) hst hb Zb
   (o_p rfl (Zb6 Zbl rfl rfl u_0) <| o_p rfl (Ze Zl9 rfl rfl u_0) <| o_p rfl (Zf ty_9 rfl rfl u_0) <| o_p rfl (Zq Zze (Zjf _ _ h2) rfl rfl (.cons u_0 (.cons u_1 .nil))) <| o_p rfl (Za rfl rfl u_0) <| o_p rfl (Z5 rfl rfl u_0 rfl) <| o_p rfl (Z5 rfl rfl u_0 rfl) <| o_p rfl (Zbc (zs := [.int .i64 0, .int .i64 0, .int .i64 0, .int .i64 0, .float .f64 0, .int .i64 0, .string ByteArray.empty, .slice none 0 0]) (by kernel_rfl) (fun g => Zcg g) rfl rfl) <| o_p rfl (Zb0 Zbg rfl rfl u_1 u_0) <| o_p rfl (Zc rfl rfl u_0) <| o_n) (by kernel_rfl) (fun a g hst hb => ?_)
 obtain ⟨r3, h4, H0⟩ := Zh H0
 refine r_s (T := ⟨[.old 4], _, [], [], [21]⟩ :: ⟨[.old 5], _, [], [], [22]⟩ :: ⟨[.old 1], _, [], [], [23]⟩ :: ⟨[.op 0 0, .op 1 0, .op 2 0], _, [], [0, 1, 2], [24]⟩ :: ⟨[.op 3 0], _, [], List.range 4, [20]⟩ :: ⟨[.op 4 0], _, [], List.range 5, [25]⟩ :: ⟨[.op 4 0], _, [], List.range 5, [26]⟩ :: ⟨[.op 4 0], _, [], List.range 5, [27]⟩ :: ⟨[], [(8, (pBox Zi 8 (default : Zd)))], [9], [], [8]⟩ :: ⟨[], [(10, (pBox Zr 10 (default : Zg)))], [11], [], [10]⟩ :: ⟨[.op 5 0, .op 8 0], _, [9], [0, 1, 2, 3, 4, 5, 8, 9], [8]⟩ :: ⟨[.op 6 0], _, [], [0, 1, 2, 3, 4, 5, 6, 8, 9, 10], [9]⟩ :: ⟨[.op 7 0, .op 9 0], _, [11], List.range 12, [10]⟩ :: []) (F := [.old 0, .old 1, .old 2, .old 3, .op 10 0, .op 11 0, .op 12 0]) hst hb Zb
   (o_p rfl (Zf Zbg rfl rfl u_0) <| o_p rfl (Za rfl rfl u_0) <| o_p rfl (Zf Zfs rfl rfl u_0) <| o_p rfl (Zq Z59 (Zuk _ _ _ h4) rfl rfl (.cons u_0 (.cons u_1 (.cons u_2 .nil)))) <| o_p rfl (Za rfl rfl u_0) <| o_p rfl (Z5 rfl rfl u_0 rfl) <| o_p rfl (Z5 rfl rfl u_0 rfl) <| o_p rfl (Z5 rfl rfl u_0 rfl) <| o_p rfl (Zbc (zs := [.int .i64 0, .int .i64 0, .int .i64 0, .int .i64 0, .float .f64 0, .int .i64 0, .string ByteArray.empty, .slice none 0 0]) (by kernel_rfl) (fun g => Zcg g) rfl rfl) <| o_p rfl (Zbc (zs := [.int .i64 0, .int .i64 0, .int .i64 0, .int .i64 0, .int .i64 0, .int .i64 0, .float .f64 0, .int .i64 0, .string ByteArray.empty, .slice none 0 0]) (by kernel_rfl) (fun g => Zd6 g) rfl rfl) <| o_p rfl (Zb0 Zbg rfl rfl u_1 u_0) <| o_p rfl (Zc rfl rfl u_0) <| o_p rfl (Zb0 Zca rfl rfl u_1 u_0) <| o_n) (by kernel_rfl) (fun a g hst hb => ?_)
 refine wp_seq ?_
 refine wp_block ?_
 obtain ⟨r5, h6, H0⟩ := Zh H0
 refine r_s (T := [⟨[.old 6], _, [], [], [29]⟩, ⟨[.op 0 0], _, [], [0], [30]⟩, ⟨[.op 1 0], _, [], [0, 1], [31]⟩, ⟨[.op 2 0], _, [], [0, 1, 2], [32]⟩, ⟨[.op 3 0, .old 1], _, [], List.range 4, [33]⟩, ⟨[.op 3 0, .op 4 0], _, [], List.range 5, [34]⟩, ⟨[.op 3 0, .op 5 0], _, [], List.range 6, [35]⟩, ⟨[.op 3 0, .op 6 0], _, [], List.range 7, [36]⟩, ⟨[.op 7 0], _, [], List.range 8, [28]⟩]) (F := [.old 0, .old 1, .old 2, .old 3, .old 4, .old 5, .old 6, .op 8 0]) hst hb Zb
   (o_p rfl (Ze Zli rfl rfl u_0) <| o_p rfl (Zf Zk3 rfl rfl u_0) <| o_p rfl (Zfr rfl rfl u_0 c_i) <| o_p rfl (Za rfl rfl u_0) <| o_g (g_f rfl rfl rfl (fun hG => Ze Zhk rfl rfl u_0)) <| o_g (g_f rfl rfl rfl (fun hG => Zf ty_3 rfl rfl (Opd.gd hG u_0))) <| o_g (g_f rfl rfl rfl (fun hG => Zq Z6u (Zvd _ (Zbo h6 hG)) rfl rfl (.cons (Opd.gd hG u_0) .nil))) <| o_p rfl (Zby rfl rfl u_0 (fun hz => (Opd.gd (bNF hz) u_1))) <| o_p rfl (Zc rfl rfl u_0) <| o_n) (by kernel_rfl) (fun a g hst hb => ?_)
 refine wp_cond_split (hst.bool 7 rfl) (fun hc7 => ?_) (fun hc7 => ?_)
 · replace H0 := Z1 hc7 H0
   refine r_s (L := [(2, _), (4, _), (5, _), (10, _)]) (T := [⟨[.old 0], _, [], [], [37]⟩, ⟨[.old 3], _, [], [], [38]⟩, ⟨[.op 0 0, .old 1], _, [5], [0], [4]⟩, ⟨[.op 1 0, .old 2], _, [6], [0, 1, 2], [5]⟩]) (F := [.op 2 0, .op 3 0]) (hst.pick [0, 2, 3, 6] rfl) hb Zb
     (o_p rfl (Zb6 Zbl rfl rfl u_0) <| o_p rfl (Zf Zca rfl rfl u_0) <| o_p rfl (Z6 Zbl rfl rfl u_1 u_0) <| o_p rfl (Z6 Zca rfl rfl u_1 u_0) <| o_n) (by kernel_rfl) (fun a g hst hb => ?_)
   refine wp_ret ?_
   refine Zy ?_
   refine Zs ?_
   obtain rfl := Option.some.inj H0
   obtain ⟨u0, hu0, hq0⟩ := Zbf (P := Tryd.prog) Zbl (hst.at 0 rfl)
   obtain ⟨u1, hu1, hq1⟩ := Zbf (P := Tryd.prog) Zca (hst.at 1 rfl)
   exact Zem rfl hst hb hu0 hu1 (Zdf hq0 hq1)
 · replace H0 := Z0 hc7 H0
   refine r_s (L := [(2, _), (3, _), (4, _), (5, _), (8, _), (9, _), (10, _)]) (T := [⟨[.old 5], _, [], [], [40]⟩, ⟨[.op 0 0], _, [], [0], [41]⟩, ⟨[.op 1 0], _, [], [0, 1], [39]⟩]) (F := [.old 0, .old 1, .old 2, .old 3, .old 4, .old 6, .op 2 0]) (hst.pick [0, 1, 2, 3, 4, 5, 6] rfl) hb Zb
     (o_p rfl (Za rfl rfl u_0) <| o_p rfl (Zcv rfl rfl u_0) <| o_p rfl (Zc rfl rfl u_0) <| o_n) (by kernel_rfl) (fun a g hst hb => ?_)
   refine wp_cond_split (hst.bool 6 rfl) (fun hc8 => ?_) (fun hc8 => ?_)
   · replace H0 := Z1 hc8 H0
     obtain ⟨r9, h10, H0⟩ := Zh H0
     refine r_s (L := [(2, _), (3, _), (4, _), (5, _), (10, _)]) (T := [⟨[.old 0], _, [], [], [43]⟩, ⟨[.old 1], _, [], [], [44]⟩, ⟨[.op 1 0], _, [], [1], [45]⟩, ⟨[.op 0 0, .op 2 0], _, [], [0, 1, 2], [46]⟩, ⟨[.op 3 0], _, [], List.range 4, [42]⟩, ⟨[.op 4 0], _, [], List.range 5, [47]⟩, ⟨[.op 4 0], _, [], List.range 5, [48]⟩, ⟨[.op 5 0, .old 0], _, [3], List.range 6, [2]⟩]) (F := [.op 7 0, .old 2, .old 3, .old 4]) (hst.pick [0, 1, 2, 3, 5] rfl) hb Zb
       (o_p rfl (Zb6 Zbl rfl rfl u_0) <| o_p rfl (Ze Zl9 rfl rfl u_0) <| o_p rfl (Zf ty_9 rfl rfl u_0) <| o_p rfl (Zq Z6o (Zpl _ _ h10) rfl rfl (.cons u_0 (.cons u_1 .nil))) <| o_p rfl (Za rfl rfl u_0) <| o_p rfl (Z5 rfl rfl u_0 rfl) <| o_p rfl (Z5 rfl rfl u_0 rfl) <| o_p rfl (Z6 Zbl rfl rfl u_1 u_0) <| o_n) (by kernel_rfl) (fun a g hst hb => ?_)
     refine r_s (T := [⟨[.old 0], _, [], [], [49]⟩, ⟨[.old 3], _, [], [], [50]⟩, ⟨[.op 0 0, .old 1], _, [5], [0], [4]⟩, ⟨[.op 1 0, .old 2], _, [6], [0, 1, 2], [5]⟩]) (F := [.op 2 0, .op 3 0]) hst hb Zb
       (o_p rfl (Zb6 Zbl rfl rfl u_0) <| o_p rfl (Zf Zca rfl rfl u_0) <| o_p rfl (Z6 Zbl rfl rfl u_1 u_0) <| o_p rfl (Z6 Zca rfl rfl u_1 u_0) <| o_n) (by kernel_rfl) (fun a g hst hb => ?_)
     refine wp_ret ?_
     refine Zy ?_
     refine Zs ?_
     obtain rfl := Option.some.inj H0
     obtain ⟨u0, hu0, hq0⟩ := Zbf (P := Tryd.prog) Zbl (hst.at 0 rfl)
     obtain ⟨u1, hu1, hq1⟩ := Zbf (P := Tryd.prog) Zca (hst.at 1 rfl)
     exact Zem rfl hst hb hu0 hu1 (Zdf hq0 hq1)
   · replace H0 := Z0 hc8 H0
     refine wp_skip ?_
     refine Zbt ?_
     refine Zt ?_
     obtain ⟨r11, h12, H0⟩ := Zh H0
     refine r_s (L := [(2, _), (3, _), (4, _), (5, _), (8, _), (10, _)]) (T := [⟨[.old 0], _, [], [], [52]⟩, ⟨[.old 1], _, [], [], [53]⟩, ⟨[.op 1 0], _, [], [1], [54]⟩, ⟨[.old 4], _, [], [], [55]⟩, ⟨[.op 0 0, .op 2 0, .op 3 0], _, [], List.range 4, [56]⟩, ⟨[.op 4 0], _, [], List.range 5, [51]⟩, ⟨[.op 5 0], _, [], List.range 6, [57]⟩, ⟨[.op 5 0], _, [], List.range 6, [58]⟩, ⟨[], [(11, (pBox Zw 11 (default : Zm)))], [12], [], [11]⟩, ⟨[.op 6 0, .op 8 0], _, [12], [0, 1, 2, 3, 4, 5, 6, 8], [11]⟩, ⟨[.op 7 0], _, [], List.range 10, [12]⟩]) (F := [.old 0, .old 2, .old 3, .old 5, .op 9 0, .op 10 0]) (hst.pick [0, 1, 2, 3, 4, 5] rfl) hb Zb
       (o_p rfl (Zb6 Zbl rfl rfl u_0) <| o_p rfl (Ze Zl9 rfl rfl u_0) <| o_p rfl (Zf ty_9 rfl rfl u_0) <| o_p rfl (Zf Zbg rfl rfl u_0) <| o_p rfl (Zq Z2m (Zlz _ _ _ h12) rfl rfl (.cons u_0 (.cons u_1 (.cons u_2 .nil)))) <| o_p rfl (Za rfl rfl u_0) <| o_p rfl (Z5 rfl rfl u_0 rfl) <| o_p rfl (Z5 rfl rfl u_0 rfl) <| o_p rfl (Zbc (zs := [.pointer none, .int .i64 0]) (by kernel_rfl) (fun g => Zct g) rfl rfl) <| o_p rfl (Zb0 Zbl rfl rfl u_1 u_0) <| o_p rfl (Zc rfl rfl u_0) <| o_n) (by kernel_rfl) (fun a g hst hb => ?_)
     refine wp_seq ?_
     refine r_s (T := [⟨[.old 5], _, [], [], [59]⟩, ⟨[.op 0 0], _, [], [0], [60]⟩]) (F := [.old 0, .old 1, .old 2, .old 3, .old 4, .old 5, .op 1 0]) hst hb Zb
       (o_p rfl (Za rfl rfl u_0) <| o_p rfl (Zfr rfl rfl u_0 c_i) <| o_n) (by kernel_rfl) (fun a g hst hb => ?_)
     refine wp_cond_split (hst.bool 6 rfl) (fun hc13 => ?_) (fun hc13 => ?_)
     · replace H0 := Z1 hc13 H0
       refine r_s (L := [(2, _), (4, _), (5, _), (12, _)]) (T := [⟨[.old 0], _, [], [], [61]⟩, ⟨[.old 3], _, [], [], [62]⟩, ⟨[.op 1 0], _, [], [1], [63]⟩, ⟨[.op 0 0, .old 1], _, [5], [0], [4]⟩, ⟨[.op 2 0, .old 2], _, [6], List.range 4, [5]⟩]) (F := [.op 3 0, .op 4 0]) (hst.pick [0, 1, 2, 5] rfl) hb Zb
         (o_p rfl (Zb6 Zbl rfl rfl u_0) <| o_p rfl (Za rfl rfl u_0) <| o_p rfl (Zta rfl rfl u_0) <| o_p rfl (Z6 Zbl rfl rfl u_1 u_0) <| o_p rfl (Z6 Zca rfl rfl u_1 u_0) <| o_n) (by kernel_rfl) (fun a g hst hb => ?_)
       refine wp_ret ?_
       refine Zs ?_
       obtain rfl := Option.some.inj H0
       obtain ⟨u0, hu0, hq0⟩ := Zbf (P := Tryd.prog) Zbl (hst.at 0 rfl)
       obtain ⟨u1, hu1, hq1⟩ := Zbf (P := Tryd.prog) Zca (hst.at 1 rfl)
       exact Zem rfl hst hb hu0 hu1 (Zdf hq0 hq1)
     · replace H0 := Z0 hc13 H0
       refine wp_skip ?_
       refine Zt ?_
       refine r_s (L := [(4, _), (5, _), (10, _), (11, _)]) (T := [⟨[.old 3], _, [], [], [64]⟩, ⟨[.old 2], _, [], [], [65]⟩, ⟨[.op 0 0, .old 0], _, [5], [0], [4]⟩, ⟨[.op 1 0, .old 1], _, [6], [0, 1, 2], [5]⟩]) (F := [.op 2 0, .op 3 0]) (hst.pick [1, 2, 3, 4] rfl) hb Zb
         (o_p rfl (Zf Zbl rfl rfl u_0) <| o_p rfl (Zf Zca rfl rfl u_0) <| o_p rfl (Z6 Zbl rfl rfl u_1 u_0) <| o_p rfl (Z6 Zca rfl rfl u_1 u_0) <| o_n) (by kernel_rfl) (fun a g hst hb => ?_)
       refine wp_ret ?_
       obtain rfl := Option.some.inj H0
       obtain ⟨u0, hu0, hq0⟩ := Zbf (P := Tryd.prog) Zbl (hst.at 0 rfl)
       obtain ⟨u1, hu1, hq1⟩ := Zbf (P := Tryd.prog) Zca (hst.at 1 rfl)
       exact Zem rfl hst hb hu0 hu1 (Zdf hq0 hq1)
end Go.CL
set_option linter.unusedVariables false
set_option linter.unusedSimpArgs false
set_option maxRecDepth 100000
namespace Go.CL
open Go Go.RowKit Go.Proofs
theorem Zuj (a0 : Zbu) {r : Int × Int} (h : Zkq a0 = some r) : FnOk Tryd.prog 22 [(Zci.pd a0)] (pTup [(pInt .i64 r.1), (pInt .i64 r.2)]) := by
 have H0 := h
 unfold Zkq at H0
 clear h
 refine Zbr (N := 33) Tryd.func22 rfl rfl (Nat.le_of_ble_eq_true rfl) rfl rfl (fun a g0 hst hb => ?_)
 refine r_s (T := [⟨[.old 0], _, [], [], [1]⟩, ⟨[], _, [], [], [2]⟩, ⟨[], _, [], [1], [3]⟩]) (F := [.op 0 0]) hst hb Zb
   (o_p rfl (Zbj rfl rfl u_0) <| o_p rfl (Zc rfl rfl c_i) <| o_p rfl (Zc rfl rfl c_i) <| o_n) (by kernel_rfl) (fun a g hst hb => ?_)
 refine wp_seq ?_
 refine r_s (T := [⟨[.old 0], _, [], [], [7]⟩, ⟨[.op 0 0], _, [], [0], [8]⟩, ⟨[.op 1 0], _, [], [0, 1], [9]⟩, ⟨[.op 2 0], _, [], [0, 1, 2], [10]⟩, ⟨[.op 3 0], _, [], List.range 4, [11]⟩, ⟨[.op 4 0, .old 0], _, [], List.range 5, [12]⟩, ⟨[.op 4 0, .op 5 0], _, [], List.range 6, [13]⟩, ⟨[.op 4 0, .op 6 0], _, [], List.range 7, [14]⟩, ⟨[.op 4 0, .op 7 0], _, [], List.range 8, [15]⟩, ⟨[.op 4 0, .op 8 0], _, [], List.range 9, [16]⟩]) (F := [.old 0, .op 9 0]) hst hb Zb
   (o_p rfl (Ze Zmb rfl rfl u_0) <| o_p rfl (Zf Zpz rfl rfl u_0) <| o_p rfl (Zb7 Tryd.underlying32 rfl rfl u_0) <| o_p rfl (Zbv rfl rfl u_0 c_i) <| o_p rfl (Za rfl rfl u_0) <| o_g (g_f rfl rfl rfl (fun hG => Ze Zmb rfl rfl u_0)) <| o_g (g_f rfl rfl rfl (fun hG => Zf Zpz rfl rfl (Opd.gd hG u_0))) <| o_g (g_f rfl rfl rfl (fun hG => Zb7 Tryd.underlying32 rfl rfl (Opd.gd hG u_0))) <| o_g (g_f rfl rfl rfl (fun hG => Zcj rfl rfl (Opd.gd hG u_0) c_i)) <| o_p rfl (Zby rfl rfl u_0 (fun hz => (Opd.gd (bNF hz) u_1))) <| o_n) (by kernel_rfl) (fun a g hst hb => ?_)
 refine wp_cond_split (hst.bool 1 rfl) (fun hc1 => ?_) (fun hc1 => ?_)
 · replace H0 := Z1 hc1 H0
   refine r_s (L := []) (T := [⟨[], _, [], [], [2]⟩, ⟨[], _, [], [0], [3]⟩]) (F := [.op 0 0, .op 1 0]) (hst.pick [] rfl) hb Zb
     (o_p rfl (Zc rfl rfl c_i) <| o_p rfl (Zc rfl rfl c_i) <| o_n) (by kernel_rfl) (fun a g hst hb => ?_)
   refine wp_ret ?_
   refine Zs ?_
   obtain rfl := Option.some.inj H0
   exact Zem rfl hst hb (Zk (s := 2)) (Zk (s := 3)) (Zdf (hst.at 0 rfl) (hst.at 1 rfl))
 · replace H0 := Z0 hc1 H0
   refine wp_skip ?_
   refine Zt ?_
   refine wp_seq ?_
   refine r_s (L := [(1, _)]) (T := [⟨[.old 0], _, [], [], [17]⟩, ⟨[.op 0 0], _, [], [0], [18]⟩, ⟨[.op 1 0], _, [], [0, 1], [19]⟩, ⟨[], _, [], [], [20]⟩]) (F := [.op 1 0, .op 2 0, .op 3 0]) (hst.pick [0] rfl) hb Zb
     (o_p rfl (Ze Zmb rfl rfl u_0) <| o_p rfl (Zf Zpz rfl rfl u_0) <| o_p rfl (Zb7 Tryd.underlying32 rfl rfl u_0) <| o_p rfl (Za rfl rfl c_i) <| o_n) (by kernel_rfl) (fun a g hst hb => ?_)
   obtain ⟨z9, hz1, H0⟩ := Zh H0
   refine Zc6 (fun a w => ∃ (g : G), w = g.w ∧ St 33 [] a g ∧ Base g0 g ∧ (.inr ()) = z9) ?_ ?_
   · rintro a w ⟨g, rfl, hst, hb, rfl⟩
     refine Zt ?_
     refine r_s (T := [⟨[], _, [], [], [2]⟩, ⟨[], _, [], [0], [3]⟩]) (F := [.op 0 0, .op 1 0]) hst hb Zb
       (o_p rfl (Zc rfl rfl c_i) <| o_p rfl (Zc rfl rfl c_i) <| o_n) (by kernel_rfl) (fun a g hst hb => ?_)
     refine wp_ret ?_
     obtain rfl := Option.some.inj H0
     exact Zem rfl hst hb (Zk (s := 2)) (Zk (s := 3)) (Zdf (hst.at 0 rfl) (hst.at 1 rfl))
   · refine wp_block ?_
     refine wp_loop_ghost (fun n a w => ∃ (x2 : Int) (g : G), w = g.w ∧ St 33 [(18, (Z8.sl.pd a0.Acts)), (19, (pInt .i64 (a0.Acts.length : Int))), (20, (pInt .i64 x2))] a g ∧ Base g0 g ∧ Zfo a0 n x2 = some z9) (Int.toNat ((a0.Acts.length : Int) - (0 : Int)) + 1) ⟨(0 : Int), g, rfl, (hst.pick [0, 1, 2] rfl), hb, hz1⟩ (fun n a w hI => ?_)
     obtain ⟨x2, g, rfl, hst, hb, H1⟩ := hI
     cases n with
     | zero => exact absurd H1 (by simp [Zfo])
     | succ n =>
       rw [Zfo] at H1
       refine r_s (T := [⟨[.old 2, .old 1], _, [], [], [21]⟩]) (F := [.old 0, .old 1, .old 2, .op 0 0]) hst hb Zb
         (o_p rfl (Zcy rfl rfl u_0 u_1) <| o_n) (by kernel_rfl) (fun a g hst hb => ?_)
       refine wp_seq ?_
       refine wp_cond_split (hst.bool 3 rfl) (fun hc3 => ?_) (fun hc3 => ?_)
       · replace H1 := Z1 hc3 H1
         refine wp_skip ?_
         refine Zt ?_
         refine wp_seq ?_
         refine wp_block ?_
         obtain ⟨e4, h5, H1⟩ := Zh H1
         refine r_s (L := [(18, _), (19, _), (20, _)]) (T := [⟨[.old 2], _, [], [], [22]⟩, ⟨[.old 0, .old 2], _, [], [], [23]⟩, ⟨[.op 1 0], _, [], [1], [24]⟩, ⟨[], [(5, (pBox Z8 5 (default : Zv)))], [6], [], [5]⟩, ⟨[.op 0 0], _, [], List.range 4, [4]⟩, ⟨[.op 2 0, .op 3 0], _, [6], List.range 5, [5]⟩]) (F := [.op 4 0, .op 5 0, .old 0, .old 1, .old 2]) (hst.pick [0, 1, 2] rfl) hb Zb
           (o_p rfl (Za rfl rfl u_0) <| o_p rfl (Zbx Tryd.underlying32 Zy1 rfl rfl u_0 u_1 h5) <| o_p rfl (Zf Zfs rfl rfl u_0) <| o_p rfl (Zbc (zs := [.int .i64 0, .string ByteArray.empty, .int .i64 0, .float .f64 0, .string ByteArray.empty, .int .i64 0, .int .i64 0, .int .i64 0, .int .i64 0, .float .f64 0, .int .i64 0, .string ByteArray.empty, .slice none 0 0, .bool false]) (by kernel_rfl) (fun g => Zk0 g) rfl rfl) <| o_p rfl (Zc rfl rfl u_0) <| o_p rfl (Zb0 Zfs rfl rfl u_1 u_0) <| o_n) (by kernel_rfl) (fun a g hst hb => ?_)
         obtain ⟨r6, h7, H1⟩ := Zh H1
         refine r_s (T := [⟨[.old 1], _, [], [], [25]⟩, ⟨[.op 0 0], _, [], [0], [26]⟩, ⟨[.op 1 0], _, [], [0, 1], [6]⟩]) (F := [.old 0, .op 2 0, .old 2, .old 3, .old 4]) hst hb Zb
           (o_p rfl (Zf Zfs rfl rfl u_0) <| o_p rfl (Zq Z2g (Zo5 _ h7) rfl rfl (.cons u_0 .nil)) <| o_p rfl (Zc rfl rfl u_0) <| o_n) (by kernel_rfl) (fun a g hst hb => ?_)
         refine r_s (T := [⟨[.old 1], _, [], [], [27]⟩, ⟨[.op 0 0], _, [], [0], [28]⟩]) (F := [.old 0, .old 1, .old 2, .old 3, .old 4, .op 1 0]) hst hb Zb
           (o_p rfl (Za rfl rfl u_0) <| o_p rfl (Zfr rfl rfl u_0 c_i) <| o_n) (by kernel_rfl) (fun a g hst hb => ?_)
         refine wp_cond_split (hst.bool 5 rfl) (fun hc8 => ?_) (fun hc8 => ?_)
         · replace H1 := Z1 hc8 H1
           refine r_s (L := [(4, _), (6, _)]) (T := [⟨[.old 1], _, [], [], [29]⟩, ⟨[.old 0], _, [], [], [30]⟩, ⟨[.op 1 0], _, [], [1], [31]⟩, ⟨[.op 0 0], _, [], [0], [2]⟩, ⟨[.op 2 0], _, [], List.range 4, [3]⟩]) (F := [.op 3 0, .op 4 0]) (hst.pick [0, 1] rfl) hb Zb
             (o_p rfl (Za rfl rfl u_0) <| o_p rfl (Za rfl rfl u_0) <| o_p rfl (Zcb rfl rfl u_0 c_i rfl) <| o_p rfl (Zc rfl rfl u_0) <| o_p rfl (Zc rfl rfl u_0) <| o_n) (by kernel_rfl) (fun a g hst hb => ?_)
           refine wp_ret ?_
           refine Zy ?_
           refine Zs ?_
           refine Zs ?_
           refine Zy ?_
           refine Zs ?_
           refine Zs ?_
           obtain rfl := Option.some.inj H1
           obtain rfl := Option.some.inj H0
           exact Zem rfl hst hb (Zk (s := 2)) (Zk (s := 3)) (Zdf (hst.at 0 rfl) (hst.at 1 rfl))
         · replace H1 := Z0 hc8 H1
           refine wp_skip ?_
           refine Zbt ?_
           refine Zt ?_
           refine r_g (L := [(18, _), (19, _), (20, _)]) (T := [⟨[.old 2], _, [], [], [32]⟩, ⟨[.op 0 0], _, [], [0], [20]⟩]) (F := [.old 0, .old 1, .op 1 0]) (hst.pick [2, 3, 4] rfl) hb Zb
             (o_p rfl (Zcb rfl rfl u_0 c_i rfl) <| o_p rfl (Za rfl rfl u_0) <| o_n) (by kernel_rfl) (fun a g hst hb => ?_)
           exact ⟨n, Nat.lt_succ_self _, (IntKind.i64.wrap (x2 + (1 : Int))), g, rfl, (hst.pick [0, 1, 2] rfl), hb, H1⟩
       · replace H1 := Z0 hc3 H1
         refine wp_exit ?_
         refine Zcc ?_
         refine Zcc ?_
         refine Zda ?_
         exact ⟨g, rfl, (hst.pick [] rfl), hb, Option.some.inj H1⟩
end Go.CL
set_option linter.unusedVariables false
set_option linter.unusedSimpArgs false
namespace Go.CL
open Go Go.RowKit
section
variable {P : Program} {N : Nat} {o : Oper} {uses outs : Z9} {S : List Nat} {d : Nat} {q : Pd} {x y z : Operand} {Q : Exit → Act → World → Prop} {a : Act} {w : World} {K : Act → World → Prop} {D : List Deferred} {g0 : G} {ops : Array Oper} {L : Z9} {T : List Spec} {F : List Ref} {os : List Oper} {X : Spec} {Xs : List Spec}
theorem Znl {ch : List PanicEntry} (h : Q (.panic ch) a w) : Exit.then K Q (.panic ch) a w := h
theorem Zt2 {id : Nat} {ch : List PanicEntry} (h : Q (.panic ch) a w) : Exit.inBlock id Q (.panic ch) a w := h
theorem r_gQ {id : Nat} {draw : Bool} {a : Act} {g : G} {Q : Exit → Act → World → Prop} (h : StD D N L a g) (hb : Base g0 g) (hm : P.follows .mixedOrders = true) (hT : Zid P ops N L T D g0 Q ops.toList T) (hc : chk N ops L T F = true)
   (hQ : ∀ a g, StD D N (F.map (Zhv L T)) a g → Base g0 g → Q .normal a g.w) : (Code.region id ops draw).wp P Q a g.w := Zw8 hm hc hT h hb hQ
theorem q_p (hg : o.guard = none) (h : OB P N o (X.refs.map (Zhv L T)) X.outs X.S) (hs : Zid P ops N L T D g0 Q os Xs) : Zid P ops N L T D g0 Q (o :: os) (X :: Xs) := ⟨(OT.plain hg h).q, hs⟩
theorem q_q (h : OTQ P ops N o (X.refs.map (Zhv L T)) X.outs X.S D g0 Q) (hs : Zid P ops N L T D g0 Q os Xs) : Zid P ops N L T D g0 Q (o :: os) (X :: Xs) := ⟨h, hs⟩
theorem q_n : Zid P ops N L T D g0 Q [] [] := trivial
def pNo : Pd := ⟨fun _ _ => False, [], fun _ _ h => h⟩
theorem Zr7 (hx : Opd uses x pNo) : OB P N o uses outs S := fun a g K Q hN hdN hu hK => (hx a g hu).elim
def Zj1 (t : TypeId) (q : Pd) : Pd := ⟨fun g v => ∃ u, v = .iface t u ∧ q.p g u, q.fp, fun st hd ⟨u, e, h⟩ => ⟨u, e, q.st st hd h⟩⟩
theorem Z13 {t : TypeId} (ht : (P.underlying t).map (fun u => match u with | .interface _ => true | _ => false) = some false) (hop : o.op = .makeInterface t x) (hd : o.dst = some d) (hx : Opd uses x q) : OB P N o uses [(d, Zj1 t q)] [] :=
 Zb5 hd fun a g hh => by
   refine ⟨.iface t (a.eval x), ?_, _, rfl, hx a g hh⟩
   cases hu : P.underlying t with
   | none => rw [hu] at ht; cases ht
   | some u =>
     rw [hu] at ht
     cases u <;> first | (simp at ht; done) | simp [execOp, hop, Instr.makeInterface, run_underlying hu]
theorem Zzp {t : TypeId} (hop : o.op = .panic x) (hg : o.guard = none) (hx : Opd uses x (Zj1 t q)) (hQ : ∀ (a : Act) g v, a.tmps.size = N → a.defers = D → Base g0 g → Zd2 uses a g → (Zj1 t q).p g v → Q (.panic [{ v := v, recovered := false }]) a g.w) : OTQ P ops N o uses outs S D g0 Q := by
 intro a g K hN hD hb hdN hu hK
 have : Region.wanted o (yielded ops a.tmps) = true := by simp [Region.wanted, hg]
 rw [if_pos this]
 obtain ⟨u, hv, hq⟩ := hx a g hu
 have hr : (execOp a.eval o).run P g.w = .halt (.panic (.iface t u)) g.w := by simp [execOp, hop, hv, Instr.panic, goPanic]
 unfold Oper.wp
 rw [hr]
 exact hQ a g _ hN hD hb hu ⟨u, rfl, hq⟩
def Zyr (P : Program) (f : FuncId) (A : List Pd) (q : Pd) : Prop := ∀ (g : G) (args : List Value), ArgsOk A g args → Calls P f args.toArray g.w (fun e w' => ∃ g' v, e = .panicked [{ v := v, recovered := false }] ∧ w' = g'.w ∧ Step [] g g' ∧ q.p g' v)
def Zzk (g0 : G) (q : Pd) : Ending → World → Prop := fun e w' => ∃ g1 v, e = .panicked [{ v := v, recovered := false }] ∧ w' = g1.w ∧ Base g0 g1 ∧ q.p g1 v
theorem Z0r {g g0 : G} {A : List Pd} {args : List Value} {n : Nat} (hle : g.le g0) (hw : g0.w = g.w) (hargs : ArgsOk A g args) (hA : A.all (fun q => q.fp.isEmpty) = true) (hAN : A.length ≤ N) (hn : n = N) : St N (Zj6 A 0) { tmps := args.toArray ++ Array.replicate (n - args.toArray.size) undef, defers := [] } g0 := by
 refine ⟨?_, rfl, ?_⟩
 · have := hargs.1
   simp [hn]; omega
 · intro e he
   obtain ⟨i, h1, h2⟩ := Zmx he
   have hi : i < args.length := by rw [hargs.1]; exact (List.getElem?_eq_some_iff.1 h2).1
   have hfp : e.2.fp = [] := by
     have := List.all_eq_true.1 hA e.2 (List.mem_of_getElem? h2)
     simpa using this
   have hv : Act.at { tmps := args.toArray ++ Array.replicate (n - args.toArray.size) undef, defers := [] } e.1 = args[i] := by
     rw [h1, Nat.zero_add]
     simp only [Act.at, Array.getD_eq_getD_getElem?]
     rw [Array.getElem?_append, if_pos (by simpa using hi)]
     simp [hi]
   rw [hv]
   exact Pd.le hfp hle (by rw [hw]) (by rw [hw]) (by rw [hw]) (hargs.2 i e.2 _ h2 (List.getElem?_eq_getElem hi))
def G.bare (g : G) : G := ⟨g.w, g.pr, fun _ => 0, g.hpr, g.gl⟩
theorem Znu (g : G) : g.le g.bare := ⟨Nat.le_refl _, fun _ _ h => h, fun _ _ _ => rfl, fun _ _ => rfl⟩
theorem Zpp (g : G) : Base g.bare g.bare := ⟨.refl _, rfl, rfl, rfl, fun _ _ _ => ⟨rfl, rfl, rfl⟩⟩
theorem Zo3 {g g1 : G} (hB : Base g.bare g1) : ∃ g2 : G, g2.w = g1.w ∧ Step [] g g2 ∧ g1.le g2 :=
 ⟨⟨g1.w, g1.pr, fun b => if b < g.w.heap.size then g.own b else 0, g1.hpr, g1.gl⟩, rfl, ⟨⟨hB.le.size, hB.le.pr, hB.le.cell, hB.le.blk⟩, hB.os, hB.tape, hB.output, fun b hb _ => ⟨(hB.same b hb rfl).1, (hB.same b hb rfl).2.1, if_pos hb⟩, fun b hb _ => .inl (if_neg (by omega)), fun _ _ h => by cases h⟩, ⟨Nat.le_refl _, fun _ _ h => h, fun _ _ _ => rfl, fun _ _ => rfl⟩⟩
theorem Z1j {f : FuncId} {fn : Func} {c : Code} {A : List Pd} (hf : P.funcs[f]? = some fn) (hb : fn.body = some c) (hn : fn.ntmps = N) (hAN : A.length ≤ N) (hA : A.all (fun q => q.fp.isEmpty) = true) (hq : q.fp = [])
   (h : ∀ (a : Act) (g : G), St N (Zj6 A 0) a g → Base g g → c.wp P (bodyPost P fn (Zzk g q)) a g.w) : Zyr P f A q := by
 intro g args hargs
 refine Calls.mono (calls_of_wp hf hb (h _ g.bare (Z0r (Znu g) rfl hargs hA hAN hn) (Zpp g))) ?_
 rintro e w' ⟨g1, v, rfl, rfl, hB, hv⟩
 obtain ⟨g2, e2, hS, hle⟩ := Zo3 hB
 exact ⟨g2, v, rfl, e2.symm, hS, Pd.le hq hle (by rw [e2]) (by rw [e2]) (by rw [e2]) hv⟩
theorem Z40 {fn : Func} {a : Act} {g : G} {v : Value} (hd : a.defers = []) (hb : Base g0 g) (hq : q.p g v) : bodyPost P fn (Zzk g0 q) (.panic [{ v := v, recovered := false }]) a g.w := ⟨hd, g, v, rfl, rfl, hb, hq⟩
theorem Zwz {f : FuncId} {xs : List Operand} {A : List Pd} {ty : Array TypeId} (he : Zo P f) (hok : Zyr P f A q) (hop : o.op = .call { callee := .value (.func f), args := xs.toArray, argTypes := ty }) (hg : o.guard = none) (hargs : OpdL uses xs A)
   (hQ : ∀ (a : Act) g v, a.tmps.size = N → a.defers = D → Base g0 g → Zd2 uses a g → q.p g v → Q (.panic [{ v := v, recovered := false }]) a g.w) : OTQ P ops N o uses outs S D g0 Q := by
 intro a g K hN hD hb hdN hu hK
 have : Region.wanted o (yielded ops a.tmps) = true := by simp [Region.wanted, hg]
 rw [if_pos this]
 have hr : (execOp a.eval o).run P g.w = .ok (.enter f (xs.map a.eval).toArray) g.w := by
   simp [execOp, hop, resolve, Zp8, Deferred.ofValue, invoke, Zii he]
 unfold Oper.wp
 rw [hr]
 show Calls P f _ g.w _
 refine Calls.mono (hok g _ (hargs.ok hu)) ?_
 rintro e w' ⟨g', v, rfl, rfl, hs, hq⟩
 exact hQ a g' v hN hD (hb.step hs (by simp)) (fun e he => e.2.st hs (fun _ _ h => by cases h) (hu e he)) hq
theorem Z49 {f : FuncId} {fn : Func} {c : Code} {A : List Pd} (hf : P.funcs[f]? = some fn) (hb : fn.body = some c) (hn : fn.ntmps = N) (hAN : A.length ≤ N) (hA : A.all (fun q => q.fp.isEmpty) = true) (hq : q.fp = [])
   (h : ∀ (a : Act) (g : G), (∀ b, g.own b = 0) → St N (Zj6 A 0) a g → Base g g → c.wp P (bodyPostD P fn (Fin g q)) a g.w) : FnOk P f A q := by
 intro g args hargs
 refine Calls.mono (calls_of_wp_defers hf hb (h _ g.bare (fun _ => rfl) (Z0r (Znu g) rfl hargs hA hAN hn) (Zpp g))) ?_
 rintro e w' ⟨g1, v, rfl, rfl, hB, hv⟩
 obtain ⟨g2, e2, hS, hle⟩ := Zo3 hB
 exact ⟨g2, v, rfl, e2.symm, hS, Pd.le hq hle (by rw [e2]) (by rw [e2]) (by rw [e2]) hv⟩
def dfr3 (f : FuncId) (v1 : Value) (b2 b3 : Nat) : List Deferred := [{ target := .fn (.func f) #[v1, .pointer (some ⟨b2, 0, none⟩), .pointer (some ⟨b3, 0, none⟩)], args := #[] }]
theorem Z0a {id f x1 x2 x3 d1 : Nat} {o1 o2 : Oper} {a : Act} {w : World} (h1 : o1.op = .makeFunc (.func f) #[] #[.tmp x1, .tmp x2, .tmp x3]) (hg1 : o1.guard = none) (hd1 : o1.dst = some d1) (h2 : o2.op = .defer { callee := .value (.tmp d1), args := #[], argTypes := #[] }) (hg2 : o2.guard = none) (hd2 : o2.dst = none) (hlt : d1 < a.tmps.size)
   {b2 b3 : Nat} {v1 : Value} (e1 : Act.at a x1 = v1) (e2 : Act.at a x2 = .pointer (some ⟨b2, 0, none⟩)) (e3 : Act.at a x3 = .pointer (some ⟨b3, 0, none⟩)) (hD : a.defers = [])
   (hK : Q .normal { tmps := (a.put (some d1) (.func (.func f) #[] #[v1, .pointer (some ⟨b2, 0, none⟩), .pointer (some ⟨b3, 0, none⟩)])).tmps, defers := dfr3 f v1 b2 b3 } w) : (Code.region id #[o1, o2] false).wp P Q a w := by
 refine wp_region ?_
 have q1 : a.eval (.tmp x1) = v1 := e1
 have q2 : a.eval (.tmp x2) = _ := e2
 have q3 : a.eval (.tmp x3) = _ := e3
 have hr1 : (execOp a.eval o1).run P w = .ok (.value (.func (.func f) #[] #[v1, .pointer (some ⟨b2, 0, none⟩), .pointer (some ⟨b3, 0, none⟩)])) w := by
   simp [execOp, h1, Instr.makeFunc, q1, q2, q3]
 have hev : (a.put (some d1) (.func (.func f) #[] #[v1, .pointer (some ⟨b2, 0, none⟩), .pointer (some ⟨b3, 0, none⟩)])).eval (.tmp d1) = .func (.func f) #[] #[v1, .pointer (some ⟨b2, 0, none⟩), .pointer (some ⟨b3, 0, none⟩)] := Ze1 _ hlt
 have hr2 : (execOp (a.put (some d1) (.func (.func f) #[] #[v1, .pointer (some ⟨b2, 0, none⟩), .pointer (some ⟨b3, 0, none⟩)])).eval o2).run P w = .ok (.defer { target := .fn (.func f) #[v1, .pointer (some ⟨b2, 0, none⟩), .pointer (some ⟨b3, 0, none⟩)], args := #[] }) w := by
   simp [execOp, h2, resolve, hev, Deferred.ofValue]
 have w1 : ∀ m, Region.wanted o1 m = true := fun m => by simp [Region.wanted, hg1]
 have w2 : ∀ m, Region.wanted o2 m = true := fun m => by simp [Region.wanted, hg2]
 show wpOps P #[o1, o2] _ (List.range 2) a w
 simp only [show List.range 2 = [0, 1] from rfl, wpOps, List.getElem?_toArray, List.getElem?_cons_zero, List.getElem?_cons_succ, w1, if_true]
 refine .inl ?_
 unfold Oper.wp
 rw [hr1, Oper.upon_value, hd1]
 simp only [w2, if_true]
 refine .inl ?_
 rw [hr2, Oper.upon_defer, hd2]
 have : ∀ (d : Deferred) (v : Value), ({ (a.put (some d1) v) with defers := d :: (a.put (some d1) v).defers } : Act) = { tmps := (a.put (some d1) v).tmps, defers := [d] } := fun d v => by
   rw [Zsr, hD]
 have h3 := this { target := .fn (.func f) #[v1, .pointer (some ⟨b2, 0, none⟩), .pointer (some ⟨b3, 0, none⟩)], args := #[] } (.func (.func f) #[] #[v1, .pointer (some ⟨b2, 0, none⟩), .pointer (some ⟨b3, 0, none⟩)])
 show Q .normal (Act.put { (a.put (some d1) (.func (.func f) #[] #[v1, .pointer (some ⟨b2, 0, none⟩), .pointer (some ⟨b3, 0, none⟩)])) with defers := _ :: (a.put (some d1) _).defers } none undef) w
 rw [h3]; exact hK
theorem Zx7 {α : Type} {dk : Kd α} {j : Nat} {v : α} {g : G} {u : Value} (h : (pBox dk j v).p g u) : ∃ b, u = .pointer (some ⟨b, 0, none⟩) ∧ (Zbk (some b) dk j v).p g u := by
 obtain ⟨b, cs, t, e, hm, _⟩ := h
 exact ⟨b, e, b, cs, t, e, hm, fun b' hb => Option.some.inj hb⟩
theorem Z29 {α γ σ : Type} {kV : Kd γ} {raw : α → σ → γ} {R : Hp σ} {j : Nat} {x : α} {g : G} {u : Value} (h : (pBxS kV raw R j x).p g u) : ∃ b, u = .pointer (some ⟨b, 0, none⟩) ∧ (Zhg (some b) kV raw R j x).p g u := by
 obtain ⟨s, h1, h2⟩ := h
 obtain ⟨b, e, h3⟩ := Zx7 h1
 exact ⟨b, e, s, h3, h2⟩
theorem Z0b {α : Type} {dk : Kd α} {j b : Nat} {v : α} {g : G} {u : Value} (h : (Zbk (some b) dk j v).p g u) : u = .pointer (some ⟨b, 0, none⟩) := by
 obtain ⟨b', cs, t, e, hm, hb⟩ := h
 rw [e, hb b rfl]
section
variable {α β φ γ σ : Type} {kS : Kd α} {kR : Kd β} {kF : Kd φ} {kV : Kd γ} {raw : β → σ → γ} {R : Hp σ} {f : FuncId} {tf t4 t5 s4 s5 j4 j5 b4 b5 : Nat} {v2 v : Value}
abbrev ptrV (b : Nat) : Value := .pointer (some ⟨b, 0, none⟩)
def Zxx (P : Program) (f : FuncId) : Prop := ∀ (g : G) (v2 : Value) (b4 b5 : Nat), CallsD P f #[v2, ptrV b4, ptrV b5] .returning g.w (fun e u' w' => e = .returned (.tuple #[]) ∧ u' = .returning ∧ ∃ g', w' = g'.w ∧ Step [] g g')
def Zw9 (P : Program) (f : FuncId) (kS : Kd α) (kV : Kd γ) (raw : β → σ → γ) (kR : Kd β) (tf : TypeId) (kF : Kd φ) (mk : φ → β) : Prop := ∀ (g : G) (v2 v : Value) (b4 b5 : Nat) (s z4 : α) (x : β) (r : φ), (kS.ptr s).p g v2 → (Zbk (some b4) kS 0 z4).p g (ptrV b4) → (Zhg (some b5) kV raw hpT 1 x).p g (ptrV b5) → (Zj1 tf (kF.pd r)).p g v →
 CallsD P f #[v2, ptrV b4, ptrV b5] (.panicking [{ v := v, recovered := false }]) g.w (fun e u' w' => e = .returned (.tuple #[]) ∧ u' = .panicking [{ v := v, recovered := true }] ∧ ∃ g', w' = g'.w ∧ Base g g' ∧ (Zbk (some b4) kS 0 s).p g' (ptrV b4) ∧ (Zbk (some b5) kR 1 (mk r)).p g' (ptrV b5))
theorem Z50 {fn : Func} {r1 r2 : ResultVar} {v1 v2 : Value} {a : Act} {g g0 : G} {L : Z9} (hr : fn.results = #[r1, r2]) (h : St N L a g) (hb : Base g0 g) (h1 : Zg4 P a g r1 v1) (h2 : Zg4 P a g r2 v2) (hq : q.p g (.tuple #[v1, v2])) : bodyPostD P fn (Fin g0 q) .ret a g.w := by
 show Leaves P fn a.tmps _ a.defers .returning g.w
 rw [h.df]
 have h1' : (Ze6 a.tmps r1).run P g.w = .ok v1 g.w := h1
 have h2' : (Ze6 a.tmps r2).run P g.w = .ok v2 g.w := h2
 exact ⟨.tuple #[v1, v2], by simp [Zg3, hr, h1', h2'], g, _, rfl, rfl, hb, hq⟩
theorem Zz2 (he : Zo P f) (caps : Array Value) (w : World) : (invoke (.fn (.func f) caps) #[]).run P w = .ok (.enter f caps) w := by
 simp [invoke, Zii he]
theorem Z4c {fn : Func} {a : Act} {g g0 : G} {L : Z9} {c4 c5 : Option Nat} {x : α} {y : β} (hc : Zxx P f) (he : Zo P f) (hr : fn.results = #[.cell s4 t4, .cell s5 t5]) (hT4 : Ty P t4 kS) (hT5 : Ty P t5 kR) (h : StD (dfr3 f v2 b4 b5) N L a g) (hb : Base g0 g)
   (h4 : (Zbk c4 kS j4 x).p g (Act.at a s4)) (h5 : (Zbk c5 kR j5 y).p g (Act.at a s5)) : bodyPostD P fn (Fin g0 (pTup [kS.pd x, kR.pd y])) .ret a g.w := by
 show Leaves P fn a.tmps _ a.defers .returning g.w
 rw [h.df]
 refine leaves_cons (f := f) (args := #[v2, ptrV b4, ptrV b5]) (by simp) (Zz2 he _ _) ?_
 refine (hc g v2 b4 b5).mono ?_
 rintro e u' w' ⟨rfl, rfl, g', rfl, hs⟩
 obtain ⟨u4, r4, q4⟩ := Zbf (P := P) hT4 ((Zbk c4 kS j4 x).st hs (fun _ _ h => by cases h) h4)
 obtain ⟨u5, r5, q5⟩ := Zbf (P := P) hT5 ((Zbk c5 kR j5 y).st hs (fun _ _ h => by cases h) h5)
 have r4' : (Ze6 a.tmps (.cell s4 t4)).run P g'.w = .ok u4 g'.w := r4
 have r5' : (Ze6 a.tmps (.cell s5 t5)).run P g'.w = .ok u5 g'.w := r5
 exact ⟨.tuple #[u4, u5], by simp [Zg3, hr, r4', r5'], g', _, rfl, rfl, hb.step hs (by simp), Zdf q4 q5⟩
theorem Z03 {fn : Func} {a : Act} {g g0 : G} {z4 s : α} {x : β} {r : φ} {mk : φ → β} (hc : Zw9 P f kS kV raw kR tf kF mk) (he : Zo P f) (hr : fn.results = #[.cell s4 t4, .cell s5 t5]) (hT4 : Ty P t4 kS) (hT5 : Ty P t5 kR) (h0 : ∀ b, g0.own b = 0) (hD : a.defers = dfr3 f v2 b4 b5) (hb : Base g0 g) (hj : j4 ≠ j5)
   (hs : (kS.ptr s).p g v2) (h4 : (Zbk (some b4) kS j4 z4).p g (Act.at a s4)) (h5 : (Zhg (some b5) kV raw R j5 x).p g (Act.at a s5)) (hv : (Zj1 tf (kF.pd r)).p g v) : bodyPostD P fn (Fin g0 (pTup [kS.pd s, kR.pd (mk r)])) (.panic [{ v := v, recovered := false }]) a g.w := by
 show Leaves P fn a.tmps _ a.defers (.panicking _) g.w
 rw [hD]
 refine leaves_cons (f := f) (args := #[v2, ptrV b4, ptrV b5]) (by simp) (Zz2 he _ _) ?_
 obtain ⟨bb, cs4, ty4, e4, ⟨m1, m2, m3, m4, m5, m6⟩, hbb⟩ := h4
 obtain rfl := hbb _ rfl
 obtain ⟨sg, ⟨bb', cs5, ty5, e5, ⟨n1, n2, n3, n4, n5, n6⟩, hbb'⟩, _⟩ := h5
 obtain rfl := hbb' _ rfl
 have hne : bb ≠ bb' := fun h => by rw [h, n2] at m2; omega
 let gc : G := ⟨g.w, g.pr, fun c => if c = bb then 1 else if c = bb' then 2 else 0, g.hpr, g.gl⟩
 have hle : g.le gc := ⟨Nat.le_refl _, fun _ _ h => h, fun _ _ _ => rfl, fun _ _ => rfl⟩
 have own : ∀ c, gc.own c = if c = bb then 1 else if c = bb' then 2 else 0 := fun _ => rfl
 have k4 : (Zbk (some bb) kS 0 z4).p gc (ptrV bb) := ⟨bb, cs4, ty4, rfl, ⟨m1, by rw [own, if_pos rfl], fun b' _ ho => by
   rw [own] at ho
   split at ho
   · assumption
   · split at ho <;> omega, m4, kS.mono hle m5, m6⟩, hbb⟩
 have k5 : (Zhg (some bb') kV raw hpT 1 x).p gc (ptrV bb') := ⟨sg, ⟨bb', cs5, ty5, rfl, ⟨n1, by rw [own, if_neg (Ne.symm hne), if_pos rfl], fun b' _ ho => by
   rw [own] at ho
   split at ho
   · omega
   · split at ho
     · assumption
     · omega, n4, kV.mono hle n5, n6⟩, hbb'⟩, trivial⟩
 refine (hc gc v2 v bb bb' s z4 x r (Pd.le (q := kS.ptr s) rfl hle rfl rfl rfl hs) k4 k5 (Pd.le (q := Zj1 tf (kF.pd r)) rfl hle rfl rfl rfl hv)).mono ?_
 rintro e u' w' ⟨rfl, rfl, g', rfl, hB, q4, q5⟩
 have a4 : (Zbk (some bb) kS 0 s).p g' (Act.at a s4) := by rw [e4]; exact q4
 have a5 : (Zbk (some bb') kR 1 (mk r)).p g' (Act.at a s5) := by rw [e5]; exact q5
 obtain ⟨u4, r4, p4⟩ := Zbf (P := P) hT4 a4
 obtain ⟨u5, r5, p5⟩ := Zbf (P := P) hT5 a5
 have r4' : (Ze6 a.tmps (.cell s4 t4)).run P g'.w = .ok u4 g'.w := r4
 have r5' : (Ze6 a.tmps (.cell s5 t5)).run P g'.w = .ok u5 g'.w := r5
 have hle' : g.le g' := hle.trans hB.le
 show ∃ v, (results fn a.tmps).run P g'.w = .ok v g'.w ∧ _
 refine ⟨.tuple #[u4, u5], by simp [Zg3, hr, r4', r5'], g'.bare, _, rfl, rfl, ⟨hb.le.trans (hle'.trans (Znu g')), hB.os.trans hb.os, hB.tape.trans hb.tape, hB.output.trans hb.output, fun c hcl hc0 => ?_⟩, Zdf (Pd.le (q := kS.pd s) rfl (Znu g') rfl rfl rfl p4) (Pd.le (q := kR.pd (mk r)) rfl (Znu g') rfl rfl rfl p5)⟩
 obtain ⟨k1, k2, k3⟩ := hb.same c hcl hc0
 have h1 : c ≠ bb := fun h => by rw [h, m2] at k3; omega
 have h2 : c ≠ bb' := fun h => by rw [h, n2] at k3; omega
 obtain ⟨l1, l2, l3⟩ := hB.same c (Nat.lt_of_lt_of_le hcl hb.le.size) (by rw [own, if_neg h1, if_neg h2])
 exact ⟨l1.trans k1, l2.trans k2, rfl⟩
theorem Zrh {t : TypeId} {ms : _} (w : World) (k : Nat) (hu : P.underlying t = some (.interface ms)) : (Op.equalIn (k + 1) t .nilIface .nilIface).run P w = .ok true w := by simp [Op.equalIn, run_underlying hu]
theorem Zqn {t t2 : TypeId} {u2 : Value} {ms : _} (w : World) (k : Nat) (hu : P.underlying t = some (.interface ms)) : (Op.equalIn (k + 1) t (.iface t2 u2) .nilIface).run P w = .ok false w := by simp [Op.equalIn, run_underlying hu]
theorem Z3k {t ty : TypeId} (ht : (P.underlying t).map (fun u => match u with | .interface _ => true | _ => false) = some true) (hop : o.op = .binOp .eql t x (.const .nilIface) ty) (hd : o.dst = some d) (hx : Opd uses x (pEq .nilIface)) : OB P N o uses [(d, Zbb true)] [] :=
 Zb5 hd fun a g hh => by
   have hv : a.eval x = .nilIface := hx a g hh
   refine ⟨.bool true, ?_, Zee _ g⟩
   cases hu : P.underlying t with
   | none => rw [hu] at ht; cases ht
   | some u =>
     rw [hu] at ht
     cases u <;> try (simp at ht; done)
     have hg : (eqGuard .eql t x (.const .nilIface) .nilIface .nilIface).run P g.w = .ok () g.w := by
       unfold eqGuard
       cases x <;> rfl
     have hb : (binOp .eql t .nilIface .nilIface).run P g.w = .ok (.bool true) g.w := by
       show (do pure (.bool (← Op.equal t .nilIface .nilIface)) : Sem Value).run P g.w = _
       have : (Op.equal t .nilIface .nilIface).run P g.w = .ok true g.w := by
         exact Zrh g.w 9999 hu
       simp only [Sem.run_bind, this, Result.andThen_ok, Sem.run_pure]
     have hc : a.eval (.const .nilIface) = .nilIface := rfl
     simp [execOp, hop, hv, hc, hg, hb]
theorem Z1m {t ty t2 : TypeId} (ht : (P.underlying t).map (fun u => match u with | .interface _ => true | _ => false) = some true) (hop : o.op = .binOp .eql t x (.const .nilIface) ty) (hd : o.dst = some d) (hx : Opd uses x (Zj1 t2 q)) : OB P N o uses [(d, Zbb false)] [] :=
 Zb5 hd fun a g hh => by
   obtain ⟨u2, hv, _⟩ := hx a g hh
   refine ⟨.bool false, ?_, Zee _ g⟩
   cases hu : P.underlying t with
   | none => rw [hu] at ht; cases ht
   | some u =>
     rw [hu] at ht
     cases u <;> try (simp at ht; done)
     have hg : (eqGuard .eql t x (.const .nilIface) (.iface t2 u2) .nilIface).run P g.w = .ok () g.w := by
       unfold eqGuard
       split <;> rfl
     have hb : (binOp .eql t (.iface t2 u2) .nilIface).run P g.w = .ok (.bool false) g.w := by
       show (do pure (.bool (← Op.equal t (.iface t2 u2) .nilIface)) : Sem Value).run P g.w = _
       have : (Op.equal t (.iface t2 u2) .nilIface).run P g.w = .ok false g.w := by
         exact Zqn g.w 9999 hu
       simp only [Sem.run_bind, this, Result.andThen_ok, Sem.run_pure]
     have hc : a.eval (.const .nilIface) = .nilIface := rfl
     simp [execOp, hop, hv, hc, hg, hb]
theorem Zzq {t t2 : TypeId} (ht : (P.underlying t2).map (fun u => match u with | .interface _ => true | _ => false) = some false) (hop : o.op = .typeAssert x t t2 true) (hd : o.dst = some d) (hx : Opd uses x (Zj1 t2 q)) : OB P N o uses [(d, pTup [q, Zbb true])] [] :=
 Zb5 hd fun a g hh => by
   obtain ⟨u2, hv, hq⟩ := hx a g hh
   refine ⟨.tuple #[u2, .bool true], ?_, Zdf hq (Zee _ g)⟩
   cases hu : P.underlying t2 with
   | none => rw [hu] at ht; cases ht
   | some u =>
     rw [hu] at ht
     cases u <;> first | (simp at ht; done) | simp [execOp, hop, hv, Instr.typeAssert, run_underlying hu]
end
theorem Z07 {c : Code} {a : Act} {w : World} (J : Act → Prop) (hJ : J a) (h : ∀ a, J a → c.wp P Q a w) : c.wp P Q a w := h a hJ
theorem Zuu {a : Act} {n : Nat} {g : G} {v : Value} (e : Act.at a n = v) (h : q.p g v) : q.p g (Act.at a n) := e ▸ h
abbrev dact (a : Act) (d1 : Nat) (v : Value) (D : List Deferred) : Act := { tmps := (a.put (some d1) v).tmps, defers := D }
theorem Zp0 {a : Act} {d1 n : Nat} {v : Value} {D : List Deferred} {g : G} (h : n ≠ d1) (hq : q.p g (Act.at a n)) : q.p g (Act.at (dact a d1 v D) n) := by
 have : Act.at (dact a d1 v D) n = Act.at a n := Zij (a := a) v (fun e => h (Option.some.inj e).symm)
 rw [this]; exact hq
theorem Z11 {a : Act} {g : G} {v u : Value} (h : q.p g u) (e : u = v) : (pAt v q).p g (Act.at a 1000) := e ▸ h
theorem Z70 {k a b : Nat} (h : k = a) (h' : k = b) (hn : a ≠ b) : False := hn (h.symm.trans h')
end
end Go.CL
set_option linter.unusedVariables false
set_option linter.unusedSimpArgs false
set_option maxRecDepth 100000
namespace Go.CL
open Go Go.RowKit Go.Proofs
theorem Zsx : Zxx Tryd.prog 23 := by
 intro g v2 b4 b5
 refine callsD_of_wpS Tryd.func23 rfl fun c₀ cs hu => ?_
 apply wpS_seq
 apply wpS_region
 simp [wpOpsS, go_sem, recoverD, hu, Tryd.ntmps23, Exit.thenS]
 refine wpS_of_wp ?_
 refine Z07 (fun a => St 18 [(6, pEq .nilIface)] a g.bare) ?_ (fun a hst => ?_)
 · exact ⟨by simp, rfl, Ze4 (show Act.at _ _ = _ by simp [Act.at, Array.getD_eq_getD_getElem?, Array.getElem?_append, Array.getElem?_setIfInBounds]) Zm9⟩
 have hb := Zpp g
 refine (show (Code.block _ _).wp Tryd.prog _ a g.bare.w from ?_)
 refine wp_block ?_
 refine r_s (T := [⟨[.old 0], _, [], [], [8]⟩]) (F := [.op 0 0, .old 0]) hst hb Zb
   (o_p rfl (Z3k (by kernel_rfl) rfl rfl u_0) <| o_n) (by kernel_rfl) (fun a g1 hst hb => ?_)
 refine wp_cond_split (hst.bool 0 rfl) (fun _ => ?_) (fun hc => by cases hc)
 refine r_g (L := [(6, _)]) (T := [⟨[.old 0], _, [], [], [3]⟩]) (F := [.old 0]) (hst.pick [1] rfl) hb Zb
   (o_p rfl (Zc rfl rfl u_0) <| o_n) (by kernel_rfl) (fun a g1 hst hb => ?_)
 refine Zbt ?_
 obtain ⟨g2, e2, hs, _⟩ := Zo3 hb
 refine ⟨hst.df, .returning, ?_, .tuple #[], by simp [results, Tryd.results23], rfl, rfl, g2, e2.symm, hs⟩
 rw [← hu]
theorem Ztk : Zw9 Tryd.prog 23 Zw Zc1 Zdr Zcd 75 Zeo (fun r => ({ Code := r.code, At := r.at_, Answers := ([] : List Zg) } : Z3)) := by
 intro g v2 v b4 b5 s z4 x r hs h4 h5 hv
 refine callsD_of_wpS Tryd.func23 rfl fun c₀ cs hu => ?_
 apply wpS_seq
 apply wpS_region
 simp [wpOpsS, go_sem, recoverD, hu, Tryd.ntmps23, Exit.thenS]
 refine wpS_of_wp ?_
 refine Z07 (fun a => St 18 [(0, Zw.ptr s), (1, Zbk (some b4) Zw 0 z4), (2, Zhg (some b5) Zc1 Zdr hpT 1 x), (6, Zj1 75 (Zeo.pd r))] a g) ?_ (fun a hst => ?_)
 · exact ⟨by simp, rfl, Ze4 (Zuu (v := v2) (by simp [Act.at, Array.getD_eq_getD_getElem?, Array.getElem?_append, Array.getElem?_setIfInBounds]) hs) (Ze4 (Zuu (v := ptrV b4) (by simp [Act.at, Array.getD_eq_getD_getElem?, Array.getElem?_append, Array.getElem?_setIfInBounds]) h4) (Ze4 (Zuu (v := ptrV b5) (by simp [Act.at, Array.getD_eq_getD_getElem?, Array.getElem?_append, Array.getElem?_setIfInBounds]) h5) (Ze4 (Zuu (v := v) (by simp [Act.at, Array.getD_eq_getD_getElem?, Array.getElem?_append, Array.getElem?_setIfInBounds]) hv) Zm9)))⟩
 have hb : Base g g := ⟨.refl _, rfl, rfl, rfl, fun _ _ h => ⟨rfl, rfl, h⟩⟩
 refine (show (Code.block _ _).wp Tryd.prog _ a g.w from ?_)
 refine wp_block ?_
 refine r_s (T := [⟨[.old 3], _, [], [], [8]⟩]) (F := [.old 0, .old 1, .old 2, .old 3, .op 0 0]) hst hb Zb
   (o_p rfl (Z1m (by kernel_rfl) rfl rfl u_0) <| o_n) (by kernel_rfl) (fun a g1 hst hb => ?_)
 refine wp_cond_split (hst.bool 4 rfl) (fun hc => by cases hc) (fun _ => ?_)
 refine r_s (L := [(0, _), (1, _), (2, _), (6, _)]) (T := [⟨[.old 3], _, [], [], [9]⟩, ⟨[.op 0 0], _, [], [0], [10]⟩, ⟨[.op 0 0], _, [], [0], [11]⟩]) (F := [.old 0, .old 1, .old 2, .op 1 0, .op 2 0]) (hst.pick [0, 1, 2, 3] rfl) hb Zb
   (o_p rfl (Zzq (by kernel_rfl) rfl rfl u_0) <| o_p rfl (Z5 rfl rfl u_0 rfl) <| o_p rfl (Z5 rfl rfl u_0 rfl) <| o_n) (by kernel_rfl) (fun a g1 hst hb => ?_)
 refine wp_cond_split (hst.bool 3 rfl) (fun _ => ?_) (fun hc => by cases hc)
 refine r_s (L := [(0, _), (1, _), (2, _), (11, _)]) (T := [⟨[], [(4, (pBox Zeo 90 (default : Zdc)))], [91], [], [4]⟩, ⟨[.op 0 0, .old 3], _, [91], [0], [4]⟩]) (F := [.old 0, .old 1, .old 2, .op 1 0]) (hst.pick [0, 1, 2, 4] rfl) hb Zb
   (o_p rfl (Zbc (zs := [.int .i64 0, .int .i64 0]) (by kernel_rfl) (fun g => Zsk g) rfl rfl) <| o_p rfl (Zb0 Z6b rfl rfl u_0 u_1) <| o_n) (by kernel_rfl) (fun a g1 hst hb => ?_)
 refine r_g (T := [⟨[.old 0], _, [], [], [12]⟩, ⟨[.old 3], _, [], [], [13]⟩, ⟨[.op 1 0], _, [], [1], [14]⟩, ⟨[.old 3], _, [], [], [15]⟩, ⟨[.op 3 0], _, [], [3], [16]⟩, ⟨[.op 2 0, .op 4 0], _, [], [1, 2, 3, 4], [17]⟩, ⟨[.old 1, .op 0 0], _, [1], [0], [1]⟩, ⟨[.old 2, .op 5 0], _, [2], [0, 1, 2, 3, 4, 5, 6], [2]⟩]) (F := [.op 6 0, .op 7 0]) hst hb Zb
   (o_p rfl (Zf Zbl rfl rfl u_0) <| o_p rfl (Ze Z4g rfl rfl u_0) <| o_p rfl (Zf Zk3 rfl rfl u_0) <| o_p rfl (Ze Z3u rfl rfl u_0) <| o_p rfl (Zf ty_3 rfl rfl u_0) <| o_p rfl (Zpc rfl rfl u_0 u_1) <| o_p rfl (Z6 Zbl rfl rfl u_0 u_1) <| o_p rfl (Zn0 (kV := Zc1) (by rfl) Zkv rfl rfl u_0 u_1) <| o_n) (by kernel_rfl) (fun a g1 hst hb => ?_)
 refine Zbt ?_
 have k4 := hst.at 0 rfl
 have k5 := hst.at 1 rfl
 have w4 : Act.at a 1 = ptrV b4 := Z0b k4
 have w5 : Act.at a 2 = ptrV b5 := Z0b k5
 exact ⟨hst.df, .panicking [{ v := v, recovered := true }], rfl, .tuple #[], by simp [results, Tryd.results23], rfl, rfl, g1, rfl, hb, w4 ▸ k4, w5 ▸ k5⟩
end Go.CL
set_option linter.unusedVariables false
set_option linter.unusedSimpArgs false
set_option maxRecDepth 100000
namespace Go.CL
open Go Go.RowKit Go.Proofs
theorem Zu9 (a0 : Zv) (a1 : Zg) (a2 : Int) {r : Zg} (h : Zlx a0 a1 a2 = some r) : FnOk Tryd.prog 24 [(Z8.pd a0), (Zr.pd a1), (pInt .i64 a2)] (Zr.pd r) := by
 have H0 := h
 unfold Zlx at H0
 clear h
 refine Zbr (N := 20) Tryd.func24 rfl rfl (Nat.le_of_ble_eq_true rfl) rfl rfl (fun a g0 hst hb => ?_)
 refine r_s (T := [⟨[.old 0], _, [], [], [3]⟩, ⟨[.old 1], _, [], [], [4]⟩, ⟨[], [(6, (pBox Zr 6 (default : Zg)))], [7], [], [6]⟩]) (F := [.old 2, .op 0 0, .op 1 0, .op 2 0]) hst hb Zb
   (o_p rfl (Zbj rfl rfl u_0) <| o_p rfl (Zbj rfl rfl u_0) <| o_p rfl (Zbc (zs := [.int .i64 0, .int .i64 0, .int .i64 0, .int .i64 0, .int .i64 0, .int .i64 0, .float .f64 0, .int .i64 0, .string ByteArray.empty, .slice none 0 0]) (by kernel_rfl) (fun g => Zd6 g) rfl rfl) <| o_n) (by kernel_rfl) (fun a g hst hb => ?_)
 refine wp_seq ?_
 refine r_s (T := [⟨[.old 1], _, [], [], [7]⟩, ⟨[.op 0 0], _, [], [0], [8]⟩, ⟨[.op 1 0], _, [], [0, 1], [9]⟩, ⟨[.op 2 0, .old 2], _, [], [0, 1, 2], [10]⟩, ⟨[.op 2 0, .op 3 0], _, [], List.range 4, [11]⟩, ⟨[.op 2 0, .op 4 0], _, [], List.range 5, [12]⟩, ⟨[.op 2 0, .op 5 0], _, [], List.range 6, [13]⟩]) (F := [.old 0, .old 2, .old 3, .op 6 0]) hst hb Zb
   (o_p rfl (Ze Zxp rfl rfl u_0) <| o_p rfl (Zf ty_4 rfl rfl u_0) <| o_p rfl (Za rfl rfl u_0) <| o_g (g_t rfl rfl rfl (fun hG => Ze Zli rfl rfl u_0)) <| o_g (g_t rfl rfl rfl (fun hG => Zf Zk3 rfl rfl (Opd.gd hG u_0))) <| o_g (g_t rfl rfl rfl (fun hG => Zfr rfl rfl (Opd.gd hG u_0) c_i)) <| o_p rfl (Zbh rfl rfl u_0 (fun hz => (Opd.gd hz u_1))) <| o_n) (by kernel_rfl) (fun a g hst hb => ?_)
 refine Zc6 (fun a w => ∃ (g : G), w = g.w ∧ St 20 [(4, (Zr.ptr a1)), (6, (pBox Zr 6 (default : Zg)))] a g ∧ Base g0 g ∧ Zmj a1 = some r) ?_ ?_
 · rintro a w ⟨g, rfl, hst, hb, H0⟩
   unfold Zmj at H0
   refine Zt ?_
   refine r_s (T := [⟨[.old 0], _, [], [], [19]⟩, ⟨[.op 0 0, .old 1], _, [7], [0], [6]⟩]) (F := [.op 1 0]) hst hb Zb
     (o_p rfl (Zf Zca rfl rfl u_0) <| o_p rfl (Z6 Zca rfl rfl u_1 u_0) <| o_n) (by kernel_rfl) (fun a g hst hb => ?_)
   refine wp_ret ?_
   obtain rfl := Option.some.inj H0
   obtain ⟨u0, hu0, hq0⟩ := Zbf (P := Tryd.prog) Zca (hst.at 0 rfl)
   exact Z2 rfl hst hb hu0 hq0
 · refine wp_cond_split (hst.bool 3 rfl) (fun hc1 => ?_) (fun hc1 => ?_)
   · replace H0 := Z1 hc1 H0
     cases H0
   · replace H0 := Z0 hc1 H0
     refine wp_skip ?_
     exact ⟨g, rfl, (hst.pick [1, 2] rfl), hb, H0⟩
theorem Zs8 (a0 : Zv) (a1 : Zg) (a2 : Int) {r : Zdc} (h : Zj4 a0 a1 a2 = some r) : Zyr Tryd.prog 24 [(Z8.pd a0), (Zr.pd a1), (pInt .i64 a2)] (Zj1 75 (Zeo.pd r)) := by
 have H0 := h
 unfold Zj4 at H0
 clear h
 refine Z1j (N := 20) Tryd.func24 rfl rfl (Nat.le_of_ble_eq_true rfl) rfl rfl (fun a g0 hst hb => ?_)
 refine r_s (T := [⟨[.old 0], _, [], [], [3]⟩, ⟨[.old 1], _, [], [], [4]⟩, ⟨[], [(6, (pBox Zr 6 (default : Zg)))], [7], [], [6]⟩]) (F := [.old 2, .op 0 0, .op 1 0, .op 2 0]) hst hb Zb
   (o_p rfl (Zbj rfl rfl u_0) <| o_p rfl (Zbj rfl rfl u_0) <| o_p rfl (Zbc (zs := [.int .i64 0, .int .i64 0, .int .i64 0, .int .i64 0, .int .i64 0, .int .i64 0, .float .f64 0, .int .i64 0, .string ByteArray.empty, .slice none 0 0]) (by kernel_rfl) (fun g => Zd6 g) rfl rfl) <| o_n) (by kernel_rfl) (fun a g hst hb => ?_)
 refine wp_seq ?_
 refine r_s (T := [⟨[.old 1], _, [], [], [7]⟩, ⟨[.op 0 0], _, [], [0], [8]⟩, ⟨[.op 1 0], _, [], [0, 1], [9]⟩, ⟨[.op 2 0, .old 2], _, [], [0, 1, 2], [10]⟩, ⟨[.op 2 0, .op 3 0], _, [], List.range 4, [11]⟩, ⟨[.op 2 0, .op 4 0], _, [], List.range 5, [12]⟩, ⟨[.op 2 0, .op 5 0], _, [], List.range 6, [13]⟩]) (F := [.old 0, .old 2, .old 3, .op 6 0]) hst hb Zb
   (o_p rfl (Ze Zxp rfl rfl u_0) <| o_p rfl (Zf ty_4 rfl rfl u_0) <| o_p rfl (Za rfl rfl u_0) <| o_g (g_t rfl rfl rfl (fun hG => Ze Zli rfl rfl u_0)) <| o_g (g_t rfl rfl rfl (fun hG => Zf Zk3 rfl rfl (Opd.gd hG u_0))) <| o_g (g_t rfl rfl rfl (fun hG => Zfr rfl rfl (Opd.gd hG u_0) c_i)) <| o_p rfl (Zbh rfl rfl u_0 (fun hz => (Opd.gd hz u_1))) <| o_n) (by kernel_rfl) (fun a g hst hb => ?_)
 refine Zc6 (fun a w => ∃ (g : G), w = g.w ∧ St 20 [(4, (Zr.ptr a1)), (6, (pBox Zr 6 (default : Zg)))] a g ∧ Base g0 g ∧ Zk9 = some r) ?_ ?_
 · rintro a w ⟨g, rfl, hst, hb, H0⟩
   unfold Zk9 at H0
   refine Zt ?_
   refine r_s (T := [⟨[.old 0], _, [], [], [19]⟩, ⟨[.op 0 0, .old 1], _, [7], [0], [6]⟩]) (F := [.op 1 0]) hst hb Zb
     (o_p rfl (Zf Zca rfl rfl u_0) <| o_p rfl (Z6 Zca rfl rfl u_1 u_0) <| o_n) (by kernel_rfl) (fun a g hst hb => ?_)
   cases H0
 · refine wp_cond_split (hst.bool 3 rfl) (fun hc1 => ?_) (fun hc1 => ?_)
   · replace H0 := Z1 hc1 H0
     obtain rfl := Option.some.inj H0
     refine r_gQ (L := [(2, _), (4, _), (6, _)]) (T := [⟨[.old 1], _, [], [], [14]⟩, ⟨[.op 0 0], _, [], [0], [15]⟩, ⟨[.old 0], _, [], [], [16]⟩, ⟨[.op 1 0, .op 2 0], _, [], [0, 1, 2], [17]⟩, ⟨[.op 3 0], _, [], List.range 4, [18]⟩, ⟨[.op 4 0], [(1001, pNo)], [], List.range 5, [1001]⟩]) (F := [.op 5 0]) (hst.pick [0, 1, 2] rfl) hb Zb
       (q_p rfl (Ze Zli rfl rfl u_0) <| q_p rfl (Zf Zk3 rfl rfl u_0) <| q_p rfl (Za rfl rfl u_0) <| q_p rfl (Z05 rfl rfl u_0 u_1) <| q_p rfl (Z13 (by kernel_rfl) rfl rfl u_0) <| q_q (Zzp rfl rfl u_0 (fun a g v hN hD hb hu hv => by refine Znl ?_; refine Znl ?_; exact Z40 hD hb hv)) <| q_n) (by kernel_rfl) (fun a g hst hb => (hst.at 0 rfl).elim)
   · replace H0 := Z0 hc1 H0
     refine wp_skip ?_
     exact ⟨g, rfl, (hst.pick [1, 2] rfl), hb, H0⟩
end Go.CL
set_option linter.unusedVariables false
set_option linter.unusedSimpArgs false
set_option maxRecDepth 100000
namespace Go.CL
open Go Go.RowKit Go.Proofs
theorem Znh (a0 : Zm) (a1 : Zbu) {r : Zm × Z3} (h : Zke a0 a1 = some r) : FnOk Tryd.prog 8 [(Zw.pd a0), (Zci.pd a1)] (pTup [(Zw.pd r.1), (Zcd.pd r.2)]) := by
 have H0 := h
 unfold Zke at H0
 clear h
 refine Z49 (N := 52) Tryd.func8 rfl rfl (Nat.le_of_ble_eq_true rfl) rfl rfl (fun a g0 h0 hst hb => ?_)
 refine r_s (T := [⟨[.old 0], _, [], [], [2]⟩, ⟨[.old 1], _, [], [], [3]⟩, ⟨[], [(4, (pBox Zw 4 (default : Zm)))], [5], [], [4]⟩, ⟨[], [(5, (Zhg none Zc1 Zdr (hpL (pRow Zr 58 505 ((default : Z3).Answers))) 5 (default : Z3)))], [6], [], [5]⟩]) (F := [.op 0 0, .op 1 0, .op 2 0, .op 3 0]) hst hb Zb
   (o_p rfl (Zbj rfl rfl u_0) <| o_p rfl (Zbj rfl rfl u_0) <| o_p rfl (Zbc (zs := [.pointer none, .int .i64 0]) (by kernel_rfl) (fun g => Zct g) rfl rfl) <| o_p rfl (Z0k (R := hpL (pRow Zr 58 505 ((default : Z3).Answers))) (zs := [.int .i64 0, .int .i64 0, .slice none 0 0]) (none, 0, 0) (by kernel_rfl) Zsm (fun g => Zwc 505 g) rfl rfl) <| o_n) (by kernel_rfl) (fun a g hst hb => ?_)
 refine wp_seq ?_
 obtain ⟨r1, h2, H0⟩ := Zh H0
 refine r_s (T := [⟨[.old 1], _, [], [], [13]⟩, ⟨[.op 0 0], _, [], [0], [14]⟩, ⟨[.op 1 0], _, [], [0, 1], [12]⟩, ⟨[.op 2 0], _, [], [0, 1, 2], [15]⟩, ⟨[.op 2 0], _, [], [0, 1, 2], [16]⟩, ⟨[.op 3 0], _, [], List.range 4, [6]⟩, ⟨[.op 4 0], _, [], List.range 6, [7]⟩]) (F := [.old 0, .old 1, .old 2, .old 3, .op 5 0, .op 6 0]) hst hb Zb
   (o_p rfl (Zf Zln rfl rfl u_0) <| o_p rfl (Zq Z6g (Zuj _ h2) rfl rfl (.cons u_0 .nil)) <| o_p rfl (Za rfl rfl u_0) <| o_p rfl (Z5 rfl rfl u_0 rfl) <| o_p rfl (Z5 rfl rfl u_0 rfl) <| o_p rfl (Zc rfl rfl u_0) <| o_p rfl (Zc rfl rfl u_0) <| o_n) (by kernel_rfl) (fun a g hst hb => ?_)
 refine r_s (T := [⟨[.old 4], _, [], [], [17]⟩, ⟨[.op 0 0], _, [], [0], [18]⟩]) (F := [.old 0, .old 1, .old 2, .old 3, .old 4, .old 5, .op 1 0]) hst hb Zb
   (o_p rfl (Za rfl rfl u_0) <| o_p rfl (Zfr rfl rfl u_0 c_i) <| o_n) (by kernel_rfl) (fun a g hst hb => ?_)
 refine wp_cond_split (hst.bool 6 rfl) (fun hc3 => ?_) (fun hc3 => ?_)
 · replace H0 := Z1 hc3 H0
   refine r_s (L := [(2, _), (4, _), (5, _), (6, _), (7, _)]) (T := [⟨[.old 0], _, [], [], [19]⟩, ⟨[.old 3], _, [], [], [20]⟩, ⟨[.old 4], _, [], [], [21]⟩, ⟨[.op 1 0, .op 2 0], _, [], [1, 2], [22]⟩, ⟨[.op 0 0, .old 1], _, [5], [0], [4]⟩, ⟨[.op 3 0, .old 2], _, [6], List.range 5, [5]⟩]) (F := [.old 0, .op 4 0, .op 5 0]) (hst.pick [0, 2, 3, 4, 5] rfl) hb Zb
     (o_p rfl (Zf Zbl rfl rfl u_0) <| o_p rfl (Za rfl rfl u_0) <| o_p rfl (Za rfl rfl u_0) <| o_p rfl (Zpc rfl rfl u_0 u_1) <| o_p rfl (Z6 Zbl rfl rfl u_1 u_0) <| o_p rfl (Zn0 (kV := Zc1) (by rfl) Zkv rfl rfl u_1 u_0) <| o_n) (by kernel_rfl) (fun a g hst hb => ?_)
   refine wp_ret ?_
   refine Zs ?_
   obtain rfl := Option.some.inj H0
   obtain ⟨u0, hu0, hq0⟩ := Zbf (P := Tryd.prog) Zbl (hst.at 1 rfl)
   obtain ⟨u1, hu1, hq1⟩ := Zbf (P := Tryd.prog) Zkv (hst.at 2 rfl)
   exact Z50 rfl hst hb hu0 hu1 (Zdf hq0 hq1)
 · replace H0 := Z0 hc3 H0
   refine wp_skip ?_
   refine Zt ?_
   obtain ⟨b4, e4, q4⟩ := Zx7 (hst.at 2 rfl)
   obtain ⟨b5, e5, q5⟩ := Z29 (hst.at 3 rfl)
   refine wp_seq ?_
   have q2 := (hst.at 0 rfl)
   obtain ⟨v2, hv2⟩ : ∃ v2, Act.at a 2 = v2 := ⟨_, rfl⟩
   refine Z0a (f := 23) (d1 := 23) (x1 := 2) (x2 := 4) (x3 := 5) ?_ ?_ ?_ ?_ ?_ ?_ ?_ hv2 e4 e5 hst.df ?_
   · rfl
   · rfl
   · rfl
   · rfl
   · rfl
   · rfl
   · rw [hst.size]; decide
   replace hst : StD (dfr3 23 v2 b4 b5) 52 [(2, (Zw.ptr a0)), (3, (Zci.ptr a1)), (4, (Zbk (some b4) Zw 4 (default : Zm))), (5, (Zhg (some b5) Zc1 Zdr (hpL (pRow Zr 58 505 ((default : Z3).Answers))) 5 (default : Z3))), (1000, (pAt v2 (Zw.ptr a0)))] (dact a 23 (.func (.func 23) #[] #[v2, .pointer (some ⟨b4, 0, none⟩), .pointer (some ⟨b5, 0, none⟩)]) (dfr3 23 v2 b4 b5)) g := ⟨(Zv2 ..).trans hst.size, rfl, (Ze4 (Zp0 (by decide) (hst.at 0 rfl)) (Ze4 (Zp0 (by decide) (hst.at 1 rfl)) (Ze4 (Zp0 (by decide) q4) (Ze4 (Zp0 (by decide) q5) (Ze4 (Z11 q2 hv2) Zm9)))))⟩
   refine Zt ?_
   refine r_s (T := [⟨[.old 0], _, [], [], [24]⟩, ⟨[], [(8, (pBox Zw 8 (default : Zm)))], [9], [], [8]⟩, ⟨[.op 0 0, .op 1 0], _, [9], [0, 1], [8]⟩]) (F := [.old 0, .old 1, .old 2, .old 3, .op 2 0, .old 4]) hst hb Zb
     (o_p rfl (Zf Zbl rfl rfl u_0) <| o_p rfl (Zbc (zs := [.pointer none, .int .i64 0]) (by kernel_rfl) (fun g => Zct g) rfl rfl) <| o_p rfl (Z6 Zbl rfl rfl u_1 u_0) <| o_n) (by kernel_rfl) (fun a g hst hb => ?_)
   refine wp_seq ?_
   refine r_s (T := [⟨[.old 1], _, [], [], [25]⟩, ⟨[.op 0 0], _, [], [0], [26]⟩, ⟨[.op 1 0], _, [], [0, 1], [27]⟩, ⟨[], _, [], [], [28]⟩]) (F := [.old 0, .old 2, .old 3, .old 4, .op 1 0, .op 2 0, .op 3 0, .old 5]) hst hb Zb
     (o_p rfl (Ze Zmb rfl rfl u_0) <| o_p rfl (Zf Zpz rfl rfl u_0) <| o_p rfl (Zb7 Tryd.underlying32 rfl rfl u_0) <| o_p rfl (Za rfl rfl c_i) <| o_n) (by kernel_rfl) (fun a g hst hb => ?_)
   obtain ⟨z19, hz1, H0⟩ := Zh H0
   refine Zc6 (fun a w => ∃ (y17 : Z3) (y18 : Zm) (g : G), w = g.w ∧ StD (dfr3 23 v2 b4 b5) 52 [(2, (Zw.ptr a0)), (4, (Zbk (some b4) Zw 4 (default : Zm))), (5, (Zhg (some b5) Zc1 Zdr (hpL (pRow Zr 58 505 y17.Answers)) 5 y17)), (8, (pBox Zw 8 y18)), (1000, (pAt v2 (Zw.ptr a0)))] a g ∧ Base g0 g ∧ (.inr (y17, y18)) = z19) ?_ ?_
   · rintro a w ⟨y17, y18, g, rfl, hst, hb, rfl⟩
     refine Zt ?_
     refine r_s (T := [⟨[.old 3], _, [], [], [50]⟩, ⟨[.old 2], _, [], [], [51]⟩, ⟨[.op 0 0, .old 1], _, [5], [0], [4]⟩, ⟨[.op 1 0, .old 2], _, [6], [0, 1, 2], [5]⟩]) (F := [.old 0, .op 2 0, .op 3 0, .old 4]) hst hb Zb
       (o_p rfl (Zb6 Zbl rfl rfl u_0) <| o_p rfl (Z14 Zru Zkv rfl rfl u_0) <| o_p rfl (Z6 Zbl rfl rfl u_1 u_0) <| o_p rfl (Zn0 (kV := Zc1) (by rfl) Zkv rfl rfl u_1 u_0) <| o_n) (by kernel_rfl) (fun a g hst hb => ?_)
     refine wp_ret ?_
     obtain rfl := Option.some.inj H0
     exact Z4c Zsx Z2r rfl Zbl Zkv hst hb (hst.at 1 rfl) (hst.at 2 rfl)
   · refine wp_block ?_
     refine wp_loop_ghost (fun n a w => ∃ (x4 : Z3) (x5 : Zm) (x6 : Int) (g : G), w = g.w ∧ StD (dfr3 23 v2 b4 b5) 52 [(2, (Zw.ptr a0)), (4, (Zbk (some b4) Zw 4 (default : Zm))), (5, (Zhg (some b5) Zc1 Zdr (hpL (pRow Zr 58 505 x4.Answers)) 5 x4)), (8, (pBox Zw 8 x5)), (26, (Z8.sl.pd a1.Acts)), (27, (pInt .i64 (a1.Acts.length : Int))), (28, (pInt .i64 x6)), (1000, (pAt v2 (Zw.ptr a0)))] a g ∧ Base g0 g ∧ Zf6 a0 a1 n x4 x5 x6 = some z19) (Int.toNat ((a1.Acts.length : Int) - (0 : Int)) + 1) ⟨(default : Z3), a0, (0 : Int), g, rfl, (hst.pick [0, 1, 2, 3, 4, 5, 6, 7] rfl), hb, hz1⟩ (fun n a w hI => ?_)
     obtain ⟨x4, x5, x6, g, rfl, hst, hb, H1⟩ := hI
     cases n with
     | zero => exact absurd H1 (by simp [Zf6])
     | succ n =>
       rw [Zf6] at H1
       refine r_s (T := [⟨[.old 6, .old 5], _, [], [], [29]⟩]) (F := [.old 0, .old 1, .old 2, .old 3, .old 4, .old 5, .old 6, .op 0 0, .old 7]) hst hb Zb
         (o_p rfl (Zcy rfl rfl u_0 u_1) <| o_n) (by kernel_rfl) (fun a g hst hb => ?_)
       refine wp_seq ?_
       refine wp_cond_split (hst.bool 7 rfl) (fun hc7 => ?_) (fun hc7 => ?_)
       · replace H1 := Z1 hc7 H1
         refine wp_skip ?_
         refine Zt ?_
         refine wp_seq ?_
         refine wp_block ?_
         obtain ⟨e8, h9, H1⟩ := Zh H1
         refine r_s (L := [(2, _), (4, _), (5, _), (8, _), (26, _), (27, _), (28, _), (1000, _)]) (T := [⟨[.old 6], _, [], [], [30]⟩, ⟨[.old 4, .old 6], _, [], [], [31]⟩, ⟨[.op 1 0], _, [], [1], [32]⟩, ⟨[], [(10, (pBox Z8 10 (default : Zv)))], [11], [], [10]⟩, ⟨[.op 0 0], _, [], List.range 4, [9]⟩, ⟨[.op 2 0, .op 3 0], _, [11], List.range 5, [10]⟩]) (F := [.old 0, .old 1, .old 2, .old 3, .op 4 0, .op 5 0, .old 4, .old 5, .old 6, .old 7]) (hst.pick [0, 1, 2, 3, 4, 5, 6, 8] rfl) hb Zb
           (o_p rfl (Za rfl rfl u_0) <| o_p rfl (Zbx Tryd.underlying32 Zy1 rfl rfl u_0 u_1 h9) <| o_p rfl (Zf Zfs rfl rfl u_0) <| o_p rfl (Zbc (zs := [.int .i64 0, .string ByteArray.empty, .int .i64 0, .float .f64 0, .string ByteArray.empty, .int .i64 0, .int .i64 0, .int .i64 0, .int .i64 0, .float .f64 0, .int .i64 0, .string ByteArray.empty, .slice none 0 0, .bool false]) (by kernel_rfl) (fun g => Zk0 g) rfl rfl) <| o_p rfl (Zc rfl rfl u_0) <| o_p rfl (Zb0 Zfs rfl rfl u_1 u_0) <| o_n) (by kernel_rfl) (fun a g hst hb => ?_)
         refine r_s (T := [⟨[], [(11, (pBox Zr 11 (default : Zg)))], [12], [], [11]⟩]) (F := [.old 0, .old 1, .old 2, .old 3, .old 4, .old 5, .op 0 0, .old 6, .old 7, .old 8, .old 9]) hst hb Zb
           (o_p rfl (Zbc (zs := [.int .i64 0, .int .i64 0, .int .i64 0, .int .i64 0, .int .i64 0, .int .i64 0, .float .f64 0, .int .i64 0, .string ByteArray.empty, .slice none 0 0]) (by kernel_rfl) (fun g => Zd6 g) rfl rfl) <| o_n) (by kernel_rfl) (fun a g hst hb => ?_)
         obtain ⟨r10, h11, H1⟩ := Zh H1
         refine r_s (T := [⟨[.old 3], _, [], [], [34]⟩, ⟨[.old 5], _, [], [], [35]⟩, ⟨[.op 0 0, .op 1 0], _, [], [0, 1], [36]⟩, ⟨[.op 2 0], _, [], [0, 1, 2], [33]⟩, ⟨[.op 3 0], _, [], List.range 4, [37]⟩, ⟨[.op 3 0], _, [], List.range 4, [38]⟩, ⟨[.op 4 0, .old 3], _, [9], List.range 5, [8]⟩, ⟨[.op 5 0, .old 6], _, [12], List.range 7, [11]⟩]) (F := [.old 0, .old 1, .old 2, .op 6 0, .old 4, .old 5, .op 7 0, .old 7, .old 8, .old 9, .old 10]) hst hb Zb
           (o_p rfl (Zb6 Zbl rfl rfl u_0) <| o_p rfl (Zf Zfs rfl rfl u_0) <| o_p rfl (Zq Z2u (Zqw _ _ h11) rfl rfl (.cons u_0 (.cons u_1 .nil))) <| o_p rfl (Za rfl rfl u_0) <| o_p rfl (Z5 rfl rfl u_0 rfl) <| o_p rfl (Z5 rfl rfl u_0 rfl) <| o_p rfl (Z6 Zbl rfl rfl u_1 u_0) <| o_p rfl (Z6 Zca rfl rfl u_1 u_0) <| o_n) (by kernel_rfl) (fun a g hst hb => ?_)
         rcases Z1r H1 with ⟨p12, h13, H1⟩ | ⟨h13, H1⟩
         · obtain rfl := Option.some.inj H1
           obtain rfl := Option.some.inj H0
           refine r_gQ (L := [(2, _), (4, _), (5, _), (8, _), (9, _), (10, _), (11, _), (26, _), (27, _), (28, _), (1000, _)]) (T := [⟨[.old 2], _, [], [], [39]⟩, ⟨[.op 0 0], _, [], [0], [40]⟩, ⟨[.old 5], _, [], [], [41]⟩, ⟨[.old 6], _, [], [], [42]⟩, ⟨[.old 4], _, [], [], [43]⟩, ⟨[.op 4 0], _, [], [4], [44]⟩, ⟨[.op 2 0, .op 3 0, .op 5 0, .old 1, .old 2, .old 10], [(45, pNo)], [], List.range' 2 4, [45]⟩, ⟨[.op 6 0], [], [], List.range' 2 5, [46]⟩, ⟨[.op 6 0], [], [], List.range 8, [47]⟩, ⟨[.op 6 0], [], [], List.range 9, [48]⟩, ⟨[.op 6 0], [], [], List.range 10, []⟩]) (F := [.op 6 0]) hst hb Zb
             (q_p rfl (Zpf Zrl (off := 2) (q := (pRow Zr 58 505 x4.Answers)) (by kernel_rfl) (pr := id) (fun _ => rfl) (fun _ _ h => h) rfl rfl u_0) <| q_p rfl (Zu8 Zvs rfl rfl u_0) <| q_p rfl (Zf Zfs rfl rfl u_0) <| q_p rfl (Zb6 Zca rfl rfl u_0) <| q_p rfl (Za rfl rfl u_0) <| q_p rfl (Zcb rfl rfl u_0 c_i rfl) <| q_q (Zwz Z2e (Zs8 _ _ _ h13) rfl rfl (.cons u_0 (.cons u_1 (.cons u_2 .nil))) (fun a g v hN hD hb hu hv => by refine Zt2 ?_; refine Znl ?_; refine Znl ?_; refine Zt2 ?_; refine Znl ?_; refine Znl ?_; exact Z03 (r := p12) (s4 := 4) (s5 := 5) Ztk Z2r rfl Zbl Zkv h0 hD hb (by decide) (hu _ (List.mem_of_getElem? (i := 5) rfl)) (hu _ (List.mem_of_getElem? (i := 3) rfl)) (hu _ (List.mem_of_getElem? (i := 4) rfl)) hv)) <| q_p rfl (Zr7 u_0) <| q_p rfl (Zr7 u_0) <| q_p rfl (Zr7 u_0) <| q_p rfl (Zr7 u_0) <| q_n) (by kernel_rfl) (fun a g hst hb => (hst.at 0 rfl).elim)
         · obtain ⟨r14, h15, H1⟩ := Zh H1; obtain ⟨h16, H1⟩ := Zjz H1
           refine r_g (T := [⟨[.old 2], _, [], [], [39]⟩, ⟨[.op 0 0], _, [], [0], [40]⟩, ⟨[.old 5], _, [], [], [41]⟩, ⟨[.old 6], _, [], [], [42]⟩, ⟨[.old 4], _, [], [], [43]⟩, ⟨[.op 4 0], _, [], [4], [44]⟩, ⟨[.op 2 0, .op 3 0, .op 5 0], _, [], List.range' 2 4, [45]⟩, ⟨[.op 6 0], _, [], List.range' 2 5, [46]⟩, ⟨[.op 1 0, .op 7 0, .old 2], _, [506], List.range 8, [5, 39, 40, 47]⟩, ⟨[.op 8 0], _, [], List.range 9, [48]⟩, ⟨[.op 8 1, .op 9 0, .op 8 0], _, [6], List.range 10, [5, 39, 48]⟩]) (F := [.old 0, .old 1, .op 10 0, .old 3, .old 7, .old 8, .old 9, .old 10]) hst hb Zb
             (o_p rfl (Zpf Zrl (off := 2) (q := (pRow Zr 58 505 x4.Answers)) (by kernel_rfl) (pr := id) (fun _ => rfl) (fun _ _ h => h) rfl rfl u_0) <| o_p rfl (Zu8 Zvs rfl rfl u_0) <| o_p rfl (Zf Zfs rfl rfl u_0) <| o_p rfl (Zb6 Zca rfl rfl u_0) <| o_p rfl (Za rfl rfl u_0) <| o_p rfl (Zcb rfl rfl u_0 c_i rfl) <| o_p rfl (Zq Z2e (Zu9 _ _ _ h15) rfl rfl (.cons u_0 (.cons u_1 (.cons u_2 .nil)))) <| o_p rfl (Zj2 Z2h (xs := [.tmp 45]) (.cons u_0 .nil) (by decide) rfl rfl) <| o_p rfl (OB.frameU (Zkh Z2h rfl rfl u_0 u_1 h16) (Opd.imp u_2 (fun _ _ h => Z64 h)) (fun k hk hS => Z70 (List.mem_singleton.1 hk) (List.mem_singleton.1 hS) (by decide)) (fun h => by cases h)) <| o_p rfl (Zpf Zrl (off := 2) (q := pAny) (by kernel_rfl) (pr := id) (fun _ => rfl) (fun _ _ _ => trivial) rfl rfl u_0) <| o_p rfl (Z0p (x' := ({ x4 with Answers := (x4.Answers ++ ([r14] : List Zg)) } : Z3)) (R2 := hpL (pRow Zr 58 505 (({ x4 with Answers := (x4.Answers ++ ([r14] : List Zg)) } : Z3).Answers))) (upd := fun _ s2 => s2) Zvs rfl rfl (fun _ _ h => Z4r h) (fun k hk => by rw [List.mem_singleton.1 hk]; decide) (fun k hk => by cases hk) u_2 (fun a g hh => Z3e (u_1 a g hh)) u_0 (fun _ _ _ _ h => h) (fun g cs s0 s1 ys h k => Zsg h k)) <| o_n) (by kernel_rfl) (fun a g hst hb => ?_)
           refine Zbt ?_
           refine Zt ?_
           refine r_g (T := [⟨[.old 6], _, [], [], [49]⟩, ⟨[.op 0 0], _, [], [0], [28]⟩]) (F := [.old 0, .old 1, .old 2, .old 3, .old 4, .old 5, .op 1 0, .old 7]) hst hb Zb
             (o_p rfl (Zcb rfl rfl u_0 c_i rfl) <| o_p rfl (Za rfl rfl u_0) <| o_n) (by kernel_rfl) (fun a g hst hb => ?_)
           exact ⟨n, Nat.lt_succ_self _, ({ x4 with Answers := (x4.Answers ++ ([r14] : List Zg)) } : Z3), r10.1, (IntKind.i64.wrap (x6 + (1 : Int))), g, rfl, (hst.pick [0, 1, 2, 3, 4, 5, 6, 7] rfl), hb, H1⟩
       · replace H1 := Z0 hc7 H1
         refine wp_exit ?_
         refine Zcc ?_
         refine Zcc ?_
         refine Zda ?_
         exact ⟨x4, x5, g, rfl, (hst.pick [0, 1, 2, 3, 8] rfl), hb, Option.some.inj H1⟩
end Go.CL
set_option linter.unusedVariables false
set_option linter.unusedSimpArgs false
set_option maxRecDepth 100000
namespace Go.CL
open Go Go.RowKit Go.Proofs
theorem Zw6 (a0 : Zm) (a1 : List Zbu) {r : Zm × (List Z3)} (h : Zq5 a0 a1 = some r) : FnOk Tryd.prog 13 [(Zw.pd a0), (Zci.sl.pd a1)] (pTup [(Zw.pd r.1), (Zcd.sl.pd r.2)]) := by
 have H0 := h
 unfold Zq5 at H0
 clear h
 refine Zbr (N := 29) Tryd.func13 rfl rfl (Nat.le_of_ble_eq_true rfl) rfl rfl (fun a g0 hst hb => ?_)
 refine r_s (T := [⟨[.old 0], _, [3], [], [2]⟩, ⟨[], [(4, (pBox Zw 4 (default : Zm)))], [5], [], [4]⟩, ⟨[], [(5, (Zcd.sl.pd ([] : List Z3)))], [], [], [5]⟩]) (F := [.old 1, .op 0 0, .op 1 0]) hst hb Zb
   (o_p rfl (Zp2 rfl rfl u_0) <| o_p rfl (Zbc (zs := [.pointer none, .int .i64 0]) (by kernel_rfl) (fun g => Zct g) rfl rfl) <| o_p rfl (Zc rfl rfl (Opd.c (fun g => Zkc g))) <| o_n) (by kernel_rfl) (fun a g hst hb => ?_)
 refine r_s (T := [⟨[], [(6, (pRow Zcd 38 6 ([] : List Z3)))], [], [], [6]⟩]) (F := [.old 0, .old 1, .old 2, .op 0 0]) hst hb Zb
   (o_p rfl (Zc rfl rfl (Opd.c (fun g => Zwc 6 g))) <| o_n) (by kernel_rfl) (fun a g hst hb => ?_)
 refine wp_seq ?_
 refine r_s (T := [⟨[.old 0], _, [], [], [10]⟩, ⟨[.op 0 0], _, [], [0], [11]⟩, ⟨[], _, [], [], [12]⟩]) (F := [.old 1, .old 2, .old 3, .op 0 0, .op 1 0, .op 2 0]) hst hb Zb
   (o_p rfl (Za rfl rfl u_0) <| o_p rfl (Zb7 Tryd.underlying23 rfl rfl u_0) <| o_p rfl (Za rfl rfl c_i) <| o_n) (by kernel_rfl) (fun a g hst hb => ?_)
 obtain ⟨z12, hz1, H0⟩ := Zh H0
 refine Zc6 (fun a w => ∃ (y10 : Zm) (y11 : List Z3) (g : G), w = g.w ∧ St 29 [(2, (pBox Zw 2 y10)), (4, (pBox Zw 4 (default : Zm))), (6, (pRow Zcd 38 6 y11))] a g ∧ Base g0 g ∧ (y10, y11) = z12) ?_ ?_
 · rintro a w ⟨y10, y11, g, rfl, hst, hb, rfl⟩
   refine Zt ?_
   refine r_s (T := [⟨[.old 0], _, [], [], [27]⟩, ⟨[.old 2], _, [], [], [28]⟩, ⟨[.op 0 0, .old 1], _, [5], [0], [4]⟩, ⟨[.op 1 0], _, [], [0, 1, 2], [5]⟩]) (F := [.op 2 0, .op 3 0]) hst hb Zb
     (o_p rfl (Zb6 Zbl rfl rfl u_0) <| o_p rfl (Za rfl rfl u_0) <| o_p rfl (Z6 Zbl rfl rfl u_1 u_0) <| o_p rfl (Zc rfl rfl u_0) <| o_n) (by kernel_rfl) (fun a g hst hb => ?_)
   refine wp_ret ?_
   obtain rfl := Option.some.inj H0
   obtain ⟨u0, hu0, hq0⟩ := Zbf (P := Tryd.prog) Zbl (hst.at 0 rfl)
   exact Zem rfl hst hb hu0 (Zk (s := 5)) (Zdf hq0 (Zpu (hst.at 1 rfl)))
 · refine wp_block ?_
   refine wp_loop_ghost (fun n a w => ∃ (x1 : Zm) (x2 : List Z3) (x3 : Int) (g : G), w = g.w ∧ St 29 [(2, (pBox Zw 2 x1)), (4, (pBox Zw 4 (default : Zm))), (6, (pRow Zcd 38 6 x2)), (10, (Zci.sl.pd a1)), (11, (pInt .i64 (a1.length : Int))), (12, (pInt .i64 x3))] a g ∧ Base g0 g ∧ Zj3 a1 n x1 x2 x3 = some z12) (Int.toNat ((a1.length : Int) - (0 : Int)) + 1) ⟨a0, ([] : List Z3), (0 : Int), g, rfl, (hst.pick [0, 1, 2, 3, 4, 5] rfl), hb, hz1⟩ (fun n a w hI => ?_)
   obtain ⟨x1, x2, x3, g, rfl, hst, hb, H1⟩ := hI
   cases n with
   | zero => exact absurd H1 (by simp [Zj3])
   | succ n =>
     rw [Zj3] at H1
     refine r_s (T := [⟨[.old 5, .old 4], _, [], [], [13]⟩]) (F := [.old 0, .old 1, .old 2, .old 3, .old 4, .old 5, .op 0 0]) hst hb Zb
       (o_p rfl (Zcy rfl rfl u_0 u_1) <| o_n) (by kernel_rfl) (fun a g hst hb => ?_)
     refine wp_seq ?_
     refine wp_cond_split (hst.bool 6 rfl) (fun hc4 => ?_) (fun hc4 => ?_)
     · replace H1 := Z1 hc4 H1
       refine wp_skip ?_
       refine Zt ?_
       refine wp_seq ?_
       refine wp_block ?_
       obtain ⟨e5, h6, H1⟩ := Zh H1
       refine r_s (L := [(2, _), (4, _), (6, _), (10, _), (11, _), (12, _)]) (T := [⟨[.old 3, .old 5], _, [], [], [14]⟩, ⟨[.op 0 0], _, [], [0], [15]⟩, ⟨[], [(8, (pBox Zci 8 (default : Zbu)))], [9], [], [8]⟩, ⟨[.op 1 0, .op 2 0], _, [9], [0, 1, 2], [8]⟩]) (F := [.old 0, .old 1, .old 2, .op 3 0, .old 3, .old 4, .old 5]) (hst.pick [0, 1, 2, 3, 4, 5] rfl) hb Zb
         (o_p rfl (Zbx Tryd.underlying23 Zye rfl rfl u_0 u_1 h6) <| o_p rfl (Zf Zln rfl rfl u_0) <| o_p rfl (Zbc (zs := [.slice none 0 0]) (by kernel_rfl) (fun g => Zne g) rfl rfl) <| o_p rfl (Zb0 Zln rfl rfl u_1 u_0) <| o_n) (by kernel_rfl) (fun a g hst hb => ?_)
       refine r_s (T := [⟨[], [(9, (pBox Zcd 9 (default : Z3)))], [10], [], [9]⟩]) (F := [.old 0, .old 1, .old 2, .old 3, .op 0 0, .old 4, .old 5, .old 6]) hst hb Zb
         (o_p rfl (Zbc (zs := [.int .i64 0, .int .i64 0, .slice none 0 0]) (by kernel_rfl) (fun g => Zoo g) rfl rfl) <| o_n) (by kernel_rfl) (fun a g hst hb => ?_)
       obtain ⟨r7, h8, H1⟩ := Zh H1
       refine r_s (T := [⟨[.old 0], _, [], [], [17]⟩, ⟨[.old 3], _, [], [], [18]⟩, ⟨[.op 0 0, .op 1 0], _, [], [0, 1], [19]⟩, ⟨[.op 2 0], _, [], [0, 1, 2], [16]⟩, ⟨[.op 3 0], _, [], List.range 4, [20]⟩, ⟨[.op 3 0], _, [], List.range 4, [21]⟩, ⟨[.op 4 0, .old 0], _, [3], List.range 5, [2]⟩, ⟨[.op 5 0, .old 4], _, [10], List.range 7, [9]⟩]) (F := [.op 6 0, .old 1, .old 2, .op 7 0, .old 5, .old 6, .old 7]) hst hb Zb
         (o_p rfl (Zb6 Zbl rfl rfl u_0) <| o_p rfl (Zf Zln rfl rfl u_0) <| o_p rfl (Zq en_8 (Znh _ _ h8) rfl rfl (.cons u_0 (.cons u_1 .nil))) <| o_p rfl (Za rfl rfl u_0) <| o_p rfl (Z5 rfl rfl u_0 rfl) <| o_p rfl (Z5 rfl rfl u_0 rfl) <| o_p rfl (Z6 Zbl rfl rfl u_1 u_0) <| o_p rfl (Z6 Zkv rfl rfl u_1 u_0) <| o_n) (by kernel_rfl) (fun a g hst hb => ?_)
       obtain ⟨h9, H1⟩ := Zjz H1
       refine r_g (T := [⟨[.old 2], _, [], [], [22]⟩, ⟨[.old 3], _, [], [], [23]⟩, ⟨[.op 1 0], _, [], [1], [24]⟩, ⟨[.op 0 0, .op 2 0], _, [7], [0, 1, 2], [6, 22, 25]⟩, ⟨[.op 3 0], _, [], List.range 4, [6]⟩]) (F := [.old 0, .old 1, .op 4 0, .old 4, .old 5, .old 6]) hst hb Zb
         (o_p rfl (Za rfl rfl u_0) <| o_p rfl (Zb6 Zkv rfl rfl u_0) <| o_p rfl (Zj2 Z22 (xs := [.tmp 23]) (.cons u_0 .nil) (by decide) rfl rfl) <| o_p rfl (Zkh Z22 rfl rfl u_0 u_1 h9) <| o_p rfl (Zc rfl rfl u_0) <| o_n) (by kernel_rfl) (fun a g hst hb => ?_)
       refine Zbt ?_
       refine Zt ?_
       refine r_g (T := [⟨[.old 5], _, [], [], [26]⟩, ⟨[.op 0 0], _, [], [0], [12]⟩]) (F := [.old 0, .old 1, .old 2, .old 3, .old 4, .op 1 0]) hst hb Zb
         (o_p rfl (Zcb rfl rfl u_0 c_i rfl) <| o_p rfl (Za rfl rfl u_0) <| o_n) (by kernel_rfl) (fun a g hst hb => ?_)
       exact ⟨n, Nat.lt_succ_self _, r7.1, (x2 ++ ([r7.2] : List Z3)), (IntKind.i64.wrap (x3 + (1 : Int))), g, rfl, (hst.pick [0, 1, 2, 3, 4, 5] rfl), hb, H1⟩
     · replace H1 := Z0 hc4 H1
       refine wp_exit ?_
       refine Zcc ?_
       refine Zcc ?_
       refine Zda ?_
       exact ⟨x1, x2, g, rfl, (hst.pick [0, 1, 2] rfl), hb, Option.some.inj H1⟩
end Go.CL
set_option linter.unusedVariables false
set_option linter.unusedSimpArgs false
set_option maxRecDepth 100000
namespace Go.CL
open Go Go.RowKit Go.Proofs
theorem Ze8 (f2 : Nat) (C2 : List Pd) (hC2 : Free C2) (e2_ : Zo Tryd.prog f2) (φ2 : Zg → Zg → Option Bool) (hφ2 : ∀ (y0 : Zg) (y1 : Zg) (r : Bool), φ2 y0 y1 = some r → FnOk Tryd.prog f2 ([(Zr.pd y0), (Zr.pd y1)] ++ C2) (Zbb r)) (a0 : List Zg) (a1 : List Zg) {r : Bool} (h : Zcl a0 a1 φ2 = some r) : FnOk Tryd.prog 31 [(Zr.sl.pd a0), (Zr.sl.pd a1), (pClo f2 C2 hC2)] (Zbb r) := by
 have H0 := h
 unfold Zcl at H0
 clear h
 refine Zbr (N := 32) Tryd.func31 rfl rfl (Nat.le_of_ble_eq_true rfl) rfl rfl (fun a g0 hst hb => ?_)
 refine r_s (T := [⟨[], _, [], [], [6]⟩]) (F := [.old 0, .old 1, .old 2]) hst hb Zb
   (o_p rfl (Zc rfl rfl c_b) <| o_n) (by kernel_rfl) (fun a g hst hb => ?_)
 refine wp_seq ?_
 refine r_s (T := [⟨[.old 0], _, [], [], [10]⟩, ⟨[.op 0 0], _, [], [0], [11]⟩, ⟨[.old 1], _, [], [], [12]⟩, ⟨[.op 2 0], _, [], [2], [13]⟩, ⟨[.op 1 0, .op 3 0], _, [], List.range 4, [14]⟩]) (F := [.old 0, .old 1, .old 2, .op 4 0]) hst hb Zb
   (o_p rfl (Za rfl rfl u_0) <| o_p rfl (Zb7 Tryd.underlying36 rfl rfl u_0) <| o_p rfl (Za rfl rfl u_0) <| o_p rfl (Zb7 Tryd.underlying36 rfl rfl u_0) <| o_p rfl (Zfr rfl rfl u_0 u_1) <| o_n) (by kernel_rfl) (fun a g hst hb => ?_)
 refine wp_cond_split (hst.bool 3 rfl) (fun hc1 => ?_) (fun hc1 => ?_)
 · replace H0 := Z1 hc1 H0
   refine r_s (L := []) (T := [⟨[], _, [], [], [6]⟩]) (F := [.op 0 0]) (hst.pick [] rfl) hb Zb
     (o_p rfl (Zc rfl rfl c_b) <| o_n) (by kernel_rfl) (fun a g hst hb => ?_)
   refine wp_ret ?_
   refine Zs ?_
   obtain rfl := Option.some.inj H0
   exact Z2 rfl hst hb (Zk (s := 6)) (hst.at 0 rfl)
 · replace H0 := Z0 hc1 H0
   refine wp_skip ?_
   refine Zt ?_
   refine wp_seq ?_
   refine r_s (L := [(0, _), (1, _), (2, _)]) (T := [⟨[.old 0], _, [], [], [15]⟩, ⟨[.op 0 0], _, [], [0], [16]⟩, ⟨[], _, [], [], [17]⟩]) (F := [.old 1, .old 2, .op 0 0, .op 1 0, .op 2 0]) (hst.pick [0, 1, 2] rfl) hb Zb
     (o_p rfl (Za rfl rfl u_0) <| o_p rfl (Zb7 Tryd.underlying36 rfl rfl u_0) <| o_p rfl (Za rfl rfl c_i) <| o_n) (by kernel_rfl) (fun a g hst hb => ?_)
   obtain ⟨z11, hz1, H0⟩ := Zh H0
   refine Zc6 (fun a w => ∃ (g : G), w = g.w ∧ St 32 [] a g ∧ Base g0 g ∧ (.inr ()) = z11) ?_ ?_
   · rintro a w ⟨g, rfl, hst, hb, rfl⟩
     refine Zt ?_
     refine r_s (T := [⟨[], _, [], [], [6]⟩]) (F := [.op 0 0]) hst hb Zb
       (o_p rfl (Zc rfl rfl c_b) <| o_n) (by kernel_rfl) (fun a g hst hb => ?_)
     refine wp_ret ?_
     obtain rfl := Option.some.inj H0
     exact Z2 rfl hst hb (Zk (s := 6)) (hst.at 0 rfl)
   · refine wp_block ?_
     refine wp_loop_ghost (fun n a w => ∃ (x2 : Int) (g : G), w = g.w ∧ St 32 [(1, (Zr.sl.pd a1)), (2, (pClo f2 C2 hC2)), (15, (Zr.sl.pd a0)), (16, (pInt .i64 (a0.length : Int))), (17, (pInt .i64 x2))] a g ∧ Base g0 g ∧ Zbs a0 a1 φ2 n x2 = some z11) (Int.toNat ((a0.length : Int) - (0 : Int)) + 1) ⟨(0 : Int), g, rfl, (hst.pick [0, 1, 2, 3, 4] rfl), hb, hz1⟩ (fun n a w hI => ?_)
     obtain ⟨x2, g, rfl, hst, hb, H1⟩ := hI
     cases n with
     | zero => exact absurd H1 (by simp [Zbs])
     | succ n =>
       rw [Zbs] at H1
       refine r_s (T := [⟨[.old 4, .old 3], _, [], [], [18]⟩]) (F := [.old 0, .old 1, .old 2, .old 3, .old 4, .op 0 0]) hst hb Zb
         (o_p rfl (Zcy rfl rfl u_0 u_1) <| o_n) (by kernel_rfl) (fun a g hst hb => ?_)
       refine wp_seq ?_
       refine wp_cond_split (hst.bool 5 rfl) (fun hc3 => ?_) (fun hc3 => ?_)
       · replace H1 := Z1 hc3 H1
         refine wp_skip ?_
         refine Zt ?_
         refine wp_seq ?_
         refine wp_block ?_
         obtain ⟨e4, h5, H1⟩ := Zh H1
         refine r_s (L := [(1, _), (2, _), (15, _), (16, _), (17, _)]) (T := [⟨[.old 4], _, [], [], [19]⟩, ⟨[.old 2, .old 4], _, [], [], [20]⟩, ⟨[.op 1 0], _, [], [1], [21]⟩, ⟨[], [(8, (pBox Zr 8 (default : Zg)))], [9], [], [8]⟩, ⟨[.op 0 0], _, [], List.range 4, [7]⟩, ⟨[.op 2 0, .op 3 0], _, [9], List.range 5, [8]⟩]) (F := [.old 0, .old 1, .op 4 0, .op 5 0, .old 2, .old 3, .old 4]) (hst.pick [0, 1, 2, 3, 4] rfl) hb Zb
           (o_p rfl (Za rfl rfl u_0) <| o_p rfl (Zbx Tryd.underlying36 Z2o rfl rfl u_0 u_1 h5) <| o_p rfl (Zf Zca rfl rfl u_0) <| o_p rfl (Zbc (zs := [.int .i64 0, .int .i64 0, .int .i64 0, .int .i64 0, .int .i64 0, .int .i64 0, .float .f64 0, .int .i64 0, .string ByteArray.empty, .slice none 0 0]) (by kernel_rfl) (fun g => Zd6 g) rfl rfl) <| o_p rfl (Zc rfl rfl u_0) <| o_p rfl (Zb0 Zca rfl rfl u_1 u_0) <| o_n) (by kernel_rfl) (fun a g hst hb => ?_)
         obtain ⟨e6, h7, H1⟩ := Zh H1
         refine r_s (T := [⟨[.old 0], _, [], [], [22]⟩, ⟨[.old 2], _, [], [], [23]⟩, ⟨[.op 0 0, .op 1 0], _, [], [0, 1], [24]⟩, ⟨[.op 2 0], _, [], [0, 1, 2], [25]⟩, ⟨[], [(9, (pBox Zr 9 (default : Zg)))], [10], [], [9]⟩, ⟨[.op 3 0, .op 4 0], _, [10], List.range 5, [9]⟩]) (F := [.old 0, .old 1, .old 3, .op 5 0, .old 4, .old 5, .old 6]) hst hb Zb
           (o_p rfl (Za rfl rfl u_0) <| o_p rfl (Za rfl rfl u_0) <| o_p rfl (Zbx Tryd.underlying36 Z2o rfl rfl u_0 u_1 h7) <| o_p rfl (Zf Zca rfl rfl u_0) <| o_p rfl (Zbc (zs := [.int .i64 0, .int .i64 0, .int .i64 0, .int .i64 0, .int .i64 0, .int .i64 0, .float .f64 0, .int .i64 0, .string ByteArray.empty, .slice none 0 0]) (by kernel_rfl) (fun g => Zd6 g) rfl rfl) <| o_p rfl (Zb0 Zca rfl rfl u_1 u_0) <| o_n) (by kernel_rfl) (fun a g hst hb => ?_)
         obtain ⟨r8, h9, H1⟩ := Zh H1
         refine r_s (T := [⟨[.old 1], _, [], [], [26]⟩, ⟨[.old 2], _, [], [], [27]⟩, ⟨[.old 3], _, [], [], [28]⟩, ⟨[.op 0 0, .op 1 0, .op 2 0], _, [], [0, 1, 2], [29]⟩, ⟨[.op 3 0], _, [], List.range 4, [30]⟩]) (F := [.old 0, .old 1, .old 4, .old 5, .old 6, .op 4 0]) hst hb Zb
           (o_p rfl (Za rfl rfl u_0) <| o_p rfl (Zf Zca rfl rfl u_0) <| o_p rfl (Zf Zca rfl rfl u_0) <| o_p rfl (Zmp e2_ (hφ2 _ _ _ h9) rfl rfl u_0 (.cons u_1 (.cons u_2 .nil))) <| o_p rfl (Zcv rfl rfl u_0) <| o_n) (by kernel_rfl) (fun a g hst hb => ?_)
         refine wp_cond_split (hst.bool 5 rfl) (fun hc10 => ?_) (fun hc10 => ?_)
         · replace H1 := Z1 hc10 H1
           refine r_s (L := []) (T := [⟨[], _, [], [], [6]⟩]) (F := [.op 0 0]) (hst.pick [] rfl) hb Zb
             (o_p rfl (Zc rfl rfl c_b) <| o_n) (by kernel_rfl) (fun a g hst hb => ?_)
           refine wp_ret ?_
           refine Zy ?_
           refine Zs ?_
           refine Zs ?_
           refine Zy ?_
           refine Zs ?_
           refine Zs ?_
           obtain rfl := Option.some.inj H1
           obtain rfl := Option.some.inj H0
           exact Z2 rfl hst hb (Zk (s := 6)) (hst.at 0 rfl)
         · replace H1 := Z0 hc10 H1
           refine wp_skip ?_
           refine Zbt ?_
           refine Zt ?_
           refine r_g (L := [(1, _), (2, _), (15, _), (16, _), (17, _)]) (T := [⟨[.old 4], _, [], [], [31]⟩, ⟨[.op 0 0], _, [], [0], [17]⟩]) (F := [.old 0, .old 1, .old 2, .old 3, .op 1 0]) (hst.pick [0, 1, 2, 3, 4] rfl) hb Zb
             (o_p rfl (Zcb rfl rfl u_0 c_i rfl) <| o_p rfl (Za rfl rfl u_0) <| o_n) (by kernel_rfl) (fun a g hst hb => ?_)
           exact ⟨n, Nat.lt_succ_self _, (IntKind.i64.wrap (x2 + (1 : Int))), g, rfl, (hst.pick [0, 1, 2, 3, 4] rfl), hb, H1⟩
       · replace H1 := Z0 hc3 H1
         refine wp_exit ?_
         refine Zcc ?_
         refine Zcc ?_
         refine Zda ?_
         exact ⟨g, rfl, (hst.pick [] rfl), hb, Option.some.inj H1⟩
end Go.CL
set_option linter.unusedVariables false
set_option linter.unusedSimpArgs false
set_option maxRecDepth 100000
namespace Go.CL
open Go Go.RowKit Go.Proofs
theorem Zvn (a0 : Zg) (a1 : Zg) {r : Bool} (h : Zm2 a0 a1 = some r) : FnOk Tryd.prog 32 [(Zr.pd a0), (Zr.pd a1)] (Zbb r) := by
 have H0 := h
 unfold Zm2 at H0
 clear h
 refine Zbr (N := 24) Tryd.func32 rfl rfl (Nat.le_of_ble_eq_true rfl) rfl rfl (fun a g0 hst hb => ?_)
 refine r_s (T := [⟨[.old 0], _, [], [], [2]⟩, ⟨[.old 1], _, [], [], [3]⟩, ⟨[], _, [], [], [4]⟩]) (F := [.op 0 0, .op 1 0]) hst hb Zb
   (o_p rfl (Zbj rfl rfl u_0) <| o_p rfl (Zbj rfl rfl u_0) <| o_p rfl (Zc rfl rfl c_b) <| o_n) (by kernel_rfl) (fun a g hst hb => ?_)
 obtain ⟨r1, h2, H0⟩ := Zh H0
 refine r_s (T := ⟨[.old 0], _, [], [], [5]⟩ :: ⟨[.op 0 0], _, [], [0], [6]⟩ :: ⟨[.old 1], _, [], [], [7]⟩ :: ⟨[.op 2 0], _, [], [2], [8]⟩ :: ⟨[.op 1 0, .op 3 0], _, [], List.range 4, [9]⟩ :: ⟨[.op 4 0], _, [], List.range 5, [10]⟩ :: ⟨[.op 5 0, .old 0], _, [], List.range 6, [11]⟩ :: ⟨[.op 5 0, .op 6 0], _, [], List.range 7, [12]⟩ :: ⟨[.op 5 0, .old 1], _, [], List.range 6, [13]⟩ :: ⟨[.op 5 0, .op 8 0], _, [], [0, 1, 2, 3, 4, 5, 8], [14]⟩ :: ⟨[.op 5 0, .op 7 0, .op 9 0], _, [], List.range 10, [15]⟩ :: ⟨[.op 5 0, .op 10 0], _, [], List.range 11, [16]⟩ :: ⟨[.op 11 0], _, [], List.range 12, [17]⟩ :: ⟨[.op 12 0, .old 0], _, [], List.range 13, [18]⟩ :: ⟨[.op 12 0, .op 13 0], _, [], List.range 14, [19]⟩ :: ⟨[.op 12 0, .old 1], _, [], List.range 13, [20]⟩ :: ⟨[.op 12 0, .op 15 0], _, [], 0 :: 1 :: 2 :: 3 :: 4 :: 5 :: 6 :: 7 :: 8 :: 9 :: 10 :: 11 :: 12 :: 15 :: [], [21]⟩ :: ⟨[.op 12 0, .op 14 0, .op 16 0], _, [], List.range 17, [22]⟩ :: ⟨[.op 12 0, .op 17 0], _, [], List.range 18, [23]⟩ :: ⟨[.op 18 0], _, [], List.range 19, [4]⟩ :: []) (F := [.op 19 0]) hst hb Zb
   (o_p rfl (Ze Zli rfl rfl u_0) <| o_p rfl (Zf Zk3 rfl rfl u_0) <| o_p rfl (Ze Zli rfl rfl u_0) <| o_p rfl (Zf Zk3 rfl rfl u_0) <| o_p rfl (Zbv rfl rfl u_0 u_1) <| o_p rfl (Za rfl rfl u_0) <| o_g (g_t rfl rfl rfl (fun hG => Ze Zxg rfl rfl u_0)) <| o_g (g_t rfl rfl rfl (fun hG => Zf ty_2 rfl rfl (Opd.gd hG u_0))) <| o_g (g_t rfl rfl rfl (fun hG => Ze Zxg rfl rfl u_0)) <| o_g (g_t rfl rfl rfl (fun hG => Zf ty_2 rfl rfl (Opd.gd hG u_0))) <| o_g (g_t rfl rfl rfl (fun hG => Zbv rfl rfl (Opd.gd hG u_0) (Opd.gd hG u_1))) <| o_p rfl (Zbh rfl rfl u_0 (fun hz => (Opd.gd hz u_1))) <| o_p rfl (Za rfl rfl u_0) <| o_g (g_t rfl rfl rfl (fun hG => Ze Zss rfl rfl u_0)) <| o_g (g_t rfl rfl rfl (fun hG => Zf Zbg rfl rfl (Opd.gd hG u_0))) <| o_g (g_t rfl rfl rfl (fun hG => Ze Zss rfl rfl u_0)) <| o_g (g_t rfl rfl rfl (fun hG => Zf Zbg rfl rfl (Opd.gd hG u_0))) <| o_g (g_t rfl rfl rfl (fun hG => Zq Z2d (Zqr _ _ (Zbo h2 hG)) rfl rfl (.cons (Opd.gd hG u_0) (.cons (Opd.gd hG u_1) .nil)))) <| o_p rfl (Zbh rfl rfl u_0 (fun hz => (Opd.gd hz u_1))) <| o_p rfl (Zc rfl rfl u_0) <| o_n) (by kernel_rfl) (fun a g hst hb => ?_)
 refine wp_ret ?_
 obtain rfl := Option.some.inj H0
 exact Z2 rfl hst hb (Zk (s := 4)) (hst.at 0 rfl)
end Go.CL
set_option linter.unusedVariables false
set_option linter.unusedSimpArgs false
set_option maxRecDepth 100000
namespace Go.CL
open Go Go.RowKit Go.Proofs
theorem Zum (a0 : Z3) (a1 : Z3) {r : Bool} (h : Zn8 a0 a1 = some r) : FnOk Tryd.prog 14 [(Zcd.pd a0), (Zcd.pd a1)] (Zbb r) := by
 have H0 := h
 unfold Zn8 at H0
 clear h
 refine Zbr (N := 24) Tryd.func14 rfl rfl (Nat.le_of_ble_eq_true rfl) rfl rfl (fun a g0 hst hb => ?_)
 refine r_s (T := [⟨[.old 0], _, [], [], [2]⟩, ⟨[.old 1], _, [], [], [3]⟩, ⟨[], _, [], [], [4]⟩]) (F := [.op 0 0, .op 1 0]) hst hb Zb
   (o_p rfl (Zbj rfl rfl u_0) <| o_p rfl (Zbj rfl rfl u_0) <| o_p rfl (Zc rfl rfl c_b) <| o_n) (by kernel_rfl) (fun a g hst hb => ?_)
 obtain ⟨r1, h2, H0⟩ := Zh H0
 refine r_s (T := ⟨[.old 0], _, [], [], [5]⟩ :: ⟨[.op 0 0], _, [], [0], [6]⟩ :: ⟨[.old 1], _, [], [], [7]⟩ :: ⟨[.op 2 0], _, [], [2], [8]⟩ :: ⟨[.op 1 0, .op 3 0], _, [], List.range 4, [9]⟩ :: ⟨[.op 4 0], _, [], List.range 5, [10]⟩ :: ⟨[.op 5 0, .old 0], _, [], List.range 6, [11]⟩ :: ⟨[.op 5 0, .op 6 0], _, [], List.range 7, [12]⟩ :: ⟨[.op 5 0, .old 1], _, [], List.range 6, [13]⟩ :: ⟨[.op 5 0, .op 8 0], _, [], [0, 1, 2, 3, 4, 5, 8], [14]⟩ :: ⟨[.op 5 0, .op 7 0, .op 9 0], _, [], List.range 10, [15]⟩ :: ⟨[.op 5 0, .op 10 0], _, [], List.range 11, [16]⟩ :: ⟨[.op 11 0], _, [], List.range 12, [17]⟩ :: ⟨[.op 12 0, .old 0], _, [], List.range 13, [18]⟩ :: ⟨[.op 12 0, .op 13 0], _, [], List.range 14, [19]⟩ :: ⟨[.op 12 0, .old 1], _, [], List.range 13, [20]⟩ :: ⟨[.op 12 0, .op 15 0], _, [], 0 :: 1 :: 2 :: 3 :: 4 :: 5 :: 6 :: 7 :: 8 :: 9 :: 10 :: 11 :: 12 :: 15 :: [], [21]⟩ :: ⟨[.op 12 0, .op 14 0, .op 16 0], _, [], List.range 17, [22]⟩ :: ⟨[.op 12 0, .op 17 0], _, [], List.range 18, [23]⟩ :: ⟨[.op 18 0], _, [], List.range 19, [4]⟩ :: []) (F := [.op 19 0]) hst hb Zb
   (o_p rfl (Ze Zs1 rfl rfl u_0) <| o_p rfl (Zf Zk3 rfl rfl u_0) <| o_p rfl (Ze Zs1 rfl rfl u_0) <| o_p rfl (Zf Zk3 rfl rfl u_0) <| o_p rfl (Zbv rfl rfl u_0 u_1) <| o_p rfl (Za rfl rfl u_0) <| o_g (g_t rfl rfl rfl (fun hG => Ze Zs6 rfl rfl u_0)) <| o_g (g_t rfl rfl rfl (fun hG => Zf ty_3 rfl rfl (Opd.gd hG u_0))) <| o_g (g_t rfl rfl rfl (fun hG => Ze Zs6 rfl rfl u_0)) <| o_g (g_t rfl rfl rfl (fun hG => Zf ty_3 rfl rfl (Opd.gd hG u_0))) <| o_g (g_t rfl rfl rfl (fun hG => Zbv rfl rfl (Opd.gd hG u_0) (Opd.gd hG u_1))) <| o_p rfl (Zbh rfl rfl u_0 (fun hz => (Opd.gd hz u_1))) <| o_p rfl (Za rfl rfl u_0) <| o_g (g_t rfl rfl rfl (fun hG => Ze Ztf rfl rfl u_0)) <| o_g (g_t rfl rfl rfl (fun hG => Zf Zzb rfl rfl (Opd.gd hG u_0))) <| o_g (g_t rfl rfl rfl (fun hG => Ze Ztf rfl rfl u_0)) <| o_g (g_t rfl rfl rfl (fun hG => Zf Zzb rfl rfl (Opd.gd hG u_0))) <| o_g (g_t rfl rfl rfl (fun hG => Zq Z7g (Ze8 32 [] rfl Z8e (fun y0 y1 => Zm2 y0 y1) (fun y0 y1 r h => Zvn y0 y1 h) _ _ (Zbo h2 hG)) rfl rfl (.cons (Opd.gd hG u_0) (.cons (Opd.gd hG u_1) (.cons Opd.fnc .nil))))) <| o_p rfl (Zbh rfl rfl u_0 (fun hz => (Opd.gd hz u_1))) <| o_p rfl (Zc rfl rfl u_0) <| o_n) (by kernel_rfl) (fun a g hst hb => ?_)
 refine wp_ret ?_
 obtain rfl := Option.some.inj H0
 exact Z2 rfl hst hb (Zk (s := 4)) (hst.at 0 rfl)
end Go.CL
set_option linter.unusedVariables false
set_option linter.unusedSimpArgs false
set_option maxRecDepth 100000
namespace Go.CL
open Go Go.RowKit Go.Proofs
theorem Zox (a0 : Int) {r : Zm × Int} (h : Zl1 a0 = some r) : FnOk Tryd.prog 17 [(pInt .i64 a0)] (pTup [(Zw.pd r.1), (pInt .i64 r.2)]) := by
 have H0 := h
 unfold Zl1 at H0
 clear h
 refine Zbr (N := 13) Tryd.func17 rfl rfl (Nat.le_of_ble_eq_true rfl) rfl rfl (fun a g0 hst hb => ?_)
 refine r_s (T := [⟨[], [(2, (pBox Zw 2 (default : Zm)))], [3], [], [2]⟩, ⟨[], _, [], [], [3]⟩]) (F := [.old 0, .op 0 0]) hst hb Zb
   (o_p rfl (Zbc (zs := [.pointer none, .int .i64 0]) (by kernel_rfl) (fun g => Zct g) rfl rfl) <| o_p rfl (Zc rfl rfl c_i) <| o_n) (by kernel_rfl) (fun a g hst hb => ?_)
 refine wp_seq ?_
 refine r_s (T := [⟨[.old 0], _, [], [], [4]⟩, ⟨[.op 0 0], _, [], [0], [5]⟩, ⟨[.op 1 0], _, [], [0, 1], [6]⟩, ⟨[.op 2 0, .old 0], _, [], [0, 1, 2], [7]⟩, ⟨[.op 2 0, .op 3 0], _, [], List.range 4, [8]⟩, ⟨[.op 2 0, .op 4 0], _, [], List.range 5, [9]⟩]) (F := [.old 0, .old 1, .op 5 0]) hst hb Zb
   (o_p rfl (Za rfl rfl u_0) <| o_p rfl (Zcy rfl rfl u_0 c_i) <| o_p rfl (Za rfl rfl u_0) <| o_g (g_f rfl rfl rfl (fun hG => Za rfl rfl u_0)) <| o_g (g_f rfl rfl rfl (fun hG => Zcj rfl rfl (Opd.gd hG u_0) c_i)) <| o_p rfl (Zby rfl rfl u_0 (fun hz => (Opd.gd (bNF hz) u_1))) <| o_n) (by kernel_rfl) (fun a g hst hb => ?_)
 refine wp_cond_split (hst.bool 2 rfl) (fun hc1 => ?_) (fun hc1 => ?_)
 · replace H0 := Z1 hc1 H0
   refine r_s (L := [(2, _)]) (T := [⟨[], _, [], [], [10]⟩, ⟨[.op 0 0, .old 0], _, [3], [0], [2]⟩, ⟨[], _, [], [0, 1], [3]⟩]) (F := [.op 1 0, .op 2 0]) (hst.pick [1] rfl) hb Zb
     (o_p rfl (Z5o rfl rfl ) <| o_p rfl (Z6 Zbl rfl rfl u_1 u_0) <| o_p rfl (Zc rfl rfl c_i) <| o_n) (by kernel_rfl) (fun a g hst hb => ?_)
   refine wp_ret ?_
   refine Zs ?_
   obtain rfl := Option.some.inj H0
   obtain ⟨u0, hu0, hq0⟩ := Zbf (P := Tryd.prog) Zbl (hst.at 0 rfl)
   exact Zem rfl hst hb hu0 (Zk (s := 3)) (Zdf hq0 (hst.at 1 rfl))
 · replace H0 := Z0 hc1 H0
   refine wp_skip ?_
   refine Zt ?_
   refine r_s (L := [(0, _), (2, _)]) (T := [⟨[.old 0], _, [], [], [11]⟩, ⟨[.op 0 0], _, [], [0], [12]⟩, ⟨[.op 1 0, .old 1], _, [3], [0, 1], [2]⟩, ⟨[], _, [], [0, 1, 2], [3]⟩]) (F := [.op 2 0, .op 3 0]) (hst.pick [0, 1] rfl) hb Zb
     (o_p rfl (Za rfl rfl u_0) <| o_p rfl (Z4b rfl rfl u_0) <| o_p rfl (Z6 Zbl rfl rfl u_1 u_0) <| o_p rfl (Zc rfl rfl c_i) <| o_n) (by kernel_rfl) (fun a g hst hb => ?_)
   refine wp_ret ?_
   obtain rfl := Option.some.inj H0
   obtain ⟨u0, hu0, hq0⟩ := Zbf (P := Tryd.prog) Zbl (hst.at 0 rfl)
   exact Zem rfl hst hb hu0 (Zk (s := 3)) (Zdf hq0 (hst.at 1 rfl))
end Go.CL
set_option linter.unusedVariables false
set_option linter.unusedSimpArgs false
set_option maxRecDepth 100000
namespace Go.CL
open Go Go.RowKit Go.Proofs
theorem Zns {r : Bool} (h : Zhl = some r) : FnOk Tryd.prog 5 [] (Zbb r) := by
 have H0 := h
 unfold Zhl at H0
 clear h
 refine Zbr (N := 94) Tryd.func5 rfl rfl (Nat.le_of_ble_eq_true rfl) rfl rfl (fun a g0 hst hb => ?_)
 refine r_s (T := [⟨[], _, [], [], [0]⟩]) (F := []) hst hb Zb
   (o_p rfl (Zc rfl rfl c_b) <| o_n) (by kernel_rfl) (fun a g hst hb => ?_)
 obtain ⟨r1, h2, H0⟩ := Zh H0
 refine r_s (T := [⟨[], _, [], [], [12]⟩, ⟨[.op 0 0], _, [], [0], [11]⟩, ⟨[.op 1 0], _, [], [0, 1], [13]⟩, ⟨[.op 1 0], _, [], [0, 1], [14]⟩, ⟨[], [(1, (pBox Zw 1 (default : Zm)))], [2], [], [1]⟩, ⟨[.op 2 0, .op 4 0], _, [2], [0, 1, 2, 4], [1]⟩, ⟨[.op 3 0], _, [], List.range 6, [2]⟩]) (F := [.op 5 0, .op 6 0]) hst hb Zb
   (o_p rfl (Zq Z2x (Zox _ h2) rfl rfl (.cons c_i .nil)) <| o_p rfl (Za rfl rfl u_0) <| o_p rfl (Z5 rfl rfl u_0 rfl) <| o_p rfl (Z5 rfl rfl u_0 rfl) <| o_p rfl (Zbc (zs := [.pointer none, .int .i64 0]) (by kernel_rfl) (fun g => Zct g) rfl rfl) <| o_p rfl (Zb0 Zbl rfl rfl u_1 u_0) <| o_p rfl (Zc rfl rfl u_0) <| o_n) (by kernel_rfl) (fun a g hst hb => ?_)
 refine r_s (T := [⟨[], _, [], [], [15]⟩, ⟨[.op 0 0], _, [], [0], [16]⟩, ⟨[], [(3, (pBox Z8 3 (default : Zv)))], [4], [], [3]⟩, ⟨[.op 1 0, .op 2 0], _, [4], [0, 1, 2], [3]⟩]) (F := [.old 0, .old 1, .op 3 0]) hst hb Zb
   (o_p rfl (Z02 rfl rfl c_i c_i) <| o_p rfl (Zw0 rfl rfl c_i c_s u_0) <| o_p rfl (Zbc (zs := [.int .i64 0, .string ByteArray.empty, .int .i64 0, .float .f64 0, .string ByteArray.empty, .int .i64 0, .int .i64 0, .int .i64 0, .int .i64 0, .float .f64 0, .int .i64 0, .string ByteArray.empty, .slice none 0 0, .bool false]) (by kernel_rfl) (fun g => Zk0 g) rfl rfl) <| o_p rfl (Zb0 Zfs rfl rfl u_1 u_0) <| o_n) (by kernel_rfl) (fun a g hst hb => ?_)
 refine r_s (T := [⟨[], _, [], [], [17]⟩, ⟨[], [(4, (pBox Z8 4 (default : Zv)))], [5], [], [4]⟩, ⟨[.op 0 0, .op 1 0], _, [5], [0, 1], [4]⟩]) (F := [.old 0, .old 1, .old 2, .op 2 0]) hst hb Zb
   (o_p rfl (Zua rfl rfl c_i c_s c_i c_b) <| o_p rfl (Zbc (zs := [.int .i64 0, .string ByteArray.empty, .int .i64 0, .float .f64 0, .string ByteArray.empty, .int .i64 0, .int .i64 0, .int .i64 0, .int .i64 0, .float .f64 0, .int .i64 0, .string ByteArray.empty, .slice none 0 0, .bool false]) (by kernel_rfl) (fun g => Zk0 g) rfl rfl) <| o_p rfl (Zb0 Zfs rfl rfl u_1 u_0) <| o_n) (by kernel_rfl) (fun a g hst hb => ?_)
 obtain ⟨r3, h4, H0⟩ := Zh H0
 refine r_s (T := ⟨[.old 0], _, [], [], [19]⟩ :: ⟨[.old 2], _, [], [], [20]⟩ :: ⟨[.old 3], _, [], [], [21]⟩ :: ⟨[.op 1 0, .op 2 0], _, [], [1, 2], [22]⟩ :: ⟨[.op 3 0], _, [], [1, 2, 3], [23]⟩ :: ⟨[.op 0 0, .op 4 0], _, [], List.range 5, [24]⟩ :: ⟨[.op 5 0], _, [], List.range 6, [18]⟩ :: ⟨[.op 6 0], _, [], List.range 7, [25]⟩ :: ⟨[.op 6 0], _, [], List.range 7, [26]⟩ :: ⟨[], [(5, (pBox Zw 5 (default : Zm)))], [6], [], [5]⟩ :: ⟨[], [(6, (pBox Zcd 6 (default : Z3)))], [7], [], [6]⟩ :: ⟨[.op 7 0, .op 9 0], _, [6], [0, 1, 2, 3, 4, 5, 6, 7, 9, 10], [5]⟩ :: ⟨[.op 8 0, .op 10 0], _, [7], List.range 12, [6]⟩ :: []) (F := [.old 0, .old 1, .old 2, .old 3, .op 11 0, .op 12 0]) hst hb Zb
   (o_p rfl (Zf Zbl rfl rfl u_0) <| o_p rfl (Zf Zfs rfl rfl u_0) <| o_p rfl (Zf Zfs rfl rfl u_0) <| o_p rfl (Zj2 Zy7 (xs := [.tmp 20, .tmp 21]) (.cons u_0 (.cons u_1 .nil)) (by decide) rfl rfl) <| o_p rfl (Zsu rfl rfl u_0) <| o_p rfl (Zq en_8 (Znh _ _ h4) rfl rfl (.cons u_0 (.cons u_1 .nil))) <| o_p rfl (Za rfl rfl u_0) <| o_p rfl (Z5 rfl rfl u_0 rfl) <| o_p rfl (Z5 rfl rfl u_0 rfl) <| o_p rfl (Zbc (zs := [.pointer none, .int .i64 0]) (by kernel_rfl) (fun g => Zct g) rfl rfl) <| o_p rfl (Zbc (zs := [.int .i64 0, .int .i64 0, .slice none 0 0]) (by kernel_rfl) (fun g => Zoo g) rfl rfl) <| o_p rfl (Zb0 Zbl rfl rfl u_1 u_0) <| o_p rfl (Zb0 Zkv rfl rfl u_1 u_0) <| o_n) (by kernel_rfl) (fun a g hst hb => ?_)
 obtain ⟨r5, h6, H0⟩ := Zh H0
 refine r_s (T := ⟨[.old 0], _, [], [], [28]⟩ :: ⟨[.old 2], _, [], [], [29]⟩ :: ⟨[.op 1 0], _, [], [1], [30]⟩ :: ⟨[.op 2 0], _, [], [1, 2], [31]⟩ :: ⟨[.old 3], _, [], [], [32]⟩ :: ⟨[.op 4 0], _, [], [4], [33]⟩ :: ⟨[.op 5 0], _, [], [4, 5], [34]⟩ :: ⟨[.op 3 0, .op 6 0], _, [], List.range' 1 6, [35]⟩ :: ⟨[.op 0 0, .op 7 0], _, [], List.range 8, [36]⟩ :: ⟨[.op 8 0], _, [], List.range 9, [27]⟩ :: ⟨[.op 9 0], _, [], List.range 10, [37]⟩ :: ⟨[.op 9 0], _, [], List.range 10, [38]⟩ :: ⟨[], [(7, (pBox Zw 7 (default : Zm)))], [8], [], [7]⟩ :: ⟨[.op 10 0, .op 12 0], _, [8], 0 :: 1 :: 2 :: 3 :: 4 :: 5 :: 6 :: 7 :: 8 :: 9 :: 10 :: 12 :: [], [7]⟩ :: ⟨[.op 11 0], _, [], List.range 14, [8]⟩ :: []) (F := [.old 1, .old 2, .old 4, .old 5, .op 13 0, .op 14 0]) hst hb Zb
   (o_p rfl (Zf Zbl rfl rfl u_0) <| o_p rfl (Zf Zfs rfl rfl u_0) <| o_p rfl (Zj2 Zy7 (xs := [.tmp 29]) (.cons u_0 .nil) (by decide) rfl rfl) <| o_p rfl (Zsu rfl rfl u_0) <| o_p rfl (Zf Zfs rfl rfl u_0) <| o_p rfl (Zj2 Zy7 (xs := [.tmp 32]) (.cons u_0 .nil) (by decide) rfl rfl) <| o_p rfl (Zsu rfl rfl u_0) <| o_p rfl (Zj2 Z73 (xs := [.tmp 31, .tmp 34]) (.cons u_0 (.cons u_1 .nil)) (by decide) rfl rfl) <| o_p rfl (Zq Z6a (Zw6 _ _ h6) rfl rfl (.cons u_0 (.cons u_1 .nil))) <| o_p rfl (Za rfl rfl u_0) <| o_p rfl (Z5 rfl rfl u_0 rfl) <| o_p rfl (Z5 rfl rfl u_0 rfl) <| o_p rfl (Zbc (zs := [.pointer none, .int .i64 0]) (by kernel_rfl) (fun g => Zct g) rfl rfl) <| o_p rfl (Zb0 Zbl rfl rfl u_1 u_0) <| o_p rfl (Zc rfl rfl u_0) <| o_n) (by kernel_rfl) (fun a g hst hb => ?_)
 obtain ⟨r7, h8, H0⟩ := Zh H0
 refine r_s (T := [⟨[.old 4], _, [], [], [40]⟩, ⟨[.old 1], _, [], [], [41]⟩, ⟨[.op 0 0, .op 1 0], _, [], [0, 1], [42]⟩, ⟨[.op 2 0], _, [], [0, 1, 2], [39]⟩, ⟨[.op 3 0], _, [], List.range 4, [43]⟩, ⟨[.op 3 0], _, [], List.range 4, [44]⟩, ⟨[], [(9, (pBox Zw 9 (default : Zm)))], [10], [], [9]⟩, ⟨[], [(10, (pBox Zr 10 (default : Zg)))], [11], [], [10]⟩, ⟨[.op 4 0, .op 6 0], _, [10], [0, 1, 2, 3, 4, 6, 7], [9]⟩, ⟨[.op 5 0, .op 7 0], _, [11], List.range 9, [10]⟩]) (F := [.old 0, .old 2, .old 3, .old 4, .old 5, .op 9 0]) hst hb Zb
   (o_p rfl (Zf Zbl rfl rfl u_0) <| o_p rfl (Zf Zfs rfl rfl u_0) <| o_p rfl (Zq Z2u (Zqw _ _ h8) rfl rfl (.cons u_0 (.cons u_1 .nil))) <| o_p rfl (Za rfl rfl u_0) <| o_p rfl (Z5 rfl rfl u_0 rfl) <| o_p rfl (Z5 rfl rfl u_0 rfl) <| o_p rfl (Zbc (zs := [.pointer none, .int .i64 0]) (by kernel_rfl) (fun g => Zct g) rfl rfl) <| o_p rfl (Zbc (zs := [.int .i64 0, .int .i64 0, .int .i64 0, .int .i64 0, .int .i64 0, .int .i64 0, .float .f64 0, .int .i64 0, .string ByteArray.empty, .slice none 0 0]) (by kernel_rfl) (fun g => Zd6 g) rfl rfl) <| o_p rfl (Zb0 Zbl rfl rfl u_1 u_0) <| o_p rfl (Zb0 Zca rfl rfl u_1 u_0) <| o_n) (by kernel_rfl) (fun a g hst hb => ?_)
 obtain ⟨r9, h10, H0⟩ := Zh H0; obtain ⟨r11, h12, H0⟩ := Zh H0; obtain ⟨r13, h14, H0⟩ := Zh H0; obtain ⟨e15, h16, H0⟩ := Zh H0; obtain ⟨e17, h18, H0⟩ := Zh H0; obtain ⟨e19, h20, H0⟩ := Zh H0
 refine r_s (T := ⟨[.old 0], _, [], [], [45]⟩ :: ⟨[.op 0 0], _, [], [0], [46]⟩ :: ⟨[.op 1 0], _, [], [0, 1], [47]⟩ :: ⟨[.op 2 0, .old 1], _, [], [0, 1, 2], [48]⟩ :: ⟨[.op 2 0, .op 3 0], _, [], List.range 4, [49]⟩ :: ⟨[.op 2 0, .op 4 0], _, [], List.range 5, [50]⟩ :: ⟨[.op 2 0, .op 5 0], _, [], List.range 6, [51]⟩ :: ⟨[.op 6 0], _, [], List.range 7, [52]⟩ :: ⟨[.op 7 0, .old 2], _, [], List.range 8, [53]⟩ :: ⟨[.op 7 0], _, [], List.range 8, [54]⟩ :: ⟨[.op 7 0, .op 8 0, .op 9 0], _, [], List.range 10, [55]⟩ :: ⟨[.op 7 0, .op 10 0], _, [], List.range 11, [56]⟩ :: ⟨[.op 11 0], _, [], List.range 12, [57]⟩ :: ⟨[.op 12 0, .old 3], _, [], List.range 13, [58]⟩ :: ⟨[.op 12 0, .op 13 0], _, [], List.range 14, [59]⟩ :: ⟨[.op 12 0, .op 14 0], _, [], List.range 15, [60]⟩ :: ⟨[.op 12 0, .op 15 0], _, [], List.range 16, [61]⟩ :: ⟨[.op 16 0], _, [], List.range 17, [62]⟩ :: ⟨[.op 17 0, .old 4], _, [], List.range 18, [63]⟩ :: ⟨[.op 17 0, .op 18 0], _, [], List.range 19, [64]⟩ :: ⟨[.op 17 0, .op 19 0], _, [], List.range 20, [65]⟩ :: ⟨[.op 17 0, .op 20 0], _, [], List.range 21, [66]⟩ :: ⟨[.op 21 0], _, [], List.range 22, [67]⟩ :: ⟨[.op 22 0, .old 4], _, [], List.range 23, [68]⟩ :: ⟨[.op 22 0, .op 23 0], _, [], List.range 24, [69]⟩ :: ⟨[.op 22 0, .op 24 0], _, [], List.range 25, [70]⟩ :: ⟨[.op 22 0, .op 25 0], _, [], List.range 26, [71]⟩ :: ⟨[.op 22 0, .op 26 0], _, [], List.range 27, [72]⟩ :: ⟨[.op 22 0, .op 27 0], _, [], List.range 28, [73]⟩ :: ⟨[.op 22 0, .op 28 0], _, [], List.range 29, [74]⟩ :: ⟨[.op 29 0], _, [], List.range 30, [75]⟩ :: ⟨[.op 30 0, .old 4], _, [], List.range 31, [76]⟩ :: ⟨[.op 30 0, .op 31 0], _, [], List.range 32, [77]⟩ :: ⟨[.op 30 0, .op 32 0], _, [], List.range 33, [78]⟩ :: ⟨[.op 30 0, .op 33 0], _, [], List.range 34, [79]⟩ :: ⟨[.op 30 0, .op 34 0], _, [], List.range 35, [80]⟩ :: ⟨[.op 30 0, .op 35 0], _, [], List.range 36, [81]⟩ :: ⟨[.op 36 0], _, [], List.range 37, [82]⟩ :: ⟨[.op 37 0, .old 4], _, [], List.range 38, [83]⟩ :: ⟨[.op 37 0, .op 38 0], _, [], List.range 39, [84]⟩ :: ⟨[.op 37 0, .op 39 0], _, [], List.range 40, [85]⟩ :: ⟨[.op 37 0, .op 40 0], _, [], List.range 41, [86]⟩ :: ⟨[.op 37 0, .op 41 0], _, [], List.range 42, [87]⟩ :: ⟨[.op 37 0, .op 42 0], _, [], List.range 43, [88]⟩ :: ⟨[.op 43 0], _, [], List.range 44, [89]⟩ :: ⟨[.op 44 0, .old 5], _, [], List.range 45, [90]⟩ :: ⟨[.op 44 0, .op 45 0], _, [], List.range 46, [91]⟩ :: ⟨[.op 44 0, .op 46 0], _, [], List.range 47, [92]⟩ :: ⟨[.op 44 0, .op 47 0], _, [], List.range 48, [93]⟩ :: ⟨[.op 48 0], _, [], List.range 49, [0]⟩ :: []) (F := [.op 49 0]) hst hb Zb
   (o_p rfl (Za rfl rfl u_0) <| o_p rfl (Zbv rfl rfl u_0 c_i) <| o_p rfl (Za rfl rfl u_0) <| o_g (g_t rfl rfl rfl (fun hG => Zf Zbl rfl rfl u_0)) <| o_g (g_t rfl rfl rfl (fun hG => Zq en_9 (Zgc _ (Zbo h10 hG)) rfl rfl (.cons (Opd.gd hG u_0) .nil))) <| o_g (g_t rfl rfl rfl (fun hG => Zbv rfl rfl (Opd.gd hG u_0) c_i)) <| o_p rfl (Zbh rfl rfl u_0 (fun hz => (Opd.gd hz u_1))) <| o_p rfl (Za rfl rfl u_0) <| o_g (g_t rfl rfl rfl (fun hG => Zf Zkv rfl rfl u_0)) <| o_g (g_t rfl rfl rfl (fun hG => Zpc rfl rfl c_i c_i)) <| o_g (g_t rfl rfl rfl (fun hG => Zq Z7j (Zum _ _ (Zbo h12 hG)) rfl rfl (.cons (Opd.gd hG u_0) (.cons (Opd.gd hG u_1) .nil)))) <| o_p rfl (Zbh rfl rfl u_0 (fun hz => (Opd.gd hz u_1))) <| o_p rfl (Za rfl rfl u_0) <| o_g (g_t rfl rfl rfl (fun hG => Zf Zbl rfl rfl u_0)) <| o_g (g_t rfl rfl rfl (fun hG => Zq en_9 (Zgc _ (Zbo h14 hG)) rfl rfl (.cons (Opd.gd hG u_0) .nil))) <| o_g (g_t rfl rfl rfl (fun hG => Zbv rfl rfl (Opd.gd hG u_0) c_i)) <| o_p rfl (Zbh rfl rfl u_0 (fun hz => (Opd.gd hz u_1))) <| o_p rfl (Za rfl rfl u_0) <| o_g (g_t rfl rfl rfl (fun hG => Za rfl rfl u_0)) <| o_g (g_t rfl rfl rfl (fun hG => Zb7 Tryd.underlying50 rfl rfl (Opd.gd hG u_0))) <| o_g (g_t rfl rfl rfl (fun hG => Zbv rfl rfl (Opd.gd hG u_0) c_i)) <| o_p rfl (Zbh rfl rfl u_0 (fun hz => (Opd.gd hz u_1))) <| o_p rfl (Za rfl rfl u_0) <| o_g (g_t rfl rfl rfl (fun hG => Za rfl rfl u_0)) <| o_g (g_t rfl rfl rfl (fun hG => Zbx Tryd.underlying50 Zyb rfl rfl (Opd.gd hG u_0) c_i (Zbo h16 hG))) <| o_g (g_t rfl rfl rfl (fun hG => Ze Ztf rfl rfl (Opd.gd hG u_0))) <| o_g (g_t rfl rfl rfl (fun hG => Zf Zzb rfl rfl (Opd.gd hG u_0))) <| o_g (g_t rfl rfl rfl (fun hG => Zb7 Tryd.underlying36 rfl rfl (Opd.gd hG u_0))) <| o_g (g_t rfl rfl rfl (fun hG => Zbv rfl rfl (Opd.gd hG u_0) c_i)) <| o_p rfl (Zbh rfl rfl u_0 (fun hz => (Opd.gd hz u_1))) <| o_p rfl (Za rfl rfl u_0) <| o_g (g_t rfl rfl rfl (fun hG => Za rfl rfl u_0)) <| o_g (g_t rfl rfl rfl (fun hG => Zbx Tryd.underlying50 Zyb rfl rfl (Opd.gd hG u_0) c_i (Zbo h18 hG))) <| o_g (g_t rfl rfl rfl (fun hG => Ze Zs1 rfl rfl (Opd.gd hG u_0))) <| o_g (g_t rfl rfl rfl (fun hG => Zf Zk3 rfl rfl (Opd.gd hG u_0))) <| o_g (g_t rfl rfl rfl (fun hG => Zbv rfl rfl (Opd.gd hG u_0) c_i)) <| o_p rfl (Zbh rfl rfl u_0 (fun hz => (Opd.gd hz u_1))) <| o_p rfl (Za rfl rfl u_0) <| o_g (g_t rfl rfl rfl (fun hG => Za rfl rfl u_0)) <| o_g (g_t rfl rfl rfl (fun hG => Zbx Tryd.underlying50 Zyb rfl rfl (Opd.gd hG u_0) c_i (Zbo h20 hG))) <| o_g (g_t rfl rfl rfl (fun hG => Ze Zs6 rfl rfl (Opd.gd hG u_0))) <| o_g (g_t rfl rfl rfl (fun hG => Zf ty_3 rfl rfl (Opd.gd hG u_0))) <| o_g (g_t rfl rfl rfl (fun hG => Zbv rfl rfl (Opd.gd hG u_0) c_i)) <| o_p rfl (Zbh rfl rfl u_0 (fun hz => (Opd.gd hz u_1))) <| o_p rfl (Za rfl rfl u_0) <| o_g (g_t rfl rfl rfl (fun hG => Ze Zli rfl rfl u_0)) <| o_g (g_t rfl rfl rfl (fun hG => Zf Zk3 rfl rfl (Opd.gd hG u_0))) <| o_g (g_t rfl rfl rfl (fun hG => Zbv rfl rfl (Opd.gd hG u_0) c_i)) <| o_p rfl (Zbh rfl rfl u_0 (fun hz => (Opd.gd hz u_1))) <| o_p rfl (Zc rfl rfl u_0) <| o_n) (by kernel_rfl) (fun a g hst hb => ?_)
 refine wp_ret ?_
 obtain rfl := Option.some.inj H0
 exact Z2 rfl hst hb (Zk (s := 0)) (hst.at 0 rfl)
end Go.CL
set_option linter.unusedVariables false
set_option linter.unusedSimpArgs false
set_option maxRecDepth 100000
namespace Go.CL
open Go Go.RowKit Go.Proofs
theorem Zl0 (a0 : Zd) {r : Int} (h : Zgl a0 = some r) : FnOk Tryd.prog 18 [(Zi.pd a0)] (pInt .i64 r) := by
 have H0 := h
 unfold Zgl at H0
 clear h
 refine Zbr (N := 27) Tryd.func18 rfl rfl (Nat.le_of_ble_eq_true rfl) rfl rfl (fun a g0 hst hb => ?_)
 refine r_s (T := [⟨[.old 0], _, [], [], [1]⟩, ⟨[], _, [], [], [2]⟩]) (F := [.op 0 0]) hst hb Zb
   (o_p rfl (Zbj rfl rfl u_0) <| o_p rfl (Zc rfl rfl c_i) <| o_n) (by kernel_rfl) (fun a g hst hb => ?_)
 refine wp_seq ?_
 refine r_s (T := [⟨[.old 0], _, [], [], [5]⟩, ⟨[.op 0 0], _, [], [0], [6]⟩, ⟨[.op 1 0], _, [], [0, 1], [7]⟩, ⟨[.op 2 0], _, [], [0, 1, 2], [8]⟩, ⟨[.op 3 0], _, [], List.range 4, [9]⟩, ⟨[.op 4 0, .old 0], _, [], List.range 5, [10]⟩, ⟨[.op 4 0, .op 5 0], _, [], List.range 6, [11]⟩, ⟨[.op 4 0, .op 6 0], _, [], List.range 7, [12]⟩, ⟨[.op 4 0, .op 7 0], _, [], List.range 8, [13]⟩, ⟨[.op 4 0, .op 8 0], _, [], List.range 9, [14]⟩]) (F := [.old 0, .op 9 0]) hst hb Zb
   (o_p rfl (Ze Zdb rfl rfl u_0) <| o_p rfl (Zf Zer rfl rfl u_0) <| o_p rfl (Zb7 Tryd.underlying43 rfl rfl u_0) <| o_p rfl (Zcj rfl rfl u_0 c_i) <| o_p rfl (Za rfl rfl u_0) <| o_g (g_f rfl rfl rfl (fun hG => Ze Zjj rfl rfl u_0)) <| o_g (g_f rfl rfl rfl (fun hG => Zf ty_9 rfl rfl (Opd.gd hG u_0))) <| o_g (g_f rfl rfl rfl (fun hG => Zfk Tryd.underlying9 rfl rfl (Opd.gd hG u_0))) <| o_g (g_f rfl rfl rfl (fun hG => Zcj rfl rfl (Opd.gd hG u_0) c_i)) <| o_p rfl (Zby rfl rfl u_0 (fun hz => (Opd.gd (bNF hz) u_1))) <| o_n) (by kernel_rfl) (fun a g hst hb => ?_)
 refine wp_cond_split (hst.bool 1 rfl) (fun hc1 => ?_) (fun hc1 => ?_)
 · replace H0 := Z1 hc1 H0
   refine r_s (L := []) (T := [⟨[], _, [], [], [2]⟩]) (F := [.op 0 0]) (hst.pick [] rfl) hb Zb
     (o_p rfl (Zc rfl rfl c_i) <| o_n) (by kernel_rfl) (fun a g hst hb => ?_)
   refine wp_ret ?_
   refine Zs ?_
   obtain rfl := Option.some.inj H0
   exact Z2 rfl hst hb (Zk (s := 2)) (hst.at 0 rfl)
 · replace H0 := Z0 hc1 H0
   refine wp_skip ?_
   refine Zt ?_
   refine wp_seq ?_
   refine r_s (L := [(1, _)]) (T := [⟨[.old 0], _, [], [], [15]⟩, ⟨[.op 0 0], _, [], [0], [16]⟩, ⟨[.op 1 0], _, [], [0, 1], [17]⟩, ⟨[], _, [], [], [18]⟩]) (F := [.op 1 0, .op 2 0, .op 3 0]) (hst.pick [0] rfl) hb Zb
     (o_p rfl (Ze Zdb rfl rfl u_0) <| o_p rfl (Zf Zer rfl rfl u_0) <| o_p rfl (Zb7 Tryd.underlying43 rfl rfl u_0) <| o_p rfl (Za rfl rfl c_i) <| o_n) (by kernel_rfl) (fun a g hst hb => ?_)
   obtain ⟨z7, hz1, H0⟩ := Zh H0
   refine Zc6 (fun a w => ∃ (g : G), w = g.w ∧ St 27 [] a g ∧ Base g0 g ∧ (.inr ()) = z7) ?_ ?_
   · rintro a w ⟨g, rfl, hst, hb, rfl⟩
     refine Zt ?_
     refine r_s (T := [⟨[], _, [], [], [2]⟩]) (F := [.op 0 0]) hst hb Zb
       (o_p rfl (Zc rfl rfl c_i) <| o_n) (by kernel_rfl) (fun a g hst hb => ?_)
     refine wp_ret ?_
     obtain rfl := Option.some.inj H0
     exact Z2 rfl hst hb (Zk (s := 2)) (hst.at 0 rfl)
   · refine wp_block ?_
     refine wp_loop_ghost (fun n a w => ∃ (x2 : Int) (g : G), w = g.w ∧ St 27 [(16, (Zu.sl.pd a0.List)), (17, (pInt .i64 (a0.List.length : Int))), (18, (pInt .i64 x2))] a g ∧ Base g0 g ∧ Zd3 a0 n x2 = some z7) (Int.toNat ((a0.List.length : Int) - (0 : Int)) + 1) ⟨(0 : Int), g, rfl, (hst.pick [0, 1, 2] rfl), hb, hz1⟩ (fun n a w hI => ?_)
     obtain ⟨x2, g, rfl, hst, hb, H1⟩ := hI
     cases n with
     | zero => exact absurd H1 (by simp [Zd3])
     | succ n =>
       rw [Zd3] at H1
       refine r_s (T := [⟨[.old 2, .old 1], _, [], [], [19]⟩]) (F := [.old 0, .old 1, .old 2, .op 0 0]) hst hb Zb
         (o_p rfl (Zcy rfl rfl u_0 u_1) <| o_n) (by kernel_rfl) (fun a g hst hb => ?_)
       refine wp_seq ?_
       refine wp_cond_split (hst.bool 3 rfl) (fun hc3 => ?_) (fun hc3 => ?_)
       · replace H1 := Z1 hc3 H1
         refine wp_skip ?_
         refine Zt ?_
         refine wp_seq ?_
         refine wp_block ?_
         obtain ⟨e4, h5, H1⟩ := Zh H1
         refine r_s (L := [(16, _), (17, _), (18, _)]) (T := [⟨[.old 0, .old 2], _, [], [], [20]⟩, ⟨[.op 0 0], _, [], [0], [21]⟩, ⟨[], [(4, (pBox Zu 4 (default : Zj)))], [5], [], [4]⟩, ⟨[.op 1 0, .op 2 0], _, [5], [0, 1, 2], [4]⟩]) (F := [.op 3 0, .old 0, .old 1, .old 2]) (hst.pick [0, 1, 2] rfl) hb Zb
           (o_p rfl (Zbx Tryd.underlying43 Zi6 rfl rfl u_0 u_1 h5) <| o_p rfl (Zf Zfd rfl rfl u_0) <| o_p rfl (Zbc (zs := [.float .f64 0, .string ByteArray.empty]) (by kernel_rfl) (fun g => Zi1 g) rfl rfl) <| o_p rfl (Zb0 Zfd rfl rfl u_1 u_0) <| o_n) (by kernel_rfl) (fun a g hst hb => ?_)
         refine r_s (T := [⟨[.old 0], _, [], [], [22]⟩, ⟨[.op 0 0], _, [], [0], [23]⟩, ⟨[.op 1 0], _, [], [0, 1], [24]⟩, ⟨[.op 2 0], _, [], [0, 1, 2], [25]⟩]) (F := [.old 1, .old 2, .old 3, .op 3 0]) hst hb Zb
           (o_p rfl (Ze Zfz rfl rfl u_0) <| o_p rfl (Zf ty_9 rfl rfl u_0) <| o_p rfl (Zfk Tryd.underlying9 rfl rfl u_0) <| o_p rfl (Zcj rfl rfl u_0 c_i) <| o_n) (by kernel_rfl) (fun a g hst hb => ?_)
         refine wp_cond_split (hst.bool 3 rfl) (fun hc6 => ?_) (fun hc6 => ?_)
         · replace H1 := Z1 hc6 H1
           refine r_s (L := []) (T := [⟨[], _, [], [], [2]⟩]) (F := [.op 0 0]) (hst.pick [] rfl) hb Zb
             (o_p rfl (Zc rfl rfl c_i) <| o_n) (by kernel_rfl) (fun a g hst hb => ?_)
           refine wp_ret ?_
           refine Zy ?_
           refine Zs ?_
           refine Zs ?_
           refine Zy ?_
           refine Zs ?_
           refine Zs ?_
           obtain rfl := Option.some.inj H1
           obtain rfl := Option.some.inj H0
           exact Z2 rfl hst hb (Zk (s := 2)) (hst.at 0 rfl)
         · replace H1 := Z0 hc6 H1
           refine wp_skip ?_
           refine Zbt ?_
           refine Zt ?_
           refine r_g (L := [(16, _), (17, _), (18, _)]) (T := [⟨[.old 2], _, [], [], [26]⟩, ⟨[.op 0 0], _, [], [0], [18]⟩]) (F := [.old 0, .old 1, .op 1 0]) (hst.pick [0, 1, 2] rfl) hb Zb
             (o_p rfl (Zcb rfl rfl u_0 c_i rfl) <| o_p rfl (Za rfl rfl u_0) <| o_n) (by kernel_rfl) (fun a g hst hb => ?_)
           exact ⟨n, Nat.lt_succ_self _, (IntKind.i64.wrap (x2 + (1 : Int))), g, rfl, (hst.pick [0, 1, 2] rfl), hb, H1⟩
       · replace H1 := Z0 hc3 H1
         refine wp_exit ?_
         refine Zcc ?_
         refine Zcc ?_
         refine Zda ?_
         exact ⟨g, rfl, (hst.pick [] rfl), hb, Option.some.inj H1⟩
end Go.CL
set_option linter.unusedVariables false
set_option linter.unusedSimpArgs false
set_option maxRecDepth 100000
namespace Go.CL
open Go Go.RowKit Go.Proofs
theorem Zi4 (a0 : Nat) {r : Bool} (h : Zel a0 = some r) : FnOk Tryd.prog 88 [(pFlt a0)] (Zbb r) := by
 have H0 := h
 unfold Zel at H0
 clear h
 refine Zbr (N := 6) Tryd.func88 rfl rfl (Nat.le_of_ble_eq_true rfl) rfl rfl (fun a g0 hst hb => ?_)
 refine r_s (T := [⟨[], _, [], [], [2]⟩]) (F := [.old 0]) hst hb Zb
   (o_p rfl (Zc rfl rfl c_b) <| o_n) (by kernel_rfl) (fun a g hst hb => ?_)
 refine r_s (T := [⟨[.old 0], _, [], [], [3]⟩, ⟨[.old 0], _, [], [], [4]⟩, ⟨[.op 0 0, .op 1 0], _, [], [0, 1], [5]⟩, ⟨[.op 2 0], _, [], [0, 1, 2], [2]⟩]) (F := [.op 3 0]) hst hb Zb
   (o_p rfl (Za rfl rfl u_0) <| o_p rfl (Za rfl rfl u_0) <| o_p rfl (Zxt rfl rfl u_0 u_1) <| o_p rfl (Zc rfl rfl u_0) <| o_n) (by kernel_rfl) (fun a g hst hb => ?_)
 refine wp_ret ?_
 obtain rfl := Option.some.inj H0
 exact Z2 rfl hst hb (Zk (s := 2)) (hst.at 0 rfl)
end Go.CL
set_option linter.unusedVariables false
set_option linter.unusedSimpArgs false
set_option maxRecDepth 100000
namespace Go.CL
open Go Go.RowKit Go.Proofs
theorem Zkx (a0 : Nat) {r : Bool} (h : Zfm a0 = some r) : FnOk Tryd.prog 100 [(pFlt a0)] (Zbb r) := by
 have H0 := h
 unfold Zfm at H0
 clear h
 refine Zbr (N := 10) Tryd.func100 rfl rfl (Nat.le_of_ble_eq_true rfl) rfl rfl (fun a g0 hst hb => ?_)
 refine r_s (T := [⟨[], _, [], [], [2]⟩]) (F := [.old 0]) hst hb Zb
   (o_p rfl (Zc rfl rfl c_b) <| o_n) (by kernel_rfl) (fun a g hst hb => ?_)
 refine wp_seq ?_
 refine r_s (T := [⟨[.old 0], _, [], [], [3]⟩, ⟨[.op 0 0], _, [], [0], [4]⟩]) (F := [.old 0, .op 1 0]) hst hb Zb
   (o_p rfl (Za rfl rfl u_0) <| o_p rfl (Ztb rfl rfl u_0 c_f) <| o_n) (by kernel_rfl) (fun a g hst hb => ?_)
 refine wp_cond_split (hst.bool 1 rfl) (fun hc1 => ?_) (fun hc1 => ?_)
 · replace H0 := Z1 hc1 H0
   obtain ⟨f2, h3, H0⟩ := Zh H0
   refine r_s (L := [(0, _)]) (T := [⟨[.old 0], _, [], [], [5]⟩, ⟨[.op 0 0], _, [], [0], [6]⟩, ⟨[.op 1 0], _, [], [0, 1], [7]⟩, ⟨[.op 2 0], _, [], [0, 1, 2], [2]⟩]) (F := [.op 3 0]) (hst.pick [0] rfl) hb Zb
     (o_p rfl (Za rfl rfl u_0) <| o_p rfl (Z3b rfl rfl c_f u_0 h3) <| o_p rfl (Zs5 rfl rfl u_0 c_f) <| o_p rfl (Zc rfl rfl u_0) <| o_n) (by kernel_rfl) (fun a g hst hb => ?_)
   refine wp_ret ?_
   refine Zs ?_
   obtain rfl := Option.some.inj H0
   exact Z2 rfl hst hb (Zk (s := 2)) (hst.at 0 rfl)
 · replace H0 := Z0 hc1 H0
   refine wp_skip ?_
   refine Zt ?_
   refine r_s (L := [(0, _)]) (T := [⟨[.old 0], _, [], [], [8]⟩, ⟨[.op 0 0], _, [], [0], [9]⟩, ⟨[.op 1 0], _, [], [0, 1], [2]⟩]) (F := [.op 2 0]) (hst.pick [0] rfl) hb Zb
     (o_p rfl (Za rfl rfl u_0) <| o_p rfl (Zs5 rfl rfl u_0 c_f) <| o_p rfl (Zc rfl rfl u_0) <| o_n) (by kernel_rfl) (fun a g hst hb => ?_)
   refine wp_ret ?_
   obtain rfl := Option.some.inj H0
   exact Z2 rfl hst hb (Zk (s := 2)) (hst.at 0 rfl)
end Go.CL
set_option linter.unusedVariables false
set_option linter.unusedSimpArgs false
set_option maxRecDepth 100000
namespace Go.CL
open Go Go.RowKit Go.Proofs
theorem Zi5 (a0 : Nat) (a1 : Nat) {r : Bool} (h : Zd5 a0 a1 = some r) : FnOk Tryd.prog 97 [(pFlt a0), (pFlt a1)] (Zbb r) := by
 have H0 := h
 unfold Zd5 at H0
 clear h
 refine Zbr (N := 25) Tryd.func97 rfl rfl (Nat.le_of_ble_eq_true rfl) rfl rfl (fun a g0 hst hb => ?_)
 refine r_s (T := [⟨[], _, [], [], [4]⟩]) (F := [.old 0, .old 1]) hst hb Zb
   (o_p rfl (Zc rfl rfl c_b) <| o_n) (by kernel_rfl) (fun a g hst hb => ?_)
 refine wp_seq ?_
 obtain ⟨r1, h2, H0⟩ := Zh H0
 refine r_s (T := [⟨[.old 0], _, [], [], [5]⟩, ⟨[.op 0 0], _, [], [0], [6]⟩]) (F := [.old 0, .old 1, .op 1 0]) hst hb Zb
   (o_p rfl (Za rfl rfl u_0) <| o_p rfl (Zq Zzd (Zi4 _ h2) rfl rfl (.cons u_0 .nil)) <| o_n) (by kernel_rfl) (fun a g hst hb => ?_)
 refine wp_cond_split (hst.bool 2 rfl) (fun hc3 => ?_) (fun hc3 => ?_)
 · replace H0 := Z1 hc3 H0
   refine r_s (L := []) (T := [⟨[], _, [], [], [4]⟩]) (F := [.op 0 0]) (hst.pick [] rfl) hb Zb
     (o_p rfl (Zc rfl rfl c_b) <| o_n) (by kernel_rfl) (fun a g hst hb => ?_)
   refine wp_ret ?_
   refine Zs ?_
   obtain rfl := Option.some.inj H0
   exact Z2 rfl hst hb (Zk (s := 4)) (hst.at 0 rfl)
 · replace H0 := Z0 hc3 H0
   refine wp_skip ?_
   refine Zt ?_
   refine wp_seq ?_
   obtain ⟨r4, h5, H0⟩ := Zh H0
   refine r_s (L := [(0, _), (1, _)]) (T := [⟨[.old 1], _, [], [], [7]⟩, ⟨[.op 0 0], _, [], [0], [8]⟩]) (F := [.old 0, .old 1, .op 1 0]) (hst.pick [0, 1] rfl) hb Zb
     (o_p rfl (Za rfl rfl u_0) <| o_p rfl (Zq Zzd (Zi4 _ h5) rfl rfl (.cons u_0 .nil)) <| o_n) (by kernel_rfl) (fun a g hst hb => ?_)
   refine wp_cond_split (hst.bool 2 rfl) (fun hc6 => ?_) (fun hc6 => ?_)
   · replace H0 := Z1 hc6 H0
     refine r_s (L := []) (T := [⟨[], _, [], [], [4]⟩]) (F := [.op 0 0]) (hst.pick [] rfl) hb Zb
       (o_p rfl (Zc rfl rfl c_b) <| o_n) (by kernel_rfl) (fun a g hst hb => ?_)
     refine wp_ret ?_
     refine Zs ?_
     obtain rfl := Option.some.inj H0
     exact Z2 rfl hst hb (Zk (s := 4)) (hst.at 0 rfl)
   · replace H0 := Z0 hc6 H0
     refine wp_skip ?_
     refine Zt ?_
     refine wp_seq ?_
     refine r_s (L := [(0, _), (1, _)]) (T := [⟨[.old 0], _, [], [], [9]⟩, ⟨[.op 0 0], _, [], [0], [10]⟩, ⟨[.op 1 0], _, [], [0, 1], [11]⟩, ⟨[.op 2 0, .old 1], _, [], [0, 1, 2], [12]⟩, ⟨[.op 2 0, .op 3 0], _, [], List.range 4, [13]⟩, ⟨[.op 2 0, .op 4 0], _, [], List.range 5, [14]⟩]) (F := [.old 0, .old 1, .op 5 0]) (hst.pick [0, 1] rfl) hb Zb
       (o_p rfl (Za rfl rfl u_0) <| o_p rfl (Ztb rfl rfl u_0 c_f) <| o_p rfl (Za rfl rfl u_0) <| o_g (g_t rfl rfl rfl (fun hG => Za rfl rfl u_0)) <| o_g (g_t rfl rfl rfl (fun hG => Ztb rfl rfl (Opd.gd hG u_0) c_f)) <| o_p rfl (Zbh rfl rfl u_0 (fun hz => (Opd.gd hz u_1))) <| o_n) (by kernel_rfl) (fun a g hst hb => ?_)
     refine wp_cond_split (hst.bool 2 rfl) (fun hc7 => ?_) (fun hc7 => ?_)
     · replace H0 := Z1 hc7 H0
       obtain ⟨r8, h9, H0⟩ := Zh H0; obtain ⟨r10, h11, H0⟩ := Zh H0
       refine r_s (L := [(0, _), (1, _)]) (T := [⟨[.old 0], _, [], [], [15]⟩, ⟨[.op 0 0], _, [], [0], [16]⟩, ⟨[.op 1 0], _, [], [0, 1], [17]⟩, ⟨[.op 2 0, .old 1], _, [], [0, 1, 2], [18]⟩, ⟨[.op 2 0, .op 3 0], _, [], List.range 4, [19]⟩, ⟨[.op 2 0, .op 4 0], _, [], List.range 5, [20]⟩, ⟨[.op 2 0, .op 5 0], _, [], List.range 6, [21]⟩, ⟨[.op 6 0], _, [], List.range 7, [4]⟩]) (F := [.op 7 0]) (hst.pick [0, 1] rfl) hb Zb
         (o_p rfl (Za rfl rfl u_0) <| o_p rfl (Zq Zzl (Zkx _ h9) rfl rfl (.cons u_0 .nil)) <| o_p rfl (Za rfl rfl u_0) <| o_g (g_t rfl rfl rfl (fun hG => Za rfl rfl u_0)) <| o_g (g_t rfl rfl rfl (fun hG => Zq Zzl (Zkx _ (Zbo h11 hG)) rfl rfl (.cons (Opd.gd hG u_0) .nil))) <| o_g (g_t rfl rfl rfl (fun hG => Zcv rfl rfl (Opd.gd hG u_0))) <| o_p rfl (Zbh rfl rfl u_0 (fun hz => (Opd.gd hz u_1))) <| o_p rfl (Zc rfl rfl u_0) <| o_n) (by kernel_rfl) (fun a g hst hb => ?_)
       refine wp_ret ?_
       refine Zs ?_
       obtain rfl := Option.some.inj H0
       exact Z2 rfl hst hb (Zk (s := 4)) (hst.at 0 rfl)
     · replace H0 := Z0 hc7 H0
       refine wp_skip ?_
       refine Zt ?_
       refine r_s (L := [(0, _), (1, _)]) (T := [⟨[.old 0], _, [], [], [22]⟩, ⟨[.old 1], _, [], [], [23]⟩, ⟨[.op 0 0, .op 1 0], _, [], [0, 1], [24]⟩, ⟨[.op 2 0], _, [], [0, 1, 2], [4]⟩]) (F := [.op 3 0]) (hst.pick [0, 1] rfl) hb Zb
         (o_p rfl (Za rfl rfl u_0) <| o_p rfl (Za rfl rfl u_0) <| o_p rfl (Zs5 rfl rfl u_0 u_1) <| o_p rfl (Zc rfl rfl u_0) <| o_n) (by kernel_rfl) (fun a g hst hb => ?_)
       refine wp_ret ?_
       obtain rfl := Option.some.inj H0
       exact Z2 rfl hst hb (Zk (s := 4)) (hst.at 0 rfl)
end Go.CL
set_option linter.unusedVariables false
set_option linter.unusedSimpArgs false
set_option maxRecDepth 100000
namespace Go.CL
open Go Go.RowKit Go.Proofs
theorem Zk5 (a0 : Nat) (a1 : Nat) {r : Bool} (h : Zde a0 a1 = some r) : FnOk Tryd.prog 96 [(pFlt a0), (pFlt a1)] (Zbb r) := by
 have H0 := h
 unfold Zde at H0
 clear h
 refine Zbr (N := 15) Tryd.func96 rfl rfl (Nat.le_of_ble_eq_true rfl) rfl rfl (fun a g0 hst hb => ?_)
 refine r_s (T := [⟨[], _, [], [], [4]⟩]) (F := [.old 0, .old 1]) hst hb Zb
   (o_p rfl (Zc rfl rfl c_b) <| o_n) (by kernel_rfl) (fun a g hst hb => ?_)
 obtain ⟨r1, h2, H0⟩ := Zh H0; obtain ⟨r3, h4, H0⟩ := Zh H0
 refine r_s (T := [⟨[.old 0], _, [], [], [5]⟩, ⟨[.old 1], _, [], [], [6]⟩, ⟨[.op 0 0, .op 1 0], _, [], [0, 1], [7]⟩, ⟨[.op 2 0], _, [], [0, 1, 2], [8]⟩, ⟨[.op 3 0], _, [], List.range 4, [9]⟩, ⟨[.op 4 0, .old 1], _, [], List.range 5, [10]⟩, ⟨[.op 4 0, .old 0], _, [], List.range 5, [11]⟩, ⟨[.op 4 0, .op 5 0, .op 6 0], _, [], List.range 7, [12]⟩, ⟨[.op 4 0, .op 7 0], _, [], List.range 8, [13]⟩, ⟨[.op 4 0, .op 8 0], _, [], List.range 9, [14]⟩, ⟨[.op 9 0], _, [], List.range 10, [4]⟩]) (F := [.op 10 0]) hst hb Zb
   (o_p rfl (Za rfl rfl u_0) <| o_p rfl (Za rfl rfl u_0) <| o_p rfl (Zq Zyo (Zi5 _ _ h2) rfl rfl (.cons u_0 (.cons u_1 .nil))) <| o_p rfl (Zcv rfl rfl u_0) <| o_p rfl (Za rfl rfl u_0) <| o_g (g_t rfl rfl rfl (fun hG => Za rfl rfl u_0)) <| o_g (g_t rfl rfl rfl (fun hG => Za rfl rfl u_0)) <| o_g (g_t rfl rfl rfl (fun hG => Zq Zyo (Zi5 _ _ (Zbo h4 hG)) rfl rfl (.cons (Opd.gd hG u_0) (.cons (Opd.gd hG u_1) .nil)))) <| o_g (g_t rfl rfl rfl (fun hG => Zcv rfl rfl (Opd.gd hG u_0))) <| o_p rfl (Zbh rfl rfl u_0 (fun hz => (Opd.gd hz u_1))) <| o_p rfl (Zc rfl rfl u_0) <| o_n) (by kernel_rfl) (fun a g hst hb => ?_)
 refine wp_ret ?_
 obtain rfl := Option.some.inj H0
 exact Z2 rfl hst hb (Zk (s := 4)) (hst.at 0 rfl)
end Go.CL
set_option linter.unusedVariables false
set_option linter.unusedSimpArgs false
set_option maxRecDepth 100000
namespace Go.CL
open Go Go.RowKit Go.Proofs
theorem Zk7 (a0 : Nat) {r : Bool} (h : Zf3 a0 = some r) : FnOk Tryd.prog 87 [(pFlt a0)] (Zbb r) := by
 have H0 := h
 unfold Zf3 at H0
 clear h
 refine Zbr (N := 5) Tryd.func87 rfl rfl (Nat.le_of_ble_eq_true rfl) rfl rfl (fun a g0 hst hb => ?_)
 refine r_s (T := [⟨[], _, [], [], [2]⟩]) (F := [.old 0]) hst hb Zb
   (o_p rfl (Zc rfl rfl c_b) <| o_n) (by kernel_rfl) (fun a g hst hb => ?_)
 obtain ⟨r1, h2, H0⟩ := Zh H0
 refine r_s (T := [⟨[.old 0], _, [], [], [3]⟩, ⟨[.op 0 0], _, [], [0], [4]⟩, ⟨[.op 1 0], _, [], [0, 1], [2]⟩]) (F := [.op 2 0]) hst hb Zb
   (o_p rfl (Za rfl rfl u_0) <| o_p rfl (Zq Z2z (Zk5 _ _ h2) rfl rfl (.cons u_0 (.cons c_f .nil))) <| o_p rfl (Zc rfl rfl u_0) <| o_n) (by kernel_rfl) (fun a g hst hb => ?_)
 refine wp_ret ?_
 obtain rfl := Option.some.inj H0
 exact Z2 rfl hst hb (Zk (s := 2)) (hst.at 0 rfl)
end Go.CL
set_option linter.unusedVariables false
set_option linter.unusedSimpArgs false
set_option maxRecDepth 100000
namespace Go.CL
open Go Go.RowKit Go.Proofs
theorem Zot (a0 : Zd) (a1 : ByteArray) {r : Bool} (h : Zhc a0 a1 = some r) : FnOk Tryd.prog 56 [(Zi.pd a0), (pStr a1)] (Zbb r) := by
 have H0 := h
 unfold Zhc at H0
 clear h
 refine Zbr (N := 106) Tryd.func56 rfl rfl (Nat.le_of_ble_eq_true rfl) rfl rfl (fun a g0 hst hb => ?_)
 refine r_s (T := [⟨[.old 0], _, [], [], [2]⟩, ⟨[], _, [], [], [4]⟩]) (F := [.old 1, .op 0 0]) hst hb Zb
   (o_p rfl (Zbj rfl rfl u_0) <| o_p rfl (Zc rfl rfl c_b) <| o_n) (by kernel_rfl) (fun a g hst hb => ?_)
 refine r_s (T := [⟨[], _, [], [], [5]⟩, ⟨[], _, [], [0], [6]⟩, ⟨[], _, [], [0, 1], [7]⟩, ⟨[], _, [], [0, 1, 2], [8]⟩, ⟨[], _, [], List.range 4, [9]⟩]) (F := [.old 0, .old 1, .op 0 0, .op 1 0, .op 2 0, .op 3 0, .op 4 0]) hst hb Zb
   (o_p rfl (Zc rfl rfl c_b) <| o_p rfl (Zc rfl rfl c_b) <| o_p rfl (Zc rfl rfl c_b) <| o_p rfl (Zc rfl rfl c_b) <| o_p rfl (Zc rfl rfl c_b) <| o_n) (by kernel_rfl) (fun a g hst hb => ?_)
 refine wp_seq ?_
 refine r_s (T := [⟨[], _, [], [], [10]⟩]) (F := [.old 0, .old 1, .old 2, .old 3, .old 4, .old 5, .old 6, .op 0 0]) hst hb Zb
   (o_p rfl (Zc rfl rfl c_i) <| o_n) (by kernel_rfl) (fun a g hst hb => ?_)
 obtain ⟨z23, hz1, H0⟩ := Zh H0
 refine Zc6 (fun a w => ∃ (y18 : Bool) (y19 : Bool) (y20 : Bool) (y21 : Bool) (y22 : Bool) (g : G), w = g.w ∧ St 106 [(2, (Zi.ptr a0)), (5, (Zbb y18)), (6, (Zbb y19)), (7, (Zbb y20)), (8, (Zbb y21)), (9, (Zbb y22))] a g ∧ Base g0 g ∧ (y18, y19, y20, y21, y22) = z23) ?_ ?_
 · rintro a w ⟨y18, y19, y20, y21, y22, g, rfl, hst, hb, rfl⟩
   refine Zt ?_
   refine wp_seq ?_
   refine r_s (T := ⟨[.old 1], _, [], [], [52]⟩ :: ⟨[.op 0 0], _, [], [0], [53]⟩ :: ⟨[.op 1 0], _, [], [0, 1], [54]⟩ :: ⟨[.op 2 0, .old 0], _, [], [0, 1, 2], [55]⟩ :: ⟨[.op 2 0, .op 3 0], _, [], List.range 4, [56]⟩ :: ⟨[.op 2 0, .op 4 0], _, [], List.range 5, [57]⟩ :: ⟨[.op 2 0, .op 5 0], _, [], List.range 6, [58]⟩ :: ⟨[.op 6 0], _, [], List.range 7, [59]⟩ :: ⟨[.op 7 0, .old 2], _, [], List.range 8, [60]⟩ :: ⟨[.op 7 0, .op 8 0], _, [], List.range 9, [61]⟩ :: ⟨[.op 7 0, .op 9 0], _, [], List.range 10, [62]⟩ :: ⟨[.op 10 0, .old 0], _, [], List.range 11, [63]⟩ :: ⟨[.op 10 0, .op 11 0], _, [], List.range 12, [64]⟩ :: ⟨[.op 10 0, .op 12 0], _, [], List.range 13, [65]⟩ :: ⟨[.op 7 0, .op 10 0, .op 13 0], _, [], List.range 14, [66]⟩ :: ⟨[.op 7 0, .op 14 0], _, [], List.range 15, [67]⟩ :: ⟨[.op 15 0], _, [], List.range 16, [68]⟩ :: ⟨[.op 16 0, .old 3], _, [], List.range 17, [69]⟩ :: ⟨[.op 16 0, .op 17 0], _, [], List.range 18, [70]⟩ :: ⟨[.op 16 0, .op 18 0], _, [], List.range 19, [71]⟩ :: ⟨[.op 19 0, .old 0], _, [], List.range 20, [72]⟩ :: ⟨[.op 19 0, .op 20 0], _, [], List.range 21, [73]⟩ :: ⟨[.op 19 0, .op 21 0], _, [], List.range 22, [74]⟩ :: ⟨[.op 16 0, .op 19 0, .op 22 0], _, [], List.range 23, [75]⟩ :: ⟨[.op 16 0, .op 23 0], _, [], List.range 24, [76]⟩ :: ⟨[.op 24 0], _, [], List.range 25, [77]⟩ :: ⟨[.op 25 0, .old 3], _, [], List.range 26, [78]⟩ :: ⟨[.op 25 0, .op 26 0], _, [], List.range 27, [79]⟩ :: ⟨[.op 25 0, .op 27 0], _, [], List.range 28, [80]⟩ :: ⟨[.op 28 0, .old 0], _, [], List.range 29, [81]⟩ :: ⟨[.op 28 0, .op 29 0], _, [], List.range 30, [82]⟩ :: ⟨[.op 28 0, .op 30 0], _, [], List.range 31, [83]⟩ :: ⟨[.op 25 0, .op 28 0, .op 31 0], _, [], List.range 32, [84]⟩ :: ⟨[.op 25 0, .op 32 0], _, [], List.range 33, [85]⟩ :: []) (F := [.old 0, .old 4, .old 5, .op 33 0]) hst hb Zb
     (o_p rfl (Za rfl rfl u_0) <| o_p rfl (Zcv rfl rfl u_0) <| o_p rfl (Za rfl rfl u_0) <| o_g (g_t rfl rfl rfl (fun hG => Ze Zjj rfl rfl u_0)) <| o_g (g_t rfl rfl rfl (fun hG => Zf ty_9 rfl rfl (Opd.gd hG u_0))) <| o_g (g_t rfl rfl rfl (fun hG => Z5x rfl rfl (Opd.gd hG u_0) c_s)) <| o_p rfl (Zbh rfl rfl u_0 (fun hz => (Opd.gd hz u_1))) <| o_p rfl (Za rfl rfl u_0) <| o_g (g_f rfl rfl rfl (fun hG => Za rfl rfl u_0)) <| o_g (g_f rfl rfl rfl (fun hG => Zcv rfl rfl (Opd.gd hG u_0))) <| o_g (g_f rfl rfl rfl (fun hG => Za rfl rfl (Opd.gd hG u_0))) <| o_g (g_ti rfl rfl rfl (fun hG => Ze Zd9 rfl rfl u_0)) <| o_g (g_ti rfl rfl rfl (fun hG => Zf ty_2 rfl rfl (Opd.gd hG u_0))) <| o_g (g_ti rfl rfl rfl (fun hG => Zfr rfl rfl (Opd.gd hG u_0) c_i)) <| o_g (g_f rfl rfl rfl (fun hG => Zbh rfl rfl (Opd.gd hG u_0) (fun hz => (Opd.gd (bA hG hz) u_1)))) <| o_p rfl (Zby rfl rfl u_0 (fun hz => (Opd.gd (bNF hz) u_1))) <| o_p rfl (Za rfl rfl u_0) <| o_g (g_f rfl rfl rfl (fun hG => Za rfl rfl u_0)) <| o_g (g_f rfl rfl rfl (fun hG => Zcv rfl rfl (Opd.gd hG u_0))) <| o_g (g_f rfl rfl rfl (fun hG => Za rfl rfl (Opd.gd hG u_0))) <| o_g (g_ti rfl rfl rfl (fun hG => Ze Zjn rfl rfl u_0)) <| o_g (g_ti rfl rfl rfl (fun hG => Zf ty_2 rfl rfl (Opd.gd hG u_0))) <| o_g (g_ti rfl rfl rfl (fun hG => Zfr rfl rfl (Opd.gd hG u_0) c_i)) <| o_g (g_f rfl rfl rfl (fun hG => Zbh rfl rfl (Opd.gd hG u_0) (fun hz => (Opd.gd (bA hG hz) u_1)))) <| o_p rfl (Zby rfl rfl u_0 (fun hz => (Opd.gd (bNF hz) u_1))) <| o_p rfl (Za rfl rfl u_0) <| o_g (g_f rfl rfl rfl (fun hG => Za rfl rfl u_0)) <| o_g (g_f rfl rfl rfl (fun hG => Zcv rfl rfl (Opd.gd hG u_0))) <| o_g (g_f rfl rfl rfl (fun hG => Za rfl rfl (Opd.gd hG u_0))) <| o_g (g_ti rfl rfl rfl (fun hG => Ze Zjm rfl rfl u_0)) <| o_g (g_ti rfl rfl rfl (fun hG => Zf ty_2 rfl rfl (Opd.gd hG u_0))) <| o_g (g_ti rfl rfl rfl (fun hG => Zfr rfl rfl (Opd.gd hG u_0) c_i)) <| o_g (g_f rfl rfl rfl (fun hG => Zbh rfl rfl (Opd.gd hG u_0) (fun hz => (Opd.gd (bA hG hz) u_1)))) <| o_p rfl (Zby rfl rfl u_0 (fun hz => (Opd.gd (bNF hz) u_1))) <| o_n) (by kernel_rfl) (fun a g hst hb => ?_)
   refine wp_cond_split (hst.bool 3 rfl) (fun hc24 => ?_) (fun hc24 => ?_)
   · replace H0 := Z1 hc24 H0
     refine r_s (L := []) (T := [⟨[], _, [], [], [4]⟩]) (F := [.op 0 0]) (hst.pick [] rfl) hb Zb
       (o_p rfl (Zc rfl rfl c_b) <| o_n) (by kernel_rfl) (fun a g hst hb => ?_)
     refine wp_ret ?_
     refine Zs ?_
     obtain rfl := Option.some.inj H0
     exact Z2 rfl hst hb (Zk (s := 4)) (hst.at 0 rfl)
   · replace H0 := Z0 hc24 H0
     refine wp_skip ?_
     refine Zt ?_
     obtain ⟨r25, h26, H0⟩ := Zh H0
     refine r_s (L := [(2, _), (8, _), (9, _)]) (T := ⟨[.old 1], _, [], [], [86]⟩ :: ⟨[.op 0 0], _, [], [0], [87]⟩ :: ⟨[.op 1 0, .old 0], _, [], [0, 1], [88]⟩ :: ⟨[.op 1 0, .op 2 0], _, [], [0, 1, 2], [89]⟩ :: ⟨[.op 1 0, .op 3 0], _, [], List.range 4, [90]⟩ :: ⟨[.op 1 0, .op 4 0], _, [], List.range 5, [91]⟩ :: ⟨[.op 5 0], _, [], List.range 6, [92]⟩ :: ⟨[.op 6 0, .old 2], _, [], List.range 7, [93]⟩ :: ⟨[.op 6 0, .op 7 0], _, [], List.range 8, [94]⟩ :: ⟨[.op 8 0, .old 0], _, [], List.range 9, [95]⟩ :: ⟨[.op 8 0, .op 9 0], _, [], List.range 10, [96]⟩ :: ⟨[.op 8 0, .op 10 0], _, [], List.range 11, [97]⟩ :: ⟨[.op 8 0, .op 11 0], _, [], List.range 12, [98]⟩ :: ⟨[.op 12 0, .old 0], _, [], List.range 13, [99]⟩ :: ⟨[.op 12 0, .op 13 0], _, [], List.range 14, [100]⟩ :: ⟨[.op 12 0, .op 14 0], _, [], List.range 15, [101]⟩ :: ⟨[.op 12 0, .op 15 0], _, [], List.range 16, [102]⟩ :: ⟨[.op 8 0, .op 12 0, .op 16 0], _, [], List.range 17, [103]⟩ :: ⟨[.op 6 0, .op 8 0, .op 17 0], _, [], List.range 18, [104]⟩ :: ⟨[.op 6 0, .op 18 0], _, [], List.range 19, [105]⟩ :: ⟨[.op 19 0], _, [], List.range 20, [4]⟩ :: []) (F := [.op 20 0]) (hst.pick [0, 1, 2] rfl) hb Zb
       (o_p rfl (Za rfl rfl u_0) <| o_p rfl (Za rfl rfl u_0) <| o_g (g_f rfl rfl rfl (fun hG => Ze Zkj rfl rfl u_0)) <| o_g (g_f rfl rfl rfl (fun hG => Zf Ze0 rfl rfl (Opd.gd hG u_0))) <| o_g (g_f rfl rfl rfl (fun hG => Zq Z21 (Zk7 _ (Zbo h26 hG)) rfl rfl (.cons (Opd.gd hG u_0) .nil))) <| o_p rfl (Zby rfl rfl u_0 (fun hz => (Opd.gd (bNF hz) u_1))) <| o_p rfl (Za rfl rfl u_0) <| o_g (g_t rfl rfl rfl (fun hG => Za rfl rfl u_0)) <| o_g (g_t rfl rfl rfl (fun hG => Za rfl rfl (Opd.gd hG u_0))) <| o_g (g_fi rfl rfl rfl (fun hG => Ze Zhj rfl rfl u_0)) <| o_g (g_fi rfl rfl rfl (fun hG => Zf ty_3 rfl rfl (Opd.gd hG u_0))) <| o_g (g_fi rfl rfl rfl (fun hG => Zbv rfl rfl (Opd.gd hG u_0) c_i)) <| o_g (g_fi rfl rfl rfl (fun hG => Za rfl rfl (Opd.gd hG u_0))) <| o_g (g_ti rfl rfl rfl (fun hG => Ze Zdb rfl rfl u_0)) <| o_g (g_ti rfl rfl rfl (fun hG => Zf Zer rfl rfl (Opd.gd hG u_0))) <| o_g (g_ti rfl rfl rfl (fun hG => Zb7 Tryd.underlying43 rfl rfl (Opd.gd hG u_0))) <| o_g (g_ti rfl rfl rfl (fun hG => Zbv rfl rfl (Opd.gd hG u_0) c_i)) <| o_g (g_fi rfl rfl rfl (fun hG => Zbh rfl rfl (Opd.gd hG u_0) (fun hz => (Opd.gd (bA hG hz) u_1)))) <| o_g (g_t rfl rfl rfl (fun hG => Zby rfl rfl (Opd.gd hG u_0) (fun hz => (Opd.gd (bA hG (bNF hz)) u_1)))) <| o_p rfl (Zbh rfl rfl u_0 (fun hz => (Opd.gd hz u_1))) <| o_p rfl (Zc rfl rfl u_0) <| o_n) (by kernel_rfl) (fun a g hst hb => ?_)
     refine wp_ret ?_
     obtain rfl := Option.some.inj H0
     exact Z2 rfl hst hb (Zk (s := 4)) (hst.at 0 rfl)
 · refine wp_block ?_
   refine wp_loop_ghost (fun n a w => ∃ (x1 : Bool) (x2 : Bool) (x3 : Bool) (x4 : Bool) (x5 : Bool) (x6 : Int) (g : G), w = g.w ∧ St 106 [(1, (pStr a1)), (2, (Zi.ptr a0)), (5, (Zbb x1)), (6, (Zbb x2)), (7, (Zbb x3)), (8, (Zbb x4)), (9, (Zbb x5)), (10, (pInt .i64 x6))] a g ∧ Base g0 g ∧ Zch a1 n x1 x2 x3 x4 x5 x6 = some z23) (Int.toNat ((a1.size : Int) - (0 : Int)) + 1) ⟨false, false, false, false, false, (0 : Int), g, rfl, (hst.pick [0, 1, 2, 3, 4, 5, 6, 7] rfl), hb, hz1⟩ (fun n a w hI => ?_)
   obtain ⟨x1, x2, x3, x4, x5, x6, g, rfl, hst, hb, H1⟩ := hI
   cases n with
   | zero => exact absurd H1 (by simp [Zch])
   | succ n =>
     rw [Zch] at H1
     refine wp_seq ?_
     refine r_s (T := [⟨[.old 7], _, [], [], [11]⟩, ⟨[.old 0], _, [], [], [12]⟩, ⟨[.op 1 0], _, [], [1], [13]⟩, ⟨[.op 0 0, .op 2 0], _, [], [0, 1, 2], [14]⟩]) (F := [.old 0, .old 1, .old 2, .old 3, .old 4, .old 5, .old 6, .old 7, .op 3 0]) hst hb Zb
       (o_p rfl (Za rfl rfl u_0) <| o_p rfl (Za rfl rfl u_0) <| o_p rfl (Zfk Tryd.underlying9 rfl rfl u_0) <| o_p rfl (Zcy rfl rfl u_0 u_1) <| o_n) (by kernel_rfl) (fun a g hst hb => ?_)
     refine wp_cond_split (hst.bool 8 rfl) (fun hc7 => ?_) (fun hc7 => ?_)
     · replace H1 := Z1 hc7 H1
       refine wp_skip ?_
       refine Zt ?_
       refine wp_seq ?_
       refine wp_block ?_
       obtain ⟨b8, h9, H1⟩ := Zh H1
       refine r_s (L := [(1, _), (2, _), (5, _), (6, _), (7, _), (8, _), (9, _), (10, _)]) (T := [⟨[.old 2], _, [], [], [17]⟩, ⟨[.op 0 0], _, [], [0], [18]⟩, ⟨[.op 1 0, .old 0], _, [], [0, 1], [19]⟩, ⟨[.op 1 0, .old 7], _, [], [0, 1], [20]⟩, ⟨[.op 1 0, .op 2 0, .op 3 0], _, [], List.range 4, [21]⟩, ⟨[.op 1 0, .op 4 0], _, [], List.range 5, [22]⟩, ⟨[.op 1 0, .op 5 0], _, [], List.range 6, [23]⟩, ⟨[.op 6 0], _, [], List.range 7, [5]⟩]) (F := [.old 0, .old 1, .op 7 0, .old 3, .old 4, .old 5, .old 6, .old 7]) (hst.pick [0, 1, 2, 3, 4, 5, 6, 7] rfl) hb Zb
         (o_p rfl (Za rfl rfl u_0) <| o_p rfl (Za rfl rfl u_0) <| o_g (g_f rfl rfl rfl (fun hG => Za rfl rfl u_0)) <| o_g (g_f rfl rfl rfl (fun hG => Za rfl rfl u_0)) <| o_g (g_f rfl rfl rfl (fun hG => Zmc Tryd.underlying9 rfl rfl (Opd.gd hG u_0) (Opd.gd hG u_1) (Zbo h9 hG))) <| o_g (g_f rfl rfl rfl (fun hG => Zbv rfl rfl (Opd.gd hG u_0) c_i)) <| o_p rfl (Zby rfl rfl u_0 (fun hz => (Opd.gd (bNF hz) u_1))) <| o_p rfl (Zc rfl rfl u_0) <| o_n) (by kernel_rfl) (fun a g hst hb => ?_)
       obtain ⟨b10, h11, H1⟩ := Zh H1
       refine r_s (T := [⟨[.old 3], _, [], [], [24]⟩, ⟨[.op 0 0], _, [], [0], [25]⟩, ⟨[.op 1 0, .old 0], _, [], [0, 1], [26]⟩, ⟨[.op 1 0, .old 7], _, [], [0, 1], [27]⟩, ⟨[.op 1 0, .op 2 0, .op 3 0], _, [], List.range 4, [28]⟩, ⟨[.op 1 0, .op 4 0], _, [], List.range 5, [29]⟩, ⟨[.op 1 0, .op 5 0], _, [], List.range 6, [30]⟩, ⟨[.op 6 0], _, [], List.range 7, [6]⟩]) (F := [.old 0, .old 1, .old 2, .op 7 0, .old 4, .old 5, .old 6, .old 7]) hst hb Zb
         (o_p rfl (Za rfl rfl u_0) <| o_p rfl (Za rfl rfl u_0) <| o_g (g_f rfl rfl rfl (fun hG => Za rfl rfl u_0)) <| o_g (g_f rfl rfl rfl (fun hG => Za rfl rfl u_0)) <| o_g (g_f rfl rfl rfl (fun hG => Zmc Tryd.underlying9 rfl rfl (Opd.gd hG u_0) (Opd.gd hG u_1) (Zbo h11 hG))) <| o_g (g_f rfl rfl rfl (fun hG => Zbv rfl rfl (Opd.gd hG u_0) c_i)) <| o_p rfl (Zby rfl rfl u_0 (fun hz => (Opd.gd (bNF hz) u_1))) <| o_p rfl (Zc rfl rfl u_0) <| o_n) (by kernel_rfl) (fun a g hst hb => ?_)
       obtain ⟨b12, h13, H1⟩ := Zh H1
       refine r_s (T := [⟨[.old 4], _, [], [], [31]⟩, ⟨[.op 0 0], _, [], [0], [32]⟩, ⟨[.op 1 0, .old 0], _, [], [0, 1], [33]⟩, ⟨[.op 1 0, .old 7], _, [], [0, 1], [34]⟩, ⟨[.op 1 0, .op 2 0, .op 3 0], _, [], List.range 4, [35]⟩, ⟨[.op 1 0, .op 4 0], _, [], List.range 5, [36]⟩, ⟨[.op 1 0, .op 5 0], _, [], List.range 6, [37]⟩, ⟨[.op 6 0], _, [], List.range 7, [7]⟩]) (F := [.old 0, .old 1, .old 2, .old 3, .op 7 0, .old 5, .old 6, .old 7]) hst hb Zb
         (o_p rfl (Za rfl rfl u_0) <| o_p rfl (Za rfl rfl u_0) <| o_g (g_f rfl rfl rfl (fun hG => Za rfl rfl u_0)) <| o_g (g_f rfl rfl rfl (fun hG => Za rfl rfl u_0)) <| o_g (g_f rfl rfl rfl (fun hG => Zmc Tryd.underlying9 rfl rfl (Opd.gd hG u_0) (Opd.gd hG u_1) (Zbo h13 hG))) <| o_g (g_f rfl rfl rfl (fun hG => Zbv rfl rfl (Opd.gd hG u_0) c_i)) <| o_p rfl (Zby rfl rfl u_0 (fun hz => (Opd.gd (bNF hz) u_1))) <| o_p rfl (Zc rfl rfl u_0) <| o_n) (by kernel_rfl) (fun a g hst hb => ?_)
       obtain ⟨b14, h15, H1⟩ := Zh H1
       refine r_s (T := [⟨[.old 5], _, [], [], [38]⟩, ⟨[.op 0 0], _, [], [0], [39]⟩, ⟨[.op 1 0, .old 0], _, [], [0, 1], [40]⟩, ⟨[.op 1 0, .old 7], _, [], [0, 1], [41]⟩, ⟨[.op 1 0, .op 2 0, .op 3 0], _, [], List.range 4, [42]⟩, ⟨[.op 1 0, .op 4 0], _, [], List.range 5, [43]⟩, ⟨[.op 1 0, .op 5 0], _, [], List.range 6, [44]⟩, ⟨[.op 6 0], _, [], List.range 7, [8]⟩]) (F := [.old 0, .old 1, .old 2, .old 3, .old 4, .op 7 0, .old 6, .old 7]) hst hb Zb
         (o_p rfl (Za rfl rfl u_0) <| o_p rfl (Za rfl rfl u_0) <| o_g (g_f rfl rfl rfl (fun hG => Za rfl rfl u_0)) <| o_g (g_f rfl rfl rfl (fun hG => Za rfl rfl u_0)) <| o_g (g_f rfl rfl rfl (fun hG => Zmc Tryd.underlying9 rfl rfl (Opd.gd hG u_0) (Opd.gd hG u_1) (Zbo h15 hG))) <| o_g (g_f rfl rfl rfl (fun hG => Zbv rfl rfl (Opd.gd hG u_0) c_i)) <| o_p rfl (Zby rfl rfl u_0 (fun hz => (Opd.gd (bNF hz) u_1))) <| o_p rfl (Zc rfl rfl u_0) <| o_n) (by kernel_rfl) (fun a g hst hb => ?_)
       obtain ⟨b16, h17, H1⟩ := Zh H1
       refine r_g (T := [⟨[.old 6], _, [], [], [45]⟩, ⟨[.op 0 0], _, [], [0], [46]⟩, ⟨[.op 1 0, .old 0], _, [], [0, 1], [47]⟩, ⟨[.op 1 0, .old 7], _, [], [0, 1], [48]⟩, ⟨[.op 1 0, .op 2 0, .op 3 0], _, [], List.range 4, [49]⟩, ⟨[.op 1 0, .op 4 0], _, [], List.range 5, [50]⟩, ⟨[.op 1 0, .op 5 0], _, [], List.range 6, [51]⟩, ⟨[.op 6 0], _, [], List.range 7, [9]⟩]) (F := [.old 0, .old 1, .old 2, .old 3, .old 4, .old 5, .op 7 0, .old 7]) hst hb Zb
         (o_p rfl (Za rfl rfl u_0) <| o_p rfl (Za rfl rfl u_0) <| o_g (g_f rfl rfl rfl (fun hG => Za rfl rfl u_0)) <| o_g (g_f rfl rfl rfl (fun hG => Za rfl rfl u_0)) <| o_g (g_f rfl rfl rfl (fun hG => Zmc Tryd.underlying9 rfl rfl (Opd.gd hG u_0) (Opd.gd hG u_1) (Zbo h17 hG))) <| o_g (g_f rfl rfl rfl (fun hG => Zbv rfl rfl (Opd.gd hG u_0) c_i)) <| o_p rfl (Zby rfl rfl u_0 (fun hz => (Opd.gd (bNF hz) u_1))) <| o_p rfl (Zc rfl rfl u_0) <| o_n) (by kernel_rfl) (fun a g hst hb => ?_)
       refine Zbt ?_
       refine Zt ?_
       refine r_g (T := [⟨[.old 7], _, [], [], [15]⟩, ⟨[.op 0 0], _, [], [0], [16]⟩, ⟨[.op 1 0], _, [], [0, 1], [10]⟩]) (F := [.old 0, .old 1, .old 2, .old 3, .old 4, .old 5, .old 6, .op 2 0]) hst hb Zb
         (o_p rfl (Za rfl rfl u_0) <| o_p rfl (Zcb rfl rfl u_0 c_i rfl) <| o_p rfl (Zc rfl rfl u_0) <| o_n) (by kernel_rfl) (fun a g hst hb => ?_)
       exact ⟨n, Nat.lt_succ_self _, (x1 || (b8 == (116 : Int))), (x2 || (b10 == (110 : Int))), (x3 || (b12 == (98 : Int))), (x4 || (b14 == (114 : Int))), (x5 || (b16 == (108 : Int))), (IntKind.i64.wrap (x6 + (1 : Int))), g, rfl, (hst.pick [0, 1, 2, 3, 4, 5, 6, 7] rfl), hb, H1⟩
     · replace H1 := Z0 hc7 H1
       refine wp_exit ?_
       refine Zcc ?_
       refine Zcc ?_
       refine Zda ?_
       exact ⟨x1, x2, x3, x4, x5, g, rfl, (hst.pick [1, 2, 3, 4, 5, 6] rfl), hb, Option.some.inj H1⟩
end Go.CL
set_option linter.unusedVariables false
set_option linter.unusedSimpArgs false
set_option maxRecDepth 100000
namespace Go.CL
open Go Go.RowKit Go.Proofs
theorem Znw (a0 : Int) {r : ByteArray} (h : Zhn a0 = some r) : FnOk Tryd.prog 57 [(pInt .i64 a0)] (pStr r) := by
 have H0 := h
 unfold Zhn at H0
 clear h
 refine Zbr (N := 15) Tryd.func57 rfl rfl (Nat.le_of_ble_eq_true rfl) rfl rfl (fun a g0 hst hb => ?_)
 refine r_s (T := [⟨[], _, [], [], [2]⟩]) (F := [.old 0]) hst hb Zb
   (o_p rfl (Zc rfl rfl c_s) <| o_n) (by kernel_rfl) (fun a g hst hb => ?_)
 refine r_s (T := [⟨[], _, [], [], [4]⟩, ⟨[.op 0 0], _, [], [0], [3]⟩]) (F := [.old 0, .op 1 0]) hst hb Zb
   (o_p rfl (Zj2 Z5f (xs := [.const (.string ⟨#[]⟩), .const (.string ⟨#[116]⟩), .const (.string ⟨#[110]⟩), .const (.string ⟨#[110]⟩), .const (.string ⟨#[110, 98]⟩), .const (.string ⟨#[114]⟩), .const (.string ⟨#[114]⟩), .const (.string ⟨#[114]⟩), .const (.string ⟨#[108]⟩), .const (.string ⟨#[108]⟩)]) (.cons c_s (.cons c_s (.cons c_s (.cons c_s (.cons c_s (.cons c_s (.cons c_s (.cons c_s (.cons c_s (.cons c_s .nil)))))))))) (by decide) rfl rfl) <| o_p rfl (Zc rfl rfl u_0) <| o_n) (by kernel_rfl) (fun a g hst hb => ?_)
 refine wp_seq ?_
 refine r_s (T := [⟨[.old 0], _, [], [], [5]⟩, ⟨[.op 0 0], _, [], [0], [6]⟩, ⟨[.op 1 0], _, [], [0, 1], [7]⟩, ⟨[.op 2 0, .old 0], _, [], [0, 1, 2], [8]⟩, ⟨[.op 2 0, .op 3 0], _, [], List.range 4, [9]⟩, ⟨[.op 2 0, .op 4 0], _, [], List.range 5, [10]⟩]) (F := [.old 0, .old 1, .op 5 0]) hst hb Zb
   (o_p rfl (Za rfl rfl u_0) <| o_p rfl (Zcy rfl rfl u_0 c_i) <| o_p rfl (Za rfl rfl u_0) <| o_g (g_f rfl rfl rfl (fun hG => Za rfl rfl u_0)) <| o_g (g_f rfl rfl rfl (fun hG => Zcj rfl rfl (Opd.gd hG u_0) c_i)) <| o_p rfl (Zby rfl rfl u_0 (fun hz => (Opd.gd (bNF hz) u_1))) <| o_n) (by kernel_rfl) (fun a g hst hb => ?_)
 refine wp_cond_split (hst.bool 2 rfl) (fun hc1 => ?_) (fun hc1 => ?_)
 · replace H0 := Z1 hc1 H0
   refine r_s (L := []) (T := [⟨[], _, [], [], [2]⟩]) (F := [.op 0 0]) (hst.pick [] rfl) hb Zb
     (o_p rfl (Zc rfl rfl c_s) <| o_n) (by kernel_rfl) (fun a g hst hb => ?_)
   refine wp_ret ?_
   refine Zs ?_
   obtain rfl := Option.some.inj H0
   exact Z2 rfl hst hb (Zk (s := 2)) (hst.at 0 rfl)
 · replace H0 := Z0 hc1 H0
   refine wp_skip ?_
   refine Zt ?_
   obtain ⟨e2, h3, H0⟩ := Zh H0
   refine r_s (L := [(0, _), (3, _)]) (T := [⟨[.old 1], _, [], [], [11]⟩, ⟨[.old 0], _, [], [], [12]⟩, ⟨[.op 0 0, .op 1 0], _, [], [0, 1], [13]⟩, ⟨[.op 2 0], _, [], [0, 1, 2], [14]⟩, ⟨[.op 3 0], _, [], List.range 4, [2]⟩]) (F := [.op 4 0]) (hst.pick [0, 1] rfl) hb Zb
     (o_p rfl (Za rfl rfl u_0) <| o_p rfl (Za rfl rfl u_0) <| o_p rfl (Zbx Tryd.underlying135 sz_9 rfl rfl u_0 u_1 h3) <| o_p rfl (Zf ty_9 rfl rfl u_0) <| o_p rfl (Zc rfl rfl u_0) <| o_n) (by kernel_rfl) (fun a g hst hb => ?_)
   refine wp_ret ?_
   obtain rfl := Option.some.inj H0
   exact Z2 rfl hst hb (Zk (s := 2)) (hst.at 0 rfl)
end Go.CL
set_option linter.unusedVariables false
set_option linter.unusedSimpArgs false
set_option maxRecDepth 100000
namespace Go.CL
open Go Go.RowKit Go.Proofs
theorem Zkk (a0 : Nat) {r : Bool} (h : Zei a0 = some r) : FnOk Tryd.prog 58 [(pFlt a0)] (Zbb r) := by
 have H0 := h
 unfold Zei at H0
 clear h
 refine Zbr (N := 11) Tryd.func58 rfl rfl (Nat.le_of_ble_eq_true rfl) rfl rfl (fun a g0 hst hb => ?_)
 refine r_s (T := [⟨[], _, [], [], [2]⟩]) (F := [.old 0]) hst hb Zb
   (o_p rfl (Zc rfl rfl c_b) <| o_n) (by kernel_rfl) (fun a g hst hb => ?_)
 obtain ⟨r1, h2, H0⟩ := Zh H0
 refine r_s (T := [⟨[.old 0], _, [], [], [3]⟩, ⟨[.op 0 0], _, [], [0], [4]⟩, ⟨[.op 1 0], _, [], [0, 1], [5]⟩, ⟨[.op 2 0], _, [], [0, 1, 2], [6]⟩, ⟨[.op 3 0, .old 0], _, [], List.range 4, [7]⟩, ⟨[.op 3 0, .op 4 0], _, [], List.range 5, [8]⟩, ⟨[.op 3 0, .op 5 0], _, [], List.range 6, [9]⟩, ⟨[.op 3 0, .op 6 0], _, [], List.range 7, [10]⟩, ⟨[.op 7 0], _, [], List.range 8, [2]⟩]) (F := [.op 8 0]) hst hb Zb
   (o_p rfl (Za rfl rfl u_0) <| o_p rfl (Zq Zzd (Zi4 _ h2) rfl rfl (.cons u_0 .nil)) <| o_p rfl (Zcv rfl rfl u_0) <| o_p rfl (Za rfl rfl u_0) <| o_g (g_f rfl rfl rfl (fun hG => Za rfl rfl u_0)) <| o_g (g_f rfl rfl rfl (fun hG => Zp6 Zux rfl rfl (Opd.gd hG u_0))) <| o_g (g_f rfl rfl rfl (fun hG => Zbv rfl rfl (Opd.gd hG u_0) c_i)) <| o_p rfl (Zby rfl rfl u_0 (fun hz => (Opd.gd (bNF hz) u_1))) <| o_p rfl (Zc rfl rfl u_0) <| o_n) (by kernel_rfl) (fun a g hst hb => ?_)
 refine wp_ret ?_
 obtain rfl := Option.some.inj H0
 exact Z2 rfl hst hb (Zk (s := 2)) (hst.at 0 rfl)
end Go.CL
set_option linter.unusedVariables false
set_option linter.unusedSimpArgs false
set_option maxRecDepth 100000
namespace Go.CL
open Go Go.RowKit Go.Proofs
theorem Zoa (a0 : Zj) (a1 : Zj) {r : Bool} (h : Zew a0 a1 = some r) : FnOk Tryd.prog 89 [(Zu.pd a0), (Zu.pd a1)] (Zbb r) := by
 have H0 := h
 unfold Zew at H0
 clear h
 refine Zbr (N := 22) Tryd.func89 rfl rfl (Nat.le_of_ble_eq_true rfl) rfl rfl (fun a g0 hst hb => ?_)
 refine r_s (T := [⟨[.old 0], _, [], [], [2]⟩, ⟨[.old 1], _, [], [], [3]⟩, ⟨[], _, [], [], [4]⟩]) (F := [.op 0 0, .op 1 0]) hst hb Zb
   (o_p rfl (Zbj rfl rfl u_0) <| o_p rfl (Zbj rfl rfl u_0) <| o_p rfl (Zc rfl rfl c_b) <| o_n) (by kernel_rfl) (fun a g hst hb => ?_)
 refine wp_seq ?_
 obtain ⟨r1, h2, H0⟩ := Zh H0
 refine r_s (T := [⟨[.old 1], _, [], [], [5]⟩, ⟨[.op 0 0], _, [], [0], [6]⟩, ⟨[.old 0], _, [], [], [7]⟩, ⟨[.op 2 0], _, [], [2], [8]⟩, ⟨[.op 1 0, .op 3 0], _, [], List.range 4, [9]⟩]) (F := [.old 0, .old 1, .op 4 0]) hst hb Zb
   (o_p rfl (Ze Zgp rfl rfl u_0) <| o_p rfl (Zf Ze0 rfl rfl u_0) <| o_p rfl (Ze Zgp rfl rfl u_0) <| o_p rfl (Zf Ze0 rfl rfl u_0) <| o_p rfl (Zq Zyo (Zi5 _ _ h2) rfl rfl (.cons u_0 (.cons u_1 .nil))) <| o_n) (by kernel_rfl) (fun a g hst hb => ?_)
 refine wp_cond_split (hst.bool 2 rfl) (fun hc3 => ?_) (fun hc3 => ?_)
 · replace H0 := Z1 hc3 H0
   refine r_s (L := []) (T := [⟨[], _, [], [], [4]⟩]) (F := [.op 0 0]) (hst.pick [] rfl) hb Zb
     (o_p rfl (Zc rfl rfl c_b) <| o_n) (by kernel_rfl) (fun a g hst hb => ?_)
   refine wp_ret ?_
   refine Zs ?_
   obtain rfl := Option.some.inj H0
   exact Z2 rfl hst hb (Zk (s := 4)) (hst.at 0 rfl)
 · replace H0 := Z0 hc3 H0
   refine wp_skip ?_
   refine Zt ?_
   obtain ⟨r4, h5, H0⟩ := Zh H0
   refine r_s (L := [(2, _), (3, _)]) (T := ⟨[.old 0], _, [], [], [10]⟩ :: ⟨[.op 0 0], _, [], [0], [11]⟩ :: ⟨[.old 1], _, [], [], [12]⟩ :: ⟨[.op 2 0], _, [], [2], [13]⟩ :: ⟨[.op 1 0, .op 3 0], _, [], List.range 4, [14]⟩ :: ⟨[.op 4 0], _, [], List.range 5, [15]⟩ :: ⟨[.op 5 0, .old 0], _, [], List.range 6, [16]⟩ :: ⟨[.op 5 0, .op 6 0], _, [], List.range 7, [17]⟩ :: ⟨[.op 5 0, .old 1], _, [], List.range 6, [18]⟩ :: ⟨[.op 5 0, .op 8 0], _, [], [0, 1, 2, 3, 4, 5, 8], [19]⟩ :: ⟨[.op 5 0, .op 7 0, .op 9 0], _, [], List.range 10, [20]⟩ :: ⟨[.op 5 0, .op 10 0], _, [], List.range 11, [21]⟩ :: ⟨[.op 11 0], _, [], List.range 12, [4]⟩ :: []) (F := [.op 12 0]) (hst.pick [0, 1] rfl) hb Zb
     (o_p rfl (Ze Zgp rfl rfl u_0) <| o_p rfl (Zf Ze0 rfl rfl u_0) <| o_p rfl (Ze Zgp rfl rfl u_0) <| o_p rfl (Zf Ze0 rfl rfl u_0) <| o_p rfl (Zq Z2z (Zk5 _ _ h5) rfl rfl (.cons u_0 (.cons u_1 .nil))) <| o_p rfl (Za rfl rfl u_0) <| o_g (g_t rfl rfl rfl (fun hG => Ze Zfz rfl rfl u_0)) <| o_g (g_t rfl rfl rfl (fun hG => Zf ty_9 rfl rfl (Opd.gd hG u_0))) <| o_g (g_t rfl rfl rfl (fun hG => Ze Zfz rfl rfl u_0)) <| o_g (g_t rfl rfl rfl (fun hG => Zf ty_9 rfl rfl (Opd.gd hG u_0))) <| o_g (g_t rfl rfl rfl (fun hG => Zly rfl rfl (Opd.gd hG u_0) (Opd.gd hG u_1))) <| o_p rfl (Zbh rfl rfl u_0 (fun hz => (Opd.gd hz u_1))) <| o_p rfl (Zc rfl rfl u_0) <| o_n) (by kernel_rfl) (fun a g hst hb => ?_)
   refine wp_ret ?_
   obtain rfl := Option.some.inj H0
   exact Z2 rfl hst hb (Zk (s := 4)) (hst.at 0 rfl)
end Go.CL
set_option linter.unusedVariables false
set_option linter.unusedSimpArgs false
set_option maxRecDepth 100000
namespace Go.CL
open Go Go.RowKit Go.Proofs
theorem Zor (a0 : Int) (a1 : List Zj) (a2 : Int) {r : Int} (h : Zhe a0 a1 a2 = some r) : FnOk Tryd.prog 59 [(pInt .i64 a0), (Zu.sl.pd a1), (pInt .i64 a2)] (pInt .i64 r) := by
 have H0 := h
 unfold Zhe at H0
 clear h
 refine Zbr (N := 64) Tryd.func59 rfl rfl (Nat.le_of_ble_eq_true rfl) rfl rfl (fun a g0 hst hb => ?_)
 refine r_s (T := [⟨[], _, [], [], [6]⟩]) (F := [.old 0, .old 1, .old 2]) hst hb Zb
   (o_p rfl (Zc rfl rfl c_i) <| o_n) (by kernel_rfl) (fun a g hst hb => ?_)
 obtain ⟨e1, h2, H0⟩ := Zh H0
 refine r_s (T := [⟨[.old 1], _, [], [], [8]⟩, ⟨[.old 2], _, [], [], [9]⟩, ⟨[.op 0 0, .op 1 0], _, [], [0, 1], [10]⟩, ⟨[.op 2 0], _, [], [0, 1, 2], [11]⟩, ⟨[], [(7, (pBox Zu 7 (default : Zj)))], [8], [], [7]⟩, ⟨[.op 3 0, .op 4 0], _, [8], List.range 5, [7]⟩]) (F := [.old 0, .old 1, .old 2, .op 5 0]) hst hb Zb
   (o_p rfl (Za rfl rfl u_0) <| o_p rfl (Za rfl rfl u_0) <| o_p rfl (Zbx Tryd.underlying43 Zi6 rfl rfl u_0 u_1 h2) <| o_p rfl (Zf Zfd rfl rfl u_0) <| o_p rfl (Zbc (zs := [.float .f64 0, .string ByteArray.empty]) (by kernel_rfl) (fun g => Zi1 g) rfl rfl) <| o_p rfl (Zb0 Zfd rfl rfl u_1 u_0) <| o_n) (by kernel_rfl) (fun a g hst hb => ?_)
 refine wp_seq ?_
 refine r_s (T := [⟨[.old 3], _, [], [], [12]⟩, ⟨[.op 0 0], _, [], [0], [13]⟩, ⟨[.op 1 0], _, [], [0, 1], [14]⟩, ⟨[.op 2 0], _, [], [0, 1, 2], [15]⟩]) (F := [.old 0, .old 1, .old 2, .old 3, .op 3 0]) hst hb Zb
   (o_p rfl (Ze Zfz rfl rfl u_0) <| o_p rfl (Zf ty_9 rfl rfl u_0) <| o_p rfl (Zfk Tryd.underlying9 rfl rfl u_0) <| o_p rfl (Zcj rfl rfl u_0 c_i) <| o_n) (by kernel_rfl) (fun a g hst hb => ?_)
 refine wp_cond_split (hst.bool 4 rfl) (fun hc3 => ?_) (fun hc3 => ?_)
 · replace H0 := Z1 hc3 H0
   refine r_s (L := []) (T := [⟨[], _, [], [], [6]⟩]) (F := [.op 0 0]) (hst.pick [] rfl) hb Zb
     (o_p rfl (Zc rfl rfl c_i) <| o_n) (by kernel_rfl) (fun a g hst hb => ?_)
   refine wp_ret ?_
   refine Zs ?_
   obtain rfl := Option.some.inj H0
   exact Z2 rfl hst hb (Zk (s := 6)) (hst.at 0 rfl)
 · replace H0 := Z0 hc3 H0
   refine wp_skip ?_
   refine Zt ?_
   refine wp_seq ?_
   obtain ⟨r4, h5, H0⟩ := Zh H0; obtain ⟨r6, h7, H0⟩ := Zh H0
   refine r_s (L := [(0, _), (1, _), (2, _), (7, _)]) (T := ⟨[.old 0], _, [], [], [16]⟩ :: ⟨[.op 0 0], _, [], [0], [17]⟩ :: ⟨[.op 1 0], _, [], [0, 1], [18]⟩ :: ⟨[.op 2 0, .old 3], _, [], [0, 1, 2], [19]⟩ :: ⟨[.op 2 0, .op 3 0], _, [], List.range 4, [20]⟩ :: ⟨[.op 2 0, .op 4 0], _, [], List.range 5, [21]⟩ :: ⟨[.op 2 0, .op 5 0], _, [], List.range 6, [22]⟩ :: ⟨[.op 2 0, .op 6 0], _, [], List.range 7, [23]⟩ :: ⟨[.op 7 0], _, [], List.range 8, [24]⟩ :: ⟨[.op 8 0, .old 3], _, [], List.range 9, [25]⟩ :: ⟨[.op 8 0, .op 9 0], _, [], List.range 10, [26]⟩ :: ⟨[.op 8 0, .op 10 0], _, [], List.range 11, [27]⟩ :: ⟨[.op 8 0, .op 11 0], _, [], List.range 12, [28]⟩ :: ⟨[.op 8 0, .op 12 0], _, [], List.range 13, [29]⟩ :: []) (F := [.old 0, .old 1, .old 2, .old 3, .op 13 0]) (hst.pick [0, 1, 2, 3] rfl) hb Zb
     (o_p rfl (Za rfl rfl u_0) <| o_p rfl (Zbv rfl rfl u_0 c_i) <| o_p rfl (Za rfl rfl u_0) <| o_g (g_t rfl rfl rfl (fun hG => Ze Zgp rfl rfl u_0)) <| o_g (g_t rfl rfl rfl (fun hG => Zf Ze0 rfl rfl (Opd.gd hG u_0))) <| o_g (g_t rfl rfl rfl (fun hG => Zq Z21 (Zk7 _ (Zbo h5 hG)) rfl rfl (.cons (Opd.gd hG u_0) .nil))) <| o_g (g_t rfl rfl rfl (fun hG => Zcv rfl rfl (Opd.gd hG u_0))) <| o_p rfl (Zbh rfl rfl u_0 (fun hz => (Opd.gd hz u_1))) <| o_p rfl (Za rfl rfl u_0) <| o_g (g_f rfl rfl rfl (fun hG => Ze Zgp rfl rfl u_0)) <| o_g (g_f rfl rfl rfl (fun hG => Zf Ze0 rfl rfl (Opd.gd hG u_0))) <| o_g (g_f rfl rfl rfl (fun hG => Zq Z25 (Zkk _ (Zbo h7 hG)) rfl rfl (.cons (Opd.gd hG u_0) .nil))) <| o_g (g_f rfl rfl rfl (fun hG => Zcv rfl rfl (Opd.gd hG u_0))) <| o_p rfl (Zby rfl rfl u_0 (fun hz => (Opd.gd (bNF hz) u_1))) <| o_n) (by kernel_rfl) (fun a g hst hb => ?_)
   refine wp_cond_split (hst.bool 4 rfl) (fun hc8 => ?_) (fun hc8 => ?_)
   · replace H0 := Z1 hc8 H0
     refine r_s (L := []) (T := [⟨[], _, [], [], [6]⟩]) (F := [.op 0 0]) (hst.pick [] rfl) hb Zb
       (o_p rfl (Zc rfl rfl c_i) <| o_n) (by kernel_rfl) (fun a g hst hb => ?_)
     refine wp_ret ?_
     refine Zs ?_
     obtain rfl := Option.some.inj H0
     exact Z2 rfl hst hb (Zk (s := 6)) (hst.at 0 rfl)
   · replace H0 := Z0 hc8 H0
     refine wp_skip ?_
     refine Zt ?_
     refine wp_seq ?_
     obtain ⟨e9, h10, H0⟩ := Zh H0
     refine r_s (L := [(0, _), (1, _), (2, _), (7, _)]) (T := ⟨[.old 2], _, [], [], [30]⟩ :: ⟨[.op 0 0], _, [], [0], [31]⟩ :: ⟨[.op 1 0], _, [], [0, 1], [32]⟩ :: ⟨[.op 2 0, .old 0], _, [], [0, 1, 2], [33]⟩ :: ⟨[.op 2 0, .op 3 0], _, [], List.range 4, [34]⟩ :: ⟨[.op 2 0, .op 4 0], _, [], List.range 5, [35]⟩ :: ⟨[.op 5 0], _, [], List.range 6, [36]⟩ :: ⟨[.op 6 0, .old 1], _, [], List.range 7, [37]⟩ :: ⟨[.op 6 0, .old 2], _, [], List.range 7, [38]⟩ :: ⟨[.op 6 0, .op 8 0], _, [], [0, 1, 2, 3, 4, 5, 6, 8], [39]⟩ :: ⟨[.op 6 0, .op 7 0, .op 9 0], _, [], List.range 10, [40]⟩ :: ⟨[.op 6 0, .op 10 0], _, [], List.range 11, [41]⟩ :: ⟨[.op 6 0, .op 11 0], _, [], List.range 12, [42]⟩ :: ⟨[.op 6 0, .old 3], _, [], List.range 7, [43]⟩ :: ⟨[.op 6 0, .op 13 0], _, [], [0, 1, 2, 3, 4, 5, 6, 13], [44]⟩ :: ⟨[.op 6 0, .op 12 0, .op 14 0], _, [], List.range 15, [45]⟩ :: ⟨[.op 6 0, .op 15 0], _, [], List.range 16, [46]⟩ :: ⟨[.op 6 0, .op 16 0], _, [], List.range 17, [47]⟩ :: []) (F := [.old 0, .old 1, .old 2, .old 3, .op 17 0]) (hst.pick [0, 1, 2, 3] rfl) hb Zb
       (o_p rfl (Za rfl rfl u_0) <| o_p rfl (Zcj rfl rfl u_0 c_i) <| o_p rfl (Za rfl rfl u_0) <| o_g (g_t rfl rfl rfl (fun hG => Za rfl rfl u_0)) <| o_g (g_t rfl rfl rfl (fun hG => Zbv rfl rfl (Opd.gd hG u_0) c_i)) <| o_p rfl (Zbh rfl rfl u_0 (fun hz => (Opd.gd hz u_1))) <| o_p rfl (Za rfl rfl u_0) <| o_g (g_t rfl rfl rfl (fun hG => Za rfl rfl u_0)) <| o_g (g_t rfl rfl rfl (fun hG => Za rfl rfl u_0)) <| o_g (g_t rfl rfl rfl (fun hG => Zja rfl rfl (Opd.gd hG u_0) c_i rfl)) <| o_g (g_t rfl rfl rfl (fun hG => Zbx Tryd.underlying43 Zi6 rfl rfl (Opd.gd hG u_0) (Opd.gd hG u_1) (Zbo h10 hG))) <| o_g (g_t rfl rfl rfl (fun hG => Ze Zfz rfl rfl (Opd.gd hG u_0))) <| o_g (g_t rfl rfl rfl (fun hG => Zf ty_9 rfl rfl (Opd.gd hG u_0))) <| o_g (g_t rfl rfl rfl (fun hG => Ze Zfz rfl rfl u_0)) <| o_g (g_t rfl rfl rfl (fun hG => Zf ty_9 rfl rfl (Opd.gd hG u_0))) <| o_g (g_t rfl rfl rfl (fun hG => Zly rfl rfl (Opd.gd hG u_0) (Opd.gd hG u_1))) <| o_g (g_t rfl rfl rfl (fun hG => Zcv rfl rfl (Opd.gd hG u_0))) <| o_p rfl (Zbh rfl rfl u_0 (fun hz => (Opd.gd hz u_1))) <| o_n) (by kernel_rfl) (fun a g hst hb => ?_)
     refine wp_cond_split (hst.bool 4 rfl) (fun hc11 => ?_) (fun hc11 => ?_)
     · replace H0 := Z1 hc11 H0
       refine r_s (L := []) (T := [⟨[], _, [], [], [6]⟩]) (F := [.op 0 0]) (hst.pick [] rfl) hb Zb
         (o_p rfl (Zc rfl rfl c_i) <| o_n) (by kernel_rfl) (fun a g hst hb => ?_)
       refine wp_ret ?_
       refine Zs ?_
       obtain rfl := Option.some.inj H0
       exact Z2 rfl hst hb (Zk (s := 6)) (hst.at 0 rfl)
     · replace H0 := Z0 hc11 H0
       refine wp_skip ?_
       refine Zt ?_
       refine wp_seq ?_
       obtain ⟨e12, h13, H0⟩ := Zh H0; obtain ⟨r14, h15, H0⟩ := Zh H0
       refine r_s (L := [(0, _), (1, _), (2, _), (7, _)]) (T := ⟨[.old 2], _, [], [], [48]⟩ :: ⟨[.op 0 0], _, [], [0], [49]⟩ :: ⟨[.op 1 0], _, [], [0, 1], [50]⟩ :: ⟨[.op 2 0, .old 0], _, [], [0, 1, 2], [51]⟩ :: ⟨[.op 2 0, .op 3 0], _, [], List.range 4, [52]⟩ :: ⟨[.op 2 0, .op 4 0], _, [], List.range 5, [53]⟩ :: ⟨[.op 5 0], _, [], List.range 6, [54]⟩ :: ⟨[.op 6 0, .old 1], _, [], List.range 7, [55]⟩ :: ⟨[.op 6 0, .old 2], _, [], List.range 7, [56]⟩ :: ⟨[.op 6 0, .op 8 0], _, [], [0, 1, 2, 3, 4, 5, 6, 8], [57]⟩ :: ⟨[.op 6 0, .op 7 0, .op 9 0], _, [], List.range 10, [58]⟩ :: ⟨[.op 6 0, .op 10 0], _, [], List.range 11, [59]⟩ :: ⟨[.op 6 0, .old 3], _, [], List.range 7, [60]⟩ :: ⟨[.op 6 0, .op 11 0, .op 12 0], _, [], List.range 13, [61]⟩ :: ⟨[.op 6 0, .op 13 0], _, [], List.range 14, [62]⟩ :: ⟨[.op 6 0, .op 14 0], _, [], List.range 15, [63]⟩ :: []) (F := [.op 15 0]) (hst.pick [0, 1, 2, 3] rfl) hb Zb
         (o_p rfl (Za rfl rfl u_0) <| o_p rfl (Zcj rfl rfl u_0 c_i) <| o_p rfl (Za rfl rfl u_0) <| o_g (g_t rfl rfl rfl (fun hG => Za rfl rfl u_0)) <| o_g (g_t rfl rfl rfl (fun hG => Zbv rfl rfl (Opd.gd hG u_0) c_i)) <| o_p rfl (Zbh rfl rfl u_0 (fun hz => (Opd.gd hz u_1))) <| o_p rfl (Za rfl rfl u_0) <| o_g (g_t rfl rfl rfl (fun hG => Za rfl rfl u_0)) <| o_g (g_t rfl rfl rfl (fun hG => Za rfl rfl u_0)) <| o_g (g_t rfl rfl rfl (fun hG => Zja rfl rfl (Opd.gd hG u_0) c_i rfl)) <| o_g (g_t rfl rfl rfl (fun hG => Zbx Tryd.underlying43 Zi6 rfl rfl (Opd.gd hG u_0) (Opd.gd hG u_1) (Zbo h13 hG))) <| o_g (g_t rfl rfl rfl (fun hG => Zf Zfd rfl rfl (Opd.gd hG u_0))) <| o_g (g_t rfl rfl rfl (fun hG => Zf Zfd rfl rfl u_0)) <| o_g (g_t rfl rfl rfl (fun hG => Zq Z7o (Zoa _ _ (Zbo h15 hG)) rfl rfl (.cons (Opd.gd hG u_0) (.cons (Opd.gd hG u_1) .nil)))) <| o_g (g_t rfl rfl rfl (fun hG => Zcv rfl rfl (Opd.gd hG u_0))) <| o_p rfl (Zbh rfl rfl u_0 (fun hz => (Opd.gd hz u_1))) <| o_n) (by kernel_rfl) (fun a g hst hb => ?_)
       refine wp_cond_split (hst.bool 0 rfl) (fun hc16 => ?_) (fun hc16 => ?_)
       · replace H0 := Z1 hc16 H0
         refine r_s (L := []) (T := [⟨[], _, [], [], [6]⟩]) (F := [.op 0 0]) (hst.pick [] rfl) hb Zb
           (o_p rfl (Zc rfl rfl c_i) <| o_n) (by kernel_rfl) (fun a g hst hb => ?_)
         refine wp_ret ?_
         refine Zs ?_
         obtain rfl := Option.some.inj H0
         exact Z2 rfl hst hb (Zk (s := 6)) (hst.at 0 rfl)
       · replace H0 := Z0 hc16 H0
         refine wp_skip ?_
         refine Zt ?_
         refine r_s (L := []) (T := [⟨[], _, [], [], [6]⟩]) (F := [.op 0 0]) (hst.pick [] rfl) hb Zb
           (o_p rfl (Zc rfl rfl c_i) <| o_n) (by kernel_rfl) (fun a g hst hb => ?_)
         refine wp_ret ?_
         obtain rfl := Option.some.inj H0
         exact Z2 rfl hst hb (Zk (s := 6)) (hst.at 0 rfl)
end Go.CL
set_option linter.unusedVariables false
set_option linter.unusedSimpArgs false
set_option maxRecDepth 100000
namespace Go.CL
open Go Go.RowKit Go.Proofs
theorem Zn9 (a0 : Zd) {r : Int} (h : Zc7 a0 = some r) : FnOk Tryd.prog 39 [(Zi.pd a0)] (pInt .i64 r) := by
 have H0 := h
 unfold Zc7 at H0
 clear h
 refine Zbr (N := 96) Tryd.func39 rfl rfl (Nat.le_of_ble_eq_true rfl) rfl rfl (fun a g0 hst hb => ?_)
 refine r_s (T := [⟨[.old 0], _, [], [], [1]⟩, ⟨[], _, [], [], [2]⟩]) (F := [.op 0 0]) hst hb Zb
   (o_p rfl (Zbj rfl rfl u_0) <| o_p rfl (Zc rfl rfl c_i) <| o_n) (by kernel_rfl) (fun a g hst hb => ?_)
 refine wp_seq ?_
 refine r_s (T := [⟨[.old 0], _, [], [], [6]⟩, ⟨[.op 0 0], _, [], [0], [7]⟩, ⟨[.op 1 0], _, [], [0, 1], [8]⟩, ⟨[.op 2 0], _, [], [0, 1, 2], [9]⟩, ⟨[.op 3 0, .old 0], _, [], List.range 4, [10]⟩, ⟨[.op 3 0, .op 4 0], _, [], List.range 5, [11]⟩, ⟨[.op 3 0, .op 5 0], _, [], List.range 6, [12]⟩, ⟨[.op 3 0, .op 6 0], _, [], List.range 7, [13]⟩]) (F := [.old 0, .op 7 0]) hst hb Zb
   (o_p rfl (Ze Zfx rfl rfl u_0) <| o_p rfl (Zf ty_3 rfl rfl u_0) <| o_p rfl (Zcy rfl rfl u_0 c_i) <| o_p rfl (Za rfl rfl u_0) <| o_g (g_f rfl rfl rfl (fun hG => Ze Zfx rfl rfl u_0)) <| o_g (g_f rfl rfl rfl (fun hG => Zf ty_3 rfl rfl (Opd.gd hG u_0))) <| o_g (g_f rfl rfl rfl (fun hG => Zcj rfl rfl (Opd.gd hG u_0) c_i)) <| o_p rfl (Zby rfl rfl u_0 (fun hz => (Opd.gd (bNF hz) u_1))) <| o_n) (by kernel_rfl) (fun a g hst hb => ?_)
 refine wp_cond_split (hst.bool 1 rfl) (fun hc1 => ?_) (fun hc1 => ?_)
 · replace H0 := Z1 hc1 H0
   refine r_s (L := []) (T := [⟨[], _, [], [], [2]⟩]) (F := [.op 0 0]) (hst.pick [] rfl) hb Zb
     (o_p rfl (Zc rfl rfl c_i) <| o_n) (by kernel_rfl) (fun a g hst hb => ?_)
   refine wp_ret ?_
   refine Zs ?_
   obtain rfl := Option.some.inj H0
   exact Z2 rfl hst hb (Zk (s := 2)) (hst.at 0 rfl)
 · replace H0 := Z0 hc1 H0
   refine wp_skip ?_
   refine Zt ?_
   refine wp_seq ?_
   obtain ⟨r2, h3, H0⟩ := Zh H0; obtain ⟨r4, h5, H0⟩ := Zh H0
   refine r_s (L := [(1, _)]) (T := [⟨[.old 0], _, [], [], [14]⟩, ⟨[.old 0], _, [], [], [15]⟩, ⟨[.op 1 0], _, [], [1], [16]⟩, ⟨[.op 2 0], _, [], [1, 2], [17]⟩, ⟨[.op 0 0, .op 3 0], _, [], List.range 4, [18]⟩, ⟨[.op 4 0], _, [], List.range 5, [19]⟩]) (F := [.old 0, .op 5 0]) (hst.pick [0] rfl) hb Zb
     (o_p rfl (Zf Zbg rfl rfl u_0) <| o_p rfl (Ze Zfx rfl rfl u_0) <| o_p rfl (Zf ty_3 rfl rfl u_0) <| o_p rfl (Zq Z63 (Znw _ h3) rfl rfl (.cons u_0 .nil)) <| o_p rfl (Zq Z66 (Zot _ _ h5) rfl rfl (.cons u_0 (.cons u_1 .nil))) <| o_p rfl (Zcv rfl rfl u_0) <| o_n) (by kernel_rfl) (fun a g hst hb => ?_)
   refine wp_cond_split (hst.bool 1 rfl) (fun hc6 => ?_) (fun hc6 => ?_)
   · replace H0 := Z1 hc6 H0
     refine r_s (L := []) (T := [⟨[], _, [], [], [2]⟩]) (F := [.op 0 0]) (hst.pick [] rfl) hb Zb
       (o_p rfl (Zc rfl rfl c_i) <| o_n) (by kernel_rfl) (fun a g hst hb => ?_)
     refine wp_ret ?_
     refine Zs ?_
     obtain rfl := Option.some.inj H0
     exact Z2 rfl hst hb (Zk (s := 2)) (hst.at 0 rfl)
   · replace H0 := Z0 hc6 H0
     refine wp_skip ?_
     refine Zt ?_
     refine wp_seq ?_
     refine r_s (L := [(1, _)]) (T := [⟨[.old 0], _, [], [], [20]⟩, ⟨[.op 0 0], _, [], [0], [21]⟩, ⟨[.op 1 0], _, [], [0, 1], [22]⟩, ⟨[.op 2 0], _, [], [0, 1, 2], [23]⟩, ⟨[.op 3 0, .old 0], _, [], List.range 4, [24]⟩, ⟨[.op 3 0, .op 4 0], _, [], List.range 5, [25]⟩, ⟨[.op 3 0, .op 5 0], _, [], List.range 6, [26]⟩, ⟨[.op 3 0, .op 6 0], _, [], List.range 7, [27]⟩, ⟨[.op 3 0, .op 7 0], _, [], List.range 8, [28]⟩]) (F := [.old 0, .op 8 0]) (hst.pick [0] rfl) hb Zb
       (o_p rfl (Ze Zfx rfl rfl u_0) <| o_p rfl (Zf ty_3 rfl rfl u_0) <| o_p rfl (Zbv rfl rfl u_0 c_i) <| o_p rfl (Za rfl rfl u_0) <| o_g (g_t rfl rfl rfl (fun hG => Ze Zjj rfl rfl u_0)) <| o_g (g_t rfl rfl rfl (fun hG => Zf ty_9 rfl rfl (Opd.gd hG u_0))) <| o_g (g_t rfl rfl rfl (fun hG => Zfk Tryd.underlying9 rfl rfl (Opd.gd hG u_0))) <| o_g (g_t rfl rfl rfl (fun hG => Zcj rfl rfl (Opd.gd hG u_0) c_i)) <| o_p rfl (Zbh rfl rfl u_0 (fun hz => (Opd.gd hz u_1))) <| o_n) (by kernel_rfl) (fun a g hst hb => ?_)
     refine wp_cond_split (hst.bool 1 rfl) (fun hc7 => ?_) (fun hc7 => ?_)
     · replace H0 := Z1 hc7 H0
       refine r_s (L := []) (T := [⟨[], _, [], [], [2]⟩]) (F := [.op 0 0]) (hst.pick [] rfl) hb Zb
         (o_p rfl (Zc rfl rfl c_i) <| o_n) (by kernel_rfl) (fun a g hst hb => ?_)
       refine wp_ret ?_
       refine Zs ?_
       obtain rfl := Option.some.inj H0
       exact Z2 rfl hst hb (Zk (s := 2)) (hst.at 0 rfl)
     · replace H0 := Z0 hc7 H0
       refine wp_skip ?_
       refine Zt ?_
       refine r_s (L := [(1, _)]) (T := [⟨[], _, [], [], [3]⟩]) (F := [.old 0, .op 0 0]) (hst.pick [0] rfl) hb Zb
         (o_p rfl (Zc rfl rfl c_i) <| o_n) (by kernel_rfl) (fun a g hst hb => ?_)
       refine wp_seq ?_
       refine r_s (T := ⟨[.old 0], _, [], [], [29]⟩ :: ⟨[.op 0 0], _, [], [0], [30]⟩ :: ⟨[.op 1 0], _, [], [0, 1], [31]⟩ :: ⟨[.op 2 0], _, [], [0, 1, 2], [32]⟩ :: ⟨[.op 3 0, .old 0], _, [], List.range 4, [33]⟩ :: ⟨[.op 3 0, .op 4 0], _, [], List.range 5, [34]⟩ :: ⟨[.op 3 0, .old 1], _, [], List.range 4, [35]⟩ :: ⟨[.op 3 0, .op 6 0], _, [], [0, 1, 2, 3, 6], [36]⟩ :: ⟨[.op 3 0, .op 5 0, .op 7 0], _, [], List.range 8, [37]⟩ :: ⟨[.op 3 0, .op 8 0], _, [], List.range 9, [38]⟩ :: ⟨[.op 9 0, .old 0], _, [], List.range 10, [39]⟩ :: ⟨[.op 9 0, .op 10 0], _, [], List.range 11, [40]⟩ :: ⟨[.op 9 0, .old 1], _, [], List.range 10, [41]⟩ :: ⟨[.op 9 0, .op 11 0, .op 12 0], _, [], List.range 13, [42]⟩ :: ⟨[.op 3 0, .op 9 0, .op 13 0], _, [], List.range 14, [43]⟩ :: ⟨[.op 3 0, .op 14 0], _, [], List.range 15, [44]⟩ :: ⟨[.op 15 0, .old 0], _, [], List.range 16, [45]⟩ :: ⟨[.op 15 0, .op 16 0], _, [], List.range 17, [46]⟩ :: ⟨[.op 15 0, .old 0], _, [], List.range 16, [47]⟩ :: ⟨[.op 15 0, .op 18 0], _, [], 0 :: 1 :: 2 :: 3 :: 4 :: 5 :: 6 :: 7 :: 8 :: 9 :: 10 :: 11 :: 12 :: 13 :: 14 :: 15 :: 18 :: [], [48]⟩ :: ⟨[.op 15 0, .op 17 0, .op 19 0], _, [], List.range 20, [49]⟩ :: ⟨[.op 3 0, .op 15 0, .op 20 0], _, [], List.range 21, [50]⟩ :: ⟨[.op 3 0, .op 21 0], _, [], List.range 22, [51]⟩ :: ⟨[.op 22 0, .old 0], _, [], List.range 23, [52]⟩ :: ⟨[.op 22 0, .op 23 0], _, [], List.range 24, [53]⟩ :: ⟨[.op 22 0, .old 0], _, [], List.range 23, [54]⟩ :: ⟨[.op 22 0, .op 25 0], _, [], 0 :: 1 :: 2 :: 3 :: 4 :: 5 :: 6 :: 7 :: 8 :: 9 :: 10 :: 11 :: 12 :: 13 :: 14 :: 15 :: 16 :: 17 :: 18 :: 19 :: 20 :: 21 :: 22 :: 25 :: [], [55]⟩ :: ⟨[.op 22 0, .op 24 0, .op 26 0], _, [], List.range 27, [56]⟩ :: ⟨[.op 3 0, .op 22 0, .op 27 0], _, [], List.range 28, [57]⟩ :: ⟨[.op 3 0, .op 28 0], _, [], List.range 29, [58]⟩ :: []) (F := [.old 0, .op 29 0]) hst hb Zb
         (o_p rfl (Ze Zfx rfl rfl u_0) <| o_p rfl (Zf ty_3 rfl rfl u_0) <| o_p rfl (Zbv rfl rfl u_0 c_i) <| o_p rfl (Za rfl rfl u_0) <| o_g (g_t rfl rfl rfl (fun hG => Ze Zjn rfl rfl u_0)) <| o_g (g_t rfl rfl rfl (fun hG => Zf ty_2 rfl rfl (Opd.gd hG u_0))) <| o_g (g_t rfl rfl rfl (fun hG => Za rfl rfl u_0)) <| o_g (g_t rfl rfl rfl (fun hG => Z43 rfl rfl (Opd.gd hG u_0) rfl)) <| o_g (g_t rfl rfl rfl (fun hG => Zcy rfl rfl (Opd.gd hG u_0) (Opd.gd hG u_1))) <| o_g (g_t rfl rfl rfl (fun hG => Za rfl rfl (Opd.gd hG u_0))) <| o_g (g_fi rfl rfl rfl (fun hG => Ze Zjm rfl rfl u_0)) <| o_g (g_fi rfl rfl rfl (fun hG => Zf ty_2 rfl rfl (Opd.gd hG u_0))) <| o_g (g_fi rfl rfl rfl (fun hG => Za rfl rfl u_0)) <| o_g (g_fi rfl rfl rfl (fun hG => Zcj rfl rfl (Opd.gd hG u_0) (Opd.gd hG u_1))) <| o_g (g_t rfl rfl rfl (fun hG => Zby rfl rfl (Opd.gd hG u_0) (fun hz => (Opd.gd (bA hG (bNF hz)) u_1)))) <| o_g (g_t rfl rfl rfl (fun hG => Za rfl rfl (Opd.gd hG u_0))) <| o_g (g_fi rfl rfl rfl (fun hG => Ze Zd9 rfl rfl u_0)) <| o_g (g_fi rfl rfl rfl (fun hG => Zf ty_2 rfl rfl (Opd.gd hG u_0))) <| o_g (g_fi rfl rfl rfl (fun hG => Ze Zjn rfl rfl u_0)) <| o_g (g_fi rfl rfl rfl (fun hG => Zf ty_2 rfl rfl (Opd.gd hG u_0))) <| o_g (g_fi rfl rfl rfl (fun hG => Zcy rfl rfl (Opd.gd hG u_0) (Opd.gd hG u_1))) <| o_g (g_t rfl rfl rfl (fun hG => Zby rfl rfl (Opd.gd hG u_0) (fun hz => (Opd.gd (bA hG (bNF hz)) u_1)))) <| o_g (g_t rfl rfl rfl (fun hG => Za rfl rfl (Opd.gd hG u_0))) <| o_g (g_fi rfl rfl rfl (fun hG => Ze Zd9 rfl rfl u_0)) <| o_g (g_fi rfl rfl rfl (fun hG => Zf ty_2 rfl rfl (Opd.gd hG u_0))) <| o_g (g_fi rfl rfl rfl (fun hG => Ze Zjm rfl rfl u_0)) <| o_g (g_fi rfl rfl rfl (fun hG => Zf ty_2 rfl rfl (Opd.gd hG u_0))) <| o_g (g_fi rfl rfl rfl (fun hG => Zcj rfl rfl (Opd.gd hG u_0) (Opd.gd hG u_1))) <| o_g (g_t rfl rfl rfl (fun hG => Zby rfl rfl (Opd.gd hG u_0) (fun hz => (Opd.gd (bA hG (bNF hz)) u_1)))) <| o_p rfl (Zbh rfl rfl u_0 (fun hz => (Opd.gd hz u_1))) <| o_n) (by kernel_rfl) (fun a g hst hb => ?_)
       refine wp_cond_split (hst.bool 1 rfl) (fun hc8 => ?_) (fun hc8 => ?_)
       · replace H0 := Z1 hc8 H0
         refine r_s (L := []) (T := [⟨[], _, [], [], [2]⟩]) (F := [.op 0 0]) (hst.pick [] rfl) hb Zb
           (o_p rfl (Zc rfl rfl c_i) <| o_n) (by kernel_rfl) (fun a g hst hb => ?_)
         refine wp_ret ?_
         refine Zs ?_
         obtain rfl := Option.some.inj H0
         exact Z2 rfl hst hb (Zk (s := 2)) (hst.at 0 rfl)
       · replace H0 := Z0 hc8 H0
         refine wp_skip ?_
         refine Zt ?_
         refine wp_seq ?_
         obtain ⟨r9, h10, H0⟩ := Zh H0
         refine r_s (L := [(1, _)]) (T := [⟨[.old 0], _, [], [], [59]⟩, ⟨[.op 0 0], _, [], [0], [60]⟩, ⟨[.op 1 0], _, [], [0, 1], [61]⟩, ⟨[.op 2 0], _, [], [0, 1, 2], [62]⟩]) (F := [.old 0, .op 3 0]) (hst.pick [0] rfl) hb Zb
           (o_p rfl (Ze Zkj rfl rfl u_0) <| o_p rfl (Zf Ze0 rfl rfl u_0) <| o_p rfl (Zq Z25 (Zkk _ h10) rfl rfl (.cons u_0 .nil)) <| o_p rfl (Zcv rfl rfl u_0) <| o_n) (by kernel_rfl) (fun a g hst hb => ?_)
         refine wp_cond_split (hst.bool 1 rfl) (fun hc11 => ?_) (fun hc11 => ?_)
         · replace H0 := Z1 hc11 H0
           refine r_s (L := []) (T := [⟨[], _, [], [], [2]⟩]) (F := [.op 0 0]) (hst.pick [] rfl) hb Zb
             (o_p rfl (Zc rfl rfl c_i) <| o_n) (by kernel_rfl) (fun a g hst hb => ?_)
           refine wp_ret ?_
           refine Zs ?_
           obtain rfl := Option.some.inj H0
           exact Z2 rfl hst hb (Zk (s := 2)) (hst.at 0 rfl)
         · replace H0 := Z0 hc11 H0
           refine wp_skip ?_
           refine Zt ?_
           refine wp_seq ?_
           refine r_s (L := [(1, _)]) (T := [⟨[.old 0], _, [], [], [63]⟩, ⟨[.op 0 0], _, [], [0], [64]⟩, ⟨[.op 1 0], _, [], [0, 1], [65]⟩]) (F := [.old 0, .op 2 0]) (hst.pick [0] rfl) hb Zb
             (o_p rfl (Ze Zfx rfl rfl u_0) <| o_p rfl (Zf ty_3 rfl rfl u_0) <| o_p rfl (Zcy rfl rfl u_0 c_i) <| o_n) (by kernel_rfl) (fun a g hst hb => ?_)
           refine wp_cond_split (hst.bool 1 rfl) (fun hc12 => ?_) (fun hc12 => ?_)
           · replace H0 := Z1 hc12 H0
             refine r_s (L := []) (T := [⟨[], _, [], [], [2]⟩]) (F := [.op 0 0]) (hst.pick [] rfl) hb Zb
               (o_p rfl (Zc rfl rfl c_i) <| o_n) (by kernel_rfl) (fun a g hst hb => ?_)
             refine wp_ret ?_
             refine Zs ?_
             obtain rfl := Option.some.inj H0
             exact Z2 rfl hst hb (Zk (s := 2)) (hst.at 0 rfl)
           · replace H0 := Z0 hc12 H0
             refine wp_skip ?_
             refine Zt ?_
             refine wp_seq ?_
             refine r_s (L := [(1, _)]) (T := [⟨[.old 0], _, [], [], [66]⟩, ⟨[.op 0 0], _, [], [0], [67]⟩, ⟨[.op 1 0], _, [], [0, 1], [68]⟩, ⟨[.op 2 0], _, [], [0, 1, 2], [69]⟩, ⟨[.op 3 0, .old 0], _, [], List.range 4, [70]⟩, ⟨[.op 3 0, .op 4 0], _, [], List.range 5, [71]⟩, ⟨[.op 3 0, .op 5 0], _, [], List.range 6, [72]⟩, ⟨[.op 3 0, .op 6 0], _, [], List.range 7, [73]⟩]) (F := [.old 0, .op 7 0]) (hst.pick [0] rfl) hb Zb
               (o_p rfl (Ze Zhj rfl rfl u_0) <| o_p rfl (Zf ty_3 rfl rfl u_0) <| o_p rfl (Zcy rfl rfl u_0 c_i) <| o_p rfl (Za rfl rfl u_0) <| o_g (g_f rfl rfl rfl (fun hG => Ze Zhj rfl rfl u_0)) <| o_g (g_f rfl rfl rfl (fun hG => Zf ty_3 rfl rfl (Opd.gd hG u_0))) <| o_g (g_f rfl rfl rfl (fun hG => Zcj rfl rfl (Opd.gd hG u_0) c_i)) <| o_p rfl (Zby rfl rfl u_0 (fun hz => (Opd.gd (bNF hz) u_1))) <| o_n) (by kernel_rfl) (fun a g hst hb => ?_)
             refine wp_cond_split (hst.bool 1 rfl) (fun hc13 => ?_) (fun hc13 => ?_)
             · replace H0 := Z1 hc13 H0
               refine r_s (L := []) (T := [⟨[], _, [], [], [2]⟩]) (F := [.op 0 0]) (hst.pick [] rfl) hb Zb
                 (o_p rfl (Zc rfl rfl c_i) <| o_n) (by kernel_rfl) (fun a g hst hb => ?_)
               refine wp_ret ?_
               refine Zs ?_
               obtain rfl := Option.some.inj H0
               exact Z2 rfl hst hb (Zk (s := 2)) (hst.at 0 rfl)
             · replace H0 := Z0 hc13 H0
               refine wp_skip ?_
               refine Zt ?_
               refine wp_seq ?_
               refine r_s (L := [(1, _)]) (T := [⟨[.old 0], _, [], [], [74]⟩, ⟨[.op 0 0], _, [], [0], [75]⟩, ⟨[.op 1 0], _, [], [0, 1], [76]⟩, ⟨[.old 0], _, [], [], [77]⟩, ⟨[.op 3 0], _, [], [3], [78]⟩, ⟨[.op 2 0, .op 4 0], _, [], List.range 5, [79]⟩]) (F := [.old 0, .op 5 0]) (hst.pick [0] rfl) hb Zb
                 (o_p rfl (Ze Zdb rfl rfl u_0) <| o_p rfl (Zf Zer rfl rfl u_0) <| o_p rfl (Zb7 Tryd.underlying43 rfl rfl u_0) <| o_p rfl (Ze Zhj rfl rfl u_0) <| o_p rfl (Zf ty_3 rfl rfl u_0) <| o_p rfl (Zcj rfl rfl u_0 u_1) <| o_n) (by kernel_rfl) (fun a g hst hb => ?_)
               refine wp_cond_split (hst.bool 1 rfl) (fun hc14 => ?_) (fun hc14 => ?_)
               · replace H0 := Z1 hc14 H0
                 refine r_s (L := []) (T := [⟨[], _, [], [], [2]⟩]) (F := [.op 0 0]) (hst.pick [] rfl) hb Zb
                   (o_p rfl (Zc rfl rfl c_i) <| o_n) (by kernel_rfl) (fun a g hst hb => ?_)
                 refine wp_ret ?_
                 refine Zs ?_
                 obtain rfl := Option.some.inj H0
                 exact Z2 rfl hst hb (Zk (s := 2)) (hst.at 0 rfl)
               · replace H0 := Z0 hc14 H0
                 refine wp_skip ?_
                 refine Zt ?_
                 refine wp_seq ?_
                 refine r_s (L := [(1, _)]) (T := [⟨[], _, [], [], [4]⟩]) (F := [.old 0, .op 0 0]) (hst.pick [0] rfl) hb Zb
                   (o_p rfl (Zc rfl rfl c_i) <| o_n) (by kernel_rfl) (fun a g hst hb => ?_)
                 obtain ⟨z20, hz1, H0⟩ := Zh H0
                 refine Zc6 (fun a w => ∃ (g : G), w = g.w ∧ St 96 [] a g ∧ Base g0 g ∧ (.inr ()) = z20) ?_ ?_
                 · rintro a w ⟨g, rfl, hst, hb, rfl⟩
                   refine Zt ?_
                   refine r_s (T := [⟨[], _, [], [], [2]⟩]) (F := [.op 0 0]) hst hb Zb
                     (o_p rfl (Zc rfl rfl c_i) <| o_n) (by kernel_rfl) (fun a g hst hb => ?_)
                   refine wp_ret ?_
                   obtain rfl := Option.some.inj H0
                   exact Z2 rfl hst hb (Zk (s := 2)) (hst.at 0 rfl)
                 · refine wp_block ?_
                   refine wp_loop_ghost (fun n a w => ∃ (x15 : Int) (g : G), w = g.w ∧ St 96 [(1, (Zi.ptr a0)), (4, (pInt .i64 x15))] a g ∧ Base g0 g ∧ Zdl a0 n x15 = some z20) (Int.toNat ((a0.List.length : Int) - (0 : Int)) + 1) ⟨(0 : Int), g, rfl, (hst.pick [0, 1] rfl), hb, hz1⟩ (fun n a w hI => ?_)
                   obtain ⟨x15, g, rfl, hst, hb, H1⟩ := hI
                   cases n with
                   | zero => exact absurd H1 (by simp [Zdl])
                   | succ n =>
                     rw [Zdl] at H1
                     refine wp_seq ?_
                     refine r_s (T := [⟨[.old 1], _, [], [], [80]⟩, ⟨[.old 0], _, [], [], [81]⟩, ⟨[.op 1 0], _, [], [1], [82]⟩, ⟨[.op 2 0], _, [], [1, 2], [83]⟩, ⟨[.op 0 0, .op 3 0], _, [], List.range 4, [84]⟩]) (F := [.old 0, .old 1, .op 4 0]) hst hb Zb
                       (o_p rfl (Za rfl rfl u_0) <| o_p rfl (Ze Zdb rfl rfl u_0) <| o_p rfl (Zf Zer rfl rfl u_0) <| o_p rfl (Zb7 Tryd.underlying43 rfl rfl u_0) <| o_p rfl (Zcy rfl rfl u_0 u_1) <| o_n) (by kernel_rfl) (fun a g hst hb => ?_)
                     refine wp_cond_split (hst.bool 2 rfl) (fun hc16 => ?_) (fun hc16 => ?_)
                     · replace H1 := Z1 hc16 H1
                       refine wp_skip ?_
                       refine Zt ?_
                       refine wp_seq ?_
                       refine wp_block ?_
                       obtain ⟨r17, h18, H1⟩ := Zh H1
                       refine r_s (L := [(1, _), (4, _)]) (T := [⟨[.old 0], _, [], [], [87]⟩, ⟨[.op 0 0], _, [], [0], [88]⟩, ⟨[.old 0], _, [], [], [89]⟩, ⟨[.op 2 0], _, [], [2], [90]⟩, ⟨[.old 1], _, [], [], [91]⟩, ⟨[.op 1 0, .op 3 0, .op 4 0], _, [], List.range 5, [92]⟩, ⟨[.op 5 0], _, [], List.range 6, [5]⟩]) (F := [.old 0, .old 1, .op 6 0]) (hst.pick [0, 1] rfl) hb Zb
                         (o_p rfl (Ze Zfx rfl rfl u_0) <| o_p rfl (Zf ty_3 rfl rfl u_0) <| o_p rfl (Ze Zdb rfl rfl u_0) <| o_p rfl (Zf Zer rfl rfl u_0) <| o_p rfl (Za rfl rfl u_0) <| o_p rfl (Zq Z6p (Zor _ _ _ h18) rfl rfl (.cons u_0 (.cons u_1 (.cons u_2 .nil)))) <| o_p rfl (Zc rfl rfl u_0) <| o_n) (by kernel_rfl) (fun a g hst hb => ?_)
                       refine r_s (T := [⟨[.old 2], _, [], [], [93]⟩, ⟨[.op 0 0], _, [], [0], [94]⟩]) (F := [.old 0, .old 1, .old 2, .op 1 0]) hst hb Zb
                         (o_p rfl (Za rfl rfl u_0) <| o_p rfl (Zfr rfl rfl u_0 c_i) <| o_n) (by kernel_rfl) (fun a g hst hb => ?_)
                       refine wp_cond_split (hst.bool 3 rfl) (fun hc19 => ?_) (fun hc19 => ?_)
                       · replace H1 := Z1 hc19 H1
                         refine r_s (L := [(5, _)]) (T := [⟨[.old 0], _, [], [], [95]⟩, ⟨[.op 0 0], _, [], [0], [2]⟩]) (F := [.op 1 0]) (hst.pick [2] rfl) hb Zb
                           (o_p rfl (Za rfl rfl u_0) <| o_p rfl (Zc rfl rfl u_0) <| o_n) (by kernel_rfl) (fun a g hst hb => ?_)
                         refine wp_ret ?_
                         refine Zy ?_
                         refine Zs ?_
                         refine Zs ?_
                         refine Zy ?_
                         refine Zs ?_
                         refine Zs ?_
                         obtain rfl := Option.some.inj H1
                         obtain rfl := Option.some.inj H0
                         exact Z2 rfl hst hb (Zk (s := 2)) (hst.at 0 rfl)
                       · replace H1 := Z0 hc19 H1
                         refine wp_skip ?_
                         refine Zbt ?_
                         refine Zt ?_
                         refine r_g (L := [(1, _), (4, _)]) (T := [⟨[.old 1], _, [], [], [85]⟩, ⟨[.op 0 0], _, [], [0], [86]⟩, ⟨[.op 1 0], _, [], [0, 1], [4]⟩]) (F := [.old 0, .op 2 0]) (hst.pick [0, 1] rfl) hb Zb
                           (o_p rfl (Za rfl rfl u_0) <| o_p rfl (Zcb rfl rfl u_0 c_i rfl) <| o_p rfl (Zc rfl rfl u_0) <| o_n) (by kernel_rfl) (fun a g hst hb => ?_)
                         exact ⟨n, Nat.lt_succ_self _, (IntKind.i64.wrap (x15 + (1 : Int))), g, rfl, (hst.pick [0, 1] rfl), hb, H1⟩
                     · replace H1 := Z0 hc16 H1
                       refine wp_exit ?_
                       refine Zcc ?_
                       refine Zcc ?_
                       refine Zda ?_
                       exact ⟨g, rfl, (hst.pick [] rfl), hb, Option.some.inj H1⟩
end Go.CL
set_option linter.unusedVariables false
set_option linter.unusedSimpArgs false
set_option maxRecDepth 100000
namespace Go.CL
open Go Go.RowKit Go.Proofs
theorem Zl6 (a0 : Zl) (a1 : ByteArray) {r : Int} (h : Zds a0 a1 = some r) : FnOk Tryd.prog 40 [(Zbp.pd a0), (pStr a1)] (pInt .i64 r) := by
 have H0 := h
 unfold Zds at H0
 clear h
 refine Zbr (N := 24) Tryd.func40 rfl rfl (Nat.le_of_ble_eq_true rfl) rfl rfl (fun a g0 hst hb => ?_)
 refine r_s (T := [⟨[.old 0], _, [], [], [2]⟩, ⟨[], _, [], [], [4]⟩]) (F := [.old 1, .op 0 0]) hst hb Zb
   (o_p rfl (Zbj rfl rfl u_0) <| o_p rfl (Zc rfl rfl c_i) <| o_n) (by kernel_rfl) (fun a g hst hb => ?_)
 refine r_s (T := [⟨[], _, [], [], [5]⟩]) (F := [.old 0, .old 1, .op 0 0]) hst hb Zb
   (o_p rfl (Zc rfl rfl c_i) <| o_n) (by kernel_rfl) (fun a g hst hb => ?_)
 obtain ⟨z6, hz1, H0⟩ := Zh H0
 refine wp_seq ?_
 refine Zc6 (fun a w => ∃ (y5 : Int) (g : G), w = g.w ∧ St 24 [(5, (pInt .i64 y5))] a g ∧ Base g0 g ∧ y5 = z6) ?_ ?_
 · rintro a w ⟨y5, g, rfl, hst, hb, rfl⟩
   refine Zt ?_
   refine r_s (T := [⟨[.old 0], _, [], [], [23]⟩, ⟨[.op 0 0], _, [], [0], [4]⟩]) (F := [.op 1 0]) hst hb Zb
     (o_p rfl (Za rfl rfl u_0) <| o_p rfl (Zc rfl rfl u_0) <| o_n) (by kernel_rfl) (fun a g hst hb => ?_)
   refine wp_ret ?_
   obtain rfl := Option.some.inj H0
   exact Z2 rfl hst hb (Zk (s := 4)) (hst.at 0 rfl)
 · refine wp_block ?_
   refine wp_loop_ghost (fun n a w => ∃ (x1 : Int) (g : G), w = g.w ∧ St 24 [(1, (pStr a1)), (2, (Zbp.ptr a0)), (5, (pInt .i64 x1))] a g ∧ Base g0 g ∧ Zcr a0 a1 n x1 = some z6) (Int.toNat ((a0.L.length : Int) - (0 : Int)) + 1) ⟨(0 : Int), g, rfl, (hst.pick [0, 1, 2] rfl), hb, hz1⟩ (fun n a w hI => ?_)
   obtain ⟨x1, g, rfl, hst, hb, H1⟩ := hI
   cases n with
   | zero => exact absurd H1 (by simp [Zcr])
   | succ n =>
     rw [Zcr] at H1
     refine wp_seq ?_
     obtain ⟨e2, h3, H1⟩ := Zh H1
     refine r_s (T := ⟨[.old 2], _, [], [], [6]⟩ :: ⟨[.old 1], _, [], [], [7]⟩ :: ⟨[.op 1 0], _, [], [1], [8]⟩ :: ⟨[.op 2 0], _, [], [1, 2], [9]⟩ :: ⟨[.op 0 0, .op 3 0], _, [], List.range 4, [10]⟩ :: ⟨[.op 4 0], _, [], List.range 5, [11]⟩ :: ⟨[.op 5 0, .old 1], _, [], List.range 6, [12]⟩ :: ⟨[.op 5 0, .op 6 0], _, [], List.range 7, [13]⟩ :: ⟨[.op 5 0, .old 2], _, [], List.range 6, [14]⟩ :: ⟨[.op 5 0, .op 7 0, .op 8 0], _, [], List.range 9, [15]⟩ :: ⟨[.op 5 0, .op 9 0], _, [], List.range 10, [16]⟩ :: ⟨[.op 5 0, .op 10 0], _, [], List.range 11, [17]⟩ :: ⟨[.op 5 0, .old 0], _, [], List.range 6, [18]⟩ :: ⟨[.op 5 0, .op 11 0, .op 12 0], _, [], List.range 13, [19]⟩ :: ⟨[.op 5 0, .op 13 0], _, [], List.range 14, [20]⟩ :: []) (F := [.old 0, .old 1, .old 2, .op 14 0]) hst hb Zb
       (o_p rfl (Za rfl rfl u_0) <| o_p rfl (Ze Zlg rfl rfl u_0) <| o_p rfl (Zf Zog rfl rfl u_0) <| o_p rfl (Zb7 Tryd.underlying22 rfl rfl u_0) <| o_p rfl (Zcy rfl rfl u_0 u_1) <| o_p rfl (Za rfl rfl u_0) <| o_g (g_t rfl rfl rfl (fun hG => Ze Zlg rfl rfl u_0)) <| o_g (g_t rfl rfl rfl (fun hG => Zf Zog rfl rfl (Opd.gd hG u_0))) <| o_g (g_t rfl rfl rfl (fun hG => Za rfl rfl u_0)) <| o_g (g_t rfl rfl rfl (fun hG => Zbx Tryd.underlying22 Zsn rfl rfl (Opd.gd hG u_0) (Opd.gd hG u_1) (Zbo h3 hG))) <| o_g (g_t rfl rfl rfl (fun hG => Ze Znk rfl rfl (Opd.gd hG u_0))) <| o_g (g_t rfl rfl rfl (fun hG => Zf ty_9 rfl rfl (Opd.gd hG u_0))) <| o_g (g_t rfl rfl rfl (fun hG => Za rfl rfl u_0)) <| o_g (g_t rfl rfl rfl (fun hG => Zly rfl rfl (Opd.gd hG u_0) (Opd.gd hG u_1))) <| o_p rfl (Zbh rfl rfl u_0 (fun hz => (Opd.gd hz u_1))) <| o_n) (by kernel_rfl) (fun a g hst hb => ?_)
     refine wp_cond_split (hst.bool 3 rfl) (fun hc4 => ?_) (fun hc4 => ?_)
     · replace H1 := Z1 hc4 H1
       refine wp_skip ?_
       refine Zt ?_
       refine wp_block ?_
       refine r_g (L := [(1, _), (2, _), (5, _)]) (T := [⟨[.old 2], _, [], [], [21]⟩, ⟨[.op 0 0], _, [], [0], [22]⟩, ⟨[.op 1 0], _, [], [0, 1], [5]⟩]) (F := [.old 0, .old 1, .op 2 0]) (hst.pick [0, 1, 2] rfl) hb Zb
         (o_p rfl (Za rfl rfl u_0) <| o_p rfl (Zcb rfl rfl u_0 c_i rfl) <| o_p rfl (Zc rfl rfl u_0) <| o_n) (by kernel_rfl) (fun a g hst hb => ?_)
       refine Zbt ?_
       exact ⟨n, Nat.lt_succ_self _, (IntKind.i64.wrap (x1 + (1 : Int))), g, rfl, (hst.pick [0, 1, 2] rfl), hb, H1⟩
     · replace H1 := Z0 hc4 H1
       refine wp_exit ?_
       refine Zcc ?_
       refine Zcc ?_
       refine Zda ?_
       exact ⟨x1, g, rfl, (hst.pick [2] rfl), hb, Option.some.inj H1⟩
end Go.CL
