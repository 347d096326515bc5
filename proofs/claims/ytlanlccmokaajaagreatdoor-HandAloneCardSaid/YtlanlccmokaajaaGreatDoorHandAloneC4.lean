/- A part of the proof of HandAlone. -/
import Derived.Test.YtlanlccmokaajaaGreatDoorHandAloneC3
set_option linter.unusedVariables false
set_option linter.unusedSimpArgs false
set_option maxRecDepth 100000
namespace Go.CL
open Go Go.RowKit Go.Proofs
theorem Zps (a0:Ze) {r:Int} (h:Zet a0=some r):FnOk Tryz.prog 51 [(Zi.pd a0)] (pInt .i64 r):=by
 have H0:=h
 unfold Zet at H0
 clear h
 refine Zbu (N:=83) Tryz.func51 rfl rfl (Nat.le_of_ble_eq_true rfl) rfl rfl (fun a g0 hst hb=>?_)
 refine r_s (T:=[⟨[.old 0],_,[],[],[1]⟩,⟨[],_,[],[],[2]⟩]) (F:=[.op 0 0]) hst hb Zb
  (o_p rfl (Zbq rfl rfl u_0)<|o_p rfl (Zc rfl rfl c_i)<|o_n) (by kernel_rfl) (fun a g hst hb=>?_)
 obtain ⟨r1,h2,H0⟩:=Zh H0
 refine r_s (T:=[⟨[.old 0],_,[],[],[4]⟩,⟨[.op 0 0],_,[],[0],[5]⟩,⟨[.op 1 0],_,[],[0,1],[6]⟩,⟨[],[(3,(pBox Zdb 3 (default:Zcg)))],[4],[],[3]⟩,⟨[.op 2 0,.op 3 0],_,[4],Lr 4,[3]⟩]) (F:=[.old 0,.op 4 0]) hst hb Zb
  (o_p rfl (Zd Zge rfl rfl u_0)<|o_p rfl (Zf ty_3 rfl rfl u_0)<|o_p rfl (Zo Zbcj (Zx3 _ h2) rfl rfl (.cons u_0 .nil))<|o_p rfl (Zbh (zs:=[.bool false,.bool false,.bool false,.bool false,.bool false]) (by kernel_rfl) (fun g=>Zsf g) rfl rfl)<|o_p rfl (Zb5 Zj2 rfl rfl u_1 u_0)<|o_n) (by kernel_rfl) (fun a g hst hb=>?_)
 refine wp_seq ?_
 refine wp_block ?_
 refine r_s (T:=[⟨[.old 0],_,[],[],[8]⟩,⟨[.op 0 0],_,[],[0],[9]⟩,⟨[.op 1 0],_,[],[0,1],[10]⟩,⟨[.op 2 0],_,[],[0,1,2],[11]⟩,⟨[.op 3 0,.old 0],_,[],Lr 4,[12]⟩,⟨[.op 3 0,.op 4 0],_,[],Lr 5,[13]⟩,⟨[.op 3 0,.op 5 0],_,[],Lr 6,[14]⟩,⟨[.op 3 0,.op 6 0],_,[],Lr 7,[15]⟩,⟨[.op 7 0],_,[],Lr 8,[7]⟩]) (F:=[.old 0,.old 1,.op 8 0]) hst hb Zb
  (o_p rfl (Zd Zge rfl rfl u_0)<|o_p rfl (Zf ty_3 rfl rfl u_0)<|o_p rfl (Z7o rfl rfl u_0 c_i)<|o_p rfl (Za rfl rfl u_0)<|o_g (g_f rfl rfl rfl (fun hG=>Zd Zge rfl rfl u_0))<|o_g (g_f rfl rfl rfl (fun hG=>Zf ty_3 rfl rfl (Opd.gd hG u_0)))<|o_g (g_f rfl rfl rfl (fun hG=>Zmn rfl rfl (Opd.gd hG u_0) c_i))<|o_p rfl (Zbo rfl rfl u_0 (fun hz=>(Opd.gd (bNF hz) u_1)))<|o_p rfl (Zc rfl rfl u_0)<|o_n) (by kernel_rfl) (fun a g hst hb=>?_)
 refine wp_cond_split (hst.bool 2 rfl) (fun hc3=>?_) (fun hc3=>?_)
 ·replace H0:=Zv hc3 H0
  refine r_s (L:=[]) (T:=[⟨[],_,[],[],[2]⟩]) (F:=[.op 0 0]) (hst.pick [] rfl) hb Zb
   (o_p rfl (Zc rfl rfl c_i)<|o_n) (by kernel_rfl) (fun a g hst hb=>?_)
  refine wp_ret ?_
  refine Z6 ?_
  refine Zr ?_
  obtain rfl:=Option.some.inj H0
  exact Z5 rfl hst hb (Zk (s:=2)) (hst.at 0 rfl)
 ·replace H0:=Zw hc3 H0
  obtain ⟨r4,h5,H0⟩:=Zh H0
  refine r_s (L:=[(1,_),(3,_)]) (T:=[⟨[.old 0],_,[],[],[17]⟩,⟨[.old 1],_,[],[],[18]⟩,⟨[.op 0 0,.op 1 0],_,[],[0,1],[19]⟩,⟨[.op 2 0],_,[],[0,1,2],[20]⟩,⟨[.op 3 0],_,[],Lr 4,[16]⟩]) (F:=[.old 0,.old 1,.op 4 0]) (hst.pick [0,1] rfl) hb Zb
   (o_p rfl (Zf Zbc rfl rfl u_0)<|o_p rfl (Zf Zj2 rfl rfl u_0)<|o_p rfl (Zo Zbcr (Z06 _ _ h5) rfl rfl (.cons u_0 (.cons u_1 .nil)))<|o_p rfl (Zb2 rfl rfl u_0)<|o_p rfl (Zc rfl rfl u_0)<|o_n) (by kernel_rfl) (fun a g hst hb=>?_)
  refine wp_cond_split (hst.bool 2 rfl) (fun hc6=>?_) (fun hc6=>?_)
  ·replace H0:=Zv hc6 H0
   refine r_s (L:=[]) (T:=[⟨[],_,[],[],[2]⟩]) (F:=[.op 0 0]) (hst.pick [] rfl) hb Zb
    (o_p rfl (Zc rfl rfl c_i)<|o_n) (by kernel_rfl) (fun a g hst hb=>?_)
   refine wp_ret ?_
   refine Z6 ?_
   refine Zr ?_
   obtain rfl:=Option.some.inj H0
   exact Z5 rfl hst hb (Zk (s:=2)) (hst.at 0 rfl)
  ·replace H0:=Zw hc6 H0
   refine r_s (L:=[(1,_),(3,_)]) (T:=[⟨[.old 0],_,[],[],[22]⟩,⟨[.op 0 0],_,[],[0],[23]⟩,⟨[.op 1 0],_,[],[0,1],[24]⟩,⟨[.op 2 0],_,[],[0,1,2],[25]⟩,⟨[.op 3 0],_,[],Lr 4,[21]⟩]) (F:=[.old 0,.old 1,.op 4 0]) (hst.pick [0,1] rfl) hb Zb
    (o_p rfl (Zd Zi9 rfl rfl u_0)<|o_p rfl (Zf ty_9 rfl rfl u_0)<|o_p rfl (Zfp Tryz.underlying9 rfl rfl u_0)<|o_p rfl (Zcu rfl rfl u_0 c_i)<|o_p rfl (Zc rfl rfl u_0)<|o_n) (by kernel_rfl) (fun a g hst hb=>?_)
   refine wp_cond_split (hst.bool 2 rfl) (fun hc7=>?_) (fun hc7=>?_)
   ·replace H0:=Zv hc7 H0
    refine r_s (L:=[]) (T:=[⟨[],_,[],[],[2]⟩]) (F:=[.op 0 0]) (hst.pick [] rfl) hb Zb
     (o_p rfl (Zc rfl rfl c_i)<|o_n) (by kernel_rfl) (fun a g hst hb=>?_)
    refine wp_ret ?_
    refine Z6 ?_
    refine Zr ?_
    obtain rfl:=Option.some.inj H0
    exact Z5 rfl hst hb (Zk (s:=2)) (hst.at 0 rfl)
   ·replace H0:=Zw hc7 H0
    refine r_s (L:=[(1,_),(3,_)]) (T:=⟨[.old 1],_,[],[],[27]⟩ :: ⟨[.op 0 0],_,[],[0],[28]⟩ :: ⟨[.op 1 0],_,[],[0,1],[29]⟩ :: ⟨[.op 2 0,.old 0],_,[],[0,1,2],[30]⟩ :: ⟨[.op 2 0,.op 3 0],_,[],Lr 4,[31]⟩ :: ⟨[.op 2 0,.op 4 0],_,[],Lr 5,[32]⟩ :: ⟨[.op 2 0,.op 5 0],_,[],Lr 6,[33]⟩ :: ⟨[.op 6 0,.old 0],_,[],Lr 7,[34]⟩ :: ⟨[.op 6 0,.op 7 0],_,[],Lr 8,[35]⟩ :: ⟨[.op 6 0,.op 8 0],_,[],Lr 9,[36]⟩ :: ⟨[.op 2 0,.op 6 0,.op 9 0],_,[],Lr 10,[37]⟩ :: ⟨[.op 2 0,.op 10 0],_,[],Lr 11,[38]⟩ :: ⟨[.op 11 0,.old 0],_,[],Lr 12,[39]⟩ :: ⟨[.op 11 0,.op 12 0],_,[],Lr 13,[40]⟩ :: ⟨[.op 11 0,.old 0],_,[],Lr 12,[41]⟩ :: ⟨[.op 11 0,.op 14 0],_,[],0 :: 1 :: 2 :: 3 :: 4 :: 5 :: 6 :: 7 :: 8 :: 9 :: 10 :: 11 :: 14 :: [],[42]⟩ :: ⟨[.op 11 0,.op 13 0,.op 15 0],_,[],Lr 16,[43]⟩ :: ⟨[.op 2 0,.op 11 0,.op 16 0],_,[],Lr 17,[44]⟩ :: ⟨[.op 2 0,.op 17 0],_,[],Lr 18,[45]⟩ :: ⟨[.op 18 0,.old 0],_,[],Lr 19,[46]⟩ :: ⟨[.op 18 0,.op 19 0],_,[],Lr 20,[47]⟩ :: ⟨[.op 18 0,.old 0],_,[],Lr 19,[48]⟩ :: ⟨[.op 18 0,.op 21 0],_,[],0 :: 1 :: 2 :: 3 :: 4 :: 5 :: 6 :: 7 :: 8 :: 9 :: 10 :: 11 :: 12 :: 13 :: 14 :: 15 :: 16 :: 17 :: 18 :: 21 :: [],[49]⟩ :: ⟨[.op 18 0,.op 20 0,.op 22 0],_,[],Lr 23,[50]⟩ :: ⟨[.op 2 0,.op 18 0,.op 23 0],_,[],Lr 24,[51]⟩ :: ⟨[.op 2 0,.op 24 0],_,[],Lr 25,[52]⟩ :: ⟨[.op 25 0],_,[],Lr 26,[26]⟩ :: []) (F:=[.old 0,.old 1,.op 26 0]) (hst.pick [0,1] rfl) hb Zb
     (o_p rfl (Zd Zzd rfl rfl u_0)<|o_p rfl (Zf ty_4 rfl rfl u_0)<|o_p rfl (Za rfl rfl u_0)<|o_g (g_t rfl rfl rfl (fun hG=>Zd Zjp rfl rfl u_0))<|o_g (g_t rfl rfl rfl (fun hG=>Zf ty_2 rfl rfl (Opd.gd hG u_0)))<|o_g (g_t rfl rfl rfl (fun hG=>Zci rfl rfl (Opd.gd hG u_0) c_i))<|o_g (g_t rfl rfl rfl (fun hG=>Za rfl rfl (Opd.gd hG u_0)))<|o_g (g_fi rfl rfl rfl (fun hG=>Zd Zjo rfl rfl u_0))<|o_g (g_fi rfl rfl rfl (fun hG=>Zf ty_2 rfl rfl (Opd.gd hG u_0)))<|o_g (g_fi rfl rfl rfl (fun hG=>Zcu rfl rfl (Opd.gd hG u_0) c_i))<|o_g (g_t rfl rfl rfl (fun hG=>Zbo rfl rfl (Opd.gd hG u_0) (fun hz=>(Opd.gd (bA hG (bNF hz)) u_1))))<|o_g (g_t rfl rfl rfl (fun hG=>Za rfl rfl (Opd.gd hG u_0)))<|o_g (g_fi rfl rfl rfl (fun hG=>Zd Zc1 rfl rfl u_0))<|o_g (g_fi rfl rfl rfl (fun hG=>Zf ty_2 rfl rfl (Opd.gd hG u_0)))<|o_g (g_fi rfl rfl rfl (fun hG=>Zd Zjp rfl rfl u_0))<|o_g (g_fi rfl rfl rfl (fun hG=>Zf ty_2 rfl rfl (Opd.gd hG u_0)))<|o_g (g_fi rfl rfl rfl (fun hG=>Zci rfl rfl (Opd.gd hG u_0) (Opd.gd hG u_1)))<|o_g (g_t rfl rfl rfl (fun hG=>Zbo rfl rfl (Opd.gd hG u_0) (fun hz=>(Opd.gd (bA hG (bNF hz)) u_1))))<|o_g (g_t rfl rfl rfl (fun hG=>Za rfl rfl (Opd.gd hG u_0)))<|o_g (g_fi rfl rfl rfl (fun hG=>Zd Zc1 rfl rfl u_0))<|o_g (g_fi rfl rfl rfl (fun hG=>Zf ty_2 rfl rfl (Opd.gd hG u_0)))<|o_g (g_fi rfl rfl rfl (fun hG=>Zd Zjo rfl rfl u_0))<|o_g (g_fi rfl rfl rfl (fun hG=>Zf ty_2 rfl rfl (Opd.gd hG u_0)))<|o_g (g_fi rfl rfl rfl (fun hG=>Zcu rfl rfl (Opd.gd hG u_0) (Opd.gd hG u_1)))<|o_g (g_t rfl rfl rfl (fun hG=>Zbo rfl rfl (Opd.gd hG u_0) (fun hz=>(Opd.gd (bA hG (bNF hz)) u_1))))<|o_p rfl (Zbi rfl rfl u_0 (fun hz=>(Opd.gd hz u_1)))<|o_p rfl (Zc rfl rfl u_0)<|o_n) (by kernel_rfl) (fun a g hst hb=>?_)
    refine wp_cond_split (hst.bool 2 rfl) (fun hc8=>?_) (fun hc8=>?_)
    ·replace H0:=Zv hc8 H0
     refine r_s (L:=[]) (T:=[⟨[],_,[],[],[2]⟩]) (F:=[.op 0 0]) (hst.pick [] rfl) hb Zb
      (o_p rfl (Zc rfl rfl c_i)<|o_n) (by kernel_rfl) (fun a g hst hb=>?_)
     refine wp_ret ?_
     refine Z6 ?_
     refine Zr ?_
     obtain rfl:=Option.some.inj H0
     exact Z5 rfl hst hb (Zk (s:=2)) (hst.at 0 rfl)
    ·replace H0:=Zw hc8 H0
     obtain ⟨r9,h10,H0⟩:=Zh H0
     refine r_s (L:=[(1,_),(3,_)]) (T:=[⟨[.old 0],_,[],[],[54]⟩,⟨[.op 0 0],_,[],[0],[55]⟩,⟨[.op 1 0],_,[],[0,1],[56]⟩,⟨[.op 2 0],_,[],[0,1,2],[57]⟩,⟨[.op 3 0],_,[],Lr 4,[53]⟩]) (F:=[.old 0,.old 1,.op 4 0]) (hst.pick [0,1] rfl) hb Zb
      (o_p rfl (Zd Zgc rfl rfl u_0)<|o_p rfl (Zf Zc3 rfl rfl u_0)<|o_p rfl (Zo Z23 (Zou _ h10) rfl rfl (.cons u_0 .nil))<|o_p rfl (Zb2 rfl rfl u_0)<|o_p rfl (Zc rfl rfl u_0)<|o_n) (by kernel_rfl) (fun a g hst hb=>?_)
     refine wp_cond_split (hst.bool 2 rfl) (fun hc11=>?_) (fun hc11=>?_)
     ·replace H0:=Zv hc11 H0
      refine r_s (L:=[]) (T:=[⟨[],_,[],[],[2]⟩]) (F:=[.op 0 0]) (hst.pick [] rfl) hb Zb
       (o_p rfl (Zc rfl rfl c_i)<|o_n) (by kernel_rfl) (fun a g hst hb=>?_)
      refine wp_ret ?_
      refine Z6 ?_
      refine Zr ?_
      obtain rfl:=Option.some.inj H0
      exact Z5 rfl hst hb (Zk (s:=2)) (hst.at 0 rfl)
     ·replace H0:=Zw hc11 H0
      refine r_s (L:=[(1,_),(3,_)]) (T:=[⟨[.old 1],_,[],[],[59]⟩,⟨[.op 0 0],_,[],[0],[60]⟩,⟨[.op 1 0],_,[],[0,1],[61]⟩,⟨[.op 2 0],_,[],[0,1,2],[58]⟩]) (F:=[.old 0,.op 3 0]) (hst.pick [0,1] rfl) hb Zb
       (o_p rfl (Zd Z0v rfl rfl u_0)<|o_p rfl (Zf ty_4 rfl rfl u_0)<|o_p rfl (Zb2 rfl rfl u_0)<|o_p rfl (Zc rfl rfl u_0)<|o_n) (by kernel_rfl) (fun a g hst hb=>?_)
      refine wp_cond_split (hst.bool 1 rfl) (fun hc12=>?_) (fun hc12=>?_)
      ·replace H0:=Zv hc12 H0
       refine r_s (L:=[]) (T:=[⟨[],_,[],[],[2]⟩]) (F:=[.op 0 0]) (hst.pick [] rfl) hb Zb
        (o_p rfl (Zc rfl rfl c_i)<|o_n) (by kernel_rfl) (fun a g hst hb=>?_)
       refine wp_ret ?_
       refine Z6 ?_
       refine Zr ?_
       obtain rfl:=Option.some.inj H0
       exact Z5 rfl hst hb (Zk (s:=2)) (hst.at 0 rfl)
      ·replace H0:=Zw hc12 H0
       refine r_s (L:=[(1,_)]) (T:=[⟨[.old 0],_,[],[],[63]⟩,⟨[.op 0 0],_,[],[0],[64]⟩,⟨[.op 1 0],_,[],[0,1],[65]⟩,⟨[.op 2 0],_,[],[0,1,2],[66]⟩,⟨[.op 3 0,.old 0],_,[],Lr 4,[67]⟩,⟨[.op 3 0,.op 4 0],_,[],Lr 5,[68]⟩,⟨[.op 3 0,.op 5 0],_,[],Lr 6,[69]⟩,⟨[.op 3 0,.op 6 0],_,[],Lr 7,[70]⟩,⟨[.op 7 0],_,[],Lr 8,[62]⟩]) (F:=[.old 0,.op 8 0]) (hst.pick [0] rfl) hb Zb
        (o_p rfl (Zd Zgz rfl rfl u_0)<|o_p rfl (Zf ty_3 rfl rfl u_0)<|o_p rfl (Zci rfl rfl u_0 c_i)<|o_p rfl (Za rfl rfl u_0)<|o_g (g_f rfl rfl rfl (fun hG=>Zd Zgz rfl rfl u_0))<|o_g (g_f rfl rfl rfl (fun hG=>Zf ty_3 rfl rfl (Opd.gd hG u_0)))<|o_g (g_f rfl rfl rfl (fun hG=>Zcu rfl rfl (Opd.gd hG u_0) c_i))<|o_p rfl (Zbo rfl rfl u_0 (fun hz=>(Opd.gd (bNF hz) u_1)))<|o_p rfl (Zc rfl rfl u_0)<|o_n) (by kernel_rfl) (fun a g hst hb=>?_)
       refine wp_cond_split (hst.bool 1 rfl) (fun hc13=>?_) (fun hc13=>?_)
       ·replace H0:=Zv hc13 H0
        refine r_s (L:=[]) (T:=[⟨[],_,[],[],[2]⟩]) (F:=[.op 0 0]) (hst.pick [] rfl) hb Zb
         (o_p rfl (Zc rfl rfl c_i)<|o_n) (by kernel_rfl) (fun a g hst hb=>?_)
        refine wp_ret ?_
        refine Z6 ?_
        refine Zr ?_
        obtain rfl:=Option.some.inj H0
        exact Z5 rfl hst hb (Zk (s:=2)) (hst.at 0 rfl)
       ·replace H0:=Zw hc13 H0
        refine r_s (L:=[(1,_)]) (T:=[⟨[.old 0],_,[],[],[72]⟩,⟨[.op 0 0],_,[],[0],[73]⟩,⟨[.op 1 0],_,[],[0,1],[74]⟩,⟨[.old 0],_,[],[],[75]⟩,⟨[.op 3 0],_,[],[3],[76]⟩,⟨[.op 2 0,.op 4 0],_,[],Lr 5,[77]⟩,⟨[.op 5 0],_,[],Lr 6,[71]⟩]) (F:=[.old 0,.op 6 0]) (hst.pick [0] rfl) hb Zb
         (o_p rfl (Zd Zce rfl rfl u_0)<|o_p rfl (Zf Zc7 rfl rfl u_0)<|o_p rfl (Zb1 Tryz.underlying36 rfl rfl u_0)<|o_p rfl (Zd Zgz rfl rfl u_0)<|o_p rfl (Zf ty_3 rfl rfl u_0)<|o_p rfl (Zcu rfl rfl u_0 u_1)<|o_p rfl (Zc rfl rfl u_0)<|o_n) (by kernel_rfl) (fun a g hst hb=>?_)
        refine wp_cond_split (hst.bool 1 rfl) (fun hc14=>?_) (fun hc14=>?_)
        ·replace H0:=Zv hc14 H0
         refine r_s (L:=[]) (T:=[⟨[],_,[],[],[2]⟩]) (F:=[.op 0 0]) (hst.pick [] rfl) hb Zb
          (o_p rfl (Zc rfl rfl c_i)<|o_n) (by kernel_rfl) (fun a g hst hb=>?_)
         refine wp_ret ?_
         refine Z6 ?_
         refine Zr ?_
         obtain rfl:=Option.some.inj H0
         exact Z5 rfl hst hb (Zk (s:=2)) (hst.at 0 rfl)
        ·replace H0:=Zw hc14 H0
         refine wp_skip ?_
         refine Zbe ?_
         refine Zs ?_
         obtain ⟨r15,h16,H0⟩:=Zh H0
         refine r_s (L:=[(1,_)]) (T:=[⟨[.old 0],_,[],[],[78]⟩,⟨[.op 0 0],_,[],[0],[79]⟩,⟨[.old 0],_,[],[],[80]⟩,⟨[.op 2 0],_,[],[2],[81]⟩,⟨[.op 1 0,.op 3 0],_,[],Lr 4,[82]⟩,⟨[.op 4 0],_,[],Lr 5,[2]⟩]) (F:=[.op 5 0]) (hst.pick [0] rfl) hb Zb
          (o_p rfl (Zd Zge rfl rfl u_0)<|o_p rfl (Zf ty_3 rfl rfl u_0)<|o_p rfl (Zd Zce rfl rfl u_0)<|o_p rfl (Zf Zc7 rfl rfl u_0)<|o_p rfl (Zo Zbc3 (Zzo _ _ h16) rfl rfl (.cons u_0 (.cons u_1 .nil)))<|o_p rfl (Zc rfl rfl u_0)<|o_n) (by kernel_rfl) (fun a g hst hb=>?_)
         refine wp_ret ?_
         obtain rfl:=Option.some.inj H0
         exact Z5 rfl hst hb (Zk (s:=2)) (hst.at 0 rfl)
theorem Zxk (a0:Int) {r:Zdn} (h:Zpp a0=some r):FnOk Tryz.prog 85 [(pInt .i64 a0)] (Ze0.pd r):=by
 have H0:=h
 unfold Zpp at H0
 clear h
 refine Zbu (N:=13) Tryz.func85 rfl rfl (Nat.le_of_ble_eq_true rfl) rfl rfl (fun a g0 hst hb=>?_)
 refine r_s (T:=[⟨[],[(2,(pBox Ze0 2 (default:Zdn)))],[3],[],[2]⟩]) (F:=[.old 0,.op 0 0]) hst hb Zb
  (o_p rfl (Zbh (zs:=[.string ByteArray.empty,.int .i64 0,.string ByteArray.empty]) (by kernel_rfl) (fun g=>Zt4 g) rfl rfl)<|o_n) (by kernel_rfl) (fun a g hst hb=>?_)
 refine wp_seq ?_
 refine r_s (T:=[⟨[.old 0],_,[],[],[3]⟩,⟨[.op 0 0],_,[],[0],[4]⟩,⟨[.op 1 0],_,[],[0,1],[5]⟩,⟨[.op 2 0,.old 0],_,[],[0,1,2],[6]⟩,⟨[.op 2 0,.op 3 0],_,[],Lr 4,[7]⟩,⟨[.op 2 0,.op 4 0],_,[],Lr 5,[8]⟩]) (F:=[.old 0,.old 1,.op 5 0]) hst hb Zb
  (o_p rfl (Za rfl rfl u_0)<|o_p rfl (Z7o rfl rfl u_0 c_i)<|o_p rfl (Za rfl rfl u_0)<|o_g (g_f rfl rfl rfl (fun hG=>Za rfl rfl u_0))<|o_g (g_f rfl rfl rfl (fun hG=>Zmn rfl rfl (Opd.gd hG u_0) c_i))<|o_p rfl (Zbo rfl rfl u_0 (fun hz=>(Opd.gd (bNF hz) u_1)))<|o_n) (by kernel_rfl) (fun a g hst hb=>?_)
 refine wp_cond_split (hst.bool 2 rfl) (fun hc1=>?_) (fun hc1=>?_)
 ·replace H0:=Zv hc1 H0
  refine r_s (L:=[(2,_)]) (T:=[⟨[],_,[],[],[9]⟩,⟨[.op 0 0,.old 0],_,[3],[0],[2]⟩]) (F:=[.op 1 0]) (hst.pick [1] rfl) hb Zb
   (o_p rfl (Z8a rfl rfl )<|o_p rfl (Z2 Zlc rfl rfl u_1 u_0)<|o_n) (by kernel_rfl) (fun a g hst hb=>?_)
  refine wp_ret ?_
  refine Zr ?_
  obtain rfl:=Option.some.inj H0
  obtain ⟨u0,hu0,hq0⟩:=Zbf (P:=Tryz.prog) Zlc (hst.at 0 rfl)
  exact Z5 rfl hst hb hu0 hq0
 ·replace H0:=Zw hc1 H0
  refine wp_skip ?_
  refine Zs ?_
  obtain ⟨e2,h3,H0⟩:=Zh H0
  refine r_s (L:=[(0,_),(2,_)]) (T:=[⟨[.old 0],_,[],[],[10]⟩,⟨[.op 0 0],_,[],[0],[11]⟩,⟨[.op 1 0],_,[],[0,1],[12]⟩,⟨[.op 2 0,.old 1],_,[3],[0,1,2],[2]⟩]) (F:=[.op 3 0]) (hst.pick [0,1] rfl) hb Zb
   (o_p rfl (Za rfl rfl u_0)<|o_p rfl (Z05 Tryz.underlying164 Zbat rfl rfl (Opd.glob gm_0 gk_0) u_0 h3)<|o_p rfl (Zf Zlc rfl rfl u_0)<|o_p rfl (Z2 Zlc rfl rfl u_1 u_0)<|o_n) (by kernel_rfl) (fun a g hst hb=>?_)
  refine wp_ret ?_
  obtain rfl:=Option.some.inj H0
  obtain ⟨u0,hu0,hq0⟩:=Zbf (P:=Tryz.prog) Zlc (hst.at 0 rfl)
  exact Z5 rfl hst hb hu0 hq0
theorem Zh6 (f2:Nat) (C2:List Pd) (hC2:Free C2) (e2_:Zp Tryz.prog f2) (φ2:Zl → Zl → Option Bool) (hφ2:∀ (y0:Zl) (y1:Zl) (r:Bool),φ2 y0 y1=some r → FnOk Tryz.prog f2 ([(Zz.pd y0),(Zz.pd y1)] ++ C2) (Zbg r)) (a0:List Zl) (a1:List Zl) {r:Bool} (h:Zcl a0 a1 φ2=some r):FnOk Tryz.prog 63 [(Zz.sl.pd a0),(Zz.sl.pd a1),(pClo f2 C2 hC2)] (Zbg r):=by
 have H0:=h
 unfold Zcl at H0
 clear h
 refine Zbu (N:=32) Tryz.func63 rfl rfl (Nat.le_of_ble_eq_true rfl) rfl rfl (fun a g0 hst hb=>?_)
 refine r_s (T:=[⟨[],_,[],[],[6]⟩]) (F:=[.old 0,.old 1,.old 2]) hst hb Zb
  (o_p rfl (Zc rfl rfl c_b)<|o_n) (by kernel_rfl) (fun a g hst hb=>?_)
 refine wp_seq ?_
 refine r_s (T:=[⟨[.old 0],_,[],[],[10]⟩,⟨[.op 0 0],_,[],[0],[11]⟩,⟨[.old 1],_,[],[],[12]⟩,⟨[.op 2 0],_,[],[2],[13]⟩,⟨[.op 1 0,.op 3 0],_,[],Lr 4,[14]⟩]) (F:=[.old 0,.old 1,.old 2,.op 4 0]) hst hb Zb
  (o_p rfl (Za rfl rfl u_0)<|o_p rfl (Zb1 Tryz.underlying36 rfl rfl u_0)<|o_p rfl (Za rfl rfl u_0)<|o_p rfl (Zb1 Tryz.underlying36 rfl rfl u_0)<|o_p rfl (Zdk rfl rfl u_0 u_1)<|o_n) (by kernel_rfl) (fun a g hst hb=>?_)
 refine wp_cond_split (hst.bool 3 rfl) (fun hc1=>?_) (fun hc1=>?_)
 ·replace H0:=Zv hc1 H0
  refine r_s (L:=[]) (T:=[⟨[],_,[],[],[6]⟩]) (F:=[.op 0 0]) (hst.pick [] rfl) hb Zb
   (o_p rfl (Zc rfl rfl c_b)<|o_n) (by kernel_rfl) (fun a g hst hb=>?_)
  refine wp_ret ?_
  refine Zr ?_
  obtain rfl:=Option.some.inj H0
  exact Z5 rfl hst hb (Zk (s:=6)) (hst.at 0 rfl)
 ·replace H0:=Zw hc1 H0
  refine wp_skip ?_
  refine Zs ?_
  refine wp_seq ?_
  refine r_s (L:=[(0,_),(1,_),(2,_)]) (T:=[⟨[.old 0],_,[],[],[15]⟩,⟨[.op 0 0],_,[],[0],[16]⟩,⟨[],_,[],[],[17]⟩]) (F:=[.old 1,.old 2,.op 0 0,.op 1 0,.op 2 0]) (hst.pick [0,1,2] rfl) hb Zb
   (o_p rfl (Za rfl rfl u_0)<|o_p rfl (Zb1 Tryz.underlying36 rfl rfl u_0)<|o_p rfl (Za rfl rfl c_i)<|o_n) (by kernel_rfl) (fun a g hst hb=>?_)
  obtain ⟨z11,hz1,H0⟩:=Zh H0
  refine Zca (fun a w=>∃ (g:G),w=g.w ∧ St 32 [] a g ∧ Base g0 g ∧ (.inr ())=z11) ?_ ?_
  ·rintro a w ⟨g,rfl,hst,hb,rfl⟩
   refine Zs ?_
   refine r_s (T:=[⟨[],_,[],[],[6]⟩]) (F:=[.op 0 0]) hst hb Zb
    (o_p rfl (Zc rfl rfl c_b)<|o_n) (by kernel_rfl) (fun a g hst hb=>?_)
   refine wp_ret ?_
   obtain rfl:=Option.some.inj H0
   exact Z5 rfl hst hb (Zk (s:=6)) (hst.at 0 rfl)
  ·refine wp_block ?_
   refine wp_loop_ghost (fun n a w=>∃ (x2:Int) (g:G),w=g.w ∧ St 32 [(1,(Zz.sl.pd a1)),(2,(pClo f2 C2 hC2)),(15,(Zz.sl.pd a0)),(16,(pInt .i64 (a0.length:Int))),(17,(pInt .i64 x2))] a g ∧ Base g0 g ∧ Zbv a0 a1 φ2 n x2=some z11) (Int.toNat ((a0.length:Int) - (0:Int)) + 1) ⟨(0:Int),g,rfl,(hst.pick [0,1,2,3,4] rfl),hb,hz1⟩ (fun n a w hI=>?_)
   obtain ⟨x2,g,rfl,hst,hb,H1⟩:=hI
   cases n with
   | zero=>exact absurd H1 (by simp [Zbv])
   | succ n =>
    rw [Zbv] at H1
    refine r_s (T:=[⟨[.old 4,.old 3],_,[],[],[18]⟩]) (F:=[.old 0,.old 1,.old 2,.old 3,.old 4,.op 0 0]) hst hb Zb
     (o_p rfl (Zci rfl rfl u_0 u_1)<|o_n) (by kernel_rfl) (fun a g hst hb=>?_)
    refine wp_seq ?_
    refine wp_cond_split (hst.bool 5 rfl) (fun hc3=>?_) (fun hc3=>?_)
    ·replace H1:=Zv hc3 H1
     refine wp_skip ?_
     refine Zs ?_
     refine wp_seq ?_
     refine wp_block ?_
     obtain ⟨e4,h5,H1⟩:=Zh H1
     refine r_s (L:=[(1,_),(2,_),(15,_),(16,_),(17,_)]) (T:=[⟨[.old 4],_,[],[],[19]⟩,⟨[.old 2,.old 4],_,[],[],[20]⟩,⟨[.op 1 0],_,[],[1],[21]⟩,⟨[],[(8,(pBox Zz 8 (default:Zl)))],[9],[],[8]⟩,⟨[.op 0 0],_,[],Lr 4,[7]⟩,⟨[.op 2 0,.op 3 0],_,[9],Lr 5,[8]⟩]) (F:=[.old 0,.old 1,.op 4 0,.op 5 0,.old 2,.old 3,.old 4]) (hst.pick [0,1,2,3,4] rfl) hb Zb
      (o_p rfl (Za rfl rfl u_0)<|o_p rfl (Zbl Tryz.underlying36 Ze4 rfl rfl u_0 u_1 h5)<|o_p rfl (Zf Zea rfl rfl u_0)<|o_p rfl (Zbh (zs:=[.float .f64 0,.string ByteArray.empty]) (by kernel_rfl) (fun g=>Zlh g) rfl rfl)<|o_p rfl (Zc rfl rfl u_0)<|o_p rfl (Zb5 Zea rfl rfl u_1 u_0)<|o_n) (by kernel_rfl) (fun a g hst hb=>?_)
     obtain ⟨e6,h7,H1⟩:=Zh H1
     refine r_s (T:=[⟨[.old 0],_,[],[],[22]⟩,⟨[.old 2],_,[],[],[23]⟩,⟨[.op 0 0,.op 1 0],_,[],[0,1],[24]⟩,⟨[.op 2 0],_,[],[0,1,2],[25]⟩,⟨[],[(9,(pBox Zz 9 (default:Zl)))],[10],[],[9]⟩,⟨[.op 3 0,.op 4 0],_,[10],Lr 5,[9]⟩]) (F:=[.old 0,.old 1,.old 3,.op 5 0,.old 4,.old 5,.old 6]) hst hb Zb
      (o_p rfl (Za rfl rfl u_0)<|o_p rfl (Za rfl rfl u_0)<|o_p rfl (Zbl Tryz.underlying36 Ze4 rfl rfl u_0 u_1 h7)<|o_p rfl (Zf Zea rfl rfl u_0)<|o_p rfl (Zbh (zs:=[.float .f64 0,.string ByteArray.empty]) (by kernel_rfl) (fun g=>Zlh g) rfl rfl)<|o_p rfl (Zb5 Zea rfl rfl u_1 u_0)<|o_n) (by kernel_rfl) (fun a g hst hb=>?_)
     obtain ⟨r8,h9,H1⟩:=Zh H1
     refine r_s (T:=[⟨[.old 1],_,[],[],[26]⟩,⟨[.old 2],_,[],[],[27]⟩,⟨[.old 3],_,[],[],[28]⟩,⟨[.op 0 0,.op 1 0,.op 2 0],_,[],[0,1,2],[29]⟩,⟨[.op 3 0],_,[],Lr 4,[30]⟩]) (F:=[.old 0,.old 1,.old 4,.old 5,.old 6,.op 4 0]) hst hb Zb
      (o_p rfl (Za rfl rfl u_0)<|o_p rfl (Zf Zea rfl rfl u_0)<|o_p rfl (Zf Zea rfl rfl u_0)<|o_p rfl (Zra e2_ (hφ2 _ _ _ h9) rfl rfl u_0 (.cons u_1 (.cons u_2 .nil)))<|o_p rfl (Zb2 rfl rfl u_0)<|o_n) (by kernel_rfl) (fun a g hst hb=>?_)
     refine wp_cond_split (hst.bool 5 rfl) (fun hc10=>?_) (fun hc10=>?_)
     ·replace H1:=Zv hc10 H1
      refine r_s (L:=[]) (T:=[⟨[],_,[],[],[6]⟩]) (F:=[.op 0 0]) (hst.pick [] rfl) hb Zb
       (o_p rfl (Zc rfl rfl c_b)<|o_n) (by kernel_rfl) (fun a g hst hb=>?_)
      refine wp_ret ?_
      refine Z6 ?_
      refine Zr ?_
      refine Zr ?_
      refine Z6 ?_
      refine Zr ?_
      refine Zr ?_
      obtain rfl:=Option.some.inj H1
      obtain rfl:=Option.some.inj H0
      exact Z5 rfl hst hb (Zk (s:=6)) (hst.at 0 rfl)
     ·replace H1:=Zw hc10 H1
      refine wp_skip ?_
      refine Zbe ?_
      refine Zs ?_
      refine r_g (L:=[(1,_),(2,_),(15,_),(16,_),(17,_)]) (T:=[⟨[.old 4],_,[],[],[31]⟩,⟨[.op 0 0],_,[],[0],[17]⟩]) (F:=[.old 0,.old 1,.old 2,.old 3,.op 1 0]) (hst.pick [0,1,2,3,4] rfl) hb Zb
       (o_p rfl (Zb7 rfl rfl u_0 c_i rfl)<|o_p rfl (Za rfl rfl u_0)<|o_n) (by kernel_rfl) (fun a g hst hb=>?_)
      exact ⟨n,Nat.lt_succ_self _,(IntKind.i64.wrap (x2 + (1:Int))),g,rfl,(hst.pick [0,1,2,3,4] rfl),hb,H1⟩
    ·replace H1:=Zw hc3 H1
     refine wp_exit ?_
     refine Zb3 ?_
     refine Zb3 ?_
     refine Zcn ?_
     exact ⟨g,rfl,(hst.pick [] rfl),hb,Option.some.inj H1⟩
theorem Zyg (a0:Zl) (a1:Zl) {r:Bool} (h:Zju a0 a1=some r):FnOk Tryz.prog 64 [(Zz.pd a0),(Zz.pd a1)] (Zbg r):=by
 have H0:=h
 unfold Zju at H0
 clear h
 refine Zbu (N:=17) Tryz.func64 rfl rfl (Nat.le_of_ble_eq_true rfl) rfl rfl (fun a g0 hst hb=>?_)
 refine r_s (T:=[⟨[.old 0],_,[],[],[2]⟩,⟨[.old 1],_,[],[],[3]⟩,⟨[],_,[],[],[4]⟩]) (F:=[.op 0 0,.op 1 0]) hst hb Zb
  (o_p rfl (Zbq rfl rfl u_0)<|o_p rfl (Zbq rfl rfl u_0)<|o_p rfl (Zc rfl rfl c_b)<|o_n) (by kernel_rfl) (fun a g hst hb=>?_)
 obtain ⟨r1,h2,H0⟩:=Zh H0
 refine r_s (T:=⟨[.old 0],_,[],[],[5]⟩ :: ⟨[.op 0 0],_,[],[0],[6]⟩ :: ⟨[.old 1],_,[],[],[7]⟩ :: ⟨[.op 2 0],_,[],[2],[8]⟩ :: ⟨[.op 1 0,.op 3 0],_,[],Lr 4,[9]⟩ :: ⟨[.op 4 0],_,[],Lr 5,[10]⟩ :: ⟨[.op 5 0,.old 0],_,[],Lr 6,[11]⟩ :: ⟨[.op 5 0,.op 6 0],_,[],Lr 7,[12]⟩ :: ⟨[.op 5 0,.old 1],_,[],Lr 6,[13]⟩ :: ⟨[.op 5 0,.op 8 0],_,[],[0,1,2,3,4,5,8],[14]⟩ :: ⟨[.op 5 0,.op 7 0,.op 9 0],_,[],Lr 10,[15]⟩ :: ⟨[.op 5 0,.op 10 0],_,[],Lr 11,[16]⟩ :: ⟨[.op 11 0],_,[],Lr 12,[4]⟩ :: []) (F:=[.op 12 0]) hst hb Zb
  (o_p rfl (Zd Zd4 rfl rfl u_0)<|o_p rfl (Zf ty_9 rfl rfl u_0)<|o_p rfl (Zd Zd4 rfl rfl u_0)<|o_p rfl (Zf ty_9 rfl rfl u_0)<|o_p rfl (Zla rfl rfl u_0 u_1)<|o_p rfl (Za rfl rfl u_0)<|o_g (g_t rfl rfl rfl (fun hG=>Zd Zfv rfl rfl u_0))<|o_g (g_t rfl rfl rfl (fun hG=>Zf Zc3 rfl rfl (Opd.gd hG u_0)))<|o_g (g_t rfl rfl rfl (fun hG=>Zd Zfv rfl rfl u_0))<|o_g (g_t rfl rfl rfl (fun hG=>Zf Zc3 rfl rfl (Opd.gd hG u_0)))<|o_g (g_t rfl rfl rfl (fun hG=>Zo Ztk (Zlg _ _ (Zbn h2 hG)) rfl rfl (.cons (Opd.gd hG u_0) (.cons (Opd.gd hG u_1) .nil))))<|o_p rfl (Zbi rfl rfl u_0 (fun hz=>(Opd.gd hz u_1)))<|o_p rfl (Zc rfl rfl u_0)<|o_n) (by kernel_rfl) (fun a g hst hb=>?_)
 refine wp_ret ?_
 obtain rfl:=Option.some.inj H0
 exact Z5 rfl hst hb (Zk (s:=4)) (hst.at 0 rfl)
theorem Zt8 (a0:Ze) (a1:Ze) {r:Bool} (h:Zn6 a0 a1=some r):FnOk Tryz.prog 42 [(Zi.pd a0),(Zi.pd a1)] (Zbg r):=by
 have H0:=h
 unfold Zn6 at H0
 clear h
 refine Zbu (N:=59) Tryz.func42 rfl rfl (Nat.le_of_ble_eq_true rfl) rfl rfl (fun a g0 hst hb=>?_)
 refine r_s (T:=[⟨[.old 0],_,[],[],[2]⟩,⟨[.old 1],_,[],[],[3]⟩,⟨[],_,[],[],[4]⟩]) (F:=[.op 0 0,.op 1 0]) hst hb Zb
  (o_p rfl (Zbq rfl rfl u_0)<|o_p rfl (Zbq rfl rfl u_0)<|o_p rfl (Zc rfl rfl c_b)<|o_n) (by kernel_rfl) (fun a g hst hb=>?_)
 obtain ⟨r1,h2,H0⟩:=Zh H0;obtain ⟨r3,h4,H0⟩:=Zh H0
 refine r_s (T:=⟨[.old 0],_,[],[],[5]⟩ :: ⟨[.op 0 0],_,[],[0],[6]⟩ :: ⟨[.old 1],_,[],[],[7]⟩ :: ⟨[.op 2 0],_,[],[2],[8]⟩ :: ⟨[.op 1 0,.op 3 0],_,[],Lr 4,[9]⟩ :: ⟨[.op 4 0],_,[],Lr 5,[10]⟩ :: ⟨[.op 5 0,.old 0],_,[],Lr 6,[11]⟩ :: ⟨[.op 5 0,.op 6 0],_,[],Lr 7,[12]⟩ :: ⟨[.op 5 0,.old 1],_,[],Lr 6,[13]⟩ :: ⟨[.op 5 0,.op 8 0],_,[],[0,1,2,3,4,5,8],[14]⟩ :: ⟨[.op 5 0,.op 7 0,.op 9 0],_,[],Lr 10,[15]⟩ :: ⟨[.op 5 0,.op 10 0],_,[],Lr 11,[16]⟩ :: ⟨[.op 11 0],_,[],Lr 12,[17]⟩ :: ⟨[.op 12 0,.old 0],_,[],Lr 13,[18]⟩ :: ⟨[.op 12 0,.op 13 0],_,[],Lr 14,[19]⟩ :: ⟨[.op 12 0,.old 1],_,[],Lr 13,[20]⟩ :: ⟨[.op 12 0,.op 15 0],_,[],0 :: 1 :: 2 :: 3 :: 4 :: 5 :: 6 :: 7 :: 8 :: 9 :: 10 :: 11 :: 12 :: 15 :: [],[21]⟩ :: ⟨[.op 12 0,.op 14 0,.op 16 0],_,[],Lr 17,[22]⟩ :: ⟨[.op 12 0,.op 17 0],_,[],Lr 18,[23]⟩ :: ⟨[.op 18 0],_,[],Lr 19,[24]⟩ :: ⟨[.op 19 0,.old 0],_,[],Lr 20,[25]⟩ :: ⟨[.op 19 0,.op 20 0],_,[],Lr 21,[26]⟩ :: ⟨[.op 19 0,.old 1],_,[],Lr 20,[27]⟩ :: ⟨[.op 19 0,.op 22 0],_,[],0 :: 1 :: 2 :: 3 :: 4 :: 5 :: 6 :: 7 :: 8 :: 9 :: 10 :: 11 :: 12 :: 13 :: 14 :: 15 :: 16 :: 17 :: 18 :: 19 :: 22 :: [],[28]⟩ :: ⟨[.op 19 0,.op 21 0,.op 23 0],_,[],Lr 24,[29]⟩ :: ⟨[.op 19 0,.op 24 0],_,[],Lr 25,[30]⟩ :: ⟨[.op 25 0],_,[],Lr 26,[31]⟩ :: ⟨[.op 26 0,.old 0],_,[],Lr 27,[32]⟩ :: ⟨[.op 26 0,.op 27 0],_,[],Lr 28,[33]⟩ :: ⟨[.op 26 0,.old 1],_,[],Lr 27,[34]⟩ :: ⟨[.op 26 0,.op 29 0],_,[],0 :: 1 :: 2 :: 3 :: 4 :: 5 :: 6 :: 7 :: 8 :: 9 :: 10 :: 11 :: 12 :: 13 :: 14 :: 15 :: 16 :: 17 :: 18 :: 19 :: 20 :: 21 :: 22 :: 23 :: 24 :: 25 :: 26 :: 29 :: [],[35]⟩ :: ⟨[.op 26 0,.op 28 0,.op 30 0],_,[],Lr 31,[36]⟩ :: ⟨[.op 26 0,.op 31 0],_,[],Lr 32,[37]⟩ :: ⟨[.op 32 0],_,[],Lr 33,[38]⟩ :: ⟨[.op 33 0,.old 0],_,[],Lr 34,[39]⟩ :: ⟨[.op 33 0,.op 34 0],_,[],Lr 35,[40]⟩ :: ⟨[.op 33 0,.old 1],_,[],Lr 34,[41]⟩ :: ⟨[.op 33 0,.op 36 0],_,[],0 :: 1 :: 2 :: 3 :: 4 :: 5 :: 6 :: 7 :: 8 :: 9 :: 10 :: 11 :: 12 :: 13 :: 14 :: 15 :: 16 :: 17 :: 18 :: 19 :: 20 :: 21 :: 22 :: 23 :: 24 :: 25 :: 26 :: 27 :: 28 :: 29 :: 30 :: 31 :: 32 :: 33 :: 36 :: [],[42]⟩ :: ⟨[.op 33 0,.op 35 0,.op 37 0],_,[],Lr 38,[43]⟩ :: ⟨[.op 33 0,.op 38 0],_,[],Lr 39,[44]⟩ :: ⟨[.op 39 0],_,[],Lr 40,[45]⟩ :: ⟨[.op 40 0,.old 0],_,[],Lr 41,[46]⟩ :: ⟨[.op 40 0,.op 41 0],_,[],Lr 42,[47]⟩ :: ⟨[.op 40 0,.old 1],_,[],Lr 41,[48]⟩ :: ⟨[.op 40 0,.op 43 0],_,[],0 :: 1 :: 2 :: 3 :: 4 :: 5 :: 6 :: 7 :: 8 :: 9 :: 10 :: 11 :: 12 :: 13 :: 14 :: 15 :: 16 :: 17 :: 18 :: 19 :: 20 :: 21 :: 22 :: 23 :: 24 :: 25 :: 26 :: 27 :: 28 :: 29 :: 30 :: 31 :: 32 :: 33 :: 34 :: 35 :: 36 :: 37 :: 38 :: 39 :: 40 :: 43 :: [],[49]⟩ :: ⟨[.op 40 0,.op 42 0,.op 44 0],_,[],Lr 45,[50]⟩ :: ⟨[.op 40 0,.op 45 0],_,[],Lr 46,[51]⟩ :: ⟨[.op 46 0],_,[],Lr 47,[52]⟩ :: ⟨[.op 47 0,.old 0],_,[],Lr 48,[53]⟩ :: ⟨[.op 47 0,.op 48 0],_,[],Lr 49,[54]⟩ :: ⟨[.op 47 0,.old 1],_,[],Lr 48,[55]⟩ :: ⟨[.op 47 0,.op 50 0],_,[],0 :: 1 :: 2 :: 3 :: 4 :: 5 :: 6 :: 7 :: 8 :: 9 :: 10 :: 11 :: 12 :: 13 :: 14 :: 15 :: 16 :: 17 :: 18 :: 19 :: 20 :: 21 :: 22 :: 23 :: 24 :: 25 :: 26 :: 27 :: 28 :: 29 :: 30 :: 31 :: 32 :: 33 :: 34 :: 35 :: 36 :: 37 :: 38 :: 39 :: 40 :: 41 :: 42 :: 43 :: 44 :: 45 :: 46 :: 47 :: 50 :: [],[56]⟩ :: ⟨[.op 47 0,.op 49 0,.op 51 0],_,[],Lr 52,[57]⟩ :: ⟨[.op 47 0,.op 52 0],_,[],Lr 53,[58]⟩ :: ⟨[.op 53 0],_,[],Lr 54,[4]⟩ :: []) (F:=[.op 54 0]) hst hb Zb
  (o_p rfl (Zd Zge rfl rfl u_0)<|o_p rfl (Zf ty_3 rfl rfl u_0)<|o_p rfl (Zd Zge rfl rfl u_0)<|o_p rfl (Zf ty_3 rfl rfl u_0)<|o_p rfl (Zbs rfl rfl u_0 u_1)<|o_p rfl (Za rfl rfl u_0)<|o_g (g_t rfl rfl rfl (fun hG=>Zd Zc1 rfl rfl u_0))<|o_g (g_t rfl rfl rfl (fun hG=>Zf ty_2 rfl rfl (Opd.gd hG u_0)))<|o_g (g_t rfl rfl rfl (fun hG=>Zd Zc1 rfl rfl u_0))<|o_g (g_t rfl rfl rfl (fun hG=>Zf ty_2 rfl rfl (Opd.gd hG u_0)))<|o_g (g_t rfl rfl rfl (fun hG=>Zbs rfl rfl (Opd.gd hG u_0) (Opd.gd hG u_1)))<|o_p rfl (Zbi rfl rfl u_0 (fun hz=>(Opd.gd hz u_1)))<|o_p rfl (Za rfl rfl u_0)<|o_g (g_t rfl rfl rfl (fun hG=>Zd Zjp rfl rfl u_0))<|o_g (g_t rfl rfl rfl (fun hG=>Zf ty_2 rfl rfl (Opd.gd hG u_0)))<|o_g (g_t rfl rfl rfl (fun hG=>Zd Zjp rfl rfl u_0))<|o_g (g_t rfl rfl rfl (fun hG=>Zf ty_2 rfl rfl (Opd.gd hG u_0)))<|o_g (g_t rfl rfl rfl (fun hG=>Zbs rfl rfl (Opd.gd hG u_0) (Opd.gd hG u_1)))<|o_p rfl (Zbi rfl rfl u_0 (fun hz=>(Opd.gd hz u_1)))<|o_p rfl (Za rfl rfl u_0)<|o_g (g_t rfl rfl rfl (fun hG=>Zd Zjo rfl rfl u_0))<|o_g (g_t rfl rfl rfl (fun hG=>Zf ty_2 rfl rfl (Opd.gd hG u_0)))<|o_g (g_t rfl rfl rfl (fun hG=>Zd Zjo rfl rfl u_0))<|o_g (g_t rfl rfl rfl (fun hG=>Zf ty_2 rfl rfl (Opd.gd hG u_0)))<|o_g (g_t rfl rfl rfl (fun hG=>Zbs rfl rfl (Opd.gd hG u_0) (Opd.gd hG u_1)))<|o_p rfl (Zbi rfl rfl u_0 (fun hz=>(Opd.gd hz u_1)))<|o_p rfl (Za rfl rfl u_0)<|o_g (g_t rfl rfl rfl (fun hG=>Zd Zgc rfl rfl u_0))<|o_g (g_t rfl rfl rfl (fun hG=>Zf Zc3 rfl rfl (Opd.gd hG u_0)))<|o_g (g_t rfl rfl rfl (fun hG=>Zd Zgc rfl rfl u_0))<|o_g (g_t rfl rfl rfl (fun hG=>Zf Zc3 rfl rfl (Opd.gd hG u_0)))<|o_g (g_t rfl rfl rfl (fun hG=>Zo Ztk (Zlg _ _ (Zbn h2 hG)) rfl rfl (.cons (Opd.gd hG u_0) (.cons (Opd.gd hG u_1) .nil))))<|o_p rfl (Zbi rfl rfl u_0 (fun hz=>(Opd.gd hz u_1)))<|o_p rfl (Za rfl rfl u_0)<|o_g (g_t rfl rfl rfl (fun hG=>Zd Zgz rfl rfl u_0))<|o_g (g_t rfl rfl rfl (fun hG=>Zf ty_3 rfl rfl (Opd.gd hG u_0)))<|o_g (g_t rfl rfl rfl (fun hG=>Zd Zgz rfl rfl u_0))<|o_g (g_t rfl rfl rfl (fun hG=>Zf ty_3 rfl rfl (Opd.gd hG u_0)))<|o_g (g_t rfl rfl rfl (fun hG=>Zbs rfl rfl (Opd.gd hG u_0) (Opd.gd hG u_1)))<|o_p rfl (Zbi rfl rfl u_0 (fun hz=>(Opd.gd hz u_1)))<|o_p rfl (Za rfl rfl u_0)<|o_g (g_t rfl rfl rfl (fun hG=>Zd Zi9 rfl rfl u_0))<|o_g (g_t rfl rfl rfl (fun hG=>Zf ty_9 rfl rfl (Opd.gd hG u_0)))<|o_g (g_t rfl rfl rfl (fun hG=>Zd Zi9 rfl rfl u_0))<|o_g (g_t rfl rfl rfl (fun hG=>Zf ty_9 rfl rfl (Opd.gd hG u_0)))<|o_g (g_t rfl rfl rfl (fun hG=>Zla rfl rfl (Opd.gd hG u_0) (Opd.gd hG u_1)))<|o_p rfl (Zbi rfl rfl u_0 (fun hz=>(Opd.gd hz u_1)))<|o_p rfl (Za rfl rfl u_0)<|o_g (g_t rfl rfl rfl (fun hG=>Zd Zce rfl rfl u_0))<|o_g (g_t rfl rfl rfl (fun hG=>Zf Zc7 rfl rfl (Opd.gd hG u_0)))<|o_g (g_t rfl rfl rfl (fun hG=>Zd Zce rfl rfl u_0))<|o_g (g_t rfl rfl rfl (fun hG=>Zf Zc7 rfl rfl (Opd.gd hG u_0)))<|o_g (g_t rfl rfl rfl (fun hG=>Zo Zbcc (Zh6 64 [] rfl Zbcf (fun y0 y1=>Zju y0 y1) (fun y0 y1 r h=>Zyg y0 y1 h) _ _ (Zbn h4 hG)) rfl rfl (.cons (Opd.gd hG u_0) (.cons (Opd.gd hG u_1) (.cons Opd.fnc .nil)))))<|o_p rfl (Zbi rfl rfl u_0 (fun hz=>(Opd.gd hz u_1)))<|o_p rfl (Zc rfl rfl u_0)<|o_n) (by kernel_rfl) (fun a g hst hb=>?_)
 refine wp_ret ?_
 obtain rfl:=Option.some.inj H0
 exact Z5 rfl hst hb (Zk (s:=4)) (hst.at 0 rfl)
theorem Zki (a0:Zdn) (a1:Int) {r:Bool} (h:Zdr a0 a1=some r):FnOk Tryz.prog 105 [(Ze0.pd a0),(pInt .u8 a1)] (Zbg r):=by
 have H0:=h
 unfold Zdr at H0
 clear h
 refine Zbu (N:=19) Tryz.func105 rfl rfl (Nat.le_of_ble_eq_true rfl) rfl rfl (fun a g0 hst hb=>?_)
 refine r_s (T:=[⟨[.old 0],_,[],[],[2]⟩,⟨[],_,[],[],[4]⟩]) (F:=[.old 1,.op 0 0]) hst hb Zb
  (o_p rfl (Zbq rfl rfl u_0)<|o_p rfl (Zc rfl rfl c_b)<|o_n) (by kernel_rfl) (fun a g hst hb=>?_)
 refine wp_seq ?_
 refine r_s (T:=[⟨[.old 1],_,[],[],[6]⟩,⟨[.op 0 0],_,[],[0],[7]⟩,⟨[.op 1 0],_,[],[0,1],[8]⟩,⟨[],_,[],[],[9]⟩]) (F:=[.old 0,.old 1,.op 2 0,.op 3 0]) hst hb Zb
  (o_p rfl (Zd Z0o rfl rfl u_0)<|o_p rfl (Zf ty_9 rfl rfl u_0)<|o_p rfl (Zfp Tryz.underlying9 rfl rfl u_0)<|o_p rfl (Za rfl rfl c_i)<|o_n) (by kernel_rfl) (fun a g hst hb=>?_)
 obtain ⟨z6,hz1,H0⟩:=Zh H0
 refine Zca (fun a w=>∃ (g:G),w=g.w ∧ St 19 [] a g ∧ Base g0 g ∧ (.inr ())=z6) ?_ ?_
 ·rintro a w ⟨g,rfl,hst,hb,rfl⟩
  refine Zs ?_
  refine r_s (T:=[⟨[],_,[],[],[4]⟩]) (F:=[.op 0 0]) hst hb Zb
   (o_p rfl (Zc rfl rfl c_b)<|o_n) (by kernel_rfl) (fun a g hst hb=>?_)
  refine wp_ret ?_
  obtain rfl:=Option.some.inj H0
  exact Z5 rfl hst hb (Zk (s:=4)) (hst.at 0 rfl)
 ·refine wp_block ?_
  refine wp_loop_ghost (fun n a w=>∃ (x1:Int) (g:G),w=g.w ∧ St 19 [(1,(pInt .u8 a1)),(2,(Ze0.ptr a0)),(8,(pInt .i64 (a0.has.size:Int))),(9,(pInt .i64 x1))] a g ∧ Base g0 g ∧ Ziz a0 a1 n x1=some z6) (Int.toNat ((a0.has.size:Int) - (0:Int)) + 1) ⟨(0:Int),g,rfl,(hst.pick [0,1,2,3] rfl),hb,hz1⟩ (fun n a w hI=>?_)
  obtain ⟨x1,g,rfl,hst,hb,H1⟩:=hI
  cases n with
  | zero=>exact absurd H1 (by simp [Ziz])
  | succ n =>
   rw [Ziz] at H1
   refine r_s (T:=[⟨[.old 3,.old 2],_,[],[],[10]⟩]) (F:=[.old 0,.old 1,.old 2,.old 3,.op 0 0]) hst hb Zb
    (o_p rfl (Zci rfl rfl u_0 u_1)<|o_n) (by kernel_rfl) (fun a g hst hb=>?_)
   refine wp_seq ?_
   refine wp_cond_split (hst.bool 4 rfl) (fun hc2=>?_) (fun hc2=>?_)
   ·replace H1:=Zv hc2 H1
    refine wp_skip ?_
    refine Zs ?_
    refine wp_seq ?_
    refine wp_block ?_
    refine r_s (L:=[(1,_),(2,_),(8,_),(9,_)]) (T:=[⟨[.old 3],_,[],[],[11]⟩,⟨[.op 0 0],_,[],[0],[5]⟩]) (F:=[.old 0,.old 1,.op 1 0,.old 2,.old 3]) (hst.pick [0,1,2,3] rfl) hb Zb
     (o_p rfl (Za rfl rfl u_0)<|o_p rfl (Zc rfl rfl u_0)<|o_n) (by kernel_rfl) (fun a g hst hb=>?_)
    obtain ⟨b3,h4,H1⟩:=Zh H1
    refine r_s (T:=[⟨[.old 1],_,[],[],[12]⟩,⟨[.op 0 0],_,[],[0],[13]⟩,⟨[.old 2],_,[],[],[14]⟩,⟨[.op 1 0,.op 2 0],_,[],[0,1,2],[15]⟩,⟨[.old 0],_,[],[],[16]⟩,⟨[.op 3 0,.op 4 0],_,[],Lr 5,[17]⟩]) (F:=[.old 0,.old 1,.old 3,.old 4,.op 5 0]) hst hb Zb
     (o_p rfl (Zd Z0o rfl rfl u_0)<|o_p rfl (Zf ty_9 rfl rfl u_0)<|o_p rfl (Za rfl rfl u_0)<|o_p rfl (Zn1 Tryz.underlying9 rfl rfl u_0 u_1 h4)<|o_p rfl (Za rfl rfl u_0)<|o_p rfl (Zbs rfl rfl u_0 u_1)<|o_n) (by kernel_rfl) (fun a g hst hb=>?_)
    refine wp_cond_split (hst.bool 4 rfl) (fun hc5=>?_) (fun hc5=>?_)
    ·replace H1:=Zv hc5 H1
     refine r_s (L:=[]) (T:=[⟨[],_,[],[],[4]⟩]) (F:=[.op 0 0]) (hst.pick [] rfl) hb Zb
      (o_p rfl (Zc rfl rfl c_b)<|o_n) (by kernel_rfl) (fun a g hst hb=>?_)
     refine wp_ret ?_
     refine Z6 ?_
     refine Zr ?_
     refine Zr ?_
     refine Z6 ?_
     refine Zr ?_
     refine Zr ?_
     obtain rfl:=Option.some.inj H1
     obtain rfl:=Option.some.inj H0
     exact Z5 rfl hst hb (Zk (s:=4)) (hst.at 0 rfl)
    ·replace H1:=Zw hc5 H1
     refine wp_skip ?_
     refine Zbe ?_
     refine Zs ?_
     refine r_g (L:=[(1,_),(2,_),(8,_),(9,_)]) (T:=[⟨[.old 3],_,[],[],[18]⟩,⟨[.op 0 0],_,[],[0],[9]⟩]) (F:=[.old 0,.old 1,.old 2,.op 1 0]) (hst.pick [0,1,2,3] rfl) hb Zb
      (o_p rfl (Zb7 rfl rfl u_0 c_i rfl)<|o_p rfl (Za rfl rfl u_0)<|o_n) (by kernel_rfl) (fun a g hst hb=>?_)
     exact ⟨n,Nat.lt_succ_self _,(IntKind.i64.wrap (x1 + (1:Int))),g,rfl,(hst.pick [0,1,2,3] rfl),hb,H1⟩
   ·replace H1:=Zw hc2 H1
    refine wp_exit ?_
    refine Zb3 ?_
    refine Zb3 ?_
    refine Zcn ?_
    exact ⟨g,rfl,(hst.pick [] rfl),hb,Option.some.inj H1⟩
theorem Z1h (a0:Zu) (a1:Zdn) {r:Bool} (h:Zro a0 a1=some r):FnOk Tryz.prog 86 [(Z4.pd a0),(Ze0.pd a1)] (Zbg r):=by
 have H0:=h
 unfold Zro at H0
 clear h
 refine Zbu (N:=40) Tryz.func86 rfl rfl (Nat.le_of_ble_eq_true rfl) rfl rfl (fun a g0 hst hb=>?_)
 refine r_s (T:=[⟨[.old 0],_,[],[],[2]⟩,⟨[.old 1],_,[],[],[3]⟩,⟨[],_,[],[],[4]⟩]) (F:=[.op 0 0,.op 1 0]) hst hb Zb
  (o_p rfl (Zbq rfl rfl u_0)<|o_p rfl (Zbq rfl rfl u_0)<|o_p rfl (Zc rfl rfl c_b)<|o_n) (by kernel_rfl) (fun a g hst hb=>?_)
 obtain ⟨r1,h2,H0⟩:=Zh H0;obtain ⟨r3,h4,H0⟩:=Zh H0;obtain ⟨r5,h6,H0⟩:=Zh H0;obtain ⟨r7,h8,H0⟩:=Zh H0;obtain ⟨r9,h10,H0⟩:=Zh H0;obtain ⟨r11,h12,H0⟩:=Zh H0
 refine r_s (T:=⟨[.old 1],_,[],[],[5]⟩ :: ⟨[.op 0 0],_,[],[0],[6]⟩ :: ⟨[.op 1 0],_,[],[0,1],[7]⟩ :: ⟨[.op 2 0,.old 0],_,[],[0,1,2],[8]⟩ :: ⟨[.op 2 0,.op 3 0],_,[],Lr 4,[9]⟩ :: ⟨[.op 2 0,.op 4 0],_,[],Lr 5,[10]⟩ :: ⟨[.op 2 0,.op 5 0],_,[],Lr 6,[11]⟩ :: ⟨[.op 6 0],_,[],Lr 7,[12]⟩ :: ⟨[.op 7 0,.old 1],_,[],Lr 8,[13]⟩ :: ⟨[.op 7 0,.op 8 0],_,[],Lr 9,[14]⟩ :: ⟨[.op 7 0,.op 9 0],_,[],Lr 10,[15]⟩ :: ⟨[.op 10 0,.old 0],_,[],Lr 11,[16]⟩ :: ⟨[.op 10 0,.op 11 0],_,[],Lr 12,[17]⟩ :: ⟨[.op 10 0,.op 12 0],_,[],Lr 13,[18]⟩ :: ⟨[.op 7 0,.op 10 0,.op 13 0],_,[],Lr 14,[19]⟩ :: ⟨[.op 7 0,.op 14 0],_,[],Lr 15,[20]⟩ :: ⟨[.op 15 0],_,[],Lr 16,[21]⟩ :: ⟨[.op 16 0,.old 1],_,[],Lr 17,[22]⟩ :: ⟨[.op 16 0,.op 17 0],_,[],Lr 18,[23]⟩ :: ⟨[.op 16 0,.op 18 0],_,[],Lr 19,[24]⟩ :: ⟨[.op 19 0,.old 0],_,[],Lr 20,[25]⟩ :: ⟨[.op 19 0,.op 20 0],_,[],Lr 21,[26]⟩ :: ⟨[.op 19 0,.op 21 0],_,[],Lr 22,[27]⟩ :: ⟨[.op 16 0,.op 19 0,.op 22 0],_,[],Lr 23,[28]⟩ :: ⟨[.op 16 0,.op 23 0],_,[],Lr 24,[29]⟩ :: ⟨[.op 24 0],_,[],Lr 25,[30]⟩ :: ⟨[.op 25 0,.old 1],_,[],Lr 26,[31]⟩ :: ⟨[.op 25 0,.op 26 0],_,[],Lr 27,[32]⟩ :: ⟨[.op 25 0,.op 27 0],_,[],Lr 28,[33]⟩ :: ⟨[.op 28 0,.old 0],_,[],Lr 29,[34]⟩ :: ⟨[.op 28 0,.op 29 0],_,[],Lr 30,[35]⟩ :: ⟨[.op 28 0],_,[],Lr 29,[36]⟩ :: ⟨[.op 28 0,.op 30 0,.op 31 0],_,[],Lr 32,[37]⟩ :: ⟨[.op 25 0,.op 28 0,.op 32 0],_,[],Lr 33,[38]⟩ :: ⟨[.op 25 0,.op 33 0],_,[],Lr 34,[39]⟩ :: ⟨[.op 34 0],_,[],Lr 35,[4]⟩ :: []) (F:=[.op 35 0]) hst hb Zb
  (o_p rfl (Zf Zlc rfl rfl u_0)<|o_p rfl (Zo Zvo (Zki _ _ h2) rfl rfl (.cons u_0 (.cons c_i .nil)))<|o_p rfl (Za rfl rfl u_0)<|o_g (g_f rfl rfl rfl (fun hG=>Zd Zed rfl rfl u_0))<|o_g (g_f rfl rfl rfl (fun hG=>Zf ty_2 rfl rfl (Opd.gd hG u_0)))<|o_g (g_f rfl rfl rfl (fun hG=>Zbs rfl rfl (Opd.gd hG u_0) c_i))<|o_p rfl (Zbo rfl rfl u_0 (fun hz=>(Opd.gd (bNF hz) u_1)))<|o_p rfl (Za rfl rfl u_0)<|o_g (g_t rfl rfl rfl (fun hG=>Zf Zlc rfl rfl u_0))<|o_g (g_t rfl rfl rfl (fun hG=>Zo Zvo (Zki _ _ (Zbn h4 hG)) rfl rfl (.cons (Opd.gd hG u_0) (.cons c_i .nil))))<|o_g (g_t rfl rfl rfl (fun hG=>Za rfl rfl (Opd.gd hG u_0)))<|o_g (g_fi rfl rfl rfl (fun hG=>Zd Zjn rfl rfl u_0))<|o_g (g_fi rfl rfl rfl (fun hG=>Zf Zc3 rfl rfl (Opd.gd hG u_0)))<|o_g (g_fi rfl rfl rfl (fun hG=>Zo Ztk (Zlg _ _ (Zbn h6 hG)) rfl rfl (.cons (Opd.gd hG u_0) (.cons c_f .nil))))<|o_g (g_t rfl rfl rfl (fun hG=>Zbo rfl rfl (Opd.gd hG u_0) (fun hz=>(Opd.gd (bA hG (bNF hz)) u_1))))<|o_p rfl (Zbi rfl rfl u_0 (fun hz=>(Opd.gd hz u_1)))<|o_p rfl (Za rfl rfl u_0)<|o_g (g_t rfl rfl rfl (fun hG=>Zf Zlc rfl rfl u_0))<|o_g (g_t rfl rfl rfl (fun hG=>Zo Zvo (Zki _ _ (Zbn h8 hG)) rfl rfl (.cons (Opd.gd hG u_0) (.cons c_i .nil))))<|o_g (g_t rfl rfl rfl (fun hG=>Za rfl rfl (Opd.gd hG u_0)))<|o_g (g_fi rfl rfl rfl (fun hG=>Zd Zf0 rfl rfl u_0))<|o_g (g_fi rfl rfl rfl (fun hG=>Zf ty_9 rfl rfl (Opd.gd hG u_0)))<|o_g (g_fi rfl rfl rfl (fun hG=>Zla rfl rfl (Opd.gd hG u_0) c_s))<|o_g (g_t rfl rfl rfl (fun hG=>Zbo rfl rfl (Opd.gd hG u_0) (fun hz=>(Opd.gd (bA hG (bNF hz)) u_1))))<|o_p rfl (Zbi rfl rfl u_0 (fun hz=>(Opd.gd hz u_1)))<|o_p rfl (Za rfl rfl u_0)<|o_g (g_t rfl rfl rfl (fun hG=>Zf Zlc rfl rfl u_0))<|o_g (g_t rfl rfl rfl (fun hG=>Zo Zvo (Zki _ _ (Zbn h10 hG)) rfl rfl (.cons (Opd.gd hG u_0) (.cons c_i .nil))))<|o_g (g_t rfl rfl rfl (fun hG=>Za rfl rfl (Opd.gd hG u_0)))<|o_g (g_fi rfl rfl rfl (fun hG=>Zd Zmd rfl rfl u_0))<|o_g (g_fi rfl rfl rfl (fun hG=>Zf Zbc rfl rfl (Opd.gd hG u_0)))<|o_g (g_fi rfl rfl rfl (fun hG=>Znc rfl rfl ))<|o_g (g_fi rfl rfl rfl (fun hG=>Zo Z7w (Zt8 _ _ (Zbn h12 hG)) rfl rfl (.cons (Opd.gd hG u_0) (.cons (Opd.gd hG u_1) .nil))))<|o_g (g_t rfl rfl rfl (fun hG=>Zbo rfl rfl (Opd.gd hG u_0) (fun hz=>(Opd.gd (bA hG (bNF hz)) u_1))))<|o_p rfl (Zbi rfl rfl u_0 (fun hz=>(Opd.gd hz u_1)))<|o_p rfl (Zc rfl rfl u_0)<|o_n) (by kernel_rfl) (fun a g hst hb=>?_)
 refine wp_ret ?_
 obtain rfl:=Option.some.inj H0
 exact Z5 rfl hst hb (Zk (s:=4)) (hst.at 0 rfl)
theorem Z0z (a0:Zdn) {r:Int} (h:Zre a0=some r):FnOk Tryz.prog 87 [(Ze0.pd a0)] (pInt .i64 r):=by
 have H0:=h
 unfold Zre at H0
 clear h
 refine Zbu (N:=6) Tryz.func87 rfl rfl (Nat.le_of_ble_eq_true rfl) rfl rfl (fun a g0 hst hb=>?_)
 refine r_s (T:=[⟨[.old 0],_,[],[],[1]⟩,⟨[],_,[],[],[2]⟩]) (F:=[.op 0 0]) hst hb Zb
  (o_p rfl (Zbq rfl rfl u_0)<|o_p rfl (Zc rfl rfl c_i)<|o_n) (by kernel_rfl) (fun a g hst hb=>?_)
 refine wp_seq ?_
 refine r_s (T:=[⟨[.old 0],_,[],[],[3]⟩,⟨[.op 0 0],_,[],[0],[4]⟩,⟨[.op 1 0],_,[],[0,1],[5]⟩]) (F:=[.op 2 0]) hst hb Zb
  (o_p rfl (Zd Zzv rfl rfl u_0)<|o_p rfl (Zf ty_3 rfl rfl u_0)<|o_p rfl (Zbs rfl rfl u_0 c_i)<|o_n) (by kernel_rfl) (fun a g hst hb=>?_)
 refine wp_cond_split (hst.bool 0 rfl) (fun hc1=>?_) (fun hc1=>?_)
 ·replace H0:=Zv hc1 H0
  refine r_s (L:=[]) (T:=[⟨[],_,[],[],[2]⟩]) (F:=[.op 0 0]) (hst.pick [] rfl) hb Zb
   (o_p rfl (Zc rfl rfl c_i)<|o_n) (by kernel_rfl) (fun a g hst hb=>?_)
  refine wp_ret ?_
  refine Zr ?_
  obtain rfl:=Option.some.inj H0
  exact Z5 rfl hst hb (Zk (s:=2)) (hst.at 0 rfl)
 ·replace H0:=Zw hc1 H0
  refine wp_skip ?_
  refine Zs ?_
  refine r_s (L:=[]) (T:=[⟨[],_,[],[],[2]⟩]) (F:=[.op 0 0]) (hst.pick [] rfl) hb Zb
   (o_p rfl (Zc rfl rfl c_i)<|o_n) (by kernel_rfl) (fun a g hst hb=>?_)
  refine wp_ret ?_
  obtain rfl:=Option.some.inj H0
  exact Z5 rfl hst hb (Zk (s:=2)) (hst.at 0 rfl)
theorem Zsc (a0:Zu) {r:Int} (h:Zgy a0=some r):FnOk Tryz.prog 57 [(Z4.pd a0)] (pInt .i64 r):=by
 have H0:=h
 unfold Zgy at H0
 clear h
 refine Zbu (N:=64) Tryz.func57 rfl rfl (Nat.le_of_ble_eq_true rfl) rfl rfl (fun a g0 hst hb=>?_)
 refine r_s (T:=[⟨[.old 0],_,[],[],[1]⟩,⟨[],_,[],[],[2]⟩]) (F:=[.op 0 0]) hst hb Zb
  (o_p rfl (Zbq rfl rfl u_0)<|o_p rfl (Zc rfl rfl c_i)<|o_n) (by kernel_rfl) (fun a g hst hb=>?_)
 obtain ⟨r1,h2,H0⟩:=Zh H0
 refine r_s (T:=[⟨[.old 0],_,[],[],[4]⟩,⟨[.op 0 0],_,[],[0],[5]⟩,⟨[.op 1 0],_,[],[0,1],[6]⟩,⟨[],[(3,(pBox Ze0 3 (default:Zdn)))],[4],[],[3]⟩,⟨[.op 2 0,.op 3 0],_,[4],Lr 4,[3]⟩]) (F:=[.old 0,.op 4 0]) hst hb Zb
  (o_p rfl (Zd Zdh rfl rfl u_0)<|o_p rfl (Zf ty_3 rfl rfl u_0)<|o_p rfl (Zo Z7l (Zxk _ h2) rfl rfl (.cons u_0 .nil))<|o_p rfl (Zbh (zs:=[.string ByteArray.empty,.int .i64 0,.string ByteArray.empty]) (by kernel_rfl) (fun g=>Zt4 g) rfl rfl)<|o_p rfl (Zb5 Zlc rfl rfl u_1 u_0)<|o_n) (by kernel_rfl) (fun a g hst hb=>?_)
 refine wp_seq ?_
 refine wp_block ?_
 refine r_s (T:=[⟨[.old 1],_,[],[],[8]⟩,⟨[.op 0 0],_,[],[0],[9]⟩,⟨[.op 1 0],_,[],[0,1],[10]⟩,⟨[.op 2 0],_,[],[0,1,2],[7]⟩]) (F:=[.old 0,.old 1,.op 3 0]) hst hb Zb
  (o_p rfl (Zd Z6f rfl rfl u_0)<|o_p rfl (Zf ty_9 rfl rfl u_0)<|o_p rfl (Zla rfl rfl u_0 c_s)<|o_p rfl (Zc rfl rfl u_0)<|o_n) (by kernel_rfl) (fun a g hst hb=>?_)
 refine wp_cond_split (hst.bool 2 rfl) (fun hc3=>?_) (fun hc3=>?_)
 ·replace H0:=Zv hc3 H0
  refine r_s (L:=[]) (T:=[⟨[],_,[],[],[2]⟩]) (F:=[.op 0 0]) (hst.pick [] rfl) hb Zb
   (o_p rfl (Zc rfl rfl c_i)<|o_n) (by kernel_rfl) (fun a g hst hb=>?_)
  refine wp_ret ?_
  refine Z6 ?_
  refine Zr ?_
  obtain rfl:=Option.some.inj H0
  exact Z5 rfl hst hb (Zk (s:=2)) (hst.at 0 rfl)
 ·replace H0:=Zw hc3 H0
  refine r_s (L:=[(1,_),(3,_)]) (T:=[⟨[.old 0],_,[],[],[12]⟩,⟨[.op 0 0],_,[],[0],[13]⟩,⟨[.op 1 0],_,[],[0,1],[14]⟩,⟨[.op 2 0],_,[],[0,1,2],[15]⟩,⟨[.op 3 0,.old 0],_,[],Lr 4,[16]⟩,⟨[.op 3 0,.op 4 0],_,[],Lr 5,[17]⟩,⟨[.op 3 0,.op 5 0],_,[],Lr 6,[18]⟩,⟨[.op 3 0,.op 6 0],_,[],Lr 7,[19]⟩,⟨[.op 3 0,.op 7 0],_,[],Lr 8,[20]⟩,⟨[.op 8 0],_,[],Lr 9,[11]⟩]) (F:=[.old 0,.old 1,.op 9 0]) (hst.pick [0,1] rfl) hb Zb
   (o_p rfl (Zd Zic rfl rfl u_0)<|o_p rfl (Zf ty_9 rfl rfl u_0)<|o_p rfl (Zla rfl rfl u_0 c_s)<|o_p rfl (Za rfl rfl u_0)<|o_g (g_f rfl rfl rfl (fun hG=>Zd Zic rfl rfl u_0))<|o_g (g_f rfl rfl rfl (fun hG=>Zf ty_9 rfl rfl (Opd.gd hG u_0)))<|o_g (g_f rfl rfl rfl (fun hG=>Zfp Tryz.underlying9 rfl rfl (Opd.gd hG u_0)))<|o_g (g_f rfl rfl rfl (fun hG=>Zcu rfl rfl (Opd.gd hG u_0) c_i))<|o_p rfl (Zbo rfl rfl u_0 (fun hz=>(Opd.gd (bNF hz) u_1)))<|o_p rfl (Zc rfl rfl u_0)<|o_n) (by kernel_rfl) (fun a g hst hb=>?_)
  refine wp_cond_split (hst.bool 2 rfl) (fun hc4=>?_) (fun hc4=>?_)
  ·replace H0:=Zv hc4 H0
   refine r_s (L:=[]) (T:=[⟨[],_,[],[],[2]⟩]) (F:=[.op 0 0]) (hst.pick [] rfl) hb Zb
    (o_p rfl (Zc rfl rfl c_i)<|o_n) (by kernel_rfl) (fun a g hst hb=>?_)
   refine wp_ret ?_
   refine Z6 ?_
   refine Zr ?_
   obtain rfl:=Option.some.inj H0
   exact Z5 rfl hst hb (Zk (s:=2)) (hst.at 0 rfl)
  ·replace H0:=Zw hc4 H0
   obtain ⟨r5,h6,H0⟩:=Zh H0
   refine r_s (L:=[(1,_),(3,_)]) (T:=[⟨[.old 0],_,[],[],[22]⟩,⟨[.old 1],_,[],[],[23]⟩,⟨[.op 0 0,.op 1 0],_,[],[0,1],[24]⟩,⟨[.op 2 0],_,[],[0,1,2],[25]⟩,⟨[.op 3 0],_,[],Lr 4,[21]⟩]) (F:=[.old 0,.old 1,.op 4 0]) (hst.pick [0,1] rfl) hb Zb
    (o_p rfl (Zf Zh1 rfl rfl u_0)<|o_p rfl (Zf Zlc rfl rfl u_0)<|o_p rfl (Zo Zbb4 (Z1h _ _ h6) rfl rfl (.cons u_0 (.cons u_1 .nil)))<|o_p rfl (Zb2 rfl rfl u_0)<|o_p rfl (Zc rfl rfl u_0)<|o_n) (by kernel_rfl) (fun a g hst hb=>?_)
   refine wp_cond_split (hst.bool 2 rfl) (fun hc7=>?_) (fun hc7=>?_)
   ·replace H0:=Zv hc7 H0
    refine r_s (L:=[]) (T:=[⟨[],_,[],[],[2]⟩]) (F:=[.op 0 0]) (hst.pick [] rfl) hb Zb
     (o_p rfl (Zc rfl rfl c_i)<|o_n) (by kernel_rfl) (fun a g hst hb=>?_)
    refine wp_ret ?_
    refine Z6 ?_
    refine Zr ?_
    obtain rfl:=Option.some.inj H0
    exact Z5 rfl hst hb (Zk (s:=2)) (hst.at 0 rfl)
   ·replace H0:=Zw hc7 H0
    obtain ⟨r8,h9,H0⟩:=Zh H0
    refine r_s (L:=[(1,_),(3,_)]) (T:=[⟨[.old 0],_,[],[],[27]⟩,⟨[.op 0 0],_,[],[0],[28]⟩,⟨[.op 1 0],_,[],[0,1],[29]⟩,⟨[.old 1],_,[],[],[30]⟩,⟨[.op 3 0],_,[],[3],[31]⟩,⟨[.op 2 0,.op 4 0],_,[],Lr 5,[32]⟩,⟨[.op 5 0],_,[],Lr 6,[26]⟩]) (F:=[.old 0,.op 6 0]) (hst.pick [0,1] rfl) hb Zb
     (o_p rfl (Zd Zf0 rfl rfl u_0)<|o_p rfl (Zf ty_9 rfl rfl u_0)<|o_p rfl (Zfp Tryz.underlying9 rfl rfl u_0)<|o_p rfl (Zf Zlc rfl rfl u_0)<|o_p rfl (Zo Zbb9 (Z0z _ h9) rfl rfl (.cons u_0 .nil))<|o_p rfl (Zcu rfl rfl u_0 u_1)<|o_p rfl (Zc rfl rfl u_0)<|o_n) (by kernel_rfl) (fun a g hst hb=>?_)
    refine wp_cond_split (hst.bool 1 rfl) (fun hc10=>?_) (fun hc10=>?_)
    ·replace H0:=Zv hc10 H0
     refine r_s (L:=[]) (T:=[⟨[],_,[],[],[2]⟩]) (F:=[.op 0 0]) (hst.pick [] rfl) hb Zb
      (o_p rfl (Zc rfl rfl c_i)<|o_n) (by kernel_rfl) (fun a g hst hb=>?_)
     refine wp_ret ?_
     refine Z6 ?_
     refine Zr ?_
     obtain rfl:=Option.some.inj H0
     exact Z5 rfl hst hb (Zk (s:=2)) (hst.at 0 rfl)
    ·replace H0:=Zw hc10 H0
     refine r_s (L:=[(1,_)]) (T:=⟨[.old 0],_,[],[],[34]⟩ :: ⟨[.op 0 0],_,[],[0],[35]⟩ :: ⟨[.op 1 0],_,[],[0,1],[36]⟩ :: ⟨[.op 2 0],_,[],[0,1,2],[37]⟩ :: ⟨[.op 3 0,.old 0],_,[],Lr 4,[38]⟩ :: ⟨[.op 3 0,.op 4 0],_,[],Lr 5,[39]⟩ :: ⟨[.op 3 0,.op 5 0],_,[],Lr 6,[40]⟩ :: ⟨[.op 3 0,.op 6 0],_,[],Lr 7,[41]⟩ :: ⟨[.op 7 0],_,[],Lr 8,[42]⟩ :: ⟨[.op 8 0,.old 0],_,[],Lr 9,[43]⟩ :: ⟨[.op 8 0,.op 9 0],_,[],Lr 10,[44]⟩ :: ⟨[.op 8 0,.op 10 0],_,[],Lr 11,[45]⟩ :: ⟨[.op 8 0,.op 11 0],_,[],Lr 12,[46]⟩ :: ⟨[.op 12 0,.old 0],_,[],Lr 13,[47]⟩ :: ⟨[.op 12 0,.op 13 0],_,[],Lr 14,[48]⟩ :: ⟨[.op 12 0,.op 14 0],_,[],Lr 15,[49]⟩ :: ⟨[.op 8 0,.op 12 0,.op 15 0],_,[],Lr 16,[50]⟩ :: ⟨[.op 8 0,.op 16 0],_,[],Lr 17,[51]⟩ :: ⟨[.op 17 0],_,[],Lr 18,[33]⟩ :: []) (F:=[.old 0,.op 18 0]) (hst.pick [0] rfl) hb Zb
      (o_p rfl (Zd Zdh rfl rfl u_0)<|o_p rfl (Zf ty_3 rfl rfl u_0)<|o_p rfl (Zbs rfl rfl u_0 c_i)<|o_p rfl (Za rfl rfl u_0)<|o_g (g_f rfl rfl rfl (fun hG=>Zd Zdh rfl rfl u_0))<|o_g (g_f rfl rfl rfl (fun hG=>Zf ty_3 rfl rfl (Opd.gd hG u_0)))<|o_g (g_f rfl rfl rfl (fun hG=>Zbs rfl rfl (Opd.gd hG u_0) c_i))<|o_p rfl (Zbo rfl rfl u_0 (fun hz=>(Opd.gd (bNF hz) u_1)))<|o_p rfl (Za rfl rfl u_0)<|o_g (g_t rfl rfl rfl (fun hG=>Zd Zed rfl rfl u_0))<|o_g (g_t rfl rfl rfl (fun hG=>Zf ty_2 rfl rfl (Opd.gd hG u_0)))<|o_g (g_t rfl rfl rfl (fun hG=>Zci rfl rfl (Opd.gd hG u_0) c_i))<|o_g (g_t rfl rfl rfl (fun hG=>Za rfl rfl (Opd.gd hG u_0)))<|o_g (g_fi rfl rfl rfl (fun hG=>Zd Zed rfl rfl u_0))<|o_g (g_fi rfl rfl rfl (fun hG=>Zf ty_2 rfl rfl (Opd.gd hG u_0)))<|o_g (g_fi rfl rfl rfl (fun hG=>Zcu rfl rfl (Opd.gd hG u_0) c_i))<|o_g (g_t rfl rfl rfl (fun hG=>Zbo rfl rfl (Opd.gd hG u_0) (fun hz=>(Opd.gd (bA hG (bNF hz)) u_1))))<|o_p rfl (Zbi rfl rfl u_0 (fun hz=>(Opd.gd hz u_1)))<|o_p rfl (Zc rfl rfl u_0)<|o_n) (by kernel_rfl) (fun a g hst hb=>?_)
     refine wp_cond_split (hst.bool 1 rfl) (fun hc11=>?_) (fun hc11=>?_)
     ·replace H0:=Zv hc11 H0
      refine r_s (L:=[]) (T:=[⟨[],_,[],[],[2]⟩]) (F:=[.op 0 0]) (hst.pick [] rfl) hb Zb
       (o_p rfl (Zc rfl rfl c_i)<|o_n) (by kernel_rfl) (fun a g hst hb=>?_)
      refine wp_ret ?_
      refine Z6 ?_
      refine Zr ?_
      obtain rfl:=Option.some.inj H0
      exact Z5 rfl hst hb (Zk (s:=2)) (hst.at 0 rfl)
     ·replace H0:=Zw hc11 H0
      obtain ⟨r12,h13,H0⟩:=Zh H0
      refine r_s (L:=[(1,_)]) (T:=[⟨[.old 0],_,[],[],[53]⟩,⟨[.op 0 0],_,[],[0],[54]⟩,⟨[.op 1 0],_,[],[0,1],[55]⟩,⟨[.op 2 0],_,[],[0,1,2],[56]⟩,⟨[.op 3 0],_,[],Lr 4,[52]⟩]) (F:=[.old 0,.op 4 0]) (hst.pick [0] rfl) hb Zb
       (o_p rfl (Zd Zjn rfl rfl u_0)<|o_p rfl (Zf Zc3 rfl rfl u_0)<|o_p rfl (Zo Z23 (Zou _ h13) rfl rfl (.cons u_0 .nil))<|o_p rfl (Zb2 rfl rfl u_0)<|o_p rfl (Zc rfl rfl u_0)<|o_n) (by kernel_rfl) (fun a g hst hb=>?_)
      refine wp_cond_split (hst.bool 1 rfl) (fun hc14=>?_) (fun hc14=>?_)
      ·replace H0:=Zv hc14 H0
       refine r_s (L:=[]) (T:=[⟨[],_,[],[],[2]⟩]) (F:=[.op 0 0]) (hst.pick [] rfl) hb Zb
        (o_p rfl (Zc rfl rfl c_i)<|o_n) (by kernel_rfl) (fun a g hst hb=>?_)
       refine wp_ret ?_
       refine Z6 ?_
       refine Zr ?_
       obtain rfl:=Option.some.inj H0
       exact Z5 rfl hst hb (Zk (s:=2)) (hst.at 0 rfl)
      ·replace H0:=Zw hc14 H0
       refine r_s (L:=[(1,_)]) (T:=[⟨[.old 0],_,[],[],[58]⟩,⟨[.op 0 0],_,[],[0],[59]⟩,⟨[.op 1 0],_,[],[0,1],[60]⟩,⟨[.op 2 0],_,[],[0,1,2],[57]⟩]) (F:=[.old 0,.op 3 0]) (hst.pick [0] rfl) hb Zb
        (o_p rfl (Zd Zdh rfl rfl u_0)<|o_p rfl (Zf ty_3 rfl rfl u_0)<|o_p rfl (Zbs rfl rfl u_0 c_i)<|o_p rfl (Zc rfl rfl u_0)<|o_n) (by kernel_rfl) (fun a g hst hb=>?_)
       refine wp_cond_split (hst.bool 1 rfl) (fun hc15=>?_) (fun hc15=>?_)
       ·replace H0:=Zv hc15 H0
        obtain ⟨r16,h17,H0⟩:=Zh H0
        refine r_s (L:=[(1,_)]) (T:=[⟨[.old 0],_,[],[],[61]⟩,⟨[.op 0 0],_,[],[0],[62]⟩,⟨[.op 1 0],_,[],[0,1],[63]⟩,⟨[.op 2 0],_,[],[0,1,2],[2]⟩]) (F:=[.op 3 0]) (hst.pick [0] rfl) hb Zb
         (o_p rfl (Zd Zmd rfl rfl u_0)<|o_p rfl (Zf Zbc rfl rfl u_0)<|o_p rfl (Zo Z2s (Zps _ h17) rfl rfl (.cons u_0 .nil))<|o_p rfl (Zc rfl rfl u_0)<|o_n) (by kernel_rfl) (fun a g hst hb=>?_)
        refine wp_ret ?_
        refine Z6 ?_
        refine Zr ?_
        obtain rfl:=Option.some.inj H0
        exact Z5 rfl hst hb (Zk (s:=2)) (hst.at 0 rfl)
       ·replace H0:=Zw hc15 H0
        refine wp_skip ?_
        refine Zbe ?_
        refine Zs ?_
        refine r_s (L:=[]) (T:=[⟨[],_,[],[],[2]⟩]) (F:=[.op 0 0]) (hst.pick [] rfl) hb Zb
         (o_p rfl (Zc rfl rfl c_i)<|o_n) (by kernel_rfl) (fun a g hst hb=>?_)
        refine wp_ret ?_
        obtain rfl:=Option.some.inj H0
        exact Z5 rfl hst hb (Zk (s:=2)) (hst.at 0 rfl)
theorem Zyd (a0:Zbm) {r:Int × Int} (h:Zga a0=some r):FnOk Tryz.prog 36 [(Zch.pd a0)] (pTup [(pInt .i64 r.1),(pInt .i64 r.2)]):=by
 have H0:=h
 unfold Zga at H0
 clear h
 refine Zbu (N:=33) Tryz.func36 rfl rfl (Nat.le_of_ble_eq_true rfl) rfl rfl (fun a g0 hst hb=>?_)
 refine r_s (T:=[⟨[.old 0],_,[],[],[1]⟩,⟨[],_,[],[],[2]⟩,⟨[],_,[],[1],[3]⟩]) (F:=[.op 0 0]) hst hb Zb
  (o_p rfl (Zbq rfl rfl u_0)<|o_p rfl (Zc rfl rfl c_i)<|o_p rfl (Zc rfl rfl c_i)<|o_n) (by kernel_rfl) (fun a g hst hb=>?_)
 refine wp_seq ?_
 refine r_s (T:=[⟨[.old 0],_,[],[],[7]⟩,⟨[.op 0 0],_,[],[0],[8]⟩,⟨[.op 1 0],_,[],[0,1],[9]⟩,⟨[.op 2 0],_,[],[0,1,2],[10]⟩,⟨[.op 3 0],_,[],Lr 4,[11]⟩,⟨[.op 4 0,.old 0],_,[],Lr 5,[12]⟩,⟨[.op 4 0,.op 5 0],_,[],Lr 6,[13]⟩,⟨[.op 4 0,.op 6 0],_,[],Lr 7,[14]⟩,⟨[.op 4 0,.op 7 0],_,[],Lr 8,[15]⟩,⟨[.op 4 0,.op 8 0],_,[],Lr 9,[16]⟩]) (F:=[.old 0,.op 9 0]) hst hb Zb
  (o_p rfl (Zd Zhr rfl rfl u_0)<|o_p rfl (Zf Zkf rfl rfl u_0)<|o_p rfl (Zb1 Tryz.underlying23 rfl rfl u_0)<|o_p rfl (Zbs rfl rfl u_0 c_i)<|o_p rfl (Za rfl rfl u_0)<|o_g (g_f rfl rfl rfl (fun hG=>Zd Zhr rfl rfl u_0))<|o_g (g_f rfl rfl rfl (fun hG=>Zf Zkf rfl rfl (Opd.gd hG u_0)))<|o_g (g_f rfl rfl rfl (fun hG=>Zb1 Tryz.underlying23 rfl rfl (Opd.gd hG u_0)))<|o_g (g_f rfl rfl rfl (fun hG=>Zcu rfl rfl (Opd.gd hG u_0) c_i))<|o_p rfl (Zbo rfl rfl u_0 (fun hz=>(Opd.gd (bNF hz) u_1)))<|o_n) (by kernel_rfl) (fun a g hst hb=>?_)
 refine wp_cond_split (hst.bool 1 rfl) (fun hc1=>?_) (fun hc1=>?_)
 ·replace H0:=Zv hc1 H0
  refine r_s (L:=[]) (T:=[⟨[],_,[],[],[2]⟩,⟨[],_,[],[0],[3]⟩]) (F:=[.op 0 0,.op 1 0]) (hst.pick [] rfl) hb Zb
   (o_p rfl (Zc rfl rfl c_i)<|o_p rfl (Zc rfl rfl c_i)<|o_n) (by kernel_rfl) (fun a g hst hb=>?_)
  refine wp_ret ?_
  refine Zr ?_
  obtain rfl:=Option.some.inj H0
  exact Zdq rfl hst hb (Zk (s:=2)) (Zk (s:=3)) (Zcw (hst.at 0 rfl) (hst.at 1 rfl))
 ·replace H0:=Zw hc1 H0
  refine wp_skip ?_
  refine Zs ?_
  refine wp_seq ?_
  refine r_s (L:=[(1,_)]) (T:=[⟨[.old 0],_,[],[],[17]⟩,⟨[.op 0 0],_,[],[0],[18]⟩,⟨[.op 1 0],_,[],[0,1],[19]⟩,⟨[],_,[],[],[20]⟩]) (F:=[.op 1 0,.op 2 0,.op 3 0]) (hst.pick [0] rfl) hb Zb
   (o_p rfl (Zd Zhr rfl rfl u_0)<|o_p rfl (Zf Zkf rfl rfl u_0)<|o_p rfl (Zb1 Tryz.underlying23 rfl rfl u_0)<|o_p rfl (Za rfl rfl c_i)<|o_n) (by kernel_rfl) (fun a g hst hb=>?_)
  obtain ⟨z9,hz1,H0⟩:=Zh H0
  refine Zca (fun a w=>∃ (g:G),w=g.w ∧ St 33 [] a g ∧ Base g0 g ∧ (.inr ())=z9) ?_ ?_
  ·rintro a w ⟨g,rfl,hst,hb,rfl⟩
   refine Zs ?_
   refine r_s (T:=[⟨[],_,[],[],[2]⟩,⟨[],_,[],[0],[3]⟩]) (F:=[.op 0 0,.op 1 0]) hst hb Zb
    (o_p rfl (Zc rfl rfl c_i)<|o_p rfl (Zc rfl rfl c_i)<|o_n) (by kernel_rfl) (fun a g hst hb=>?_)
   refine wp_ret ?_
   obtain rfl:=Option.some.inj H0
   exact Zdq rfl hst hb (Zk (s:=2)) (Zk (s:=3)) (Zcw (hst.at 0 rfl) (hst.at 1 rfl))
  ·refine wp_block ?_
   refine wp_loop_ghost (fun n a w=>∃ (x2:Int) (g:G),w=g.w ∧ St 33 [(18,(Z4.sl.pd a0.Acts)),(19,(pInt .i64 (a0.Acts.length:Int))),(20,(pInt .i64 x2))] a g ∧ Base g0 g ∧ Zf5 a0 n x2=some z9) (Int.toNat ((a0.Acts.length:Int) - (0:Int)) + 1) ⟨(0:Int),g,rfl,(hst.pick [0,1,2] rfl),hb,hz1⟩ (fun n a w hI=>?_)
   obtain ⟨x2,g,rfl,hst,hb,H1⟩:=hI
   cases n with
   | zero=>exact absurd H1 (by simp [Zf5])
   | succ n =>
    rw [Zf5] at H1
    refine r_s (T:=[⟨[.old 2,.old 1],_,[],[],[21]⟩]) (F:=[.old 0,.old 1,.old 2,.op 0 0]) hst hb Zb
     (o_p rfl (Zci rfl rfl u_0 u_1)<|o_n) (by kernel_rfl) (fun a g hst hb=>?_)
    refine wp_seq ?_
    refine wp_cond_split (hst.bool 3 rfl) (fun hc3=>?_) (fun hc3=>?_)
    ·replace H1:=Zv hc3 H1
     refine wp_skip ?_
     refine Zs ?_
     refine wp_seq ?_
     refine wp_block ?_
     obtain ⟨e4,h5,H1⟩:=Zh H1
     refine r_s (L:=[(18,_),(19,_),(20,_)]) (T:=[⟨[.old 2],_,[],[],[22]⟩,⟨[.old 0,.old 2],_,[],[],[23]⟩,⟨[.op 1 0],_,[],[1],[24]⟩,⟨[],[(5,(pBox Z4 5 (default:Zu)))],[6],[],[5]⟩,⟨[.op 0 0],_,[],Lr 4,[4]⟩,⟨[.op 2 0,.op 3 0],_,[6],Lr 5,[5]⟩]) (F:=[.op 4 0,.op 5 0,.old 0,.old 1,.old 2]) (hst.pick [0,1,2] rfl) hb Zb
      (o_p rfl (Za rfl rfl u_0)<|o_p rfl (Zbl Tryz.underlying23 Zo0 rfl rfl u_0 u_1 h5)<|o_p rfl (Zf Zh1 rfl rfl u_0)<|o_p rfl (Zbh (zs:=[.int .i64 0,.string ByteArray.empty,.int .i64 0,.float .f64 0,.string ByteArray.empty,.int .i64 0,.int .i64 0,.int .i64 0,.int .i64 0,.float .f64 0,.int .i64 0,.string ByteArray.empty,.slice none 0 0,.bool false]) (by kernel_rfl) (fun g=>Zo1 g) rfl rfl)<|o_p rfl (Zc rfl rfl u_0)<|o_p rfl (Zb5 Zh1 rfl rfl u_1 u_0)<|o_n) (by kernel_rfl) (fun a g hst hb=>?_)
     obtain ⟨r6,h7,H1⟩:=Zh H1
     refine r_s (T:=[⟨[.old 1],_,[],[],[25]⟩,⟨[.op 0 0],_,[],[0],[26]⟩,⟨[.op 1 0],_,[],[0,1],[6]⟩]) (F:=[.old 0,.op 2 0,.old 2,.old 3,.old 4]) hst hb Zb
      (o_p rfl (Zf Zh1 rfl rfl u_0)<|o_p rfl (Zo Z7e (Zsc _ h7) rfl rfl (.cons u_0 .nil))<|o_p rfl (Zc rfl rfl u_0)<|o_n) (by kernel_rfl) (fun a g hst hb=>?_)
     refine r_s (T:=[⟨[.old 1],_,[],[],[27]⟩,⟨[.op 0 0],_,[],[0],[28]⟩]) (F:=[.old 0,.old 1,.old 2,.old 3,.old 4,.op 1 0]) hst hb Zb
      (o_p rfl (Za rfl rfl u_0)<|o_p rfl (Zdk rfl rfl u_0 c_i)<|o_n) (by kernel_rfl) (fun a g hst hb=>?_)
     refine wp_cond_split (hst.bool 5 rfl) (fun hc8=>?_) (fun hc8=>?_)
     ·replace H1:=Zv hc8 H1
      refine r_s (L:=[(4,_),(6,_)]) (T:=[⟨[.old 1],_,[],[],[29]⟩,⟨[.old 0],_,[],[],[30]⟩,⟨[.op 1 0],_,[],[1],[31]⟩,⟨[.op 0 0],_,[],[0],[2]⟩,⟨[.op 2 0],_,[],Lr 4,[3]⟩]) (F:=[.op 3 0,.op 4 0]) (hst.pick [0,1] rfl) hb Zb
       (o_p rfl (Za rfl rfl u_0)<|o_p rfl (Za rfl rfl u_0)<|o_p rfl (Zb7 rfl rfl u_0 c_i rfl)<|o_p rfl (Zc rfl rfl u_0)<|o_p rfl (Zc rfl rfl u_0)<|o_n) (by kernel_rfl) (fun a g hst hb=>?_)
      refine wp_ret ?_
      refine Z6 ?_
      refine Zr ?_
      refine Zr ?_
      refine Z6 ?_
      refine Zr ?_
      refine Zr ?_
      obtain rfl:=Option.some.inj H1
      obtain rfl:=Option.some.inj H0
      exact Zdq rfl hst hb (Zk (s:=2)) (Zk (s:=3)) (Zcw (hst.at 0 rfl) (hst.at 1 rfl))
     ·replace H1:=Zw hc8 H1
      refine wp_skip ?_
      refine Zbe ?_
      refine Zs ?_
      refine r_g (L:=[(18,_),(19,_),(20,_)]) (T:=[⟨[.old 2],_,[],[],[32]⟩,⟨[.op 0 0],_,[],[0],[20]⟩]) (F:=[.old 0,.old 1,.op 1 0]) (hst.pick [2,3,4] rfl) hb Zb
       (o_p rfl (Zb7 rfl rfl u_0 c_i rfl)<|o_p rfl (Za rfl rfl u_0)<|o_n) (by kernel_rfl) (fun a g hst hb=>?_)
      exact ⟨n,Nat.lt_succ_self _,(IntKind.i64.wrap (x2 + (1:Int))),g,rfl,(hst.pick [0,1,2] rfl),hb,H1⟩
    ·replace H1:=Zw hc3 H1
     refine wp_exit ?_
     refine Zb3 ?_
     refine Zb3 ?_
     refine Zcn ?_
     exact ⟨g,rfl,(hst.pick [] rfl),hb,Option.some.inj H1⟩
theorem Zp8 (a0:Zbm) (a1:Zn) (a2:List ByteArray) {r:Z3} (h:Zmr a0 a1 a2=some r):Z0i Tryz.prog 12 [(Zch.pd a0),(Zy.pd a1),(Kd.str.sl.pd a2)] Zcs r:=by
 have H0:=h
 unfold Zmr at H0
 clear h
 refine Z38 (N:=34) Tryz.func12 rfl rfl (Nat.le_of_ble_eq_true rfl) rfl (fun a g0 h0 hst hb=>?_)
 refine r_s (T:=[⟨[.old 0],_,[],[],[3]⟩,⟨[.old 1],_,[],[],[4]⟩,⟨[],_,[],[],[6]⟩]) (F:=[.old 2,.op 0 0,.op 1 0]) hst hb Zb
  (o_p rfl (Zbq rfl rfl u_0)<|o_p rfl (Zbq rfl rfl u_0)<|o_p rfl (Zzb (.inr rfl))<|o_n) (by kernel_rfl) (fun a g hst hb=>?_)
 obtain ⟨r1,h2,H0⟩:=Zh H0;obtain ⟨r3,h4,H0⟩:=Zh H0
 refine wp_seq ?_
 refine r_g (T:=[⟨[.old 1],_,[],[],[10]⟩,⟨[.op 0 0],_,[],[0],[11]⟩,⟨[.old 0],_,[],[],[12]⟩,⟨[.op 2 0],_,[],[0,1,2],[13]⟩,⟨[.old 2],_,[],[],[14]⟩,⟨[.op 1 0,.op 3 0,.op 4 0],[(15,(Zbp.pd (Zcc ({ d:=r1,split:=r3,now:=a1,out:=(default:Z1),over:=false }:Z3) (none,0,0))))],[],Lr 5,[15]⟩,⟨[.op 5 0],[(16,(Zoc none Zbp Zcc (hpL (pRow Zm 68 516 (Zdo ({ d:=r1,split:=r3,now:=a1,out:=(default:Z1),over:=false }:Z3)))) 16 ({ d:=r1,split:=r3,now:=a1,out:=(default:Z1),over:=false }:Z3)))],[17],Lr 6,[16]⟩,⟨[.op 6 0],_,[],Lr 7,[7]⟩]) (F:=[.old 1,.op 7 0]) hst hb Zb
  (o_p rfl (Zf Znl rfl rfl u_0)<|o_p rfl (Zo Z65 (Zrw _ h2) rfl rfl (.cons u_0 .nil))<|o_p rfl (Za rfl rfl u_0)<|o_p rfl (Zo Zbbw (Znm _ h4) rfl rfl (.cons u_0 .nil))<|o_p rfl (Zf Zbw rfl rfl u_0)<|o_p rfl (Z0m rfl rfl u_0 u_1 u_2)<|o_p rfl (Z8x (s0:=(none,0,0)) (fun g=>Zpg 516 g) rfl rfl u_0)<|o_p rfl (Zc rfl rfl u_0)<|o_n) (by kernel_rfl) (fun a g hst hb=>?_)
 obtain ⟨b0,hst⟩:=Z41 (i:=1) (s:=7) (m:=1002) rfl hst
 replace hst:St 34 [(3,(Zch.ptr a0)),(7,(pEq (ptrB b0 0))),(1002,(pSJ Zbp Zcc (hpL (pRow Zm 68 516 (Zdo ({ d:=r1,split:=r3,now:=a1,out:=(default:Z1),over:=false }:Z3)))) 16 b0 ({ d:=r1,split:=r3,now:=a1,out:=(default:Z1),over:=false }:Z3)))] a g:=hst
 refine Zs ?_
 refine wp_seq ?_
 obtain ⟨r5,h6,H0⟩:=Zh H0
 refine r_s (T:=[⟨[.old 0],_,[],[],[18]⟩,⟨[.op 0 0],_,[],[0],[19]⟩,⟨[.op 1 0],_,[],[0,1],[17]⟩,⟨[.op 2 0],_,[],[0,1,2],[20]⟩,⟨[.op 2 0],_,[],[0,1,2],[21]⟩,⟨[.op 3 0],_,[],Lr 4,[8]⟩,⟨[.op 4 0],_,[],Lr 6,[9]⟩]) (F:=[.old 1,.op 5 0,.op 6 0,.old 2]) hst hb Zb
  (o_p rfl (Zf Znl rfl rfl u_0)<|o_p rfl (Zo Zbb1 (Zyd _ h6) rfl rfl (.cons u_0 .nil))<|o_p rfl (Za rfl rfl u_0)<|o_p rfl (Z0 rfl rfl u_0 rfl)<|o_p rfl (Z0 rfl rfl u_0 rfl)<|o_p rfl (Zc rfl rfl u_0)<|o_p rfl (Zc rfl rfl u_0)<|o_n) (by kernel_rfl) (fun a g hst hb=>?_)
 refine r_s (T:=[⟨[.old 1],_,[],[],[22]⟩,⟨[.op 0 0],_,[],[0],[23]⟩]) (F:=[.old 0,.old 1,.old 2,.op 1 0,.old 3]) hst hb Zb
  (o_p rfl (Za rfl rfl u_0)<|o_p rfl (Zdk rfl rfl u_0 c_i)<|o_n) (by kernel_rfl) (fun a g hst hb=>?_)
 refine Zca (fun a w=>∃ (j8:Z3) (g:G),w=g.w ∧ St 34 [(7,(pEq (ptrB b0 0))),(1002,(pSJ Zbp Zcc (hpL (pRow Zm 68 516 (Zdo j8))) 16 b0 j8))] a g ∧ Base g0 g ∧ Zob j8=some r) ?_ ?_
 ·rintro a w ⟨j8,g,rfl,hst,hb,H0⟩
  unfold Zob at H0
  refine Zs ?_
  refine r_s (T:=[⟨[.old 0],_,[],[],[33]⟩,⟨[.op 0 0],_,[],[0],[6]⟩]) (F:=[.op 1 0,.old 1]) hst hb Zb
   (o_p rfl (Za rfl rfl u_0)<|o_p rfl (Zc rfl rfl u_0)<|o_n) (by kernel_rfl) (fun a g hst hb=>?_)
  refine wp_ret ?_
  obtain rfl:=Option.some.inj H0
  exact Zbc0 rfl hst hb (Zk (s:=6)) (hst.at 0 rfl) (by decide) (hst.at 1 rfl)
 ·refine wp_cond_split (hst.bool 3 rfl) (fun hc7=>?_) (fun hc7=>?_)
  ·replace H0:=Zv hc7 H0
   refine r_g (L:=[(7,_),(8,_),(9,_),(1002,_)]) (T:=[⟨[.old 0],_,[],[],[24]⟩,⟨[.old 0],_,[],[],[25]⟩,⟨[.old 1],_,[],[],[26]⟩,⟨[.old 2],_,[],[],[27]⟩,⟨[.op 2 0,.op 3 0],[(28,(Zb8.pd (Zcb ({ Code:=r5.1,At:=r5.2,Answers:=([]:List Zg) }:Z1) (none,0,0))))],[],[2,3],[28]⟩,⟨[.op 0 0],_,[],[0,2,3,4],[29]⟩,⟨[.op 5 0],_,[],[0,2,3,4,5],[30]⟩,⟨[.op 6 0,.op 4 0,.old 3],[(1002,(pSJ Zbp Zcc (hpL (pRow Zm 68 516 (Zdo ({ ({ d:=r1,split:=r3,now:=a1,out:=(default:Z1),over:=false }:Z3) with out:=({ Code:=r5.1,At:=r5.2,Answers:=([]:List Zg) }:Z1) }:Z3)))) 16 b0 ({ ({ d:=r1,split:=r3,now:=a1,out:=(default:Z1),over:=false }:Z3) with out:=({ Code:=r5.1,At:=r5.2,Answers:=([]:List Zg) }:Z1) }:Z3)))],[17],[0,2,3,4,5,6],[1002]⟩,⟨[.op 1 0],_,[],Lr 8,[31]⟩,⟨[.op 8 0],_,[],Lr 9,[32]⟩,⟨[.op 9 0,.op 7 0],[(1002,(pSJ Zbp Zcc (hpL (pRow Zm 68 516 (Zdo ({ ({ ({ d:=r1,split:=r3,now:=a1,out:=(default:Z1),over:=false }:Z3) with out:=({ Code:=r5.1,At:=r5.2,Answers:=([]:List Zg) }:Z1) }:Z3) with over:=true }:Z3)))) 16 b0 ({ ({ ({ d:=r1,split:=r3,now:=a1,out:=(default:Z1),over:=false }:Z3) with out:=({ Code:=r5.1,At:=r5.2,Answers:=([]:List Zg) }:Z1) }:Z3) with over:=true }:Z3)))],[17],Lr 10,[1002]⟩]) (F:=[.old 0,.op 10 0]) (hst.pick [0,1,2,4] rfl) hb Zb
    (o_p rfl (Za rfl rfl u_0)<|o_p rfl (Za rfl rfl u_0)<|o_p rfl (Za rfl rfl u_0)<|o_p rfl (Za rfl rfl u_0)<|o_p rfl (Zv7 rfl rfl u_0 u_1)<|o_p rfl (Zq rfl rfl u_0 (fun _ _ h=>⟨_,h⟩))<|o_p rfl (Zcd Znz rfl rfl u_0)<|o_p rfl (Zle Z5o rfl rfl (fun k hk=>by rw [List.mem_singleton.1 hk];decide) u_2 u_0 u_1 (fun g g' cs s0 ys h hr hy=>⟨(none,0,0),Z4q h hy,Zpg 516 g'⟩))<|o_p rfl (Zq rfl rfl u_0 (fun _ _ h=>⟨_,h⟩))<|o_p rfl (Zcd Zn2 rfl rfl u_0)<|o_p rfl (Zle ty_4 rfl rfl (fun k hk=>by rw [List.mem_singleton.1 hk];decide) u_1 u_0 c_b (fun g g' cs s0 ys h hr hy=>⟨s0,wp_4 h hy,hr⟩))<|o_n) (by kernel_rfl) (fun a g hst hb=>?_)
   exact ⟨({ ({ ({ d:=r1,split:=r3,now:=a1,out:=(default:Z1),over:=false }:Z3) with out:=({ Code:=r5.1,At:=r5.2,Answers:=([]:List Zg) }:Z1) }:Z3) with over:=true }:Z3),g,rfl,(hst.pick [0,1] rfl),hb,H0⟩
  ·replace H0:=Zw hc7 H0
   refine wp_skip ?_
   exact ⟨({ d:=r1,split:=r3,now:=a1,out:=(default:Z1),over:=false }:Z3),g,rfl,(hst.pick [0,4] rfl),hb,H0⟩
theorem Zkv (a0:(List Zg)) {r:(List Zg)} (h:Ze1 a0=some r):Zqm Tryz.prog 58 [(Zm.sl.pd a0)] Zm 68 r:=by
 unfold Ze1 at h
 obtain ⟨hsz,H0⟩:=Zfz h
 obtain rfl:=Option.some.inj H0
 refine Zrl (N:=8) Tryz.func58 rfl rfl (Nat.le_of_ble_eq_true rfl) rfl (fun a g0 h0 hst hb=>?_)
 refine r_s (T:=[⟨[],[(2,(Zm.sl.pd []))],[],[],[2]⟩]) (F:=[.old 0]) hst hb Zb
  (o_p rfl (Zc rfl rfl (Opd.c (fun g=>Zgv g)))<|o_n) (by kernel_rfl) (fun a g hst hb=>?_)
 refine wp_seq ?_
 refine r_s (T:=[⟨[.old 0],_,[],[],[3]⟩,⟨[.op 0 0],_,[],[0],[4]⟩]) (F:=[.old 0,.op 1 0]) hst hb Zb
  (o_p rfl (Za rfl rfl u_0)<|o_p rfl (Zqk Tryz.underlying47 rfl rfl u_0)<|o_n) (by kernel_rfl) (fun a g hst hb=>?_)
 obtain ⟨c,hc,hc'⟩:=hst.at 1 rfl
 refine wp_cond_split hc (fun ht=>?_) (fun hf=>?_)
 ·obtain rfl:=hc' ht
  refine r_s (L:=[]) (T:=[⟨[],[(2,(pEq (.slice none 0 0)))],[],[],[2]⟩]) (F:=[.op 0 0]) (hst.pick [] rfl) hb Zb
   (o_p rfl (Zc rfl rfl (Opd.c (fun g=>rfl)))<|o_n) (by kernel_rfl) (fun a g hst hb=>?_)
  refine wp_ret ?_
  refine Zr ?_
  exact Zqb rfl hst hb (Zk (s:=2)) ⟨none,hst.at 0 rfl⟩
 ·refine wp_skip ?_
  refine Zs ?_
  refine r_s (L:=[(0,_)]) (T:=[⟨[],[(5,(pOwn Zm 68 5 (some 0) (([]:(List Zg)).map some)))],[6],[],[5]⟩,⟨[.old 0],_,[],[],[6]⟩,⟨[.op 0 0,.op 1 0],_,[6],[0,1],[5,7]⟩,⟨[.op 2 0],_,[],[0,1,2],[2]⟩]) (F:=[.op 3 0]) (hst.pick [0] rfl) hb Zb
   (o_p rfl (Zs3 (ty:=0) Zq6 rfl rfl)<|o_p rfl (Za rfl rfl u_0)<|o_p rfl (Zoz Zq6 rfl rfl u_0 u_1 (by simpa using hsz))<|o_p rfl (Zc rfl rfl u_0)<|o_n) (by kernel_rfl) (fun a g hst hb=>?_)
  refine wp_ret ?_
  exact Zux rfl h0 hst hb (Zk (s:=2)) (hst.at 0 rfl)
theorem Zy0 (a0:Z1) {r:Z1} (h:Zoo a0=some r):FnOk Tryz.prog 37 [(Zbx.pd a0)] (Zbx.pd r):=by
 unfold Zoo at h
 obtain ⟨⟨hsz,hall⟩,H0⟩:=Zfz h
 obtain rfl:=Option.some.inj H0
 have hcl:Ze1 a0.Answers=some a0.Answers:=by unfold Ze1;rw [if_pos hsz]
 have hrc:∀ e ∈ a0.Answers,Zev e.Rec=some e.Rec:=fun e he=>by
  have:=List.all_eq_true.1 hall e he
  unfold Zev Zby
  rw [if_pos (of_decide_eq_true this)]
  rfl
 have hmx:a0.Answers.length ≤ 140737488355328:=Nat.le_trans (Nat.le_mul_of_pos_right _ (by decide)) hsz
 refine Zbu (N:=28) Tryz.func37 rfl rfl (Nat.le_of_ble_eq_true rfl) rfl rfl (fun a g0 hst hb=>?_)
 refine r_s (T:=[⟨[.old 0],[(1,(pBox Zbx 1 a0))],[2],[],[1]⟩,⟨[],[(2,(pBox Zbx 2 (default:Z1)))],[3],[],[2]⟩]) (F:=[.op 0 0,.op 1 0]) hst hb Zb
  (o_p rfl (Zkm (j:=1) rfl rfl u_0)<|o_p rfl (Zbh (zs:=[.int .i64 0,.int .i64 0,.slice none 0 0]) (by kernel_rfl) (fun g=>Zin g) rfl rfl)<|o_n) (by kernel_rfl) (fun a g hst hb=>?_)
 refine r_s (T:=[⟨[.old 0],_,[],[],[4]⟩,⟨[.op 0 0],_,[],[0],[5]⟩,⟨[.op 1 0],[(6,(pArr Zm 68 6 a0.Answers))],[7],[0,1],[6]⟩,⟨[.old 0],_,[],[0,1,2],[7]⟩,⟨[.old 0,.op 3 0,.op 2 0],[(1,(pBxO Zb8 Zcb (fun x:Z1=>x.Answers) Zm 68 1 6 a0))],[2],[0,1,2,3],[1,4,7]⟩]) (F:=[.op 4 0,.old 1]) hst hb Zb
  (o_p rfl (Zt Zm3 (off:=2) (by kernel_rfl) rfl rfl u_0)<|o_p rfl (Zbr Zq2 rfl rfl u_0)<|o_p rfl (Zl2 (j:=6) Zbbr (Zkv _ hcl) rfl rfl (.cons u_0 .nil))<|o_p rfl (Zt Zm3 (off:=2) (by kernel_rfl) rfl rfl u_0)<|o_p rfl (Zx0 Zwd Zpj rfl rfl (by decide) u_0 u_1 u_2 (fun g cs s0 s1 ys h k=>Zv2 h k))<|o_n) (by kernel_rfl) (fun a g hst hb=>?_)
 refine wp_seq ?_
 refine r_s (T:=[⟨[.old 0],_,[],[],[8]⟩,⟨[.op 0 0],_,[],[0],[9]⟩,⟨[.op 1 0],_,[],[0,1],[10]⟩,⟨[],_,[],[],[11]⟩]) (F:=[.old 0,.old 1,.op 2 0,.op 3 0]) hst hb Zb
  (o_p rfl (Zm1 Zu0 (off:=2) (by kernel_rfl) (fun _=>rfl) rfl rfl u_0)<|o_p rfl (Zny Zpj rfl rfl u_0)<|o_p rfl (Z2o Tryz.underlying47 rfl rfl u_0)<|o_p rfl (Za rfl rfl c_i)<|o_n) (by kernel_rfl) (fun a g hst hb=>?_)
 refine Zca (fun a w=>∃ (g:G),w=g.w ∧ St 28 [(1,(pBxO Zb8 Zcb (fun x:Z1=>x.Answers) Zm 68 1 6 a0)),(2,(pBox Zbx 2 (default:Z1)))] a g ∧ Base g0 g) ?_ ?_
 ·rintro a w ⟨g,rfl,hst,hb⟩
  refine Zs ?_
  refine r_s (T:=[⟨[.old 0],[(27,(Zbx.pd a0))],[7],[],[27,1]⟩,⟨[.old 1,.op 0 0],_,[3],[0],[2]⟩]) (F:=[.op 1 0]) hst hb Zb
   (o_p rfl (Zuc Zwn rfl Zbai rfl rfl u_0)<|o_p rfl (Z2 Zi1 rfl rfl u_0 u_1)<|o_n) (by kernel_rfl) (fun a g hst hb=>?_)
  refine wp_ret ?_
  obtain ⟨u0,hu0,hq0⟩:=Zbf (P:=Tryz.prog) Zi1 (hst.at 0 rfl)
  exact Z5 rfl hst hb hu0 hq0
 ·refine wp_block ?_
  refine wp_loop_ghost (fun n a w=>∃ (i:Nat) (g:G),w=g.w ∧ St 28 [(1,(pBxO Zb8 Zcb (fun x:Z1=>x.Answers) Zm 68 1 6 a0)),(2,(pBox Zbx 2 (default:Z1))),(10,(pInt .i64 (a0.Answers.length:Int))),(11,(pInt .i64 (i:Int)))] a g ∧ Base g0 g ∧ i ≤ a0.Answers.length ∧ n=a0.Answers.length - i) a0.Answers.length ⟨0,g,rfl,hst,hb,Nat.zero_le _,rfl⟩ (fun n a w hI=>?_)
  obtain ⟨i,g,rfl,hst,hb,hi,rfl⟩:=hI
  refine r_s (T:=[⟨[.old 3,.old 2],_,[],[],[12]⟩]) (F:=[.old 0,.old 1,.old 2,.old 3,.op 0 0]) hst hb Zb
   (o_p rfl (Zci rfl rfl u_0 u_1)<|o_n) (by kernel_rfl) (fun a g hst hb=>?_)
  refine wp_seq ?_
  refine wp_cond_split (hst.bool 4 rfl) (fun hc=>?_) (fun hc=>?_)
  ·have hlt:i < a0.Answers.length:=by have:=of_decide_eq_true hc;omega
   have hx:idx a0.Answers (i:Int)=some a0.Answers[i]:=Z1r (List.getElem?_eq_getElem hlt)
   refine wp_skip ?_
   refine Zs ?_
   refine wp_seq ?_
   refine wp_block ?_
   refine r_s (L:=[(1,_),(2,_),(10,_),(11,_)]) (T:=[⟨[.old 3],_,[],[],[13]⟩,⟨[.op 0 0],_,[],[0],[3]⟩]) (F:=[.old 0,.old 1,.op 1 0,.old 2,.old 3]) (hst.pick [0,1,2,3] rfl) hb Zb
    (o_p rfl (Za rfl rfl u_0)<|o_p rfl (Zc rfl rfl u_0)<|o_n) (by kernel_rfl) (fun a g hst hb=>?_)
   refine r_g (T:=[⟨[.old 0],_,[],[],[14]⟩,⟨[.op 0 0],_,[],[0],[15]⟩,⟨[.old 2],_,[],[],[16]⟩,⟨[.old 0],_,[],[],[17]⟩,⟨[.op 3 0],_,[],[3],[18]⟩,⟨[.old 2],_,[],[],[19]⟩,⟨[.op 4 0,.op 5 0],_,[],[3,4,5],[20]⟩,⟨[.op 6 0],_,[],[3,4,5,6],[21]⟩,⟨[.op 7 0],_,[],[3,4,5,6,7],[22]⟩,⟨[.op 8 0],_,[],[3,4,5,6,7,8],[23]⟩,⟨[.op 1 0,.op 2 0],_,[],[0,1,2,3,4,5,6,7,8,9],[24]⟩,⟨[.op 10 0],_,[],[0,1,2,3,4,5,6,7,8,9,10],[25]⟩,⟨[.old 0,.op 11 0,.op 9 0],[(1,(pBxO Zb8 Zcb (fun x:Z1=>x.Answers) Zm 68 1 6 a0))],[7],[0,1,2,3,4,5,6,7,8,9,10,11],[1,14,15,17,18,20,21,24,25]⟩]) (F:=[.op 12 0,.old 1,.old 3,.old 4]) hst hb Zb
    (o_p rfl (Zm1 Zu0 (off:=2) (by kernel_rfl) (fun _=>rfl) rfl rfl u_0)<|o_p rfl (Zny Zpj rfl rfl u_0)<|o_p rfl (Za rfl rfl u_0)<|o_p rfl (Zm1 Zu0 (off:=2) (by kernel_rfl) (fun _=>rfl) rfl rfl u_0)<|o_p rfl (Zny Zpj rfl rfl u_0)<|o_p rfl (Za rfl rfl u_0)<|o_p rfl (Zp3 Tryz.underlying47 Zyx rfl rfl u_0 u_1 hx)<|o_p rfl (Zo3 Zo9 (off2:=2) (by kernel_rfl) (by decide) rfl rfl u_0)<|o_p rfl (Zx1 Zbc rfl rfl u_0)<|o_p rfl (Zo Zn8 (Zgr _ (hrc _ (List.getElem_mem hlt))) rfl rfl (.cons u_0 .nil))<|o_p rfl (Zp3 Tryz.underlying47 Zyx rfl rfl u_0 u_1 hx)<|o_p rfl (Zo3 Zo9 (off2:=2) (by kernel_rfl) (by decide) rfl rfl u_0)<|o_p rfl (Zt9 (u:=a0.Answers[i]) (u':=a0.Answers[i]) (x':=a0) Zbc rfl rfl (by decide) u_0 u_1 u_2 (Z18 hx) (by decide) (by rw [Int.toNat_natCast];exact (List.set_getElem_self hlt).symm) (fun _=>rfl) (Zut _))<|o_n) (by kernel_rfl) (fun a g hst hb=>?_)
   refine Zbe ?_
   refine Zs ?_
   refine r_g (T:=[⟨[.old 3],_,[],[],[26]⟩,⟨[.op 0 0],_,[],[0],[11]⟩]) (F:=[.old 0,.old 1,.old 2,.op 1 0]) hst hb Zb
    (o_p rfl (Zb7 rfl rfl u_0 c_i (Zxr hlt (by omega)))<|o_p rfl (Za rfl rfl u_0)<|o_n) (by kernel_rfl) (fun a g hst hb=>?_)
   exact ⟨a0.Answers.length - (i + 1),by omega,i + 1,g,rfl,hst,hb,by omega,rfl⟩
  ·refine wp_exit ?_
   refine Zb3 ?_
   refine Zb3 ?_
   refine Zcn ?_
   exact ⟨g,rfl,hst.pick [0,1] rfl,hb⟩
theorem Zli (a0:Z3) {r:Z1 × Bool} (h:Zfj a0=some r):FnMR Tryz.prog 14 Zcs a0 a0 [] (pTup [(Zbx.pd r.1),(Zbg r.2)]):=by
 have H0:=h
 unfold Zfj at H0
 clear h
 refine Ztq (N:=15) Tryz.func14 rfl rfl (Nat.le_of_ble_eq_true rfl) rfl rfl (fun a g0 b0 hst hb=>?_)
 replace hst:St 15 [(0,(pEq (ptrB b0 0))),(1002,(pSJ Zbp Zcc (hpL (pRow Zm 68 1000000 (Zdo a0))) 0 b0 a0))] _ _:=Zrf hst
 refine r_s (T:=[⟨[],[(2,(pBox Zbx 2 (default:Z1)))],[3],[],[2]⟩,⟨[],_,[],[],[3]⟩]) (F:=[.old 0,.op 0 0,.old 1]) hst hb Zb
  (o_p rfl (Zbh (zs:=[.int .i64 0,.int .i64 0,.slice none 0 0]) (by kernel_rfl) (fun g=>Zin g) rfl rfl)<|o_p rfl (Zc rfl rfl c_b)<|o_n) (by kernel_rfl) (fun a g hst hb=>?_)
 refine wp_seq ?_
 refine r_s (T:=[⟨[.old 0],_,[],[],[4]⟩,⟨[.op 0 0],_,[],[0],[5]⟩,⟨[.op 1 0],_,[],[0,1],[6]⟩,⟨[.op 2 0,.old 2],_,[],[0,1,2],[7]⟩,⟨[.op 3 0],_,[],Lr 4,[8]⟩]) (F:=[.old 0,.old 1,.op 4 0,.old 2]) hst hb Zb
  (o_p rfl (Za rfl rfl u_0)<|o_p rfl (Zq rfl rfl u_0 (fun _ _ h=>⟨_,h⟩))<|o_p rfl (Zcd Zn2 rfl rfl u_0)<|o_p rfl (Zfx (u:=a0.over) ty_4 (fun g s cs h _=>kp_4 h) rfl rfl u_1 u_0)<|o_p rfl (Zb2 rfl rfl u_0)<|o_n) (by kernel_rfl) (fun a g hst hb=>?_)
 refine wp_cond_split (hst.bool 2 rfl) (fun hc1=>?_) (fun hc1=>?_)
 ·replace H0:=Zv hc1 H0
  refine r_s (L:=[(0,_),(2,_),(1002,_)]) (T:=[⟨[],_,[],[],[9]⟩,⟨[.op 0 0,.old 1],_,[3],[0],[2]⟩,⟨[],_,[],[0,1],[3]⟩]) (F:=[.old 0,.op 1 0,.op 2 0,.old 2]) (hst.pick [0,1,3] rfl) hb Zb
   (o_p rfl (Z9k rfl rfl )<|o_p rfl (Z2 Zi1 rfl rfl u_1 u_0)<|o_p rfl (Zc rfl rfl c_b)<|o_n) (by kernel_rfl) (fun a g hst hb=>?_)
  refine wp_ret ?_
  refine Zr ?_
  obtain rfl:=Option.some.inj H0
  obtain ⟨u0,hu0,hq0⟩:=Zbf (P:=Tryz.prog) Zi1 (hst.at 1 rfl)
  exact Zvu rfl hst hb hu0 (Zk (s:=3)) (Zcw hq0 (hst.at 2 rfl)) (hst.at 3 rfl)
 ·replace H0:=Zw hc1 H0
  refine wp_skip ?_
  refine Zs ?_
  obtain ⟨r2,h3,H0⟩:=Zh H0
  refine r_s (L:=[(0,_),(2,_),(1002,_)]) (T:=[⟨[.old 0],_,[],[],[10]⟩,⟨[.op 0 0],_,[],[0],[11]⟩,⟨[.op 1 0],_,[],[0,1],[12]⟩,⟨[.op 2 0,.old 2],_,[],[0,1,2],[13]⟩,⟨[.op 3 0],_,[],Lr 4,[14]⟩,⟨[.op 4 0,.old 1],_,[3],Lr 5,[2]⟩,⟨[],_,[],Lr 6,[3]⟩]) (F:=[.old 0,.op 5 0,.op 6 0,.old 2]) (hst.pick [0,1,3] rfl) hb Zb
   (o_p rfl (Za rfl rfl u_0)<|o_p rfl (Zq rfl rfl u_0 (fun _ _ h=>⟨_,h⟩))<|o_p rfl (Zcd Znz rfl rfl u_0)<|o_p rfl (Zfx (u:=a0.out) Zi1 (fun g s cs h hr=>Zbau h hr) rfl rfl u_1 u_0)<|o_p rfl (Zo Zbbv (Zy0 _ h3) rfl rfl (.cons u_0 .nil))<|o_p rfl (Z2 Zi1 rfl rfl u_1 u_0)<|o_p rfl (Zc rfl rfl c_b)<|o_n) (by kernel_rfl) (fun a g hst hb=>?_)
  refine wp_ret ?_
  obtain rfl:=Option.some.inj H0
  obtain ⟨u0,hu0,hq0⟩:=Zbf (P:=Tryz.prog) Zi1 (hst.at 1 rfl)
  exact Zvu rfl hst hb hu0 (Zk (s:=3)) (Zcw hq0 (hst.at 2 rfl)) (hst.at 3 rfl)
theorem Zs1 (a0:Int) {r:Bool} (h:Zl1 a0=some r):FnOk Tryz.prog 10 [(pInt .i64 a0)] (Zbg r):=by
 have H0:=h
 unfold Zl1 at H0
 clear h
 refine Zbu (N:=21) Tryz.func10 rfl rfl (Nat.le_of_ble_eq_true rfl) rfl rfl (fun a g0 hst hb=>?_)
 refine r_s (T:=[⟨[],_,[],[],[2]⟩]) (F:=[.old 0]) hst hb Zb
  (o_p rfl (Zc rfl rfl c_b)<|o_n) (by kernel_rfl) (fun a g hst hb=>?_)
 refine r_s (T:=⟨[.old 0],_,[],[],[3]⟩ :: ⟨[.op 0 0],_,[],[0],[4]⟩ :: ⟨[.op 1 0],_,[],[0,1],[5]⟩ :: ⟨[.op 2 0,.old 0],_,[],[0,1,2],[6]⟩ :: ⟨[.op 2 0,.op 3 0],_,[],Lr 4,[7]⟩ :: ⟨[.op 2 0,.op 4 0],_,[],Lr 5,[8]⟩ :: ⟨[.op 5 0],_,[],Lr 6,[9]⟩ :: ⟨[.op 6 0,.old 0],_,[],Lr 7,[10]⟩ :: ⟨[.op 6 0,.op 7 0],_,[],Lr 8,[11]⟩ :: ⟨[.op 6 0,.op 8 0],_,[],Lr 9,[12]⟩ :: ⟨[.op 9 0],_,[],Lr 10,[13]⟩ :: ⟨[.op 10 0,.old 0],_,[],Lr 11,[14]⟩ :: ⟨[.op 10 0,.op 11 0],_,[],Lr 12,[15]⟩ :: ⟨[.op 10 0,.op 12 0],_,[],Lr 13,[16]⟩ :: ⟨[.op 13 0],_,[],Lr 14,[17]⟩ :: ⟨[.op 14 0,.old 0],_,[],Lr 15,[18]⟩ :: ⟨[.op 14 0,.op 15 0],_,[],Lr 16,[19]⟩ :: ⟨[.op 14 0,.op 16 0],_,[],Lr 17,[20]⟩ :: ⟨[.op 17 0],_,[],Lr 18,[2]⟩ :: []) (F:=[.op 18 0]) hst hb Zb
  (o_p rfl (Za rfl rfl u_0)<|o_p rfl (Zbs rfl rfl u_0 c_i)<|o_p rfl (Za rfl rfl u_0)<|o_g (g_f rfl rfl rfl (fun hG=>Za rfl rfl u_0))<|o_g (g_f rfl rfl rfl (fun hG=>Zbs rfl rfl (Opd.gd hG u_0) c_i))<|o_p rfl (Zbo rfl rfl u_0 (fun hz=>(Opd.gd (bNF hz) u_1)))<|o_p rfl (Za rfl rfl u_0)<|o_g (g_f rfl rfl rfl (fun hG=>Za rfl rfl u_0))<|o_g (g_f rfl rfl rfl (fun hG=>Zbs rfl rfl (Opd.gd hG u_0) c_i))<|o_p rfl (Zbo rfl rfl u_0 (fun hz=>(Opd.gd (bNF hz) u_1)))<|o_p rfl (Za rfl rfl u_0)<|o_g (g_f rfl rfl rfl (fun hG=>Za rfl rfl u_0))<|o_g (g_f rfl rfl rfl (fun hG=>Zbs rfl rfl (Opd.gd hG u_0) c_i))<|o_p rfl (Zbo rfl rfl u_0 (fun hz=>(Opd.gd (bNF hz) u_1)))<|o_p rfl (Za rfl rfl u_0)<|o_g (g_f rfl rfl rfl (fun hG=>Za rfl rfl u_0))<|o_g (g_f rfl rfl rfl (fun hG=>Zbs rfl rfl (Opd.gd hG u_0) c_i))<|o_p rfl (Zbo rfl rfl u_0 (fun hz=>(Opd.gd (bNF hz) u_1)))<|o_p rfl (Zc rfl rfl u_0)<|o_n) (by kernel_rfl) (fun a g hst hb=>?_)
 refine wp_ret ?_
 obtain rfl:=Option.some.inj H0
 exact Z5 rfl hst hb (Zk (s:=2)) (hst.at 0 rfl)
theorem Zg3 (a0:Zn) (a1:ByteArray) {r:Ze × Bool} (h:Zei a0 a1=some r):FnOk Tryz.prog 30 [(Zy.pd a0),(pStr a1)] (pTup [(Zi.pd r.1),(Zbg r.2)]):=by
 have H0:=h
 unfold Zei at H0
 clear h
 refine Zbu (N:=39) Tryz.func30 rfl rfl (Nat.le_of_ble_eq_true rfl) rfl rfl (fun a g0 hst hb=>?_)
 refine r_s (T:=[⟨[.old 0],_,[],[],[2]⟩,⟨[],[(4,(pBox Zi 4 (default:Ze)))],[5],[],[4]⟩,⟨[],_,[],[],[5]⟩]) (F:=[.old 1,.op 0 0,.op 1 0]) hst hb Zb
  (o_p rfl (Zbq rfl rfl u_0)<|o_p rfl (Zbh (zs:=[.int .i64 0,.int .i64 0,.int .i64 0,.int .i64 0,.float .f64 0,.int .i64 0,.string ByteArray.empty,.slice none 0 0]) (by kernel_rfl) (fun g=>Zb4 g) rfl rfl)<|o_p rfl (Zc rfl rfl c_b)<|o_n) (by kernel_rfl) (fun a g hst hb=>?_)
 refine wp_seq ?_
 refine r_s (T:=[⟨[.old 1],_,[],[],[7]⟩,⟨[.op 0 0],_,[],[0],[8]⟩,⟨[.op 1 0],_,[],[0,1],[6]⟩]) (F:=[.old 0,.old 2,.op 2 0]) hst hb Zb
  (o_p rfl (Zd Zqw rfl rfl u_0)<|o_p rfl (Zf Zdc rfl rfl u_0)<|o_p rfl (Zc rfl rfl u_0)<|o_n) (by kernel_rfl) (fun a g hst hb=>?_)
 obtain ⟨z12,hz1,H0⟩:=Zh H0
 refine Zca (fun a w=>∃ (y11:Ze) (g:G),w=g.w ∧ St 39 [(4,(pBox Zi 4 y11))] a g ∧ Base g0 g ∧ (.inr y11)=z12) ?_ ?_
 ·rintro a w ⟨y11,g,rfl,hst,hb,rfl⟩
  refine Zs ?_
  refine r_s (T:=[⟨[],_,[],[],[38]⟩,⟨[.op 0 0,.old 0],_,[5],[0],[4]⟩,⟨[],_,[],[0,1],[5]⟩]) (F:=[.op 1 0,.op 2 0]) hst hb Zb
   (o_p rfl (Znc rfl rfl )<|o_p rfl (Z2 Zbc rfl rfl u_1 u_0)<|o_p rfl (Zc rfl rfl c_b)<|o_n) (by kernel_rfl) (fun a g hst hb=>?_)
  refine wp_ret ?_
  obtain rfl:=Option.some.inj H0
  obtain ⟨u0,hu0,hq0⟩:=Zbf (P:=Tryz.prog) Zbc (hst.at 0 rfl)
  exact Zdq rfl hst hb hu0 (Zk (s:=5)) (Zcw hq0 (hst.at 1 rfl))
 ·refine wp_block ?_
  refine wp_loop_ghost (fun n a w=>∃ (x1:Ze) (x2:shelf_nodeT) (g:G),w=g.w ∧ St 39 [(1,(pStr a1)),(4,(pBox Zi 4 x1)),(6,(Zba.pd x2))] a g ∧ Base g0 g ∧ Zeo a1 n x1 x2=some z12) (a0.top.hh + 1) ⟨(default:Ze),a0.top,g,rfl,(hst.pick [0,1,2] rfl),hb,hz1⟩ (fun n a w hI=>?_)
  obtain ⟨x1,x2,g,rfl,hst,hb,H1⟩:=hI
  cases n with
  | zero=>exact absurd H1 (by simp [Zeo])
  | succ n =>
   rw [Zeo] at H1
   refine wp_seq ?_
   refine r_s (T:=[⟨[.old 2],_,[],[],[9]⟩,⟨[.op 0 0],_,[],[0],[10]⟩]) (F:=[.old 0,.old 1,.old 2,.op 1 0]) hst hb Zb
    (o_p rfl (Za rfl rfl u_0)<|o_p rfl (Z0a Tryz.underlying28 rfl rfl u_0 (Zft _))<|o_n) (by kernel_rfl) (fun a g hst hb=>?_)
   refine wp_cond_split (hst.bool 3 rfl) (fun hc3=>?_) (fun hc3=>?_)
   ·replace H1:=Zv hc3 H1
    refine wp_skip ?_
    refine Zs ?_
    refine Zca (fun a w=>∃ (j10:shelf_nodeT) (g:G),w=g.w ∧ St 39 [(1,(pStr a1)),(4,(pBox Zi 4 x1)),(6,(Zba.pd j10))] a g ∧ Base g0 g ∧ Zib x1 (Zeo a1 n) j10=some z12) ?_ ?_
    ·rintro a w ⟨j10,g,rfl,hst,hb,H1⟩
     unfold Zib at H1
     exact ⟨n,Nat.lt_succ_self _,x1,j10,g,rfl,(hst.pick [0,1,2] rfl),hb,H1⟩
    ·refine wp_block ?_
     refine wp_block ?_
     obtain ⟨n4,h5,H1⟩:=Zh H1
     refine r_s (L:=[(1,_),(4,_),(6,_)]) (T:=[⟨[.old 0],_,[],[],[17]⟩,⟨[.old 2],_,[],[],[18]⟩,⟨[.op 1 0],_,[],[1],[19]⟩,⟨[.op 2 0],_,[],[1,2],[20]⟩,⟨[.op 3 0],_,[],[1,2,3],[21]⟩,⟨[.op 0 0,.op 4 0],_,[],Lr 5,[22]⟩,⟨[.op 5 0],_,[],Lr 6,[16]⟩]) (F:=[.old 0,.old 1,.old 2,.op 6 0]) (hst.pick [0,1,2] rfl) hb Zb
      (o_p rfl (Za rfl rfl u_0)<|o_p rfl (Za rfl rfl u_0)<|o_p rfl (Zq rfl rfl (Opd.imp u_0 (fun _ _ h=>Zx h5 h)) (fun _ _ ⟨_,_,_,e,_⟩=>⟨_,e⟩))<|o_p rfl (Zd Zfh rfl rfl u_0)<|o_p rfl (Zf ty_9 rfl rfl u_0)<|o_p rfl (Zm9 rfl rfl u_0 u_1)<|o_p rfl (Zc rfl rfl u_0)<|o_n) (by kernel_rfl) (fun a g hst hb=>?_)
     refine wp_cond_split (hst.bool 3 rfl) (fun hc6=>?_) (fun hc6=>?_)
     ·replace H1:=Zv hc6 H1
      refine r_g (L:=[(1,_),(4,_),(6,_)]) (T:=[⟨[.old 2],_,[],[],[23]⟩,⟨[.op 0 0],_,[],[0],[24]⟩,⟨[.op 1 0],_,[],[0,1],[25]⟩,⟨[.op 2 0],_,[],[0,1,2],[26]⟩,⟨[.op 3 0],_,[],Lr 4,[6]⟩]) (F:=[.old 0,.old 1,.op 4 0]) (hst.pick [0,1,2] rfl) hb Zb
       (o_p rfl (Za rfl rfl u_0)<|o_p rfl (Zq rfl rfl (Opd.imp u_0 (fun _ _ h=>Zx h5 h)) (fun _ _ ⟨_,_,_,e,_⟩=>⟨_,e⟩))<|o_p rfl (Zd Zep rfl rfl u_0)<|o_p rfl (Zf Zdc rfl rfl u_0)<|o_p rfl (Zc rfl rfl u_0)<|o_n) (by kernel_rfl) (fun a g hst hb=>?_)
      refine Zbe ?_
      refine Zbe ?_
      exact ⟨n4.left,g,rfl,(hst.pick [0,1,2] rfl),hb,H1⟩
     ·replace H1:=Zw hc6 H1
      refine r_s (L:=[(1,_),(4,_),(6,_)]) (T:=[⟨[.old 0],_,[],[],[28]⟩,⟨[.old 2],_,[],[],[29]⟩,⟨[.op 1 0],_,[],[1],[30]⟩,⟨[.op 2 0],_,[],[1,2],[31]⟩,⟨[.op 3 0],_,[],[1,2,3],[32]⟩,⟨[.op 0 0,.op 4 0],_,[],Lr 5,[33]⟩,⟨[.op 5 0],_,[],Lr 6,[27]⟩]) (F:=[.old 0,.old 1,.old 2,.op 6 0]) (hst.pick [0,1,2] rfl) hb Zb
       (o_p rfl (Za rfl rfl u_0)<|o_p rfl (Za rfl rfl u_0)<|o_p rfl (Zq rfl rfl (Opd.imp u_0 (fun _ _ h=>Zx h5 h)) (fun _ _ ⟨_,_,_,e,_⟩=>⟨_,e⟩))<|o_p rfl (Zd Zfh rfl rfl u_0)<|o_p rfl (Zf ty_9 rfl rfl u_0)<|o_p rfl (Zvk rfl rfl u_0 u_1)<|o_p rfl (Zc rfl rfl u_0)<|o_n) (by kernel_rfl) (fun a g hst hb=>?_)
      refine wp_cond_split (hst.bool 3 rfl) (fun hc7=>?_) (fun hc7=>?_)
      ·replace H1:=Zv hc7 H1
       refine r_g (L:=[(1,_),(4,_),(6,_)]) (T:=[⟨[.old 2],_,[],[],[34]⟩,⟨[.op 0 0],_,[],[0],[35]⟩,⟨[.op 1 0],_,[],[0,1],[36]⟩,⟨[.op 2 0],_,[],[0,1,2],[37]⟩,⟨[.op 3 0],_,[],Lr 4,[6]⟩]) (F:=[.old 0,.old 1,.op 4 0]) (hst.pick [0,1,2] rfl) hb Zb
        (o_p rfl (Za rfl rfl u_0)<|o_p rfl (Zq rfl rfl (Opd.imp u_0 (fun _ _ h=>Zx h5 h)) (fun _ _ ⟨_,_,_,e,_⟩=>⟨_,e⟩))<|o_p rfl (Zd Zfg rfl rfl u_0)<|o_p rfl (Zf Zdc rfl rfl u_0)<|o_p rfl (Zc rfl rfl u_0)<|o_n) (by kernel_rfl) (fun a g hst hb=>?_)
       refine Zbe ?_
       refine Zbe ?_
       exact ⟨n4.right,g,rfl,(hst.pick [0,1,2] rfl),hb,H1⟩
      ·replace H1:=Zw hc7 H1
       obtain ⟨r8,h9,H1⟩:=Zh H1
       refine r_s (L:=[(4,_),(6,_)]) (T:=[⟨[.old 1],_,[],[],[11]⟩,⟨[.op 0 0],_,[],[0],[12]⟩,⟨[.op 1 0],_,[],[0,1],[13]⟩,⟨[.op 2 0],_,[],[0,1,2],[14]⟩,⟨[.op 3 0],_,[],Lr 4,[15]⟩,⟨[.op 4 0,.old 0],_,[5],Lr 5,[4]⟩,⟨[],_,[],Lr 6,[5]⟩]) (F:=[.op 5 0,.op 6 0]) (hst.pick [1,2] rfl) hb Zb
        (o_p rfl (Za rfl rfl u_0)<|o_p rfl (Zq rfl rfl (Opd.imp u_0 (fun _ _ h=>Zx h5 h)) (fun _ _ ⟨_,_,_,e,_⟩=>⟨_,e⟩))<|o_p rfl (Zd Zht rfl rfl u_0)<|o_p rfl (Zf Zbc rfl rfl u_0)<|o_p rfl (Zo Zn8 (Zgr _ h9) rfl rfl (.cons u_0 .nil))<|o_p rfl (Z2 Zbc rfl rfl u_1 u_0)<|o_p rfl (Zc rfl rfl c_b)<|o_n) (by kernel_rfl) (fun a g hst hb=>?_)
       refine wp_ret ?_
       refine Z6 ?_
       refine Z6 ?_
       refine Zr ?_
       refine Zr ?_
       refine Z6 ?_
       refine Zr ?_
       refine Zr ?_
       obtain rfl:=Option.some.inj H1
       obtain rfl:=Option.some.inj H0
       obtain ⟨u0,hu0,hq0⟩:=Zbf (P:=Tryz.prog) Zbc (hst.at 0 rfl)
       exact Zdq rfl hst hb hu0 (Zk (s:=5)) (Zcw hq0 (hst.at 1 rfl))
   ·replace H1:=Zw hc3 H1
    refine wp_exit ?_
    refine Zb3 ?_
    refine Zb3 ?_
    refine Zcn ?_
    exact ⟨x1,g,rfl,(hst.pick [1] rfl),hb,Option.some.inj H1⟩
theorem Zdu (a0:shelf_nodeT) {r:Int} (h:Zcx a0=some r):FnOk Tryz.prog 61 [(Zba.pd a0)] (pInt .i64 r):=by
 have H0:=h
 unfold Zcx at H0
 clear h
 refine Zbu (N:=9) Tryz.func61 rfl rfl (Nat.le_of_ble_eq_true rfl) rfl rfl (fun a g0 hst hb=>?_)
 refine r_s (T:=[⟨[],_,[],[],[2]⟩]) (F:=[.old 0]) hst hb Zb
  (o_p rfl (Zc rfl rfl c_i)<|o_n) (by kernel_rfl) (fun a g hst hb=>?_)
 refine wp_seq ?_
 refine r_s (T:=[⟨[.old 0],_,[],[],[3]⟩,⟨[.op 0 0],_,[],[0],[4]⟩]) (F:=[.old 0,.op 1 0]) hst hb Zb
  (o_p rfl (Za rfl rfl u_0)<|o_p rfl (Zos Tryz.underlying28 rfl rfl u_0 (Zft _))<|o_n) (by kernel_rfl) (fun a g hst hb=>?_)
 refine wp_cond_split (hst.bool 1 rfl) (fun hc1=>?_) (fun hc1=>?_)
 ·replace H0:=Zv hc1 H0
  refine r_s (L:=[]) (T:=[⟨[],_,[],[],[2]⟩]) (F:=[.op 0 0]) (hst.pick [] rfl) hb Zb
   (o_p rfl (Zc rfl rfl c_i)<|o_n) (by kernel_rfl) (fun a g hst hb=>?_)
  refine wp_ret ?_
  refine Zr ?_
  obtain rfl:=Option.some.inj H0
  exact Z5 rfl hst hb (Zk (s:=2)) (hst.at 0 rfl)
 ·replace H0:=Zw hc1 H0
  refine wp_skip ?_
  refine Zs ?_
  obtain ⟨n2,h3,H0⟩:=Zh H0
  refine r_s (L:=[(0,_)]) (T:=[⟨[.old 0],_,[],[],[5]⟩,⟨[.op 0 0],_,[],[0],[6]⟩,⟨[.op 1 0],_,[],[0,1],[7]⟩,⟨[.op 2 0],_,[],[0,1,2],[8]⟩,⟨[.op 3 0],_,[],Lr 4,[2]⟩]) (F:=[.op 4 0]) (hst.pick [0] rfl) hb Zb
   (o_p rfl (Za rfl rfl u_0)<|o_p rfl (Zq rfl rfl (Opd.imp u_0 (fun _ _ h=>Zx h3 h)) (fun _ _ ⟨_,_,_,e,_⟩=>⟨_,e⟩))<|o_p rfl (Zd Z6b rfl rfl u_0)<|o_p rfl (Zf ty_3 rfl rfl u_0)<|o_p rfl (Zc rfl rfl u_0)<|o_n) (by kernel_rfl) (fun a g hst hb=>?_)
  refine wp_ret ?_
  obtain rfl:=Option.some.inj H0
  exact Z5 rfl hst hb (Zk (s:=2)) (hst.at 0 rfl)
theorem Zia (a0:Zn) {r:Int} (h:Zfb a0=some r):FnOk Tryz.prog 40 [(Zy.pd a0)] (pInt .i64 r):=by
 have H0:=h
 unfold Zfb at H0
 clear h
 refine Zbu (N:=6) Tryz.func40 rfl rfl (Nat.le_of_ble_eq_true rfl) rfl rfl (fun a g0 hst hb=>?_)
 refine r_s (T:=[⟨[.old 0],_,[],[],[1]⟩,⟨[],_,[],[],[2]⟩]) (F:=[.op 0 0]) hst hb Zb
  (o_p rfl (Zbq rfl rfl u_0)<|o_p rfl (Zc rfl rfl c_i)<|o_n) (by kernel_rfl) (fun a g hst hb=>?_)
 obtain ⟨r1,h2,H0⟩:=Zh H0
 refine r_s (T:=[⟨[.old 0],_,[],[],[3]⟩,⟨[.op 0 0],_,[],[0],[4]⟩,⟨[.op 1 0],_,[],[0,1],[5]⟩,⟨[.op 2 0],_,[],[0,1,2],[2]⟩]) (F:=[.op 3 0]) hst hb Zb
  (o_p rfl (Zd Zqw rfl rfl u_0)<|o_p rfl (Zf Zdc rfl rfl u_0)<|o_p rfl (Zo Zn9 (Zdu _ h2) rfl rfl (.cons u_0 .nil))<|o_p rfl (Zc rfl rfl u_0)<|o_n) (by kernel_rfl) (fun a g hst hb=>?_)
 refine wp_ret ?_
 obtain rfl:=Option.some.inj H0
 exact Z5 rfl hst hb (Zk (s:=2)) (hst.at 0 rfl)
theorem Zec (a0:ByteArray) (a1:Ze) (a2:shelf_nodeT) (a3:shelf_nodeT) {r:shelf_nodeT} (h:Zd6 a0 a1 a2 a3=some r):FnOk Tryz.prog 79 [(pStr a0),(Zi.pd a1),(Zba.pd a2),(Zba.pd a3)] (Zba.pd r):=by
 have H0:=h
 unfold Zd6 at H0
 clear h
 refine Zbu (N:=21) Tryz.func79 rfl rfl (Nat.le_of_ble_eq_true rfl) rfl rfl (fun a g0 hst hb=>?_)
 refine r_s (T:=[⟨[.old 1],_,[],[],[5]⟩,⟨[],[(8,(Zba.pd shelf_nodeT.nil))],[],[],[8]⟩]) (F:=[.old 0,.old 2,.old 3,.op 0 0]) hst hb Zb
  (o_p rfl (Zbq rfl rfl u_0)<|o_p rfl (Zc rfl rfl (Opd.c (fun g=>Zeu g)))<|o_n) (by kernel_rfl) (fun a g hst hb=>?_)
 obtain ⟨r1,h2,H0⟩:=Zh H0;obtain ⟨r3,h4,H0⟩:=Zh H0
 refine r_s (T:=⟨[.old 0],_,[],[],[9]⟩ :: ⟨[.old 3],_,[],[],[10]⟩ :: ⟨[.old 1],_,[],[],[11]⟩ :: ⟨[.old 2],_,[],[],[12]⟩ :: ⟨[.old 1],_,[],[],[13]⟩ :: ⟨[.op 4 0],_,[],[4],[14]⟩ :: ⟨[.old 2],_,[],[],[15]⟩ :: ⟨[.op 6 0],_,[],[4,5,6],[16]⟩ :: ⟨[.op 5 0,.op 7 0],_,[],List.range' 4 4,[17]⟩ :: ⟨[.op 8 0],_,[],List.range' 4 5,[18]⟩ :: ⟨[.op 0 0,.op 1 0,.op 2 0,.op 3 0,.op 9 0],_,[],Lr 10,[19]⟩ :: ⟨[.op 10 0],_,[],Lr 11,[20]⟩ :: ⟨[.op 11 0],_,[],Lr 12,[8]⟩ :: []) (F:=[.op 12 0]) hst hb Zb
  (o_p rfl (Za rfl rfl u_0)<|o_p rfl (Zf Zbc rfl rfl u_0)<|o_p rfl (Za rfl rfl u_0)<|o_p rfl (Za rfl rfl u_0)<|o_p rfl (Za rfl rfl u_0)<|o_p rfl (Zo Zn9 (Zdu _ h2) rfl rfl (.cons u_0 .nil))<|o_p rfl (Za rfl rfl u_0)<|o_p rfl (Zo Zn9 (Zdu _ h4) rfl rfl (.cons u_0 .nil))<|o_p rfl (Zb7 rfl rfl u_0 u_1 rfl)<|o_p rfl (Zb7 rfl rfl u_0 c_i rfl)<|o_p rfl (Zuh rfl rfl u_0 u_1 u_2 u_3 u_4)<|o_p rfl (Zbq rfl rfl u_0)<|o_p rfl (Zc rfl rfl (Opd.imp u_0 (fun _ _ h=>Zwq h)))<|o_n) (by kernel_rfl) (fun a g hst hb=>?_)
 refine wp_ret ?_
 obtain rfl:=Option.some.inj H0
 exact Z5 rfl hst hb (Zk (s:=8)) (hst.at 0 rfl)
theorem Zl6 (a0:shelf_nodeT) (a1:shelf_nodeT) {r:Bool} (h:Zi6 a0 a1=some r):FnOk Tryz.prog 102 [(Zba.pd a0),(Zba.pd a1)] (Zbg r):=by
 have H0:=h
 unfold Zi6 at H0
 clear h
 refine Zbu (N:=13) Tryz.func102 rfl rfl (Nat.le_of_ble_eq_true rfl) rfl rfl (fun a g0 hst hb=>?_)
 refine r_s (T:=[⟨[],_,[],[],[4]⟩]) (F:=[.old 0,.old 1]) hst hb Zb
  (o_p rfl (Zc rfl rfl c_b)<|o_n) (by kernel_rfl) (fun a g hst hb=>?_)
 obtain ⟨r1,h2,H0⟩:=Zh H0;obtain ⟨r3,h4,H0⟩:=Zh H0
 refine r_s (T:=[⟨[.old 0],_,[],[],[5]⟩,⟨[.op 0 0],_,[],[0],[6]⟩,⟨[.op 1 0],_,[],[0,1],[7]⟩,⟨[.old 1],_,[],[],[8]⟩,⟨[.op 3 0],_,[],[0,1,3],[9]⟩,⟨[.op 4 0],_,[],[0,1,3,4],[10]⟩,⟨[.op 5 0],_,[],[0,1,3,4,5],[11]⟩,⟨[.op 2 0,.op 6 0],_,[],Lr 7,[12]⟩,⟨[.op 7 0],_,[],Lr 8,[4]⟩]) (F:=[.op 8 0]) hst hb Zb
  (o_p rfl (Za rfl rfl u_0)<|o_p rfl (Zo Zn9 (Zdu _ h2) rfl rfl (.cons u_0 .nil))<|o_p rfl (Zb7 rfl rfl u_0 c_i rfl)<|o_p rfl (Za rfl rfl u_0)<|o_p rfl (Zo Zn9 (Zdu _ h4) rfl rfl (.cons u_0 .nil))<|o_p rfl (Zb7 rfl rfl u_0 c_i rfl)<|o_p rfl (Zz7 rfl rfl c_i u_0 rfl)<|o_p rfl (Zcu rfl rfl u_0 u_1)<|o_p rfl (Zc rfl rfl u_0)<|o_n) (by kernel_rfl) (fun a g hst hb=>?_)
 refine wp_ret ?_
 obtain rfl:=Option.some.inj H0
 exact Z5 rfl hst hb (Zk (s:=4)) (hst.at 0 rfl)
theorem Zk9 (a0:ByteArray) (a1:Ze) (a2:shelf_nodeT) (a3:shelf_nodeT) {r:shelf_nodeT} (h:Zi4 a0 a1 a2 a3=some r):FnOk Tryz.prog 80 [(pStr a0),(Zi.pd a1),(Zba.pd a2),(Zba.pd a3)] (Zba.pd r):=by
 have H0:=h
 unfold Zi4 at H0
 clear h
 refine Zbu (N:=182) Tryz.func80 rfl rfl (Nat.le_of_ble_eq_true rfl) rfl rfl (fun a g0 hst hb=>?_)
 refine r_s (T:=[⟨[.old 1],_,[],[],[5]⟩,⟨[],[(8,(Zba.pd shelf_nodeT.nil))],[],[],[8]⟩]) (F:=[.old 0,.old 2,.old 3,.op 0 0]) hst hb Zb
  (o_p rfl (Zbq rfl rfl u_0)<|o_p rfl (Zc rfl rfl (Opd.c (fun g=>Zeu g)))<|o_n) (by kernel_rfl) (fun a g hst hb=>?_)
 refine wp_seq ?_
 refine wp_block ?_
 obtain ⟨r1,h2,H0⟩:=Zh H0;obtain ⟨n3,h4,H0⟩:=Zh H0;obtain ⟨r5,h6,H0⟩:=Zh H0;obtain ⟨n7,h8,H0⟩:=Zh H0;obtain ⟨r9,h10,H0⟩:=Zh H0
 refine r_s (T:=⟨[.old 2],_,[],[],[12]⟩ :: ⟨[.old 1],_,[],[],[13]⟩ :: ⟨[.op 0 0,.op 1 0],_,[],[0,1],[14]⟩ :: ⟨[.op 2 0],_,[],[0,1,2],[15]⟩ :: ⟨[.op 3 0,.old 2],_,[],Lr 4,[16]⟩ :: ⟨[.op 3 0,.op 4 0],_,[],Lr 5,[17]⟩ :: ⟨[.op 3 0,.op 5 0],_,[],Lr 6,[18]⟩ :: ⟨[.op 3 0,.op 6 0],_,[],Lr 7,[19]⟩ :: ⟨[.op 3 0,.op 7 0],_,[],Lr 8,[20]⟩ :: ⟨[.op 3 0,.op 8 0],_,[],Lr 9,[21]⟩ :: ⟨[.op 3 0,.old 2],_,[],Lr 4,[22]⟩ :: ⟨[.op 3 0,.op 10 0],_,[],[0,1,2,3,10],[23]⟩ :: ⟨[.op 3 0,.op 11 0],_,[],[0,1,2,3,10,11],[24]⟩ :: ⟨[.op 3 0,.op 12 0],_,[],[0,1,2,3,10,11,12],[25]⟩ :: ⟨[.op 3 0,.op 13 0],_,[],0 :: 1 :: 2 :: 3 :: 4 :: 5 :: 6 :: 7 :: 8 :: 10 :: 11 :: 12 :: 13 :: [],[26]⟩ :: ⟨[.op 3 0,.op 14 0],_,[],0 :: 1 :: 2 :: 3 :: 4 :: 5 :: 6 :: 7 :: 8 :: 10 :: 11 :: 12 :: 13 :: 14 :: [],[27]⟩ :: ⟨[.op 3 0,.op 15 0],_,[],0 :: 1 :: 2 :: 3 :: 4 :: 5 :: 6 :: 7 :: 8 :: 10 :: 11 :: 12 :: 13 :: 14 :: 15 :: [],[28]⟩ :: ⟨[.op 3 0,.op 9 0,.op 16 0],_,[],Lr 17,[29]⟩ :: ⟨[.op 3 0,.op 17 0],_,[],Lr 18,[30]⟩ :: ⟨[.op 18 0],_,[],Lr 19,[11]⟩ :: []) (F:=[.old 0,.old 1,.old 2,.old 3,.op 19 0]) hst hb Zb
  (o_p rfl (Za rfl rfl u_0)<|o_p rfl (Za rfl rfl u_0)<|o_p rfl (Zo Zu3 (Zl6 _ _ h2) rfl rfl (.cons u_0 (.cons u_1 .nil)))<|o_p rfl (Za rfl rfl u_0)<|o_g (g_t rfl rfl rfl (fun hG=>Za rfl rfl u_0))<|o_g (g_t rfl rfl rfl (fun hG=>Zq rfl rfl (Opd.imp (Opd.gd hG u_0) (fun _ _ h=>Zx (Zbn h4 hG) h)) (fun _ _ ⟨_,_,_,e,_⟩=>⟨_,e⟩)))<|o_g (g_t rfl rfl rfl (fun hG=>Zd Zep rfl rfl (Opd.gd hG u_0)))<|o_g (g_t rfl rfl rfl (fun hG=>Zf Zdc rfl rfl (Opd.gd hG u_0)))<|o_g (g_t rfl rfl rfl (fun hG=>Zo Zn9 (Zdu _ (Zbn h6 hG)) rfl rfl (.cons (Opd.gd hG u_0) .nil)))<|o_g (g_t rfl rfl rfl (fun hG=>Zb7 rfl rfl (Opd.gd hG u_0) c_i rfl))<|o_g (g_t rfl rfl rfl (fun hG=>Za rfl rfl u_0))<|o_g (g_t rfl rfl rfl (fun hG=>Zq rfl rfl (Opd.imp (Opd.gd hG u_0) (fun _ _ h=>Zx (Zbn h8 hG) h)) (fun _ _ ⟨_,_,_,e,_⟩=>⟨_,e⟩)))<|o_g (g_t rfl rfl rfl (fun hG=>Zd Zfg rfl rfl (Opd.gd hG u_0)))<|o_g (g_t rfl rfl rfl (fun hG=>Zf Zdc rfl rfl (Opd.gd hG u_0)))<|o_g (g_t rfl rfl rfl (fun hG=>Zo Zn9 (Zdu _ (Zbn h10 hG)) rfl rfl (.cons (Opd.gd hG u_0) .nil)))<|o_g (g_t rfl rfl rfl (fun hG=>Zb7 rfl rfl (Opd.gd hG u_0) c_i rfl))<|o_g (g_t rfl rfl rfl (fun hG=>Zz7 rfl rfl c_i (Opd.gd hG u_0) rfl))<|o_g (g_t rfl rfl rfl (fun hG=>Zci rfl rfl (Opd.gd hG u_0) (Opd.gd hG u_1)))<|o_p rfl (Zbi rfl rfl u_0 (fun hz=>(Opd.gd hz u_1)))<|o_p rfl (Zc rfl rfl u_0)<|o_n) (by kernel_rfl) (fun a g hst hb=>?_)
 refine wp_cond_split (hst.bool 4 rfl) (fun hc11=>?_) (fun hc11=>?_)
 ·replace H0:=Zv hc11 H0
  obtain ⟨n12,h13,H0⟩:=Zh H0;obtain ⟨r14,h15,H0⟩:=Zh H0;obtain ⟨r16,h17,H0⟩:=Zh H0
  refine r_s (L:=[(0,_),(2,_),(3,_),(5,_)]) (T:=⟨[.old 2],_,[],[],[31]⟩ :: ⟨[.op 0 0],_,[],[0],[32]⟩ :: ⟨[.op 1 0],_,[],[0,1],[33]⟩ :: ⟨[.op 2 0],_,[],[0,1,2],[34]⟩ :: ⟨[.old 2],_,[],[],[35]⟩ :: ⟨[.op 4 0],_,[],[4],[36]⟩ :: ⟨[.op 5 0],_,[],[4,5],[37]⟩ :: ⟨[.op 6 0],_,[],[4,5,6],[38]⟩ :: ⟨[.old 0],_,[],[],[39]⟩ :: ⟨[.old 3],_,[],[],[40]⟩ :: ⟨[.old 1],_,[],[],[41]⟩ :: ⟨[.old 2],_,[],[],[42]⟩ :: ⟨[.op 11 0],_,[],[11],[43]⟩ :: ⟨[.op 12 0],_,[],[11,12],[44]⟩ :: ⟨[.op 13 0],_,[],[11,12,13],[45]⟩ :: ⟨[.op 8 0,.op 9 0,.op 10 0,.op 14 0],_,[],List.range' 8 7,[46]⟩ :: ⟨[.old 2],_,[],[],[47]⟩ :: ⟨[.op 16 0],_,[],[16],[48]⟩ :: ⟨[.op 17 0],_,[],[16,17],[49]⟩ :: ⟨[.op 18 0],_,[],[16,17,18],[50]⟩ :: ⟨[.op 3 0,.op 7 0,.op 15 0,.op 19 0],_,[],Lr 20,[51]⟩ :: ⟨[.op 20 0],_,[],Lr 21,[8]⟩ :: []) (F:=[.op 21 0]) (hst.pick [0,1,2,3] rfl) hb Zb
   (o_p rfl (Za rfl rfl u_0)<|o_p rfl (Zq rfl rfl (Opd.imp u_0 (fun _ _ h=>Zx h13 h)) (fun _ _ ⟨_,_,_,e,_⟩=>⟨_,e⟩))<|o_p rfl (Zd Zfh rfl rfl u_0)<|o_p rfl (Zf ty_9 rfl rfl u_0)<|o_p rfl (Za rfl rfl u_0)<|o_p rfl (Zq rfl rfl (Opd.imp u_0 (fun _ _ h=>Zx h13 h)) (fun _ _ ⟨_,_,_,e,_⟩=>⟨_,e⟩))<|o_p rfl (Zd Zht rfl rfl u_0)<|o_p rfl (Zf Zbc rfl rfl u_0)<|o_p rfl (Za rfl rfl u_0)<|o_p rfl (Zf Zbc rfl rfl u_0)<|o_p rfl (Za rfl rfl u_0)<|o_p rfl (Za rfl rfl u_0)<|o_p rfl (Zq rfl rfl (Opd.imp u_0 (fun _ _ h=>Zx h13 h)) (fun _ _ ⟨_,_,_,e,_⟩=>⟨_,e⟩))<|o_p rfl (Zd Zep rfl rfl u_0)<|o_p rfl (Zf Zdc rfl rfl u_0)<|o_p rfl (Zo Zl9 (Zec _ _ _ _ h15) rfl rfl (.cons u_0 (.cons u_1 (.cons u_2 (.cons u_3 .nil)))))<|o_p rfl (Za rfl rfl u_0)<|o_p rfl (Zq rfl rfl (Opd.imp u_0 (fun _ _ h=>Zx h13 h)) (fun _ _ ⟨_,_,_,e,_⟩=>⟨_,e⟩))<|o_p rfl (Zd Zfg rfl rfl u_0)<|o_p rfl (Zf Zdc rfl rfl u_0)<|o_p rfl (Zo Zl9 (Zec _ _ _ _ h17) rfl rfl (.cons u_0 (.cons u_1 (.cons u_2 (.cons u_3 .nil)))))<|o_p rfl (Zc rfl rfl u_0)<|o_n) (by kernel_rfl) (fun a g hst hb=>?_)
  refine wp_ret ?_
  refine Z6 ?_
  refine Zr ?_
  obtain rfl:=Option.some.inj H0
  exact Z5 rfl hst hb (Zk (s:=8)) (hst.at 0 rfl)
 ·replace H0:=Zw hc11 H0
  obtain ⟨r18,h19,H0⟩:=Zh H0
  refine r_s (L:=[(0,_),(2,_),(3,_),(5,_)]) (T:=[⟨[.old 2],_,[],[],[53]⟩,⟨[.old 1],_,[],[],[54]⟩,⟨[.op 0 0,.op 1 0],_,[],[0,1],[55]⟩,⟨[.op 2 0],_,[],[0,1,2],[52]⟩]) (F:=[.old 0,.old 1,.old 2,.old 3,.op 3 0]) (hst.pick [0,1,2,3] rfl) hb Zb
   (o_p rfl (Za rfl rfl u_0)<|o_p rfl (Za rfl rfl u_0)<|o_p rfl (Zo Zu3 (Zl6 _ _ h19) rfl rfl (.cons u_0 (.cons u_1 .nil)))<|o_p rfl (Zc rfl rfl u_0)<|o_n) (by kernel_rfl) (fun a g hst hb=>?_)
  refine wp_cond_split (hst.bool 4 rfl) (fun hc20=>?_) (fun hc20=>?_)
  ·replace H0:=Zv hc20 H0
   obtain ⟨n21,h22,H0⟩:=Zh H0
   refine r_s (L:=[(0,_),(2,_),(3,_),(5,_)]) (T:=[⟨[.old 2],_,[],[],[56]⟩,⟨[.op 0 0],_,[],[0],[57]⟩,⟨[.op 1 0],_,[],[0,1],[58]⟩,⟨[.op 2 0],_,[],[0,1,2],[59]⟩,⟨[.op 3 0],_,[],Lr 4,[9]⟩]) (F:=[.old 0,.old 1,.old 2,.old 3,.op 4 0]) (hst.pick [0,1,2,3] rfl) hb Zb
    (o_p rfl (Za rfl rfl u_0)<|o_p rfl (Zq rfl rfl (Opd.imp u_0 (fun _ _ h=>Zx h22 h)) (fun _ _ ⟨_,_,_,e,_⟩=>⟨_,e⟩))<|o_p rfl (Zd Zep rfl rfl u_0)<|o_p rfl (Zf Zdc rfl rfl u_0)<|o_p rfl (Zc rfl rfl u_0)<|o_n) (by kernel_rfl) (fun a g hst hb=>?_)
   obtain ⟨n23,h24,H0⟩:=Zh H0;obtain ⟨r25,h26,H0⟩:=Zh H0;obtain ⟨r27,h28,H0⟩:=Zh H0;obtain ⟨r29,h30,H0⟩:=Zh H0
   refine r_s (T:=⟨[.old 4],_,[],[],[60]⟩ :: ⟨[.op 0 0],_,[],[0],[61]⟩ :: ⟨[.op 1 0],_,[],[0,1],[62]⟩ :: ⟨[.op 2 0],_,[],[0,1,2],[63]⟩ :: ⟨[.old 4],_,[],[],[64]⟩ :: ⟨[.op 4 0],_,[],[4],[65]⟩ :: ⟨[.op 5 0],_,[],[4,5],[66]⟩ :: ⟨[.op 6 0],_,[],[4,5,6],[67]⟩ :: ⟨[.old 0],_,[],[],[68]⟩ :: ⟨[.old 3],_,[],[],[69]⟩ :: ⟨[.old 1],_,[],[],[70]⟩ :: ⟨[.old 4],_,[],[],[71]⟩ :: ⟨[.op 11 0],_,[],[11],[72]⟩ :: ⟨[.op 12 0],_,[],[11,12],[73]⟩ :: ⟨[.op 13 0],_,[],[11,12,13],[74]⟩ :: ⟨[.op 8 0,.op 9 0,.op 10 0,.op 14 0],_,[],List.range' 8 7,[75]⟩ :: ⟨[.old 2],_,[],[],[76]⟩ :: ⟨[.op 16 0],_,[],[16],[77]⟩ :: ⟨[.op 17 0],_,[],[16,17],[78]⟩ :: ⟨[.op 18 0],_,[],[16,17,18],[79]⟩ :: ⟨[.old 2],_,[],[],[80]⟩ :: ⟨[.op 20 0],_,[],[20],[81]⟩ :: ⟨[.op 21 0],_,[],[20,21],[82]⟩ :: ⟨[.op 22 0],_,[],[20,21,22],[83]⟩ :: ⟨[.old 4],_,[],[],[84]⟩ :: ⟨[.op 24 0],_,[],[24],[85]⟩ :: ⟨[.op 25 0],_,[],[24,25],[86]⟩ :: ⟨[.op 26 0],_,[],[24,25,26],[87]⟩ :: ⟨[.old 2],_,[],[],[88]⟩ :: ⟨[.op 28 0],_,[],[28],[89]⟩ :: ⟨[.op 29 0],_,[],[28,29],[90]⟩ :: ⟨[.op 30 0],_,[],[28,29,30],[91]⟩ :: ⟨[.op 19 0,.op 23 0,.op 27 0,.op 31 0],_,[],List.range' 8 24,[92]⟩ :: ⟨[.op 3 0,.op 7 0,.op 15 0,.op 32 0],_,[],Lr 33,[93]⟩ :: ⟨[.op 33 0],_,[],Lr 34,[8]⟩ :: []) (F:=[.op 34 0]) hst hb Zb
    (o_p rfl (Za rfl rfl u_0)<|o_p rfl (Zq rfl rfl (Opd.imp u_0 (fun _ _ h=>Zx h24 h)) (fun _ _ ⟨_,_,_,e,_⟩=>⟨_,e⟩))<|o_p rfl (Zd Zfh rfl rfl u_0)<|o_p rfl (Zf ty_9 rfl rfl u_0)<|o_p rfl (Za rfl rfl u_0)<|o_p rfl (Zq rfl rfl (Opd.imp u_0 (fun _ _ h=>Zx h24 h)) (fun _ _ ⟨_,_,_,e,_⟩=>⟨_,e⟩))<|o_p rfl (Zd Zht rfl rfl u_0)<|o_p rfl (Zf Zbc rfl rfl u_0)<|o_p rfl (Za rfl rfl u_0)<|o_p rfl (Zf Zbc rfl rfl u_0)<|o_p rfl (Za rfl rfl u_0)<|o_p rfl (Za rfl rfl u_0)<|o_p rfl (Zq rfl rfl (Opd.imp u_0 (fun _ _ h=>Zx h24 h)) (fun _ _ ⟨_,_,_,e,_⟩=>⟨_,e⟩))<|o_p rfl (Zd Zep rfl rfl u_0)<|o_p rfl (Zf Zdc rfl rfl u_0)<|o_p rfl (Zo Zl9 (Zec _ _ _ _ h26) rfl rfl (.cons u_0 (.cons u_1 (.cons u_2 (.cons u_3 .nil)))))<|o_p rfl (Za rfl rfl u_0)<|o_p rfl (Zq rfl rfl (Opd.imp u_0 (fun _ _ h=>Zx h22 h)) (fun _ _ ⟨_,_,_,e,_⟩=>⟨_,e⟩))<|o_p rfl (Zd Zfh rfl rfl u_0)<|o_p rfl (Zf ty_9 rfl rfl u_0)<|o_p rfl (Za rfl rfl u_0)<|o_p rfl (Zq rfl rfl (Opd.imp u_0 (fun _ _ h=>Zx h22 h)) (fun _ _ ⟨_,_,_,e,_⟩=>⟨_,e⟩))<|o_p rfl (Zd Zht rfl rfl u_0)<|o_p rfl (Zf Zbc rfl rfl u_0)<|o_p rfl (Za rfl rfl u_0)<|o_p rfl (Zq rfl rfl (Opd.imp u_0 (fun _ _ h=>Zx h24 h)) (fun _ _ ⟨_,_,_,e,_⟩=>⟨_,e⟩))<|o_p rfl (Zd Zfg rfl rfl u_0)<|o_p rfl (Zf Zdc rfl rfl u_0)<|o_p rfl (Za rfl rfl u_0)<|o_p rfl (Zq rfl rfl (Opd.imp u_0 (fun _ _ h=>Zx h22 h)) (fun _ _ ⟨_,_,_,e,_⟩=>⟨_,e⟩))<|o_p rfl (Zd Zfg rfl rfl u_0)<|o_p rfl (Zf Zdc rfl rfl u_0)<|o_p rfl (Zo Zl9 (Zec _ _ _ _ h28) rfl rfl (.cons u_0 (.cons u_1 (.cons u_2 (.cons u_3 .nil)))))<|o_p rfl (Zo Zl9 (Zec _ _ _ _ h30) rfl rfl (.cons u_0 (.cons u_1 (.cons u_2 (.cons u_3 .nil)))))<|o_p rfl (Zc rfl rfl u_0)<|o_n) (by kernel_rfl) (fun a g hst hb=>?_)
   refine wp_ret ?_
   refine Z6 ?_
   refine Zr ?_
   obtain rfl:=Option.some.inj H0
   exact Z5 rfl hst hb (Zk (s:=8)) (hst.at 0 rfl)
  ·replace H0:=Zw hc20 H0
   obtain ⟨r31,h32,H0⟩:=Zh H0;obtain ⟨n33,h34,H0⟩:=Zh H0;obtain ⟨r35,h36,H0⟩:=Zh H0;obtain ⟨n37,h38,H0⟩:=Zh H0;obtain ⟨r39,h40,H0⟩:=Zh H0
   refine r_s (L:=[(0,_),(2,_),(3,_),(5,_)]) (T:=⟨[.old 1],_,[],[],[95]⟩ :: ⟨[.old 2],_,[],[],[96]⟩ :: ⟨[.op 0 0,.op 1 0],_,[],[0,1],[97]⟩ :: ⟨[.op 2 0],_,[],[0,1,2],[98]⟩ :: ⟨[.op 3 0,.old 1],_,[],Lr 4,[99]⟩ :: ⟨[.op 3 0,.op 4 0],_,[],Lr 5,[100]⟩ :: ⟨[.op 3 0,.op 5 0],_,[],Lr 6,[101]⟩ :: ⟨[.op 3 0,.op 6 0],_,[],Lr 7,[102]⟩ :: ⟨[.op 3 0,.op 7 0],_,[],Lr 8,[103]⟩ :: ⟨[.op 3 0,.op 8 0],_,[],Lr 9,[104]⟩ :: ⟨[.op 3 0,.old 1],_,[],Lr 4,[105]⟩ :: ⟨[.op 3 0,.op 10 0],_,[],[0,1,2,3,10],[106]⟩ :: ⟨[.op 3 0,.op 11 0],_,[],[0,1,2,3,10,11],[107]⟩ :: ⟨[.op 3 0,.op 12 0],_,[],[0,1,2,3,10,11,12],[108]⟩ :: ⟨[.op 3 0,.op 13 0],_,[],0 :: 1 :: 2 :: 3 :: 4 :: 5 :: 6 :: 7 :: 8 :: 10 :: 11 :: 12 :: 13 :: [],[109]⟩ :: ⟨[.op 3 0,.op 14 0],_,[],0 :: 1 :: 2 :: 3 :: 4 :: 5 :: 6 :: 7 :: 8 :: 10 :: 11 :: 12 :: 13 :: 14 :: [],[110]⟩ :: ⟨[.op 3 0,.op 15 0],_,[],0 :: 1 :: 2 :: 3 :: 4 :: 5 :: 6 :: 7 :: 8 :: 10 :: 11 :: 12 :: 13 :: 14 :: 15 :: [],[111]⟩ :: ⟨[.op 3 0,.op 9 0,.op 16 0],_,[],Lr 17,[112]⟩ :: ⟨[.op 3 0,.op 17 0],_,[],Lr 18,[113]⟩ :: ⟨[.op 18 0],_,[],Lr 19,[94]⟩ :: []) (F:=[.old 0,.old 1,.old 2,.old 3,.op 19 0]) (hst.pick [0,1,2,3] rfl) hb Zb
    (o_p rfl (Za rfl rfl u_0)<|o_p rfl (Za rfl rfl u_0)<|o_p rfl (Zo Zu3 (Zl6 _ _ h32) rfl rfl (.cons u_0 (.cons u_1 .nil)))<|o_p rfl (Za rfl rfl u_0)<|o_g (g_t rfl rfl rfl (fun hG=>Za rfl rfl u_0))<|o_g (g_t rfl rfl rfl (fun hG=>Zq rfl rfl (Opd.imp (Opd.gd hG u_0) (fun _ _ h=>Zx (Zbn h34 hG) h)) (fun _ _ ⟨_,_,_,e,_⟩=>⟨_,e⟩)))<|o_g (g_t rfl rfl rfl (fun hG=>Zd Zfg rfl rfl (Opd.gd hG u_0)))<|o_g (g_t rfl rfl rfl (fun hG=>Zf Zdc rfl rfl (Opd.gd hG u_0)))<|o_g (g_t rfl rfl rfl (fun hG=>Zo Zn9 (Zdu _ (Zbn h36 hG)) rfl rfl (.cons (Opd.gd hG u_0) .nil)))<|o_g (g_t rfl rfl rfl (fun hG=>Zb7 rfl rfl (Opd.gd hG u_0) c_i rfl))<|o_g (g_t rfl rfl rfl (fun hG=>Za rfl rfl u_0))<|o_g (g_t rfl rfl rfl (fun hG=>Zq rfl rfl (Opd.imp (Opd.gd hG u_0) (fun _ _ h=>Zx (Zbn h38 hG) h)) (fun _ _ ⟨_,_,_,e,_⟩=>⟨_,e⟩)))<|o_g (g_t rfl rfl rfl (fun hG=>Zd Zep rfl rfl (Opd.gd hG u_0)))<|o_g (g_t rfl rfl rfl (fun hG=>Zf Zdc rfl rfl (Opd.gd hG u_0)))<|o_g (g_t rfl rfl rfl (fun hG=>Zo Zn9 (Zdu _ (Zbn h40 hG)) rfl rfl (.cons (Opd.gd hG u_0) .nil)))<|o_g (g_t rfl rfl rfl (fun hG=>Zb7 rfl rfl (Opd.gd hG u_0) c_i rfl))<|o_g (g_t rfl rfl rfl (fun hG=>Zz7 rfl rfl c_i (Opd.gd hG u_0) rfl))<|o_g (g_t rfl rfl rfl (fun hG=>Zci rfl rfl (Opd.gd hG u_0) (Opd.gd hG u_1)))<|o_p rfl (Zbi rfl rfl u_0 (fun hz=>(Opd.gd hz u_1)))<|o_p rfl (Zc rfl rfl u_0)<|o_n) (by kernel_rfl) (fun a g hst hb=>?_)
   refine wp_cond_split (hst.bool 4 rfl) (fun hc41=>?_) (fun hc41=>?_)
   ·replace H0:=Zv hc41 H0
    obtain ⟨n42,h43,H0⟩:=Zh H0;obtain ⟨r44,h45,H0⟩:=Zh H0;obtain ⟨r46,h47,H0⟩:=Zh H0
    refine r_s (L:=[(0,_),(2,_),(3,_),(5,_)]) (T:=⟨[.old 1],_,[],[],[114]⟩ :: ⟨[.op 0 0],_,[],[0],[115]⟩ :: ⟨[.op 1 0],_,[],[0,1],[116]⟩ :: ⟨[.op 2 0],_,[],[0,1,2],[117]⟩ :: ⟨[.old 1],_,[],[],[118]⟩ :: ⟨[.op 4 0],_,[],[4],[119]⟩ :: ⟨[.op 5 0],_,[],[4,5],[120]⟩ :: ⟨[.op 6 0],_,[],[4,5,6],[121]⟩ :: ⟨[.old 1],_,[],[],[122]⟩ :: ⟨[.op 8 0],_,[],[8],[123]⟩ :: ⟨[.op 9 0],_,[],[8,9],[124]⟩ :: ⟨[.op 10 0],_,[],[8,9,10],[125]⟩ :: ⟨[.old 0],_,[],[],[126]⟩ :: ⟨[.old 3],_,[],[],[127]⟩ :: ⟨[.old 1],_,[],[],[128]⟩ :: ⟨[.op 14 0],_,[],[14],[129]⟩ :: ⟨[.op 15 0],_,[],[14,15],[130]⟩ :: ⟨[.op 16 0],_,[],[14,15,16],[131]⟩ :: ⟨[.old 2],_,[],[],[132]⟩ :: ⟨[.op 12 0,.op 13 0,.op 17 0,.op 18 0],_,[],List.range' 12 7,[133]⟩ :: ⟨[.op 3 0,.op 7 0,.op 11 0,.op 19 0],_,[],Lr 20,[134]⟩ :: ⟨[.op 20 0],_,[],Lr 21,[8]⟩ :: []) (F:=[.op 21 0]) (hst.pick [0,1,2,3] rfl) hb Zb
     (o_p rfl (Za rfl rfl u_0)<|o_p rfl (Zq rfl rfl (Opd.imp u_0 (fun _ _ h=>Zx h43 h)) (fun _ _ ⟨_,_,_,e,_⟩=>⟨_,e⟩))<|o_p rfl (Zd Zfh rfl rfl u_0)<|o_p rfl (Zf ty_9 rfl rfl u_0)<|o_p rfl (Za rfl rfl u_0)<|o_p rfl (Zq rfl rfl (Opd.imp u_0 (fun _ _ h=>Zx h43 h)) (fun _ _ ⟨_,_,_,e,_⟩=>⟨_,e⟩))<|o_p rfl (Zd Zht rfl rfl u_0)<|o_p rfl (Zf Zbc rfl rfl u_0)<|o_p rfl (Za rfl rfl u_0)<|o_p rfl (Zq rfl rfl (Opd.imp u_0 (fun _ _ h=>Zx h43 h)) (fun _ _ ⟨_,_,_,e,_⟩=>⟨_,e⟩))<|o_p rfl (Zd Zep rfl rfl u_0)<|o_p rfl (Zf Zdc rfl rfl u_0)<|o_p rfl (Za rfl rfl u_0)<|o_p rfl (Zf Zbc rfl rfl u_0)<|o_p rfl (Za rfl rfl u_0)<|o_p rfl (Zq rfl rfl (Opd.imp u_0 (fun _ _ h=>Zx h43 h)) (fun _ _ ⟨_,_,_,e,_⟩=>⟨_,e⟩))<|o_p rfl (Zd Zfg rfl rfl u_0)<|o_p rfl (Zf Zdc rfl rfl u_0)<|o_p rfl (Za rfl rfl u_0)<|o_p rfl (Zo Zl9 (Zec _ _ _ _ h45) rfl rfl (.cons u_0 (.cons u_1 (.cons u_2 (.cons u_3 .nil)))))<|o_p rfl (Zo Zl9 (Zec _ _ _ _ h47) rfl rfl (.cons u_0 (.cons u_1 (.cons u_2 (.cons u_3 .nil)))))<|o_p rfl (Zc rfl rfl u_0)<|o_n) (by kernel_rfl) (fun a g hst hb=>?_)
    refine wp_ret ?_
    refine Z6 ?_
    refine Zr ?_
    obtain rfl:=Option.some.inj H0
    exact Z5 rfl hst hb (Zk (s:=8)) (hst.at 0 rfl)
   ·replace H0:=Zw hc41 H0
    obtain ⟨r48,h49,H0⟩:=Zh H0
    refine r_s (L:=[(0,_),(2,_),(3,_),(5,_)]) (T:=[⟨[.old 1],_,[],[],[136]⟩,⟨[.old 2],_,[],[],[137]⟩,⟨[.op 0 0,.op 1 0],_,[],[0,1],[138]⟩,⟨[.op 2 0],_,[],[0,1,2],[135]⟩]) (F:=[.old 0,.old 1,.old 2,.old 3,.op 3 0]) (hst.pick [0,1,2,3] rfl) hb Zb
     (o_p rfl (Za rfl rfl u_0)<|o_p rfl (Za rfl rfl u_0)<|o_p rfl (Zo Zu3 (Zl6 _ _ h49) rfl rfl (.cons u_0 (.cons u_1 .nil)))<|o_p rfl (Zc rfl rfl u_0)<|o_n) (by kernel_rfl) (fun a g hst hb=>?_)
    refine wp_cond_split (hst.bool 4 rfl) (fun hc50=>?_) (fun hc50=>?_)
    ·replace H0:=Zv hc50 H0
     obtain ⟨n51,h52,H0⟩:=Zh H0
     refine r_s (L:=[(0,_),(2,_),(3,_),(5,_)]) (T:=[⟨[.old 1],_,[],[],[139]⟩,⟨[.op 0 0],_,[],[0],[140]⟩,⟨[.op 1 0],_,[],[0,1],[141]⟩,⟨[.op 2 0],_,[],[0,1,2],[142]⟩,⟨[.op 3 0],_,[],Lr 4,[10]⟩]) (F:=[.old 0,.old 1,.old 2,.old 3,.op 4 0]) (hst.pick [0,1,2,3] rfl) hb Zb
      (o_p rfl (Za rfl rfl u_0)<|o_p rfl (Zq rfl rfl (Opd.imp u_0 (fun _ _ h=>Zx h52 h)) (fun _ _ ⟨_,_,_,e,_⟩=>⟨_,e⟩))<|o_p rfl (Zd Zfg rfl rfl u_0)<|o_p rfl (Zf Zdc rfl rfl u_0)<|o_p rfl (Zc rfl rfl u_0)<|o_n) (by kernel_rfl) (fun a g hst hb=>?_)
     obtain ⟨n53,h54,H0⟩:=Zh H0;obtain ⟨r55,h56,H0⟩:=Zh H0;obtain ⟨r57,h58,H0⟩:=Zh H0;obtain ⟨r59,h60,H0⟩:=Zh H0
     refine r_s (T:=⟨[.old 4],_,[],[],[143]⟩ :: ⟨[.op 0 0],_,[],[0],[144]⟩ :: ⟨[.op 1 0],_,[],[0,1],[145]⟩ :: ⟨[.op 2 0],_,[],[0,1,2],[146]⟩ :: ⟨[.old 4],_,[],[],[147]⟩ :: ⟨[.op 4 0],_,[],[4],[148]⟩ :: ⟨[.op 5 0],_,[],[4,5],[149]⟩ :: ⟨[.op 6 0],_,[],[4,5,6],[150]⟩ :: ⟨[.old 1],_,[],[],[151]⟩ :: ⟨[.op 8 0],_,[],[8],[152]⟩ :: ⟨[.op 9 0],_,[],[8,9],[153]⟩ :: ⟨[.op 10 0],_,[],[8,9,10],[154]⟩ :: ⟨[.old 1],_,[],[],[155]⟩ :: ⟨[.op 12 0],_,[],[12],[156]⟩ :: ⟨[.op 13 0],_,[],[12,13],[157]⟩ :: ⟨[.op 14 0],_,[],[12,13,14],[158]⟩ :: ⟨[.old 1],_,[],[],[159]⟩ :: ⟨[.op 16 0],_,[],[16],[160]⟩ :: ⟨[.op 17 0],_,[],[16,17],[161]⟩ :: ⟨[.op 18 0],_,[],[16,17,18],[162]⟩ :: ⟨[.old 4],_,[],[],[163]⟩ :: ⟨[.op 20 0],_,[],[20],[164]⟩ :: ⟨[.op 21 0],_,[],[20,21],[165]⟩ :: ⟨[.op 22 0],_,[],[20,21,22],[166]⟩ :: ⟨[.op 11 0,.op 15 0,.op 19 0,.op 23 0],_,[],List.range' 8 16,[167]⟩ :: ⟨[.old 0],_,[],[],[168]⟩ :: ⟨[.old 3],_,[],[],[169]⟩ :: ⟨[.old 4],_,[],[],[170]⟩ :: ⟨[.op 27 0],_,[],[27],[171]⟩ :: ⟨[.op 28 0],_,[],[27,28],[172]⟩ :: ⟨[.op 29 0],_,[],[27,28,29],[173]⟩ :: ⟨[.old 2],_,[],[],[174]⟩ :: ⟨[.op 25 0,.op 26 0,.op 30 0,.op 31 0],_,[],List.range' 8 24,[175]⟩ :: ⟨[.op 3 0,.op 7 0,.op 24 0,.op 32 0],_,[],Lr 33,[176]⟩ :: ⟨[.op 33 0],_,[],Lr 34,[8]⟩ :: []) (F:=[.op 34 0]) hst hb Zb
      (o_p rfl (Za rfl rfl u_0)<|o_p rfl (Zq rfl rfl (Opd.imp u_0 (fun _ _ h=>Zx h54 h)) (fun _ _ ⟨_,_,_,e,_⟩=>⟨_,e⟩))<|o_p rfl (Zd Zfh rfl rfl u_0)<|o_p rfl (Zf ty_9 rfl rfl u_0)<|o_p rfl (Za rfl rfl u_0)<|o_p rfl (Zq rfl rfl (Opd.imp u_0 (fun _ _ h=>Zx h54 h)) (fun _ _ ⟨_,_,_,e,_⟩=>⟨_,e⟩))<|o_p rfl (Zd Zht rfl rfl u_0)<|o_p rfl (Zf Zbc rfl rfl u_0)<|o_p rfl (Za rfl rfl u_0)<|o_p rfl (Zq rfl rfl (Opd.imp u_0 (fun _ _ h=>Zx h52 h)) (fun _ _ ⟨_,_,_,e,_⟩=>⟨_,e⟩))<|o_p rfl (Zd Zfh rfl rfl u_0)<|o_p rfl (Zf ty_9 rfl rfl u_0)<|o_p rfl (Za rfl rfl u_0)<|o_p rfl (Zq rfl rfl (Opd.imp u_0 (fun _ _ h=>Zx h52 h)) (fun _ _ ⟨_,_,_,e,_⟩=>⟨_,e⟩))<|o_p rfl (Zd Zht rfl rfl u_0)<|o_p rfl (Zf Zbc rfl rfl u_0)<|o_p rfl (Za rfl rfl u_0)<|o_p rfl (Zq rfl rfl (Opd.imp u_0 (fun _ _ h=>Zx h52 h)) (fun _ _ ⟨_,_,_,e,_⟩=>⟨_,e⟩))<|o_p rfl (Zd Zep rfl rfl u_0)<|o_p rfl (Zf Zdc rfl rfl u_0)<|o_p rfl (Za rfl rfl u_0)<|o_p rfl (Zq rfl rfl (Opd.imp u_0 (fun _ _ h=>Zx h54 h)) (fun _ _ ⟨_,_,_,e,_⟩=>⟨_,e⟩))<|o_p rfl (Zd Zep rfl rfl u_0)<|o_p rfl (Zf Zdc rfl rfl u_0)<|o_p rfl (Zo Zl9 (Zec _ _ _ _ h56) rfl rfl (.cons u_0 (.cons u_1 (.cons u_2 (.cons u_3 .nil)))))<|o_p rfl (Za rfl rfl u_0)<|o_p rfl (Zf Zbc rfl rfl u_0)<|o_p rfl (Za rfl rfl u_0)<|o_p rfl (Zq rfl rfl (Opd.imp u_0 (fun _ _ h=>Zx h54 h)) (fun _ _ ⟨_,_,_,e,_⟩=>⟨_,e⟩))<|o_p rfl (Zd Zfg rfl rfl u_0)<|o_p rfl (Zf Zdc rfl rfl u_0)<|o_p rfl (Za rfl rfl u_0)<|o_p rfl (Zo Zl9 (Zec _ _ _ _ h58) rfl rfl (.cons u_0 (.cons u_1 (.cons u_2 (.cons u_3 .nil)))))<|o_p rfl (Zo Zl9 (Zec _ _ _ _ h60) rfl rfl (.cons u_0 (.cons u_1 (.cons u_2 (.cons u_3 .nil)))))<|o_p rfl (Zc rfl rfl u_0)<|o_n) (by kernel_rfl) (fun a g hst hb=>?_)
     refine wp_ret ?_
     refine Z6 ?_
     refine Zr ?_
     obtain rfl:=Option.some.inj H0
     exact Z5 rfl hst hb (Zk (s:=8)) (hst.at 0 rfl)
    ·replace H0:=Zw hc50 H0
     refine wp_skip ?_
     refine Zbe ?_
     refine Zs ?_
     obtain ⟨r61,h62,H0⟩:=Zh H0
     refine r_s (L:=[(0,_),(2,_),(3,_),(5,_)]) (T:=[⟨[.old 0],_,[],[],[177]⟩,⟨[.old 3],_,[],[],[178]⟩,⟨[.old 1],_,[],[],[179]⟩,⟨[.old 2],_,[],[],[180]⟩,⟨[.op 0 0,.op 1 0,.op 2 0,.op 3 0],_,[],Lr 4,[181]⟩,⟨[.op 4 0],_,[],Lr 5,[8]⟩]) (F:=[.op 5 0]) (hst.pick [0,1,2,3] rfl) hb Zb
      (o_p rfl (Za rfl rfl u_0)<|o_p rfl (Zf Zbc rfl rfl u_0)<|o_p rfl (Za rfl rfl u_0)<|o_p rfl (Za rfl rfl u_0)<|o_p rfl (Zo Zl9 (Zec _ _ _ _ h62) rfl rfl (.cons u_0 (.cons u_1 (.cons u_2 (.cons u_3 .nil)))))<|o_p rfl (Zc rfl rfl u_0)<|o_n) (by kernel_rfl) (fun a g hst hb=>?_)
     refine wp_ret ?_
     obtain rfl:=Option.some.inj H0
     exact Z5 rfl hst hb (Zk (s:=8)) (hst.at 0 rfl)
theorem Zr7 (self:shelf_nodeT → ByteArray → Ze → Option (shelf_nodeT)) (hself:∀ (a0:shelf_nodeT) (a1:ByteArray) (a2:Ze) {r:shelf_nodeT},self a0 a1 a2=some r → FnOk Tryz.prog 52 [(Zba.pd a0),(pStr a1),(Zi.pd a2)] (Zba.pd r)) (a0:shelf_nodeT) (a1:ByteArray) (a2:Ze) {r:shelf_nodeT} (h:Zjg self a0 a1 a2=some r):FnOk Tryz.prog 52 [(Zba.pd a0),(pStr a1),(Zi.pd a2)] (Zba.pd r):=by
 have H0:=h
 unfold Zjg at H0
 clear h
 refine Zbu (N:=78) Tryz.func52 rfl rfl (Nat.le_of_ble_eq_true rfl) rfl rfl (fun a g0 hst hb=>?_)
 refine r_s (T:=[⟨[.old 2],_,[],[],[5]⟩,⟨[],[(6,(Zba.pd shelf_nodeT.nil))],[],[],[6]⟩]) (F:=[.old 0,.old 1,.op 0 0]) hst hb Zb
  (o_p rfl (Zbq rfl rfl u_0)<|o_p rfl (Zc rfl rfl (Opd.c (fun g=>Zeu g)))<|o_n) (by kernel_rfl) (fun a g hst hb=>?_)
 refine wp_seq ?_
 refine wp_block ?_
 refine r_s (T:=[⟨[.old 0],_,[],[],[8]⟩,⟨[.op 0 0],_,[],[0],[9]⟩,⟨[.op 1 0],_,[],[0,1],[7]⟩]) (F:=[.old 0,.old 1,.old 2,.op 2 0]) hst hb Zb
  (o_p rfl (Za rfl rfl u_0)<|o_p rfl (Zos Tryz.underlying28 rfl rfl u_0 (Zft _))<|o_p rfl (Zc rfl rfl u_0)<|o_n) (by kernel_rfl) (fun a g hst hb=>?_)
 refine wp_cond_split (hst.bool 3 rfl) (fun hc1=>?_) (fun hc1=>?_)
 ·replace H0:=Zv hc1 H0
  obtain ⟨r2,h3,H0⟩:=Zh H0
  refine r_s (L:=[(1,_),(5,_)]) (T:=[⟨[.old 0],_,[],[],[10]⟩,⟨[.old 1],_,[],[],[11]⟩,⟨[.op 0 0,.op 1 0],[(12,(Zba.pd r2))],[],[0,1],[12]⟩,⟨[.op 2 0],_,[],[0,1,2],[6]⟩]) (F:=[.op 3 0]) (hst.pick [1,2] rfl) hb Zb
   (o_p rfl (Za rfl rfl u_0)<|o_p rfl (Zf Zbc rfl rfl u_0)<|o_p rfl (Zo Zl9 (Zec _ _ _ _ h3) rfl rfl (.cons u_0 (.cons u_1 (.cons (Opd.c (fun g=>Zeu g)) (.cons (Opd.c (fun g=>Zeu g)) .nil)))))<|o_p rfl (Zc rfl rfl u_0)<|o_n) (by kernel_rfl) (fun a g hst hb=>?_)
  refine wp_ret ?_
  refine Z6 ?_
  refine Zr ?_
  obtain rfl:=Option.some.inj H0
  exact Z5 rfl hst hb (Zk (s:=6)) (hst.at 0 rfl)
 ·replace H0:=Zw hc1 H0
  obtain ⟨n4,h5,H0⟩:=Zh H0
  refine r_s (L:=[(0,_),(1,_),(5,_)]) (T:=[⟨[.old 1],_,[],[],[14]⟩,⟨[.old 0],_,[],[],[15]⟩,⟨[.op 1 0],_,[],[1],[16]⟩,⟨[.op 2 0],_,[],[1,2],[17]⟩,⟨[.op 3 0],_,[],[1,2,3],[18]⟩,⟨[.op 0 0,.op 4 0],_,[],Lr 5,[19]⟩,⟨[.op 5 0],_,[],Lr 6,[13]⟩]) (F:=[.old 0,.old 1,.old 2,.op 6 0]) (hst.pick [0,1,2] rfl) hb Zb
   (o_p rfl (Za rfl rfl u_0)<|o_p rfl (Za rfl rfl u_0)<|o_p rfl (Zq rfl rfl (Opd.imp u_0 (fun _ _ h=>Zx h5 h)) (fun _ _ ⟨_,_,_,e,_⟩=>⟨_,e⟩))<|o_p rfl (Zd Zfh rfl rfl u_0)<|o_p rfl (Zf ty_9 rfl rfl u_0)<|o_p rfl (Zm9 rfl rfl u_0 u_1)<|o_p rfl (Zc rfl rfl u_0)<|o_n) (by kernel_rfl) (fun a g hst hb=>?_)
  refine wp_cond_split (hst.bool 3 rfl) (fun hc6=>?_) (fun hc6=>?_)
  ·replace H0:=Zv hc6 H0
   obtain ⟨r7,h8,H0⟩:=Zh H0;obtain ⟨r9,h10,H0⟩:=Zh H0
   refine r_s (L:=[(0,_),(1,_),(5,_)]) (T:=⟨[.old 0],_,[],[],[20]⟩ :: ⟨[.op 0 0],_,[],[0],[21]⟩ :: ⟨[.op 1 0],_,[],[0,1],[22]⟩ :: ⟨[.op 2 0],_,[],[0,1,2],[23]⟩ :: ⟨[.old 0],_,[],[],[24]⟩ :: ⟨[.op 4 0],_,[],[4],[25]⟩ :: ⟨[.op 5 0],_,[],[4,5],[26]⟩ :: ⟨[.op 6 0],_,[],[4,5,6],[27]⟩ :: ⟨[.old 0],_,[],[],[28]⟩ :: ⟨[.op 8 0],_,[],[8],[29]⟩ :: ⟨[.op 9 0],_,[],[8,9],[30]⟩ :: ⟨[.op 10 0],_,[],[8,9,10],[31]⟩ :: ⟨[.old 1],_,[],[],[32]⟩ :: ⟨[.old 2],_,[],[],[33]⟩ :: ⟨[.op 11 0,.op 12 0,.op 13 0],_,[],List.range' 8 6,[34]⟩ :: ⟨[.old 0],_,[],[],[35]⟩ :: ⟨[.op 15 0],_,[],[15],[36]⟩ :: ⟨[.op 16 0],_,[],[15,16],[37]⟩ :: ⟨[.op 17 0],_,[],[15,16,17],[38]⟩ :: ⟨[.op 3 0,.op 7 0,.op 14 0,.op 18 0],_,[],Lr 19,[39]⟩ :: ⟨[.op 19 0],_,[],Lr 20,[6]⟩ :: []) (F:=[.op 20 0]) (hst.pick [0,1,2] rfl) hb Zb
    (o_p rfl (Za rfl rfl u_0)<|o_p rfl (Zq rfl rfl (Opd.imp u_0 (fun _ _ h=>Zx h5 h)) (fun _ _ ⟨_,_,_,e,_⟩=>⟨_,e⟩))<|o_p rfl (Zd Zfh rfl rfl u_0)<|o_p rfl (Zf ty_9 rfl rfl u_0)<|o_p rfl (Za rfl rfl u_0)<|o_p rfl (Zq rfl rfl (Opd.imp u_0 (fun _ _ h=>Zx h5 h)) (fun _ _ ⟨_,_,_,e,_⟩=>⟨_,e⟩))<|o_p rfl (Zd Zht rfl rfl u_0)<|o_p rfl (Zf Zbc rfl rfl u_0)<|o_p rfl (Za rfl rfl u_0)<|o_p rfl (Zq rfl rfl (Opd.imp u_0 (fun _ _ h=>Zx h5 h)) (fun _ _ ⟨_,_,_,e,_⟩=>⟨_,e⟩))<|o_p rfl (Zd Zep rfl rfl u_0)<|o_p rfl (Zf Zdc rfl rfl u_0)<|o_p rfl (Za rfl rfl u_0)<|o_p rfl (Zf Zbc rfl rfl u_0)<|o_p rfl (Zo Z3c (hself _ _ _ h8) rfl rfl (.cons u_0 (.cons u_1 (.cons u_2 .nil))))<|o_p rfl (Za rfl rfl u_0)<|o_p rfl (Zq rfl rfl (Opd.imp u_0 (fun _ _ h=>Zx h5 h)) (fun _ _ ⟨_,_,_,e,_⟩=>⟨_,e⟩))<|o_p rfl (Zd Zfg rfl rfl u_0)<|o_p rfl (Zf Zdc rfl rfl u_0)<|o_p rfl (Zo Zv0 (Zk9 _ _ _ _ h10) rfl rfl (.cons u_0 (.cons u_1 (.cons u_2 (.cons u_3 .nil)))))<|o_p rfl (Zc rfl rfl u_0)<|o_n) (by kernel_rfl) (fun a g hst hb=>?_)
   refine wp_ret ?_
   refine Z6 ?_
   refine Zr ?_
   obtain rfl:=Option.some.inj H0
   exact Z5 rfl hst hb (Zk (s:=6)) (hst.at 0 rfl)
  ·replace H0:=Zw hc6 H0
   refine r_s (L:=[(0,_),(1,_),(5,_)]) (T:=[⟨[.old 1],_,[],[],[41]⟩,⟨[.old 0],_,[],[],[42]⟩,⟨[.op 1 0],_,[],[1],[43]⟩,⟨[.op 2 0],_,[],[1,2],[44]⟩,⟨[.op 3 0],_,[],[1,2,3],[45]⟩,⟨[.op 0 0,.op 4 0],_,[],Lr 5,[46]⟩,⟨[.op 5 0],_,[],Lr 6,[40]⟩]) (F:=[.old 0,.old 1,.old 2,.op 6 0]) (hst.pick [0,1,2] rfl) hb Zb
    (o_p rfl (Za rfl rfl u_0)<|o_p rfl (Za rfl rfl u_0)<|o_p rfl (Zq rfl rfl (Opd.imp u_0 (fun _ _ h=>Zx h5 h)) (fun _ _ ⟨_,_,_,e,_⟩=>⟨_,e⟩))<|o_p rfl (Zd Zfh rfl rfl u_0)<|o_p rfl (Zf ty_9 rfl rfl u_0)<|o_p rfl (Zvk rfl rfl u_0 u_1)<|o_p rfl (Zc rfl rfl u_0)<|o_n) (by kernel_rfl) (fun a g hst hb=>?_)
   refine wp_cond_split (hst.bool 3 rfl) (fun hc11=>?_) (fun hc11=>?_)
   ·replace H0:=Zv hc11 H0
    obtain ⟨r12,h13,H0⟩:=Zh H0;obtain ⟨r14,h15,H0⟩:=Zh H0
    refine r_s (L:=[(0,_),(1,_),(5,_)]) (T:=⟨[.old 0],_,[],[],[47]⟩ :: ⟨[.op 0 0],_,[],[0],[48]⟩ :: ⟨[.op 1 0],_,[],[0,1],[49]⟩ :: ⟨[.op 2 0],_,[],[0,1,2],[50]⟩ :: ⟨[.old 0],_,[],[],[51]⟩ :: ⟨[.op 4 0],_,[],[4],[52]⟩ :: ⟨[.op 5 0],_,[],[4,5],[53]⟩ :: ⟨[.op 6 0],_,[],[4,5,6],[54]⟩ :: ⟨[.old 0],_,[],[],[55]⟩ :: ⟨[.op 8 0],_,[],[8],[56]⟩ :: ⟨[.op 9 0],_,[],[8,9],[57]⟩ :: ⟨[.op 10 0],_,[],[8,9,10],[58]⟩ :: ⟨[.old 0],_,[],[],[59]⟩ :: ⟨[.op 12 0],_,[],[12],[60]⟩ :: ⟨[.op 13 0],_,[],[12,13],[61]⟩ :: ⟨[.op 14 0],_,[],[12,13,14],[62]⟩ :: ⟨[.old 1],_,[],[],[63]⟩ :: ⟨[.old 2],_,[],[],[64]⟩ :: ⟨[.op 15 0,.op 16 0,.op 17 0],_,[],List.range' 12 6,[65]⟩ :: ⟨[.op 3 0,.op 7 0,.op 11 0,.op 18 0],_,[],Lr 19,[66]⟩ :: ⟨[.op 19 0],_,[],Lr 20,[6]⟩ :: []) (F:=[.op 20 0]) (hst.pick [0,1,2] rfl) hb Zb
     (o_p rfl (Za rfl rfl u_0)<|o_p rfl (Zq rfl rfl (Opd.imp u_0 (fun _ _ h=>Zx h5 h)) (fun _ _ ⟨_,_,_,e,_⟩=>⟨_,e⟩))<|o_p rfl (Zd Zfh rfl rfl u_0)<|o_p rfl (Zf ty_9 rfl rfl u_0)<|o_p rfl (Za rfl rfl u_0)<|o_p rfl (Zq rfl rfl (Opd.imp u_0 (fun _ _ h=>Zx h5 h)) (fun _ _ ⟨_,_,_,e,_⟩=>⟨_,e⟩))<|o_p rfl (Zd Zht rfl rfl u_0)<|o_p rfl (Zf Zbc rfl rfl u_0)<|o_p rfl (Za rfl rfl u_0)<|o_p rfl (Zq rfl rfl (Opd.imp u_0 (fun _ _ h=>Zx h5 h)) (fun _ _ ⟨_,_,_,e,_⟩=>⟨_,e⟩))<|o_p rfl (Zd Zep rfl rfl u_0)<|o_p rfl (Zf Zdc rfl rfl u_0)<|o_p rfl (Za rfl rfl u_0)<|o_p rfl (Zq rfl rfl (Opd.imp u_0 (fun _ _ h=>Zx h5 h)) (fun _ _ ⟨_,_,_,e,_⟩=>⟨_,e⟩))<|o_p rfl (Zd Zfg rfl rfl u_0)<|o_p rfl (Zf Zdc rfl rfl u_0)<|o_p rfl (Za rfl rfl u_0)<|o_p rfl (Zf Zbc rfl rfl u_0)<|o_p rfl (Zo Z3c (hself _ _ _ h13) rfl rfl (.cons u_0 (.cons u_1 (.cons u_2 .nil))))<|o_p rfl (Zo Zv0 (Zk9 _ _ _ _ h15) rfl rfl (.cons u_0 (.cons u_1 (.cons u_2 (.cons u_3 .nil)))))<|o_p rfl (Zc rfl rfl u_0)<|o_n) (by kernel_rfl) (fun a g hst hb=>?_)
    refine wp_ret ?_
    refine Z6 ?_
    refine Zr ?_
    obtain rfl:=Option.some.inj H0
    exact Z5 rfl hst hb (Zk (s:=6)) (hst.at 0 rfl)
   ·replace H0:=Zw hc11 H0
    refine wp_skip ?_
    refine Zbe ?_
    refine Zs ?_
    obtain ⟨r16,h17,H0⟩:=Zh H0
    refine r_s (L:=[(0,_),(1,_),(5,_)]) (T:=⟨[.old 1],_,[],[],[67]⟩ :: ⟨[.old 2],_,[],[],[68]⟩ :: ⟨[.old 0],_,[],[],[69]⟩ :: ⟨[.op 2 0],_,[],[2],[70]⟩ :: ⟨[.op 3 0],_,[],[2,3],[71]⟩ :: ⟨[.op 4 0],_,[],[2,3,4],[72]⟩ :: ⟨[.old 0],_,[],[],[73]⟩ :: ⟨[.op 6 0],_,[],[6],[74]⟩ :: ⟨[.op 7 0],_,[],[6,7],[75]⟩ :: ⟨[.op 8 0],_,[],[6,7,8],[76]⟩ :: ⟨[.op 0 0,.op 1 0,.op 5 0,.op 9 0],_,[],Lr 10,[77]⟩ :: ⟨[.op 10 0],_,[],Lr 11,[6]⟩ :: []) (F:=[.op 11 0]) (hst.pick [0,1,2] rfl) hb Zb
     (o_p rfl (Za rfl rfl u_0)<|o_p rfl (Zf Zbc rfl rfl u_0)<|o_p rfl (Za rfl rfl u_0)<|o_p rfl (Zq rfl rfl (Opd.imp u_0 (fun _ _ h=>Zx h5 h)) (fun _ _ ⟨_,_,_,e,_⟩=>⟨_,e⟩))<|o_p rfl (Zd Zep rfl rfl u_0)<|o_p rfl (Zf Zdc rfl rfl u_0)<|o_p rfl (Za rfl rfl u_0)<|o_p rfl (Zq rfl rfl (Opd.imp u_0 (fun _ _ h=>Zx h5 h)) (fun _ _ ⟨_,_,_,e,_⟩=>⟨_,e⟩))<|o_p rfl (Zd Zfg rfl rfl u_0)<|o_p rfl (Zf Zdc rfl rfl u_0)<|o_p rfl (Zo Zl9 (Zec _ _ _ _ h17) rfl rfl (.cons u_0 (.cons u_1 (.cons u_2 (.cons u_3 .nil)))))<|o_p rfl (Zc rfl rfl u_0)<|o_n) (by kernel_rfl) (fun a g hst hb=>?_)
    refine wp_ret ?_
    obtain rfl:=Option.some.inj H0
    exact Z5 rfl hst hb (Zk (s:=6)) (hst.at 0 rfl)
theorem Zns:∀ (n:Nat) (a0:shelf_nodeT) (a1:ByteArray) (a2:Ze) {r:shelf_nodeT},Zf1 n a0 a1 a2=some r → FnOk Tryz.prog 52 [(Zba.pd a0),(pStr a1),(Zi.pd a2)] (Zba.pd r)
 | 0,_,_,_,_,h=>by simp [Zf1] at h
 | n + 1,a0,a1,a2,_,h=>Zr7 (Zf1 n) (fun a0 a1 a2 r h=>Zns n a0 a1 a2 h) a0 a1 a2 h
theorem Zts (a0:shelf_nodeT) (a1:ByteArray) (a2:Ze) {r:shelf_nodeT} (h:Zn3 a0 a1 a2=some r):FnOk Tryz.prog 52 [(Zba.pd a0),(pStr a1),(Zi.pd a2)] (Zba.pd r):=Zns _ a0 a1 a2 h
theorem Zj3 (a0:Zn) (a1:ByteArray) (a2:Ze) {r:Zn × Int} (h:Zc8 a0 a1 a2=some r):FnOk Tryz.prog 29 [(Zy.pd a0),(pStr a1),(Zi.pd a2)] (pTup [(Zy.pd r.1),(pInt .i64 r.2)]):=by
 have H0:=h
 unfold Zc8 at H0
 clear h
 refine Zbu (N:=50) Tryz.func29 rfl rfl (Nat.le_of_ble_eq_true rfl) rfl rfl (fun a g0 hst hb=>?_)
 refine r_s (T:=[⟨[.old 0],_,[],[],[3]⟩,⟨[.old 2],_,[],[],[5]⟩,⟨[],[(6,(pBox Zy 6 (default:Zn)))],[7],[],[6]⟩,⟨[],_,[],[],[7]⟩]) (F:=[.old 1,.op 0 0,.op 1 0,.op 2 0]) hst hb Zb
  (o_p rfl (Zbq rfl rfl u_0)<|o_p rfl (Zbq rfl rfl u_0)<|o_p rfl (Zbh (zs:=[.pointer none,.int .i64 0]) (by kernel_rfl) (fun g=>Zdp g) rfl rfl)<|o_p rfl (Zc rfl rfl c_i)<|o_n) (by kernel_rfl) (fun a g hst hb=>?_)
 refine wp_seq ?_
 refine r_s (T:=[⟨[.old 0],_,[],[],[11]⟩,⟨[.op 0 0],_,[],[0],[12]⟩,⟨[.op 1 0],_,[],[0,1],[13]⟩,⟨[.op 2 0,.old 0],_,[],[0,1,2],[14]⟩,⟨[.op 2 0,.op 3 0],_,[],Lr 4,[15]⟩,⟨[.op 2 0,.op 4 0],_,[],Lr 5,[16]⟩,⟨[.op 2 0,.op 5 0],_,[],Lr 6,[17]⟩]) (F:=[.old 0,.old 1,.old 2,.old 3,.op 6 0]) hst hb Zb
  (o_p rfl (Za rfl rfl u_0)<|o_p rfl (Zla rfl rfl u_0 c_s)<|o_p rfl (Za rfl rfl u_0)<|o_g (g_f rfl rfl rfl (fun hG=>Za rfl rfl u_0))<|o_g (g_f rfl rfl rfl (fun hG=>Zfp Tryz.underlying9 rfl rfl (Opd.gd hG u_0)))<|o_g (g_f rfl rfl rfl (fun hG=>Zcu rfl rfl (Opd.gd hG u_0) c_i))<|o_p rfl (Zbo rfl rfl u_0 (fun hz=>(Opd.gd (bNF hz) u_1)))<|o_n) (by kernel_rfl) (fun a g hst hb=>?_)
 refine wp_cond_split (hst.bool 4 rfl) (fun hc1=>?_) (fun hc1=>?_)
 ·replace H0:=Zv hc1 H0
  refine r_s (L:=[(3,_),(6,_)]) (T:=[⟨[.old 0],_,[],[],[18]⟩,⟨[.op 0 0,.old 1],_,[7],[0],[6]⟩,⟨[],_,[],[0,1],[7]⟩]) (F:=[.op 1 0,.op 2 0]) (hst.pick [1,3] rfl) hb Zb
   (o_p rfl (Zf Zbw rfl rfl u_0)<|o_p rfl (Z2 Zbw rfl rfl u_1 u_0)<|o_p rfl (Zc rfl rfl c_i)<|o_n) (by kernel_rfl) (fun a g hst hb=>?_)
  refine wp_ret ?_
  refine Zr ?_
  obtain rfl:=Option.some.inj H0
  obtain ⟨u0,hu0,hq0⟩:=Zbf (P:=Tryz.prog) Zbw (hst.at 0 rfl)
  exact Zdq rfl hst hb hu0 (Zk (s:=7)) (Zcw hq0 (hst.at 1 rfl))
 ·replace H0:=Zw hc1 H0
  refine wp_skip ?_
  refine Zs ?_
  refine wp_seq ?_
  obtain ⟨r2,h3,H0⟩:=Zh H0
  refine r_s (L:=[(1,_),(3,_),(5,_),(6,_)]) (T:=[⟨[.old 2],_,[],[],[19]⟩,⟨[.op 0 0],_,[],[0],[20]⟩,⟨[.op 1 0],_,[],[0,1],[8]⟩]) (F:=[.old 0,.old 1,.old 2,.old 3,.op 2 0]) (hst.pick [0,1,2,3] rfl) hb Zb
   (o_p rfl (Zf Zbc rfl rfl u_0)<|o_p rfl (Zo Z2s (Zps _ h3) rfl rfl (.cons u_0 .nil))<|o_p rfl (Zc rfl rfl u_0)<|o_n) (by kernel_rfl) (fun a g hst hb=>?_)
  refine r_s (T:=[⟨[.old 4],_,[],[],[21]⟩,⟨[.op 0 0],_,[],[0],[22]⟩]) (F:=[.old 0,.old 1,.old 2,.old 3,.old 4,.op 1 0]) hst hb Zb
   (o_p rfl (Za rfl rfl u_0)<|o_p rfl (Zdk rfl rfl u_0 c_i)<|o_n) (by kernel_rfl) (fun a g hst hb=>?_)
  refine wp_cond_split (hst.bool 5 rfl) (fun hc4=>?_) (fun hc4=>?_)
  ·replace H0:=Zv hc4 H0
   refine r_s (L:=[(3,_),(6,_),(8,_)]) (T:=[⟨[.old 0],_,[],[],[23]⟩,⟨[.old 2],_,[],[],[24]⟩,⟨[.op 0 0,.old 1],_,[7],[0],[6]⟩,⟨[.op 1 0],_,[],[0,1,2],[7]⟩]) (F:=[.op 2 0,.op 3 0]) (hst.pick [1,3,4] rfl) hb Zb
    (o_p rfl (Zf Zbw rfl rfl u_0)<|o_p rfl (Za rfl rfl u_0)<|o_p rfl (Z2 Zbw rfl rfl u_1 u_0)<|o_p rfl (Zc rfl rfl u_0)<|o_n) (by kernel_rfl) (fun a g hst hb=>?_)
   refine wp_ret ?_
   refine Zr ?_
   obtain rfl:=Option.some.inj H0
   obtain ⟨u0,hu0,hq0⟩:=Zbf (P:=Tryz.prog) Zbw (hst.at 0 rfl)
   exact Zdq rfl hst hb hu0 (Zk (s:=7)) (Zcw hq0 (hst.at 1 rfl))
  ·replace H0:=Zw hc4 H0
   refine wp_skip ?_
   refine Zs ?_
   refine wp_seq ?_
   obtain ⟨r5,h6,H0⟩:=Zh H0
   refine r_s (L:=[(1,_),(3,_),(5,_),(6,_)]) (T:=[⟨[.old 1],_,[],[],[26]⟩,⟨[.old 0],_,[],[],[27]⟩,⟨[.op 0 0,.op 1 0],_,[],[0,1],[28]⟩,⟨[.op 2 0],_,[],[0,1,2],[25]⟩,⟨[.op 3 0],_,[],Lr 4,[29]⟩,⟨[.op 3 0],_,[],Lr 4,[30]⟩,⟨[],[(9,(pBox Zi 9 (default:Ze)))],[10],[],[9]⟩,⟨[.op 4 0,.op 6 0],_,[10],[0,1,2,3,4,6],[9]⟩,⟨[.op 5 0],_,[],Lr 8,[10]⟩]) (F:=[.old 0,.old 1,.old 2,.old 3,.op 8 0]) (hst.pick [0,1,2,3] rfl) hb Zb
    (o_p rfl (Zf Zbw rfl rfl u_0)<|o_p rfl (Za rfl rfl u_0)<|o_p rfl (Zo Zs9 (Zg3 _ _ h6) rfl rfl (.cons u_0 (.cons u_1 .nil)))<|o_p rfl (Za rfl rfl u_0)<|o_p rfl (Z0 rfl rfl u_0 rfl)<|o_p rfl (Z0 rfl rfl u_0 rfl)<|o_p rfl (Zbh (zs:=[.int .i64 0,.int .i64 0,.int .i64 0,.int .i64 0,.float .f64 0,.int .i64 0,.string ByteArray.empty,.slice none 0 0]) (by kernel_rfl) (fun g=>Zb4 g) rfl rfl)<|o_p rfl (Zb5 Zbc rfl rfl u_1 u_0)<|o_p rfl (Zc rfl rfl u_0)<|o_n) (by kernel_rfl) (fun a g hst hb=>?_)
   obtain ⟨r7,h8,H0⟩:=Zh H0
   refine r_s (T:=[⟨[.old 4],_,[],[],[31]⟩,⟨[.op 0 0],_,[],[0],[32]⟩,⟨[.op 1 0],_,[],[0,1],[33]⟩,⟨[.op 2 0,.old 1],_,[],[0,1,2],[34]⟩,⟨[.op 2 0,.op 3 0],_,[],Lr 4,[35]⟩,⟨[.op 2 0,.old 1],_,[],[0,1,2],[36]⟩,⟨[.op 2 0,.op 5 0],_,[],[0,1,2,5],[37]⟩,⟨[.op 2 0,.op 4 0,.op 6 0],_,[],Lr 7,[38]⟩,⟨[.op 2 0,.op 7 0],_,[],Lr 8,[39]⟩]) (F:=[.old 0,.old 1,.old 2,.old 3,.op 8 0]) hst hb Zb
    (o_p rfl (Za rfl rfl u_0)<|o_p rfl (Zb2 rfl rfl u_0)<|o_p rfl (Za rfl rfl u_0)<|o_g (g_t rfl rfl rfl (fun hG=>Zf Zbw rfl rfl u_0))<|o_g (g_t rfl rfl rfl (fun hG=>Zo Zvv (Zia _ (Zbn h8 hG)) rfl rfl (.cons (Opd.gd hG u_0) .nil)))<|o_g (g_t rfl rfl rfl (fun hG=>Zd Zto rfl rfl u_0))<|o_g (g_t rfl rfl rfl (fun hG=>Zf ty_3 rfl rfl (Opd.gd hG u_0)))<|o_g (g_t rfl rfl rfl (fun hG=>Zmn rfl rfl (Opd.gd hG u_0) (Opd.gd hG u_1)))<|o_p rfl (Zbi rfl rfl u_0 (fun hz=>(Opd.gd hz u_1)))<|o_n) (by kernel_rfl) (fun a g hst hb=>?_)
   refine wp_cond_split (hst.bool 4 rfl) (fun hc9=>?_) (fun hc9=>?_)
   ·replace H0:=Zv hc9 H0
    refine r_s (L:=[(3,_),(6,_)]) (T:=[⟨[.old 0],_,[],[],[40]⟩,⟨[.op 0 0,.old 1],_,[7],[0],[6]⟩,⟨[],_,[],[0,1],[7]⟩]) (F:=[.op 1 0,.op 2 0]) (hst.pick [1,3] rfl) hb Zb
     (o_p rfl (Zf Zbw rfl rfl u_0)<|o_p rfl (Z2 Zbw rfl rfl u_1 u_0)<|o_p rfl (Zc rfl rfl c_i)<|o_n) (by kernel_rfl) (fun a g hst hb=>?_)
    refine wp_ret ?_
    refine Zr ?_
    obtain rfl:=Option.some.inj H0
    obtain ⟨u0,hu0,hq0⟩:=Zbf (P:=Tryz.prog) Zbw (hst.at 0 rfl)
    exact Zdq rfl hst hb hu0 (Zk (s:=7)) (Zcw hq0 (hst.at 1 rfl))
   ·replace H0:=Zw hc9 H0
    refine wp_skip ?_
    refine Zs ?_
    obtain ⟨r10,h11,H0⟩:=Zh H0;obtain ⟨r12,h13,H0⟩:=Zh H0
    refine r_s (L:=[(1,_),(3,_),(5,_),(6,_)]) (T:=[⟨[.old 1],_,[],[],[41]⟩,⟨[.op 0 0],_,[],[0],[42]⟩,⟨[.old 0],_,[],[],[43]⟩,⟨[.old 2],_,[],[],[44]⟩,⟨[.op 3 0],_,[],[3],[45]⟩,⟨[.op 1 0,.op 2 0,.op 4 0],_,[],Lr 5,[46]⟩,⟨[.old 1],_,[],[],[47]⟩,⟨[.op 6 0],_,[],[6],[48]⟩,⟨[.op 5 0,.op 7 0],_,[],Lr 8,[49]⟩,⟨[.op 8 0,.old 3],_,[7],Lr 9,[6]⟩,⟨[],_,[],Lr 10,[7]⟩]) (F:=[.op 9 0,.op 10 0]) (hst.pick [0,1,2,3] rfl) hb Zb
     (o_p rfl (Zd Zqw rfl rfl u_0)<|o_p rfl (Zf Zdc rfl rfl u_0)<|o_p rfl (Za rfl rfl u_0)<|o_p rfl (Zf Zbc rfl rfl u_0)<|o_p rfl (Zo Zn8 (Zgr _ h11) rfl rfl (.cons u_0 .nil))<|o_p rfl (Zo Z3c (Zts _ _ _ h13) rfl rfl (.cons u_0 (.cons u_1 (.cons u_2 .nil))))<|o_p rfl (Zd Zto rfl rfl u_0)<|o_p rfl (Zf ty_3 rfl rfl u_0)<|o_p rfl (Zw6 rfl rfl u_0 u_1)<|o_p rfl (Z2 Zbw rfl rfl u_1 u_0)<|o_p rfl (Zc rfl rfl c_i)<|o_n) (by kernel_rfl) (fun a g hst hb=>?_)
    refine wp_ret ?_
    obtain rfl:=Option.some.inj H0
    obtain ⟨u0,hu0,hq0⟩:=Zbf (P:=Tryz.prog) Zbw (hst.at 0 rfl)
    exact Zdq rfl hst hb hu0 (Zk (s:=7)) (Zcw hq0 (hst.at 1 rfl))
theorem Znn (a0:List ByteArray) (a1:ByteArray) {r:Int} (h:Zgt a0 a1=some r):FnOk Tryz.prog 59 [(Kd.str.sl.pd a0),(pStr a1)] (pInt .i64 r):=by
 have H0:=h
 unfold Zgt at H0
 clear h
 refine Zbu (N:=19) Tryz.func59 rfl rfl (Nat.le_of_ble_eq_true rfl) rfl rfl (fun a g0 hst hb=>?_)
 refine r_s (T:=[⟨[],_,[],[],[4]⟩]) (F:=[.old 0,.old 1]) hst hb Zb
  (o_p rfl (Zc rfl rfl c_i)<|o_n) (by kernel_rfl) (fun a g hst hb=>?_)
 refine wp_seq ?_
 refine r_s (T:=[⟨[.old 0],_,[],[],[6]⟩,⟨[.op 0 0],_,[],[0],[7]⟩,⟨[],_,[],[],[8]⟩]) (F:=[.old 0,.old 1,.op 0 0,.op 1 0,.op 2 0]) hst hb Zb
  (o_p rfl (Za rfl rfl u_0)<|o_p rfl (Zb1 Tryz.underlying26 rfl rfl u_0)<|o_p rfl (Za rfl rfl c_i)<|o_n) (by kernel_rfl) (fun a g hst hb=>?_)
 obtain ⟨z6,hz1,H0⟩:=Zh H0
 refine Zca (fun a w=>∃ (g:G),w=g.w ∧ St 19 [] a g ∧ Base g0 g ∧ (.inr ())=z6) ?_ ?_
 ·rintro a w ⟨g,rfl,hst,hb,rfl⟩
  refine Zs ?_
  refine r_s (T:=[⟨[],_,[],[],[4]⟩]) (F:=[.op 0 0]) hst hb Zb
   (o_p rfl (Zc rfl rfl c_i)<|o_n) (by kernel_rfl) (fun a g hst hb=>?_)
  refine wp_ret ?_
  obtain rfl:=Option.some.inj H0
  exact Z5 rfl hst hb (Zk (s:=4)) (hst.at 0 rfl)
 ·refine wp_block ?_
  refine wp_loop_ghost (fun n a w=>∃ (x1:Int) (g:G),w=g.w ∧ St 19 [(0,(Kd.str.sl.pd a0)),(1,(pStr a1)),(6,(Kd.str.sl.pd a0)),(7,(pInt .i64 (a0.length:Int))),(8,(pInt .i64 x1))] a g ∧ Base g0 g ∧ Zct a0 a1 n x1=some z6) (Int.toNat ((a0.length:Int) - (0:Int)) + 1) ⟨(0:Int),g,rfl,(hst.pick [0,1,2,3,4] rfl),hb,hz1⟩ (fun n a w hI=>?_)
  obtain ⟨x1,g,rfl,hst,hb,H1⟩:=hI
  cases n with
  | zero=>exact absurd H1 (by simp [Zct])
  | succ n =>
   rw [Zct] at H1
   refine r_s (T:=[⟨[.old 4,.old 3],_,[],[],[9]⟩]) (F:=[.old 0,.old 1,.old 2,.old 3,.old 4,.op 0 0]) hst hb Zb
    (o_p rfl (Zci rfl rfl u_0 u_1)<|o_n) (by kernel_rfl) (fun a g hst hb=>?_)
   refine wp_seq ?_
   refine wp_cond_split (hst.bool 5 rfl) (fun hc2=>?_) (fun hc2=>?_)
   ·replace H1:=Zv hc2 H1
    refine wp_skip ?_
    refine Zs ?_
    refine wp_seq ?_
    refine wp_block ?_
    refine r_s (L:=[(0,_),(1,_),(6,_),(7,_),(8,_)]) (T:=[⟨[.old 4],_,[],[],[10]⟩,⟨[.op 0 0],_,[],[0],[5]⟩]) (F:=[.old 0,.old 1,.op 1 0,.old 2,.old 3,.old 4]) (hst.pick [0,1,2,3,4] rfl) hb Zb
     (o_p rfl (Za rfl rfl u_0)<|o_p rfl (Zc rfl rfl u_0)<|o_n) (by kernel_rfl) (fun a g hst hb=>?_)
    obtain ⟨e3,h4,H1⟩:=Zh H1
    refine r_s (T:=[⟨[.old 1],_,[],[],[11]⟩,⟨[.old 0],_,[],[],[12]⟩,⟨[.old 2],_,[],[],[13]⟩,⟨[.op 1 0,.op 2 0],_,[],[1,2],[14]⟩,⟨[.op 3 0],_,[],[1,2,3],[15]⟩,⟨[.op 0 0,.op 4 0],_,[],Lr 5,[16]⟩]) (F:=[.old 0,.old 1,.old 2,.old 3,.old 4,.old 5,.op 5 0]) hst hb Zb
     (o_p rfl (Za rfl rfl u_0)<|o_p rfl (Za rfl rfl u_0)<|o_p rfl (Za rfl rfl u_0)<|o_p rfl (Zbl Tryz.underlying26 sz_9 rfl rfl u_0 u_1 h4)<|o_p rfl (Zf ty_9 rfl rfl u_0)<|o_p rfl (Zla rfl rfl u_0 u_1)<|o_n) (by kernel_rfl) (fun a g hst hb=>?_)
    refine wp_cond_split (hst.bool 6 rfl) (fun hc5=>?_) (fun hc5=>?_)
    ·replace H1:=Zv hc5 H1
     refine r_s (L:=[(5,_)]) (T:=[⟨[.old 0],_,[],[],[17]⟩,⟨[.op 0 0],_,[],[0],[4]⟩]) (F:=[.op 1 0]) (hst.pick [2] rfl) hb Zb
      (o_p rfl (Za rfl rfl u_0)<|o_p rfl (Zc rfl rfl u_0)<|o_n) (by kernel_rfl) (fun a g hst hb=>?_)
     refine wp_ret ?_
     refine Z6 ?_
     refine Zr ?_
     refine Zr ?_
     refine Z6 ?_
     refine Zr ?_
     refine Zr ?_
     obtain rfl:=Option.some.inj H1
     obtain rfl:=Option.some.inj H0
     exact Z5 rfl hst hb (Zk (s:=4)) (hst.at 0 rfl)
    ·replace H1:=Zw hc5 H1
     refine wp_skip ?_
     refine Zbe ?_
     refine Zs ?_
     refine r_g (L:=[(0,_),(1,_),(6,_),(7,_),(8,_)]) (T:=[⟨[.old 4],_,[],[],[18]⟩,⟨[.op 0 0],_,[],[0],[8]⟩]) (F:=[.old 0,.old 1,.old 2,.old 3,.op 1 0]) (hst.pick [0,1,3,4,5] rfl) hb Zb
      (o_p rfl (Zb7 rfl rfl u_0 c_i rfl)<|o_p rfl (Za rfl rfl u_0)<|o_n) (by kernel_rfl) (fun a g hst hb=>?_)
     exact ⟨n,Nat.lt_succ_self _,(IntKind.i64.wrap (x1 + (1:Int))),g,rfl,(hst.pick [0,1,2,3,4] rfl),hb,H1⟩
   ·replace H1:=Zw hc2 H1
    refine wp_exit ?_
    refine Zb3 ?_
    refine Zb3 ?_
    refine Zcn ?_
    exact ⟨g,rfl,(hst.pick [] rfl),hb,Option.some.inj H1⟩
theorem Zjb (a0:List ByteArray) (a1:ByteArray) {r:Bool} (h:Zd0 a0 a1=some r):FnOk Tryz.prog 38 [(Kd.str.sl.pd a0),(pStr a1)] (Zbg r):=by
 have H0:=h
 unfold Zd0 at H0
 clear h
 refine Zbu (N:=9) Tryz.func38 rfl rfl (Nat.le_of_ble_eq_true rfl) rfl rfl (fun a g0 hst hb=>?_)
 refine r_s (T:=[⟨[],_,[],[],[4]⟩]) (F:=[.old 0,.old 1]) hst hb Zb
  (o_p rfl (Zc rfl rfl c_b)<|o_n) (by kernel_rfl) (fun a g hst hb=>?_)
 obtain ⟨r1,h2,H0⟩:=Zh H0
 refine r_s (T:=[⟨[.old 0],_,[],[],[5]⟩,⟨[.old 1],_,[],[],[6]⟩,⟨[.op 0 0,.op 1 0],_,[],[0,1],[7]⟩,⟨[.op 2 0],_,[],[0,1,2],[8]⟩,⟨[.op 3 0],_,[],Lr 4,[4]⟩]) (F:=[.op 4 0]) hst hb Zb
  (o_p rfl (Za rfl rfl u_0)<|o_p rfl (Za rfl rfl u_0)<|o_p rfl (Zo Zbbx (Znn _ _ h2) rfl rfl (.cons u_0 (.cons u_1 .nil)))<|o_p rfl (Zmn rfl rfl u_0 c_i)<|o_p rfl (Zc rfl rfl u_0)<|o_n) (by kernel_rfl) (fun a g hst hb=>?_)
 refine wp_ret ?_
 obtain rfl:=Option.some.inj H0
 exact Z5 rfl hst hb (Zk (s:=4)) (hst.at 0 rfl)
theorem Zr4 (a0:shelf_nodeT) {r:shelf_nodeT} (h:Zje a0=some r):FnOk Tryz.prog 88 [(Zba.pd a0)] (Zba.pd r):=by
 have H0:=h
 unfold Zje at H0
 clear h
 refine Zbu (N:=13) Tryz.func88 rfl rfl (Nat.le_of_ble_eq_true rfl) rfl rfl (fun a g0 hst hb=>?_)
 refine r_s (T:=[⟨[],[(2,(Zba.pd shelf_nodeT.nil))],[],[],[2]⟩]) (F:=[.old 0]) hst hb Zb
  (o_p rfl (Zc rfl rfl (Opd.c (fun g=>Zeu g)))<|o_n) (by kernel_rfl) (fun a g hst hb=>?_)
 obtain ⟨z6,hz1,H0⟩:=Zh H0
 refine wp_seq ?_
 refine Zca (fun a w=>∃ (y5:shelf_nodeT) (g:G),w=g.w ∧ St 13 [(0,(Zba.pd y5))] a g ∧ Base g0 g ∧ y5=z6) ?_ ?_
 ·rintro a w ⟨y5,g,rfl,hst,hb,rfl⟩
  refine Zs ?_
  refine r_s (T:=[⟨[.old 0],_,[],[],[12]⟩,⟨[.op 0 0],_,[],[0],[2]⟩]) (F:=[.op 1 0]) hst hb Zb
   (o_p rfl (Za rfl rfl u_0)<|o_p rfl (Zc rfl rfl u_0)<|o_n) (by kernel_rfl) (fun a g hst hb=>?_)
  refine wp_ret ?_
  obtain rfl:=Option.some.inj H0
  exact Z5 rfl hst hb (Zk (s:=2)) (hst.at 0 rfl)
 ·refine wp_block ?_
  refine wp_loop_ghost (fun n a w=>∃ (x1:shelf_nodeT) (g:G),w=g.w ∧ St 13 [(0,(Zba.pd x1))] a g ∧ Base g0 g ∧ Zfw n x1=some z6) (a0.hh + 1) ⟨a0,g,rfl,(hst.pick [0] rfl),hb,hz1⟩ (fun n a w hI=>?_)
  obtain ⟨x1,g,rfl,hst,hb,H1⟩:=hI
  cases n with
  | zero=>exact absurd H1 (by simp [Zfw])
  | succ n =>
   rw [Zfw] at H1
   refine wp_seq ?_
   obtain ⟨n2,h3,H1⟩:=Zh H1
   refine r_s (T:=[⟨[.old 0],_,[],[],[3]⟩,⟨[.op 0 0],_,[],[0],[4]⟩,⟨[.op 1 0],_,[],[0,1],[5]⟩,⟨[.op 2 0],_,[],[0,1,2],[6]⟩,⟨[.op 3 0],_,[],Lr 4,[7]⟩]) (F:=[.old 0,.op 4 0]) hst hb Zb
    (o_p rfl (Za rfl rfl u_0)<|o_p rfl (Zq rfl rfl (Opd.imp u_0 (fun _ _ h=>Zx h3 h)) (fun _ _ ⟨_,_,_,e,_⟩=>⟨_,e⟩))<|o_p rfl (Zd Zep rfl rfl u_0)<|o_p rfl (Zf Zdc rfl rfl u_0)<|o_p rfl (Z0a Tryz.underlying28 rfl rfl u_0 (Zft _))<|o_n) (by kernel_rfl) (fun a g hst hb=>?_)
   refine wp_cond_split (hst.bool 1 rfl) (fun hc4=>?_) (fun hc4=>?_)
   ·replace H1:=Zv hc4 H1
    refine wp_skip ?_
    refine Zs ?_
    refine wp_block ?_
    refine r_g (L:=[(0,_)]) (T:=[⟨[.old 0],_,[],[],[8]⟩,⟨[.op 0 0],_,[],[0],[9]⟩,⟨[.op 1 0],_,[],[0,1],[10]⟩,⟨[.op 2 0],_,[],[0,1,2],[11]⟩,⟨[.op 3 0],_,[],Lr 4,[0]⟩]) (F:=[.op 4 0]) (hst.pick [0] rfl) hb Zb
     (o_p rfl (Za rfl rfl u_0)<|o_p rfl (Zq rfl rfl (Opd.imp u_0 (fun _ _ h=>Zx h3 h)) (fun _ _ ⟨_,_,_,e,_⟩=>⟨_,e⟩))<|o_p rfl (Zd Zep rfl rfl u_0)<|o_p rfl (Zf Zdc rfl rfl u_0)<|o_p rfl (Zc rfl rfl u_0)<|o_n) (by kernel_rfl) (fun a g hst hb=>?_)
    refine Zbe ?_
    exact ⟨n,Nat.lt_succ_self _,n2.left,g,rfl,(hst.pick [0] rfl),hb,H1⟩
   ·replace H1:=Zw hc4 H1
    refine wp_exit ?_
    refine Zb3 ?_
    refine Zb3 ?_
    refine Zcn ?_
    exact ⟨x1,g,rfl,(hst.pick [0] rfl),hb,Option.some.inj H1⟩
theorem Zrz (self:shelf_nodeT → ByteArray → Option (shelf_nodeT)) (hself:∀ (a0:shelf_nodeT) (a1:ByteArray) {r:shelf_nodeT},self a0 a1=some r → FnOk Tryz.prog 60 [(Zba.pd a0),(pStr a1)] (Zba.pd r)) (a0:shelf_nodeT) (a1:ByteArray) {r:shelf_nodeT} (h:Zky self a0 a1=some r):FnOk Tryz.prog 60 [(Zba.pd a0),(pStr a1)] (Zba.pd r):=by
 have H0:=h
 unfold Zky at H0
 clear h
 refine Zbu (N:=108) Tryz.func60 rfl rfl (Nat.le_of_ble_eq_true rfl) rfl rfl (fun a g0 hst hb=>?_)
 refine r_s (T:=[⟨[],[(4,(Zba.pd shelf_nodeT.nil))],[],[],[4]⟩]) (F:=[.old 0,.old 1]) hst hb Zb
  (o_p rfl (Zc rfl rfl (Opd.c (fun g=>Zeu g)))<|o_n) (by kernel_rfl) (fun a g hst hb=>?_)
 refine wp_seq ?_
 refine wp_block ?_
 refine r_s (T:=[⟨[.old 0],_,[],[],[7]⟩,⟨[.op 0 0],_,[],[0],[8]⟩,⟨[.op 1 0],_,[],[0,1],[6]⟩]) (F:=[.old 0,.old 1,.op 2 0]) hst hb Zb
  (o_p rfl (Za rfl rfl u_0)<|o_p rfl (Zos Tryz.underlying28 rfl rfl u_0 (Zft _))<|o_p rfl (Zc rfl rfl u_0)<|o_n) (by kernel_rfl) (fun a g hst hb=>?_)
 refine wp_cond_split (hst.bool 2 rfl) (fun hc1=>?_) (fun hc1=>?_)
 ·replace H0:=Zv hc1 H0
  refine r_s (L:=[]) (T:=[⟨[],[(4,(Zba.pd shelf_nodeT.nil))],[],[],[4]⟩]) (F:=[.op 0 0]) (hst.pick [] rfl) hb Zb
   (o_p rfl (Zc rfl rfl (Opd.c (fun g=>Zeu g)))<|o_n) (by kernel_rfl) (fun a g hst hb=>?_)
  refine wp_ret ?_
  refine Z6 ?_
  refine Zr ?_
  obtain rfl:=Option.some.inj H0
  exact Z5 rfl hst hb (Zk (s:=4)) (hst.at 0 rfl)
 ·replace H0:=Zw hc1 H0
  obtain ⟨n2,h3,H0⟩:=Zh H0
  refine r_s (L:=[(0,_),(1,_)]) (T:=[⟨[.old 1],_,[],[],[10]⟩,⟨[.old 0],_,[],[],[11]⟩,⟨[.op 1 0],_,[],[1],[12]⟩,⟨[.op 2 0],_,[],[1,2],[13]⟩,⟨[.op 3 0],_,[],[1,2,3],[14]⟩,⟨[.op 0 0,.op 4 0],_,[],Lr 5,[15]⟩,⟨[.op 5 0],_,[],Lr 6,[9]⟩]) (F:=[.old 0,.old 1,.op 6 0]) (hst.pick [0,1] rfl) hb Zb
   (o_p rfl (Za rfl rfl u_0)<|o_p rfl (Za rfl rfl u_0)<|o_p rfl (Zq rfl rfl (Opd.imp u_0 (fun _ _ h=>Zx h3 h)) (fun _ _ ⟨_,_,_,e,_⟩=>⟨_,e⟩))<|o_p rfl (Zd Zfh rfl rfl u_0)<|o_p rfl (Zf ty_9 rfl rfl u_0)<|o_p rfl (Zm9 rfl rfl u_0 u_1)<|o_p rfl (Zc rfl rfl u_0)<|o_n) (by kernel_rfl) (fun a g hst hb=>?_)
  refine wp_cond_split (hst.bool 2 rfl) (fun hc4=>?_) (fun hc4=>?_)
  ·replace H0:=Zv hc4 H0
   obtain ⟨r5,h6,H0⟩:=Zh H0;obtain ⟨r7,h8,H0⟩:=Zh H0
   refine r_s (L:=[(0,_),(1,_)]) (T:=⟨[.old 0],_,[],[],[16]⟩ :: ⟨[.op 0 0],_,[],[0],[17]⟩ :: ⟨[.op 1 0],_,[],[0,1],[18]⟩ :: ⟨[.op 2 0],_,[],[0,1,2],[19]⟩ :: ⟨[.old 0],_,[],[],[20]⟩ :: ⟨[.op 4 0],_,[],[4],[21]⟩ :: ⟨[.op 5 0],_,[],[4,5],[22]⟩ :: ⟨[.op 6 0],_,[],[4,5,6],[23]⟩ :: ⟨[.old 0],_,[],[],[24]⟩ :: ⟨[.op 8 0],_,[],[8],[25]⟩ :: ⟨[.op 9 0],_,[],[8,9],[26]⟩ :: ⟨[.op 10 0],_,[],[8,9,10],[27]⟩ :: ⟨[.old 1],_,[],[],[28]⟩ :: ⟨[.op 11 0,.op 12 0],_,[],List.range' 8 5,[29]⟩ :: ⟨[.old 0],_,[],[],[30]⟩ :: ⟨[.op 14 0],_,[],[14],[31]⟩ :: ⟨[.op 15 0],_,[],[14,15],[32]⟩ :: ⟨[.op 16 0],_,[],[14,15,16],[33]⟩ :: ⟨[.op 3 0,.op 7 0,.op 13 0,.op 17 0],_,[],Lr 18,[34]⟩ :: ⟨[.op 18 0],_,[],Lr 19,[4]⟩ :: []) (F:=[.op 19 0]) (hst.pick [0,1] rfl) hb Zb
    (o_p rfl (Za rfl rfl u_0)<|o_p rfl (Zq rfl rfl (Opd.imp u_0 (fun _ _ h=>Zx h3 h)) (fun _ _ ⟨_,_,_,e,_⟩=>⟨_,e⟩))<|o_p rfl (Zd Zfh rfl rfl u_0)<|o_p rfl (Zf ty_9 rfl rfl u_0)<|o_p rfl (Za rfl rfl u_0)<|o_p rfl (Zq rfl rfl (Opd.imp u_0 (fun _ _ h=>Zx h3 h)) (fun _ _ ⟨_,_,_,e,_⟩=>⟨_,e⟩))<|o_p rfl (Zd Zht rfl rfl u_0)<|o_p rfl (Zf Zbc rfl rfl u_0)<|o_p rfl (Za rfl rfl u_0)<|o_p rfl (Zq rfl rfl (Opd.imp u_0 (fun _ _ h=>Zx h3 h)) (fun _ _ ⟨_,_,_,e,_⟩=>⟨_,e⟩))<|o_p rfl (Zd Zep rfl rfl u_0)<|o_p rfl (Zf Zdc rfl rfl u_0)<|o_p rfl (Za rfl rfl u_0)<|o_p rfl (Zo Zyi (hself _ _ h6) rfl rfl (.cons u_0 (.cons u_1 .nil)))<|o_p rfl (Za rfl rfl u_0)<|o_p rfl (Zq rfl rfl (Opd.imp u_0 (fun _ _ h=>Zx h3 h)) (fun _ _ ⟨_,_,_,e,_⟩=>⟨_,e⟩))<|o_p rfl (Zd Zfg rfl rfl u_0)<|o_p rfl (Zf Zdc rfl rfl u_0)<|o_p rfl (Zo Zv0 (Zk9 _ _ _ _ h8) rfl rfl (.cons u_0 (.cons u_1 (.cons u_2 (.cons u_3 .nil)))))<|o_p rfl (Zc rfl rfl u_0)<|o_n) (by kernel_rfl) (fun a g hst hb=>?_)
   refine wp_ret ?_
   refine Z6 ?_
   refine Zr ?_
   obtain rfl:=Option.some.inj H0
   exact Z5 rfl hst hb (Zk (s:=4)) (hst.at 0 rfl)
  ·replace H0:=Zw hc4 H0
   refine r_s (L:=[(0,_),(1,_)]) (T:=[⟨[.old 1],_,[],[],[36]⟩,⟨[.old 0],_,[],[],[37]⟩,⟨[.op 1 0],_,[],[1],[38]⟩,⟨[.op 2 0],_,[],[1,2],[39]⟩,⟨[.op 3 0],_,[],[1,2,3],[40]⟩,⟨[.op 0 0,.op 4 0],_,[],Lr 5,[41]⟩,⟨[.op 5 0],_,[],Lr 6,[35]⟩]) (F:=[.old 0,.old 1,.op 6 0]) (hst.pick [0,1] rfl) hb Zb
    (o_p rfl (Za rfl rfl u_0)<|o_p rfl (Za rfl rfl u_0)<|o_p rfl (Zq rfl rfl (Opd.imp u_0 (fun _ _ h=>Zx h3 h)) (fun _ _ ⟨_,_,_,e,_⟩=>⟨_,e⟩))<|o_p rfl (Zd Zfh rfl rfl u_0)<|o_p rfl (Zf ty_9 rfl rfl u_0)<|o_p rfl (Zvk rfl rfl u_0 u_1)<|o_p rfl (Zc rfl rfl u_0)<|o_n) (by kernel_rfl) (fun a g hst hb=>?_)
   refine wp_cond_split (hst.bool 2 rfl) (fun hc9=>?_) (fun hc9=>?_)
   ·replace H0:=Zv hc9 H0
    obtain ⟨r10,h11,H0⟩:=Zh H0;obtain ⟨r12,h13,H0⟩:=Zh H0
    refine r_s (L:=[(0,_),(1,_)]) (T:=⟨[.old 0],_,[],[],[42]⟩ :: ⟨[.op 0 0],_,[],[0],[43]⟩ :: ⟨[.op 1 0],_,[],[0,1],[44]⟩ :: ⟨[.op 2 0],_,[],[0,1,2],[45]⟩ :: ⟨[.old 0],_,[],[],[46]⟩ :: ⟨[.op 4 0],_,[],[4],[47]⟩ :: ⟨[.op 5 0],_,[],[4,5],[48]⟩ :: ⟨[.op 6 0],_,[],[4,5,6],[49]⟩ :: ⟨[.old 0],_,[],[],[50]⟩ :: ⟨[.op 8 0],_,[],[8],[51]⟩ :: ⟨[.op 9 0],_,[],[8,9],[52]⟩ :: ⟨[.op 10 0],_,[],[8,9,10],[53]⟩ :: ⟨[.old 0],_,[],[],[54]⟩ :: ⟨[.op 12 0],_,[],[12],[55]⟩ :: ⟨[.op 13 0],_,[],[12,13],[56]⟩ :: ⟨[.op 14 0],_,[],[12,13,14],[57]⟩ :: ⟨[.old 1],_,[],[],[58]⟩ :: ⟨[.op 15 0,.op 16 0],_,[],List.range' 12 5,[59]⟩ :: ⟨[.op 3 0,.op 7 0,.op 11 0,.op 17 0],_,[],Lr 18,[60]⟩ :: ⟨[.op 18 0],_,[],Lr 19,[4]⟩ :: []) (F:=[.op 19 0]) (hst.pick [0,1] rfl) hb Zb
     (o_p rfl (Za rfl rfl u_0)<|o_p rfl (Zq rfl rfl (Opd.imp u_0 (fun _ _ h=>Zx h3 h)) (fun _ _ ⟨_,_,_,e,_⟩=>⟨_,e⟩))<|o_p rfl (Zd Zfh rfl rfl u_0)<|o_p rfl (Zf ty_9 rfl rfl u_0)<|o_p rfl (Za rfl rfl u_0)<|o_p rfl (Zq rfl rfl (Opd.imp u_0 (fun _ _ h=>Zx h3 h)) (fun _ _ ⟨_,_,_,e,_⟩=>⟨_,e⟩))<|o_p rfl (Zd Zht rfl rfl u_0)<|o_p rfl (Zf Zbc rfl rfl u_0)<|o_p rfl (Za rfl rfl u_0)<|o_p rfl (Zq rfl rfl (Opd.imp u_0 (fun _ _ h=>Zx h3 h)) (fun _ _ ⟨_,_,_,e,_⟩=>⟨_,e⟩))<|o_p rfl (Zd Zep rfl rfl u_0)<|o_p rfl (Zf Zdc rfl rfl u_0)<|o_p rfl (Za rfl rfl u_0)<|o_p rfl (Zq rfl rfl (Opd.imp u_0 (fun _ _ h=>Zx h3 h)) (fun _ _ ⟨_,_,_,e,_⟩=>⟨_,e⟩))<|o_p rfl (Zd Zfg rfl rfl u_0)<|o_p rfl (Zf Zdc rfl rfl u_0)<|o_p rfl (Za rfl rfl u_0)<|o_p rfl (Zo Zyi (hself _ _ h11) rfl rfl (.cons u_0 (.cons u_1 .nil)))<|o_p rfl (Zo Zv0 (Zk9 _ _ _ _ h13) rfl rfl (.cons u_0 (.cons u_1 (.cons u_2 (.cons u_3 .nil)))))<|o_p rfl (Zc rfl rfl u_0)<|o_n) (by kernel_rfl) (fun a g hst hb=>?_)
    refine wp_ret ?_
    refine Z6 ?_
    refine Zr ?_
    obtain rfl:=Option.some.inj H0
    exact Z5 rfl hst hb (Zk (s:=4)) (hst.at 0 rfl)
   ·replace H0:=Zw hc9 H0
    refine r_s (L:=[(0,_)]) (T:=[⟨[.old 0],_,[],[],[62]⟩,⟨[.op 0 0],_,[],[0],[63]⟩,⟨[.op 1 0],_,[],[0,1],[64]⟩,⟨[.op 2 0],_,[],[0,1,2],[65]⟩,⟨[.op 3 0],_,[],Lr 4,[66]⟩,⟨[.op 4 0],_,[],Lr 5,[61]⟩]) (F:=[.old 0,.op 5 0]) (hst.pick [0] rfl) hb Zb
     (o_p rfl (Za rfl rfl u_0)<|o_p rfl (Zq rfl rfl (Opd.imp u_0 (fun _ _ h=>Zx h3 h)) (fun _ _ ⟨_,_,_,e,_⟩=>⟨_,e⟩))<|o_p rfl (Zd Zep rfl rfl u_0)<|o_p rfl (Zf Zdc rfl rfl u_0)<|o_p rfl (Zos Tryz.underlying28 rfl rfl u_0 (Zft _))<|o_p rfl (Zc rfl rfl u_0)<|o_n) (by kernel_rfl) (fun a g hst hb=>?_)
    refine wp_cond_split (hst.bool 1 rfl) (fun hc14=>?_) (fun hc14=>?_)
    ·replace H0:=Zv hc14 H0
     refine r_s (L:=[(0,_)]) (T:=[⟨[.old 0],_,[],[],[67]⟩,⟨[.op 0 0],_,[],[0],[68]⟩,⟨[.op 1 0],_,[],[0,1],[69]⟩,⟨[.op 2 0],_,[],[0,1,2],[70]⟩,⟨[.op 3 0],_,[],Lr 4,[4]⟩]) (F:=[.op 4 0]) (hst.pick [0] rfl) hb Zb
      (o_p rfl (Za rfl rfl u_0)<|o_p rfl (Zq rfl rfl (Opd.imp u_0 (fun _ _ h=>Zx h3 h)) (fun _ _ ⟨_,_,_,e,_⟩=>⟨_,e⟩))<|o_p rfl (Zd Zfg rfl rfl u_0)<|o_p rfl (Zf Zdc rfl rfl u_0)<|o_p rfl (Zc rfl rfl u_0)<|o_n) (by kernel_rfl) (fun a g hst hb=>?_)
     refine wp_ret ?_
     refine Z6 ?_
     refine Zr ?_
     obtain rfl:=Option.some.inj H0
     exact Z5 rfl hst hb (Zk (s:=4)) (hst.at 0 rfl)
    ·replace H0:=Zw hc14 H0
     refine r_s (L:=[(0,_)]) (T:=[⟨[.old 0],_,[],[],[72]⟩,⟨[.op 0 0],_,[],[0],[73]⟩,⟨[.op 1 0],_,[],[0,1],[74]⟩,⟨[.op 2 0],_,[],[0,1,2],[75]⟩,⟨[.op 3 0],_,[],Lr 4,[76]⟩,⟨[.op 4 0],_,[],Lr 5,[71]⟩]) (F:=[.old 0,.op 5 0]) (hst.pick [0] rfl) hb Zb
      (o_p rfl (Za rfl rfl u_0)<|o_p rfl (Zq rfl rfl (Opd.imp u_0 (fun _ _ h=>Zx h3 h)) (fun _ _ ⟨_,_,_,e,_⟩=>⟨_,e⟩))<|o_p rfl (Zd Zfg rfl rfl u_0)<|o_p rfl (Zf Zdc rfl rfl u_0)<|o_p rfl (Zos Tryz.underlying28 rfl rfl u_0 (Zft _))<|o_p rfl (Zc rfl rfl u_0)<|o_n) (by kernel_rfl) (fun a g hst hb=>?_)
     refine wp_cond_split (hst.bool 1 rfl) (fun hc15=>?_) (fun hc15=>?_)
     ·replace H0:=Zv hc15 H0
      refine r_s (L:=[(0,_)]) (T:=[⟨[.old 0],_,[],[],[77]⟩,⟨[.op 0 0],_,[],[0],[78]⟩,⟨[.op 1 0],_,[],[0,1],[79]⟩,⟨[.op 2 0],_,[],[0,1,2],[80]⟩,⟨[.op 3 0],_,[],Lr 4,[4]⟩]) (F:=[.op 4 0]) (hst.pick [0] rfl) hb Zb
       (o_p rfl (Za rfl rfl u_0)<|o_p rfl (Zq rfl rfl (Opd.imp u_0 (fun _ _ h=>Zx h3 h)) (fun _ _ ⟨_,_,_,e,_⟩=>⟨_,e⟩))<|o_p rfl (Zd Zep rfl rfl u_0)<|o_p rfl (Zf Zdc rfl rfl u_0)<|o_p rfl (Zc rfl rfl u_0)<|o_n) (by kernel_rfl) (fun a g hst hb=>?_)
      refine wp_ret ?_
      refine Z6 ?_
      refine Zr ?_
      obtain rfl:=Option.some.inj H0
      exact Z5 rfl hst hb (Zk (s:=4)) (hst.at 0 rfl)
     ·replace H0:=Zw hc15 H0
      refine wp_skip ?_
      refine Zbe ?_
      refine Zs ?_
      obtain ⟨r16,h17,H0⟩:=Zh H0
      refine r_s (L:=[(0,_)]) (T:=[⟨[.old 0],_,[],[],[81]⟩,⟨[.op 0 0],_,[],[0],[82]⟩,⟨[.op 1 0],_,[],[0,1],[83]⟩,⟨[.op 2 0],_,[],[0,1,2],[84]⟩,⟨[.op 3 0],_,[],Lr 4,[85]⟩,⟨[.op 4 0],_,[],Lr 5,[5]⟩]) (F:=[.old 0,.op 5 0]) (hst.pick [0] rfl) hb Zb
       (o_p rfl (Za rfl rfl u_0)<|o_p rfl (Zq rfl rfl (Opd.imp u_0 (fun _ _ h=>Zx h3 h)) (fun _ _ ⟨_,_,_,e,_⟩=>⟨_,e⟩))<|o_p rfl (Zd Zfg rfl rfl u_0)<|o_p rfl (Zf Zdc rfl rfl u_0)<|o_p rfl (Zo Zbcw (Zr4 _ h17) rfl rfl (.cons u_0 .nil))<|o_p rfl (Zc rfl rfl u_0)<|o_n) (by kernel_rfl) (fun a g hst hb=>?_)
      obtain ⟨n18,h19,H0⟩:=Zh H0;obtain ⟨r20,h21,H0⟩:=Zh H0;obtain ⟨r22,h23,H0⟩:=Zh H0
      refine r_s (T:=⟨[.old 1],_,[],[],[86]⟩ :: ⟨[.op 0 0],_,[],[0],[87]⟩ :: ⟨[.op 1 0],_,[],[0,1],[88]⟩ :: ⟨[.op 2 0],_,[],[0,1,2],[89]⟩ :: ⟨[.old 1],_,[],[],[90]⟩ :: ⟨[.op 4 0],_,[],[4],[91]⟩ :: ⟨[.op 5 0],_,[],[4,5],[92]⟩ :: ⟨[.op 6 0],_,[],[4,5,6],[93]⟩ :: ⟨[.old 0],_,[],[],[94]⟩ :: ⟨[.op 8 0],_,[],[8],[95]⟩ :: ⟨[.op 9 0],_,[],[8,9],[96]⟩ :: ⟨[.op 10 0],_,[],[8,9,10],[97]⟩ :: ⟨[.old 0],_,[],[],[98]⟩ :: ⟨[.op 12 0],_,[],[12],[99]⟩ :: ⟨[.op 13 0],_,[],[12,13],[100]⟩ :: ⟨[.op 14 0],_,[],[12,13,14],[101]⟩ :: ⟨[.old 1],_,[],[],[102]⟩ :: ⟨[.op 16 0],_,[],[16],[103]⟩ :: ⟨[.op 17 0],_,[],[16,17],[104]⟩ :: ⟨[.op 18 0],_,[],[16,17,18],[105]⟩ :: ⟨[.op 15 0,.op 19 0],_,[],List.range' 12 8,[106]⟩ :: ⟨[.op 3 0,.op 7 0,.op 11 0,.op 20 0],_,[],Lr 21,[107]⟩ :: ⟨[.op 21 0],_,[],Lr 22,[4]⟩ :: []) (F:=[.op 22 0]) hst hb Zb
       (o_p rfl (Za rfl rfl u_0)<|o_p rfl (Zq rfl rfl (Opd.imp u_0 (fun _ _ h=>Zx h19 h)) (fun _ _ ⟨_,_,_,e,_⟩=>⟨_,e⟩))<|o_p rfl (Zd Zfh rfl rfl u_0)<|o_p rfl (Zf ty_9 rfl rfl u_0)<|o_p rfl (Za rfl rfl u_0)<|o_p rfl (Zq rfl rfl (Opd.imp u_0 (fun _ _ h=>Zx h19 h)) (fun _ _ ⟨_,_,_,e,_⟩=>⟨_,e⟩))<|o_p rfl (Zd Zht rfl rfl u_0)<|o_p rfl (Zf Zbc rfl rfl u_0)<|o_p rfl (Za rfl rfl u_0)<|o_p rfl (Zq rfl rfl (Opd.imp u_0 (fun _ _ h=>Zx h3 h)) (fun _ _ ⟨_,_,_,e,_⟩=>⟨_,e⟩))<|o_p rfl (Zd Zep rfl rfl u_0)<|o_p rfl (Zf Zdc rfl rfl u_0)<|o_p rfl (Za rfl rfl u_0)<|o_p rfl (Zq rfl rfl (Opd.imp u_0 (fun _ _ h=>Zx h3 h)) (fun _ _ ⟨_,_,_,e,_⟩=>⟨_,e⟩))<|o_p rfl (Zd Zfg rfl rfl u_0)<|o_p rfl (Zf Zdc rfl rfl u_0)<|o_p rfl (Za rfl rfl u_0)<|o_p rfl (Zq rfl rfl (Opd.imp u_0 (fun _ _ h=>Zx h19 h)) (fun _ _ ⟨_,_,_,e,_⟩=>⟨_,e⟩))<|o_p rfl (Zd Zfh rfl rfl u_0)<|o_p rfl (Zf ty_9 rfl rfl u_0)<|o_p rfl (Zo Zyi (hself _ _ h21) rfl rfl (.cons u_0 (.cons u_1 .nil)))<|o_p rfl (Zo Zv0 (Zk9 _ _ _ _ h23) rfl rfl (.cons u_0 (.cons u_1 (.cons u_2 (.cons u_3 .nil)))))<|o_p rfl (Zc rfl rfl u_0)<|o_n) (by kernel_rfl) (fun a g hst hb=>?_)
      refine wp_ret ?_
      obtain rfl:=Option.some.inj H0
      exact Z5 rfl hst hb (Zk (s:=4)) (hst.at 0 rfl)
theorem Znr:∀ (n:Nat) (a0:shelf_nodeT) (a1:ByteArray) {r:shelf_nodeT},Zgx n a0 a1=some r → FnOk Tryz.prog 60 [(Zba.pd a0),(pStr a1)] (Zba.pd r)
 | 0,_,_,_,h=>by simp [Zgx] at h
 | n + 1,a0,a1,_,h=>Zrz (Zgx n) (fun a0 a1 r h=>Znr n a0 a1 h) a0 a1 h
theorem Ztw (a0:shelf_nodeT) (a1:ByteArray) {r:shelf_nodeT} (h:Znt a0 a1=some r):FnOk Tryz.prog 60 [(Zba.pd a0),(pStr a1)] (Zba.pd r):=Znr _ a0 a1 h
theorem Zon (a0:Zn) (a1:ByteArray) {r:Zn × Bool} (h:Zef a0 a1=some r):FnOk Tryz.prog 39 [(Zy.pd a0),(pStr a1)] (pTup [(Zy.pd r.1),(Zbg r.2)]):=by
 have H0:=h
 unfold Zef at H0
 clear h
 refine Zbu (N:=24) Tryz.func39 rfl rfl (Nat.le_of_ble_eq_true rfl) rfl rfl (fun a g0 hst hb=>?_)
 refine r_s (T:=[⟨[.old 0],_,[],[],[2]⟩,⟨[],[(4,(pBox Zy 4 (default:Zn)))],[5],[],[4]⟩,⟨[],_,[],[],[5]⟩]) (F:=[.old 1,.op 0 0,.op 1 0]) hst hb Zb
  (o_p rfl (Zbq rfl rfl u_0)<|o_p rfl (Zbh (zs:=[.pointer none,.int .i64 0]) (by kernel_rfl) (fun g=>Zdp g) rfl rfl)<|o_p rfl (Zc rfl rfl c_b)<|o_n) (by kernel_rfl) (fun a g hst hb=>?_)
 refine wp_seq ?_
 obtain ⟨r1,h2,H0⟩:=Zh H0
 refine r_s (T:=[⟨[.old 1],_,[],[],[9]⟩,⟨[.old 0],_,[],[],[10]⟩,⟨[.op 0 0,.op 1 0],_,[],[0,1],[11]⟩,⟨[.op 2 0],_,[],[0,1,2],[8]⟩,⟨[.op 3 0],_,[],Lr 4,[12]⟩,⟨[.op 3 0],_,[],Lr 4,[13]⟩,⟨[],[(6,(pBox Zi 6 (default:Ze)))],[7],[],[6]⟩,⟨[.op 4 0,.op 6 0],_,[7],[0,1,2,3,4,6],[6]⟩,⟨[.op 5 0],_,[],Lr 8,[7]⟩]) (F:=[.old 0,.old 1,.old 2,.op 8 0]) hst hb Zb
  (o_p rfl (Zf Zbw rfl rfl u_0)<|o_p rfl (Za rfl rfl u_0)<|o_p rfl (Zo Zs9 (Zg3 _ _ h2) rfl rfl (.cons u_0 (.cons u_1 .nil)))<|o_p rfl (Za rfl rfl u_0)<|o_p rfl (Z0 rfl rfl u_0 rfl)<|o_p rfl (Z0 rfl rfl u_0 rfl)<|o_p rfl (Zbh (zs:=[.int .i64 0,.int .i64 0,.int .i64 0,.int .i64 0,.float .f64 0,.int .i64 0,.string ByteArray.empty,.slice none 0 0]) (by kernel_rfl) (fun g=>Zb4 g) rfl rfl)<|o_p rfl (Zb5 Zbc rfl rfl u_1 u_0)<|o_p rfl (Zc rfl rfl u_0)<|o_n) (by kernel_rfl) (fun a g hst hb=>?_)
 refine r_s (T:=[⟨[.old 3],_,[],[],[14]⟩,⟨[.op 0 0],_,[],[0],[15]⟩]) (F:=[.old 0,.old 1,.old 2,.op 1 0]) hst hb Zb
  (o_p rfl (Za rfl rfl u_0)<|o_p rfl (Zb2 rfl rfl u_0)<|o_n) (by kernel_rfl) (fun a g hst hb=>?_)
 refine wp_cond_split (hst.bool 3 rfl) (fun hc3=>?_) (fun hc3=>?_)
 ·replace H0:=Zv hc3 H0
  refine r_s (L:=[(2,_),(4,_)]) (T:=[⟨[.old 0],_,[],[],[16]⟩,⟨[.op 0 0,.old 1],_,[5],[0],[4]⟩,⟨[],_,[],[0,1],[5]⟩]) (F:=[.op 1 0,.op 2 0]) (hst.pick [1,2] rfl) hb Zb
   (o_p rfl (Zf Zbw rfl rfl u_0)<|o_p rfl (Z2 Zbw rfl rfl u_1 u_0)<|o_p rfl (Zc rfl rfl c_b)<|o_n) (by kernel_rfl) (fun a g hst hb=>?_)
  refine wp_ret ?_
  refine Zr ?_
  obtain rfl:=Option.some.inj H0
  obtain ⟨u0,hu0,hq0⟩:=Zbf (P:=Tryz.prog) Zbw (hst.at 0 rfl)
  exact Zdq rfl hst hb hu0 (Zk (s:=5)) (Zcw hq0 (hst.at 1 rfl))
 ·replace H0:=Zw hc3 H0
  refine wp_skip ?_
  refine Zs ?_
  obtain ⟨r4,h5,H0⟩:=Zh H0
  refine r_s (L:=[(1,_),(2,_),(4,_)]) (T:=[⟨[.old 1],_,[],[],[17]⟩,⟨[.op 0 0],_,[],[0],[18]⟩,⟨[.old 0],_,[],[],[19]⟩,⟨[.op 1 0,.op 2 0],_,[],[0,1,2],[20]⟩,⟨[.old 1],_,[],[],[21]⟩,⟨[.op 4 0],_,[],[4],[22]⟩,⟨[.op 3 0,.op 5 0],_,[],Lr 6,[23]⟩,⟨[.op 6 0,.old 2],_,[5],Lr 7,[4]⟩,⟨[],_,[],Lr 8,[5]⟩]) (F:=[.op 7 0,.op 8 0]) (hst.pick [0,1,2] rfl) hb Zb
   (o_p rfl (Zd Zqw rfl rfl u_0)<|o_p rfl (Zf Zdc rfl rfl u_0)<|o_p rfl (Za rfl rfl u_0)<|o_p rfl (Zo Zyi (Ztw _ _ h5) rfl rfl (.cons u_0 (.cons u_1 .nil)))<|o_p rfl (Zd Zto rfl rfl u_0)<|o_p rfl (Zf ty_3 rfl rfl u_0)<|o_p rfl (Zw6 rfl rfl u_0 u_1)<|o_p rfl (Z2 Zbw rfl rfl u_1 u_0)<|o_p rfl (Zc rfl rfl c_b)<|o_n) (by kernel_rfl) (fun a g hst hb=>?_)
  refine wp_ret ?_
  obtain rfl:=Option.some.inj H0
  obtain ⟨u0,hu0,hq0⟩:=Zbf (P:=Tryz.prog) Zbw (hst.at 0 rfl)
  exact Zdq rfl hst hb hu0 (Zk (s:=5)) (Zcw hq0 (hst.at 1 rfl))
theorem Zjj (a0:Z3) (a1:Zn) {r:Zn × (List Zu)} (h:Zd2 a0 a1=some r):FnMR Tryz.prog 15 Zcs a0 a0 [(Zy.pd a1)] (pTup [(Zy.pd r.1),(Z4.sl.pd r.2)]):=by
 have H0:=h
 unfold Zd2 at H0
 clear h
 refine Ztq (N:=116) Tryz.func15 rfl rfl (Nat.le_of_ble_eq_true rfl) rfl rfl (fun a g0 b0 hst hb=>?_)
 replace hst:St 116 [(0,(pEq (ptrB b0 0))),(1,(Zy.pd a1)),(1002,(pSJ Zbp Zcc (hpL (pRow Zm 68 1000000 (Zdo a0))) 0 b0 a0))] _ _:=Zrf hst
 refine r_s (T:=[⟨[.old 1],_,[4],[],[3]⟩,⟨[],[(4,(pBox Zy 4 (default:Zn)))],[5],[],[4]⟩,⟨[],[(5,(Z4.sl.pd ([]:List Zu)))],[],[],[5]⟩]) (F:=[.old 0,.op 0 0,.op 1 0,.old 2]) hst hb Zb
  (o_p rfl (Zkm rfl rfl u_0)<|o_p rfl (Zbh (zs:=[.pointer none,.int .i64 0]) (by kernel_rfl) (fun g=>Zdp g) rfl rfl)<|o_p rfl (Zc rfl rfl (Opd.c (fun g=>Zgv g)))<|o_n) (by kernel_rfl) (fun a g hst hb=>?_)
 refine r_s (T:=[⟨[],[(6,(pRow Z4 40 6 ([]:List Zu)))],[],[],[6]⟩]) (F:=[.old 0,.old 1,.old 2,.op 0 0,.old 3]) hst hb Zb
  (o_p rfl (Zc rfl rfl (Opd.c (fun g=>Zpg 6 g)))<|o_n) (by kernel_rfl) (fun a g hst hb=>?_)
 refine wp_seq ?_
 refine r_s (T:=⟨[.old 0],_,[],[],[18]⟩ :: ⟨[.op 0 0],_,[],[0],[19]⟩ :: ⟨[.op 1 0],_,[],[0,1],[20]⟩ :: ⟨[.op 2 0,.old 4],_,[],[0,1,2],[21]⟩ :: ⟨[.op 3 0],_,[],Lr 4,[22]⟩ :: ⟨[.op 4 0],_,[],Lr 5,[23]⟩ :: ⟨[.op 5 0,.old 0],_,[],Lr 6,[24]⟩ :: ⟨[.op 5 0,.op 6 0],_,[],Lr 7,[25]⟩ :: ⟨[.op 5 0,.op 7 0],_,[],Lr 8,[26]⟩ :: ⟨[.op 5 0,.op 8 0],_,[],Lr 9,[27]⟩ :: ⟨[.op 5 0,.op 9 0,.old 4],_,[],Lr 10,[28]⟩ :: ⟨[.op 5 0,.op 10 0],_,[],Lr 11,[29]⟩ :: ⟨[.op 5 0,.op 11 0],_,[],Lr 12,[30]⟩ :: []) (F:=[.old 0,.old 1,.old 2,.old 3,.op 12 0,.old 4]) hst hb Zb
  (o_p rfl (Za rfl rfl u_0)<|o_p rfl (Zq rfl rfl u_0 (fun _ _ h=>⟨_,h⟩))<|o_p rfl (Zcd Zn2 rfl rfl u_0)<|o_p rfl (Zfx (u:=a0.over) ty_4 (fun g s cs h _=>kp_4 h) rfl rfl u_1 u_0)<|o_p rfl (Zb2 rfl rfl u_0)<|o_p rfl (Za rfl rfl u_0)<|o_g (g_f rfl rfl rfl (fun hG=>Za rfl rfl u_0))<|o_g (g_f rfl rfl rfl (fun hG=>Zq rfl rfl (Opd.gd hG u_0) (fun _ _ h=>⟨_,h⟩)))<|o_g (g_f rfl rfl rfl (fun hG=>Zcd Znz rfl rfl (Opd.gd hG u_0)))<|o_g (g_f rfl rfl rfl (fun hG=>Zcd Z8c rfl rfl (Opd.gd hG u_0)))<|o_g (g_f rfl rfl rfl (fun hG=>Zfx (u:=a0.out.Code) Zj6 (fun g s cs h _=>Z5r h) rfl rfl u_1 (Opd.gd hG u_0)))<|o_g (g_f rfl rfl rfl (fun hG=>Zdk rfl rfl (Opd.gd hG u_0) c_i))<|o_p rfl (Zbo rfl rfl u_0 (fun hz=>(Opd.gd (bNF hz) u_1)))<|o_n) (by kernel_rfl) (fun a g hst hb=>?_)
 refine wp_cond_split (hst.bool 4 rfl) (fun hc1=>?_) (fun hc1=>?_)
 ·replace H0:=Zv hc1 H0
  refine r_s (L:=[(0,_),(3,_),(4,_),(1002,_)]) (T:=[⟨[.old 1],_,[],[],[31]⟩,⟨[.op 0 0,.old 2],_,[5],[0],[4]⟩,⟨[],[(5,(Z4.sl.pd ([]:List Zu)))],[],[0,1],[5]⟩]) (F:=[.old 0,.op 1 0,.op 2 0,.old 3]) (hst.pick [0,1,2,5] rfl) hb Zb
   (o_p rfl (Zb0 Zbw rfl rfl u_0)<|o_p rfl (Z2 Zbw rfl rfl u_1 u_0)<|o_p rfl (Zc rfl rfl (Opd.c (fun g=>Zgv g)))<|o_n) (by kernel_rfl) (fun a g hst hb=>?_)
  refine wp_ret ?_
  refine Zr ?_
  obtain rfl:=Option.some.inj H0
  obtain ⟨u0,hu0,hq0⟩:=Zbf (P:=Tryz.prog) Zbw (hst.at 1 rfl)
  exact Zvu rfl hst hb hu0 (Zk (s:=5)) (Zcw hq0 (hst.at 2 rfl)) (hst.at 3 rfl)
 ·replace H0:=Zw hc1 H0
  refine wp_skip ?_
  refine Zs ?_
  refine r_s (L:=[(0,_),(3,_),(4,_),(6,_),(1002,_)]) (T:=[⟨[],[(7,(pRow Kd.str 9 7 ([]:List ByteArray)))],[],[],[7]⟩]) (F:=[.old 0,.old 1,.old 2,.old 3,.op 0 0,.old 4]) (hst.pick [0,1,2,3,5] rfl) hb Zb
   (o_p rfl (Zc rfl rfl (Opd.c (fun g=>Zpg 7 g)))<|o_n) (by kernel_rfl) (fun a g hst hb=>?_)
  refine wp_seq ?_
  refine r_s (T:=[⟨[.old 0],_,[],[],[32]⟩,⟨[.op 0 0],_,[],[0],[33]⟩,⟨[.op 1 0],_,[],[0,1],[34]⟩,⟨[.op 2 0],_,[],[0,1,2],[35]⟩,⟨[.op 3 0,.old 5],_,[],Lr 4,[36]⟩,⟨[.op 4 0],_,[],Lr 5,[37]⟩,⟨[],_,[],[],[38]⟩]) (F:=[.old 0,.old 1,.old 2,.old 3,.old 4,.op 4 0,.op 5 0,.op 6 0,.old 5]) hst hb Zb
   (o_p rfl (Za rfl rfl u_0)<|o_p rfl (Zq rfl rfl u_0 (fun _ _ h=>⟨_,h⟩))<|o_p rfl (Zcd Zwb rfl rfl u_0)<|o_p rfl (Zcd Zw2 rfl rfl u_0)<|o_p rfl (Zfx (u:=a0.d.Acts) Zkf (fun g s cs h _=>Zy8 h) rfl rfl u_1 u_0)<|o_p rfl (Zb1 Tryz.underlying23 rfl rfl u_0)<|o_p rfl (Za rfl rfl c_i)<|o_n) (by kernel_rfl) (fun a g hst hb=>?_)
  obtain ⟨z20,hz1,H0⟩:=Zh H0
  refine Zca (fun a w=>∃ (y18:List Zu) (y19:List ByteArray) (g:G),w=g.w ∧ St 116 [(0,(pEq (ptrB b0 0))),(3,(pBox Zy 3 a1)),(4,(pBox Zy 4 (default:Zn))),(6,(pRow Z4 40 6 y18)),(7,(pRow Kd.str 9 7 y19)),(1002,(pSJ Zbp Zcc (hpL (pRow Zm 68 1000000 (Zdo a0))) 0 b0 a0))] a g ∧ Base g0 g ∧ (y18,y19)=z20) ?_ ?_
  ·rintro a w ⟨y18,y19,g,rfl,hst,hb,rfl⟩
   refine Zs ?_
   refine wp_seq ?_
   refine r_s (T:=[⟨[.old 4],_,[],[],[63]⟩,⟨[.op 0 0],_,[],[0],[64]⟩,⟨[],_,[],[],[65]⟩]) (F:=[.old 0,.old 1,.old 2,.old 3,.old 4,.op 0 0,.op 1 0,.op 2 0,.old 5]) hst hb Zb
    (o_p rfl (Za rfl rfl u_0)<|o_p rfl (Zb1 Tryz.underlying26 rfl rfl (Opd.imp u_0 (fun _ _ h=>Zgi h)))<|o_p rfl (Za rfl rfl c_i)<|o_n) (by kernel_rfl) (fun a g hst hb=>?_)
   obtain ⟨z33,hz2,H0⟩:=Zh H0
   refine Zca (fun a w=>∃ (y32:Zn) (g:G),w=g.w ∧ St 116 [(0,(pEq (ptrB b0 0))),(3,(pBox Zy 3 y32)),(4,(pBox Zy 4 (default:Zn))),(6,(pRow Z4 40 6 y18)),(7,(pRow Kd.str 9 7 y19)),(1002,(pSJ Zbp Zcc (hpL (pRow Zm 68 1000000 (Zdo a0))) 0 b0 a0))] a g ∧ Base g0 g ∧ y32=z33) ?_ ?_
   ·rintro a w ⟨y32,g,rfl,hst,hb,rfl⟩
    refine Zs ?_
    refine wp_seq ?_
    refine r_s (T:=[⟨[.old 4],_,[],[],[87]⟩,⟨[.op 0 0],_,[],[0],[88]⟩,⟨[],_,[],[],[89]⟩]) (F:=[.old 0,.old 1,.old 2,.old 3,.op 0 0,.op 1 0,.op 2 0,.old 5]) hst hb Zb
     (o_p rfl (Za rfl rfl u_0)<|o_p rfl (Zb1 Tryz.underlying26 rfl rfl (Opd.imp u_0 (fun _ _ h=>Zgi h)))<|o_p rfl (Za rfl rfl c_i)<|o_n) (by kernel_rfl) (fun a g hst hb=>?_)
    obtain ⟨z46,hz3,H0⟩:=Zh H0
    refine Zca (fun a w=>∃ (y45:Zn) (g:G),w=g.w ∧ St 116 [(0,(pEq (ptrB b0 0))),(3,(pBox Zy 3 y45)),(4,(pBox Zy 4 (default:Zn))),(6,(pRow Z4 40 6 y18)),(1002,(pSJ Zbp Zcc (hpL (pRow Zm 68 1000000 (Zdo a0))) 0 b0 a0))] a g ∧ Base g0 g ∧ y45=z46) ?_ ?_
    ·rintro a w ⟨y45,g,rfl,hst,hb,rfl⟩
     refine Zs ?_
     obtain ⟨r47,h48,H0⟩:=Zh H0
     refine r_s (T:=[⟨[.old 1],_,[],[],[111]⟩,⟨[.old 3],_,[],[],[112]⟩,⟨[.op 1 0],_,[],[1],[113]⟩,⟨[.op 2 0],_,[],[1,2],[114]⟩,⟨[.op 3 0],_,[],[1,2,3],[115]⟩,⟨[.op 0 0,.old 2],_,[5],Lr 4,[4]⟩,⟨[.op 4 0],_,[],Lr 6,[5]⟩]) (F:=[.old 0,.op 5 0,.op 6 0,.old 4]) hst hb Zb
      (o_p rfl (Zb0 Zbw rfl rfl u_0)<|o_p rfl (Za rfl rfl u_0)<|o_p rfl (Z1u rfl rfl (Opd.imp u_0 (fun _ _ h=>Zgi h)))<|o_p rfl (Zo Z65 (Zrw _ h48) rfl rfl (.cons u_0 .nil))<|o_p rfl (Z0g Zhr rfl rfl u_0)<|o_p rfl (Z2 Zbw rfl rfl u_1 u_0)<|o_p rfl (Zc rfl rfl u_0)<|o_n) (by kernel_rfl) (fun a g hst hb=>?_)
     refine wp_ret ?_
     obtain rfl:=Option.some.inj H0
     obtain ⟨u0,hu0,hq0⟩:=Zbf (P:=Tryz.prog) Zbw (hst.at 1 rfl)
     exact Zvu rfl hst hb hu0 (Zk (s:=5)) (Zcw hq0 (hst.at 2 rfl)) (hst.at 3 rfl)
    ·refine wp_block ?_
     refine wp_loop_ghost (fun n a w=>∃ (x34:Zn) (x35:Int) (g:G),w=g.w ∧ St 116 [(0,(pEq (ptrB b0 0))),(3,(pBox Zy 3 x34)),(4,(pBox Zy 4 (default:Zn))),(6,(pRow Z4 40 6 y18)),(87,(pRow Kd.str 9 7 y19)),(88,(pInt .i64 (y19.length:Int))),(89,(pInt .i64 x35)),(1002,(pSJ Zbp Zcc (hpL (pRow Zm 68 1000000 (Zdo a0))) 0 b0 a0))] a g ∧ Base g0 g ∧ Zdt a0 y19 n x34 x35=some z46) (Int.toNat ((y19.length:Int) - (0:Int)) + 1) ⟨y32,(0:Int),g,rfl,(hst.pick [0,1,2,3,4,5,6,7] rfl),hb,hz3⟩ (fun n a w hI=>?_)
     obtain ⟨x34,x35,g,rfl,hst,hb,H1⟩:=hI
     cases n with
     | zero=>exact absurd H1 (by simp [Zdt])
     | succ n =>
      rw [Zdt] at H1
      refine r_s (T:=[⟨[.old 6,.old 5],_,[],[],[90]⟩]) (F:=[.old 0,.old 1,.old 2,.old 3,.old 4,.old 5,.old 6,.op 0 0,.old 7]) hst hb Zb
       (o_p rfl (Zci rfl rfl u_0 u_1)<|o_n) (by kernel_rfl) (fun a g hst hb=>?_)
      refine wp_seq ?_
      refine wp_cond_split (hst.bool 7 rfl) (fun hc36=>?_) (fun hc36=>?_)
      ·replace H1:=Zv hc36 H1
       refine wp_skip ?_
       refine Zs ?_
       refine wp_seq ?_
       refine Zca (fun a w=>∃ (j44:Zn) (g:G),w=g.w ∧ St 116 [(0,(pEq (ptrB b0 0))),(3,(pBox Zy 3 j44)),(4,(pBox Zy 4 (default:Zn))),(6,(pRow Z4 40 6 y18)),(87,(pRow Kd.str 9 7 y19)),(88,(pInt .i64 (y19.length:Int))),(89,(pInt .i64 x35)),(1002,(pSJ Zbp Zcc (hpL (pRow Zm 68 1000000 (Zdo a0))) 0 b0 a0))] a g ∧ Base g0 g ∧ Zho x35 (Zdt a0 y19 n) j44=some z46) ?_ ?_
       ·rintro a w ⟨j44,g,rfl,hst,hb,H1⟩
        unfold Zho at H1
        refine Zs ?_
        refine r_g (T:=[⟨[.old 6],_,[],[],[110]⟩,⟨[.op 0 0],_,[],[0],[89]⟩]) (F:=[.old 0,.old 1,.old 2,.old 3,.old 4,.old 5,.op 1 0,.old 7]) hst hb Zb
         (o_p rfl (Zb7 rfl rfl u_0 c_i rfl)<|o_p rfl (Za rfl rfl u_0)<|o_n) (by kernel_rfl) (fun a g hst hb=>?_)
        exact ⟨n,Nat.lt_succ_self _,j44,(IntKind.i64.wrap (x35 + (1:Int))),g,rfl,(hst.pick [0,1,2,3,4,5,6,7] rfl),hb,H1⟩
       ·refine wp_block ?_
        obtain ⟨e37,h38,H1⟩:=Zh H1
        refine r_s (L:=[(0,_),(3,_),(4,_),(6,_),(87,_),(88,_),(89,_),(1002,_)]) (T:=[⟨[.old 4,.old 6],_,[],[],[91]⟩,⟨[.op 0 0],_,[],[0],[92]⟩,⟨[.op 1 0],_,[],[0,1],[15]⟩]) (F:=[.old 0,.old 1,.old 2,.old 3,.op 2 0,.old 4,.old 5,.old 6,.old 7]) (hst.pick [0,1,2,3,4,5,6,8] rfl) hb Zb
         (o_p rfl (Zbl Tryz.underlying26 sz_9 rfl rfl (Opd.imp u_0 (fun _ _ h=>Zgi h)) u_1 h38)<|o_p rfl (Zf ty_9 rfl rfl u_0)<|o_p rfl (Zc rfl rfl u_0)<|o_n) (by kernel_rfl) (fun a g hst hb=>?_)
        obtain ⟨r39,h40,H1⟩:=Zh H1
        refine r_s (T:=⟨[.old 0],_,[],[],[94]⟩ :: ⟨[.op 0 0],_,[],[0],[95]⟩ :: ⟨[.op 1 0],_,[],[0,1],[96]⟩ :: ⟨[.op 2 0,.old 8],_,[],[0,1,2],[97]⟩ :: ⟨[.old 4],_,[],[],[98]⟩ :: ⟨[.op 3 0,.op 4 0],_,[],Lr 5,[99]⟩ :: ⟨[.op 5 0],_,[],Lr 6,[93]⟩ :: ⟨[.op 6 0],_,[],Lr 7,[100]⟩ :: ⟨[.op 6 0],_,[],Lr 7,[101]⟩ :: ⟨[],[(16,(pBox Zi 16 (default:Ze)))],[17],[],[16]⟩ :: ⟨[.op 7 0,.op 9 0],_,[17],[0,1,2,3,4,5,6,7,9],[16]⟩ :: ⟨[.op 8 0],_,[],Lr 11,[17]⟩ :: []) (F:=[.old 0,.old 1,.old 2,.old 3,.old 4,.op 10 0,.op 11 0,.old 5,.old 6,.old 7,.old 8]) hst hb Zb
         (o_p rfl (Za rfl rfl u_0)<|o_p rfl (Zq rfl rfl u_0 (fun _ _ h=>⟨_,h⟩))<|o_p rfl (Zcd Ztd rfl rfl u_0)<|o_p rfl (Zfx (u:=a0.now) Zbw (fun g s cs h _=>kp_2 h) rfl rfl u_1 u_0)<|o_p rfl (Za rfl rfl u_0)<|o_p rfl (Zo Zs9 (Zg3 _ _ h40) rfl rfl (.cons u_0 (.cons u_1 .nil)))<|o_p rfl (Za rfl rfl u_0)<|o_p rfl (Z0 rfl rfl u_0 rfl)<|o_p rfl (Z0 rfl rfl u_0 rfl)<|o_p rfl (Zbh (zs:=[.int .i64 0,.int .i64 0,.int .i64 0,.int .i64 0,.float .f64 0,.int .i64 0,.string ByteArray.empty,.slice none 0 0]) (by kernel_rfl) (fun g=>Zb4 g) rfl rfl)<|o_p rfl (Zb5 Zbc rfl rfl u_1 u_0)<|o_p rfl (Zc rfl rfl u_0)<|o_n) (by kernel_rfl) (fun a g hst hb=>?_)
        refine r_s (T:=[⟨[.old 6],_,[],[],[102]⟩]) (F:=[.old 0,.old 1,.old 2,.old 3,.old 4,.old 5,.old 7,.old 8,.old 9,.op 0 0,.old 10]) hst hb Zb
         (o_p rfl (Za rfl rfl u_0)<|o_n) (by kernel_rfl) (fun a g hst hb=>?_)
        refine wp_cond_split (hst.bool 9 rfl) (fun hc41=>?_) (fun hc41=>?_)
        ·replace H1:=Zv hc41 H1
         obtain ⟨r42,h43,H1⟩:=Zh H1
         refine r_g (L:=[(0,_),(3,_),(4,_),(6,_),(15,_),(16,_),(87,_),(88,_),(89,_),(1002,_)]) (T:=[⟨[.old 1],_,[],[],[104]⟩,⟨[.old 4],_,[],[],[105]⟩,⟨[.old 5],_,[],[],[106]⟩,⟨[.op 0 0,.op 1 0,.op 2 0],_,[],[0,1,2],[107]⟩,⟨[.op 3 0],_,[],Lr 4,[103]⟩,⟨[.op 4 0],_,[],Lr 5,[108]⟩,⟨[.op 4 0],_,[],Lr 5,[109]⟩,⟨[.op 5 0,.old 1],_,[4],Lr 6,[3]⟩]) (F:=[.old 0,.op 7 0,.old 2,.old 3,.old 6,.old 7,.old 8,.old 9]) (hst.pick [0,1,2,3,4,5,6,7,8,10] rfl) hb Zb
          (o_p rfl (Zb0 Zbw rfl rfl u_0)<|o_p rfl (Za rfl rfl u_0)<|o_p rfl (Zf Zbc rfl rfl u_0)<|o_p rfl (Zo Zyt (Zj3 _ _ _ h43) rfl rfl (.cons u_0 (.cons u_1 (.cons u_2 .nil))))<|o_p rfl (Za rfl rfl u_0)<|o_p rfl (Z0 rfl rfl u_0 rfl)<|o_p rfl (Z0 rfl rfl u_0 rfl)<|o_p rfl (Z2 Zbw rfl rfl u_1 u_0)<|o_n) (by kernel_rfl) (fun a g hst hb=>?_)
         refine Zbe ?_
         exact ⟨r42.1,g,rfl,(hst.pick [0,1,2,3,4,5,6,7] rfl),hb,H1⟩
        ·replace H1:=Zw hc41 H1
         refine wp_skip ?_
         refine Zbe ?_
         exact ⟨x34,g,rfl,(hst.pick [0,1,2,3,6,7,8,10] rfl),hb,H1⟩
      ·replace H1:=Zw hc36 H1
       refine wp_exit ?_
       refine Zb3 ?_
       refine Zb3 ?_
       refine Zcn ?_
       exact ⟨x34,g,rfl,(hst.pick [0,1,2,3,8] rfl),hb,Option.some.inj H1⟩
   ·refine wp_block ?_
    refine wp_loop_ghost (fun n a w=>∃ (x21:Zn) (x22:Int) (g:G),w=g.w ∧ St 116 [(0,(pEq (ptrB b0 0))),(3,(pBox Zy 3 x21)),(4,(pBox Zy 4 (default:Zn))),(6,(pRow Z4 40 6 y18)),(7,(pRow Kd.str 9 7 y19)),(63,(pRow Kd.str 9 7 y19)),(64,(pInt .i64 (y19.length:Int))),(65,(pInt .i64 x22)),(1002,(pSJ Zbp Zcc (hpL (pRow Zm 68 1000000 (Zdo a0))) 0 b0 a0))] a g ∧ Base g0 g ∧ Zdv a0 y19 n x21 x22=some z33) (Int.toNat ((y19.length:Int) - (0:Int)) + 1) ⟨a1,(0:Int),g,rfl,(hst.pick [0,1,2,3,4,5,6,7,8] rfl),hb,hz2⟩ (fun n a w hI=>?_)
    obtain ⟨x21,x22,g,rfl,hst,hb,H1⟩:=hI
    cases n with
    | zero=>exact absurd H1 (by simp [Zdv])
    | succ n =>
     rw [Zdv] at H1
     refine r_s (T:=[⟨[.old 7,.old 6],_,[],[],[66]⟩]) (F:=[.old 0,.old 1,.old 2,.old 3,.old 4,.old 5,.old 6,.old 7,.op 0 0,.old 8]) hst hb Zb
      (o_p rfl (Zci rfl rfl u_0 u_1)<|o_n) (by kernel_rfl) (fun a g hst hb=>?_)
     refine wp_seq ?_
     refine wp_cond_split (hst.bool 8 rfl) (fun hc23=>?_) (fun hc23=>?_)
     ·replace H1:=Zv hc23 H1
      refine wp_skip ?_
      refine Zs ?_
      refine wp_seq ?_
      refine Zca (fun a w=>∃ (j31:Zn) (g:G),w=g.w ∧ St 116 [(0,(pEq (ptrB b0 0))),(3,(pBox Zy 3 j31)),(4,(pBox Zy 4 (default:Zn))),(6,(pRow Z4 40 6 y18)),(7,(pRow Kd.str 9 7 y19)),(63,(pRow Kd.str 9 7 y19)),(64,(pInt .i64 (y19.length:Int))),(65,(pInt .i64 x22)),(1002,(pSJ Zbp Zcc (hpL (pRow Zm 68 1000000 (Zdo a0))) 0 b0 a0))] a g ∧ Base g0 g ∧ Zhm x22 (Zdv a0 y19 n) j31=some z33) ?_ ?_
      ·rintro a w ⟨j31,g,rfl,hst,hb,H1⟩
       unfold Zhm at H1
       refine Zs ?_
       refine r_g (T:=[⟨[.old 7],_,[],[],[86]⟩,⟨[.op 0 0],_,[],[0],[65]⟩]) (F:=[.old 0,.old 1,.old 2,.old 3,.old 4,.old 5,.old 6,.op 1 0,.old 8]) hst hb Zb
        (o_p rfl (Zb7 rfl rfl u_0 c_i rfl)<|o_p rfl (Za rfl rfl u_0)<|o_n) (by kernel_rfl) (fun a g hst hb=>?_)
       exact ⟨n,Nat.lt_succ_self _,j31,(IntKind.i64.wrap (x22 + (1:Int))),g,rfl,(hst.pick [0,1,2,3,4,5,6,7,8] rfl),hb,H1⟩
      ·refine wp_block ?_
       obtain ⟨e24,h25,H1⟩:=Zh H1
       refine r_s (L:=[(0,_),(3,_),(4,_),(6,_),(7,_),(63,_),(64,_),(65,_),(1002,_)]) (T:=[⟨[.old 5,.old 7],_,[],[],[67]⟩,⟨[.op 0 0],_,[],[0],[68]⟩,⟨[.op 1 0],_,[],[0,1],[11]⟩]) (F:=[.old 0,.old 1,.old 2,.old 3,.old 4,.op 2 0,.old 5,.old 6,.old 7,.old 8]) (hst.pick [0,1,2,3,4,5,6,7,9] rfl) hb Zb
        (o_p rfl (Zbl Tryz.underlying26 sz_9 rfl rfl (Opd.imp u_0 (fun _ _ h=>Zgi h)) u_1 h25)<|o_p rfl (Zf ty_9 rfl rfl u_0)<|o_p rfl (Zc rfl rfl u_0)<|o_n) (by kernel_rfl) (fun a g hst hb=>?_)
       obtain ⟨r26,h27,H1⟩:=Zh H1
       refine r_s (T:=⟨[.old 0],_,[],[],[70]⟩ :: ⟨[.op 0 0],_,[],[0],[71]⟩ :: ⟨[.op 1 0],_,[],[0,1],[72]⟩ :: ⟨[.op 2 0,.old 9],_,[],[0,1,2],[73]⟩ :: ⟨[.old 5],_,[],[],[74]⟩ :: ⟨[.op 3 0,.op 4 0],_,[],Lr 5,[75]⟩ :: ⟨[.op 5 0],_,[],Lr 6,[69]⟩ :: ⟨[.op 6 0],_,[],Lr 7,[76]⟩ :: ⟨[.op 6 0],_,[],Lr 7,[77]⟩ :: ⟨[],[(12,(pBox Zi 12 (default:Ze)))],[13],[],[12]⟩ :: ⟨[.op 7 0,.op 9 0],_,[13],[0,1,2,3,4,5,6,7,9],[12]⟩ :: ⟨[.op 8 0],_,[],Lr 11,[13]⟩ :: []) (F:=[.old 0,.old 1,.old 2,.old 3,.old 4,.old 5,.op 11 0,.old 6,.old 7,.old 8,.old 9]) hst hb Zb
        (o_p rfl (Za rfl rfl u_0)<|o_p rfl (Zq rfl rfl u_0 (fun _ _ h=>⟨_,h⟩))<|o_p rfl (Zcd Ztd rfl rfl u_0)<|o_p rfl (Zfx (u:=a0.now) Zbw (fun g s cs h _=>kp_2 h) rfl rfl u_1 u_0)<|o_p rfl (Za rfl rfl u_0)<|o_p rfl (Zo Zs9 (Zg3 _ _ h27) rfl rfl (.cons u_0 (.cons u_1 .nil)))<|o_p rfl (Za rfl rfl u_0)<|o_p rfl (Z0 rfl rfl u_0 rfl)<|o_p rfl (Z0 rfl rfl u_0 rfl)<|o_p rfl (Zbh (zs:=[.int .i64 0,.int .i64 0,.int .i64 0,.int .i64 0,.float .f64 0,.int .i64 0,.string ByteArray.empty,.slice none 0 0]) (by kernel_rfl) (fun g=>Zb4 g) rfl rfl)<|o_p rfl (Zb5 Zbc rfl rfl u_1 u_0)<|o_p rfl (Zc rfl rfl u_0)<|o_n) (by kernel_rfl) (fun a g hst hb=>?_)
       refine r_s (T:=[⟨[.old 6],_,[],[],[78]⟩,⟨[.op 0 0],_,[],[0],[79]⟩]) (F:=[.old 0,.old 1,.old 2,.old 3,.old 4,.old 5,.old 7,.old 8,.old 9,.op 1 0,.old 10]) hst hb Zb
        (o_p rfl (Za rfl rfl u_0)<|o_p rfl (Zb2 rfl rfl u_0)<|o_n) (by kernel_rfl) (fun a g hst hb=>?_)
       refine wp_cond_split (hst.bool 9 rfl) (fun hc28=>?_) (fun hc28=>?_)
       ·replace H1:=Zv hc28 H1
        obtain ⟨r29,h30,H1⟩:=Zh H1
        refine r_g (L:=[(0,_),(3,_),(4,_),(6,_),(7,_),(11,_),(63,_),(64,_),(65,_),(1002,_)]) (T:=[⟨[.old 1],_,[],[],[81]⟩,⟨[.old 5],_,[],[],[82]⟩,⟨[.op 0 0,.op 1 0],_,[],[0,1],[83]⟩,⟨[.op 2 0],_,[],[0,1,2],[80]⟩,⟨[.op 3 0],_,[],Lr 4,[84]⟩,⟨[.op 3 0],_,[],Lr 4,[85]⟩,⟨[.op 4 0,.old 1],_,[4],Lr 5,[3]⟩]) (F:=[.old 0,.op 6 0,.old 2,.old 3,.old 4,.old 6,.old 7,.old 8,.old 9]) (hst.pick [0,1,2,3,4,5,6,7,8,10] rfl) hb Zb
         (o_p rfl (Zb0 Zbw rfl rfl u_0)<|o_p rfl (Za rfl rfl u_0)<|o_p rfl (Zo Z7k (Zon _ _ h30) rfl rfl (.cons u_0 (.cons u_1 .nil)))<|o_p rfl (Za rfl rfl u_0)<|o_p rfl (Z0 rfl rfl u_0 rfl)<|o_p rfl (Z0 rfl rfl u_0 rfl)<|o_p rfl (Z2 Zbw rfl rfl u_1 u_0)<|o_n) (by kernel_rfl) (fun a g hst hb=>?_)
        refine Zbe ?_
        exact ⟨r29.1,g,rfl,(hst.pick [0,1,2,3,4,5,6,7,8] rfl),hb,H1⟩
       ·replace H1:=Zw hc28 H1
        refine wp_skip ?_
        refine Zbe ?_
        exact ⟨x21,g,rfl,(hst.pick [0,1,2,3,4,6,7,8,10] rfl),hb,H1⟩
     ·replace H1:=Zw hc23 H1
      refine wp_exit ?_
      refine Zb3 ?_
      refine Zb3 ?_
      refine Zcn ?_
      exact ⟨x21,g,rfl,(hst.pick [0,1,2,3,4,9] rfl),hb,Option.some.inj H1⟩
  ·refine wp_block ?_
   refine wp_loop_ghost (fun n a w=>∃ (x2:List Zu) (x3:List ByteArray) (x4:Int) (g:G),w=g.w ∧ St 116 [(0,(pEq (ptrB b0 0))),(3,(pBox Zy 3 a1)),(4,(pBox Zy 4 (default:Zn))),(6,(pRow Z4 40 6 x2)),(7,(pRow Kd.str 9 7 x3)),(36,(Z4.sl.pd a0.d.Acts)),(37,(pInt .i64 (a0.d.Acts.length:Int))),(38,(pInt .i64 x4)),(1002,(pSJ Zbp Zcc (hpL (pRow Zm 68 1000000 (Zdo a0))) 0 b0 a0))] a g ∧ Base g0 g ∧ Zde a0 n x2 x3 x4=some z20) (Int.toNat ((a0.d.Acts.length:Int) - (0:Int)) + 1) ⟨([]:List Zu),([]:List ByteArray),(0:Int),g,rfl,(hst.pick [0,1,2,3,4,5,6,7,8] rfl),hb,hz1⟩ (fun n a w hI=>?_)
   obtain ⟨x2,x3,x4,g,rfl,hst,hb,H1⟩:=hI
   cases n with
   | zero=>exact absurd H1 (by simp [Zde])
   | succ n =>
    rw [Zde] at H1
    refine r_s (T:=[⟨[.old 7,.old 6],_,[],[],[39]⟩]) (F:=[.old 0,.old 1,.old 2,.old 3,.old 4,.old 5,.old 6,.old 7,.op 0 0,.old 8]) hst hb Zb
     (o_p rfl (Zci rfl rfl u_0 u_1)<|o_n) (by kernel_rfl) (fun a g hst hb=>?_)
    refine wp_seq ?_
    refine wp_cond_split (hst.bool 8 rfl) (fun hc5=>?_) (fun hc5=>?_)
    ·replace H1:=Zv hc5 H1
     refine wp_skip ?_
     refine Zs ?_
     refine wp_seq ?_
     refine Zca (fun a w=>∃ (j16:List Zu) (j17:List ByteArray) (g:G),w=g.w ∧ St 116 [(0,(pEq (ptrB b0 0))),(3,(pBox Zy 3 a1)),(4,(pBox Zy 4 (default:Zn))),(6,(pRow Z4 40 6 j16)),(7,(pRow Kd.str 9 7 j17)),(36,(Z4.sl.pd a0.d.Acts)),(37,(pInt .i64 (a0.d.Acts.length:Int))),(38,(pInt .i64 x4)),(1002,(pSJ Zbp Zcc (hpL (pRow Zm 68 1000000 (Zdo a0))) 0 b0 a0))] a g ∧ Base g0 g ∧ Zgn x4 (Zde a0 n) j16 j17=some z20) ?_ ?_
     ·rintro a w ⟨j16,j17,g,rfl,hst,hb,H1⟩
      unfold Zgn at H1
      refine Zs ?_
      refine r_g (T:=[⟨[.old 7],_,[],[],[62]⟩,⟨[.op 0 0],_,[],[0],[38]⟩]) (F:=[.old 0,.old 1,.old 2,.old 3,.old 4,.old 5,.old 6,.op 1 0,.old 8]) hst hb Zb
       (o_p rfl (Zb7 rfl rfl u_0 c_i rfl)<|o_p rfl (Za rfl rfl u_0)<|o_n) (by kernel_rfl) (fun a g hst hb=>?_)
      exact ⟨n,Nat.lt_succ_self _,j16,j17,(IntKind.i64.wrap (x4 + (1:Int))),g,rfl,(hst.pick [0,1,2,3,4,5,6,7,8] rfl),hb,H1⟩
     ·refine wp_block ?_
      obtain ⟨e6,h7,H1⟩:=Zh H1
      refine r_s (L:=[(0,_),(3,_),(4,_),(6,_),(7,_),(36,_),(37,_),(38,_),(1002,_)]) (T:=[⟨[.old 5,.old 7],_,[],[],[40]⟩,⟨[.op 0 0],_,[],[0],[41]⟩,⟨[],[(9,(pBox Z4 9 (default:Zu)))],[10],[],[9]⟩,⟨[.op 1 0,.op 2 0],_,[10],[0,1,2],[9]⟩]) (F:=[.old 0,.old 1,.old 2,.old 3,.old 4,.op 3 0,.old 5,.old 6,.old 7,.old 8]) (hst.pick [0,1,2,3,4,5,6,7,9] rfl) hb Zb
       (o_p rfl (Zbl Tryz.underlying23 Zo0 rfl rfl u_0 u_1 h7)<|o_p rfl (Zf Zh1 rfl rfl u_0)<|o_p rfl (Zbh (zs:=[.int .i64 0,.string ByteArray.empty,.int .i64 0,.float .f64 0,.string ByteArray.empty,.int .i64 0,.int .i64 0,.int .i64 0,.int .i64 0,.float .f64 0,.int .i64 0,.string ByteArray.empty,.slice none 0 0,.bool false]) (by kernel_rfl) (fun g=>Zo1 g) rfl rfl)<|o_p rfl (Zb5 Zh1 rfl rfl u_1 u_0)<|o_n) (by kernel_rfl) (fun a g hst hb=>?_)
      obtain ⟨r8,h9,H1⟩:=Zh H1
      refine r_s (T:=[⟨[.old 0],_,[],[],[42]⟩,⟨[.op 0 0],_,[],[0],[43]⟩,⟨[.op 1 0],_,[],[0,1],[44]⟩,⟨[.op 2 0,.old 9],_,[],[0,1,2],[45]⟩,⟨[.old 5],_,[],[],[46]⟩,⟨[.op 4 0],_,[],[4],[47]⟩,⟨[.op 3 0,.op 5 0],_,[],Lr 6,[48]⟩]) (F:=[.old 0,.old 1,.old 2,.old 3,.old 4,.old 5,.old 6,.old 7,.old 8,.op 6 0,.old 9]) hst hb Zb
       (o_p rfl (Za rfl rfl u_0)<|o_p rfl (Zq rfl rfl u_0 (fun _ _ h=>⟨_,h⟩))<|o_p rfl (Zcd Z1n rfl rfl u_0)<|o_p rfl (Zfx (u:=a0.split) Z7b (fun g s cs h _=>kp_1 h) rfl rfl u_1 u_0)<|o_p rfl (Zd Zic rfl rfl u_0)<|o_p rfl (Zf ty_9 rfl rfl u_0)<|o_p rfl (Zo Z7q (Zjb _ _ h9) rfl rfl (.cons u_0 (.cons u_1 .nil)))<|o_n) (by kernel_rfl) (fun a g hst hb=>?_)
      refine wp_cond_split (hst.bool 9 rfl) (fun hc10=>?_) (fun hc10=>?_)
      ·replace H1:=Zv hc10 H1
       obtain ⟨h11,H1⟩:=Zfz H1
       refine r_g (L:=[(0,_),(3,_),(4,_),(6,_),(7,_),(9,_),(36,_),(37,_),(38,_),(1002,_)]) (T:=[⟨[.old 3],_,[],[],[49]⟩,⟨[.old 5],_,[],[],[50]⟩,⟨[.op 1 0],_,[],[1],[51]⟩,⟨[.op 0 0,.op 2 0],_,[7],[0,1,2],[6,49,52]⟩,⟨[.op 3 0],_,[],Lr 4,[6]⟩]) (F:=[.old 0,.old 1,.old 2,.op 4 0,.old 4,.old 6,.old 7,.old 8,.old 9]) (hst.pick [0,1,2,3,4,5,6,7,8,10] rfl) hb Zb
        (o_p rfl (Za rfl rfl u_0)<|o_p rfl (Zf Zh1 rfl rfl u_0)<|o_p rfl (Ziw Zvs (xs:=[.tmp 50]) (.cons u_0 .nil) (by decide) rfl rfl)<|o_p rfl (Zfr Zvs rfl rfl u_0 u_1 h11)<|o_p rfl (Zc rfl rfl u_0)<|o_n) (by kernel_rfl) (fun a g hst hb=>?_)
       refine Zbe ?_
       exact ⟨(x2 ++ ([e6]:List Zu)),x3,g,rfl,(hst.pick [0,1,2,3,4,5,6,7,8] rfl),hb,H1⟩
      ·replace H1:=Zw hc10 H1
       obtain ⟨r12,h13,H1⟩:=Zh H1
       refine r_s (L:=[(0,_),(3,_),(4,_),(6,_),(7,_),(9,_),(36,_),(37,_),(38,_),(1002,_)]) (T:=[⟨[.old 5],_,[],[],[53]⟩,⟨[.op 0 0],_,[],[0],[54]⟩,⟨[.op 1 0],_,[],[0,1],[55]⟩,⟨[.op 2 0],_,[],[0,1,2],[56]⟩]) (F:=[.old 0,.old 1,.old 2,.old 3,.old 4,.old 5,.old 6,.old 7,.old 8,.op 3 0,.old 9]) (hst.pick [0,1,2,3,4,5,6,7,8,10] rfl) hb Zb
        (o_p rfl (Zd Zdh rfl rfl u_0)<|o_p rfl (Zf ty_3 rfl rfl u_0)<|o_p rfl (Zo Z68 (Zs1 _ h13) rfl rfl (.cons u_0 .nil))<|o_p rfl (Zb2 rfl rfl u_0)<|o_n) (by kernel_rfl) (fun a g hst hb=>?_)
       refine wp_cond_split (hst.bool 9 rfl) (fun hc14=>?_) (fun hc14=>?_)
       ·replace H1:=Zv hc14 H1
        obtain ⟨h15,H1⟩:=Zfz H1
        refine r_g (L:=[(0,_),(3,_),(4,_),(6,_),(7,_),(9,_),(36,_),(37,_),(38,_),(1002,_)]) (T:=[⟨[.old 4],_,[],[],[57]⟩,⟨[.old 5],_,[],[],[58]⟩,⟨[.op 1 0],_,[],[1],[59]⟩,⟨[.op 2 0],_,[],[1,2],[60]⟩,⟨[.op 0 0,.op 3 0],_,[8],Lr 4,[7,57,61]⟩,⟨[.op 4 0],_,[],Lr 5,[7]⟩]) (F:=[.old 0,.old 1,.old 2,.old 3,.op 5 0,.old 6,.old 7,.old 8,.old 9]) (hst.pick [0,1,2,3,4,5,6,7,8,10] rfl) hb Zb
         (o_p rfl (Za rfl rfl u_0)<|o_p rfl (Zd Zic rfl rfl u_0)<|o_p rfl (Zf ty_9 rfl rfl u_0)<|o_p rfl (Ziw Zq7 (xs:=[.tmp 59]) (.cons u_0 .nil) (by decide) rfl rfl)<|o_p rfl (Zfr Zq7 rfl rfl u_0 u_1 h15)<|o_p rfl (Zc rfl rfl u_0)<|o_n) (by kernel_rfl) (fun a g hst hb=>?_)
        refine Zbe ?_
        exact ⟨x2,(x3 ++ ([e6.Key]:List ByteArray)),g,rfl,(hst.pick [0,1,2,3,4,5,6,7,8] rfl),hb,H1⟩
       ·replace H1:=Zw hc14 H1
        refine wp_skip ?_
        refine Zbe ?_
        exact ⟨x2,x3,g,rfl,(hst.pick [0,1,2,3,4,6,7,8,10] rfl),hb,H1⟩
    ·replace H1:=Zw hc5 H1
     refine wp_exit ?_
     refine Zb3 ?_
     refine Zb3 ?_
     refine Zcn ?_
     exact ⟨x2,x3,g,rfl,(hst.pick [0,1,2,3,4,9] rfl),hb,Option.some.inj H1⟩
theorem Zkh (a0:Z3) {r:Bool} (h:Zfn a0=some r):FnMR Tryz.prog 16 Zcs a0 a0 [] (Zbg r):=by
 have H0:=h
 unfold Zfn at H0
 clear h
 refine Ztq (N:=7) Tryz.func16 rfl rfl (Nat.le_of_ble_eq_true rfl) rfl rfl (fun a g0 b0 hst hb=>?_)
 replace hst:St 7 [(0,(pEq (ptrB b0 0))),(1002,(pSJ Zbp Zcc (hpL (pRow Zm 68 1000000 (Zdo a0))) 0 b0 a0))] _ _:=Zrf hst
 refine r_s (T:=[⟨[],_,[],[],[2]⟩]) (F:=[.old 0,.old 1]) hst hb Zb
  (o_p rfl (Zc rfl rfl c_b)<|o_n) (by kernel_rfl) (fun a g hst hb=>?_)
 refine r_s (T:=[⟨[.old 0],_,[],[],[3]⟩,⟨[.op 0 0],_,[],[0],[4]⟩,⟨[.op 1 0],_,[],[0,1],[5]⟩,⟨[.op 2 0,.old 1],_,[],[0,1,2],[6]⟩,⟨[.op 3 0],_,[],Lr 4,[2]⟩]) (F:=[.old 0,.op 4 0,.old 1]) hst hb Zb
  (o_p rfl (Za rfl rfl u_0)<|o_p rfl (Zq rfl rfl u_0 (fun _ _ h=>⟨_,h⟩))<|o_p rfl (Zcd Zn2 rfl rfl u_0)<|o_p rfl (Zfx (u:=a0.over) ty_4 (fun g s cs h _=>kp_4 h) rfl rfl u_1 u_0)<|o_p rfl (Zc rfl rfl u_0)<|o_n) (by kernel_rfl) (fun a g hst hb=>?_)
 refine wp_ret ?_
 obtain rfl:=Option.some.inj H0
 exact Zyk rfl hst hb (Zk (s:=2)) (hst.at 1 rfl) (hst.at 2 rfl)
theorem Zmf (a0:Zn) (a1:Int) {r:ByteArray × Ze × Bool} (h:Zhy a0 a1=some r):FnOk Tryz.prog 41 [(Zy.pd a0),(pInt .i64 a1)] (pTup [(pStr r.1),(Zi.pd r.2.1),(Zbg r.2.2)]):=by
 have H0:=h
 unfold Zhy at H0
 clear h
 refine Zbu (N:=48) Tryz.func41 rfl rfl (Nat.le_of_ble_eq_true rfl) rfl rfl (fun a g0 hst hb=>?_)
 refine r_s (T:=[⟨[.old 0],_,[],[],[2]⟩,⟨[],_,[],[],[4]⟩,⟨[],[(5,(pBox Zi 5 (default:Ze)))],[6],[],[5]⟩,⟨[],_,[],[1],[6]⟩]) (F:=[.old 1,.op 0 0,.op 2 0]) hst hb Zb
  (o_p rfl (Zbq rfl rfl u_0)<|o_p rfl (Zc rfl rfl c_s)<|o_p rfl (Zbh (zs:=[.int .i64 0,.int .i64 0,.int .i64 0,.int .i64 0,.float .f64 0,.int .i64 0,.string ByteArray.empty,.slice none 0 0]) (by kernel_rfl) (fun g=>Zb4 g) rfl rfl)<|o_p rfl (Zc rfl rfl c_b)<|o_n) (by kernel_rfl) (fun a g hst hb=>?_)
 refine wp_seq ?_
 refine r_s (T:=[⟨[.old 1],_,[],[],[9]⟩,⟨[.op 0 0],_,[],[0],[10]⟩,⟨[.op 1 0],_,[],[0,1],[7]⟩]) (F:=[.old 0,.old 2,.op 2 0]) hst hb Zb
  (o_p rfl (Zd Zqw rfl rfl u_0)<|o_p rfl (Zf Zdc rfl rfl u_0)<|o_p rfl (Zc rfl rfl u_0)<|o_n) (by kernel_rfl) (fun a g hst hb=>?_)
 obtain ⟨z16,hz1,H0⟩:=Zh H0
 refine Zca (fun a w=>∃ (y15:Ze) (g:G),w=g.w ∧ St 48 [(5,(pBox Zi 5 y15))] a g ∧ Base g0 g ∧ (.inr y15)=z16) ?_ ?_
 ·rintro a w ⟨y15,g,rfl,hst,hb,rfl⟩
  refine Zs ?_
  refine r_s (T:=[⟨[],_,[],[],[47]⟩,⟨[],_,[],[],[4]⟩,⟨[.op 0 0,.old 0],_,[6],[0,1],[5]⟩,⟨[],_,[],[0,1,2],[6]⟩]) (F:=[.op 1 0,.op 2 0,.op 3 0]) hst hb Zb
   (o_p rfl (Znc rfl rfl )<|o_p rfl (Zc rfl rfl c_s)<|o_p rfl (Z2 Zbc rfl rfl u_1 u_0)<|o_p rfl (Zc rfl rfl c_b)<|o_n) (by kernel_rfl) (fun a g hst hb=>?_)
  refine wp_ret ?_
  obtain rfl:=Option.some.inj H0
  obtain ⟨u1,hu1,hq1⟩:=Zbf (P:=Tryz.prog) Zbc (hst.at 1 rfl)
  exact Zi3 rfl hst hb (Zk (s:=4)) hu1 (Zk (s:=6)) (Zg1 (hst.at 0 rfl) hq1 (hst.at 2 rfl))
 ·refine wp_block ?_
  refine wp_loop_ghost (fun n a w=>∃ (x1:Int) (x2:Ze) (x3:shelf_nodeT) (g:G),w=g.w ∧ St 48 [(1,(pInt .i64 x1)),(5,(pBox Zi 5 x2)),(7,(Zba.pd x3))] a g ∧ Base g0 g ∧ Zd8 n x1 x2 x3=some z16) (a0.top.hh + 1) ⟨a1,(default:Ze),a0.top,g,rfl,(hst.pick [0,1,2] rfl),hb,hz1⟩ (fun n a w hI=>?_)
  obtain ⟨x1,x2,x3,g,rfl,hst,hb,H1⟩:=hI
  cases n with
  | zero=>exact absurd H1 (by simp [Zd8])
  | succ n =>
   rw [Zd8] at H1
   refine wp_seq ?_
   refine r_s (T:=[⟨[.old 2],_,[],[],[11]⟩,⟨[.op 0 0],_,[],[0],[12]⟩]) (F:=[.old 0,.old 1,.old 2,.op 1 0]) hst hb Zb
    (o_p rfl (Za rfl rfl u_0)<|o_p rfl (Z0a Tryz.underlying28 rfl rfl u_0 (Zft _))<|o_n) (by kernel_rfl) (fun a g hst hb=>?_)
   refine wp_cond_split (hst.bool 3 rfl) (fun hc4=>?_) (fun hc4=>?_)
   ·replace H1:=Zv hc4 H1
    refine wp_skip ?_
    refine Zs ?_
    refine Zca (fun a w=>∃ (j13:Int) (j14:shelf_nodeT) (g:G),w=g.w ∧ St 48 [(1,(pInt .i64 j13)),(5,(pBox Zi 5 x2)),(7,(Zba.pd j14))] a g ∧ Base g0 g ∧ Zio x2 (Zd8 n) j13 j14=some z16) ?_ ?_
    ·rintro a w ⟨j13,j14,g,rfl,hst,hb,H1⟩
     unfold Zio at H1
     exact ⟨n,Nat.lt_succ_self _,j13,x2,j14,g,rfl,(hst.pick [0,1,2] rfl),hb,H1⟩
    ·refine wp_block ?_
     obtain ⟨n5,h6,H1⟩:=Zh H1;obtain ⟨r7,h8,H1⟩:=Zh H1
     refine r_s (L:=[(1,_),(5,_),(7,_)]) (T:=[⟨[.old 2],_,[],[],[13]⟩,⟨[.op 0 0],_,[],[0],[14]⟩,⟨[.op 1 0],_,[],[0,1],[15]⟩,⟨[.op 2 0],_,[],[0,1,2],[16]⟩,⟨[.op 3 0],_,[],Lr 4,[17]⟩,⟨[.op 4 0],_,[],Lr 5,[8]⟩]) (F:=[.old 0,.old 1,.old 2,.op 5 0]) (hst.pick [0,1,2] rfl) hb Zb
      (o_p rfl (Za rfl rfl u_0)<|o_p rfl (Zq rfl rfl (Opd.imp u_0 (fun _ _ h=>Zx h6 h)) (fun _ _ ⟨_,_,_,e,_⟩=>⟨_,e⟩))<|o_p rfl (Zd Zep rfl rfl u_0)<|o_p rfl (Zf Zdc rfl rfl u_0)<|o_p rfl (Zo Zn9 (Zdu _ h8) rfl rfl (.cons u_0 .nil))<|o_p rfl (Zc rfl rfl u_0)<|o_n) (by kernel_rfl) (fun a g hst hb=>?_)
     refine wp_block ?_
     refine r_s (T:=[⟨[.old 0],_,[],[],[28]⟩,⟨[.old 3],_,[],[],[29]⟩,⟨[.op 0 0,.op 1 0],_,[],[0,1],[30]⟩,⟨[.op 2 0],_,[],[0,1,2],[27]⟩]) (F:=[.old 0,.old 1,.old 2,.old 3,.op 3 0]) hst hb Zb
      (o_p rfl (Za rfl rfl u_0)<|o_p rfl (Za rfl rfl u_0)<|o_p rfl (Zci rfl rfl u_0 u_1)<|o_p rfl (Zc rfl rfl u_0)<|o_n) (by kernel_rfl) (fun a g hst hb=>?_)
     refine wp_cond_split (hst.bool 4 rfl) (fun hc9=>?_) (fun hc9=>?_)
     ·replace H1:=Zv hc9 H1
      refine r_g (L:=[(1,_),(5,_),(7,_)]) (T:=[⟨[.old 2],_,[],[],[31]⟩,⟨[.op 0 0],_,[],[0],[32]⟩,⟨[.op 1 0],_,[],[0,1],[33]⟩,⟨[.op 2 0],_,[],[0,1,2],[34]⟩,⟨[.op 3 0],_,[],Lr 4,[7]⟩]) (F:=[.old 0,.old 1,.op 4 0]) (hst.pick [0,1,2] rfl) hb Zb
       (o_p rfl (Za rfl rfl u_0)<|o_p rfl (Zq rfl rfl (Opd.imp u_0 (fun _ _ h=>Zx h6 h)) (fun _ _ ⟨_,_,_,e,_⟩=>⟨_,e⟩))<|o_p rfl (Zd Zep rfl rfl u_0)<|o_p rfl (Zf Zdc rfl rfl u_0)<|o_p rfl (Zc rfl rfl u_0)<|o_n) (by kernel_rfl) (fun a g hst hb=>?_)
      refine Zbe ?_
      refine Zbe ?_
      exact ⟨x1,n5.left,g,rfl,(hst.pick [0,1,2] rfl),hb,H1⟩
     ·replace H1:=Zw hc9 H1
      refine r_s (L:=[(1,_),(5,_),(7,_),(8,_)]) (T:=[⟨[.old 0],_,[],[],[36]⟩,⟨[.old 3],_,[],[],[37]⟩,⟨[.op 0 0,.op 1 0],_,[],[0,1],[38]⟩,⟨[.op 2 0],_,[],[0,1,2],[35]⟩]) (F:=[.old 0,.old 1,.old 2,.old 3,.op 3 0]) (hst.pick [0,1,2,3] rfl) hb Zb
       (o_p rfl (Za rfl rfl u_0)<|o_p rfl (Za rfl rfl u_0)<|o_p rfl (Zcu rfl rfl u_0 u_1)<|o_p rfl (Zc rfl rfl u_0)<|o_n) (by kernel_rfl) (fun a g hst hb=>?_)
      refine wp_cond_split (hst.bool 4 rfl) (fun hc10=>?_) (fun hc10=>?_)
      ·replace H1:=Zv hc10 H1
       refine r_s (L:=[(1,_),(5,_),(7,_),(8,_)]) (T:=[⟨[.old 0],_,[],[],[39]⟩,⟨[.old 3],_,[],[],[40]⟩,⟨[.op 1 0],_,[],[1],[41]⟩,⟨[.op 0 0,.op 2 0],_,[],[0,1,2],[42]⟩,⟨[.op 3 0],_,[],Lr 4,[1]⟩]) (F:=[.op 4 0,.old 1,.old 2]) (hst.pick [0,1,2,3] rfl) hb Zb
        (o_p rfl (Za rfl rfl u_0)<|o_p rfl (Za rfl rfl u_0)<|o_p rfl (Zb7 rfl rfl u_0 c_i rfl)<|o_p rfl (Zg7 rfl rfl u_0 u_1 rfl)<|o_p rfl (Zc rfl rfl u_0)<|o_n) (by kernel_rfl) (fun a g hst hb=>?_)
       refine r_g (T:=[⟨[.old 2],_,[],[],[43]⟩,⟨[.op 0 0],_,[],[0],[44]⟩,⟨[.op 1 0],_,[],[0,1],[45]⟩,⟨[.op 2 0],_,[],[0,1,2],[46]⟩,⟨[.op 3 0],_,[],Lr 4,[7]⟩]) (F:=[.old 0,.old 1,.op 4 0]) hst hb Zb
        (o_p rfl (Za rfl rfl u_0)<|o_p rfl (Zq rfl rfl (Opd.imp u_0 (fun _ _ h=>Zx h6 h)) (fun _ _ ⟨_,_,_,e,_⟩=>⟨_,e⟩))<|o_p rfl (Zd Zfg rfl rfl u_0)<|o_p rfl (Zf Zdc rfl rfl u_0)<|o_p rfl (Zc rfl rfl u_0)<|o_n) (by kernel_rfl) (fun a g hst hb=>?_)
       refine Zbe ?_
       refine Zbe ?_
       exact ⟨(IntKind.i64.wrap (x1 - (IntKind.i64.wrap (r7 + (1:Int))))),n5.right,g,rfl,(hst.pick [0,1,2] rfl),hb,H1⟩
      ·replace H1:=Zw hc10 H1
       obtain ⟨r11,h12,H1⟩:=Zh H1
       refine r_s (L:=[(5,_),(7,_)]) (T:=⟨[.old 1],_,[],[],[18]⟩ :: ⟨[.op 0 0],_,[],[0],[19]⟩ :: ⟨[.op 1 0],_,[],[0,1],[20]⟩ :: ⟨[.op 2 0],_,[],[0,1,2],[21]⟩ :: ⟨[.old 1],_,[],[],[22]⟩ :: ⟨[.op 4 0],_,[],[4],[23]⟩ :: ⟨[.op 5 0],_,[],[4,5],[24]⟩ :: ⟨[.op 6 0],_,[],[4,5,6],[25]⟩ :: ⟨[.op 7 0],_,[],List.range' 4 4,[26]⟩ :: ⟨[.op 3 0],_,[],Lr 9,[4]⟩ :: ⟨[.op 8 0,.old 0],_,[6],Lr 10,[5]⟩ :: ⟨[],_,[],Lr 11,[6]⟩ :: []) (F:=[.op 9 0,.op 10 0,.op 11 0]) (hst.pick [1,2] rfl) hb Zb
        (o_p rfl (Za rfl rfl u_0)<|o_p rfl (Zq rfl rfl (Opd.imp u_0 (fun _ _ h=>Zx h6 h)) (fun _ _ ⟨_,_,_,e,_⟩=>⟨_,e⟩))<|o_p rfl (Zd Zfh rfl rfl u_0)<|o_p rfl (Zf ty_9 rfl rfl u_0)<|o_p rfl (Za rfl rfl u_0)<|o_p rfl (Zq rfl rfl (Opd.imp u_0 (fun _ _ h=>Zx h6 h)) (fun _ _ ⟨_,_,_,e,_⟩=>⟨_,e⟩))<|o_p rfl (Zd Zht rfl rfl u_0)<|o_p rfl (Zf Zbc rfl rfl u_0)<|o_p rfl (Zo Zn8 (Zgr _ h12) rfl rfl (.cons u_0 .nil))<|o_p rfl (Zc rfl rfl u_0)<|o_p rfl (Z2 Zbc rfl rfl u_1 u_0)<|o_p rfl (Zc rfl rfl c_b)<|o_n) (by kernel_rfl) (fun a g hst hb=>?_)
       refine wp_ret ?_
       refine Z6 ?_
       refine Z6 ?_
       refine Zr ?_
       refine Zr ?_
       refine Z6 ?_
       refine Zr ?_
       refine Zr ?_
       obtain rfl:=Option.some.inj H1
       obtain rfl:=Option.some.inj H0
       obtain ⟨u1,hu1,hq1⟩:=Zbf (P:=Tryz.prog) Zbc (hst.at 1 rfl)
       exact Zi3 rfl hst hb (Zk (s:=4)) hu1 (Zk (s:=6)) (Zg1 (hst.at 0 rfl) hq1 (hst.at 2 rfl))
   ·replace H1:=Zw hc4 H1
    refine wp_exit ?_
    refine Zb3 ?_
    refine Zb3 ?_
    refine Zcn ?_
    exact ⟨x2,g,rfl,(hst.pick [1] rfl),hb,Option.some.inj H1⟩
theorem Zru (a0:Zn) (a1:Zn) {r:Bool} (h:Zk5 a0 a1=some r):FnOk Tryz.prog 17 [(Zy.pd a0),(Zy.pd a1)] (Zbg r):=by
 have H0:=h
 unfold Zk5 at H0
 clear h
 refine Zbu (N:=46) Tryz.func17 rfl rfl (Nat.le_of_ble_eq_true rfl) rfl rfl (fun a g0 hst hb=>?_)
 refine r_s (T:=[⟨[.old 0],_,[],[],[2]⟩,⟨[.old 1],_,[],[],[3]⟩,⟨[],_,[],[],[4]⟩]) (F:=[.op 0 0,.op 1 0]) hst hb Zb
  (o_p rfl (Zbq rfl rfl u_0)<|o_p rfl (Zbq rfl rfl u_0)<|o_p rfl (Zc rfl rfl c_b)<|o_n) (by kernel_rfl) (fun a g hst hb=>?_)
 refine wp_seq ?_
 obtain ⟨r1,h2,H0⟩:=Zh H0;obtain ⟨r3,h4,H0⟩:=Zh H0
 refine r_s (T:=[⟨[.old 0],_,[],[],[12]⟩,⟨[.op 0 0],_,[],[0],[13]⟩,⟨[.old 1],_,[],[],[14]⟩,⟨[.op 2 0],_,[],[0,1,2],[15]⟩,⟨[.op 1 0,.op 3 0],_,[],Lr 4,[16]⟩]) (F:=[.old 0,.old 1,.op 4 0]) hst hb Zb
  (o_p rfl (Zf Zbw rfl rfl u_0)<|o_p rfl (Zo Zvv (Zia _ h2) rfl rfl (.cons u_0 .nil))<|o_p rfl (Zf Zbw rfl rfl u_0)<|o_p rfl (Zo Zvv (Zia _ h4) rfl rfl (.cons u_0 .nil))<|o_p rfl (Zdk rfl rfl u_0 u_1)<|o_n) (by kernel_rfl) (fun a g hst hb=>?_)
 refine wp_cond_split (hst.bool 2 rfl) (fun hc5=>?_) (fun hc5=>?_)
 ·replace H0:=Zv hc5 H0
  refine r_s (L:=[]) (T:=[⟨[],_,[],[],[4]⟩]) (F:=[.op 0 0]) (hst.pick [] rfl) hb Zb
   (o_p rfl (Zc rfl rfl c_b)<|o_n) (by kernel_rfl) (fun a g hst hb=>?_)
  refine wp_ret ?_
  refine Zr ?_
  obtain rfl:=Option.some.inj H0
  exact Z5 rfl hst hb (Zk (s:=4)) (hst.at 0 rfl)
 ·replace H0:=Zw hc5 H0
  refine wp_skip ?_
  refine Zs ?_
  refine wp_seq ?_
  obtain ⟨r6,h7,H0⟩:=Zh H0
  refine r_s (L:=[(2,_),(3,_)]) (T:=[⟨[.old 0],_,[],[],[17]⟩,⟨[.op 0 0],_,[],[0],[18]⟩,⟨[],_,[],[],[19]⟩]) (F:=[.old 0,.old 1,.op 1 0,.op 2 0]) (hst.pick [0,1] rfl) hb Zb
   (o_p rfl (Zf Zbw rfl rfl u_0)<|o_p rfl (Zo Zvv (Zia _ h7) rfl rfl (.cons u_0 .nil))<|o_p rfl (Za rfl rfl c_i)<|o_n) (by kernel_rfl) (fun a g hst hb=>?_)
  obtain ⟨z17,hz1,H0⟩:=Zh H0
  refine Zca (fun a w=>∃ (g:G),w=g.w ∧ St 46 [] a g ∧ Base g0 g ∧ (.inr ())=z17) ?_ ?_
  ·rintro a w ⟨g,rfl,hst,hb,rfl⟩
   refine Zs ?_
   refine r_s (T:=[⟨[],_,[],[],[4]⟩]) (F:=[.op 0 0]) hst hb Zb
    (o_p rfl (Zc rfl rfl c_b)<|o_n) (by kernel_rfl) (fun a g hst hb=>?_)
   refine wp_ret ?_
   obtain rfl:=Option.some.inj H0
   exact Z5 rfl hst hb (Zk (s:=4)) (hst.at 0 rfl)
  ·refine wp_block ?_
   refine wp_loop_ghost (fun n a w=>∃ (x8:Int) (g:G),w=g.w ∧ St 46 [(2,(Zy.ptr a0)),(3,(Zy.ptr a1)),(18,(pInt .i64 r6)),(19,(pInt .i64 x8))] a g ∧ Base g0 g ∧ Zhj a0 a1 r6 n x8=some z17) (Int.toNat (r6 - (0:Int)) + 1) ⟨(0:Int),g,rfl,(hst.pick [0,1,2,3] rfl),hb,hz1⟩ (fun n a w hI=>?_)
   obtain ⟨x8,g,rfl,hst,hb,H1⟩:=hI
   cases n with
   | zero=>exact absurd H1 (by simp [Zhj])
   | succ n =>
    rw [Zhj] at H1
    refine r_s (T:=[⟨[.old 3,.old 2],_,[],[],[20]⟩]) (F:=[.old 0,.old 1,.old 2,.old 3,.op 0 0]) hst hb Zb
     (o_p rfl (Zci rfl rfl u_0 u_1)<|o_n) (by kernel_rfl) (fun a g hst hb=>?_)
    refine wp_seq ?_
    refine wp_cond_split (hst.bool 4 rfl) (fun hc9=>?_) (fun hc9=>?_)
    ·replace H1:=Zv hc9 H1
     refine wp_skip ?_
     refine Zs ?_
     refine wp_seq ?_
     refine wp_block ?_
     refine r_s (L:=[(2,_),(3,_),(18,_),(19,_)]) (T:=[⟨[.old 3],_,[],[],[21]⟩,⟨[.op 0 0],_,[],[0],[5]⟩]) (F:=[.old 0,.old 1,.op 1 0,.old 2,.old 3]) (hst.pick [0,1,2,3] rfl) hb Zb
      (o_p rfl (Za rfl rfl u_0)<|o_p rfl (Zc rfl rfl u_0)<|o_n) (by kernel_rfl) (fun a g hst hb=>?_)
     obtain ⟨r10,h11,H1⟩:=Zh H1
     refine r_s (T:=[⟨[.old 0],_,[],[],[23]⟩,⟨[.old 2],_,[],[],[24]⟩,⟨[.op 0 0,.op 1 0],_,[],[0,1],[25]⟩,⟨[.op 2 0],_,[],[0,1,2],[22]⟩,⟨[.op 3 0],_,[],Lr 4,[26]⟩,⟨[.op 3 0],_,[],Lr 4,[27]⟩,⟨[.op 3 0],_,[],Lr 4,[28]⟩,⟨[],[(7,(pBox Zi 7 (default:Ze)))],[8],[],[7]⟩,⟨[.op 4 0],_,[],[0,1,2,3,4,7],[6]⟩,⟨[.op 5 0,.op 7 0],_,[8],[0,1,2,3,4,5,7,8],[7]⟩,⟨[.op 6 0],_,[],Lr 10,[8]⟩]) (F:=[.old 0,.old 1,.old 2,.op 8 0,.op 9 0,.old 3,.old 4]) hst hb Zb
      (o_p rfl (Zf Zbw rfl rfl u_0)<|o_p rfl (Za rfl rfl u_0)<|o_p rfl (Zo Z27 (Zmf _ _ h11) rfl rfl (.cons u_0 (.cons u_1 .nil)))<|o_p rfl (Za rfl rfl u_0)<|o_p rfl (Z0 rfl rfl u_0 rfl)<|o_p rfl (Z0 rfl rfl u_0 rfl)<|o_p rfl (Z0 rfl rfl u_0 rfl)<|o_p rfl (Zbh (zs:=[.int .i64 0,.int .i64 0,.int .i64 0,.int .i64 0,.float .f64 0,.int .i64 0,.string ByteArray.empty,.slice none 0 0]) (by kernel_rfl) (fun g=>Zb4 g) rfl rfl)<|o_p rfl (Zc rfl rfl u_0)<|o_p rfl (Zb5 Zbc rfl rfl u_1 u_0)<|o_p rfl (Zc rfl rfl u_0)<|o_n) (by kernel_rfl) (fun a g hst hb=>?_)
     obtain ⟨r12,h13,H1⟩:=Zh H1
     refine r_s (T:=[⟨[.old 1],_,[],[],[30]⟩,⟨[.old 2],_,[],[],[31]⟩,⟨[.op 0 0,.op 1 0],_,[],[0,1],[32]⟩,⟨[.op 2 0],_,[],[0,1,2],[29]⟩,⟨[.op 3 0],_,[],Lr 4,[33]⟩,⟨[.op 3 0],_,[],Lr 4,[34]⟩,⟨[.op 3 0],_,[],Lr 4,[35]⟩,⟨[],[(10,(pBox Zi 10 (default:Ze)))],[11],[],[10]⟩,⟨[.op 4 0],_,[],[0,1,2,3,4,7],[9]⟩,⟨[.op 5 0,.op 7 0],_,[11],[0,1,2,3,4,5,7,8],[10]⟩,⟨[.op 6 0],_,[],Lr 10,[11]⟩]) (F:=[.old 0,.old 1,.old 3,.old 4,.op 8 0,.op 9 0,.old 5,.old 6]) hst hb Zb
      (o_p rfl (Zf Zbw rfl rfl u_0)<|o_p rfl (Za rfl rfl u_0)<|o_p rfl (Zo Z27 (Zmf _ _ h13) rfl rfl (.cons u_0 (.cons u_1 .nil)))<|o_p rfl (Za rfl rfl u_0)<|o_p rfl (Z0 rfl rfl u_0 rfl)<|o_p rfl (Z0 rfl rfl u_0 rfl)<|o_p rfl (Z0 rfl rfl u_0 rfl)<|o_p rfl (Zbh (zs:=[.int .i64 0,.int .i64 0,.int .i64 0,.int .i64 0,.float .f64 0,.int .i64 0,.string ByteArray.empty,.slice none 0 0]) (by kernel_rfl) (fun g=>Zb4 g) rfl rfl)<|o_p rfl (Zc rfl rfl u_0)<|o_p rfl (Zb5 Zbc rfl rfl u_1 u_0)<|o_p rfl (Zc rfl rfl u_0)<|o_n) (by kernel_rfl) (fun a g hst hb=>?_)
     obtain ⟨r14,h15,H1⟩:=Zh H1
     refine r_s (T:=[⟨[.old 2],_,[],[],[36]⟩,⟨[.old 4],_,[],[],[37]⟩,⟨[.op 0 0,.op 1 0],_,[],[0,1],[38]⟩,⟨[.op 2 0],_,[],[0,1,2],[39]⟩,⟨[.op 3 0,.old 3],_,[],Lr 4,[40]⟩,⟨[.op 3 0,.old 5],_,[],Lr 4,[41]⟩,⟨[.op 3 0,.op 4 0,.op 5 0],_,[],Lr 6,[42]⟩,⟨[.op 3 0,.op 6 0],_,[],Lr 7,[43]⟩,⟨[.op 3 0,.op 7 0],_,[],Lr 8,[44]⟩]) (F:=[.old 0,.old 1,.old 6,.old 7,.op 8 0]) hst hb Zb
      (o_p rfl (Za rfl rfl u_0)<|o_p rfl (Za rfl rfl u_0)<|o_p rfl (Zol rfl rfl u_0 u_1)<|o_p rfl (Za rfl rfl u_0)<|o_g (g_f rfl rfl rfl (fun hG=>Zf Zbc rfl rfl u_0))<|o_g (g_f rfl rfl rfl (fun hG=>Zf Zbc rfl rfl u_0))<|o_g (g_f rfl rfl rfl (fun hG=>Zo Z7w (Zt8 _ _ (Zbn h15 hG)) rfl rfl (.cons (Opd.gd hG u_0) (.cons (Opd.gd hG u_1) .nil))))<|o_g (g_f rfl rfl rfl (fun hG=>Zb2 rfl rfl (Opd.gd hG u_0)))<|o_p rfl (Zbo rfl rfl u_0 (fun hz=>(Opd.gd (bNF hz) u_1)))<|o_n) (by kernel_rfl) (fun a g hst hb=>?_)
     refine wp_cond_split (hst.bool 4 rfl) (fun hc16=>?_) (fun hc16=>?_)
     ·replace H1:=Zv hc16 H1
      refine r_s (L:=[]) (T:=[⟨[],_,[],[],[4]⟩]) (F:=[.op 0 0]) (hst.pick [] rfl) hb Zb
       (o_p rfl (Zc rfl rfl c_b)<|o_n) (by kernel_rfl) (fun a g hst hb=>?_)
      refine wp_ret ?_
      refine Z6 ?_
      refine Zr ?_
      refine Zr ?_
      refine Z6 ?_
      refine Zr ?_
      refine Zr ?_
      obtain rfl:=Option.some.inj H1
      obtain rfl:=Option.some.inj H0
      exact Z5 rfl hst hb (Zk (s:=4)) (hst.at 0 rfl)
     ·replace H1:=Zw hc16 H1
      refine wp_skip ?_
      refine Zbe ?_
      refine Zs ?_
      refine r_g (L:=[(2,_),(3,_),(18,_),(19,_)]) (T:=[⟨[.old 3],_,[],[],[45]⟩,⟨[.op 0 0],_,[],[0],[19]⟩]) (F:=[.old 0,.old 1,.old 2,.op 1 0]) (hst.pick [0,1,2,3] rfl) hb Zb
       (o_p rfl (Zb7 rfl rfl u_0 c_i rfl)<|o_p rfl (Za rfl rfl u_0)<|o_n) (by kernel_rfl) (fun a g hst hb=>?_)
      exact ⟨n,Nat.lt_succ_self _,(IntKind.i64.wrap (x8 + (1:Int))),g,rfl,(hst.pick [0,1,2,3] rfl),hb,H1⟩
    ·replace H1:=Zw hc9 H1
     refine wp_exit ?_
     refine Zb3 ?_
     refine Zb3 ?_
     refine Zcn ?_
     exact ⟨g,rfl,(hst.pick [] rfl),hb,Option.some.inj H1⟩
theorem Zjv (a0:Int) (a1:Ze) (a2:Bool) {r:Ze × Bool × Zg × Ze} (h:Zhb a0 a1 a2=some r):FnB Tryz.prog 92 [.val (pInt .i64 a0),.box Zi a1 r.2.2.2,.val (Kd.bool.ptr a2)] (pTup [(Zi.pd r.1),(Zbg r.2.1),(Zm.pd r.2.2.1)]):=by
 have H0:=h
 unfold Zhb at H0
 clear h
 refine Zkq (N:=11) Tryz.func92 rfl rfl (Nat.le_of_ble_eq_true rfl) rfl rfl (fun a g0 bs hbs hst hb=>?_)
 obtain ⟨b1,rfl⟩:=Z7m hbs
 replace hst:St 11 [(0,(pInt .i64 a0)),(1,(Zcf (some b1) Zi 1 a1)),(2,(Kd.bool.ptr a2))] _ _:=hst
 refine r_s (T:=[⟨[],[(4,(pBox Zi 4 (default:Ze)))],[5],[],[4]⟩,⟨[],_,[],[],[5]⟩,⟨[],[(6,(pBox Zm 6 (default:Zg)))],[7],[],[6]⟩]) (F:=[.old 0,.old 1,.old 2,.op 0 0,.op 2 0]) hst hb Zb
  (o_p rfl (Zbh (zs:=[.int .i64 0,.int .i64 0,.int .i64 0,.int .i64 0,.float .f64 0,.int .i64 0,.string ByteArray.empty,.slice none 0 0]) (by kernel_rfl) (fun g=>Zb4 g) rfl rfl)<|o_p rfl (Zc rfl rfl c_b)<|o_p rfl (Zbh (zs:=[.int .i64 0,.int .i64 0,.int .i64 0,.int .i64 0,.int .i64 0,.int .i64 0,.float .f64 0,.int .i64 0,.string ByteArray.empty,.slice none 0 0]) (by kernel_rfl) (fun g=>Zeb g) rfl rfl)<|o_n) (by kernel_rfl) (fun a g hst hb=>?_)
 refine r_s (T:=[⟨[.old 1],_,[],[],[7]⟩,⟨[.old 2],_,[],[],[8]⟩,⟨[.old 0],_,[],[],[9]⟩,⟨[.op 2 0],_,[],[2],[10]⟩,⟨[.op 0 0,.old 3],_,[5],[0],[4]⟩,⟨[.op 1 0],_,[],[0,1,4],[5]⟩,⟨[.op 3 0,.old 4],_,[7],Lr 6,[6]⟩]) (F:=[.old 1,.op 4 0,.op 5 0,.op 6 0]) hst hb Zb
  (o_p rfl (Zb0 Zbc rfl rfl u_0)<|o_p rfl (Zf ty_4 rfl rfl u_0)<|o_p rfl (Za rfl rfl u_0)<|o_p rfl (Zqn rfl rfl u_0)<|o_p rfl (Z2 Zbc rfl rfl u_1 u_0)<|o_p rfl (Zc rfl rfl u_0)<|o_p rfl (Z2 Zb9 rfl rfl u_1 u_0)<|o_n) (by kernel_rfl) (fun a g hst hb=>?_)
 refine wp_ret ?_
 obtain rfl:=Option.some.inj H0
 obtain ⟨u0,hu0,hq0⟩:=Zbf (P:=Tryz.prog) Zbc (hst.at 1 rfl)
 obtain ⟨u2,hu2,hq2⟩:=Zbf (P:=Tryz.prog) Zb9 (hst.at 3 rfl)
 exact Zbca rfl hst hb hu0 (Zk (s:=5)) hu2 (Zg1 hq0 (hst.at 2 rfl) hq2) ⟨Zc2 (hst.at 0 rfl),trivial⟩
theorem Z37 (a0:Int) {r:Int} (h:Zml a0=some r):FnOk Tryz.prog 93 [(pInt .i64 a0)] (pInt .i64 r):=by
 have H0:=h
 unfold Zml at H0
 clear h
 refine Zbu (N:=6) Tryz.func93 rfl rfl (Nat.le_of_ble_eq_true rfl) rfl rfl (fun a g0 hst hb=>?_)
 refine r_s (T:=[⟨[],_,[],[],[2]⟩]) (F:=[.old 0]) hst hb Zb
  (o_p rfl (Zc rfl rfl c_i)<|o_n) (by kernel_rfl) (fun a g hst hb=>?_)
 obtain ⟨r1,h2,H0⟩:=Zh H0
 refine r_s (T:=[⟨[.old 0],_,[],[],[3]⟩,⟨[.op 0 0],_,[],[0],[4]⟩,⟨[.op 1 0],_,[],[0,1],[5]⟩,⟨[.op 2 0],_,[],[0,1,2],[2]⟩]) (F:=[.op 3 0]) hst hb Zb
  (o_p rfl (Za rfl rfl u_0)<|o_p rfl (Zo Z7l (Zxk _ h2) rfl rfl (.cons u_0 .nil))<|o_p rfl (Z0g Zzv rfl rfl u_0)<|o_p rfl (Zc rfl rfl u_0)<|o_n) (by kernel_rfl) (fun a g hst hb=>?_)
 refine wp_ret ?_
 obtain rfl:=Option.some.inj H0
 exact Z5 rfl hst hb (Zk (s:=2)) (hst.at 0 rfl)
end Go.CL
