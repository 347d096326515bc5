/- A part of the proof of HandApart. -/
import Derived.Test.YtlanlccmokaajaaGreatDoorHandApartC5
set_option linter.unusedVariables false
set_option linter.unusedSimpArgs false
set_option maxRecDepth 100000
namespace Go.CL
open Go Go.RowKit Go.Proofs
theorem Zmq (a0:Zf) (a1:ByteArray) (a2:Zb) {r:Zf × Int} (h:Zff a0 a1 a2=some r):FnOk Tryz.prog 32 [(Z7.pd a0),(pStr a1),(Ze.pd a2)] (pTup [(Z7.pd r.1),(pInt .i64 r.2)]):=by
 have H0:=h
 unfold Zff at H0
 clear h
 refine Zbs (N:=80) Tryz.func32 rfl rfl (Qe rfl) rfl rfl (fun a g0 hst hb=>?_)
 refine r_s (T:=[⟨[.o 0],_,[],[],[3]⟩,⟨[.o 2],_,[],[],[5]⟩,⟨[],[(6,(pBox Z7 6 (default:Zf)))],[7],[],[6]⟩,⟨[],_,[],[],[7]⟩]) (F:=[.o 1,.p 0 0,.p 1 0,.p 2 0]) hst hb Za
  (Qb rfl u_0<|Qb rfl u_0<|o_p rfl (Zbi (zs:=[.slice none 0 0,.int .i64 0]) (by kernel_rfl) (fun g=>Zeg g) rfl rfl)<|Qa rfl c_i<|o_n) (fun a g hst hb=>?_)
 refine wp_seq ?_
 refine r_s (T:=[⟨[.o 0],_,[],[],[12]⟩,⟨[.p 0 0],_,[],[0],[13]⟩,⟨[.p 1 0],_,[],[0,1],[14]⟩,⟨[.p 2 0],_,[],[0,1,2],[15]⟩,⟨[.p 3 0,.o 0],_,[],Lr 4,[16]⟩,⟨[.p 3 0,.p 4 0],_,[],Lr 5,[17]⟩,⟨[.p 3 0,.p 5 0],_,[],Lr 6,[18]⟩,⟨[.p 3 0,.p 6 0],_,[],Lr 7,[19]⟩]) (F:=[.o 0,.o 1,.o 2,.o 3,.p 7 0]) hst hb Za
  (Qm rfl u_0<|o_p rfl (Zfy Tryz.underlying9 rfl rfl u_0)<|o_p rfl (Zca rfl rfl u_0 c_i)<|Qm rfl u_0<|o_g (Qg_f rfl (fun hG=>Z6 rfl rfl u_0))<|o_g (Qg_f rfl (fun hG=>Zfy Tryz.underlying9 rfl rfl (Opd.gd hG u_0)))<|o_g (Qg_f rfl (fun hG=>Zct rfl rfl (Opd.gd hG u_0) c_i))<|o_p rfl (Zbp rfl rfl u_0 (fun hz=>(Opd.gd (bNF hz) u_1)))<|o_n) (fun a g hst hb=>?_)
 refine wp_cond_split (hst.bool 4 rfl) (fun hc1=>?_) (fun hc1=>?_)
 ·replace H0:=Zu hc1 H0
  refine r_s (L:=[(3,_),(6,_)]) (T:=[⟨[.o 0],_,[],[],[20]⟩,⟨[.p 0 0,.o 1],_,[7],[0],[6]⟩,⟨[],_,[],[0,1],[7]⟩]) (F:=[.p 1 0,.p 2 0]) (hst.pick [1,3] rfl) hb Za
   (Ql rfl Zco u_0<|o_p rfl (Z3 Zco rfl rfl u_1 u_0)<|Qa rfl c_i<|o_n) (fun a g hst hb=>?_)
  refine wp_ret ?_
  refine Zo ?_
  obtain rfl:=Option.some.inj H0
  obtain ⟨u0,hu0,hq0⟩:=Zbh (P:=Tryz.prog) Zco (hst.at 0 rfl)
  exact Zdw rfl hst hb hu0 (Zg (s:=7)) (Zcw hq0 (hst.at 1 rfl))
 ·replace H0:=Zt hc1 H0
  refine wp_skip ?_
  refine Zp ?_
  obtain ⟨r2,h3,H0⟩:=Zc H0
  refine r_s (L:=[(1,_),(3,_),(5,_),(6,_)]) (T:=[⟨[.o 2],_,[],[],[21]⟩,⟨[.p 0 0],_,[],[0],[22]⟩,⟨[.p 1 0],_,[],[0,1],[8]⟩]) (F:=[.o 0,.o 1,.o 2,.o 3,.p 2 0]) (hst.pick [0,1,2,3] rfl) hb Za
   (Ql rfl Zbe u_0<|o_p rfl (Zl Z51 (Zls _ h3) rfl rfl (.cons u_0 .nil))<|Qa rfl u_0<|o_n) (fun a g hst hb=>?_)
  refine wp_seq ?_
  refine r_s (T:=[⟨[.o 4],_,[],[],[23]⟩,⟨[.p 0 0],_,[],[0],[24]⟩]) (F:=[.o 0,.o 1,.o 2,.o 3,.o 4,.p 1 0]) hst hb Za
   (Qm rfl u_0<|o_p rfl (Zdn rfl rfl u_0 c_i)<|o_n) (fun a g hst hb=>?_)
  refine wp_cond_split (hst.bool 5 rfl) (fun hc4=>?_) (fun hc4=>?_)
  ·replace H0:=Zu hc4 H0
   refine r_s (L:=[(3,_),(6,_),(8,_)]) (T:=[⟨[.o 0],_,[],[],[25]⟩,⟨[.o 2],_,[],[],[26]⟩,⟨[.p 0 0,.o 1],_,[7],[0],[6]⟩,⟨[.p 1 0],_,[],[0,1,2],[7]⟩]) (F:=[.p 2 0,.p 3 0]) (hst.pick [1,3,4] rfl) hb Za
    (Ql rfl Zco u_0<|Qm rfl u_0<|o_p rfl (Z3 Zco rfl rfl u_1 u_0)<|Qa rfl u_0<|o_n) (fun a g hst hb=>?_)
   refine wp_ret ?_
   refine Zo ?_
   obtain rfl:=Option.some.inj H0
   obtain ⟨u0,hu0,hq0⟩:=Zbh (P:=Tryz.prog) Zco (hst.at 0 rfl)
   exact Zdw rfl hst hb hu0 (Zg (s:=7)) (Zcw hq0 (hst.at 1 rfl))
  ·replace H0:=Zt hc4 H0
   refine wp_skip ?_
   refine Zp ?_
   obtain ⟨r5,h6,H0⟩:=Zc H0
   refine r_s (L:=[(1,_),(3,_),(5,_),(6,_)]) (T:=[⟨[.o 1],_,[],[],[27]⟩,⟨[.o 0],_,[],[],[28]⟩,⟨[.p 0 0,.p 1 0],_,[],[0,1],[29]⟩,⟨[.p 2 0],_,[],[0,1,2],[9]⟩]) (F:=[.o 0,.o 1,.o 2,.o 3,.p 3 0]) (hst.pick [0,1,2,3] rfl) hb Za
    (Ql rfl Zco u_0<|Qm rfl u_0<|o_p rfl (Zl Z5h (Zjv _ _ h6) rfl rfl (.cons u_0 (.cons u_1 .nil)))<|Qa rfl u_0<|o_n) (fun a g hst hb=>?_)
   obtain ⟨e7,h8,H0⟩:=Zc H0
   refine r_s (T:=⟨[.o 4],_,[],[],[30]⟩ :: ⟨[.o 1],_,[],[],[31]⟩ :: ⟨[.p 1 0],_,[],[1],[32]⟩ :: ⟨[.p 2 0],_,[],[1,2],[33]⟩ :: ⟨[.p 0 0,.p 3 0],_,[],Lr 4,[34]⟩ :: ⟨[.p 4 0],_,[],Lr 5,[35]⟩ :: ⟨[.p 5 0,.o 1],_,[],Lr 6,[36]⟩ :: ⟨[.p 5 0,.p 6 0],_,[],Lr 7,[37]⟩ :: ⟨[.p 5 0,.o 4],_,[],Lr 6,[38]⟩ :: ⟨[.p 5 0,.p 7 0,.p 8 0],_,[],Lr 9,[39]⟩ :: ⟨[.p 5 0,.p 9 0],_,[],Lr 10,[40]⟩ :: ⟨[.p 5 0,.p 10 0],_,[],Lr 11,[41]⟩ :: ⟨[.p 5 0,.o 0],_,[],Lr 6,[42]⟩ :: ⟨[.p 5 0,.p 11 0,.p 12 0],_,[],Lr 13,[43]⟩ :: ⟨[.p 5 0,.p 13 0],_,[],Lr 14,[44]⟩ :: ⟨[.p 14 0],_,[],Lr 15,[10]⟩ :: []) (F:=[.o 0,.o 1,.o 2,.o 3,.o 4,.p 15 0]) hst hb Za
    (Qm rfl u_0<|Qf rfl Zhq u_0<|Ql rfl Zkz u_0<|o_p rfl (Zbx Tryz.underlying22 rfl rfl u_0)<|o_p rfl (Zca rfl rfl u_0 u_1)<|Qm rfl u_0<|o_g (Qg_t rfl (fun hG=>Zi Zhq rfl rfl u_0))<|o_g (Qg_t rfl (fun hG=>Zv Zkz rfl rfl (Opd.gd hG u_0)))<|o_g (Qg_t rfl (fun hG=>Z6 rfl rfl u_0))<|o_g (Qg_t rfl (fun hG=>Zbl Tryz.underlying22 Zoa rfl rfl (Opd.gd hG u_0) (Opd.gd hG u_1) (Zbn h8 hG)))<|o_g (Qg_t rfl (fun hG=>Zi Znz rfl rfl (Opd.gd hG u_0)))<|o_g (Qg_t rfl (fun hG=>Zv ty_9 rfl rfl (Opd.gd hG u_0)))<|o_g (Qg_t rfl (fun hG=>Z6 rfl rfl u_0))<|o_g (Qg_t rfl (fun hG=>Zlf rfl rfl (Opd.gd hG u_0) (Opd.gd hG u_1)))<|o_p rfl (Zbk rfl rfl u_0 (fun hz=>(Opd.gd hz u_1)))<|Qa rfl u_0<|o_n) (fun a g hst hb=>?_)
   refine wp_seq ?_
   refine r_s (T:=[⟨[.o 5],_,[],[],[45]⟩,⟨[.p 0 0],_,[],[0],[46]⟩,⟨[.p 1 0],_,[],[0,1],[47]⟩,⟨[.p 2 0,.o 1],_,[],[0,1,2],[48]⟩,⟨[.p 2 0,.p 3 0],_,[],Lr 4,[49]⟩,⟨[.p 2 0,.p 4 0],_,[],Lr 5,[50]⟩,⟨[.p 2 0,.o 1],_,[],[0,1,2],[51]⟩,⟨[.p 2 0,.p 6 0],_,[],[0,1,2,6],[52]⟩,⟨[.p 2 0,.p 5 0,.p 7 0],_,[],Lr 8,[53]⟩,⟨[.p 2 0,.p 8 0],_,[],Lr 9,[54]⟩]) (F:=[.o 0,.o 1,.o 2,.o 3,.o 4,.o 5,.p 9 0]) hst hb Za
    (Qm rfl u_0<|Qn rfl u_0<|Qm rfl u_0<|o_g (Qg_t rfl (fun hG=>Zi Zhq rfl rfl u_0))<|o_g (Qg_t rfl (fun hG=>Zv Zkz rfl rfl (Opd.gd hG u_0)))<|o_g (Qg_t rfl (fun hG=>Zbx Tryz.underlying22 rfl rfl (Opd.gd hG u_0)))<|o_g (Qg_t rfl (fun hG=>Zi Zr7 rfl rfl u_0))<|o_g (Qg_t rfl (fun hG=>Zv ty_3 rfl rfl (Opd.gd hG u_0)))<|o_g (Qg_t rfl (fun hG=>Zmx rfl rfl (Opd.gd hG u_0) (Opd.gd hG u_1)))<|o_p rfl (Zbk rfl rfl u_0 (fun hz=>(Opd.gd hz u_1)))<|o_n) (fun a g hst hb=>?_)
   refine wp_cond_split (hst.bool 6 rfl) (fun hc9=>?_) (fun hc9=>?_)
   ·replace H0:=Zu hc9 H0
    refine r_s (L:=[(3,_),(6,_)]) (T:=[⟨[.o 0],_,[],[],[55]⟩,⟨[.p 0 0,.o 1],_,[7],[0],[6]⟩,⟨[],_,[],[0,1],[7]⟩]) (F:=[.p 1 0,.p 2 0]) (hst.pick [1,3] rfl) hb Za
     (Ql rfl Zco u_0<|o_p rfl (Z3 Zco rfl rfl u_1 u_0)<|Qa rfl c_i<|o_n) (fun a g hst hb=>?_)
    refine wp_ret ?_
    refine Zo ?_
    obtain rfl:=Option.some.inj H0
    obtain ⟨u0,hu0,hq0⟩:=Zbh (P:=Tryz.prog) Zco (hst.at 0 rfl)
    exact Zdw rfl hst hb hu0 (Zg (s:=7)) (Zcw hq0 (hst.at 1 rfl))
   ·replace H0:=Zt hc9 H0
    refine wp_skip ?_
    refine Zp ?_
    obtain ⟨c10,h11,H0⟩:=Zc H0;obtain ⟨h12,H0⟩:=Zfv H0
    refine r_s (L:=[(1,_),(3,_),(5,_),(6,_),(9,_),(10,_)]) (T:=[⟨[],_,[57],[],[56]⟩,⟨[.o 1],_,[],[],[57]⟩,⟨[.p 1 0],_,[],[1],[58]⟩,⟨[.o 4],_,[],[],[59]⟩,⟨[.p 2 0,.p 3 0],_,[],[1,2,3],[60]⟩,⟨[.p 0 0,.p 4 0],_,[57],Lr 5,[56,61]⟩,⟨[.p 5 0],_,[],Lr 6,[11]⟩]) (F:=[.o 0,.o 1,.o 2,.o 3,.o 4,.o 5,.p 6 0]) (hst.pick [0,1,2,3,4,5] rfl) hb Za
     (o_p rfl (Zkx 56 Zrc (xs:=[]) .nil (by decide) rfl rfl)<|Qf rfl Zhq u_0<|Ql rfl Zkz u_0<|Qm rfl u_0<|o_p rfl (Zvi Tryz.underlying22 Zoa rfl rfl u_0 u_1 h11)<|o_p rfl (Zfq Zrc rfl rfl u_0 u_1 h12)<|Qa rfl u_0<|o_n) (fun a g hst hb=>?_)
    obtain ⟨h13,H0⟩:=Zfv H0
    refine r_s (T:=[⟨[.o 6],_,[],[],[62]⟩,⟨[.o 0],_,[],[],[63]⟩,⟨[.o 2],_,[],[],[64]⟩,⟨[.p 1 0,.p 2 0],_,[],[1,2],[65]⟩,⟨[.p 3 0],_,[],[1,2,3],[66]⟩,⟨[.p 0 0,.p 4 0],_,[57],Lr 5,[11,62,67]⟩,⟨[.p 5 0],_,[],Lr 6,[11]⟩]) (F:=[.o 1,.o 3,.o 4,.o 5,.p 6 0]) hst hb Za
     (Qm rfl u_0<|Qm rfl u_0<|Ql rfl Zbe u_0<|o_p rfl (Z6q rfl rfl u_0 u_1)<|o_p rfl (Zig Zrc (xs:=[.tmp 65]) (.cons u_0 .nil) (by decide) rfl rfl)<|o_p rfl (Zfq Zrc rfl rfl u_0 u_1 h13)<|Qa rfl u_0<|o_n) (fun a g hst hb=>?_)
    refine wp_seq ?_
    refine r_s (T:=[⟨[.o 3],_,[],[],[68]⟩]) (F:=[.o 0,.o 1,.o 2,.o 4,.p 0 0]) hst hb Za
     (Qm rfl u_0<|o_n) (fun a g hst hb=>?_)
    refine Zb3 (fun a w=>∃ (j15:Int) (g:G),w=g.w ∧ St 80 [(3,(Z7.ptr a0)),(6,(pBox Z7 6 (default:Zf))),(9,(pInt .i64 j15)),(11,(pRow Zb6 85 56 ((([]:List Zbg) ++ c10) ++ ([({ Key:=a1,Rec:=a2 }:Zbg)]:List Zbg))))] a g ∧ Base g0 g ∧ Zfj a0 a1 a2 c10 j15=some r) ?_ ?_
    ·rintro a w ⟨j15,g,rfl,hst,hb,H0⟩
     unfold Zfj at H0
     refine Zp ?_
     obtain ⟨c16,h17,H0⟩:=Zc H0;obtain ⟨h18,H0⟩:=Zfv H0
     refine r_s (T:=[⟨[.o 3],_,[],[],[71]⟩,⟨[.o 0],_,[],[],[72]⟩,⟨[.p 1 0],_,[],[1],[73]⟩,⟨[.o 2],_,[],[],[74]⟩,⟨[.p 2 0,.p 3 0],_,[],[1,2,3],[75]⟩,⟨[.p 0 0,.p 4 0],_,[57],Lr 5,[11,71,76]⟩,⟨[.o 0],_,[],[],[77]⟩,⟨[.p 6 0],_,[],[6],[78]⟩,⟨[.p 5 0,.p 7 0],_,[],Lr 8,[79]⟩,⟨[.p 8 0,.o 1],_,[7],Lr 9,[6]⟩,⟨[],_,[],Lr 10,[7]⟩]) (F:=[.p 9 0,.p 10 0]) hst hb Za
      (Qm rfl u_0<|Qf rfl Zhq u_0<|Ql rfl Zkz u_0<|Qm rfl u_0<|o_p rfl (Z33 Tryz.underlying22 Zoa rfl rfl u_0 u_1 h17)<|o_p rfl (Zfq Zrc rfl rfl u_0 u_1 h18)<|Qf rfl Zr7 u_0<|Ql rfl ty_3 u_0<|o_p rfl (Zzc rfl rfl (Opd.imp u_0 (fun _ _ h=>Zgd h)) u_1)<|o_p rfl (Z3 Zco rfl rfl u_1 u_0)<|Qa rfl c_i<|o_n) (fun a g hst hb=>?_)
     refine wp_ret ?_
     obtain rfl:=Option.some.inj H0
     obtain ⟨u0,hu0,hq0⟩:=Zbh (P:=Tryz.prog) Zco (hst.at 0 rfl)
     exact Zdw rfl hst hb hu0 (Zg (s:=7)) (Zcw hq0 (hst.at 1 rfl))
    ·refine wp_cond_split (hst.bool 4 rfl) (fun hc14=>?_) (fun hc14=>?_)
     ·replace H0:=Zu hc14 H0
      refine r_g (L:=[(3,_),(6,_),(9,_),(11,_)]) (T:=[⟨[.o 2],_,[],[],[69]⟩,⟨[.p 0 0],_,[],[0],[70]⟩,⟨[.p 1 0],_,[],[0,1],[9]⟩]) (F:=[.o 0,.o 1,.p 2 0,.o 3]) (hst.pick [0,1,2,3] rfl) hb Za
       (Qm rfl u_0<|o_p rfl (Zb0 rfl rfl u_0 c_i rfl)<|Qa rfl u_0<|o_n) (fun a g hst hb=>?_)
      exact ⟨(IntKind.i64.wrap (r5 + (1:Int))),g,rfl,(hst.pick [0,1,2,3] rfl),hb,H0⟩
     ·replace H0:=Zt hc14 H0
      refine wp_skip ?_
      exact ⟨r5,g,rfl,(hst.pick [0,1,2,3] rfl),hb,H0⟩
theorem Zsn (a0:Int) (a1:List Zbg) {r:Zk × (Option Zf)} (h:Zh7 a0 a1=some r):FnOk Tryz.prog 8 [(pInt .i64 a0),(Zb6.sl.pd a1)] (pTup [(Zy.pd r.1),(Z7.opt.pd r.2)]):=by
 have H0:=h
 unfold Zh7 at H0
 clear h
 refine Zbs (N:=63) Tryz.func8 rfl rfl (Qe rfl) rfl rfl (fun a g0 hst hb=>?_)
 refine r_s (T:=[⟨[],[(4,(pBox Zy 4 (default:Zk)))],[5],[],[4]⟩,⟨[],[(5,(Z7.opt.pd (none:Option Zf)))],[],[],[5]⟩]) (F:=[.o 0,.o 1,.p 0 0]) hst hb Za
  (o_p rfl (Zbi (zs:=[.pointer none,.int .i64 0]) (by kernel_rfl) (fun g=>Zdx g) rfl rfl)<|o_p rfl (Zcu rfl rfl (Opd.c (fun g=>Zuk g)))<|o_n) (fun a g hst hb=>?_)
 obtain ⟨r1,h2,H0⟩:=Zc H0
 refine r_s (T:=[⟨[.o 0],_,[],[],[12]⟩,⟨[.p 0 0],_,[],[0],[13]⟩,⟨[.p 1 0],_,[],[0,1],[11]⟩,⟨[.p 2 0],_,[],[0,1,2],[14]⟩,⟨[.p 2 0],_,[],[0,1,2],[15]⟩,⟨[],[(6,(pBox Zy 6 (default:Zk)))],[7],[],[6]⟩,⟨[.p 3 0,.p 5 0],_,[7],[0,1,2,3,5],[6]⟩,⟨[.p 4 0],_,[],Lr 7,[7]⟩]) (F:=[.o 0,.o 1,.o 2,.p 6 0,.p 7 0]) hst hb Za
  (Qm rfl u_0<|o_p rfl (Zl Z9m (Zt8 _ h2) rfl rfl (.cons u_0 .nil))<|Qm rfl u_0<|o_p rfl (Zz rfl rfl u_0 rfl)<|o_p rfl (Zz rfl rfl u_0 rfl)<|o_p rfl (Zbi (zs:=[.pointer none,.int .i64 0]) (by kernel_rfl) (fun g=>Zdx g) rfl rfl)<|o_p rfl (Z3 Zbv rfl rfl u_1 u_0)<|Qa rfl u_0<|o_n) (fun a g hst hb=>?_)
 refine wp_seq ?_
 refine r_s (T:=[⟨[.o 4],_,[],[],[16]⟩,⟨[.p 0 0],_,[],[0],[17]⟩,⟨[.p 1 0],_,[],[0,1],[18]⟩,⟨[.p 2 0,.o 1],_,[],[0,1,2],[19]⟩,⟨[.p 2 0,.p 3 0],_,[],Lr 4,[20]⟩,⟨[.p 2 0,.p 4 0],_,[],Lr 5,[21]⟩,⟨[.p 2 0,.p 5 0],_,[],Lr 6,[22]⟩]) (F:=[.o 0,.o 1,.o 2,.o 3,.p 6 0]) hst hb Za
  (Qm rfl u_0<|o_p rfl (Zdn rfl rfl u_0 c_i)<|Qm rfl u_0<|o_g (Qg_f rfl (fun hG=>Z6 rfl rfl u_0))<|o_g (Qg_f rfl (fun hG=>Zbx Tryz.underlying22 rfl rfl (Opd.gd hG u_0)))<|o_g (Qg_f rfl (fun hG=>Zct rfl rfl (Opd.gd hG u_0) c_i))<|o_p rfl (Zbp rfl rfl u_0 (fun hz=>(Opd.gd (bNF hz) u_1)))<|o_n) (fun a g hst hb=>?_)
 refine wp_cond_split (hst.bool 4 rfl) (fun hc3=>?_) (fun hc3=>?_)
 ·replace H0:=Zu hc3 H0
  refine r_s (L:=[(4,_),(6,_)]) (T:=[⟨[.o 1],_,[],[],[23]⟩,⟨[.p 0 0,.o 0],_,[5],[0],[4]⟩,⟨[],[(5,(Z7.opt.pd (none:Option Zf)))],[],[0,1],[5]⟩]) (F:=[.p 1 0,.p 2 0]) (hst.pick [2,3] rfl) hb Za
   (QM rfl Zbv u_0<|o_p rfl (Z3 Zbv rfl rfl u_1 u_0)<|o_p rfl (Zcu rfl rfl (Opd.c (fun g=>Zuk g)))<|o_n) (fun a g hst hb=>?_)
  refine wp_ret ?_
  refine Zo ?_
  obtain rfl:=Option.some.inj H0
  obtain ⟨u0,hu0,hq0⟩:=Zbh (P:=Tryz.prog) Zbv (hst.at 0 rfl)
  exact Zdw rfl hst hb hu0 (Zg (s:=5)) (Zcw hq0 (hst.at 1 rfl))
 ·replace H0:=Zt hc3 H0
  refine wp_skip ?_
  refine Zp ?_
  refine r_s (L:=[(0,_),(1,_),(4,_),(6,_)]) (T:=[⟨[.o 0],_,[],[],[24]⟩,⟨[.p 0 0],_,[],[0],[25]⟩,⟨[],[(8,(pBox Z7 8 (default:Zf)))],[9],[],[8]⟩,⟨[.p 1 0,.p 2 0],_,[9],[0,1,2],[8]⟩]) (F:=[.o 1,.o 2,.o 3,.p 3 0]) (hst.pick [0,1,2,3] rfl) hb Za
   (Qm rfl u_0<|o_p rfl (Zba1 rfl rfl u_0)<|o_p rfl (Zbi (zs:=[.slice none 0 0,.int .i64 0]) (by kernel_rfl) (fun g=>Zeg g) rfl rfl)<|o_p rfl (Z3 Zco rfl rfl u_1 u_0)<|o_n) (fun a g hst hb=>?_)
  refine wp_seq ?_
  refine r_s (T:=[⟨[.o 0],_,[],[],[26]⟩,⟨[.p 0 0],_,[],[0],[27]⟩,⟨[],_,[],[],[28]⟩]) (F:=[.o 1,.o 2,.o 3,.p 0 0,.p 1 0,.p 2 0]) hst hb Za
   (Qm rfl u_0<|o_p rfl (Zbx Tryz.underlying22 rfl rfl u_0)<|Qm rfl c_i<|o_n) (fun a g hst hb=>?_)
  obtain ⟨z21,hz1,H0⟩:=Zc H0
  refine Zb3 (fun a w=>∃ (y18:Zk) (y19:Zk) (y20:Zf) (g:G),w=g.w ∧ St 63 [(4,(pBox Zy 4 y18)),(6,(pBox Zy 6 y19)),(8,(pBox Z7 8 y20))] a g ∧ Base g0 g ∧ (.inr (y18,y19,y20))=z21) ?_ ?_
  ·rintro a w ⟨y18,y19,y20,g,rfl,hst,hb,rfl⟩
   refine Zp ?_
   refine r_s (T:=[⟨[.o 1],_,[],[],[62]⟩,⟨[.p 0 0,.o 0],_,[5],[0],[4]⟩,⟨[.o 2],_,[9],[0,1],[5,8]⟩]) (F:=[.p 1 0,.p 2 0]) hst hb Za
    (QM rfl Zbv u_0<|o_p rfl (Z3 Zbv rfl rfl u_1 u_0)<|o_p rfl (Z8d (.inr rfl) rfl u_0)<|o_n) (fun a g hst hb=>?_)
   refine wp_ret ?_
   obtain rfl:=Option.some.inj H0
   obtain ⟨u0,hu0,hq0⟩:=Zbh (P:=Tryz.prog) Zbv (hst.at 0 rfl)
   exact Zdw rfl hst hb hu0 (Zg (s:=5)) (Zcw hq0 (hst.at 1 rfl))
  ·refine wp_block ?_
   refine wp_loop_ghost (fun n a w=>∃ (x4:Zk) (x5:Zk) (x6:Zf) (x7:Int) (g:G),w=g.w ∧ St 63 [(4,(pBox Zy 4 x4)),(6,(pBox Zy 6 x5)),(8,(pBox Z7 8 x6)),(26,(Zb6.sl.pd a1)),(27,(pInt .i64 (a1.length:Int))),(28,(pInt .i64 x7))] a g ∧ Base g0 g ∧ Zd4 a1 n x4 x5 x6 x7=some z21) (Int.toNat ((a1.length:Int) - (0:Int)) + 1) ⟨(default:Zk),r1.1,({ L:=([]:List Zbg),Room:=a0 }:Zf),(0:Int),g,rfl,(hst.pick [0,1,2,3,4,5] rfl),hb,hz1⟩ (fun n a w hI=>?_)
   obtain ⟨x4,x5,x6,x7,g,rfl,hst,hb,H1⟩:=hI
   cases n with
   | zero=>exact absurd H1 (by simp [Zd4])
   | succ n =>
    rw [Zd4] at H1
    refine r_s (T:=[⟨[.o 5,.o 4],_,[],[],[29]⟩]) (F:=[.o 0,.o 1,.o 2,.o 3,.o 4,.o 5,.p 0 0]) hst hb Za
     (o_p rfl (Zca rfl rfl u_0 u_1)<|o_n) (fun a g hst hb=>?_)
    refine wp_seq ?_
    refine wp_cond_split (hst.bool 6 rfl) (fun hc8=>?_) (fun hc8=>?_)
    ·replace H1:=Zu hc8 H1
     refine wp_skip ?_
     refine Zp ?_
     refine wp_seq ?_
     refine wp_block ?_
     obtain ⟨e9,h10,H1⟩:=Zc H1
     refine r_s (L:=[(4,_),(6,_),(8,_),(26,_),(27,_),(28,_)]) (T:=[⟨[.o 3,.o 5],_,[],[],[30]⟩,⟨[.p 0 0],_,[],[0],[31]⟩,⟨[],[(10,(pBox Zb6 10 (default:Zbg)))],[11],[],[10]⟩,⟨[.p 1 0,.p 2 0],_,[11],[0,1,2],[10]⟩]) (F:=[.o 0,.o 1,.o 2,.p 3 0,.o 3,.o 4,.o 5]) (hst.pick [0,1,2,3,4,5] rfl) hb Za
      (o_p rfl (Zbl Tryz.underlying22 Zoa rfl rfl u_0 u_1 h10)<|Ql rfl Z0k u_0<|o_p rfl (Zbi (zs:=[.string ByteArray.empty,.int .i64 0,.int .i64 0,.int .i64 0,.int .i64 0,.float .f64 0,.int .i64 0,.string ByteArray.empty,.slice none 0 0]) (by kernel_rfl) (fun g=>Zom g) rfl rfl)<|o_p rfl (Zb5 Z0k rfl rfl u_1 u_0)<|o_n) (fun a g hst hb=>?_)
     refine wp_seq ?_
     obtain ⟨r11,h12,H1⟩:=Zc H1
     refine r_s (T:=[⟨[.o 3],_,[],[],[32]⟩,⟨[.p 0 0],_,[],[0],[33]⟩,⟨[.p 1 0],_,[],[0,1],[34]⟩,⟨[.p 2 0],_,[],[0,1,2],[35]⟩,⟨[.p 3 0],_,[],Lr 4,[36]⟩,⟨[.p 4 0,.o 3],_,[],Lr 5,[37]⟩,⟨[.p 4 0,.p 5 0],_,[],Lr 6,[38]⟩,⟨[.p 4 0,.p 6 0],_,[],Lr 7,[39]⟩,⟨[.p 4 0,.p 7 0],_,[],Lr 8,[40]⟩,⟨[.p 4 0,.p 8 0],_,[],Lr 9,[41]⟩]) (F:=[.o 0,.o 1,.o 2,.o 3,.o 4,.o 5,.o 6,.p 9 0]) hst hb Za
      (Qf rfl Znz u_0<|Ql rfl ty_9 u_0<|o_p rfl (Zfy Tryz.underlying9 rfl rfl u_0)<|o_p rfl (Zct rfl rfl u_0 c_i)<|Qm rfl u_0<|o_g (Qg_f rfl (fun hG=>Zi Zr6 rfl rfl u_0))<|o_g (Qg_f rfl (fun hG=>Zv Zbe rfl rfl (Opd.gd hG u_0)))<|o_g (Qg_f rfl (fun hG=>Zl Z9n (Zps _ (Zbn h12 hG)) rfl rfl (.cons (Opd.gd hG u_0) .nil)))<|o_g (Qg_f rfl (fun hG=>Zct rfl rfl (Opd.gd hG u_0) c_i))<|o_p rfl (Zbp rfl rfl u_0 (fun hz=>(Opd.gd (bNF hz) u_1)))<|o_n) (fun a g hst hb=>?_)
     refine wp_cond_split (hst.bool 7 rfl) (fun hc13=>?_) (fun hc13=>?_)
     ·replace H1:=Zu hc13 H1
      refine r_s (L:=[(4,_),(6,_)]) (T:=[⟨[.o 1],_,[],[],[42]⟩,⟨[.p 0 0,.o 0],_,[5],[0],[4]⟩,⟨[],[(5,(Z7.opt.pd (none:Option Zf)))],[],[0,1],[5]⟩]) (F:=[.p 1 0,.p 2 0]) (hst.pick [0,1] rfl) hb Za
       (QM rfl Zbv u_0<|o_p rfl (Z3 Zbv rfl rfl u_1 u_0)<|o_p rfl (Zcu rfl rfl (Opd.c (fun g=>Zuk g)))<|o_n) (fun a g hst hb=>?_)
      refine wp_ret ?_
      refine Zo ?_
      refine Z5 ?_
      refine Zo ?_
      refine Zo ?_
      refine Z5 ?_
      refine Zo ?_
      refine Zo ?_
      obtain rfl:=Option.some.inj H1
      obtain rfl:=Option.some.inj H0
      obtain ⟨u0,hu0,hq0⟩:=Zbh (P:=Tryz.prog) Zbv (hst.at 0 rfl)
      exact Zdw rfl hst hb hu0 (Zg (s:=5)) (Zcw hq0 (hst.at 1 rfl))
     ·replace H1:=Zt hc13 H1
      refine wp_skip ?_
      refine Zp ?_
      obtain ⟨r14,h15,H1⟩:=Zc H1
      refine r_s (L:=[(4,_),(6,_),(8,_),(10,_),(26,_),(27,_),(28,_)]) (T:=[⟨[.o 1],_,[],[],[44]⟩,⟨[.o 3],_,[],[],[45]⟩,⟨[.p 1 0],_,[],[1],[46]⟩,⟨[.o 3],_,[],[],[47]⟩,⟨[.p 3 0],_,[],[3],[48]⟩,⟨[.p 0 0,.p 2 0,.p 4 0],_,[],Lr 5,[49]⟩,⟨[.p 5 0],_,[],Lr 6,[43]⟩,⟨[.p 6 0],_,[],Lr 7,[50]⟩,⟨[.p 6 0],_,[],Lr 7,[51]⟩,⟨[.p 7 0,.o 1],_,[7],Lr 8,[6]⟩]) (F:=[.o 0,.p 9 0,.o 2,.o 3,.o 4,.o 5,.o 6]) (hst.pick [0,1,2,3,4,5,6] rfl) hb Za
       (QM rfl Zbv u_0<|Qf rfl Znz u_0<|Ql rfl ty_9 u_0<|Qf rfl Zr6 u_0<|Ql rfl Zbe u_0<|o_p rfl (Zl Z0l (Zkw _ _ _ h15) rfl rfl (.cons u_0 (.cons u_1 (.cons u_2 .nil))))<|Qm rfl u_0<|o_p rfl (Zz rfl rfl u_0 rfl)<|o_p rfl (Zz rfl rfl u_0 rfl)<|o_p rfl (Z3 Zbv rfl rfl u_1 u_0)<|o_n) (fun a g hst hb=>?_)
      obtain ⟨r16,h17,H1⟩:=Zc H1
      refine r_g (T:=[⟨[.o 2],_,[],[],[53]⟩,⟨[.o 3],_,[],[],[54]⟩,⟨[.p 1 0],_,[],[1],[55]⟩,⟨[.o 3],_,[],[],[56]⟩,⟨[.p 3 0],_,[],[3],[57]⟩,⟨[.p 0 0,.p 2 0,.p 4 0],_,[],Lr 5,[58]⟩,⟨[.p 5 0],_,[],Lr 6,[52]⟩,⟨[.p 6 0],_,[],Lr 7,[59]⟩,⟨[.p 6 0],_,[],Lr 7,[60]⟩,⟨[.p 7 0,.o 2],_,[9],Lr 8,[8]⟩]) (F:=[.o 0,.o 1,.p 9 0,.o 4,.o 5,.o 6]) hst hb Za
       (QM rfl Zco u_0<|Qf rfl Znz u_0<|Ql rfl ty_9 u_0<|Qf rfl Zr6 u_0<|Ql rfl Zbe u_0<|o_p rfl (Zl Zbac (Zmq _ _ _ h17) rfl rfl (.cons u_0 (.cons u_1 (.cons u_2 .nil))))<|Qm rfl u_0<|o_p rfl (Zz rfl rfl u_0 rfl)<|o_p rfl (Zz rfl rfl u_0 rfl)<|o_p rfl (Z3 Zco rfl rfl u_1 u_0)<|o_n) (fun a g hst hb=>?_)
      refine Zbc ?_
      refine Zp ?_
      refine r_g (T:=[⟨[.o 5],_,[],[],[61]⟩,⟨[.p 0 0],_,[],[0],[28]⟩]) (F:=[.o 0,.o 1,.o 2,.o 3,.o 4,.p 1 0]) hst hb Za
       (o_p rfl (Zb0 rfl rfl u_0 c_i rfl)<|Qm rfl u_0<|o_n) (fun a g hst hb=>?_)
      exact ⟨n,Nat.lt_succ_self _,x4,r14.1,r16.1,(IntKind.i64.wrap (x7 + (1:Int))),g,rfl,(hst.pick [0,1,2,3,4,5] rfl),hb,H1⟩
    ·replace H1:=Zt hc8 H1
     refine wp_exit ?_
     refine Zby ?_
     refine Zby ?_
     refine Zcb ?_
     exact ⟨x4,x5,x6,g,rfl,(hst.pick [0,1,2] rfl),hb,Option.some.inj H1⟩
theorem Zs0 (a0:Zw) {r:Int × Zw} (h:Zla a0=some r):FnMR Tryz.prog 13 Zb4 a0 r.2 [] (pInt .i64 r.1):=by
 have H0:=h
 unfold Zla at H0
 clear h
 refine Zban (N:=13) Tryz.func13 rfl rfl (Qe rfl) rfl rfl (fun a g0 b0 hst hb=>?_)
 replace hst:St 13 [(0,(Zcc (some b0) Zb4 0 a0))] _ _:=hst
 refine r_s (T:=[⟨[],_,[],[],[2]⟩]) (F:=[.o 0]) hst hb Za
  (Qa rfl c_i<|o_n) (fun a g hst hb=>?_)
 refine r_s (T:=[⟨[],_,[],[],[3]⟩]) (F:=[.o 0,.p 0 0]) hst hb Za
  (Qa rfl c_i<|o_n) (fun a g hst hb=>?_)
 obtain ⟨z8,hz1,H0⟩:=Zc H0
 refine wp_seq ?_
 refine Zb3 (fun a w=>∃ (y6:Zw) (y7:Int) (g:G),w=g.w ∧ St 13 [(0,(Zcc (some b0) Zb4 0 y6)),(3,(pInt .i64 y7))] a g ∧ Base g0 g ∧ (y6,y7)=z8) ?_ ?_
 ·rintro a w ⟨y6,y7,g,rfl,hst,hb,rfl⟩
  refine Zp ?_
  refine r_s (T:=[⟨[.o 1],_,[],[],[12]⟩,⟨[.p 0 0],_,[],[0],[2]⟩]) (F:=[.o 0,.p 1 0]) hst hb Za
   (Qm rfl u_0<|Qa rfl u_0<|o_n) (fun a g hst hb=>?_)
  refine wp_ret ?_
  obtain rfl:=Option.some.inj H0
  exact Zbfl rfl hst hb (Zg (s:=2)) (hst.at 1 rfl) (hst.at 0 rfl)
 ·refine wp_block ?_
  refine wp_loop_ghost (fun n a w=>∃ (x1:Zw) (x2:Int) (g:G),w=g.w ∧ St 13 [(0,(Zcc (some b0) Zb4 0 x1)),(3,(pInt .i64 x2))] a g ∧ Base g0 g ∧ Zfn n x1 x2=some z8) (Int.toNat ((20:Int) - (0:Int)) + 1) ⟨a0,(0:Int),g,rfl,(hst.pick [0,1] rfl),hb,hz1⟩ (fun n a w hI=>?_)
  obtain ⟨x1,x2,g,rfl,hst,hb,H1⟩:=hI
  cases n with
  | zero=>exact absurd H1 (by simp [Zfn])
  | succ n =>
   rw [Zfn] at H1
   refine wp_seq ?_
   obtain ⟨r3,h4,H1⟩:=Zc H1
   refine r_s (T:=[⟨[.o 1],_,[],[],[4]⟩,⟨[.p 0 0],_,[],[0],[5]⟩,⟨[.p 1 0],_,[],[0,1],[6]⟩,⟨[.p 2 0,.o 0],[(7,(pIf (decide (x2 < (20:Int))) (Zcc (some b0) Zb4 0 x1)))],[],[0,1,2],[7]⟩,⟨[.p 2 0,.p 3 0,.o 0],[(8,(pIf (decide (x2 < (20:Int))) (Zbf r3.2))),(0,(Zcc (some b0) Zb4 0 (if (decide (x2 < (20:Int)))=true then r3.1 else x1)))],[1,1000001],Lr 4,[0,7,8]⟩,⟨[.p 2 0,.p 4 0],_,[],Lr 5,[9]⟩]) (F:=[.p 4 1,.o 1,.p 5 0]) hst hb Za
    (Qm rfl u_0<|o_p rfl (Zca rfl rfl u_0 c_i)<|Qm rfl u_0<|o_g (Qg_t rfl (fun hG=>Z6 rfl rfl u_0))<|o_g (OT.guardMR (decide (x2 < (20:Int))) (gT (decide (x2 < (20:Int)))).1 (gT (decide (x2 < (20:Int)))).2 rfl rfl rfl (by decide) u_1 (fun hG=>Zef Zu4 (Zh6 _ (Zbn h4 hG)) rfl rfl rfl (by decide) u_1 (Opd.gd hG u_0) .nil) rfl)<|o_p rfl (Zbk rfl rfl u_0 (fun hz=>(Opd.gd hz u_1)))<|o_n) (fun a g hst hb=>?_)
   refine wp_cond_split (hst.bool 2 rfl) (fun hc5=>?_) (fun hc5=>?_)
   ·replace H1:=Zu hc5 H1
    refine wp_skip ?_
    refine Zp ?_
    refine wp_block ?_
    refine r_g (L:=[(0,_),(3,_)]) (T:=[⟨[.o 1],_,[],[],[10]⟩,⟨[.p 0 0],_,[],[0],[11]⟩,⟨[.p 1 0],_,[],[0,1],[3]⟩]) (F:=[.o 0,.p 2 0]) (hst.pick [0,1] rfl) hb Za
     (Qm rfl u_0<|o_p rfl (Zb0 rfl rfl u_0 c_i rfl)<|Qa rfl u_0<|o_n) (fun a g hst hb=>?_)
    refine Zbc ?_
    exact ⟨n,Nat.lt_succ_self _,(if (decide (x2 < (20:Int)))=true then r3.1 else x1),(IntKind.i64.wrap (x2 + (1:Int))),g,rfl,(hst.pick [0,1] rfl),hb,H1⟩
   ·replace H1:=Zt hc5 H1
    refine wp_exit ?_
    refine Zby ?_
    refine Zby ?_
    refine Zcb ?_
    exact ⟨(if (decide (x2 < (20:Int)))=true then r3.1 else x1),x2,g,rfl,(hst.pick [0,1] rfl),hb,Option.some.inj H1⟩
theorem Zo9 (a0:Zw) {r:Zw × Int} (h:Zkj a0=some r):FnMR Tryz.prog 13 Zb4 a0 r.1 [] (pInt .i64 r.2):=by
 obtain ⟨u,h1,h2⟩:=Zc h
 obtain rfl:=Option.some.inj h2
 exact Zs0 a0 h1
theorem Ztf (a0:Zk) {r:Int} (h:Zlo a0=some r):FnOk Tryz.prog 46 [(Zy.pd a0)] (pInt .i64 r):=by
 have H0:=h
 unfold Zlo at H0
 clear h
 refine Zbs (N:=5) Tryz.func46 rfl rfl (Qe rfl) rfl rfl (fun a g0 hst hb=>?_)
 refine r_s (T:=[⟨[.o 0],_,[],[],[1]⟩,⟨[],_,[],[],[2]⟩]) (F:=[.p 0 0]) hst hb Za
  (Qb rfl u_0<|Qa rfl c_i<|o_n) (fun a g hst hb=>?_)
 refine r_s (T:=[⟨[.o 0],_,[],[],[3]⟩,⟨[.p 0 0],_,[],[0],[4]⟩,⟨[.p 1 0],_,[],[0,1],[2]⟩]) (F:=[.p 2 0]) hst hb Za
  (Qf rfl Zu9 u_0<|Ql rfl ty_3 u_0<|Qa rfl u_0<|o_n) (fun a g hst hb=>?_)
 refine wp_ret ?_
 obtain rfl:=Option.some.inj H0
 exact Z4 rfl hst hb (Zg (s:=2)) (hst.at 0 rfl)
theorem Zma (a0:Zb) (a1:Zb) {r:Bool} (h:Zhe a0 a1=some r):FnOk Tryz.prog 47 [(Ze.pd a0),(Ze.pd a1)] (Zbf r):=by
 have H0:=h
 unfold Zhe at H0
 clear h
 refine Zbs (N:=97) Tryz.func47 rfl rfl (Qe rfl) rfl rfl (fun a g0 hst hb=>?_)
 refine r_s (T:=[⟨[.o 0],_,[],[],[2]⟩,⟨[.o 1],_,[],[],[3]⟩,⟨[],_,[],[],[4]⟩]) (F:=[.p 0 0,.p 1 0]) hst hb Za
  (Qb rfl u_0<|Qb rfl u_0<|Qa rfl c_b<|o_n) (fun a g hst hb=>?_)
 refine wp_seq ?_
 refine r_s (T:=⟨[.o 0],_,[],[],[6]⟩ :: ⟨[.p 0 0],_,[],[0],[7]⟩ :: ⟨[.o 1],_,[],[],[8]⟩ :: ⟨[.p 2 0],_,[],[2],[9]⟩ :: ⟨[.p 1 0,.p 3 0],_,[],Lr 4,[10]⟩ :: ⟨[.p 4 0],_,[],Lr 5,[11]⟩ :: ⟨[.p 5 0,.o 0],_,[],Lr 6,[12]⟩ :: ⟨[.p 5 0,.p 6 0],_,[],Lr 7,[13]⟩ :: ⟨[.p 5 0,.o 1],_,[],Lr 6,[14]⟩ :: ⟨[.p 5 0,.p 8 0],_,[],[0,1,2,3,4,5,8],[15]⟩ :: ⟨[.p 5 0,.p 7 0,.p 9 0],_,[],Lr 10,[16]⟩ :: ⟨[.p 5 0,.p 10 0],_,[],Lr 11,[17]⟩ :: ⟨[.p 11 0],_,[],Lr 12,[18]⟩ :: ⟨[.p 12 0,.o 0],_,[],Lr 13,[19]⟩ :: ⟨[.p 12 0,.p 13 0],_,[],Lr 14,[20]⟩ :: ⟨[.p 12 0,.o 1],_,[],Lr 13,[21]⟩ :: ⟨[.p 12 0,.p 15 0],_,[],0 :: 1 :: 2 :: 3 :: 4 :: 5 :: 6 :: 7 :: 8 :: 9 :: 10 :: 11 :: 12 :: 15 :: [],[22]⟩ :: ⟨[.p 12 0,.p 14 0,.p 16 0],_,[],Lr 17,[23]⟩ :: ⟨[.p 12 0,.p 17 0],_,[],Lr 18,[24]⟩ :: ⟨[.p 18 0],_,[],Lr 19,[25]⟩ :: ⟨[.p 19 0,.o 0],_,[],Lr 20,[26]⟩ :: ⟨[.p 19 0,.p 20 0],_,[],Lr 21,[27]⟩ :: ⟨[.p 19 0,.o 1],_,[],Lr 20,[28]⟩ :: ⟨[.p 19 0,.p 22 0],_,[],0 :: 1 :: 2 :: 3 :: 4 :: 5 :: 6 :: 7 :: 8 :: 9 :: 10 :: 11 :: 12 :: 13 :: 14 :: 15 :: 16 :: 17 :: 18 :: 19 :: 22 :: [],[29]⟩ :: ⟨[.p 19 0,.p 21 0,.p 23 0],_,[],Lr 24,[30]⟩ :: ⟨[.p 19 0,.p 24 0],_,[],Lr 25,[31]⟩ :: ⟨[.p 25 0],_,[],Lr 26,[32]⟩ :: ⟨[.p 26 0,.o 0],_,[],Lr 27,[33]⟩ :: ⟨[.p 26 0,.p 27 0],_,[],Lr 28,[34]⟩ :: ⟨[.p 26 0,.o 1],_,[],Lr 27,[35]⟩ :: ⟨[.p 26 0,.p 29 0],_,[],0 :: 1 :: 2 :: 3 :: 4 :: 5 :: 6 :: 7 :: 8 :: 9 :: 10 :: 11 :: 12 :: 13 :: 14 :: 15 :: 16 :: 17 :: 18 :: 19 :: 20 :: 21 :: 22 :: 23 :: 24 :: 25 :: 26 :: 29 :: [],[36]⟩ :: ⟨[.p 26 0,.p 28 0,.p 30 0],_,[],Lr 31,[37]⟩ :: ⟨[.p 26 0,.p 31 0],_,[],Lr 32,[38]⟩ :: ⟨[.p 32 0],_,[],Lr 33,[39]⟩ :: ⟨[.p 33 0,.o 0],_,[],Lr 34,[40]⟩ :: ⟨[.p 33 0,.p 34 0],_,[],Lr 35,[41]⟩ :: ⟨[.p 33 0,.o 1],_,[],Lr 34,[42]⟩ :: ⟨[.p 33 0,.p 36 0],_,[],0 :: 1 :: 2 :: 3 :: 4 :: 5 :: 6 :: 7 :: 8 :: 9 :: 10 :: 11 :: 12 :: 13 :: 14 :: 15 :: 16 :: 17 :: 18 :: 19 :: 20 :: 21 :: 22 :: 23 :: 24 :: 25 :: 26 :: 27 :: 28 :: 29 :: 30 :: 31 :: 32 :: 33 :: 36 :: [],[43]⟩ :: ⟨[.p 33 0,.p 35 0,.p 37 0],_,[],Lr 38,[44]⟩ :: ⟨[.p 33 0,.p 38 0],_,[],Lr 39,[45]⟩ :: []) (F:=[.o 0,.o 1,.p 39 0]) hst hb Za
  (Qf rfl Zgm u_0<|Ql rfl ty_3 u_0<|Qf rfl Zgm u_0<|Ql rfl ty_3 u_0<|o_p rfl (Zdn rfl rfl u_0 u_1)<|Qm rfl u_0<|o_g (Qg_f rfl (fun hG=>Zi Zc3 rfl rfl u_0))<|o_g (Qg_f rfl (fun hG=>Zv ty_2 rfl rfl (Opd.gd hG u_0)))<|o_g (Qg_f rfl (fun hG=>Zi Zc3 rfl rfl u_0))<|o_g (Qg_f rfl (fun hG=>Zv ty_2 rfl rfl (Opd.gd hG u_0)))<|o_g (Qg_f rfl (fun hG=>Zdn rfl rfl (Opd.gd hG u_0) (Opd.gd hG u_1)))<|o_p rfl (Zbp rfl rfl u_0 (fun hz=>(Opd.gd (bNF hz) u_1)))<|Qm rfl u_0<|o_g (Qg_f rfl (fun hG=>Zi Zkf rfl rfl u_0))<|o_g (Qg_f rfl (fun hG=>Zv ty_2 rfl rfl (Opd.gd hG u_0)))<|o_g (Qg_f rfl (fun hG=>Zi Zkf rfl rfl u_0))<|o_g (Qg_f rfl (fun hG=>Zv ty_2 rfl rfl (Opd.gd hG u_0)))<|o_g (Qg_f rfl (fun hG=>Zdn rfl rfl (Opd.gd hG u_0) (Opd.gd hG u_1)))<|o_p rfl (Zbp rfl rfl u_0 (fun hz=>(Opd.gd (bNF hz) u_1)))<|Qm rfl u_0<|o_g (Qg_f rfl (fun hG=>Zi Zkd rfl rfl u_0))<|o_g (Qg_f rfl (fun hG=>Zv ty_2 rfl rfl (Opd.gd hG u_0)))<|o_g (Qg_f rfl (fun hG=>Zi Zkd rfl rfl u_0))<|o_g (Qg_f rfl (fun hG=>Zv ty_2 rfl rfl (Opd.gd hG u_0)))<|o_g (Qg_f rfl (fun hG=>Zdn rfl rfl (Opd.gd hG u_0) (Opd.gd hG u_1)))<|o_p rfl (Zbp rfl rfl u_0 (fun hz=>(Opd.gd (bNF hz) u_1)))<|Qm rfl u_0<|o_g (Qg_f rfl (fun hG=>Zi Zhf rfl rfl u_0))<|o_g (Qg_f rfl (fun hG=>Zv ty_3 rfl rfl (Opd.gd hG u_0)))<|o_g (Qg_f rfl (fun hG=>Zi Zhf rfl rfl u_0))<|o_g (Qg_f rfl (fun hG=>Zv ty_3 rfl rfl (Opd.gd hG u_0)))<|o_g (Qg_f rfl (fun hG=>Zdn rfl rfl (Opd.gd hG u_0) (Opd.gd hG u_1)))<|o_p rfl (Zbp rfl rfl u_0 (fun hz=>(Opd.gd (bNF hz) u_1)))<|Qm rfl u_0<|o_g (Qg_f rfl (fun hG=>Zi Zj2 rfl rfl u_0))<|o_g (Qg_f rfl (fun hG=>Zv ty_9 rfl rfl (Opd.gd hG u_0)))<|o_g (Qg_f rfl (fun hG=>Zi Zj2 rfl rfl u_0))<|o_g (Qg_f rfl (fun hG=>Zv ty_9 rfl rfl (Opd.gd hG u_0)))<|o_g (Qg_f rfl (fun hG=>Zpg rfl rfl (Opd.gd hG u_0) (Opd.gd hG u_1)))<|o_p rfl (Zbp rfl rfl u_0 (fun hz=>(Opd.gd (bNF hz) u_1)))<|o_n) (fun a g hst hb=>?_)
 refine wp_cond_split (hst.bool 2 rfl) (fun hc1=>?_) (fun hc1=>?_)
 ·replace H0:=Zu hc1 H0
  refine r_s (L:=[]) (T:=[⟨[],_,[],[],[4]⟩]) (F:=[.p 0 0]) (hst.pick [] rfl) hb Za
   (Qa rfl c_b<|o_n) (fun a g hst hb=>?_)
  refine wp_ret ?_
  refine Zo ?_
  obtain rfl:=Option.some.inj H0
  exact Z4 rfl hst hb (Zg (s:=4)) (hst.at 0 rfl)
 ·replace H0:=Zt hc1 H0
  refine wp_skip ?_
  refine Zp ?_
  refine wp_seq ?_
  obtain ⟨r2,h3,H0⟩:=Zc H0
  refine r_s (L:=[(2,_),(3,_)]) (T:=⟨[.o 0],_,[],[],[46]⟩ :: ⟨[.p 0 0],_,[],[0],[47]⟩ :: ⟨[.o 1],_,[],[],[48]⟩ :: ⟨[.p 2 0],_,[],[2],[49]⟩ :: ⟨[.p 1 0,.p 3 0],_,[],Lr 4,[50]⟩ :: ⟨[.p 4 0],_,[],Lr 5,[51]⟩ :: ⟨[.p 5 0],_,[],Lr 6,[52]⟩ :: ⟨[.p 6 0,.o 0],_,[],Lr 7,[53]⟩ :: ⟨[.p 6 0,.p 7 0],_,[],Lr 8,[54]⟩ :: ⟨[.p 6 0,.p 8 0],_,[],Lr 9,[55]⟩ :: ⟨[.p 6 0,.o 1],_,[],Lr 7,[56]⟩ :: ⟨[.p 6 0,.p 10 0],_,[],[0,1,2,3,4,5,6,10],[57]⟩ :: ⟨[.p 6 0,.p 11 0],_,[],[0,1,2,3,4,5,6,10,11],[58]⟩ :: ⟨[.p 6 0,.p 9 0,.p 12 0],_,[],Lr 13,[59]⟩ :: ⟨[.p 6 0,.p 13 0],_,[],Lr 14,[60]⟩ :: []) (F:=[.o 0,.o 1,.p 14 0]) (hst.pick [0,1] rfl) hb Za
   (Qf rfl Zgl u_0<|Ql rfl Zc6 u_0<|Qf rfl Zgl u_0<|Ql rfl Zc6 u_0<|o_p rfl (Zl Zvc (Zg0 _ _ h3) rfl rfl (.cons u_0 (.cons u_1 .nil)))<|Qn rfl u_0<|Qm rfl u_0<|o_g (Qg_f rfl (fun hG=>Zi Zci rfl rfl u_0))<|o_g (Qg_f rfl (fun hG=>Zv Zdb rfl rfl (Opd.gd hG u_0)))<|o_g (Qg_f rfl (fun hG=>Zbx Tryz.underlying36 rfl rfl (Opd.gd hG u_0)))<|o_g (Qg_f rfl (fun hG=>Zi Zci rfl rfl u_0))<|o_g (Qg_f rfl (fun hG=>Zv Zdb rfl rfl (Opd.gd hG u_0)))<|o_g (Qg_f rfl (fun hG=>Zbx Tryz.underlying36 rfl rfl (Opd.gd hG u_0)))<|o_g (Qg_f rfl (fun hG=>Zdn rfl rfl (Opd.gd hG u_0) (Opd.gd hG u_1)))<|o_p rfl (Zbp rfl rfl u_0 (fun hz=>(Opd.gd (bNF hz) u_1)))<|o_n) (fun a g hst hb=>?_)
  refine wp_cond_split (hst.bool 2 rfl) (fun hc4=>?_) (fun hc4=>?_)
  ·replace H0:=Zu hc4 H0
   refine r_s (L:=[]) (T:=[⟨[],_,[],[],[4]⟩]) (F:=[.p 0 0]) (hst.pick [] rfl) hb Za
    (Qa rfl c_b<|o_n) (fun a g hst hb=>?_)
   refine wp_ret ?_
   refine Zo ?_
   obtain rfl:=Option.some.inj H0
   exact Z4 rfl hst hb (Zg (s:=4)) (hst.at 0 rfl)
  ·replace H0:=Zt hc4 H0
   refine wp_skip ?_
   refine Zp ?_
   refine wp_seq ?_
   refine r_s (L:=[(2,_),(3,_)]) (T:=[⟨[],_,[],[],[5]⟩]) (F:=[.o 0,.o 1,.p 0 0]) (hst.pick [0,1] rfl) hb Za
    (Qa rfl c_i<|o_n) (fun a g hst hb=>?_)
   obtain ⟨z18,hz1,H0⟩:=Zc H0
   refine Zb3 (fun a w=>∃ (g:G),w=g.w ∧ St 97 [] a g ∧ Base g0 g ∧ (.inr ())=z18) ?_ ?_
   ·rintro a w ⟨g,rfl,hst,hb,rfl⟩
    refine Zp ?_
    refine r_s (T:=[⟨[],_,[],[],[4]⟩]) (F:=[.p 0 0]) hst hb Za
     (Qa rfl c_b<|o_n) (fun a g hst hb=>?_)
    refine wp_ret ?_
    obtain rfl:=Option.some.inj H0
    exact Z4 rfl hst hb (Zg (s:=4)) (hst.at 0 rfl)
   ·refine wp_block ?_
    refine wp_loop_ghost (fun n a w=>∃ (x5:Int) (g:G),w=g.w ∧ St 97 [(2,(Ze.ptr a0)),(3,(Ze.ptr a1)),(5,(pInt .i64 x5))] a g ∧ Base g0 g ∧ Ze5 a0 a1 n x5=some z18) (Int.toNat ((a0.List.length:Int) - (0:Int)) + 1) ⟨(0:Int),g,rfl,(hst.pick [0,1,2] rfl),hb,hz1⟩ (fun n a w hI=>?_)
    obtain ⟨x5,g,rfl,hst,hb,H1⟩:=hI
    cases n with
    | zero=>exact absurd H1 (by simp [Ze5])
    | succ n =>
     rw [Ze5] at H1
     refine wp_seq ?_
     refine r_s (T:=[⟨[.o 2],_,[],[],[61]⟩,⟨[.o 0],_,[],[],[62]⟩,⟨[.p 1 0],_,[],[1],[63]⟩,⟨[.p 2 0],_,[],[1,2],[64]⟩,⟨[.p 0 0,.p 3 0],_,[],Lr 4,[65]⟩]) (F:=[.o 0,.o 1,.o 2,.p 4 0]) hst hb Za
      (Qm rfl u_0<|Qf rfl Zci u_0<|Ql rfl Zdb u_0<|o_p rfl (Zbx Tryz.underlying36 rfl rfl u_0)<|o_p rfl (Zca rfl rfl u_0 u_1)<|o_n) (fun a g hst hb=>?_)
     refine wp_cond_split (hst.bool 3 rfl) (fun hc6=>?_) (fun hc6=>?_)
     ·replace H1:=Zu hc6 H1
      refine wp_skip ?_
      refine Zp ?_
      refine wp_seq ?_
      refine wp_block ?_
      obtain ⟨e7,h8,H1⟩:=Zc H1;obtain ⟨e9,h10,H1⟩:=Zc H1;obtain ⟨e11,h12,H1⟩:=Zc H1;obtain ⟨e13,h14,H1⟩:=Zc H1;obtain ⟨r15,h16,H1⟩:=Zc H1
      refine r_s (L:=[(2,_),(3,_),(5,_)]) (T:=⟨[.o 0],_,[],[],[68]⟩ :: ⟨[.p 0 0],_,[],[0],[69]⟩ :: ⟨[.o 2],_,[],[],[70]⟩ :: ⟨[.p 1 0,.p 2 0],_,[],[0,1,2],[71]⟩ :: ⟨[.p 3 0],_,[],Lr 4,[72]⟩ :: ⟨[.p 4 0],_,[],Lr 5,[73]⟩ :: ⟨[.o 1],_,[],[],[74]⟩ :: ⟨[.p 6 0],_,[],[6],[75]⟩ :: ⟨[.o 2],_,[],[],[76]⟩ :: ⟨[.p 7 0,.p 8 0],_,[],[6,7,8],[77]⟩ :: ⟨[.p 9 0],_,[],List.range' 6 4,[78]⟩ :: ⟨[.p 10 0],_,[],List.range' 6 5,[79]⟩ :: ⟨[.p 5 0,.p 11 0],_,[],Lr 12,[80]⟩ :: ⟨[.p 12 0],_,[],Lr 13,[81]⟩ :: ⟨[.p 13 0,.o 0],_,[],Lr 14,[82]⟩ :: ⟨[.p 13 0,.p 14 0],_,[],Lr 15,[83]⟩ :: ⟨[.p 13 0,.o 2],_,[],Lr 14,[84]⟩ :: ⟨[.p 13 0,.p 15 0,.p 16 0],_,[],Lr 17,[85]⟩ :: ⟨[.p 13 0,.p 17 0],_,[],Lr 18,[86]⟩ :: ⟨[.p 13 0,.p 18 0],_,[],Lr 19,[87]⟩ :: ⟨[.p 13 0,.o 1],_,[],Lr 14,[88]⟩ :: ⟨[.p 13 0,.p 20 0],_,[],0 :: 1 :: 2 :: 3 :: 4 :: 5 :: 6 :: 7 :: 8 :: 9 :: 10 :: 11 :: 12 :: 13 :: 20 :: [],[89]⟩ :: ⟨[.p 13 0,.o 2],_,[],Lr 14,[90]⟩ :: ⟨[.p 13 0,.p 21 0,.p 22 0],_,[],0 :: 1 :: 2 :: 3 :: 4 :: 5 :: 6 :: 7 :: 8 :: 9 :: 10 :: 11 :: 12 :: 13 :: 20 :: 21 :: 22 :: [],[91]⟩ :: ⟨[.p 13 0,.p 23 0],_,[],0 :: 1 :: 2 :: 3 :: 4 :: 5 :: 6 :: 7 :: 8 :: 9 :: 10 :: 11 :: 12 :: 13 :: 20 :: 21 :: 22 :: 23 :: [],[92]⟩ :: ⟨[.p 13 0,.p 24 0],_,[],0 :: 1 :: 2 :: 3 :: 4 :: 5 :: 6 :: 7 :: 8 :: 9 :: 10 :: 11 :: 12 :: 13 :: 20 :: 21 :: 22 :: 23 :: 24 :: [],[93]⟩ :: ⟨[.p 13 0,.p 19 0,.p 25 0],_,[],Lr 26,[94]⟩ :: ⟨[.p 13 0,.p 26 0],_,[],Lr 27,[95]⟩ :: ⟨[.p 13 0,.p 27 0],_,[],Lr 28,[96]⟩ :: []) (F:=[.o 0,.o 1,.o 2,.p 28 0]) (hst.pick [0,1,2] rfl) hb Za
       (Qf rfl Zci u_0<|Ql rfl Zdb u_0<|Qm rfl u_0<|o_p rfl (Zbl Tryz.underlying36 Zfe rfl rfl u_0 u_1 h8)<|Qf rfl Zd6 u_0<|Ql rfl ty_9 u_0<|Qf rfl Zci u_0<|Ql rfl Zdb u_0<|Qm rfl u_0<|o_p rfl (Zbl Tryz.underlying36 Zfe rfl rfl u_0 u_1 h10)<|Qf rfl Zd6 u_0<|Ql rfl ty_9 u_0<|o_p rfl (Zpg rfl rfl u_0 u_1)<|Qm rfl u_0<|o_g (Qg_f rfl (fun hG=>Zi Zci rfl rfl u_0))<|o_g (Qg_f rfl (fun hG=>Zv Zdb rfl rfl (Opd.gd hG u_0)))<|o_g (Qg_f rfl (fun hG=>Z6 rfl rfl u_0))<|o_g (Qg_f rfl (fun hG=>Zbl Tryz.underlying36 Zfe rfl rfl (Opd.gd hG u_0) (Opd.gd hG u_1) (Zbn h12 hG)))<|o_g (Qg_f rfl (fun hG=>Zi Zf3 rfl rfl (Opd.gd hG u_0)))<|o_g (Qg_f rfl (fun hG=>Zv Zc6 rfl rfl (Opd.gd hG u_0)))<|o_g (Qg_f rfl (fun hG=>Zi Zci rfl rfl u_0))<|o_g (Qg_f rfl (fun hG=>Zv Zdb rfl rfl (Opd.gd hG u_0)))<|o_g (Qg_f rfl (fun hG=>Z6 rfl rfl u_0))<|o_g (Qg_f rfl (fun hG=>Zbl Tryz.underlying36 Zfe rfl rfl (Opd.gd hG u_0) (Opd.gd hG u_1) (Zbn h14 hG)))<|o_g (Qg_f rfl (fun hG=>Zi Zf3 rfl rfl (Opd.gd hG u_0)))<|o_g (Qg_f rfl (fun hG=>Zv Zc6 rfl rfl (Opd.gd hG u_0)))<|o_g (Qg_f rfl (fun hG=>Zl Zvc (Zg0 _ _ (Zbn h16 hG)) rfl rfl (.cons (Opd.gd hG u_0) (.cons (Opd.gd hG u_1) .nil))))<|o_g (Qg_f rfl (fun hG=>Ze1 rfl rfl (Opd.gd hG u_0)))<|o_p rfl (Zbp rfl rfl u_0 (fun hz=>(Opd.gd (bNF hz) u_1)))<|o_n) (fun a g hst hb=>?_)
      refine wp_cond_split (hst.bool 3 rfl) (fun hc17=>?_) (fun hc17=>?_)
      ·replace H1:=Zu hc17 H1
       refine r_s (L:=[]) (T:=[⟨[],_,[],[],[4]⟩]) (F:=[.p 0 0]) (hst.pick [] rfl) hb Za
        (Qa rfl c_b<|o_n) (fun a g hst hb=>?_)
       refine wp_ret ?_
       refine Z5 ?_
       refine Zo ?_
       refine Zo ?_
       refine Z5 ?_
       refine Zo ?_
       refine Zo ?_
       obtain rfl:=Option.some.inj H1
       obtain rfl:=Option.some.inj H0
       exact Z4 rfl hst hb (Zg (s:=4)) (hst.at 0 rfl)
      ·replace H1:=Zt hc17 H1
       refine wp_skip ?_
       refine Zbc ?_
       refine Zp ?_
       refine r_g (L:=[(2,_),(3,_),(5,_)]) (T:=[⟨[.o 2],_,[],[],[66]⟩,⟨[.p 0 0],_,[],[0],[67]⟩,⟨[.p 1 0],_,[],[0,1],[5]⟩]) (F:=[.o 0,.o 1,.p 2 0]) (hst.pick [0,1,2] rfl) hb Za
        (Qm rfl u_0<|o_p rfl (Zb0 rfl rfl u_0 c_i rfl)<|Qa rfl u_0<|o_n) (fun a g hst hb=>?_)
       exact ⟨n,Nat.lt_succ_self _,(IntKind.i64.wrap (x5 + (1:Int))),g,rfl,(hst.pick [0,1,2] rfl),hb,H1⟩
     ·replace H1:=Zt hc6 H1
      refine wp_exit ?_
      refine Zby ?_
      refine Zby ?_
      refine Zcb ?_
      exact ⟨g,rfl,(hst.pick [] rfl),hb,Option.some.inj H1⟩
theorem Zpz (a0:Zk) (a1:Zf) {r:Int} (h:Zir a0 a1=some r):FnOk Tryz.prog 21 [(Zy.pd a0),(Z7.pd a1)] (pInt .i64 r):=by
 have H0:=h
 unfold Zir at H0
 clear h
 refine Zbs (N:=54) Tryz.func21 rfl rfl (Qe rfl) rfl rfl (fun a g0 hst hb=>?_)
 refine r_s (T:=[⟨[.o 0],_,[],[],[2]⟩,⟨[.o 1],_,[],[],[3]⟩,⟨[],_,[],[],[4]⟩]) (F:=[.p 0 0,.p 1 0]) hst hb Za
  (Qb rfl u_0<|Qb rfl u_0<|Qa rfl c_i<|o_n) (fun a g hst hb=>?_)
 refine wp_seq ?_
 obtain ⟨r1,h2,H0⟩:=Zc H0;obtain ⟨r3,h4,H0⟩:=Zc H0
 refine r_s (T:=⟨[.o 0],_,[],[],[10]⟩ :: ⟨[.p 0 0],_,[],[0],[11]⟩ :: ⟨[.o 1],_,[],[],[12]⟩ :: ⟨[.p 2 0],_,[],[2],[13]⟩ :: ⟨[.p 3 0],_,[],[2,3],[14]⟩ :: ⟨[.p 1 0,.p 4 0],_,[],Lr 5,[15]⟩ :: ⟨[.p 5 0],_,[],Lr 6,[16]⟩ :: ⟨[.p 6 0,.o 0],_,[],Lr 7,[17]⟩ :: ⟨[.p 6 0,.p 7 0],_,[],Lr 8,[18]⟩ :: ⟨[.p 6 0,.o 1],_,[],Lr 7,[19]⟩ :: ⟨[.p 6 0,.p 9 0],_,[],[0,1,2,3,4,5,6,9],[20]⟩ :: ⟨[.p 6 0,.p 8 0,.p 10 0],_,[],Lr 11,[21]⟩ :: ⟨[.p 6 0,.p 11 0],_,[],Lr 12,[22]⟩ :: []) (F:=[.o 0,.o 1,.p 12 0]) hst hb Za
  (Ql rfl Zbv u_0<|o_p rfl (Zl Zxw (Ziz _ h2) rfl rfl (.cons u_0 .nil))<|Qf rfl Zhq u_0<|Ql rfl Zkz u_0<|o_p rfl (Zbx Tryz.underlying22 rfl rfl u_0)<|o_p rfl (Zdn rfl rfl u_0 u_1)<|Qm rfl u_0<|o_g (Qg_f rfl (fun hG=>Zv Zbv rfl rfl u_0))<|o_g (Qg_f rfl (fun hG=>Zl Zben (Ztf _ (Zbn h4 hG)) rfl rfl (.cons (Opd.gd hG u_0) .nil)))<|o_g (Qg_f rfl (fun hG=>Zi Zr7 rfl rfl u_0))<|o_g (Qg_f rfl (fun hG=>Zv ty_3 rfl rfl (Opd.gd hG u_0)))<|o_g (Qg_f rfl (fun hG=>Zdn rfl rfl (Opd.gd hG u_0) (Opd.gd hG u_1)))<|o_p rfl (Zbp rfl rfl u_0 (fun hz=>(Opd.gd (bNF hz) u_1)))<|o_n) (fun a g hst hb=>?_)
 refine wp_cond_split (hst.bool 2 rfl) (fun hc5=>?_) (fun hc5=>?_)
 ·replace H0:=Zu hc5 H0
  refine r_s (L:=[]) (T:=[⟨[],_,[],[],[4]⟩]) (F:=[.p 0 0]) (hst.pick [] rfl) hb Za
   (Qa rfl c_i<|o_n) (fun a g hst hb=>?_)
  refine wp_ret ?_
  refine Zo ?_
  obtain rfl:=Option.some.inj H0
  exact Z4 rfl hst hb (Zg (s:=4)) (hst.at 0 rfl)
 ·replace H0:=Zt hc5 H0
  refine wp_skip ?_
  refine Zp ?_
  refine wp_seq ?_
  refine r_s (L:=[(2,_),(3,_)]) (T:=[⟨[.o 1],_,[],[],[23]⟩,⟨[.p 0 0],_,[],[0],[24]⟩,⟨[.p 1 0],_,[],[0,1],[25]⟩,⟨[],_,[],[],[26]⟩]) (F:=[.o 0,.p 1 0,.p 2 0,.p 3 0]) (hst.pick [0,1] rfl) hb Za
   (Qf rfl Zhq u_0<|Ql rfl Zkz u_0<|o_p rfl (Zbx Tryz.underlying22 rfl rfl u_0)<|Qm rfl c_i<|o_n) (fun a g hst hb=>?_)
  obtain ⟨z15,hz1,H0⟩:=Zc H0
  refine Zb3 (fun a w=>∃ (g:G),w=g.w ∧ St 54 [] a g ∧ Base g0 g ∧ (.inr ())=z15) ?_ ?_
  ·rintro a w ⟨g,rfl,hst,hb,rfl⟩
   refine Zp ?_
   refine r_s (T:=[⟨[],_,[],[],[4]⟩]) (F:=[.p 0 0]) hst hb Za
    (Qa rfl c_i<|o_n) (fun a g hst hb=>?_)
   refine wp_ret ?_
   obtain rfl:=Option.some.inj H0
   exact Z4 rfl hst hb (Zg (s:=4)) (hst.at 0 rfl)
  ·refine wp_block ?_
   refine wp_loop_ghost (fun n a w=>∃ (x6:Int) (g:G),w=g.w ∧ St 54 [(2,(Zy.ptr a0)),(24,(Zb6.sl.pd a1.L)),(25,(pInt .i64 (a1.L.length:Int))),(26,(pInt .i64 x6))] a g ∧ Base g0 g ∧ Zfz a0 a1 n x6=some z15) (Int.toNat ((a1.L.length:Int) - (0:Int)) + 1) ⟨(0:Int),g,rfl,(hst.pick [0,1,2,3] rfl),hb,hz1⟩ (fun n a w hI=>?_)
   obtain ⟨x6,g,rfl,hst,hb,H1⟩:=hI
   cases n with
   | zero=>exact absurd H1 (by simp [Zfz])
   | succ n =>
    rw [Zfz] at H1
    refine r_s (T:=[⟨[.o 3,.o 2],_,[],[],[27]⟩]) (F:=[.o 0,.o 1,.o 2,.o 3,.p 0 0]) hst hb Za
     (o_p rfl (Zca rfl rfl u_0 u_1)<|o_n) (fun a g hst hb=>?_)
    refine wp_seq ?_
    refine wp_cond_split (hst.bool 4 rfl) (fun hc7=>?_) (fun hc7=>?_)
    ·replace H1:=Zu hc7 H1
     refine wp_skip ?_
     refine Zp ?_
     refine wp_seq ?_
     refine wp_block ?_
     obtain ⟨e8,h9,H1⟩:=Zc H1
     refine r_s (L:=[(2,_),(24,_),(25,_),(26,_)]) (T:=[⟨[.o 3],_,[],[],[28]⟩,⟨[.o 1,.o 3],_,[],[],[29]⟩,⟨[.p 1 0],_,[],[1],[30]⟩,⟨[],[(6,(pBox Zb6 6 (default:Zbg)))],[7],[],[6]⟩,⟨[.p 0 0],_,[],Lr 4,[5]⟩,⟨[.p 2 0,.p 3 0],_,[7],Lr 5,[6]⟩]) (F:=[.o 0,.p 4 0,.p 5 0,.o 1,.o 2,.o 3]) (hst.pick [0,1,2,3] rfl) hb Za
      (Qm rfl u_0<|o_p rfl (Zbl Tryz.underlying22 Zoa rfl rfl u_0 u_1 h9)<|Ql rfl Z0k u_0<|o_p rfl (Zbi (zs:=[.string ByteArray.empty,.int .i64 0,.int .i64 0,.int .i64 0,.int .i64 0,.float .f64 0,.int .i64 0,.string ByteArray.empty,.slice none 0 0]) (by kernel_rfl) (fun g=>Zom g) rfl rfl)<|Qa rfl u_0<|o_p rfl (Zb5 Z0k rfl rfl u_1 u_0)<|o_n) (fun a g hst hb=>?_)
     obtain ⟨r10,h11,H1⟩:=Zc H1
     refine r_s (T:=[⟨[.o 0],_,[],[],[32]⟩,⟨[.o 1],_,[],[],[33]⟩,⟨[.p 0 0,.p 1 0],_,[],[0,1],[34]⟩,⟨[.p 2 0],_,[],[0,1,2],[31]⟩,⟨[.p 3 0],_,[],Lr 4,[35]⟩,⟨[.p 3 0],_,[],Lr 4,[36]⟩,⟨[.p 3 0],_,[],Lr 4,[37]⟩,⟨[],[(8,(pBox Ze 8 (default:Zb)))],[9],[],[8]⟩,⟨[.p 4 0],_,[],[0,1,2,3,4,7],[7]⟩,⟨[.p 5 0,.p 7 0],_,[9],[0,1,2,3,4,5,7,8],[8]⟩,⟨[.p 6 0],_,[],Lr 10,[9]⟩]) (F:=[.o 0,.o 2,.p 8 0,.p 9 0,.p 10 0,.o 3,.o 4,.o 5]) hst hb Za
      (Ql rfl Zbv u_0<|Qm rfl u_0<|o_p rfl (Zl Z5c (Znd _ _ h11) rfl rfl (.cons u_0 (.cons u_1 .nil)))<|Qm rfl u_0<|o_p rfl (Zz rfl rfl u_0 rfl)<|o_p rfl (Zz rfl rfl u_0 rfl)<|o_p rfl (Zz rfl rfl u_0 rfl)<|o_p rfl (Zbi (zs:=[.int .i64 0,.int .i64 0,.int .i64 0,.int .i64 0,.float .f64 0,.int .i64 0,.string ByteArray.empty,.slice none 0 0]) (by kernel_rfl) (fun g=>Zb2 g) rfl rfl)<|Qa rfl u_0<|o_p rfl (Zb5 Zbe rfl rfl u_1 u_0)<|Qa rfl u_0<|o_n) (fun a g hst hb=>?_)
     obtain ⟨r12,h13,H1⟩:=Zc H1
     refine r_s (T:=⟨[.o 4],_,[],[],[38]⟩ :: ⟨[.p 0 0],_,[],[0],[39]⟩ :: ⟨[.p 1 0],_,[],[0,1],[40]⟩ :: ⟨[.p 2 0,.o 2],_,[],[0,1,2],[41]⟩ :: ⟨[.p 2 0,.o 1],_,[],[0,1,2],[42]⟩ :: ⟨[.p 2 0,.p 4 0],_,[],[0,1,2,4],[43]⟩ :: ⟨[.p 2 0,.p 3 0,.p 5 0],_,[],Lr 6,[44]⟩ :: ⟨[.p 2 0,.p 6 0],_,[],Lr 7,[45]⟩ :: ⟨[.p 7 0],_,[],Lr 8,[46]⟩ :: ⟨[.p 8 0,.o 3],_,[],Lr 9,[47]⟩ :: ⟨[.p 8 0,.o 1],_,[],Lr 9,[48]⟩ :: ⟨[.p 8 0,.p 10 0],_,[],[0,1,2,3,4,5,6,7,8,10],[49]⟩ :: ⟨[.p 8 0,.p 9 0,.p 11 0],_,[],Lr 12,[50]⟩ :: ⟨[.p 8 0,.p 12 0],_,[],Lr 13,[51]⟩ :: ⟨[.p 8 0,.p 13 0],_,[],Lr 14,[52]⟩ :: []) (F:=[.o 0,.o 5,.o 6,.o 7,.p 14 0]) hst hb Za
      (Qm rfl u_0<|Qn rfl u_0<|Qm rfl u_0<|o_g (Qg_f rfl (fun hG=>Z6 rfl rfl u_0))<|o_g (Qg_f rfl (fun hG=>Zi Znz rfl rfl u_0))<|o_g (Qg_f rfl (fun hG=>Zv ty_9 rfl rfl (Opd.gd hG u_0)))<|o_g (Qg_f rfl (fun hG=>Zpg rfl rfl (Opd.gd hG u_0) (Opd.gd hG u_1)))<|o_p rfl (Zbp rfl rfl u_0 (fun hz=>(Opd.gd (bNF hz) u_1)))<|Qm rfl u_0<|o_g (Qg_f rfl (fun hG=>Zv Zbe rfl rfl u_0))<|o_g (Qg_f rfl (fun hG=>Zi Zr6 rfl rfl u_0))<|o_g (Qg_f rfl (fun hG=>Zv Zbe rfl rfl (Opd.gd hG u_0)))<|o_g (Qg_f rfl (fun hG=>Zl Z5r (Zma _ _ (Zbn h13 hG)) rfl rfl (.cons (Opd.gd hG u_0) (.cons (Opd.gd hG u_1) .nil))))<|o_g (Qg_f rfl (fun hG=>Ze1 rfl rfl (Opd.gd hG u_0)))<|o_p rfl (Zbp rfl rfl u_0 (fun hz=>(Opd.gd (bNF hz) u_1)))<|o_n) (fun a g hst hb=>?_)
     refine wp_cond_split (hst.bool 4 rfl) (fun hc14=>?_) (fun hc14=>?_)
     ·replace H1:=Zu hc14 H1
      refine r_s (L:=[]) (T:=[⟨[],_,[],[],[4]⟩]) (F:=[.p 0 0]) (hst.pick [] rfl) hb Za
       (Qa rfl c_i<|o_n) (fun a g hst hb=>?_)
      refine wp_ret ?_
      refine Z5 ?_
      refine Zo ?_
      refine Zo ?_
      refine Z5 ?_
      refine Zo ?_
      refine Zo ?_
      obtain rfl:=Option.some.inj H1
      obtain rfl:=Option.some.inj H0
      exact Z4 rfl hst hb (Zg (s:=4)) (hst.at 0 rfl)
     ·replace H1:=Zt hc14 H1
      refine wp_skip ?_
      refine Zbc ?_
      refine Zp ?_
      refine r_g (L:=[(2,_),(24,_),(25,_),(26,_)]) (T:=[⟨[.o 3],_,[],[],[53]⟩,⟨[.p 0 0],_,[],[0],[26]⟩]) (F:=[.o 0,.o 1,.o 2,.p 1 0]) (hst.pick [0,1,2,3] rfl) hb Za
       (o_p rfl (Zb0 rfl rfl u_0 c_i rfl)<|Qm rfl u_0<|o_n) (fun a g hst hb=>?_)
      exact ⟨n,Nat.lt_succ_self _,(IntKind.i64.wrap (x6 + (1:Int))),g,rfl,(hst.pick [0,1,2,3] rfl),hb,H1⟩
    ·replace H1:=Zt hc7 H1
     refine wp_exit ?_
     refine Zby ?_
     refine Zby ?_
     refine Zcb ?_
     exact ⟨g,rfl,(hst.pick [] rfl),hb,Option.some.inj H1⟩
theorem Zua (a0:Zn) {r:Int} (h:Zkl a0=some r):FnOk Tryz.prog 33 [(Z0.pd a0)] (pInt .i64 r):=by
 have H0:=h
 unfold Zkl at H0
 clear h
 refine Zbs (N:=19) Tryz.func33 rfl rfl (Qe rfl) rfl rfl (fun a g0 hst hb=>?_)
 refine r_s (T:=[⟨[.o 0],_,[],[],[1]⟩,⟨[],_,[],[],[2]⟩]) (F:=[.p 0 0]) hst hb Za
  (Qb rfl u_0<|Qa rfl c_i<|o_n) (fun a g hst hb=>?_)
 refine wp_seq ?_
 obtain ⟨r1,h2,H0⟩:=Zc H0
 refine r_s (T:=⟨[.o 0],_,[],[],[3]⟩ :: ⟨[.p 0 0],_,[],[0],[4]⟩ :: ⟨[.p 1 0],_,[],[0,1],[5]⟩ :: ⟨[.p 2 0],_,[],[0,1,2],[6]⟩ :: ⟨[.p 3 0],_,[],Lr 4,[7]⟩ :: ⟨[.p 4 0,.o 0],_,[],Lr 5,[8]⟩ :: ⟨[.p 4 0,.p 5 0],_,[],Lr 6,[9]⟩ :: ⟨[.p 4 0,.p 6 0],_,[],Lr 7,[10]⟩ :: ⟨[.p 4 0,.p 7 0],_,[],Lr 8,[11]⟩ :: ⟨[.p 4 0,.p 8 0],_,[],Lr 9,[12]⟩ :: ⟨[.p 9 0],_,[],Lr 10,[13]⟩ :: ⟨[.p 10 0,.o 0],_,[],Lr 11,[14]⟩ :: ⟨[.p 10 0,.p 11 0],_,[],Lr 12,[15]⟩ :: ⟨[.p 10 0,.p 12 0],_,[],Lr 13,[16]⟩ :: ⟨[.p 10 0,.p 13 0],_,[],Lr 14,[17]⟩ :: ⟨[.p 10 0,.p 14 0],_,[],Lr 15,[18]⟩ :: []) (F:=[.p 15 0]) hst hb Za
  (Qf rfl Zhk u_0<|Ql rfl ty_9 u_0<|o_p rfl (Zfy Tryz.underlying9 rfl rfl u_0)<|o_p rfl (Zct rfl rfl u_0 c_i)<|Qm rfl u_0<|o_g (Qg_f rfl (fun hG=>Zi Zgc rfl rfl u_0))<|o_g (Qg_f rfl (fun hG=>Zv ty_9 rfl rfl (Opd.gd hG u_0)))<|o_g (Qg_f rfl (fun hG=>Zfy Tryz.underlying9 rfl rfl (Opd.gd hG u_0)))<|o_g (Qg_f rfl (fun hG=>Zct rfl rfl (Opd.gd hG u_0) c_i))<|o_p rfl (Zbp rfl rfl u_0 (fun hz=>(Opd.gd (bNF hz) u_1)))<|Qm rfl u_0<|o_g (Qg_f rfl (fun hG=>Zi Zm2 rfl rfl u_0))<|o_g (Qg_f rfl (fun hG=>Zv Zbe rfl rfl (Opd.gd hG u_0)))<|o_g (Qg_f rfl (fun hG=>Zl Z9n (Zps _ (Zbn h2 hG)) rfl rfl (.cons (Opd.gd hG u_0) .nil)))<|o_g (Qg_f rfl (fun hG=>Zct rfl rfl (Opd.gd hG u_0) c_i))<|o_p rfl (Zbp rfl rfl u_0 (fun hz=>(Opd.gd (bNF hz) u_1)))<|o_n) (fun a g hst hb=>?_)
 refine wp_cond_split (hst.bool 0 rfl) (fun hc3=>?_) (fun hc3=>?_)
 ·replace H0:=Zu hc3 H0
  refine r_s (L:=[]) (T:=[⟨[],_,[],[],[2]⟩]) (F:=[.p 0 0]) (hst.pick [] rfl) hb Za
   (Qa rfl c_i<|o_n) (fun a g hst hb=>?_)
  refine wp_ret ?_
  refine Zo ?_
  obtain rfl:=Option.some.inj H0
  exact Z4 rfl hst hb (Zg (s:=2)) (hst.at 0 rfl)
 ·replace H0:=Zt hc3 H0
  refine wp_skip ?_
  refine Zp ?_
  refine r_s (L:=[]) (T:=[⟨[],_,[],[],[2]⟩]) (F:=[.p 0 0]) (hst.pick [] rfl) hb Za
   (Qa rfl c_i<|o_n) (fun a g hst hb=>?_)
  refine wp_ret ?_
  obtain rfl:=Option.some.inj H0
  exact Z4 rfl hst hb (Zg (s:=2)) (hst.at 0 rfl)
theorem Ztu (a0:Z9) {r:Int} (h:Zkk a0=some r):FnOk Tryz.prog 9 [(Zbq.pd a0)] (pInt .i64 r):=by
 have H0:=h
 unfold Zkk at H0
 clear h
 refine Zbs (N:=20) Tryz.func9 rfl rfl (Qe rfl) rfl rfl (fun a g0 hst hb=>?_)
 refine r_s (T:=[⟨[.o 0],_,[],[],[1]⟩,⟨[],_,[],[],[2]⟩]) (F:=[.p 0 0]) hst hb Za
  (Qb rfl u_0<|Qa rfl c_i<|o_n) (fun a g hst hb=>?_)
 refine wp_seq ?_
 refine r_s (T:=[⟨[.o 0],_,[],[],[5]⟩,⟨[.p 0 0],_,[],[0],[6]⟩,⟨[.p 1 0],_,[],[0,1],[7]⟩,⟨[.p 2 0],_,[],[0,1,2],[8]⟩]) (F:=[.o 0,.p 3 0]) hst hb Za
  (Qf rfl Zgz u_0<|Ql rfl Zjw u_0<|o_p rfl (Zbx Tryz.underlying23 rfl rfl u_0)<|o_p rfl (Zct rfl rfl u_0 c_i)<|o_n) (fun a g hst hb=>?_)
 refine wp_cond_split (hst.bool 1 rfl) (fun hc1=>?_) (fun hc1=>?_)
 ·replace H0:=Zu hc1 H0
  refine r_s (L:=[]) (T:=[⟨[],_,[],[],[2]⟩]) (F:=[.p 0 0]) (hst.pick [] rfl) hb Za
   (Qa rfl c_i<|o_n) (fun a g hst hb=>?_)
  refine wp_ret ?_
  refine Zo ?_
  obtain rfl:=Option.some.inj H0
  exact Z4 rfl hst hb (Zg (s:=2)) (hst.at 0 rfl)
 ·replace H0:=Zt hc1 H0
  refine wp_skip ?_
  refine Zp ?_
  refine wp_seq ?_
  refine r_s (L:=[(1,_)]) (T:=[⟨[.o 0],_,[],[],[9]⟩,⟨[.p 0 0],_,[],[0],[10]⟩,⟨[.p 1 0],_,[],[0,1],[11]⟩,⟨[],_,[],[],[12]⟩]) (F:=[.p 1 0,.p 2 0,.p 3 0]) (hst.pick [0] rfl) hb Za
   (Qf rfl Zgz u_0<|Ql rfl Zjw u_0<|o_p rfl (Zbx Tryz.underlying23 rfl rfl u_0)<|Qm rfl c_i<|o_n) (fun a g hst hb=>?_)
  obtain ⟨z9,hz1,H0⟩:=Zc H0
  refine Zb3 (fun a w=>∃ (g:G),w=g.w ∧ St 20 [] a g ∧ Base g0 g ∧ (.inr ())=z9) ?_ ?_
  ·rintro a w ⟨g,rfl,hst,hb,rfl⟩
   refine Zp ?_
   refine r_s (T:=[⟨[],_,[],[],[2]⟩]) (F:=[.p 0 0]) hst hb Za
    (Qa rfl c_i<|o_n) (fun a g hst hb=>?_)
   refine wp_ret ?_
   obtain rfl:=Option.some.inj H0
   exact Z4 rfl hst hb (Zg (s:=2)) (hst.at 0 rfl)
  ·refine wp_block ?_
   refine wp_loop_ghost (fun n a w=>∃ (x2:Int) (g:G),w=g.w ∧ St 20 [(10,(Z0.sl.pd a0.Acts)),(11,(pInt .i64 (a0.Acts.length:Int))),(12,(pInt .i64 x2))] a g ∧ Base g0 g ∧ Zeh a0 n x2=some z9) (Int.toNat ((a0.Acts.length:Int) - (0:Int)) + 1) ⟨(0:Int),g,rfl,(hst.pick [0,1,2] rfl),hb,hz1⟩ (fun n a w hI=>?_)
   obtain ⟨x2,g,rfl,hst,hb,H1⟩:=hI
   cases n with
   | zero=>exact absurd H1 (by simp [Zeh])
   | succ n =>
    rw [Zeh] at H1
    refine r_s (T:=[⟨[.o 2,.o 1],_,[],[],[13]⟩]) (F:=[.o 0,.o 1,.o 2,.p 0 0]) hst hb Za
     (o_p rfl (Zca rfl rfl u_0 u_1)<|o_n) (fun a g hst hb=>?_)
    refine wp_seq ?_
    refine wp_cond_split (hst.bool 3 rfl) (fun hc3=>?_) (fun hc3=>?_)
    ·replace H1:=Zu hc3 H1
     refine wp_skip ?_
     refine Zp ?_
     refine wp_seq ?_
     refine wp_block ?_
     obtain ⟨e4,h5,H1⟩:=Zc H1
     refine r_s (L:=[(10,_),(11,_),(12,_)]) (T:=[⟨[.o 0,.o 2],_,[],[],[14]⟩,⟨[.p 0 0],_,[],[0],[15]⟩,⟨[],[(4,(pBox Z0 4 (default:Zn)))],[5],[],[4]⟩,⟨[.p 1 0,.p 2 0],_,[5],[0,1,2],[4]⟩]) (F:=[.p 3 0,.o 0,.o 1,.o 2]) (hst.pick [0,1,2] rfl) hb Za
      (o_p rfl (Zbl Tryz.underlying23 Znj rfl rfl u_0 u_1 h5)<|Ql rfl Zgw u_0<|o_p rfl (Zbi (zs:=[.int .i64 0,.string ByteArray.empty,.int .i64 0,.float .f64 0,.string ByteArray.empty,.int .i64 0,.int .i64 0,.int .i64 0,.int .i64 0,.float .f64 0,.int .i64 0,.string ByteArray.empty,.slice none 0 0,.bool false]) (by kernel_rfl) (fun g=>Zmt g) rfl rfl)<|o_p rfl (Zb5 Zgw rfl rfl u_1 u_0)<|o_n) (fun a g hst hb=>?_)
     obtain ⟨r6,h7,H1⟩:=Zc H1
     refine r_s (T:=[⟨[.o 0],_,[],[],[16]⟩,⟨[.p 0 0],_,[],[0],[17]⟩,⟨[.p 1 0],_,[],[0,1],[18]⟩]) (F:=[.o 1,.o 2,.o 3,.p 2 0]) hst hb Za
      (Ql rfl Zgw u_0<|o_p rfl (Zl Zbec (Zua _ h7) rfl rfl (.cons u_0 .nil))<|o_p rfl (Zct rfl rfl u_0 c_i)<|o_n) (fun a g hst hb=>?_)
     refine wp_cond_split (hst.bool 3 rfl) (fun hc8=>?_) (fun hc8=>?_)
     ·replace H1:=Zu hc8 H1
      refine r_s (L:=[]) (T:=[⟨[],_,[],[],[2]⟩]) (F:=[.p 0 0]) (hst.pick [] rfl) hb Za
       (Qa rfl c_i<|o_n) (fun a g hst hb=>?_)
      refine wp_ret ?_
      refine Z5 ?_
      refine Zo ?_
      refine Zo ?_
      refine Z5 ?_
      refine Zo ?_
      refine Zo ?_
      obtain rfl:=Option.some.inj H1
      obtain rfl:=Option.some.inj H0
      exact Z4 rfl hst hb (Zg (s:=2)) (hst.at 0 rfl)
     ·replace H1:=Zt hc8 H1
      refine wp_skip ?_
      refine Zbc ?_
      refine Zp ?_
      refine r_g (L:=[(10,_),(11,_),(12,_)]) (T:=[⟨[.o 2],_,[],[],[19]⟩,⟨[.p 0 0],_,[],[0],[12]⟩]) (F:=[.o 0,.o 1,.p 1 0]) (hst.pick [0,1,2] rfl) hb Za
       (o_p rfl (Zb0 rfl rfl u_0 c_i rfl)<|Qm rfl u_0<|o_n) (fun a g hst hb=>?_)
      exact ⟨n,Nat.lt_succ_self _,(IntKind.i64.wrap (x2 + (1:Int))),g,rfl,(hst.pick [0,1,2] rfl),hb,H1⟩
    ·replace H1:=Zt hc3 H1
     refine wp_exit ?_
     refine Zby ?_
     refine Zby ?_
     refine Zcb ?_
     exact ⟨g,rfl,(hst.pick [] rfl),hb,Option.some.inj H1⟩
theorem Zus (a0:List Z9) {r:Int} (h:Zk0 a0=some r):FnOk Tryz.prog 24 [(Zbq.sl.pd a0)] (pInt .i64 r):=by
 have H0:=h
 unfold Zk0 at H0
 clear h
 refine Zbs (N:=18) Tryz.func24 rfl rfl (Qe rfl) rfl rfl (fun a g0 hst hb=>?_)
 refine r_s (T:=[⟨[],_,[],[],[2]⟩]) (F:=[.o 0]) hst hb Za
  (Qa rfl c_i<|o_n) (fun a g hst hb=>?_)
 refine wp_seq ?_
 refine r_s (T:=[⟨[.o 0],_,[],[],[5]⟩,⟨[.p 0 0],_,[],[0],[6]⟩,⟨[.p 1 0],_,[],[0,1],[7]⟩]) (F:=[.o 0,.p 2 0]) hst hb Za
  (Qm rfl u_0<|o_p rfl (Zbx Tryz.underlying72 rfl rfl u_0)<|o_p rfl (Zct rfl rfl u_0 c_i)<|o_n) (fun a g hst hb=>?_)
 refine wp_cond_split (hst.bool 1 rfl) (fun hc1=>?_) (fun hc1=>?_)
 ·replace H0:=Zu hc1 H0
  refine r_s (L:=[]) (T:=[⟨[],_,[],[],[2]⟩]) (F:=[.p 0 0]) (hst.pick [] rfl) hb Za
   (Qa rfl c_i<|o_n) (fun a g hst hb=>?_)
  refine wp_ret ?_
  refine Zo ?_
  obtain rfl:=Option.some.inj H0
  exact Z4 rfl hst hb (Zg (s:=2)) (hst.at 0 rfl)
 ·replace H0:=Zt hc1 H0
  refine wp_skip ?_
  refine Zp ?_
  refine wp_seq ?_
  refine r_s (L:=[(0,_)]) (T:=[⟨[.o 0],_,[],[],[8]⟩,⟨[.p 0 0],_,[],[0],[9]⟩,⟨[],_,[],[],[10]⟩]) (F:=[.p 0 0,.p 1 0,.p 2 0]) (hst.pick [0] rfl) hb Za
   (Qm rfl u_0<|o_p rfl (Zbx Tryz.underlying72 rfl rfl u_0)<|Qm rfl c_i<|o_n) (fun a g hst hb=>?_)
  obtain ⟨z9,hz1,H0⟩:=Zc H0
  refine Zb3 (fun a w=>∃ (g:G),w=g.w ∧ St 18 [] a g ∧ Base g0 g ∧ (.inr ())=z9) ?_ ?_
  ·rintro a w ⟨g,rfl,hst,hb,rfl⟩
   refine Zp ?_
   refine r_s (T:=[⟨[],_,[],[],[2]⟩]) (F:=[.p 0 0]) hst hb Za
    (Qa rfl c_i<|o_n) (fun a g hst hb=>?_)
   refine wp_ret ?_
   obtain rfl:=Option.some.inj H0
   exact Z4 rfl hst hb (Zg (s:=2)) (hst.at 0 rfl)
  ·refine wp_block ?_
   refine wp_loop_ghost (fun n a w=>∃ (x2:Int) (g:G),w=g.w ∧ St 18 [(8,(Zbq.sl.pd a0)),(9,(pInt .i64 (a0.length:Int))),(10,(pInt .i64 x2))] a g ∧ Base g0 g ∧ Zep a0 n x2=some z9) (Int.toNat ((a0.length:Int) - (0:Int)) + 1) ⟨(0:Int),g,rfl,(hst.pick [0,1,2] rfl),hb,hz1⟩ (fun n a w hI=>?_)
   obtain ⟨x2,g,rfl,hst,hb,H1⟩:=hI
   cases n with
   | zero=>exact absurd H1 (by simp [Zep])
   | succ n =>
    rw [Zep] at H1
    refine r_s (T:=[⟨[.o 2,.o 1],_,[],[],[11]⟩]) (F:=[.o 0,.o 1,.o 2,.p 0 0]) hst hb Za
     (o_p rfl (Zca rfl rfl u_0 u_1)<|o_n) (fun a g hst hb=>?_)
    refine wp_seq ?_
    refine wp_cond_split (hst.bool 3 rfl) (fun hc3=>?_) (fun hc3=>?_)
    ·replace H1:=Zu hc3 H1
     refine wp_skip ?_
     refine Zp ?_
     refine wp_seq ?_
     refine wp_block ?_
     obtain ⟨e4,h5,H1⟩:=Zc H1
     refine r_s (L:=[(8,_),(9,_),(10,_)]) (T:=[⟨[.o 0,.o 2],_,[],[],[12]⟩,⟨[.p 0 0],_,[],[0],[13]⟩,⟨[],[(4,(pBox Zbq 4 (default:Z9)))],[5],[],[4]⟩,⟨[.p 1 0,.p 2 0],_,[5],[0,1,2],[4]⟩]) (F:=[.p 3 0,.o 0,.o 1,.o 2]) (hst.pick [0,1,2] rfl) hb Za
      (o_p rfl (Zbl Tryz.underlying72 Zq5 rfl rfl u_0 u_1 h5)<|Ql rfl Zka u_0<|o_p rfl (Zbi (zs:=[.slice none 0 0]) (by kernel_rfl) (fun g=>Zrh g) rfl rfl)<|o_p rfl (Zb5 Zka rfl rfl u_1 u_0)<|o_n) (fun a g hst hb=>?_)
     obtain ⟨r6,h7,H1⟩:=Zc H1
     refine r_s (T:=[⟨[.o 0],_,[],[],[14]⟩,⟨[.p 0 0],_,[],[0],[15]⟩,⟨[.p 1 0],_,[],[0,1],[16]⟩]) (F:=[.o 1,.o 2,.o 3,.p 2 0]) hst hb Za
      (Ql rfl Zka u_0<|o_p rfl (Zl en_9 (Ztu _ h7) rfl rfl (.cons u_0 .nil))<|o_p rfl (Zct rfl rfl u_0 c_i)<|o_n) (fun a g hst hb=>?_)
     refine wp_cond_split (hst.bool 3 rfl) (fun hc8=>?_) (fun hc8=>?_)
     ·replace H1:=Zu hc8 H1
      refine r_s (L:=[]) (T:=[⟨[],_,[],[],[2]⟩]) (F:=[.p 0 0]) (hst.pick [] rfl) hb Za
       (Qa rfl c_i<|o_n) (fun a g hst hb=>?_)
      refine wp_ret ?_
      refine Z5 ?_
      refine Zo ?_
      refine Zo ?_
      refine Z5 ?_
      refine Zo ?_
      refine Zo ?_
      obtain rfl:=Option.some.inj H1
      obtain rfl:=Option.some.inj H0
      exact Z4 rfl hst hb (Zg (s:=2)) (hst.at 0 rfl)
     ·replace H1:=Zt hc8 H1
      refine wp_skip ?_
      refine Zbc ?_
      refine Zp ?_
      refine r_g (L:=[(8,_),(9,_),(10,_)]) (T:=[⟨[.o 2],_,[],[],[17]⟩,⟨[.p 0 0],_,[],[0],[10]⟩]) (F:=[.o 0,.o 1,.p 1 0]) (hst.pick [0,1,2] rfl) hb Za
       (o_p rfl (Zb0 rfl rfl u_0 c_i rfl)<|Qm rfl u_0<|o_n) (fun a g hst hb=>?_)
      exact ⟨n,Nat.lt_succ_self _,(IntKind.i64.wrap (x2 + (1:Int))),g,rfl,(hst.pick [0,1,2] rfl),hb,H1⟩
    ·replace H1:=Zt hc3 H1
     refine wp_exit ?_
     refine Zby ?_
     refine Zby ?_
     refine Zcb ?_
     exact ⟨g,rfl,(hst.pick [] rfl),hb,Option.some.inj H1⟩
theorem Zm5 (f1:Nat) (C1:List Pd) (hC1:Free C1) (e1_:Zm Tryz.prog f1) (φ1:Zn → Option Bool) (hφ1:∀ (y0:Zn) (r:Bool),φ1 y0=some r → FnOk Tryz.prog f1 ([(Z0.pd y0)] ++ C1) (Zbf r)) (a0:List Zn) {r:Int} (h:Zfu a0 φ1=some r):FnOk Tryz.prog 99 [(Z0.sl.pd a0),(pClo f1 C1 hC1)] (pInt .i64 r):=by
 have H0:=h
 unfold Zfu at H0
 clear h
 refine Zbs (N:=19) Tryz.func99 rfl rfl (Qe rfl) rfl rfl (fun a g0 hst hb=>?_)
 refine r_s (T:=[⟨[],_,[],[],[4]⟩]) (F:=[.o 0,.o 1]) hst hb Za
  (Qa rfl c_i<|o_n) (fun a g hst hb=>?_)
 refine wp_seq ?_
 refine r_s (T:=[⟨[.o 0],_,[],[],[6]⟩,⟨[.p 0 0],_,[],[0],[7]⟩,⟨[],_,[],[],[8]⟩]) (F:=[.o 0,.o 1,.p 0 0,.p 1 0,.p 2 0]) hst hb Za
  (Qm rfl u_0<|o_p rfl (Zbx Tryz.underlying23 rfl rfl u_0)<|Qm rfl c_i<|o_n) (fun a g hst hb=>?_)
 obtain ⟨z8,hz1,H0⟩:=Zc H0
 refine Zb3 (fun a w=>∃ (g:G),w=g.w ∧ St 19 [] a g ∧ Base g0 g ∧ (.inr ())=z8) ?_ ?_
 ·rintro a w ⟨g,rfl,hst,hb,rfl⟩
  refine Zp ?_
  refine r_s (T:=[⟨[],_,[],[],[4]⟩]) (F:=[.p 0 0]) hst hb Za
   (Qa rfl c_i<|o_n) (fun a g hst hb=>?_)
  refine wp_ret ?_
  obtain rfl:=Option.some.inj H0
  exact Z4 rfl hst hb (Zg (s:=4)) (hst.at 0 rfl)
 ·refine wp_block ?_
  refine wp_loop_ghost (fun n a w=>∃ (x1:Int) (g:G),w=g.w ∧ St 19 [(0,(Z0.sl.pd a0)),(1,(pClo f1 C1 hC1)),(6,(Z0.sl.pd a0)),(7,(pInt .i64 (a0.length:Int))),(8,(pInt .i64 x1))] a g ∧ Base g0 g ∧ Zcf a0 φ1 n x1=some z8) (Int.toNat ((a0.length:Int) - (0:Int)) + 1) ⟨(0:Int),g,rfl,(hst.pick [0,1,2,3,4] rfl),hb,hz1⟩ (fun n a w hI=>?_)
  obtain ⟨x1,g,rfl,hst,hb,H1⟩:=hI
  cases n with
  | zero=>exact absurd H1 (by simp [Zcf])
  | succ n =>
   rw [Zcf] at H1
   refine r_s (T:=[⟨[.o 4,.o 3],_,[],[],[9]⟩]) (F:=[.o 0,.o 1,.o 2,.o 3,.o 4,.p 0 0]) hst hb Za
    (o_p rfl (Zca rfl rfl u_0 u_1)<|o_n) (fun a g hst hb=>?_)
   refine wp_seq ?_
   refine wp_cond_split (hst.bool 5 rfl) (fun hc2=>?_) (fun hc2=>?_)
   ·replace H1:=Zu hc2 H1
    refine wp_skip ?_
    refine Zp ?_
    refine wp_seq ?_
    refine wp_block ?_
    refine r_s (L:=[(0,_),(1,_),(6,_),(7,_),(8,_)]) (T:=[⟨[.o 4],_,[],[],[10]⟩,⟨[.p 0 0],_,[],[0],[5]⟩]) (F:=[.o 0,.o 1,.p 1 0,.o 2,.o 3,.o 4]) (hst.pick [0,1,2,3,4] rfl) hb Za
     (Qm rfl u_0<|Qa rfl u_0<|o_n) (fun a g hst hb=>?_)
    obtain ⟨e3,h4,H1⟩:=Zc H1;obtain ⟨r5,h6,H1⟩:=Zc H1
    refine r_s (T:=[⟨[.o 1],_,[],[],[11]⟩,⟨[.o 0],_,[],[],[12]⟩,⟨[.o 2],_,[],[],[13]⟩,⟨[.p 1 0,.p 2 0],_,[],[1,2],[14]⟩,⟨[.p 3 0],_,[],[1,2,3],[15]⟩,⟨[.p 0 0,.p 4 0],_,[],Lr 5,[16]⟩]) (F:=[.o 0,.o 1,.o 2,.o 3,.o 4,.o 5,.p 5 0]) hst hb Za
     (Qm rfl u_0<|Qm rfl u_0<|Qm rfl u_0<|o_p rfl (Zbl Tryz.underlying23 Znj rfl rfl u_0 u_1 h4)<|Ql rfl Zgw u_0<|o_p rfl (Zqf e1_ (hφ1 _ _ h6) rfl rfl u_0 (.cons u_1 .nil))<|o_n) (fun a g hst hb=>?_)
    refine wp_cond_split (hst.bool 6 rfl) (fun hc7=>?_) (fun hc7=>?_)
    ·replace H1:=Zu hc7 H1
     refine r_s (L:=[(5,_)]) (T:=[⟨[.o 0],_,[],[],[17]⟩,⟨[.p 0 0],_,[],[0],[4]⟩]) (F:=[.p 1 0]) (hst.pick [2] rfl) hb Za
      (Qm rfl u_0<|Qa rfl u_0<|o_n) (fun a g hst hb=>?_)
     refine wp_ret ?_
     refine Z5 ?_
     refine Zo ?_
     refine Zo ?_
     refine Z5 ?_
     refine Zo ?_
     refine Zo ?_
     obtain rfl:=Option.some.inj H1
     obtain rfl:=Option.some.inj H0
     exact Z4 rfl hst hb (Zg (s:=4)) (hst.at 0 rfl)
    ·replace H1:=Zt hc7 H1
     refine wp_skip ?_
     refine Zbc ?_
     refine Zp ?_
     refine r_g (L:=[(0,_),(1,_),(6,_),(7,_),(8,_)]) (T:=[⟨[.o 4],_,[],[],[18]⟩,⟨[.p 0 0],_,[],[0],[8]⟩]) (F:=[.o 0,.o 1,.o 2,.o 3,.p 1 0]) (hst.pick [0,1,3,4,5] rfl) hb Za
      (o_p rfl (Zb0 rfl rfl u_0 c_i rfl)<|Qm rfl u_0<|o_n) (fun a g hst hb=>?_)
     exact ⟨n,Nat.lt_succ_self _,(IntKind.i64.wrap (x1 + (1:Int))),g,rfl,(hst.pick [0,1,2,3,4] rfl),hb,H1⟩
   ·replace H1:=Zt hc2 H1
    refine wp_exit ?_
    refine Zby ?_
    refine Zby ?_
    refine Zcb ?_
    exact ⟨g,rfl,(hst.pick [] rfl),hb,Option.some.inj H1⟩
theorem Zl8 (f1:Nat) (C1:List Pd) (hC1:Free C1) (e1_:Zm Tryz.prog f1) (φ1:Zn → Option Bool) (hφ1:∀ (y0:Zn) (r:Bool),φ1 y0=some r → FnOk Tryz.prog f1 ([(Z0.pd y0)] ++ C1) (Zbf r)) (a0:List Zn) {r:Bool} (h:Ze0 a0 φ1=some r):FnOk Tryz.prog 73 [(Z0.sl.pd a0),(pClo f1 C1 hC1)] (Zbf r):=by
 have H0:=h
 unfold Ze0 at H0
 clear h
 refine Zbs (N:=9) Tryz.func73 rfl rfl (Qe rfl) rfl rfl (fun a g0 hst hb=>?_)
 refine r_s (T:=[⟨[],_,[],[],[4]⟩]) (F:=[.o 0,.o 1]) hst hb Za
  (Qa rfl c_b<|o_n) (fun a g hst hb=>?_)
 obtain ⟨r1,h2,H0⟩:=Zc H0
 refine r_s (T:=[⟨[.o 0],_,[],[],[5]⟩,⟨[.o 1],_,[],[],[6]⟩,⟨[.p 0 0,.p 1 0],_,[],[0,1],[7]⟩,⟨[.p 2 0],_,[],[0,1,2],[8]⟩,⟨[.p 3 0],_,[],Lr 4,[4]⟩]) (F:=[.p 4 0]) hst hb Za
  (Qm rfl u_0<|Qm rfl u_0<|o_p rfl (Zl Zbet (Zm5 f1 C1 hC1 e1_ φ1 hφ1 _ h2) rfl rfl (.cons u_0 (.cons u_1 .nil)))<|o_p rfl (Zmx rfl rfl u_0 c_i)<|Qa rfl u_0<|o_n) (fun a g hst hb=>?_)
 refine wp_ret ?_
 obtain rfl:=Option.some.inj H0
 exact Z4 rfl hst hb (Zg (s:=4)) (hst.at 0 rfl)
theorem Zwf (a0:Zn) {r:Bool} (h:Zjb a0=some r):FnOk Tryz.prog 74 [(Z0.pd a0)] (Zbf r):=by
 have H0:=h
 unfold Zjb at H0
 clear h
 refine Zbs (N:=11) Tryz.func74 rfl rfl (Qe rfl) rfl rfl (fun a g0 hst hb=>?_)
 refine r_s (T:=[⟨[.o 0],_,[],[],[1]⟩,⟨[],_,[],[],[2]⟩]) (F:=[.p 0 0]) hst hb Za
  (Qb rfl u_0<|Qa rfl c_b<|o_n) (fun a g hst hb=>?_)
 refine r_s (T:=[⟨[.o 0],_,[],[],[3]⟩,⟨[.p 0 0],_,[],[0],[4]⟩,⟨[.p 1 0],_,[],[0,1],[5]⟩,⟨[.p 2 0],_,[],[0,1,2],[6]⟩,⟨[.p 3 0,.o 0],_,[],Lr 4,[7]⟩,⟨[.p 3 0,.p 4 0],_,[],Lr 5,[8]⟩,⟨[.p 3 0,.p 5 0],_,[],Lr 6,[9]⟩,⟨[.p 3 0,.p 6 0],_,[],Lr 7,[10]⟩,⟨[.p 7 0],_,[],Lr 8,[2]⟩]) (F:=[.p 8 0]) hst hb Za
  (Qf rfl Zc4 u_0<|Ql rfl ty_3 u_0<|o_p rfl (Zbt rfl rfl u_0 c_i)<|Qm rfl u_0<|o_g (Qg_f rfl (fun hG=>Zi Zc4 rfl rfl u_0))<|o_g (Qg_f rfl (fun hG=>Zv ty_3 rfl rfl (Opd.gd hG u_0)))<|o_g (Qg_f rfl (fun hG=>Zbt rfl rfl (Opd.gd hG u_0) c_i))<|o_p rfl (Zbp rfl rfl u_0 (fun hz=>(Opd.gd (bNF hz) u_1)))<|Qa rfl u_0<|o_n) (fun a g hst hb=>?_)
 refine wp_ret ?_
 obtain rfl:=Option.some.inj H0
 exact Z4 rfl hst hb (Zg (s:=2)) (hst.at 0 rfl)
theorem Zr0 (a0:Z9) {r:Bool} (h:Zl6 a0=some r):FnOk Tryz.prog 50 [(Zbq.pd a0)] (Zbf r):=by
 have H0:=h
 unfold Zl6 at H0
 clear h
 refine Zbs (N:=6) Tryz.func50 rfl rfl (Qe rfl) rfl rfl (fun a g0 hst hb=>?_)
 refine r_s (T:=[⟨[.o 0],_,[],[],[1]⟩,⟨[],_,[],[],[2]⟩]) (F:=[.p 0 0]) hst hb Za
  (Qb rfl u_0<|Qa rfl c_b<|o_n) (fun a g hst hb=>?_)
 obtain ⟨r1,h2,H0⟩:=Zc H0
 refine r_s (T:=[⟨[.o 0],_,[],[],[3]⟩,⟨[.p 0 0],_,[],[0],[4]⟩,⟨[.p 1 0],_,[],[0,1],[5]⟩,⟨[.p 2 0],_,[],[0,1,2],[2]⟩]) (F:=[.p 3 0]) hst hb Za
  (Qf rfl Zgz u_0<|Ql rfl Zjw u_0<|o_p rfl (Zl Zber (Zl8 74 [] rfl Zbeh (fun y0=>Zjb y0) (fun y0 r h=>Zwf y0 h) _ h2) rfl rfl (.cons u_0 (.cons Opd.fnc .nil)))<|Qa rfl u_0<|o_n) (fun a g hst hb=>?_)
 refine wp_ret ?_
 obtain rfl:=Option.some.inj H0
 exact Z4 rfl hst hb (Zg (s:=2)) (hst.at 0 rfl)
theorem Z1m (a0:Z9) (a1:Z9) (a2:List ByteArray) {r:Bool} (h:Zpn a0 a1 a2=some r):FnOk Tryz.prog 25 [(Zbq.pd a0),(Zbq.pd a1),(Kd.str.sl.pd a2)] (Zbf r):=by
 have H0:=h
 unfold Zpn at H0
 clear h
 refine Zbs (N:=56) Tryz.func25 rfl rfl (Qe rfl) rfl rfl (fun a g0 hst hb=>?_)
 refine r_s (T:=[⟨[.o 0],_,[],[],[3]⟩,⟨[.o 1],_,[],[],[4]⟩,⟨[],_,[],[],[6]⟩]) (F:=[.o 2,.p 0 0,.p 1 0]) hst hb Za
  (Qb rfl u_0<|Qb rfl u_0<|Qa rfl c_b<|o_n) (fun a g hst hb=>?_)
 refine wp_seq ?_
 refine r_s (T:=[⟨[.o 1],_,[],[],[11]⟩,⟨[.p 0 0],_,[],[0],[12]⟩,⟨[.p 1 0],_,[],[0,1],[13]⟩,⟨[],_,[],[],[14]⟩]) (F:=[.o 0,.o 1,.o 2,.p 1 0,.p 2 0,.p 3 0]) hst hb Za
  (Qf rfl Zgz u_0<|Ql rfl Zjw u_0<|o_p rfl (Zbx Tryz.underlying23 rfl rfl u_0)<|Qm rfl c_i<|o_n) (fun a g hst hb=>?_)
 obtain ⟨z17,hz1,H0⟩:=Zc H0
 refine Zb3 (fun a w=>∃ (g:G),w=g.w ∧ St 56 [(3,(Zbq.ptr a0)),(4,(Zbq.ptr a1))] a g ∧ Base g0 g ∧ (.inr ())=z17) ?_ ?_
 ·rintro a w ⟨g,rfl,hst,hb,rfl⟩
  refine Zp ?_
  obtain ⟨r18,h19,H0⟩:=Zc H0;obtain ⟨r20,h21,H0⟩:=Zc H0
  refine r_s (T:=[⟨[.o 0],_,[],[],[50]⟩,⟨[.p 0 0],_,[],[0],[51]⟩,⟨[.p 1 0],_,[],[0,1],[52]⟩,⟨[.p 2 0,.o 1],_,[],[0,1,2],[53]⟩,⟨[.p 2 0,.p 3 0],_,[],Lr 4,[54]⟩,⟨[.p 2 0,.p 4 0],_,[],Lr 5,[55]⟩,⟨[.p 5 0],_,[],Lr 6,[6]⟩]) (F:=[.p 6 0]) hst hb Za
   (Ql rfl Zka u_0<|o_p rfl (Zl Zbaa (Zr0 _ h19) rfl rfl (.cons u_0 .nil))<|Qm rfl u_0<|o_g (Qg_t rfl (fun hG=>Zv Zka rfl rfl u_0))<|o_g (Qg_t rfl (fun hG=>Zl Zbaa (Zr0 _ (Zbn h21 hG)) rfl rfl (.cons (Opd.gd hG u_0) .nil)))<|o_p rfl (Zbk rfl rfl u_0 (fun hz=>(Opd.gd hz u_1)))<|Qa rfl u_0<|o_n) (fun a g hst hb=>?_)
  refine wp_ret ?_
  obtain rfl:=Option.some.inj H0
  exact Z4 rfl hst hb (Zg (s:=6)) (hst.at 0 rfl)
 ·refine wp_block ?_
  refine wp_loop_ghost (fun n a w=>∃ (x1:Int) (g:G),w=g.w ∧ St 56 [(2,(Kd.str.sl.pd a2)),(3,(Zbq.ptr a0)),(4,(Zbq.ptr a1)),(12,(Z0.sl.pd a0.Acts)),(13,(pInt .i64 (a0.Acts.length:Int))),(14,(pInt .i64 x1))] a g ∧ Base g0 g ∧ Zhw a0 a1 a2 n x1=some z17) (Int.toNat ((a0.Acts.length:Int) - (0:Int)) + 1) ⟨(0:Int),g,rfl,(hst.pick [0,1,2,3,4,5] rfl),hb,hz1⟩ (fun n a w hI=>?_)
  obtain ⟨x1,g,rfl,hst,hb,H1⟩:=hI
  cases n with
  | zero=>exact absurd H1 (by simp [Zhw])
  | succ n =>
   rw [Zhw] at H1
   refine r_s (T:=[⟨[.o 5,.o 4],_,[],[],[15]⟩]) (F:=[.o 0,.o 1,.o 2,.o 3,.o 4,.o 5,.p 0 0]) hst hb Za
    (o_p rfl (Zca rfl rfl u_0 u_1)<|o_n) (fun a g hst hb=>?_)
   refine wp_seq ?_
   refine wp_cond_split (hst.bool 6 rfl) (fun hc2=>?_) (fun hc2=>?_)
   ·replace H1:=Zu hc2 H1
    refine wp_skip ?_
    refine Zp ?_
    refine wp_seq ?_
    refine wp_block ?_
    obtain ⟨e3,h4,H1⟩:=Zc H1
    refine r_s (L:=[(2,_),(3,_),(4,_),(12,_),(13,_),(14,_)]) (T:=[⟨[.o 3,.o 5],_,[],[],[16]⟩,⟨[.p 0 0],_,[],[0],[17]⟩,⟨[],[(8,(pBox Z0 8 (default:Zn)))],[9],[],[8]⟩,⟨[.p 1 0,.p 2 0],_,[9],[0,1,2],[8]⟩]) (F:=[.o 0,.o 1,.o 2,.p 3 0,.o 3,.o 4,.o 5]) (hst.pick [0,1,2,3,4,5] rfl) hb Za
     (o_p rfl (Zbl Tryz.underlying23 Znj rfl rfl u_0 u_1 h4)<|Ql rfl Zgw u_0<|o_p rfl (Zbi (zs:=[.int .i64 0,.string ByteArray.empty,.int .i64 0,.float .f64 0,.string ByteArray.empty,.int .i64 0,.int .i64 0,.int .i64 0,.int .i64 0,.float .f64 0,.int .i64 0,.string ByteArray.empty,.slice none 0 0,.bool false]) (by kernel_rfl) (fun g=>Zmt g) rfl rfl)<|o_p rfl (Zb5 Zgw rfl rfl u_1 u_0)<|o_n) (fun a g hst hb=>?_)
    refine r_s (T:=[⟨[.o 2],_,[],[],[18]⟩,⟨[.p 0 0],_,[],[0],[19]⟩,⟨[.p 1 0],_,[],[0,1],[20]⟩,⟨[],_,[],[],[21]⟩]) (F:=[.o 0,.o 1,.o 2,.o 3,.o 4,.o 5,.o 6,.p 1 0,.p 2 0,.p 3 0]) hst hb Za
     (Qf rfl Zgz u_0<|Ql rfl Zjw u_0<|o_p rfl (Zbx Tryz.underlying23 rfl rfl u_0)<|Qm rfl c_i<|o_n) (fun a g hst hb=>?_)
    obtain ⟨z16,hz2,H1⟩:=Zc H1
    refine Zb3 (fun a w=>∃ (g:G),w=g.w ∧ St 56 [(2,(Kd.str.sl.pd a2)),(3,(Zbq.ptr a0)),(4,(Zbq.ptr a1)),(12,(Z0.sl.pd a0.Acts)),(13,(pInt .i64 (a0.Acts.length:Int))),(14,(pInt .i64 x1))] a g ∧ Base g0 g ∧ (.inr ())=z16) ?_ ?_
    ·rintro a w ⟨g,rfl,hst,hb,rfl⟩
     refine Zbc ?_
     refine Zp ?_
     refine r_g (T:=[⟨[.o 5],_,[],[],[49]⟩,⟨[.p 0 0],_,[],[0],[14]⟩]) (F:=[.o 0,.o 1,.o 2,.o 3,.o 4,.p 1 0]) hst hb Za
      (o_p rfl (Zb0 rfl rfl u_0 c_i rfl)<|Qm rfl u_0<|o_n) (fun a g hst hb=>?_)
     exact ⟨n,Nat.lt_succ_self _,(IntKind.i64.wrap (x1 + (1:Int))),g,rfl,(hst.pick [0,1,2,3,4,5] rfl),hb,H1⟩
    ·refine wp_block ?_
     refine wp_loop_ghost (fun n a w=>∃ (x5:Int) (g:G),w=g.w ∧ St 56 [(2,(Kd.str.sl.pd a2)),(3,(Zbq.ptr a0)),(4,(Zbq.ptr a1)),(8,(Z0.ptr e3)),(12,(Z0.sl.pd a0.Acts)),(13,(pInt .i64 (a0.Acts.length:Int))),(14,(pInt .i64 x1)),(19,(Z0.sl.pd a1.Acts)),(20,(pInt .i64 (a1.Acts.length:Int))),(21,(pInt .i64 x5))] a g ∧ Base g0 g ∧ Zht a1 a2 e3 n x5=some z16) (Int.toNat ((a1.Acts.length:Int) - (0:Int)) + 1) ⟨(0:Int),g,rfl,(hst.pick [0,1,2,3,4,5,6,7,8,9] rfl),hb,hz2⟩ (fun n a w hI=>?_)
     obtain ⟨x5,g,rfl,hst,hb,H2⟩:=hI
     cases n with
     | zero=>exact absurd H2 (by simp [Zht])
     | succ n =>
      rw [Zht] at H2
      refine r_s (T:=[⟨[.o 9,.o 8],_,[],[],[22]⟩]) (F:=[.o 0,.o 1,.o 2,.o 3,.o 4,.o 5,.o 6,.o 7,.o 8,.o 9,.p 0 0]) hst hb Za
       (o_p rfl (Zca rfl rfl u_0 u_1)<|o_n) (fun a g hst hb=>?_)
      refine wp_seq ?_
      refine wp_cond_split (hst.bool 10 rfl) (fun hc6=>?_) (fun hc6=>?_)
      ·replace H2:=Zu hc6 H2
       refine wp_skip ?_
       refine Zp ?_
       refine wp_seq ?_
       refine wp_block ?_
       obtain ⟨e7,h8,H2⟩:=Zc H2
       refine r_s (L:=[(2,_),(3,_),(4,_),(8,_),(12,_),(13,_),(14,_),(19,_),(20,_),(21,_)]) (T:=[⟨[.o 7,.o 9],_,[],[],[23]⟩,⟨[.p 0 0],_,[],[0],[24]⟩,⟨[],[(10,(pBox Z0 10 (default:Zn)))],[11],[],[10]⟩,⟨[.p 1 0,.p 2 0],_,[11],[0,1,2],[10]⟩]) (F:=[.o 0,.o 1,.o 2,.o 3,.p 3 0,.o 4,.o 5,.o 6,.o 7,.o 8,.o 9]) (hst.pick [0,1,2,3,4,5,6,7,8,9] rfl) hb Za
        (o_p rfl (Zbl Tryz.underlying23 Znj rfl rfl u_0 u_1 h8)<|Ql rfl Zgw u_0<|o_p rfl (Zbi (zs:=[.int .i64 0,.string ByteArray.empty,.int .i64 0,.float .f64 0,.string ByteArray.empty,.int .i64 0,.int .i64 0,.int .i64 0,.int .i64 0,.float .f64 0,.int .i64 0,.string ByteArray.empty,.slice none 0 0,.bool false]) (by kernel_rfl) (fun g=>Zmt g) rfl rfl)<|o_p rfl (Zb5 Zgw rfl rfl u_1 u_0)<|o_n) (fun a g hst hb=>?_)
       obtain ⟨r9,h10,H2⟩:=Zc H2;obtain ⟨r11,h12,H2⟩:=Zc H2;obtain ⟨r13,h14,H2⟩:=Zc H2
       refine r_s (T:=⟨[.o 3],_,[],[],[25]⟩ :: ⟨[.p 0 0],_,[],[0],[26]⟩ :: ⟨[.o 4],_,[],[],[27]⟩ :: ⟨[.p 2 0],_,[],[2],[28]⟩ :: ⟨[.p 1 0,.p 3 0],_,[],Lr 4,[29]⟩ :: ⟨[.p 4 0],_,[],Lr 5,[30]⟩ :: ⟨[.p 5 0,.o 3],_,[],Lr 6,[31]⟩ :: ⟨[.p 5 0,.p 6 0],_,[],Lr 7,[32]⟩ :: ⟨[.p 5 0,.p 7 0],_,[],Lr 8,[33]⟩ :: ⟨[.p 5 0,.p 8 0],_,[],Lr 9,[34]⟩ :: ⟨[.p 9 0,.o 4],_,[],Lr 10,[35]⟩ :: ⟨[.p 9 0,.p 10 0],_,[],Lr 11,[36]⟩ :: ⟨[.p 9 0,.p 11 0],_,[],Lr 12,[37]⟩ :: ⟨[.p 5 0,.p 9 0,.p 12 0],_,[],Lr 13,[38]⟩ :: ⟨[.p 5 0,.p 13 0],_,[],Lr 14,[39]⟩ :: ⟨[.p 5 0,.p 14 0],_,[],Lr 15,[40]⟩ :: ⟨[.p 15 0],_,[],Lr 16,[41]⟩ :: ⟨[.p 16 0,.o 0],_,[],Lr 17,[42]⟩ :: ⟨[.p 16 0,.o 3],_,[],Lr 17,[43]⟩ :: ⟨[.p 16 0,.p 18 0],_,[],0 :: 1 :: 2 :: 3 :: 4 :: 5 :: 6 :: 7 :: 8 :: 9 :: 10 :: 11 :: 12 :: 13 :: 14 :: 15 :: 16 :: 18 :: [],[44]⟩ :: ⟨[.p 16 0,.p 17 0,.p 19 0],_,[],Lr 20,[45]⟩ :: ⟨[.p 16 0,.p 20 0],_,[],Lr 21,[46]⟩ :: ⟨[.p 16 0,.p 21 0],_,[],Lr 22,[47]⟩ :: []) (F:=[.o 0,.o 1,.o 2,.o 3,.o 5,.o 6,.o 7,.o 8,.o 9,.o 10,.p 22 0]) hst hb Za
        (Qf rfl Zhk u_0<|Ql rfl ty_9 u_0<|Qf rfl Zhk u_0<|Ql rfl ty_9 u_0<|o_p rfl (Zlf rfl rfl u_0 u_1)<|Qm rfl u_0<|o_g (Qg_t rfl (fun hG=>Zi Zc4 rfl rfl u_0))<|o_g (Qg_t rfl (fun hG=>Zv ty_3 rfl rfl (Opd.gd hG u_0)))<|o_g (Qg_t rfl (fun hG=>Zl Z00 (Zn3 _ (Zbn h10 hG)) rfl rfl (.cons (Opd.gd hG u_0) .nil)))<|o_g (Qg_t rfl (fun hG=>Z6 rfl rfl (Opd.gd hG u_0)))<|o_g (Qg_ti rfl (fun hG=>Zi Zc4 rfl rfl u_0))<|o_g (Qg_ti rfl (fun hG=>Zv ty_3 rfl rfl (Opd.gd hG u_0)))<|o_g (Qg_ti rfl (fun hG=>Zl Z00 (Zn3 _ (Zbn h12 hG)) rfl rfl (.cons (Opd.gd hG u_0) .nil)))<|o_g (Qg_t rfl (fun hG=>Zbk rfl rfl (Opd.gd hG u_0) (fun hz=>(Opd.gd (bA hG hz) u_1))))<|o_g (Qg_t rfl (fun hG=>Ze1 rfl rfl (Opd.gd hG u_0)))<|o_p rfl (Zbk rfl rfl u_0 (fun hz=>(Opd.gd hz u_1)))<|Qm rfl u_0<|o_g (Qg_t rfl (fun hG=>Z6 rfl rfl u_0))<|o_g (Qg_t rfl (fun hG=>Zi Zhk rfl rfl u_0))<|o_g (Qg_t rfl (fun hG=>Zv ty_9 rfl rfl (Opd.gd hG u_0)))<|o_g (Qg_t rfl (fun hG=>Zl Z53 (Zhb _ _ (Zbn h14 hG)) rfl rfl (.cons (Opd.gd hG u_0) (.cons (Opd.gd hG u_1) .nil))))<|o_g (Qg_t rfl (fun hG=>Ze1 rfl rfl (Opd.gd hG u_0)))<|o_p rfl (Zbk rfl rfl u_0 (fun hz=>(Opd.gd hz u_1)))<|o_n) (fun a g hst hb=>?_)
       refine wp_cond_split (hst.bool 10 rfl) (fun hc15=>?_) (fun hc15=>?_)
       ·replace H2:=Zu hc15 H2
        refine r_s (L:=[]) (T:=[⟨[],_,[],[],[6]⟩]) (F:=[.p 0 0]) (hst.pick [] rfl) hb Za
         (Qa rfl c_b<|o_n) (fun a g hst hb=>?_)
        refine wp_ret ?_
        refine Z5 ?_
        refine Zo ?_
        refine Zo ?_
        refine Z5 ?_
        refine Zo ?_
        refine Z5 ?_
        refine Zo ?_
        refine Zo ?_
        refine Z5 ?_
        refine Zo ?_
        refine Zo ?_
        obtain rfl:=Option.some.inj H2
        obtain rfl:=Option.some.inj H1
        obtain rfl:=Option.some.inj H0
        exact Z4 rfl hst hb (Zg (s:=6)) (hst.at 0 rfl)
       ·replace H2:=Zt hc15 H2
        refine wp_skip ?_
        refine Zbc ?_
        refine Zp ?_
        refine r_g (L:=[(2,_),(3,_),(4,_),(8,_),(12,_),(13,_),(14,_),(19,_),(20,_),(21,_)]) (T:=[⟨[.o 9],_,[],[],[48]⟩,⟨[.p 0 0],_,[],[0],[21]⟩]) (F:=[.o 0,.o 1,.o 2,.o 3,.o 4,.o 5,.o 6,.o 7,.o 8,.p 1 0]) (hst.pick [0,1,2,3,4,5,6,7,8,9] rfl) hb Za
         (o_p rfl (Zb0 rfl rfl u_0 c_i rfl)<|Qm rfl u_0<|o_n) (fun a g hst hb=>?_)
        exact ⟨n,Nat.lt_succ_self _,(IntKind.i64.wrap (x5 + (1:Int))),g,rfl,(hst.pick [0,1,2,3,4,5,6,7,8,9] rfl),hb,H2⟩
      ·replace H2:=Zt hc6 H2
       refine wp_exit ?_
       refine Zby ?_
       refine Zby ?_
       refine Zcb ?_
       exact ⟨g,rfl,(hst.pick [0,1,2,4,5,6] rfl),hb,Option.some.inj H2⟩
   ·replace H1:=Zt hc2 H1
    refine wp_exit ?_
    refine Zby ?_
    refine Zby ?_
    refine Zcb ?_
    exact ⟨g,rfl,(hst.pick [1,2] rfl),hb,Option.some.inj H1⟩
theorem Zrp (a0:Int) {r:ByteArray} (h:Zmf a0=some r):FnOk Tryz.prog 95 [(pInt .i64 a0)] (pStr r):=by
 have H0:=h
 unfold Zmf at H0
 clear h
 refine Zbs (N:=15) Tryz.func95 rfl rfl (Qe rfl) rfl rfl (fun a g0 hst hb=>?_)
 refine r_s (T:=[⟨[],_,[],[],[2]⟩]) (F:=[.o 0]) hst hb Za
  (Qa rfl c_s<|o_n) (fun a g hst hb=>?_)
 refine r_s (T:=[⟨[],_,[],[],[4]⟩,⟨[.p 0 0],_,[],[0],[3]⟩]) (F:=[.o 0,.p 1 0]) hst hb Za
  (o_p rfl (Zig Zsy (xs:=[.const (.string ⟨#[]⟩),.const (.string ⟨#[109]⟩),.const (.string ⟨#[]⟩),.const (.string ⟨#[]⟩),.const (.string ⟨#[]⟩),.const (.string ⟨#[115]⟩),.const (.string ⟨#[115]⟩),.const (.string ⟨#[110]⟩),.const (.string ⟨#[110]⟩),.const (.string ⟨#[110]⟩),.const (.string ⟨#[110]⟩),.const (.string ⟨#[110]⟩),.const (.string ⟨#[110]⟩),.const (.string ⟨#[120]⟩),.const (.string ⟨#[120]⟩),.const (.string ⟨#[120]⟩),.const (.string ⟨#[120]⟩),.const (.string ⟨#[120]⟩),.const (.string ⟨#[115]⟩),.const (.string ⟨#[115]⟩),.const (.string ⟨#[115]⟩),.const (.string ⟨#[120,115]⟩)]) (.cons c_s (.cons c_s (.cons c_s (.cons c_s (.cons c_s (.cons c_s (.cons c_s (.cons c_s (.cons c_s (.cons c_s (.cons c_s (.cons c_s (.cons c_s (.cons c_s (.cons c_s (.cons c_s (.cons c_s (.cons c_s (.cons c_s (.cons c_s (.cons c_s (.cons c_s .nil)))))))))))))))))))))) (by decide) rfl rfl)<|Qa rfl u_0<|o_n) (fun a g hst hb=>?_)
 refine wp_seq ?_
 refine r_s (T:=[⟨[.o 0],_,[],[],[5]⟩,⟨[.p 0 0],_,[],[0],[6]⟩,⟨[.p 1 0],_,[],[0,1],[7]⟩,⟨[.p 2 0,.o 0],_,[],[0,1,2],[8]⟩,⟨[.p 2 0,.p 3 0],_,[],Lr 4,[9]⟩,⟨[.p 2 0,.p 4 0],_,[],Lr 5,[10]⟩]) (F:=[.o 0,.o 1,.p 5 0]) hst hb Za
  (Qm rfl u_0<|o_p rfl (Zca rfl rfl u_0 c_i)<|Qm rfl u_0<|o_g (Qg_f rfl (fun hG=>Z6 rfl rfl u_0))<|o_g (Qg_f rfl (fun hG=>Zct rfl rfl (Opd.gd hG u_0) c_i))<|o_p rfl (Zbp rfl rfl u_0 (fun hz=>(Opd.gd (bNF hz) u_1)))<|o_n) (fun a g hst hb=>?_)
 refine wp_cond_split (hst.bool 2 rfl) (fun hc1=>?_) (fun hc1=>?_)
 ·replace H0:=Zu hc1 H0
  refine r_s (L:=[]) (T:=[⟨[],_,[],[],[2]⟩]) (F:=[.p 0 0]) (hst.pick [] rfl) hb Za
   (Qa rfl c_s<|o_n) (fun a g hst hb=>?_)
  refine wp_ret ?_
  refine Zo ?_
  obtain rfl:=Option.some.inj H0
  exact Z4 rfl hst hb (Zg (s:=2)) (hst.at 0 rfl)
 ·replace H0:=Zt hc1 H0
  refine wp_skip ?_
  refine Zp ?_
  obtain ⟨e2,h3,H0⟩:=Zc H0
  refine r_s (L:=[(0,_),(3,_)]) (T:=[⟨[.o 1],_,[],[],[11]⟩,⟨[.o 0],_,[],[],[12]⟩,⟨[.p 0 0,.p 1 0],_,[],[0,1],[13]⟩,⟨[.p 2 0],_,[],[0,1,2],[14]⟩,⟨[.p 3 0],_,[],Lr 4,[2]⟩]) (F:=[.p 4 0]) (hst.pick [0,1] rfl) hb Za
   (Qm rfl u_0<|Qm rfl u_0<|o_p rfl (Zbl Tryz.underlying26 sz_9 rfl rfl u_0 u_1 h3)<|Ql rfl ty_9 u_0<|Qa rfl u_0<|o_n) (fun a g hst hb=>?_)
  refine wp_ret ?_
  obtain rfl:=Option.some.inj H0
  exact Z4 rfl hst hb (Zg (s:=2)) (hst.at 0 rfl)
theorem Zmi (a0:Int) (a1:Int) {r:Bool} (h:Zev a0 a1=some r):FnOk Tryz.prog 69 [(pInt .i64 a0),(pInt .u8 a1)] (Zbf r):=by
 have H0:=h
 unfold Zev at H0
 clear h
 refine Zbs (N:=20) Tryz.func69 rfl rfl (Qe rfl) rfl rfl (fun a g0 hst hb=>?_)
 refine r_s (T:=[⟨[],_,[],[],[4]⟩]) (F:=[.o 0,.o 1]) hst hb Za
  (Qa rfl c_b<|o_n) (fun a g hst hb=>?_)
 obtain ⟨r1,h2,H0⟩:=Zc H0
 refine r_s (T:=[⟨[.o 0],_,[],[],[7]⟩,⟨[.p 0 0],_,[],[0],[8]⟩,⟨[.p 1 0],_,[],[0,1],[5]⟩]) (F:=[.o 1,.p 2 0]) hst hb Za
  (Qm rfl u_0<|o_p rfl (Zl Zbfi (Zrp _ h2) rfl rfl (.cons u_0 .nil))<|Qa rfl u_0<|o_n) (fun a g hst hb=>?_)
 refine wp_seq ?_
 refine r_s (T:=[⟨[],_,[],[],[6]⟩]) (F:=[.o 0,.o 1,.p 0 0]) hst hb Za
  (Qa rfl c_i<|o_n) (fun a g hst hb=>?_)
 obtain ⟨z8,hz1,H0⟩:=Zc H0
 refine Zb3 (fun a w=>∃ (g:G),w=g.w ∧ St 20 [] a g ∧ Base g0 g ∧ (.inr ())=z8) ?_ ?_
 ·rintro a w ⟨g,rfl,hst,hb,rfl⟩
  refine Zp ?_
  refine r_s (T:=[⟨[],_,[],[],[4]⟩]) (F:=[.p 0 0]) hst hb Za
   (Qa rfl c_b<|o_n) (fun a g hst hb=>?_)
  refine wp_ret ?_
  obtain rfl:=Option.some.inj H0
  exact Z4 rfl hst hb (Zg (s:=4)) (hst.at 0 rfl)
 ·refine wp_block ?_
  refine wp_loop_ghost (fun n a w=>∃ (x3:Int) (g:G),w=g.w ∧ St 20 [(1,(pInt .u8 a1)),(5,(pStr r1)),(6,(pInt .i64 x3))] a g ∧ Base g0 g ∧ Zi1 a1 r1 n x3=some z8) (Int.toNat ((r1.size:Int) - (0:Int)) + 1) ⟨(0:Int),g,rfl,(hst.pick [0,1,2] rfl),hb,hz1⟩ (fun n a w hI=>?_)
  obtain ⟨x3,g,rfl,hst,hb,H1⟩:=hI
  cases n with
  | zero=>exact absurd H1 (by simp [Zi1])
  | succ n =>
   rw [Zi1] at H1
   refine wp_seq ?_
   refine r_s (T:=[⟨[.o 2],_,[],[],[9]⟩,⟨[.o 1],_,[],[],[10]⟩,⟨[.p 1 0],_,[],[1],[11]⟩,⟨[.p 0 0,.p 2 0],_,[],[0,1,2],[12]⟩]) (F:=[.o 0,.o 1,.o 2,.p 3 0]) hst hb Za
    (Qm rfl u_0<|Qm rfl u_0<|o_p rfl (Zfy Tryz.underlying9 rfl rfl u_0)<|o_p rfl (Zca rfl rfl u_0 u_1)<|o_n) (fun a g hst hb=>?_)
   refine wp_cond_split (hst.bool 3 rfl) (fun hc4=>?_) (fun hc4=>?_)
   ·replace H1:=Zu hc4 H1
    refine wp_skip ?_
    refine Zp ?_
    refine wp_seq ?_
    refine wp_block ?_
    obtain ⟨b5,h6,H1⟩:=Zc H1
    refine r_s (L:=[(1,_),(5,_),(6,_)]) (T:=[⟨[.o 1],_,[],[],[15]⟩,⟨[.o 2],_,[],[],[16]⟩,⟨[.p 0 0,.p 1 0],_,[],[0,1],[17]⟩,⟨[.o 0],_,[],[],[18]⟩,⟨[.p 2 0,.p 3 0],_,[],Lr 4,[19]⟩]) (F:=[.o 0,.o 1,.o 2,.p 4 0]) (hst.pick [0,1,2] rfl) hb Za
     (Qm rfl u_0<|Qm rfl u_0<|o_p rfl (Zow Tryz.underlying9 rfl rfl u_0 u_1 h6)<|Qm rfl u_0<|o_p rfl (Zbt rfl rfl u_0 u_1)<|o_n) (fun a g hst hb=>?_)
    refine wp_cond_split (hst.bool 3 rfl) (fun hc7=>?_) (fun hc7=>?_)
    ·replace H1:=Zu hc7 H1
     refine r_s (L:=[]) (T:=[⟨[],_,[],[],[4]⟩]) (F:=[.p 0 0]) (hst.pick [] rfl) hb Za
      (Qa rfl c_b<|o_n) (fun a g hst hb=>?_)
     refine wp_ret ?_
     refine Z5 ?_
     refine Zo ?_
     refine Zo ?_
     refine Z5 ?_
     refine Zo ?_
     refine Zo ?_
     obtain rfl:=Option.some.inj H1
     obtain rfl:=Option.some.inj H0
     exact Z4 rfl hst hb (Zg (s:=4)) (hst.at 0 rfl)
    ·replace H1:=Zt hc7 H1
     refine wp_skip ?_
     refine Zbc ?_
     refine Zp ?_
     refine r_g (L:=[(1,_),(5,_),(6,_)]) (T:=[⟨[.o 2],_,[],[],[13]⟩,⟨[.p 0 0],_,[],[0],[14]⟩,⟨[.p 1 0],_,[],[0,1],[6]⟩]) (F:=[.o 0,.o 1,.p 2 0]) (hst.pick [0,1,2] rfl) hb Za
      (Qm rfl u_0<|o_p rfl (Zb0 rfl rfl u_0 c_i rfl)<|Qa rfl u_0<|o_n) (fun a g hst hb=>?_)
     exact ⟨n,Nat.lt_succ_self _,(IntKind.i64.wrap (x3 + (1:Int))),g,rfl,(hst.pick [0,1,2] rfl),hb,H1⟩
   ·replace H1:=Zt hc4 H1
    refine wp_exit ?_
    refine Zby ?_
    refine Zby ?_
    refine Zcb ?_
    exact ⟨g,rfl,(hst.pick [] rfl),hb,Option.some.inj H1⟩
theorem Znb (a0:Int) {r:Int} (h:Zfi a0=some r):FnOk Tryz.prog 70 [(pInt .i64 a0)] (pInt .i64 r):=by
 have H0:=h
 unfold Zfi at H0
 clear h
 refine Zbs (N:=15) Tryz.func70 rfl rfl (Qe rfl) rfl rfl (fun a g0 hst hb=>?_)
 refine r_s (T:=[⟨[],_,[],[],[2]⟩]) (F:=[.o 0]) hst hb Za
  (Qa rfl c_i<|o_n) (fun a g hst hb=>?_)
 refine r_s (T:=[⟨[],_,[],[],[4]⟩,⟨[.p 0 0],_,[],[0],[3]⟩]) (F:=[.o 0,.p 1 0]) hst hb Za
  (o_p rfl (Zig Zbfy (xs:=[.const (.int .i64 0),.const (.int .i64 0),.const (.int .i64 0),.const (.int .i64 0),.const (.int .i64 0),.const (.int .i64 1),.const (.int .i64 1),.const (.int .i64 2),.const (.int .i64 3),.const (.int .i64 3),.const (.int .i64 4),.const (.int .i64 4),.const (.int .i64 4),.const (.int .i64 5),.const (.int .i64 6),.const (.int .i64 7),.const (.int .i64 7),.const (.int .i64 7),.const (.int .i64 8),.const (.int .i64 8),.const (.int .i64 8),.const (.int .i64 9)]) (.cons c_i (.cons c_i (.cons c_i (.cons c_i (.cons c_i (.cons c_i (.cons c_i (.cons c_i (.cons c_i (.cons c_i (.cons c_i (.cons c_i (.cons c_i (.cons c_i (.cons c_i (.cons c_i (.cons c_i (.cons c_i (.cons c_i (.cons c_i (.cons c_i (.cons c_i .nil)))))))))))))))))))))) (by decide) rfl rfl)<|Qa rfl u_0<|o_n) (fun a g hst hb=>?_)
 refine wp_seq ?_
 refine r_s (T:=[⟨[.o 0],_,[],[],[5]⟩,⟨[.p 0 0],_,[],[0],[6]⟩,⟨[.p 1 0],_,[],[0,1],[7]⟩,⟨[.p 2 0,.o 0],_,[],[0,1,2],[8]⟩,⟨[.p 2 0,.p 3 0],_,[],Lr 4,[9]⟩,⟨[.p 2 0,.p 4 0],_,[],Lr 5,[10]⟩]) (F:=[.o 0,.o 1,.p 5 0]) hst hb Za
  (Qm rfl u_0<|o_p rfl (Zca rfl rfl u_0 c_i)<|Qm rfl u_0<|o_g (Qg_f rfl (fun hG=>Z6 rfl rfl u_0))<|o_g (Qg_f rfl (fun hG=>Zct rfl rfl (Opd.gd hG u_0) c_i))<|o_p rfl (Zbp rfl rfl u_0 (fun hz=>(Opd.gd (bNF hz) u_1)))<|o_n) (fun a g hst hb=>?_)
 refine wp_cond_split (hst.bool 2 rfl) (fun hc1=>?_) (fun hc1=>?_)
 ·replace H0:=Zu hc1 H0
  refine r_s (L:=[]) (T:=[⟨[],_,[],[],[2]⟩]) (F:=[.p 0 0]) (hst.pick [] rfl) hb Za
   (Qa rfl c_i<|o_n) (fun a g hst hb=>?_)
  refine wp_ret ?_
  refine Zo ?_
  obtain rfl:=Option.some.inj H0
  exact Z4 rfl hst hb (Zg (s:=2)) (hst.at 0 rfl)
 ·replace H0:=Zt hc1 H0
  refine wp_skip ?_
  refine Zp ?_
  obtain ⟨e2,h3,H0⟩:=Zc H0
  refine r_s (L:=[(0,_),(3,_)]) (T:=[⟨[.o 1],_,[],[],[11]⟩,⟨[.o 0],_,[],[],[12]⟩,⟨[.p 0 0,.p 1 0],_,[],[0,1],[13]⟩,⟨[.p 2 0],_,[],[0,1,2],[14]⟩,⟨[.p 3 0],_,[],Lr 4,[2]⟩]) (F:=[.p 4 0]) (hst.pick [0,1] rfl) hb Za
   (Qm rfl u_0<|Qm rfl u_0<|o_p rfl (Zbl Tryz.underlying65 sz_3 rfl rfl u_0 u_1 h3)<|Ql rfl ty_3 u_0<|Qa rfl u_0<|o_n) (fun a g hst hb=>?_)
  refine wp_ret ?_
  obtain rfl:=Option.some.inj H0
  exact Z4 rfl hst hb (Zg (s:=2)) (hst.at 0 rfl)
theorem Zn8 (a0:Zn) {r:Int} (h:Zfb a0=some r):FnOk Tryz.prog 48 [(Z0.pd a0)] (pInt .i64 r):=by
 have H0:=h
 unfold Zfb at H0
 clear h
 refine Zbs (N:=113) Tryz.func48 rfl rfl (Qe rfl) rfl rfl (fun a g0 hst hb=>?_)
 refine r_s (T:=[⟨[.o 0],_,[],[],[1]⟩,⟨[],_,[],[],[2]⟩]) (F:=[.p 0 0]) hst hb Za
  (Qb rfl u_0<|Qa rfl c_i<|o_n) (fun a g hst hb=>?_)
 refine wp_seq ?_
 refine r_s (T:=[⟨[.o 0],_,[],[],[3]⟩,⟨[.p 0 0],_,[],[0],[4]⟩,⟨[.p 1 0],_,[],[0,1],[5]⟩,⟨[.p 2 0],_,[],[0,1,2],[6]⟩,⟨[.p 3 0,.o 0],_,[],Lr 4,[7]⟩,⟨[.p 3 0,.p 4 0],_,[],Lr 5,[8]⟩,⟨[.p 3 0,.p 5 0],_,[],Lr 6,[9]⟩,⟨[.p 3 0,.p 6 0],_,[],Lr 7,[10]⟩]) (F:=[.o 0,.p 7 0]) hst hb Za
  (Qf rfl Zc4 u_0<|Ql rfl ty_3 u_0<|o_p rfl (Zca rfl rfl u_0 c_i)<|Qm rfl u_0<|o_g (Qg_f rfl (fun hG=>Zi Zc4 rfl rfl u_0))<|o_g (Qg_f rfl (fun hG=>Zv ty_3 rfl rfl (Opd.gd hG u_0)))<|o_g (Qg_f rfl (fun hG=>Zct rfl rfl (Opd.gd hG u_0) c_i))<|o_p rfl (Zbp rfl rfl u_0 (fun hz=>(Opd.gd (bNF hz) u_1)))<|o_n) (fun a g hst hb=>?_)
 refine wp_cond_split (hst.bool 1 rfl) (fun hc1=>?_) (fun hc1=>?_)
 ·replace H0:=Zu hc1 H0
  refine r_s (L:=[]) (T:=[⟨[],_,[],[],[2]⟩]) (F:=[.p 0 0]) (hst.pick [] rfl) hb Za
   (Qa rfl c_i<|o_n) (fun a g hst hb=>?_)
  refine wp_ret ?_
  refine Zo ?_
  obtain rfl:=Option.some.inj H0
  exact Z4 rfl hst hb (Zg (s:=2)) (hst.at 0 rfl)
 ·replace H0:=Zt hc1 H0
  refine wp_skip ?_
  refine Zp ?_
  refine wp_seq ?_
  refine r_s (L:=[(1,_)]) (T:=[⟨[.o 0],_,[],[],[11]⟩,⟨[.p 0 0],_,[],[0],[12]⟩,⟨[.p 1 0],_,[],[0,1],[13]⟩,⟨[.p 2 0],_,[],[0,1,2],[14]⟩,⟨[.p 3 0],_,[],Lr 4,[15]⟩,⟨[.p 4 0,.o 0],_,[],Lr 5,[16]⟩,⟨[.p 4 0,.p 5 0],_,[],Lr 6,[17]⟩,⟨[.p 4 0,.p 6 0],_,[],Lr 7,[18]⟩,⟨[.p 4 0,.p 7 0],_,[],Lr 8,[19]⟩,⟨[.p 4 0,.p 8 0],_,[],Lr 9,[20]⟩]) (F:=[.o 0,.p 9 0]) (hst.pick [0] rfl) hb Za
   (Qf rfl Zhk u_0<|Ql rfl ty_9 u_0<|o_p rfl (Zfy Tryz.underlying9 rfl rfl u_0)<|o_p rfl (Zca rfl rfl u_0 c_i)<|Qm rfl u_0<|o_g (Qg_f rfl (fun hG=>Zi Zhk rfl rfl u_0))<|o_g (Qg_f rfl (fun hG=>Zv ty_9 rfl rfl (Opd.gd hG u_0)))<|o_g (Qg_f rfl (fun hG=>Zfy Tryz.underlying9 rfl rfl (Opd.gd hG u_0)))<|o_g (Qg_f rfl (fun hG=>Zct rfl rfl (Opd.gd hG u_0) c_i))<|o_p rfl (Zbp rfl rfl u_0 (fun hz=>(Opd.gd (bNF hz) u_1)))<|o_n) (fun a g hst hb=>?_)
  refine wp_cond_split (hst.bool 1 rfl) (fun hc2=>?_) (fun hc2=>?_)
  ·replace H0:=Zu hc2 H0
   refine r_s (L:=[]) (T:=[⟨[],_,[],[],[2]⟩]) (F:=[.p 0 0]) (hst.pick [] rfl) hb Za
    (Qa rfl c_i<|o_n) (fun a g hst hb=>?_)
   refine wp_ret ?_
   refine Zo ?_
   obtain rfl:=Option.some.inj H0
   exact Z4 rfl hst hb (Zg (s:=2)) (hst.at 0 rfl)
  ·replace H0:=Zt hc2 H0
   refine wp_skip ?_
   refine Zp ?_
   refine wp_seq ?_
   obtain ⟨r3,h4,H0⟩:=Zc H0;obtain ⟨r5,h6,H0⟩:=Zc H0;obtain ⟨r7,h8,H0⟩:=Zc H0;obtain ⟨r9,h10,H0⟩:=Zc H0
   refine r_s (L:=[(1,_)]) (T:=⟨[.o 0],_,[],[],[21]⟩ :: ⟨[.p 0 0],_,[],[0],[22]⟩ :: ⟨[.p 1 0],_,[],[0,1],[23]⟩ :: ⟨[.p 2 0],_,[],[0,1,2],[24]⟩ :: ⟨[.p 3 0],_,[],Lr 4,[25]⟩ :: ⟨[.p 4 0,.o 0],_,[],Lr 5,[26]⟩ :: ⟨[.p 4 0,.p 5 0],_,[],Lr 6,[27]⟩ :: ⟨[.p 4 0,.p 6 0],_,[],Lr 7,[28]⟩ :: ⟨[.p 4 0,.p 7 0],_,[],Lr 8,[29]⟩ :: ⟨[.p 8 0],_,[],Lr 9,[30]⟩ :: ⟨[.p 9 0,.o 0],_,[],Lr 10,[31]⟩ :: ⟨[.p 9 0,.p 10 0],_,[],Lr 11,[32]⟩ :: ⟨[.p 9 0,.p 11 0],_,[],Lr 12,[33]⟩ :: ⟨[.p 9 0,.p 12 0],_,[],Lr 13,[34]⟩ :: ⟨[.p 9 0,.p 13 0],_,[],Lr 14,[35]⟩ :: ⟨[.p 14 0,.o 0],_,[],Lr 15,[36]⟩ :: ⟨[.p 14 0,.p 15 0],_,[],Lr 16,[37]⟩ :: ⟨[.p 14 0,.p 16 0],_,[],Lr 17,[38]⟩ :: ⟨[.p 14 0,.p 17 0],_,[],Lr 18,[39]⟩ :: ⟨[.p 9 0,.p 14 0,.p 18 0],_,[],Lr 19,[40]⟩ :: ⟨[.p 9 0,.p 19 0],_,[],Lr 20,[41]⟩ :: ⟨[.p 20 0],_,[],Lr 21,[42]⟩ :: ⟨[.p 21 0,.o 0],_,[],Lr 22,[43]⟩ :: ⟨[.p 21 0,.p 22 0],_,[],Lr 23,[44]⟩ :: ⟨[.p 21 0,.p 23 0],_,[],Lr 24,[45]⟩ :: ⟨[.p 21 0,.p 24 0],_,[],Lr 25,[46]⟩ :: ⟨[.p 21 0,.p 25 0],_,[],Lr 26,[47]⟩ :: ⟨[.p 26 0,.o 0],_,[],Lr 27,[48]⟩ :: ⟨[.p 26 0,.p 27 0],_,[],Lr 28,[49]⟩ :: ⟨[.p 26 0,.p 28 0],_,[],Lr 29,[50]⟩ :: ⟨[.p 21 0,.p 26 0,.p 29 0],_,[],Lr 30,[51]⟩ :: ⟨[.p 21 0,.p 30 0],_,[],Lr 31,[52]⟩ :: []) (F:=[.o 0,.p 31 0]) (hst.pick [0] rfl) hb Za
    (Qf rfl Zc4 u_0<|Ql rfl ty_3 u_0<|o_p rfl (Zl Z41 (Zmi _ _ h4) rfl rfl (.cons u_0 (.cons c_i .nil)))<|Qn rfl u_0<|Qm rfl u_0<|o_g (Qg_t rfl (fun hG=>Zi Zec rfl rfl u_0))<|o_g (Qg_t rfl (fun hG=>Zv ty_2 rfl rfl (Opd.gd hG u_0)))<|o_g (Qg_t rfl (fun hG=>Zdn rfl rfl (Opd.gd hG u_0) c_i))<|o_p rfl (Zbk rfl rfl u_0 (fun hz=>(Opd.gd hz u_1)))<|Qm rfl u_0<|o_g (Qg_f rfl (fun hG=>Zi Zc4 rfl rfl u_0))<|o_g (Qg_f rfl (fun hG=>Zv ty_3 rfl rfl (Opd.gd hG u_0)))<|o_g (Qg_f rfl (fun hG=>Zl Z41 (Zmi _ _ (Zbn h6 hG)) rfl rfl (.cons (Opd.gd hG u_0) (.cons c_i .nil))))<|o_g (Qg_f rfl (fun hG=>Ze1 rfl rfl (Opd.gd hG u_0)))<|o_g (Qg_f rfl (fun hG=>Z6 rfl rfl (Opd.gd hG u_0)))<|o_g (Qg_ti rfl (fun hG=>Zi Zkc rfl rfl u_0))<|o_g (Qg_ti rfl (fun hG=>Zv Zc6 rfl rfl (Opd.gd hG u_0)))<|o_g (Qg_ti rfl (fun hG=>Zl Zvc (Zg0 _ _ (Zbn h8 hG)) rfl rfl (.cons (Opd.gd hG u_0) (.cons c_f .nil))))<|o_g (Qg_ti rfl (fun hG=>Ze1 rfl rfl (Opd.gd hG u_0)))<|o_g (Qg_f rfl (fun hG=>Zbk rfl rfl (Opd.gd hG u_0) (fun hz=>(Opd.gd (bA hG hz) u_1))))<|o_p rfl (Zbp rfl rfl u_0 (fun hz=>(Opd.gd (bNF hz) u_1)))<|Qm rfl u_0<|o_g (Qg_f rfl (fun hG=>Zi Zc4 rfl rfl u_0))<|o_g (Qg_f rfl (fun hG=>Zv ty_3 rfl rfl (Opd.gd hG u_0)))<|o_g (Qg_f rfl (fun hG=>Zl Z41 (Zmi _ _ (Zbn h10 hG)) rfl rfl (.cons (Opd.gd hG u_0) (.cons c_i .nil))))<|o_g (Qg_f rfl (fun hG=>Ze1 rfl rfl (Opd.gd hG u_0)))<|o_g (Qg_f rfl (fun hG=>Z6 rfl rfl (Opd.gd hG u_0)))<|o_g (Qg_ti rfl (fun hG=>Zi Zgc rfl rfl u_0))<|o_g (Qg_ti rfl (fun hG=>Zv ty_9 rfl rfl (Opd.gd hG u_0)))<|o_g (Qg_ti rfl (fun hG=>Zpg rfl rfl (Opd.gd hG u_0) c_s))<|o_g (Qg_f rfl (fun hG=>Zbk rfl rfl (Opd.gd hG u_0) (fun hz=>(Opd.gd (bA hG hz) u_1))))<|o_p rfl (Zbp rfl rfl u_0 (fun hz=>(Opd.gd (bNF hz) u_1)))<|o_n) (fun a g hst hb=>?_)
   refine wp_cond_split (hst.bool 1 rfl) (fun hc11=>?_) (fun hc11=>?_)
   ·replace H0:=Zu hc11 H0
    refine r_s (L:=[]) (T:=[⟨[],_,[],[],[2]⟩]) (F:=[.p 0 0]) (hst.pick [] rfl) hb Za
     (Qa rfl c_i<|o_n) (fun a g hst hb=>?_)
    refine wp_ret ?_
    refine Zo ?_
    obtain rfl:=Option.some.inj H0
    exact Z4 rfl hst hb (Zg (s:=2)) (hst.at 0 rfl)
   ·replace H0:=Zt hc11 H0
    refine wp_skip ?_
    refine Zp ?_
    refine wp_seq ?_
    obtain ⟨r12,h13,H0⟩:=Zc H0
    refine r_s (L:=[(1,_)]) (T:=[⟨[.o 0],_,[],[],[53]⟩,⟨[.p 0 0],_,[],[0],[54]⟩,⟨[.p 1 0],_,[],[0,1],[55]⟩,⟨[.p 2 0],_,[],[0,1,2],[56]⟩,⟨[.p 3 0,.o 0],_,[],Lr 4,[57]⟩,⟨[.p 3 0,.p 4 0],_,[],Lr 5,[58]⟩,⟨[.p 3 0],_,[],Lr 4,[59]⟩,⟨[.p 3 0,.p 5 0,.p 6 0],_,[],Lr 7,[60]⟩,⟨[.p 3 0,.p 7 0],_,[],Lr 8,[61]⟩,⟨[.p 3 0,.p 8 0],_,[],Lr 9,[62]⟩]) (F:=[.o 0,.p 9 0]) (hst.pick [0] rfl) hb Za
     (Qf rfl Zc4 u_0<|Ql rfl ty_3 u_0<|o_p rfl (Zdn rfl rfl u_0 c_i)<|Qm rfl u_0<|o_g (Qg_t rfl (fun hG=>Zi Zm2 rfl rfl u_0))<|o_g (Qg_t rfl (fun hG=>Zv Zbe rfl rfl (Opd.gd hG u_0)))<|o_g (Qg_t rfl (fun hG=>Zob rfl rfl ))<|o_g (Qg_t rfl (fun hG=>Zl Z5r (Zma _ _ (Zbn h13 hG)) rfl rfl (.cons (Opd.gd hG u_0) (.cons (Opd.gd hG u_1) .nil))))<|o_g (Qg_t rfl (fun hG=>Ze1 rfl rfl (Opd.gd hG u_0)))<|o_p rfl (Zbk rfl rfl u_0 (fun hz=>(Opd.gd hz u_1)))<|o_n) (fun a g hst hb=>?_)
    refine wp_cond_split (hst.bool 1 rfl) (fun hc14=>?_) (fun hc14=>?_)
    ·replace H0:=Zu hc14 H0
     refine r_s (L:=[]) (T:=[⟨[],_,[],[],[2]⟩]) (F:=[.p 0 0]) (hst.pick [] rfl) hb Za
      (Qa rfl c_i<|o_n) (fun a g hst hb=>?_)
     refine wp_ret ?_
     refine Zo ?_
     obtain rfl:=Option.some.inj H0
     exact Z4 rfl hst hb (Zg (s:=2)) (hst.at 0 rfl)
    ·replace H0:=Zt hc14 H0
     refine wp_skip ?_
     refine Zp ?_
     refine wp_seq ?_
     obtain ⟨r15,h16,H0⟩:=Zc H0;obtain ⟨r17,h18,H0⟩:=Zc H0
     refine r_s (L:=[(1,_)]) (T:=⟨[.o 0],_,[],[],[63]⟩ :: ⟨[.p 0 0],_,[],[0],[64]⟩ :: ⟨[.p 1 0],_,[],[0,1],[65]⟩ :: ⟨[.p 2 0],_,[],[0,1,2],[66]⟩ :: ⟨[.p 3 0],_,[],Lr 4,[67]⟩ :: ⟨[.p 4 0,.o 0],_,[],Lr 5,[68]⟩ :: ⟨[.p 4 0,.p 5 0],_,[],Lr 6,[69]⟩ :: ⟨[.p 4 0,.p 6 0],_,[],Lr 7,[70]⟩ :: ⟨[.p 4 0,.p 7 0],_,[],Lr 8,[71]⟩ :: ⟨[.p 4 0,.p 8 0],_,[],Lr 9,[72]⟩ :: ⟨[.p 9 0],_,[],Lr 10,[73]⟩ :: ⟨[.p 10 0,.o 0],_,[],Lr 11,[74]⟩ :: ⟨[.p 10 0,.p 11 0],_,[],Lr 12,[75]⟩ :: ⟨[.p 10 0,.p 12 0],_,[],Lr 13,[76]⟩ :: ⟨[.p 10 0,.p 13 0],_,[],Lr 14,[77]⟩ :: ⟨[.p 10 0,.p 14 0],_,[],Lr 15,[78]⟩ :: ⟨[.p 15 0,.o 0],_,[],Lr 16,[79]⟩ :: ⟨[.p 15 0,.p 16 0],_,[],Lr 17,[80]⟩ :: ⟨[.p 15 0,.p 17 0],_,[],Lr 18,[81]⟩ :: ⟨[.p 15 0,.p 18 0],_,[],Lr 19,[82]⟩ :: ⟨[.p 10 0,.p 15 0,.p 19 0],_,[],Lr 20,[83]⟩ :: ⟨[.p 10 0,.p 20 0],_,[],Lr 21,[84]⟩ :: []) (F:=[.o 0,.p 21 0]) (hst.pick [0] rfl) hb Za
      (Qf rfl Zc4 u_0<|Ql rfl ty_3 u_0<|o_p rfl (Zl Z5m (Znb _ h16) rfl rfl (.cons u_0 .nil))<|o_p rfl (Zbt rfl rfl u_0 c_i)<|Qm rfl u_0<|o_g (Qg_t rfl (fun hG=>Zi Zgc rfl rfl u_0))<|o_g (Qg_t rfl (fun hG=>Zv ty_9 rfl rfl (Opd.gd hG u_0)))<|o_g (Qg_t rfl (fun hG=>Zfy Tryz.underlying9 rfl rfl (Opd.gd hG u_0)))<|o_g (Qg_t rfl (fun hG=>Zct rfl rfl (Opd.gd hG u_0) c_i))<|o_p rfl (Zbk rfl rfl u_0 (fun hz=>(Opd.gd hz u_1)))<|Qm rfl u_0<|o_g (Qg_f rfl (fun hG=>Zi Zc4 rfl rfl u_0))<|o_g (Qg_f rfl (fun hG=>Zv ty_3 rfl rfl (Opd.gd hG u_0)))<|o_g (Qg_f rfl (fun hG=>Zl Z5m (Znb _ (Zbn h18 hG)) rfl rfl (.cons (Opd.gd hG u_0) .nil)))<|o_g (Qg_f rfl (fun hG=>Zdn rfl rfl (Opd.gd hG u_0) c_i))<|o_g (Qg_f rfl (fun hG=>Z6 rfl rfl (Opd.gd hG u_0)))<|o_g (Qg_ti rfl (fun hG=>Zi Zgc rfl rfl u_0))<|o_g (Qg_ti rfl (fun hG=>Zv ty_9 rfl rfl (Opd.gd hG u_0)))<|o_g (Qg_ti rfl (fun hG=>Zfy Tryz.underlying9 rfl rfl (Opd.gd hG u_0)))<|o_g (Qg_ti rfl (fun hG=>Zct rfl rfl (Opd.gd hG u_0) c_i))<|o_g (Qg_f rfl (fun hG=>Zbk rfl rfl (Opd.gd hG u_0) (fun hz=>(Opd.gd (bA hG hz) u_1))))<|o_p rfl (Zbp rfl rfl u_0 (fun hz=>(Opd.gd (bNF hz) u_1)))<|o_n) (fun a g hst hb=>?_)
     refine wp_cond_split (hst.bool 1 rfl) (fun hc19=>?_) (fun hc19=>?_)
     ·replace H0:=Zu hc19 H0
      refine r_s (L:=[]) (T:=[⟨[],_,[],[],[2]⟩]) (F:=[.p 0 0]) (hst.pick [] rfl) hb Za
       (Qa rfl c_i<|o_n) (fun a g hst hb=>?_)
      refine wp_ret ?_
      refine Zo ?_
      obtain rfl:=Option.some.inj H0
      exact Z4 rfl hst hb (Zg (s:=2)) (hst.at 0 rfl)
     ·replace H0:=Zt hc19 H0
      refine wp_skip ?_
      refine Zp ?_
      refine wp_seq ?_
      refine r_s (L:=[(1,_)]) (T:=⟨[.o 0],_,[],[],[85]⟩ :: ⟨[.p 0 0],_,[],[0],[86]⟩ :: ⟨[.p 1 0],_,[],[0,1],[87]⟩ :: ⟨[.p 2 0],_,[],[0,1,2],[88]⟩ :: ⟨[.p 3 0,.o 0],_,[],Lr 4,[89]⟩ :: ⟨[.p 3 0,.p 4 0],_,[],Lr 5,[90]⟩ :: ⟨[.p 3 0,.p 5 0],_,[],Lr 6,[91]⟩ :: ⟨[.p 3 0,.p 6 0],_,[],Lr 7,[92]⟩ :: ⟨[.p 7 0],_,[],Lr 8,[93]⟩ :: ⟨[.p 8 0,.o 0],_,[],Lr 9,[94]⟩ :: ⟨[.p 8 0,.p 9 0],_,[],Lr 10,[95]⟩ :: ⟨[.p 8 0,.p 10 0],_,[],Lr 11,[96]⟩ :: ⟨[.p 8 0,.p 11 0],_,[],Lr 12,[97]⟩ :: ⟨[.p 12 0,.o 0],_,[],Lr 13,[98]⟩ :: ⟨[.p 12 0,.p 13 0],_,[],Lr 14,[99]⟩ :: ⟨[.p 12 0,.p 14 0],_,[],Lr 15,[100]⟩ :: ⟨[.p 8 0,.p 12 0,.p 15 0],_,[],Lr 16,[101]⟩ :: ⟨[.p 8 0,.p 16 0],_,[],Lr 17,[102]⟩ :: []) (F:=[.o 0,.p 17 0]) (hst.pick [0] rfl) hb Za
       (Qf rfl Zc4 u_0<|Ql rfl ty_3 u_0<|o_p rfl (Zbt rfl rfl u_0 c_i)<|Qm rfl u_0<|o_g (Qg_f rfl (fun hG=>Zi Zc4 rfl rfl u_0))<|o_g (Qg_f rfl (fun hG=>Zv ty_3 rfl rfl (Opd.gd hG u_0)))<|o_g (Qg_f rfl (fun hG=>Zbt rfl rfl (Opd.gd hG u_0) c_i))<|o_p rfl (Zbp rfl rfl u_0 (fun hz=>(Opd.gd (bNF hz) u_1)))<|Qm rfl u_0<|o_g (Qg_t rfl (fun hG=>Zi Zec rfl rfl u_0))<|o_g (Qg_t rfl (fun hG=>Zv ty_2 rfl rfl (Opd.gd hG u_0)))<|o_g (Qg_t rfl (fun hG=>Zca rfl rfl (Opd.gd hG u_0) c_i))<|o_g (Qg_t rfl (fun hG=>Z6 rfl rfl (Opd.gd hG u_0)))<|o_g (Qg_fi rfl (fun hG=>Zi Zec rfl rfl u_0))<|o_g (Qg_fi rfl (fun hG=>Zv ty_2 rfl rfl (Opd.gd hG u_0)))<|o_g (Qg_fi rfl (fun hG=>Zct rfl rfl (Opd.gd hG u_0) c_i))<|o_g (Qg_t rfl (fun hG=>Zbp rfl rfl (Opd.gd hG u_0) (fun hz=>(Opd.gd (bA hG (bNF hz)) u_1))))<|o_p rfl (Zbk rfl rfl u_0 (fun hz=>(Opd.gd hz u_1)))<|o_n) (fun a g hst hb=>?_)
      refine wp_cond_split (hst.bool 1 rfl) (fun hc20=>?_) (fun hc20=>?_)
      ·replace H0:=Zu hc20 H0
       refine r_s (L:=[]) (T:=[⟨[],_,[],[],[2]⟩]) (F:=[.p 0 0]) (hst.pick [] rfl) hb Za
        (Qa rfl c_i<|o_n) (fun a g hst hb=>?_)
       refine wp_ret ?_
       refine Zo ?_
       obtain rfl:=Option.some.inj H0
       exact Z4 rfl hst hb (Zg (s:=2)) (hst.at 0 rfl)
      ·replace H0:=Zt hc20 H0
       refine wp_skip ?_
       refine Zp ?_
       refine wp_seq ?_
       obtain ⟨r21,h22,H0⟩:=Zc H0
       refine r_s (L:=[(1,_)]) (T:=[⟨[.o 0],_,[],[],[103]⟩,⟨[.p 0 0],_,[],[0],[104]⟩,⟨[.p 1 0],_,[],[0,1],[105]⟩,⟨[.p 2 0],_,[],[0,1,2],[106]⟩]) (F:=[.o 0,.p 3 0]) (hst.pick [0] rfl) hb Za
        (Qf rfl Zkc u_0<|Ql rfl Zc6 u_0<|o_p rfl (Zl Z4z (Zlh _ h22) rfl rfl (.cons u_0 .nil))<|Qn rfl u_0<|o_n) (fun a g hst hb=>?_)
       refine wp_cond_split (hst.bool 1 rfl) (fun hc23=>?_) (fun hc23=>?_)
       ·replace H0:=Zu hc23 H0
        refine r_s (L:=[]) (T:=[⟨[],_,[],[],[2]⟩]) (F:=[.p 0 0]) (hst.pick [] rfl) hb Za
         (Qa rfl c_i<|o_n) (fun a g hst hb=>?_)
        refine wp_ret ?_
        refine Zo ?_
        obtain rfl:=Option.some.inj H0
        exact Z4 rfl hst hb (Zg (s:=2)) (hst.at 0 rfl)
       ·replace H0:=Zt hc23 H0
        refine wp_skip ?_
        refine Zp ?_
        refine wp_seq ?_
        refine r_s (L:=[(1,_)]) (T:=[⟨[.o 0],_,[],[],[107]⟩,⟨[.p 0 0],_,[],[0],[108]⟩,⟨[.p 1 0],_,[],[0,1],[109]⟩]) (F:=[.o 0,.p 2 0]) (hst.pick [0] rfl) hb Za
         (Qf rfl Zc4 u_0<|Ql rfl ty_3 u_0<|o_p rfl (Zbt rfl rfl u_0 c_i)<|o_n) (fun a g hst hb=>?_)
        refine wp_cond_split (hst.bool 1 rfl) (fun hc24=>?_) (fun hc24=>?_)
        ·replace H0:=Zu hc24 H0
         obtain ⟨r25,h26,H0⟩:=Zc H0
         refine r_s (L:=[(1,_)]) (T:=[⟨[.o 0],_,[],[],[110]⟩,⟨[.p 0 0],_,[],[0],[111]⟩,⟨[.p 1 0],_,[],[0,1],[112]⟩,⟨[.p 2 0],_,[],[0,1,2],[2]⟩]) (F:=[.p 3 0]) (hst.pick [0] rfl) hb Za
          (Qf rfl Zm2 u_0<|Ql rfl Zbe u_0<|o_p rfl (Zl Z51 (Zls _ h26) rfl rfl (.cons u_0 .nil))<|Qa rfl u_0<|o_n) (fun a g hst hb=>?_)
         refine wp_ret ?_
         refine Zo ?_
         obtain rfl:=Option.some.inj H0
         exact Z4 rfl hst hb (Zg (s:=2)) (hst.at 0 rfl)
        ·replace H0:=Zt hc24 H0
         refine wp_skip ?_
         refine Zp ?_
         refine r_s (L:=[]) (T:=[⟨[],_,[],[],[2]⟩]) (F:=[.p 0 0]) (hst.pick [] rfl) hb Za
          (Qa rfl c_i<|o_n) (fun a g hst hb=>?_)
         refine wp_ret ?_
         obtain rfl:=Option.some.inj H0
         exact Z4 rfl hst hb (Zg (s:=2)) (hst.at 0 rfl)
theorem Zsi (a0:Z9) {r:Int × Int} (h:Zjp a0=some r):FnOk Tryz.prog 22 [(Zbq.pd a0)] (pTup [(pInt .i64 r.1),(pInt .i64 r.2)]):=by
 have H0:=h
 unfold Zjp at H0
 clear h
 refine Zbs (N:=34) Tryz.func22 rfl rfl (Qe rfl) rfl rfl (fun a g0 hst hb=>?_)
 refine r_s (T:=[⟨[.o 0],_,[],[],[1]⟩,⟨[],_,[],[],[2]⟩,⟨[],_,[],[1],[3]⟩]) (F:=[.p 0 0]) hst hb Za
  (Qb rfl u_0<|Qa rfl c_i<|Qa rfl c_i<|o_n) (fun a g hst hb=>?_)
 refine wp_seq ?_
 refine r_s (T:=[⟨[.o 0],_,[],[],[6]⟩,⟨[.p 0 0],_,[],[0],[7]⟩,⟨[.p 1 0],_,[],[0,1],[8]⟩,⟨[.p 2 0],_,[],[0,1,2],[9]⟩,⟨[.p 3 0],_,[],Lr 4,[10]⟩,⟨[.p 4 0,.o 0],_,[],Lr 5,[11]⟩,⟨[.p 4 0,.p 5 0],_,[],Lr 6,[12]⟩,⟨[.p 4 0,.p 6 0],_,[],Lr 7,[13]⟩,⟨[.p 4 0,.p 7 0],_,[],Lr 8,[14]⟩,⟨[.p 4 0,.p 8 0],_,[],Lr 9,[15]⟩]) (F:=[.o 0,.p 9 0]) hst hb Za
  (Qf rfl Zgz u_0<|Ql rfl Zjw u_0<|o_p rfl (Zbx Tryz.underlying23 rfl rfl u_0)<|o_p rfl (Zca rfl rfl u_0 c_i)<|Qm rfl u_0<|o_g (Qg_f rfl (fun hG=>Zi Zgz rfl rfl u_0))<|o_g (Qg_f rfl (fun hG=>Zv Zjw rfl rfl (Opd.gd hG u_0)))<|o_g (Qg_f rfl (fun hG=>Zbx Tryz.underlying23 rfl rfl (Opd.gd hG u_0)))<|o_g (Qg_f rfl (fun hG=>Zct rfl rfl (Opd.gd hG u_0) c_i))<|o_p rfl (Zbp rfl rfl u_0 (fun hz=>(Opd.gd (bNF hz) u_1)))<|o_n) (fun a g hst hb=>?_)
 refine wp_cond_split (hst.bool 1 rfl) (fun hc1=>?_) (fun hc1=>?_)
 ·replace H0:=Zu hc1 H0
  refine r_s (L:=[]) (T:=[⟨[],_,[],[],[2]⟩,⟨[],_,[],[0],[3]⟩]) (F:=[.p 0 0,.p 1 0]) (hst.pick [] rfl) hb Za
   (Qa rfl c_i<|Qa rfl c_i<|o_n) (fun a g hst hb=>?_)
  refine wp_ret ?_
  refine Zo ?_
  obtain rfl:=Option.some.inj H0
  exact Zdw rfl hst hb (Zg (s:=2)) (Zg (s:=3)) (Zcw (hst.at 0 rfl) (hst.at 1 rfl))
 ·replace H0:=Zt hc1 H0
  refine wp_skip ?_
  refine Zp ?_
  refine wp_seq ?_
  refine r_s (L:=[(1,_)]) (T:=[⟨[],_,[],[],[4]⟩]) (F:=[.o 0,.p 0 0]) (hst.pick [0] rfl) hb Za
   (Qa rfl c_i<|o_n) (fun a g hst hb=>?_)
  obtain ⟨z9,hz1,H0⟩:=Zc H0
  refine Zb3 (fun a w=>∃ (g:G),w=g.w ∧ St 34 [] a g ∧ Base g0 g ∧ (.inr ())=z9) ?_ ?_
  ·rintro a w ⟨g,rfl,hst,hb,rfl⟩
   refine Zp ?_
   refine r_s (T:=[⟨[],_,[],[],[2]⟩,⟨[],_,[],[0],[3]⟩]) (F:=[.p 0 0,.p 1 0]) hst hb Za
    (Qa rfl c_i<|Qa rfl c_i<|o_n) (fun a g hst hb=>?_)
   refine wp_ret ?_
   obtain rfl:=Option.some.inj H0
   exact Zdw rfl hst hb (Zg (s:=2)) (Zg (s:=3)) (Zcw (hst.at 0 rfl) (hst.at 1 rfl))
  ·refine wp_block ?_
   refine wp_loop_ghost (fun n a w=>∃ (x2:Int) (g:G),w=g.w ∧ St 34 [(1,(Zbq.ptr a0)),(4,(pInt .i64 x2))] a g ∧ Base g0 g ∧ Zet a0 n x2=some z9) (Int.toNat ((a0.Acts.length:Int) - (0:Int)) + 1) ⟨(0:Int),g,rfl,(hst.pick [0,1] rfl),hb,hz1⟩ (fun n a w hI=>?_)
   obtain ⟨x2,g,rfl,hst,hb,H1⟩:=hI
   cases n with
   | zero=>exact absurd H1 (by simp [Zet])
   | succ n =>
    rw [Zet] at H1
    refine wp_seq ?_
    refine r_s (T:=[⟨[.o 1],_,[],[],[16]⟩,⟨[.o 0],_,[],[],[17]⟩,⟨[.p 1 0],_,[],[1],[18]⟩,⟨[.p 2 0],_,[],[1,2],[19]⟩,⟨[.p 0 0,.p 3 0],_,[],Lr 4,[20]⟩]) (F:=[.o 0,.o 1,.p 4 0]) hst hb Za
     (Qm rfl u_0<|Qf rfl Zgz u_0<|Ql rfl Zjw u_0<|o_p rfl (Zbx Tryz.underlying23 rfl rfl u_0)<|o_p rfl (Zca rfl rfl u_0 u_1)<|o_n) (fun a g hst hb=>?_)
    refine wp_cond_split (hst.bool 2 rfl) (fun hc3=>?_) (fun hc3=>?_)
    ·replace H1:=Zu hc3 H1
     refine wp_skip ?_
     refine Zp ?_
     refine wp_seq ?_
     refine wp_block ?_
     obtain ⟨e4,h5,H1⟩:=Zc H1;obtain ⟨r6,h7,H1⟩:=Zc H1
     refine r_s (L:=[(1,_),(4,_)]) (T:=[⟨[.o 0],_,[],[],[23]⟩,⟨[.p 0 0],_,[],[0],[24]⟩,⟨[.o 1],_,[],[],[25]⟩,⟨[.p 1 0,.p 2 0],_,[],[0,1,2],[26]⟩,⟨[.p 3 0],_,[],Lr 4,[27]⟩,⟨[.p 4 0],_,[],Lr 5,[28]⟩,⟨[.p 5 0],_,[],Lr 6,[5]⟩]) (F:=[.o 0,.o 1,.p 6 0]) (hst.pick [0,1] rfl) hb Za
      (Qf rfl Zgz u_0<|Ql rfl Zjw u_0<|Qm rfl u_0<|o_p rfl (Zbl Tryz.underlying23 Znj rfl rfl u_0 u_1 h5)<|Ql rfl Zgw u_0<|o_p rfl (Zl Z9t (Zn8 _ h7) rfl rfl (.cons u_0 .nil))<|Qa rfl u_0<|o_n) (fun a g hst hb=>?_)
     refine r_s (T:=[⟨[.o 2],_,[],[],[29]⟩,⟨[.p 0 0],_,[],[0],[30]⟩]) (F:=[.o 0,.o 1,.o 2,.p 1 0]) hst hb Za
      (Qm rfl u_0<|o_p rfl (Zdn rfl rfl u_0 c_i)<|o_n) (fun a g hst hb=>?_)
     refine wp_cond_split (hst.bool 3 rfl) (fun hc8=>?_) (fun hc8=>?_)
     ·replace H1:=Zu hc8 H1
      refine r_s (L:=[(4,_),(5,_)]) (T:=[⟨[.o 1],_,[],[],[31]⟩,⟨[.o 0],_,[],[],[32]⟩,⟨[.p 1 0],_,[],[1],[33]⟩,⟨[.p 0 0],_,[],[0],[2]⟩,⟨[.p 2 0],_,[],Lr 4,[3]⟩]) (F:=[.p 3 0,.p 4 0]) (hst.pick [1,2] rfl) hb Za
       (Qm rfl u_0<|Qm rfl u_0<|o_p rfl (Zb0 rfl rfl u_0 c_i rfl)<|Qa rfl u_0<|Qa rfl u_0<|o_n) (fun a g hst hb=>?_)
      refine wp_ret ?_
      refine Z5 ?_
      refine Zo ?_
      refine Zo ?_
      refine Z5 ?_
      refine Zo ?_
      refine Zo ?_
      obtain rfl:=Option.some.inj H1
      obtain rfl:=Option.some.inj H0
      exact Zdw rfl hst hb (Zg (s:=2)) (Zg (s:=3)) (Zcw (hst.at 0 rfl) (hst.at 1 rfl))
     ·replace H1:=Zt hc8 H1
      refine wp_skip ?_
      refine Zbc ?_
      refine Zp ?_
      refine r_g (L:=[(1,_),(4,_)]) (T:=[⟨[.o 1],_,[],[],[21]⟩,⟨[.p 0 0],_,[],[0],[22]⟩,⟨[.p 1 0],_,[],[0,1],[4]⟩]) (F:=[.o 0,.p 2 0]) (hst.pick [0,1] rfl) hb Za
       (Qm rfl u_0<|o_p rfl (Zb0 rfl rfl u_0 c_i rfl)<|Qa rfl u_0<|o_n) (fun a g hst hb=>?_)
      exact ⟨n,Nat.lt_succ_self _,(IntKind.i64.wrap (x2 + (1:Int))),g,rfl,(hst.pick [0,1] rfl),hb,H1⟩
    ·replace H1:=Zt hc3 H1
     refine wp_exit ?_
     refine Zby ?_
     refine Zby ?_
     refine Zcb ?_
     exact ⟨g,rfl,(hst.pick [] rfl),hb,Option.some.inj H1⟩
theorem Zqp (a0:Zf) (a1:ByteArray) {r:Zb × Bool} (h:Zhi a0 a1=some r):FnOk Tryz.prog 65 [(Z7.pd a0),(pStr a1)] (pTup [(Ze.pd r.1),(Zbf r.2)]):=by
 have H0:=h
 unfold Zhi at H0
 clear h
 refine Zbs (N:=32) Tryz.func65 rfl rfl (Qe rfl) rfl rfl (fun a g0 hst hb=>?_)
 refine r_s (T:=[⟨[.o 0],_,[],[],[2]⟩,⟨[],[(4,(pBox Ze 4 (default:Zb)))],[5],[],[4]⟩,⟨[],_,[],[],[5]⟩]) (F:=[.o 1,.p 0 0,.p 1 0]) hst hb Za
  (Qb rfl u_0<|o_p rfl (Zbi (zs:=[.int .i64 0,.int .i64 0,.int .i64 0,.int .i64 0,.float .f64 0,.int .i64 0,.string ByteArray.empty,.slice none 0 0]) (by kernel_rfl) (fun g=>Zb2 g) rfl rfl)<|Qa rfl c_b<|o_n) (fun a g hst hb=>?_)
 obtain ⟨r1,h2,H0⟩:=Zc H0
 refine r_s (T:=[⟨[.o 1],_,[],[],[7]⟩,⟨[.o 0],_,[],[],[8]⟩,⟨[.p 0 0,.p 1 0],_,[],[0,1],[9]⟩,⟨[.p 2 0],_,[],[0,1,2],[6]⟩]) (F:=[.o 0,.o 1,.o 2,.p 3 0]) hst hb Za
  (Ql rfl Zco u_0<|Qm rfl u_0<|o_p rfl (Zl Z5h (Zjv _ _ h2) rfl rfl (.cons u_0 (.cons u_1 .nil)))<|Qa rfl u_0<|o_n) (fun a g hst hb=>?_)
 refine wp_seq ?_
 obtain ⟨e3,h4,H0⟩:=Zc H0
 refine r_s (T:=⟨[.o 3],_,[],[],[10]⟩ :: ⟨[.o 1],_,[],[],[11]⟩ :: ⟨[.p 1 0],_,[],[1],[12]⟩ :: ⟨[.p 2 0],_,[],[1,2],[13]⟩ :: ⟨[.p 0 0,.p 3 0],_,[],Lr 4,[14]⟩ :: ⟨[.p 4 0],_,[],Lr 5,[15]⟩ :: ⟨[.p 5 0,.o 1],_,[],Lr 6,[16]⟩ :: ⟨[.p 5 0,.p 6 0],_,[],Lr 7,[17]⟩ :: ⟨[.p 5 0,.o 3],_,[],Lr 6,[18]⟩ :: ⟨[.p 5 0,.p 7 0,.p 8 0],_,[],Lr 9,[19]⟩ :: ⟨[.p 5 0,.p 9 0],_,[],Lr 10,[20]⟩ :: ⟨[.p 5 0,.p 10 0],_,[],Lr 11,[21]⟩ :: ⟨[.p 5 0,.o 0],_,[],Lr 6,[22]⟩ :: ⟨[.p 5 0,.p 11 0,.p 12 0],_,[],Lr 13,[23]⟩ :: ⟨[.p 5 0,.p 13 0],_,[],Lr 14,[24]⟩ :: []) (F:=[.o 1,.o 2,.o 3,.p 14 0]) hst hb Za
  (Qm rfl u_0<|Qf rfl Zhq u_0<|Ql rfl Zkz u_0<|o_p rfl (Zbx Tryz.underlying22 rfl rfl u_0)<|o_p rfl (Zca rfl rfl u_0 u_1)<|Qm rfl u_0<|o_g (Qg_t rfl (fun hG=>Zi Zhq rfl rfl u_0))<|o_g (Qg_t rfl (fun hG=>Zv Zkz rfl rfl (Opd.gd hG u_0)))<|o_g (Qg_t rfl (fun hG=>Z6 rfl rfl u_0))<|o_g (Qg_t rfl (fun hG=>Zbl Tryz.underlying22 Zoa rfl rfl (Opd.gd hG u_0) (Opd.gd hG u_1) (Zbn h4 hG)))<|o_g (Qg_t rfl (fun hG=>Zi Znz rfl rfl (Opd.gd hG u_0)))<|o_g (Qg_t rfl (fun hG=>Zv ty_9 rfl rfl (Opd.gd hG u_0)))<|o_g (Qg_t rfl (fun hG=>Z6 rfl rfl u_0))<|o_g (Qg_t rfl (fun hG=>Zlf rfl rfl (Opd.gd hG u_0) (Opd.gd hG u_1)))<|o_p rfl (Zbk rfl rfl u_0 (fun hz=>(Opd.gd hz u_1)))<|o_n) (fun a g hst hb=>?_)
 refine wp_cond_split (hst.bool 3 rfl) (fun hc5=>?_) (fun hc5=>?_)
 ·replace H0:=Zu hc5 H0
  obtain ⟨e6,h7,H0⟩:=Zc H0
  refine r_s (L:=[(2,_),(4,_),(6,_)]) (T:=[⟨[.o 0],_,[],[],[25]⟩,⟨[.p 0 0],_,[],[0],[26]⟩,⟨[.o 2],_,[],[],[27]⟩,⟨[.p 1 0,.p 2 0],_,[],[0,1,2],[28]⟩,⟨[.p 3 0],_,[],Lr 4,[29]⟩,⟨[.p 4 0],_,[],Lr 5,[30]⟩,⟨[.p 5 0,.o 1],_,[5],Lr 6,[4]⟩,⟨[],_,[],Lr 7,[5]⟩]) (F:=[.p 6 0,.p 7 0]) (hst.pick [0,1,2] rfl) hb Za
   (Qf rfl Zhq u_0<|Ql rfl Zkz u_0<|Qm rfl u_0<|o_p rfl (Zbl Tryz.underlying22 Zoa rfl rfl u_0 u_1 h7)<|Qf rfl Zr6 u_0<|Ql rfl Zbe u_0<|o_p rfl (Z3 Zbe rfl rfl u_1 u_0)<|Qa rfl c_b<|o_n) (fun a g hst hb=>?_)
  refine wp_ret ?_
  refine Zo ?_
  obtain rfl:=Option.some.inj H0
  obtain ⟨u0,hu0,hq0⟩:=Zbh (P:=Tryz.prog) Zbe (hst.at 0 rfl)
  exact Zdw rfl hst hb hu0 (Zg (s:=5)) (Zcw hq0 (hst.at 1 rfl))
 ·replace H0:=Zt hc5 H0
  refine wp_skip ?_
  refine Zp ?_
  refine r_s (L:=[(4,_)]) (T:=[⟨[],_,[],[],[31]⟩,⟨[.p 0 0,.o 0],_,[5],[0],[4]⟩,⟨[],_,[],[0,1],[5]⟩]) (F:=[.p 1 0,.p 2 0]) (hst.pick [1] rfl) hb Za
   (o_p rfl (Zob rfl rfl )<|o_p rfl (Z3 Zbe rfl rfl u_1 u_0)<|Qa rfl c_b<|o_n) (fun a g hst hb=>?_)
  refine wp_ret ?_
  obtain rfl:=Option.some.inj H0
  obtain ⟨u0,hu0,hq0⟩:=Zbh (P:=Tryz.prog) Zbe (hst.at 0 rfl)
  exact Zdw rfl hst hb hu0 (Zg (s:=5)) (Zcw hq0 (hst.at 1 rfl))
theorem Zi7 (a0:Zb) {r:Zb} (h:Zfm a0=some r):FnOk Tryz.prog 90 [(Ze.pd a0)] (Ze.pd r):=by
 have H0:=h
 unfold Zfm at H0
 clear h
 refine Zbs (N:=9) Tryz.func90 rfl rfl (Qe rfl) rfl rfl (fun a g0 hst hb=>?_)
 refine r_s (T:=[⟨[.o 0],_,[2],[],[1]⟩,⟨[],[(2,(pBox Ze 2 (default:Zb)))],[3],[],[2]⟩]) (F:=[.p 0 0,.p 1 0]) hst hb Za
  (o_p rfl (Zkb rfl rfl u_0)<|o_p rfl (Zbi (zs:=[.int .i64 0,.int .i64 0,.int .i64 0,.int .i64 0,.float .f64 0,.int .i64 0,.string ByteArray.empty,.slice none 0 0]) (by kernel_rfl) (fun g=>Zb2 g) rfl rfl)<|o_n) (fun a g hst hb=>?_)
 obtain ⟨h1,H0⟩:=Zfv H0
 refine r_s (T:=[⟨[],_,[4],[],[3]⟩,⟨[.o 0],_,[],[],[4]⟩,⟨[.p 1 0],_,[],[1],[5]⟩,⟨[.p 0 0,.p 2 0],_,[4],[0,1,2],[3,6]⟩,⟨[.o 0],_,[],Lr 4,[7]⟩,⟨[.p 3 0,.p 4 0,.o 0],_,[2],Lr 5,[1,4,7]⟩]) (F:=[.p 5 0,.o 1]) hst hb Za
  (o_p rfl (Zkx 3 Zdr (xs:=[]) .nil (by decide) rfl rfl)<|o_p rfl (Zr Zci (off:=7) (by kernel_rfl) rfl rfl u_0)<|QP rfl Zdb u_0<|o_p rfl (Zfq Zdr rfl rfl u_0 u_1 h1)<|o_p rfl (Zr Zci (off:=7) (by kernel_rfl) rfl rfl u_0)<|o_p rfl (Znv Zdb rfl rfl u_2 u_1 (Opd.imp u_0 (fun _ _ h=>Zgd h)))<|o_n) (fun a g hst hb=>?_)
 refine r_s (T:=[⟨[.o 0],_,[],[],[8]⟩,⟨[.p 0 0,.o 1],_,[3],[0],[2]⟩]) (F:=[.p 1 0]) hst hb Za
  (QM rfl Zbe u_0<|o_p rfl (Z3 Zbe rfl rfl u_1 u_0)<|o_n) (fun a g hst hb=>?_)
 refine wp_ret ?_
 obtain rfl:=Option.some.inj H0
 obtain ⟨u0,hu0,hq0⟩:=Zbh (P:=Tryz.prog) Zbe (hst.at 0 rfl)
 exact Z4 rfl hst hb hu0 hq0
theorem Zte (a0:Int) (a1:Int) {r:Bool} (h:Zhd a0 a1=some r):FnOk Tryz.prog 106 [(pInt .i64 a0),(pInt .i64 a1)] (Zbf r):=by
 have H0:=h
 unfold Zhd at H0
 clear h
 refine Zbs (N:=31) Tryz.func106 rfl rfl (Qe rfl) rfl rfl (fun a g0 hst hb=>?_)
 refine r_s (T:=[⟨[],_,[],[],[4]⟩]) (F:=[.o 0,.o 1]) hst hb Za
  (Qa rfl c_b<|o_n) (fun a g hst hb=>?_)
 refine r_s (T:=[⟨[.o 0],_,[],[],[6]⟩,⟨[.o 1],_,[],[],[7]⟩,⟨[.p 0 0,.p 1 0],_,[],[0,1],[8]⟩,⟨[.p 2 0],_,[],[0,1,2],[5]⟩]) (F:=[.o 0,.o 1,.p 3 0]) hst hb Za
  (Qm rfl u_0<|Qm rfl u_0<|o_p rfl (Zb0 rfl rfl u_0 u_1 rfl)<|Qa rfl u_0<|o_n) (fun a g hst hb=>?_)
 refine r_s (T:=⟨[.o 0],_,[],[],[9]⟩ :: ⟨[.p 0 0],_,[],[0],[10]⟩ :: ⟨[.p 1 0],_,[],[0,1],[11]⟩ :: ⟨[.p 2 0,.o 1],_,[],[0,1,2],[12]⟩ :: ⟨[.p 2 0,.p 3 0],_,[],Lr 4,[13]⟩ :: ⟨[.p 2 0,.p 4 0],_,[],Lr 5,[14]⟩ :: ⟨[.p 5 0],_,[],Lr 6,[15]⟩ :: ⟨[.p 6 0,.o 2],_,[],Lr 7,[16]⟩ :: ⟨[.p 6 0,.p 7 0],_,[],Lr 8,[17]⟩ :: ⟨[.p 6 0,.p 8 0],_,[],Lr 9,[18]⟩ :: ⟨[.p 9 0],_,[],Lr 10,[19]⟩ :: ⟨[.p 10 0,.o 0],_,[],Lr 11,[20]⟩ :: ⟨[.p 10 0,.p 11 0],_,[],Lr 12,[21]⟩ :: ⟨[.p 10 0,.p 12 0],_,[],Lr 13,[22]⟩ :: ⟨[.p 13 0,.o 1],_,[],Lr 14,[23]⟩ :: ⟨[.p 13 0,.p 14 0],_,[],Lr 15,[24]⟩ :: ⟨[.p 10 0,.p 13 0,.p 15 0],_,[],Lr 16,[25]⟩ :: ⟨[.p 10 0,.p 16 0],_,[],Lr 17,[26]⟩ :: ⟨[.p 17 0,.o 2],_,[],Lr 18,[27]⟩ :: ⟨[.p 17 0,.p 18 0],_,[],Lr 19,[28]⟩ :: ⟨[.p 10 0,.p 17 0,.p 19 0],_,[],Lr 20,[29]⟩ :: ⟨[.p 10 0,.p 20 0],_,[],Lr 21,[30]⟩ :: ⟨[.p 21 0],_,[],Lr 22,[4]⟩ :: []) (F:=[.p 22 0]) hst hb Za
  (Qm rfl u_0<|o_p rfl (Zct rfl rfl u_0 c_i)<|Qm rfl u_0<|o_g (Qg_t rfl (fun hG=>Z6 rfl rfl u_0))<|o_g (Qg_t rfl (fun hG=>Zct rfl rfl (Opd.gd hG u_0) c_i))<|o_p rfl (Zbk rfl rfl u_0 (fun hz=>(Opd.gd hz u_1)))<|Qm rfl u_0<|o_g (Qg_t rfl (fun hG=>Z6 rfl rfl u_0))<|o_g (Qg_t rfl (fun hG=>Zca rfl rfl (Opd.gd hG u_0) c_i))<|o_p rfl (Zbk rfl rfl u_0 (fun hz=>(Opd.gd hz u_1)))<|Qm rfl u_0<|o_g (Qg_f rfl (fun hG=>Z6 rfl rfl u_0))<|o_g (Qg_f rfl (fun hG=>Zca rfl rfl (Opd.gd hG u_0) c_i))<|o_g (Qg_f rfl (fun hG=>Z6 rfl rfl (Opd.gd hG u_0)))<|o_g (Qg_ti rfl (fun hG=>Z6 rfl rfl u_0))<|o_g (Qg_ti rfl (fun hG=>Zca rfl rfl (Opd.gd hG u_0) c_i))<|o_g (Qg_f rfl (fun hG=>Zbk rfl rfl (Opd.gd hG u_0) (fun hz=>(Opd.gd (bA hG hz) u_1))))<|o_g (Qg_f rfl (fun hG=>Z6 rfl rfl (Opd.gd hG u_0)))<|o_g (Qg_ti rfl (fun hG=>Z6 rfl rfl u_0))<|o_g (Qg_ti rfl (fun hG=>Zmx rfl rfl (Opd.gd hG u_0) c_i))<|o_g (Qg_f rfl (fun hG=>Zbk rfl rfl (Opd.gd hG u_0) (fun hz=>(Opd.gd (bA hG hz) u_1))))<|o_p rfl (Zbp rfl rfl u_0 (fun hz=>(Opd.gd (bNF hz) u_1)))<|Qa rfl u_0<|o_n) (fun a g hst hb=>?_)
 refine wp_ret ?_
 obtain rfl:=Option.some.inj H0
 exact Z4 rfl hst hb (Zg (s:=4)) (hst.at 0 rfl)
theorem Zub (a0:Nat) (a1:Nat) {r:Nat} (h:Zh3 a0 a1=some r):FnOk Tryz.prog 107 [(pFlt a0),(pFlt a1)] (pFlt r):=by
 have H0:=h
 unfold Zh3 at H0
 clear h
 refine Zbs (N:=10) Tryz.func107 rfl rfl (Qe rfl) rfl rfl (fun a g0 hst hb=>?_)
 refine r_s (T:=[⟨[],_,[],[],[4]⟩]) (F:=[.o 0,.o 1]) hst hb Za
  (Qa rfl c_f<|o_n) (fun a g hst hb=>?_)
 refine wp_seq ?_
 obtain ⟨r1,h2,H0⟩:=Zc H0
 refine r_s (T:=[⟨[.o 0],_,[],[],[5]⟩,⟨[.o 1],_,[],[],[6]⟩,⟨[.p 0 0,.p 1 0],_,[],[0,1],[7]⟩]) (F:=[.o 0,.o 1,.p 2 0]) hst hb Za
  (Qm rfl u_0<|Qm rfl u_0<|o_p rfl (Zl Zxd (Zih _ _ h2) rfl rfl (.cons u_0 (.cons u_1 .nil)))<|o_n) (fun a g hst hb=>?_)
 refine wp_cond_split (hst.bool 2 rfl) (fun hc3=>?_) (fun hc3=>?_)
 ·replace H0:=Zu hc3 H0
  refine r_s (L:=[(1,_)]) (T:=[⟨[.o 0],_,[],[],[8]⟩,⟨[.p 0 0],_,[],[0],[4]⟩]) (F:=[.p 1 0]) (hst.pick [1] rfl) hb Za
   (Qm rfl u_0<|Qa rfl u_0<|o_n) (fun a g hst hb=>?_)
  refine wp_ret ?_
  refine Zo ?_
  obtain rfl:=Option.some.inj H0
  exact Z4 rfl hst hb (Zg (s:=4)) (hst.at 0 rfl)
 ·replace H0:=Zt hc3 H0
  refine wp_skip ?_
  refine Zp ?_
  refine r_s (L:=[(0,_)]) (T:=[⟨[.o 0],_,[],[],[9]⟩,⟨[.p 0 0],_,[],[0],[4]⟩]) (F:=[.p 1 0]) (hst.pick [0] rfl) hb Za
   (Qm rfl u_0<|Qa rfl u_0<|o_n) (fun a g hst hb=>?_)
  refine wp_ret ?_
  obtain rfl:=Option.some.inj H0
  exact Z4 rfl hst hb (Zg (s:=4)) (hst.at 0 rfl)
theorem Zue (a0:Nat) (a1:Nat) {r:Nat} (h:Zh0 a0 a1=some r):FnOk Tryz.prog 108 [(pFlt a0),(pFlt a1)] (pFlt r):=by
 have H0:=h
 unfold Zh0 at H0
 clear h
 refine Zbs (N:=10) Tryz.func108 rfl rfl (Qe rfl) rfl rfl (fun a g0 hst hb=>?_)
 refine r_s (T:=[⟨[],_,[],[],[4]⟩]) (F:=[.o 0,.o 1]) hst hb Za
  (Qa rfl c_f<|o_n) (fun a g hst hb=>?_)
 refine wp_seq ?_
 obtain ⟨r1,h2,H0⟩:=Zc H0
 refine r_s (T:=[⟨[.o 1],_,[],[],[5]⟩,⟨[.o 0],_,[],[],[6]⟩,⟨[.p 0 0,.p 1 0],_,[],[0,1],[7]⟩]) (F:=[.o 0,.o 1,.p 2 0]) hst hb Za
  (Qm rfl u_0<|Qm rfl u_0<|o_p rfl (Zl Zxd (Zih _ _ h2) rfl rfl (.cons u_0 (.cons u_1 .nil)))<|o_n) (fun a g hst hb=>?_)
 refine wp_cond_split (hst.bool 2 rfl) (fun hc3=>?_) (fun hc3=>?_)
 ·replace H0:=Zu hc3 H0
  refine r_s (L:=[(1,_)]) (T:=[⟨[.o 0],_,[],[],[8]⟩,⟨[.p 0 0],_,[],[0],[4]⟩]) (F:=[.p 1 0]) (hst.pick [1] rfl) hb Za
   (Qm rfl u_0<|Qa rfl u_0<|o_n) (fun a g hst hb=>?_)
  refine wp_ret ?_
  refine Zo ?_
  obtain rfl:=Option.some.inj H0
  exact Z4 rfl hst hb (Zg (s:=4)) (hst.at 0 rfl)
 ·replace H0:=Zt hc3 H0
  refine wp_skip ?_
  refine Zp ?_
  refine r_s (L:=[(0,_)]) (T:=[⟨[.o 0],_,[],[],[9]⟩,⟨[.p 0 0],_,[],[0],[4]⟩]) (F:=[.p 1 0]) (hst.pick [0] rfl) hb Za
   (Qm rfl u_0<|Qa rfl u_0<|o_n) (fun a g hst hb=>?_)
  refine wp_ret ?_
  obtain rfl:=Option.some.inj H0
  exact Z4 rfl hst hb (Zg (s:=4)) (hst.at 0 rfl)
theorem Znx (a0:Int) {r:Nat} (h:Zfo a0=some r):FnOk Tryz.prog 109 [(pInt .u64 a0)] (pFlt r):=by
 have H0:=h
 unfold Zfo at H0
 clear h
 refine Zbs (N:=18) Tryz.func109 rfl rfl (Qe rfl) rfl rfl (fun a g0 hst hb=>?_)
 refine r_s (T:=[⟨[],_,[],[],[2]⟩]) (F:=[.o 0]) hst hb Za
  (Qa rfl c_f<|o_n) (fun a g hst hb=>?_)
 refine r_s (T:=[⟨[],_,[],[],[3]⟩]) (F:=[.o 0,.p 0 0]) hst hb Za
  (Qa rfl c_i<|o_n) (fun a g hst hb=>?_)
 refine wp_seq ?_
 refine r_s (T:=[⟨[.o 0],_,[],[],[4]⟩,⟨[.o 1],_,[],[],[5]⟩,⟨[.p 0 0,.p 1 0],_,[],[0,1],[6]⟩]) (F:=[.o 0,.o 1,.p 2 0]) hst hb Za
  (Qm rfl u_0<|Qm rfl u_0<|o_p rfl (Zmx rfl rfl u_0 u_1)<|o_n) (fun a g hst hb=>?_)
 refine wp_cond_split (hst.bool 2 rfl) (fun hc1=>?_) (fun hc1=>?_)
 ·replace H0:=Zu hc1 H0
  refine r_s (L:=[(0,_),(3,_)]) (T:=[⟨[.o 0],_,[],[],[7]⟩,⟨[.o 1],_,[],[],[8]⟩,⟨[.p 0 0,.p 1 0],_,[],[0,1],[9]⟩,⟨[.p 2 0],_,[],[0,1,2],[10]⟩,⟨[.p 3 0],_,[],Lr 4,[2]⟩]) (F:=[.p 4 0]) (hst.pick [0,1] rfl) hb Za
   (Qm rfl u_0<|Qm rfl u_0<|o_p rfl (Zh1 rfl rfl u_0 u_1 rfl)<|o_p rfl (Zrm Z1s rfl rfl u_0)<|Qa rfl u_0<|o_n) (fun a g hst hb=>?_)
  refine wp_ret ?_
  refine Zo ?_
  obtain rfl:=Option.some.inj H0
  exact Z4 rfl hst hb (Zg (s:=2)) (hst.at 0 rfl)
 ·replace H0:=Zt hc1 H0
  refine wp_skip ?_
  refine Zp ?_
  refine r_s (L:=[(0,_),(3,_)]) (T:=[⟨[.o 1],_,[],[],[11]⟩,⟨[.o 1],_,[],[],[12]⟩,⟨[.p 1 0],_,[],[1],[13]⟩,⟨[.o 0],_,[],[],[14]⟩,⟨[.p 2 0,.p 3 0],_,[],[1,2,3],[15]⟩,⟨[.p 0 0,.p 4 0],_,[],Lr 5,[16]⟩,⟨[.p 5 0],_,[],Lr 6,[17]⟩,⟨[.p 6 0],_,[],Lr 7,[2]⟩]) (F:=[.p 7 0]) (hst.pick [0,1] rfl) hb Za
   (Qm rfl u_0<|Qm rfl u_0<|o_p rfl (Zh1 rfl rfl u_0 c_i rfl)<|Qm rfl u_0<|o_p rfl (Zh1 rfl rfl u_0 u_1 rfl)<|o_p rfl (Zb0 rfl rfl u_0 u_1 rfl)<|o_p rfl (Zrm Z1s rfl rfl u_0)<|Qa rfl u_0<|o_n) (fun a g hst hb=>?_)
  refine wp_ret ?_
  obtain rfl:=Option.some.inj H0
  exact Z4 rfl hst hb (Zg (s:=2)) (hst.at 0 rfl)
theorem Zoc (a0:Nat) {r:Int} (h:Zf0 a0=some r):FnOk Tryz.prog 110 [(pFlt a0)] (pInt .u64 r):=by
 have H0:=h
 unfold Zf0 at H0
 clear h
 refine Zbs (N:=23) Tryz.func110 rfl rfl (Qe rfl) rfl rfl (fun a g0 hst hb=>?_)
 refine r_s (T:=[⟨[],_,[],[],[2]⟩]) (F:=[.o 0]) hst hb Za
  (Qa rfl c_i<|o_n) (fun a g hst hb=>?_)
 refine r_s (T:=[⟨[],_,[],[],[3]⟩]) (F:=[.o 0,.p 0 0]) hst hb Za
  (Qa rfl c_i<|o_n) (fun a g hst hb=>?_)
 refine wp_seq ?_
 obtain ⟨r1,h2,H0⟩:=Zc H0
 refine r_s (T:=[⟨[.o 0],_,[],[],[5]⟩,⟨[.p 0 0],_,[],[0],[6]⟩]) (F:=[.o 0,.o 1,.p 1 0]) hst hb Za
  (Qm rfl u_0<|o_p rfl (Zl Z0z (Zj9 _ h2) rfl rfl (.cons u_0 .nil))<|o_n) (fun a g hst hb=>?_)
 refine wp_cond_split (hst.bool 2 rfl) (fun hc3=>?_) (fun hc3=>?_)
 ·replace H0:=Zu hc3 H0
  refine r_s (L:=[(3,_)]) (T:=[⟨[.o 0],_,[],[],[7]⟩,⟨[.p 0 0],_,[],[0],[8]⟩,⟨[.p 1 0],_,[],[0,1],[2]⟩]) (F:=[.p 2 0]) (hst.pick [1] rfl) hb Za
   (Qm rfl u_0<|o_p rfl (Zb0 rfl rfl u_0 c_i rfl)<|Qa rfl u_0<|o_n) (fun a g hst hb=>?_)
  refine wp_ret ?_
  refine Zo ?_
  obtain rfl:=Option.some.inj H0
  exact Z4 rfl hst hb (Zg (s:=2)) (hst.at 0 rfl)
 ·replace H0:=Zt hc3 H0
  refine wp_skip ?_
  refine Zp ?_
  refine r_s (L:=[(0,_),(3,_)]) (T:=[⟨[.o 0],_,[],[],[9]⟩,⟨[.p 0 0],_,[],[0],[10]⟩,⟨[.p 1 0],_,[],[0,1],[4]⟩]) (F:=[.o 1,.p 2 0]) (hst.pick [0,1] rfl) hb Za
   (Qm rfl u_0<|o_p rfl (Zru Zxz rfl rfl u_0)<|Qa rfl u_0<|o_n) (fun a g hst hb=>?_)
  refine wp_seq ?_
  refine r_s (T:=[⟨[.o 1],_,[],[],[11]⟩,⟨[.o 0],_,[],[],[12]⟩,⟨[.p 0 0,.p 1 0],_,[],[0,1],[13]⟩]) (F:=[.o 0,.o 1,.p 2 0]) hst hb Za
   (Qm rfl u_0<|Qm rfl u_0<|o_p rfl (Zmx rfl rfl u_0 u_1)<|o_n) (fun a g hst hb=>?_)
  refine wp_cond_split (hst.bool 2 rfl) (fun hc4=>?_) (fun hc4=>?_)
  ·replace H0:=Zu hc4 H0
   refine r_s (L:=[(3,_),(4,_)]) (T:=[⟨[.o 0],_,[],[],[14]⟩,⟨[.p 0 0],_,[],[0],[15]⟩,⟨[.o 1],_,[],[],[16]⟩,⟨[.o 0],_,[],[],[17]⟩,⟨[.p 2 0,.p 3 0],_,[],[2,3],[18]⟩,⟨[.p 1 0,.p 4 0],_,[],Lr 5,[19]⟩,⟨[.p 5 0],_,[],Lr 6,[2]⟩]) (F:=[.p 6 0]) (hst.pick [0,1] rfl) hb Za
    (Qm rfl u_0<|o_p rfl (Zh1 rfl rfl u_0 c_i rfl)<|Qm rfl u_0<|Qm rfl u_0<|o_p rfl (Zh1 rfl rfl u_0 u_1 rfl)<|o_p rfl (Zh1 rfl rfl u_0 u_1 rfl)<|Qa rfl u_0<|o_n) (fun a g hst hb=>?_)
   refine wp_ret ?_
   refine Zo ?_
   obtain rfl:=Option.some.inj H0
   exact Z4 rfl hst hb (Zg (s:=2)) (hst.at 0 rfl)
  ·replace H0:=Zt hc4 H0
   refine wp_skip ?_
   refine Zp ?_
   refine r_s (L:=[(3,_),(4,_)]) (T:=[⟨[.o 0],_,[],[],[20]⟩,⟨[.o 1],_,[],[],[21]⟩,⟨[.p 0 0,.p 1 0],_,[],[0,1],[22]⟩,⟨[.p 2 0],_,[],[0,1,2],[2]⟩]) (F:=[.p 3 0]) (hst.pick [0,1] rfl) hb Za
    (Qm rfl u_0<|Qm rfl u_0<|o_p rfl (Zb0 rfl rfl u_0 u_1 rfl)<|Qa rfl u_0<|o_n) (fun a g hst hb=>?_)
   refine wp_ret ?_
   obtain rfl:=Option.some.inj H0
   exact Z4 rfl hst hb (Zg (s:=2)) (hst.at 0 rfl)
theorem Zpb (a0:List Zh) (a1:ByteArray) {r:Bool} (h:Zf7 a0 a1=some r):FnOk Tryz.prog 111 [(Z2.sl.pd a0),(pStr a1)] (Zbf r):=by
 have H0:=h
 unfold Zf7 at H0
 clear h
 refine Zbs (N:=19) Tryz.func111 rfl rfl (Qe rfl) rfl rfl (fun a g0 hst hb=>?_)
 refine r_s (T:=[⟨[],_,[],[],[4]⟩]) (F:=[.o 0,.o 1]) hst hb Za
  (Qa rfl c_b<|o_n) (fun a g hst hb=>?_)
 refine wp_seq ?_
 refine r_s (T:=[⟨[],_,[],[],[5]⟩]) (F:=[.o 0,.o 1,.p 0 0]) hst hb Za
  (Qa rfl c_i<|o_n) (fun a g hst hb=>?_)
 obtain ⟨z6,hz1,H0⟩:=Zc H0
 refine Zb3 (fun a w=>∃ (g:G),w=g.w ∧ St 19 [] a g ∧ Base g0 g ∧ (.inr ())=z6) ?_ ?_
 ·rintro a w ⟨g,rfl,hst,hb,rfl⟩
  refine Zp ?_
  refine r_s (T:=[⟨[],_,[],[],[4]⟩]) (F:=[.p 0 0]) hst hb Za
   (Qa rfl c_b<|o_n) (fun a g hst hb=>?_)
  refine wp_ret ?_
  obtain rfl:=Option.some.inj H0
  exact Z4 rfl hst hb (Zg (s:=4)) (hst.at 0 rfl)
 ·refine wp_block ?_
  refine wp_loop_ghost (fun n a w=>∃ (x1:Int) (g:G),w=g.w ∧ St 19 [(0,(Z2.sl.pd a0)),(1,(pStr a1)),(5,(pInt .i64 x1))] a g ∧ Base g0 g ∧ Zfp a0 a1 n x1=some z6) (Int.toNat ((a0.length:Int) - (0:Int)) + 1) ⟨(0:Int),g,rfl,(hst.pick [0,1,2] rfl),hb,hz1⟩ (fun n a w hI=>?_)
  obtain ⟨x1,g,rfl,hst,hb,H1⟩:=hI
  cases n with
  | zero=>exact absurd H1 (by simp [Zfp])
  | succ n =>
   rw [Zfp] at H1
   refine wp_seq ?_
   refine r_s (T:=[⟨[.o 2],_,[],[],[6]⟩,⟨[.o 0],_,[],[],[7]⟩,⟨[.p 1 0],_,[],[1],[8]⟩,⟨[.p 0 0,.p 2 0],_,[],[0,1,2],[9]⟩]) (F:=[.o 0,.o 1,.o 2,.p 3 0]) hst hb Za
    (Qm rfl u_0<|Qm rfl u_0<|o_p rfl (Zbx Tryz.underlying36 rfl rfl u_0)<|o_p rfl (Zca rfl rfl u_0 u_1)<|o_n) (fun a g hst hb=>?_)
   refine wp_cond_split (hst.bool 3 rfl) (fun hc2=>?_) (fun hc2=>?_)
   ·replace H1:=Zu hc2 H1
    refine wp_skip ?_
    refine Zp ?_
    refine wp_seq ?_
    refine wp_block ?_
    obtain ⟨e3,h4,H1⟩:=Zc H1
    refine r_s (L:=[(0,_),(1,_),(5,_)]) (T:=[⟨[.o 0],_,[],[],[12]⟩,⟨[.o 2],_,[],[],[13]⟩,⟨[.p 0 0,.p 1 0],_,[],[0,1],[14]⟩,⟨[.p 2 0],_,[],[0,1,2],[15]⟩,⟨[.p 3 0],_,[],Lr 4,[16]⟩,⟨[.o 1],_,[],[],[17]⟩,⟨[.p 4 0,.p 5 0],_,[],Lr 6,[18]⟩]) (F:=[.o 0,.o 1,.o 2,.p 6 0]) (hst.pick [0,1,2] rfl) hb Za
     (Qm rfl u_0<|Qm rfl u_0<|o_p rfl (Zbl Tryz.underlying36 Zfe rfl rfl u_0 u_1 h4)<|Qf rfl Zd6 u_0<|Ql rfl ty_9 u_0<|Qm rfl u_0<|o_p rfl (Zlf rfl rfl u_0 u_1)<|o_n) (fun a g hst hb=>?_)
    refine wp_cond_split (hst.bool 3 rfl) (fun hc5=>?_) (fun hc5=>?_)
    ·replace H1:=Zu hc5 H1
     refine r_s (L:=[]) (T:=[⟨[],_,[],[],[4]⟩]) (F:=[.p 0 0]) (hst.pick [] rfl) hb Za
      (Qa rfl c_b<|o_n) (fun a g hst hb=>?_)
     refine wp_ret ?_
     refine Z5 ?_
     refine Zo ?_
     refine Zo ?_
     refine Z5 ?_
     refine Zo ?_
     refine Zo ?_
     obtain rfl:=Option.some.inj H1
     obtain rfl:=Option.some.inj H0
     exact Z4 rfl hst hb (Zg (s:=4)) (hst.at 0 rfl)
    ·replace H1:=Zt hc5 H1
     refine wp_skip ?_
     refine Zbc ?_
     refine Zp ?_
     refine r_g (L:=[(0,_),(1,_),(5,_)]) (T:=[⟨[.o 2],_,[],[],[10]⟩,⟨[.p 0 0],_,[],[0],[11]⟩,⟨[.p 1 0],_,[],[0,1],[5]⟩]) (F:=[.o 0,.o 1,.p 2 0]) (hst.pick [0,1,2] rfl) hb Za
      (Qm rfl u_0<|o_p rfl (Zb0 rfl rfl u_0 c_i rfl)<|Qa rfl u_0<|o_n) (fun a g hst hb=>?_)
     exact ⟨n,Nat.lt_succ_self _,(IntKind.i64.wrap (x1 + (1:Int))),g,rfl,(hst.pick [0,1,2] rfl),hb,H1⟩
   ·replace H1:=Zt hc2 H1
    refine wp_exit ?_
    refine Zby ?_
    refine Zby ?_
    refine Zcb ?_
    exact ⟨g,rfl,(hst.pick [] rfl),hb,Option.some.inj H1⟩
theorem Zoi (a0:List Zh) (a1:Zh) (a2:Bool) {r:List Zh} (h:Zey a0 a1 a2=some r):FnOk Tryz.prog 112 [(Z2.sl.pd a0),(Z2.pd a1),(Zbf a2)] (Z2.sl.pd r):=by
 have H0:=h
 unfold Zey at H0
 clear h
 refine Zbs (N:=89) Tryz.func112 rfl rfl (Qe rfl) rfl rfl (fun a g0 hst hb=>?_)
 refine r_s (T:=[⟨[.o 1],_,[],[],[4]⟩,⟨[],[(6,(Z2.sl.pd ([]:List Zh)))],[],[],[6]⟩]) (F:=[.o 0,.o 2,.p 0 0]) hst hb Za
  (Qb rfl u_0<|o_p rfl (Zcu rfl rfl (Opd.c (fun g=>Zf4 g)))<|o_n) (fun a g hst hb=>?_)
 refine r_s (T:=[⟨[],_,[13],[],[12]⟩,⟨[.p 0 0],_,[],[0],[7]⟩,⟨[],_,[],[0,1],[8]⟩]) (F:=[.o 0,.o 1,.o 2,.p 1 0,.p 2 0]) hst hb Za
  (o_p rfl (Zkx 12 Zdr (xs:=[]) .nil (by decide) rfl rfl)<|Qa rfl u_0<|Qa rfl c_b<|o_n) (fun a g hst hb=>?_)
 refine wp_seq ?_
 refine r_s (T:=[⟨[],_,[],[],[9]⟩]) (F:=[.o 0,.o 1,.o 2,.o 3,.o 4,.p 0 0]) hst hb Za
  (Qa rfl c_i<|o_n) (fun a g hst hb=>?_)
 obtain ⟨z27,hz1,H0⟩:=Zc H0
 refine Zb3 (fun a w=>∃ (y25:List Zh) (y26:Bool) (g:G),w=g.w ∧ St 89 [(4,(Z2.ptr a1)),(7,(pRow Z2 116 12 y25)),(8,(Zbf y26))] a g ∧ Base g0 g ∧ (y25,y26)=z27) ?_ ?_
 ·rintro a w ⟨y25,y26,g,rfl,hst,hb,rfl⟩
  refine Zp ?_
  refine wp_seq ?_
  refine r_s (T:=[⟨[.o 2],_,[],[],[82]⟩,⟨[.p 0 0],_,[],[0],[83]⟩]) (F:=[.o 0,.o 1,.p 1 0]) hst hb Za
   (Qm rfl u_0<|Qn rfl u_0<|o_n) (fun a g hst hb=>?_)
  refine Zb3 (fun a w=>∃ (j30:List Zh) (g:G),w=g.w ∧ St 89 [(7,(pRow Z2 116 12 j30))] a g ∧ Base g0 g ∧ Zgx j30=some r) ?_ ?_
  ·rintro a w ⟨j30,g,rfl,hst,hb,H0⟩
   unfold Zgx at H0
   refine Zp ?_
   refine r_s (T:=[⟨[.o 0],_,[],[],[88]⟩,⟨[.p 0 0],_,[],[0],[6]⟩]) (F:=[.p 1 0]) hst hb Za
    (Qm rfl u_0<|Qa rfl u_0<|o_n) (fun a g hst hb=>?_)
   refine wp_ret ?_
   obtain rfl:=Option.some.inj H0
   exact Z4 rfl hst hb (Zg (s:=6)) (Zgd (hst.at 0 rfl))
  ·refine wp_cond_split (hst.bool 2 rfl) (fun hc28=>?_) (fun hc28=>?_)
   ·replace H0:=Zu hc28 H0
    obtain ⟨h29,H0⟩:=Zfv H0
    refine r_g (L:=[(4,_),(7,_)]) (T:=[⟨[.o 1],_,[],[],[84]⟩,⟨[.o 0],_,[],[],[85]⟩,⟨[.p 1 0],_,[],[1],[86]⟩,⟨[.p 0 0,.p 2 0],_,[13],[0,1,2],[7,84,87]⟩,⟨[.p 3 0],_,[],Lr 4,[7]⟩]) (F:=[.p 4 0]) (hst.pick [0,1] rfl) hb Za
     (Qm rfl u_0<|Ql rfl Zeb u_0<|o_p rfl (Zig Zdr (xs:=[.tmp 85]) (.cons u_0 .nil) (by decide) rfl rfl)<|o_p rfl (Zfq Zdr rfl rfl u_0 u_1 h29)<|Qa rfl u_0<|o_n) (fun a g hst hb=>?_)
    exact ⟨(y25 ++ ([a1]:List Zh)),g,rfl,(hst.pick [0] rfl),hb,H0⟩
   ·replace H0:=Zt hc28 H0
    refine wp_skip ?_
    exact ⟨y25,g,rfl,(hst.pick [1] rfl),hb,H0⟩
 ·refine wp_block ?_
  refine wp_loop_ghost (fun n a w=>∃ (x1:List Zh) (x2:Bool) (x3:Int) (g:G),w=g.w ∧ St 89 [(0,(Z2.sl.pd a0)),(2,(Zbf a2)),(4,(Z2.ptr a1)),(7,(pRow Z2 116 12 x1)),(8,(Zbf x2)),(9,(pInt .i64 x3))] a g ∧ Base g0 g ∧ Zcr a0 a1 a2 n x1 x2 x3=some z27) (Int.toNat ((a0.length:Int) - (0:Int)) + 1) ⟨([]:List Zh),false,(0:Int),g,rfl,(hst.pick [0,1,2,3,4,5] rfl),hb,hz1⟩ (fun n a w hI=>?_)
  obtain ⟨x1,x2,x3,g,rfl,hst,hb,H1⟩:=hI
  cases n with
  | zero=>exact absurd H1 (by simp [Zcr])
  | succ n =>
   rw [Zcr] at H1
   refine wp_seq ?_
   refine r_s (T:=[⟨[.o 5],_,[],[],[13]⟩,⟨[.o 0],_,[],[],[14]⟩,⟨[.p 1 0],_,[],[1],[15]⟩,⟨[.p 0 0,.p 2 0],_,[],[0,1,2],[16]⟩]) (F:=[.o 0,.o 1,.o 2,.o 3,.o 4,.o 5,.p 3 0]) hst hb Za
    (Qm rfl u_0<|Qm rfl u_0<|o_p rfl (Zbx Tryz.underlying36 rfl rfl u_0)<|o_p rfl (Zca rfl rfl u_0 u_1)<|o_n) (fun a g hst hb=>?_)
   refine wp_cond_split (hst.bool 6 rfl) (fun hc4=>?_) (fun hc4=>?_)
   ·replace H1:=Zu hc4 H1
    refine wp_skip ?_
    refine Zp ?_
    refine wp_seq ?_
    refine wp_block ?_
    obtain ⟨e5,h6,H1⟩:=Zc H1;obtain ⟨r7,h8,H1⟩:=Zc H1;obtain ⟨e9,h10,H1⟩:=Zc H1
    refine r_s (L:=[(0,_),(2,_),(4,_),(7,_),(8,_),(9,_)]) (T:=⟨[.o 1],_,[],[],[19]⟩ :: ⟨[.p 0 0],_,[],[0],[20]⟩ :: ⟨[.p 1 0],_,[],[0,1],[21]⟩ :: ⟨[.p 2 0,.o 0],_,[],[0,1,2],[22]⟩ :: ⟨[.p 2 0,.o 5],_,[],[0,1,2],[23]⟩ :: ⟨[.p 2 0,.p 3 0,.p 4 0],_,[],Lr 5,[24]⟩ :: ⟨[.p 2 0,.p 5 0],_,[],Lr 6,[25]⟩ :: ⟨[.p 2 0,.o 2],_,[],[0,1,2],[26]⟩ :: ⟨[.p 2 0,.p 6 0,.p 7 0],_,[],Lr 8,[27]⟩ :: ⟨[.p 2 0,.p 8 0],_,[],Lr 9,[28]⟩ :: ⟨[.p 9 0],_,[],Lr 10,[29]⟩ :: ⟨[.p 10 0,.o 1],_,[],Lr 11,[30]⟩ :: ⟨[.p 10 0,.p 11 0],_,[],Lr 12,[31]⟩ :: ⟨[.p 12 0,.o 0],_,[],Lr 13,[32]⟩ :: ⟨[.p 12 0,.o 5],_,[],Lr 13,[33]⟩ :: ⟨[.p 12 0,.p 13 0,.p 14 0],_,[],Lr 15,[34]⟩ :: ⟨[.p 12 0,.p 15 0],_,[],Lr 16,[35]⟩ :: ⟨[.p 12 0,.p 16 0],_,[],Lr 17,[36]⟩ :: ⟨[.p 12 0,.o 2],_,[],Lr 13,[37]⟩ :: ⟨[.p 12 0,.p 18 0],_,[],0 :: 1 :: 2 :: 3 :: 4 :: 5 :: 6 :: 7 :: 8 :: 9 :: 10 :: 11 :: 12 :: 18 :: [],[38]⟩ :: ⟨[.p 12 0,.p 17 0,.p 19 0],_,[],Lr 20,[39]⟩ :: ⟨[.p 10 0,.p 12 0,.p 20 0],_,[],Lr 21,[40]⟩ :: ⟨[.p 10 0,.p 21 0],_,[],Lr 22,[41]⟩ :: ⟨[.p 22 0],_,[],Lr 23,[10]⟩ :: []) (F:=[.o 0,.o 1,.o 2,.o 3,.o 4,.o 5,.p 23 0]) (hst.pick [0,1,2,3,4,5] rfl) hb Za
     (Qm rfl u_0<|Qn rfl u_0<|Qm rfl u_0<|o_g (Qg_t rfl (fun hG=>Z6 rfl rfl u_0))<|o_g (Qg_t rfl (fun hG=>Z6 rfl rfl u_0))<|o_g (Qg_t rfl (fun hG=>Zbl Tryz.underlying36 Zfe rfl rfl (Opd.gd hG u_0) (Opd.gd hG u_1) (Zbn h6 hG)))<|o_g (Qg_t rfl (fun hG=>Zv Zeb rfl rfl (Opd.gd hG u_0)))<|o_g (Qg_t rfl (fun hG=>Zv Zeb rfl rfl u_0))<|o_g (Qg_t rfl (fun hG=>Zl Z7z (Zn4 _ _ (Zbn h8 hG)) rfl rfl (.cons (Opd.gd hG u_0) (.cons (Opd.gd hG u_1) .nil))))<|o_p rfl (Zbk rfl rfl u_0 (fun hz=>(Opd.gd hz u_1)))<|Qm rfl u_0<|o_g (Qg_f rfl (fun hG=>Z6 rfl rfl u_0))<|o_g (Qg_f rfl (fun hG=>Z6 rfl rfl (Opd.gd hG u_0)))<|o_g (Qg_ti rfl (fun hG=>Z6 rfl rfl u_0))<|o_g (Qg_ti rfl (fun hG=>Z6 rfl rfl u_0))<|o_g (Qg_ti rfl (fun hG=>Zbl Tryz.underlying36 Zfe rfl rfl (Opd.gd hG u_0) (Opd.gd hG u_1) (Zbn h10 hG)))<|o_g (Qg_ti rfl (fun hG=>Zi Zd6 rfl rfl (Opd.gd hG u_0)))<|o_g (Qg_ti rfl (fun hG=>Zv ty_9 rfl rfl (Opd.gd hG u_0)))<|o_g (Qg_ti rfl (fun hG=>Zi Zd6 rfl rfl u_0))<|o_g (Qg_ti rfl (fun hG=>Zv ty_9 rfl rfl (Opd.gd hG u_0)))<|o_g (Qg_ti rfl (fun hG=>Zn7 rfl rfl (Opd.gd hG u_0) (Opd.gd hG u_1)))<|o_g (Qg_f rfl (fun hG=>Zbk rfl rfl (Opd.gd hG u_0) (fun hz=>(Opd.gd (bA hG hz) u_1))))<|o_p rfl (Zbp rfl rfl u_0 (fun hz=>(Opd.gd (bNF hz) u_1)))<|Qa rfl u_0<|o_n) (fun a g hst hb=>?_)
    obtain ⟨e11,h12,H1⟩:=Zc H1;obtain ⟨e13,h14,H1⟩:=Zc H1;obtain ⟨r15,h16,H1⟩:=Zc H1
    refine r_s (T:=⟨[.o 0],_,[],[],[42]⟩ :: ⟨[.o 5],_,[],[],[43]⟩ :: ⟨[.p 0 0,.p 1 0],_,[],[0,1],[44]⟩ :: ⟨[.p 2 0],_,[],[0,1,2],[45]⟩ :: ⟨[.p 3 0],_,[],Lr 4,[46]⟩ :: ⟨[.o 2],_,[],[],[47]⟩ :: ⟨[.p 5 0],_,[],[5],[48]⟩ :: ⟨[.p 4 0,.p 6 0],_,[],Lr 7,[49]⟩ :: ⟨[.p 7 0],_,[],Lr 8,[50]⟩ :: ⟨[.p 8 0,.o 1],_,[],Lr 9,[51]⟩ :: ⟨[.p 8 0,.p 9 0],_,[],Lr 10,[52]⟩ :: ⟨[.p 10 0,.o 0],_,[],Lr 11,[53]⟩ :: ⟨[.p 10 0,.o 5],_,[],Lr 11,[54]⟩ :: ⟨[.p 10 0,.p 11 0,.p 12 0],_,[],Lr 13,[55]⟩ :: ⟨[.p 10 0,.p 13 0],_,[],Lr 14,[56]⟩ :: ⟨[.p 10 0,.p 14 0],_,[],Lr 15,[57]⟩ :: ⟨[.p 10 0,.o 2],_,[],Lr 11,[58]⟩ :: ⟨[.p 10 0,.p 16 0],_,[],0 :: 1 :: 2 :: 3 :: 4 :: 5 :: 6 :: 7 :: 8 :: 9 :: 10 :: 16 :: [],[59]⟩ :: ⟨[.p 10 0,.p 15 0,.p 17 0],_,[],Lr 18,[60]⟩ :: ⟨[.p 8 0,.p 10 0,.p 18 0],_,[],Lr 19,[61]⟩ :: ⟨[.p 8 0,.p 19 0],_,[],Lr 20,[62]⟩ :: ⟨[.p 20 0],_,[],Lr 21,[11]⟩ :: []) (F:=[.o 0,.o 1,.o 2,.o 3,.o 4,.o 5,.o 6,.p 21 0]) hst hb Za
     (Qm rfl u_0<|Qm rfl u_0<|o_p rfl (Zbl Tryz.underlying36 Zfe rfl rfl u_0 u_1 h12)<|Qf rfl Zd6 u_0<|Ql rfl ty_9 u_0<|Qf rfl Zd6 u_0<|Ql rfl ty_9 u_0<|o_p rfl (Zlf rfl rfl u_0 u_1)<|Qm rfl u_0<|o_g (Qg_t rfl (fun hG=>Z6 rfl rfl u_0))<|o_g (Qg_t rfl (fun hG=>Z6 rfl rfl (Opd.gd hG u_0)))<|o_g (Qg_fi rfl (fun hG=>Z6 rfl rfl u_0))<|o_g (Qg_fi rfl (fun hG=>Z6 rfl rfl u_0))<|o_g (Qg_fi rfl (fun hG=>Zbl Tryz.underlying36 Zfe rfl rfl (Opd.gd hG u_0) (Opd.gd hG u_1) (Zbn h14 hG)))<|o_g (Qg_fi rfl (fun hG=>Zi Zf3 rfl rfl (Opd.gd hG u_0)))<|o_g (Qg_fi rfl (fun hG=>Zv Zc6 rfl rfl (Opd.gd hG u_0)))<|o_g (Qg_fi rfl (fun hG=>Zi Zf3 rfl rfl u_0))<|o_g (Qg_fi rfl (fun hG=>Zv Zc6 rfl rfl (Opd.gd hG u_0)))<|o_g (Qg_fi rfl (fun hG=>Zl Zvc (Zg0 _ _ (Zbn h16 hG)) rfl rfl (.cons (Opd.gd hG u_0) (.cons (Opd.gd hG u_1) .nil))))<|o_g (Qg_t rfl (fun hG=>Zbp rfl rfl (Opd.gd hG u_0) (fun hz=>(Opd.gd (bA hG (bNF hz)) u_1))))<|o_p rfl (Zbk rfl rfl u_0 (fun hz=>(Opd.gd hz u_1)))<|Qa rfl u_0<|o_n) (fun a g hst hb=>?_)
    refine wp_seq ?_
    refine r_s (T:=[⟨[.o 4],_,[],[],[63]⟩,⟨[.p 0 0],_,[],[0],[64]⟩,⟨[.p 1 0],_,[],[0,1],[65]⟩,⟨[.p 2 0,.o 6],_,[],[0,1,2],[66]⟩,⟨[.p 2 0,.p 3 0],_,[],Lr 4,[67]⟩,⟨[.p 2 0,.p 4 0],_,[],Lr 5,[68]⟩]) (F:=[.o 0,.o 1,.o 2,.o 3,.o 4,.o 5,.o 7,.p 5 0]) hst hb Za
     (Qm rfl u_0<|Qn rfl u_0<|Qm rfl u_0<|o_g (Qg_t rfl (fun hG=>Z6 rfl rfl u_0))<|o_g (Qg_t rfl (fun hG=>Ze1 rfl rfl (Opd.gd hG u_0)))<|o_p rfl (Zbk rfl rfl u_0 (fun hz=>(Opd.gd hz u_1)))<|o_n) (fun a g hst hb=>?_)
    refine Zb3 (fun a w=>∃ (j20:List Zh) (j21:Bool) (g:G),w=g.w ∧ St 89 [(0,(Z2.sl.pd a0)),(2,(Zbf a2)),(4,(Z2.ptr a1)),(7,(pRow Z2 116 12 j20)),(8,(Zbf j21)),(9,(pInt .i64 x3))] a g ∧ Base g0 g ∧ Zd7 a0 x3 (Zcr a0 a1 a2 n) j20 j21=some z27) ?_ ?_
    ·rintro a w ⟨j20,j21,g,rfl,hst,hb,H1⟩
     unfold Zd7 at H1
     refine Zp ?_
     obtain ⟨e22,h23,H1⟩:=Zc H1;obtain ⟨h24,H1⟩:=Zfv H1
     refine r_g (T:=[⟨[.o 3],_,[],[],[75]⟩,⟨[.o 0],_,[],[],[76]⟩,⟨[.o 5],_,[],[],[77]⟩,⟨[.p 1 0,.p 2 0],_,[],[1,2],[78]⟩,⟨[.p 3 0],_,[],[1,2,3],[79]⟩,⟨[.p 4 0],_,[],List.range' 1 4,[80]⟩,⟨[.p 0 0,.p 5 0],_,[13],Lr 6,[7,75,81]⟩,⟨[.p 6 0],_,[],Lr 7,[7]⟩]) (F:=[.o 0,.o 1,.o 2,.p 7 0,.o 4,.o 5]) hst hb Za
      (Qm rfl u_0<|Qm rfl u_0<|Qm rfl u_0<|o_p rfl (Zbl Tryz.underlying36 Zfe rfl rfl u_0 u_1 h23)<|Ql rfl Zeb u_0<|o_p rfl (Zig Zdr (xs:=[.tmp 79]) (.cons u_0 .nil) (by decide) rfl rfl)<|o_p rfl (Zfq Zdr rfl rfl u_0 u_1 h24)<|Qa rfl u_0<|o_n) (fun a g hst hb=>?_)
     refine Zbc ?_
     refine Zp ?_
     refine r_g (T:=[⟨[.o 5],_,[],[],[17]⟩,⟨[.p 0 0],_,[],[0],[18]⟩,⟨[.p 1 0],_,[],[0,1],[9]⟩]) (F:=[.o 0,.o 1,.o 2,.o 3,.o 4,.p 2 0]) hst hb Za
      (Qm rfl u_0<|o_p rfl (Zb0 rfl rfl u_0 c_i rfl)<|Qa rfl u_0<|o_n) (fun a g hst hb=>?_)
     exact ⟨n,Nat.lt_succ_self _,(j20 ++ ([e22]:List Zh)),j21,(IntKind.i64.wrap (x3 + (1:Int))),g,rfl,(hst.pick [0,1,2,3,4,5] rfl),hb,H1⟩
    ·refine wp_cond_split (hst.bool 7 rfl) (fun hc17=>?_) (fun hc17=>?_)
     ·replace H1:=Zu hc17 H1
      refine r_s (L:=[(0,_),(2,_),(4,_),(7,_),(9,_),(11,_)]) (T:=[⟨[],_,[],[],[8]⟩]) (F:=[.o 0,.o 1,.o 2,.o 3,.p 0 0,.o 4,.o 5]) (hst.pick [0,1,2,3,5,6] rfl) hb Za
       (Qa rfl c_b<|o_n) (fun a g hst hb=>?_)
      refine r_s (T:=[⟨[.o 6],_,[],[],[69]⟩,⟨[.p 0 0],_,[],[0],[70]⟩]) (F:=[.o 0,.o 1,.o 2,.o 3,.o 4,.o 5,.p 1 0]) hst hb Za
       (Qm rfl u_0<|Qn rfl u_0<|o_n) (fun a g hst hb=>?_)
      refine wp_cond_split (hst.bool 6 rfl) (fun hc18=>?_) (fun hc18=>?_)
      ·replace H1:=Zu hc18 H1
       obtain ⟨h19,H1⟩:=Zfv H1
       refine r_g (L:=[(0,_),(2,_),(4,_),(7,_),(8,_),(9,_)]) (T:=[⟨[.o 3],_,[],[],[71]⟩,⟨[.o 2],_,[],[],[72]⟩,⟨[.p 1 0],_,[],[1],[73]⟩,⟨[.p 0 0,.p 2 0],_,[13],[0,1,2],[7,71,74]⟩,⟨[.p 3 0],_,[],Lr 4,[7]⟩]) (F:=[.o 0,.o 1,.o 2,.p 4 0,.o 4,.o 5]) (hst.pick [0,1,2,3,4,5] rfl) hb Za
        (Qm rfl u_0<|Ql rfl Zeb u_0<|o_p rfl (Zig Zdr (xs:=[.tmp 72]) (.cons u_0 .nil) (by decide) rfl rfl)<|o_p rfl (Zfq Zdr rfl rfl u_0 u_1 h19)<|Qa rfl u_0<|o_n) (fun a g hst hb=>?_)
       exact ⟨(x1 ++ ([a1]:List Zh)),true,g,rfl,(hst.pick [0,1,2,3,4,5] rfl),hb,H1⟩
      ·replace H1:=Zt hc18 H1
       refine wp_skip ?_
       exact ⟨x1,true,g,rfl,(hst.pick [0,1,2,3,4,5] rfl),hb,H1⟩
     ·replace H1:=Zt hc17 H1
      refine wp_skip ?_
      exact ⟨x1,x2,g,rfl,(hst.pick [0,1,2,3,4,5] rfl),hb,H1⟩
   ·replace H1:=Zt hc4 H1
    refine wp_exit ?_
    refine Zby ?_
    refine Zby ?_
    refine Zcb ?_
    exact ⟨x1,x2,g,rfl,(hst.pick [2,3,4] rfl),hb,Option.some.inj H1⟩
theorem Zvt (a0:Zb) (a1:Zn) {r:Zb × Zd} (h:Zbj a0 a1=some r):FnOk Tryz.prog 91 [(Ze.pd a0),(Z0.pd a1)] (pTup [(Ze.pd r.1),(Zj.pd r.2)]):=by
 have H0:=h
 unfold Zbj at H0
 clear h
 refine Zbs (N:=217) Tryz.func91 rfl rfl (Qe rfl) rfl rfl (fun a g0 hst hb=>?_)
 refine r_s (T:=[⟨[.o 0],_,[3],[],[2]⟩,⟨[.o 1],_,[],[],[3]⟩,⟨[],[(4,(pBox Ze 4 (default:Zb)))],[5],[],[4]⟩,⟨[],[(5,(pBox Zj 5 (default:Zd)))],[6],[],[5]⟩]) (F:=[.p 0 0,.p 1 0,.p 2 0,.p 3 0]) hst hb Za
  (o_p rfl (Zkb rfl rfl u_0)<|Qb rfl u_0<|o_p rfl (Zbi (zs:=[.int .i64 0,.int .i64 0,.int .i64 0,.int .i64 0,.float .f64 0,.int .i64 0,.string ByteArray.empty,.slice none 0 0]) (by kernel_rfl) (fun g=>Zb2 g) rfl rfl)<|o_p rfl (Zbi (zs:=[.int .i64 0,.int .i64 0,.int .i64 0,.int .i64 0,.int .i64 0,.int .i64 0,.float .f64 0,.int .i64 0,.string ByteArray.empty,.slice none 0 0]) (by kernel_rfl) (fun g=>Zed g) rfl rfl)<|o_n) (fun a g hst hb=>?_)
 refine r_s (T:=[⟨[],_,[],[],[10]⟩,⟨[],[(6,(pBox Zj 6 (default:Zd)))],[7],[],[6]⟩,⟨[.p 0 0,.p 1 0],_,[7],[0,1],[6]⟩]) (F:=[.o 0,.o 1,.o 2,.o 3,.p 2 0]) hst hb Za
  (o_p rfl (Zrx rfl rfl )<|o_p rfl (Zbi (zs:=[.int .i64 0,.int .i64 0,.int .i64 0,.int .i64 0,.int .i64 0,.int .i64 0,.float .f64 0,.int .i64 0,.string ByteArray.empty,.slice none 0 0]) (by kernel_rfl) (fun g=>Zed g) rfl rfl)<|o_p rfl (Z3 Zb8 rfl rfl u_1 u_0)<|o_n) (fun a g hst hb=>?_)
 refine wp_seq ?_
 refine r_s (T:=[⟨[.o 1],_,[],[],[11]⟩,⟨[.p 0 0],_,[],[0],[12]⟩]) (F:=[.o 0,.o 1,.o 2,.o 3,.o 4,.p 1 0]) hst hb Za
  (Qf rfl Zc4 u_0<|Ql rfl ty_3 u_0<|o_n) (fun a g hst hb=>?_)
 refine Zb3 (fun a w=>∃ (j65:Zb) (j66:Zd) (g:G),w=g.w ∧ St 217 [(2,(pBox Ze 2 j65)),(4,(pBox Ze 4 (default:Zb))),(5,(pBox Zj 5 (default:Zd))),(6,(pBox Zj 6 j66))] a g ∧ Base g0 g ∧ Z1 j65 j66=some r) ?_ ?_
 ·rintro a w ⟨j65,j66,g,rfl,hst,hb,H0⟩
  unfold Z1 at H0
  refine Zp ?_
  refine r_s (T:=[⟨[.o 0],_,[],[],[215]⟩,⟨[.o 3],_,[],[],[216]⟩,⟨[.p 0 0,.o 1],_,[5],[0],[4]⟩,⟨[.p 1 0,.o 2],_,[6],[0,1,2],[5]⟩]) (F:=[.p 2 0,.p 3 0]) hst hb Za
   (QM rfl Zbe u_0<|QM rfl Zb8 u_0<|o_p rfl (Z3 Zbe rfl rfl u_1 u_0)<|o_p rfl (Z3 Zb8 rfl rfl u_1 u_0)<|o_n) (fun a g hst hb=>?_)
  refine wp_ret ?_
  obtain rfl:=Option.some.inj H0
  obtain ⟨u0,hu0,hq0⟩:=Zbh (P:=Tryz.prog) Zbe (hst.at 0 rfl)
  obtain ⟨u1,hu1,hq1⟩:=Zbh (P:=Tryz.prog) Zb8 (hst.at 1 rfl)
  exact Zdw rfl hst hb hu0 hu1 (Zcw hq0 hq1)
 ·refine wp_block ?_
  refine r_s (T:=[⟨[.o 5],_,[],[],[14]⟩,⟨[.p 0 0],_,[],[0],[13]⟩]) (F:=[.o 0,.o 1,.o 2,.o 3,.o 4,.o 5,.p 1 0]) hst hb Za
   (o_p rfl (Zbt rfl rfl u_0 c_i)<|Qa rfl u_0<|o_n) (fun a g hst hb=>?_)
  refine wp_cond_split (hst.bool 6 rfl) (fun hc1=>?_) (fun hc1=>?_)
  ·replace H0:=Zu hc1 H0
   refine r_g (L:=[(2,_),(3,_),(4,_),(5,_),(6,_)]) (T:=[⟨[.o 1],_,[],[],[15]⟩,⟨[.p 0 0],_,[],[0],[16]⟩,⟨[.o 0],_,[],[0,1],[17]⟩,⟨[.p 1 0,.p 2 0,.o 0],_,[3],[0,1,2],[2,17]⟩]) (F:=[.p 3 0,.o 2,.o 3,.o 4]) (hst.pick [0,1,2,3,4] rfl) hb Za
    (Qf rfl Zgc u_0<|Ql rfl ty_9 u_0<|o_p rfl (Zr Zj2 (off:=6) (by kernel_rfl) rfl rfl u_0)<|o_p rfl (Zuw ty_9 rfl rfl u_2 u_1 u_0)<|o_n) (fun a g hst hb=>?_)
   refine Zbc ?_
   exact ⟨({ a0 with Text:=a1.S }),({ Code:=(0:Int),Num:=(0:Int),Rec:=(default:Zb) }:Zd),g,rfl,(hst.pick [0,1,2,3] rfl),hb,H0⟩
  ·replace H0:=Zt hc1 H0
   refine r_s (L:=[(2,_),(3,_),(4,_),(5,_),(6,_),(12,_)]) (T:=[⟨[.o 5],_,[],[],[19]⟩,⟨[.p 0 0],_,[],[0],[18]⟩]) (F:=[.o 0,.o 1,.o 2,.o 3,.o 4,.o 5,.p 1 0]) (hst.pick [0,1,2,3,4,5] rfl) hb Za
    (o_p rfl (Zbt rfl rfl u_0 c_i)<|Qa rfl u_0<|o_n) (fun a g hst hb=>?_)
   refine wp_cond_split (hst.bool 6 rfl) (fun hc2=>?_) (fun hc2=>?_)
   ·replace H0:=Zu hc2 H0
    obtain ⟨r3,h4,H0⟩:=Zc H0
    refine r_s (L:=[(2,_),(3,_),(4,_),(5,_),(6,_)]) (T:=[⟨[.o 0],_,[],[],[20]⟩,⟨[.p 0 0],_,[],[0],[21]⟩,⟨[.o 4],_,[],[0,1],[22]⟩,⟨[.p 1 0,.p 2 0,.o 4],_,[7],[0,1,2],[6,22]⟩]) (F:=[.o 0,.o 1,.o 2,.o 3,.p 3 0]) (hst.pick [0,1,2,3,4] rfl) hb Za
     (QM rfl Zbe u_0<|o_p rfl (Zl Z0n (Zi7 _ h4) rfl rfl (.cons u_0 .nil))<|o_p rfl (Zr Zp8 (off:=2) (by kernel_rfl) rfl rfl u_0)<|o_p rfl (Z38 Zbe rfl rfl u_2 u_1 u_0)<|o_n) (fun a g hst hb=>?_)
    refine r_g (T:=[⟨[.o 1],_,[],[],[23]⟩,⟨[.p 0 0],_,[],[0],[24]⟩,⟨[.o 0],_,[],[0,1],[25]⟩,⟨[.p 1 0,.p 2 0,.o 0],_,[3],[0,1,2],[2,25]⟩]) (F:=[.p 3 0,.o 2,.o 3,.o 4]) hst hb Za
     (Qf rfl Zgc u_0<|Ql rfl ty_9 u_0<|o_p rfl (Zr Zj2 (off:=6) (by kernel_rfl) rfl rfl u_0)<|o_p rfl (Zuw ty_9 rfl rfl u_2 u_1 u_0)<|o_n) (fun a g hst hb=>?_)
    refine Zbc ?_
    exact ⟨({ a0 with Text:=a1.S }),({ ({ Code:=(0:Int),Num:=(0:Int),Rec:=(default:Zb) }:Zd) with Rec:=r3 }),g,rfl,(hst.pick [0,1,2,3] rfl),hb,H0⟩
   ·replace H0:=Zt hc2 H0
    refine r_s (L:=[(2,_),(3,_),(4,_),(5,_),(6,_),(12,_)]) (T:=[⟨[.o 5],_,[],[],[27]⟩,⟨[.p 0 0],_,[],[0],[26]⟩]) (F:=[.o 0,.o 1,.o 2,.o 3,.o 4,.o 5,.p 1 0]) (hst.pick [0,1,2,3,4,5] rfl) hb Za
     (o_p rfl (Zbt rfl rfl u_0 c_i)<|Qa rfl u_0<|o_n) (fun a g hst hb=>?_)
    refine wp_cond_split (hst.bool 6 rfl) (fun hc5=>?_) (fun hc5=>?_)
    ·replace H0:=Zu hc5 H0
     refine r_g (L:=[(2,_),(3,_),(4,_),(5,_),(6,_)]) (T:=[⟨[.o 0],_,[],[],[28]⟩,⟨[.p 0 0],_,[],[0],[29]⟩,⟨[.o 1],_,[],[],[30]⟩,⟨[.p 2 0],_,[],[2],[31]⟩,⟨[.p 1 0,.p 3 0],_,[],Lr 4,[32]⟩,⟨[.o 0],_,[],Lr 5,[33]⟩,⟨[.p 4 0,.p 5 0,.o 0],_,[3],Lr 6,[2,28,33]⟩]) (F:=[.p 6 0,.o 2,.o 3,.o 4]) (hst.pick [0,1,2,3,4] rfl) hb Za
      (o_p rfl (Zr Zc3 (off:=1) (by kernel_rfl) rfl rfl u_0)<|QP rfl ty_2 u_0<|Qf rfl Zec u_0<|Ql rfl ty_2 u_0<|o_p rfl (Zb0 rfl rfl u_0 u_1 rfl)<|o_p rfl (Zr Zc3 (off:=1) (by kernel_rfl) rfl rfl u_0)<|o_p rfl (Znw ty_2 rfl rfl u_2 u_1 u_0)<|o_n) (fun a g hst hb=>?_)
     refine Zbc ?_
     exact ⟨({ a0 with Num:=(IntKind.i64.wrap (a0.Num + a1.N)) }),({ Code:=(0:Int),Num:=(0:Int),Rec:=(default:Zb) }:Zd),g,rfl,(hst.pick [0,1,2,3] rfl),hb,H0⟩
    ·replace H0:=Zt hc5 H0
     refine r_s (L:=[(2,_),(3,_),(4,_),(5,_),(6,_),(12,_)]) (T:=[⟨[.o 5],_,[],[],[35]⟩,⟨[.p 0 0],_,[],[0],[34]⟩]) (F:=[.o 0,.o 1,.o 2,.o 3,.o 4,.o 5,.p 1 0]) (hst.pick [0,1,2,3,4,5] rfl) hb Za
      (o_p rfl (Zbt rfl rfl u_0 c_i)<|Qa rfl u_0<|o_n) (fun a g hst hb=>?_)
     refine wp_cond_split (hst.bool 6 rfl) (fun hc6=>?_) (fun hc6=>?_)
     ·replace H0:=Zu hc6 H0
      obtain ⟨r7,h8,H0⟩:=Zc H0
      refine r_s (L:=[(2,_),(3,_),(4,_),(5,_),(6,_)]) (T:=[⟨[.o 0],_,[],[],[36]⟩,⟨[.p 0 0],_,[],[0],[37]⟩,⟨[.o 1],_,[],[],[38]⟩,⟨[.p 2 0],_,[],[2],[39]⟩,⟨[.p 1 0,.p 3 0],_,[],Lr 4,[40]⟩]) (F:=[.o 0,.o 1,.o 2,.o 3,.o 4,.p 4 0]) (hst.pick [0,1,2,3,4] rfl) hb Za
       (o_p rfl (Zr Zc3 (off:=1) (by kernel_rfl) rfl rfl u_0)<|QP rfl ty_2 u_0<|Qf rfl Zec u_0<|Ql rfl ty_2 u_0<|o_p rfl (Zl Zbcl (Zte _ _ h8) rfl rfl (.cons u_0 (.cons u_1 .nil)))<|o_n) (fun a g hst hb=>?_)
      refine wp_cond_split (hst.bool 5 rfl) (fun hc9=>?_) (fun hc9=>?_)
      ·replace H0:=Zu hc9 H0
       refine r_g (L:=[(2,_),(4,_),(5,_),(6,_)]) (T:=[⟨[.o 3],_,[],[],[41]⟩,⟨[.p 0 0,.o 3],_,[7],[0],[6,41]⟩]) (F:=[.o 0,.o 1,.o 2,.p 1 0]) (hst.pick [0,2,3,4] rfl) hb Za
        (o_p rfl (Zr Zi6 (off:=0) (by kernel_rfl) rfl rfl u_0)<|o_p rfl (Zqc Zkm rfl rfl u_1 u_0 c_i)<|o_n) (fun a g hst hb=>?_)
       refine Zbc ?_
       exact ⟨a0,({ ({ Code:=(0:Int),Num:=(0:Int),Rec:=(default:Zb) }:Zd) with Code:=(9:Int) }),g,rfl,(hst.pick [0,1,2,3] rfl),hb,H0⟩
      ·replace H0:=Zt hc9 H0
       refine r_g (L:=[(2,_),(3,_),(4,_),(5,_),(6,_)]) (T:=[⟨[.o 0],_,[],[],[42]⟩,⟨[.p 0 0],_,[],[0],[43]⟩,⟨[.o 1],_,[],[],[44]⟩,⟨[.p 2 0],_,[],[2],[45]⟩,⟨[.p 1 0,.p 3 0],_,[],Lr 4,[46]⟩,⟨[.o 0],_,[],Lr 5,[47]⟩,⟨[.p 4 0,.p 5 0,.o 0],_,[3],Lr 6,[2,42,47]⟩]) (F:=[.p 6 0,.o 2,.o 3,.o 4]) (hst.pick [0,1,2,3,4] rfl) hb Za
        (o_p rfl (Zr Zc3 (off:=1) (by kernel_rfl) rfl rfl u_0)<|QP rfl ty_2 u_0<|Qf rfl Zec u_0<|Ql rfl ty_2 u_0<|o_p rfl (Zb0 rfl rfl u_0 u_1 rfl)<|o_p rfl (Zr Zc3 (off:=1) (by kernel_rfl) rfl rfl u_0)<|o_p rfl (Znw ty_2 rfl rfl u_2 u_1 u_0)<|o_n) (fun a g hst hb=>?_)
       refine Zbc ?_
       exact ⟨({ a0 with Num:=(IntKind.i64.wrap (a0.Num + a1.N)) }),({ Code:=(0:Int),Num:=(0:Int),Rec:=(default:Zb) }:Zd),g,rfl,(hst.pick [0,1,2,3] rfl),hb,H0⟩
     ·replace H0:=Zt hc6 H0
      refine wp_seq ?_
      refine r_s (L:=[(2,_),(3,_),(4,_),(5,_),(6,_),(12,_)]) (T:=[⟨[.o 5],_,[],[],[49]⟩,⟨[.p 0 0],_,[],[0],[48]⟩]) (F:=[.o 0,.o 1,.o 2,.o 3,.o 4,.o 5,.p 1 0]) (hst.pick [0,1,2,3,4,5] rfl) hb Za
       (o_p rfl (Zbt rfl rfl u_0 c_i)<|Qa rfl u_0<|o_n) (fun a g hst hb=>?_)
      refine Zb3 (fun a w=>∃ (j11:Bool) (g:G),w=g.w ∧ St 217 [(2,(pBox Ze 2 a0)),(3,(Z0.ptr a1)),(4,(pBox Ze 4 (default:Zb))),(5,(pBox Zj 5 (default:Zd))),(6,(pBox Zj 6 ({ Code:=(0:Int),Num:=(0:Int),Rec:=(default:Zb) }:Zd))),(12,(pInt .i64 a1.Kind)),(48,(Zbf j11))] a g ∧ Base g0 g ∧ Zb1 a0 a1 j11=some r) ?_ ?_
      ·rintro a w ⟨j11,g,rfl,hst,hb,H0⟩
       unfold Zb1 at H0
       refine Zp ?_
       refine wp_cond_split (hst.bool 6 rfl) (fun hc12=>?_) (fun hc12=>?_)
       ·replace H0:=Zu hc12 H0
        refine r_s (L:=[(2,_),(3,_),(4,_),(5,_),(6,_)]) (T:=[⟨[.o 0],_,[],[],[51]⟩,⟨[.p 0 0],_,[],[0],[52]⟩,⟨[.o 1],_,[],[],[53]⟩,⟨[.p 2 0],_,[],[2],[54]⟩,⟨[.p 1 0,.p 3 0],_,[],Lr 4,[55]⟩]) (F:=[.o 0,.o 2,.o 3,.o 4,.p 4 0]) (hst.pick [0,1,2,3,4] rfl) hb Za
         (o_p rfl (Zr Zc3 (off:=1) (by kernel_rfl) rfl rfl u_0)<|QP rfl ty_2 u_0<|Qf rfl Zec u_0<|Ql rfl ty_2 u_0<|o_p rfl (Zca rfl rfl u_0 u_1)<|o_n) (fun a g hst hb=>?_)
        refine wp_cond_split (hst.bool 4 rfl) (fun hc13=>?_) (fun hc13=>?_)
        ·replace H0:=Zu hc13 H0
         refine r_g (L:=[(2,_),(4,_),(5,_),(6,_)]) (T:=[⟨[.o 3],_,[],[],[56]⟩,⟨[.p 0 0,.o 3],_,[7],[0],[6,56]⟩]) (F:=[.o 0,.o 1,.o 2,.p 1 0]) (hst.pick [0,1,2,3] rfl) hb Za
          (o_p rfl (Zr Zi6 (off:=0) (by kernel_rfl) rfl rfl u_0)<|o_p rfl (Zqc Zkm rfl rfl u_1 u_0 c_i)<|o_n) (fun a g hst hb=>?_)
         refine Zbc ?_
         exact ⟨a0,({ ({ Code:=(0:Int),Num:=(0:Int),Rec:=(default:Zb) }:Zd) with Code:=(11:Int) }),g,rfl,(hst.pick [0,1,2,3] rfl),hb,H0⟩
        ·replace H0:=Zt hc13 H0
         refine wp_skip ?_
         refine Zbc ?_
         exact ⟨a0,({ Code:=(0:Int),Num:=(0:Int),Rec:=(default:Zb) }:Zd),g,rfl,(hst.pick [0,1,2,3] rfl),hb,H0⟩
       ·replace H0:=Zt hc12 H0
        refine r_s (L:=[(2,_),(3,_),(4,_),(5,_),(6,_),(12,_)]) (T:=[⟨[.o 5],_,[],[],[58]⟩,⟨[.p 0 0],_,[],[0],[57]⟩]) (F:=[.o 0,.o 1,.o 2,.o 3,.o 4,.o 5,.p 1 0]) (hst.pick [0,1,2,3,4,5] rfl) hb Za
         (o_p rfl (Zbt rfl rfl u_0 c_i)<|Qa rfl u_0<|o_n) (fun a g hst hb=>?_)
        refine wp_cond_split (hst.bool 6 rfl) (fun hc14=>?_) (fun hc14=>?_)
        ·replace H0:=Zu hc14 H0
         refine r_s (L:=[(2,_),(3,_),(4,_),(5,_),(6,_)]) (T:=[⟨[.o 0],_,[],[],[59]⟩,⟨[.p 0 0],_,[],[0],[60]⟩,⟨[.o 1],_,[],[],[61]⟩,⟨[.p 2 0],_,[],[2],[62]⟩,⟨[.p 1 0,.p 3 0],_,[],Lr 4,[63]⟩,⟨[.o 0],_,[],[],[64]⟩,⟨[.p 5 0],_,[],[5],[65]⟩,⟨[.p 4 0,.p 6 0],_,[],Lr 7,[66]⟩]) (F:=[.o 0,.o 1,.o 2,.o 3,.o 4,.p 7 0]) (hst.pick [0,1,2,3,4] rfl) hb Za
          (o_p rfl (Zr Zc3 (off:=1) (by kernel_rfl) rfl rfl u_0)<|QP rfl ty_2 u_0<|Qf rfl Zec u_0<|Ql rfl ty_2 u_0<|o_p rfl (Zb0 rfl rfl u_0 u_1 rfl)<|o_p rfl (Zr Zkd (off:=3) (by kernel_rfl) rfl rfl u_0)<|QP rfl ty_2 u_0<|o_p rfl (Zct rfl rfl u_0 u_1)<|o_n) (fun a g hst hb=>?_)
         refine wp_cond_split (hst.bool 5 rfl) (fun hc15=>?_) (fun hc15=>?_)
         ·replace H0:=Zu hc15 H0
          refine r_g (L:=[(2,_),(4,_),(5,_),(6,_)]) (T:=[⟨[.o 3],_,[],[],[67]⟩,⟨[.p 0 0,.o 3],_,[7],[0],[6,67]⟩]) (F:=[.o 0,.o 1,.o 2,.p 1 0]) (hst.pick [0,2,3,4] rfl) hb Za
           (o_p rfl (Zr Zi6 (off:=0) (by kernel_rfl) rfl rfl u_0)<|o_p rfl (Zqc Zkm rfl rfl u_1 u_0 c_i)<|o_n) (fun a g hst hb=>?_)
          refine Zbc ?_
          exact ⟨a0,({ ({ Code:=(0:Int),Num:=(0:Int),Rec:=(default:Zb) }:Zd) with Code:=(9:Int) }),g,rfl,(hst.pick [0,1,2,3] rfl),hb,H0⟩
         ·replace H0:=Zt hc15 H0
          refine r_g (L:=[(2,_),(3,_),(4,_),(5,_),(6,_)]) (T:=[⟨[.o 0],_,[],[],[68]⟩,⟨[.p 0 0],_,[],[0],[69]⟩,⟨[.o 1],_,[],[],[70]⟩,⟨[.p 2 0],_,[],[2],[71]⟩,⟨[.p 1 0,.p 3 0],_,[],Lr 4,[72]⟩,⟨[.o 0],_,[],Lr 5,[73]⟩,⟨[.p 4 0,.p 5 0,.o 0],_,[3],Lr 6,[2,68,73]⟩]) (F:=[.p 6 0,.o 2,.o 3,.o 4]) (hst.pick [0,1,2,3,4] rfl) hb Za
           (o_p rfl (Zr Zc3 (off:=1) (by kernel_rfl) rfl rfl u_0)<|QP rfl ty_2 u_0<|Qf rfl Zec u_0<|Ql rfl ty_2 u_0<|o_p rfl (Zb0 rfl rfl u_0 u_1 rfl)<|o_p rfl (Zr Zc3 (off:=1) (by kernel_rfl) rfl rfl u_0)<|o_p rfl (Znw ty_2 rfl rfl u_2 u_1 u_0)<|o_n) (fun a g hst hb=>?_)
          refine Zbc ?_
          exact ⟨({ a0 with Num:=(IntKind.i64.wrap (a0.Num + a1.N)) }),({ Code:=(0:Int),Num:=(0:Int),Rec:=(default:Zb) }:Zd),g,rfl,(hst.pick [0,1,2,3] rfl),hb,H0⟩
        ·replace H0:=Zt hc14 H0
         refine r_s (L:=[(2,_),(3,_),(4,_),(5,_),(6,_),(12,_)]) (T:=[⟨[.o 5],_,[],[],[75]⟩,⟨[.p 0 0],_,[],[0],[74]⟩]) (F:=[.o 0,.o 1,.o 2,.o 3,.o 4,.o 5,.p 1 0]) (hst.pick [0,1,2,3,4,5] rfl) hb Za
          (o_p rfl (Zbt rfl rfl u_0 c_i)<|Qa rfl u_0<|o_n) (fun a g hst hb=>?_)
         refine wp_cond_split (hst.bool 6 rfl) (fun hc16=>?_) (fun hc16=>?_)
         ·replace H0:=Zu hc16 H0
          refine r_s (L:=[(2,_),(3,_),(4,_),(5,_),(6,_)]) (T:=[⟨[.o 0],_,[],[],[76]⟩,⟨[.p 0 0],_,[],[0],[77]⟩,⟨[.o 1],_,[],[],[78]⟩,⟨[.p 2 0],_,[],[2],[79]⟩,⟨[.p 1 0,.p 3 0],_,[],Lr 4,[80]⟩,⟨[.o 0],_,[],[],[81]⟩,⟨[.p 5 0],_,[],[5],[82]⟩,⟨[.p 4 0,.p 6 0],_,[],Lr 7,[83]⟩]) (F:=[.o 0,.o 1,.o 2,.o 3,.o 4,.p 7 0]) (hst.pick [0,1,2,3,4] rfl) hb Za
           (o_p rfl (Zr Zc3 (off:=1) (by kernel_rfl) rfl rfl u_0)<|QP rfl ty_2 u_0<|Qf rfl Zec u_0<|Ql rfl ty_2 u_0<|o_p rfl (Zh1 rfl rfl u_0 u_1 rfl)<|o_p rfl (Zr Zkf (off:=2) (by kernel_rfl) rfl rfl u_0)<|QP rfl ty_2 u_0<|o_p rfl (Zca rfl rfl u_0 u_1)<|o_n) (fun a g hst hb=>?_)
          refine wp_cond_split (hst.bool 5 rfl) (fun hc17=>?_) (fun hc17=>?_)
          ·replace H0:=Zu hc17 H0
           refine r_g (L:=[(2,_),(4,_),(5,_),(6,_)]) (T:=[⟨[.o 3],_,[],[],[84]⟩,⟨[.p 0 0,.o 3],_,[7],[0],[6,84]⟩]) (F:=[.o 0,.o 1,.o 2,.p 1 0]) (hst.pick [0,2,3,4] rfl) hb Za
            (o_p rfl (Zr Zi6 (off:=0) (by kernel_rfl) rfl rfl u_0)<|o_p rfl (Zqc Zkm rfl rfl u_1 u_0 c_i)<|o_n) (fun a g hst hb=>?_)
           refine Zbc ?_
           exact ⟨a0,({ ({ Code:=(0:Int),Num:=(0:Int),Rec:=(default:Zb) }:Zd) with Code:=(10:Int) }),g,rfl,(hst.pick [0,1,2,3] rfl),hb,H0⟩
          ·replace H0:=Zt hc17 H0
           refine r_g (L:=[(2,_),(3,_),(4,_),(5,_),(6,_)]) (T:=[⟨[.o 0],_,[],[],[85]⟩,⟨[.p 0 0],_,[],[0],[86]⟩,⟨[.o 1],_,[],[],[87]⟩,⟨[.p 2 0],_,[],[2],[88]⟩,⟨[.p 1 0,.p 3 0],_,[],Lr 4,[89]⟩,⟨[.o 0],_,[],Lr 5,[90]⟩,⟨[.p 4 0,.p 5 0,.o 0],_,[3],Lr 6,[2,85,90]⟩]) (F:=[.p 6 0,.o 2,.o 3,.o 4]) (hst.pick [0,1,2,3,4] rfl) hb Za
            (o_p rfl (Zr Zc3 (off:=1) (by kernel_rfl) rfl rfl u_0)<|QP rfl ty_2 u_0<|Qf rfl Zec u_0<|Ql rfl ty_2 u_0<|o_p rfl (Zh1 rfl rfl u_0 u_1 rfl)<|o_p rfl (Zr Zc3 (off:=1) (by kernel_rfl) rfl rfl u_0)<|o_p rfl (Znw ty_2 rfl rfl u_2 u_1 u_0)<|o_n) (fun a g hst hb=>?_)
           refine Zbc ?_
           exact ⟨({ a0 with Num:=(IntKind.i64.wrap (a0.Num - a1.N)) }),({ Code:=(0:Int),Num:=(0:Int),Rec:=(default:Zb) }:Zd),g,rfl,(hst.pick [0,1,2,3] rfl),hb,H0⟩
         ·replace H0:=Zt hc16 H0
          refine r_s (L:=[(2,_),(3,_),(4,_),(5,_),(6,_),(12,_)]) (T:=[⟨[.o 5],_,[],[],[92]⟩,⟨[.p 0 0],_,[],[0],[91]⟩]) (F:=[.o 0,.o 1,.o 2,.o 3,.o 4,.o 5,.p 1 0]) (hst.pick [0,1,2,3,4,5] rfl) hb Za
           (o_p rfl (Zbt rfl rfl u_0 c_i)<|Qa rfl u_0<|o_n) (fun a g hst hb=>?_)
          refine wp_cond_split (hst.bool 6 rfl) (fun hc18=>?_) (fun hc18=>?_)
          ·replace H0:=Zu hc18 H0
           obtain ⟨r19,h20,H0⟩:=Zc H0
           refine r_g (L:=[(2,_),(3,_),(4,_),(5,_),(6,_)]) (T:=[⟨[.o 0],_,[],[],[93]⟩,⟨[.p 0 0],_,[],[0],[94]⟩,⟨[.o 1],_,[],[],[95]⟩,⟨[.p 2 0],_,[],[2],[96]⟩,⟨[.p 1 0,.p 3 0],_,[],Lr 4,[97]⟩,⟨[.o 0],_,[],Lr 5,[98]⟩,⟨[.p 4 0,.p 5 0,.o 0],_,[3],Lr 6,[2,93,98]⟩]) (F:=[.p 6 0,.o 2,.o 3,.o 4]) (hst.pick [0,1,2,3,4] rfl) hb Za
            (o_p rfl (Zr Zgl (off:=4) (by kernel_rfl) rfl rfl u_0)<|QP rfl Zc6 u_0<|Qf rfl Zkc u_0<|Ql rfl Zc6 u_0<|o_p rfl (Zl Zbdk (Zub _ _ h20) rfl rfl (.cons u_0 (.cons u_1 .nil)))<|o_p rfl (Zr Zgl (off:=4) (by kernel_rfl) rfl rfl u_0)<|o_p rfl (Zp9 Zc6 rfl rfl u_2 u_1 u_0)<|o_n) (fun a g hst hb=>?_)
           refine Zbc ?_
           exact ⟨({ a0 with Real:=r19 }),({ Code:=(0:Int),Num:=(0:Int),Rec:=(default:Zb) }:Zd),g,rfl,(hst.pick [0,1,2,3] rfl),hb,H0⟩
          ·replace H0:=Zt hc18 H0
           refine r_s (L:=[(2,_),(3,_),(4,_),(5,_),(6,_),(12,_)]) (T:=[⟨[.o 5],_,[],[],[100]⟩,⟨[.p 0 0],_,[],[0],[99]⟩]) (F:=[.o 0,.o 1,.o 2,.o 3,.o 4,.o 5,.p 1 0]) (hst.pick [0,1,2,3,4,5] rfl) hb Za
            (o_p rfl (Zbt rfl rfl u_0 c_i)<|Qa rfl u_0<|o_n) (fun a g hst hb=>?_)
           refine wp_cond_split (hst.bool 6 rfl) (fun hc21=>?_) (fun hc21=>?_)
           ·replace H0:=Zu hc21 H0
            obtain ⟨r22,h23,H0⟩:=Zc H0
            refine r_g (L:=[(2,_),(3,_),(4,_),(5,_),(6,_)]) (T:=[⟨[.o 0],_,[],[],[101]⟩,⟨[.p 0 0],_,[],[0],[102]⟩,⟨[.o 1],_,[],[],[103]⟩,⟨[.p 2 0],_,[],[2],[104]⟩,⟨[.p 1 0,.p 3 0],_,[],Lr 4,[105]⟩,⟨[.o 0],_,[],Lr 5,[106]⟩,⟨[.p 4 0,.p 5 0,.o 0],_,[3],Lr 6,[2,101,106]⟩]) (F:=[.p 6 0,.o 2,.o 3,.o 4]) (hst.pick [0,1,2,3,4] rfl) hb Za
             (o_p rfl (Zr Zgl (off:=4) (by kernel_rfl) rfl rfl u_0)<|QP rfl Zc6 u_0<|Qf rfl Zkc u_0<|Ql rfl Zc6 u_0<|o_p rfl (Zl Zbdp (Zue _ _ h23) rfl rfl (.cons u_0 (.cons u_1 .nil)))<|o_p rfl (Zr Zgl (off:=4) (by kernel_rfl) rfl rfl u_0)<|o_p rfl (Zp9 Zc6 rfl rfl u_2 u_1 u_0)<|o_n) (fun a g hst hb=>?_)
            refine Zbc ?_
            exact ⟨({ a0 with Real:=r22 }),({ Code:=(0:Int),Num:=(0:Int),Rec:=(default:Zb) }:Zd),g,rfl,(hst.pick [0,1,2,3] rfl),hb,H0⟩
           ·replace H0:=Zt hc21 H0
            refine r_s (L:=[(2,_),(3,_),(4,_),(5,_),(6,_),(12,_)]) (T:=[⟨[.o 5],_,[],[],[108]⟩,⟨[.p 0 0],_,[],[0],[107]⟩]) (F:=[.o 0,.o 1,.o 2,.o 3,.o 4,.o 5,.p 1 0]) (hst.pick [0,1,2,3,4,5] rfl) hb Za
             (o_p rfl (Zbt rfl rfl u_0 c_i)<|Qa rfl u_0<|o_n) (fun a g hst hb=>?_)
            refine wp_cond_split (hst.bool 6 rfl) (fun hc24=>?_) (fun hc24=>?_)
            ·replace H0:=Zu hc24 H0
             obtain ⟨r25,h26,H0⟩:=Zc H0;obtain ⟨r27,h28,H0⟩:=Zc H0
             refine r_g (L:=[(2,_),(3,_),(4,_),(5,_),(6,_)]) (T:=[⟨[.o 0],_,[],[],[109]⟩,⟨[.p 0 0],_,[],[0],[110]⟩,⟨[.o 1],_,[],[],[111]⟩,⟨[.p 2 0],_,[],[2],[112]⟩,⟨[.p 1 0,.p 3 0],_,[],Lr 4,[113]⟩,⟨[.p 4 0],_,[],Lr 5,[114]⟩,⟨[.p 5 0],_,[],Lr 6,[115]⟩,⟨[.o 0],_,[],Lr 7,[116]⟩,⟨[.p 6 0,.p 7 0,.o 0],_,[3],Lr 8,[2,109,116]⟩]) (F:=[.p 8 0,.o 2,.o 3,.o 4]) (hst.pick [0,1,2,3,4] rfl) hb Za
              (o_p rfl (Zr Zgl (off:=4) (by kernel_rfl) rfl rfl u_0)<|QP rfl Zc6 u_0<|Qf rfl Zkc u_0<|Ql rfl Zc6 u_0<|o_p rfl (Z2j rfl rfl u_0 u_1)<|o_p rfl (Zl Z7u (Zsf (fun r z hr hz=>by simp only [Zf0,Zew,hr,hz,Option.bind_some,if_true]) (fun z r h=>Zoc z h) h26) rfl rfl (.cons u_0 .nil))<|o_p rfl (Zl Z70 (Znx _ h28) rfl rfl (.cons u_0 .nil))<|o_p rfl (Zr Zgl (off:=4) (by kernel_rfl) rfl rfl u_0)<|o_p rfl (Zp9 Zc6 rfl rfl u_2 u_1 u_0)<|o_n) (fun a g hst hb=>?_)
             refine Zbc ?_
             exact ⟨({ a0 with Real:=r27 }),({ Code:=(0:Int),Num:=(0:Int),Rec:=(default:Zb) }:Zd),g,rfl,(hst.pick [0,1,2,3] rfl),hb,H0⟩
            ·replace H0:=Zt hc24 H0
             refine r_s (L:=[(2,_),(3,_),(4,_),(5,_),(6,_),(12,_)]) (T:=[⟨[.o 5],_,[],[],[118]⟩,⟨[.p 0 0],_,[],[0],[117]⟩]) (F:=[.o 0,.o 1,.o 2,.o 3,.o 4,.o 5,.p 1 0]) (hst.pick [0,1,2,3,4,5] rfl) hb Za
              (o_p rfl (Zbt rfl rfl u_0 c_i)<|Qa rfl u_0<|o_n) (fun a g hst hb=>?_)
             refine wp_cond_split (hst.bool 6 rfl) (fun hc29=>?_) (fun hc29=>?_)
             ·replace H0:=Zu hc29 H0
              obtain ⟨r30,h31,H0⟩:=Zc H0;obtain ⟨r32,h33,H0⟩:=Zc H0
              refine r_g (L:=[(2,_),(3,_),(4,_),(5,_),(6,_)]) (T:=[⟨[.o 0],_,[],[],[119]⟩,⟨[.p 0 0],_,[],[0],[120]⟩,⟨[.o 1],_,[],[],[121]⟩,⟨[.p 2 0],_,[],[2],[122]⟩,⟨[.p 1 0,.p 3 0],_,[],Lr 4,[123]⟩,⟨[.p 4 0],_,[],Lr 5,[124]⟩,⟨[.p 5 0],_,[],Lr 6,[125]⟩,⟨[.o 0],_,[],Lr 7,[126]⟩,⟨[.p 6 0,.p 7 0,.o 0],_,[3],Lr 8,[2,119,126]⟩]) (F:=[.p 8 0,.o 2,.o 3,.o 4]) (hst.pick [0,1,2,3,4] rfl) hb Za
               (o_p rfl (Zr Zgl (off:=4) (by kernel_rfl) rfl rfl u_0)<|QP rfl Zc6 u_0<|Qf rfl Zkc u_0<|Ql rfl Zc6 u_0<|o_p rfl (Z2b rfl rfl u_0 u_1)<|o_p rfl (Zl Z7u (Zsf (fun r z hr hz=>by simp only [Zf0,Zew,hr,hz,Option.bind_some,if_true]) (fun z r h=>Zoc z h) h31) rfl rfl (.cons u_0 .nil))<|o_p rfl (Zl Z70 (Znx _ h33) rfl rfl (.cons u_0 .nil))<|o_p rfl (Zr Zgl (off:=4) (by kernel_rfl) rfl rfl u_0)<|o_p rfl (Zp9 Zc6 rfl rfl u_2 u_1 u_0)<|o_n) (fun a g hst hb=>?_)
              refine Zbc ?_
              exact ⟨({ a0 with Real:=r32 }),({ Code:=(0:Int),Num:=(0:Int),Rec:=(default:Zb) }:Zd),g,rfl,(hst.pick [0,1,2,3] rfl),hb,H0⟩
             ·replace H0:=Zt hc29 H0
              refine r_s (L:=[(2,_),(3,_),(4,_),(5,_),(6,_),(12,_)]) (T:=[⟨[.o 5],_,[],[],[128]⟩,⟨[.p 0 0],_,[],[0],[127]⟩]) (F:=[.o 0,.o 1,.o 2,.o 3,.o 4,.o 5,.p 1 0]) (hst.pick [0,1,2,3,4,5] rfl) hb Za
               (o_p rfl (Zbt rfl rfl u_0 c_i)<|Qa rfl u_0<|o_n) (fun a g hst hb=>?_)
              refine wp_cond_split (hst.bool 6 rfl) (fun hc34=>?_) (fun hc34=>?_)
              ·replace H0:=Zu hc34 H0
               refine r_g (L:=[(2,_),(3,_),(4,_),(5,_),(6,_)]) (T:=[⟨[.o 1],_,[],[],[129]⟩,⟨[.p 0 0],_,[],[0],[130]⟩,⟨[.o 0],_,[],[0,1],[131]⟩,⟨[.p 1 0,.p 2 0,.o 0],_,[3],[0,1,2],[2,131]⟩]) (F:=[.p 3 0,.o 2,.o 3,.o 4]) (hst.pick [0,1,2,3,4] rfl) hb Za
                (Qf rfl Zkc u_0<|Ql rfl Zc6 u_0<|o_p rfl (Zr Zgl (off:=4) (by kernel_rfl) rfl rfl u_0)<|o_p rfl (Zp9 Zc6 rfl rfl u_2 u_1 u_0)<|o_n) (fun a g hst hb=>?_)
               refine Zbc ?_
               exact ⟨({ a0 with Real:=a1.X }),({ Code:=(0:Int),Num:=(0:Int),Rec:=(default:Zb) }:Zd),g,rfl,(hst.pick [0,1,2,3] rfl),hb,H0⟩
              ·replace H0:=Zt hc34 H0
               refine r_s (L:=[(2,_),(3,_),(4,_),(5,_),(6,_),(12,_)]) (T:=[⟨[.o 5],_,[],[],[133]⟩,⟨[.p 0 0],_,[],[0],[132]⟩]) (F:=[.o 0,.o 1,.o 2,.o 3,.o 4,.o 5,.p 1 0]) (hst.pick [0,1,2,3,4,5] rfl) hb Za
                (o_p rfl (Zbt rfl rfl u_0 c_i)<|Qa rfl u_0<|o_n) (fun a g hst hb=>?_)
               refine wp_cond_split (hst.bool 6 rfl) (fun hc35=>?_) (fun hc35=>?_)
               ·replace H0:=Zu hc35 H0
                obtain ⟨r36,h37,H0⟩:=Zc H0
                refine r_s (L:=[(2,_),(3,_),(4,_),(5,_),(6,_)]) (T:=⟨[.o 0],_,[],[],[134]⟩ :: ⟨[.p 0 0],_,[],[0],[135]⟩ :: ⟨[.o 1],_,[],[],[136]⟩ :: ⟨[.p 2 0],_,[],[2],[137]⟩ :: ⟨[.p 1 0,.p 3 0],_,[],Lr 4,[138]⟩ :: ⟨[.p 4 0],_,[],Lr 5,[139]⟩ :: ⟨[.p 5 0],_,[],Lr 6,[140]⟩ :: ⟨[.p 6 0,.o 0],_,[],Lr 7,[141]⟩ :: ⟨[.p 6 0,.p 7 0],_,[],Lr 8,[142]⟩ :: ⟨[.p 6 0,.p 8 0],_,[],Lr 9,[143]⟩ :: ⟨[.p 6 0,.o 0],_,[],Lr 7,[144]⟩ :: ⟨[.p 6 0,.p 10 0],_,[],[0,1,2,3,4,5,6,10],[145]⟩ :: ⟨[.p 6 0,.p 9 0,.p 11 0],_,[],Lr 12,[146]⟩ :: ⟨[.p 6 0,.p 12 0],_,[],Lr 13,[147]⟩ :: []) (F:=[.o 0,.o 1,.o 2,.o 3,.o 4,.p 13 0]) (hst.pick [0,1,2,3,4] rfl) hb Za
                 (o_p rfl (Zr Zci (off:=7) (by kernel_rfl) rfl rfl u_0)<|QP rfl Zdb u_0<|Qf rfl Zgc u_0<|Ql rfl ty_9 u_0<|o_p rfl (Zl Z6j (Zpb _ _ h37) rfl rfl (.cons u_0 (.cons u_1 .nil)))<|Qn rfl u_0<|Qm rfl u_0<|o_g (Qg_t rfl (fun hG=>Zr Zci (off:=7) (by kernel_rfl) rfl rfl u_0))<|o_g (Qg_t rfl (fun hG=>Zjc Zdb rfl rfl (Opd.gd hG u_0)))<|o_g (Qg_t rfl (fun hG=>Zbx Tryz.underlying36 rfl rfl (Opd.gd hG u_0)))<|o_g (Qg_t rfl (fun hG=>Zr Zhf (off:=5) (by kernel_rfl) rfl rfl u_0))<|o_g (Qg_t rfl (fun hG=>Zjc ty_3 rfl rfl (Opd.gd hG u_0)))<|o_g (Qg_t rfl (fun hG=>Zmx rfl rfl (Opd.gd hG u_0) (Opd.gd hG u_1)))<|o_p rfl (Zbk rfl rfl u_0 (fun hz=>(Opd.gd hz u_1)))<|o_n) (fun a g hst hb=>?_)
                refine wp_cond_split (hst.bool 5 rfl) (fun hc38=>?_) (fun hc38=>?_)
                ·replace H0:=Zu hc38 H0
                 refine r_g (L:=[(2,_),(4,_),(5,_),(6,_)]) (T:=[⟨[.o 3],_,[],[],[148]⟩,⟨[.p 0 0,.o 3],_,[7],[0],[6,148]⟩]) (F:=[.o 0,.o 1,.o 2,.p 1 0]) (hst.pick [0,2,3,4] rfl) hb Za
                  (o_p rfl (Zr Zi6 (off:=0) (by kernel_rfl) rfl rfl u_0)<|o_p rfl (Zqc Zkm rfl rfl u_1 u_0 c_i)<|o_n) (fun a g hst hb=>?_)
                 refine Zbc ?_
                 exact ⟨a0,({ ({ Code:=(0:Int),Num:=(0:Int),Rec:=(default:Zb) }:Zd) with Code:=(8:Int) }),g,rfl,(hst.pick [0,1,2,3] rfl),hb,H0⟩
                ·replace H0:=Zt hc38 H0
                 obtain ⟨r39,h40,H0⟩:=Zc H0
                 refine r_g (L:=[(2,_),(3,_),(4,_),(5,_),(6,_)]) (T:=[⟨[.o 0],_,[],[],[149]⟩,⟨[.p 0 0],_,[],[0],[150]⟩,⟨[.o 1],_,[],[],[151]⟩,⟨[.p 2 0],_,[],[2],[152]⟩,⟨[.p 3 0],_,[],[2,3],[153]⟩,⟨[.p 1 0,.p 4 0],_,[],Lr 5,[154]⟩,⟨[.o 0],_,[],Lr 6,[155]⟩,⟨[.p 5 0,.p 6 0,.o 0],_,[3],Lr 7,[2,149,155]⟩]) (F:=[.p 7 0,.o 2,.o 3,.o 4]) (hst.pick [0,1,2,3,4] rfl) hb Za
                  (o_p rfl (Zr Zci (off:=7) (by kernel_rfl) rfl rfl u_0)<|QP rfl Zdb u_0<|Qf rfl Zgc u_0<|Ql rfl ty_9 u_0<|o_p rfl (Z1e rfl rfl u_0)<|o_p rfl (Zl Z60 (Zoi _ _ _ h40) rfl rfl (.cons u_0 (.cons u_1 (.cons c_b .nil))))<|o_p rfl (Zr Zci (off:=7) (by kernel_rfl) rfl rfl u_0)<|o_p rfl (Znv Zdb rfl rfl u_2 u_1 u_0)<|o_n) (fun a g hst hb=>?_)
                 refine Zbc ?_
                 exact ⟨({ a0 with List:=r39 }),({ Code:=(0:Int),Num:=(0:Int),Rec:=(default:Zb) }:Zd),g,rfl,(hst.pick [0,1,2,3] rfl),hb,H0⟩
               ·replace H0:=Zt hc35 H0
                refine r_s (L:=[(2,_),(3,_),(4,_),(5,_),(6,_),(12,_)]) (T:=[⟨[.o 5],_,[],[],[157]⟩,⟨[.p 0 0],_,[],[0],[156]⟩]) (F:=[.o 0,.o 1,.o 2,.o 3,.o 4,.o 5,.p 1 0]) (hst.pick [0,1,2,3,4,5] rfl) hb Za
                 (o_p rfl (Zbt rfl rfl u_0 c_i)<|Qa rfl u_0<|o_n) (fun a g hst hb=>?_)
                refine wp_cond_split (hst.bool 6 rfl) (fun hc41=>?_) (fun hc41=>?_)
                ·replace H0:=Zu hc41 H0
                 refine r_s (L:=[(2,_),(3,_),(4,_),(5,_),(6,_)]) (T:=[⟨[],_,[159],[],[158]⟩,⟨[.p 0 0],_,[],[0],[7]⟩]) (F:=[.o 0,.o 1,.o 2,.o 3,.o 4,.p 1 0]) (hst.pick [0,1,2,3,4] rfl) hb Za
                  (o_p rfl (Zkx 158 Zdr (xs:=[]) .nil (by decide) rfl rfl)<|Qa rfl u_0<|o_n) (fun a g hst hb=>?_)
                 refine wp_seq ?_
                 refine r_s (T:=[⟨[],_,[],[],[8]⟩]) (F:=[.o 0,.o 1,.o 2,.o 3,.o 4,.o 5,.p 0 0]) hst hb Za
                  (Qa rfl c_i<|o_n) (fun a g hst hb=>?_)
                 obtain ⟨z53,hz1,H0⟩:=Zc H0
                 refine Zb3 (fun a w=>∃ (y52:List Zh) (g:G),w=g.w ∧ St 217 [(2,(pBox Ze 2 a0)),(4,(pBox Ze 4 (default:Zb))),(5,(pBox Zj 5 (default:Zd))),(6,(pBox Zj 6 ({ Code:=(0:Int),Num:=(0:Int),Rec:=(default:Zb) }:Zd))),(7,(pRow Z2 116 158 y52))] a g ∧ Base g0 g ∧ y52=z53) ?_ ?_
                 ·rintro a w ⟨y52,g,rfl,hst,hb,rfl⟩
                  refine Zp ?_
                  refine r_g (T:=[⟨[.o 4],_,[],[],[183]⟩,⟨[.o 0],_,[],[0],[184]⟩,⟨[.p 0 0,.p 1 0,.o 0],_,[3],[0,1],[2,184]⟩]) (F:=[.p 2 0,.o 1,.o 2,.o 3]) hst hb Za
                   (Qm rfl u_0<|o_p rfl (Zr Zci (off:=7) (by kernel_rfl) rfl rfl u_0)<|o_p rfl (Znv Zdb rfl rfl u_2 u_1 (Opd.imp u_0 (fun _ _ h=>Zgd h)))<|o_n) (fun a g hst hb=>?_)
                  refine Zbc ?_
                  exact ⟨({ a0 with List:=y52 }),({ Code:=(0:Int),Num:=(0:Int),Rec:=(default:Zb) }:Zd),g,rfl,(hst.pick [0,1,2,3] rfl),hb,H0⟩
                 ·refine wp_block ?_
                  refine wp_loop_ghost (fun n a w=>∃ (x42:List Zh) (x43:Int) (g:G),w=g.w ∧ St 217 [(2,(pBox Ze 2 a0)),(3,(Z0.ptr a1)),(4,(pBox Ze 4 (default:Zb))),(5,(pBox Zj 5 (default:Zd))),(6,(pBox Zj 6 ({ Code:=(0:Int),Num:=(0:Int),Rec:=(default:Zb) }:Zd))),(7,(pRow Z2 116 158 x42)),(8,(pInt .i64 x43))] a g ∧ Base g0 g ∧ Zdf a0 a1 n x42 x43=some z53) (Int.toNat ((a0.List.length:Int) - (0:Int)) + 1) ⟨([]:List Zh),(0:Int),g,rfl,(hst.pick [0,1,2,3,4,5,6] rfl),hb,hz1⟩ (fun n a w hI=>?_)
                  obtain ⟨x42,x43,g,rfl,hst,hb,H1⟩:=hI
                  cases n with
                  | zero=>exact absurd H1 (by simp [Zdf])
                  | succ n =>
                   rw [Zdf] at H1
                   refine wp_seq ?_
                   refine r_s (T:=[⟨[.o 6],_,[],[],[159]⟩,⟨[.o 0],_,[],[],[160]⟩,⟨[.p 1 0],_,[],[1],[161]⟩,⟨[.p 2 0],_,[],[1,2],[162]⟩,⟨[.p 0 0,.p 3 0],_,[],Lr 4,[163]⟩]) (F:=[.o 0,.o 1,.o 2,.o 3,.o 4,.o 5,.o 6,.p 4 0]) hst hb Za
                    (Qm rfl u_0<|o_p rfl (Zr Zci (off:=7) (by kernel_rfl) rfl rfl u_0)<|QP rfl Zdb u_0<|o_p rfl (Zbx Tryz.underlying36 rfl rfl u_0)<|o_p rfl (Zca rfl rfl u_0 u_1)<|o_n) (fun a g hst hb=>?_)
                   refine wp_cond_split (hst.bool 7 rfl) (fun hc44=>?_) (fun hc44=>?_)
                   ·replace H1:=Zu hc44 H1
                    refine wp_skip ?_
                    refine Zp ?_
                    refine wp_seq ?_
                    refine Zb3 (fun a w=>∃ (j51:List Zh) (g:G),w=g.w ∧ St 217 [(2,(pBox Ze 2 a0)),(3,(Z0.ptr a1)),(4,(pBox Ze 4 (default:Zb))),(5,(pBox Zj 5 (default:Zd))),(6,(pBox Zj 6 ({ Code:=(0:Int),Num:=(0:Int),Rec:=(default:Zb) }:Zd))),(7,(pRow Z2 116 158 j51)),(8,(pInt .i64 x43))] a g ∧ Base g0 g ∧ Zjl x43 (Zdf a0 a1 n) j51=some z53) ?_ ?_
                    ·rintro a w ⟨j51,g,rfl,hst,hb,H1⟩
                     unfold Zjl at H1
                     refine Zp ?_
                     refine r_g (T:=[⟨[.o 6],_,[],[],[164]⟩,⟨[.p 0 0],_,[],[0],[165]⟩,⟨[.p 1 0],_,[],[0,1],[8]⟩]) (F:=[.o 0,.o 1,.o 2,.o 3,.o 4,.o 5,.p 2 0]) hst hb Za
                      (Qm rfl u_0<|o_p rfl (Zb0 rfl rfl u_0 c_i rfl)<|Qa rfl u_0<|o_n) (fun a g hst hb=>?_)
                     exact ⟨n,Nat.lt_succ_self _,j51,(IntKind.i64.wrap (x43 + (1:Int))),g,rfl,(hst.pick [0,1,2,3,4,5,6] rfl),hb,H1⟩
                    ·refine wp_block ?_
                     obtain ⟨e45,h46,H1⟩:=Zc H1
                     refine r_s (L:=[(2,_),(3,_),(4,_),(5,_),(6,_),(7,_),(8,_)]) (T:=[⟨[.o 0],_,[],[],[166]⟩,⟨[.p 0 0],_,[],[0],[167]⟩,⟨[.o 6],_,[],[],[168]⟩,⟨[.p 1 0,.p 2 0],_,[],[0,1,2],[169]⟩,⟨[.p 3 0],_,[],Lr 4,[170]⟩,⟨[.p 4 0],_,[],Lr 5,[171]⟩,⟨[.o 1],_,[],[],[172]⟩,⟨[.p 6 0],_,[],[6],[173]⟩,⟨[.p 5 0,.p 7 0],_,[],Lr 8,[174]⟩]) (F:=[.o 0,.o 1,.o 2,.o 3,.o 4,.o 5,.o 6,.p 8 0]) (hst.pick [0,1,2,3,4,5,6] rfl) hb Za
                      (o_p rfl (Zr Zci (off:=7) (by kernel_rfl) rfl rfl u_0)<|QP rfl Zdb u_0<|Qm rfl u_0<|o_p rfl (Zbl Tryz.underlying36 Zfe rfl rfl u_0 u_1 h46)<|Qf rfl Zd6 u_0<|Ql rfl ty_9 u_0<|Qf rfl Zgc u_0<|Ql rfl ty_9 u_0<|o_p rfl (Zpg rfl rfl u_0 u_1)<|o_n) (fun a g hst hb=>?_)
                     refine wp_cond_split (hst.bool 7 rfl) (fun hc47=>?_) (fun hc47=>?_)
                     ·replace H1:=Zu hc47 H1
                      obtain ⟨e48,h49,H1⟩:=Zc H1;obtain ⟨h50,H1⟩:=Zfv H1
                      refine r_g (L:=[(2,_),(3,_),(4,_),(5,_),(6,_),(7,_),(8,_)]) (T:=[⟨[.o 5],_,[],[],[175]⟩,⟨[.o 0],_,[],[],[176]⟩,⟨[.p 1 0],_,[],[1],[177]⟩,⟨[.o 6],_,[],[],[178]⟩,⟨[.p 2 0,.p 3 0],_,[],[1,2,3],[179]⟩,⟨[.p 4 0],_,[],List.range' 1 4,[180]⟩,⟨[.p 5 0],_,[],List.range' 1 5,[181]⟩,⟨[.p 0 0,.p 6 0],_,[159],Lr 7,[7,175,182]⟩,⟨[.p 7 0],_,[],Lr 8,[7]⟩]) (F:=[.o 0,.o 1,.o 2,.o 3,.o 4,.p 8 0,.o 6]) (hst.pick [0,1,2,3,4,5,6] rfl) hb Za
                       (Qm rfl u_0<|o_p rfl (Zr Zci (off:=7) (by kernel_rfl) rfl rfl u_0)<|QP rfl Zdb u_0<|Qm rfl u_0<|o_p rfl (Zbl Tryz.underlying36 Zfe rfl rfl u_0 u_1 h49)<|Ql rfl Zeb u_0<|o_p rfl (Zig Zdr (xs:=[.tmp 180]) (.cons u_0 .nil) (by decide) rfl rfl)<|o_p rfl (Zfq Zdr rfl rfl u_0 u_1 h50)<|Qa rfl u_0<|o_n) (fun a g hst hb=>?_)
                      refine Zbc ?_
                      exact ⟨(x42 ++ ([e48]:List Zh)),g,rfl,(hst.pick [0,1,2,3,4,5,6] rfl),hb,H1⟩
                     ·replace H1:=Zt hc47 H1
                      refine wp_skip ?_
                      refine Zbc ?_
                      exact ⟨x42,g,rfl,(hst.pick [0,1,2,3,4,5,6] rfl),hb,H1⟩
                   ·replace H1:=Zt hc44 H1
                    refine wp_exit ?_
                    refine Zby ?_
                    refine Zby ?_
                    refine Zcb ?_
                    exact ⟨x42,g,rfl,(hst.pick [0,2,3,4,5] rfl),hb,Option.some.inj H1⟩
                ·replace H0:=Zt hc41 H0
                 refine r_s (L:=[(2,_),(3,_),(4,_),(5,_),(6,_),(12,_)]) (T:=[⟨[.o 5],_,[],[],[186]⟩,⟨[.p 0 0],_,[],[0],[185]⟩]) (F:=[.o 0,.o 1,.o 2,.o 3,.o 4,.o 5,.p 1 0]) (hst.pick [0,1,2,3,4,5] rfl) hb Za
                  (o_p rfl (Zbt rfl rfl u_0 c_i)<|Qa rfl u_0<|o_n) (fun a g hst hb=>?_)
                 refine wp_cond_split (hst.bool 6 rfl) (fun hc54=>?_) (fun hc54=>?_)
                 ·replace H0:=Zu hc54 H0
                  obtain ⟨r55,h56,H0⟩:=Zc H0
                  refine r_s (L:=[(2,_),(3,_),(4,_),(5,_),(6,_)]) (T:=[⟨[.o 0],_,[],[],[187]⟩,⟨[.p 0 0],_,[],[0],[188]⟩,⟨[.o 1],_,[],[],[189]⟩,⟨[.p 2 0],_,[],[2],[190]⟩,⟨[.p 1 0,.p 3 0],_,[],Lr 4,[191]⟩,⟨[.p 4 0],_,[],Lr 5,[192]⟩]) (F:=[.o 0,.o 2,.o 3,.o 4,.p 5 0]) (hst.pick [0,1,2,3,4] rfl) hb Za
                   (o_p rfl (Zr Zci (off:=7) (by kernel_rfl) rfl rfl u_0)<|QP rfl Zdb u_0<|Qf rfl Zgc u_0<|Ql rfl ty_9 u_0<|o_p rfl (Zl Z6j (Zpb _ _ h56) rfl rfl (.cons u_0 (.cons u_1 .nil)))<|Qn rfl u_0<|o_n) (fun a g hst hb=>?_)
                  refine wp_cond_split (hst.bool 4 rfl) (fun hc57=>?_) (fun hc57=>?_)
                  ·replace H0:=Zu hc57 H0
                   refine r_g (L:=[(2,_),(4,_),(5,_),(6,_)]) (T:=[⟨[.o 3],_,[],[],[193]⟩,⟨[.p 0 0,.o 3],_,[7],[0],[6,193]⟩]) (F:=[.o 0,.o 1,.o 2,.p 1 0]) (hst.pick [0,1,2,3] rfl) hb Za
                    (o_p rfl (Zr Zi6 (off:=0) (by kernel_rfl) rfl rfl u_0)<|o_p rfl (Zqc Zkm rfl rfl u_1 u_0 c_i)<|o_n) (fun a g hst hb=>?_)
                   refine Zbc ?_
                   exact ⟨a0,({ ({ Code:=(0:Int),Num:=(0:Int),Rec:=(default:Zb) }:Zd) with Code:=(11:Int) }),g,rfl,(hst.pick [0,1,2,3] rfl),hb,H0⟩
                  ·replace H0:=Zt hc57 H0
                   refine wp_skip ?_
                   refine Zbc ?_
                   exact ⟨a0,({ Code:=(0:Int),Num:=(0:Int),Rec:=(default:Zb) }:Zd),g,rfl,(hst.pick [0,1,2,3] rfl),hb,H0⟩
                 ·replace H0:=Zt hc54 H0
                  refine r_s (L:=[(2,_),(3,_),(4,_),(5,_),(6,_),(12,_)]) (T:=[⟨[.o 5],_,[],[],[195]⟩,⟨[.p 0 0],_,[],[0],[194]⟩]) (F:=[.o 0,.o 1,.o 2,.o 3,.o 4,.p 1 0]) (hst.pick [0,1,2,3,4,5] rfl) hb Za
                   (o_p rfl (Zbt rfl rfl u_0 c_i)<|Qa rfl u_0<|o_n) (fun a g hst hb=>?_)
                  refine wp_cond_split (hst.bool 5 rfl) (fun hc58=>?_) (fun hc58=>?_)
                  ·replace H0:=Zu hc58 H0
                   obtain ⟨r59,h60,H0⟩:=Zc H0
                   refine r_s (L:=[(2,_),(3,_),(4,_),(5,_),(6,_)]) (T:=[⟨[.o 0],_,[],[],[196]⟩,⟨[.p 0 0],_,[],[0],[197]⟩,⟨[.o 1],_,[],[],[198]⟩,⟨[.p 2 0],_,[],[2],[199]⟩,⟨[.o 1],_,[],[],[200]⟩,⟨[.p 4 0],_,[],[4],[201]⟩,⟨[.p 3 0,.p 5 0],_,[],List.range' 2 4,[202]⟩,⟨[.p 1 0,.p 6 0],_,[],Lr 7,[203]⟩,⟨[.p 7 0],_,[],Lr 8,[9]⟩]) (F:=[.o 0,.o 2,.o 3,.o 4,.p 8 0]) (hst.pick [0,1,2,3,4] rfl) hb Za
                    (o_p rfl (Zr Zci (off:=7) (by kernel_rfl) rfl rfl u_0)<|QP rfl Zdb u_0<|Qf rfl Zkc u_0<|Ql rfl Zc6 u_0<|Qf rfl Zgc u_0<|Ql rfl ty_9 u_0<|o_p rfl (Zxc rfl rfl u_0 u_1)<|o_p rfl (Zl Z60 (Zoi _ _ _ h60) rfl rfl (.cons u_0 (.cons u_1 (.cons c_b .nil))))<|Qa rfl u_0<|o_n) (fun a g hst hb=>?_)
                   refine wp_seq ?_
                   refine r_s (T:=[⟨[.o 4],_,[],[],[204]⟩,⟨[.p 0 0],_,[],[0],[205]⟩,⟨[.o 0],_,[],[],[206]⟩,⟨[.p 2 0],_,[],[2],[207]⟩,⟨[.p 1 0,.p 3 0],_,[],Lr 4,[208]⟩]) (F:=[.o 0,.o 1,.o 2,.o 3,.o 4,.p 4 0]) hst hb Za
                    (Qm rfl u_0<|o_p rfl (Zbx Tryz.underlying36 rfl rfl u_0)<|o_p rfl (Zr Zhf (off:=5) (by kernel_rfl) rfl rfl u_0)<|QP rfl ty_3 u_0<|o_p rfl (Zct rfl rfl u_0 u_1)<|o_n) (fun a g hst hb=>?_)
                   refine Zb3 (fun a w=>∃ (j64:List Zh) (g:G),w=g.w ∧ St 217 [(2,(pBox Ze 2 a0)),(4,(pBox Ze 4 (default:Zb))),(5,(pBox Zj 5 (default:Zd))),(6,(pBox Zj 6 ({ Code:=(0:Int),Num:=(0:Int),Rec:=(default:Zb) }:Zd))),(9,(Z2.sl.pd j64))] a g ∧ Base g0 g ∧ Zdq a0 j64=some r) ?_ ?_
                   ·rintro a w ⟨j64,g,rfl,hst,hb,H0⟩
                    unfold Zdq at H0
                    refine Zp ?_
                    refine r_g (T:=[⟨[.o 4],_,[],[],[213]⟩,⟨[.o 0],_,[],[0],[214]⟩,⟨[.p 0 0,.p 1 0,.o 0],_,[3],[0,1],[2,214]⟩]) (F:=[.p 2 0,.o 1,.o 2,.o 3]) hst hb Za
                     (Qm rfl u_0<|o_p rfl (Zr Zci (off:=7) (by kernel_rfl) rfl rfl u_0)<|o_p rfl (Znv Zdb rfl rfl u_2 u_1 u_0)<|o_n) (fun a g hst hb=>?_)
                    refine Zbc ?_
                    exact ⟨({ a0 with List:=j64 }),({ Code:=(0:Int),Num:=(0:Int),Rec:=(default:Zb) }:Zd),g,rfl,(hst.pick [0,1,2,3] rfl),hb,H0⟩
                   ·refine wp_cond_split (hst.bool 5 rfl) (fun hc61=>?_) (fun hc61=>?_)
                    ·replace H0:=Zu hc61 H0
                     obtain ⟨c62,h63,H0⟩:=Zc H0
                     refine r_g (L:=[(2,_),(4,_),(5,_),(6,_),(9,_)]) (T:=[⟨[.o 4],_,[],[],[209]⟩,⟨[.o 0],_,[],[],[210]⟩,⟨[.p 1 0],_,[],[1],[211]⟩,⟨[.p 0 0,.p 2 0],_,[],[0,1,2],[212]⟩,⟨[.p 3 0],_,[],Lr 4,[9]⟩]) (F:=[.o 0,.o 1,.o 2,.o 3,.p 4 0]) (hst.pick [0,1,2,3,4] rfl) hb Za
                      (Qm rfl u_0<|o_p rfl (Zr Zhf (off:=5) (by kernel_rfl) rfl rfl u_0)<|QP rfl ty_3 u_0<|o_p rfl (Zvi Tryz.underlying36 Zfe rfl rfl u_0 u_1 h63)<|Qa rfl u_0<|o_n) (fun a g hst hb=>?_)
                     exact ⟨c62,g,rfl,(hst.pick [0,1,2,3,4] rfl),hb,H0⟩
                    ·replace H0:=Zt hc61 H0
                     refine wp_skip ?_
                     exact ⟨r59,g,rfl,(hst.pick [0,1,2,3,4] rfl),hb,H0⟩
                  ·replace H0:=Zt hc58 H0
                   refine wp_skip ?_
                   refine Zbc ?_
                   exact ⟨a0,({ Code:=(0:Int),Num:=(0:Int),Rec:=(default:Zb) }:Zd),g,rfl,(hst.pick [0,2,3,4] rfl),hb,H0⟩
      ·refine wp_cond_split (hst.bool 6 rfl) (fun hc10=>?_) (fun hc10=>?_)
       ·replace H0:=Zu hc10 H0
        refine wp_skip ?_
        exact ⟨(a1.Kind == (9:Int)),g,rfl,(hst.pick [0,1,2,3,4,5,6] rfl),hb,H0⟩
       ·replace H0:=Zt hc10 H0
        refine r_g (L:=[(2,_),(3,_),(4,_),(5,_),(6,_),(12,_)]) (T:=[⟨[.o 5],_,[],[],[50]⟩,⟨[.p 0 0],_,[],[0],[48]⟩]) (F:=[.o 0,.o 1,.o 2,.o 3,.o 4,.o 5,.p 1 0]) (hst.pick [0,1,2,3,4,5] rfl) hb Za
         (o_p rfl (Zbt rfl rfl u_0 c_i)<|Qa rfl u_0<|o_n) (fun a g hst hb=>?_)
        exact ⟨(a1.Kind == (12:Int)),g,rfl,(hst.pick [0,1,2,3,4,5,6] rfl),hb,H0⟩
theorem Zst (a0:Zb) (a1:Bool) (a2:Zn) {r:Zb × Bool × Zd} (h:Zjo a0 a1 a2=some r):FnOk Tryz.prog 66 [(Ze.pd a0),(Zbf a1),(Z0.pd a2)] (pTup [(Ze.pd r.1),(Zbf r.2.1),(Zj.pd r.2.2)]):=by
 have H0:=h
 unfold Zjo at H0
 clear h
 refine Zbs (N:=109) Tryz.func66 rfl rfl (Qe rfl) rfl rfl (fun a g0 hst hb=>?_)
 refine r_s (T:=[⟨[.o 0],_,[4],[],[3]⟩,⟨[.o 2],_,[],[],[5]⟩,⟨[],[(6,(pBox Ze 6 (default:Zb)))],[7],[],[6]⟩,⟨[],_,[],[],[7]⟩,⟨[],[(8,(pBox Zj 8 (default:Zd)))],[9],[],[8]⟩]) (F:=[.o 1,.p 0 0,.p 1 0,.p 2 0,.p 4 0]) hst hb Za
  (o_p rfl (Zkb rfl rfl u_0)<|Qb rfl u_0<|o_p rfl (Zbi (zs:=[.int .i64 0,.int .i64 0,.int .i64 0,.int .i64 0,.float .f64 0,.int .i64 0,.string ByteArray.empty,.slice none 0 0]) (by kernel_rfl) (fun g=>Zb2 g) rfl rfl)<|Qa rfl c_b<|o_p rfl (Zbi (zs:=[.int .i64 0,.int .i64 0,.int .i64 0,.int .i64 0,.int .i64 0,.int .i64 0,.float .f64 0,.int .i64 0,.string ByteArray.empty,.slice none 0 0]) (by kernel_rfl) (fun g=>Zed g) rfl rfl)<|o_n) (fun a g hst hb=>?_)
 refine wp_seq ?_
 refine r_s (T:=[⟨[.o 0],_,[],[],[13]⟩,⟨[.p 0 0],_,[],[0],[14]⟩]) (F:=[.o 0,.o 1,.o 2,.o 3,.o 4,.p 1 0]) hst hb Za
  (Qm rfl u_0<|Qn rfl u_0<|o_n) (fun a g hst hb=>?_)
 refine Zb3 (fun a w=>∃ (j2:Zb) (g:G),w=g.w ∧ St 109 [(1,(Zbf a1)),(3,(pBox Ze 3 j2)),(5,(Z0.ptr a2)),(6,(pBox Ze 6 (default:Zb))),(8,(pBox Zj 8 (default:Zd)))] a g ∧ Base g0 g ∧ Zgp a1 a2 j2=some r) ?_ ?_
 ·rintro a w ⟨j2,g,rfl,hst,hb,H0⟩
  unfold Zgp at H0
  refine Zp ?_
  obtain ⟨r3,h4,H0⟩:=Zc H0
  refine r_s (T:=[⟨[.o 1],_,[],[],[16]⟩,⟨[.p 0 0],_,[],[0],[17]⟩,⟨[.p 1 0,.o 1],_,[4],[0,1],[3]⟩]) (F:=[.o 0,.p 2 0,.o 2,.o 3,.o 4]) hst hb Za
   (QM rfl Zbe u_0<|o_p rfl (Zl Z0n (Zi7 _ h4) rfl rfl (.cons u_0 .nil))<|o_p rfl (Z3 Zbe rfl rfl u_1 u_0)<|o_n) (fun a g hst hb=>?_)
  obtain ⟨r5,h6,H0⟩:=Zc H0
  refine r_s (T:=[⟨[.o 2],_,[],[],[18]⟩,⟨[.p 0 0],_,[],[0],[19]⟩,⟨[.p 1 0],_,[],[0,1],[9]⟩]) (F:=[.o 0,.o 1,.o 2,.o 3,.o 4,.p 2 0]) hst hb Za
   (Ql rfl Zgw u_0<|o_p rfl (Zl Z9t (Zn8 _ h6) rfl rfl (.cons u_0 .nil))<|Qa rfl u_0<|o_n) (fun a g hst hb=>?_)
  refine wp_seq ?_
  refine r_s (T:=[⟨[.o 5],_,[],[],[20]⟩,⟨[.p 0 0],_,[],[0],[21]⟩,⟨[.p 1 0],_,[],[0,1],[22]⟩,⟨[.p 2 0,.o 0],_,[],[0,1,2],[23]⟩,⟨[.p 2 0,.p 3 0],_,[],Lr 4,[24]⟩]) (F:=[.o 0,.o 1,.o 2,.o 3,.o 4,.o 5,.p 4 0]) hst hb Za
   (Qm rfl u_0<|o_p rfl (Zbt rfl rfl u_0 c_i)<|Qm rfl u_0<|o_g (Qg_t rfl (fun hG=>Z6 rfl rfl u_0))<|o_p rfl (Zbk rfl rfl u_0 (fun hz=>(Opd.gd hz u_1)))<|o_n) (fun a g hst hb=>?_)
  refine Zb3 (fun a w=>∃ (j10:Int) (g:G),w=g.w ∧ St 109 [(1,(Zbf a1)),(3,(pBox Ze 3 r3)),(5,(Z0.ptr a2)),(6,(pBox Ze 6 (default:Zb))),(8,(pBox Zj 8 (default:Zd))),(9,(pInt .i64 j10))] a g ∧ Base g0 g ∧ Zeu a1 a2 r3 j10=some r) ?_ ?_
  ·rintro a w ⟨j10,g,rfl,hst,hb,H0⟩
   unfold Zeu at H0
   refine Zp ?_
   refine wp_seq ?_
   refine r_s (T:=[⟨[.o 5],_,[],[],[27]⟩,⟨[.p 0 0],_,[],[0],[28]⟩,⟨[.p 1 0],_,[],[0,1],[29]⟩,⟨[.p 2 0,.o 2],_,[],[0,1,2],[30]⟩,⟨[.p 2 0,.p 3 0],_,[],Lr 4,[31]⟩,⟨[.p 2 0,.p 4 0],_,[],Lr 5,[32]⟩,⟨[.p 2 0,.p 5 0],_,[],Lr 6,[33]⟩,⟨[.p 6 0],_,[],Lr 7,[34]⟩,⟨[.p 7 0,.o 0],_,[],Lr 8,[35]⟩,⟨[.p 7 0,.p 8 0],_,[],Lr 9,[36]⟩]) (F:=[.o 0,.o 1,.o 2,.o 3,.o 4,.o 5,.p 9 0]) hst hb Za
    (Qm rfl u_0<|o_p rfl (Zbt rfl rfl u_0 c_i)<|Qm rfl u_0<|o_g (Qg_t rfl (fun hG=>Zi Zc4 rfl rfl u_0))<|o_g (Qg_t rfl (fun hG=>Zv ty_3 rfl rfl (Opd.gd hG u_0)))<|o_g (Qg_t rfl (fun hG=>Zbt rfl rfl (Opd.gd hG u_0) c_i))<|o_p rfl (Zbk rfl rfl u_0 (fun hz=>(Opd.gd hz u_1)))<|Qm rfl u_0<|o_g (Qg_t rfl (fun hG=>Z6 rfl rfl u_0))<|o_p rfl (Zbk rfl rfl u_0 (fun hz=>(Opd.gd hz u_1)))<|o_n) (fun a g hst hb=>?_)
   refine Zb3 (fun a w=>∃ (j12:Int) (g:G),w=g.w ∧ St 109 [(1,(Zbf a1)),(3,(pBox Ze 3 r3)),(5,(Z0.ptr a2)),(6,(pBox Ze 6 (default:Zb))),(8,(pBox Zj 8 (default:Zd))),(9,(pInt .i64 j12))] a g ∧ Base g0 g ∧ Zgn a1 a2 r3 j12=some r) ?_ ?_
   ·rintro a w ⟨j12,g,rfl,hst,hb,H0⟩
    unfold Zgn at H0
    refine Zp ?_
    refine wp_seq ?_
    refine r_s (T:=⟨[.o 5],_,[],[],[37]⟩ :: ⟨[.p 0 0],_,[],[0],[38]⟩ :: ⟨[.p 1 0],_,[],[0,1],[39]⟩ :: ⟨[.p 2 0,.o 0],_,[],[0,1,2],[40]⟩ :: ⟨[.p 2 0,.p 3 0],_,[],Lr 4,[41]⟩ :: ⟨[.p 2 0,.p 4 0],_,[],Lr 5,[42]⟩ :: ⟨[.p 5 0],_,[],Lr 6,[43]⟩ :: ⟨[.p 6 0,.o 2],_,[],Lr 7,[44]⟩ :: ⟨[.p 6 0,.p 7 0],_,[],Lr 8,[45]⟩ :: ⟨[.p 6 0,.p 8 0],_,[],Lr 9,[46]⟩ :: ⟨[.p 6 0,.p 9 0],_,[],Lr 10,[47]⟩ :: ⟨[.p 10 0],_,[],Lr 11,[48]⟩ :: ⟨[.p 11 0,.o 2],_,[],Lr 12,[49]⟩ :: ⟨[.p 11 0,.p 12 0],_,[],Lr 13,[50]⟩ :: ⟨[.p 11 0,.p 13 0],_,[],Lr 14,[51]⟩ :: ⟨[.p 11 0,.p 14 0],_,[],Lr 15,[52]⟩ :: []) (F:=[.o 0,.o 1,.o 2,.o 3,.o 4,.o 5,.p 15 0]) hst hb Za
     (Qm rfl u_0<|o_p rfl (Zbt rfl rfl u_0 c_i)<|Qm rfl u_0<|o_g (Qg_t rfl (fun hG=>Z6 rfl rfl u_0))<|o_g (Qg_t rfl (fun hG=>Ze1 rfl rfl (Opd.gd hG u_0)))<|o_p rfl (Zbk rfl rfl u_0 (fun hz=>(Opd.gd hz u_1)))<|Qm rfl u_0<|o_g (Qg_t rfl (fun hG=>Zi Zc4 rfl rfl u_0))<|o_g (Qg_t rfl (fun hG=>Zv ty_3 rfl rfl (Opd.gd hG u_0)))<|o_g (Qg_t rfl (fun hG=>Zdn rfl rfl (Opd.gd hG u_0) c_i))<|o_p rfl (Zbk rfl rfl u_0 (fun hz=>(Opd.gd hz u_1)))<|Qm rfl u_0<|o_g (Qg_t rfl (fun hG=>Zi Zc4 rfl rfl u_0))<|o_g (Qg_t rfl (fun hG=>Zv ty_3 rfl rfl (Opd.gd hG u_0)))<|o_g (Qg_t rfl (fun hG=>Zdn rfl rfl (Opd.gd hG u_0) c_i))<|o_p rfl (Zbk rfl rfl u_0 (fun hz=>(Opd.gd hz u_1)))<|o_n) (fun a g hst hb=>?_)
    refine Zb3 (fun a w=>∃ (j14:Int) (g:G),w=g.w ∧ St 109 [(1,(Zbf a1)),(3,(pBox Ze 3 r3)),(5,(Z0.ptr a2)),(6,(pBox Ze 6 (default:Zb))),(8,(pBox Zj 8 (default:Zd))),(9,(pInt .i64 j14))] a g ∧ Base g0 g ∧ Zgt a1 a2 r3 j14=some r) ?_ ?_
    ·rintro a w ⟨j14,g,rfl,hst,hb,H0⟩
     unfold Zgt at H0
     refine Zp ?_
     obtain ⟨r15,h16,H0⟩:=Zc H0
     refine r_s (T:=[⟨[.o 2],_,[],[],[53]⟩,⟨[.p 0 0],_,[],[0],[54]⟩,⟨[.p 1 0],_,[],[0,1],[55]⟩,⟨[.p 2 0],_,[],[0,1,2],[10]⟩]) (F:=[.o 0,.o 1,.o 2,.o 3,.o 4,.o 5,.p 3 0]) hst hb Za
      (Qf rfl Zc4 u_0<|Ql rfl ty_3 u_0<|o_p rfl (Zl Z5m (Znb _ h16) rfl rfl (.cons u_0 .nil))<|Qa rfl u_0<|o_n) (fun a g hst hb=>?_)
     refine wp_seq ?_
     refine r_s (T:=⟨[.o 5],_,[],[],[56]⟩ :: ⟨[.p 0 0],_,[],[0],[57]⟩ :: ⟨[.p 1 0],_,[],[0,1],[58]⟩ :: ⟨[.p 2 0,.o 6],_,[],[0,1,2],[59]⟩ :: ⟨[.p 2 0,.p 3 0],_,[],Lr 4,[60]⟩ :: ⟨[.p 2 0,.p 4 0],_,[],Lr 5,[61]⟩ :: ⟨[.p 5 0],_,[],Lr 6,[62]⟩ :: ⟨[.p 6 0,.o 6],_,[],Lr 7,[63]⟩ :: ⟨[.p 6 0,.o 1],_,[],Lr 7,[64]⟩ :: ⟨[.p 6 0,.p 8 0],_,[],[0,1,2,3,4,5,6,8],[65]⟩ :: ⟨[.p 6 0,.p 7 0,.p 9 0],_,[],Lr 10,[66]⟩ :: ⟨[.p 6 0,.p 10 0],_,[],Lr 11,[67]⟩ :: []) (F:=[.o 0,.o 1,.o 2,.o 3,.o 4,.o 5,.p 11 0]) hst hb Za
      (Qm rfl u_0<|o_p rfl (Zbt rfl rfl u_0 c_i)<|Qm rfl u_0<|o_g (Qg_t rfl (fun hG=>Z6 rfl rfl u_0))<|o_g (Qg_t rfl (fun hG=>Zdn rfl rfl (Opd.gd hG u_0) c_i))<|o_p rfl (Zbk rfl rfl u_0 (fun hz=>(Opd.gd hz u_1)))<|Qm rfl u_0<|o_g (Qg_t rfl (fun hG=>Z6 rfl rfl u_0))<|o_g (Qg_t rfl (fun hG=>Zr Zgm (off:=0) (by kernel_rfl) rfl rfl u_0))<|o_g (Qg_t rfl (fun hG=>Zjc ty_3 rfl rfl (Opd.gd hG u_0)))<|o_g (Qg_t rfl (fun hG=>Zdn rfl rfl (Opd.gd hG u_0) (Opd.gd hG u_1)))<|o_p rfl (Zbk rfl rfl u_0 (fun hz=>(Opd.gd hz u_1)))<|o_n) (fun a g hst hb=>?_)
     refine Zb3 (fun a w=>∃ (j18:Int) (g:G),w=g.w ∧ St 109 [(1,(Zbf a1)),(3,(pBox Ze 3 r3)),(5,(Z0.ptr a2)),(6,(pBox Ze 6 (default:Zb))),(8,(pBox Zj 8 (default:Zd))),(9,(pInt .i64 j18))] a g ∧ Base g0 g ∧ Zgo a1 a2 r3 j18=some r) ?_ ?_
     ·rintro a w ⟨j18,g,rfl,hst,hb,H0⟩
      unfold Zgo at H0
      refine Zp ?_
      refine wp_seq ?_
      refine r_s (T:=[⟨[.o 5],_,[],[],[68]⟩,⟨[.p 0 0],_,[],[0],[69]⟩]) (F:=[.o 0,.o 1,.o 2,.o 3,.o 4,.o 5,.p 1 0]) hst hb Za
       (Qm rfl u_0<|o_p rfl (Zdn rfl rfl u_0 c_i)<|o_n) (fun a g hst hb=>?_)
      refine wp_cond_split (hst.bool 6 rfl) (fun hc19=>?_) (fun hc19=>?_)
      ·replace H0:=Zu hc19 H0
       refine r_s (L:=[(1,_),(3,_),(6,_),(8,_),(9,_)]) (T:=[⟨[.o 1],_,[],[],[70]⟩,⟨[.o 0],_,[],[],[71]⟩,⟨[.o 4],_,[],[],[72]⟩,⟨[.p 2 0],_,[],[2],[73]⟩,⟨[.p 0 0,.o 2],_,[7],[0],[6]⟩,⟨[.p 1 0],_,[],[0,1,4],[7]⟩,⟨[.p 3 0,.o 3],_,[9],Lr 6,[8]⟩]) (F:=[.p 4 0,.p 5 0,.p 6 0]) (hst.pick [0,1,3,4,5] rfl) hb Za
        (QM rfl Zbe u_0<|Qm rfl u_0<|Qm rfl u_0<|o_p rfl (Zrz rfl rfl u_0)<|o_p rfl (Z3 Zbe rfl rfl u_1 u_0)<|Qa rfl u_0<|o_p rfl (Z3 Zb8 rfl rfl u_1 u_0)<|o_n) (fun a g hst hb=>?_)
       refine wp_ret ?_
       refine Zo ?_
       obtain rfl:=Option.some.inj H0
       obtain ⟨u0,hu0,hq0⟩:=Zbh (P:=Tryz.prog) Zbe (hst.at 0 rfl)
       obtain ⟨u2,hu2,hq2⟩:=Zbh (P:=Tryz.prog) Zb8 (hst.at 2 rfl)
       exact Zjr rfl hst hb hu0 (Zg (s:=7)) hu2 (Zhl hq0 (hst.at 1 rfl) hq2)
      ·replace H0:=Zt hc19 H0
       refine wp_skip ?_
       refine Zp ?_
       refine wp_seq ?_
       refine r_s (L:=[(1,_),(3,_),(5,_),(6,_),(8,_)]) (T:=[⟨[.o 2],_,[],[],[74]⟩,⟨[.p 0 0],_,[],[0],[75]⟩]) (F:=[.o 0,.o 1,.o 2,.o 3,.o 4,.p 1 0]) (hst.pick [0,1,2,3,4] rfl) hb Za
        (Qf rfl Zc4 u_0<|Ql rfl ty_3 u_0<|o_n) (fun a g hst hb=>?_)
       refine wp_block ?_
       refine r_s (T:=[⟨[.o 5],_,[],[],[77]⟩,⟨[.p 0 0],_,[],[0],[76]⟩]) (F:=[.o 0,.o 1,.o 2,.o 3,.o 4,.o 5,.p 1 0]) hst hb Za
        (o_p rfl (Zbt rfl rfl u_0 c_i)<|Qa rfl u_0<|o_n) (fun a g hst hb=>?_)
       refine wp_cond_split (hst.bool 6 rfl) (fun hc20=>?_) (fun hc20=>?_)
       ·replace H0:=Zu hc20 H0
        obtain ⟨r21,h22,H0⟩:=Zc H0
        refine r_s (L:=[(5,_),(6,_),(8,_)]) (T:=[⟨[.o 0],_,[],[],[78]⟩,⟨[.p 0 0],_,[],[0],[79]⟩,⟨[.p 1 0],_,[],[0,1],[80]⟩,⟨[],_,[],[],[81]⟩,⟨[.p 2 0,.o 1],_,[7],[0,1,2],[6]⟩,⟨[],_,[],[0,1,2,4],[7]⟩,⟨[.p 3 0,.o 2],_,[9],Lr 6,[8]⟩]) (F:=[.p 4 0,.p 5 0,.p 6 0]) (hst.pick [2,3,4] rfl) hb Za
         (Qf rfl Zm2 u_0<|Ql rfl Zbe u_0<|o_p rfl (Zl Z0n (Zi7 _ h22) rfl rfl (.cons u_0 .nil))<|o_p rfl (Zrx rfl rfl )<|o_p rfl (Z3 Zbe rfl rfl u_1 u_0)<|Qa rfl c_b<|o_p rfl (Z3 Zb8 rfl rfl u_1 u_0)<|o_n) (fun a g hst hb=>?_)
        refine wp_ret ?_
        refine Z5 ?_
        refine Zo ?_
        obtain rfl:=Option.some.inj H0
        obtain ⟨u0,hu0,hq0⟩:=Zbh (P:=Tryz.prog) Zbe (hst.at 0 rfl)
        obtain ⟨u2,hu2,hq2⟩:=Zbh (P:=Tryz.prog) Zb8 (hst.at 2 rfl)
        exact Zjr rfl hst hb hu0 (Zg (s:=7)) hu2 (Zhl hq0 (hst.at 1 rfl) hq2)
       ·replace H0:=Zt hc20 H0
        refine r_s (L:=[(1,_),(3,_),(5,_),(6,_),(8,_),(75,_)]) (T:=[⟨[.o 5],_,[],[],[83]⟩,⟨[.p 0 0],_,[],[0],[82]⟩]) (F:=[.o 0,.o 1,.o 2,.o 3,.o 4,.o 5,.p 1 0]) (hst.pick [0,1,2,3,4,5] rfl) hb Za
         (o_p rfl (Zbt rfl rfl u_0 c_i)<|Qa rfl u_0<|o_n) (fun a g hst hb=>?_)
        refine wp_cond_split (hst.bool 6 rfl) (fun hc23=>?_) (fun hc23=>?_)
        ·replace H0:=Zu hc23 H0
         refine r_s (L:=[(6,_),(8,_)]) (T:=[⟨[],_,[],[],[84]⟩,⟨[],_,[],[],[85]⟩,⟨[.p 0 0,.o 0],_,[7],[0],[6]⟩,⟨[],_,[],[0,2],[7]⟩,⟨[.p 1 0,.o 1],_,[9],Lr 4,[8]⟩]) (F:=[.p 2 0,.p 3 0,.p 4 0]) (hst.pick [3,4] rfl) hb Za
          (o_p rfl (Zob rfl rfl )<|o_p rfl (Zrx rfl rfl )<|o_p rfl (Z3 Zbe rfl rfl u_1 u_0)<|Qa rfl c_b<|o_p rfl (Z3 Zb8 rfl rfl u_1 u_0)<|o_n) (fun a g hst hb=>?_)
         refine wp_ret ?_
         refine Z5 ?_
         refine Zo ?_
         obtain rfl:=Option.some.inj H0
         obtain ⟨u0,hu0,hq0⟩:=Zbh (P:=Tryz.prog) Zbe (hst.at 0 rfl)
         obtain ⟨u2,hu2,hq2⟩:=Zbh (P:=Tryz.prog) Zb8 (hst.at 2 rfl)
         exact Zjr rfl hst hb hu0 (Zg (s:=7)) hu2 (Zhl hq0 (hst.at 1 rfl) hq2)
        ·replace H0:=Zt hc23 H0
         refine r_s (L:=[(1,_),(3,_),(5,_),(6,_),(8,_),(75,_)]) (T:=[⟨[.o 5],_,[],[],[87]⟩,⟨[.p 0 0],_,[],[0],[86]⟩]) (F:=[.o 0,.o 1,.o 2,.o 3,.o 4,.o 5,.p 1 0]) (hst.pick [0,1,2,3,4,5] rfl) hb Za
          (o_p rfl (Zbt rfl rfl u_0 c_i)<|Qa rfl u_0<|o_n) (fun a g hst hb=>?_)
         refine wp_cond_split (hst.bool 6 rfl) (fun hc24=>?_) (fun hc24=>?_)
         ·replace H0:=Zu hc24 H0
          refine r_s (L:=[(1,_),(3,_),(6,_),(8,_)]) (T:=[⟨[.o 1],_,[],[],[88]⟩,⟨[.o 0],_,[],[],[89]⟩,⟨[.o 1],_,[],[],[90]⟩,⟨[.p 2 0],_,[],[2],[91]⟩,⟨[.p 3 0],_,[],[2,3],[92]⟩,⟨[.p 0 0,.o 2],_,[7],[0],[6]⟩,⟨[.p 1 0],_,[],[0,1,5],[7]⟩,⟨[.p 4 0,.o 3],_,[9],Lr 7,[8]⟩]) (F:=[.p 5 0,.p 6 0,.p 7 0]) (hst.pick [0,1,3,4] rfl) hb Za
           (QM rfl Zbe u_0<|Qm rfl u_0<|o_p rfl (Zr Zgm (off:=0) (by kernel_rfl) rfl rfl u_0)<|QP rfl ty_3 u_0<|o_p rfl (Z4u rfl rfl u_0)<|o_p rfl (Z3 Zbe rfl rfl u_1 u_0)<|Qa rfl u_0<|o_p rfl (Z3 Zb8 rfl rfl u_1 u_0)<|o_n) (fun a g hst hb=>?_)
          refine wp_ret ?_
          refine Z5 ?_
          refine Zo ?_
          obtain rfl:=Option.some.inj H0
          obtain ⟨u0,hu0,hq0⟩:=Zbh (P:=Tryz.prog) Zbe (hst.at 0 rfl)
          obtain ⟨u2,hu2,hq2⟩:=Zbh (P:=Tryz.prog) Zb8 (hst.at 2 rfl)
          exact Zjr rfl hst hb hu0 (Zg (s:=7)) hu2 (Zhl hq0 (hst.at 1 rfl) hq2)
         ·replace H0:=Zt hc24 H0
          refine r_s (L:=[(1,_),(3,_),(5,_),(6,_),(8,_),(75,_)]) (T:=[⟨[.o 5],_,[],[],[94]⟩,⟨[.p 0 0],_,[],[0],[93]⟩]) (F:=[.o 0,.o 1,.o 2,.o 3,.o 4,.p 1 0]) (hst.pick [0,1,2,3,4,5] rfl) hb Za
           (o_p rfl (Zbt rfl rfl u_0 c_i)<|Qa rfl u_0<|o_n) (fun a g hst hb=>?_)
          refine wp_cond_split (hst.bool 5 rfl) (fun hc25=>?_) (fun hc25=>?_)
          ·replace H0:=Zu hc25 H0
           obtain ⟨r26,h27,H0⟩:=Zc H0
           refine r_s (L:=[(1,_),(3,_),(6,_),(8,_)]) (T:=[⟨[.o 1],_,[],[],[95]⟩,⟨[.o 0],_,[],[],[96]⟩,⟨[.o 1],_,[],[],[97]⟩,⟨[.p 2 0],_,[],[2],[98]⟩,⟨[.p 3 0],_,[],[2,3],[99]⟩,⟨[.p 0 0,.o 2],_,[7],[0,2,3],[6]⟩,⟨[.p 1 0],_,[],[0,1,2,3,5],[7]⟩,⟨[.p 4 0,.o 3],_,[9],Lr 7,[8]⟩]) (F:=[.p 5 0,.p 6 0,.p 7 0]) (hst.pick [0,1,3,4] rfl) hb Za
            (QM rfl Zbe u_0<|Qm rfl u_0<|QM rfl Zbe u_0<|o_p rfl (Zl Z0n (Zi7 _ h27) rfl rfl (.cons u_0 .nil))<|o_p rfl (Z4c rfl rfl u_0)<|o_p rfl (Z3 Zbe rfl rfl u_1 u_0)<|Qa rfl u_0<|o_p rfl (Z3 Zb8 rfl rfl u_1 u_0)<|o_n) (fun a g hst hb=>?_)
           refine wp_ret ?_
           refine Z5 ?_
           refine Zo ?_
           obtain rfl:=Option.some.inj H0
           obtain ⟨u0,hu0,hq0⟩:=Zbh (P:=Tryz.prog) Zbe (hst.at 0 rfl)
           obtain ⟨u2,hu2,hq2⟩:=Zbh (P:=Tryz.prog) Zb8 (hst.at 2 rfl)
           exact Zjr rfl hst hb hu0 (Zg (s:=7)) hu2 (Zhl hq0 (hst.at 1 rfl) hq2)
          ·replace H0:=Zt hc25 H0
           refine wp_skip ?_
           refine Zbc ?_
           refine Zp ?_
           obtain ⟨r28,h29,H0⟩:=Zc H0
           refine r_s (L:=[(1,_),(3,_),(5,_),(6,_),(8,_)]) (T:=[⟨[.o 1],_,[],[],[101]⟩,⟨[.o 2],_,[],[],[102]⟩,⟨[.p 0 0,.p 1 0],_,[],[0,1],[103]⟩,⟨[.p 2 0],_,[],[0,1,2],[100]⟩,⟨[.p 3 0],_,[],Lr 4,[104]⟩,⟨[.p 3 0],_,[],Lr 4,[105]⟩,⟨[],[(11,(pBox Ze 11 (default:Zb)))],[12],[],[11]⟩,⟨[],[(12,(pBox Zj 12 (default:Zd)))],[13],[],[12]⟩,⟨[.p 4 0,.p 6 0],_,[12],[0,1,2,3,4,6,7],[11]⟩,⟨[.p 5 0,.p 7 0],_,[13],Lr 9,[12]⟩]) (F:=[.o 0,.o 3,.o 4,.p 8 0,.p 9 0]) (hst.pick [0,1,2,3,4] rfl) hb Za
            (QM rfl Zbe u_0<|Ql rfl Zgw u_0<|o_p rfl (Zl Zbfx (Zvt _ _ h29) rfl rfl (.cons u_0 (.cons u_1 .nil)))<|Qm rfl u_0<|o_p rfl (Zz rfl rfl u_0 rfl)<|o_p rfl (Zz rfl rfl u_0 rfl)<|o_p rfl (Zbi (zs:=[.int .i64 0,.int .i64 0,.int .i64 0,.int .i64 0,.float .f64 0,.int .i64 0,.string ByteArray.empty,.slice none 0 0]) (by kernel_rfl) (fun g=>Zb2 g) rfl rfl)<|o_p rfl (Zbi (zs:=[.int .i64 0,.int .i64 0,.int .i64 0,.int .i64 0,.int .i64 0,.int .i64 0,.float .f64 0,.int .i64 0,.string ByteArray.empty,.slice none 0 0]) (by kernel_rfl) (fun g=>Zed g) rfl rfl)<|o_p rfl (Zb5 Zbe rfl rfl u_1 u_0)<|o_p rfl (Zb5 Zb8 rfl rfl u_1 u_0)<|o_n) (fun a g hst hb=>?_)
           refine r_s (T:=[⟨[.o 3],_,[],[],[106]⟩,⟨[.o 0],_,[],[],[107]⟩,⟨[.o 4],_,[],[],[108]⟩,⟨[.p 0 0,.o 1],_,[7],[0],[6]⟩,⟨[.p 1 0],_,[],[0,1,3],[7]⟩,⟨[.p 2 0,.o 2],_,[9],Lr 5,[8]⟩]) (F:=[.p 3 0,.p 4 0,.p 5 0]) hst hb Za
            (Ql rfl Zbe u_0<|Qm rfl u_0<|Ql rfl Zb8 u_0<|o_p rfl (Z3 Zbe rfl rfl u_1 u_0)<|Qa rfl u_0<|o_p rfl (Z3 Zb8 rfl rfl u_1 u_0)<|o_n) (fun a g hst hb=>?_)
           refine wp_ret ?_
           obtain rfl:=Option.some.inj H0
           obtain ⟨u0,hu0,hq0⟩:=Zbh (P:=Tryz.prog) Zbe (hst.at 0 rfl)
           obtain ⟨u2,hu2,hq2⟩:=Zbh (P:=Tryz.prog) Zb8 (hst.at 2 rfl)
           exact Zjr rfl hst hb hu0 (Zg (s:=7)) hu2 (Zhl hq0 (hst.at 1 rfl) hq2)
     ·refine wp_cond_split (hst.bool 6 rfl) (fun hc17=>?_) (fun hc17=>?_)
      ·replace H0:=Zu hc17 H0
       refine r_g (L:=[(1,_),(3,_),(5,_),(6,_),(8,_)]) (T:=[⟨[],_,[],[],[9]⟩]) (F:=[.o 0,.o 1,.o 2,.o 3,.o 4,.p 0 0]) (hst.pick [0,1,2,3,4] rfl) hb Za
        (Qa rfl c_i<|o_n) (fun a g hst hb=>?_)
       exact ⟨(5:Int),g,rfl,(hst.pick [0,1,2,3,4,5] rfl),hb,H0⟩
      ·replace H0:=Zt hc17 H0
       refine wp_skip ?_
       exact ⟨j14,g,rfl,(hst.pick [0,1,2,3,4,5] rfl),hb,H0⟩
    ·refine wp_cond_split (hst.bool 6 rfl) (fun hc13=>?_) (fun hc13=>?_)
     ·replace H0:=Zu hc13 H0
      refine r_g (L:=[(1,_),(3,_),(5,_),(6,_),(8,_)]) (T:=[⟨[],_,[],[],[9]⟩]) (F:=[.o 0,.o 1,.o 2,.o 3,.o 4,.p 0 0]) (hst.pick [0,1,2,3,4] rfl) hb Za
       (Qa rfl c_i<|o_n) (fun a g hst hb=>?_)
      exact ⟨(6:Int),g,rfl,(hst.pick [0,1,2,3,4,5] rfl),hb,H0⟩
     ·replace H0:=Zt hc13 H0
      refine wp_skip ?_
      exact ⟨j12,g,rfl,(hst.pick [0,1,2,3,4,5] rfl),hb,H0⟩
   ·refine wp_cond_split (hst.bool 6 rfl) (fun hc11=>?_) (fun hc11=>?_)
    ·replace H0:=Zu hc11 H0
     refine r_g (L:=[(1,_),(3,_),(5,_),(6,_),(8,_)]) (T:=[⟨[],_,[],[],[9]⟩]) (F:=[.o 0,.o 1,.o 2,.o 3,.o 4,.p 0 0]) (hst.pick [0,1,2,3,4] rfl) hb Za
      (Qa rfl c_i<|o_n) (fun a g hst hb=>?_)
     exact ⟨(7:Int),g,rfl,(hst.pick [0,1,2,3,4,5] rfl),hb,H0⟩
    ·replace H0:=Zt hc11 H0
     refine wp_skip ?_
     exact ⟨j10,g,rfl,(hst.pick [0,1,2,3,4,5] rfl),hb,H0⟩
  ·refine wp_cond_split (hst.bool 6 rfl) (fun hc7=>?_) (fun hc7=>?_)
   ·replace H0:=Zu hc7 H0
    obtain ⟨r8,h9,H0⟩:=Zc H0
    refine r_g (L:=[(1,_),(3,_),(5,_),(6,_),(8,_)]) (T:=[⟨[.o 1],_,[],[],[25]⟩,⟨[.p 0 0],_,[],[0],[26]⟩,⟨[.p 1 0],_,[],[0,1],[9]⟩]) (F:=[.o 0,.o 1,.o 2,.o 3,.o 4,.p 2 0]) (hst.pick [0,1,2,3,4] rfl) hb Za
     (QM rfl Zbe u_0<|o_p rfl (Zl Z51 (Zls _ h9) rfl rfl (.cons u_0 .nil))<|Qa rfl u_0<|o_n) (fun a g hst hb=>?_)
    exact ⟨r8,g,rfl,(hst.pick [0,1,2,3,4,5] rfl),hb,H0⟩
   ·replace H0:=Zt hc7 H0
    refine wp_skip ?_
    exact ⟨r5,g,rfl,(hst.pick [0,1,2,3,4,5] rfl),hb,H0⟩
 ·refine wp_cond_split (hst.bool 5 rfl) (fun hc1=>?_) (fun hc1=>?_)
  ·replace H0:=Zu hc1 H0
   refine r_g (L:=[(1,_),(3,_),(5,_),(6,_),(8,_)]) (T:=[⟨[],_,[],[],[15]⟩,⟨[.p 0 0,.o 1],_,[4],[0],[3]⟩]) (F:=[.o 0,.p 1 0,.o 2,.o 3,.o 4]) (hst.pick [0,1,2,3,4] rfl) hb Za
    (o_p rfl (Zob rfl rfl )<|o_p rfl (Z3 Zbe rfl rfl u_1 u_0)<|o_n) (fun a g hst hb=>?_)
   exact ⟨({ Kind:=(0:Int),Num:=(0:Int),Low:=(0:Int),High:=(0:Int),Real:=(0:Nat),Cap:=(0:Int),Text:=ByteArray.empty,List:=([]:List Zh) }:Zb),g,rfl,(hst.pick [0,1,2,3,4] rfl),hb,H0⟩
  ·replace H0:=Zt hc1 H0
   refine wp_skip ?_
   exact ⟨a0,g,rfl,(hst.pick [0,1,2,3,4] rfl),hb,H0⟩
end Go.CL
